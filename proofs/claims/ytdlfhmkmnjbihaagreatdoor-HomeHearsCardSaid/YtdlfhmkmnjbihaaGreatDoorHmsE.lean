import Derived.Test.YtdlfhmkmnjbihaaGreatDoorHbA
import Derived.Test.YtdlfhmkmnjbihaaGreatDoorWsO
namespace Go.Proofs.YtdlfhmkmnjbihaaGreatDoor
namespace Ab
set_option linter.unusedVariables false
set_option linter.defProp false
set_option linter.unusedSimpArgs false
noncomputable def zbI4(m:aK)(c:Int)(w:aK):Option (aK⊕(aK⊕Bool)):=
 if(zah9 c nums).isSome=true then
  (zu0 (((zah9 c nums).getD bH.zero).of)).bind λ v3=>
  if(((decide ((zi9 m v3)<((zah9 c nums).getD bH.zero).low))||(decide (((zah9 c nums).getD bH.zero).high<(zi9 m v3))))||((decide (c=66))&&(decide ((zi9 m v3)=0))))=true then some (.inr (.inr false))
  else(zu0 (((zah9 c nums).getD bH.zero).of)).bind λ v4=>some (.inl (zC5 w v4 0))
 else
  (zw4 m c).bind λ v5=>
  if(!v5)=true then some (.inr (.inr false))
  else(zb9 c w).bind λ v6=>some (.inl v6)
theorem zcu7(k:Int):(Arr.get zz1 k.toNat ⟨#[]⟩).size<=5:=by
 have h:∀i:Nat,i<16->(Arr.get zz1 i ⟨#[]⟩).size<=5:=by decide
 by_cases hk:k.toNat<16
 .exact h _ hk
 .unfold Arr.get zI4;rw[bN hk];decide
theorem zcN2(m:aK)(h0:0<=m.kind)(h1:m.kind<16)(w:aK):
  zc1 (zK0 m nums) (0,w)=walk (λ _ b w=>zbI4 m ((b.toNat:Nat):Int) w) (λ w=>.inl w) (Arr.get zz1 m.kind.toNat ⟨#[]⟩).toList 0 w:=by
 have hs:((Arr.get zz1 m.kind.toNat ⟨#[]⟩).toList.length:Int)=((Arr.get zz1 m.kind.toNat ⟨#[]⟩).size:Int):=by rw[zap3]
 have h5:=zcu7 m.kind;have key:=zV7 (body:=zK0 m nums) (Arr.get zz1 m.kind.toNat ⟨#[]⟩).toList 0 (λ i (w:aK)=>((i:Int),w)) (λ _ b w=>zbI4 m ((b.toNat:Nat):Int) w) (λ w=>.inl w)
  (λ i w hi=>by
   unfold zK0;have h3:0<=(i:Int)/\(i:Int)<((Arr.get zz1 m.kind.toNat ⟨#[]⟩).size:Int):=by omega
   simp only[h3.1,h3.2,h0,h1,cN,zl3,bU,bT,Int.toNat_natCast];rw[zc2 i (by omega)];obtain⟨c,hc⟩:∃c,((((Arr.get zz1 m.kind.toNat ⟨#[]⟩).toList.getD i 0).toNat:Nat):Int)=c:=⟨_,rfl⟩;simp only[hc];unfold zbI4;split
   .cases zu0 ((zah9 c nums).getD bH.zero).of with
    |none=>rfl
    |some k=>simp only[Option.bind_some];split<;>rfl
   .cases zw4 m c with
    |none=>rfl
    |some v=>
     simp only[Option.bind_some];split
     .rfl
     .cases zb9 c w<;>rfl)
  (λ w=>by unfold zK0;rw[hs,bN (by simp)]) w
 rw[show((0,w):Int×aK)=(λ(i:Nat) (w:aK)=>((i:Int),w)) 0 w from rfl,key]
theorem zck9(a:aC):zab3 a=zF1 a:=by
 unfold zab3 zF1 zu4 zv2 zy3
 by_cases h:a.mode=0<;>simp[h]
def optL(l:List aO)(i:Nat):Bool:=zy8 (l.getD i aO.zero).name&&((decide (i=0)||decide (ltN (l.getD (i-1) aO.zero).name (l.getD i aO.zero).name))&&(decide ((l.getD i aO.zero).aJ=aC.zero)||zF1 (l.getD i aO.zero).aJ))
def optV(a:bB):Bool:=(za3 a.aI&&(decide (a.label=-1)||(decide (1<=a.label)&&decide (a.label<=99))))&&((decide (1<=a.cost)&&(decide (a.cost<=1073741824)&&decide (a.lower.length<=8)))&&(List.range a.lower.length).all (optL a.lower))
theorem zaW1(a:bB):zj6 a=some (optV a):=by
 unfold zj6 optV;cases c1:za3 a.aI with
 |false=>rw[bO (by simp)];rfl
 |true=>
  by_cases c2:a.label=-1\/1<=a.label/\a.label<=99
  .rw[bN (by simp;omega)];have d2:(decide (a.label=-1)||(decide (1<=a.label)&&decide (a.label<=99)))=true:=by simpa using c2
   rw[d2]
   by_cases c3:1<=a.cost/\a.cost<=1073741824/\a.lower.length<=8
   .rw[bN (by simp;omega),zJ8 a.lower.length (optL a.lower) (λ i hi=>by
     unfold zac4 optL;have h3:0<=(i:Int)/\(i:Int)<(a.lower.length:Int):=by omega
     simp only[h3.1,h3.2,cN,zl3,bU,bT,Int.toNat_natCast];rw[zk8 (x:=(i:Int)+1) (by omega) (by omega),zai6,Option.bind_some];obtain⟨x,hx⟩:∃x,a.lower.getD i aO.zero=x:=⟨_,rfl⟩;simp only[hx,zck9]
     by_cases e0:i=0
     .subst e0;rw[zb0 (by simp)];rcases hb (zy8 x.name)with b1|b1<;>rcases hb (zF1 x.aJ)with b2|b2<;>by_cases b3:x.aJ=aC.zero<;>simp[b1,b2,b3]
     .rw[zX8 i (by omega) (by omega),zb0 (by intro _;omega)];simp only[show(0:Int)<(i:Int)by omega,bU,cA,Int.toNat_natCast,e0,cV,dK];unfold ltN;rcases hb (zy8 x.name)with b1|b1<;>rcases hb (Op.bytesLess (a.lower.getD (i-1) aO.zero).name.toList x.name.toList)with b4|b4<;>rcases hb (zF1 x.aJ)with b2|b2<;>by_cases b3:x.aJ=aC.zero<;>simp[b1,b2,b3,b4,-List.getD_eq_getElem?_getD]) (by unfold zac4;simp),Option.bind_some]
    rw[cB c3.1,cB c3.2.1,cB c3.2.2];cases(List.range a.lower.length).all (optL a.lower)<;>rfl
   .rw[bO (by simp;omega)];have:(decide (1<=a.cost)&&(decide (a.cost<=1073741824)&&decide (a.lower.length<=8)))=false:=by
     rw[cY];intro h;simp at h;omega
    rw[this];rfl
  .rw[bO (by simp;omega)];have d2:(decide (a.label=-1)||(decide (1<=a.label)&&decide (a.label<=99)))=false:=by
    rw[cY];intro h;simp at h;omega
   rw[d2];rfl
theorem zcN3{x y:List UInt8}(h:Op.bytesLess x y=true):Op.bytesLess y x=false:=by rw[cY];intro k;have:=zch1 h k;rw[zbc5]at this;cases this
theorem zdZ6(x y:ByteArray):(Op.bytesLess y.toList x.toList||y.toList==x.toList)=!Op.bytesLess x.toList y.toList:=by
 by_cases e:x=y
 .subst e;simp[zbc5]
 .have e':¬y.toList=x.toList:=λ k=>e (zQ2.1 k).symm;rcases zci7 (x:=x.toList) (y:=y.toList) (λ k=>e' k.symm)with k|k
  .rw[k,zcN3 k];simp[e']
  .rw[k,zcN3 k];rfl
theorem zbq6(a:aC):zh5 a=decide (a=aC.zero):=by
 unfold zh5;obtain⟨m,u⟩:=a;unfold aC.zero
 by_cases h:m=0<;>by_cases k:u=0<;>simp[h,k]
theorem zbq7(a:bB):zr7 a=some (optV a):=by
 unfold zr7 optV;rw[zao3]
 by_cases c:(za3 a.aI=true/\(a.label=-1\/1<=a.label/\a.label<=99))/\(1<=a.cost/\a.cost<=1073741824/\a.lower.length<=8)
 .obtain⟨⟨c1,c2⟩,c3⟩:=c;have d2:(decide (a.label=-1)||(decide (1<=a.label)&&decide (a.label<=99)))=true:=by simpa using c2
  rw[bN (by simp[c1];omega),zJ8 a.lower.length (optL a.lower) (λ i hi=>by
   unfold zar2 optL;have h3:0<=(i:Int)/\(i:Int)<(a.lower.length:Int):=by omega
   simp only[h3.1,h3.2,cN,zl3,bU,bT,Int.toNat_natCast];rw[zk8 (x:=(i:Int)+1) (by omega) (by omega),zau6,Option.bind_some];obtain⟨x,hx⟩:∃x,a.lower.getD i aO.zero=x:=⟨_,rfl⟩;simp only[hx,zbq6,zdZ6];rw[show zu4 x.aJ=zF1 x.aJ from rfl]
   by_cases e0:i=0
   .subst e0;rw[zb0 (by simp)];rcases hb (zy8 x.name)with b1|b1<;>rcases hb (zF1 x.aJ)with b2|b2<;>by_cases b3:x.aJ=aC.zero<;>simp[b1,b2,b3]
   .rw[zX8 i (by omega) (by omega),zb0 (by intro _;omega)];simp only[show(0:Int)<(i:Int)by omega,bU,cA,Int.toNat_natCast,e0,cV,dK];unfold ltN;rcases hb (zy8 x.name)with b1|b1<;>rcases hb (Op.bytesLess (a.lower.getD (i-1) aO.zero).name.toList x.name.toList)with b4|b4<;>rcases hb (zF1 x.aJ)with b2|b2<;>by_cases b3:x.aJ=aC.zero<;>simp[b1,b2,b3,b4,-List.getD_eq_getElem?_getD]) (by unfold zar2;simp),Option.bind_some]
  rw[c1,d2,cB c3.1,cB c3.2.1,cB c3.2.2];cases(List.range a.lower.length).all (optL a.lower)<;>rfl
 .rw[bO (by
   rcases hb (za3 a.aI)with b|b
   .simp[b]at c⊢;omega
   .simp[b])]
  symm
  congr 1;rw[cY];intro h;simp only[bM,dE,bQ]at h;exact c ⟨⟨h.1.1,h.1.2⟩,h.2.1⟩
def inN(lo hi x:Int):Bool:=decide (lo<=x)&&decide (x<=hi)
def zK5(m:aK)(c:Nat):Bool:=match c with
 |80=>za3 m.aI
 |71=>inN 0 1073741824 m.gen
 |82=>inN 0 1073741824 m.round
 |69=>inN 0 1073741824 m.epoch
 |89=>inN 0 7 m.aX
 |83=>inN 0 3 m.site
 |73=>inN 1 99 m.inc
 |66=>inN (-1) 99 m.label&&!decide (m.label=0)
 |65=>zy8 m.aW.name&&zF1 m.aW.aJ
 |97=>zy8 m.aW.name&&(decide (m.aW.aJ=aC.zero)||zF1 m.aW.aJ)
 |78=>decide (m.state.aG.length=0)&&zac0 m.state
 |76=>decide (m.state.bA.length=0)&&zac0 m.state
 |79=>decide (m.options.length<=40)&&m.options.all optV
 |_=>true
def clrF(c:Nat)(w:aK):aK:=match c with
 |80=>{w with aI:=aF.zero}
 |71=>{w with gen:=0}
 |82=>{w with round:=0}
 |69=>{w with epoch:=0}
 |89=>{w with aX:=0}
 |83=>{w with site:=0}
 |73=>{w with inc:=0}
 |66=>{w with label:=0}
 |65=>{w with aW:=aO.zero}
 |97=>{w with aW:=aO.zero}
 |68=>{w with done:=false}
 |78=>{w with state:=aS.zero}
 |76=>{w with state:=aS.zero}
 |79=>{w with options:=[]}
 |_=>w
def zaS7:List Nat:=[80,71,82,69,89,83,73,66,65,97,68,78,76,79]
theorem zaS8(m w:aK)(c:Int)(n:bH)(k:Nat)(h1:zah9 c nums=some n)(h2:zu0 n.of=some k):
  zbI4 m c w=some (if(!(decide (zi9 m k<n.low)||decide (n.high<zi9 m k)||(decide (c=66)&&decide (zi9 m k=0))))=true then .inl (zC5 w k 0)else .inr (.inr false)):=by
 unfold zbI4;rw[h1];simp only[Option.isSome_some,bT,Option.getD_some,h2,Option.bind_some];cases(decide (zi9 m k<n.low)||decide (n.high<zi9 m k)||(decide (c=66)&&decide (zi9 m k=0)))<;>rfl
theorem zaS9(m w:aK)(c:Int)(b:Bool)(w':aK)(h1:zah9 c nums=none)(h2:zw4 m c=some b)(h3:zb9 c w=some w'):
  zbI4 m c w=some (if b=true then .inl w' else .inr (.inr false)):=by
 unfold zbI4;rw[h1];simp only[Option.isSome_none,bP,bV,h2,h3,Option.bind_some];cases b<;>rfl
theorem zbg1(lo hi x:Int)(d:Bool):(!(decide (x<lo)||decide (hi<x)||d))=(inN lo hi x&&!d):=by unfold inN;rw[cJ];cases d<;>simp
theorem zcl0{α:Type}(l:List α)(z:α)(p:α->Bool):((List.range l.length).all λ i=>p (l.getD i z))=l.all p:=by
 rw[cJ,cS,cS];constructor
 .intro h x hx;obtain⟨i,hi,rfl⟩:=dU hx;have:=h i (dH.2 hi);rwa [zB3 _ _ _ hi]at this
 .intro h i hi;exact h _ (zm9 (dH.1 hi))
theorem zdm8(m:aK):zw4 m 79=some (decide (m.options.length<=40)&&m.options.all optV):=by
 unfold zw4;rw[bN (by decide),bN (by decide),bN (by decide),bN (by decide),bN (by decide),bO (by decide)]
 by_cases h:m.options.length<=40
 .rw[bN (by simp;omega),zJ8 m.options.length (λ i=>optV (m.options.getD i bB.zero)) (λ i hi=>by
   unfold zal9;have h3:0<=(i:Int)/\(i:Int)<(m.options.length:Int):=by omega
   simp only[h3.1,h3.2,cN,zl3,bU,bT,Int.toNat_natCast];rw[zaW1,Option.bind_some,zk8 (by omega) (by omega)];cases optV (m.options.getD i bB.zero)<;>rfl) (by unfold zal9;simp),Option.bind_some,zcl0 m.options bB.zero optV,cB h]
  cases m.options.all optV<;>rfl
 .rw[bO (by simp;omega),fF h];rfl
theorem zdP5(m w:aK)(c:Nat)(hc:c∈zaS7):zbI4 m (c:Int) w=some (if zK5 m c=true then .inl (clrF c w)else .inr (.inr false)):=by
 unfold zaS7 at hc;simp only[bX,dX,gF]at hc;rcases hc with rfl|rfl|rfl|rfl|rfl|rfl|rfl|rfl|rfl|rfl|rfl|rfl|rfl|rfl
 .exact zaS9 m w 80 _ _ rfl rfl rfl
 .rw[zaS8 m w _ ⟨187,0,1073741824,0⟩ 0 rfl rfl,zbg1];simp[zK5,clrF,zi9,zC5]
 .rw[zaS8 m w _ ⟨188,0,1073741824,0⟩ 1 rfl rfl,zbg1];simp[zK5,clrF,zi9,zC5]
 .rw[zaS8 m w _ ⟨189,0,1073741824,0⟩ 2 rfl rfl,zbg1];simp[zK5,clrF,zi9,zC5]
 .rw[zaS8 m w _ ⟨190,0,7,0⟩ 3 rfl rfl,zbg1];simp[zK5,clrF,zi9,zC5]
 .rw[zaS8 m w _ ⟨191,0,3,0⟩ 4 rfl rfl,zbg1];simp[zK5,clrF,zi9,zC5]
 .rw[zaS8 m w _ ⟨192,1,99,0⟩ 5 rfl rfl,zbg1];simp[zK5,clrF,zi9,zC5]
 .rw[zaS8 m w _ ⟨193,-1,99,1⟩ 6 rfl rfl,zbg1];simp[zK5,clrF,zi9,zC5]
 .refine zaS9 m w 65 _ _ rfl ?_ rfl;unfold zw4;rw[bN (by decide),bO (by decide),zai6,Option.bind_some,zck9];rfl
 .refine zaS9 m w 97 _ _ rfl ?_ rfl;unfold zw4;rw[bN (by decide),bN (by decide),bO (by decide),zai6,Option.bind_some,zck9];rfl
 .exact zaS9 m w 68 _ _ rfl rfl rfl
 .refine zaS9 m w 78 _ _ rfl ?_ rfl;unfold zw4;rw[bN (by decide),bN (by decide),bN (by decide),bO (by decide)]
  by_cases h:m.state.aG.length=0
  .rw[bO (by simp[h]),zay0,Option.bind_some];simp[zK5,h]
  .rw[bN (by simp[h]),Option.bind_some];simp[zK5,h]
 .refine zaS9 m w 76 _ _ rfl ?_ rfl;unfold zw4;rw[bN (by decide),bN (by decide),bN (by decide),bN (by decide),bO (by decide)]
  by_cases h:m.state.bA.length=0
  .rw[bO (by simp[h]),zay0,Option.bind_some];simp[zK5,h]
  .rw[bN (by simp[h]),Option.bind_some];simp[zK5,h]
 .exact zaS9 m w 79 _ _ rfl (zdm8 m) rfl
theorem zcu8(m:aK):∀(l:List UInt8) (i:Nat) (w:aK),(∀b∈l,b.toNat∈zaS7)->walk (λ _ b w=>zbI4 m ((b.toNat:Nat):Int) w) (λ w=>Sum.inl (β:=Bool) w) l i w=some (if(l.all λ b=>zK5 m b.toNat)=true then .inl (l.foldl (λ w b=>clrF b.toNat w) w)else .inr false)
 |[],i,w,_=>rfl
 |b::l,i,w,h=>by
  simp only[walk];rw[zdP5 m w _ (h b (.head _))];cases hf:zK5 m b.toNat with
  |false=>simp[hf]
  |true=>simp only[bT];rw[zcu8 m l (i+1) _ λ x hx=>h x (.tail _ hx)];simp[hf]
def zx2(k:Int):List UInt8:=(Arr.get zz1 k.toNat ⟨#[]⟩).toList
theorem zbx8{k:Int}(h:k<16):∀b∈zx2 k,b.toNat∈zaS7:=by
 have g:∀i:Nat,i<16->∀b∈(Arr.get zz1 i ⟨#[]⟩).data.toList,b.toNat∈zaS7:=by decide
 unfold zx2;rw[ByteArray.toList_eq];exact g k.toNat (by omega)
def zW2(m:aK):Bool:=(decide (1<=m.kind)&&decide (m.kind<=15))&&(((zx2 m.kind).all λ b=>zK5 m b.toNat)&&zbf8 ((zx2 m.kind).foldl (λ w b=>clrF b.toNat w) {m with kind:=0}))
theorem zcp1(m:aK):zM2 m=some (zW2 m):=by
 unfold zM2 zW2 zav4
 by_cases h:1<=m.kind/\m.kind<=15
 .rw[bN (by simp;omega),zcA8,Option.bind_some,zb0 (by omega),zcN2 m (by omega) (by omega),zcu8 m (Arr.get zz1 m.kind.toNat ⟨#[]⟩).toList 0 _ (zbx8 (k:=m.kind) (by omega)),Option.bind_some];rw[cB h.1,cB h.2];cases hf:(zx2 m.kind).all λ b=>zK5 m b.toNat with
  |false=>rw[show((Arr.get zz1 m.kind.toNat ⟨#[]⟩).toList.all λ b=>zK5 m b.toNat)=false from hf];rfl
  |true=>rw[show((Arr.get zz1 m.kind.toNat ⟨#[]⟩).toList.all λ b=>zK5 m b.toNat)=true from hf];simp only[bT,zac8,zdC8,Option.bind_some,cA];rfl
 .rw[bO (by simp;omega)];have:(decide (1<=m.kind)&&decide (m.kind<=15))=false:=by rw[cY];intro k;simp at k;omega
  rw[this];rfl
theorem zu2{l:List Int}{x:Int}(h:okI x)(hr:room l (encI x)):zb2 l (IntKind.u64.wrap x)=some (l++encI x)/\zb3 l (IntKind.u64.wrap x)=some (l++encI x):=by unfold room at hr;obtain⟨h0,h1⟩:=h;rw[zbt8 x h0 (by omega)];have:x=((x.toNat:Nat):Int):=(gY h0).symm;unfold encI;rw[this,Int.toNat_natCast];exact⟨zbS7 (by omega) (by omega),zbS6 (by omega) (by omega)⟩
theorem zbg2{l:List Int}{s:ByteArray}(h:s.size<=1024)(hr:room l (encT s)):zf1 l s=some (l++encT s)/\zg0 l s=some (l++encT s):=zbI2 h hr
theorem zbg3{l:List Int}{p:aF}(h:za3 p=true)(hr:room l (encP p)):zi2 l p=some (l++encP p)/\zf2 l p=some (l++encP p):=by
 obtain⟨k1,k2,k3⟩:=zbf9 h;unfold encP at hr⊢;have r1:=hr.left.left;have r2:=hr.left.right;have r3:=hr.right;rw[<-bZ]at r3;constructor
 .unfold zi2;have t1:∀acc:List Int,room acc (encI p.site)->zw2 p (0,acc)=some (.inl (1,acc++encI p.site)):=λ acc ha=>by
   unfold zw2;rw[bO (by simp),gdp (by simp)];show((zb2 acc (IntKind.u64.wrap p.site)).bind λ v1=>some (Sum.inl (IntKind.i64.wrap (0+1),v1)))=_;rw[(zu2 k1 ha).1];rfl
  have t2:∀acc:List Int,room acc (encI p.inc)->zw2 p (1,acc)=some (.inl (2,acc++encI p.inc)):=λ acc ha=>by unfold zw2;rw[bO (by simp),gdp (by simp)];show((zb2 acc (IntKind.u64.wrap p.inc)).bind λ v1=>some (Sum.inl (IntKind.i64.wrap (1+1),v1)))=_;rw[(zu2 k2 ha).1];rfl
  have t3:∀acc:List Int,room acc (encI p.num)->zw2 p (2,acc)=some (.inl (3,acc++encI p.num)):=λ acc ha=>by unfold zw2;rw[bO (by simp),gdp (by simp)];show((zb2 acc (IntKind.u64.wrap p.num)).bind λ v1=>some (Sum.inl (IntKind.i64.wrap (2+1),v1)))=_;rw[(zu2 k3 ha).1];rfl
  have t4:∀acc:List Int,zw2 p (3,acc)=some (.inr acc):=λ acc=>by unfold zw2;rw[bN (by simp)]
  have hlen:l.length<=4294967296:=by unfold room at hr;omega
  rw[gdp hlen,bN (by simp[h]),zh3,t1 l r1];simp only;rw[zh3,t2 _ r2];simp only;rw[zh3,t3 _ r3];simp only;rw[zh3,t4];simp only[bZ];rfl
 .unfold zf2;rw[zao3,bN (by simp[h]),(zaI4 k1 r1).2,Option.bind_some,(zaI4 k2 r2).2,Option.bind_some,(zu2 k3 r3).2];simp only[bZ];rfl
theorem zat2{α:Type}{body:Int×List Int->Option ((Int×List Int)⊕List Int)}{enc:α->List Int}{ok:α->Prop}(l:List α)(z:α)(hlen:l.length<=1000)
  (hs:∀(i:Nat) acc,i<l.length->ok (l.getD i z)->room acc (enc (l.getD i z))->body ((i:Int),acc)=some (.inl (((i+1:Nat):Int),acc++enc (l.getD i z))))
  (he:∀acc,body ((l.length:Int),acc)=some (.inr acc)) (hok:∀x∈l,ok x) (acc:List Int) (hr:room acc (l.flatMap enc)):zc1 body (0,acc)=some (acc++l.flatMap enc):=by
 have key:∀k i (acc:List Int),i+k=l.length->room acc ((l.drop i).flatMap enc)->zc1 body ((i:Int),acc)=some (acc++(l.drop i).flatMap enc):=by
  intro k;induction k with
  |zero=>
   intro i acc hi _;have:i=l.length:=by omega
   subst this;rw[zh3,hJ,he];simp
  |succ k ih=>
   intro i acc hi hrm;have hlt:i<l.length:=by omega
   rw[zae5 l i z hlt]at hrm⊢;rw[dV]at hrm⊢;rw[zh3,hs i acc hlt (hok _ (zm9 (z:=z) hlt)) hrm.left];simp only;rw[ih (i+1) _ (by omega) hrm.right,bZ]
 exact key l.length 0 acc (by omega) hr
def encL(x:aO):List Int:=encT x.name++(encI x.aJ.mode++encI x.aJ.aV)
def encO(a:bB):List Int:=encP a.aI++(encI (a.label+1)++(encI a.cost++(encI (a.lower.length:Int)++a.lower.flatMap encL)))
def okL'(x:aO):Prop:=x.name.size<=12/\okA x.aJ
structure OkO (a:bB):Prop where
 p:za3 a.aI=true
 l:-1<=a.label/\a.label<=99
 c:okI a.cost
 n:a.lower.length<=8
 e:∀x∈a.lower,okL' x
theorem zcB5{a:bB}(h:optV a=true):OkO a:=by
 unfold optV at h;simp only[bM,dE,bQ]at h;obtain⟨⟨h1,h2⟩,⟨h3,h4,h5⟩,h6⟩:=h;refine⟨h1,by omega,⟨by omega,h4⟩,h5,λ x hx=>?_⟩;obtain⟨i,hi,rfl⟩:=dU hx;have:=cS.1 h6 i (dH.2 hi);unfold optL at this;rw[zB3 _ _ _ hi]at this;simp only[bM,dE,bQ]at this;refine⟨zaj8 this.1,?_⟩;rcases this.2.2 with k|k
 .rw[k];unfold okA okI aC.zero;simp
 .exact zat1 k
theorem zdP6{x:aO}(h:okL' x):(encL x).length<=2000:=by have h1:=zbI0 (s:=x.name) (by have:=h.1;omega);have h2:=zu3 h.2.1;have h3:=zu3 h.2.2;unfold encL;simp only[bR];omega
theorem zde6{a:bB}(h:OkO a):(encO a).length<=20000:=by have h1:=zaV9 h.p;have h2:=zu3 (x:=a.label+1) (by have:=h.l;unfold okI;omega);have h3:=zu3 h.c;have h4:=zu3 (x:=(a.lower.length:Int)) (by have:=h.n;unfold okI;omega);have h5:(a.lower.flatMap encL).length<=2000*a.lower.length:=zaw6 λ x hx=>zdP6 (h.e x hx);have h6:=h.n;unfold encO;simp only[bR];omega
theorem zbI5{a:bB}(h:optV a=true){l:List Int}(hr:room l (encO a)):zn4 l a=some (l++encO a)/\zw9 l a=some (l++encO a):=by
 have ho:=zcB5 h;have hl:=ho.l;have hn:=ho.n;have h0:room l (encO a):=hr;have hlen:l.length<=4294967296:=by unfold room at hr;omega
 have k2:okI (a.label+1):=by unfold okI;omega
 have k4:okI (a.lower.length:Int):=by unfold okI;omega
 unfold encO at hr⊢;have w:IntKind.i64.wrap (a.label+1)=a.label+1:=zk8 (by omega) (by omega);have r1:=hr.left
 replace hr:=hr.right
 have r2:=hr.left
 replace hr:=hr.right
 have r3:=hr.left
 replace hr:=hr.right
 have r4:=hr.left
 replace hr:=hr.right
 constructor
 .unfold zn4 zb1;rw[gdp hlen,Option.bind_some,zaW1,Option.bind_some,h,bN (by decide),(zbg3 ho.p r1).1,Option.bind_some,w,(zu2 k2 r2).1,Option.bind_some,(zu2 ho.c r3).1,Option.bind_some,(zu2 k4 r4).1,Option.bind_some];rw[zat2 (body:=zR8 a) (enc:=encL) (ok:=okL') a.lower aO.zero (by omega) (λ i acc hi hx ha=>by
   unfold encL at ha⊢;unfold zR8;simp only;rw[bO (by simpa using hi),gdp (by omega)];simp only[Int.toNat_natCast];rw[(zbg2 (by have:=hx.1;omega) ha.left).1,Option.bind_some,(zu2 hx.2.1 ha.right.left).1,Option.bind_some,(zu2 hx.2.2 ha.right.right).1,Option.bind_some,zc2 i (by omega)];simp only[bZ]) (λ acc=>by unfold zR8;simp) ho.e _ hr,Option.bind_some]
  unfold zat8;simp only[bZ]
 .unfold zw9;rw[gdp hlen,zbq7,Option.bind_some,h,bN (by decide),(zbg3 ho.p r1).2,Option.bind_some,w,(zu2 k2 r2).2,Option.bind_some,(zu2 ho.c r3).2,Option.bind_some,(zu2 k4 r4).2,Option.bind_some];rw[zat2 (body:=zad9 a) (enc:=encL) (ok:=okL') a.lower aO.zero (by omega) (λ i acc hi hx ha=>by
   unfold encL at ha⊢;unfold zad9;simp only;rw[bO (by simpa using hi),gdp (by omega)];simp only[Int.toNat_natCast];rw[(zbg2 (by have:=hx.1;omega) ha.left).2,Option.bind_some,(zu2 hx.2.1 ha.right.left).2,Option.bind_some,(zu2 hx.2.2 ha.right.right).2,Option.bind_some,zc2 i (by omega)];simp only[bZ]) (λ acc=>by unfold zad9;simp) ho.e _ hr,Option.bind_some]
  unfold zaF0;simp only[bZ]
def encF(m:aK)(c:Nat):List Int:=match c with
 |80=>encP m.aI
 |71=>encI m.gen
 |82=>encI m.round
 |69=>encI m.epoch
 |89=>encI m.aX
 |83=>encI m.site
 |73=>encI m.inc
 |66=>encI (m.label+1)
 |65=>encT m.aW.name++(encI m.aW.aJ.mode++encI m.aW.aJ.aV)
 |97=>encT m.aW.name++(encI m.aW.aJ.mode++encI m.aW.aJ.aV)
 |68=>[if m.done=true then 1 else 0]
 |78=>encI ((encS m.state).length:Int)++encS m.state
 |76=>encI ((encS m.state).length:Int)++encS m.state
 |79=>encI (m.options.length:Int)++m.options.flatMap encO
 |_=>[]
theorem zcB6{lo hi x:Int}:inN lo hi x=true↔lo<=x/\x<=hi:=by unfold inN;simp
theorem zam2{lo hi x:Int}(h:inN lo hi x=true)(h0:0<=lo)(h1:hi<=1073741824):okI x:=by have:=zcB6.1 h;unfold okI;omega
theorem zbD0{a:aC}(h:(decide (a=aC.zero)||zF1 a)=true):okA a:=by
 rw[dE]at h;rcases h with k|k
 .rw[iI k];unfold okA okI aC.zero;simp
 .exact zat1 k
theorem zdP7{m:aK}{c:Nat}(hc:c∈zaS7)(hf:zK5 m c=true):(encF m c).length<=1000000:=by
 have hn:∀{lo hi x:Int},inN lo hi x=true->0<=lo->hi<=1073741824->(encI x).length<=1000000:=λ h h0 h1=>by have:=zu3 (zam2 h h0 h1);omega
 have hat:m.aW.name.size<=12->okA m.aW.aJ->(encT m.aW.name++(encI m.aW.aJ.mode++encI m.aW.aJ.aV)).length<=1000000:=λ h k=>by have h1:=zbI0 (s:=m.aW.name) (by omega);have h2:=zu3 k.1;have h3:=zu3 k.2;simp only[bR];omega
 have hst:zac0 m.state=true->(encI ((encS m.state).length:Int)++encS m.state).length<=1000000:=λ h=>by have h1:=zbt9 (zbc9 h).1;have h2:=zu3 (x:=((encS m.state).length:Int)) (by unfold okI;omega);simp only[bR];omega
 unfold zaS7 at hc;simp only[bX,dX,gF]at hc;rcases hc with rfl|rfl|rfl|rfl|rfl|rfl|rfl|rfl|rfl|rfl|rfl|rfl|rfl|rfl
 .have:=zaV9 (p:=m.aI) hf;show(encP m.aI).length<=_;omega
 .exact hn hf (by decide) (by decide)
 .exact hn hf (by decide) (by decide)
 .exact hn hf (by decide) (by decide)
 .exact hn hf (by decide) (by decide)
 .exact hn hf (by decide) (by decide)
 .exact hn hf (by decide) (by decide)
 .have h:(inN (-1) 99 m.label&&!decide (m.label=0))=true:=hf;rw[bM]at h;have h1:=zcB6.1 h.1;have:=zu3 (x:=m.label+1) (by unfold okI;omega);show(encI (m.label+1)).length<=_;omega
 .have h:(zy8 m.aW.name&&zF1 m.aW.aJ)=true:=hf;rw[bM]at h;exact hat (zaj8 h.1) (zat1 h.2)
 .have h:(zy8 m.aW.name&&(decide (m.aW.aJ=aC.zero)||zF1 m.aW.aJ))=true:=hf;rw[bM]at h;exact hat (zaj8 h.1) (zbD0 h.2)
 .show([if m.done=true then 1 else 0]:List Int).length<=_;simp
 .have h:(decide (m.state.aG.length=0)&&zac0 m.state)=true:=hf;rw[bM]at h;exact hst h.2
 .have h:(decide (m.state.bA.length=0)&&zac0 m.state)=true:=hf;rw[bM]at h;exact hst h.2
 .have h:(decide (m.options.length<=40)&&m.options.all optV)=true:=hf;rw[bM,bQ,cS]at h;have h1:(m.options.flatMap encO).length<=20000*m.options.length:=zaw6 λ x hx=>zde6 (zcB5 (h.2 x hx));have h2:=zu3 (x:=(m.options.length:Int)) (by have:=h.1;unfold okI;omega);show(encI (m.options.length:Int)++m.options.flatMap encO).length<=_;have:=h.1;simp only[bR];omega
noncomputable def zcu9(m:aK)(c:Int)(acc:List Int):Option (List Int):=
 if(zah9 c nums).isSome=true then
  (zu0 (((zah9 c nums).getD bH.zero).of)).bind λ v3=>zb2 acc (IntKind.u64.wrap (IntKind.i64.wrap ((zi9 m v3)+((zah9 c nums).getD bH.zero).plus)))
 else zx6 m c acc
theorem zaH3(m:aK)(c:Int)(acc:List Int)(n:bH)(k:Nat)(h1:zah9 c nums=some n)(h2:zu0 n.of=some k)(h3:okI (zi9 m k+n.plus))(hr:room acc (encI (zi9 m k+n.plus))):
  zcu9 m c acc=some (acc++encI (zi9 m k+n.plus)):=by
 unfold zcu9;rw[h1];simp only[Option.isSome_some,bT,Option.getD_some,h2,Option.bind_some];rw[zk8 (by have:=h3.1;omega) (by have:=h3.2;omega),(zu2 h3 hr).1]
theorem zaH4(m:aK)(c:Int)(acc:List Int)(h1:zah9 c nums=none):zcu9 m c acc=zx6 m c acc:=by unfold zcu9;rw[h1];rfl
theorem zdD8(m:aK)(c:Nat)(acc:List Int)(hc:c∈zaS7)(hf:zK5 m c=true)(hr:room acc (encF m c)):zcu9 m (c:Int) acc=some (acc++encF m c):=by
 have hat:m.aW.name.size<=12->okA m.aW.aJ->room acc (encT m.aW.name++(encI m.aW.aJ.mode++encI m.aW.aJ.aV))->
   ((zf1 acc m.aW.name).bind λ v2=>(zb2 v2 (IntKind.u64.wrap m.aW.aJ.mode)).bind λ v3=>(zb2 v3 (IntKind.u64.wrap m.aW.aJ.aV)).bind λ v4=>some v4)=some (acc++(encT m.aW.name++(encI m.aW.aJ.mode++encI m.aW.aJ.aV))):=λ h k hr=>by
  rw[(zbg2 (by omega) hr.left).1,Option.bind_some,(zu2 k.1 hr.right.left).1,Option.bind_some,(zu2 k.2 hr.right.right).1,Option.bind_some];simp only[bZ]
 have hst:zac0 m.state=true->room acc (encI ((encS m.state).length:Int)++encS m.state)->
   ((zA4 m.state).bind λ v5=>(zb2 acc (IntKind.u64.wrap (v5.1.length:Int))).bind λ v6=>gd (v6.length+v5.1.length<=4294967296)<|some (v6++v5.1))=some (acc++(encI ((encS m.state).length:Int)++encS m.state)):=λ h hr=>by
  have h1:=zbt9 (zbc9 h).1;rw[zbw1,h,bO rfl,Option.bind_some,(zu2 (by unfold okI;omega) hr.left).1,Option.bind_some];have:=hr.right;unfold room at this;rw[gdp (by simp only;omega),bZ]
 unfold zaS7 at hc;simp only[bX,dX,gF]at hc;rcases hc with rfl|rfl|rfl|rfl|rfl|rfl|rfl|rfl|rfl|rfl|rfl|rfl|rfl|rfl
 .rw[zaH4 m _ acc rfl];unfold zx6;rw[bO (by decide),(zbg3 (p:=m.aI) hf hr).1];rfl
 .have e:=zaH3 m 71 acc ⟨187,0,1073741824,0⟩ 0 rfl rfl;simp only[zi9,hZ]at e;exact e (zam2 (lo:=0) (hi:=1073741824) hf (by decide) (by decide)) hr
 .have e:=zaH3 m 82 acc ⟨188,0,1073741824,0⟩ 1 rfl rfl;simp only[zi9,hZ]at e;exact e (zam2 (lo:=0) (hi:=1073741824) hf (by decide) (by decide)) hr
 .have e:=zaH3 m 69 acc ⟨189,0,1073741824,0⟩ 2 rfl rfl;simp only[zi9,hZ]at e;exact e (zam2 (lo:=0) (hi:=1073741824) hf (by decide) (by decide)) hr
 .have e:=zaH3 m 89 acc ⟨190,0,7,0⟩ 3 rfl rfl;simp only[zi9,hZ]at e;exact e (zam2 (lo:=0) (hi:=7) hf (by decide) (by decide)) hr
 .have e:=zaH3 m 83 acc ⟨191,0,3,0⟩ 4 rfl rfl;simp only[zi9,hZ]at e;exact e (zam2 (lo:=0) (hi:=3) hf (by decide) (by decide)) hr
 .have e:=zaH3 m 73 acc ⟨192,1,99,0⟩ 5 rfl rfl;simp only[zi9,hZ]at e;exact e (zam2 (lo:=1) (hi:=99) hf (by decide) (by decide)) hr
 .have h:(inN (-1) 99 m.label&&!decide (m.label=0))=true:=hf;rw[bM]at h;have h1:=zcB6.1 h.1;exact zaH3 m 66 acc ⟨193,-1,99,1⟩ 6 rfl rfl (by simp only[zi9];unfold okI;omega) hr
 .have h:(zy8 m.aW.name&&zF1 m.aW.aJ)=true:=hf;rw[bM]at h;rw[zaH4 m _ acc rfl];unfold zx6 zy7;rw[bN (by decide),bO (by decide),bO (by decide)];exact hat (zaj8 h.1) (zat1 h.2) hr
 .have h:(zy8 m.aW.name&&(decide (m.aW.aJ=aC.zero)||zF1 m.aW.aJ))=true:=hf;rw[bM]at h;rw[zaH4 m _ acc rfl];unfold zx6 zy7;rw[bN (by decide),bN (by decide),bO (by decide)];exact hat (zaj8 h.1) (zbD0 h.2) hr
 .rw[zaH4 m _ acc rfl];unfold zx6 zy7;rw[bN (by decide),bN (by decide),bN (by decide),bO (by decide)];have hl:acc.length+1<=4294967296:=by unfold room at hr;omega
  show _=some (acc++[if m.done=true then 1 else 0]);cases m.done with
  |true=>rw[bO rfl,gdp hl];rfl
  |false=>rw[bN (by decide),gdp hl];rfl
 .have h:(decide (m.state.aG.length=0)&&zac0 m.state)=true:=hf;rw[bM]at h;rw[zaH4 m _ acc rfl];unfold zx6 zy7 zG9;rw[bN (by decide),bN (by decide),bN (by decide),bN (by decide),bO (by decide),bO (by decide)];exact hst h.2 hr
 .have h:(decide (m.state.bA.length=0)&&zac0 m.state)=true:=hf;rw[bM]at h;rw[zaH4 m _ acc rfl];unfold zx6 zy7 zG9;rw[bN (by decide),bN (by decide),bN (by decide),bN (by decide),bN (by decide),bO (by decide)];exact hst h.2 hr
 .have h:(decide (m.options.length<=40)&&m.options.all optV)=true:=hf;rw[bM,bQ,cS]at h;rw[zaH4 m _ acc rfl];unfold zx6 zy7 zG9;rw[bN (by decide),bN (by decide),bN (by decide),bN (by decide),bN (by decide),bN (by decide),bO (by decide)];have hr':room acc (encI (m.options.length:Int)++m.options.flatMap encO):=hr;have h40:=h.1;rw[(zu2 (by unfold okI;omega) hr'.left).1,Option.bind_some];rw[zat2 (body:=zV6 m) (enc:=encO) (ok:=λ a=>optV a=true) m.options bB.zero (by omega) (λ i acc hi hx ha=>by
   unfold zV6;simp only;rw[bO (by simpa using hi),gdp (by omega)];simp only[Int.toNat_natCast];rw[(zbI5 hx ha).1,Option.bind_some,zc2 i (by omega)]) (λ acc=>by unfold zV6;simp) h.2 _ hr'.right,Option.bind_some]
  unfold zah3;rw[bZ];rfl
def encM(m:aK):List Int:=encI m.kind++(zx2 m.kind).flatMap λ b=>encF m b.toNat
theorem zbq8(k:Int):(zx2 k).length<=5:=by unfold zx2;rw[zap3];exact zcu7 k
theorem zaW2{m:aK}(h:zW2 m=true):(1<=m.kind/\m.kind<=15)/\∀b∈zx2 m.kind,b.toNat∈zaS7/\zK5 m b.toNat=true:=by unfold zW2 at h;simp only[bM,bQ,cS]at h;exact⟨h.1,λ b hb=>⟨zbx8 (by omega) b hb,h.2.1 b hb⟩⟩
theorem zdm9{m:aK}(h:zW2 m=true):room (encI m.kind) ((zx2 m.kind).flatMap λ b=>encF m b.toNat):=by obtain⟨h1,h2⟩:=zaW2 h;have e1:=zu3 (x:=m.kind) (by unfold okI;omega);have e2:((zx2 m.kind).flatMap λ b=>encF m b.toNat).length<=1000000*(zx2 m.kind).length:=zaw6 λ b hb=>zdP7 (h2 b hb).1 (h2 b hb).2;have e3:=zbq8 m.kind;unfold room;omega
theorem zcX6{m:aK}(h:zW2 m=true):zJ5 m=some (encM m):=by
 obtain⟨h1,h2⟩:=zaW2 h;have hr:=zdm9 h;have hr0:room [] (encI m.kind):=by unfold room at*;simp;omega
 have h5:=zbq8 m.kind;unfold zJ5;rw[zcA8,Option.bind_some,(zu2 (by unfold okI;omega) hr0).1,Option.bind_some,zb0 (by omega),List.nil_append];have hs:((zx2 m.kind).length:Int)=((Arr.get zz1 m.kind.toNat ⟨#[]⟩).size:Int):=by unfold zx2;rw[zap3]
 rw[zat2 (body:=zP1 m nums) (enc:=λ b:UInt8=>encF m b.toNat) (ok:=λ b=>b.toNat∈zaS7/\zK5 m b.toNat=true) (zx2 m.kind) 0 (by omega) (λ i acc hi hx ha=>by
  unfold zP1;have h3:0<=(i:Int)/\(i:Int)<((Arr.get zz1 m.kind.toNat ⟨#[]⟩).size:Int):=by omega
  have hk:0<=m.kind/\m.kind<16:=by omega
  simp only[h3.1,h3.2,hk.1,hk.2,cN,zl3,bU,bT,Int.toNat_natCast];rw[zc2 i (by omega)];have hg:(Arr.get zz1 m.kind.toNat ⟨#[]⟩).toList=zx2 m.kind:=rfl;have e:=zdD8 m _ acc hx.1 hx.2 ha;rw[hg];unfold zcu9 at e;split at e
  .rename_i hs;rw[bO hs];cases hn:zu0 ((zah9 (((zx2 m.kind).getD i 0).toNat:Int) nums).getD bH.zero).of with
   |none=>rw[hn]at e;cases e
   |some k=>rw[hn,Option.bind_some]at e;rw[Option.bind_some,e];rfl
  .rename_i hs;rw[bN hs,e];rfl) (λ acc=>by unfold zP1;rw[hs,bN (by simp)]) h2 _ hr]
 rfl
def zaf3(m:aK):Bool:=zW2 m&&decide (((encM m).length:Int)<=4064)
theorem zbO7(m:aK):zX6 m=some (zaf3 m):=by
 unfold zX6 zaf3;rw[zcp1,Option.bind_some];cases h:zW2 m with
 |false=>rfl
 |true=>rw[bO rfl,zcX6 h];rfl
end Ab
end Go.Proofs.YtdlfhmkmnjbihaaGreatDoor
