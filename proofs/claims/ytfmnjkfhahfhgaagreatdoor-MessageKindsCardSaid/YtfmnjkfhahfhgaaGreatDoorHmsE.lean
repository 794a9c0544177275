import Derived.Test.YtfmnjkfhahfhgaaGreatDoorWsO
namespace Go.Proofs.YtfmnjkfhahfhgaaGreatDoor
namespace Ab
set_option linter.defProp false
set_option linter.unusedVariables false
set_option linter.unusedSimpArgs false
noncomputable def b8(m:aM)(c:Int)(w:aM):Option (aM⊕(aM⊕Bool)):=if(oK c nums).isSome=true then(oF ((oK c nums).getD bN.zero).of).bind λ v3=>if ((decide ((nB m v3)<((oK c nums).getD bN.zero).low))||(decide (((oK c nums).getD bN.zero).high<(nB m v3))))||((decide (c=66))&&(decide ((nB m v3)=0)))then some (.inr (.inr false))else(oF ((oK c nums).getD bN.zero).of).bind λ v4=>some (.inl (tF w v4 0))else(tP m c).bind λ v5=>if !v5 then some (.inr (.inr false))else(Am c w).bind λ v6=>some (.inl v6)
def VR(k:Int):(Arr.get mZ k.toNat ⟨#[]⟩).size<=5:=by
 have h:∀i:Nat,i<16->(Arr.get mZ i ⟨#[]⟩).size<=5:=by decide
 by_cases H:k.toNat<16
 .exact h _ H
 .unfold Arr.get oN;rw[bZ H];decide
def cO7(m:aM)(U:0<=m.kind)(Y:m.kind<16)(w:aM):
  lS (DU m nums) (0,w)=walk (λ _ b w=>b8 m ((b.toNat:Nat):Int) w) (λ w=>.inl w) (Arr.get mZ m.kind.toNat ⟨#[]⟩).toList 0 w:=by
 have B:((Arr.get mZ m.kind.toNat ⟨#[]⟩).toList.length:Int)=((Arr.get mZ m.kind.toNat ⟨#[]⟩).size:Int):=by rw[BH]
 have M:=VR m.kind;have H:=vM (body:=DU m nums) (Arr.get mZ m.kind.toNat ⟨#[]⟩).toList 0 (λ i (w:aM)=>((i:Int),w)) (λ _ b w=>b8 m ((b.toNat:Nat):Int) w) (λ w=>.inl w)
  (λ i w hi=>by
   unfold DU;have O:0<=(i:Int)/\(i:Int)<((Arr.get mZ m.kind.toNat ⟨#[]⟩).size:Int):=om
   simp only[O.1,O.2,U,Y,cW,mD,cF,cG,Qm];rw[lY i om];obtain⟨c,F⟩:∃c,((((Arr.get mZ m.kind.toNat ⟨#[]⟩).toList.getD i 0).toNat:Nat):Int)=c:=⟨_,rfl⟩;simp only[F];unfold b8;split
   .cases oF ((oK c nums).getD bN.zero).of with
    |none=>rfl
    |some k=>simp only[qm];split<;>rfl
   .cases tP m c with
    |none=>rfl
    |some v=>
     simp only[qm];split
     .rfl
     .cases Am c w<;>rfl)
  (λ w=>by unfold DU;rw[B,bZ (by simp)]) w
 rw[show((0,w):Int×aM)=(λ(i:Nat) (w:aM)=>((i:Int),w)) 0 w from rfl,H]
def OC(a:aC):AD a=oM a:=by
 unfold AD oM pH qQ rX
 by_cases h:a.mode=0<;>simp[h]
def optL(l:List aO)(i:Nat):Bool:=nY (l.getD i aO.zero).name&&((decide (i=0)||decide (ltN (l.getD (i-1) aO.zero).name (l.getD i aO.zero).name))&&(decide ((l.getD i aO.zero).aJ=aC.zero)||oM (l.getD i aO.zero).aJ))
def optV(a:aQ):Bool:=(mL a.aL&&(decide (a.label=-1)||(decide (1<=a.label)&&decide (a.label<=99))))&&((decide (1<=a.cost)&&(decide (a.cost<=1073741824)&&decide (a.lower.length<=8)))&&(List.range a.lower.length).all (optL a.lower))
def VS(a:aQ):yQ a=some (optV a):=by
 unfold yQ optV;cases c1:mL a.aL with
 |false=>rw[cA (by simp)];rfl
 |true=>
  by_cases c2:a.label=-1\/1<=a.label/\a.label<=99
  .rw[bZ (by simp;omega)];have H:(decide (a.label=-1)||(decide (1<=a.label)&&decide (a.label<=99)))=true:=by simpa using c2
   rw[H]
   by_cases O:1<=a.cost/\a.cost<=1073741824/\a.lower.length<=8
   .rw[bZ (by simp;omega),vW a.lower.length (optL a.lower) (λ i hi=>by
     unfold IP optL;have Y:0<=(i:Int)/\(i:Int)<(a.lower.length:Int):=om
     simp only[Y.1,Y.2,cW,mD,cF,cG,lA];rw[mB (x:=(i:Int)+1) om om,GR,eF];obtain⟨x,hx⟩:∃x,a.lower.getD i aO.zero=x:=⟨_,rfl⟩;simp only[hx,OC]
     by_cases B:i=0
     .subst B;rw[lV (by simp)];rcases hb (nY x.name)with b1|b1<;>rcases hb (oM x.aJ)with b2|b2<;>by_cases U:x.aJ=aC.zero<;>simp[b1,b2,U]
     .rw[zR i om om,lV (by intro _;omega)];simp only[show(0:Int)<(i:Int)by omega,cF,cL,lA,B,cO,dP];unfold ltN;rcases hb (nY x.name)with b1|b1<;>rcases hb (Op.bytesLess (a.lower.getD (i-1) aO.zero).name.toList x.name.toList)with b4|b4<;>rcases hb (oM x.aJ)with b2|b2<;>by_cases U:x.aJ=aC.zero<;>simp[b1,b2,U,b4,-List.getD_eq_getElem?_getD]) (by unfold IP;simp),eF]
    rw[cP O.1,cP O.2.1,cP O.2.2];cases(List.range a.lower.length).all (optL a.lower)<;>rfl
   .rw[cA (by simp;omega)];have:(decide (1<=a.cost)&&(decide (a.cost<=1073741824)&&decide (a.lower.length<=8)))=false:=by
     rw[dG];intro h;simp at h;omega
    rw[this];rfl
  .rw[cA (by simp;omega)];have H:(decide (a.label=-1)||(decide (1<=a.label)&&decide (a.label<=99)))=false:=by
    rw[dG];intro h;simp at h;omega
   rw[H];rfl
def VT{x y:List UInt8}(h:Op.bytesLess x y=true):Op.bytesLess y x=false:=by rw[dG];intro k;have:=NS h k;rw[Kr]at this;cases this
def cOb(x y:ByteArray):(Op.bytesLess y.toList x.toList||y.toList==x.toList)=!Op.bytesLess x.toList y.toList:=by
 by_cases e:x=y
 .subst e;simp[Kr]
 .have H:¬y.toList=x.toList:=λ k=>e (xZ.1 k).symm;rcases VL (x:=x.toList) (y:=y.toList) (λ k=>H k.symm)with k|k
  .rw[k,VT k];simp[H]
  .rw[k,VT k];rfl
def VU(a:aC):nP a=decide (a=aC.zero):=by
 unfold nP;obtain⟨m,u⟩:=a;unfold aC.zero
 by_cases h:m=0<;>by_cases k:u=0<;>simp[h,k]
def OD(a:aQ):yX a=some (optV a):=by
 unfold yX optV;rw[vN]
 by_cases c:(mL a.aL=true/\(a.label=-1\/1<=a.label/\a.label<=99))/\(1<=a.cost/\a.cost<=1073741824/\a.lower.length<=8)
 .obtain⟨⟨U,c2⟩,H⟩:=c;have F:(decide (a.label=-1)||(decide (1<=a.label)&&decide (a.label<=99)))=true:=by simpa using c2
  rw[bZ (by simp[U];omega),vW a.lower.length (optL a.lower) (λ i hi=>by
   unfold Jb optL;have Y:0<=(i:Int)/\(i:Int)<(a.lower.length:Int):=om
   simp only[Y.1,Y.2,cW,mD,cF,cG,lA];rw[mB (x:=(i:Int)+1) om om,Eh,eF];obtain⟨x,hx⟩:∃x,a.lower.getD i aO.zero=x:=⟨_,rfl⟩;simp only[hx,VU,cOb];rw[show pH x.aJ=oM x.aJ from rfl]
   by_cases B:i=0
   .subst B;rw[lV (by simp)];rcases hb (nY x.name)with b1|b1<;>rcases hb (oM x.aJ)with b2|b2<;>by_cases O:x.aJ=aC.zero<;>simp[b1,b2,O]
   .rw[zR i om om,lV (by intro _;omega)];simp only[show(0:Int)<(i:Int)by omega,cF,cL,lA,B,cO,dP];unfold ltN;rcases hb (nY x.name)with b1|b1<;>rcases hb (Op.bytesLess (a.lower.getD (i-1) aO.zero).name.toList x.name.toList)with b4|b4<;>rcases hb (oM x.aJ)with b2|b2<;>by_cases O:x.aJ=aC.zero<;>simp[b1,b2,O,b4,-List.getD_eq_getElem?_getD]) (by unfold Jb;simp),eF]
  rw[U,F,cP H.1,cP H.2.1,cP H.2.2];cases(List.range a.lower.length).all (optL a.lower)<;>rfl
 .rw[cA (by
   rcases hb (mL a.aL)with b|b
   .simp[b]at c⊢;omega
   .simp[b])]
  symm
  congr 1;rw[dG];intro h;simp only[bX,dV,cD]at h;exact c ⟨⟨h.1.1,h.1.2⟩,h.2.1⟩
def inN(lo hi x:Int):Bool:=decide (lo<=x)&&decide (x<=hi)
def pS(m:aM)(c:Nat):Bool:=match c with
 |80=>mL m.aL
 |71=>inN 0 1073741824 m.gen
 |82=>inN 0 1073741824 m.round
 |69=>inN 0 1073741824 m.epoch
 |89=>inN 0 7 m.bD
 |83=>inN 0 3 m.site
 |73=>inN 1 99 m.inc
 |66=>inN (-1) 99 m.label&&!decide (m.label=0)
 |65=>nY m.bA.name&&oM m.bA.aJ
 |97=>nY m.bA.name&&(decide (m.bA.aJ=aC.zero)||oM m.bA.aJ)
 |78=>decide (m.state.aF.length=0)&&oD m.state
 |76=>decide (m.state.aY.length=0)&&oD m.state
 |79=>decide (m.options.length<=40)&&m.options.all optV
 |_=>true
def clrF(c:Nat)(w:aM):aM:=match c with
 |80=>{w with aL:=aK.zero}
 |71=>{w with gen:=0}
 |82=>{w with round:=0}
 |69=>{w with epoch:=0}
 |89=>{w with bD:=0}
 |83=>{w with site:=0}
 |73=>{w with inc:=0}
 |66=>{w with label:=0}
 |65=>{w with bA:=aO.zero}
 |97=>{w with bA:=aO.zero}
 |68=>{w with done:=false}
 |78=>{w with state:=aI.zero}
 |76=>{w with state:=aI.zero}
 |79=>{w with options:=[]}
 |_=>w
def vY:List Nat:=[80,71,82,69,89,83,73,66,65,97,68,78,76,79]
def BR(m w:aM)(c:Int)(n:bN)(k:Nat)(H:oK c nums=some n)(O:oF n.of=some k):
  b8 m c w=some (if(!(decide (nB m k<n.low)||decide (n.high<nB m k)||(decide (c=66)&&decide (nB m k=0))))=true then .inl (tF w k 0)else .inr (.inr false)):=by
 unfold b8;rw[H];simp only[Option.isSome_some,cG,Xm,O,qm];cases(decide (nB m k<n.low)||decide (n.high<nB m k)||(decide (c=66)&&decide (nB m k=0)))<;>rfl
def BS(m w:aM)(c:Int)(b:Bool)(w':aM)(H:oK c nums=none)(O:tP m c=some b)(U:Am c w=some w'):
  b8 m c w=some (if b=true then .inl w' else .inr (.inr false)):=by
 unfold b8;rw[H];simp only[oc,bY,cH,O,U,qm];cases b<;>rfl
def BT(lo hi x:Int)(d:Bool):(!(decide (x<lo)||decide (hi<x)||d))=(inN lo hi x&&!d):=by unfold inN;rw[dM];cases d<;>simp
def OE{α:Type}(l:List α)(z:α)(p:α->Bool):((List.range l.length).all λ i=>p (l.getD i z))=l.all p:=by
 rw[dM,dT,dT];constructor
 .intro h x hx;obtain⟨i,hi,rfl⟩:=gE hx;have:=h i (eD.2 hi);rwa [HS _ _ _ hi]at this
 .intro h i hi;exact h _ (mN (eD.1 hi))
def cOk(m:aM):tP m 79=some (decide (m.options.length<=40)&&m.options.all optV):=by
 unfold tP;rw[bZ Om,bZ Om,bZ Om,bZ Om,bZ Om,cA Om]
 by_cases h:m.options.length<=40
 .rw[bZ (by simp;omega),vW m.options.length (λ i=>optV (m.options.getD i aQ.zero)) (λ i hi=>by
   unfold JB;have H:0<=(i:Int)/\(i:Int)<(m.options.length:Int):=om
   simp only[H.1,H.2,cW,mD,cF,cG,lA];rw[VS,eF,mB om om];cases optV (m.options.getD i aQ.zero)<;>rfl) (by unfold JB;simp),eF,OE m.options aQ.zero optV,cP h]
  cases m.options.all optV<;>rfl
 .rw[cA (by simp;omega),fH h];rfl
def cOl(m w:aM)(c:Nat)(H:c∈vY):b8 m (c:Int) w=some (if pS m c=true then .inl (clrF c w)else .inr (.inr false)):=by
 unfold vY at H;simp only[cK,eU,iJ]at H;rcases H with rfl|rfl|rfl|rfl|rfl|rfl|rfl|rfl|rfl|rfl|rfl|rfl|rfl|rfl
 .exact BS m w 80 _ _ rfl rfl rfl
 .rw[BR m w _ ⟨64,0,1073741824,0⟩ 0 rfl rfl,BT];simp[pS,clrF,nB,tF]
 .rw[BR m w _ ⟨65,0,1073741824,0⟩ 1 rfl rfl,BT];simp[pS,clrF,nB,tF]
 .rw[BR m w _ ⟨66,0,1073741824,0⟩ 2 rfl rfl,BT];simp[pS,clrF,nB,tF]
 .rw[BR m w _ ⟨67,0,7,0⟩ 3 rfl rfl,BT];simp[pS,clrF,nB,tF]
 .rw[BR m w _ ⟨68,0,3,0⟩ 4 rfl rfl,BT];simp[pS,clrF,nB,tF]
 .rw[BR m w _ ⟨69,1,99,0⟩ 5 rfl rfl,BT];simp[pS,clrF,nB,tF]
 .rw[BR m w _ ⟨70,-1,99,1⟩ 6 rfl rfl,BT];simp[pS,clrF,nB,tF]
 .refine BS m w 65 _ _ rfl ?_ rfl;unfold tP;rw[bZ Om,cA Om,GR,eF,OC];rfl
 .refine BS m w 97 _ _ rfl ?_ rfl;unfold tP;rw[bZ Om,bZ Om,cA Om,GR,eF,OC];rfl
 .exact BS m w 68 _ _ rfl rfl rfl
 .refine BS m w 78 _ _ rfl ?_ rfl;unfold tP;rw[bZ Om,bZ Om,bZ Om,cA Om]
  by_cases h:m.state.aF.length=0
  .rw[cA (by simp[h]),N6,eF];simp[pS,h]
  .rw[bZ (by simp[h]),eF];simp[pS,h]
 .refine BS m w 76 _ _ rfl ?_ rfl;unfold tP;rw[bZ Om,bZ Om,bZ Om,bZ Om,cA Om]
  by_cases h:m.state.aY.length=0
  .rw[cA (by simp[h]),N6,eF];simp[pS,h]
  .rw[bZ (by simp[h]),eF];simp[pS,h]
 .exact BS m w 79 _ _ rfl (cOk m) rfl
def VV(m:aM):∀(l:List UInt8) (i:Nat) (w:aM),(∀b∈l,b.toNat∈vY)->walk (λ _ b w=>b8 m ((b.toNat:Nat):Int) w) (λ w=>Sum.inl (β:=Bool) w) l i w=some (if(l.all λ b=>pS m b.toNat)=true then .inl (l.foldl (λ w b=>clrF b.toNat w) w)else .inr false)
 |[],i,w,_=>rfl
 |b::l,i,w,h=>by
  simp only[walk];rw[cOl m w _ (h b (.head _))];cases hf:pS m b.toNat with
  |false=>simp[hf]
  |true=>simp only[cG];rw[VV m l (i+1) _ λ x hx=>h x (.tail _ hx)];simp[hf]
def pJ(k:Int):List UInt8:=(Arr.get mZ k.toNat ⟨#[]⟩).toList
def VW{k:Int}(h:k<16):∀b∈pJ k,b.toNat∈vY:=by
 have g:∀i:Nat,i<16->∀b∈(Arr.get mZ i ⟨#[]⟩).data.toList,b.toNat∈vY:=by decide
 unfold pJ;rw[lB];exact g k.toNat om
def tU(m:aM):Bool:=(decide (1<=m.kind)&&decide (m.kind<=15))&&(((pJ m.kind).all λ b=>pS m b.toNat)&&EF ((pJ m.kind).foldl (λ w b=>clrF b.toNat w) {m with kind:=0}))
def cOp(m:aM):DV m=some (tU m):=by
 unfold DV tU Fc
 by_cases h:1<=m.kind/\m.kind<=15
 .rw[bZ (by simp;omega),Hl,eF,lV om,cO7 m om om,VV m (Arr.get mZ m.kind.toNat ⟨#[]⟩).toList 0 _ (VW (k:=m.kind) om),eF];rw[cP h.1,cP h.2];cases hf:(pJ m.kind).all λ b=>pS m b.toNat with
  |false=>rw[show((Arr.get mZ m.kind.toNat ⟨#[]⟩).toList.all λ b=>pS m b.toNat)=false from hf];rfl
  |true=>rw[show((Arr.get mZ m.kind.toNat ⟨#[]⟩).toList.all λ b=>pS m b.toNat)=true from hf];simp only[cG,JT,cNs,qm,cL];rfl
 .rw[cA (by simp;omega)];have:(decide (1<=m.kind)&&decide (m.kind<=15))=false:=by rw[dG];intro k;simp at k;omega
  rw[this];rfl
def oI{l:List Int}{x:Int}(h:okI x)(O:room l (encI x)):oX l (IntKind.u64.wrap x)=some (l++encI x)/\pG l (IntKind.u64.wrap x)=some (l++encI x):=by unfold room at O;obtain⟨H,U⟩:=h;rw[x7 x H om];have:x=((x.toNat:Nat):Int):=(iI H).symm;unfold encI;rw[this,lA];exact⟨U9 om om,U7 om om⟩
def KT{l:List Int}{s:ByteArray}(h:s.size<=1024)(H:room l (encT s)):AF l s=some (l++encT s)/\CR l s=some (l++encT s):=KQ h H
def KU{l:List Int}{p:aK}(h:mL p=true)(O:room l (encP p)):n7 l p=some (l++encP p)/\AG l p=some (l++encP p):=by
 obtain⟨Y,B,F⟩:=N9 h;unfold encP at O⊢;have M:=O.left.left;have r2:=O.left.right;have U:=O.right;rw[<-cJ]at U;constructor
 .unfold n7;have t1:∀H:List Int,room H (encI p.site)->wT p (0,H)=some (.inl (1,H++encI p.site)):=λ H ha=>by
   unfold wT;rw[cA (by simp),gdp (by simp)];show((oX H (IntKind.u64.wrap p.site)).bind λ v1=>some (Sum.inl (IntKind.i64.wrap (0+1),v1)))=_;rw[(oI Y ha).1];rfl
  have t2:∀H:List Int,room H (encI p.inc)->wT p (1,H)=some (.inl (2,H++encI p.inc)):=λ H ha=>by unfold wT;rw[cA (by simp),gdp (by simp)];show((oX H (IntKind.u64.wrap p.inc)).bind λ v1=>some (Sum.inl (IntKind.i64.wrap (1+1),v1)))=_;rw[(oI B ha).1];rfl
  have t3:∀H:List Int,room H (encI p.num)->wT p (2,H)=some (.inl (3,H++encI p.num)):=λ H ha=>by unfold wT;rw[cA (by simp),gdp (by simp)];show((oX H (IntKind.u64.wrap p.num)).bind λ v1=>some (Sum.inl (IntKind.i64.wrap (2+1),v1)))=_;rw[(oI F ha).1];rfl
  have t4:∀H:List Int,wT p (3,H)=some (.inr H):=λ H=>by unfold wT;rw[bZ (by simp)]
  have hlen:l.length<=4294967296:=by unfold room at O;omega
  rw[gdp hlen,bZ (by simp[h]),mF,t1 l M];simp only;rw[mF,t2 _ r2];simp only;rw[mF,t3 _ U];simp only;rw[mF,t4];simp only[cJ];rfl
 .unfold AG;rw[vN,bZ (by simp[h]),(xM Y M).2,eF,(xM B r2).2,eF,(oI F U).2];simp only[cJ];rfl
def EG{α:Type}{body:Int×List Int->Option ((Int×List Int)⊕List Int)}{enc:α->List Int}{ok:α->Prop}(l:List α)(z:α)(hlen:l.length<=1000)
  (Y:∀(i:Nat) acc,i<l.length->ok (l.getD i z)->room acc (enc (l.getD i z))->body ((i:Int),acc)=some (.inl (((i+1:Nat):Int),acc++enc (l.getD i z))))
  (B:∀acc,body ((l.length:Int),acc)=some (.inr acc)) (O:∀x∈l,ok x) (acc:List Int) (F:room acc (l.flatMap enc)):lS body (0,acc)=some (acc++l.flatMap enc):=by
 have U:∀k i (acc:List Int),i+k=l.length->room acc ((l.drop i).flatMap enc)->lS body ((i:Int),acc)=some (acc++(l.drop i).flatMap enc):=by
  intro k;induction k with
  |zero=>
   intro i acc hi _;have:i=l.length:=om
   subst this;rw[mF,iX,B];simp
  |succ k M=>
   intro i acc hi H;have hlt:i<l.length:=om
   rw[s7 l i z hlt]at H⊢;rw[fN]at H⊢;rw[mF,Y i acc hlt (O _ (mN (z:=z) hlt)) H.left];simp only;rw[M (i+1) _ om H.right,cJ]
 exact U l.length 0 acc om F
def encL(x:aO):List Int:=encT x.name++(encI x.aJ.mode++encI x.aJ.aT)
def encO(a:aQ):List Int:=encP a.aL++(encI (a.label+1)++(encI a.cost++(encI (a.lower.length:Int)++a.lower.flatMap encL)))
def okL'(x:aO):Prop:=x.name.size<=12/\okA x.aJ
structure OkO (a:aQ):Prop where
 p:mL a.aL=true
 l:-1<=a.label/\a.label<=99
 c:okI a.cost
 n:a.lower.length<=8
 e:∀x∈a.lower,okL' x
def OF{a:aQ}(h:optV a=true):OkO a:=by
 unfold optV at h;simp only[bX,dV,cD]at h;obtain⟨⟨H,B⟩,⟨F,O,U⟩,Y⟩:=h;refine⟨H,by omega,⟨by omega,O⟩,U,λ x hx=>?_⟩;obtain⟨i,hi,rfl⟩:=gE hx;have:=dT.1 Y i (eD.2 hi);unfold optL at this;rw[HS _ _ _ hi]at this;simp only[bX,dV,cD]at this;refine⟨a8 this.1,?_⟩;rcases this.2.2 with k|k
 .rw[k];unfold okA okI aC.zero;simp
 .exact x8 k
def cOu{x:aO}(h:okL' x):(encL x).length<=2000:=by have H:=Hd (s:=x.name) (by have:=h.1;omega);have O:=nN h.2.1;have U:=nN h.2.2;unfold encL;simp only[cC];omega
def VX{a:aQ}(h:OkO a):(encO a).length<=20000:=by have H:=BI h.p;have O:=nN (x:=a.label+1) (by have:=h.l;unfold okI;omega);have U:=nN h.c;have Y:=nN (x:=(a.lower.length:Int)) (by have:=h.n;unfold okI;omega);have B:(a.lower.flatMap encL).length<=2000*a.lower.length:=vT λ x hx=>cOu (h.e x hx);have F:=h.n;unfold encO;simp only[cC];omega
def VY{a:aQ}(h:optV a=true){l:List Int}(H:room l (encO a)):A1 l a=some (l++encO a)/\Bb l a=some (l++encO a):=by
 have O:=OF h;have hl:=O.l;have hn:=O.n;have h0:room l (encO a):=H;have hlen:l.length<=4294967296:=by unfold room at H;omega
 have Y:okI (a.label+1):=by unfold okI;omega
 have B:okI (a.lower.length:Int):=by unfold okI;omega
 unfold encO at H⊢;have w:IntKind.i64.wrap (a.label+1)=a.label+1:=mB om om;have F:=H.left
 replace H:=H.right
 have M:=H.left
 replace H:=H.right
 have r3:=H.left
 replace H:=H.right
 have r4:=H.left
 replace H:=H.right
 constructor
 .unfold A1 CA;rw[gdp hlen,eF,VS,eF,h,bZ Om,(KU O.p F).1,eF,w,(oI Y M).1,eF,(oI O.c r3).1,eF,(oI B r4).1,eF];rw[EG (body:=F0 a) (enc:=encL) (ok:=okL') a.lower aO.zero om (λ i U hi hx ha=>by
   unfold encL at ha⊢;unfold F0;simp only;rw[cA (by simpa using hi),gdp om];simp only[lA];rw[(KT (by have:=hx.1;omega) ha.left).1,eF,(oI hx.2.1 ha.right.left).1,eF,(oI hx.2.2 ha.right.right).1,eF,lY i om];simp only[cJ]) (λ U=>by unfold F0;simp) O.e _ H,eF]
  unfold MA;simp only[cJ]
 .unfold Bb;rw[gdp hlen,OD,eF,h,bZ Om,(KU O.p F).2,eF,w,(oI Y M).2,eF,(oI O.c r3).2,eF,(oI B r4).2,eF];rw[EG (body:=F6 a) (enc:=encL) (ok:=okL') a.lower aO.zero om (λ i U hi hx ha=>by
   unfold encL at ha⊢;unfold F6;simp only;rw[cA (by simpa using hi),gdp om];simp only[lA];rw[(KT (by have:=hx.1;omega) ha.left).2,eF,(oI hx.2.1 ha.right.left).2,eF,(oI hx.2.2 ha.right.right).2,eF,lY i om];simp only[cJ]) (λ U=>by unfold F6;simp) O.e _ H,eF]
  unfold MN;simp only[cJ]
def encF(m:aM)(c:Nat):List Int:=match c with
 |80=>encP m.aL
 |71=>encI m.gen
 |82=>encI m.round
 |69=>encI m.epoch
 |89=>encI m.bD
 |83=>encI m.site
 |73=>encI m.inc
 |66=>encI (m.label+1)
 |65=>encT m.bA.name++(encI m.bA.aJ.mode++encI m.bA.aJ.aT)
 |97=>encT m.bA.name++(encI m.bA.aJ.mode++encI m.bA.aJ.aT)
 |68=>[if m.done=true then 1 else 0]
 |78=>encI ((encS m.state).length:Int)++encS m.state
 |76=>encI ((encS m.state).length:Int)++encS m.state
 |79=>encI (m.options.length:Int)++m.options.flatMap encO
 |_=>[]
def OG{lo hi x:Int}:inN lo hi x=true↔lo<=x/\x<=hi:=by unfold inN;simp
def tV{lo hi x:Int}(h:inN lo hi x=true)(H:0<=lo)(O:hi<=1073741824):okI x:=by have:=OG.1 h;unfold okI;omega
def VZ{a:aC}(h:(decide (a=aC.zero)||oM a)=true):okA a:=by
 rw[dV]at h;rcases h with k|k
 .rw[gD k];unfold okA okI aC.zero;simp
 .exact x8 k
def cP0{m:aM}{c:Nat}(F:c∈vY)(H:pS m c=true):(encF m c).length<=1000000:=by
 have O:∀{lo hi x:Int},inN lo hi x=true->0<=lo->hi<=1073741824->(encI x).length<=1000000:=λ h h0 U=>by have:=nN (tV h h0 U);omega
 have Y:m.bA.name.size<=12->okA m.bA.aJ->(encT m.bA.name++(encI m.bA.aJ.mode++encI m.bA.aJ.aT)).length<=1000000:=λ h k=>by have U:=Hd (s:=m.bA.name) om;have M:=nN k.1;have h3:=nN k.2;simp only[cC];omega
 have B:oD m.state=true->(encI ((encS m.state).length:Int)++encS m.state).length<=1000000:=λ h=>by have U:=Ex (Ew h).1;have M:=nN (x:=((encS m.state).length:Int)) (by unfold okI;omega);simp only[cC];omega
 unfold vY at F;simp only[cK,eU,iJ]at F;rcases F with rfl|rfl|rfl|rfl|rfl|rfl|rfl|rfl|rfl|rfl|rfl|rfl|rfl|rfl
 .have:=BI (p:=m.aL) H;show(encP m.aL).length<=_;omega
 .exact O H Om Om
 .exact O H Om Om
 .exact O H Om Om
 .exact O H Om Om
 .exact O H Om Om
 .exact O H Om Om
 .have h:(inN (-1) 99 m.label&&!decide (m.label=0))=true:=H;rw[bX]at h;have U:=OG.1 h.1;have:=nN (x:=m.label+1) (by unfold okI;omega);show(encI (m.label+1)).length<=_;omega
 .have h:(nY m.bA.name&&oM m.bA.aJ)=true:=H;rw[bX]at h;exact Y (a8 h.1) (x8 h.2)
 .have h:(nY m.bA.name&&(decide (m.bA.aJ=aC.zero)||oM m.bA.aJ))=true:=H;rw[bX]at h;exact Y (a8 h.1) (VZ h.2)
 .show([if m.done=true then 1 else 0]:List Int).length<=_;simp
 .have h:(decide (m.state.aF.length=0)&&oD m.state)=true:=H;rw[bX]at h;exact B h.2
 .have h:(decide (m.state.aY.length=0)&&oD m.state)=true:=H;rw[bX]at h;exact B h.2
 .have h:(decide (m.options.length<=40)&&m.options.all optV)=true:=H;rw[bX,cD,dT]at h;have U:(m.options.flatMap encO).length<=20000*m.options.length:=vT λ x hx=>VX (OF (h.2 x hx));have M:=nN (x:=(m.options.length:Int)) (by have:=h.1;unfold okI;omega);show(encI (m.options.length:Int)++m.options.flatMap encO).length<=_;have:=h.1;simp only[cC];omega
noncomputable def EH(m:aM)(c:Int)(acc:List Int):Option (List Int):=if(oK c nums).isSome=true then(oF ((oK c nums).getD bN.zero).of).bind λ v3=>oX acc (IntKind.u64.wrap (IntKind.i64.wrap ((nB m v3)+((oK c nums).getD bN.zero).plus)))else uJ m c acc
def BU(m:aM)(c:Int)(acc:List Int)(n:bN)(k:Nat)(O:oK c nums=some n)(U:oF n.of=some k)(H:okI (nB m k+n.plus))(Y:room acc (encI (nB m k+n.plus))):
  EH m c acc=some (acc++encI (nB m k+n.plus)):=by
 unfold EH;rw[O];simp only[Option.isSome_some,cG,Xm,U,qm];rw[mB (by have:=H.1;omega) (by have:=H.2;omega),(oI H Y).1]
def BV(m:aM)(c:Int)(acc:List Int)(H:oK c nums=none):EH m c acc=uJ m c acc:=by unfold EH;rw[H];rfl
def cP4(m:aM)(c:Nat)(acc:List Int)(F:c∈vY)(O:pS m c=true)(H:room acc (encF m c)):EH m (c:Int) acc=some (acc++encF m c):=by
 have U:m.bA.name.size<=12->okA m.bA.aJ->room acc (encT m.bA.name++(encI m.bA.aJ.mode++encI m.bA.aJ.aT))->
   ((AF acc m.bA.name).bind λ v2=>(oX v2 (IntKind.u64.wrap m.bA.aJ.mode)).bind λ v3=>(oX v3 (IntKind.u64.wrap m.bA.aJ.aT)).bind λ v4=>some v4)=some (acc++(encT m.bA.name++(encI m.bA.aJ.mode++encI m.bA.aJ.aT))):=λ h k H=>by
  rw[(KT om H.left).1,eF,(oI k.1 H.right.left).1,eF,(oI k.2 H.right.right).1,eF];simp only[cJ]
 have Y:oD m.state=true->room acc (encI ((encS m.state).length:Int)++encS m.state)->
   ((Bi m.state).bind λ v5=>(oX acc (IntKind.u64.wrap (v5.1.length:Int))).bind λ v6=>gd (v6.length+v5.1.length<=4294967296)<|some (v6++v5.1))=some (acc++(encI ((encS m.state).length:Int)++encS m.state)):=λ h H=>by
  have M:=Ex (Ew h).1;rw[cO3,h,cA rfl,eF,(oI (by unfold okI;omega) H.left).1,eF];have:=H.right;unfold room at this;rw[gdp (by simp only;omega),cJ]
 unfold vY at F;simp only[cK,eU,iJ]at F;rcases F with rfl|rfl|rfl|rfl|rfl|rfl|rfl|rfl|rfl|rfl|rfl|rfl|rfl|rfl
 .rw[BV m _ acc rfl];unfold uJ;rw[cA Om,(KU (p:=m.aL) O H).1];rfl
 .have e:=BU m 71 acc ⟨64,0,1073741824,0⟩ 0 rfl rfl;simp only[nB,iM]at e;exact e (tV (lo:=0) (hi:=1073741824) O Om Om) H
 .have e:=BU m 82 acc ⟨65,0,1073741824,0⟩ 1 rfl rfl;simp only[nB,iM]at e;exact e (tV (lo:=0) (hi:=1073741824) O Om Om) H
 .have e:=BU m 69 acc ⟨66,0,1073741824,0⟩ 2 rfl rfl;simp only[nB,iM]at e;exact e (tV (lo:=0) (hi:=1073741824) O Om Om) H
 .have e:=BU m 89 acc ⟨67,0,7,0⟩ 3 rfl rfl;simp only[nB,iM]at e;exact e (tV (lo:=0) (hi:=7) O Om Om) H
 .have e:=BU m 83 acc ⟨68,0,3,0⟩ 4 rfl rfl;simp only[nB,iM]at e;exact e (tV (lo:=0) (hi:=3) O Om Om) H
 .have e:=BU m 73 acc ⟨69,1,99,0⟩ 5 rfl rfl;simp only[nB,iM]at e;exact e (tV (lo:=1) (hi:=99) O Om Om) H
 .have h:(inN (-1) 99 m.label&&!decide (m.label=0))=true:=O;rw[bX]at h;have M:=OG.1 h.1;exact BU m 66 acc ⟨70,-1,99,1⟩ 6 rfl rfl (by simp only[nB];unfold okI;omega) H
 .have h:(nY m.bA.name&&oM m.bA.aJ)=true:=O;rw[bX]at h;rw[BV m _ acc rfl];unfold uJ wX;rw[bZ Om,cA Om,cA Om];exact U (a8 h.1) (x8 h.2) H
 .have h:(nY m.bA.name&&(decide (m.bA.aJ=aC.zero)||oM m.bA.aJ))=true:=O;rw[bX]at h;rw[BV m _ acc rfl];unfold uJ wX;rw[bZ Om,bZ Om,cA Om];exact U (a8 h.1) (VZ h.2) H
 .rw[BV m _ acc rfl];unfold uJ wX;rw[bZ Om,bZ Om,bZ Om,cA Om];have hl:acc.length+1<=4294967296:=by unfold room at H;omega
  show _=some (acc++[if m.done=true then 1 else 0]);cases m.done with
  |true=>rw[cA rfl,gdp hl];rfl
  |false=>rw[bZ Om,gdp hl];rfl
 .have h:(decide (m.state.aF.length=0)&&oD m.state)=true:=O;rw[bX]at h;rw[BV m _ acc rfl];unfold uJ wX Bj;rw[bZ Om,bZ Om,bZ Om,bZ Om,cA Om,cA Om];exact Y h.2 H
 .have h:(decide (m.state.aY.length=0)&&oD m.state)=true:=O;rw[bX]at h;rw[BV m _ acc rfl];unfold uJ wX Bj;rw[bZ Om,bZ Om,bZ Om,bZ Om,bZ Om,cA Om];exact Y h.2 H
 .have h:(decide (m.options.length<=40)&&m.options.all optV)=true:=O;rw[bX,cD,dT]at h;rw[BV m _ acc rfl];unfold uJ wX Bj;rw[bZ Om,bZ Om,bZ Om,bZ Om,bZ Om,bZ Om,cA Om];have B:room acc (encI (m.options.length:Int)++m.options.flatMap encO):=H;have h0:=h.1;rw[(oI (by unfold okI;omega) B.left).1,eF];rw[EG (body:=Gi m) (enc:=encO) (ok:=λ a=>optV a=true) m.options aQ.zero om (λ i acc hi hx ha=>by
   unfold Gi;simp only;rw[cA (by simpa using hi),gdp om];simp only[lA];rw[(VY hx ha).1,eF,lY i om]) (λ acc=>by unfold Gi;simp) h.2 _ B.right,eF]
  unfold JD;rw[cJ];rfl
def encM(m:aM):List Int:=encI m.kind++(pJ m.kind).flatMap λ b=>encF m b.toNat
def V0(k:Int):(pJ k).length<=5:=by unfold pJ;rw[BH];exact VR k
def V1{m:aM}(h:tU m=true):(1<=m.kind/\m.kind<=15)/\∀b∈pJ m.kind,b.toNat∈vY/\pS m b.toNat=true:=by unfold tU at h;simp only[bX,cD,dT]at h;exact⟨h.1,λ b hb=>⟨VW om b hb,h.2.1 b hb⟩⟩
def cP7{m:aM}(h:tU m=true):room (encI m.kind) ((pJ m.kind).flatMap λ b=>encF m b.toNat):=by obtain⟨O,H⟩:=V1 h;have U:=nN (x:=m.kind) (by unfold okI;omega);have Y:((pJ m.kind).flatMap λ b=>encF m b.toNat).length<=1000000*(pJ m.kind).length:=vT λ b hb=>cP0 (H b hb).1 (H b hb).2;have B:=V0 m.kind;unfold room;omega
def V2{m:aM}(h:tU m=true):Bk m=some (encM m):=by
 obtain⟨h1,F⟩:=V1 h;have M:=cP7 h;have U:room [] (encI m.kind):=by unfold room at*;simp;omega
 have h5:=V0 m.kind;unfold Bk;rw[Hl,eF,(oI (by unfold okI;omega) U).1,eF,lV om,lD];have H:((pJ m.kind).length:Int)=((Arr.get mZ m.kind.toNat ⟨#[]⟩).size:Int):=by unfold pJ;rw[BH]
 rw[EG (body:=Gj m nums) (enc:=λ b:UInt8=>encF m b.toNat) (ok:=λ b=>b.toNat∈vY/\pS m b.toNat=true) (pJ m.kind) 0 om (λ i O hi hx ha=>by
  unfold Gj;have Y:0<=(i:Int)/\(i:Int)<((Arr.get mZ m.kind.toNat ⟨#[]⟩).size:Int):=om
  have B:0<=m.kind/\m.kind<16:=om
  simp only[Y.1,Y.2,B.1,B.2,cW,mD,cF,cG,lA];rw[lY i om];have hg:(Arr.get mZ m.kind.toNat ⟨#[]⟩).toList=pJ m.kind:=rfl;have e:=cP4 m _ O hx.1 hx.2 ha;rw[hg];unfold EH at e;split at e
  .rename_i H;rw[cA H];cases hn:oF ((oK (((pJ m.kind).getD i 0).toNat:Int) nums).getD bN.zero).of with
   |none=>rw[hn]at e;cases e
   |some k=>rw[hn,eF]at e;rw[eF,e];rfl
  .rename_i H;rw[bZ H,e];rfl) (λ O=>by unfold Gj;rw[H,bZ (by simp)]) F _ M]
 rfl
def sI(m:aM):Bool:=tU m&&decide (((encM m).length:Int)<=4064)
def Ho(m:aM):zP m=some (sI m):=by
 unfold zP sI;rw[cOp,eF];cases h:tU m with
 |false=>rfl
 |true=>rw[cA rfl,V2 h];rfl
end Ab
end Go.Proofs.YtfmnjkfhahfhgaaGreatDoor
