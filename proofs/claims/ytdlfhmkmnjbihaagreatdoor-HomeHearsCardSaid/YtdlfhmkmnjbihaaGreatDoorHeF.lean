import Derived.Test.YtdlfhmkmnjbihaaGreatDoorHmsE
import Derived.KernelRfl
import Derived.Test.YtdlfhmkmnjbihaaGreatDoorTabA
namespace Go.Proofs.YtdlfhmkmnjbihaaGreatDoor
namespace Ab
set_option linter.unusedVariables false
set_option linter.unusedSimpArgs false
def zs9(k:Int):List UInt8:=(zb8 k).toList
def zaY5:List Nat:=[80,71,65,89,68,83,73,82,69,76,87,79]
def cpF(m:aK)(c:Nat)(w:aK):aK:=match c with
 |80=>{w with aI:=m.aI}
 |71=>{w with gen:=m.gen}
 |65=>{w with aW:=m.aW}
 |89=>{w with aX:=m.aX}
 |68=>{w with done:=m.done}
 |83=>{w with site:=m.site}
 |73=>{w with inc:=m.inc}
 |82=>{w with round:=m.round}
 |69=>{w with epoch:=m.epoch}
 |76=>{w with label:=m.label}
 |87=>{w with state:=m.state}
 |79=>{w with options:=m.options}
 |_=>w
theorem zN6(k:Int):zs9 k=if k=1 then[80,71,65,89]else if k=2\/k=4 then[80,71,65]else if k=3 then[80,71,65,68]else if k=5 then[83,73]else if k=6\/k=8 then[82]else if k=7 then[82,87,79]else if k=9 then[82,87]
  else if k=10 then[82,69,80,71,76]else if k=11 then[82,80,68]else if k=12 then[69,83]else if k=13\/k=14\/k=15 then[69]else[]:=by
 unfold zs9;rw[ByteArray.toList_eq];unfold zb8 zY5 zY4 zQ3
 by_cases c1:k=1
 .simp[c1]
 by_cases c2:k=2
 .simp[c2]
 by_cases c3:k=3
 .simp[c3]
 by_cases c4:k=4
 .simp[c4]
 by_cases c5:k=5
 .simp[c5]
 by_cases c6:k=6
 .simp[c6]
 by_cases c7:k=7
 .simp[c7]
 by_cases c8:k=8
 .simp[c8]
 by_cases c9:k=9
 .simp[c9]
 by_cases c10:k=10
 .simp[c10]
 by_cases c11:k=11
 .simp[c11]
 by_cases c12:k=12
 .simp[c12]
 by_cases c13:k=13
 .simp[c13]
 by_cases c14:k=14
 .simp[c14]
 by_cases c15:k=15
 .simp[c15]
 simp[c1,c2,c3,c4,c5,c6,c7,c8,c9,c10,c11,c12,c13,c14,c15]
def okR(l:List UInt8):Prop:=l.length<=5/\∀b∈l,b.toNat∈zaY5
instance(l:List UInt8):Decidable (okR l):=by unfold okR;infer_instance
theorem zaT0(c:Prop)[Decidable c]{a b:List UInt8}(ha:okR a)(hb:okR b):okR (if c then a else b):=by split<;>assumption
theorem zaI5(k:Int):(zs9 k).length<=5/\∀b∈zs9 k,b.toNat∈zaY5:=by show okR (zs9 k);rw[zN6];exact zaT0 _ (by decide) (zaT0 _ (by decide) (zaT0 _ (by decide) (zaT0 _ (by decide) (zaT0 _ (by decide) (zaT0 _ (by decide) (zaT0 _ (by decide) (zaT0 _ (by decide) (zaT0 _ (by decide) (zaT0 _ (by decide) (zaT0 _ (by decide) (by decide)))))))))))
theorem zbg4(k:Int):(zb8 k).size=(zs9 k).length:=by unfold zs9;rw[zap3]
theorem zbD1(k:Int){i:Nat}(hi:i<(zs9 k).length):(((zb8 k).toList.map λ b=>(b.toNat:Int)).getD i 0)=((((zs9 k).getD i 0).toNat:Nat):Int):=by rw[zB3 _ _ _ (by rw[cO];exact hi),List.getElem_map,zB3 _ _ _ hi];rfl
theorem zde7(m:aK):∀(l:List UInt8) (i:Nat) (w:aK),walk (λ _ b w=>some (Sum.inl (β:=aK) (cpF m (b:UInt8).toNat w))) (λ w=>w) l i w=some (l.foldl (λ w b=>cpF m b.toNat w) w)
 |[],i,w=>rfl
 |b::l,i,w=>by simp only[walk,List.foldl_cons];exact zde7 m l (i+1) _
theorem zdP8(m:aK):zn7 m=some ((zs9 m.kind).foldl (λ w b=>cpF m b.toNat w) {aK.zero with kind:=m.kind}):=by
 unfold zn7;obtain⟨h5,hc⟩:=zaI5 m.kind;have hlen:(((zb8 m.kind).toList.map λ b=>(b.toNat:Int)).length:Int)=((zs9 m.kind).length:Int):=by rw[cO];rfl
 have key:=zV7 (body:=zai0 m) (zs9 m.kind) 0 (λ i (w:aK)=>((i:Int),w)) (λ _ b w=>some (.inl (cpF m b.toNat w))) (λ w=>w)
  (λ i w hi=>by
   unfold zai0;rw[hlen];have h3:0<=(i:Int)/\(i:Int)<((zs9 m.kind).length:Int):=by omega
   simp only[h3.1,h3.2,cN,zl3,bU,bT,Int.toNat_natCast,zbD1 m.kind hi,zc2 i (show i<4611686018427387904 by omega)];have hm:=hc _ (zm9 (z:=0) hi);generalize((zs9 m.kind).getD i 0).toNat=c at hm;unfold zaY5 at hm;simp only[bX,dX,gF]at hm;rcases hm with rfl|rfl|rfl|rfl|rfl|rfl|rfl|rfl|rfl|rfl|rfl|rfl<;>rfl)
  (λ w=>by unfold zai0;rw[hlen,bN (by simp)]) {aK.zero with kind:=m.kind}
 rw[zb0 (by rw[zbg4];omega),show((0,{aK.zero with kind:=m.kind}):Int×aK)=(λ(i:Nat) (w:aK)=>((i:Int),w)) 0 {aK.zero with kind:=m.kind}from rfl,key,zde7];rfl
def zap4(m:aK)(c:Nat):Bool:=match c with
 |80=>za3 m.aI
 |71=>inN 0 1073741824 m.gen
 |82=>inN 0 1073741824 m.round
 |69=>inN 0 1073741824 m.epoch
 |65=>zy8 m.aW.name&&(((decide (m.aW.aJ=aC.zero)&&!decide (m.kind=1))&&!decide (m.kind=4))||zF1 m.aW.aJ)
 |89=>inN 0 7 m.aX
 |83=>decide (0<=m.site)&&decide (m.site<4)
 |73=>inN 1 99 m.inc
 |76=>decide (m.label=-1)||(decide (1<=m.label)&&decide (m.label<=99))
 |87=>(zac0 m.state&&(!decide (m.kind=7)||decide (((m.state.aG.length:Nat):Int)=0)))&&(!decide (m.kind=9)||decide (((m.state.bA.length:Nat):Int)=0))
 |79=>decide (m.options.length<=40)&&m.options.all optV
 |_=>true
theorem zdD9(m:aK)(c:Nat)(hc:c∈zaY5):zG4 m (c:Int)=some (zap4 m c):=by
 unfold zaY5 at hc;simp only[bX,dX,gF]at hc;rcases hc with rfl|rfl|rfl|rfl|rfl|rfl|rfl|rfl|rfl|rfl|rfl|rfl
 .unfold zG4;rw[bO (by decide),zao3];rfl
 .rfl
 .unfold zG4;rw[bN (by decide),bN (by decide),bO (by decide),zau6,Option.bind_some,zbq6];rfl
 .rfl
 .rfl
 .rfl
 .rfl
 .rfl
 .rfl
 .rfl
 .unfold zG4;rw[bN (by decide),bN (by decide),bN (by decide),bN (by decide),bN (by decide),bN (by decide),bN (by decide),bN (by decide),bN (by decide),bO (by decide),zbq4,Option.bind_some];rfl
 .unfold zG4;rw[bN (by decide),bN (by decide),bN (by decide),bN (by decide),bN (by decide),bN (by decide),bN (by decide),bN (by decide),bN (by decide),bN (by decide),bO (by decide)];show _=some (decide (m.options.length<=40)&&m.options.all optV)
  by_cases h:m.options.length<=40
  .rw[bN (by simp;omega),zJ8 m.options.length (λ i=>optV (m.options.getD i bB.zero)) (λ i hi=>by
    unfold zas3;have h3:0<=(i:Int)/\(i:Int)<(m.options.length:Int):=by omega
    simp only[h3.1,h3.2,cN,zl3,bU,bT,Int.toNat_natCast];rw[zbq7,Option.bind_some,zk8 (by omega) (by omega)];cases optV (m.options.getD i bB.zero)<;>rfl) (by unfold zas3;simp),Option.bind_some,zcl0 m.options bB.zero optV,cB h]
   cases m.options.all optV<;>rfl
  .rw[bO (by simp;omega),fF h];rfl
def encR(m:aK)(c:Nat):List Int:=match c with
 |80=>encP m.aI
 |71=>encI m.gen
 |82=>encI m.round
 |69=>encI m.epoch
 |89=>encI m.aX
 |83=>encI m.site
 |73=>encI m.inc
 |76=>encI (m.label+1)
 |65=>encT m.aW.name++(encI m.aW.aJ.mode++encI m.aW.aJ.aV)
 |68=>[if m.done=true then 1 else 0]
 |87=>encI ((encS m.state).length:Int)++encS m.state
 |79=>encI (m.options.length:Int)++m.options.flatMap encO
 |_=>[]
theorem zcl1{m:aK}(h:zap4 m 65=true):m.aW.name.size<=12/\okA m.aW.aJ:=by
 have h':(zy8 m.aW.name&&(((decide (m.aW.aJ=aC.zero)&&!decide (m.kind=1))&&!decide (m.kind=4))||zF1 m.aW.aJ))=true:=h;rw[bM,dE]at h';refine⟨zaj8 h'.1,?_⟩;rcases h'.2 with k|k
 .rw[bM,bM,bQ]at k;rw[k.1.1];unfold okA okI aC.zero;simp
 .exact zat1 k
theorem zdP9{m:aK}{c:Nat}(hc:c∈zaY5)(hf:zap4 m c=true):(encR m c).length<=1000000:=by
 have hn:∀{lo hi x:Int},inN lo hi x=true->0<=lo->hi<=1073741824->(encI x).length<=1000000:=λ h h0 h1=>by have:=zu3 (zam2 h h0 h1);omega
 unfold zaY5 at hc;simp only[bX,dX,gF]at hc;rcases hc with rfl|rfl|rfl|rfl|rfl|rfl|rfl|rfl|rfl|rfl|rfl|rfl
 .have:=zaV9 (p:=m.aI) hf;show(encP m.aI).length<=_;omega
 .exact hn (lo:=0) (hi:=1073741824) hf (by decide) (by decide)
 .have⟨k1,k2⟩:=zcl1 hf;have h1:=zbI0 (s:=m.aW.name) (by omega);have h2:=zu3 k2.1;have h3:=zu3 k2.2;show(encT m.aW.name++(encI m.aW.aJ.mode++encI m.aW.aJ.aV)).length<=_;simp only[bR];omega
 .exact hn (lo:=0) (hi:=7) hf (by decide) (by decide)
 .show([if m.done=true then 1 else 0]:List Int).length<=_;simp
 .have h:(decide (0<=m.site)&&decide (m.site<4))=true:=hf;simp only[bM,bQ]at h;have:=zu3 (x:=m.site) (by unfold okI;omega);show(encI m.site).length<=_;omega
 .exact hn (lo:=1) (hi:=99) hf (by decide) (by decide)
 .exact hn (lo:=0) (hi:=1073741824) hf (by decide) (by decide)
 .exact hn (lo:=0) (hi:=1073741824) hf (by decide) (by decide)
 .have h:(decide (m.label=-1)||(decide (1<=m.label)&&decide (m.label<=99)))=true:=hf;simp only[dE,bM,bQ]at h;have:=zu3 (x:=m.label+1) (by unfold okI;omega);show(encI (m.label+1)).length<=_;omega
 .have h:((zac0 m.state&&(!decide (m.kind=7)||decide (((m.state.aG.length:Nat):Int)=0)))&&(!decide (m.kind=9)||decide (((m.state.bA.length:Nat):Int)=0)))=true:=hf;rw[bM,bM]at h;have h1:=zbt9 (zbc9 h.1.1).1;have h2:=zu3 (x:=((encS m.state).length:Int)) (by unfold okI;omega);show(encI ((encS m.state).length:Int)++encS m.state).length<=_;simp only[bR];omega
 .have h:(decide (m.options.length<=40)&&m.options.all optV)=true:=hf;rw[bM,bQ,cS]at h;have h1:(m.options.flatMap encO).length<=20000*m.options.length:=zaw6 λ x hx=>zde6 (zcB5 (h.2 x hx));have h2:=zu3 (x:=(m.options.length:Int)) (by have:=h.1;unfold okI;omega);show(encI (m.options.length:Int)++m.options.flatMap encO).length<=_;have:=h.1;simp only[bR];omega
theorem zcN4(m:aK)(i:Nat)(acc:List Int)(hi:i<(zs9 m.kind).length)(hc:((zs9 m.kind).getD i 0).toNat∈zaY5)(hf:zap4 m ((zs9 m.kind).getD i 0).toNat=true)(hr:room acc (encR m ((zs9 m.kind).getD i 0).toNat)):
  zF5 m ((i:Int),acc)=some (.inl (((i+1:Nat):Int),acc++encR m ((zs9 m.kind).getD i 0).toNat)):=by
 obtain⟨h5,_⟩:=zaI5 m.kind;have hlen:(((zb8 m.kind).toList.map λ b=>(b.toNat:Int)).length:Int)=((zs9 m.kind).length:Int):=by rw[cO];rfl
 unfold zF5;rw[hlen];have h3:0<=(i:Int)/\(i:Int)<((zs9 m.kind).length:Int):=by omega
 simp only[h3.1,h3.2,cN,zl3,bU,bT,Int.toNat_natCast,zbD1 m.kind hi,zc2 i (show i<4611686018427387904 by omega)];generalize((zs9 m.kind).getD i 0).toNat=c at hc hf hr;unfold zaY5 at hc;simp only[bX,dX,gF]at hc;rcases hc with rfl|rfl|rfl|rfl|rfl|rfl|rfl|rfl|rfl|rfl|rfl|rfl
 .rw[bO (by decide),(zbg3 (p:=m.aI) hf hr).2];rfl
 .rw[bN (by decide),bO (by decide),(zu2 (x:=m.gen) (zam2 (lo:=0) (hi:=1073741824) hf (by decide) (by decide)) hr).2];rfl
 .have⟨k1,k2⟩:=zcl1 hf;have hr':room acc (encT m.aW.name++(encI m.aW.aJ.mode++encI m.aW.aJ.aV)):=hr;rw[bN (by decide),bN (by decide),bO (by decide),(zbg2 (by omega) hr'.left).2,Option.bind_some,(zu2 k2.1 hr'.right.left).2,Option.bind_some,(zu2 k2.2 hr'.right.right).2,Option.bind_some];simp only[bZ];rfl
 .rw[bN (by decide),bN (by decide),bN (by decide),bO (by decide),(zu2 (x:=m.aX) (zam2 (lo:=0) (hi:=7) hf (by decide) (by decide)) hr).2];rfl
 .rw[bN (by decide),bN (by decide),bN (by decide),bN (by decide),bO (by decide)];have hl:acc.length+1<=4294967296:=by unfold room at hr;omega
  show _=some (Sum.inl (_,acc++[if m.done=true then 1 else 0]));cases m.done with
  |true=>rw[bO rfl,gdp hl];rfl
  |false=>rw[bN (by decide),gdp hl];rfl
 .have h:(decide (0<=m.site)&&decide (m.site<4))=true:=hf;simp only[bM,bQ]at h;rw[bN (by decide),bN (by decide),bN (by decide),bN (by decide),bN (by decide),bO (by decide),(zu2 (x:=m.site) (by unfold okI;omega) hr).2];rfl
 .rw[bN (by decide),bN (by decide),bN (by decide),bN (by decide),bN (by decide),bN (by decide),bO (by decide),(zu2 (x:=m.inc) (zam2 (lo:=1) (hi:=99) hf (by decide) (by decide)) hr).2];rfl
 .rw[bN (by decide),bN (by decide),bN (by decide),bN (by decide),bN (by decide),bN (by decide),bN (by decide),bO (by decide),(zu2 (x:=m.round) (zam2 (lo:=0) (hi:=1073741824) hf (by decide) (by decide)) hr).2];rfl
 .rw[bN (by decide),bN (by decide),bN (by decide),bN (by decide),bN (by decide),bN (by decide),bN (by decide),bN (by decide),bO (by decide),(zu2 (x:=m.epoch) (zam2 (lo:=0) (hi:=1073741824) hf (by decide) (by decide)) hr).2];rfl
 .have h:(decide (m.label=-1)||(decide (1<=m.label)&&decide (m.label<=99)))=true:=hf;simp only[dE,bM,bQ]at h;rw[bN (by decide),bN (by decide),bN (by decide),bN (by decide),bN (by decide),bN (by decide),bN (by decide),bN (by decide),bN (by decide),bO (by decide),zk8 (x:=m.label+1) (by omega) (by omega),(zu2 (x:=m.label+1) (by unfold okI;omega) hr).2];rfl
 .have h:((zac0 m.state&&(!decide (m.kind=7)||decide (((m.state.aG.length:Nat):Int)=0)))&&(!decide (m.kind=9)||decide (((m.state.bA.length:Nat):Int)=0)))=true:=hf;rw[bM,bM]at h;have h1:=zbt9 (zbc9 h.1.1).1;have hr':room acc (encI ((encS m.state).length:Int)++encS m.state):=hr;rw[bN (by decide),bN (by decide),bN (by decide),bN (by decide),bN (by decide),bN (by decide),bN (by decide),bN (by decide),bN (by decide),bN (by decide),bO (by decide),zbV6,h.1.1,bO rfl,Option.bind_some,(zu2 (by unfold okI;omega) hr'.left).2,Option.bind_some];have:=hr'.right;unfold room at this;rw[gdp (by simp only;omega),bZ];rfl
 .have h:(decide (m.options.length<=40)&&m.options.all optV)=true:=hf;rw[bM,bQ,cS]at h;have hr':room acc (encI (m.options.length:Int)++m.options.flatMap encO):=hr;have h40:=h.1;rw[bN (by decide),bN (by decide),bN (by decide),bN (by decide),bN (by decide),bN (by decide),bN (by decide),bN (by decide),bN (by decide),bN (by decide),bN (by decide),bO (by decide),(zu2 (by unfold okI;omega) hr'.left).2,Option.bind_some];rw[zat2 (body:=zaa8 m) (enc:=encO) (ok:=λ a=>optV a=true) m.options bB.zero (by omega) (λ i acc hi hx ha=>by
   unfold zaa8;simp only;rw[bO (by simpa using hi),gdp (by omega)];simp only[Int.toNat_natCast];rw[(zbI5 hx ha).2,Option.bind_some,zc2 i (by omega)]) (λ acc=>by unfold zaa8;simp) h.2 _ hr'.right,Option.bind_some]
  unfold zaC1;simp only[zc2 i (show i<4611686018427387904 by omega),bZ];rfl
def zbS8(m:aK):List Int:=encI m.kind++(zs9 m.kind).flatMap λ b=>encR m b.toNat
theorem zdn0{m:aK}(hk:1<=m.kind/\m.kind<=15)(h:∀b∈zs9 m.kind,zap4 m b.toNat=true):zP2 m=some (zbS8 m):=by
 obtain⟨h5,hc⟩:=zaI5 m.kind;have e1:=zu3 (x:=m.kind) (by unfold okI;omega);have e2:((zs9 m.kind).flatMap λ b=>encR m b.toNat).length<=1000000*(zs9 m.kind).length:=zaw6 λ b hb=>zdP9 (hc b hb) (h b hb);have hr:room (encI m.kind) ((zs9 m.kind).flatMap λ b=>encR m b.toNat):=by unfold room;omega
 have hr0:room [] (encI m.kind):=by unfold room at*;simp;omega
 have hlen:(((zb8 m.kind).toList.map λ b=>(b.toNat:Int)).length:Int)=((zs9 m.kind).length:Int):=by rw[cO];rfl
 unfold zP2;rw[(zu2 (by unfold okI;omega) hr0).2,Option.bind_some,zb0 (by rw[zbg4];omega),List.nil_append];rw[zat2 (body:=zF5 m) (enc:=λ b:UInt8=>encR m b.toNat) (ok:=λ b=>b.toNat∈zaY5/\zap4 m b.toNat=true) (zs9 m.kind) 0 (by omega) (λ i acc hi hx ha=>zcN4 m i acc hi hx.1 hx.2 ha)
  (λ acc=>by unfold zF5;rw[hlen,bN (by simp)]) (λ b hb=>⟨hc b hb,h b hb⟩) _ hr]
 rfl
mutual
def widE:aZ->Bool
 |⟨_,_,ks⟩=>decide (ks.length<=1000000)&&widL ks
def widL:List aZ->Bool
 |[]=>true
 |k::l=>widE k&&widL l
end
theorem zde8(e:aZ):widE e=(decide (e.bE.length<=1000000)&&widL e.bE):=by cases e;rw[widE]
theorem zcN5:∀{l:List aZ} {k:aZ},widL l=true->k∈l->widE k=true
 |x::l,k,h,hk=>by
  simp only[widL,bM]at h;rcases bX.1 hk with rfl|hk
  .exact h.1
  .exact zcN5 h.2 hk
theorem zcN6{e k:aZ}(h:k∈e.bE):_root_.SizeOf.sizeOf k<_root_.SizeOf.sizeOf e:=by cases e;have:=iW h;simp only at h this⊢;simp only[aZ.mk.sizeOf_spec];omega
theorem zbx9:∀(n:Nat) (e:aZ),_root_.SizeOf.sizeOf e<n->widE e=true->zY2 n e e=some true
 |0,e,h,_=>by omega
 |n+1,e,h,hw=>by
  show zL4 (zY2 n) e e=some true;unfold zL4;rw[zde8,bM,bQ]at hw;rw[bN (by simp),zJ8 e.bE.length (λ _=>true) (λ i hi=>by
   unfold zac3;have h3:0<=(i:Int)/\(i:Int)<(e.bE.length:Int):=by omega
   simp only[h3.1,h3.2,cN,zl3,bU,bT,Int.toNat_natCast];have hm:=zm9 (z:=aZ.zero) hi;rw[zbx9 n _ (by have:=zcN6 hm;omega) (zcN5 hw.2 hm),Option.bind_some,zk8 (by omega) (by omega)];rfl) (by unfold zac3;simp)]
  simp[zat5]
theorem zcl2(s:aS)(hq:s.aG.length<=1000000)(hs:Lens s.aG)(hn:s.bA.length<=1000000)(hw:∀n∈s.bA,widE n.bK=true):zr0 s s=some true:=by
 unfold zr0;rw[zaY3 _ _ hq (λ q h=>hs q h),Option.bind_some,bN (by simp),zJ8 s.bA.length (λ _=>true) (λ i hi=>by
  unfold zai3 zi3 zg3;have h3:0<=(i:Int)/\(i:Int)<(s.bA.length:Int):=by omega
  simp only[h3.1,h3.2,cN,zl3,bU,bT,Int.toNat_natCast,fT];rw[zbx9 _ _ (dY _) (hw _ (zm9 hi)),Option.bind_some,Option.bind_some,zk8 (by omega) (by omega)];rfl) (by unfold zai3;simp)]
 simp[zav9]
theorem zaT1(s:aS)(hq:s.aG.length<=1000000)(hs:Lens s.aG):zr0 s aS.zero=some (zbO2 s):=by
 unfold zr0 zbO2;rw[zaY3 _ _ hq (λ q h=>hs q h),Option.bind_some]
 by_cases c:s.aG=[]
 .by_cases d:s.bA=[]
  .rw[bN (by simp[c,d,aS.zero]),zJ8 0 (λ _=>true) (λ i hi=>by omega) (by unfold zai3;simp[d])];simp[zav9,c,d]
  .rw[bO (by simp[c,d,aS.zero])];simp[c,d]
 .rw[bO (by simp[c,aS.zero])];simp[c]
theorem zbq9{α β X:Type}(p:α->Bool)(f:α->β)(fin:List β->X):∀(l:List α) (i:Nat) (s:List β),walk (λ _ a s=>some (.inl (if p a=true then s++[f a]else s))) fin l i s=some (fin (s++(l.filter p).map f))
 |[],i,s=>by simp[walk]
 |a::l,i,s=>by
  simp only[walk,hI];rw[zbq9 p f fin l (i+1)]
  by_cases h:p a=true<;>simp[h]
theorem zbr0{α β:Type}(l:List α)(z:α)(p:α->Bool)(f:α->β){body:Int×List β->Option ((Int×List β)⊕List β)}
  (hb:∀(i:Nat) (s:List β),i<l.length->s.length<=i->body ((i:Int),s)=some (.inl (((i+1:Nat):Int),if p (l.getD i z)=true then s++[f (l.getD i z)]else s)))
  (he:∀s,body ((l.length:Int),s)=some (.inr s)):zc1 body (0,[])=some ((l.filter p).map f):=by
 have key:=zv8 (body:=body) l z (λ i (s:List β)=>((i:Int),s)) (λ _ a s=>some (.inl (if p a=true then s++[f a]else s))) (λ s=>s) (λ i s=>s.length<=i)
  (λ i s hi hs=>by
   refine⟨?_,λ s' hs'=>?_⟩
   .rw[hb i s hi hs];rfl
   .simp only[cK,dW]at hs';subst hs';split
    .rw[bR,List.length_singleton];omega
    .omega) (λ s _=>he s) [] (by simp)
 rw[show((0,[]):Int×List β)=(λ(i:Nat) (s:List β)=>((i:Int),s)) 0 []from rfl,key,zbq9];rfl
def zcv0(p:aF)(e:aY):Bool:=decide (e.kind=1)&&!decide (e.aI=p)
def zbO8(l:List bF)(e:aY):bD:=⟨e.aI.site,{aK.zero with kind:=4,aI:=e.aI,gen:=(genT l e.aI e.name).1,aW:=⟨e.name,e.aJ⟩}⟩
def zW3(l:List bF)(ev:List aY)(p:aF):List bD:=(ev.filter (zcv0 p)).map (zbO8 l)
theorem zaT2(l:List bF)(ev:List aY)(p:aF)(hl:l.length<=1000000)(he:ev.length<=1000000):zl1 l ev p=some (zW3 l ev p):=by
 unfold zl1 zW3;rw[zbr0 ev aY.zero (zcv0 p) (zbO8 l) (λ i s hi hs=>by
  unfold zaq5 zcv0 zbO8;have h3:0<=(i:Int)/\(i:Int)<(ev.length:Int):=by omega
  have h1:s.length+1<=4294967296:=by omega
  simp only[h1,h3.1,h3.2,cN,zl3,bU,bT,Int.toNat_natCast,zc2 i (show i<4611686018427387904 by omega),zcj1 _ _ _ hl,Option.bind_some]
  by_cases e1:(ev.getD i aY.zero).kind=1<;>by_cases e2:(ev.getD i aY.zero).aI=p<;>simp[e1,e2,-List.getD_eq_getElem?_getD]) (λ s=>by unfold zaq5;simp),Option.bind_some]
 rfl
theorem zaM3(h:bC)(ev:List aY)(p:aF)(hl:h.tags.length<=1000000)(he:ev.length<=1000000):zi7 h ev p=some (zW3 h.tags ev p):=by
 unfold zi7 zW3;rw[zbr0 ev aY.zero (zcv0 p) (zbO8 h.tags) (λ i s hi hs=>by
  unfold zal3 zcv0 zbO8;have h3:0<=(i:Int)/\(i:Int)<(ev.length:Int):=by omega
  have h1:s.length+1<=4294967296:=by omega
  simp only[h1,h3.1,h3.2,cN,zl3,bU,bT,Int.toNat_natCast,zc2 i (show i<4611686018427387904 by omega),zdZ5 _ _ _ hl,Option.bind_some]
  by_cases e1:(ev.getD i aY.zero).kind=1<;>by_cases e2:(ev.getD i aY.zero).aI=p<;>simp[e1,e2,-List.getD_eq_getElem?_getD]) (λ s=>by unfold zal3;simp),Option.bind_some]
 rfl
theorem zay1(l:List bF)(ev:List aY)(p:aF):(zW3 l ev p).length<=ev.length:=by unfold zW3;rw[cO];exact iG _ _
def insT(x:bF):Bool->List bF->List bF
 |d,[]=>if d=true then[]else[x]
 |d,t::l=>(if d=false/\¬ltT t x then[x]else[])++((if keyT t=keyT x then[]else[t])++insT x (d||!decide (ltT t x)) l)
theorem zcN7(x:bF):∀(d:Bool) (l:List bF),(insT x d l).length<=l.length+(if d=true then 0 else 1)
 |d,[]=>by cases d<;>simp[insT]
 |d,t::l=>by
  have h:=zcN7 x (d||!decide (ltT t x)) l;simp only[insT,bR,List.length_cons]
  by_cases e:keyT t=keyT x<;>by_cases k:ltT t x<;>cases d<;>simp[e,k]at h⊢<;>omega
theorem zbd0(a b:bF):cmpT a b=0↔keyT a=keyT b:=by
 unfold cmpT
 by_cases h:ltT a b
 .simp[h,zaO0 h]
 .by_cases h2:keyT a=keyT b<;>simp[h,h2]
theorem zcN8(l:List bF)(x:bF)(hl:l.length<=1000000):zc1 (zL9 l x) (false,0,[])=some ((walk (X:=Bool×List bF) (λ(_:Nat) t (s:Bool×List bF)=>some (.inl (s.1||!decide (ltT t x),s.2++((if s.1=false/\¬ltT t x then[x]else[])++(if keyT t=keyT x then[]else[t]))))) (λ s=>s) l 0 (false,[])).getD (false,[])):=by
 have key:=zv8 (body:=zL9 l x) l bF.zero (λ i (s:Bool×List bF)=>(s.1,(i:Int),s.2)) (λ(_:Nat) t (s:Bool×List bF)=>some (.inl (s.1||!decide (ltT t x),s.2++((if s.1=false/\¬ltT t x then[x]else[])++(if keyT t=keyT x then[]else[t]))))) (λ s=>s)
  (λ i s=>s.2.length<=2*i) (λ i s hi hs=>by
   refine⟨?_,λ s' hs'=>?_⟩
   .obtain⟨d,o⟩:=s;simp only at hs;unfold zL9;have h3:0<=(i:Int)/\(i:Int)<(l.length:Int):=by omega
    simp only[h3.1,h3.2,cN,zl3,bU,bT,Int.toNat_natCast,zbp7,Option.bind_some];obtain⟨t,ht⟩:∃t,l.getD i bF.zero=t:=⟨_,rfl⟩;simp only[ht];unfold zaq8;simp only[zc2 i (show i<4611686018427387904 by omega),Int.toNat_natCast,ht]
    by_cases k:ltT t x
    .have k2:keyT t≠keyT x:=zaO0 k;rw[bN (by simp[zaV7,k]),bO (by simp[zbd0,k2]),zb0 (by omega)];simp[k,k2,wmap]
    .cases d with
     |true=>
      rw[bN (by simp)]
      by_cases k2:keyT t=keyT x
      .rw[bN (by simp[zbd0,k2])];simp[k,k2,wmap]
      .rw[bO (by simp[zbd0,k2]),zb0 (by omega)];simp[k,k2,wmap]
     |false=>
      rw[bO (by simp[zaV7,k]),zb0 (by omega)]
      by_cases k2:keyT t=keyT x
      .rw[bN (by simp[zbd0,k2])];simp[k,k2,wmap]
      .rw[bO (by simp[zbd0,k2]),zb0 (by simp only[bR,List.length_singleton];omega)];simp[k,k2,wmap]
   .simp only[cK,dW]at hs';subst hs';simp only[bR];have a1:(if s.1=false/\¬ltT (l.getD i bF.zero) x then[x]else[]).length<=1:=by split<;>simp
    have a2:(if keyT (l.getD i bF.zero)=keyT x then[]else[l.getD i bF.zero]).length<=1:=by split<;>simp
    omega) (λ s hs=>by unfold zL9;simp) (false,[]) (by simp)
 rw[show((false,0,[]):Bool×Int×List bF)=(λ(i:Nat) (s:Bool×List bF)=>(s.1,(i:Int),s.2)) 0 (false,[])from rfl,key];have:∀(l:List bF) (i:Nat) (s:Bool×List bF),∃r,walk (X:=Bool×List bF) (λ(_:Nat) t (s:Bool×List bF)=>some (.inl (s.1||!decide (ltT t x),s.2++((if s.1=false/\¬ltT t x then[x]else[])++(if keyT t=keyT x then[]else[t]))))) (λ s=>s) l i s=some r:=by
  intro l;induction l with
  |nil=>intro i s;exact⟨_,rfl⟩
  |cons t l ih=>intro i s;simp only[walk];exact ih _ _
 obtain⟨r,hr⟩:=this l 0 (false,[]);rw[hr];rfl
theorem zbS9(x:bF):∀(l:List bF) (i:Nat) (d:Bool) (o:List bF),∃d' o',walk (X:=Bool×List bF) (λ(_:Nat) t (s:Bool×List bF)=>some (.inl (s.1||!decide (ltT t x),s.2++((if s.1=false/\¬ltT t x then[x]else[])++(if keyT t=keyT x then[]else[t]))))) (λ s=>s) l i (d,o)=some (d',o')/\o'++(if d'=true then[]else[x])=o++insT x d l/\o'.length<=o.length+2*l.length
 |[],i,d,o=>⟨d,o,rfl,rfl,by simp⟩
 |t::l,i,d,o=>by
  simp only[walk];obtain⟨d',o',h1,h2,h3⟩:=zbS9 x l (i+1) (d||!decide (ltT t x)) (o++((if d=false/\¬ltT t x then[x]else[])++(if keyT t=keyT x then[]else[t])));refine⟨d',o',h1,?_,?_⟩
  .rw[h2];simp only[insT,bZ]
  .have a1:(if d=false/\¬ltT t x then[x]else[]).length<=1:=by split<;>simp
   have a2:(if keyT t=keyT x then[]else[t]).length<=1:=by split<;>simp
   simp only[bR,List.length_cons]at h3⊢;omega
theorem zdn1(l:List bF)(x:bF)(hl:l.length<=1000000):zs4 l x=some (insT x false l):=by
 unfold zs4;obtain⟨d',o',h1,h2,h3⟩:=zbS9 x l 0 false [];rw[zcN8 l x hl,h1,Option.getD_some,Option.bind_some];unfold zaE8;rw[List.nil_append]at h2;rw[<-h2];cases d' with
 |true=>simp
 |false=>show gd (o'.length+1<=4294967296) (some (o'++[x]))=_;rw[zb0 (by simp only[List.length_nil]at h3;omega)];rfl
abbrev ResH:=bC×List bD×List aY×Int
def errH(e:Int):ResH:=(bC.zero,[],[],e)
theorem ValidT.small{t:List aA}(h:ValidT t):Small t:=⟨by have:=h.len;omega,h.lens⟩
def zap5(h:bC)(m:aK):ResH:=
 let v:=zE9 h.aG m.aI m.aW m.aX
 if v.2.2=0 then
  let q:=v.1.getD (zr8 v.1 m.aW.name).toNat aA.zero
  (⟨v.1,insT ⟨m.aI,m.aW.name,m.gen⟩ false h.tags⟩,zC9 m (getH q.aL m.aI) (!(zB2 q m.aI).2)::zW3 h.tags v.2.1 m.aI,v.2.1,0)
 else errH v.2.2
theorem zcp2(h:bC)(m:aK)(hV:ValidT h.aG)(ht:h.tags.length<=1000000):zah4 h m=some (zap5 h m):=by
 unfold zah4 zap5;have hs:=zbB8 hV.small m.aI m.aW m.aX;rw[zch5,Option.bind_some]
 by_cases e:(zE9 h.aG m.aI m.aW m.aX).2.2=0
 .obtain⟨i,hi,hn,hf,e0,h1,_,hv⟩:=zbO0 e;have hlen:(zE9 h.aG m.aI m.aW m.aX).1.length=h.aG.length:=by rw[h1,eA]
  have hi':i<(zE9 h.aG m.aI m.aW m.aX).1.length:=by omega
  have hn':((zE9 h.aG m.aI m.aW m.aX).1.getD i aA.zero).aB.name=m.aW.name:=by rw[h1,zaI1 _ _ _ _ hi,(zab1 (hV.each _ (zm9 (z:=aA.zero) hi)) (.claim m.aI m.aW.aJ m.aX e0)).2];exact hn
  have hf':zr8 (zE9 h.aG m.aI m.aW m.aX).1 m.aW.name=i:=by rw[<-hn'];exact zbc7 hv.asc hi'
  have hq:=zu8 (hv.each _ (zm9 (z:=aA.zero) hi'));rw[bN (nd0 e),bO e,zaY2 _ _ (by have:=hv.len;omega),Option.bind_some,hf',bO (by simp),zb0 (by omega)];simp only[Int.toNat_natCast];rw[zN4 _ _ (by omega),Option.bind_some,zb0 (by omega),zaw4 _ _ (by omega) (by omega),Option.bind_some];unfold zaw2;have hg:=zay1 h.tags (zE9 h.aG m.aI m.aW m.aX).2.1 m.aI;have:=hs.2.2;rw[zaT2 _ _ _ ht this,Option.bind_some,zb0 (by omega),zdn1 _ _ ht,Option.bind_some];rfl
 .rw[bO (nd1 e),bN e];rfl
theorem zcp3(t:List aA)(hl:t.length<=1000000)(hs:Lens t):zn8 t=some t:=by
 unfold zn8;rw[zav1 t aA.zero id [] hl (by simp) (λ i s hi hs'=>by
  have hq:=hs _ (zm9 (z:=aA.zero) hi);unfold zav8 za5 za4;have h3:0<=(i:Int)/\(i:Int)<(t.length:Int):=by omega
  have h1:s.length+1<=4294967296:=by omega
  have a1:(t.getD i aA.zero).aL.length<=4294967296:=by omega
  have a2:(t.getD i aA.zero).aH.length<=4294967296:=by omega
  have a3:(t.getD i aA.zero).aU.length<=4294967296:=by omega
  simp only[h1,h3.1,h3.2,a1,a2,a3,cN,zl3,bU,bT,Int.toNat_natCast,zc2 i (show i<4611686018427387904 by omega),Option.bind_some];rfl) (λ s=>by unfold zav8;simp),Option.bind_some]
 unfold zaL8;simp
def zaL4(l:List bF)(p:aF)(n:ByteArray)(has:Bool):List bF:=l.filter λ t=>has||!decide (keyT t=(p,n))
theorem zbO9{α G X:Type}(l:List α)(z:α)(p:α->Bool)(mk:Nat->List α->G)(fin:List α->X){body:G->Option (G⊕X)}
  (hb:∀(i:Nat) (s:List α),i<l.length->s.length<=i->body (mk i s)=some (.inl (mk (i+1) (if p (l.getD i z)=true then s++[l.getD i z]else s))))
  (he:∀s,body (mk l.length s)=some (.inr (fin s))):zc1 body (mk 0 [])=some (fin (l.filter p)):=by
 rw[zv8 (body:=body) l z mk (λ _ a s=>some (.inl (if p a=true then s++[a]else s))) fin (λ i s=>s.length<=i)
  (λ i s hi hs=>by
   refine⟨?_,λ s' hs'=>?_⟩
   .rw[hb i s hi hs];rfl
   .simp only[cK,dW]at hs';subst hs';split
    .rw[bR,List.length_singleton];omega
    .omega) (λ s _=>he s) [] (by simp),zbq1]
 rfl
theorem zcp4(l:List bF)(p:aF)(n:ByteArray)(has:Bool)(hl:l.length<=1000000):
  ze3 l (!has) ({bF.zero with aI:=p,name:=n})=some (zaL4 l p n has,!has,{bF.zero with aI:=p,name:=n}):=by
 unfold ze3 zaL4;have e:=zbO9 (body:=zO2 l) l bF.zero (λ t=>has||!decide (keyT t=(p,n))) (λ i s=>((i:Int),!has,({bF.zero with aI:=p,name:=n}:bF),s)) (λ s=>(!has,({bF.zero with aI:=p,name:=n}:bF),s)) (λ i s hi hs=>by
  unfold zO2 zc8;have h3:0<=(i:Int)/\(i:Int)<(l.length:Int):=by omega
  have h1:s.length+1<=4294967296:=by omega
  simp only[h1,h3.1,h3.2,cN,zl3,bU,bT,Int.toNat_natCast,zc2 i (show i<4611686018427387904 by omega),Option.bind_some];obtain⟨t,ht⟩:∃t,l.getD i bF.zero=t:=⟨_,rfl⟩;simp only[ht];have k:(({t with gen:=0}:bF)={bF.zero with aI:=p,name:=n})=(keyT t=(p,n)):=by obtain⟨a,b,c⟩:=t;simp[keyT,bF.zero]
  simp only[k];cases has<;>by_cases k2:keyT t=(p,n)<;>simp[k2]) (λ s=>by unfold zO2;simp)
 rw[show((0,!has,{bF.zero with aI:=p,name:=n},[]):Int×Bool×bF×List bF)=(λ(i:Nat) (s:List bF)=>((i:Int),!has,({bF.zero with aI:=p,name:=n}:bF),s)) 0 []from rfl,e];rfl
theorem zcl3(l:List bF)(ps:List aF)(hl:l.length<=1000000)(hp:ps.length<=1000000):
  zq6 l ps=some (l.filter (λ t=>decide (t.aI∈ps)),ps):=by
 unfold zq6;have e:=zbO9 (body:=zL0 l) l bF.zero (λ t=>decide (t.aI∈ps)) (λ i s=>((i:Int),ps,s)) (λ s=>(ps,s)) (λ i s hi hs=>by
  unfold zL0 zo6;have h3:0<=(i:Int)/\(i:Int)<(l.length:Int):=by omega
  have h1:s.length+1<=4294967296:=by omega
  simp only[h1,h3.1,h3.2,cN,zl3,bU,bT,Int.toNat_natCast,zc2 i (show i<4611686018427387904 by omega),zas9 _ _ hp,Option.bind_some]
  by_cases k2:(l.getD i bF.zero).aI∈ps<;>simp[k2,-List.getD_eq_getElem?_getD]) (λ s=>by unfold zL0;simp)
 rw[show((0,ps,[]):Int×List aF×List bF)=(λ(i:Nat) (s:List bF)=>((i:Int),ps,s)) 0 []from rfl,e];rfl
theorem zde9{t:List aA}{nm:ByteArray}{x:aA×List aT×Int}(ev:List aY)(hx:zaX9 x):(putT t nm x ev).2.1.length<=ev.length+16:=by
 have:=hx.2.2.2;unfold putT;split
 .simp only[zah7,bR,cO];omega
 .simp[errT]
theorem zbP0{t:List aA}(h:ValidT t)(p:aF)(a:aO):(zF0 t p a).2.1.length<=17:=by
 unfold zF0 atT;split
 .simp[errT]
 .split
  .simp[errT]
  .refine fG (zde9 _ (zbf2 _ _ _)) ?_;split<;>simp
theorem zbD2{t:List aA}(h:ValidT t)(p:aF)(n:ByteArray):(zE3 t p n).2.1.length<=17:=by
 unfold zE3 atT;split
 .simp[errT]
 .split
  .simp[errT]
  .exact fG (zde9 _ (zaY0 _ _)) (by simp)
def zU0(h:bC)(m:aK):ResH:=
 let i:=zr8 h.aG m.aW.name
 if i<0 then errH 10 else
 let c:=if(zB2 (h.aG.getD i.toNat aA.zero) m.aI).2=true then zE3 h.aG m.aI m.aW.name else(h.aG,[],0)
 if c.2.2=0 then
  let w:=zF0 c.1 m.aI m.aW
  let r:=if w.2.2=0 then(w.1,c.2.1++w.2.1)else(c.1,c.2.1)
  let q:=r.1.getD i.toNat aA.zero
  (⟨r.1,zaL4 h.tags m.aI m.aW.name (decide (m.aI∈zA0 q))⟩,zC9 m (getH q.aL m.aI) true::zW3 h.tags r.2 m.aI,r.2,0)
 else errH c.2.2
theorem zbr1(h:bC)(m:aK)(i:Nat)(t:List aA)(ev:List aY)(hV:ValidT t)(hi:i<t.length)(ht:h.tags.length<=1000000)(he:ev.length<=1000000):
  zM3 h m i (t,ev)=some (⟨t,zaL4 h.tags m.aI m.aW.name (decide (m.aI∈zA0 (t.getD i aA.zero)))⟩,zC9 m (getH (t.getD i aA.zero).aL m.aI) true::zW3 h.tags ev m.aI,ev,0):=by
 unfold zM3;have hq:=zu8 (hV.each _ (zm9 (z:=aA.zero) hi));have hp:=zbc6 (hV.each _ (zm9 (z:=aA.zero) hi));have hg:=zay1 h.tags ev m.aI;simp only[Int.toNat_natCast];rw[zb0 (by omega),zaC5 _ (by omega) (by omega) (by omega),Option.bind_some,zas9 _ _ (by omega),Option.bind_some,zcp4 _ _ _ _ ht,Option.bind_some,zb0 (by omega),zN4 _ _ (by omega),Option.bind_some,zaT2 _ _ _ ht he,Option.bind_some,zb0 (by omega)];rfl
theorem zbr2(h:bC)(m:aK)(i:Nat)(t:List aA)(ev:List aY)(hV:ValidT t)(hi:i<t.length)(ht:h.tags.length<=1000000)(he:ev.length<=500000):
  zM4 h m i (t,ev)=some (
   let w:=zF0 t m.aI m.aW
   let r:=if w.2.2=0 then(w.1,ev++w.2.1)else(t,ev)
   let q:=r.1.getD i aA.zero
   (⟨r.1,zaL4 h.tags m.aI m.aW.name (decide (m.aI∈zA0 q))⟩,zC9 m (getH q.aL m.aI) true::zW3 h.tags r.2 m.aI,r.2,0)):=by
 unfold zM4;simp only;rw[zch6,Option.bind_some];have hs:=zbP0 hV m.aI m.aW
 by_cases e:(zF0 t m.aI m.aW).2.2=0
 .obtain⟨j,hj,h1,_,hv⟩:=zct9 e;rw[bO (cB e),zb0 (by omega),zbr1 h m i _ _ hv (by rw[h1,eA];exact hi) ht (by rw[bR];omega)];simp only[e,bT]
 .rw[bN (by simpa using e),zbr1 h m i _ _ hV hi ht (by omega)];simp only[e,bV]
theorem zbP1(h:bC)(m:aK)(hV:ValidT h.aG)(ht:h.tags.length<=1000000):zR2 h m=some (zU0 h m):=by
 unfold zR2 zU0;have hl8:=hV.len;rw[zaY2 _ _ (by omega),Option.bind_some];rcases zav0 (t:=h.aG) (nm:=m.aW.name)with f|⟨i,f,hi,hn⟩
 .rw[f,bO (by decide),bO (by decide)];rfl
 .have hq:=zu8 (hV.each _ (zm9 (z:=aA.zero) hi));rw[f,bN (by simp),bN (by omega),zcp3 _ (by omega) hV.lens,Option.bind_some,zb0 (by omega)];simp only[Int.toNat_natCast];rw[zaw4 _ _ (by omega) (by omega),Option.bind_some];rcases hb (zB2 (h.aG.getD i aA.zero) m.aI).2 with hw|hw
  rotate_left
  .simp only[hw,bP,bV];rw[zbr2 h m i _ _ hV hi ht (by simp)];simp
  .simp only[hw,bT];rw[zbV1,Option.bind_some]
   by_cases e:(zE3 h.aG m.aI m.aW.name).2.2=0
   .obtain⟨j,hj,h1,_,hv⟩:=zbC0 e;have he:=zbD2 hV m.aI m.aW.name;rw[bN (nd0 e),zb0 (by omega),zbr2 h m i _ _ hv (by rw[h1,eA];exact hi) ht (by omega)];simp only[bT,e]
   .rw[bO (nd1 e)];simp only[bT,e,bV];rfl
def zcl4(h:bC)(m:aK):ResH:=
 let v:=zaf2 h.aG m.site m.inc
 (⟨v.1,h.tags.filter λ t=>decide (t.aI∈zq7 v.1)⟩,zW3 h.tags v.2 aF.zero,v.2,0)
theorem zbg5{t:List aA}(h:ValidT t)(a b:Int):ValidT (zaf2 t a b).1:=by rw[zbC2 h];exact zbp6 h _
theorem zcp5(h:bC)(m:aK)(hV:ValidT h.aG)(ht:h.tags.length<=1000000):zah5 h m=some (zcl4 h m):=by unfold zah5 zcl4;have hv:=zbg5 hV m.site m.inc;have hp:=hv.bL;rw[zci4,Option.bind_some,zap0 hv.len hv.each,Option.bind_some,zcl3 _ _ ht (by omega),Option.bind_some,zaT2 _ _ _ ht (zbf6 _ _ _).2.2,Option.bind_some]
def zM7(h:bC)(m:aK):ResH:=
 if zS5 h=false then errH 2 else if zaf3 m=false then errH 1
 else if m.kind=1 then zap5 h m else if m.kind=2 then zU0 h m else if m.kind=5 then zcl4 h m else errH 1
theorem zcl5{h:bC}(k:zS5 h=true):ValidT h.aG:=by unfold zS5 at k;rw[bM]at k;exact(zx3 _).1 k.1
theorem zaD0(h:bC)(m:aK)(ht:h.tags.length<=1000000):zI0 h m=some (zM7 h m):=by
 unfold zI0 zM7;rw[zbx6 h ht,Option.bind_some];cases hv:zS5 h with
 |false=>rfl
 |true=>
  have hV:=zcl5 hv;simp only[cI,bP,bV,reduceCtorEq];rw[zbO7,Option.bind_some];cases hm:zaf3 m with
  |false=>rfl
  |true=>
   simp only[cI,bP,bV,reduceCtorEq]
   by_cases k1:m.kind=1
   .rw[bO (cB k1),bO k1,zcp2 h m hV ht];rfl
   .rw[bN (by simpa using k1),bN k1]
    by_cases k2:m.kind=2
    .rw[bO (cB k2),bO k2,zbP1 h m hV ht];rfl
    .rw[bN (by simpa using k2),bN k2]
     by_cases k5:m.kind=5
     .rw[bO (cB k5),bO k5,zcp5 h m hV ht];rfl
     .rw[bN (by simpa using k5),bN k5];rfl
theorem zbg6{m:aK}(h:zW2 m=true)(hk:m.kind=1\/m.kind=2\/m.kind=5):zaf3 m=true:=by
 unfold zaf3;rw[h,cA,bQ];obtain⟨h1,h2⟩:=zaW2 h;have e1:=zu3 (x:=m.kind) (by unfold okI;omega);have h5:=zbq8 m.kind;have hc:∀b∈zx2 m.kind,b.toNat∈[80,71,65,97,89,83,73]:=by
  have g:∀k:Nat,k=1\/k=2\/k=5->∀b∈(Arr.get zz1 k ⟨#[]⟩).data.toList,b.toNat∈[80,71,65,97,89,83,73]:=by rintro k (rfl|rfl|rfl)<;>decide
  unfold zx2;rw[ByteArray.toList_eq];exact g m.kind.toNat (by omega)
 have hs:∀b∈zx2 m.kind,(encF m b.toNat).length<=800:=by
  intro b hb';have hf:=(h2 b hb').2;have hn:∀{lo hi x:Int},inN lo hi x=true->0<=lo->hi<=1073741824->(encI x).length<=800:=λ h h0 h1=>by have:=zu3 (zam2 h h0 h1);omega
  have hat:zy8 m.aW.name=true->okA m.aW.aJ->(encT m.aW.name++(encI m.aW.aJ.mode++encI m.aW.aJ.aV)).length<=800:=λ h k=>by have h1:=zaj8 h;have h2:=zu3 k.1;have h3:=zu3 k.2;have h4:=zu3 (x:=((m.aW.name.size:Nat):Int)) (by unfold okI;omega);unfold encI at h4;unfold encT;simp only[bR,cO,zap3,Int.toNat_natCast]at h4⊢;omega
  have:=hc b hb';generalize b.toNat=c at this hf;simp only[bX,dX,gF]at this;rcases this with rfl|rfl|rfl|rfl|rfl|rfl|rfl
  .have:=zaV9 (p:=m.aI) hf;show(encP m.aI).length<=_;omega
  .exact hn (lo:=0) (hi:=1073741824) hf (by decide) (by decide)
  .have h:(zy8 m.aW.name&&zF1 m.aW.aJ)=true:=hf;rw[bM]at h;exact hat h.1 (zat1 h.2)
  .have h:(zy8 m.aW.name&&(decide (m.aW.aJ=aC.zero)||zF1 m.aW.aJ))=true:=hf;rw[bM]at h;exact hat h.1 (zbD0 h.2)
  .exact hn (lo:=0) (hi:=7) hf (by decide) (by decide)
  .exact hn (lo:=0) (hi:=3) hf (by decide) (by decide)
  .exact hn (lo:=1) (hi:=99) hf (by decide) (by decide)
 have e2:((zx2 m.kind).flatMap λ b=>encF m b.toNat).length<=800*(zx2 m.kind).length:=zaw6 hs;unfold encM;rw[bR];omega
def aP:aF:=⟨0,1,1⟩
def aQ:aF:=⟨1,1,1⟩
def aN:ByteArray:=⟨#[97]⟩
def aR:aD:=⟨aN,1,1,1⟩
def aH0:bC:=⟨[⟨aR,[],[],[],0⟩],[]⟩
def aM1:aK:=zS6 aP 1 5
def aM2:aK:=zS6 aQ 4 3
def aM3:aK:={aK.zero with kind:=2,aI:=aP,gen:=2,aW:={aO.zero with name:=aN}}
def aH1:bC:=⟨[⟨aR,[⟨aP,⟨5,0⟩⟩],[],[],1⟩],[⟨aP,aN,1⟩]⟩
def aH2:bC:=(zap5 aH1 aM2).1
theorem e0:newH zag2 1=(aH0,0):=by kernel_rfl
theorem p1:zW2 aM1=true:=by kernel_rfl
theorem v0:zS5 aH0=true:=by kernel_rfl
theorem c1:zap5 aH0 aM1=(aH1,[zC9 aM1 ⟨5,0⟩ true],[⟨1,aP,aN,⟨5,0⟩⟩],0):=by kernel_rfl
theorem v1:zS5 aH1=true:=by kernel_rfl
theorem p2:zW2 aM2=true:=by kernel_rfl
theorem v2:zS5 aH2=true:=by kernel_rfl
theorem p3:zW2 aM3=true:=by kernel_rfl
theorem l3:(zU0 aH2 aM3).1.tags.length<=1000000:=by
 have:decide ((zU0 aH2 aM3).1.tags.length<=1000000)=true:=by kernel_rfl
 exact iI this
theorem l2:aH2.tags.length<=1000000:=by
 have:decide (aH2.tags.length<=1000000)=true:=by kernel_rfl
 exact iI this
theorem t1:zI0 aH0 (zS6 (⟨0,1,1⟩:aF) 1 5)=some (zap5 aH0 aM1):=by
 have e:zM7 aH0 aM1=zap5 aH0 aM1:=by unfold zM7;rw[v0,zbg6 p1 (.inl rfl),bN (by decide),bN (by decide),bO (show aM1.kind=1 from rfl)]
 exact(zaD0 aH0 aM1 (by decide)).trans (by rw[e])
theorem t2:zI0 aH1 (zS6 (⟨1,1,1⟩:aF) 4 3)=some (zap5 aH1 aM2):=by
 have e:zM7 aH1 aM2=zap5 aH1 aM2:=by unfold zM7;rw[v1,zbg6 p2 (.inl rfl),bN (by decide),bN (by decide),bO (show aM2.kind=1 from rfl)]
 exact(zaD0 aH1 aM2 (by decide)).trans (by rw[e])
theorem t3:zI0 (zap5 aH1 aM2).1 ({aK.zero with kind:=2,aI:=(⟨0,1,1⟩:aF),gen:=2,aW:={aO.zero with name:=(⟨#[97]⟩:ByteArray)}})=some (zU0 aH2 aM3):=by
 have e:zM7 aH2 aM3=zU0 aH2 aM3:=by unfold zM7;rw[v2,zbg6 p3 (.inr (.inl rfl)),bN (by decide),bN (by decide),bN (by decide),bO (show aM3.kind=2 from rfl)]
 exact(zaD0 aH2 aM3 l2).trans (by rw[e])
theorem zaD1:zab7=some true:=by
 unfold zab7;rw[zcM2,e0,Option.bind_some];simp only;rw[t1,Option.bind_some,c1];simp only;rw[t2,Option.bind_some,t3,Option.bind_some,zbx6 _ l3]
 kernel_rfl
theorem zV9(m:aK)(hk:1<=m.kind/\m.kind<=15){b:Bool}(he:zu7 m ((zs9 m.kind).foldl (λ w b=>cpF m b.toNat w) {aK.zero with kind:=m.kind})=some b):
  zD5 m=some (b&&(((zs9 m.kind).all λ c=>zap4 m c.toNat)&&decide (((zbS8 m).length:Int)<=4064))):=by
 obtain⟨h5,hc⟩:=zaI5 m.kind;have hne:((zb8 m.kind).toList==(⟨#[]⟩:ByteArray).toList)=false:=by
  have h0:(⟨#[]⟩:ByteArray).toList=[]:=by rw[ByteArray.toList_eq]
  rw[h0];show(zs9 m.kind==[])=false;rw[beq_eq_false_iff_ne,zN6];have:m.kind=1\/m.kind=2\/m.kind=3\/m.kind=4\/m.kind=5\/m.kind=6\/m.kind=7\/m.kind=8\/m.kind=9\/m.kind=10\/m.kind=11\/m.kind=12\/m.kind=13\/m.kind=14\/m.kind=15:=by omega
  rcases this with h|h|h|h|h|h|h|h|h|h|h|h|h|h|h<;>rw[h]<;>decide
 have hlen:(((zb8 m.kind).toList.map λ b=>(b.toNat:Int)).length:Int)=((zs9 m.kind).length:Int):=by rw[cO];rfl
 unfold zD5;simp only[hne,dI,bT,zdP8,Option.bind_some,he,dK];cases b with
 |false=>rfl
 |true=>
  rw[bN (by decide),zb0 (by rw[zbg4];omega),zJ8 (zs9 m.kind).length (λ i=>zap4 m ((zs9 m.kind).getD i 0).toNat) (λ i hi=>by
   unfold zas5;rw[hlen];have h3:0<=(i:Int)/\(i:Int)<((zs9 m.kind).length:Int):=by omega
   simp only[h3.1,h3.2,cN,zl3,bU,bT,Int.toNat_natCast,zbD1 m.kind hi];rw[zdD9 m _ (hc _ (zm9 (z:=0) hi)),Option.bind_some,zk8 (by omega) (by omega)];cases zap4 m ((zs9 m.kind).getD i 0).toNat<;>rfl) (by unfold zas5;rw[hlen];simp),Option.bind_some,zcl0 (zs9 m.kind) 0 (λ c=>zap4 m c.toNat)]
  cases hf:(zs9 m.kind).all λ c=>zap4 m c.toNat with
  |false=>rfl
  |true=>simp only[bT,zaF9,cA];rw[zdn0 hk (λ c hc'=>cS.1 hf c hc'),Option.bind_some]
theorem zbj1:zf4 [] []=some true:=by unfold zf4;rw[bN (by simp),zJ8 0 (λ _=>true) (λ i hi=>by omega) (by unfold zR7;simp)];simp[zac5]
def scal(m w:aK):Bool:=((((((((((decide (m.kind=w.kind))&&(decide (m.aI=w.aI)))&&(decide (m.gen=w.gen)))&&(decide (m.aW=w.aW)))&&(decide (m.aX=w.aX)))&&(decide (m.inc=w.inc)))&&(decide (m.round=w.round)))&&(decide (m.epoch=w.epoch)))&&(decide (m.site=w.site)))&&(decide (m.label=w.label)))&&(decide (m.done=w.done))
theorem zaW3(m w:aK)(h1:m.state=aS.zero)(h2:w.state=aS.zero)(h3:m.options=[])(h4:w.options=[]):zu7 m w=some (scal m w):=by unfold zu7;rw[h1,h2,h3,h4,zaT1 aS.zero (by simp[aS.zero]) (λ q hq=>(nomatch hq)),zbj1];show((if scal m w=true then some (zbO2 aS.zero)else some false).bind λ v1=>(if(scal m w&&v1)=true then some true else some false).bind λ v2=>some ((scal m w&&v1)&&v2))=_;cases scal m w<;>rfl
theorem zcN9(m:aK)(hk:m.kind=1\/m.kind=2\/m.kind=5)(h1:m.state=aS.zero)(h3:m.options=[]):zD5 m=some (zaf3 m):=by
 obtain⟨kind,aI,gen,aW,aX,inc,round,epoch,site,label,done,state,options⟩:=m;simp only at hk h1 h3;subst h1 h3;have hz:zbO2 aS.zero=true:=rfl;rcases hk with rfl|rfl|rfl
 .have e:zs9 1=[80,71,65,89]:=by rw[zN6];rfl
  have e2:zx2 1=[80,71,65,89]:=by unfold zx2;rw[ByteArray.toList_eq];rfl
  rw[zV9 _ (by simp only;omega) (zaW3 _ _ rfl (by simp only[e];rfl) rfl (by simp only[e];rfl))];unfold zaf3 zW2 encM zbS8;simp only[e,e2];congr 1;rw[cJ];simp only[bM,zaH2,zbf8,scal,List.foldl_cons,List.foldl_nil,List.all_cons,List.all_nil,dV,gH,bQ];simp[zap4,zK5,encR,encF,cpF,clrF,hz,aK.zero]
  grind
 .have e:zs9 2=[80,71,65]:=by rw[zN6];rfl
  have e2:zx2 2=[80,71,97]:=by unfold zx2;rw[ByteArray.toList_eq];rfl
  rw[zV9 _ (by simp only;omega) (zaW3 _ _ rfl (by simp only[e];rfl) rfl (by simp only[e];rfl))];unfold zaf3 zW2 encM zbS8;simp only[e,e2];congr 1;rw[cJ];simp only[bM,zaH2,zbf8,scal,List.foldl_cons,List.foldl_nil,List.all_cons,List.all_nil,dV,gH,bQ];simp[zap4,zK5,encR,encF,cpF,clrF,hz,aK.zero]
  grind
 .have e:zs9 5=[83,73]:=by rw[zN6];rfl
  have e2:zx2 5=[83,73]:=by unfold zx2;rw[ByteArray.toList_eq];rfl
  rw[zV9 _ (by simp only;omega) (zaW3 _ _ rfl (by simp only[e];rfl) rfl (by simp only[e];rfl))];unfold zaf3 zW2 encM zbS8;simp only[e,e2];congr 1;rw[cJ];simp only[bM,zaH2,zbf8,scal,List.foldl_cons,List.foldl_nil,List.all_cons,List.all_nil,dV,gH,bQ];simp[zap4,zK5,encR,encF,cpF,clrF,hz,aK.zero,inN]
  grind
def kK(k:Int):Prop:=k=1\/k=2\/k=5
theorem adv_holds:∀q,(advS q).aL=(advG q).foldl (λ l g=>setL l g.aI g.aJ) q.aL:=by
 refine zbH1 (λ q h=>?_) λ q hc h=>?_
 .rw[zbo6 h,zbG9 h];rfl
 .rw[zaS0 hc,zbG8 hc,List.foldl_cons,h,(zbt1 hc).2]
theorem zP6{α:Type}(l:List α)(i:Nat)(x z:α)(h:i<l.length):(l.set i x).getD i z=x:=by rw[bS,hY h];rfl
theorem zaD2{α:Type}(l:List α){i j:Nat}(x z:α)(h:i≠j):(l.set i x).getD j z=l.getD j z:=by rw[bS,List.getElem?_set_ne h,<-bS]
theorem zcO0{α β:Type}(l:List α)(f:α->β)(i:Nat)(z:α)(y:β)(h:i<l.length):(l.map f).getD i y=f (l.getD i z):=by rw[bS,bS,cH,bW h];rfl
structure GoodH (h:bC):Prop where
 v:ValidT h.aG
 ok:∀t∈h.tags,za3 t.aI=true/\0<=t.gen/\t.gen<=1073741824
 asc:h.tags.Pairwise ltT
 same:∀k,k∈h.tags.map keyT↔k∈zak4 h.aG
theorem GoodH.count{h:bC}(g:GoodH h):(zak4 h.aG).length=h.tags.length:=by have h1:=dO (zbp8 g.v.asc) (l₂:=h.tags.map keyT) λ k hk=>(g.same k).2 hk;have h2:=dO (zcj3 g.asc) (l₂:=zak4 h.aG) λ k hk=>(g.same k).1 hk;rw[cO]at h1 h2;omega
theorem zaW4(h:bC):zS5 h=true↔GoodH h:=by
 unfold zS5;simp only[bM,cS,dH,bQ,zde0,Int.natCast_inj];constructor
 .rintro⟨hv,h1,h2,h3⟩;have hV:=(zx3 _).1 hv;have ok:∀i,i<h.tags.length->za3 (h.tags.getD i bF.zero).aI=true/\(0<=(h.tags.getD i bF.zero).gen/\(h.tags.getD i bF.zero).gen<=1073741824)/\(i=0\/ltT (h.tags.getD (i-1) bF.zero) (h.tags.getD i bF.zero)):=λ i hi=>by
   have:=h1 i hi;unfold okT at this
   simpa only[bM,dE,bQ]using this
  have asc:h.tags.Pairwise ltT:=zcL9 λ i h0 hi=>by
   rcases(ok i hi).2.2 with k|k
   .omega
   .exact k
  have sup:∀x∈zak4 h.aG,x∈h.tags.map keyT:=λ x hx=>by obtain⟨p,n⟩:=x;obtain⟨q,hq,rfl,hp⟩:=zaO9.1 hx;have:=h2 q hq;unfold zaO1 at this;rw[cS]at this;exact zbH7.1 (this p hp)
  refine⟨hV,λ t ht=>?_,asc,λ k=>⟨λ hk=>?_,sup k⟩⟩
  .obtain⟨i,hi,rfl⟩:=dU ht;have:=ok i hi;rw[zB3 _ _ _ hi]at this;exact⟨this.1,this.2.1⟩
  .exact zbp9 (zbp8 hV.asc) sup (by rw[cO];omega) k hk
 .intro g;refine⟨(zx3 _).2 g.v,λ i hi=>?_,λ q hq=>?_,g.count⟩
  .have hm:=g.ok _ (zm9 (z:=bF.zero) hi);unfold okT;simp only[bM,dE,bQ];refine⟨hm.1,hm.2,?_⟩
   by_cases e:i=0
   .exact .inl e
   .refine .inr ?_;have:=fY.1 g.asc (i-1) i (by omega) hi (by omega);rw[zB3 _ _ _ hi,zB3 _ _ _ (show i-1<h.tags.length by omega)];exact this
  .unfold zaO1;rw[cS];intro p hp;exact zbH7.2 ((g.same _).2 (zaO9.2 ⟨q,hq,rfl,hp⟩))
theorem zaT3{t:List aA}(h:ValidT t){p:aF}{n:ByteArray}:(p,n)∈zak4 t↔∃i,i<t.length/\(t.getD i aA.zero).aB.name=n/\hasQ (t.getD i aA.zero) p=true:=by
 rw[zaO9];constructor
 .rintro⟨q,hq,hn,hp⟩;obtain⟨i,hi,rfl⟩:=dU hq;refine⟨i,hi,?_⟩;rw[zB3 _ _ _ hi];exact⟨hn,(zao9 ((zt4 _).1 (h.each _ hq)).1).1 hp⟩
 .rintro⟨i,hi,hn,hp⟩;have hm:=zm9 (z:=aA.zero) hi;exact⟨_,hm,hn,(zao9 ((zt4 _).1 (h.each _ hm)).1).2 hp⟩
theorem zbD3{q:aA}{p:aF}{a:aC}{pr:Int}(h:(zI6 q p a pr).2.2=0)(x:aF):hasQ (zI6 q p a pr).1 x=true↔hasQ q x=true\/x=p:=by
 refine⟨zct8 h,λ k=>?_⟩;obtain⟨_,_,_,hf,_,hh⟩:=zbc2 h;rcases hh with⟨hc,e⟩|⟨_,hz,e,_⟩|⟨_,_,_,e,_⟩
 .rw[e];rcases k with k|rfl
  .exact k
  .refine(zt2 q x).2 (.inr ?_);rcases((zai8 _ _ _).1 hc).2.2 with k|k
   .exact absurd k (zW1 hf)
   .exact k.1
 .rw[e,zaf9];rcases k with k|rfl
  .rcases(zt2 q x).1 k with⟨w,hw,ew⟩|k
   .refine(zt2 _ x).2 (.inl ⟨w,?_,ew⟩);unfold ordQ claimC;unfold ordQ at hw;simp only[cP,dS]at hw⊢;rcases hw with hw|hw
    .exact .inl (.inl hw)
    .exact .inr hw
   .exact(zt2 _ x).2 (.inr k)
  .exact(zt2 _ x).2 (.inr hz)
 .rw[e,zaf9];rcases k with k|rfl
  .rcases(zt2 q x).1 k with⟨w,hw,ew⟩|k
   .unfold ordQ at hw;rcases cP.1 hw with hw|hw
    .exact(zt2 _ x).2 (.inl ⟨w,cW _ hw,ew⟩)
    .rw[<-eC (zG6 q.aU ⟨p,a,pr,0⟩ q.aU.length) q.aU]at hw;rcases cP.1 hw with hw|hw
     .refine(zt2 _ x).2 (.inl ⟨w,cG _ ?_,ew⟩);unfold claimW zaM7;exact cW _ hw
     .refine(zt2 _ x).2 (.inl ⟨bump w,cG _ ?_,ew⟩);unfold claimW zaM7;exact cG _ (.tail _ (cD.2 ⟨w,hw,rfl⟩))
   .exact(zt2 _ x).2 (.inr k)
  .refine(zt2 _ x).2 (.inl ⟨⟨x,a,pr,0⟩,cG _ ?_,rfl⟩);unfold claimW zaM7;exact cG _ (.head _)
theorem zcO1{q:aA}{p:aF}(h:(zI3 q p).2.2=0){x:aF}(hx:x≠p):hasQ (zI3 q p).1 x=hasQ q x:=by
 rw[cJ];refine⟨zbB9 h,λ k=>?_⟩;obtain⟨_,_,_,e,_⟩:=zaG6 h;rw[e,zaf9];rcases(zt2 q x).1 k with⟨w,hw,ew⟩|k
 .refine(zt2 _ x).2 (.inl ⟨w,?_,ew⟩);unfold ordQ zah6;unfold ordQ at hw;simp only[cP,zaV6]at hw⊢;have:w.aI≠p:=by rw[ew];exact hx
  rcases hw with hw|hw
  .exact .inl ⟨hw,this⟩
  .exact .inr ⟨hw,this⟩
 .exact(zt2 _ x).2 (.inr k)
theorem zcX7{q:aA}{p:aF}{a:aC}(h:(zE2 q p a).2.2=0){x:aF}(hx:x≠p):hasQ (zE2 q p a).1 x=hasQ q x:=by
 rw[cJ];refine⟨zbN9 h,λ k=>?_⟩;obtain⟨_,_,_,_,_,hh⟩:=zaG7 h;rcases hh with⟨_,e⟩|⟨_,e,_⟩
 .rw[e];exact k
 .rw[e,zaf9];rcases(zt2 q x).1 k with k|k
  .exact(zt2 _ x).2 (.inl k)
  .refine(zt2 _ x).2 (.inr ?_);unfold zaC4;rw[zJ7 hx];exact k
structure Only (t u:List aA) (i:Nat) (p:aF):Prop where
 v:ValidT u
 len:u.length=t.length
 name:∀j,j<t.length->(u.getD j aA.zero).aB.name=(t.getD j aA.zero).aB.name
 oth:∀j,j≠i->u.getD j aA.zero=t.getD j aA.zero
 has:∀x,x≠p->hasQ (u.getD i aA.zero) x=hasQ (t.getD i aA.zero) x
theorem Only.refl{t:List aA}(h:ValidT t)(i:Nat)(p:aF):Only t t i p:=⟨h,rfl,λ _ _=>rfl,λ _ _=>rfl,λ _ _=>rfl⟩
theorem Only.trans{t u w:List aA}{i:Nat}{p:aF}(h:Only t u i p)(k:Only u w i p):Only t w i p:=
 ⟨k.v,k.len.trans h.len,λ j hj=>(k.name j (by rw[h.len];exact hj)).trans (h.name j hj),λ j hj=>(k.oth j hj).trans (h.oth j hj),λ x hx=>(k.has x hx).trans (h.has x hx)⟩
theorem zcO2{t:List aA}{i:Nat}(hi:i<t.length){q:aA}{p:aF}(hv:ValidT (t.set i q))(hr:q.aB=(t.getD i aA.zero).aB)(hh:∀x,x≠p->hasQ q x=hasQ (t.getD i aA.zero) x):Only t (t.set i q) i p:=by
 refine⟨hv,by rw[eA],λ j hj=>?_,λ j hj=>zaD2 _ _ _ hj.symm,λ x hx=>?_⟩
 .by_cases e:i=j
  .subst e;rw[zP6 _ _ _ _ hi,hr]
  .rw[zaD2 _ _ _ e]
 .rw[zP6 _ _ _ _ hi];exact hh x hx
theorem zcB7{t:List aA}{nm:ByteArray}{i:Nat}(h:zr8 t nm=i):i<t.length/\(t.getD i aA.zero).aB.name=nm:=by
 rcases zav0 (t:=t) (nm:=nm)with f|⟨j,f,hj,hn⟩
 .omega
 .have:j=i:=by omega
  subst this;exact⟨hj,hn⟩
theorem zbI6{t:List aA}{p:aF}{nm:ByteArray}{i:Nat}(hf:zr8 t nm=i)(h:(zE3 t p nm).2.2=0):Only t (zE3 t p nm).1 i p:=by
 obtain⟨_,_,_,_,hv'⟩:=zbC0 h;unfold zE3 at h hv'⊢;obtain⟨hv,j,h1,h2,h3,e⟩:=zbS2 h;have:j=i:=by omega
 subst this;rw[e]at h hv'⊢;obtain⟨e0,e1⟩:=zbf7 h;rw[e1,h1,zaC9]at hv'⊢;exact zcO2 h2 hv' (zab1 (hv.each _ (zm9 (z:=aA.zero) h2)) (.cancel p e0)).2 λ x hx=>zcO1 e0 hx
theorem zbT0{t:List aA}{p:aF}{a:aO}{i:Nat}(hf:zr8 t a.name=i)(h:(zF0 t p a).2.2=0):Only t (zF0 t p a).1 i p:=by
 obtain⟨_,_,_,_,hv'⟩:=zct9 h;unfold zF0 at h hv'⊢;obtain⟨hv,j,h1,h2,h3,e⟩:=zbS2 h;have:j=i:=by omega
 subst this;rw[e]at h hv'⊢;obtain⟨e0,e1⟩:=zbf7 h;rw[e1,h1,zaC9]at hv'⊢;exact zcO2 h2 hv' (zab1 (hv.each _ (zm9 (z:=aA.zero) h2)) (.lower p a.aJ e0)).2 λ x hx=>zcX7 e0 hx
theorem zcv1{t:List aA}{p:aF}{nm:ByteArray}{i:Nat}(hf:zr8 t nm=i)(h:(zE3 t p nm).2.2=0)(k:hasQ ((zE3 t p nm).1.getD i aA.zero) p=true):hasQ (t.getD i aA.zero) p=true:=by
 unfold zE3 at h k;obtain⟨hv,j,h1,h2,h3,e⟩:=zbS2 h;have:j=i:=by omega
 subst this;rw[e]at h k;obtain⟨e0,e1⟩:=zbf7 h;rw[e1,h1,zaC9]at k;have k':hasQ ((t.set j (zI3 (t.getD j aA.zero) p).1).getD j aA.zero) p=true:=k;rw[zP6 _ _ _ _ h2]at k';exact zbB9 e0 k'
theorem zcO3{t:List aA}{p:aF}{a:aO}{i:Nat}(hf:zr8 t a.name=i)(h:(zF0 t p a).2.2=0)(k:hasQ ((zF0 t p a).1.getD i aA.zero) p=true):hasQ (t.getD i aA.zero) p=true:=by
 unfold zF0 at h k;obtain⟨hv,j,h1,h2,h3,e⟩:=zbS2 h;have:j=i:=by omega
 subst this;rw[e]at h k;obtain⟨e0,e1⟩:=zbf7 h;rw[e1,h1,zaC9]at k;have k':hasQ ((t.set j (zE2 (t.getD j aA.zero) p a.aJ).1).getD j aA.zero) p=true:=k;rw[zP6 _ _ _ _ h2]at k';exact zbN9 e0 k'
theorem zcO4{a b c:bF}(h:keyT a=keyT b):ltT a c↔ltT b c:=by have e1:a.aI=b.aI:=dC Prod.fst h;have e2:a.name=b.name:=dC Prod.snd h;unfold ltT;rw[e1,e2]
theorem zbu0(x:bF):∀l,insT x true l=l.filter λ t=>!decide (keyT t=keyT x)
 |[]=>rfl
 |t::l=>by
  simp only[insT,fV,zbu0 x l,hI]
  by_cases k:keyT t=keyT x<;>simp[k]
theorem zbI7(x:bF):∀(d:Bool) (l:List bF) (y:bF),y∈insT x d l↔(d=false/\y=x)\/(y∈l/\keyT y≠keyT x)
 |d,[],y=>by cases d<;>simp[insT]
 |d,t::l,y=>by
  simp only[insT,cP,zbI7 x _ l,bX]
  by_cases k:keyT t=keyT x
  .have n:¬ltT t x:=λ z=>zaO0 z k
   by_cases e:y=t
   .subst e;cases d<;>simp[k,n]
   .cases d<;>simp[k,n,e]
  .by_cases n:ltT t x
   .by_cases e:y=t
    .subst e;cases d<;>simp[k,n]
    .cases d<;>simp[k,n,e]
   .by_cases e:y=t
    .subst e;cases d<;>simp[k,n]
    .cases d<;>simp[k,n,e]
theorem zcO5(x:bF):∀{l:List bF},l.Pairwise ltT->(insT x false l).Pairwise ltT
 |[],_=>by simp[insT]
 |t::l,h=>by
  have h':=cL.1 h
  by_cases n:ltT t x
  .have e:insT x false (t::l)=t::insT x false l:=by simp[insT,n,zaO0 n]
   rw[e];refine cL.2 ⟨λ y hy=>?_,zcO5 x h'.2⟩;rcases(zbI7 x false l y).1 hy with⟨_,rfl⟩|⟨hy,_⟩
   .exact n
   .exact h'.1 y hy
  .have e:insT x false (t::l)=x::(t::l).filter λ t=>!decide (keyT t=keyT x):=by
    simp only[insT,n,gD,cN,bT,cV,dI,jK,zbu0,hI]
    by_cases k:keyT t=keyT x<;>simp[k]
   rw[e];refine cL.2 ⟨λ y hy=>?_,h.sublist eX⟩;obtain⟨hy,hk⟩:=dM.1 hy;have hk':keyT y≠keyT x:=by simpa using hk
   rcases bX.1 hy with rfl|hy
   .exact(zbO1 hk').resolve_left n
   .by_cases k:keyT t=keyT x
    .exact(zcO4 k).1 (h'.1 y hy)
    .exact zbt7 ((zbO1 k).resolve_left n) (h'.1 y hy)
theorem zcX8{h:bC}{m:aK}(g:GoodH h)(hp:za3 m.aI=true)(hg:0<=m.gen/\m.gen<=1073741824)(e:(zE9 h.aG m.aI m.aW m.aX).2.2=0):GoodH ⟨(zE9 h.aG m.aI m.aW m.aX).1,insT ⟨m.aI,m.aW.name,m.gen⟩ false h.tags⟩:=by
 obtain⟨i,hi,hn,hf,e0,h1,_,hv⟩:=zbO0 e;refine⟨hv,λ t ht=>?_,zcO5 _ g.asc,λ k=>?_⟩
 .rcases(zbI7 _ _ _ _).1 ht with⟨_,rfl⟩|⟨ht,_⟩
  .exact⟨hp,hg⟩
  .exact g.ok t ht
 .obtain⟨x,n⟩:=k;have hr:=(zab1 (g.v.each _ (zm9 (z:=aA.zero) hi)) (.claim m.aI m.aW.aJ m.aX e0)).2;have hP:(x,n)∈zak4 (zE9 h.aG m.aI m.aW m.aX).1↔(x,n)∈zak4 h.aG\/(x=m.aI/\n=m.aW.name):=by
   rw[zaT3 hv,zaT3 g.v,h1];simp only[eA];constructor
   .rintro⟨j,hj,hn',hh⟩
    by_cases ej:i=j
    .subst ej;rw[zP6 _ _ _ _ hi]at hn' hh;rw[hr]at hn';rcases(zbD3 e0 x).1 hh with k|k
     .exact .inl ⟨i,hj,hn',k⟩
     .exact .inr ⟨k,hn'.symm.trans hn⟩
    .rw[zaD2 _ _ _ ej]at hn' hh;exact .inl ⟨j,hj,hn',hh⟩
   .rintro(⟨j,hj,hn',hh⟩|⟨rfl,rfl⟩)
    .by_cases ej:i=j
     .subst ej;refine⟨i,hj,?_,?_⟩
      .rw[zP6 _ _ _ _ hi,hr];exact hn'
      .rw[zP6 _ _ _ _ hi];exact(zbD3 e0 x).2 (.inl hh)
     .refine⟨j,hj,?_,?_⟩
      .rw[zaD2 _ _ _ ej];exact hn'
      .rw[zaD2 _ _ _ ej];exact hh
    .refine⟨i,hi,?_,?_⟩
     .rw[zP6 _ _ _ _ hi,hr];exact hn
     .rw[zP6 _ _ _ _ hi];exact(zbD3 e0 _).2 (.inr rfl)
  rw[hP,<-g.same];simp only[cD,zbI7];constructor
  .rintro⟨t,⟨_,rfl⟩|⟨ht,_⟩,hk⟩
   .exact .inr ⟨(dC Prod.fst hk).symm,(dC Prod.snd hk).symm⟩
   .exact .inl ⟨t,ht,hk⟩
  .rintro(⟨t,ht,hk⟩|⟨rfl,rfl⟩)
   .by_cases k:keyT t=keyT ⟨m.aI,m.aW.name,m.gen⟩
    .exact⟨_,.inl ⟨trivial,rfl⟩,k.symm.trans hk⟩
    .exact⟨t,.inr ⟨ht,k⟩,hk⟩
   .exact⟨_,.inl ⟨trivial,rfl⟩,rfl⟩
theorem zbu1{h:bC}{p:aF}{i:Nat}(g:GoodH h)(hi:i<h.aG.length){u:List aA}(ho:Only h.aG u i p)(hin:hasQ (u.getD i aA.zero) p=true->hasQ (h.aG.getD i aA.zero) p=true){n:ByteArray}(hn:(h.aG.getD i aA.zero).aB.name=n):
  GoodH ⟨u,zaL4 h.tags p n (decide (p∈zA0 (u.getD i aA.zero)))⟩:=by
 have hi':i<u.length:=by rw[ho.len];exact hi
 have hmem:p∈zA0 (u.getD i aA.zero)↔hasQ (u.getD i aA.zero) p=true:=zao9 ((zt4 _).1 (ho.v.each _ (zm9 (z:=aA.zero) hi'))).1;refine⟨ho.v,λ t ht=>g.ok t (dM.1 ht).1,g.asc.sublist eX,λ k=>?_⟩;obtain⟨x,n'⟩:=k;have hk:(x,n')∈(zaL4 h.tags p n (decide (p∈zA0 (u.getD i aA.zero)))).map keyT↔(x,n')∈h.tags.map keyT/\((x,n')=(p,n)->hasQ (u.getD i aA.zero) p=true):=by
  unfold zaL4;simp only[cD,dM,dE,bQ,cQ,dA];constructor
  .rintro⟨t,⟨ht,hc⟩,hk⟩;refine⟨⟨t,ht,hk⟩,λ e=>?_⟩;rcases hc with hc|hc
   .exact hmem.1 hc
   .exact absurd (hk.trans e) hc
  .rintro⟨⟨t,ht,hk⟩,hc⟩;refine⟨t,⟨ht,?_⟩,hk⟩
   by_cases e:keyT t=(p,n)
   .exact .inl (hmem.2 (hc (hk.symm.trans e)))
   .exact .inr e
 show(x,n')∈(zaL4 h.tags p n (decide (p∈zA0 (u.getD i aA.zero)))).map keyT↔(x,n')∈zak4 u;rw[hk,g.same,zaT3 g.v,zaT3 ho.v,ho.len];constructor
 .rintro⟨⟨j,hj,hn',hh⟩,hc⟩;refine⟨j,hj,(ho.name j hj).trans hn',?_⟩
  by_cases ej:j=i
  .subst ej
   by_cases ex:x=p
   .subst ex;exact hc (by rw[<-hn',hn])
   .rw[ho.has x ex];exact hh
  .rw[ho.oth j ej];exact hh
 .rintro⟨j,hj,hn',hh⟩;rw[ho.name j hj]at hn';refine⟨⟨j,hj,hn',?_⟩,λ e=>?_⟩
  .by_cases ej:j=i
   .subst ej
    by_cases ex:x=p
    .subst ex;exact hin hh
    .rw[<-ho.has x ex];exact hh
   .rw[<-ho.oth j ej];exact hh
  .have e1:x=p:=dC Prod.fst e;have e2:n'=n:=dC Prod.snd e;have:j=i:=zdd5 g.v.asc hj hi (by rw[hn',e2,hn]);subst this;subst e1;exact hh
theorem zcl6{h:bC}{m:aK}(g:GoodH h):GoodH (zcl4 h m).1:=by
 have hv:=zbg5 g.v m.site m.inc;show GoodH ⟨(zaf2 h.aG m.site m.inc).1,h.tags.filter λ t=>decide (t.aI∈zq7 (zaf2 h.aG m.site m.inc).1)⟩;refine⟨hv,λ t ht=>g.ok t (dM.1 ht).1,g.asc.sublist eX,λ k=>?_⟩;obtain⟨x,n⟩:=k;have hp:=zcL6 g.v m.site m.inc;have hr:=zbC2 g.v m.site m.inc;show(x,n)∈(h.tags.filter λ t=>decide (t.aI∈zq7 (zaf2 h.aG m.site m.inc).1)).map keyT↔(x,n)∈zak4 (zaf2 h.aG m.site m.inc).1;rw[hp];have hk:(x,n)∈(h.tags.filter λ t=>decide (t.aI∈(zq7 h.aG).filter λ p=>!oldP m.site m.inc p)).map keyT↔(x,n)∈h.tags.map keyT/\x∈(zq7 h.aG).filter λ p=>!oldP m.site m.inc p:=by
  simp only[cD];constructor
  .rintro⟨t,ht,hk⟩;obtain⟨ht,hc⟩:=dM.1 ht;refine⟨⟨t,ht,hk⟩,?_⟩;rw[<-show t.aI=x from dC Prod.fst hk];exact iI hc
  .rintro⟨⟨t,ht,hk⟩,hc⟩;refine⟨t,dM.2 ⟨ht,?_⟩,hk⟩;rw[show t.aI=x from dC Prod.fst hk];exact cB hc
 rw[hk,g.same,zaT3 g.v,zaT3 hv,hr,zdm0];have hd:∀j,j<h.aG.length->(zaS2 h.aG ((zq7 h.aG).filter (oldP m.site m.inc))).getD j aA.zero=remS (h.aG.getD j aA.zero) ((zq7 h.aG).filter (oldP m.site m.inc)):=λ j hj=>zcO0 _ _ _ _ _ hj;constructor
 .rintro⟨⟨j,hj,hn,hh⟩,hc⟩;have hq:=g.v.each _ (zm9 (z:=aA.zero) hj);refine⟨j,hj,?_,?_⟩
  .rw[hd j hj,zbH6 _ hq];exact hn
  .rw[hd j hj,zbc3 _ hq];refine⟨hh,λ k=>?_⟩;have h1:=(dM.1 hc).2;have h2:=(dM.1 k).2;rw[h2]at h1;exact absurd h1 (by decide)
 .rintro⟨j,hj,hn,hh⟩;have hq:=g.v.each _ (zm9 (z:=aA.zero) hj);rw[hd j hj,zbH6 _ hq]at hn;rw[hd j hj,zbc3 _ hq]at hh;have hx:=zat0 g.v hj hh.1;refine⟨⟨j,hj,hn,hh.1⟩,dM.2 ⟨hx,?_⟩⟩;cases ho:oldP m.site m.inc x with
  |false=>rfl
  |true=>exact absurd (dM.2 ⟨hx,ho⟩) hh.2
theorem zdf0{m:aK}(h:zaf3 m=true)(k:m.kind=1\/m.kind=2):za3 m.aI=true/\0<=m.gen/\m.gen<=1073741824:=by
 unfold zaf3 at h;rw[bM]at h
 replace h:=(zaW2 h.1).2
 have g:∀i:Nat,i=1\/i=2->(80:UInt8)∈(Arr.get zz1 i ⟨#[]⟩).data.toList/\(71:UInt8)∈(Arr.get zz1 i ⟨#[]⟩).data.toList:=by rintro i (rfl|rfl)<;>decide
 have g':=g m.kind.toNat (by omega);have hf:(Arr.get zz1 m.kind.toNat ⟨#[]⟩).data.toList=zx2 m.kind:=by unfold zx2;rw[ByteArray.toList_eq]
 rw[hf]at g';have h1:inN 0 1073741824 m.gen=true:=(h 71 g'.2).2;unfold inN at h1;rw[bM,bQ,bQ]at h1;exact⟨(h 80 g'.1).2,h1⟩
theorem zcv2{h:bC}{m:aK}(e:(zM7 h m).2.2.2=0):GoodH (zM7 h m).1:=by
 unfold zM7 at e|-
 by_cases hv:zS5 h=false
 .rw[bO hv]at e;exact absurd e (by decide)
 rw[bN hv]at e⊢;have g:=(zaW4 h).1 (by simpa using hv)
 by_cases hm:zaf3 m=false
 .rw[bO hm]at e;exact absurd e (by decide)
 rw[bN hm]at e⊢;have hm':zaf3 m=true:=by simpa using hm
 by_cases k1:m.kind=1
 .rw[bO k1]at e⊢;unfold zap5 at e|-
  by_cases c:(zE9 h.aG m.aI m.aW m.aX).2.2=0
  .simp only[c,bT];have:=zdf0 hm' (.inl k1);exact zcX8 g this.1 this.2 c
  .simp only[c,bV]at e;exact absurd e c
 rw[bN k1]at e|-
 by_cases k2:m.kind=2
 .rw[bO k2]at e⊢;unfold zU0 at e|-
  by_cases hf:zr8 h.aG m.aW.name<0
  .simp only[hf,bT]at e;exact absurd e (by decide)
  simp only[hf,bV]at e⊢;obtain⟨i,hi⟩:∃i:Nat,zr8 h.aG m.aW.name=i:=⟨_,(gY (by omega)).symm⟩;obtain⟨hl,hn⟩:=zcB7 hi;obtain⟨c,hc⟩:∃c,(if(zB2 (h.aG.getD (zr8 h.aG m.aW.name).toNat aA.zero) m.aI).2=true then zE3 h.aG m.aI m.aW.name else(h.aG,[],0))=c:=⟨_,rfl⟩;simp only[hc]at e⊢;simp only[hi,Int.toNat_natCast]at e|-
  by_cases c0:c.2.2=0
  .have hct:Only h.aG c.1 i m.aI/\(hasQ (c.1.getD i aA.zero) m.aI=true->hasQ (h.aG.getD i aA.zero) m.aI=true):=by
    by_cases w:(zB2 (h.aG.getD (zr8 h.aG m.aW.name).toNat aA.zero) m.aI).2=true
    .rw[bO w]at hc;subst hc;exact⟨zbI6 hi c0,zcv1 hi c0⟩
    .rw[bN w]at hc;subst hc;exact⟨Only.refl g.v _ _,id⟩
   have hfc:zr8 c.1 m.aW.name=i:=by rw[<-hn,<-hct.1.name i hl];exact zbc7 hct.1.v.asc (by rw[hct.1.len];exact hl)
   simp only[c0,bT]
   by_cases l0:(zF0 c.1 m.aI m.aW).2.2=0
   .simp only[l0,bT];exact zbu1 g hl (hct.1.trans (zbT0 hfc l0)) (λ k=>hct.2 (zcO3 hfc l0 k)) hn
   .simp only[l0,bV];exact zbu1 g hl hct.1 hct.2 hn
  .simp only[c0,bV]at e;exact absurd e c0
 rw[bN k2]at e|-
 by_cases k5:m.kind=5
 .rw[bO k5]at e⊢;exact zcl6 g
 rw[bN k5]at e;exact absurd e (by decide)
def zcO6(r:aD):aD:={r with home:=0}
theorem zdn2(v:bJ×List aD)(hl:v.2.length<=1000):zc1 (zJ4 v) (0,v.2)=some (v.2.map zcO6):=by
 have key:∀k i (acc:List aD),i+k=v.2.length->acc.length=v.2.length->acc.drop i=v.2.drop i->acc.take i=(v.2.take i).map zcO6->zc1 (zJ4 v) ((i:Int),acc)=some (v.2.map zcO6):=by
  intro k;induction k with
  |zero=>
   intro i acc hi hn hd ht;have:i=v.2.length:=by omega
   subst this;rw[zh3];unfold zJ4;rw[bN (by simp)];simp only;rw[<-hn,fH,hn,fH]at ht;rw[ht]
  |succ k ih=>
   intro i acc hi hn hd ht;have hlt:i<v.2.length:=by omega
   rw[zh3];have hstep:zJ4 v ((i:Int),acc)=some (.inl (((i+1:Nat):Int),acc.set i (zcO6 (acc.getD i aD.zero)))):=by unfold zJ4;simp only[Int.toNat_natCast];rw[bO (by simpa using hlt),zb0 (by omega),zc2 i (by omega)];rfl
   rw[hstep];have hacc:i<acc.length:=by omega
   have ha:acc.getD i aD.zero=v.2.getD i aD.zero:=by
    have h1:acc.getD i aD.zero=(acc.drop i).getD 0 aD.zero:=by simp[bS]
    have h2:v.2.getD i aD.zero=(v.2.drop i).getD 0 aD.zero:=by simp[bS]
    rw[h1,hd,<-h2]
   refine ih (i+1) _ (by omega) (by rw[eA];exact hn) ?_ ?_
   .rw[jH (by omega),<-eQ,<-eQ,hd]
   .rw[zaO8 (z:=aD.zero) (by rw[eA];exact hacc),zaO8 (z:=aD.zero) hlt,iN (by omega),ht,eE];congr 1;rw[List.map_singleton,bS,hY hacc,Option.getD_some,ha]
 exact key v.2.length 0 v.2 (by omega) rfl rfl rfl
def zbj2(u:bJ):List aD:=(catL u).map zcO6
theorem zdZ7(u:bJ)(hu:TapeOk u):zq2 u=some (zbj2 u,zab0 8 u):=by unfold zq2;rw[zcW2 u hu,Option.bind_some,zdn2 _ (by show(6:Nat)<=1000;decide),Option.bind_some];rfl
theorem zcv3(u:bJ):(zbj2 u).length=6:=by unfold zbj2;rw[cO];rfl
theorem zbr3(u:bJ):catV (zbj2 u)=true:=by
 obtain⟨h1,h2,h3⟩:=(zav2 _).1 (zdC7 u);refine(zav2 _).2 ⟨by rw[zcv3];decide,λ r hr=>?_,?_⟩
 .obtain⟨x,hx,rfl⟩:=cD.1 hr;have:=h2 x hx;unfold resV at this⊢;simp only[bM]at this⊢;exact⟨this.1,this.2.1,rfl,rfl⟩
 .unfold zbj2;exact iH.2 h3
theorem zcB8(u:bJ):∀r∈zbj2 u,zh1 r=true:=λ r hr=>by obtain⟨x,hx,rfl⟩:=cD.1 hr;exact zbS0 u x hx
theorem zdE0(u:bJ):atL (zbj2 u) 0=zbj2 u:=by unfold atL;refine iO.2 λ r hr=>?_;obtain⟨x,_,rfl⟩:=cD.1 hr;exact cB rfl
def zcO7(u:bJ):bC:={bC.zero with aG:=(zbj2 u).map zak3}
theorem zef3(u:bJ):newH (zbj2 u) 0=(zcO7 u,0):=by unfold newH zcO7;rw[bO ⟨zbr3 u,by decide⟩,zdE0];unfold newT;rw[bO (zbr3 u)]
theorem zcX9(u:bJ):GoodH (zcO7 u):=by have hv:=zdl9 (zbr3 u);refine⟨hv,λ t ht=>(nomatch (show t∈([]:List bF)from ht)),List.Pairwise.nil,λ k=>?_⟩;obtain⟨p,n⟩:=k;refine⟨λ h=>(nomatch (show(p,n)∈([]:List (aF×ByteArray))from h)),λ h=>?_⟩;obtain⟨i,hi,_,hh⟩:=(zaT3 hv).1 h;rw[cO]at hi;rw[zcO0 _ _ i aD.zero _ hi,zcu0]at hh;cases hh
theorem zdn3(t:List aA):(zak4 t).length=(t.flatMap zA0).length:=by
 unfold zak4;induction t with
 |nil=>rfl
 |cons q t ih=>simp only[dV,bR,cO,ih]
theorem GoodH.small{h:bC}(g:GoodH h):h.tags.length<=192:=by have h1:=g.count;have h2:=zdn3 h.aG;have h3:=zbt6 h.aG g.v.each;have h4:=g.v.len;omega
theorem zcl7{u:bJ}(hu:TapeOk u)(hm:u.at_<(u.l.length:Int))(n:Nat):(zab0 (n+1) u).l.length-(zab0 (n+1) u).at_.toNat<u.l.length-u.at_.toNat:=by
 have ht:=hu.at_;have e1:(zT3 u).at_=u.at_+1:=by unfold zT3;rw[bN (by omega)]
 have:u.at_+1<=(zab0 (n+1) u).at_:=by rw[zab0,<-e1];exact zcL3 n (zP5 hu)
 rw[zdd8];omega
theorem zdQ0{h:bC}{m:aK}(g:GoodH h):(zM7 h m).2.2.1.length<=1000000:=by
 unfold zM7;rw[bN (by rw[(zaW4 h).2 g];decide)];split
 .simp[errH]
 split
 .unfold zap5;have hs:=(zbB8 g.v.small m.aI m.aW m.aX).2.2
  by_cases c:(zE9 h.aG m.aI m.aW m.aX).2.2=0
  .simp only[c,bT];exact hs
  .simp only[c,bV];simp[errH]
 split
 .unfold zU0
  by_cases hf:zr8 h.aG m.aW.name<0
  .simp only[hf,bT];simp[errH]
  simp only[hf,bV];obtain⟨c,hc⟩:∃c,(if(zB2 (h.aG.getD (zr8 h.aG m.aW.name).toNat aA.zero) m.aI).2=true then zE3 h.aG m.aI m.aW.name else(h.aG,[],0))=c:=⟨_,rfl⟩;simp only[hc]
  by_cases c0:c.2.2=0
  .have hct:ValidT c.1/\c.2.1.length<=17:=by
    by_cases w:(zB2 (h.aG.getD (zr8 h.aG m.aW.name).toNat aA.zero) m.aI).2=true
    .rw[bO w]at hc;subst hc;obtain⟨_,_,_,_,hv⟩:=zbC0 c0;exact⟨hv,zbD2 g.v _ _⟩
    .rw[bN w]at hc;subst hc;exact⟨g.v,by simp⟩
   simp only[c0,bT];have hl:=zbP0 hct.1 m.aI m.aW
   by_cases l0:(zF0 c.1 m.aI m.aW).2.2=0
   .simp only[l0,bT,bR];omega
   .simp only[l0,bV];omega
  .simp only[c0,bV];simp[errH]
 split
 .exact(zbf6 _ _ _).2.2
 .simp[errH]
theorem zdn4(h:bC)(hl:h.aG.length<=1000)(hs:Lens h.aG):zc1 (zW7 h) (0,(⟨[],bC.zero.tags⟩:bC))=some ⟨h.aG,[]⟩:=by
 have e:=zbO9 (body:=zW7 h) h.aG aA.zero (λ _=>true) (λ i s=>((i:Int),(⟨s,[]⟩:bC))) (λ s=>(⟨s,[]⟩:bC)) (λ i s hi hs'=>by
  have hq:=hs _ (zm9 (z:=aA.zero) hi);unfold zW7;have h3:0<=(i:Int)/\(i:Int)<(h.aG.length:Int):=by omega
  have h1:s.length+1<=4294967296:=by omega
  simp only[h1,h3.1,h3.2,cN,zl3,bU,bT,Int.toNat_natCast,zc2 i (show i<4611686018427387904 by omega)];rw[zau7 _ (by omega) (by omega) (by omega),Option.bind_some]) (λ s=>by unfold zW7;simp)
 rw[show((0,(⟨[],bC.zero.tags⟩:bC)):Int×bC)=(λ(i:Nat) (s:List aA)=>((i:Int),(⟨s,[]⟩:bC))) 0 []from rfl,e];simp
theorem zcp6(h:bC)(hl:h.aG.length<=1000)(hs:Lens h.aG)(ht:h.tags.length<=1000000):zn1 h=some h:=by unfold zn1;rw[zdn4 h hl hs,Option.bind_some];unfold zaL7;rw[zb0 (by omega)]
theorem zbd1(l:List bF)(x:bF)(hl:l.length<=1000000):∀(k i:Nat) (d:Bool) (o:List bF),i+k=l.length->o.length<=2*i->((l.drop i).Pairwise ltT)->∃d' o',zc1 (zA5 l x) (d,(i:Int),o)=some (d',o')/\o'++(if d'=true then[]else[x])=o++insT x d (l.drop i)/\o'.length<=o.length+2*k
 |0,i,d,o,hi,ho,hp=>by
  have:i=l.length:=by omega
  subst this;refine⟨d,o,?_,?_,by omega⟩
  .rw[zh3];unfold zA5;rw[bN (by simp)]
  .rw[hJ];rfl
 |k+1,i,d,o,hi,ho,hp=>by
  have hlt:i<l.length:=by omega
  rw[zae5 l i bF.zero hlt]at hp⊢;have hp':=cL.1 hp;obtain⟨t,ht⟩:∃t,l.getD i bF.zero=t:=⟨_,rfl⟩;rw[ht]at hp';have h3:0<=(i:Int)/\(i:Int)<(l.length:Int):=by omega
  have hkey:((decide (t.aI=x.aI))&&(t.name.toList==x.name.toList))=decide (keyT t=keyT x):=by
   unfold keyT
   by_cases e1:t.aI=x.aI<;>by_cases e2:t.name=x.name<;>simp[e1,e2,zQ2]
  by_cases c:keyT t=keyT x
  .have n:¬ltT t x:=λ z=>zaO0 z c;have hstep:zA5 l x (d,(i:Int),o)=some (.inl (d,((i+1:Nat):Int),o)):=by
    unfold zA5;simp only[h3.1,h3.2,cN,zl3,bU,bT,Int.toNat_natCast,ht,hkey,c,zc2 i (show i<4611686018427387904 by omega)]
   cases d with
   |true=>obtain⟨d',o',h1,h2,h4⟩:=zbd1 l x hl k (i+1) true o (by omega) (by omega) hp'.2;refine⟨d',o',by rw[zh3,hstep];exact h1,?_,by omega⟩;rw[h2,ht];simp[insT,c]
   |false=>
    obtain⟨d',o',h1,h2,h4⟩:=zbd1 l x hl k (i+1) false o (by omega) (by omega) hp'.2;refine⟨d',o',by rw[zh3,hstep];exact h1,?_,by omega⟩;rw[h2,ht];have hafter:∀y∈l.drop (i+1),ltT x y:=λ y hy=>(zcO4 c).1 (hp'.1 y hy);have hf:∀(m:List bF),(∀y∈m,ltT x y)->insT x false m=x::m:=by
     intro m hm;cases m with
     |nil=>rfl
     |cons y m=>
      have hy:=hm y (.head _);have ny:¬ltT y x:=λ z=>zci9 x (zbt7 hy z);have ky:keyT y≠keyT x:=λ z=>zaO0 hy z.symm;have hr:∀(m:List bF),(∀y∈m,ltT x y)->insT x true m=m:=by
       intro m hm;rw[zbu0];exact iO.2 λ z hz=>by
        have:keyT z≠keyT x:=λ e=>zaO0 (hm z hz) e.symm
        simpa using this
      simp[insT,ny,ky,hr m λ z hz=>hm z (.tail _ hz)]
    have hr2:insT x true (l.drop (i+1))=l.drop (i+1):=by
     rw[zbu0];exact iO.2 λ z hz=>by
      have:keyT z≠keyT x:=λ e=>zaO0 (hafter z hz) e.symm
      simpa using this
    rw[hf _ hafter];simp[insT,c,n,hr2]
  .have hless:=zdd9 x t
   by_cases n:ltT t x
   .have nx:¬ltT x t:=λ z=>zci9 x (zbt7 z n);have hstep:zA5 l x (d,(i:Int),o)=some (.inl (d,((i+1:Nat):Int),o++[t])):=by
     unfold zA5;have h1:o.length+1<=4294967296:=by omega
     simp only[h1,h3.1,h3.2,cN,zl3,bU,bT,Int.toNat_natCast,ht,hkey,c,cV,bP,bV,hless,nx,gC,zc2 i (show i<4611686018427387904 by omega)]
    obtain⟨d',o',h1,h2,h4⟩:=zbd1 l x hl k (i+1) d (o++[t]) (by omega) (by simp only[bR,List.length_singleton];omega) hp'.2;refine⟨d',o',by rw[zh3,hstep];exact h1,?_,by simp only[bR,List.length_singleton]at h4;omega⟩;rw[h2,ht];simp[insT,c,n]
   .have nx:ltT x t:=(zbO1 c).resolve_left n;cases d with
    |true=>
     have hstep:zA5 l x (true,(i:Int),o)=some (.inl (true,((i+1:Nat):Int),o++[t])):=by
      unfold zA5;have h1:o.length+1<=4294967296:=by omega
      simp only[h1,h3.1,h3.2,cN,zl3,bU,bT,Int.toNat_natCast,ht,hkey,c,cV,bP,bV,cI,eT,zc2 i (show i<4611686018427387904 by omega)]
     obtain⟨d',o',h1,h2,h4⟩:=zbd1 l x hl k (i+1) true (o++[t]) (by omega) (by simp only[bR,List.length_singleton];omega) hp'.2;refine⟨d',o',by rw[zh3,hstep];exact h1,?_,by simp only[bR,List.length_singleton]at h4;omega⟩;rw[h2,ht];simp[insT,c,n]
    |false=>
     have hstep:zA5 l x (false,(i:Int),o)=some (.inl (true,((i+1:Nat):Int),(o++[x])++[t])):=by
      unfold zA5;have h1:o.length+1<=4294967296:=by omega
      have h2:o.length+1+1<=4294967296:=by omega
      simp only[h1,h2,h3.1,h3.2,cN,zl3,bU,bT,Int.toNat_natCast,ht,hkey,c,cV,bP,bV,hless,nx,dI,fT,zc2 i (show i<4611686018427387904 by omega)]
     obtain⟨d',o',h1,h2,h4⟩:=zbd1 l x hl k (i+1) true ((o++[x])++[t]) (by omega) (by simp only[bR,List.length_singleton];omega) hp'.2;refine⟨d',o',by rw[zh3,hstep];exact h1,?_,by simp only[bR,List.length_singleton]at h4;omega⟩;rw[h2,ht];simp[insT,c,n]
theorem zcB9(l:List bF)(x:bF)(hl:l.length<=1000000)(hp:l.Pairwise ltT):zt9 l x=some (insT x false l):=by
 unfold zt9;obtain⟨d',o',h1,h2,h4⟩:=zbd1 l x hl l.length 0 false [] (by omega) (by simp) hp;rw[show((false,0,[]):Bool×Int×List bF)=(false,((0:Nat):Int),[])from rfl,h1,Option.bind_some];unfold zaQ7;rw[List.nil_append,fD]at h2;rw[<-h2];cases d' with
 |true=>simp
 |false=>show gd (o'.length+1<=4294967296) (some (o'++[x]))=_;rw[zb0 (by simp only[List.length_nil]at h4;omega)];rfl
theorem zbr4(h:bC)(hV:ValidT h.aG)(ht:h.tags.length<=1000000):zr6 h=some ⟨h.aG,h.tags.filter λ t=>inT h.aG t⟩:=by
 unfold zr6;have h8:=hV.len;rw[zbq2 h.tags bF.zero (λ t=>inT h.aG t) (λ i o hi ho=>by
  unfold zar0;have h3:0<=(i:Int)/\(i:Int)<(h.tags.length:Int):=by omega
  have h1:o.length+1<=4294967296:=by omega
  simp only[h1,h3.1,h3.2,cN,zl3,bU,bT,Int.toNat_natCast,zc2 i (show i<4611686018427387904 by omega)];obtain⟨t,e⟩:∃t,h.tags.getD i bF.zero=t:=⟨_,rfl⟩;simp only[e];rw[zN5 _ _ (by omega),Option.bind_some];unfold inT;rcases zav0 (t:=h.aG) (nm:=t.name)with f|⟨j,f,hj,_⟩
  .rw[f,zb0 (by intro k;exact absurd k (by decide))];simp
  .rw[f,zb0 (by intro _;omega),bO (by simp)];have hm:=zu8 (hV.each _ (zm9 (z:=aA.zero) hj));simp only[Int.toNat_natCast];rw[zaC6 _ _ (by omega) (by omega) (by omega),Option.bind_some];rcases hb (hasQ (h.aG.getD j aA.zero) t.aI)with b|b<;>simp[b,-List.getD_eq_getElem?_getD]) (λ o=>by unfold zar0;simp),Option.bind_some]
 rfl
theorem zcY0{h:bC}{p:aF}{n:ByteArray}{has:Bool}{u:List aA}(g:GoodH h)(gu:GoodH ⟨u,zaL4 h.tags p n has⟩):(h.tags.filter λ t=>inT u t)=zaL4 h.tags p n has:=by
 unfold zaL4;refine List.filter_congr λ t ht=>?_;rw[cJ,zbX4 gu.v,<-gu.same];unfold zaL4;simp only[cD,dM];constructor
 .rintro⟨x,⟨hx,hc⟩,hk⟩;rw[<-hk];exact hc
 .exactλ hc=>⟨t,⟨ht,hc⟩,rfl⟩
theorem zcO8{h:bC}{f:bF->Bool}{u:List aA}(g:GoodH h)(gu:GoodH ⟨u,h.tags.filter f⟩)(hf:∀a b,keyT a=keyT b->f a=f b):(h.tags.filter λ t=>inT u t)=h.tags.filter f:=by
 refine List.filter_congr λ t ht=>?_;rw[cJ,zbX4 gu.v,<-gu.same];simp only[cD,dM];constructor
 .rintro⟨x,⟨hx,hc⟩,hk⟩;rw[<-hf x t hk];exact hc
 .exactλ hc=>⟨t,⟨ht,hc⟩,rfl⟩
theorem zdE1(x:bF){p:aF}{n:ByteArray}(hp:p≠x.aI):∀(d:Bool) (l:List bF),genT (insT x d l) p n=genT l p n:=by
 have hx:isT p n x=false:=by unfold isT;simp;exactλ e=>absurd e.symm hp
 have key:∀(d:Bool) (l:List bF),(insT x d l).find? (isT p n)=l.find? (isT p n):=by
  intro d l;induction l generalizing d with
  |nil=>cases d<;>simp[insT,hx]
  |cons t l ih=>
   simp only[insT,List.find?_append,ih,List.find?_cons];have h1:(if d=false/\¬ltT t x then[x]else[]).find? (isT p n)=none:=by split<;>simp[hx]
   rw[h1]
   by_cases k:keyT t=keyT x
   .have ht:isT p n t=false:=by
     rw[cY];intro e;have:=zcA6.1 e;rw[this]at k;exact hp (dC Prod.fst k)
    simp[k,ht]
   .cases ht:isT p n t<;>simp[k,ht]
 intro d l;unfold genT;rw[key]
theorem zcO9(x:bF)(l:List bF)(ev:List aY):zW3 (insT x false l) ev x.aI=zW3 l ev x.aI:=by unfold zW3;refine jG λ e he=>?_;have:=(dM.1 he).2;unfold zcv0 at this;simp only[bM,cQ,dA]at this;unfold zbO8;rw[zdE1 x this.2]
theorem zbj3(u:List aA)(tg:List bF)(m:aK)(b:Bool){i:Nat}(hV:ValidT u)(hf:zr8 u m.aW.name=i):zm0 ⟨u,tg⟩ m b=some (zC9 m (getH (u.getD i aA.zero).aL m.aI) b):=by unfold zm0;have h8:=hV.len;obtain⟨hi,_⟩:=zcB7 hf;have hq:=zu8 (hV.each _ (zm9 (z:=aA.zero) hi));simp only;rw[zN5 _ _ (by omega),Option.bind_some,hf,zb0 (by omega)];simp only[Int.toNat_natCast];rw[zT2 _ _ (by omega),Option.bind_some];rfl
theorem zcY1{q:aA}{p:aF}{a:aC}{pr:Int}(h:(zI6 q p a pr).2.2=0):(!zh5 (getH (zI6 q p a pr).1.aL p)&&zq1 q.aB (getH (zI6 q p a pr).1.aL p) a)=!(zB2 (zI6 q p a pr).1 p).2:=by
 obtain⟨hs,_,_,hf,hw,hh⟩:=zbc2 h;have hnz:=zW1 hf;have cz:∀x:aC,covA q.aB x a=true->(!zh5 x&&zq1 q.aB x a)=true:=λ x hx=>by
  have:x≠aC.zero:=by
   rcases((zai8 _ _ _).1 hx).2.2 with k|k
   .exact absurd k hnz
   .exact k.1
  rw[zbq6,fF this];exact hx
 have gen:∀(y:aA) (w:aM),SoundP y->w∈ordQ y->w.aI=p->covA q.aB w.aJ a=true->getH y.aL p=getH q.aL p->covA q.aB (getH q.aL p) a=false->
   (!zh5 (getH (zw5 y).1.aL p)&&zq1 q.aB (getH (zw5 y).1.aL p) a)=!(zB2 (zw5 y).1 p).2:=by
  intro y w hy hwm hwp hcov hgy hnc;have hwant:(zB2 (zw5 y).1 p)=zB2 (advS y) p:=rfl;have hhold:(zw5 y).1.aL=(advS y).aL:=rfl;rw[hwant,hhold];obtain⟨ws,e1,e2⟩:=zct4 y;cases hc:(zB2 (advS y) p).2 with
  |true=>
   obtain⟨w',hw',hp'⟩:=(zbH2 _ _).1 hc;have hns:∀v∈ws,v.aI≠p:=λ v hv e=>by have hnd:=hy.nd;rw[e1,eE,gU]at hnd;exact hnd.2.2 _ (cD.2 ⟨v,hv,rfl⟩) _ (cD.2 ⟨w',hw',rfl⟩) (e.trans hp'.symm)
   have hsame:getH (advS y).aL p=getH y.aL p:=by
    rw[adv_holds,e2]
    clear e1 e2
    have:∀(l:List aT) (ws:List aM),(∀v∈ws,v.aI≠p)->getH ((ws.map zcg0).foldl (λ l g=>setL l g.aI g.aJ) l) p=getH l p:=by
     intro l ws;induction ws generalizing l with
     |nil=>intro _;rfl
     |cons v ws ih=>intro hv;rw[cX,List.foldl_cons,ih _ λ z hz=>hv z (.tail _ hz)];exact zJ7 (λ e=>hv v (.head _) e.symm) _ _
    exact this _ _ hns
   rw[hsame,hgy];have:zq1 q.aB (getH q.aL p) a=false:=hnc;rw[this,gC];rfl
  |false=>
   have hin:w∈ws:=by
    rw[e1]at hwm;rcases cP.1 hwm with k|k
    .exact k
    .exact absurd hwp (zbc1.1 hc w k)
   have hg:zcg0 w∈advG y:=by rw[e2];exact cD.2 ⟨w,hin,rfl⟩
   have:=(zcV4 y hy _ hg).1;rw[show(zcg0 w).aI=p from hwp,show(zcg0 w).aJ=w.aJ from rfl]at this;rw[this];exact cz _ hcov
 rcases hh with⟨hc,e⟩|⟨hc,hz,e,hs'⟩|⟨hc,hz,_,e,hs'⟩
 .rw[e];simp only;rw[hw];exact cz _ hc
 .rw[e];refine gen (claimC q p a) ⟨p,zao7 q.aB (getH q.aL p) a,0,0⟩ hs' ?_ rfl ?_ rfl hc
  .unfold ordQ claimC;exact cW _ (cG _ (.head _))
  .have hfit:zb4 q.aB (getH q.aL p)=true:=by
    rcases(perm_iff _ _).1 (zbs8 hs.hv p)with k|k
    .exact absurd k.2 hz
    .exact k
   exact(zcf9 hfit hf hc).2.2.1
 .rw[e];refine gen (claimW q p a pr) ⟨p,a,pr,0⟩ hs' ?_ rfl (zbN3 (zK1 hf)) rfl hc;unfold ordQ claimW zaM7;exact cG _ (cG _ (.head _))
theorem zdn5{h:bC}{m:aK}(g:GoodH h)(hp:za3 m.aI=true)(hg:0<=m.gen/\m.gen<=1073741824):
    ((zS8 h.aG m.aI m.aW m.aX).bind λ v4=>
    (if(!decide (v4.2.2=0))=true then
     some ({bC.zero with},[],[],v4.2.2)
    else
     (zt9 (({h with aG:=v4.1}).tags) (⟨m.aI,m.aW.name,m.gen⟩:bF)).bind λ v5=>
     (zh4 (({{h with aG:=v4.1}with tags:=v5}).aG) m.aW.name).bind λ v6=>
     gd (0<=v6/\v6<((({{h with aG:=v4.1}with tags:=v5}).aG).length:Int))<|
     (zk7 ((({{h with aG:=v4.1}with tags:=v5}).aG).getD v6.toNat aA.zero) m.aI).bind λ v7=>
     (zm0 ({{h with aG:=v4.1}with tags:=v5}) m ((!(zh5 v7))&&(zq1 (((({{h with aG:=v4.1}with tags:=v5}).aG).getD v6.toNat aA.zero).aB) v7 m.aW.aJ))).bind λ v8=>
     (zi7 ({{h with aG:=v4.1}with tags:=v5}) v4.2.1 m.aI).bind λ v9=>
     gd (1+v9.length<=4294967296)<|
     some ({{h with aG:=v4.1}with tags:=v5},([v8]++v9),v4.2.1,0)))=some (zap5 h m):=by
  unfold zap5;have ht:=g.small;have hs:=zbB8 g.v.small m.aI m.aW m.aX;rw[zch7,Option.bind_some]
  by_cases e:(zE9 h.aG m.aI m.aW m.aX).2.2=0
  · obtain⟨i,hi,hn,hf,e0,h1,_,hv⟩:=zbO0 e
    have hi':i<(zE9 h.aG m.aI m.aW m.aX).1.length:=by rw[h1,eA];exact hi
    have hq1:(zE9 h.aG m.aI m.aW m.aX).1.getD i aA.zero=(zI6 (h.aG.getD i aA.zero) m.aI m.aW.aJ m.aX).1:=by rw[h1,zP6 _ _ _ _ hi]
    have hr:=(zab1 (g.v.each _ (zm9 (z:=aA.zero) hi)) (.claim m.aI m.aW.aJ m.aX e0)).2;have hn':((zE9 h.aG m.aI m.aW m.aX).1.getD i aA.zero).aB.name=m.aW.name:=by rw[hq1,hr];exact hn
    have hf':zr8 (zE9 h.aG m.aI m.aW m.aX).1 m.aW.name=i:=by rw[<-hn'];exact zbc7 hv.asc hi'
    have hq:=zu8 (hv.each _ (zm9 (z:=aA.zero) hi'));have h8:=hv.len;have hins:=zcN7 (⟨m.aI,m.aW.name,m.gen⟩:bF) false h.tags;simp only[bP,bV]at hins;rw[bN (nd0 e),bO e];simp only;rw[zcB9 _ _ (by omega) g.asc,Option.bind_some];rw[zN5 _ _ (by omega),Option.bind_some,hf',zb0 (by omega)];simp only[Int.toNat_natCast];rw[zT2 _ _ (by omega),Option.bind_some,zbj3 _ _ _ _ hv hf',Option.bind_some];have hgl:=zay1 (insT (⟨m.aI,m.aW.name,m.gen⟩:bF) false h.tags) (zE9 h.aG m.aI m.aW m.aX).2.1 m.aI;have:=hs.2.2;rw[zaM3 _ _ _ (by simp only;omega) this,Option.bind_some];simp only;rw[zb0 (by omega)];have hgi:=zcO9 (⟨m.aI,m.aW.name,m.gen⟩:bF) h.tags (zE9 h.aG m.aI m.aW m.aX).2.1;simp only at hgi;rw[hgi];have hd:=zcY1 e0;rw[<-hq1]at hd;have hres:((zE9 h.aG m.aI m.aW m.aX).1.getD i aA.zero).aB=(h.aG.getD i aA.zero).aB:=by rw[hq1,hr]
    rw[<-hres]at hd;rw[hd];rfl
  .rw[bO (nd1 e),bN e];rfl
theorem zdn6{t:List aA}{p:aF}{a:aO}{i:Nat}(hV:ValidT t)(hf:zr8 t a.name=i)(hw:(zB2 (t.getD i aA.zero) p).2=false)(ha:a.aJ=aC.zero\/True):
    (if getH (t.getD i aA.zero).aL p≠a.aJ/\(a.aJ=aC.zero\/covA (t.getD i aA.zero).aB (getH (t.getD i aA.zero).aL p) a.aJ=true)then(zF0 t p a).2.2=0
     else(zF0 t p a).2.2=0->(zF0 t p a).1=t/\(zF0 t p a).2.1=[]):=by
  obtain⟨hi,hn⟩:=zcB7 hf;have hq:=hV.each _ (zm9 (z:=aA.zero) hi);have hs:=((zt4 _).1 hq).1;have hL:zF0 t p a=putT t a.name (zE2 (t.getD i aA.zero) p a.aJ) (if getH (t.getD i aA.zero).aL p=a.aJ then[]else[zdC4 p a.name a.aJ]):=by unfold zF0 atT;rw[(zx3 t).2 hV,bN (by decide),hf,bN (by omega),Int.toNat_natCast]
  by_cases c:getH (t.getD i aA.zero).aL p≠a.aJ/\(a.aJ=aC.zero\/covA (t.getD i aA.zero).aB (getH (t.getD i aA.zero).aL p) a.aJ=true)
  · rw[bO c,hL]
    have hz:getH (t.getD i aA.zero).aL p≠aC.zero:=by
      rcases c.2 with k|k
      .rw[k]at c;exact c.1
      · intro z
        rcases((zai8 _ _ _).1 k).2.2 with y|y
        .rw[y]at c;exact c.1 z
        .exact y.1 z
    have hcov:covA (t.getD i aA.zero).aB (getH (t.getD i aA.zero).aL p) a.aJ=true:=by
      rcases c.2 with k|k
      .rw[k];exact zct2 (zbs8 hs.hv p) (zch0 hq)
      .exact k
    have e:zE2 (t.getD i aA.zero) p a.aJ=zw5 (zaC4 (t.getD i aA.zero) p a.aJ):=by unfold zE2;rw[hq,bN (by decide),bN hz,hw,bN (by decide),hcov,bN (by decide),bN c.1]
    unfold putT;rw[e,bO (show(zw5 (zaC4 (t.getD i aA.zero) p a.aJ)).2.2=0 from rfl)]
  · rw[bN c]
    intro h;rw[hL]at h⊢;obtain⟨e0,e1⟩:=zbf7 h;obtain⟨_,_,hz,_,hcov,hh⟩:=zaG7 e0;have heq:getH (t.getD i aA.zero).aL p=a.aJ:=eP λ k=>c ⟨k,.inr hcov⟩;rcases hh with⟨_,e⟩|⟨k,_⟩
    · rw[e1,e,hf,zaC9,bO heq]
      exact⟨zaY4 _ _ _ hi,rfl⟩
    .exact absurd heq k
theorem zbr5{h0:bC}{m:aK}{i:Nat}(g:GoodH h0){u:List aA}{ev:List aY}(hin:zr8 u m.aW.name=i)(gu:GoodH ⟨u,zaL4 h0.tags m.aI m.aW.name (decide (m.aI∈zA0 (u.getD i aA.zero)))⟩)(he:ev.length<=1000000):
    zai5 m (⟨u,h0.tags⟩,ev)=some (⟨u,zaL4 h0.tags m.aI m.aW.name (decide (m.aI∈zA0 (u.getD i aA.zero)))⟩,zC9 m (getH (u.getD i aA.zero).aL m.aI) true::zW3 h0.tags ev m.aI,ev,0):=by
  have ht:=g.small;have hgl:=zay1 h0.tags ev m.aI;unfold zai5;simp only;rw[zbj3 _ _ _ _ gu.v hin,Option.bind_some,zaM3 _ _ _ (by simp only;omega) he,Option.bind_some];simp only;rw[zb0 (by omega),zbr4 ⟨u,h0.tags⟩ gu.v (by simp only;omega),Option.bind_some];simp only;rw[zcY0 g gu];rfl
theorem zcC0{t:List aA}{p:aF}{nm:ByteArray}{i:Nat}(hf:zr8 t nm=i)(h:(zE3 t p nm).2.2=0):(zB2 ((zE3 t p nm).1.getD i aA.zero) p).2=false:=by
  unfold zE3 at h⊢;obtain⟨hv,j,h1,h2,h3,e⟩:=zbS2 h;have:j=i:=by omega
  subst this;rw[e]at h⊢;obtain⟨e0,e1⟩:=zbf7 h;rw[e1,h1,zaC9];show(zB2 ((t.set j (zI3 (t.getD j aA.zero) p).1).getD j aA.zero) p).2=false;rw[zP6 _ _ _ _ h2];obtain⟨_,_,_,ec,hs⟩:=zaG6 e0;rw[ec];show(zB2 (advS (zah6 (t.getD j aA.zero) p)) p).2=false;obtain⟨ws,o1,_⟩:=zct4 (zah6 (t.getD j aA.zero) p);refine zbc1.2 λ w hw k=>?_;have hm:w∈ordQ (zah6 (t.getD j aA.zero) p):=by rw[o1];exact cG _ hw
  unfold ordQ zah6 at hm;simp only[cP,zaV6]at hm;rcases hm with hm|hm
  .exact hm.2 k
  .exact hm.2 k
theorem zbj4{h:bC}{m:aK}{i:Nat}(g:GoodH h){u:List aA}{ev:List aY}(hl:i<h.aG.length)(hn:(h.aG.getD i aA.zero).aB.name=m.aW.name)(ho:Only h.aG u i m.aI)
    (hin:hasQ (u.getD i aA.zero) m.aI=true->hasQ (h.aG.getD i aA.zero) m.aI=true) (hw:(zB2 (u.getD i aA.zero) m.aI).2=false) (he:ev.length<=1000):
    zX7 m (i:Int) (⟨u,h.tags⟩,ev)=some (
      let w:=zF0 u m.aI m.aW
      let r:=if w.2.2=0 then(w.1,ev++w.2.1)else(u,ev)
      let q:=r.1.getD i aA.zero
      (⟨r.1,zaL4 h.tags m.aI m.aW.name (decide (m.aI∈zA0 q))⟩,zC9 m (getH q.aL m.aI) true::zW3 h.tags r.2 m.aI,r.2,0)):=by
  have hiu:i<u.length:=by rw[ho.len];exact hl
  have hfu:zr8 u m.aW.name=i:=by rw[<-hn,<-ho.name i hl];exact zbc7 ho.v.asc hiu
  have hq:=zu8 (ho.v.each _ (zm9 (z:=aA.zero) hiu));have key:=zdn6 (a:=m.aW) ho.v hfu hw (.inr trivial);have hev:=zbP0 ho.v m.aI m.aW;have gu:GoodH ⟨u,zaL4 h.tags m.aI m.aW.name (decide (m.aI∈zA0 (u.getD i aA.zero)))⟩:=zbu1 g hl ho hin hn;unfold zX7;simp only;rw[zb0 (by omega)];simp only[Int.toNat_natCast];rw[zT2 _ _ (by omega),Option.bind_some,zb0 (by intro _;omega)]
  by_cases c:getH (u.getD i aA.zero).aL m.aI≠m.aW.aJ/\(m.aW.aJ=aC.zero\/covA (u.getD i aA.zero).aB (getH (u.getD i aA.zero).aL m.aI) m.aW.aJ=true)
  · rw[bO c]at key
    rw[bO (by
      rw[zbq6];have:covA (u.getD i aA.zero).aB (getH (u.getD i aA.zero).aL m.aI) m.aW.aJ=zq1 (u.getD i aA.zero).aB (getH (u.getD i aA.zero).aL m.aI) m.aW.aJ:=rfl;rw[<-this];simp only[bM,cQ,dA,dE,bQ];exact c),zch8,Option.bind_some,bN (nd0 key),zb0 (by omega)]
    simp only[key,bT];have ho2:=ho.trans (zbT0 hfu key);have gu2:=zbu1 g hl ho2 (λ k=>hin (zcO3 hfu key k)) hn;have hf2:zr8 (zF0 u m.aI m.aW).1 m.aW.name=i:=by rw[<-hn,<-ho2.name i hl];exact zbc7 ho2.v.asc (by rw[ho2.len];exact hl)
    exact zbr5 g hf2 gu2 (by rw[bR];omega)
  · rw[bN c]at key
    rw[bN (by
      rw[zbq6];have:covA (u.getD i aA.zero).aB (getH (u.getD i aA.zero).aL m.aI) m.aW.aJ=zq1 (u.getD i aA.zero).aB (getH (u.getD i aA.zero).aL m.aI) m.aW.aJ:=rfl;rw[<-this];simp only[bM,cQ,dA,dE,bQ];exact c)]
    by_cases l0:(zF0 u m.aI m.aW).2.2=0
    · obtain⟨k1,k2⟩:=key l0
      simp only[l0,bT,k1,k2,eR];exact zbr5 g hfu gu (by omega)
    · simp only[l0,bV]
      exact zbr5 g hfu gu (by omega)
theorem zby0 (h:bC) (m:aK) (ht:h.tags.length<=1000000) (hk:kK m.kind) (hval:zD5 m=some (zaf3 m)):zN3 h m=some (zM7 h m):=by
  unfold zN3 zM7;rw[zbq0 h ht,Option.bind_some];cases hv:zS5 h with
  |false=>rfl
  |true=>
    have g:=(zaW4 h).1 hv;have hV:=g.v;have h8:=hV.len;simp only[cI,bP,bV,reduceCtorEq];rw[hval,Option.bind_some];cases hm:zaf3 m with
    |false=>rfl
    |true=>
      have hkk:(((!decide (m.kind=1))&&(!decide (m.kind=2)))&&(!decide (m.kind=5)))=false:=by rcases hk with k|k|k<;>rw[k]<;>rfl
      rw[hkk];simp only[cI,fB,bP,bV,reduceCtorEq];rw[zcp6 h (by omega) hV.lens ht,Option.bind_some]
      by_cases k1:m.kind=1
      · have hp:=zdf0 hm (.inl k1)
        rw[bO (cB k1),bO k1];exact zdn5 g hp.1 hp.2
      . rw [bN (by simpa using k1),bN k1]
        by_cases k2:m.kind=2
        · rw[bO (cB k2),bO k2]
          unfold zU0;rw[zN5 _ _ (by omega),Option.bind_some];rcases zav0 (t:=h.aG) (nm:=m.aW.name)with f|⟨i,f,hi,hn⟩
          .rw[f,bO (by decide),bO (by decide)];rfl
          · have hq:=zu8 (hV.each _ (zm9 (z:=aA.zero) hi))
            rw[f,bN (by simp),bN (by omega),zb0 (by omega)];simp only[Int.toNat_natCast];rw[zai7 _ _ (by omega) (by omega),Option.bind_some];rcases hb (zB2 (h.aG.getD i aA.zero) m.aI).2 with hw|hw
            rotate_left
            · simp only[hw,bP,bV,bT]
              rw[zbj4 g hi hn (Only.refl hV i m.aI) id hw (by simp)]
            · simp only[hw,bT]
              rw[zbV2,Option.bind_some]
              by_cases e:(zE3 h.aG m.aI m.aW.name).2.2=0
              · have he:=zbD2 hV m.aI m.aW.name
                rw[bN (nd0 e),zb0 (by omega)];simp only[bT,e];exact zbj4 g hi hn (zbI6 f e) (zcv1 f e) (zcC0 f e) (by omega)
              · rw[bO (nd1 e)]
                simp only[e,bV];rfl
        · have k5:m.kind=5:=by rcases hk with k|k|k;exact absurd k k1;exact absurd k k2;exact k
          rw[bN (by simpa using k2),bN k2,bO k5];unfold zcl4;have gp:=zcl6 (m:=m) g;have hv':=zbg5 hV m.site m.inc;rw[zci5,Option.bind_some,zaM3 _ _ _ (by simp only;omega) (zbf6 _ _ _).2.2,Option.bind_some,zbr4 _ (by exact hv') (by simp only;omega),Option.bind_some];simp only;rw[zcO8 (f:=λ t=>decide (t.aI∈zq7 (zaf2 h.aG m.site m.inc).1)) g gp (λ a b e=>by
            have:a.aI=b.aI:=dC Prod.fst e;simp only[this])]
end Ab
end Go.Proofs.YtdlfhmkmnjbihaaGreatDoor
