import Derived.Test.YtfmnjkfhahfhgaaGreatDoorHmsE
import Derived.Test.YtfmnjkfhahfhgaaGreatDoorWsO
namespace Go.Proofs.YtfmnjkfhahfhgaaGreatDoor
namespace Ab
set_option linter.defProp false
set_option linter.unusedVariables false
set_option linter.unusedSimpArgs false
def nJ(k:Int):List UInt8:=(mR k).toList
def xN:List Nat:=[80,71,65,89,68,83,73,82,69,76,87,79]
def cpF(m:aM)(c:Nat)(w:aM):aM:=match c with
 |80=>{w with aL:=m.aL}
 |71=>{w with gen:=m.gen}
 |65=>{w with bA:=m.bA}
 |89=>{w with bD:=m.bD}
 |68=>{w with done:=m.done}
 |83=>{w with site:=m.site}
 |73=>{w with inc:=m.inc}
 |82=>{w with round:=m.round}
 |69=>{w with epoch:=m.epoch}
 |76=>{w with label:=m.label}
 |87=>{w with state:=m.state}
 |79=>{w with options:=m.options}
 |_=>w
def KV(k:Int):nJ k=if k=1 then[80,71,65,89]else if k=2\/k=4 then[80,71,65]else if k=3 then[80,71,65,68]else if k=5 then[83,73]else if k=6\/k=8 then[82]else if k=7 then[82,87,79]else if k=9 then[82,87]
  else if k=10 then[82,69,80,71,76]else if k=11 then[82,80,68]else if k=12 then[69,83]else if k=13\/k=14\/k=15 then[69]else[]:=by
 unfold nJ;rw[lB];unfold mR Fn Fm Cz
 by_cases M:k=1
 .simp[M]
 by_cases K:k=2
 .simp[K]
 by_cases L:k=3
 .simp[L]
 by_cases V:k=4
 .simp[V]
 by_cases Z:k=5
 .simp[Z]
 by_cases c6:k=6
 .simp[c6]
 by_cases c7:k=7
 .simp[c7]
 by_cases c8:k=8
 .simp[c8]
 by_cases c9:k=9
 .simp[c9]
 by_cases H:k=10
 .simp[H]
 by_cases O:k=11
 .simp[O]
 by_cases U:k=12
 .simp[U]
 by_cases Y:k=13
 .simp[Y]
 by_cases B:k=14
 .simp[B]
 by_cases F:k=15
 .simp[F]
 simp[M,K,L,V,Z,c6,c7,c8,c9,H,O,U,Y,B,F]
def okR(l:List UInt8):Prop:=l.length<=5/\∀b∈l,b.toNat∈xN
instance(l:List UInt8):Decidable (okR l):=by unfold okR;infer_instance
def vZ(c:Prop)[Decidable c]{a b:List UInt8}(H:okR a)(hb:okR b):okR (if c then a else b):=by split<;>assumption
def KW(k:Int):(nJ k).length<=5/\∀b∈nJ k,b.toNat∈xN:=by show okR (nJ k);rw[KV];exact vZ _ Om (vZ _ Om (vZ _ Om (vZ _ Om (vZ _ Om (vZ _ Om (vZ _ Om (vZ _ Om (vZ _ Om (vZ _ Om (vZ _ Om Om))))))))))
def OH(k:Int):(mR k).size=(nJ k).length:=by unfold nJ;rw[BH]
def OI(k:Int){i:Nat}(hi:i<(nJ k).length):(((mR k).toList.map λ b=>(b.toNat:Int)).getD i 0)=((((nJ k).getD i 0).toNat:Nat):Int):=by rw[HS _ _ _ (by rw[dN];exact hi),jQ,HS _ _ _ hi];rfl
def V3(m:aM):∀(l:List UInt8) (i:Nat) (w:aM),walk (λ _ b w=>some (Sum.inl (β:=aM) (cpF m (b:UInt8).toNat w))) (λ w=>w) l i w=some (l.foldl (λ w b=>cpF m b.toNat w) w)
 |[],i,w=>rfl
 |b::l,i,w=>by simp only[walk,List.foldl_cons];exact V3 m l (i+1) _
def cPi(m:aM):AB m=some ((nJ m.kind).foldl (λ w b=>cpF m b.toNat w) {aM.zero with kind:=m.kind}):=by
 unfold AB;obtain⟨Y,U⟩:=KW m.kind;have K:(((mR m.kind).toList.map λ b=>(b.toNat:Int)).length:Int)=((nJ m.kind).length:Int):=by rw[dN];rfl
 have H:=vM (body:=Fz m) (nJ m.kind) 0 (λ i (w:aM)=>((i:Int),w)) (λ _ b w=>some (.inl (cpF m b.toNat w))) (λ w=>w)
  (λ i w L=>by
   unfold Fz;rw[K];have O:0<=(i:Int)/\(i:Int)<((nJ m.kind).length:Int):=om
   simp only[O.1,O.2,cW,mD,cF,cG,Qm,OI m.kind L,lY i (show i<4611686018427387904 by omega)];have hm:=U _ (mN (z:=0) L);generalize((nJ m.kind).getD i 0).toNat=c at hm;unfold xN at hm;simp only[cK,eU,iJ]at hm;rcases hm with rfl|rfl|rfl|rfl|rfl|rfl|rfl|rfl|rfl|rfl|rfl|rfl<;>rfl)
  (λ w=>by unfold Fz;rw[K,bZ (by simp)]) {aM.zero with kind:=m.kind}
 rw[lV (by rw[OH];omega),show((0,{aM.zero with kind:=m.kind}):Int×aM)=(λ(i:Nat) (w:aM)=>((i:Int),w)) 0 {aM.zero with kind:=m.kind}from rfl,H,V3];rfl
def tW(m:aM)(c:Nat):Bool:=match c with
 |80=>mL m.aL
 |71=>inN 0 1073741824 m.gen
 |82=>inN 0 1073741824 m.round
 |69=>inN 0 1073741824 m.epoch
 |65=>nY m.bA.name&&(((decide (m.bA.aJ=aC.zero)&&!decide (m.kind=1))&&!decide (m.kind=4))||oM m.bA.aJ)
 |89=>inN 0 7 m.bD
 |83=>decide (0<=m.site)&&decide (m.site<4)
 |73=>inN 1 99 m.inc
 |76=>decide (m.label=-1)||(decide (1<=m.label)&&decide (m.label<=99))
 |87=>(oD m.state&&(!decide (m.kind=7)||decide (((m.state.aF.length:Nat):Int)=0)))&&(!decide (m.kind=9)||decide (((m.state.aY.length:Nat):Int)=0))
 |79=>decide (m.options.length<=40)&&m.options.all optV
 |_=>true
def cPk(m:aM)(c:Nat)(H:c∈xN):xC m (c:Int)=some (tW m c):=by
 unfold xN at H;simp only[cK,eU,iJ]at H;rcases H with rfl|rfl|rfl|rfl|rfl|rfl|rfl|rfl|rfl|rfl|rfl|rfl
 .unfold xC;rw[cA Om,vN];rfl
 .rfl
 .unfold xC;rw[bZ Om,bZ Om,cA Om,Eh,eF,VU];rfl
 .rfl
 .rfl
 .rfl
 .rfl
 .rfl
 .rfl
 .rfl
 .unfold xC;rw[bZ Om,bZ Om,bZ Om,bZ Om,bZ Om,bZ Om,bZ Om,bZ Om,bZ Om,cA Om,Ha,eF];rfl
 .unfold xC;rw[bZ Om,bZ Om,bZ Om,bZ Om,bZ Om,bZ Om,bZ Om,bZ Om,bZ Om,bZ Om,cA Om];show _=some (decide (m.options.length<=40)&&m.options.all optV)
  by_cases h:m.options.length<=40
  .rw[bZ (by simp;omega),vW m.options.length (λ i=>optV (m.options.getD i aQ.zero)) (λ i K=>by
    unfold JL;have O:0<=(i:Int)/\(i:Int)<(m.options.length:Int):=om
    simp only[O.1,O.2,cW,mD,cF,cG,lA];rw[OD,eF,mB om om];cases optV (m.options.getD i aQ.zero)<;>rfl) (by unfold JL;simp),eF,OE m.options aQ.zero optV,cP h]
   cases m.options.all optV<;>rfl
  .rw[cA (by simp;omega),fH h];rfl
def encR(m:aM)(c:Nat):List Int:=match c with
 |80=>encP m.aL
 |71=>encI m.gen
 |82=>encI m.round
 |69=>encI m.epoch
 |89=>encI m.bD
 |83=>encI m.site
 |73=>encI m.inc
 |76=>encI (m.label+1)
 |65=>encT m.bA.name++(encI m.bA.aJ.mode++encI m.bA.aJ.aT)
 |68=>[if m.done=true then 1 else 0]
 |87=>encI ((encS m.state).length:Int)++encS m.state
 |79=>encI (m.options.length:Int)++m.options.flatMap encO
 |_=>[]
def V4{m:aM}(h:tW m 65=true):m.bA.name.size<=12/\okA m.bA.aJ:=by
 have H:(nY m.bA.name&&(((decide (m.bA.aJ=aC.zero)&&!decide (m.kind=1))&&!decide (m.kind=4))||oM m.bA.aJ))=true:=h;rw[bX,dV]at H;refine⟨a8 H.1,?_⟩;rcases H.2 with k|k
 .rw[bX,bX,cD]at k;rw[k.1.1];unfold okA okI aC.zero;simp
 .exact x8 k
def cPm{m:aM}{c:Nat}(Y:c∈xN)(H:tW m c=true):(encR m c).length<=1000000:=by
 have O:∀{lo hi x:Int},inN lo hi x=true->0<=lo->hi<=1073741824->(encI x).length<=1000000:=λ h M U=>by have:=nN (tV h M U);omega
 unfold xN at Y;simp only[cK,eU,iJ]at Y;rcases Y with rfl|rfl|rfl|rfl|rfl|rfl|rfl|rfl|rfl|rfl|rfl|rfl
 .have:=BI (p:=m.aL) H;show(encP m.aL).length<=_;omega
 .exact O (lo:=0) (hi:=1073741824) H Om Om
 .have⟨L,B⟩:=V4 H;have U:=Hd (s:=m.bA.name) om;have F:=nN B.1;have V:=nN B.2;show(encT m.bA.name++(encI m.bA.aJ.mode++encI m.bA.aJ.aT)).length<=_;simp only[cC];omega
 .exact O (lo:=0) (hi:=7) H Om Om
 .show([if m.done=true then 1 else 0]:List Int).length<=_;simp
 .have h:(decide (0<=m.site)&&decide (m.site<4))=true:=H;simp only[bX,cD]at h;have:=nN (x:=m.site) (by unfold okI;omega);show(encI m.site).length<=_;omega
 .exact O (lo:=1) (hi:=99) H Om Om
 .exact O (lo:=0) (hi:=1073741824) H Om Om
 .exact O (lo:=0) (hi:=1073741824) H Om Om
 .have h:(decide (m.label=-1)||(decide (1<=m.label)&&decide (m.label<=99)))=true:=H;simp only[dV,bX,cD]at h;have:=nN (x:=m.label+1) (by unfold okI;omega);show(encI (m.label+1)).length<=_;omega
 .have h:((oD m.state&&(!decide (m.kind=7)||decide (((m.state.aF.length:Nat):Int)=0)))&&(!decide (m.kind=9)||decide (((m.state.aY.length:Nat):Int)=0)))=true:=H;rw[bX,bX]at h;have U:=Ex (Ew h.1.1).1;have F:=nN (x:=((encS m.state).length:Int)) (by unfold okI;omega);show(encI ((encS m.state).length:Int)++encS m.state).length<=_;simp only[cC];omega
 .have h:(decide (m.options.length<=40)&&m.options.all optV)=true:=H;rw[bX,cD,dT]at h;have U:(m.options.flatMap encO).length<=20000*m.options.length:=vT λ x K=>VX (OF (h.2 x K));have F:=nN (x:=(m.options.length:Int)) (by have:=h.1;unfold okI;omega);show(encI (m.options.length:Int)++m.options.flatMap encO).length<=_;have:=h.1;simp only[cC];omega
def cPn(m:aM)(i:Nat)(acc:List Int)(hi:i<(nJ m.kind).length)(Y:((nJ m.kind).getD i 0).toNat∈xN)(U:tW m ((nJ m.kind).getD i 0).toNat=true)(O:room acc (encR m ((nJ m.kind).getD i 0).toNat)):
  s6 m ((i:Int),acc)=some (.inl (((i+1:Nat):Int),acc++encR m ((nJ m.kind).getD i 0).toNat)):=by
 obtain⟨h5,_⟩:=KW m.kind;have K:(((mR m.kind).toList.map λ b=>(b.toNat:Int)).length:Int)=((nJ m.kind).length:Int):=by rw[dN];rfl
 unfold s6;rw[K];have B:0<=(i:Int)/\(i:Int)<((nJ m.kind).length:Int):=om
 simp only[B.1,B.2,cW,mD,cF,cG,Qm,OI m.kind hi,lY i (show i<4611686018427387904 by omega)];generalize((nJ m.kind).getD i 0).toNat=c at Y U O;unfold xN at Y;simp only[cK,eU,iJ]at Y;rcases Y with rfl|rfl|rfl|rfl|rfl|rfl|rfl|rfl|rfl|rfl|rfl|rfl
 .rw[cA Om,(KU (p:=m.aL) U O).2];rfl
 .rw[bZ Om,cA Om,(oI (x:=m.gen) (tV (lo:=0) (hi:=1073741824) U Om Om) O).2];rfl
 .have⟨k1,F⟩:=V4 U;have H:room acc (encT m.bA.name++(encI m.bA.aJ.mode++encI m.bA.aJ.aT)):=O;rw[bZ Om,bZ Om,cA Om,(KT om H.left).2,eF,(oI F.1 H.right.left).2,eF,(oI F.2 H.right.right).2,eF];simp only[cJ];rfl
 .rw[bZ Om,bZ Om,bZ Om,cA Om,(oI (x:=m.bD) (tV (lo:=0) (hi:=7) U Om Om) O).2];rfl
 .rw[bZ Om,bZ Om,bZ Om,bZ Om,cA Om];have L:acc.length+1<=4294967296:=by unfold room at O;omega
  show _=some (Sum.inl (_,acc++[if m.done=true then 1 else 0]));cases m.done with
  |true=>rw[cA rfl,gdp L];rfl
  |false=>rw[bZ Om,gdp L];rfl
 .have h:(decide (0<=m.site)&&decide (m.site<4))=true:=U;simp only[bX,cD]at h;rw[bZ Om,bZ Om,bZ Om,bZ Om,bZ Om,cA Om,(oI (x:=m.site) (by unfold okI;omega) O).2];rfl
 .rw[bZ Om,bZ Om,bZ Om,bZ Om,bZ Om,bZ Om,cA Om,(oI (x:=m.inc) (tV (lo:=1) (hi:=99) U Om Om) O).2];rfl
 .rw[bZ Om,bZ Om,bZ Om,bZ Om,bZ Om,bZ Om,bZ Om,cA Om,(oI (x:=m.round) (tV (lo:=0) (hi:=1073741824) U Om Om) O).2];rfl
 .rw[bZ Om,bZ Om,bZ Om,bZ Om,bZ Om,bZ Om,bZ Om,bZ Om,cA Om,(oI (x:=m.epoch) (tV (lo:=0) (hi:=1073741824) U Om Om) O).2];rfl
 .have h:(decide (m.label=-1)||(decide (1<=m.label)&&decide (m.label<=99)))=true:=U;simp only[dV,bX,cD]at h;rw[bZ Om,bZ Om,bZ Om,bZ Om,bZ Om,bZ Om,bZ Om,bZ Om,bZ Om,cA Om,mB (x:=m.label+1) om om,(oI (x:=m.label+1) (by unfold okI;omega) O).2];rfl
 .have h:((oD m.state&&(!decide (m.kind=7)||decide (((m.state.aF.length:Nat):Int)=0)))&&(!decide (m.kind=9)||decide (((m.state.aY.length:Nat):Int)=0)))=true:=U;rw[bX,bX]at h;have h1:=Ex (Ew h.1.1).1;have H:room acc (encI ((encS m.state).length:Int)++encS m.state):=O;rw[bZ Om,bZ Om,bZ Om,bZ Om,bZ Om,bZ Om,bZ Om,bZ Om,bZ Om,bZ Om,cA Om,cO4,h.1.1,cA rfl,eF,(oI (by unfold okI;omega) H.left).2,eF];have:=H.right;unfold room at this;rw[gdp (by simp only;omega),cJ];rfl
 .have h:(decide (m.options.length<=40)&&m.options.all optV)=true:=U;rw[bX,cD,dT]at h;have H:room acc (encI (m.options.length:Int)++m.options.flatMap encO):=O;have M:=h.1;rw[bZ Om,bZ Om,bZ Om,bZ Om,bZ Om,bZ Om,bZ Om,bZ Om,bZ Om,bZ Om,bZ Om,cA Om,(oI (by unfold okI;omega) H.left).2,eF];rw[EG (body:=GF m) (enc:=encO) (ok:=λ a=>optV a=true) m.options aQ.zero om (λ i acc hi V Z=>by
   unfold GF;simp only;rw[cA (by simpa using hi),gdp om];simp only[lA];rw[(VY V Z).2,eF,lY i om]) (λ acc=>by unfold GF;simp) h.2 _ H.right,eF]
  unfold M5;simp only[lY i (show i<4611686018427387904 by omega),cJ];rfl
def OJ(m:aM):List Int:=encI m.kind++(nJ m.kind).flatMap λ b=>encR m b.toNat
def cPp{m:aM}(B:1<=m.kind/\m.kind<=15)(h:∀b∈nJ m.kind,tW m b.toNat=true):Bt m=some (OJ m):=by
 obtain⟨F,U⟩:=KW m.kind;have M:=nN (x:=m.kind) (by unfold okI;omega);have e2:((nJ m.kind).flatMap λ b=>encR m b.toNat).length<=1000000*(nJ m.kind).length:=vT λ b hb=>cPm (U b hb) (h b hb);have Y:room (encI m.kind) ((nJ m.kind).flatMap λ b=>encR m b.toNat):=by unfold room;omega
 have O:room [] (encI m.kind):=by unfold room at*;simp;omega
 have K:(((mR m.kind).toList.map λ b=>(b.toNat:Int)).length:Int)=((nJ m.kind).length:Int):=by rw[dN];rfl
 unfold Bt;rw[(oI (by unfold okI;omega) O).2,eF,lV (by rw[OH];omega),lD];rw[EG (body:=s6 m) (enc:=λ b:UInt8=>encR m b.toNat) (ok:=λ b=>b.toNat∈xN/\tW m b.toNat=true) (nJ m.kind) 0 om (λ i H V L Z=>cPn m i H V L.1 L.2 Z)
  (λ H=>by unfold s6;rw[K,bZ (by simp)]) (λ b hb=>⟨U b hb,h b hb⟩) _ Y]
 rfl
mutual
def widE:aR->Bool
 |⟨_,_,ks⟩=>decide (ks.length<=1000000)&&widL ks
def widL:List aR->Bool
 |[]=>true
 |k::l=>widE k&&widL l
end
def V5(e:aR):widE e=(decide (e.bG.length<=1000000)&&widL e.bG):=by cases e;rw[widE]
def V6:∀{l:List aR} {k:aR},widL l=true->k∈l->widE k=true
 |x::l,k,h,hk=>by
  simp only[widL,bX]at h;rcases cK.1 hk with rfl|hk
  .exact h.1
  .exact V6 h.2 hk
def cPs{e k:aR}(h:k∈e.bG):_root_.SizeOf.sizeOf k<_root_.SizeOf.sizeOf e:=by cases e;have:=jL h;simp only at h this⊢;simp only[aR.mk.sizeOf_spec];omega
def V7:∀(n:Nat) (e:aR),_root_.SizeOf.sizeOf e<n->widE e=true->Cv n e e=some true
 |0,e,h,_=>om
 |n+1,e,h,K=>by
  show k9 (Cv n) e e=some true;unfold k9;rw[V5,bX,cD]at K;rw[bZ (by simp),vW e.bG.length (λ _=>true) (λ i L=>by
   unfold Fg;have H:0<=(i:Int)/\(i:Int)<(e.bG.length:Int):=om
   simp only[H.1,H.2,cW,mD,cF,cG,lA];have hm:=mN (z:=aR.zero) L;rw[V7 n _ (by have:=cPs hm;omega) (V6 K.2 hm),eF,mB om om];rfl) (by unfold Fg;simp)]
  simp[L7]
def V8(s:aI)(O:s.aF.length<=1000000)(U:Lens s.aF)(Y:s.aY.length<=1000000)(K:∀n∈s.aY,widE n.bU=true):vK s s=some true:=by
 unfold vK;rw[UJ _ _ O (λ q h=>U q h),eF,bZ (by simp),vW s.aY.length (λ _=>true) (λ i L=>by
  unfold FR FA Ap;have H:0<=(i:Int)/\(i:Int)<(s.aY.length:Int):=om
  simp only[H.1,H.2,cW,mD,cF,cG,lA,gK];rw[V7 _ _ (eN _) (K _ (mN L)),eF,eF,mB om om];rfl) (by unfold FR;simp)]
 simp[Jc]
def cPv(s:aI)(H:s.aF.length<=1000000)(O:Lens s.aF):vK s aI.zero=some (Hn s):=by
 unfold vK Hn;rw[UJ _ _ H (λ q h=>O q h),eF]
 by_cases c:s.aF=[]
 .by_cases d:s.aY=[]
  .rw[bZ (by simp[c,d,aI.zero]),vW 0 (λ _=>true) (λ i K=>om) (by unfold FR;simp[d])];simp[Jc,c,d]
  .rw[cA (by simp[c,d,aI.zero])];simp[c,d]
 .rw[cA (by simp[c,aI.zero])];simp[c]
def cPw(m:aM)(Y:1<=m.kind/\m.kind<=15){b:Bool}(B:yZ m ((nJ m.kind).foldl (λ w b=>cpF m b.toNat w) {aM.zero with kind:=m.kind})=some b):
  zO m=some (b&&(((nJ m.kind).all λ c=>tW m c.toNat)&&decide (((OJ m).length:Int)<=4064))):=by
 obtain⟨Z,F⟩:=KW m.kind;have H:((mR m.kind).toList==(⟨#[]⟩:ByteArray).toList)=false:=by
  have M:(⟨#[]⟩:ByteArray).toList=[]:=by rw[lB]
  rw[M];show(nJ m.kind==[])=false;rw[beq_eq_false_iff_ne,KV];have:m.kind=1\/m.kind=2\/m.kind=3\/m.kind=4\/m.kind=5\/m.kind=6\/m.kind=7\/m.kind=8\/m.kind=9\/m.kind=10\/m.kind=11\/m.kind=12\/m.kind=13\/m.kind=14\/m.kind=15:=om
  rcases this with h|h|h|h|h|h|h|h|h|h|h|h|h|h|h<;>rw[h]<;>decide
 have K:(((mR m.kind).toList.map λ b=>(b.toNat:Int)).length:Int)=((nJ m.kind).length:Int):=by rw[dN];rfl
 unfold zO;simp only[H,dK,cG,cPi,qm,B,dP];cases b with
 |false=>rfl
 |true=>
  rw[bZ Om,lV (by rw[OH];omega),vW (nJ m.kind).length (λ i=>tW m ((nJ m.kind).getD i 0).toNat) (λ i L=>by
   unfold JR;rw[K];have U:0<=(i:Int)/\(i:Int)<((nJ m.kind).length:Int):=om
   simp only[U.1,U.2,cW,mD,cF,cG,lA,OI m.kind L];rw[cPk m _ (F _ (mN (z:=0) L)),eF,mB om om];cases tW m ((nJ m.kind).getD i 0).toNat<;>rfl) (by unfold JR;rw[K];simp),eF,OE (nJ m.kind) 0 (λ c=>tW m c.toNat)]
  cases V:(nJ m.kind).all λ c=>tW m c.toNat with
  |false=>rfl
  |true=>simp only[cG,M6,cL];rw[cPp Y (λ c O=>dT.1 V c O),eF]
def cPx:tL [] []=some true:=by unfold tL;rw[bZ (by simp),vW 0 (λ _=>true) (λ i H=>om) (by unfold FH;simp)];simp[IX]
def scal(m w:aM):Bool:=((((((((((decide (m.kind=w.kind))&&(decide (m.aL=w.aL)))&&(decide (m.gen=w.gen)))&&(decide (m.bA=w.bA)))&&(decide (m.bD=w.bD)))&&(decide (m.inc=w.inc)))&&(decide (m.round=w.round)))&&(decide (m.epoch=w.epoch)))&&(decide (m.site=w.site)))&&(decide (m.label=w.label)))&&(decide (m.done=w.done))
def cPy(a:List aO)(K:a.length<=9223372036854775807):wM a a=some true:=by
 unfold wM;rw[bZ (by simp),vW a.length (λ _=>true) (λ i L=>by
  unfold H9;have H:0<=(i:Int)/\(i:Int)<(a.length:Int):=om
  simp only[H.1,H.2,cW,mD,cF,cG,lA];rw[mB om om];rfl) (by unfold H9;simp)]
 simp[L3]
def V9(l:List aQ)(L:l.length<=1000000)(h:∀o∈l,o.lower.length<=9223372036854775807):tL l l=some true:=by
 unfold tL;rw[bZ (by simp),vW l.length (λ _=>true) (λ i K=>by
  unfold FH Fy;have H:0<=(i:Int)/\(i:Int)<(l.length:Int):=om
  simp only[H.1,H.2,cW,mD,cF,cG,lA,gK];rw[cPy _ (h _ (mN K)),eF,eF,mB om om];rfl) (by unfold FH;simp)]
 simp[IX]
def cQ0(l:List aQ):tL l []=some (decide (l=[])):=by
 cases l with
 |nil=>exact cPx
 |cons a l=>unfold tL;rw[cA (by simp;omega),fH (by simp)]
def Wa(m w:aM)(v1 v2:Bool)(H:vK m.state w.state=some v1)(O:tL m.options w.options=some v2):yZ m w=some (scal m w&&(v1&&v2)):=by unfold yZ;rw[H,O];show((if scal m w=true then some v1 else some false).bind λ v1=>(if(scal m w&&v1)=true then some v2 else some false).bind λ v2=>some ((scal m w&&v1)&&v2))=_;cases scal m w<;>cases v1<;>cases v2<;>rfl
structure FitM (m:aM):Prop where
 q:m.state.aF.length<=1000000
 s:Lens m.state.aF
 n:m.state.aY.length<=1000000
 w:∀n∈m.state.aY,widE n.bU=true
 o:m.options.length<=1000000
 l:∀o∈m.options,o.lower.length<=9223372036854775807
def Wb(l:List ByteArray)(nm:ByteArray)(U:l.length<=1000):∃r,m4 l nm=some r/\r.length<=l.length+1:=by
 unfold m4;obtain⟨x,e,L⟩:=nM (body:=IF l nm) (λ g=>∃k:Nat,g=k/\k<=l.length) (λ g=>l.length-g.toNat) (λ x=>∃k:Nat,x=k/\k<=l.length) (λ g ⟨k,H,K⟩=>by
  subst H;unfold IF
  by_cases c:k<l.length
  .have O:0<=(k:Int)/\(k:Int)<(l.length:Int):=om
   rw[gdp (λ _=>O)];split
   .left;rw[lY k om];exact⟨_,rfl,⟨k+1,rfl,c⟩,by simp only[Qm];omega⟩
   .right;exact⟨_,rfl,k,rfl,K⟩
  .right;rw[gdp (by simp<;>omega),bZ (by simp<;>omega)];exact⟨_,rfl,k,rfl,K⟩) 0 ⟨0,rfl,by omega⟩
 obtain⟨k,rfl,H⟩:=L;rw[e,eF];unfold Mg;rw[gdp (by simp<;>omega)];split
 .exact⟨_,rfl,by omega⟩
 .simp only[Qm];rw[gdp om,gdp (by rw[dC];omega),gdp (by rw[dC];omega),gdp om,gdp (by rw[dC,eH];omega)];exact⟨_,rfl,by simp only[cC,dC,eH,Km];omega⟩
def Wd{S X:Type}{body:S×Int->Option ((S×Int)⊕X)}(n:Nat)(H:Nat->S->Prop)(Post:X->Prop)
  (h:∀(i:Nat) s,i<n->H i s->∃O,body (s,(i:Int))=some (.inl (O,((i+1:Nat):Int)))/\H (i+1) O)
  (Y:∀s,H n s->∃x,body (s,(n:Int))=some (.inr x)/\Post x) (s0:S) (B:H 0 s0):∃x,lS body (s0,0)=some x/\Post x:=
 nM (body:=body) (λ g=>∃k:Nat,g.2=(k:Int)/\k<=n/\H k g.1) (λ g=>n-g.2.toNat) Post
  (λ g ⟨k,L,V,K⟩=>by
   obtain⟨s,F⟩:=g;simp only at L K;subst L
   by_cases c:k<n
   .obtain⟨O,e,U⟩:=h k s c K;exact .inl ⟨_,e,⟨k+1,rfl,c,U⟩,by simp only[Qm];omega⟩
   .have:k=n:=om
    subst this;obtain⟨x,e,Z⟩:=Y s K;exact .inr ⟨x,e,Z⟩) (s0,0) ⟨0,rfl,by omega,B⟩
def We(x:aG)(l:aZ)(label:Int)(hx:x.bF.aP.length<=72)(hl:l.aP.length<=x.bF.aP.length):∃o,vL x l label=some o/\o.lower.length<=100:=by
 unfold vL;rw[gdp om];have M:∀H:List ByteArray,H.length<=100->∃o,DP x l label H=some o/\o.lower.length<=100:=λ H U=>by
  unfold DP;obtain⟨o,e,K⟩:=Hj (body:=Gt l H) H.length (λ i o=>o.lower.length<=i) (λ o=>o.lower.length<=100) (λ i o V h0=>by
   left;unfold Gt;have O:0<=(i:Int)/\(i:Int)<(H.length:Int):=om
   simp only[O.1,O.2,cW,mD,cF,cG,Qm,lY i (show i<4611686018427387904 by omega),x9 l.aP (H.getD i ⟨#[]⟩) om,qm];rw[gdp om];exact⟨_,rfl,by simp only[cC,Km];omega⟩) (λ o K=>by
   unfold Gt;simp only[iG,cO,bY,cH];exact⟨_,rfl,by omega⟩) (⟨⟨x.aL.site,x.aL.inc,x.aL.num⟩,label,IntKind.i64.wrap (x.cost*(IntKind.i64.wrap ((IntKind.i64.wrap ((x.bF.aP.length:Int)-(l.aP.length:Int)))+1))),[]⟩:aQ) (by simp)
  rw[e];exact⟨_,rfl,K⟩
 have hd:(x.bF.aP.drop ((l.aP.length:Int).toNat)).length<=72:=by rw[eH];omega
 obtain⟨H,e,U⟩:=Wd (body:=Gv x l) (x.bF.aP.drop ((l.aP.length:Int).toNat)).length (λ i s=>s.length<=i) (λ s=>s.length<=72) (λ i s V Y=>by
  unfold Gv;have O:0<=(i:Int)/\(i:Int)<((x.bF.aP.drop ((l.aP.length:Int).toNat)).length:Int):=om
  obtain⟨r,B,Z⟩:=Wb s ((x.bF.aP.drop ((l.aP.length:Int).toNat)).getD i bM.zero).name om;simp only[O.1,O.2,cW,mD,cF,cG];rw[lA i,B,eF,lY i om];exact⟨_,rfl,by omega⟩) (λ s Y=>by
  unfold Gv;simp only[iG,cO,bY,cH];exact⟨_,rfl,by omega⟩) [] (by simp)
 rw[e,eF];unfold DQ;rcases hb x.bI with w|w
 .obtain⟨L,a1,a2,_⟩:=BP x.bJ.bU;rw[cA w,a1,eF];obtain⟨ms,e3,F⟩:=Wd (body:=Gu L) L.length (λ i s=>s.length<=72+i) (λ s=>s.length<=100) (λ i s V Y=>by
   unfold Gu;have O:0<=(i:Int)/\(i:Int)<(L.length:Int):=om
   obtain⟨r,B,Z⟩:=Wb s (L.getD i aO.zero).name om;simp only[O.1,O.2,cW,mD,cF,cG,Qm,B,qm,lY i (show i<4611686018427387904 by omega)];exact⟨_,rfl,by omega⟩) (λ s Y=>by
   unfold Gu;simp only[iG,cO,bY,cH];exact⟨_,rfl,by omega⟩) H om
  rw[e3,eF];exact M ms F
 .rw[bZ (by rw[w];decide)];exact M H om
def LowL(l:List aQ):Prop:=∀o∈l,o.lower.length<=100
def LowL.snoc{l:List aQ}(h:LowL l){o:aQ}(ho:o.lower.length<=100):LowL (l++[o]):=λ x hx=>by
 rcases cX.1 hx with hx|hx
 .exact h x hx
 .rw[dO.1 hx];exact ho
def cQ5(x:aG):∃l,Bq x=some l/\l.length<=100/\LowL l:=by
 have nil:LowL []:=λ o M=>nomatch M;unfold Bq;obtain⟨b,v1,v2⟩:=BO x.bF;obtain⟨Z,v3⟩:∃b,uL x.bJ=some b:=by unfold uL;rw[G9,eF];exact⟨_,rfl⟩
 rw[v1,v3];generalize(((!(oU x.aL))||(decide (x.cost<1)))||(decide (1000<x.cost)))=p;cases p with
 |true=>exact⟨_,rfl,by simp,nil⟩
 |false=>
 cases b with
 |false=>exact⟨[],by simp,by simp,nil⟩
 |true=>
 have O:=v2 rfl;have H:=O.le;have h4:=O.ls;have go:∃l,(lS (Gw x) ((IntKind.i64.wrap ((x.bF.bH.length:Int)-1)),[])).bind (λ|.inl z=>DR x z|.inr z=>some z)=some l/\l.length<=100/\LowL l:=by
  obtain⟨y,e,K⟩:=nM (body:=Gw x) (λ g=>-1<=g.1/\g.1<(x.bF.bH.length:Int)/\(g.2.length:Int)+g.1<=4/\LowL g.2) (λ g=>(g.1+1).toNat) (λ y=>match y with|.inl z=>z.length<=10/\LowL z|.inr z=>z=[]) (λ g ⟨h0,L,h2,V⟩=>by
   obtain⟨i,l⟩:=g;simp only at h0 L h2 V;unfold Gw
   by_cases c:0<=i
   .simp only[c,cF,cG];obtain⟨r,u1,u2,u3,u4⟩:=VG O (x.bF.bH.getD i.toNat bV.zero).label;rw[gdp ⟨trivial,L⟩,u1,eF]
    by_cases F:r.2.2=0
    .left;obtain⟨o,U,Y⟩:=We x r.1 (x.bF.bH.getD i.toNat bV.zero).label H u4;rw[bZ (by simp[F]),gdp ⟨trivial,L⟩,U,eF,gdp om,mB om om];exact⟨_,rfl,⟨by simp only;omega,by simp only;omega,by simp only[cC,Km];omega,V.snoc Y⟩,by simp only;omega⟩
    .right;rw[cA (by simp[F])];exact⟨_,rfl,rfl⟩
   .right;simp only[c,cO,bY,cH];exact⟨_,rfl,by omega,V⟩) (IntKind.i64.wrap ((x.bF.bH.length:Int)-1),[]) ⟨by simp only;rw[mB om om];omega,by simp only;rw[mB om om];omega,by simp only[Ym];rw[mB om om];omega,nil⟩
  rw[e,eF];rcases y with z|z
  .have K:z.length<=10/\LowL z:=K;show∃l,DR x z=some l/\_;unfold DR;obtain⟨o,U,Y⟩:=We x aZ.zero (-1) H (fO _);show∃l,(vL x aZ.zero (-1)).bind _=some l/\_;rw[U,eF,gdp om];obtain⟨y,e2,B⟩:=nM (body:=JK z o) (λ g=>∃k:Nat,g=k/\k<=z.length+1) (λ g=>z.length+1-g.toNat) (λ y=>y=.inl ()\/y=.inr []) (λ g ⟨k,hk,hkl⟩=>by
    subst hk;unfold JK
    by_cases c:k<z.length+1
    .rw[cA (by simp only[cD];omega),gdp (by rw[cC,lL];omega),OD,eF];split
     .right;exact⟨_,rfl,.inr rfl⟩
     .left;rw[lY k om];exact⟨_,rfl,⟨k+1,rfl,c⟩,by simp only[Qm];omega⟩
    .right;rw[bZ (by simp only[cD];omega)];exact⟨_,rfl,.inl rfl⟩) 0 ⟨0,rfl,by omega⟩
   rw[e2,eF];rcases B with rfl|rfl
   .exact⟨_,rfl,by simp only[cC,Km];omega,K.2.snoc Y⟩
   .exact⟨_,rfl,by simp,nil⟩
  .have K:z=[]:=K;exact⟨_,rfl,by rw[K];simp,by rw[K];exact nil⟩
 cases hw:x.bI<;>cases Z<;>simp[hw]<;>first|exact go|exact nil|exact⟨by simp,nil⟩
def BW(k:Int)(h:1<=k/\k<=15):pJ k=if k=1 then[80,71,65,89]else if k=2 then[80,71,97]else if k=3 then[80,71,97,68]else if k=4 then[80,71,65]else if k=5 then[83,73]else if k=6\/k=8 then[82]else if k=7 then[82,78,79]else if k=9 then[82,76]else if k=10 then[82,69,80,71,66]else if k=11 then[82,80,68]else if k=12 then[69,83]else[69]:=by
 have g:∀i:Nat,i<16->1<=i->(Arr.get mZ i ⟨#[]⟩).data.toList=if(i:Int)=1 then[80,71,65,89]else if(i:Int)=2 then[80,71,97]else if(i:Int)=3 then[80,71,97,68]else if(i:Int)=4 then[80,71,65]else if(i:Int)=5 then[83,73]else if(i:Int)=6\/(i:Int)=8 then[82]else if(i:Int)=7 then[82,78,79]else if(i:Int)=9 then[82,76]else if(i:Int)=10 then[82,69,80,71,66]else if(i:Int)=11 then[82,80,68]else if(i:Int)=12 then[69,83]else[69]:=by decide
 unfold pJ;rw[lB];have:=g k.toNat om om;rwa [show((k.toNat:Nat):Int)=k by omega]at this
def Wf{k:Int}(h:1<=k/\k<=15):k=1\/k=2\/k=3\/k=4\/k=5\/k=6\/k=7\/k=8\/k=9\/k=10\/k=11\/k=12\/k=13\/k=14\/k=15:=om
def cQ8{m:aM}{H O:List UInt8}{v1 v2:Bool}(h:1<=m.kind/\m.kind<=15)(e:nJ m.kind=H)(U:pJ m.kind=O)
  (Y:vK m.state (H.foldl (λ w b=>cpF m b.toNat w) {aM.zero with kind:=m.kind}).state=some v1)
  (B:tL m.options (H.foldl (λ w b=>cpF m b.toNat w) {aM.zero with kind:=m.kind}).options=some v2)
  (g:(scal m (H.foldl (λ w b=>cpF m b.toNat w) {aM.zero with kind:=m.kind})&&(v1&&v2)&&((H.all λ c=>tW m c.toNat)&&decide (((encI m.kind++H.flatMap λ b=>encR m b.toNat).length:Int)<=4064)))
  =((O.all λ b=>pS m b.toNat)&&EF (O.foldl (λ w b=>clrF b.toNat w) {m with kind:=0})&&decide (((encI m.kind++O.flatMap λ b=>encF m b.toNat).length:Int)<=4064))):zO m=some (sI m):=by
 rw[cPw m h (Wa _ _ _ _ (by rw[e];exact Y) (by rw[e];exact B))];unfold sI tU encM OJ;rw[e,U,g,cP h.1,cP h.2,cL,cL]
def cQ9{m:aM}(hm:FitM m):zO m=some (sI m):=by
 by_cases h:1<=m.kind/\m.kind<=15
 .have F:=cPv m.state hm.q hm.s;have M:=V8 m.state hm.q hm.s hm.n hm.w;have o0:=cQ0 m.options;have o1:=V9 m.options hm.o hm.l;have eR:=KV m.kind;have eL:=BW m.kind h;have K:Hn aI.zero=true:=rfl;obtain⟨x0,aL,gen,bA,bD,z0,O,U,y0,Y,done,B,H⟩:=m;simp only at h F M o0 o1 eR eL;rcases Wf h with rfl|rfl|rfl|rfl|rfl|rfl|rfl|rfl|rfl|rfl|rfl|rfl|rfl|rfl|rfl
  all_goals
   refine cQ8 h (eR.trans rfl) (eL.trans rfl) (by first|exact F|exact M) (by first|exact o0|exact o1) ?_;rw[dM];simp only[bX,OA,EF,scal,List.foldl_cons,List.foldl_nil,List.all_cons,List.all_nil,fN,List.flatMap_nil,cD];simp[tW,pS,encR,encF,cpF,clrF,K,aM.zero,inN]
   grind
 .have e:nJ m.kind=[]:=by
   rw[KV]
   repeat rw[bZ om]
  have L:((mR m.kind).toList==(⟨#[]⟩:ByteArray).toList)=true:=by
   have V:(⟨#[]⟩:ByteArray).toList=[]:=by rw[lB]
   rw[V];show(nJ m.kind==[])=true;rw[e];rfl
  have Z:sI m=false:=by
   have:(decide (1<=m.kind)&&decide (m.kind<=15))=false:=by rw[dG];intro k;simp at k;omega
   unfold sI tU;rw[this];rfl
  unfold zO;simp only[L,cR,bY,cH,qm,fT,cG,Z]
def Wg:∀(l:List UInt8) (w:aM),(∀b∈l,b.toNat≠73)->(l.foldl (λ w b=>clrF b.toNat w) w).inc=w.inc
 |[],w,_=>rfl
 |b::l,w,h=>by rw[lJ,Wg l _ λ x H=>h x (.tail _ H)];have:=h b (.head _);unfold clrF;split<;>first|rfl|exact absurd (by assumption) this
def cQb{m:aM}(hi:m.inc=1)(hg:m.gen≠0):sI m=false:=by
 rw[dG];intro K;unfold sI tU at K;simp only[bX,cD]at K;obtain⟨⟨h,U,hb⟩,_⟩:=K;unfold EF at hb;rw[bX,OA]at hb
 by_cases O:m.kind=5
 .have e:pJ m.kind=[83,73]:=by rw[O,BW 5 Om];rfl
  rw[e]at hb;exact hg hb.1.1
 .have H:∀b∈pJ m.kind,b.toNat≠73:=by
   rw[BW m.kind h];rcases Wf h with e|e|e|e|e|e|e|e|e|e|e|e|e|e|e<;>rw[e]<;>first|decide|exact absurd e O
  have:=hb.1.2.2.2.2.2.1;rw[Wg _ _ H]at this;rw[show({m with kind:=0}:aM).inc=1 from hi]at this;exact absurd this Om
def cQc{m:aM}(hm:FitM m):yZ m m=some true:=by rw[Wa m m _ _ (V8 m.state hm.q hm.s hm.n hm.w) (V9 m.options hm.o hm.l)];simp[scal]
def Wh:∀{l:List aR},(∀k∈l,widE k=true)->widL l=true
 |[],_=>by simp only[widL]
 |k::l,h=>by simp only[widL,bX];exact⟨h k (.head _),Wh λ x H=>h x (.tail _ H)⟩
def Wi:∀(n:Nat) (e:aR),_root_.SizeOf.sizeOf e<n->mJ e<=1000000->widE e=true
 |0,e,h,_=>absurd h (Nat.not_lt_zero _)
 |n+1,e,h,K=>by rw[V5];have O:=uT e;have U:=sU e.bG;rw[cP om,cL];exact Wh λ k H=>Wi n k (zX h H) (by have:=Kx H;omega)
def EI{m:aM}(H:m.state=aI.zero)(O:m.options=[]):FitM m:=
 ⟨by rw[H];decide,by rw[H];exact(λ q U=>nomatch U),by rw[H];decide,by rw[H];exact(λ n Y=>nomatch Y),by rw[O];decide,by rw[O];exact(λ o B=>nomatch B)⟩
def Wj{m:aM}{s:aI}(K:oD s=true)(O:m.state.aF=s.aF\/m.state.aF=[])(H:m.state.aY=s.aY\/m.state.aY=[])(ho:m.options.length<=1000000)(L:LowL m.options):FitM m:=by
 obtain⟨U,F,Y,_⟩:=Hk K;obtain⟨M,B⟩:=Oy U;refine⟨?_,?_,?_,?_,ho,λ o k=>dF (L o k) Om⟩
 .rcases O with e|e<;>rw[e]
  .omega
  .decide
 .rcases O with e|e<;>rw[e]
  .exact B
  .exactλ q O=>nomatch O
 .rcases H with e|e<;>rw[e]
  .omega
  .decide
 .rcases H with e|e<;>rw[e]
  .intro n H;have:=(Vn (Ob Y H).2.1);exact Wi _ n.bU (eN _) om
  .exactλ n H=>nomatch H
def LowL.append{a b:List aQ}(h:LowL a)(k:LowL b):LowL (a++b):=λ x hx=>by
 rcases cX.1 hx with hx|hx
 .exact h x hx
 .exact k x hx
def cQh{c:bC}(hc:c.aD.length<=100):∃l,GK c 40=some l/\l.length<=40/\LowL l:=by
 unfold GK;obtain⟨s,F,_⟩:=Ox c;obtain⟨r,M,hr⟩:=cNm s;rw[F,eF,M,eF];have O:∀(k:Nat) (l:List aQ),k<c.aD.length->l.length<=100000*k->LowL l->∃y,lS (D8 c r ((k:Int),l)) (0,l)=some y/\y.length<=100000*(k+1)/\LowL y:=λ k l hk hg H=>
  Hj (body:=D8 c r ((k:Int),l)) r.2.length (λ i s=>s.length<=100000*k+100*i/\LowL s) (λ y=>y.length<=100000*(k+1)/\LowL y) (λ i s V ⟨L,K⟩=>by
   left;unfold D8;have Y:0<=(i:Int)/\(i:Int)<(r.2.length:Int):=om
   have B:0<=(k:Int)/\(k:Int)<(c.aD.length:Int):=om
   obtain⟨l,o1,o2,o3⟩:=cQ5 (c.aD.getD k aG.zero);simp only[Y.1,Y.2,B.1,B.2,cW,mD,cF,cG,Qm,lY i (show i<4611686018427387904 by omega),o1,qm];split
   .rw[gdp om];exact⟨_,rfl,by simp only[cC];omega,K.append o3⟩
   .exact⟨_,rfl,by omega,K⟩) (λ s ⟨L,K⟩=>by
   unfold D8;simp only[iG,cO,bY,cH];exact⟨_,rfl,by omega,K⟩) l ⟨by omega,H⟩
 obtain⟨y,Z,hy,H⟩:=Hj (body:=GJ c r) c.aD.length (λ i s=>s.length<=100000*i/\LowL s) (λ y=>y.length<=10000000/\LowL y) (λ i s V ⟨L,H⟩=>by
  left;unfold GJ;obtain⟨z,e4,hz⟩:=O i s V L H;rw[cA (by simp only[cD];omega),e4,eF];unfold J4;rw[lY i om];exact⟨_,rfl,hz⟩) (λ s ⟨L,H⟩=>by
  unfold GJ;simp only[iG,cO,bY,cH];exact⟨_,rfl,by omega,H⟩) [] ⟨by simp,λ o U=>nomatch U⟩
 rw[Z,eF];unfold J3;split
 .rename_i k;rw[cD]at k;rw[gdp om,gO];exact⟨_,rfl,by rw[dC];omega,λ o U=>H o (iD U)⟩
 .rename_i k;rw[cD]at k;exact⟨_,rfl,by omega,H⟩
def Wk{v7:Int×bK}(U:TapeOk v7.2){j:aM}(H:j.state=aI.zero)(O:j.options=[]):∃m u,D9 v7 j=some (m,u)/\FitM m:=by
 unfold D9;obtain⟨v,u,e,_⟩:=qJ (m:=2) Om Om U;split
 .rw[e,eF];exact⟨_,_,rfl,EI H O⟩
 .rw[eF];exact⟨_,_,rfl,EI H O⟩
def Wl{l:List Int}(K:l.length<=300)(v4:aK)(v5 v6:Int×bK){v7:Int×bK}(O:TapeOk v7.2)(j:Bool):∃m u,Ea l v4 v5 v6 v7 j=some (m,u)/\FitM m:=by
 unfold Ea;have H:∀{m:aM} {u:bK},m.state=aI.zero->m.options=[]->∃B M,some (m,u)=some (B,M)/\FitM B:=λ L V=>⟨_,_,rfl,EI L V⟩;split
 .exact H rfl rfl
 split
 .obtain⟨c,Z,hc⟩:=VK K;obtain⟨s,U,Y⟩:=Ox c;obtain⟨o,e3,F,hL⟩:=cQh hc;rw[Z,eF,U,eF,e3,eF];exact⟨_,_,rfl,Wj Y (.inr rfl) (.inl rfl) (by simp only;omega) hL⟩
 split
 .obtain⟨s,U,Y⟩:=cN0 K;rw[U,eF];exact⟨_,_,rfl,Wj Y (.inl rfl) (.inr rfl) (by simp[aM.zero]) (λ o F=>nomatch F)⟩
 split
 .obtain⟨v,u,e,_⟩:=qJ (m:=5) Om Om O;rw[e,eF];split<;>exact H rfl rfl
 split
 .obtain⟨v,u,e,_⟩:=qJ (m:=2) Om Om O;rw[e,eF];exact H rfl rfl
 split
 .obtain⟨v,u,e,_⟩:=qJ (m:=4) Om Om O;rw[e,eF];exact H rfl rfl
 .exact H rfl rfl
def Wm{l:List Int}(K:l.length<=300)(v1:List aH×List bP)(v2:Int×bK)(O:nQ (v1.1.getD v2.1.toNat aH.zero)=true)(v4:aK)(v5 v6:Int×bK){v7:Int×bK}(H:TapeOk v7.2)(j:Bool):
  ∃m u,Eb l v1 v2 v4 v5 v6 v7 j=some (m,u)/\FitM m:=by
 unfold Eb;rw[NR _ _ O];simp only[qm];split
 .split
  .exact Wk H rfl rfl
  .exact Wk H rfl rfl
 split
 .exact⟨_,_,rfl,EI rfl rfl⟩
 split
 .obtain⟨v,u,e,_⟩:=qJ (m:=4) Om Om H;rw[e,eF];exact⟨_,_,rfl,EI rfl rfl⟩
 split
 .exact Wl K v4 v5 v6 H _
 .exact Wl K v4 v5 v6 H _
def cQl{l t:List Int}(K:l.length<=300)(ht:t.length<=20):∃m u,Ec l {bK.zero with l:=t}=some (m,u)/\FitM m:=by
 unfold Ec;have M:TapeOk {bK.zero with l:=t}:=⟨by simp only;omega,by show 0<=(0:Int)/\(0:Int)<=t.length;omega⟩;obtain⟨r,k,L,_,x0,V⟩:=VJ K;rw[L,eF];simp only;obtain⟨v2,U,Z,a2,b2,c2⟩:=qJ (m:=(r.length:Int)) om om M;rw[Z,eF,gdp (by simp only;omega)];obtain⟨v3,u3,e3,a3,_⟩:=qJ (m:=8) Om Om a2.ok;simp only[e3,qm,NQ];obtain⟨v5,Y,e5,a5,_⟩:=qJ (m:=15) Om Om a3.ok;simp only[e5,qm];obtain⟨v6,B,e6,a6,_⟩:=qJ (m:=6) Om Om a5.ok;simp only[e6,qm];obtain⟨v7,F,e7,O,_⟩:=qJ (m:=6) Om Om a6.ok;simp only[e7,qm];have H:=V _ (mN (z:=aH.zero) (show v2.toNat<r.length by omega));split
 .obtain⟨v9,u9,e9,_⟩:=qJ (m:=4) Om Om O.ok;rw[NR _ _ H,eF,e9,eF];exact⟨_,_,rfl,EI rfl rfl⟩
 split
 .exact Wm K (r,k) (v2,U) H _ (v5,Y) (v6,B) (v7:=(v7,F)) O.ok _
 .exact Wm K (r,k) (v2,U) H _ (v5,Y) (v6,B) (v7:=(v7,F)) O.ok _
def Hp(a b:aM):Prop:=a.gen=b.gen/\a.round=b.round/\a.epoch=b.epoch/\a.bD=b.bD/\a.site=b.site/\a.inc=b.inc/\a.label=b.label
instance(a b:aM):Decidable (Hp a b):=by unfold Hp;infer_instance
def cQn(a b:aM){r:Bool}(B:Dv a b ()=some r):Bf a b=some (if Hp a b then r else false):=by
 unfold Bf;rw[Hl,eF];refine QG λ q F=>?_;have hm:∀i,i∈q↔i<7:=λ i=>by rw[F.mem_iff,eD];rfl
 have O:∀l:List (Int×bN),(∀e∈l,(oF e.2.of).isSome=true)->
   uB (Jq a b) (λ g1:Unit=>(Sum.inl ():Unit⊕Bool)) l ()=some (if l.all (λ e=>decide (nB a ((oF e.2.of).getD 0)=nB b ((oF e.2.of).getD 0)))=true then .inl ()else .inr false):=by
  intro l;induction l with
  |nil=>intro _;rfl
  |cons e l M=>
   intro h;simp only[uB,Jq];obtain⟨k,U⟩:=iF.1 (h e (.head _));rw[U,eF,eF]
   by_cases H:nB a k=nB b k
   .rw[bZ (by simp[H])];simp only[M λ x L=>h x (.tail _ L),List.all_cons,U,Xm,H,cF,cL]
   .rw[cA (by simp[H])];simp[U,H]
 rw[O _ (λ e Y=>by
  obtain⟨i,K,rfl⟩:=cQ.1 Y;have:=(hm i).1 K
  match i,this with
  |0,_=>rfl
  |1,_=>rfl
  |2,_=>rfl
  |3,_=>rfl
  |4,_=>rfl
  |5,_=>rfl
  |6,_=>rfl),eF]
 have V:((q.map (nums.getD · (0,bN.zero))).all λ e=>decide (nB a ((oF e.2.of).getD 0)=nB b ((oF e.2.of).getD 0)))=decide (Hp a b):=by
  rw[dM,cD,dT];constructor
  .intro h;have g:∀i,i<7->nB a ((oF (nums.getD i (0,bN.zero)).2.of).getD 0)=nB b ((oF (nums.getD i (0,bN.zero)).2.of).getD 0):=λ i K=>gD (h _ (cQ.2 ⟨i,(hm i).2 K,rfl⟩));exact⟨g 0 om,g 1 om,g 2 om,g 3 om,g 4 om,g 5 om,g 6 om⟩
  .rintro⟨H,Z,h2,h3,h4,h5,h6⟩ e Y;obtain⟨i,K,rfl⟩:=cQ.1 Y;have:=(hm i).1 K;rw[cD]
   match i,this with
   |0,_=>exact H
   |1,_=>exact Z
   |2,_=>exact h2
   |3,_=>exact h3
   |4,_=>exact h4
   |5,_=>exact h5
   |6,_=>exact h6
 rw[V]
 by_cases c:Hp a b
 .rw[cP c,cA rfl,cA c];exact B
 .rw[fH c,bZ Om,bZ c]
def BX{x:Int}(H:0<=x)(O:x<128):encI x=[x]:=by unfold encI;rw[a7 om,show((x.toNat:Nat):Int)=x by omega]
def OK{x:Int}{r:List Int}(O:0<=x)(U:x<128)(Y:Src (x::r)){H over:Int}(K:x<=H):m8 H over ⟨x::r,0⟩=some (x,⟨r,0⟩):=by have e:=BX O U;have u:=cHp (x:=x) (r:=r) ⟨O,by omega⟩ (by rw[e];exact Y);rw[e]at u;simp only[Jm,jm,Km]at u;unfold m8;simp only[cF,cR,bY,cH,u,qm];rw[gdp (by simp only[lE];omega),bZ (by simpa using K),mB om om];rfl
def m11:aM:={aM.zero with kind:=11,aL:=⟨0,1,2⟩,round:=1,done:=true}
def m5:aM:={aM.zero with kind:=5,inc:=5,site:=2}
def Wn:encM m11=[11,1,0,1,2,1]:=by unfold encM;rw[show pJ m11.kind=[82,80,68]from(BW 11 Om).trans rfl];show encI 11++(encI 1++((encI 0++encI 1++encI 2)++([1]++[])))=_;rw[BX (x:=11) Om Om,BX (x:=1) Om Om,BX (x:=0) Om Om,BX (x:=2) Om Om];rfl
def Wo:sI m11=true:=by unfold sI;rw[Wn];unfold tU;rw[show pJ m11.kind=[82,80,68]from(BW 11 Om).trans rfl];decide
def cQs:encM m5=[5,2,5]:=by unfold encM;rw[show pJ m5.kind=[83,73]from(BW 5 Om).trans rfl];show encI 5++(encI 2++(encI 5++[]))=_;rw[BX (x:=5) Om Om,BX (x:=2) Om Om];rfl
def cQt:sI m5=true:=by unfold sI;rw[cQs];unfold tU;rw[show pJ m5.kind=[83,73]from(BW 5 Om).trans rfl];decide
def cQu:sI aM.zero=false:=rfl
def cQv:Bf m5 m5=some true:=by
 have k:Dv m5 m5 ()=some true:=by
  unfold Dv;have H:AJ m5.options m5.options=some true:=by unfold AJ;rw[bZ Om,mF];rfl
  have O:A6 m5.state m5.state=some true:=by unfold A6 Dc Db;rw[bZ Om,bZ Om,mF,mF];rfl
  rw[bZ Om,H,eF,cA rfl,O];rfl
 rw[cQn _ _ k,cA Om]
def cQw:DW [5,2,5]=some (m5,0):=by
 have H:∀l:List Int,(∀x∈l,0<=x/\x<256)->l.length<=1000->Src l:=λ l Y K=>⟨Y,by omega⟩;unfold DW;rw[show({aU.zero with b:=[5,2,5]}:aU)=⟨[5,2,5],0⟩from rfl,OK (x:=5) Om Om (H _ Om Om) Om,eF];have O:((Arr.get mZ (5:Int).toNat ⟨#[]⟩).size:Int)=2:=rfl;have U:(Arr.get mZ (5:Int).toNat ⟨#[]⟩).toList=[83,73]:=by rw[lB];rfl
 have B:zQ (5,⟨[2,5],0⟩) nums (0,⟨[2,5],0⟩,{aM.zero with kind:=5})=some (.inl (1,⟨[5],0⟩,{aM.zero with kind:=5,site:=2})):=by unfold zQ;simp only[O,U];rw[cA Om,gdp Om,gdp Om,cA (by rfl)];rw[show oF ((oK (((([83,73]:List UInt8).getD (0:Int).toNat 0).toNat:Int)) nums).getD bN.zero).of=some 4 from rfl,eF];unfold yS;rw[OK (x:=2) Om Om (H _ Om Om) Om];rfl
 have F:zQ (5,⟨[2,5],0⟩) nums (1,⟨[5],0⟩,{aM.zero with kind:=5,site:=2})=some (.inl (2,⟨[],0⟩,m5)):=by unfold zQ;simp only[O,U];rw[cA Om,gdp Om,gdp Om,cA (by rfl)];rw[show oF ((oK (((([83,73]:List UInt8).getD (1:Int).toNat 0).toNat:Int)) nums).getD bN.zero).of=some 5 from rfl,eF];unfold yS;rw[OK (x:=5) Om Om (H _ Om Om) Om];rfl
 have M:zQ (5,⟨[2,5],0⟩) nums (2,⟨[],0⟩,m5)=some (.inr (.inl (⟨[],0⟩,m5))):=by unfold zQ;simp only[O,U];rw[bZ Om]
 rw[bZ Om,bZ Om,Hl,eF,gdp Om];show(lS (zQ (5,⟨[2,5],0⟩) nums) (0,⟨[2,5],0⟩,{aM.zero with kind:=5})).bind _=_;rw[mF,B];simp only;rw[mF,F];simp only;rw[mF,M];simp only[qm];unfold JX;rw[bZ Om,Ho,cQt];rfl
def Wp:DX=some true:=by
 unfold DX JW;rw[show({aM.zero with kind:=11,aL:=(⟨0,1,2⟩:aK),round:=1,done:=true}:aM)=m11 from rfl,show({aM.zero with kind:=5,inc:=5,site:=2}:aM)=m5 from rfl,Ho,Wo,eF,bZ Om,V2 (by have:=Wo;unfold sI at this;rw[bX]at this;exact this.1),Wn];have hb:((uX [11,1,0,1,2,1]).toList==(⟨#[11,1,0,1,2,1]⟩:ByteArray).toList)=true:=by rw[lB,lB];rfl
 simp only[qm,cQw,hb,cF,gK,cG,cQv,Ho,cQu,show({aM.zero with}:aM)=aM.zero from rfl,dK]
def Wq{l:List Int}:In l=decide ((l.length:Int)<=300):=rfl
def cQz(l t:List Int)(n:Int):J5 l t n=some true:=by
 unfold J5
 by_cases c:l.length<=300/\t.length<=20
 .rw[bZ (by rw[Wq];simp;omega)];obtain⟨m,u,e,hm⟩:=cQl c.1 c.2;rw[e,eF];simp only;rw[Ho,eF,G3 n 9 Om Om,eF,Wp,eF,cA rfl,cQ9 hm,eF,cP rfl,cA (by rfl),Ho,cQb (by rfl) (by
   show IntKind.i64.wrap (1+n% 9)≠0;rw[mB om om];omega),eF,cA (by rfl),cQc hm]
  rfl
 .rw[cA (by rw[Wq];simp;omega),Wp];rfl
end Ab
end Go.Proofs.YtfmnjkfhahfhgaaGreatDoor
