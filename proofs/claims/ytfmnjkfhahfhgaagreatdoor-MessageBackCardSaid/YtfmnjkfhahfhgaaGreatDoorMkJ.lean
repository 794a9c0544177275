import Derived.Test.YtfmnjkfhahfhgaaGreatDoorHmsE
import Derived.Test.YtfmnjkfhahfhgaaGreatDoorWsO
namespace Go.Proofs.YtfmnjkfhahfhgaaGreatDoor
namespace Ab
set_option linter.defProp false
set_option linter.unusedVariables false
set_option linter.unusedSimpArgs false
def nR(k:Int):List UInt8:=(mY k).toList
def yY:List Nat:=[80,71,65,89,68,83,73,82,69,76,87,79]
def cpF(m:aL)(c:Nat)(w:aL):aL:=match c with
 |80=>{w with aM:=m.aM}
 |71=>{w with gen:=m.gen}
 |65=>{w with aZ:=m.aZ}
 |89=>{w with bC:=m.bC}
 |68=>{w with done:=m.done}
 |83=>{w with site:=m.site}
 |73=>{w with inc:=m.inc}
 |82=>{w with round:=m.round}
 |69=>{w with epoch:=m.epoch}
 |76=>{w with label:=m.label}
 |87=>{w with state:=m.state}
 |79=>{w with options:=m.options}
 |_=>w
def LY(k:Int):nR k=if k=1 then[80,71,65,89]else if k=2\/k=4 then[80,71,65]else if k=3 then[80,71,65,68]else if k=5 then[83,73]else if k=6\/k=8 then[82]else if k=7 then[82,87,79]else if k=9 then[82,87]
  else if k=10 then[82,69,80,71,76]else if k=11 then[82,80,68]else if k=12 then[69,83]else if k=13\/k=14\/k=15 then[69]else[]:=by
 unfold nR;rw[lG];unfold mY Gb Ga Dp
 by_cases M:k=1
 .simp[M]
 by_cases K:k=2
 .simp[K]
 by_cases L:k=3
 .simp[L]
 by_cases V:k=4
 .simp[V]
 by_cases Z:k=5
 .simp[Z]
 by_cases c6:k=6
 .simp[c6]
 by_cases c7:k=7
 .simp[c7]
 by_cases c8:k=8
 .simp[c8]
 by_cases c9:k=9
 .simp[c9]
 by_cases H:k=10
 .simp[H]
 by_cases O:k=11
 .simp[O]
 by_cases U:k=12
 .simp[U]
 by_cases Y:k=13
 .simp[Y]
 by_cases B:k=14
 .simp[B]
 by_cases F:k=15
 .simp[F]
 simp[M,K,L,V,Z,c6,c7,c8,c9,H,O,U,Y,B,F]
def okR(l:List UInt8):Prop:=l.length<=5/\∀b∈l,b.toNat∈yY
instance(l:List UInt8):Decidable (okR l):=by unfold okR;infer_instance
def xA(c:Prop)[Decidable c]{a b:List UInt8}(H:okR a)(hb:okR b):okR (if c then a else b):=by split<;>assumption
def LZ(k:Int):(nR k).length<=5/\∀b∈nR k,b.toNat∈yY:=by show okR (nR k);rw[LY];exact xA _ Om (xA _ Om (xA _ Om (xA _ Om (xA _ Om (xA _ Om (xA _ Om (xA _ Om (xA _ Om (xA _ Om (xA _ Om Om))))))))))
def PH(k:Int):(mY k).size=(nR k).length:=by unfold nR;rw[yV]
def PI(k:Int){i:Nat}(hi:i<(nR k).length):(((mY k).toList.map λ b=>(b.toNat:Int)).getD i 0)=((((nR k).getD i 0).toNat:Nat):Int):=by rw[IX _ _ _ (by rw[dM];exact hi),jW,IX _ _ _ hi];rfl
def WV(m:aL):∀(l:List UInt8) (i:Nat) (w:aL),walk (λ _ b w=>some (Sum.inl (β:=aL) (cpF m (b:UInt8).toNat w))) (λ w=>w) l i w=some (l.foldl (λ w b=>cpF m b.toNat w) w)
 |[],i,w=>rfl
 |b::l,i,w=>by simp only[walk,List.foldl_cons];exact WV m l (i+1) _
def cQe(m:aL):Bj m=some ((nR m.kind).foldl (λ w b=>cpF m b.toNat w) {aL.zero with kind:=m.kind}):=by
 unfold Bj;obtain⟨Y,U⟩:=LZ m.kind;have K:(((mY m.kind).toList.map λ b=>(b.toNat:Int)).length:Int)=((nR m.kind).length:Int):=by rw[dM];rfl
 have H:=wP (body:=Gp m) (nR m.kind) 0 (λ i (w:aL)=>((i:Int),w)) (λ _ b w=>some (.inl (cpF m b.toNat w))) (λ w=>w)
  (λ i w L=>by
   unfold Gp;rw[K];have O:0<=(i:Int)/\(i:Int)<((nR m.kind).length:Int):=om
   simp only[O.1,O.2,cX,mL,cF,cH,Qm,PI m.kind L,mF i (show i<4611686018427387904 by omega)];have hm:=U _ (mS (z:=0) L);generalize((nR m.kind).getD i 0).toNat=c at hm;unfold yY at hm;simp only[cL,eX,iI]at hm;rcases hm with rfl|rfl|rfl|rfl|rfl|rfl|rfl|rfl|rfl|rfl|rfl|rfl<;>rfl)
  (λ w=>by unfold Gp;rw[K,bX (by simp)]) {aL.zero with kind:=m.kind}
 rw[mD (by rw[PH];omega),show((0,{aL.zero with kind:=m.kind}):Int×aL)=(λ(i:Nat) (w:aL)=>((i:Int),w)) 0 {aL.zero with kind:=m.kind}from rfl,H,WV];rfl
def uV(m:aL)(c:Nat):Bool:=match c with
 |80=>mP m.aM
 |71=>inN 0 1073741824 m.gen
 |82=>inN 0 1073741824 m.round
 |69=>inN 0 1073741824 m.epoch
 |65=>nY m.aZ.name&&(((decide (m.aZ.aJ=aC.zero)&&!decide (m.kind=1))&&!decide (m.kind=4))||oO m.aZ.aJ)
 |89=>inN 0 7 m.bC
 |83=>decide (0<=m.site)&&decide (m.site<4)
 |73=>inN 1 99 m.inc
 |76=>decide (m.label=-1)||(decide (1<=m.label)&&decide (m.label<=99))
 |87=>(nZ m.state&&(!decide (m.kind=7)||decide (((m.state.aF.length:Nat):Int)=0)))&&(!decide (m.kind=9)||decide (((m.state.aY.length:Nat):Int)=0))
 |79=>decide (m.options.length<=40)&&m.options.all optV
 |_=>true
def cQg(m:aL)(c:Nat)(H:c∈yY):yI m (c:Int)=some (uV m c):=by
 unfold yY at H;simp only[cL,eX,iI]at H;rcases H with rfl|rfl|rfl|rfl|rfl|rfl|rfl|rfl|rfl|rfl|rfl|rfl
 .unfold yI;rw[cB Om,wQ];rfl
 .rfl
 .unfold yI;rw[bX Om,bX Om,cB Om,E5,eF,WR];rfl
 .rfl
 .rfl
 .rfl
 .rfl
 .rfl
 .rfl
 .rfl
 .unfold yI;rw[bX Om,bX Om,bX Om,bX Om,bX Om,bX Om,bX Om,bX Om,bX Om,cB Om,H9,eF];rfl
 .unfold yI;rw[bX Om,bX Om,bX Om,bX Om,bX Om,bX Om,bX Om,bX Om,bX Om,bX Om,cB Om];show _=some (decide (m.options.length<=40)&&m.options.all optV)
  by_cases h:m.options.length<=40
  .rw[bX (by simp;omega),vX m.options.length (λ i=>optV (m.options.getD i aP.zero)) (λ i K=>by
    unfold KP;have O:0<=(i:Int)/\(i:Int)<(m.options.length:Int):=om
    simp only[O.1,O.2,cX,mL,cF,cH,lF];rw[Pz,eF,mB om om];cases optV (m.options.getD i aP.zero)<;>rfl) (by unfold KP;simp),eF,PA m.options aP.zero optV,cQ h]
   cases m.options.all optV<;>rfl
  .rw[cB (by simp;omega),fC h];rfl
def encR(m:aL)(c:Nat):List Int:=match c with
 |80=>encP m.aM
 |71=>encI m.gen
 |82=>encI m.round
 |69=>encI m.epoch
 |89=>encI m.bC
 |83=>encI m.site
 |73=>encI m.inc
 |76=>encI (m.label+1)
 |65=>encT m.aZ.name++(encI m.aZ.aJ.mode++encI m.aZ.aJ.aU)
 |68=>[if m.done=true then 1 else 0]
 |87=>encI ((encS m.state).length:Int)++encS m.state
 |79=>encI (m.options.length:Int)++m.options.flatMap encO
 |_=>[]
def WW{m:aL}(h:uV m 65=true):m.aZ.name.size<=12/\okA m.aZ.aJ:=by
 have H:(nY m.aZ.name&&(((decide (m.aZ.aJ=aC.zero)&&!decide (m.kind=1))&&!decide (m.kind=4))||oO m.aZ.aJ))=true:=h;rw[bY,dS]at H;refine⟨wX H.1,?_⟩;rcases H.2 with k|k
 .rw[bY,bY,cC]at k;rw[k.1.1];unfold okA okI aC.zero;simp
 .exact yW k
def cQi{m:aL}{c:Nat}(Y:c∈yY)(H:uV m c=true):(encR m c).length<=1000000:=by
 have O:∀{lo hi x:Int},inN lo hi x=true->0<=lo->hi<=1073741824->(encI x).length<=1000000:=λ h M U=>by have:=nU (tU h M U);omega
 unfold yY at Y;simp only[cL,eX,iI]at Y;rcases Y with rfl|rfl|rfl|rfl|rfl|rfl|rfl|rfl|rfl|rfl|rfl|rfl
 .have:=AF (p:=m.aM) H;show(encP m.aM).length<=_;omega
 .exact O (lo:=0) (hi:=1073741824) H Om Om
 .have⟨L,B⟩:=WW H;have U:=Ie (s:=m.aZ.name) om;have F:=nU B.1;have V:=nU B.2;show(encT m.aZ.name++(encI m.aZ.aJ.mode++encI m.aZ.aJ.aU)).length<=_;simp only[cA];omega
 .exact O (lo:=0) (hi:=7) H Om Om
 .show([if m.done=true then 1 else 0]:List Int).length<=_;simp
 .have h:(decide (0<=m.site)&&decide (m.site<4))=true:=H;simp only[bY,cC]at h;have:=nU (x:=m.site) (by unfold okI;omega);show(encI m.site).length<=_;omega
 .exact O (lo:=1) (hi:=99) H Om Om
 .exact O (lo:=0) (hi:=1073741824) H Om Om
 .exact O (lo:=0) (hi:=1073741824) H Om Om
 .have h:(decide (m.label=-1)||(decide (1<=m.label)&&decide (m.label<=99)))=true:=H;simp only[dS,bY,cC]at h;have:=nU (x:=m.label+1) (by unfold okI;omega);show(encI (m.label+1)).length<=_;omega
 .have h:((nZ m.state&&(!decide (m.kind=7)||decide (((m.state.aF.length:Nat):Int)=0)))&&(!decide (m.kind=9)||decide (((m.state.aY.length:Nat):Int)=0)))=true:=H;rw[bY,bY]at h;have U:=Cw (AE h.1.1).1;have F:=nU (x:=((encS m.state).length:Int)) (by unfold okI;omega);show(encI ((encS m.state).length:Int)++encS m.state).length<=_;simp only[cA];omega
 .have h:(decide (m.options.length<=40)&&m.options.all optV)=true:=H;rw[bY,cC,dQ]at h;have U:(m.options.flatMap encO).length<=20000*m.options.length:=vT λ x K=>PB (Io (h.2 x K));have F:=nU (x:=(m.options.length:Int)) (by have:=h.1;unfold okI;omega);show(encI (m.options.length:Int)++m.options.flatMap encO).length<=_;have:=h.1;simp only[cA];omega
def cQj(m:aL)(i:Nat)(acc:List Int)(hi:i<(nR m.kind).length)(Y:((nR m.kind).getD i 0).toNat∈yY)(U:uV m ((nR m.kind).getD i 0).toNat=true)(O:room acc (encR m ((nR m.kind).getD i 0).toNat)):
  Ar m ((i:Int),acc)=some (.inl (((i+1:Nat):Int),acc++encR m ((nR m.kind).getD i 0).toNat)):=by
 obtain⟨h5,_⟩:=LZ m.kind;have K:(((mY m.kind).toList.map λ b=>(b.toNat:Int)).length:Int)=((nR m.kind).length:Int):=by rw[dM];rfl
 unfold Ar;rw[K];have B:0<=(i:Int)/\(i:Int)<((nR m.kind).length:Int):=om
 simp only[B.1,B.2,cX,mL,cF,cH,Qm,PI m.kind hi,mF i (show i<4611686018427387904 by omega)];generalize((nR m.kind).getD i 0).toNat=c at Y U O;unfold yY at Y;simp only[cL,eX,iI]at Y;rcases Y with rfl|rfl|rfl|rfl|rfl|rfl|rfl|rfl|rfl|rfl|rfl|rfl
 .rw[cB Om,(LW (p:=m.aM) U O).2];rfl
 .rw[bX Om,cB Om,(oS (x:=m.gen) (tU (lo:=0) (hi:=1073741824) U Om Om) O).2];rfl
 .have⟨k1,F⟩:=WW U;have H:room acc (encT m.aZ.name++(encI m.aZ.aJ.mode++encI m.aZ.aJ.aU)):=O;rw[bX Om,bX Om,cB Om,(LV om H.left).2,eF,(oS F.1 H.right.left).2,eF,(oS F.2 H.right.right).2,eF];simp only[cG];rfl
 .rw[bX Om,bX Om,bX Om,cB Om,(oS (x:=m.bC) (tU (lo:=0) (hi:=7) U Om Om) O).2];rfl
 .rw[bX Om,bX Om,bX Om,bX Om,cB Om];have L:acc.length+1<=4294967296:=by unfold room at O;omega
  show _=some (Sum.inl (_,acc++[if m.done=true then 1 else 0]));cases m.done with
  |true=>rw[cB rfl,gdp L];rfl
  |false=>rw[bX Om,gdp L];rfl
 .have h:(decide (0<=m.site)&&decide (m.site<4))=true:=U;simp only[bY,cC]at h;rw[bX Om,bX Om,bX Om,bX Om,bX Om,cB Om,(oS (x:=m.site) (by unfold okI;omega) O).2];rfl
 .rw[bX Om,bX Om,bX Om,bX Om,bX Om,bX Om,cB Om,(oS (x:=m.inc) (tU (lo:=1) (hi:=99) U Om Om) O).2];rfl
 .rw[bX Om,bX Om,bX Om,bX Om,bX Om,bX Om,bX Om,cB Om,(oS (x:=m.round) (tU (lo:=0) (hi:=1073741824) U Om Om) O).2];rfl
 .rw[bX Om,bX Om,bX Om,bX Om,bX Om,bX Om,bX Om,bX Om,cB Om,(oS (x:=m.epoch) (tU (lo:=0) (hi:=1073741824) U Om Om) O).2];rfl
 .have h:(decide (m.label=-1)||(decide (1<=m.label)&&decide (m.label<=99)))=true:=U;simp only[dS,bY,cC]at h;rw[bX Om,bX Om,bX Om,bX Om,bX Om,bX Om,bX Om,bX Om,bX Om,cB Om,mB (x:=m.label+1) om om,(oS (x:=m.label+1) (by unfold okI;omega) O).2];rfl
 .have h:((nZ m.state&&(!decide (m.kind=7)||decide (((m.state.aF.length:Nat):Int)=0)))&&(!decide (m.kind=9)||decide (((m.state.aY.length:Nat):Int)=0)))=true:=U;rw[bY,bY]at h;have h1:=Cw (AE h.1.1).1;have H:room acc (encI ((encS m.state).length:Int)++encS m.state):=O;rw[bX Om,bX Om,bX Om,bX Om,bX Om,bX Om,bX Om,bX Om,bX Om,bX Om,cB Om,cP0,h.1.1,cB rfl,eF,(oS (by unfold okI;omega) H.left).2,eF];have:=H.right;unfold room at this;rw[gdp (by simp only;omega),cG];rfl
 .have h:(decide (m.options.length<=40)&&m.options.all optV)=true:=U;rw[bY,cC,dQ]at h;have H:room acc (encI (m.options.length:Int)++m.options.flatMap encO):=O;have M:=h.1;rw[bX Om,bX Om,bX Om,bX Om,bX Om,bX Om,bX Om,bX Om,bX Om,bX Om,bX Om,cB Om,(oS (by unfold okI;omega) H.left).2,eF];rw[Fr (body:=HA m) (enc:=encO) (ok:=λ a=>optV a=true) m.options aP.zero om (λ i acc hi V Z=>by
   unfold HA;simp only;rw[cB (by simpa using hi),gdp om];simp only[lF];rw[(WU V Z).2,eF,mF i om]) (λ acc=>by unfold HA;simp) h.2 _ H.right,eF]
  unfold N2;simp only[mF i (show i<4611686018427387904 by omega),cG];rfl
def PJ(m:aL):List Int:=encI m.kind++(nR m.kind).flatMap λ b=>encR m b.toNat
def cQl{m:aL}(B:1<=m.kind/\m.kind<=15)(h:∀b∈nR m.kind,uV m b.toNat=true):Cb m=some (PJ m):=by
 obtain⟨F,U⟩:=LZ m.kind;have M:=nU (x:=m.kind) (by unfold okI;omega);have e2:((nR m.kind).flatMap λ b=>encR m b.toNat).length<=1000000*(nR m.kind).length:=vT λ b hb=>cQi (U b hb) (h b hb);have Y:room (encI m.kind) ((nR m.kind).flatMap λ b=>encR m b.toNat):=by unfold room;omega
 have O:room [] (encI m.kind):=by unfold room at*;simp;omega
 have K:(((mY m.kind).toList.map λ b=>(b.toNat:Int)).length:Int)=((nR m.kind).length:Int):=by rw[dM];rfl
 unfold Cb;rw[(oS (by unfold okI;omega) O).2,eF,mD (by rw[PH];omega),lJ];rw[Fr (body:=Ar m) (enc:=λ b:UInt8=>encR m b.toNat) (ok:=λ b=>b.toNat∈yY/\uV m b.toNat=true) (nR m.kind) 0 om (λ i H V L Z=>cQj m i H V L.1 L.2 Z)
  (λ H=>by unfold Ar;rw[K,bX (by simp)]) (λ b hb=>⟨U b hb,h b hb⟩) _ Y]
 rfl
mutual
def widE:aS->Bool
 |⟨_,_,ks⟩=>decide (ks.length<=1000000)&&widL ks
def widL:List aS->Bool
 |[]=>true
 |k::l=>widE k&&widL l
end
def WX(e:aS):widE e=(decide (e.bG.length<=1000000)&&widL e.bG):=by cases e;rw[widE]
def WY:∀{l:List aS} {k:aS},widL l=true->k∈l->widE k=true
 |x::l,k,h,hk=>by
  simp only[widL,bY]at h;rcases cL.1 hk with rfl|hk
  .exact h.1
  .exact WY h.2 hk
def cQo{e k:aS}(h:k∈e.bG):_root_.SizeOf.sizeOf k<_root_.SizeOf.sizeOf e:=by cases e;have:=jQ h;simp only at h this⊢;simp only[aS.mk.sizeOf_spec];omega
def WZ:∀(n:Nat) (e:aS),_root_.SizeOf.sizeOf e<n->widE e=true->Dm n e e=some true
 |0,e,h,_=>om
 |n+1,e,h,K=>by
  show t7 (Dm n) e e=some true;unfold t7;rw[WX,bY,cC]at K;rw[bX (by simp),vX e.bG.length (λ _=>true) (λ i L=>by
   unfold F4;have H:0<=(i:Int)/\(i:Int)<(e.bG.length:Int):=om
   simp only[H.1,H.2,cX,mL,cF,cH,lF];have hm:=mS (z:=aS.zero) L;rw[WZ n _ (by have:=cQo hm;omega) (WY K.2 hm),eF,mB om om];rfl) (by unfold F4;simp)]
  simp[Ng]
def W0(s:aH)(O:s.aF.length<=1000000)(U:Lens s.aF)(Y:s.aY.length<=1000000)(K:∀n∈s.aY,widE n.bU=true):wN s s=some true:=by
 unfold wN;rw[VD _ _ O (λ q h=>U q h),eF,bX (by simp),vX s.aY.length (λ _=>true) (λ i L=>by
  unfold GG Gq A7;have H:0<=(i:Int)/\(i:Int)<(s.aY.length:Int):=om
  simp only[H.1,H.2,cX,mL,cF,cH,lF,gP];rw[WZ _ _ (eT _) (K _ (mS L)),eF,eF,mB om om];rfl) (by unfold GG;simp)]
 simp[Kg]
def cQr(s:aH)(H:s.aF.length<=1000000)(O:Lens s.aF):wN s aH.zero=some (CH s):=by
 unfold wN CH;rw[VD _ _ H (λ q h=>O q h),eF]
 by_cases c:s.aF=[]
 .by_cases d:s.aY=[]
  .rw[bX (by simp[c,d,aH.zero]),vX 0 (λ _=>true) (λ i K=>om) (by unfold GG;simp[d])];simp[Kg,c,d]
  .rw[cB (by simp[c,d,aH.zero])];simp[c,d]
 .rw[cB (by simp[c,aH.zero])];simp[c]
def cQs(m:aL)(Y:1<=m.kind/\m.kind<=15){b:Bool}(B:d9 m ((nR m.kind).foldl (λ w b=>cpF m b.toNat w) {aL.zero with kind:=m.kind})=some b):
  j9 m=some (b&&(((nR m.kind).all λ c=>uV m c.toNat)&&decide (((PJ m).length:Int)<=4064))):=by
 obtain⟨Z,F⟩:=LZ m.kind;have H:((mY m.kind).toList==(⟨#[]⟩:ByteArray).toList)=false:=by
  have M:(⟨#[]⟩:ByteArray).toList=[]:=by rw[lG]
  rw[M];show(nR m.kind==[])=false;rw[beq_eq_false_iff_ne,LY];have:m.kind=1\/m.kind=2\/m.kind=3\/m.kind=4\/m.kind=5\/m.kind=6\/m.kind=7\/m.kind=8\/m.kind=9\/m.kind=10\/m.kind=11\/m.kind=12\/m.kind=13\/m.kind=14\/m.kind=15:=om
  rcases this with h|h|h|h|h|h|h|h|h|h|h|h|h|h|h<;>rw[h]<;>decide
 have K:(((mY m.kind).toList.map λ b=>(b.toNat:Int)).length:Int)=((nR m.kind).length:Int):=by rw[dM];rfl
 unfold j9;simp only[H,dL,cH,cQe,qm,B,dT];cases b with
 |false=>rfl
 |true=>
  rw[bX Om,mD (by rw[PH];omega),vX (nR m.kind).length (λ i=>uV m ((nR m.kind).getD i 0).toNat) (λ i L=>by
   unfold KV;rw[K];have U:0<=(i:Int)/\(i:Int)<((nR m.kind).length:Int):=om
   simp only[U.1,U.2,cX,mL,cF,cH,lF,PI m.kind L];rw[cQg m _ (F _ (mS (z:=0) L)),eF,mB om om];cases uV m ((nR m.kind).getD i 0).toNat<;>rfl) (by unfold KV;rw[K];simp),eF,PA (nR m.kind) 0 (λ c=>uV m c.toNat)]
  cases V:(nR m.kind).all λ c=>uV m c.toNat with
  |false=>rfl
  |true=>simp only[cH,N3,cN];rw[cQl Y (λ c O=>dQ.1 V c O),eF]
def cQt:uJ [] []=some true:=by unfold uJ;rw[bX (by simp),vX 0 (λ _=>true) (λ i H=>om) (by unfold Gx;simp)];simp[J0]
def scal(m w:aL):Bool:=((((((((((decide (m.kind=w.kind))&&(decide (m.aM=w.aM)))&&(decide (m.gen=w.gen)))&&(decide (m.aZ=w.aZ)))&&(decide (m.bC=w.bC)))&&(decide (m.inc=w.inc)))&&(decide (m.round=w.round)))&&(decide (m.epoch=w.epoch)))&&(decide (m.site=w.site)))&&(decide (m.label=w.label)))&&(decide (m.done=w.done))
def cQu(a:List aO)(K:a.length<=9223372036854775807):xO a a=some true:=by
 unfold xO;rw[bX (by simp),vX a.length (λ _=>true) (λ i L=>by
  unfold Je;have H:0<=(i:Int)/\(i:Int)<(a.length:Int):=om
  simp only[H.1,H.2,cX,mL,cF,cH,lF];rw[mB om om];rfl) (by unfold Je;simp)]
 simp[Na]
def W3(l:List aP)(L:l.length<=1000000)(h:∀o∈l,o.lower.length<=9223372036854775807):uJ l l=some true:=by
 unfold uJ;rw[bX (by simp),vX l.length (λ _=>true) (λ i K=>by
  unfold Gx Gn;have H:0<=(i:Int)/\(i:Int)<(l.length:Int):=om
  simp only[H.1,H.2,cX,mL,cF,cH,lF,gP];rw[cQu _ (h _ (mS K)),eF,eF,mB om om];rfl) (by unfold Gx;simp)]
 simp[J0]
def cQw(l:List aP):uJ l []=some (decide (l=[])):=by
 cases l with
 |nil=>exact cQt
 |cons a l=>unfold uJ;rw[cB (by simp;omega),fC (by simp)]
def W4(m w:aL)(v1 v2:Bool)(H:wN m.state w.state=some v1)(O:uJ m.options w.options=some v2):d9 m w=some (scal m w&&(v1&&v2)):=by unfold d9;rw[H,O];show((if scal m w=true then some v1 else some false).bind λ v1=>(if(scal m w&&v1)=true then some v2 else some false).bind λ v2=>some ((scal m w&&v1)&&v2))=_;cases scal m w<;>cases v1<;>cases v2<;>rfl
structure FitM (m:aL):Prop where
 q:m.state.aF.length<=1000000
 s:Lens m.state.aF
 n:m.state.aY.length<=1000000
 w:∀n∈m.state.aY,widE n.bU=true
 o:m.options.length<=1000000
 l:∀o∈m.options,o.lower.length<=9223372036854775807
def W5(l:List ByteArray)(nm:ByteArray)(U:l.length<=1000):∃r,x6 l nm=some r/\r.length<=l.length+1:=by
 unfold x6;obtain⟨x,e,L⟩:=nV (body:=JI l nm) (λ g=>∃k:Nat,g=k/\k<=l.length) (λ g=>l.length-g.toNat) (λ x=>∃k:Nat,x=k/\k<=l.length) (λ g ⟨k,H,K⟩=>by
  subst H;unfold JI
  by_cases c:k<l.length
  .have O:0<=(k:Int)/\(k:Int)<(l.length:Int):=om
   rw[gdp (λ _=>O)];split
   .left;rw[mF k om];exact⟨_,rfl,⟨k+1,rfl,c⟩,by simp only[Qm];omega⟩
   .right;exact⟨_,rfl,k,rfl,K⟩
  .right;rw[gdp (by simp<;>omega),bX (by simp<;>omega)];exact⟨_,rfl,k,rfl,K⟩) 0 ⟨0,rfl,by omega⟩
 obtain⟨k,rfl,H⟩:=L;rw[e,eF];unfold No;rw[gdp (by simp<;>omega)];split
 .exact⟨_,rfl,by omega⟩
 .simp only[Qm];rw[gdp om,gdp (by rw[dE];omega),gdp (by rw[dE];omega),gdp om,gdp (by rw[dE,dC];omega)];exact⟨_,rfl,by simp only[cA,dE,dC,Km];omega⟩
def W6{S X:Type}{body:S×Int->Option ((S×Int)⊕X)}(n:Nat)(H:Nat->S->Prop)(Post:X->Prop)
  (h:∀(i:Nat) s,i<n->H i s->∃O,body (s,(i:Int))=some (.inl (O,((i+1:Nat):Int)))/\H (i+1) O)
  (Y:∀s,H n s->∃x,body (s,(n:Int))=some (.inr x)/\Post x) (s0:S) (B:H 0 s0):∃x,lY body (s0,0)=some x/\Post x:=
 nV (body:=body) (λ g=>∃k:Nat,g.2=(k:Int)/\k<=n/\H k g.1) (λ g=>n-g.2.toNat) Post
  (λ g ⟨k,L,V,K⟩=>by
   obtain⟨s,F⟩:=g;simp only at L K;subst L
   by_cases c:k<n
   .obtain⟨O,e,U⟩:=h k s c K;exact .inl ⟨_,e,⟨k+1,rfl,c,U⟩,by simp only[Qm];omega⟩
   .have:k=n:=om
    subst this;obtain⟨x,e,Z⟩:=Y s K;exact .inr ⟨x,e,Z⟩) (s0,0) ⟨0,rfl,by omega,B⟩
def W7(x:aG)(l:bA)(label:Int)(hx:x.bF.aQ.length<=72)(hl:l.aQ.length<=x.bF.aQ.length):∃o,wO x l label=some o/\o.lower.length<=100:=by
 unfold wO;rw[gdp om];have M:∀H:List ByteArray,H.length<=100->∃o,EF x l label H=some o/\o.lower.length<=100:=λ H U=>by
  unfold EF;obtain⟨o,e,K⟩:=Il (body:=Ho l H) H.length (λ i o=>o.lower.length<=i) (λ o=>o.lower.length<=100) (λ i o V h0=>by
   left;unfold Ho;have O:0<=(i:Int)/\(i:Int)<(H.length:Int):=om
   simp only[O.1,O.2,cX,mL,cF,cH,Qm,mF i (show i<4611686018427387904 by omega),AG l.aQ (H.getD i ⟨#[]⟩) om,qm];rw[gdp om];exact⟨_,rfl,by simp only[cA,Km];omega⟩) (λ o K=>by
   unfold Ho;simp only[iL,cP,bZ,cI];exact⟨_,rfl,by omega⟩) (⟨⟨x.aM.site,x.aM.inc,x.aM.num⟩,label,IntKind.i64.wrap (x.cost*(IntKind.i64.wrap ((IntKind.i64.wrap ((x.bF.aQ.length:Int)-(l.aQ.length:Int)))+1))),[]⟩:aP) (by simp)
  rw[e];exact⟨_,rfl,K⟩
 have hd:(x.bF.aQ.drop ((l.aQ.length:Int).toNat)).length<=72:=by rw[dC];omega
 obtain⟨H,e,U⟩:=W6 (body:=Hq x l) (x.bF.aQ.drop ((l.aQ.length:Int).toNat)).length (λ i s=>s.length<=i) (λ s=>s.length<=72) (λ i s V Y=>by
  unfold Hq;have O:0<=(i:Int)/\(i:Int)<((x.bF.aQ.drop ((l.aQ.length:Int).toNat)).length:Int):=om
  obtain⟨r,B,Z⟩:=W5 s ((x.bF.aQ.drop ((l.aQ.length:Int).toNat)).getD i bN.zero).name om;simp only[O.1,O.2,cX,mL,cF,cH];rw[lF i,B,eF,mF i om];exact⟨_,rfl,by omega⟩) (λ s Y=>by
  unfold Hq;simp only[iL,cP,bZ,cI];exact⟨_,rfl,by omega⟩) [] (by simp)
 rw[e,eF];unfold EG;rcases hb x.bI with w|w
 .obtain⟨L,a1,a2,_⟩:=CE x.bJ.bU;rw[cB w,a1,eF];obtain⟨ms,e3,F⟩:=W6 (body:=Hp L) L.length (λ i s=>s.length<=72+i) (λ s=>s.length<=100) (λ i s V Y=>by
   unfold Hp;have O:0<=(i:Int)/\(i:Int)<(L.length:Int):=om
   obtain⟨r,B,Z⟩:=W5 s (L.getD i aO.zero).name om;simp only[O.1,O.2,cX,mL,cF,cH,Qm,B,qm,mF i (show i<4611686018427387904 by omega)];exact⟨_,rfl,by omega⟩) (λ s Y=>by
   unfold Hp;simp only[iL,cP,bZ,cI];exact⟨_,rfl,by omega⟩) H om
  rw[e3,eF];exact M ms F
 .rw[bX (by rw[w];decide)];exact M H om
def LowL(l:List aP):Prop:=∀o∈l,o.lower.length<=100
def LowL.snoc{l:List aP}(h:LowL l){o:aP}(ho:o.lower.length<=100):LowL (l++[o]):=λ x hx=>by
 rcases cY.1 hx with hx|hx
 .exact h x hx
 .rw[dP.1 hx];exact ho
def cR1(x:aG):∃l,B8 x=some l/\l.length<=100/\LowL l:=by
 have nil:LowL []:=λ o M=>nomatch M;unfold B8;obtain⟨b,v1,v2⟩:=CD x.bF;obtain⟨Z,v3⟩:∃b,vK x.bJ=some b:=by unfold vK;rw[H8,eF];exact⟨_,rfl⟩
 rw[v1,v3];generalize(((!(pC x.aM))||(decide (x.cost<1)))||(decide (1000<x.cost)))=p;cases p with
 |true=>exact⟨_,rfl,by simp,nil⟩
 |false=>
 cases b with
 |false=>exact⟨[],by simp,by simp,nil⟩
 |true=>
 have O:=v2 rfl;have H:=O.le;have h4:=O.ls;have go:∃l,(lY (Hr x) ((IntKind.i64.wrap ((x.bF.bH.length:Int)-1)),[])).bind (λ|.inl z=>EH x z|.inr z=>some z)=some l/\l.length<=100/\LowL l:=by
  obtain⟨y,e,K⟩:=nV (body:=Hr x) (λ g=>-1<=g.1/\g.1<(x.bF.bH.length:Int)/\(g.2.length:Int)+g.1<=4/\LowL g.2) (λ g=>(g.1+1).toNat) (λ y=>match y with|.inl z=>z.length<=10/\LowL z|.inr z=>z=[]) (λ g ⟨h0,L,h2,V⟩=>by
   obtain⟨i,l⟩:=g;simp only at h0 L h2 V;unfold Hr
   by_cases c:0<=i
   .simp only[c,cF,cH];obtain⟨r,u1,u2,u3,u4⟩:=WF O (x.bF.bH.getD i.toNat bW.zero).label;rw[gdp ⟨trivial,L⟩,u1,eF]
    by_cases F:r.2.2=0
    .left;obtain⟨o,U,Y⟩:=W7 x r.1 (x.bF.bH.getD i.toNat bW.zero).label H u4;rw[bX (by simp[F]),gdp ⟨trivial,L⟩,U,eF,gdp om,mB om om];exact⟨_,rfl,⟨by simp only;omega,by simp only;omega,by simp only[cA,Km];omega,V.snoc Y⟩,by simp only;omega⟩
    .right;rw[cB (by simp[F])];exact⟨_,rfl,rfl⟩
   .right;simp only[c,cP,bZ,cI];exact⟨_,rfl,by omega,V⟩) (IntKind.i64.wrap ((x.bF.bH.length:Int)-1),[]) ⟨by simp only;rw[mB om om];omega,by simp only;rw[mB om om];omega,by simp only[Ym];rw[mB om om];omega,nil⟩
  rw[e,eF];rcases y with z|z
  .have K:z.length<=10/\LowL z:=K;show∃l,EH x z=some l/\_;unfold EH;obtain⟨o,U,Y⟩:=W7 x bA.zero (-1) H (fS _);show∃l,(wO x bA.zero (-1)).bind _=some l/\_;rw[U,eF,gdp om];obtain⟨y,e2,B⟩:=nV (body:=KO z o) (λ g=>∃k:Nat,g=k/\k<=z.length+1) (λ g=>z.length+1-g.toNat) (λ y=>y=.inl ()\/y=.inr []) (λ g ⟨k,hk,hkl⟩=>by
    subst hk;unfold KO
    by_cases c:k<z.length+1
    .rw[cB (by simp only[cC];omega),gdp (by rw[cA,lM];omega),Pz,eF];split
     .right;exact⟨_,rfl,.inr rfl⟩
     .left;rw[mF k om];exact⟨_,rfl,⟨k+1,rfl,c⟩,by simp only[Qm];omega⟩
    .right;rw[bX (by simp only[cC];omega)];exact⟨_,rfl,.inl rfl⟩) 0 ⟨0,rfl,by omega⟩
   rw[e2,eF];rcases B with rfl|rfl
   .exact⟨_,rfl,by simp only[cA,Km];omega,K.2.snoc Y⟩
   .exact⟨_,rfl,by simp,nil⟩
  .have K:z=[]:=K;exact⟨_,rfl,by rw[K];simp,by rw[K];exact nil⟩
 cases hw:x.bI<;>cases Z<;>simp[hw]<;>first|exact go|exact nil|exact⟨by simp,nil⟩
def Ft(k:Int)(h:1<=k/\k<=15):nE k=if k=1 then[80,71,65,89]else if k=2 then[80,71,97]else if k=3 then[80,71,97,68]else if k=4 then[80,71,65]else if k=5 then[83,73]else if k=6\/k=8 then[82]else if k=7 then[82,78,79]else if k=9 then[82,76]else if k=10 then[82,69,80,71,66]else if k=11 then[82,80,68]else if k=12 then[69,83]else[69]:=by
 have g:∀i:Nat,i<16->1<=i->(Arr.get nD i ⟨#[]⟩).data.toList=if(i:Int)=1 then[80,71,65,89]else if(i:Int)=2 then[80,71,97]else if(i:Int)=3 then[80,71,97,68]else if(i:Int)=4 then[80,71,65]else if(i:Int)=5 then[83,73]else if(i:Int)=6\/(i:Int)=8 then[82]else if(i:Int)=7 then[82,78,79]else if(i:Int)=9 then[82,76]else if(i:Int)=10 then[82,69,80,71,66]else if(i:Int)=11 then[82,80,68]else if(i:Int)=12 then[69,83]else[69]:=by decide
 unfold nE;rw[lG];have:=g k.toNat om om;rwa [show((k.toNat:Nat):Int)=k by omega]at this
def W8{k:Int}(h:1<=k/\k<=15):k=1\/k=2\/k=3\/k=4\/k=5\/k=6\/k=7\/k=8\/k=9\/k=10\/k=11\/k=12\/k=13\/k=14\/k=15:=om
def cR4{m:aL}{H O:List UInt8}{v1 v2:Bool}(h:1<=m.kind/\m.kind<=15)(e:nR m.kind=H)(U:nE m.kind=O)
  (Y:wN m.state (H.foldl (λ w b=>cpF m b.toNat w) {aL.zero with kind:=m.kind}).state=some v1)
  (B:uJ m.options (H.foldl (λ w b=>cpF m b.toNat w) {aL.zero with kind:=m.kind}).options=some v2)
  (g:(scal m (H.foldl (λ w b=>cpF m b.toNat w) {aL.zero with kind:=m.kind})&&(v1&&v2)&&((H.all λ c=>uV m c.toNat)&&decide (((encI m.kind++H.flatMap λ b=>encR m b.toNat).length:Int)<=4064)))
  =((O.all λ b=>pV m b.toNat)&&Fq (O.foldl (λ w b=>clrF b.toNat w) {m with kind:=0})&&decide (((encI m.kind++O.flatMap λ b=>encF m b.toNat).length:Int)<=4064))):j9 m=some (rH m):=by
 rw[cQs m h (W4 _ _ _ _ (by rw[e];exact Y) (by rw[e];exact B))];unfold rH tF encM PJ;rw[e,U,g,cQ h.1,cQ h.2,cN,cN]
def cR5{m:aL}(hm:FitM m):j9 m=some (rH m):=by
 by_cases h:1<=m.kind/\m.kind<=15
 .have F:=cQr m.state hm.q hm.s;have M:=W0 m.state hm.q hm.s hm.n hm.w;have o0:=cQw m.options;have o1:=W3 m.options hm.o hm.l;have eR:=LY m.kind;have eL:=Ft m.kind h;have K:CH aH.zero=true:=rfl;obtain⟨x0,aM,gen,aZ,bC,z0,O,U,y0,Y,done,B,H⟩:=m;simp only at h F M o0 o1 eR eL;rcases W8 h with rfl|rfl|rfl|rfl|rfl|rfl|rfl|rfl|rfl|rfl|rfl|rfl|rfl|rfl|rfl
  all_goals
   refine cR4 h (eR.trans rfl) (eL.trans rfl) (by first|exact F|exact M) (by first|exact o0|exact o1) ?_;rw[dR];simp only[bY,Pw,Fq,scal,List.foldl_cons,List.foldl_nil,List.all_cons,List.all_nil,eQ,List.flatMap_nil,cC];simp[uV,pV,encR,encF,cpF,clrF,K,aL.zero,inN]
   grind
 .have e:nR m.kind=[]:=by
   rw[LY]
   repeat rw[bX om]
  have L:((mY m.kind).toList==(⟨#[]⟩:ByteArray).toList)=true:=by
   have V:(⟨#[]⟩:ByteArray).toList=[]:=by rw[lG]
   rw[V];show(nR m.kind==[])=true;rw[e];rfl
  have Z:rH m=false:=by
   have:(decide (1<=m.kind)&&decide (m.kind<=15))=false:=by rw[dJ];intro k;simp at k;omega
   unfold rH tF;rw[this];rfl
  unfold j9;simp only[L,cR,bZ,cI,qm,fY,cH,Z]
def cR6{m:aL}(hm:FitM m):d9 m m=some true:=by rw[W4 m m _ _ (W0 m.state hm.q hm.s hm.n hm.w) (W3 m.options hm.o hm.l)];simp[scal]
def W9:∀{l:List aS},(∀k∈l,widE k=true)->widL l=true
 |[],_=>by simp only[widL]
 |k::l,h=>by simp only[widL,bY];exact⟨h k (.head _),W9 λ x H=>h x (.tail _ H)⟩
def Xa:∀(n:Nat) (e:aS),_root_.SizeOf.sizeOf e<n->mQ e<=1000000->widE e=true
 |0,e,h,_=>absurd h (Nat.not_lt_zero _)
 |n+1,e,h,K=>by rw[WX];have O:=uS e;have U:=tC e.bG;rw[cQ om,cN];exact W9 λ k H=>Xa n k (yS h H) (by have:=H5 H;omega)
def Fu{m:aL}(H:m.state=aH.zero)(O:m.options=[]):FitM m:=
 ⟨by rw[H];decide,by rw[H];exact(λ q U=>nomatch U),by rw[H];decide,by rw[H];exact(λ n Y=>nomatch Y),by rw[O];decide,by rw[O];exact(λ o B=>nomatch B)⟩
def Xb{m:aL}{s:aH}(K:nZ s=true)(O:m.state.aF=s.aF\/m.state.aF=[])(H:m.state.aY=s.aY\/m.state.aY=[])(ho:m.options.length<=1000000)(L:LowL m.options):FitM m:=by
 obtain⟨U,F,Y,_⟩:=Im K;obtain⟨M,B⟩:=Pu U;refine⟨?_,?_,?_,?_,ho,λ o k=>dI (L o k) Om⟩
 .rcases O with e|e<;>rw[e]
  .omega
  .decide
 .rcases O with e|e<;>rw[e]
  .exact B
  .exactλ q O=>nomatch O
 .rcases H with e|e<;>rw[e]
  .omega
  .decide
 .rcases H with e|e<;>rw[e]
  .intro n H;have:=(Wn (Pb Y H).2.1);exact Xa _ n.bU (eT _) om
  .exactλ n H=>nomatch H
def LowL.append{a b:List aP}(h:LowL a)(k:LowL b):LowL (a++b):=λ x hx=>by
 rcases cY.1 hx with hx|hx
 .exact h x hx
 .exact k x hx
def cRb{c:bD}(hc:c.aD.length<=100):∃l,HF c 40=some l/\l.length<=40/\LowL l:=by
 unfold HF;obtain⟨s,F,_⟩:=Ps c;obtain⟨r,M,hr⟩:=cOg s;rw[F,eF,M,eF];have O:∀(k:Nat) (l:List aP),k<c.aD.length->l.length<=100000*k->LowL l->∃y,lY (EW c r ((k:Int),l)) (0,l)=some y/\y.length<=100000*(k+1)/\LowL y:=λ k l hk hg H=>
  Il (body:=EW c r ((k:Int),l)) r.2.length (λ i s=>s.length<=100000*k+100*i/\LowL s) (λ y=>y.length<=100000*(k+1)/\LowL y) (λ i s V ⟨L,K⟩=>by
   left;unfold EW;have Y:0<=(i:Int)/\(i:Int)<(r.2.length:Int):=om
   have B:0<=(k:Int)/\(k:Int)<(c.aD.length:Int):=om
   obtain⟨l,o1,o2,o3⟩:=cR1 (c.aD.getD k aG.zero);simp only[Y.1,Y.2,B.1,B.2,cX,mL,cF,cH,Qm,mF i (show i<4611686018427387904 by omega),o1,qm];split
   .rw[gdp om];exact⟨_,rfl,by simp only[cA];omega,K.append o3⟩
   .exact⟨_,rfl,by omega,K⟩) (λ s ⟨L,K⟩=>by
   unfold EW;simp only[iL,cP,bZ,cI];exact⟨_,rfl,by omega,K⟩) l ⟨by omega,H⟩
 obtain⟨y,Z,hy,H⟩:=Il (body:=HE c r) c.aD.length (λ i s=>s.length<=100000*i/\LowL s) (λ y=>y.length<=10000000/\LowL y) (λ i s V ⟨L,H⟩=>by
  left;unfold HE;obtain⟨z,e4,hz⟩:=O i s V L H;rw[cB (by simp only[cC];omega),e4,eF];unfold K2;rw[mF i om];exact⟨_,rfl,hz⟩) (λ s ⟨L,H⟩=>by
  unfold HE;simp only[iL,cP,bZ,cI];exact⟨_,rfl,by omega,H⟩) [] ⟨by simp,λ o U=>nomatch U⟩
 rw[Z,eF];unfold K1;split
 .rename_i k;rw[cC]at k;rw[gdp om,fT];exact⟨_,rfl,by rw[dE];omega,λ o U=>H o (iJ U)⟩
 .rename_i k;rw[cC]at k;exact⟨_,rfl,by omega,H⟩
def Xc{v7:Int×bK}(U:TapeOk v7.2){j:aL}(H:j.state=aH.zero)(O:j.options=[]):∃m u,EX v7 j=some (m,u)/\FitM m:=by
 unfold EX;obtain⟨v,u,e,_⟩:=qU (m:=2) Om Om U;split
 .rw[e,eF];exact⟨_,_,rfl,Fu H O⟩
 .rw[eF];exact⟨_,_,rfl,Fu H O⟩
def Xd{l:List Int}(K:l.length<=300)(v4:aK)(v5 v6:Int×bK){v7:Int×bK}(O:TapeOk v7.2)(j:Bool):∃m u,EY l v4 v5 v6 v7 j=some (m,u)/\FitM m:=by
 unfold EY;have H:∀{m:aL} {u:bK},m.state=aH.zero->m.options=[]->∃B M,some (m,u)=some (B,M)/\FitM B:=λ L V=>⟨_,_,rfl,Fu L V⟩;split
 .exact H rfl rfl
 split
 .obtain⟨c,Z,hc⟩:=WJ K;obtain⟨s,U,Y⟩:=Ps c;obtain⟨o,e3,F,hL⟩:=cRb hc;rw[Z,eF,U,eF,e3,eF];exact⟨_,_,rfl,Xb Y (.inr rfl) (.inl rfl) (by simp only;omega) hL⟩
 split
 .obtain⟨s,U,Y⟩:=cNu K;rw[U,eF];exact⟨_,_,rfl,Xb Y (.inl rfl) (.inr rfl) (by simp[aL.zero]) (λ o F=>nomatch F)⟩
 split
 .obtain⟨v,u,e,_⟩:=qU (m:=5) Om Om O;rw[e,eF];split<;>exact H rfl rfl
 split
 .obtain⟨v,u,e,_⟩:=qU (m:=2) Om Om O;rw[e,eF];exact H rfl rfl
 split
 .obtain⟨v,u,e,_⟩:=qU (m:=4) Om Om O;rw[e,eF];exact H rfl rfl
 .exact H rfl rfl
def Xe{l:List Int}(K:l.length<=300)(v1:List aI×List bP)(v2:Int×bK)(O:oB (v1.1.getD v2.1.toNat aI.zero)=true)(v4:aK)(v5 v6:Int×bK){v7:Int×bK}(H:TapeOk v7.2)(j:Bool):
  ∃m u,EZ l v1 v2 v4 v5 v6 v7 j=some (m,u)/\FitM m:=by
 unfold EZ;rw[OR _ _ O];simp only[qm];split
 .split
  .exact Xc H rfl rfl
  .exact Xc H rfl rfl
 split
 .exact⟨_,_,rfl,Fu rfl rfl⟩
 split
 .obtain⟨v,u,e,_⟩:=qU (m:=4) Om Om H;rw[e,eF];exact⟨_,_,rfl,Fu rfl rfl⟩
 split
 .exact Xd K v4 v5 v6 H _
 .exact Xd K v4 v5 v6 H _
def cRf{l t:List Int}(K:l.length<=300)(ht:t.length<=20):∃m u,E0 l {bK.zero with l:=t}=some (m,u)/\FitM m:=by
 unfold E0;have M:TapeOk {bK.zero with l:=t}:=⟨by simp only;omega,by show 0<=(0:Int)/\(0:Int)<=t.length;omega⟩;obtain⟨r,k,L,_,x0,V⟩:=WI K;rw[L,eF];simp only;obtain⟨v2,U,Z,a2,b2,c2⟩:=qU (m:=(r.length:Int)) om om M;rw[Z,eF,gdp (by simp only;omega)];obtain⟨v3,u3,e3,a3,_⟩:=qU (m:=8) Om Om a2.ok;simp only[e3,qm,OQ];obtain⟨v5,Y,e5,a5,_⟩:=qU (m:=15) Om Om a3.ok;simp only[e5,qm];obtain⟨v6,B,e6,a6,_⟩:=qU (m:=6) Om Om a5.ok;simp only[e6,qm];obtain⟨v7,F,e7,O,_⟩:=qU (m:=6) Om Om a6.ok;simp only[e7,qm];have H:=V _ (mS (z:=aI.zero) (show v2.toNat<r.length by omega));split
 .obtain⟨v9,u9,e9,_⟩:=qU (m:=4) Om Om O.ok;rw[OR _ _ H,eF,e9,eF];exact⟨_,_,rfl,Fu rfl rfl⟩
 split
 .exact Xe K (r,k) (v2,U) H _ (v5,Y) (v6,B) (v7:=(v7,F)) O.ok _
 .exact Xe K (r,k) (v2,U) H _ (v5,Y) (v6,B) (v7:=(v7,F)) O.ok _
def Iq(a b:aL):Prop:=a.gen=b.gen/\a.round=b.round/\a.epoch=b.epoch/\a.bC=b.bC/\a.site=b.site/\a.inc=b.inc/\a.label=b.label
instance(a b:aL):Decidable (Iq a b):=by unfold Iq;infer_instance
def cRh(a b:aL){r:Bool}(B:Ej a b ()=some r):BW a b=some (if Iq a b then r else false):=by
 unfold BW;rw[CG,eF];refine RM λ q F=>?_;have hm:∀i,i∈q↔i<7:=λ i=>by rw[F.mem_iff,eH];rfl
 have O:∀l:List (Int×bM),(∀e∈l,(oM e.2.of).isSome=true)->
   vB (Ks a b) (λ g1:Unit=>(Sum.inl ():Unit⊕Bool)) l ()=some (if l.all (λ e=>decide (nI a ((oM e.2.of).getD 0)=nI b ((oM e.2.of).getD 0)))=true then .inl ()else .inr false):=by
  intro l;induction l with
  |nil=>intro _;rfl
  |cons e l M=>
   intro h;simp only[vB,Ks];obtain⟨k,U⟩:=iK.1 (h e (.head _));rw[U,eF,eF]
   by_cases H:nI a k=nI b k
   .rw[bX (by simp[H])];simp only[M λ x L=>h x (.tail _ L),List.all_cons,U,Xm,H,cF,cN]
   .rw[cB (by simp[H])];simp[U,H]
 rw[O _ (λ e Y=>by
  obtain⟨i,K,rfl⟩:=cS.1 Y;have:=(hm i).1 K
  match i,this with
  |0,_=>rfl
  |1,_=>rfl
  |2,_=>rfl
  |3,_=>rfl
  |4,_=>rfl
  |5,_=>rfl
  |6,_=>rfl),eF]
 have V:((q.map (nums.getD · (0,bM.zero))).all λ e=>decide (nI a ((oM e.2.of).getD 0)=nI b ((oM e.2.of).getD 0)))=decide (Iq a b):=by
  rw[dR,cC,dQ];constructor
  .intro h;have g:∀i,i<7->nI a ((oM (nums.getD i (0,bM.zero)).2.of).getD 0)=nI b ((oM (nums.getD i (0,bM.zero)).2.of).getD 0):=λ i K=>gH (h _ (cS.2 ⟨i,(hm i).2 K,rfl⟩));exact⟨g 0 om,g 1 om,g 2 om,g 3 om,g 4 om,g 5 om,g 6 om⟩
  .rintro⟨H,Z,h2,h3,h4,h5,h6⟩ e Y;obtain⟨i,K,rfl⟩:=cS.1 Y;have:=(hm i).1 K;rw[cC]
   match i,this with
   |0,_=>exact H
   |1,_=>exact Z
   |2,_=>exact h2
   |3,_=>exact h3
   |4,_=>exact h4
   |5,_=>exact h5
   |6,_=>exact h6
 rw[V]
 by_cases c:Iq a b
 .rw[cQ c,cB rfl,cB c];exact B
 .rw[fC c,bX Om,bX c]
def CN{x:Int}(H:0<=x)(O:x<128):encI x=[x]:=by unfold encI;rw[m9 om,show((x.toNat:Nat):Int)=x by omega]
def PK{x:Int}{r:List Int}(H:0<=x)(O:x<128)(U:Src (x::r)){lim over:Int}(K:x<=lim):sF lim over ⟨x::r,0⟩=some (x,⟨r,0⟩):=by have e:=CN H O;have u:=Cu (x:=x) (r:=r) ⟨H,by omega⟩ (by rw[e];exact U);rw[e]at u;simp only[Jm,jm,Km]at u;unfold sF;simp only[cF,cR,bZ,cI,u,qm];rw[gdp (by simp only[lH];omega),bX (by simpa using K),mB om om];rfl
def m11:aL:={aL.zero with kind:=11,aM:=⟨0,1,2⟩,round:=1,done:=true}
def m5:aL:={aL.zero with kind:=5,inc:=5,site:=2}
def Xf:encM m11=[11,1,0,1,2,1]:=by unfold encM;rw[show nE m11.kind=[82,80,68]from(Ft 11 Om).trans rfl];show encI 11++(encI 1++((encI 0++encI 1++encI 2)++([1]++[])))=_;rw[CN (x:=11) Om Om,CN (x:=1) Om Om,CN (x:=0) Om Om,CN (x:=2) Om Om];rfl
def Xg:rH m11=true:=by unfold rH;rw[Xf];unfold tF;rw[show nE m11.kind=[82,80,68]from(Ft 11 Om).trans rfl];decide
def cRm:encM m5=[5,2,5]:=by unfold encM;rw[show nE m5.kind=[83,73]from(Ft 5 Om).trans rfl];show encI 5++(encI 2++(encI 5++[]))=_;rw[CN (x:=5) Om Om,CN (x:=2) Om Om];rfl
def cRn:rH m5=true:=by unfold rH;rw[cRm];unfold tF;rw[show nE m5.kind=[83,73]from(Ft 5 Om).trans rfl];decide
def cRo:rH aL.zero=false:=rfl
def cRp:BW m5 m5=some true:=by
 have k:Ej m5 m5 ()=some true:=by
  unfold Ej;have H:Bs m5.options m5.options=some true:=by unfold Bs;rw[bX Om,mJ];rfl
  have O:BN m5.state m5.state=some true:=by unfold BN D0 DZ;rw[bX Om,bX Om,mJ,mJ];rfl
  rw[bX Om,H,eF,cB rfl,O];rfl
 rw[cRh _ _ k,cB Om]
def cRq:tB [5,2,5]=some (m5,0):=by
 have H:∀l:List Int,(∀x∈l,0<=x/\x<256)->l.length<=1000->Src l:=λ l Y K=>⟨Y,by omega⟩;unfold tB;rw[show({aR.zero with b:=[5,2,5]}:aR)=⟨[5,2,5],0⟩from rfl,PK (x:=5) Om Om (H _ Om Om) Om,eF];have O:((Arr.get nD (5:Int).toNat ⟨#[]⟩).size:Int)=2:=rfl;have U:(Arr.get nD (5:Int).toNat ⟨#[]⟩).toList=[83,73]:=by rw[lG];rfl
 have B:qR (5,⟨[2,5],0⟩) nums (0,⟨[2,5],0⟩,{aL.zero with kind:=5})=some (.inl (1,⟨[5],0⟩,{aL.zero with kind:=5,site:=2})):=by unfold qR;simp only[O,U];rw[cB Om,gdp Om,gdp Om,cB (by rfl)];rw[show oM ((oA (((([83,73]:List UInt8).getD (0:Int).toNat 0).toNat:Int)) nums).getD bM.zero).of=some 4 from rfl,eF];unfold sS;rw[PK (x:=2) Om Om (H _ Om Om) Om];rfl
 have F:qR (5,⟨[2,5],0⟩) nums (1,⟨[5],0⟩,{aL.zero with kind:=5,site:=2})=some (.inl (2,⟨[],0⟩,m5)):=by unfold qR;simp only[O,U];rw[cB Om,gdp Om,gdp Om,cB (by rfl)];rw[show oM ((oA (((([83,73]:List UInt8).getD (1:Int).toNat 0).toNat:Int)) nums).getD bM.zero).of=some 5 from rfl,eF];unfold sS;rw[PK (x:=5) Om Om (H _ Om Om) Om];rfl
 have M:qR (5,⟨[2,5],0⟩) nums (2,⟨[],0⟩,m5)=some (.inr (.inl (⟨[],0⟩,m5))):=by unfold qR;simp only[O,U];rw[bX Om]
 rw[bX Om,bX Om,CG,eF,gdp Om];show(lY (qR (5,⟨[2,5],0⟩) nums) (0,⟨[2,5],0⟩,{aL.zero with kind:=5})).bind _=_;rw[mJ,B];simp only;rw[mJ,F];simp only;rw[mJ,M];simp only[qm];unfold As;rw[bX Om,Ip,cRn];rfl
def PL:Cf=some true:=by
 unfold Cf Ce;rw[show({aL.zero with kind:=11,aM:=(⟨0,1,2⟩:aK),round:=1,done:=true}:aL)=m11 from rfl,show({aL.zero with kind:=5,inc:=5,site:=2}:aL)=m5 from rfl,Ip,Xg,eF,bX Om,PG (by have:=Xg;unfold rH at this;rw[bY]at this;exact this.1),Xf];have hb:((tY [11,1,0,1,2,1]).toList==(⟨#[11,1,0,1,2,1]⟩:ByteArray).toList)=true:=by rw[lG,lG];rfl
 simp only[qm,cRq,hb,cF,gP,cH,cRp,Ip,cRo,show({aL.zero with}:aL)=aL.zero from rfl,dL]
def Xh{l:List Int}:Jr l=decide ((l.length:Int)<=300):=rfl
def L0{α:Type}(P:List Int->Option (α×Int×Int)):Prop:=∀(t u:List Int) (v:α) (n:Int),(t++u).length<=1000000000->P (t++u)=some (v,n,0)->(∃H O,P t=some (H,O,5))\/(0<=n/\n<=(t.length:Int)/\P t=some (v,n,0))
def cRu{a:List Int}{v:Int}{i:Nat}(hi:i<a.length):∃r,(∀u,rW (a++u) (v,(i:Int))=some r)/\((∃O,r=.inl (O,((i+1:Nat):Int)))\/(∃x,r=.inr (.inr (x,((i+1:Nat):Int),0)))\/r=.inr (.inr (0,0,6))\/r=.inr (.inl ())):=by
 have U:∀u,(a++u).getD i 0=a.getD i 0:=λ u=>Uz _ _ _ _ hi;have K:∀u:List Int,¬((a++u).length:Int)<=(i:Int):=λ u=>by rw[cA];omega
 have hg:∀u:List Int,0<=(i:Int)/\(i:Int)<((a++u).length:Int):=λ u=>by rw[cA];omega
 have H:∀u,rW (a++u) (v,(i:Int))=rW (a++[]) (v,(i:Int)):=λ u=>by unfold rW;simp only[Qm,U,fC (K u),fC (K []),(hg u).1,(hg u).2,(hg []).2,cX,mL]
 suffices h:∃r,rW (a++[]) (v,(i:Int))=some r/\((∃O,r=.inl (O,((i+1:Nat):Int)))\/(∃x,r=.inr (.inr (x,((i+1:Nat):Int),0)))\/r=.inr (.inr (0,0,6))\/r=.inr (.inl ()))by obtain⟨r,e,h⟩:=h;exact⟨r,λ u=>(H u).trans e,h⟩
 unfold rW
 by_cases c:i<10
 .rw[cB (by simp only[cC];omega),bX (by simp only[cC];exact K []),gdp (hg [])];simp only[mF i (show i<4611686018427387904 by omega)];split
  .exact⟨_,rfl,.inr (.inr (.inl rfl))⟩
  .rw[gdp (by rw[mB om om];omega)];split
   .exact⟨_,rfl,.inl ⟨_,rfl⟩⟩
   .split
    .exact⟨_,rfl,.inr (.inr (.inl rfl))⟩
    .exact⟨_,rfl,.inr (.inl ⟨_,rfl⟩)⟩
 .rw[bX (by simp only[cC];omega)];exact⟨_,rfl,.inr (.inr (.inr rfl))⟩
def Xi{t u:List Int}:∀(n:Nat) (i:Nat) (v x c:Int),i<=t.length->iter (rW (t++u)) n (v,(i:Int))=some (.inr (x,c,0))->
  (∃H Y,lY (rW t) (v,(i:Int))=some (.inr (H,Y,5)))\/(0<=c/\c<=(t.length:Int)/\lY (rW t) (v,(i:Int))=some (.inr (x,c,0)))
 |0,i,v,x,c,_,h=>by cases h
 |n+1,i,v,x,c,K,h=>by
  by_cases O:i<t.length
  .obtain⟨r,e,B⟩:=cRu (a:=t) (v:=v) O;have U:=e [];rw[eE]at U;simp only[iter,e u]at h;rw[mJ,U];rcases B with⟨F,rfl⟩|⟨H,rfl⟩|rfl|rfl
   .exact Xi n (i+1) F x c O h
   .simp only[cJ,Sum.inr.injEq,dH]at h;obtain⟨rfl,rfl,_⟩:=h;exact .inr ⟨by omega,by omega,rfl⟩
   .simp at h
   .simp at h
  .have:i=t.length:=om
   subst this;rw[mJ];unfold rW
   by_cases M:t.length<10
   .rw[cB (by simp only[cC];omega),cB (by simp)];exact .inl ⟨_,_,rfl⟩
   .exfalso;simp only[iter]at h;unfold rW at h;rw[bX (by simp only[cC];omega)]at h;simp at h
def L1:L0 sE:=λ t u v n _ h=>by
 unfold sE at h⊢;cases K:lY (rW (t++u)) (0,0)with
 |none=>rw[K]at h;cases h
 |some y=>
  rw[K,eF]at h;rcases y with y|y
  .simp[Nd]at h
  .simp only[cJ]at h;subst h;obtain⟨k,H⟩:=tL.1 K;rcases Xi k 0 0 v n om H with⟨O,U,e⟩|⟨Y,B,e⟩
   .exact .inl ⟨O,U,by rw[show((0:Int),(0:Int))=(0,((0:Nat):Int))from rfl,e];rfl⟩
   .exact .inr ⟨Y,B,by rw[show((0:Int),(0:Int))=(0,((0:Nat):Int))from rfl,e];rfl⟩
def n9{t u:List Int}{n:Nat}(h:n<=t.length):(t++u).drop n=t.drop n++u:=by rw[jS,show n-t.length=0 by omega,fT]
def Xj:L0 wI:=λ t u v n L h=>by
 unfold wI at h⊢;cases K:sE (t++u)with
 |none=>rw[K]at h;cases h
 |some y=>
  obtain⟨a,c,e⟩:=y;rw[K,eF]at h
  by_cases H:e=0
  case neg=>rw[cB (by simpa using H)]at h;simp only[cJ,dH]at h;exact absurd h.2.2 H
  case pos=>
   subst H;simp only[cF,cR,bZ,cI]at h;rcases L1 t u a c L K with⟨M,c',O⟩|⟨V,Z,O⟩
   .rw[O];exact .inl ⟨_,_,rfl⟩
   .rw[O];simp only[qm,cF,cR,bZ,cI];split at h
    .simp at h
    rename_i F;rw[bX F];split at h
    .simp at h
    rename_i k2;have hw:=IntKind.wrap_i64 a
    by_cases U:IntKind.i64.wrap ((t.length:Int)-c)<IntKind.i64.wrap a
    .rw[cB (cQ U)];exact .inl ⟨_,_,rfl⟩
    .rw[bX (by simpa using U)];unfold gd at h;split at h
     .rename_i Y;rw[cA]at Y L;rw[mB om om]at U;have B:IntKind.i64.wrap (c+IntKind.i64.wrap a)=c+IntKind.i64.wrap a:=mB om om;rw[B]at Y h;simp only[cJ,dH]at h;obtain⟨rfl,rfl,_⟩:=h;refine .inr ⟨by omega,by omega,?_⟩;rw[B,gdp om,eY om]
     .cases h
def cRz{t u:List Int}(V:(t++u).length<=1000000000){at_ k:Int}{H:Arr Int 3}{r:(Int×Int×Arr Int 3)⊕((Int×Arr Int 3)⊕(aK×Int×Int))}(M:0<=at_)(Z:at_<=(t.length:Int))(h:rP (t++u) (at_,k,H)=some r):
  (∃F B,rP t (at_,k,H)=some (.inr (.inr (F,B,5))))\/(rP t (at_,k,H)=some r/\((∃O,r=.inl O/\0<=O.1/\O.1<=(t.length:Int))\/r=.inr (.inl (at_,H))))\/∃p c e,r=.inr (.inr (p,c,e))/\e≠0:=by
 rw[cA]at V;unfold rP at h|-
 by_cases U:k<3
 .rw[cB (cQ U),gdp (by rw[cA];omega),n9 om]at h;rw[cB (cQ U),gdp om];cases K:sE (t.drop at_.toNat++u)with
  |none=>rw[K]at h;cases h
  |some y=>
   obtain⟨a,c,e⟩:=y;rw[K,eF]at h
   by_cases Y:e=0
   case neg=>rw[cB (by simpa using Y)]at h;cases h;exact .inr (.inr ⟨_,_,_,rfl,Y⟩)
   case pos=>
    subst Y;rw[bX (by simp)]at h;rcases L1 _ u a c (by simp only[cA,dC];omega) K with⟨x',B,L⟩|⟨i0,i1,L⟩
    .rw[L];exact .inl ⟨_,_,rfl⟩
    .rw[L,eF,bX (by simp)];rw[dC]at i1;refine .inr (.inl ⟨h,.inl ?_⟩);unfold gd at h;split at h
     .cases h;exact⟨_,rfl,by simp only;rw[mB om om];omega,by simp only;rw[mB om om];omega⟩
     .cases h
 .rw[bX (by simpa using U)]at h⊢;cases h;exact .inr (.inl ⟨rfl,.inr rfl⟩)
def Xk{t u:List Int}(K:(t++u).length<=1000000000):∀(n:Nat) (g:Int×Int×Arr Int 3) (y:(Int×Arr Int 3)⊕(aK×Int×Int)),0<=g.1->g.1<=(t.length:Int)->iter (rP (t++u)) n g=some y->
  (∃H O,lY (rP t) g=some (.inr (H,O,5)))\/(∃z,y=.inl z/\0<=z.1/\z.1<=(t.length:Int)/\lY (rP t) g=some y)\/∃p c e,y=.inr (p,c,e)/\e≠0
 |0,_,_,_,_,h=>by cases h
 |n+1,(at_,k,Z),y,L,V,h=>by
  simp only[iter]at h;cases hb:rP (t++u) (at_,k,Z)with
  |none=>rw[hb]at h;cases h
  |some r=>
   rw[hb]at h;rw[mJ];rcases cRz K L V hb with⟨H,O,e⟩|⟨e,⟨U,rfl,Y,B⟩|rfl⟩|⟨p,c,e,rfl,F⟩
   .rw[e];exact .inl ⟨_,_,rfl⟩
   .rw[e];exact Xk K n U y Y B h
   .rw[e];simp only[cJ]at h;subst h;exact .inr (.inl ⟨_,rfl,L,V,rfl⟩)
   .simp only[cJ]at h;subst h;exact .inr (.inr ⟨_,_,_,rfl,F⟩)
def Xl:L0 uK:=λ t u v n L h=>by
 unfold uK at h⊢;cases K:lY (rP (t++u)) (0,0,Arr.rep 3 0)with
 |none=>rw[K]at h;cases h
 |some y=>
  rw[K,eF]at h;obtain⟨k,H⟩:=tL.1 K;rcases Xk L k (0,0,Arr.rep 3 0) y (by simp) (by simp) H with⟨U,Y,e⟩|⟨z,rfl,B,F,e⟩|⟨p,c,e,rfl,O⟩
  .rw[e];exact .inl ⟨_,_,rfl⟩
  .rw[e,eF];simp only at h⊢;have M:n=z.1:=by
    unfold J2 at h;split at h
    .simp at h
    .simp only[cJ,dH]at h;exact h.2.1.symm
   exact .inr ⟨by omega,by omega,h⟩
  .simp only[cJ,dH]at h;exact absurd h.2.2 O
def xB(lim over:Int){k:bV}(h:k.err≠0):rO lim over k=some (0,k):=by unfold rO;rw[cB (by simpa using h)]
def PM{α:Type}(T:bV->Option (α×bV)):Prop:=∀(t u:List Int) (H:Int) (v:α) (k:bV),(t++u).length<=1000000000->0<=H->H<=(t.length:Int)->T ⟨t++u,H,0⟩=some (v,k)->k.err=0->
 (∃O k',T ⟨t,H,0⟩=some (O,k')/\k'.err=5)\/∃a:Int,0<=a/\a<=(t.length:Int)/\k=⟨t++u,a,0⟩/\T ⟨t,H,0⟩=some (v,⟨t,a,0⟩)
def Ir(lim:Int){over:Int}(ho:over≠0):PM (rO lim over):=λ t u H v k hl B F h O=>by
 have K:=hl;rw[cA]at K;unfold rO at h⊢;rw[bX (by simp),gdp (by simp only[cA];omega)]at h;rw[bX (by simp),gdp (by simp only;omega)];simp only at h⊢;rw[n9 om]at h;cases L:sE (t.drop H.toNat++u)with
 |none=>rw[L]at h;cases h
 |some y=>
  obtain⟨a,c,e⟩:=y;rw[L,eF]at h;unfold Bo at h;split at h
  .rw[cB (by simpa using ho)]at h;simp only[cJ,dH]at h;rw[<-h.2]at O;exact absurd O ho
  .rename_i Y
   by_cases U:e=0
   case neg=>rw[cB (by simpa using U)]at h;simp only[cJ,dH]at h;rw[<-h.2]at O;exact absurd O U
   case pos=>
    subst U;rw[bX (by simp)]at h;simp only[cJ,dH]at h;rcases L1 _ u a c (by simp only[cA,dC];omega) L with⟨x',c',V⟩|⟨i0,i1,V⟩
    .rw[V];refine .inl ?_;unfold Bo;exact⟨_,_,rfl,rfl⟩
    .rw[dC]at i1;rw[V,eF,bX Y];unfold Bo;have Z:IntKind.i64.wrap (H+c)=H+c:=mB om om;rw[Z]at h;refine .inr ⟨H+c,by omega,by omega,h.2.symm,?_⟩;rw[bX (by simp)];simp only;rw[Z,h.1]
def cS5:PM xU:=λ t u H v k hl Y B h O=>by
 have K:=hl;rw[cA]at K;unfold xU at h⊢;rw[bX (by simp),gdp (by simp only[cA];omega)]at h;rw[bX (by simp),gdp (by simp only;omega)];simp only at h⊢;rw[n9 om]at h;cases L:wI (t.drop H.toNat++u)with
 |none=>rw[L]at h;cases h
 |some y=>
  obtain⟨a,c,e⟩:=y;rw[L,eF]at h;simp only[cJ,dH]at h;have U:e=0:=by rw[<-h.2]at O;exact O
  subst U;rcases Xj _ u a c (by simp only[cA,dC];omega) L with⟨x',c',V⟩|⟨i0,i1,V⟩
  .rw[V];exact .inl ⟨_,_,rfl,rfl⟩
  .rw[dC]at i1;have Z:IntKind.i64.wrap (H+c)=H+c:=mB om om;rw[Z]at h;refine .inr ⟨H+c,by omega,by omega,h.2.symm,?_⟩;rw[V,eF];simp only;rw[Z,h.1]
def cS6:PM xZ:=λ t u H v k hl Y B h O=>by
 have K:=hl;rw[cA]at K;unfold xZ at h⊢;rw[gdp (by simp only[cA];omega)]at h;rw[gdp (by simp only;omega)];simp only at h⊢;rw[n9 om]at h;cases L:uK (t.drop H.toNat++u)with
 |none=>rw[L]at h;cases h
 |some y=>
  obtain⟨a,c,e⟩:=y;rw[L,eF]at h;simp only[cJ,dH]at h;have U:e=0:=by rw[<-h.2]at O;exact O
  subst U;rcases Xl _ u a c (by simp only[cA,dC];omega) L with⟨x',c',V⟩|⟨i0,i1,V⟩
  .rw[V];exact .inl ⟨_,_,rfl,rfl⟩
  .rw[dC]at i1;have Z:IntKind.i64.wrap (H+c)=H+c:=mB om om;rw[Z]at h;refine .inr ⟨H+c,by omega,by omega,h.2.symm,?_⟩;rw[V,eF];simp only;rw[Z,h.1]
def Fv(c:Int){k:bV}(o:aP)(h:k.err≠0):lY rQ (c,k,o)=some (k,o):=by rw[mJ];unfold rQ;rw[bX (by simp[h])]
def pE{α β:Type}{o:Option α}{f:α->Option β}{r:β}(h:o.bind f=some r):∃v,o=some v/\f v=some r:=by
 cases o with
 |none=>cases h
 |some v=>exact⟨v,rfl,h⟩
def Is(o:aP)(s:ByteArray)(m n:Int):aP:=⟨o.aM,o.label,o.cost,o.lower++[⟨s,⟨m,n⟩⟩]⟩
def Fw{k:bV}{c:Int}{o:aP}(O:0<c)(U:k.err=0)(hg:o.lower.length+1<=4294967296){v6:ByteArray×bV}{v7 H:Int×bV}(Y:xU k=some v6)(B:rO 1073741824 16 v6.2=some v7)(F:rO 1073741824 16 v7.2=some H):
  rQ (c,k,o)=some (.inl (IntKind.i64.wrap (c-1),H.2,Is o v6.1 v7.1 H.1)):=by
 unfold rQ;rw[cB (by simp[O,U])];simp only[Y,B,F,qm];rw[gdp hg];rfl
def cSa{k:bV}{c:Int}{o:aP}(U:0<c)(Y:k.err=0){r:(Int×bV×aP)⊕(bV×aP)}(h:rQ (c,k,o)=some r):∃v6 H O,xU k=some v6/\rO 1073741824 16 v6.2=some H/\rO 1073741824 16 H.2=some O/\o.lower.length+1<=4294967296/\r=.inl (IntKind.i64.wrap (c-1),O.2,Is o v6.1 H.1 O.1):=by
 have B:=h;unfold rQ at h;rw[cB (by simp[U,Y])]at h;obtain⟨v6,F,h⟩:=pE h;obtain⟨H,M,h⟩:=pE h;obtain⟨O,K,h⟩:=pE h;unfold gd at h;split at h
 case isFalse=>cases h
 rename_i hg;refine⟨v6,H,O,F,M,K,hg,?_⟩;rw[Fw U Y hg F M K]at B;exact(dY B).symm
def Xn{t u:List Int}(K:(t++u).length<=1000000000):∀(n:Nat) (c a:Int) (o:aP) (z:bV×aP),0<=a->a<=(t.length:Int)->iter rQ n (c,⟨t++u,a,0⟩,o)=some z->z.1.err=0->
  (∃z',lY rQ (c,⟨t,a,0⟩,o)=some z'/\z'.1.err=5)\/∃b:Int,0<=b/\b<=(t.length:Int)/\z.1=⟨t++u,b,0⟩/\lY rQ (c,⟨t,a,0⟩,o)=some (⟨t,b,0⟩,z.2)
 |0,_,_,_,_,_,_,h,_=>by cases h
 |n+1,c,a,o,z,h0,h1,h,L=>by
  simp only[iter]at h;cases hb:rQ (c,⟨t++u,a,0⟩,o)with
  |none=>rw[hb]at h;cases h
  |some r=>
   rw[hb]at h
   by_cases Y:0<c
   case neg=>
    have ex:∀k:bV,rQ (c,k,o)=some (.inr (k,o)):=λ k=>by unfold rQ;rw[bX (by simp[Y])]
    rw[ex]at hb;cases hb;simp only[cJ]at h;subst h;rw[mJ,ex];exact .inr ⟨a,h0,h1,rfl,rfl⟩
   case pos=>
    obtain⟨v6,V,Z,e6,B,F,hg,rfl⟩:=cSa Y rfl hb;simp only at h;have er:Z.2.err=0:=eU λ k=>by have hx:lY rQ _=some z:=tL.2 ⟨n,h⟩;rw[Fv _ _ k]at hx;simp only[cJ]at hx;rw[<-hx]at L;exact k L
    have U:V.2.err=0:=eU λ k=>by rw[xB _ _ k]at F;simp only[cJ]at F;rw[<-F]at er;exact k er
    have x0:v6.2.err=0:=eU λ k=>by rw[xB _ _ k]at B;simp only[cJ]at B;rw[<-B]at U;exact k U
    rw[mJ];rcases cS5 t u a v6.1 v6.2 K h0 h1 e6 x0 with⟨v',k',M,H⟩|⟨a1,p0,p1,p2,p3⟩
    .left;have O:k'.err≠0:=by rw[H];decide
     rw[Fw Y rfl hg M (xB _ _ O) (xB _ _ O)];simp only[Fv _ _ O];exact⟨_,rfl,H⟩
    rw[p2]at B;rcases Ir 1073741824 (over:=16) Om t u a1 V.1 V.2 K p0 p1 B U with⟨v',k',M,H⟩|⟨a2,q0,q1,q2,q3⟩
    .left;have O:k'.err≠0:=by rw[H];decide
     rw[Fw Y rfl hg p3 M (xB _ _ O)];simp only[Fv _ _ O];exact⟨_,rfl,H⟩
    rw[q2]at F;rcases Ir 1073741824 (over:=16) Om t u a2 Z.1 Z.2 K q0 q1 F er with⟨v',k',M,H⟩|⟨a3,r0,r1,r2,r3⟩
    .left;have O:k'.err≠0:=by rw[H];decide
     rw[Fw Y rfl hg p3 q3 M];simp only[Fv _ _ O];exact⟨_,rfl,H⟩
    .rw[Fw Y rfl hg p3 q3 r3];rw[r2]at h;exact Xn K n _ a3 _ z r0 r1 h L
def PN{z:bV×aP}(h:z.1.err≠0):d8 z=some (aP.zero,0,z.1.err):=by unfold d8;rw[bX (by simpa using h),eF,bX (by simp[h])];unfold D7;rw[cB (by simpa using h)]
def cSd:L0 yB:=λ t u v n K h=>by
 unfold yB at h⊢;obtain⟨v1,e1,h⟩:=pE h;obtain⟨v2,F,h⟩:=pE h;obtain⟨v3,M,h⟩:=pE h;obtain⟨v4,L,h⟩:=pE h;obtain⟨z,ez,h⟩:=pE h;have V:z.1.err=0:=eU λ k=>by rw[PN k]at h;simp only[cJ,dH]at h;exact k h.2.2
 have Z:v4.2.err=0:=eU λ k=>by rw[Fv _ _ k]at ez;simp only[cJ]at ez;rw[<-ez]at V;exact k V
 have h3:v3.2.err=0:=eU λ k=>by rw[xB _ _ k]at L;simp only[cJ]at L;rw[<-L]at Z;exact k Z
 have h2:v2.2.err=0:=eU λ k=>by rw[xB _ _ k]at M;simp only[cJ]at M;rw[<-M]at h3;exact k h3
 have h1:v1.2.err=0:=eU λ k=>by rw[xB _ _ k]at F;simp only[cJ]at F;rw[<-F]at h2;exact k h2
 have U:∀(c:Int) (k:bV) (o:aP),k.err=5->∃B n',((lY rQ (c,k,o)).bind λ z=>d8 z)=some (B,n',5):=λ c k o O=>by rw[Fv c o (by rw[O];decide),eF,PN (by rw[O];decide)];exact⟨_,_,by rw[O]⟩
 rcases cS6 t u 0 v1.1 v1.2 K Om om e1 h1 with⟨B,k',Y,H⟩|⟨a1,p0,p1,p2,p3⟩
 .left;have O:k'.err≠0:=by rw[H];decide
  rw[show xZ ({bV.zero with all:=t})=some (B,k')from Y];simp only[qm,xB _ _ O];exact U _ _ _ H
 rw[show xZ ({bV.zero with all:=t})=some (v1.1,⟨t,a1,0⟩)from p3];rw[p2]at F;rcases Ir 1073741824 (over:=16) Om t u a1 v2.1 v2.2 K p0 p1 F h2 with⟨B,k',Y,H⟩|⟨a2,q0,q1,q2,q3⟩
 .left;have O:k'.err≠0:=by rw[H];decide
  simp only[Y,qm,xB _ _ O];exact U _ _ _ H
 rw[q2]at M;rcases Ir 1073741824 (over:=16) Om t u a2 v3.1 v3.2 K q0 q1 M h3 with⟨B,k',Y,H⟩|⟨a3,r0,r1,r2,r3⟩
 .left;have O:k'.err≠0:=by rw[H];decide
  simp only[q3,Y,qm,xB _ _ O];exact U _ _ _ H
 rw[r2]at L;rcases Ir 8 (over:=4) Om t u a3 v4.1 v4.2 K r0 r1 L Z with⟨B,k',Y,H⟩|⟨a4,w0,w1,w2,w3⟩
 .left;have O:k'.err≠0:=by rw[H];decide
  simp only[q3,r3,Y,qm];exact U _ _ _ H
 simp only[q3,r3,w3,qm];rw[w2]at ez;obtain⟨k,O⟩:=tL.1 ez;rcases Xn K k v4.1 a4 _ z w0 w1 O V with⟨z',Y,H⟩|⟨b,b0,b1,b2,b3⟩
 .left;rw[Y,eF,PN (by rw[H];decide)];exact⟨_,_,by rw[H]⟩
 .right;rw[b3,eF];obtain⟨k,o⟩:=z;simp only at b2;subst b2;have hv:∀x:List Int,d8 (⟨x,b,0⟩,o)=some (if optV o=true then(o,b,0)else(aP.zero,0,2)):=λ x=>by
   unfold d8;rw[cB (by simp),LU,eF];unfold D7;cases optV o<;>rfl
  rw[hv]at h|-
  by_cases ho:optV o=true
  .rw[cB ho]at h⊢;simp only[cJ,dH]at h;obtain⟨rfl,rfl,_⟩:=h;exact⟨b0,b1,rfl⟩
  .rw[bX ho]at h;simp at h
def o4{α:Type}(R:aR->Option (α×aR)):Prop:=∀(t u:List Int) (v:α) (O:List Int),(t++u).length<=1000000000->R ⟨t++u,0⟩=some (v,⟨O,0⟩)->
 (∃Y U,R ⟨t,0⟩=some (Y,U)/\U.err=5)\/∃H,H.length<=t.length/\O=H++u/\R ⟨t,0⟩=some (v,⟨H,0⟩)
def PP(lim:Int){over:Int}(ho:over≠0):o4 (sF lim over):=λ t u v Y L h=>by
 have K:=L;rw[cA]at K;unfold sF at h⊢;rw[bX (by simp)]at h⊢;obtain⟨⟨a,c,e⟩,V,h⟩:=pE h
 by_cases H:e=0
 case neg=>rw[cB (by simpa using H)]at h;simp only[cJ,dH,aR.mk.injEq]at h;exact absurd h.2.2 H
 case pos=>
  subst H;rcases L1 t u a c L V with⟨B,F,O⟩|⟨i0,M,O⟩
  .simp only[O];exact .inl ⟨_,_,rfl,rfl⟩
  .simp only[O,qm];rw[bX (by simp),gdp (by simp only[cA];omega)]at h;rw[bX (by simp),gdp om];simp only at h⊢;split at h
   .simp only[cJ,dH,aR.mk.injEq]at h;exact absurd h.2.2 ho
   .rename_i U;rw[bX U];simp only[cJ,dH,aR.mk.injEq]at h;obtain⟨rfl,rfl,_⟩:=h;exact .inr ⟨t.drop c.toNat,by rw[dC];omega,n9 om,rfl⟩
def L2:o4 sS:=λ t u v U K h=>by
 unfold sS at h⊢;obtain⟨⟨a,r⟩,L,h⟩:=pE h;simp only[cJ,dH]at h;obtain⟨rfl,rfl⟩:=h;rcases PP 1073741824 (over:=16) Om t u _ _ K L with⟨Y,B,e,H⟩|⟨O,V,hb,e⟩
 .rw[e];exact .inl ⟨_,_,rfl,H⟩
 .rw[e];exact .inr ⟨O,V,hb,rfl⟩
def Xo{r:aR}(h:r.err≠0):sS r=some (0,r):=by unfold sS sF;rw[cB (by simpa using h)];rfl
def cSi:o4 z8:=λ t u v U L h=>by
 have K:=L;rw[cA]at K;unfold z8 at h⊢;rw[bX (by simp)]at h⊢;obtain⟨⟨a,c,e⟩,V,h⟩:=pE h
 by_cases H:e=0
 case neg=>rw[cB (by simpa using H)]at h;simp only[cJ,dH,aR.mk.injEq]at h;exact absurd h.2.2 H
 case pos=>
  subst H;rcases Xl t u a c L V with⟨Y,B,O⟩|⟨i0,F,O⟩
  .simp only[O];exact .inl ⟨_,_,rfl,rfl⟩
  .simp only[O,qm];rw[bX (by simp),gdp (by simp only[cA];omega)]at h;rw[bX (by simp),gdp om];simp only[cJ,dH,aR.mk.injEq]at h;obtain⟨rfl,rfl,_⟩:=h;exact .inr ⟨t.drop c.toNat,by rw[dC];omega,n9 om,rfl⟩
def cSj:o4 Ad:=λ t u v b' V h=>by
 have L:=V;rw[cA]at L;unfold Ad at h⊢;rw[bX (by simp)]at h⊢;obtain⟨⟨a,c,e⟩,Z,h⟩:=pE h
 by_cases O:e=0
 case neg=>rw[cB (by simpa using O)]at h;simp only[cJ,dH,aR.mk.injEq]at h;exact absurd h.2.2 O
 case pos=>
  subst O;rcases Xj t u a c V Z with⟨x',c',U⟩|⟨i0,i1,U⟩
  .simp only[U];exact .inl ⟨_,_,rfl,rfl⟩
  .simp only[U,qm];rw[bX (by simp),gdp (by simp only[cA];omega)]at h;rw[bX (by simp),gdp om];simp only at h⊢;rw[n9 om]at h;obtain⟨⟨v2,Y⟩,F,h⟩:=pE h;obtain⟨⟨v3,r3⟩,H,h⟩:=pE h;simp only[cJ,dH]at h H;obtain⟨rfl,rfl⟩:=h;have B:Y.err=0:=eU λ k=>by
    rw[Xo k]at H;simp only[cJ,dH]at H;rw[H.2]at k;exact k rfl
   obtain⟨b2,e2⟩:=Y;simp only at B;subst B;have hd:(t.drop c.toNat).length<=t.length:=by rw[dC];omega
   rcases L2 _ u _ _ (by rw[cA];omega) F with⟨v',r',e,K⟩|⟨t2,ht2,rfl,e⟩
   .have M:r'.err≠0:=by rw[K];decide
    simp only[e,qm,Xo M];exact .inl ⟨_,_,rfl,K⟩
   rcases L2 _ u _ _ (by rw[cA];omega) H with⟨v',r',e',K⟩|⟨t3,ht3,rfl,e'⟩
   .simp only[e,e',qm];exact .inl ⟨_,_,rfl,K⟩
   .simp only[e,e',qm];exact .inr ⟨t3,by omega,rfl,rfl⟩
def cSk:o4 u7:=λ t u v O K h=>by
 unfold u7 at h⊢;rw[bX (by simp)]at h⊢;cases t with
 |nil=>rw[cB (by simp)];exact .inl ⟨_,_,rfl,rfl⟩
 |cons x t=>
  rw[bX (by simp<;>omega),gdp (by simp<;>omega)]at h⊢;simp only[Jm,show∀l:List Int,(x::l).getD 0 0=x fromλ _=>rfl]at h⊢;split at h
  .simp at h
  .rename_i H;rw[bX H,gdp (by simp<;>omega),gdp (by simp<;>omega)];rw[gdp (by simp<;>omega),gdp (by simp<;>omega)]at h;simp only[cJ,dH,aR.mk.injEq]at h;obtain⟨rfl,rfl,_⟩:=h;exact .inr ⟨t,by simp,rfl,rfl⟩
def cSl:o4 Cc:=λ t u v b' K h=>by
 unfold Cc at h⊢;obtain⟨⟨n,r⟩,L,h⟩:=pE h
 by_cases H:r.err=0
 case neg=>rw[cB (by simpa using H)]at h;simp only[cJ,dH]at h;rw[h.2]at H;exact absurd rfl H
 case pos=>
  obtain⟨Z,e2⟩:=r;simp only at H;subst H;rcases L2 t u _ _ K L with⟨v',r',e,B⟩|⟨O,F,rfl,e⟩
  .simp only[e,qm];rw[cB (by simp[B])];exact .inl ⟨_,_,rfl,B⟩
  .simp only[e,qm];rw[bX (by simp)]at h|-
   by_cases k:(O.length:Int)<n
   .rw[cB (by simpa using k)];exact .inl ⟨_,_,rfl,rfl⟩
   .rw[bX (by simp;omega)]at h;rw[bX (by simpa using k)];unfold gd at h;split at h
    case isFalse=>cases h
    rename_i hg;have U:0<=n:=hg.2.1;simp only at h;rw[gdp (by exact⟨by decide,U,by omega,trivial⟩)];rw[eY om]at h;obtain⟨⟨s,M⟩,V,h⟩:=pE h;rw[V,eF]
    by_cases Y:M=0
    case neg=>rw[cB (by simpa using Y)]at h;simp only[cJ,dH,aR.mk.injEq]at h;exact absurd h.2.2 Y
    case pos=>
     subst Y;rw[bX (by simp)]at h⊢;rw[gdp (show 0<=n/\n<=(O.length:Int)/\(O.length:Int)<=(O.length:Int)by omega)];split at h
     case isFalse=>cases h
     simp only[cJ,dH,aR.mk.injEq]at h;obtain⟨rfl,rfl,_⟩:=h;exact .inr ⟨O.drop n.toNat,by rw[dC];omega,n9 om,rfl⟩
def Xp{u:List Int}(v1:Int×aR):∀(k:Nat) (t:List Int) (i:Int) (l:List aP) (y:(aR×List aP)⊕(List aP×aR)),(t++u).length<=1000000000->iter (pZ v1) k (i,⟨t++u,0⟩,l)=some y->
  (∀w:Int×aR,w.1=v1.1->∃z H,lY (pZ w) (i,⟨t,0⟩,l)=some (.inr (z,H))/\H.err=5)\/(∃O z,O.length<=t.length/\y=.inl (⟨O++u,0⟩,z)/\∀w:Int×aR,w.1=v1.1->lY (pZ w) (i,⟨t,0⟩,l)=some (.inl (⟨O,0⟩,z)))\/∃z H,y=.inr (z,H)/\H.err≠0
 |0,_,_,_,_,_,h=>by cases h
 |k+1,t,i,l,y,V,h=>by
  have L:=V;rw[cA]at L;simp only[iter]at h;cases hb:pZ v1 (i,⟨t++u,0⟩,l)with
  |none=>rw[hb]at h;cases h
  |some r=>
   rw[hb]at h;unfold pZ at hb
   by_cases U:i<v1.1
   case neg=>
    rw[bX (by simpa using U)]at hb;cases hb;simp only[cJ]at h;subst h;refine .inr (.inl ⟨t,l,dG _,rfl,λ w K=>?_⟩);rw[mJ];have:pZ w (i,⟨t,0⟩,l)=some (.inr (.inl (⟨t,0⟩,l))):=by unfold pZ;rw[bX (by rw[K];simpa using U)]
    rw[this]
   case pos=>
    rw[cB (by simpa using U)]at hb;obtain⟨⟨o,n,e⟩,Z,hb⟩:=pE hb
    by_cases Y:e=0
    case neg=>rw[cB (by simpa using Y)]at hb;cases hb;simp only[cJ]at h;subst h;exact .inr (.inr ⟨_,_,rfl,Y⟩)
    case pos=>
     subst Y;rw[bX (by simp)]at hb;simp only at Z;rcases cSd t u o n V Z with⟨F,M,B⟩|⟨i0,i1,B⟩
     .refine .inl λ w K=>?_;have:pZ w (i,⟨t,0⟩,l)=some (.inr (.inr ([],⟨t,5⟩))):=by
       unfold pZ;rw[cB (by rw[K];simpa using U)];simp only[B];rfl
      rw[mJ,this];exact⟨_,_,rfl,rfl⟩
     .rw[gdp (by simp only[cA];omega)]at hb;unfold gd at hb;split at hb
      case isFalse=>cases hb
      rename_i hg;cases hb;simp only at h;rw[n9 om]at h;have hd:(t.drop n.toNat).length<=t.length:=by rw[dC];omega
      have st:∀w:Int×aR,w.1=v1.1->lY (pZ w) (i,⟨t,0⟩,l)=lY (pZ w) (IntKind.i64.wrap (i+1),⟨t.drop n.toNat,0⟩,l++[o]):=λ w K=>by
       have:pZ w (i,⟨t,0⟩,l)=some (.inl (IntKind.i64.wrap (i+1),⟨t.drop n.toNat,0⟩,l++[o])):=by unfold pZ;rw[cB (by rw[K];simpa using U)];simp only[B,qm];rw[bX (by simp),gdp om,gdp hg]
       rw[mJ,this]
      rcases Xp v1 k (t.drop n.toNat) _ _ y (by rw[cA];omega) h with p|⟨O,z,p1,p2,p3⟩|p
      .exact .inl λ w K=>by rw[st w K];exact p w K
      .exact .inr (.inl ⟨O,z,by omega,p2,λ w K=>by rw[st w K];exact p3 w K⟩)
      .exact .inr (.inr p)
def cSn:o4 yC:=λ t u v b' V h=>by
 unfold yC at h⊢;obtain⟨⟨n,r⟩,K,h⟩:=pE h;obtain⟨y,L,h⟩:=pE h;simp only at L h
 by_cases H:r.err=0
 case neg=>
  have Y:n=0:=by
   unfold sF at K;rw[bX (by simp)]at K;obtain⟨⟨a,c,e⟩,F,K⟩:=pE K;split at K
   .simp only[cJ,dH]at K;exact K.1.symm
   .unfold gd at K;split at K
    .split at K
     .simp only[cJ,dH]at K;exact K.1.symm
     .simp only[cJ,dH]at K;rw[<-K.2]at H;exact absurd rfl H
    .cases K
  subst Y;have:pZ (0,r) (0,r,[])=some (.inr (.inl (r,[]))):=by unfold pZ;rw[bX (by simp)]
  rw[mJ,this]at L;simp only[cJ]at L;subst L;simp only[Kt,cJ,dH]at h;rw[h.2]at H;exact absurd rfl H
 case pos=>
  obtain⟨b2,e2⟩:=r;simp only at H;subst H;rcases PP 40 (over:=4) Om t u _ _ V K with⟨M,O,e,B⟩|⟨U,h0,rfl,e⟩
  .have Y:M=0:=by
    unfold sF at e;rw[bX (by simp)]at e;obtain⟨⟨a,c,e'⟩,F,e⟩:=pE e;split at e
    .simp only[cJ,dH]at e;exact e.1.symm
    .unfold gd at e;split at e
     .split at e
      .simp only[cJ,dH]at e;exact e.1.symm
      .simp only[cJ,dH]at e;rw[<-e.2]at B;exact absurd (show(0:Int)=5 from B) Om
     .cases e
   subst Y;have:pZ (0,O) (0,O,[])=some (.inr (.inl (O,[]))):=by unfold pZ;rw[bX (by simp)]
   rw[e,eF];simp only;rw[mJ,this];exact .inl ⟨_,_,rfl,B⟩
  .rw[e,eF];simp only;obtain⟨k,Z⟩:=tL.1 L;rcases Xp (n,⟨U++u,0⟩) k U 0 [] y (by rw[cA]at V⊢;omega) Z with p|⟨t',z,p1,rfl,p3⟩|⟨z,O,rfl,p⟩
   .obtain⟨z,O,q1,q2⟩:=p (n,⟨U,0⟩) rfl;rw[q1];exact .inl ⟨_,_,rfl,q2⟩
   .rw[p3 (n,⟨U,0⟩) rfl];simp only[Kt,cJ,dH,aR.mk.injEq]at h;obtain⟨rfl,rfl,_⟩:=h;exact .inr ⟨t',by omega,rfl,rfl⟩
   .simp only[cJ,dH]at h;rw[h.2]at p;exact absurd rfl p
def xC(R:aR->Option (aR×aL)):Prop:=∀(t u:List Int) (O:List Int) (U:aL),(t++u).length<=1000000000->R ⟨t++u,0⟩=some (⟨O,0⟩,U)->
 (∃Y x,R ⟨t,0⟩=some (Y,x)/\Y.err=5)\/∃H,H.length<=t.length/\O=H++u/\R ⟨t,0⟩=some (⟨H,0⟩,U)
def o4.to{α:Type}{R:aR->Option (α×aR)}(h:o4 R)(f:α->aL):xC λ r=>(R r).bind λ v=>some (v.2,f v.1):=λ t u H F K e=>by
 obtain⟨⟨v,r⟩,L,e⟩:=pE e;simp only[cJ,dH]at e;obtain⟨rfl,rfl⟩:=e;rcases h t u v H K L with⟨O,U,e,Y⟩|⟨B,V,hb,e⟩
 .exact .inl ⟨U,f O,by show(R ⟨t,0⟩).bind _=_;rw[e];rfl,Y⟩
 .exact .inr ⟨B,V,hb,by show(R ⟨t,0⟩).bind _=_;rw[e];rfl⟩
def xC.ite{c:Bool}{R S:aR->Option (aR×aL)}(h:xC R)(k:xC S):xC λ r=>if c=true then R r else S r:=by
 cases c
 .exact k
 .exact h
def xC.none(m:aL):xC λ r=>some (r,m):=λ t u H O K e=>by simp only[cJ,dH,aR.mk.injEq]at e;obtain⟨⟨rfl,_⟩,rfl⟩:=e;exact .inr ⟨t,dG _,rfl,rfl⟩
def cSp(c:Int)(m:aL):xC λ r=>tO c r m:=by
 have H:∀j,xC λ r=>k9 c r m j:=λ j=>by unfold k9;exact(cSl.to λ v=>{m with state:=v}).ite ((cSn.to λ v=>{m with options:=v}).ite (.none m))
 have O:∀j,xC λ r=>vM c r m j:=λ j=>by unfold vM;exact(cSj.to λ v=>{m with aZ:=v}).ite ((cSk.to λ v=>{m with done:=v}).ite ((H _).ite (H _)))
 unfold tO;exact(cSi.to λ v=>{m with aM:=v}).ite ((O _).ite (O _))
def cSq{v1 w:Int×aR}(K:w.1=v1.1){t u:List Int}(L:(t++u).length<=1000000000){i:Int}{m:aL}{r:(Int×aR×aL)⊕((aR×aL)⊕(aL×Int))}(h:qR v1 nums (i,⟨t++u,0⟩,m)=some r):
  (∃x,qR w nums (i,⟨t,0⟩,m)=some (.inr (.inr (x,5))))\/(∃j H O,r=.inl (j,⟨H++u,0⟩,O)/\H.length<=t.length/\qR w nums (i,⟨t,0⟩,m)=some (.inl (j,⟨H,0⟩,O)))\/
  (r=.inr (.inl (⟨t++u,0⟩,m))/\qR w nums (i,⟨t,0⟩,m)=some (.inr (.inl (⟨t,0⟩,m))))\/∃x e,r=.inr (.inr (x,e))/\e≠0:=by
 have U:∀{R:aR->Option (aR×aL)},xC R->((R ⟨t++u,0⟩).bind λ v=>yJ (i,⟨t++u,0⟩,m) (v.1,v.2))=some r->
   (∃x,((R ⟨t,0⟩).bind λ v=>yJ (i,⟨t,0⟩,m) (v.1,v.2))=some (.inr (.inr (x,5))))\/(∃j H O,r=.inl (j,⟨H++u,0⟩,O)/\H.length<=t.length/\((R ⟨t,0⟩).bind λ v=>yJ (i,⟨t,0⟩,m) (v.1,v.2))=some (.inl (j,⟨H,0⟩,O)))\/∃x e,r=.inr (.inr (x,e))/\e≠0:=λ{R} V h=>by
  obtain⟨⟨⟨b,e⟩,O⟩,Z,h⟩:=pE h;unfold yJ at h|-
  by_cases Y:e=0
  case neg=>rw[cB (by simpa using Y)]at h;cases h;exact .inr (.inr ⟨_,_,rfl,Y⟩)
  case pos=>
   subst Y;rw[bX (by simp)]at h;cases h;rcases V t u b O L Z with⟨r',x,e,F⟩|⟨H,ht,rfl,e⟩
   .refine .inl ⟨aL.zero,?_⟩;rw[e,eF,cB (by simp[F]),F]
   .refine .inr (.inl ⟨_,H,O,rfl,ht,?_⟩);rw[e,eF,bX (by simp)]
 unfold qR at h⊢;rw[K]
 by_cases M:i<((Arr.get nD v1.1.toNat ⟨#[]⟩).size:Int)
 case neg=>rw[bX (by simpa using M)]at h⊢;cases h;exact .inr (.inr (.inl ⟨rfl,rfl⟩))
 case pos=>
  rw[cB (by simpa using M)]at h⊢;unfold gd at h⊢;split at h
  case isFalse=>cases h
  rename_i g1;rw[cB g1];split at h
  case isFalse=>cases h
  rename_i g2;rw[cB g2];simp only at h⊢;split at h
  .rename_i B;rw[cB B];obtain⟨k,hk,h⟩:=pE h;rw[hk,eF];rcases U (L2.to λ v=>sP m k (IntKind.i64.wrap (v-((oA ((((Arr.get nD m.kind.toNat ⟨#[]⟩).toList.getD i.toNat 0).toNat:Nat):Int) nums).getD bM.zero).plus))) (by simpa only[kQ,qm]using h)with p|⟨j,H,O,p1,p2,p3⟩|p
   .exact .inl (by simpa only[kQ,qm]using p)
   .exact .inr (.inl ⟨j,H,O,p1,p2,by simpa only[kQ,qm]using p3⟩)
   .exact .inr (.inr (.inr p))
  .rename_i B;rw[bX B];rcases U (cSp _ m) h with p|p|p
   .exact .inl p
   .exact .inr (.inl p)
   .exact .inr (.inr (.inr p))
def Xq{v1 w:Int×aR}(K:w.1=v1.1){u:List Int}:∀(n:Nat) (t:List Int) (i:Int) (m:aL) (y:(aR×aL)⊕(aL×Int)),(t++u).length<=1000000000->iter (qR v1 nums) n (i,⟨t++u,0⟩,m)=some y->
  (∃x,lY (qR w nums) (i,⟨t,0⟩,m)=some (.inr (x,5)))\/(∃H O,y=.inl (⟨H++u,0⟩,O))\/∃x e,y=.inr (x,e)/\e≠0
 |0,_,_,_,_,_,h=>by cases h
 |n+1,t,i,m,y,L,h=>by
  simp only[iter]at h;cases hb:qR v1 nums (i,⟨t++u,0⟩,m)with
  |none=>rw[hb]at h;cases h
  |some r=>
   rw[hb]at h;rw[mJ];rcases cSq K L hb with⟨x,e⟩|⟨j,H,O,rfl,V,e⟩|⟨rfl,e⟩|⟨x,e,rfl,U⟩
   .rw[e];exact .inl ⟨x,rfl⟩
   .rw[e];exact Xq K n H j O y (by rw[cA]at L⊢;omega) h
   .simp only[cJ]at h;exact .inr (.inl ⟨t,m,h.symm⟩)
   .simp only[cJ]at h;exact .inr (.inr ⟨x,e,h.symm,U⟩)
def cSs{b u:List Int}{m:aL}(K:(b++u).length<=1000000000)(U:u≠[])(h:tB (b++u)=some (m,0)):∃x,tB b=some (x,5):=by
 unfold tB at h⊢;obtain⟨⟨k,r⟩,L,h⟩:=pE h;simp only at h
 by_cases H:r.err=0
 case neg=>rw[cB (by simpa using H)]at h;simp only[cJ,dH]at h;exact absurd h.2 H
 case pos=>
  obtain⟨b2,e2⟩:=r;simp only at H;subst H;rcases PP 15 (over:=6) Om b u _ _ K L with⟨Y,B,e,O⟩|⟨t,ht,rfl,e⟩
  .rw[show sF 15 6 ({aR.zero with b:=b})=some (Y,B)from e,eF];simp only;rw[cB (by simp[O]),O];exact⟨_,rfl⟩
  .rw[show sF 15 6 ({aR.zero with b:=b})=some (k,⟨t,0⟩)from e,eF];simp only;rw[bX (by simp)]at h⊢;split at h
   .simp at h
   .rename_i F;rw[bX F];rw[CG,eF]at h⊢;unfold gd at h⊢;split at h
    case isFalse=>cases h
    rename_i M;rw[cB M];obtain⟨y,V,h⟩:=pE h;obtain⟨n,Z⟩:=tL.1 V;rcases Xq (v1:=(k,⟨t++u,0⟩)) (w:=(k,⟨t,0⟩)) rfl n t 0 _ y (by rw[cA]at K⊢;omega) Z with⟨x,e⟩|⟨t',m',rfl⟩|⟨x,e,rfl,e0⟩
    .rw[e];exact⟨x,rfl⟩
    .exfalso;simp only at h;unfold As at h;rw[cB (by
      have:u.length≠0:=λ k=>U (gS.1 k);simp only[cA,dA,dF];omega)]at h
     simp at h
    .simp only[cJ,dH]at h;exact absurd h.2 e0
def It{lim over x:Int}(h:okI x)(K:x<=lim)(O:lim<=1073741824){b r:List Int}{a:Int}(M:0<=a)(L:a<=(b.length:Int))(V:b.length<=1000000000)(H:b.drop a.toNat=encI x++r)(U:Src (encI x++r)):
  rO lim over ⟨b,a,0⟩=some (x,⟨b,a+((encI x).length:Int),0⟩)/\a+((encI x).length:Int)<=(b.length:Int)/\b.drop (a+((encI x).length:Int)).toNat=r:=by
 have e:=dZ List.length H;rw[dC,cA]at e;have Y:=nU h;obtain⟨B,F⟩:=h;refine⟨?_,by omega,?_⟩
 .unfold rO;rw[bX (by simp),gdp (by simp only;omega)];simp only;rw[H,Cu ⟨B,F⟩ U,eF,bX (by
   simp only[cF,cN,cC];rw[yU lim om om];omega)]
  unfold Bo;rw[bX (by simp)];simp only;rw[mB (x:=x) om om,mB om om]
 .rw[show(a+((encI x).length:Int)).toNat=a.toNat+(encI x).length by omega,<-fB,H,fE]
def cSu{s:ByteArray}(h:s.size<=1024){b r:List Int}{a:Int}(U:0<=a)(Y:a<=(b.length:Int))(K:b.length<=1000000000)(H:b.drop a.toNat=encT s++r)(O:Src (encT s++r)):
  xU ⟨b,a,0⟩=some (s,⟨b,a+((encT s).length:Int),0⟩)/\a+((encT s).length:Int)<=(b.length:Int)/\b.drop (a+((encT s).length:Int)).toNat=r:=by
 have e:=dZ List.length H;rw[dC,cA]at e;refine⟨?_,by omega,?_⟩
 .unfold xU;rw[bX (by simp),gdp (by simp only;omega)];simp only;rw[H,O8 h O,eF];simp only;rw[mB om om]
 .rw[show(a+((encT s).length:Int)).toNat=a.toNat+(encT s).length by omega,<-fB,H,fE]
def Xr{b:List Int}(K:b.length<=1000000000):∀(l:List aO) (r:List Int) (a:Int) (o:aP),(∀x∈l,okL' x)->o.lower.length+l.length<=8->0<=a->a<=(b.length:Int)->b.drop a.toNat=l.flatMap encL++r->Src (l.flatMap encL++r)->
  lY rQ ((l.length:Int),⟨b,a,0⟩,o)=some (⟨b,a+((l.flatMap encL).length:Int),0⟩,⟨o.aM,o.label,o.cost,o.lower++l⟩)
 |[],r,a,o,_,_,Z,h1,V,L=>by
  have:rQ ((([]:List aO).length:Int),⟨b,a,0⟩,o)=some (.inr (⟨b,a,0⟩,o)):=by unfold rQ;rw[bX (by simp)]
  rw[mJ,this];simp
 |x::l,r,a,o,hx,h8,Z,h1,V,L=>by obtain⟨k1,H,O⟩:=hx x (.head _);rw[lH]at h8;simp only[eQ,encL,cG]at V L;obtain⟨B,F,M⟩:=cSu om Z h1 K V L;have U:=L.right;obtain⟨e2,i2,d2⟩:=It (lim:=1073741824) (over:=16) H H.2 Om om F K M U;have Y:=U.right;obtain⟨e3,i3,d3⟩:=It (lim:=1073741824) (over:=16) O O.2 Om om i2 K d2 Y;have s3:=Y.right;rw[mJ,Fw (by simp<;>omega) rfl om B e2 e3];simp only;rw[show IntKind.i64.wrap ((((x::l).length:Nat):Int)-1)=(l.length:Int)by rw[lH,mB om om];omega];rw[Xr K l r _ (Is o x.name x.aJ.mode x.aJ.aU) (λ y hy=>hx y (.tail _ hy)) (by simp only[Is,cA,lM];omega) om i3 d3 s3];simp only[Is,eQ,encL,cA,cG,List.singleton_append];congr 3;omega
def cSw{o:aP}(ho:optV o=true){r:List Int}(L:(encO o++r).length<=1000000000)(H:Src (encO o++r)):yB (encO o++r)=some (o,((encO o).length:Int),0):=by
 have k:=Io ho;have hb:encO o++r=encP o.aM++(encI (o.label+1)++(encI o.cost++(encI (o.lower.length:Int)++(o.lower.flatMap encL++r)))):=by unfold encO;simp only[cG]
 have V:((encO o).length:Int)=((encP o.aM).length:Int)+((encI (o.label+1)).length:Int)+((encI o.cost).length:Int)+((encI (o.lower.length:Int)).length:Int)+((o.lower.flatMap encL).length:Int):=by unfold encO;simp only[cA];omega
 have K:=H;rw[hb]at K;have hp:=AF k.p;generalize encO o++r=b at hb L H;have O:xZ ({bV.zero with all:=b})=some (o.aM,⟨b,((encP o.aM).length:Int),0⟩):=by unfold xZ;show gd (0<=(0:Int)/\(0:Int)<=(b.length:Int)/\(b.length:Int)<=(b.length:Int)) ((uK (b.drop (0:Int).toNat)).bind _)=_;rw[gdp om,Int.toNat_zero,fT,hb,O9 k.p K,eF];simp only;rw[show(bV.zero.at_:Int)=0 from rfl,mB om om,lU]
 have e:=dZ List.length hb;rw[cA]at e;obtain⟨U,Y,B⟩:=It (b:=b) (lim:=1073741824) (over:=16) (x:=o.label+1) (a:=((encP o.aM).length:Int)) (by have:=k.l;unfold okI;omega) (by have:=k.l;omega) Om om om L (by rw[lF,hb,fE]) K.right;obtain⟨F,M,Z⟩:=It (lim:=1073741824) (over:=16) k.c k.c.2 Om om Y L B K.right.right;obtain⟨e3,i3,d3⟩:=It (lim:=8) (over:=4) (x:=(o.lower.length:Int)) (by have:=k.n;unfold okI;omega) (by have:=k.n;omega) Om om M L Z K.right.right.right;unfold yB;rw[O,eF];simp only;rw[U,eF];simp only;rw[F,eF];simp only;rw[e3,eF];simp only;rw[Xr L o.lower r _ _ k.e (by have:=k.n;simp;omega) om i3 d3 K.right.right.right.right,eF];simp only[jm];rw[show IntKind.i64.wrap (o.label+1-1)=o.label by rw[mB (by have:=k.l;omega) (by have:=k.l;omega)];omega];unfold d8;rw[cB (by simp),LU,eF,show(⟨⟨o.aM.site,o.aM.inc,o.aM.num⟩,o.label,o.cost,o.lower⟩:aP)=o from rfl,ho,bX (by simp)];unfold D7;rw[bX (by simp)];simp only;rw[V]
end Ab
end Go.Proofs.YtfmnjkfhahfhgaaGreatDoor
