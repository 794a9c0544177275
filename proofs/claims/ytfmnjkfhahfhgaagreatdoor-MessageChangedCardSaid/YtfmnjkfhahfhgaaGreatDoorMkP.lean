import Derived.Test.YtfmnjkfhahfhgaaGreatDoorHmsE
namespace Go.Proofs.YtfmnjkfhahfhgaaGreatDoor
namespace Ab
set_option linter.all false
def oA(k:Int):List UInt8:=(nF k).toList
def zT:List Nat:=[80,71,65,89,68,83,73,82,69,76,87,79]
def cpF(m:aL)(c:Nat)(w:aL):aL:=match c with
 |80=>{w with aM:=m.aM}
 |71=>{w with gen:=m.gen}
 |65=>{w with aZ:=m.aZ}
 |89=>{w with bE:=m.bE}
 |68=>{w with done:=m.done}
 |83=>{w with site:=m.site}
 |73=>{w with inc:=m.inc}
 |82=>{w with round:=m.round}
 |69=>{w with epoch:=m.epoch}
 |76=>{w with label:=m.label}
 |87=>{w with state:=m.state}
 |79=>{w with options:=m.options}
 |_=>w
def MR(k:Int):oA k=if k=1 then[80,71,65,89]else if k=2\/k=4 then[80,71,65]else if k=3 then[80,71,65,68]else if k=5 then[83,73]else if k=6\/k=8 then[82]else if k=7 then[82,87,79]else if k=9 then[82,87]
  else if k=10 then[82,69,80,71,76]else if k=11 then[82,80,68]else if k=12 then[69,83]else if k=13\/k=14\/k=15 then[69]else[]:=by
 unfold oA;rw[lM];unfold nF Hi Hh Et
 by_cases M:k=1
 .simp[M]
 by_cases K:k=2
 .simp[K]
 by_cases L:k=3
 .simp[L]
 by_cases V:k=4
 .simp[V]
 by_cases Z:k=5
 .simp[Z]
 by_cases c6:k=6
 .simp[c6]
 by_cases c7:k=7
 .simp[c7]
 by_cases c8:k=8
 .simp[c8]
 by_cases c9:k=9
 .simp[c9]
 by_cases H:k=10
 .simp[H]
 by_cases O:k=11
 .simp[O]
 by_cases U:k=12
 .simp[U]
 by_cases Y:k=13
 .simp[Y]
 by_cases B:k=14
 .simp[B]
 by_cases F:k=15
 .simp[F]
 simp[M,K,L,V,Z,c6,c7,c8,c9,H,O,U,Y,B,F]
def okR(l:List UInt8):Prop:=l.length<=5/\∀b∈l,b.toNat∈zT
instance(l:List UInt8):Decidable (okR l):=by unfold okR;infer_instance
def xX(c:Prop)[Decidable c]{a b:List UInt8}(H:okR a)(hb:okR b):okR (if c then a else b):=by split<;>assumption
def MT(k:Int):(oA k).length<=5/\∀b∈oA k,b.toNat∈zT:=by show okR (oA k);rw[MR];exact xX _ Om (xX _ Om (xX _ Om (xX _ Om (xX _ Om (xX _ Om (xX _ Om (xX _ Om (xX _ Om (xX _ Om (xX _ Om Om))))))))))
def QM(k:Int):(nF k).size=(oA k).length:=by unfold oA;rw[wK]
def QN(k:Int){i:Nat}(hi:i<(oA k).length):(((nF k).toList.map λ b=>(b.toNat:Int)).getD i 0)=((((oA k).getD i 0).toNat:Nat):Int):=by rw[Au _ _ _ (by rw[dK];exact hi),kA,Au _ _ _ hi];rfl
def XR(m:aL):∀(l:List UInt8) (i:Nat) (w:aL),walk (λ _ b w=>some (Sum.inl (β:=aL) (cpF m (b:UInt8).toNat w))) (λ w=>w) l i w=some (l.foldl (λ w b=>cpF m b.toNat w) w)
 |[],i,w=>rfl
 |b::l,i,w=>by simp only[walk,List.foldl_cons];exact XR m l (i+1) _
def cQp(m:aL):Co m=some ((oA m.kind).foldl (λ w b=>cpF m b.toNat w) {aL.zero with kind:=m.kind}):=by
 unfold Co;obtain⟨Y,U⟩:=MT m.kind;have K:(((nF m.kind).toList.map λ b=>(b.toNat:Int)).length:Int)=((oA m.kind).length:Int):=by rw[dK];rfl
 have H:=xL (body:=Hw m) (oA m.kind) 0 (λ i (w:aL)=>((i:Int),w)) (λ _ b w=>some (.inl (cpF m b.toNat w))) (λ w=>w)
  (λ i w L=>by
   unfold Hw;rw[K];have O:0<=(i:Int)/\(i:Int)<((oA m.kind).length:Int):=om
   simp only[O.1,O.2,cW,mR,cG,cH,Qm,QN m.kind L,mK i (show i<4611686018427387904 by omega)];have hm:=U _ (mX (z:=0) L);generalize((oA m.kind).getD i 0).toNat=c at hm;unfold zT at hm;simp only[cK,eP,gT]at hm;rcases hm with rfl|rfl|rfl|rfl|rfl|rfl|rfl|rfl|rfl|rfl|rfl|rfl<;>rfl)
  (λ w=>by unfold Hw;rw[K,bX (by simp)]) {aL.zero with kind:=m.kind}
 rw[mL (by rw[QM];omega),show((0,{aL.zero with kind:=m.kind}):Int×aL)=(λ(i:Nat) (w:aL)=>((i:Int),w)) 0 {aL.zero with kind:=m.kind}from rfl,H,XR];rfl
def vK(m:aL)(c:Nat):Bool:=match c with
 |80=>mV m.aM
 |71=>inN 0 1073741824 m.gen
 |82=>inN 0 1073741824 m.round
 |69=>inN 0 1073741824 m.epoch
 |65=>oH m.aZ.name&&(((decide (m.aZ.aI=aC.zero)&&!decide (m.kind=1))&&!decide (m.kind=4))||oU m.aZ.aI)
 |89=>inN 0 7 m.bE
 |83=>decide (0<=m.site)&&decide (m.site<4)
 |73=>inN 1 99 m.inc
 |76=>decide (m.label=-1)||(decide (1<=m.label)&&decide (m.label<=99))
 |87=>(nX m.state&&(!decide (m.kind=7)||decide (((m.state.aF.length:Nat):Int)=0)))&&(!decide (m.kind=9)||decide (((m.state.aY.length:Nat):Int)=0))
 |79=>decide (m.options.length<=40)&&m.options.all optV
 |_=>true
def cQr(m:aL)(c:Nat)(H:c∈zT):zF m (c:Int)=some (vK m c):=by
 unfold zT at H;simp only[cK,eP,gT]at H;rcases H with rfl|rfl|rfl|rfl|rfl|rfl|rfl|rfl|rfl|rfl|rfl|rfl
 .unfold zF;rw[cA Om,xM];rfl
 .rfl
 .unfold zF;rw[bX Om,bX Om,cA Om,F7,eF,XO];rfl
 .rfl
 .rfl
 .rfl
 .rfl
 .rfl
 .rfl
 .rfl
 .unfold zF;rw[bX Om,bX Om,bX Om,bX Om,bX Om,bX Om,bX Om,bX Om,bX Om,cA Om,Je,eF];rfl
 .unfold zF;rw[bX Om,bX Om,bX Om,bX Om,bX Om,bX Om,bX Om,bX Om,bX Om,bX Om,cA Om];show _=some (decide (m.options.length<=40)&&m.options.all optV)
  by_cases h:m.options.length<=40
  .rw[bX (by simp;omega),xV m.options.length (λ i=>optV (m.options.getD i aP.zero)) (λ i K=>by
    unfold LH;have O:0<=(i:Int)/\(i:Int)<(m.options.length:Int):=om
    simp only[O.1,O.2,cW,mR,cG,cH,lL];rw[QG,eF,mH om om];cases optV (m.options.getD i aP.zero)<;>rfl) (by unfold LH;simp),eF,QH m.options aP.zero optV,cP h]
   cases m.options.all optV<;>rfl
  .rw[cA (by simp;omega),fM h];rfl
def encR(m:aL)(c:Nat):List Int:=match c with
 |80=>encP m.aM
 |71=>encI m.gen
 |82=>encI m.round
 |69=>encI m.epoch
 |89=>encI m.bE
 |83=>encI m.site
 |73=>encI m.inc
 |76=>encI (m.label+1)
 |65=>encT m.aZ.name++(encI m.aZ.aI.mode++encI m.aZ.aI.aU)
 |68=>[if m.done=true then 1 else 0]
 |87=>encI ((encS m.state).length:Int)++encS m.state
 |79=>encI (m.options.length:Int)++m.options.flatMap encO
 |_=>[]
def XS{m:aL}(h:vK m 65=true):m.aZ.name.size<=12/\okA m.aZ.aI:=by
 have H:(oH m.aZ.name&&(((decide (m.aZ.aI=aC.zero)&&!decide (m.kind=1))&&!decide (m.kind=4))||oU m.aZ.aI))=true:=h;rw[bY,dU]at H;refine⟨xU H.1,?_⟩;rcases H.2 with k|k
 .rw[bY,bY,cB]at k;rw[k.1.1];unfold okA okI aC.zero;simp
 .exact zR k
def cQt{m:aL}{c:Nat}(Y:c∈zT)(H:vK m c=true):(encR m c).length<=1000000:=by
 have O:∀{lo hi x:Int},inN lo hi x=true->0<=lo->hi<=1073741824->(encI x).length<=1000000:=λ h M U=>by have:=oD (uG h M U);omega
 unfold zT at Y;simp only[cK,eP,gT]at Y;rcases Y with rfl|rfl|rfl|rfl|rfl|rfl|rfl|rfl|rfl|rfl|rfl|rfl
 .have:=BF (p:=m.aM) H;show(encP m.aM).length<=_;omega
 .exact O (lo:=0) (hi:=1073741824) H Om Om
 .have⟨L,B⟩:=XS H;have U:=Jk (s:=m.aZ.name) om;have F:=oD B.1;have V:=oD B.2;show(encT m.aZ.name++(encI m.aZ.aI.mode++encI m.aZ.aI.aU)).length<=_;simp only[cC];omega
 .exact O (lo:=0) (hi:=7) H Om Om
 .show([if m.done=true then 1 else 0]:List Int).length<=_;simp
 .have h:(decide (0<=m.site)&&decide (m.site<4))=true:=H;simp only[bY,cB]at h;have:=oD (x:=m.site) (by unfold okI;omega);show(encI m.site).length<=_;omega
 .exact O (lo:=1) (hi:=99) H Om Om
 .exact O (lo:=0) (hi:=1073741824) H Om Om
 .exact O (lo:=0) (hi:=1073741824) H Om Om
 .have h:(decide (m.label=-1)||(decide (1<=m.label)&&decide (m.label<=99)))=true:=H;simp only[dU,bY,cB]at h;have:=oD (x:=m.label+1) (by unfold okI;omega);show(encI (m.label+1)).length<=_;omega
 .have h:((nX m.state&&(!decide (m.kind=7)||decide (((m.state.aF.length:Nat):Int)=0)))&&(!decide (m.kind=9)||decide (((m.state.aY.length:Nat):Int)=0)))=true:=H;rw[bY,bY]at h;have U:=Dw (BE h.1.1).1;have F:=oD (x:=((encS m.state).length:Int)) (by unfold okI;omega);show(encI ((encS m.state).length:Int)++encS m.state).length<=_;simp only[cC];omega
 .have h:(decide (m.options.length<=40)&&m.options.all optV)=true:=H;rw[bY,cB,dT]at h;have U:(m.options.flatMap encO).length<=20000*m.options.length:=wL λ x K=>QJ (Gz (h.2 x K));have F:=oD (x:=(m.options.length:Int)) (by have:=h.1;unfold okI;omega);show(encI (m.options.length:Int)++m.options.flatMap encO).length<=_;have:=h.1;simp only[cC];omega
def cQu(m:aL)(i:Nat)(acc:List Int)(hi:i<(oA m.kind).length)(Y:((oA m.kind).getD i 0).toNat∈zT)(U:vK m ((oA m.kind).getD i 0).toNat=true)(O:room acc (encR m ((oA m.kind).getD i 0).toNat)):
  Bo m ((i:Int),acc)=some (.inl (((i+1:Nat):Int),acc++encR m ((oA m.kind).getD i 0).toNat)):=by
 obtain⟨h5,_⟩:=MT m.kind;have K:(((nF m.kind).toList.map λ b=>(b.toNat:Int)).length:Int)=((oA m.kind).length:Int):=by rw[dK];rfl
 unfold Bo;rw[K];have B:0<=(i:Int)/\(i:Int)<((oA m.kind).length:Int):=om
 simp only[B.1,B.2,cW,mR,cG,cH,Qm,QN m.kind hi,mK i (show i<4611686018427387904 by omega)];generalize((oA m.kind).getD i 0).toNat=c at Y U O;unfold zT at Y;simp only[cK,eP,gT]at Y;rcases Y with rfl|rfl|rfl|rfl|rfl|rfl|rfl|rfl|rfl|rfl|rfl|rfl
 .rw[cA Om,(MO (p:=m.aM) U O).2];rfl
 .rw[bX Om,cA Om,(oY (x:=m.gen) (uG (lo:=0) (hi:=1073741824) U Om Om) O).2];rfl
 .have⟨k1,F⟩:=XS U;have H:room acc (encT m.aZ.name++(encI m.aZ.aI.mode++encI m.aZ.aI.aU)):=O;rw[bX Om,bX Om,cA Om,(MN om H.left).2,eF,(oY F.1 H.right.left).2,eF,(oY F.2 H.right.right).2,eF];simp only[cE];rfl
 .rw[bX Om,bX Om,bX Om,cA Om,(oY (x:=m.bE) (uG (lo:=0) (hi:=7) U Om Om) O).2];rfl
 .rw[bX Om,bX Om,bX Om,bX Om,cA Om];have L:acc.length+1<=4294967296:=by unfold room at O;omega
  show _=some (Sum.inl (_,acc++[if m.done=true then 1 else 0]));cases m.done with
  |true=>rw[cA rfl,gdp L];rfl
  |false=>rw[bX Om,gdp L];rfl
 .have h:(decide (0<=m.site)&&decide (m.site<4))=true:=U;simp only[bY,cB]at h;rw[bX Om,bX Om,bX Om,bX Om,bX Om,cA Om,(oY (x:=m.site) (by unfold okI;omega) O).2];rfl
 .rw[bX Om,bX Om,bX Om,bX Om,bX Om,bX Om,cA Om,(oY (x:=m.inc) (uG (lo:=1) (hi:=99) U Om Om) O).2];rfl
 .rw[bX Om,bX Om,bX Om,bX Om,bX Om,bX Om,bX Om,cA Om,(oY (x:=m.round) (uG (lo:=0) (hi:=1073741824) U Om Om) O).2];rfl
 .rw[bX Om,bX Om,bX Om,bX Om,bX Om,bX Om,bX Om,bX Om,cA Om,(oY (x:=m.epoch) (uG (lo:=0) (hi:=1073741824) U Om Om) O).2];rfl
 .have h:(decide (m.label=-1)||(decide (1<=m.label)&&decide (m.label<=99)))=true:=U;simp only[dU,bY,cB]at h;rw[bX Om,bX Om,bX Om,bX Om,bX Om,bX Om,bX Om,bX Om,bX Om,cA Om,mH (x:=m.label+1) om om,(oY (x:=m.label+1) (by unfold okI;omega) O).2];rfl
 .have h:((nX m.state&&(!decide (m.kind=7)||decide (((m.state.aF.length:Nat):Int)=0)))&&(!decide (m.kind=9)||decide (((m.state.aY.length:Nat):Int)=0)))=true:=U;rw[bY,bY]at h;have h1:=Dw (BE h.1.1).1;have H:room acc (encI ((encS m.state).length:Int)++encS m.state):=O;rw[bX Om,bX Om,bX Om,bX Om,bX Om,bX Om,bX Om,bX Om,bX Om,bX Om,cA Om,cJs,h.1.1,cA rfl,eF,(oY (by unfold okI;omega) H.left).2,eF];have:=H.right;unfold room at this;rw[gdp (by simp only;omega),cE];rfl
 .have h:(decide (m.options.length<=40)&&m.options.all optV)=true:=U;rw[bY,cB,dT]at h;have H:room acc (encI (m.options.length:Int)++m.options.flatMap encO):=O;have M:=h.1;rw[bX Om,bX Om,bX Om,bX Om,bX Om,bX Om,bX Om,bX Om,bX Om,bX Om,bX Om,cA Om,(oY (by unfold okI;omega) H.left).2,eF];rw[Gy (body:=ID m) (enc:=encO) (ok:=λ a=>optV a=true) m.options aP.zero om (λ i acc hi V Z=>by
   unfold ID;simp only;rw[cA (by simpa using hi),gdp om];simp only[lL];rw[(XQ V Z).2,eF,mK i om]) (λ acc=>by unfold ID;simp) h.2 _ H.right,eF]
  unfold O2;simp only[mK i (show i<4611686018427387904 by omega),cE];rfl
def QO(m:aL):List Int:=encI m.kind++(oA m.kind).flatMap λ b=>encR m b.toNat
def cQw{m:aL}(B:1<=m.kind/\m.kind<=15)(h:∀b∈oA m.kind,vK m b.toNat=true):Dd m=some (QO m):=by
 obtain⟨F,U⟩:=MT m.kind;have M:=oD (x:=m.kind) (by unfold okI;omega);have e2:((oA m.kind).flatMap λ b=>encR m b.toNat).length<=1000000*(oA m.kind).length:=wL λ b hb=>cQt (U b hb) (h b hb);have Y:room (encI m.kind) ((oA m.kind).flatMap λ b=>encR m b.toNat):=by unfold room;omega
 have O:room [] (encI m.kind):=by unfold room at*;simp;omega
 have K:(((nF m.kind).toList.map λ b=>(b.toNat:Int)).length:Int)=((oA m.kind).length:Int):=by rw[dK];rfl
 unfold Dd;rw[(oY (by unfold okI;omega) O).2,eF,mL (by rw[QM];omega),lP];rw[Gy (body:=Bo m) (enc:=λ b:UInt8=>encR m b.toNat) (ok:=λ b=>b.toNat∈zT/\vK m b.toNat=true) (oA m.kind) 0 om (λ i H V L Z=>cQu m i H V L.1 L.2 Z)
  (λ H=>by unfold Bo;rw[K,bX (by simp)]) (λ b hb=>⟨U b hb,h b hb⟩) _ Y]
 rfl
mutual
def widE:aR->Bool
 |⟨_,_,ks⟩=>decide (ks.length<=1000000)&&widL ks
def widL:List aR->Bool
 |[]=>true
 |k::l=>widE k&&widL l
end
def QP(e:aR):widE e=(decide (e.bG.length<=1000000)&&widL e.bG):=by cases e;rw[widE]
def QQ:∀{l:List aR} {k:aR},widL l=true->k∈l->widE k=true
 |x::l,k,h,hk=>by
  simp only[widL,bY]at h;rcases cK.1 hk with rfl|hk
  .exact h.1
  .exact QQ h.2 hk
def cQz{e k:aR}(h:k∈e.bG):_root_.SizeOf.sizeOf k<_root_.SizeOf.sizeOf e:=by cases e;have:=jU h;simp only at h this⊢;simp only[aR.mk.sizeOf_spec];omega
def XT:∀(n:Nat) (e:aR),_root_.SizeOf.sizeOf e<n->widE e=true->Ep n e e=some true
 |0,e,h,_=>om
 |n+1,e,h,K=>by
  show AC (Ep n) e e=some true;unfold AC;rw[QP,bY,cB]at K;rw[bX (by simp),xV e.bG.length (λ _=>true) (λ i L=>by
   unfold Hc;have H:0<=(i:Int)/\(i:Int)<(e.bG.length:Int):=om
   simp only[H.1,H.2,cW,mR,cG,cH,lL];have hm:=mX (z:=aR.zero) L;rw[XT n _ (by have:=cQz hm;omega) (QQ K.2 hm),eF,mH om om];rfl) (by unfold Hc;simp)]
  simp[Oe]
def cR1(s:aH)(O:s.aF.length<=1000000)(U:Lens s.aF)(Y:s.aY.length<=1000000)(K:∀n∈s.aY,widE n.bU=true):xC s s=some true:=by
 unfold xC;rw[Wx _ _ O (λ q h=>U q h),eF,bX (by simp),xV s.aY.length (λ _=>true) (λ i L=>by
  unfold HO Hx B9;have H:0<=(i:Int)/\(i:Int)<(s.aY.length:Int):=om
  simp only[H.1,H.2,cW,mR,cG,cH,lL,gF];rw[XT _ _ (eQ _) (K _ (mX L)),eF,eF,mH om om];rfl) (by unfold HO;simp)]
 simp[Ld]
def cR2(s:aH)(H:s.aF.length<=1000000)(O:Lens s.aF):xC s aH.zero=some (DG s):=by
 unfold xC DG;rw[Wx _ _ H (λ q h=>O q h),eF]
 by_cases c:s.aF=[]
 .by_cases d:s.aY=[]
  .rw[bX (by simp[c,d,aH.zero]),xV 0 (λ _=>true) (λ i K=>om) (by unfold HO;simp[d])];simp[Ld,c,d]
  .rw[cA (by simp[c,d,aH.zero])];simp[c,d]
 .rw[cA (by simp[c,aH.zero])];simp[c]
def cR3(m:aL)(Y:1<=m.kind/\m.kind<=15){b:Bool}(B:CU m ((oA m.kind).foldl (λ w b=>cpF m b.toNat w) {aL.zero with kind:=m.kind})=some b):
  w7 m=some (b&&(((oA m.kind).all λ c=>vK m c.toNat)&&decide (((QO m).length:Int)<=4064))):=by
 obtain⟨Z,F⟩:=MT m.kind;have H:((nF m.kind).toList==(⟨#[]⟩:ByteArray).toList)=false:=by
  have M:(⟨#[]⟩:ByteArray).toList=[]:=by rw[lM]
  rw[M];show(oA m.kind==[])=false;rw[beq_eq_false_iff_ne,MR];have:m.kind=1\/m.kind=2\/m.kind=3\/m.kind=4\/m.kind=5\/m.kind=6\/m.kind=7\/m.kind=8\/m.kind=9\/m.kind=10\/m.kind=11\/m.kind=12\/m.kind=13\/m.kind=14\/m.kind=15:=om
  rcases this with h|h|h|h|h|h|h|h|h|h|h|h|h|h|h<;>rw[h]<;>decide
 have K:(((nF m.kind).toList.map λ b=>(b.toNat:Int)).length:Int)=((oA m.kind).length:Int):=by rw[dK];rfl
 unfold w7;simp only[H,dO,cH,cQp,qm,B,dP];cases b with
 |false=>rfl
 |true=>
  rw[bX Om,mL (by rw[QM];omega),xV (oA m.kind).length (λ i=>vK m ((oA m.kind).getD i 0).toNat) (λ i L=>by
   unfold LO;rw[K];have U:0<=(i:Int)/\(i:Int)<((oA m.kind).length:Int):=om
   simp only[U.1,U.2,cW,mR,cG,cH,lL,QN m.kind L];rw[cQr m _ (F _ (mX (z:=0) L)),eF,mH om om];cases vK m ((oA m.kind).getD i 0).toNat<;>rfl) (by unfold LO;rw[K];simp),eF,QH (oA m.kind) 0 (λ c=>vK m c.toNat)]
  cases V:(oA m.kind).all λ c=>vK m c.toNat with
  |false=>rfl
  |true=>simp only[cH,O3,cL];rw[cQw Y (λ c O=>dT.1 V c O),eF]
def cR4:uU [] []=some true:=by unfold uU;rw[bX (by simp),xV 0 (λ _=>true) (λ i H=>om) (by unfold HE;simp)];simp[K0]
def scal(m w:aL):Bool:=((((((((((decide (m.kind=w.kind))&&(decide (m.aM=w.aM)))&&(decide (m.gen=w.gen)))&&(decide (m.aZ=w.aZ)))&&(decide (m.bE=w.bE)))&&(decide (m.inc=w.inc)))&&(decide (m.round=w.round)))&&(decide (m.epoch=w.epoch)))&&(decide (m.site=w.site)))&&(decide (m.label=w.label)))&&(decide (m.done=w.done))
def cR5(a:List aO)(K:a.length<=9223372036854775807):yL a a=some true:=by
 unfold yL;rw[bX (by simp),xV a.length (λ _=>true) (λ i L=>by
  unfold Kg;have H:0<=(i:Int)/\(i:Int)<(a.length:Int):=om
  simp only[H.1,H.2,cW,mR,cG,cH,lL];rw[mH om om];rfl) (by unfold Kg;simp)]
 simp[N9]
def cR6(l:List aP)(L:l.length<=1000000)(h:∀o∈l,o.lower.length<=9223372036854775807):uU l l=some true:=by
 unfold uU;rw[bX (by simp),xV l.length (λ _=>true) (λ i K=>by
  unfold HE Hv;have H:0<=(i:Int)/\(i:Int)<(l.length:Int):=om
  simp only[H.1,H.2,cW,mR,cG,cH,lL,gF];rw[cR5 _ (h _ (mX K)),eF,eF,mH om om];rfl) (by unfold HE;simp)]
 simp[K0]
def cR7(l:List aP):uU l []=some (decide (l=[])):=by
 cases l with
 |nil=>exact cR4
 |cons a l=>unfold uU;rw[cA (by simp;omega),fM (by simp)]
def cR8(m w:aL)(v1 v2:Bool)(H:xC m.state w.state=some v1)(O:uU m.options w.options=some v2):CU m w=some (scal m w&&(v1&&v2)):=by unfold CU;rw[H,O];show((if scal m w=true then some v1 else some false).bind λ v1=>(if(scal m w&&v1)=true then some v2 else some false).bind λ v2=>some ((scal m w&&v1)&&v2))=_;cases scal m w<;>cases v1<;>cases v2<;>rfl
structure FitM (m:aL):Prop where
 q:m.state.aF.length<=1000000
 s:Lens m.state.aF
 n:m.state.aY.length<=1000000
 w:∀n∈m.state.aY,widE n.bU=true
 o:m.options.length<=1000000
 l:∀o∈m.options,o.lower.length<=9223372036854775807
def XU(l:List ByteArray)(nm:ByteArray)(U:l.length<=1000):∃r,AL l nm=some r/\r.length<=l.length+1:=by
 unfold AL;obtain⟨x,e,L⟩:=nZ (body:=KM l nm) (λ g=>∃k:Nat,g=k/\k<=l.length) (λ g=>l.length-g.toNat) (λ x=>∃k:Nat,x=k/\k<=l.length) (λ g ⟨k,H,K⟩=>by
  subst H;unfold KM
  by_cases c:k<l.length
  .have O:0<=(k:Int)/\(k:Int)<(l.length:Int):=om
   rw[gdp (λ _=>O)];split
   .left;rw[mK k om];exact⟨_,rfl,⟨k+1,rfl,c⟩,by simp only[Qm];omega⟩
   .right;exact⟨_,rfl,k,rfl,K⟩
  .right;rw[gdp (by simp<;>omega),bX (by simp<;>omega)];exact⟨_,rfl,k,rfl,K⟩) 0 ⟨0,rfl,by omega⟩
 obtain⟨k,rfl,H⟩:=L;rw[e,eF];unfold Ol;rw[gdp (by simp<;>omega)];split
 .exact⟨_,rfl,by omega⟩
 .simp only[Qm];rw[gdp om,gdp (by rw[dD];omega),gdp (by rw[dD];omega),gdp om,gdp (by rw[dD,dS];omega)];exact⟨_,rfl,by simp only[cC,dD,dS,Km];omega⟩
def XV{S X:Type}{body:S×Int->Option ((S×Int)⊕X)}(n:Nat)(H:Nat->S->Prop)(Post:X->Prop)
  (h:∀(i:Nat) s,i<n->H i s->∃O,body (s,(i:Int))=some (.inl (O,((i+1:Nat):Int)))/\H (i+1) O)
  (Y:∀s,H n s->∃x,body (s,(n:Int))=some (.inr x)/\Post x) (s0:S) (B:H 0 s0):∃x,mF body (s0,0)=some x/\Post x:=
 nZ (body:=body) (λ g=>∃k:Nat,g.2=(k:Int)/\k<=n/\H k g.1) (λ g=>n-g.2.toNat) Post
  (λ g ⟨k,L,V,K⟩=>by
   obtain⟨s,F⟩:=g;simp only at L K;subst L
   by_cases c:k<n
   .obtain⟨O,e,U⟩:=h k s c K;exact .inl ⟨_,e,⟨k+1,rfl,c,U⟩,by simp only[Qm];omega⟩
   .have:k=n:=om
    subst this;obtain⟨x,e,Z⟩:=Y s K;exact .inr ⟨x,e,Z⟩) (s0,0) ⟨0,rfl,by omega,B⟩
def XW(x:aG)(l:bB)(label:Int)(hx:x.bH.aQ.length<=72)(hl:l.aQ.length<=x.bH.aQ.length):∃o,xJ x l label=some o/\o.lower.length<=100:=by
 unfold xJ;rw[gdp om];have M:∀H:List ByteArray,H.length<=100->∃o,FI x l label H=some o/\o.lower.length<=100:=λ H U=>by
  unfold FI;obtain⟨o,e,K⟩:=Gw (body:=Ir l H) H.length (λ i o=>o.lower.length<=i) (λ o=>o.lower.length<=100) (λ i o V h0=>by
   left;unfold Ir;have O:0<=(i:Int)/\(i:Int)<(H.length:Int):=om
   simp only[O.1,O.2,cW,mR,cG,cH,Qm,mK i (show i<4611686018427387904 by omega),BI l.aQ (H.getD i ⟨#[]⟩) om,qm];rw[gdp om];exact⟨_,rfl,by simp only[cC,Km];omega⟩) (λ o K=>by
   unfold Ir;simp only[iP,cO,bZ,cI];exact⟨_,rfl,by omega⟩) (⟨⟨x.aM.site,x.aM.inc,x.aM.num⟩,label,IntKind.i64.wrap (x.cost*(IntKind.i64.wrap ((IntKind.i64.wrap ((x.bH.aQ.length:Int)-(l.aQ.length:Int)))+1))),[]⟩:aP) (by simp)
  rw[e];exact⟨_,rfl,K⟩
 have hd:(x.bH.aQ.drop ((l.aQ.length:Int).toNat)).length<=72:=by rw[dS];omega
 obtain⟨H,e,U⟩:=XV (body:=It x l) (x.bH.aQ.drop ((l.aQ.length:Int).toNat)).length (λ i s=>s.length<=i) (λ s=>s.length<=72) (λ i s V Y=>by
  unfold It;have O:0<=(i:Int)/\(i:Int)<((x.bH.aQ.drop ((l.aQ.length:Int).toNat)).length:Int):=om
  obtain⟨r,B,Z⟩:=XU s ((x.bH.aQ.drop ((l.aQ.length:Int).toNat)).getD i bO.zero).name om;simp only[O.1,O.2,cW,mR,cG,cH];rw[lL i,B,eF,mK i om];exact⟨_,rfl,by omega⟩) (λ s Y=>by
  unfold It;simp only[iP,cO,bZ,cI];exact⟨_,rfl,by omega⟩) [] (by simp)
 rw[e,eF];unfold FJ;rcases hb x.bJ with w|w
 .obtain⟨L,a1,a2,_⟩:=DD x.bK.bU;rw[cA w,a1,eF];obtain⟨ms,e3,F⟩:=XV (body:=Is L) L.length (λ i s=>s.length<=72+i) (λ s=>s.length<=100) (λ i s V Y=>by
   unfold Is;have O:0<=(i:Int)/\(i:Int)<(L.length:Int):=om
   obtain⟨r,B,Z⟩:=XU s (L.getD i aO.zero).name om;simp only[O.1,O.2,cW,mR,cG,cH,Qm,B,qm,mK i (show i<4611686018427387904 by omega)];exact⟨_,rfl,by omega⟩) (λ s Y=>by
   unfold Is;simp only[iP,cO,bZ,cI];exact⟨_,rfl,by omega⟩) H om
  rw[e3,eF];exact M ms F
 .rw[bX (by rw[w];decide)];exact M H om
def LowL(l:List aP):Prop:=∀o∈l,o.lower.length<=100
def LowL.snoc{l:List aP}(h:LowL l){o:aP}(ho:o.lower.length<=100):LowL (l++[o]):=λ x hx=>by
 rcases cX.1 hx with hx|hx
 .exact h x hx
 .rw[dQ.1 hx];exact ho
def cRc(x:aG):∃l,Da x=some l/\l.length<=100/\LowL l:=by
 have nil:LowL []:=λ o M=>nomatch M;unfold Da;obtain⟨b,v1,v2⟩:=DC x.bH;obtain⟨Z,v3⟩:∃b,wB x.bK=some b:=by unfold wB;rw[Jd,eF];exact⟨_,rfl⟩
 rw[v1,v3];generalize(((!(pJ x.aM))||(decide (x.cost<1)))||(decide (1000<x.cost)))=p;cases p with
 |true=>exact⟨_,rfl,by simp,nil⟩
 |false=>
 cases b with
 |false=>exact⟨[],by simp,by simp,nil⟩
 |true=>
 have O:=v2 rfl;have H:=O.le;have h4:=O.ls;have go:∃l,(mF (Iu x) ((IntKind.i64.wrap ((x.bH.bI.length:Int)-1)),[])).bind (λ|.inl z=>FK x z|.inr z=>some z)=some l/\l.length<=100/\LowL l:=by
  obtain⟨y,e,K⟩:=nZ (body:=Iu x) (λ g=>-1<=g.1/\g.1<(x.bH.bI.length:Int)/\(g.2.length:Int)+g.1<=4/\LowL g.2) (λ g=>(g.1+1).toNat) (λ y=>match y with|.inl z=>z.length<=10/\LowL z|.inr z=>z=[]) (λ g ⟨h0,L,h2,V⟩=>by
   obtain⟨i,l⟩:=g;simp only at h0 L h2 V;unfold Iu
   by_cases c:0<=i
   .simp only[c,cG,cH];obtain⟨r,u1,u2,u3,u4⟩:=XB O (x.bH.bI.getD i.toNat bV.zero).label;rw[gdp ⟨trivial,L⟩,u1,eF]
    by_cases F:r.2.2=0
    .left;obtain⟨o,U,Y⟩:=XW x r.1 (x.bH.bI.getD i.toNat bV.zero).label H u4;rw[bX (by simp[F]),gdp ⟨trivial,L⟩,U,eF,gdp om,mH om om];exact⟨_,rfl,⟨by simp only;omega,by simp only;omega,by simp only[cC,Km];omega,V.snoc Y⟩,by simp only;omega⟩
    .right;rw[cA (by simp[F])];exact⟨_,rfl,rfl⟩
   .right;simp only[c,cO,bZ,cI];exact⟨_,rfl,by omega,V⟩) (IntKind.i64.wrap ((x.bH.bI.length:Int)-1),[]) ⟨by simp only;rw[mH om om];omega,by simp only;rw[mH om om];omega,by simp only[Ym];rw[mH om om];omega,nil⟩
  rw[e,eF];rcases y with z|z
  .have K:z.length<=10/\LowL z:=K;show∃l,FK x z=some l/\_;unfold FK;obtain⟨o,U,Y⟩:=XW x bB.zero (-1) H (fS _);show∃l,(xJ x bB.zero (-1)).bind _=some l/\_;rw[U,eF,gdp om];obtain⟨y,e2,B⟩:=nZ (body:=LG z o) (λ g=>∃k:Nat,g=k/\k<=z.length+1) (λ g=>z.length+1-g.toNat) (λ y=>y=.inl ()\/y=.inr []) (λ g ⟨k,hk,hkl⟩=>by
    subst hk;unfold LG
    by_cases c:k<z.length+1
    .rw[cA (by simp only[cB];omega),gdp (by rw[cC,lT];omega),QG,eF];split
     .right;exact⟨_,rfl,.inr rfl⟩
     .left;rw[mK k om];exact⟨_,rfl,⟨k+1,rfl,c⟩,by simp only[Qm];omega⟩
    .right;rw[bX (by simp only[cB];omega)];exact⟨_,rfl,.inl rfl⟩) 0 ⟨0,rfl,by omega⟩
   rw[e2,eF];rcases B with rfl|rfl
   .exact⟨_,rfl,by simp only[cC,Km];omega,K.2.snoc Y⟩
   .exact⟨_,rfl,by simp,nil⟩
  .have K:z=[]:=K;exact⟨_,rfl,by rw[K];simp,by rw[K];exact nil⟩
 cases hw:x.bJ<;>cases Z<;>simp[hw]<;>first|exact go|exact nil|exact⟨by simp,nil⟩
def DM(k:Int)(h:1<=k/\k<=15):mY k=if k=1 then[80,71,65,89]else if k=2 then[80,71,97]else if k=3 then[80,71,97,68]else if k=4 then[80,71,65]else if k=5 then[83,73]else if k=6\/k=8 then[82]else if k=7 then[82,78,79]else if k=9 then[82,76]else if k=10 then[82,69,80,71,66]else if k=11 then[82,80,68]else if k=12 then[69,83]else[69]:=by
 have g:∀i:Nat,i<16->1<=i->(Arr.get nL i ⟨#[]⟩).data.toList=if(i:Int)=1 then[80,71,65,89]else if(i:Int)=2 then[80,71,97]else if(i:Int)=3 then[80,71,97,68]else if(i:Int)=4 then[80,71,65]else if(i:Int)=5 then[83,73]else if(i:Int)=6\/(i:Int)=8 then[82]else if(i:Int)=7 then[82,78,79]else if(i:Int)=9 then[82,76]else if(i:Int)=10 then[82,69,80,71,66]else if(i:Int)=11 then[82,80,68]else if(i:Int)=12 then[69,83]else[69]:=by decide
 unfold mY;rw[lM];have:=g k.toNat om om;rwa [show((k.toNat:Nat):Int)=k by omega]at this
def QR{k:Int}(h:1<=k/\k<=15):k=1\/k=2\/k=3\/k=4\/k=5\/k=6\/k=7\/k=8\/k=9\/k=10\/k=11\/k=12\/k=13\/k=14\/k=15:=om
def cRf{m:aL}{H O:List UInt8}{v1 v2:Bool}(h:1<=m.kind/\m.kind<=15)(e:oA m.kind=H)(U:mY m.kind=O)
  (Y:xC m.state (H.foldl (λ w b=>cpF m b.toNat w) {aL.zero with kind:=m.kind}).state=some v1)
  (B:uU m.options (H.foldl (λ w b=>cpF m b.toNat w) {aL.zero with kind:=m.kind}).options=some v2)
  (g:(scal m (H.foldl (λ w b=>cpF m b.toNat w) {aL.zero with kind:=m.kind})&&(v1&&v2)&&((H.all λ c=>vK m c.toNat)&&decide (((encI m.kind++H.flatMap λ b=>encR m b.toNat).length:Int)<=4064)))
  =((O.all λ b=>qB m b.toNat)&&Gx (O.foldl (λ w b=>clrF b.toNat w) {m with kind:=0})&&decide (((encI m.kind++O.flatMap λ b=>encF m b.toNat).length:Int)<=4064))):w7 m=some (qC m):=by
 rw[cR3 m h (cR8 _ _ _ _ (by rw[e];exact Y) (by rw[e];exact B))];unfold qC tG encM QO;rw[e,U,g,cP h.1,cP h.2,cL,cL]
def cRg{m:aL}(hm:FitM m):w7 m=some (qC m):=by
 by_cases h:1<=m.kind/\m.kind<=15
 .have F:=cR2 m.state hm.q hm.s;have M:=cR1 m.state hm.q hm.s hm.n hm.w;have o0:=cR7 m.options;have o1:=cR6 m.options hm.o hm.l;have eR:=MR m.kind;have eL:=DM m.kind h;have K:DG aH.zero=true:=rfl;obtain⟨x0,aM,gen,aZ,bE,z0,O,U,y0,Y,done,B,H⟩:=m;simp only at h F M o0 o1 eR eL;rcases QR h with rfl|rfl|rfl|rfl|rfl|rfl|rfl|rfl|rfl|rfl|rfl|rfl|rfl|rfl|rfl
  all_goals
   refine cRf h (eR.trans rfl) (eL.trans rfl) (by first|exact F|exact M) (by first|exact o0|exact o1) ?_;rw[dM];simp only[bY,QE,Gx,scal,List.foldl_cons,List.foldl_nil,List.all_cons,List.all_nil,eE,lB,cB];simp[vK,qB,encR,encF,cpF,clrF,K,aL.zero,inN]
   grind
 .have e:oA m.kind=[]:=by
   rw[MR]
   repeat rw[bX om]
  have L:((nF m.kind).toList==(⟨#[]⟩:ByteArray).toList)=true:=by
   have V:(⟨#[]⟩:ByteArray).toList=[]:=by rw[lM]
   rw[V];show(oA m.kind==[])=true;rw[e];rfl
  have Z:qC m=false:=by
   have:(decide (1<=m.kind)&&decide (m.kind<=15))=false:=by rw[dI];intro k;simp at k;omega
   unfold qC tG;rw[this];rfl
  unfold w7;simp only[L,cQ,bZ,cI,qm,fV,cH,Z]
def XX:∀{l:List aR},(∀k∈l,widE k=true)->widL l=true
 |[],_=>by simp only[widL]
 |k::l,h=>by simp only[widL,bY];exact⟨h k (.head _),XX λ x H=>h x (.tail _ H)⟩
def XY:∀(n:Nat) (e:aR),_root_.SizeOf.sizeOf e<n->mW e<=1000000->widE e=true
 |0,e,h,_=>absurd h (lG _)
 |n+1,e,h,K=>by rw[QP];have O:=vG e;have U:=tO e.bG;rw[cP om,cL];exact XX λ k H=>XY n k (xS h H) (by have:=Ja H;omega)
def GC{m:aL}(H:m.state=aH.zero)(O:m.options=[]):FitM m:=
 ⟨by rw[H];decide,by rw[H];exact(λ q U=>nomatch U),by rw[H];decide,by rw[H];exact(λ n Y=>nomatch Y),by rw[O];decide,by rw[O];exact(λ o B=>nomatch B)⟩
def MU{m:aL}{s:aH}(K:nX s=true)(O:m.state.aF=s.aF\/m.state.aF=[])(H:m.state.aY=s.aY\/m.state.aY=[])(ho:m.options.length<=1000000)(L:LowL m.options):FitM m:=by
 obtain⟨U,F,Y,_⟩:=Jr K;obtain⟨M,B⟩:=QC U;refine⟨?_,?_,?_,?_,ho,λ o k=>dG (L o k) Om⟩
 .rcases O with e|e<;>rw[e]
  .omega
  .decide
 .rcases O with e|e<;>rw[e]
  .exact B
  .exactλ q O=>nomatch O
 .rcases H with e|e<;>rw[e]
  .omega
  .decide
 .rcases H with e|e<;>rw[e]
  .intro n H;have:=(Xi (Qh Y H).2.1);exact XY _ n.bU (eQ _) om
  .exactλ n H=>nomatch H
def LowL.append{a b:List aP}(h:LowL a)(k:LowL b):LowL (a++b):=λ x hx=>by
 rcases cX.1 hx with hx|hx
 .exact h x hx
 .exact k x hx
def cRl{c:bF}(hc:c.aD.length<=100):∃l,II c 40=some l/\l.length<=40/\LowL l:=by
 unfold II;obtain⟨s,F,_⟩:=QA c;obtain⟨r,M,hr⟩:=cP4 s;rw[F,eF,M,eF];have O:∀(k:Nat) (l:List aP),k<c.aD.length->l.length<=100000*k->LowL l->∃y,mF (FZ c r ((k:Int),l)) (0,l)=some y/\y.length<=100000*(k+1)/\LowL y:=λ k l hk hg H=>
  Gw (body:=FZ c r ((k:Int),l)) r.2.length (λ i s=>s.length<=100000*k+100*i/\LowL s) (λ y=>y.length<=100000*(k+1)/\LowL y) (λ i s V ⟨L,K⟩=>by
   left;unfold FZ;have Y:0<=(i:Int)/\(i:Int)<(r.2.length:Int):=om
   have B:0<=(k:Int)/\(k:Int)<(c.aD.length:Int):=om
   obtain⟨l,o1,o2,o3⟩:=cRc (c.aD.getD k aG.zero);simp only[Y.1,Y.2,B.1,B.2,cW,mR,cG,cH,Qm,mK i (show i<4611686018427387904 by omega),o1,qm];split
   .rw[gdp om];exact⟨_,rfl,by simp only[cC];omega,K.append o3⟩
   .exact⟨_,rfl,by omega,K⟩) (λ s ⟨L,K⟩=>by
   unfold FZ;simp only[iP,cO,bZ,cI];exact⟨_,rfl,by omega,K⟩) l ⟨by omega,H⟩
 obtain⟨y,Z,hy,H⟩:=Gw (body:=IH c r) c.aD.length (λ i s=>s.length<=100000*i/\LowL s) (λ y=>y.length<=10000000/\LowL y) (λ i s V ⟨L,H⟩=>by
  left;unfold IH;obtain⟨z,e4,hz⟩:=O i s V L H;rw[cA (by simp only[cB];omega),e4,eF];unfold LW;rw[mK i om];exact⟨_,rfl,hz⟩) (λ s ⟨L,H⟩=>by
  unfold IH;simp only[iP,cO,bZ,cI];exact⟨_,rfl,by omega,H⟩) [] ⟨by simp,λ o U=>nomatch U⟩
 rw[Z,eF];unfold LV;split
 .rename_i k;rw[cB]at k;rw[gdp om,fF];exact⟨_,rfl,by rw[dD];omega,λ o U=>H o (gD U)⟩
 .rename_i k;rw[cB]at k;exact⟨_,rfl,by omega,H⟩
def XZ{v7:Int×bM}(U:TapeOk v7.2){j:aL}(H:j.state=aH.zero)(O:j.options=[]):∃m u,F0 v7 j=some (m,u)/\FitM m:=by
 unfold F0;obtain⟨v,u,e,_⟩:=rA (m:=2) Om Om U;split
 .rw[e,eF];exact⟨_,_,rfl,GC H O⟩
 .rw[eF];exact⟨_,_,rfl,GC H O⟩
def X0{l:List Int}(K:l.length<=300)(v4:aK)(v5 v6:Int×bM){v7:Int×bM}(O:TapeOk v7.2)(j:Bool):∃m u,F1 l v4 v5 v6 v7 j=some (m,u)/\FitM m:=by
 unfold F1;have H:∀{m:aL} {u:bM},m.state=aH.zero->m.options=[]->∃B M,some (m,u)=some (B,M)/\FitM B:=λ L V=>⟨_,_,rfl,GC L V⟩;split
 .exact H rfl rfl
 split
 .obtain⟨c,Z,hc⟩:=XF K;obtain⟨s,U,Y⟩:=QA c;obtain⟨o,e3,F,hL⟩:=cRl hc;rw[Z,eF,U,eF,e3,eF];exact⟨_,_,rfl,MU Y (.inr rfl) (.inl rfl) (by simp only;omega) hL⟩
 split
 .obtain⟨s,U,Y⟩:=cOi K;rw[U,eF];exact⟨_,_,rfl,MU Y (.inl rfl) (.inr rfl) (by simp[aL.zero]) (λ o F=>nomatch F)⟩
 split
 .obtain⟨v,u,e,_⟩:=rA (m:=5) Om Om O;rw[e,eF];split<;>exact H rfl rfl
 split
 .obtain⟨v,u,e,_⟩:=rA (m:=2) Om Om O;rw[e,eF];exact H rfl rfl
 split
 .obtain⟨v,u,e,_⟩:=rA (m:=4) Om Om O;rw[e,eF];exact H rfl rfl
 .exact H rfl rfl
def X1{l:List Int}(K:l.length<=300)(v1:List aJ×List bQ)(v2:Int×bM)(O:oI (v1.1.getD v2.1.toNat aJ.zero)=true)(v4:aK)(v5 v6:Int×bM){v7:Int×bM}(H:TapeOk v7.2)(j:Bool):
  ∃m u,F2 l v1 v2 v4 v5 v6 v7 j=some (m,u)/\FitM m:=by
 unfold F2;rw[PN _ _ O];simp only[qm];split
 .split
  .exact XZ H rfl rfl
  .exact XZ H rfl rfl
 split
 .exact⟨_,_,rfl,GC rfl rfl⟩
 split
 .obtain⟨v,u,e,_⟩:=rA (m:=4) Om Om H;rw[e,eF];exact⟨_,_,rfl,GC rfl rfl⟩
 split
 .exact X0 K v4 v5 v6 H _
 .exact X0 K v4 v5 v6 H _
def cRp{l t:List Int}(K:l.length<=300)(ht:t.length<=20):∃m u,F3 l {bM.zero with l:=t}=some (m,u)/\FitM m:=by
 unfold F3;have M:TapeOk {bM.zero with l:=t}:=⟨by simp only;omega,by show 0<=(0:Int)/\(0:Int)<=t.length;omega⟩;obtain⟨r,k,L,_,x0,V⟩:=XE K;rw[L,eF];simp only;obtain⟨v2,U,Z,a2,b2,c2⟩:=rA (m:=(r.length:Int)) om om M;rw[Z,eF,gdp (by simp only;omega)];obtain⟨v3,u3,e3,a3,_⟩:=rA (m:=8) Om Om a2.ok;simp only[e3,qm,PM];obtain⟨v5,Y,e5,a5,_⟩:=rA (m:=15) Om Om a3.ok;simp only[e5,qm];obtain⟨v6,B,e6,a6,_⟩:=rA (m:=6) Om Om a5.ok;simp only[e6,qm];obtain⟨v7,F,e7,O,_⟩:=rA (m:=6) Om Om a6.ok;simp only[e7,qm];have H:=V _ (mX (z:=aJ.zero) (show v2.toNat<r.length by omega));split
 .obtain⟨v9,u9,e9,_⟩:=rA (m:=4) Om Om O.ok;rw[PN _ _ H,eF,e9,eF];exact⟨_,_,rfl,GC rfl rfl⟩
 split
 .exact X1 K (r,k) (v2,U) H _ (v5,Y) (v6,B) (v7:=(v7,F)) O.ok _
 .exact X1 K (r,k) (v2,U) H _ (v5,Y) (v6,B) (v7:=(v7,F)) O.ok _
def DN(a b:aL):Prop:=a.gen=b.gen/\a.round=b.round/\a.epoch=b.epoch/\a.bE=b.bE/\a.site=b.site/\a.inc=b.inc/\a.label=b.label
instance(a b:aL):Decidable (DN a b):=by unfold DN;infer_instance
def X2(a b:aL){r:Bool}(B:A9 a b ()=some r):q9 a b=some (if DN a b then r else false):=by
 unfold q9;rw[DF,eF];refine SP λ q F=>?_;have hm:∀i,i∈q↔i<7:=λ i=>by rw[F.mem_iff,eH];rfl
 have O:∀l:List (Int×bL),(∀e∈l,(oP e.2.of).isSome=true)->
   vP (Lm a b) (λ g1:Unit=>(Sum.inl ():Unit⊕Bool)) l ()=some (if l.all (λ e=>decide (nQ a ((oP e.2.of).getD 0)=nQ b ((oP e.2.of).getD 0)))=true then .inl ()else .inr false):=by
  intro l;induction l with
  |nil=>intro _;rfl
  |cons e l M=>
   intro h;simp only[vP,Lm];obtain⟨k,U⟩:=iO.1 (h e (.head _));rw[U,eF,eF]
   by_cases H:nQ a k=nQ b k
   .rw[bX (by simp[H])];simp only[M λ x L=>h x (.tail _ L),List.all_cons,U,Xm,H,cG,cL]
   .rw[cA (by simp[H])];simp[U,H]
 rw[O _ (λ e Y=>by
  obtain⟨i,K,rfl⟩:=cR.1 Y;have:=(hm i).1 K
  match i,this with
  |0,_=>rfl
  |1,_=>rfl
  |2,_=>rfl
  |3,_=>rfl
  |4,_=>rfl
  |5,_=>rfl
  |6,_=>rfl),eF]
 have V:((q.map (nums.getD · (0,bL.zero))).all λ e=>decide (nQ a ((oP e.2.of).getD 0)=nQ b ((oP e.2.of).getD 0)))=decide (DN a b):=by
  rw[dM,cB,dT];constructor
  .intro h;have g:∀i,i<7->nQ a ((oP (nums.getD i (0,bL.zero)).2.of).getD 0)=nQ b ((oP (nums.getD i (0,bL.zero)).2.of).getD 0):=λ i K=>gH (h _ (cR.2 ⟨i,(hm i).2 K,rfl⟩));exact⟨g 0 om,g 1 om,g 2 om,g 3 om,g 4 om,g 5 om,g 6 om⟩
  .rintro⟨H,Z,h2,h3,h4,h5,h6⟩ e Y;obtain⟨i,K,rfl⟩:=cR.1 Y;have:=(hm i).1 K;rw[cB]
   match i,this with
   |0,_=>exact H
   |1,_=>exact Z
   |2,_=>exact h2
   |3,_=>exact h3
   |4,_=>exact h4
   |5,_=>exact h5
   |6,_=>exact h6
 rw[V]
 by_cases c:DN a b
 .rw[cP c,cA rfl,cA c];exact B
 .rw[fM c,bX Om,bX c]
def BK{x:Int}(H:0<=x)(O:x<128):encI x=[x]:=by unfold encI;rw[zQ om,show((x.toNat:Nat):Int)=x by omega]
def QS{x:Int}{r:List Int}(H:0<=x)(O:x<128)(U:Src (x::r)){lim over:Int}(K:x<=lim):tY lim over ⟨x::r,0⟩=some (x,⟨r,0⟩):=by have e:=BK H O;have u:=Du (x:=x) (r:=r) ⟨H,by omega⟩ (by rw[e];exact U);rw[e]at u;simp only[Jm,jm,Km]at u;unfold tY;simp only[cG,cQ,bZ,cI,u,qm];rw[gdp (by simp only[lN];omega),bX (by simpa using K),mH om om];rfl
def m11:aL:={aL.zero with kind:=11,aM:=⟨0,1,2⟩,round:=1,done:=true}
def m5:aL:={aL.zero with kind:=5,inc:=5,site:=2}
def X3:encM m11=[11,1,0,1,2,1]:=by unfold encM;rw[show mY m11.kind=[82,80,68]from(DM 11 Om).trans rfl];show encI 11++(encI 1++((encI 0++encI 1++encI 2)++([1]++[])))=_;rw[BK (x:=11) Om Om,BK (x:=1) Om Om,BK (x:=0) Om Om,BK (x:=2) Om Om];rfl
def X4:qC m11=true:=by unfold qC;rw[X3];unfold tG;rw[show mY m11.kind=[82,80,68]from(DM 11 Om).trans rfl];decide
def cRw:encM m5=[5,2,5]:=by unfold encM;rw[show mY m5.kind=[83,73]from(DM 5 Om).trans rfl];show encI 5++(encI 2++(encI 5++[]))=_;rw[BK (x:=5) Om Om,BK (x:=2) Om Om];rfl
def cRx:qC m5=true:=by unfold qC;rw[cRw];unfold tG;rw[show mY m5.kind=[83,73]from(DM 5 Om).trans rfl];decide
def cRy:qC aL.zero=false:=rfl
def cRz:q9 m5 m5=some true:=by
 have k:A9 m5 m5 ()=some true:=by
  unfold A9;have H:m9 m5.options m5.options=some true:=by unfold m9;rw[bX Om,mP];rfl
  have O:p8 m5.state m5.state=some true:=by unfold p8 A2 A1;rw[bX Om,bX Om,mP,mP];rfl
  rw[bX Om,H,eF,cA rfl,O];rfl
 rw[X2 _ _ k,cA Om]
def cS0:wD [5,2,5]=some (m5,0):=by
 have H:∀l:List Int,(∀x∈l,0<=x/\x<256)->l.length<=1000->Src l:=λ l Y K=>⟨Y,by omega⟩;unfold wD;rw[show({aT.zero with b:=[5,2,5]}:aT)=⟨[5,2,5],0⟩from rfl,QS (x:=5) Om Om (H _ Om Om) Om,eF];have O:((Arr.get nL (5:Int).toNat ⟨#[]⟩).size:Int)=2:=rfl;have U:(Arr.get nL (5:Int).toNat ⟨#[]⟩).toList=[83,73]:=by rw[lM];rfl
 have B:sO (5,⟨[2,5],0⟩) nums (0,⟨[2,5],0⟩,{aL.zero with kind:=5})=some (.inl (1,⟨[5],0⟩,{aL.zero with kind:=5,site:=2})):=by unfold sO;simp only[O,U];rw[cA Om,gdp Om,gdp Om,cA (by rfl)];rw[show oP ((oF (((([83,73]:List UInt8).getD (0:Int).toNat 0).toNat:Int)) nums).getD bL.zero).of=some 4 from rfl,eF];unfold tA;rw[QS (x:=2) Om Om (H _ Om Om) Om];rfl
 have F:sO (5,⟨[2,5],0⟩) nums (1,⟨[5],0⟩,{aL.zero with kind:=5,site:=2})=some (.inl (2,⟨[],0⟩,m5)):=by unfold sO;simp only[O,U];rw[cA Om,gdp Om,gdp Om,cA (by rfl)];rw[show oP ((oF (((([83,73]:List UInt8).getD (1:Int).toNat 0).toNat:Int)) nums).getD bL.zero).of=some 5 from rfl,eF];unfold tA;rw[QS (x:=5) Om Om (H _ Om Om) Om];rfl
 have M:sO (5,⟨[2,5],0⟩) nums (2,⟨[],0⟩,m5)=some (.inr (.inl (⟨[],0⟩,m5))):=by unfold sO;simp only[O,U];rw[bX Om]
 rw[bX Om,bX Om,DF,eF,gdp Om];show(mF (sO (5,⟨[2,5],0⟩) nums) (0,⟨[2,5],0⟩,{aL.zero with kind:=5})).bind _=_;rw[mP,B];simp only;rw[mP,F];simp only;rw[mP,M];simp only[qm];unfold Bq;rw[bX Om,GB,cRx];rfl
def MV:Bs=some true:=by
 unfold Bs Bp;rw[show({aL.zero with kind:=11,aM:=(⟨0,1,2⟩:aK),round:=1,done:=true}:aL)=m11 from rfl,show({aL.zero with kind:=5,inc:=5,site:=2}:aL)=m5 from rfl,GB,X4,eF,bX Om,QL (by have:=X4;unfold qC at this;rw[bY]at this;exact this.1),X3];have hb:((pI [11,1,0,1,2,1]).toList==(⟨#[11,1,0,1,2,1]⟩:ByteArray).toList)=true:=by rw[lM,lM];rfl
 simp only[qm,cS0,hb,cG,gF,cH,cRz,GB,cRy,show({aL.zero with}:aL)=aL.zero from rfl,dO]
def X5{l:List Int}:Kt l=decide ((l.length:Int)<=300):=rfl
def Tot{α:Type}(F:aX->Option (α×aX)):Prop:=∀d,Src d.bC.rest->∃v H,F d=some (v,H)/\Src H.bC.rest
def BL{b:List Int}(h:Src b)(n:Nat):Src (b.drop n):=⟨h.bytes.drop n,by have:=h.len;rw[dS];omega⟩
def X6{lim over:Int}(Y:0<=lim)(h1:lim<=1073741824)(ho:over≠0){d:aX}(O:Src d.bC.rest):∃v H,vU lim over d=some (v,H)/\Src H.bC.rest/\v<=lim:=by
 unfold vU
 by_cases c:d.bC.err=0
 case neg=>rw[cA (by simpa using c)];exact⟨_,_,rfl,O,Y⟩
 case pos=>
  obtain⟨⟨u,n,e⟩,F,ok⟩:=Jf O.bytes;rw[bX (by simp[c]),F,eF,tF lim om om];have M:=ok.n0;have L:=ok.n1;have V:=ok.v0;simp only at M L V;have B:∀j:Int,(j=0->u<=lim)->∃v H,AO d (u,n,e) j=some (v,H)/\Src H.bC.rest/\v<=lim:=λ j Z=>by
   unfold AO
   by_cases U:j=0
   .have:=Z U;rw[bX (by simp[U]),gdp (by simp only;omega),mH om om];exact⟨_,_,rfl,BL O _,this⟩
   .rw[cA (by simpa using U)];exact⟨_,_,rfl,O,Y⟩
  by_cases K:(decide (e=0)&&decide (lim<u))=true
  .rw[cA K];exact B over λ k=>absurd k ho
  .rw[bX K];exact B e λ k=>by simpa [k]using K
def zU:Tot rX:=λ d H=>by unfold rX;obtain⟨v,U,e,O,_⟩:=X6 (lim:=1073741824) (over:=16) Om Om Om H;rw[e];exact⟨_,_,rfl,O⟩
def GD{lim:Int}(O:0<=lim)(B:lim<=100){d:aX}(U:Src d.bC.rest):∃v H,sZ lim d=some (v,H)/\Src H.bC.rest/\v<=100:=by unfold sZ;obtain⟨v,H,e,Y,K⟩:=X6 (lim:=lim) (over:=4) O om Om U;rw[e];exact⟨_,_,rfl,Y,by omega⟩
def X7:Tot uV:=λ d H=>by
 unfold uV
 by_cases c:d.bC.err=0
 case neg=>rw[cA (by simpa using c)];exact⟨_,_,rfl,H⟩
 case pos=>
  obtain⟨⟨u,n,e⟩,O,ok⟩:=WQ H.bytes H.len;rw[bX (by simp[c]),O,eF];have U:=ok.n0;have Y:=ok.n1;simp only at U Y;split
  .exact⟨_,_,rfl,H⟩
  .rw[gdp (by simp only;omega)];exact⟨_,_,rfl,BL H _⟩
def QT{a:List Int}(K:Src a){at_ i:Int}{z:Arr Int 3}(U:0<=at_)(Y:at_<=(a.length:Int))(i0:0<=i)(O:i<3):
  (∃e,qK a (at_,i,z)=some (.inr (.inr (aK.zero,0,e)))/\e≠0)\/∃u H,qK a (at_,i,z)=some (.inl (H,i+1,Arr.put z i.toNat u))/\0<=H/\H<=(a.length:Int):=by
 have:∃y,qK a (at_,i,z)=some y:=by
  unfold qK;obtain⟨⟨u,n,e⟩,B,ok⟩:=Jf (BL K at_.toNat).bytes;rw[cA (by simpa using O),gdp om];simp only;rw[B,eF];split
  .exact⟨_,rfl⟩
  .rw[gdp om];exact⟨_,rfl⟩
 obtain⟨y,L⟩:=this;rw[L];rcases Mt K U Y i0 O L with⟨e,rfl,F⟩|⟨u,M,rfl,Z,V,_⟩
 .exact .inl ⟨e,rfl,F⟩
 .exact .inr ⟨u,M,rfl,by omega,V⟩
def X8{a:List Int}(K:Src a):∃p n e,tM a=some (p,n,e)/\0<=n/\n<=(a.length:Int):=by
 unfold tM;rcases QT K (z:=Arr.rep 3 0) (i:=0) (at_:=0) Om om Om (by decide)with⟨e,h,_⟩|⟨H,a1,U,Y,B⟩
 .rw[mP,h];exact⟨_,_,_,rfl,by decide,by omega⟩
 rw[mP,U];simp only;rcases QT K (z:=Arr.put (Arr.rep 3 0) (0:Int).toNat H) (i:=0+1) Y B Om (by decide)with⟨e,h,_⟩|⟨F,a2,M,L,V⟩
 .rw[mP,h];exact⟨_,_,_,rfl,by decide,by omega⟩
 rw[mP,M];simp only;rcases QT K (z:=Arr.put (Arr.put (Arr.rep 3 0) (0:Int).toNat H) (0+1:Int).toNat F) (i:=0+1+1) L V Om (by decide)with⟨e,h,_⟩|⟨u3,O,Z,l3,m3⟩
 .rw[mP,h];exact⟨_,_,_,rfl,by decide,by omega⟩
 rw[mP,Z];simp only;have h4:∀z,qK a (O,0+1+1+1,z)=some (.inr (.inl (O,z))):=λ z=>by unfold qK;rw[bX (by simp)]
 rw[mP,h4];simp only[qm];unfold HG;split
 .exact⟨_,_,_,rfl,by decide,by omega⟩
 .exact⟨_,_,_,rfl,l3,m3⟩
def MW:Tot uY:=λ d H=>by
 unfold uY
 by_cases c:d.bC.err=0
 case neg=>rw[cA (by simpa using c)];exact⟨_,_,rfl,H⟩
 case pos=>
  obtain⟨p,n,e,O,U,Y⟩:=X8 H;rw[bX (by simp[c]),O,eF];split
  .exact⟨_,_,rfl,H⟩
  .rw[gdp (by simp only;omega)];exact⟨_,_,rfl,BL H _⟩
def MX:Tot vA:=λ d H=>by unfold vA;obtain⟨v,O,U,Y⟩:=zU d H;obtain⟨w,M,B,F⟩:=zU O Y;simp only[U,B,qm];exact⟨_,_,rfl,F⟩
def DO{Q:Type}{body:Int×aX×Q->Option ((Int×aX×Q)⊕(aX×Q))}(sz:Q->Nat)(I:Q->Prop)
  (Y:∀(n:Int) d q,0<n->d.bC.err=0->sz q<=1000->I q->Src d.bC.rest->∃O H,body (n,d,q)=some (.inl (IntKind.i64.wrap (n-1),O,H))/\Src O.bC.rest/\sz H<=sz q+1/\I H)
  (U:∀(n:Int) d q,¬(0<n/\d.bC.err=0)->body (n,d,q)=some (.inr (d,q))):
  ∀(k:Nat) (n:Int) (d:aX) (q:Q),n<=k->k<=100->sz q+k<=1000->I q->Src d.bC.rest->∃e H,mF body (n,d,q)=some (e,H)/\Src e.bC.rest/\I H
 |0,n,d,q,V,_,_,K,L=>by rw[mP,U _ _ _ om];exact⟨_,_,rfl,L,K⟩
 |k+1,n,d,q,V,Z,hq,K,L=>by
  by_cases c:0<n/\d.bC.err=0
  .obtain⟨O,H,e,B,M,F⟩:=Y n d q c.1 c.2 om K L;rw[mP,e];exact DO sz I Y U k _ O H (by rw[mH om om];omega) om om F B
  .rw[mP,U _ _ _ c];exact⟨_,_,rfl,L,K⟩
def cSd:Tot vY:=λ d hd=>by
 unfold vY;obtain⟨v1,d1,e1,h1⟩:=X7 d hd;obtain⟨v2,d2,e2,h2⟩:=zU d1 h1;obtain⟨v3,d3,e3,h3⟩:=zU d2 h2;obtain⟨v4,d4,e4,h4⟩:=zU d3 h3;obtain⟨v5,d5,e5,h5⟩:=zU d4 h4;obtain⟨v6,d6,e6,h6,g6⟩:=GD (lim:=8) Om Om h5;simp only[e1,e2,e3,e4,e5,e6,qm];obtain⟨V,q3,l3,s3,i3,j3⟩:=DO (body:=xG) (λ q=>q.aS.length) (λ q=>q.aN=[]/\q.aW=[]) (λ n d q O U Z K Y=>by
  unfold xG;obtain⟨w1,H,B,F⟩:=MW d Y;obtain⟨w2,L,M,u2⟩:=MX H F;rw[cA (by simp[O,U])];simp only[B,M,qm];rw[gdp om];exact⟨_,_,rfl,u2,by simp,K⟩) (λ n d q h=>by unfold xG;rw[bX (by simpa using h)]) 100 v6 d6 ⟨⟨v1,v2,v3,v4⟩,[],[],[],v5⟩ g6 Om (by simp) ⟨rfl,rfl⟩ h6
 rw[l3,eF];unfold Fe;obtain⟨v7,d7,e7,h7,g7⟩:=GD (lim:=8) Om Om s3;simp only[e7,qm];obtain⟨L,q2,l2,s2,i2⟩:=DO (body:=xF) (λ q=>q.aN.length) (λ q=>q.aW=[]) (λ n d q O U Z K Y=>by
  unfold xF;obtain⟨w1,H,B,F⟩:=MW d Y;obtain⟨w2,L,M,u2⟩:=MX H F;rw[cA (by simp[O,U])];simp only[B,M,qm];rw[gdp om];exact⟨_,_,rfl,u2,by simp,K⟩) (λ n d q h=>by unfold xF;rw[bX (by simpa using h)]) 100 v7 d7 q3 g7 Om (by rw[i3];decide) j3 h7
 rw[l2,eF];unfold Fd;obtain⟨v8,d8,e8,h8,g8⟩:=GD (lim:=8) Om Om s2;simp only[e8,qm];obtain⟨H,q1,l1,s1,_⟩:=DO (body:=xE) (λ q=>q.aW.length) (λ _=>True) (λ n d q O U Z K Y=>by
  unfold xE;obtain⟨w1,H,B,F⟩:=MW d Y;obtain⟨w2,L,M,u2⟩:=MX H F;obtain⟨w3,V,x3,u3⟩:=zU L u2;obtain⟨w4,y4,x4,u4⟩:=zU V u3;rw[cA (by simp[O,U])];simp only[B,M,x3,x4,qm];rw[gdp om];exact⟨_,_,rfl,u4,by simp,trivial⟩) (λ n d q h=>by unfold xE;rw[bX (by simpa using h)]) 100 v8 d8 q2 g8 Om (by rw[i2];decide) trivial h8
 rw[l1,eF];exact⟨_,_,rfl,s1⟩
def X9:∀(n:Nat) (H:Int),1<=H->H<=5->6<=H+n->Tot (tN n H)
 |0,H,h1,h5,h6=>om
 |n+1,H,h1,h5,h6=>λ d K=>by
  show∃v U,p7 (tN n) H d=some (v,U)/\_;unfold p7;have L:∀O:aX,Src O.bC.rest->(O.bC.err=0->H<=4)->∃v U,o9 (tN n) H O=some (v,U)/\Src U.bC.rest:=λ O Y h4=>by
   unfold o9;obtain⟨v1,B,V,F⟩:=zU O Y;rw[V,eF]
   by_cases c:B.bC.err=0
   case neg=>rw[cA (by simpa using c)];exact⟨_,_,rfl,F⟩
   case pos=>
    rw[bX (by simp[c])];have M:O.bC.err=0:=(Bk.bL O v1 B V c).1;have h0:=h4 M
    by_cases Z:v1=0
    .rw[cA (by simpa using Z)];obtain⟨v2,d2,e2,s2⟩:=X7 B F;obtain⟨v3,d3,e3,s3⟩:=MX d2 s2;simp only[e2,e3,qm];exact⟨_,_,rfl,s3⟩
    .rw[bX (by simpa using Z)];obtain⟨v4,d4,e4,s4,g4⟩:=GD (lim:=24) Om Om F;simp only[e4,qm];obtain⟨y,q,l,s,_⟩:=DO (body:=xD (tN n) H) (λ q:aR=>q.bG.length) (λ _=>True) (λ m d q hn M hq hi hs=>by
      unfold xD;rw[cA (by simp[hn,M]),mH (x:=H+1) om om];obtain⟨w,y,x,u⟩:=X9 n (H+1) om om om d hs;simp only[x,qm];rw[gdp om];exact⟨_,_,rfl,u,by simp,trivial⟩) (λ m d q h=>by unfold xD;rw[bX (by simpa using h)]) 100 v4 d4 ⟨v1,⟨aR.zero.aZ.name,⟨aR.zero.aZ.aI.mode,aR.zero.aZ.aI.aU⟩⟩,[]⟩ g4 Om (by simp) trivial s4
     rw[l,eF];exact⟨_,_,rfl,s⟩
  split
  .exact L _ K λ h=>by simp at h
  .rename_i c;exact L d K λ h=>by simp only[h,cG,cL,cB]at c;omega
def cSf{b:List Int}(hb:Src b):∃r,vZ b=some r:=by
 unfold vZ;obtain⟨v1,V,Z,K,g1⟩:=GD (lim:=8) (d:=⟨{bT.zero with rest:=b}⟩) Om Om hb;simp only[Z,qm];obtain⟨H,q2,l2,s2,i2⟩:=DO (body:=xI) (λ q=>q.aF.length) (λ q=>q.aY=[]) (λ n d q O U hq L Y=>by
  unfold xI;obtain⟨w1,B,F,M⟩:=cSd d Y;rw[cA (by simp[O,U])];simp only[F,qm];rw[gdp om];exact⟨_,_,rfl,M,by simp,L⟩) (λ n d q h=>by unfold xI;rw[bX (by simpa using h)]) 100 v1 V ⟨[],[]⟩ g1 Om Om rfl K
 rw[l2,eF];unfold Fv;obtain⟨v2,d2,e2,s3,g2⟩:=GD (lim:=8) Om Om s2;simp only[e2,qm];obtain⟨B,q1,l1,K,_⟩:=DO (body:=xH) (λ q=>q.aY.length) (λ _=>True) (λ n d q O U hq L Y=>by
  unfold xH;obtain⟨w1,B,F,M⟩:=MW d Y;obtain⟨w2,H,x2,u2⟩:=zU B M;obtain⟨w3,y3,x3,u3⟩:=X9 6 1 Om Om Om H u2;rw[cA (by simp[O,U])];simp only[F,x2,qm];rw[show E9 1 H=some (w3,y3)from x3,eF,gdp om];exact⟨_,_,rfl,u3,by simp,trivial⟩) (λ n d q h=>by unfold xH;rw[bX (by simpa using h)]) 100 v2 d2 q2 g2 Om (by rw[i2];decide) trivial s3
 rw[l1,eF];unfold Ig;split
 .exact⟨_,rfl⟩
 split
 .exact⟨_,rfl⟩
 rw[Gj,eF];split<;>exact⟨_,rfl⟩
def GE(lim over:Int){k:bW}(h:k.err≠0):sM lim over k=some (0,k):=by unfold sM;rw[cA (by simpa using h)]
def MY(c:Int){k:bW}(o:aP)(h:k.err≠0):mF tZ (c,k,o)=some (k,o):=by rw[mP];unfold tZ;rw[bX (by simp[h])]
def MZ{α β:Type}{o:Option α}{f:α->Option β}{r:β}(h:o.bind f=some r):∃v,o=some v/\f v=some r:=by
 cases o with
 |none=>cases h
 |some v=>exact⟨v,rfl,h⟩
def DP(o:aP)(s:ByteArray)(m n:Int):aP:=⟨o.aM,o.label,o.cost,o.lower++[⟨s,⟨m,n⟩⟩]⟩
def M0{k:bW}{c:Int}{o:aP}(O:0<c)(U:k.err=0)(hg:o.lower.length+1<=4294967296){v6:ByteArray×bW}{v7 H:Int×bW}(Y:m8 k=some v6)(B:sM 1073741824 16 v6.2=some v7)(F:sM 1073741824 16 v7.2=some H):
  tZ (c,k,o)=some (.inl (IntKind.i64.wrap (c-1),H.2,DP o v6.1 v7.1 H.1)):=by
 unfold tZ;rw[cA (by simp[O,U])];simp only[Y,B,F,qm];rw[gdp hg];rfl
def Ya{z:bW×aP}(h:z.1.err≠0):A7 z=some (aP.zero,0,z.1.err):=by unfold A7;rw[bX (by simpa using h),eF,bX (by simp[h])];unfold Fa;rw[cA (by simpa using h)]
def cSm{r:aT}(h:r.err≠0):tA r=some (0,r):=by unfold tA tY;rw[cA (by simpa using h)];rfl
def Ju{lim over x:Int}(h:okI x)(K:x<=lim)(O:lim<=1073741824){b r:List Int}{a:Int}(M:0<=a)(L:a<=(b.length:Int))(V:b.length<=1000000000)(H:b.drop a.toNat=encI x++r)(U:Src (encI x++r)):
  sM lim over ⟨b,a,0⟩=some (x,⟨b,a+((encI x).length:Int),0⟩)/\a+((encI x).length:Int)<=(b.length:Int)/\b.drop (a+((encI x).length:Int)).toNat=r:=by
 have e:=dZ List.length H;rw[dS,cC]at e;have Y:=oD h;obtain⟨B,F⟩:=h;refine⟨?_,by omega,?_⟩
 .unfold sM;rw[bX (by simp),gdp (by simp only;omega)];simp only;rw[H,Du ⟨B,F⟩ U,eF,bX (by
   simp only[cG,cL,cB];rw[tF lim om om];omega)]
  unfold EJ;rw[bX (by simp)];simp only;rw[mH (x:=x) om om,mH om om]
 .rw[show(a+((encI x).length:Int)).toNat=a.toNat+(encI x).length by omega,<-eV,H,fA]
def cSo{s:ByteArray}(h:s.size<=1024){b r:List Int}{a:Int}(U:0<=a)(Y:a<=(b.length:Int))(K:b.length<=1000000000)(H:b.drop a.toNat=encT s++r)(O:Src (encT s++r)):
  m8 ⟨b,a,0⟩=some (s,⟨b,a+((encT s).length:Int),0⟩)/\a+((encT s).length:Int)<=(b.length:Int)/\b.drop (a+((encT s).length:Int)).toNat=r:=by
 have e:=dZ List.length H;rw[dS,cC]at e;refine⟨?_,by omega,?_⟩
 .unfold m8;rw[bX (by simp),gdp (by simp only;omega)];simp only;rw[H,Qd h O,eF];simp only;rw[mH om om]
 .rw[show(a+((encT s).length:Int)).toNat=a.toNat+(encT s).length by omega,<-eV,H,fA]
def Yb{b:List Int}(K:b.length<=1000000000):∀(l:List aO) (r:List Int) (a:Int) (o:aP),(∀x∈l,okL' x)->o.lower.length+l.length<=8->0<=a->a<=(b.length:Int)->b.drop a.toNat=l.flatMap encL++r->Src (l.flatMap encL++r)->
  mF tZ ((l.length:Int),⟨b,a,0⟩,o)=some (⟨b,a+((l.flatMap encL).length:Int),0⟩,⟨o.aM,o.label,o.cost,o.lower++l⟩)
 |[],r,a,o,_,_,Z,h1,V,L=>by
  have:tZ ((([]:List aO).length:Int),⟨b,a,0⟩,o)=some (.inr (⟨b,a,0⟩,o)):=by unfold tZ;rw[bX (by simp)]
  rw[mP,this];simp
 |x::l,r,a,o,hx,h8,Z,h1,V,L=>by obtain⟨k1,H,O⟩:=hx x (.head _);rw[lN]at h8;simp only[eE,encL,cE]at V L;obtain⟨B,F,M⟩:=cSo om Z h1 K V L;have U:=L.right;obtain⟨e2,i2,d2⟩:=Ju (lim:=1073741824) (over:=16) H H.2 Om om F K M U;have Y:=U.right;obtain⟨e3,i3,d3⟩:=Ju (lim:=1073741824) (over:=16) O O.2 Om om i2 K d2 Y;have s3:=Y.right;rw[mP,M0 (by simp<;>omega) rfl om B e2 e3];simp only;rw[show IntKind.i64.wrap ((((x::l).length:Nat):Int)-1)=(l.length:Int)by rw[lN,mH om om];omega];rw[Yb K l r _ (DP o x.name x.aI.mode x.aI.aU) (λ y hy=>hx y (.tail _ hy)) (by simp only[DP,cC,lT];omega) om i3 d3 s3];simp only[DP,eE,encL,cC,cE,List.singleton_append];congr 3;omega
def cSq{o:aP}(ho:optV o=true){r:List Int}(L:(encO o++r).length<=1000000000)(H:Src (encO o++r)):yW (encO o++r)=some (o,((encO o).length:Int),0):=by
 have k:=Gz ho;have hb:encO o++r=encP o.aM++(encI (o.label+1)++(encI o.cost++(encI (o.lower.length:Int)++(o.lower.flatMap encL++r)))):=by unfold encO;simp only[cE]
 have V:((encO o).length:Int)=((encP o.aM).length:Int)+((encI (o.label+1)).length:Int)+((encI o.cost).length:Int)+((encI (o.lower.length:Int)).length:Int)+((o.lower.flatMap encL).length:Int):=by unfold encO;simp only[cC];omega
 have K:=H;rw[hb]at K;have hp:=BF k.p;generalize encO o++r=b at hb L H;have O:o5 ({bW.zero with all:=b})=some (o.aM,⟨b,((encP o.aM).length:Int),0⟩):=by unfold o5;show gd (0<=(0:Int)/\(0:Int)<=(b.length:Int)/\(b.length:Int)<=(b.length:Int)) ((tM (b.drop (0:Int).toNat)).bind _)=_;rw[gdp om,Int.toNat_zero,fF,hb,Qe k.p K,eF];simp only;rw[show(bW.zero.at_:Int)=0 from rfl,mH om om,lF]
 have e:=dZ List.length hb;rw[cC]at e;obtain⟨U,Y,B⟩:=Ju (b:=b) (lim:=1073741824) (over:=16) (x:=o.label+1) (a:=((encP o.aM).length:Int)) (by have:=k.l;unfold okI;omega) (by have:=k.l;omega) Om om om L (by rw[lL,hb,fA]) K.right;obtain⟨F,M,Z⟩:=Ju (lim:=1073741824) (over:=16) k.c k.c.2 Om om Y L B K.right.right;obtain⟨e3,i3,d3⟩:=Ju (lim:=8) (over:=4) (x:=(o.lower.length:Int)) (by have:=k.n;unfold okI;omega) (by have:=k.n;omega) Om om M L Z K.right.right.right;unfold yW;rw[O,eF];simp only;rw[U,eF];simp only;rw[F,eF];simp only;rw[e3,eF];simp only;rw[Yb L o.lower r _ _ k.e (by have:=k.n;simp;omega) om i3 d3 K.right.right.right.right,eF];simp only[jm];rw[show IntKind.i64.wrap (o.label+1-1)=o.label by rw[mH (by have:=k.l;omega) (by have:=k.l;omega)];omega];unfold A7;rw[cA (by simp),MM,eF,show(⟨⟨o.aM.site,o.aM.inc,o.aM.num⟩,o.label,o.cost,o.lower⟩:aP)=o from rfl,ho,bX (by simp)];unfold Fa;rw[bX (by simp)];simp only;rw[V]
def QU{lim over x:Int}(h:okI x)(K:x<=lim){r:List Int}(H:Src (encI x++r)):tY lim over ⟨encI x++r,0⟩=some (x,⟨r,0⟩):=by unfold tY;rw[bX (by simp)];simp only;rw[Du h H,eF,bX (by simp),gdp (by simp only[cC];omega),bX (by simpa using K),mH (by have:=h.1;omega) (by have:=h.2;omega)];simp only[Qm,fA]
def M1{x:Int}(h:okI x){r:List Int}(H:Src (encI x++r)):tA ⟨encI x++r,0⟩=some (x,⟨r,0⟩):=by unfold tA;rw[QU h h.2 H];rfl
def cSt{p:aK}(h:mV p=true){r:List Int}(H:Src (encP p++r)):A0 ⟨encP p++r,0⟩=some (p,⟨r,0⟩):=by unfold A0;rw[bX (by simp)];simp only;rw[Qe h H,eF,bX (by simp),gdp (by simp only[cC];omega)];simp only[Qm,fA]
def Yc{x:aO}(h:okL' x){r:List Int}(H:Src (encL x++r)):A5 ⟨encL x++r,0⟩=some (x,⟨r,0⟩):=by
 obtain⟨Y,O,U⟩:=h;have hb:encL x++r=encT x.name++(encI x.aI.mode++(encI x.aI.aU++r)):=by unfold encL;simp only[cE]
 rw[hb]at H⊢;unfold A5;rw[bX (by simp)];simp only;rw[Qd om H,eF,bX (by simp),gdp (by simp only[cC];omega)];simp only[Qm,fA];rw[M1 O H.right,eF];simp only;rw[M1 U H.right.right];rfl
def cSv(d:Bool)(r:List Int)(H:r.length<=1000000000):AF ⟨(if d=true then 1 else 0)::r,0⟩=some (d,⟨r,0⟩):=by
 unfold AF;rw[bX (by simp),bX (by simp<;>omega),gdp (by simp<;>omega)];cases d
 .rw[bX (by simp),gdp (by simp<;>omega),gdp (by simp<;>omega)];rfl
 .rw[bX (by simp),gdp (by simp<;>omega),gdp (by simp<;>omega)];rfl
def Yd{s:aH}(h:nX s=true){r:List Int}(K:r.length<=1000000000)(H:Src (encI ((encS s).length:Int)++(encS s++r))):De ⟨encI ((encS s).length:Int)++(encS s++r),0⟩=some (s,⟨r,0⟩):=by have O:=Dw (BE h).1;unfold De;rw[M1 (by unfold okI;omega) H,eF,bX (by simp),bX (by simp only[cC,cB];omega)];simp only;rw[gdp ⟨by decide,by omega,by simp only[cC];omega,trivial⟩,lL,List.take_left,cIt (BE h).1 om,h,cA rfl,eF,bX (by simp),gdp (by simp only[cC];omega),fA]
def Ye(v1:Int×aT)(U:v1.1<=1000):∀(l:List aP) (r:List Int) (i:Nat) (acc:List aP),(∀o∈l,optV o=true)->(i:Int)+l.length=v1.1->acc.length<=i->(l.flatMap encO++r).length<=1000000000->Src (l.flatMap encO++r)->
  mF (tB v1) ((i:Int),⟨l.flatMap encO++r,0⟩,acc)=some (.inl (⟨r,0⟩,acc++l))
 |[],r,i,acc,_,H,_,_,_=>by
  have:tB v1 ((i:Int),⟨([]:List aP).flatMap encO++r,0⟩,acc)=some (.inr (.inl (⟨r,0⟩,acc))):=by unfold tB;rw[bX (by simp at H⊢;omega)];rfl
  rw[mP,this];simp
 |o::l,r,i,acc,O,H,Y,K,L=>by
  rw[lN]at H;simp only[eE,cE]at K L⊢;have e:=cSq (O o (.head _)) K L;have:tB v1 ((i:Int),⟨encO o++(l.flatMap encO++r),0⟩,acc)=some (.inl (((i+1:Nat):Int),⟨l.flatMap encO++r,0⟩,acc++[o])):=by unfold tB;rw[cA (by simp only[cB];omega)];simp only;rw[e,eF,bX (by simp),gdp (by simp only[cC];omega),gdp om];simp only[Qm,fA];rw[mK i om]
  rw[mP,this];simp only;rw[Ye v1 U l r (i+1) (acc++[o]) (λ x V=>O x (.tail _ V)) om (by simp;omega) (by rw[cC]at K;omega) L.right,cE];rfl
def cSy{l:List aP}(O:l.length<=40)(ho:∀o∈l,optV o=true){r:List Int}(K:(l.flatMap encO++r).length<=1000000000)(H:Src (encI (l.length:Int)++(l.flatMap encO++r))):yX ⟨encI (l.length:Int)++(l.flatMap encO++r),0⟩=some (l,⟨r,0⟩):=by unfold yX;rw[QU (by unfold okI;omega) om H,eF];simp only;have:=Ye ((l.length:Int),⟨l.flatMap encO++r,0⟩) (by simp only;omega) l r 0 [] ho (by simp) (by simp) K H.right;rw[show((0:Int),(⟨l.flatMap encO++r,0⟩:aT),([]:List aP))=(((0:Nat):Int),⟨l.flatMap encO++r,0⟩,[])from rfl,this];rfl
def rC(m:aL)(c:Nat)(w:aL):aL:=match c with
 |80=>{w with aM:=m.aM}
 |71=>{w with gen:=m.gen}
 |82=>{w with round:=m.round}
 |69=>{w with epoch:=m.epoch}
 |89=>{w with bE:=m.bE}
 |83=>{w with site:=m.site}
 |73=>{w with inc:=m.inc}
 |66=>{w with label:=m.label}
 |65=>{w with aZ:=m.aZ}
 |97=>{w with aZ:=m.aZ}
 |68=>{w with done:=m.done}
 |78=>{w with state:=m.state}
 |76=>{w with state:=m.state}
 |79=>{w with options:=m.options}
 |_=>w
noncomputable def xY(c:Int)(H:aT)(w:aL):Option (aT×aL):=
 if(oF c nums).isSome=true then(oP ((oF c nums).getD bL.zero).of).bind λ k=>(tA H).bind λ v=>some (v.2,sD w k (IntKind.i64.wrap (v.1-((oF c nums).getD bL.zero).plus)))
 else rK c H w
def DQ{c:Int}{n:bL}{k:Nat}{x:Int}(H:oF c nums=some n)(O:oP n.of=some k)(h:okI x){r:List Int}(U:Src (encI x++r))(w:aL):xY c ⟨encI x++r,0⟩ w=some (⟨r,0⟩,sD w k (IntKind.i64.wrap (x-n.plus))):=by unfold xY;rw[H];simp only[Option.isSome_some,cH,Xm,O,qm];rw[M1 h U];rfl
def BM{c:Int}(O:oF c nums=none)(H:aT)(w:aL):xY c H w=rK c H w:=by unfold xY;rw[O];rfl
def Yf{x:aO}(h:oH x.name=true)(H:okA x.aI):okL' x:=⟨xU h,H⟩
def cT4{m w:aL}{c:Nat}(M:c∈rP)(U:qB m c=true){r:List Int}(V:r.length<=1000000)(O:Src (encF m c++r)):xY (c:Int) ⟨encF m c++r,0⟩ w=some (⟨r,0⟩,rC m c w):=by
 have F:∀{lo hi x:Int},inN lo hi x=true->0<=lo->hi<=1073741824->okI x/\IntKind.i64.wrap (x-0)=x:=λ{lo hi x} k K Y=>by have:=uG k K Y;exact⟨this,by rw[jH,mH (by have:=this.1;omega) (by have:=this.2;omega)]⟩
 unfold rP at M;simp only[cK,eP,gT]at M;rcases M with rfl|rfl|rfl|rfl|rfl|rfl|rfl|rfl|rfl|rfl|rfl|rfl|rfl|rfl
 .rw[BM rfl];unfold rK;rw[cA Om,show encF m 80=encP m.aM from rfl,cSt (p:=m.aM) U O];rfl
 .obtain⟨Y,B⟩:=F (lo:=0) (hi:=1073741824) (x:=m.gen) U Om Om;rw[show encF m 71=encI m.gen from rfl,DQ (n:=⟨64,0,1073741824,0⟩) (k:=0) rfl rfl Y O,B];rfl
 .obtain⟨Y,B⟩:=F (lo:=0) (hi:=1073741824) (x:=m.round) U Om Om;rw[show encF m 82=encI m.round from rfl,DQ (n:=⟨65,0,1073741824,0⟩) (k:=1) rfl rfl Y O,B];rfl
 .obtain⟨Y,B⟩:=F (lo:=0) (hi:=1073741824) (x:=m.epoch) U Om Om;rw[show encF m 69=encI m.epoch from rfl,DQ (n:=⟨66,0,1073741824,0⟩) (k:=2) rfl rfl Y O,B];rfl
 .obtain⟨Y,B⟩:=F (lo:=0) (hi:=7) (x:=m.bE) U Om Om;rw[show encF m 89=encI m.bE from rfl,DQ (n:=⟨67,0,7,0⟩) (k:=3) rfl rfl Y O,B];rfl
 .obtain⟨Y,B⟩:=F (lo:=0) (hi:=3) (x:=m.site) U Om Om;rw[show encF m 83=encI m.site from rfl,DQ (n:=⟨68,0,3,0⟩) (k:=4) rfl rfl Y O,B];rfl
 .obtain⟨Y,B⟩:=F (lo:=1) (hi:=99) (x:=m.inc) U Om Om;rw[show encF m 73=encI m.inc from rfl,DQ (n:=⟨69,1,99,0⟩) (k:=5) rfl rfl Y O,B];rfl
 .have k:inN (-1) 99 m.label=true:=by
   have:(inN (-1) 99 m.label&&!decide (m.label=0))=true:=U;rw[bY]at this;exact this.1
  have k':=MP.1 k;rw[show encF m 66=encI (m.label+1)from rfl,DQ (n:=⟨70,-1,99,1⟩) (k:=6) rfl rfl (by unfold okI;omega) O,show IntKind.i64.wrap (m.label+1-1)=m.label by rw[mH om om];omega];rfl
 .rw[BM rfl];have H:(oH m.aZ.name&&oU m.aZ.aI)=true:=U;rw[bY]at H;unfold rK tC;rw[bX Om,cA Om,cA Om,show encF m 65=encL m.aZ from rfl,Yc (Yf H.1 (zR H.2)) O];rfl
 .rw[BM rfl];have H:(oH m.aZ.name&&(decide (m.aZ.aI=aC.zero)||oU m.aZ.aI))=true:=U;rw[bY]at H;unfold rK tC;rw[bX Om,bX Om,cA Om,show encF m 97=encL m.aZ from rfl,Yc (Yf H.1 (QK H.2)) O];rfl
 .rw[BM rfl];unfold rK tC;rw[bX Om,bX Om,bX Om,cA Om];rw[show encF m 68++r=(if m.done=true then 1 else 0)::r from rfl,cSv m.done r om];rfl
 .rw[BM rfl];have H:(decide (m.state.aF.length=0)&&nX m.state)=true:=U;rw[bY]at H;have hb:encF m 78++r=encI ((encS m.state).length:Int)++(encS m.state++r):=cE _ _ _;rw[hb]at O⊢;unfold rK tC zG;rw[bX Om,bX Om,bX Om,bX Om,cA Om,cA Om,Yd H.2 om O];rfl
 .rw[BM rfl];have H:(decide (m.state.aY.length=0)&&nX m.state)=true:=U;rw[bY]at H;have hb:encF m 76++r=encI ((encS m.state).length:Int)++(encS m.state++r):=cE _ _ _;rw[hb]at O⊢;unfold rK tC zG;rw[bX Om,bX Om,bX Om,bX Om,bX Om,cA Om,Yd H.2 om O];rfl
 .rw[BM rfl];have H:(decide (m.options.length<=40)&&m.options.all optV)=true:=U;rw[bY,cB,dT]at H;have hb:encF m 79++r=encI (m.options.length:Int)++(m.options.flatMap encO++r):=cE _ _ _;rw[hb]at O⊢;have Z:=H.1;have h1:(m.options.flatMap encO).length<=20000*m.options.length:=wL λ x L=>QJ (Gz (H.2 x L));unfold rK tC zG;rw[bX Om,bX Om,bX Om,bX Om,bX Om,bX Om,cA Om,cSy H.1 H.2 (by rw[cC];omega) O];rfl
def Yg:∀(m:aL) (l:List UInt8) (w:aL),(l.foldl (λ w b=>rC m b.toNat w) w).kind=w.kind
 |m,[],w=>rfl
 |m,b::l,w=>by rw[lR,Yg m l];unfold rC;split<;>rfl
def Yh{m:aL}(h:tG m=true):(mY m.kind).foldl (λ w b=>rC m b.toNat w) {aL.zero with kind:=m.kind}=m:=by
 unfold tG at h;simp only[bY,cB]at h;obtain⟨O,_,hb⟩:=h;have eL:=DM m.kind O;obtain⟨kind,aM,gen,aZ,bE,K,U,Y,M,B,done,F,H⟩:=m;simp only at O eL hb⊢;rcases QR O with rfl|rfl|rfl|rfl|rfl|rfl|rfl|rfl|rfl|rfl|rfl|rfl|rfl|rfl|rfl
 all_goals
  have e:=eL.trans rfl;rw[e]at hb⊢;simp only[bY,QE,cP9,Gx,List.foldl_cons,List.foldl_nil,cB]at hb⊢;simp[clrF,rC,aL.zero]at hb|-
  grind
def cT7(m:aL)(c:Nat):nI (encF m c):=by
 unfold encF;have H:∀x:aO,nI (encL x):=λ x=>(Qb _).app ((pK _).app (pK _));have O:∀o:aP,nI (encO o):=λ o=>(Gl _).app ((pK _).app ((pK _).app ((pK _).app (nI.flat H _))));split
 all_goals first|exact Gl _|exact pK _|exact H _|exact(pK _).app (WY _)|exact(pK _).app (nI.flat O _)|exact nI.nil|skip
 intro x K;rw[dQ]at K;split at K<;>omega
def QV(m:aL):nI (encM m):=(pK _).app (nI.flat (λ b=>cT7 m _) _)
def cT9{m:aL}(h:tG m=true)(z0:(encM m).length<=4064){r:List Int}(hr:nI r)(hl:r.length<=1000):wD (encM m++r)=if r=[]then Bq (⟨[],0⟩,m)else some (aL.zero,6):=by
 obtain⟨hk,hf⟩:=Jt h;have h5:=MQ m.kind;have L:(encM m++r).length<=6000:=by rw[cC];omega
 have B:Src (encM m++r):=⟨(QV m).app hr,by omega⟩;have hb:encM m++r=encI m.kind++((mY m.kind).flatMap (λ b=>encF m b.toNat)++r):=cE _ _ _;rw[hb]at B L⊢;rw[cC]at L;have H:=B.right;unfold wD;rw[show({aT.zero with b:=encI m.kind++((mY m.kind).flatMap (λ b=>encF m b.toNat)++r)}:aT)=⟨encI m.kind++((mY m.kind).flatMap (λ b=>encF m b.toNat)++r),0⟩from rfl,QU (by unfold okI;omega) hk.2 B,eF];simp only;rw[bX (by simp),bX (by unfold AA;simp;omega),DF,eF,gdp om];have F:mF (sO (m.kind,⟨(mY m.kind).flatMap (λ b=>encF m b.toNat)++r,0⟩) nums) (0,⟨(mY m.kind).flatMap (λ b=>encF m b.toNat)++r,0⟩,{aL.zero with kind:=m.kind})=some (.inl (⟨r,0⟩,m)):=by
  have e0:(⟨(mY m.kind).flatMap (λ b=>encF m b.toNat)++r,0⟩,{aL.zero with kind:=m.kind})=((⟨((mY m.kind).drop 0).flatMap (λ b=>encF m b.toNat)++r,0⟩,((mY m.kind).take 0).foldl (λ w b=>rC m b.toNat w) {aL.zero with kind:=m.kind}):aT×aL):=rfl;rw[e0];have O:((Arr.get nL m.kind.toNat ⟨#[]⟩).size:Int)=((mY m.kind).length:Int):=by unfold mY;rw[wK]
  refine QB (body:=sO _ nums) (mY m.kind).length (λ k=>(⟨((mY m.kind).drop k).flatMap (λ b=>encF m b.toNat)++r,0⟩,((mY m.kind).take k).foldl (λ w b=>rC m b.toNat w) {aL.zero with kind:=m.kind})) _ (λ i Z=>?_) ?_
  .have M:=Yg m ((mY m.kind).take i) {aL.zero with kind:=m.kind};have U:=xK (mY m.kind) i 0 Z;have V:=mX (z:=(0:UInt8)) Z;have Y:Src (encF m ((mY m.kind).getD i 0).toNat++(((mY m.kind).drop (i+1)).flatMap (λ b=>encF m b.toNat)++r)):=by
    have hx:(mY m.kind).flatMap (λ b=>encF m b.toNat)++r=((mY m.kind).take i).flatMap (λ b=>encF m b.toNat)++(encF m ((mY m.kind).getD i 0).toNat++(((mY m.kind).drop (i+1)).flatMap (λ b=>encF m b.toNat)++r)):=by
     conv=>lhs;rw[<-eO i (mY m.kind),U]
     simp only[iS,eE,cE]
    rw[hx]at H;exact H.right
   have h0:(((mY m.kind).drop (i+1)).flatMap (λ b=>encF m b.toNat)++r).length<=1000000:=by
    have hx:((mY m.kind).flatMap (λ b=>encF m b.toNat)++r).length=(((mY m.kind).take (i+1)).flatMap (λ b=>encF m b.toNat)).length+(((mY m.kind).drop (i+1)).flatMap (λ b=>encF m b.toNat)++r).length:=by
     conv=>lhs;rw[<-eO (i+1) (mY m.kind)]
     simp only[iS,cE,cC]
    omega
   have K:=cT4 (w:=((mY m.kind).take i).foldl (λ w b=>rC m b.toNat w) {aL.zero with kind:=m.kind}) (hf _ V).1 (hf _ V).2 h0 Y;unfold sO;simp only;rw[M,O,cA (by simp only[cB];omega),gdp (by simp only;omega),gdp om,U];have x0:(Arr.get nL m.kind.toNat ⟨#[]⟩).toList=mY m.kind:=rfl;simp only[Qm,x0,eE,cE];rw[vJ 0 Z,List.foldl_append];unfold xY at K;split
   .rename_i c1;rw[cA c1]at K;obtain⟨k,y0,K⟩:=MZ K;obtain⟨v,hv,K⟩:=MZ K;rw[y0,eF,hv,eF];simp only[cY,hY]at K;unfold Br;rw[K.1,K.2,bX (by simp),mK i om];rfl
   .rename_i c1;rw[bX c1]at K;rw[K,eF];unfold Br;rw[bX (by simp),mK i om];rfl
  .unfold sO;simp only;rw[O,bX (by simp),iT,eU,Yh h];rfl
 rw[F,eF];simp only
 by_cases c:r=[]
 .rw[cA c,c]
 .rw[bX c];unfold Bq;rw[cA (by
   have:r.length≠0:=λ k=>c (gW.1 k);simp only[dB,dE];omega)]
def Yi{m:aL}(h:qC m=true){r:List Int}(O:nI r)(K:r.length<=1000):wD (encM m++r)=some (if r=[]then(m,0)else(aL.zero,6)):=by
 have H:=h;unfold qC at H;rw[bY,cB]at H;rw[cT9 H.1 om O K]
 by_cases c:r=[]
 .rw[cA c,cA c];unfold Bq;rw[bX (by simp),GB,h];rfl
 .rw[bX c,bX c]
def Yj(m:aL):Bp m=some (if qC m=true then(encM m,0)else([],2)):=by
 unfold Bp;rw[GB,eF];cases h:qC m with
 |false=>rfl
 |true=>have H:=h;unfold qC at H;rw[bY]at H;rw[bX Om,QL H.1];rfl
def Yk{b:List Int}(hb:Src b):∃v n e,sL b=some (v,n,e)/\(0<=v/\0<=n/\n<=(b.length:Int))/\(e=0->v<=1073741824->b=encI v++b.drop n.toNat):=by obtain⟨⟨v,n,e⟩,H,ok⟩:=Jf hb.bytes;have O:=ok.n0;have U:=ok.n1;have Y:=ok.v0;refine⟨v,n,e,H,⟨Y,O,U⟩,λ B K=>?_⟩;subst B;exact(Mp hb.bytes H om).2.2.2
def Yl{b:List Int}(hb:Src b):∃s n e,vV b=some (s,n,e)/\(0<=n/\n<=(b.length:Int))/\(e=0->b=encT s++b.drop n.toNat):=by
 obtain⟨⟨s,n,e⟩,H,ok⟩:=WQ hb.bytes hb.len;have O:=ok.n0;have U:=ok.n1;refine⟨s,n,e,H,⟨O,U⟩,λ Y=>?_⟩;subst Y;have:uV (D b)=some (s,D (b.drop n.toNat)):=by unfold uV;rw[bX (by simp)];simp only;rw[H,eF,bX (by simp),gdp (by simp only at O U⊢;omega)]
 exact(Bk.text _ _ _ this rfl).2 hb
def Yn{b:List Int}(hb:Src b):∃p n e,tM b=some (p,n,e)/\(0<=n/\n<=(b.length:Int))/\(e=0->b=encP p++b.drop n.toNat):=by obtain⟨p,n,e,H,O,U⟩:=X8 hb;exact⟨p,n,e,H,⟨O,U⟩,λ Y=>by subst Y;exact W4 hb H⟩
def TT{α:Type}(T:bW->Option (α×bW))(enc:α->List Int)(b:List Int)(at_:Int):Prop:=
 ∃v k,T ⟨b,at_,0⟩=some (v,k)/\k.all=b/\(0<=k.at_/\k.at_<=(b.length:Int))/\(k.err=0->b.drop at_.toNat=enc v++b.drop k.at_.toNat)
def Yo{b:List Int}{a n:Int}(H:0<=a)(O:0<=n):(b.drop a.toNat).drop n.toNat=b.drop (a+n).toNat:=by rw[eV,show(a+n).toNat=a.toNat+n.toNat by omega]
def Jv{lim over:Int}(U:0<=lim)(Z:lim<=1073741824)(ho:over≠0){b:List Int}(hb:Src b)(hl:b.length<=1000000000){at_:Int}(O:0<=at_)(Y:at_<=(b.length:Int)):∃v k,sM lim over ⟨b,at_,0⟩=some (v,k)/\k.all=b/\(0<=k.at_/\k.at_<=(b.length:Int))/\v<=lim/\(k.err=0->0<=v/\b.drop at_.toNat=encI v++b.drop k.at_.toNat):=by
 obtain⟨v,n,e,B,⟨F,M,K⟩,L⟩:=Yk (BL hb at_.toNat);rw[dS]at K;unfold sM;rw[bX (by simp),gdp (by simp only;omega)];simp only;rw[B,eF,tF lim om om];have w:IntKind.i64.wrap (at_+n)=at_+n:=mH om om;split
 .unfold EJ;rw[cA (by simpa using ho)];exact⟨_,_,rfl,rfl,⟨O,Y⟩,U,λ h=>absurd h ho⟩
 .rename_i c;unfold EJ
  by_cases H:e=0
  .have V:v<=lim:=by simpa [H]using c
   rw[bX (by simp[H])];simp only;rw[w,mH (x:=v) om om];refine⟨_,_,rfl,rfl,by simp only;omega,V,λ _=>⟨F,?_⟩⟩;have:=L H om;rw[Yo O M]at this;exact this
  .rw[cA (by simpa using H)];exact⟨_,_,rfl,rfl,⟨O,Y⟩,U,λ h=>absurd h H⟩
def cTh{b:List Int}(hb:Src b)(K:b.length<=1000000000){at_:Int}(H:0<=at_)(F:at_<=(b.length:Int)):TT m8 encT b at_:=by obtain⟨s,n,e,O,⟨U,Y⟩,B⟩:=Yl (BL hb at_.toNat);rw[dS]at Y;unfold TT m8;rw[bX (by simp),gdp (by simp only;omega)];simp only;rw[O,eF];simp only;rw[mH (x:=at_+n) om om];refine⟨_,_,rfl,rfl,by simp only;omega,λ h=>?_⟩;have:=B h;rw[Yo H U]at this;exact this
def cTi{b:List Int}(hb:Src b)(K:b.length<=1000000000):TT o5 encP b 0:=by obtain⟨s,n,e,H,⟨O,U⟩,Y⟩:=Yn hb;unfold TT o5;rw[gdp (by simp only;omega)];simp only[Int.toNat_zero,fF];rw[H,eF];simp only;rw[mH (x:=0+n) om om,lF];exact⟨_,_,rfl,rfl,⟨O,U⟩,λ h=>Y h⟩
def Yp{b:List Int}(hb:Src b)(K:b.length<=1000000000):∀(c:Nat) (a:Int) (o:aP),c<=100->o.lower.length+c<=1000->0<=a->a<=(b.length:Int)->
  ∃k p,mF tZ ((c:Int),⟨b,a,0⟩,o)=some (k,p)/\k.all=b/\(0<=k.at_/\k.at_<=(b.length:Int))/\(k.err=0->∃l:List aO,p=⟨o.aM,o.label,o.cost,o.lower++l⟩/\l.length=c/\b.drop a.toNat=l.flatMap encL++b.drop k.at_.toNat)
 |0,a,o,_,_,L,V=>by
  have:tZ (((0:Nat):Int),⟨b,a,0⟩,o)=some (.inr (⟨b,a,0⟩,o)):=by unfold tZ;rw[bX (by simp)]
  rw[mP,this];exact⟨_,_,rfl,rfl,⟨L,V⟩,λ _=>⟨[],by simp,rfl,rfl⟩⟩
 |c+1,a,o,hc,ho,L,V=>by
  have hw:IntKind.i64.wrap ((((c+1:Nat):Nat):Int)-1)=(c:Int):=by rw[mH om om];omega
  obtain⟨v6,k6,Y,B,⟨F,M⟩,g6⟩:=cTh hb K L V;rw[mP]
  by_cases H:k6.err=0
  case neg=>rw[M0 om rfl om Y (GE _ _ H) (GE _ _ H)];simp only[MY _ _ H];exact⟨_,_,rfl,B,⟨F,M⟩,λ h=>absurd h H⟩
  obtain⟨b',x6,y6⟩:=k6;simp only at B F M g6 H;subst B H;obtain⟨v7,k7,e7,Z,⟨a7,b7⟩,_,g7⟩:=Jv (lim:=1073741824) (over:=16) Om Om Om hb K F M
  by_cases O:k7.err=0
  case neg=>rw[M0 om rfl om Y e7 (GE _ _ O)];simp only[MY _ _ O];exact⟨_,_,rfl,Z,⟨a7,b7⟩,λ h=>absurd h O⟩
  obtain⟨b',x7,y7⟩:=k7;simp only at Z a7 b7 g7 O;subst Z O;obtain⟨v8,k8,e8,q8,⟨a8,b8⟩,_,g8⟩:=Jv (lim:=1073741824) (over:=16) Om Om Om hb K a7 b7;rw[M0 om rfl om Y e7 e8];simp only
  by_cases U:k8.err=0
  case neg=>simp only[MY _ _ U];exact⟨_,_,rfl,q8,⟨a8,b8⟩,λ h=>absurd h U⟩
  obtain⟨b',x8,y8⟩:=k8;simp only at q8 a8 b8 g8 U;subst q8 U;rw[hw];obtain⟨k,p,r1,r2,r3,r4⟩:=Yp hb K c x8 (DP o v6 v7 v8) om (by simp only[DP,cC,Km];omega) a8 b8;refine⟨k,p,r1,r2,r3,λ h=>?_⟩;obtain⟨l,l1,l2,l3⟩:=r4 h;refine⟨⟨v6,⟨v7,v8⟩⟩::l,by rw[l1];simp[DP],by simp[l2],?_⟩;rw[g6 rfl,(g7 rfl).2,(g8 rfl).2,l3];simp only[eE,encL,cE]
def cTk{b:List Int}(hb:Src b)(K:b.length<=1000000000):∃o n e,yW b=some (o,n,e)/\(e=0->(0<=n/\n<=(b.length:Int))/\b=encO o++b.drop n.toNat):=by
 unfold yW;have H:∀(c:Int) (k:bW) (o:aP),k.err≠0->∃o' n e,((mF tZ (c,k,o)).bind λ z=>A7 z)=some (o',n,e)/\(e=0->(0<=n/\n<=(b.length:Int))/\b=encO o'++b.drop n.toNat):=λ c k o F=>by rw[MY c o F,eF,Ya (by exact F)];exact⟨_,_,_,rfl,λ h=>absurd h F⟩
 obtain⟨v1,M,e1,q1,⟨a1,b1⟩,g1⟩:=cTi hb K;rw[show o5 ({bW.zero with all:=b})=some (v1,M)from e1,eF];simp only
 by_cases O:M.err=0
 case neg=>simp only[GE _ _ O,qm];exact H _ _ _ O
 obtain⟨U,x1,y1⟩:=M;simp only at q1 a1 b1 g1 O;subst q1 O;obtain⟨v2,k2,e2,q2,⟨a2,b2⟩,l2,L⟩:=Jv (lim:=1073741824) (over:=16) Om Om Om hb K a1 b1;simp only[e2,qm]
 by_cases Y:k2.err=0
 case neg=>simp only[GE _ _ Y,qm];exact H _ _ _ Y
 obtain⟨U,x2,y2⟩:=k2;simp only at q2 a2 b2 L Y;subst q2 Y;obtain⟨v3,k3,e3,q3,⟨a3,b3⟩,l3,g3⟩:=Jv (lim:=1073741824) (over:=16) Om Om Om hb K a2 b2;simp only[e3,qm]
 by_cases B:k3.err=0
 case neg=>simp only[GE _ _ B,qm];exact H _ _ _ B
 obtain⟨U,x3,y3⟩:=k3;simp only at q3 a3 b3 g3 B;subst q3 B;obtain⟨v4,k4,e4,q4,⟨a4,b4⟩,l4,V⟩:=Jv (lim:=8) (over:=4) Om Om Om hb K a3 b3;simp only[e4,qm]
 by_cases Z:k4.err=0
 case neg=>exact H _ _ _ Z
 obtain⟨U,x4,y4⟩:=k4;simp only at q4 a4 b4 V Z;subst q4 Z;have c4:=(V rfl).1;have c2:=(L rfl).1;obtain⟨k,p,r1,r2,r3,r4⟩:=Yp hb K v4.toNat x4 ⟨v1,IntKind.i64.wrap (v2-1),v3,[]⟩ om (by simp;omega) a4 b4;rw[show((v4.toNat:Nat):Int)=v4 by omega]at r1;rw[show(mF tZ (v4,⟨U,x4,0⟩,(⟨⟨v1.site,v1.inc,v1.num⟩,IntKind.i64.wrap (v2-1),v3,[]⟩:aP)))=some (k,p)from r1,eF]
 by_cases z:k.err=0
 case neg=>rw[Ya (by exact z)];exact⟨_,_,_,rfl,λ h=>absurd h z⟩
 obtain⟨l,p1,p2,p3⟩:=r4 z;unfold A7;rw[cA (by simpa using z),MM,eF];unfold Fa;split
 .exact⟨_,_,_,rfl,λ h=>by simp at h⟩
 .rw[bX (by simp[z])];refine⟨_,_,_,rfl,λ _=>⟨r3,?_⟩⟩;have h0:=g1 rfl;rw[Int.toNat_zero,fF]at h0;have hv2:IntKind.i64.wrap (v2-1)+1=v2:=by rw[mH om om];omega
  simp only[jm]at p1;unfold encO;rw[p1];simp only;rw[hv2,show((l.length:Nat):Int)=v4 by omega]
  conv=>lhs;rw[h0,(L rfl).2,(g3 rfl).2,(V rfl).2,p3]
  simp only[cE]
def TB{α:Type}(R:aT->Option (α×aT))(enc:α->List Int)(b:List Int):Prop:=∃v r,R ⟨b,0⟩=some (v,r)/\(Src r.b/\r.b.length<=b.length)/\(r.err=0->b=enc v++r.b)
def GF{b:List Int}(hb:Src b)(n:Nat):Src (b.drop n)/\(b.drop n).length<=b.length:=⟨BL hb n,by rw[dS];omega⟩
def QW{lim over:Int}(B:0<=lim)(F:lim<=1073741824)(ho:over≠0){b:List Int}(hb:Src b):∃v r,tY lim over ⟨b,0⟩=some (v,r)/\(Src r.b/\r.b.length<=b.length)/\(r.err≠0->v=0)/\(r.err=0->b=encI v++r.b/\0<=v/\v<=lim):=by
 obtain⟨v,n,e,O,⟨U,M,L⟩,Y⟩:=Yk hb;unfold tY;rw[bX (by simp)];simp only;rw[O,eF]
 by_cases H:e=0
 case neg=>rw[cA (by simpa using H)];exact⟨_,_,rfl,⟨hb,dC _⟩,λ _=>rfl,λ h=>absurd h H⟩
 case pos=>
  rw[bX (by simp[H]),gdp (by simp only;omega)];split
  .exact⟨_,_,rfl,GF hb _,λ _=>rfl,λ h=>absurd h ho⟩
  .rename_i c;have K:v<=lim:=by simpa using c
   rw[mH (x:=v) om om];exact⟨_,_,rfl,GF hb _,λ h=>absurd rfl h,λ _=>⟨Y H om,U,K⟩⟩
def M2{b:List Int}(hb:Src b):∃v r,tA ⟨b,0⟩=some (v,r)/\(Src r.b/\r.b.length<=b.length)/\(r.err=0->b=encI v++r.b/\0<=v/\v<=1073741824):=by unfold tA;obtain⟨v,r,e,H,_,O⟩:=QW (lim:=1073741824) (over:=16) Om Om Om hb;rw[e];exact⟨_,_,rfl,H,O⟩
def cTo{b:List Int}(hb:Src b):TB A0 encP b:=by
 obtain⟨p,n,e,O,⟨Y,B⟩,U⟩:=Yn hb;unfold TB A0;rw[bX (by simp)];simp only;rw[O,eF]
 by_cases H:e=0
 case neg=>rw[cA (by simpa using H)];exact⟨_,_,rfl,⟨hb,dC _⟩,λ h=>absurd h H⟩
 case pos=>rw[bX (by simp[H]),gdp (by simp only;omega)];exact⟨_,_,rfl,GF hb _,λ _=>U H⟩
def Yq{b:List Int}(hb:Src b):TB A5 encL b:=by
 obtain⟨s,n,e,F,⟨n0,n1⟩,M⟩:=Yl hb;unfold TB A5;rw[bX (by simp)];simp only;rw[F,eF]
 by_cases H:e=0
 case neg=>rw[cA (by simpa using H)];exact⟨_,_,rfl,⟨hb,dC _⟩,λ h=>absurd h H⟩
 case pos=>
  rw[bX (by simp[H]),gdp (by simp only;omega)];simp only;obtain⟨v2,Y,L,⟨U,K⟩,B⟩:=M2 (BL hb n.toNat);rw[dS]at K;simp only[L,qm]
  by_cases O:Y.err=0
  case neg=>simp only[cSm O,qm];exact⟨_,_,rfl,⟨U,by omega⟩,λ h=>absurd h O⟩
  obtain⟨b2,y2⟩:=Y;simp only at U K B O;subst O;obtain⟨v3,r3,V,⟨Z,l3⟩,k3⟩:=M2 U;simp only[V,qm];refine⟨_,_,rfl,⟨Z,by omega⟩,λ h=>?_⟩;unfold encL;rw[cE,cE,<-(k3 h).1,<-(B rfl).1];exact M H
def cTq{b:List Int}(hb:Src b):TB AF (λ d=>[if d=true then 1 else 0]) b:=by
 unfold TB AF;rw[bX (by simp)];cases b with
 |nil=>rw[cA (by simp)];exact⟨_,_,rfl,⟨hb,dC _⟩,λ h=>by simp at h⟩
 |cons x t=>
  have K:=hb.bytes x (.head _);rw[bX (by simp<;>omega),gdp (by simp<;>omega)];simp only[show(x::t).getD 0 0=x from rfl];split
  .exact⟨_,_,rfl,⟨hb,dC _⟩,λ h=>by simp at h⟩
  .rename_i c;have H:x<=1:=by simpa using c
   rw[gdp (by simp<;>omega),gdp (by simp<;>omega)];refine⟨_,_,rfl,GF hb 1,λ _=>?_⟩;have:x=0\/x=1:=om
   rcases this with rfl|rfl<;>rfl
def Yr{b:List Int}(hb:Src b):TB De (λ s=>encI ((encS s).length:Int)++encS s) b:=by
 unfold TB De;obtain⟨n,r,e,⟨H,U⟩,B⟩:=M2 hb;rw[e,eF]
 by_cases z:r.err=0
 case neg=>rw[cA (by simpa using z)];exact⟨_,_,rfl,⟨H,U⟩,λ h=>absurd h z⟩
 obtain⟨F,y⟩:=r;simp only at H U B z;subst z;obtain⟨Z,M,n1⟩:=B rfl;rw[bX (by simp)]
 by_cases c:(F.length:Int)<n
 .rw[cA (by simpa using c)];exact⟨_,_,rfl,⟨H,U⟩,λ h=>by simp at h⟩
 .rw[bX (by simpa using c)];simp only;rw[gdp ⟨by decide,M,by omega,trivial⟩];have st:Src (F.take n.toNat):=⟨λ x hx=>H.bytes x (gD hx),by have:=H.len;rw[dD];omega⟩;obtain⟨⟨s,e2⟩,L⟩:=cSf st;rw[L,eF]
  by_cases Y:e2=0
  case neg=>rw[cA (by simpa using Y)];exact⟨_,_,rfl,⟨H,U⟩,λ h=>absurd h Y⟩
  subst Y;rw[bX (by simp),gdp ⟨M,by omega,by omega⟩];have V:=GF H n.toNat;refine⟨_,_,rfl,⟨V.1,by have:=V.2;simp only;omega⟩,λ _=>?_⟩;have O:=(cJt st L).2;have K:((encS s).length:Int)=n:=by rw[<-O,dD];omega
  rw[K,<-O,cE,eO];exact Z
def Ys(v1:Int×aT):∀(k:Nat) (i:Nat) (b:List Int) (acc:List aP),(i:Int)+k=v1.1->v1.1<=40->acc.length<=i->Src b->b.length<=1000000000->
  ∃y,mF (tB v1) ((i:Int),⟨b,0⟩,acc)=some y/\((∃r l,y=.inl (r,acc++l)/\l.length=k/\r.err=0/\(Src r.b/\r.b.length<=b.length)/\b=l.flatMap encO++r.b)\/∃z r,y=.inr (z,r)/\r.err≠0/\(Src r.b/\r.b.length<=b.length))
 |0,i,b,acc,L,_,_,hb,_=>by
  have:tB v1 ((i:Int),⟨b,0⟩,acc)=some (.inr (.inl (⟨b,0⟩,acc))):=by unfold tB;rw[bX (by simp only[cB];omega)]
  rw[mP,this];exact⟨_,rfl,.inl ⟨⟨b,0⟩,[],by simp,rfl,rfl,⟨hb,dC _⟩,rfl⟩⟩
 |k+1,i,b,acc,L,K,ha,hb,V=>by
  obtain⟨o,n,e,B,M⟩:=cTk hb V;rw[mP]
  by_cases H:e=0
  case neg=>
   have:tB v1 ((i:Int),⟨b,0⟩,acc)=some (.inr (.inr ([],⟨b,e⟩))):=by unfold tB;rw[cA (by simp only[cB];omega)];simp only;rw[B,eF,cA (by simpa using H)]
   rw[this];exact⟨_,rfl,.inr ⟨_,_,rfl,H,hb,dC _⟩⟩
  case pos=>
   subst H;obtain⟨⟨n0,n1⟩,h⟩:=M rfl;have:tB v1 ((i:Int),⟨b,0⟩,acc)=some (.inl (((i+1:Nat):Int),⟨b.drop n.toNat,0⟩,acc++[o])):=by unfold tB;rw[cA (by simp only[cB];omega)];simp only;rw[B,eF,bX (by simp),gdp (by simp only;omega),gdp om,mK i om]
   rw[this];simp only;have Z:=GF hb n.toNat;obtain⟨y,e1,r1⟩:=Ys v1 k (i+1) (b.drop n.toNat) (acc++[o]) om K (by simp;omega) Z.1 om;refine⟨y,e1,?_⟩;rcases r1 with⟨r,l,O,U,Y,⟨F,p5⟩,p6⟩|⟨z,r,O,U,Y,F⟩
   .refine .inl ⟨r,o::l,by rw[O,cE];rfl,by simp[U],Y,⟨F,by omega⟩,?_⟩;rw[eE,cE,<-p6];exact h
   .exact .inr ⟨z,r,O,U,Y,by omega⟩
def cTt{b:List Int}(hb:Src b)(hl:b.length<=1000000000):TB yX (λ l=>encI (l.length:Int)++l.flatMap encO) b:=by
 unfold TB yX;obtain⟨n,r,e,⟨O,U⟩,K,Y⟩:=QW (lim:=40) (over:=4) Om Om Om hb;rw[e,eF];simp only
 by_cases z:r.err=0
 case neg=>
  have L:=K z;subst L;have:tB (0,r) (0,r,[])=some (.inr (.inl (r,[]))):=by unfold tB;rw[bX (by simp)]
  rw[mP,this];exact⟨_,_,rfl,⟨O,U⟩,λ h=>absurd h z⟩
 obtain⟨H,y⟩:=r;simp only at O U Y z;subst z;obtain⟨V,n0,n1⟩:=Y rfl;obtain⟨y,Z,r1⟩:=Ys (n,⟨H,0⟩) n.toNat 0 H [] (by simp only;omega) (by simp only;omega) (by simp) O om;rw[show((0:Int),(⟨H,0⟩:aT),([]:List aP))=(((0:Nat):Int),⟨H,0⟩,[])from rfl,Z,eF];rcases r1 with⟨r,l,rfl,B,F,⟨M,p5⟩,p6⟩|⟨z,r,rfl,B,F,M⟩
 .refine⟨l,r,rfl,⟨M,by omega⟩,λ _=>?_⟩;rw[show((l.length:Nat):Int)=n by omega,cE,<-p6];exact V
 .exact⟨_,_,rfl,⟨F,by omega⟩,λ h=>absurd h B⟩
def cTu{w:aL}{c:Nat}(Y:c∈rP){b:List Int}(hb:Src b)(hl:b.length<=1000000000):∃r w',xY (c:Int) ⟨b,0⟩ w=some (r,w')/\(Src r.b/\r.b.length<=b.length)/\∃x,w'=rC x c w/\(r.err=0->b=encF x c++r.b):=by
 have H:∀{n:bL} {k:Nat},oF (c:Int) nums=some n->oP n.of=some k->(n.plus=0\/n.plus=1)->(∀v:Int,sD w k v=rC (sD w k v) c w)->(∀v:Int,0<=v->v<=1073741824->encF (sD w k (v-n.plus)) c=encI v)->
   ∃r w',xY (c:Int) ⟨b,0⟩ w=some (r,w')/\(Src r.b/\r.b.length<=b.length)/\∃x,w'=rC x c w/\(r.err=0->b=encF x c++r.b):=λ{n k} K L hp V Z=>by
  obtain⟨v,r,e,B,F⟩:=M2 hb;unfold xY;rw[K];simp only[Option.isSome_some,cH,Xm,L,qm,e];refine⟨_,_,rfl,B,_,V _,λ M=>?_⟩;obtain⟨g,g0,g1⟩:=F M;rw[mH om om,Z v g0 g1];exact g
 have O:∀{α:Type} {R:aT->Option (α×aT)} {enc:α->List Int} (f:α->aL),oF (c:Int) nums=none->TB R enc b->(∀U,rK (c:Int) U w=(R U).bind λ v=>some (v.2,f v.1))->(∀v,f v=rC (f v) c w)->(∀v,encF (f v) c=enc v)->
   ∃r w',xY (c:Int) ⟨b,0⟩ w=some (r,w')/\(Src r.b/\r.b.length<=b.length)/\∃x,w'=rC x c w/\(r.err=0->b=encF x c++r.b):=λ{α R enc} f K hT L V Z=>by
  obtain⟨v,r,e,B,F⟩:=hT;rw[BM K,L,e];exact⟨_,_,rfl,B,_,V v,λ M=>by rw[Z];exact F M⟩
 unfold rP at Y;simp only[cK,eP,gT]at Y;rcases Y with rfl|rfl|rfl|rfl|rfl|rfl|rfl|rfl|rfl|rfl|rfl|rfl|rfl|rfl
 .exact O (λ v=>{w with aM:=v}) rfl (cTo hb) (λ U=>by unfold rK;rw[cA Om]) (λ _=>rfl) (λ _=>rfl)
 .exact H (n:=⟨64,0,1073741824,0⟩) (k:=0) rfl rfl (.inl rfl) (λ _=>rfl) (λ v _ _=>by show encI (v-0)=_;rw[jH])
 .exact H (n:=⟨65,0,1073741824,0⟩) (k:=1) rfl rfl (.inl rfl) (λ _=>rfl) (λ v _ _=>by show encI (v-0)=_;rw[jH])
 .exact H (n:=⟨66,0,1073741824,0⟩) (k:=2) rfl rfl (.inl rfl) (λ _=>rfl) (λ v _ _=>by show encI (v-0)=_;rw[jH])
 .exact H (n:=⟨67,0,7,0⟩) (k:=3) rfl rfl (.inl rfl) (λ _=>rfl) (λ v _ _=>by show encI (v-0)=_;rw[jH])
 .exact H (n:=⟨68,0,3,0⟩) (k:=4) rfl rfl (.inl rfl) (λ _=>rfl) (λ v _ _=>by show encI (v-0)=_;rw[jH])
 .exact H (n:=⟨69,1,99,0⟩) (k:=5) rfl rfl (.inl rfl) (λ _=>rfl) (λ v _ _=>by show encI (v-0)=_;rw[jH])
 .exact H (n:=⟨70,-1,99,1⟩) (k:=6) rfl rfl (.inr rfl) (λ _=>rfl) (λ v _ _=>by show encI (v-1+1)=_;rw[Int.sub_add_cancel])
 .exact O (λ v=>{w with aZ:=v}) rfl (Yq hb) (λ U=>by unfold rK tC;rw[bX Om,cA Om,cA Om]) (λ _=>rfl) (λ _=>rfl)
 .exact O (λ v=>{w with aZ:=v}) rfl (Yq hb) (λ U=>by unfold rK tC;rw[bX Om,bX Om,cA Om]) (λ _=>rfl) (λ _=>rfl)
 .exact O (λ v=>{w with done:=v}) rfl (cTq hb) (λ U=>by unfold rK tC;rw[bX Om,bX Om,bX Om,cA Om]) (λ _=>rfl) (λ _=>rfl)
 .exact O (λ v=>{w with state:=v}) rfl (Yr hb) (λ U=>by unfold rK tC zG;rw[bX Om,bX Om,bX Om,bX Om,cA Om,cA Om]) (λ _=>rfl) (λ _=>rfl)
 .exact O (λ v=>{w with state:=v}) rfl (Yr hb) (λ U=>by unfold rK tC zG;rw[bX Om,bX Om,bX Om,bX Om,bX Om,cA Om]) (λ _=>rfl) (λ _=>rfl)
 .exact O (λ v=>{w with options:=v}) rfl (cTt hb hl) (λ U=>by unfold rK tC zG;rw[bX Om,bX Om,bX Om,bX Om,bX Om,bX Om,cA Om]) (λ _=>rfl) (λ _=>rfl)
def M3(c:Nat):Nat:=if c=97 then 65 else if c=76 then 78 else c
def cTw{c d:Nat}(H:c∈rP)(O:d∈rP)(h:M3 c≠M3 d)(x w:aL):encF (rC x d w) c=encF w c:=by
 unfold rP at H O;simp only[cK,eP,gT]at H O;rcases H with rfl|rfl|rfl|rfl|rfl|rfl|rfl|rfl|rfl|rfl|rfl|rfl|rfl|rfl<;>
  rcases O with rfl|rfl|rfl|rfl|rfl|rfl|rfl|rfl|rfl|rfl|rfl|rfl|rfl|rfl<;>first|rfl|exact absurd rfl h
def cTx{c:Nat}(H:c∈rP)(x w:aL):encF (rC x c w) c=encF x c:=by unfold rP at H;simp only[cK,eP,gT]at H;rcases H with rfl|rfl|rfl|rfl|rfl|rfl|rfl|rfl|rfl|rfl|rfl|rfl|rfl|rfl<;>rfl
def cTy(x:aL)(c:Nat)(w:aL):(rC x c w).kind=w.kind:=by unfold rC;split<;>rfl
def cTz{k:Int}(h:1<=k/\k<=15):(mY k).Pairwise λ a b=>M3 a.toNat≠M3 b.toNat:=by rw[DM k h];rcases QR h with e|e|e|e|e|e|e|e|e|e|e|e|e|e|e<;>rw[e]<;>decide
def cU0{b:List Int}(hb:Src b)(hl:b.length<=1000000000):∃m e,wD b=some (m,e)/\(e=0->qC m=true/\b=encM m):=by
 unfold wD;obtain⟨k,r,e,⟨s1,l1⟩,_,k1⟩:=QW (lim:=15) (over:=6) Om Om Om hb;rw[show tY 15 6 ({aT.zero with b:=b})=some (k,r)from e,eF];simp only
 by_cases z:r.err=0
 case neg=>rw[cA (by simpa using z)];exact⟨_,_,rfl,λ h=>absurd h z⟩
 obtain⟨Y,y⟩:=r;simp only at s1 l1 k1 z;subst z;obtain⟨hk,k0,q0⟩:=k1 rfl;rw[bX (by simp)]
 by_cases h0:1<=k/\k<=15
 case neg=>rw[cA (by unfold AA;simp;omega)];exact⟨_,_,rfl,λ h=>by simp at h⟩
 rw[bX (by unfold AA;simp;omega),DF,eF,gdp om];have B:((Arr.get nL k.toNat ⟨#[]⟩).size:Int)=((mY k).length:Int):=by unfold mY;rw[wK]
 have h5:=MQ k;have F:=QI (k:=k) om;have x0:=cTz h0;obtain⟨y,e1,hy⟩:=Gw (body:=sO (k,⟨Y,0⟩) nums) (mY k).length
  (λ i g=>g.1.err=0/\(Src g.1.b/\g.1.b.length<=b.length)/\g.2.kind=k/\Y=((mY k).take i).flatMap (λ c=>encF g.2 c.toNat)++g.1.b)
  (λ y=>match y with|.inl g=>(g.1.err=0/\g.2.kind=k)/\Y=(mY k).flatMap (λ c=>encF g.2 c.toNat)++g.1.b|.inr g=>g.2≠0)
  (λ i g hi ⟨V,⟨g2,g3⟩,K,L⟩=>by
   obtain⟨⟨b2,y2⟩,w⟩:=g;simp only at V g2 g3 K L;subst V;have Z:=mX (z:=(0:UInt8)) hi;have U:=F _ Z;obtain⟨r,w',H,⟨t2,t3⟩,x,t4,t5⟩:=cTu (w:=w) U g2 om;have y0:sO (k,⟨Y,0⟩) nums ((i:Int),⟨b2,0⟩,w)=Br ((i:Int),⟨b2,0⟩,w) (r,w'):=by
    unfold sO;simp only;rw[K,B,cA (by simp only[cB];omega),gdp om,gdp om];have M:(Arr.get nL k.toNat ⟨#[]⟩).toList=mY k:=rfl;simp only[Qm,M];unfold xY at H;split
    .rename_i c1;rw[cA c1]at H;obtain⟨kk,u0,H⟩:=MZ H;obtain⟨v,hv,H⟩:=MZ H;rw[u0,eF,hv,eF];simp only[cY,hY]at H;rw[H.1,H.2]
    .rename_i c1;rw[bX c1]at H;rw[H,eF]
   rw[y0];unfold Br
   by_cases zr:r.err=0
   .left;rw[bX (by simp[zr]),mK i om];refine⟨_,rfl,zr,⟨t2,by simp only;omega⟩,by rw[t4,cTy];exact K,?_⟩;rw[vJ 0 hi,iS,eE,lB,dY,cE];have p0:((mY k).take i).flatMap (λ c=>encF w' c.toNat)=((mY k).take i).flatMap (λ c=>encF w c.toNat):=by
     rw[List.flatMap_def,List.flatMap_def];congr 1;refine jI λ c hc=>?_;obtain⟨j,hj,rfl⟩:=wO (z:=(0:UInt8)) hc;rw[dD]at hj;rw[O7 _ _ _ _ om,t4];have hp:=eZ.1 x0 j i om hi om;refine cTw (F _ (mX om)) U ?_ x w;rw[Au _ _ _ (show j<(mY k).length by omega),Au _ _ _ hi];exact hp
    rw[p0,t4,cTx U,<-t5 zr];exact L
   .right;rw[cA (by simpa using zr)];exact⟨_,rfl,zr⟩) (λ g ⟨V,⟨g2,g3⟩,K,L⟩=>by
   obtain⟨⟨b2,y2⟩,w⟩:=g;simp only at V K L;refine⟨.inl (⟨b2,y2⟩,w),?_,⟨V,K⟩,?_⟩
   .unfold sO;simp only;rw[B,bX (by simp)]
   .rw[eU]at L;exact L) (⟨Y,0⟩,{aL.zero with kind:=k}) ⟨rfl,⟨s1,l1⟩,rfl,rfl⟩
 rw[e1,eF];rcases y with⟨r,w⟩|⟨x,e⟩
 .obtain⟨⟨q1,q2⟩,q3⟩:=hy;simp only at q1 q2 q3⊢;unfold Bq
  by_cases z0:((r.b.length:Nat):Int)=0
  case neg=>rw[cA (by simpa using z0)];exact⟨_,_,rfl,λ h=>by simp at h⟩
  have O:r.b=[]:=gW.1 om;rw[bX (by simp[O]),GB,eF];cases hv:qC w with
  |false=>exact⟨_,_,rfl,λ h=>by simp at h⟩
  |true=>refine⟨_,_,rfl,λ _=>⟨hv,?_⟩⟩;rw[O,dY]at q3;unfold encM;rw[q2,<-q3];exact hk
 .exact⟨_,_,rfl,λ h=>absurd h hy⟩
def cU1{a b:aL}(K:qC a=true)(hb:qC b=true)(h:encM a=encM b):a=b:=by have H:=Yi K (r:=[]) nI.nil (by simp);have O:=Yi hb (r:=[]) nI.nil (by simp);rw[dY,cA rfl]at H O;rw[h,O]at H;simp only[cY,hY]at H;exact H.1.symm
def Dec(o:Option Bool)(P:Prop):Prop:=∃r,o=some r/\(r=true↔P)
def eqf{α:Type}{a b:List α}(z:α){R:α->α->Prop}{F:α->α->Option Bool}{body:Int->Option (Int⊕(Unit⊕Bool))}(hl:a.length<=1000000)(U:∀x∈a,∀y,Dec (F x y) (R x y))
  (hb:∀i:Nat,i<a.length->i<b.length->body (i:Int)=(F (a.getD i z) (b.getD i z)).bind λ v=>if(!v)=true then some (.inr (.inr false))else some (.inl ((i+1:Nat):Int)))
  (Y:body (a.length:Int)=some (.inr (.inl ()))):
  Dec (if(!decide ((a.length:Int)=(b.length:Int)))=true then some false else(mF body 0).bind (λ|.inl _=>some true|.inr z=>some z)) (a.length=b.length/\∀i,i<a.length->R (a.getD i z) (b.getD i z)):=by
 by_cases c:a.length=b.length
 case neg=>exact⟨false,by rw[cA (by simp;omega)],by simp[c]⟩
 case pos=>
  rw[bX (by simp;omega)];obtain⟨y,e,V⟩:=nZ (body:=body) (λ g=>∃k:Nat,g=k/\k<=a.length/\∀i,i<k->R (a.getD i z) (b.getD i z)) (λ g=>a.length-g.toNat)
   (λ y=>y=.inl ()/\(∀i,i<a.length->R (a.getD i z) (b.getD i z))\/y=.inr false/\¬∀i,i<a.length->R (a.getD i z) (b.getD i z)) (λ g ⟨k,Z,hkl,K⟩=>by
   subst Z
   by_cases H:k<a.length
   .obtain⟨r,B,O⟩:=U _ (mX (z:=z) H) (b.getD k z);rw[hb k H om,B,eF];cases r with
    |true=>
     left;refine⟨_,rfl,⟨k+1,rfl,H,λ i L=>?_⟩,by simp only[Qm];omega⟩
     by_cases h:i=k
     .rw[h];exact O.1 rfl
     .exact K i om
    |false=>right;exact⟨_,rfl,.inr ⟨rfl,λ h=>by have:=O.2 (h k H);cases this⟩⟩
   .have:k=a.length:=om
    subst this;right;exact⟨_,Y,.inl ⟨rfl,K⟩⟩) 0 ⟨0,rfl,by omega,λ i L=>om⟩
  rw[e];rcases V with⟨rfl,h⟩|⟨rfl,h⟩
  .exact⟨true,rfl,by simp[c];intro i L;exact h i om⟩
  .exact⟨false,rfl,by simp only[bZ,kZ];exactλ k=>h k.2⟩
def cU2{α:Type}{a b:List α}(z:α):(a.length=b.length/\∀i,i<a.length->a.getD i z=b.getD i z)↔a=b:=by
 constructor
 .rintro⟨h,k⟩;refine jX h λ i H O=>?_;have:=k i H;rwa [Au _ _ _ H,Au _ _ _ O]at this
 .rintro rfl;exact⟨rfl,λ _ _=>rfl⟩
def eqf'{α:Type}{a b:List α}(z:α){F:α->α->Option Bool}{body:Int->Option (Int⊕(Unit⊕Bool))}(K:a.length<=1000000)(H:∀x∈a,∀y,Dec (F x y) (x=y))
  (hb:∀i:Nat,i<a.length->i<b.length->body (i:Int)=(F (a.getD i z) (b.getD i z)).bind λ v=>if(!v)=true then some (.inr (.inr false))else some (.inl ((i+1:Nat):Int)))
  (O:body (a.length:Int)=some (.inr (.inl ()))):
  Dec (if(!decide ((a.length:Int)=(b.length:Int)))=true then some false else(mF body 0).bind (λ|.inl _=>some true|.inr z=>some z)) (a=b):=by
 obtain⟨r,e,h⟩:=eqf z K H hb O;exact⟨r,e,h.trans (cU2 z)⟩
def and1{c:Bool}{P Q S:Prop}{o:Option Bool}{K:Bool->Option Bool}(H:c=true↔P)(h:P->Dec o Q)(k:∀v,((c&&v)=true↔P/\Q)->Dec (K v) S):Dec ((if c=true then o else some false).bind K) S:=by
 cases c with
 |false=>
  have U:¬P:=λ p=>by have:=H.2 p;cases this
  exact k false (by simp[U])
 |true=>have O:=H.1 rfl;obtain⟨r,e,i⟩:=h O;rw[cA rfl,e];exact k r (by simp[O,i])
def eqAt(a b:List aO)(K:a.length<=1000000):Dec (Cc a b) (a=b):=by
 unfold Cc;exact eqf' aO.zero (F:=λ x y=>some (decide (x=y))) K (λ x _ y=>⟨_,rfl,iF⟩) (λ i H O=>by
  unfold Kx;rw[cA (by simpa using H),gdp om,gdp om,mK i om];rfl) (by unfold Kx;simp)
def eqHd(a b:List bA)(K:a.length<=1000000):Dec (B4 a b) (a=b):=by
 unfold B4;exact eqf' bA.zero (F:=λ x y=>some (decide (x=y))) K (λ x _ y=>⟨_,rfl,iF⟩) (λ i H O=>by
  unfold Ke;rw[cA (by simpa using H),gdp om,gdp om,mK i om];rfl) (by unfold Ke;simp)
def eqWt(a b:List aV)(K:a.length<=1000000):Dec (AI a b) (a=b):=by
 unfold AI;exact eqf' aV.zero (F:=λ x y=>some (decide (x=y))) K (λ x _ y=>⟨_,rfl,iF⟩) (λ i H O=>by
  unfold KE;rw[cA (by simpa using H),gdp om,gdp om,mK i om];rfl) (by unfold KE;simp)
def alW(a b:List aV)(K:a.length<=1000000):Dec (Cu a b) (a.length=b.length/\∀i,i<a.length->({a.getD i aV.zero with bS:=0}:aV)={b.getD i aV.zero with bS:=0}):=by
 unfold Cu;exact eqf (body:=Hy a b) aV.zero (R:=λ x y=>({x with bS:=0}:aV)={y with bS:=0}) (F:=λ x y=>some (Hm x y)) K (λ x _ y=>⟨_,rfl,by unfold Hm;exact iF⟩) (λ i H O=>by
  unfold Hy;rw[cA (by simpa using H),gdp om,gdp om,mK i om];rfl) (by unfold Hy;simp)
def GG{o:Option Bool}{P Q:Prop}(h:Dec o P)(k:P↔Q):Dec o Q:=by obtain⟨r,e,i⟩:=h;exact⟨r,e,i.trans k⟩
def eqQu(a b:aA)(L:a.aS.length<=1000000)(V:a.aN.length<=1000000)(U:a.aW.length<=1000000):Dec (CH a b) (a=b):=by
 have al:Dec (Cy a b) (((a.aB=b.aB/\a.aS=b.aS)/\a.aN=b.aN)/\(a.aW.length=b.aW.length/\∀i,i<a.aW.length->({a.aW.getD i aV.zero with bS:=0}:aV)={b.aW.getD i aV.zero with bS:=0})):=by unfold Cy;exact and1 iF (λ _=>eqHd _ _ L) λ v1 H=>and1 H (λ _=>eqWt _ _ V) λ v2 O=>and1 O (λ _=>alW _ _ U) λ v3 i3=>⟨_,rfl,i3⟩
 unfold CH;refine GG (P:=(a.gen=b.gen/\(((a.aB=b.aB/\a.aS=b.aS)/\a.aN=b.aN)/\(a.aW.length=b.aW.length/\∀i,i<a.aW.length->({a.aW.getD i aV.zero with bS:=0}:aV)={b.aW.getD i aV.zero with bS:=0})))/\a.aW=b.aW) (and1 iF (λ _=>al) λ v1 H=>and1 H (λ _=>eqWt _ _ U) λ v2 O=>⟨_,rfl,O⟩) ?_;constructor
 .rintro⟨⟨Y,⟨⟨B,F⟩,M⟩,_⟩,K⟩;obtain⟨r,hs,cs,ws,g⟩:=a;obtain⟨r',Z,x0,y0,g'⟩:=b;simp only at Y B F M K;subst Y B F M K;rfl
 .rintro rfl;exact⟨⟨rfl,⟨⟨rfl,rfl⟩,rfl⟩,rfl,λ _ _=>rfl⟩,rfl⟩
def eqEx:∀(n:Nat) (e f:aR),_root_.SizeOf.sizeOf e<n->widE e=true->Dec (AR n e f) (e=f)
 |0,e,f,h,_=>absurd h (lG _)
 |n+1,e,f,h,K=>by
  show Dec (EK (AR n) e f) _;unfold EK;rw[QP,bY,cB]at K;refine GG (P:=(e.k=f.k/\e.aZ=f.aZ)/\e.bG=f.bG) (and1 (by rw[bY,cB,cB]) (λ _=>?_) λ v i=>⟨_,rfl,i⟩) ?_
  .unfold Cg;exact eqf' (body:=Hn (AR n) e.bG f.bG) aR.zero (F:=AR n) K.1 (λ x L y=>eqEx n x y (xS h L) (QQ K.2 L)) (λ i H O=>by
    unfold Hn;rw[cA (by simpa using H),gdp om,gdp om,mK i (by have:=K.1;omega)];rfl) (by unfold Hn;simp)
  .obtain⟨k,a,l⟩:=e;obtain⟨k',U,Y⟩:=f;simp only;constructor
   .rintro⟨⟨rfl,rfl⟩,rfl⟩;rfl
   .intro h;cases h;exact⟨⟨rfl,rfl⟩,rfl⟩
def eqNd(a b:bR)(h:widE a.bU=true):Dec (CD a b) (a=b):=by
 unfold CD KR;refine GG (P:=(a.aM=b.aM/\a.gen=b.gen)/\a.bU=b.bU) (and1 (by rw[bY,cB,cB]) (λ _=>eqEx _ _ _ (eQ _) h) λ v i=>⟨_,rfl,i⟩) ?_;obtain⟨p,e,g⟩:=a;obtain⟨H,O,U⟩:=b;simp only;constructor
 .rintro⟨⟨rfl,rfl⟩,rfl⟩;rfl
 .intro h;cases h;exact⟨⟨rfl,rfl⟩,rfl⟩
def eqSt(a b:aH)(U:a.aF.length<=1000000)(H:Lens a.aF)(Y:a.aY.length<=1000000)(L:∀n∈a.aY,widE n.bU=true):Dec (p8 a b) (a=b):=by
 have B:Dec (A2 a.aF b.aF) (a.aF=b.aF):=by
  unfold A2;exact eqf' (body:=HT a.aF b.aF) aA.zero (F:=CH) U (λ x K y=>eqQu x y (by have:=H x K;omega) (by have:=H x K;omega) (by have:=H x K;omega)) (λ i O M=>by
   unfold HT;rw[cA (by simpa using O),gdp om,gdp om,mK i om];rfl) (by unfold HT;simp)
 have V:Dec (A1 a.aY b.aY) (a.aY=b.aY):=by
  unfold A1;exact eqf' (body:=HS a.aY b.aY) bR.zero (F:=CD) Y (λ x K y=>eqNd x y (L x K)) (λ i O M=>by
   unfold HS;rw[cA (by simpa using O),gdp om,gdp om,mK i om];rfl) (by unfold HS;simp)
 unfold p8;obtain⟨v1,Z,i1⟩:=B;rw[Z,eF];refine GG (and1 i1 (λ _=>V) λ v i=>⟨_,rfl,i⟩) ?_;obtain⟨q,n⟩:=a;obtain⟨q',n'⟩:=b;simp only;constructor
 .rintro⟨rfl,rfl⟩;rfl
 .intro h;cases h;exact⟨rfl,rfl⟩
def eqOp(a b:aP)(h:a.lower.length<=1000000):Dec (Cm a b) (a=b):=by
 unfold Cm;refine GG (P:=((a.aM=b.aM/\a.label=b.label)/\a.cost=b.cost)/\a.lower=b.lower) (and1 (by rw[bY,bY,cB,cB,cB]) (λ _=>eqAt _ _ h) λ v i=>⟨_,rfl,i⟩) ?_;obtain⟨p,l,c,o⟩:=a;obtain⟨H,O,U,Y⟩:=b;simp only;constructor
 .rintro⟨⟨⟨rfl,rfl⟩,rfl⟩,rfl⟩;rfl
 .intro h;cases h;exact⟨⟨⟨rfl,rfl⟩,rfl⟩,rfl⟩
def cU4(a b:aL)(hm:FitM a)(Z:∀o∈a.options,o.lower.length<=1000000):Dec (q9 a b) (a=b):=by
 have e1:Dec (m9 a.options b.options) (a.options=b.options):=by
  have ho:=hm.o;unfold m9;exact eqf' (body:=HB a.options b.options) aP.zero (F:=Cm) ho (λ x hx y=>eqOp x y (Z x hx)) (λ i h1 h2=>by
   unfold HB;rw[cA (by simpa using h1),gdp om,gdp om,mK i om];rfl) (by unfold HB;simp)
 have e2:=eqSt a.state b.state hm.q hm.s hm.n hm.w;have k:Dec (A9 a b ()) ((((a.kind=b.kind/\a.aM=b.aM)/\a.aZ=b.aZ)/\a.done=b.done)/\a.options=b.options/\a.state=b.state):=by
  unfold A9
  by_cases c:((a.kind=b.kind/\a.aM=b.aM)/\a.aZ=b.aZ)/\a.done=b.done
  .rw[bX (by simp[c])];obtain⟨v1,x1,i1⟩:=e1;rw[x1,eF];exact GG (and1 i1 (λ _=>e2) λ v i=>⟨_,rfl,i⟩) ⟨λ h=>⟨c,h⟩,λ h=>h.2⟩
  .rw[cA (by
    simp only[dU,dB,dE]
    by_cases K:a.kind=b.kind
    .by_cases L:a.aM=b.aM
     .by_cases V:a.aZ=b.aZ
      .exact .inr λ c4=>c ⟨⟨⟨K,L⟩,V⟩,c4⟩
      .exact .inl (.inr V)
     .exact .inl (.inl (.inr L))
    .exact .inl (.inl (.inl K)))]
   exact⟨false,rfl,by simp only[bZ,kZ];exactλ h=>c h.1⟩
 obtain⟨r,x,i⟩:=k;refine⟨_,X2 a b x,?_⟩
 by_cases O:DN a b
 .rw[cA O,i];unfold DN at O;obtain⟨d0,aM,gen,aZ,bE,l0,y0,z0,e0,u0,done,p0,Y⟩:=a;obtain⟨q0,r0,f0,s0,H,g0,B,M,t0,h0,c0,x0,U⟩:=b;simp only at O⊢;obtain⟨rfl,rfl,rfl,rfl,rfl,rfl,rfl⟩:=O;constructor
  .rintro⟨⟨⟨⟨rfl,rfl⟩,rfl⟩,rfl⟩,rfl,rfl⟩;rfl
  .intro h;cases h;exact⟨⟨⟨⟨rfl,rfl⟩,rfl⟩,rfl⟩,rfl,rfl⟩
 .rw[bX O];constructor
  .intro h;cases h
  .rintro rfl;exact absurd ⟨rfl,rfl,rfl,rfl,rfl,rfl,rfl⟩ O
def cU5{m:aL}(h:tG m=true):FitM m/\∀o∈m.options,o.lower.length<=1000000:=by
 obtain⟨hk,B⟩:=Jt h;have U:=Yh h;have hs:m.state=aH.zero\/nX m.state=true:=by
  by_cases c:(78:UInt8)∈mY m.kind
  .have:=(B _ c).2;have:(decide (m.state.aF.length=0)&&nX m.state)=true:=this;rw[bY]at this;exact .inr this.2
  by_cases L:(76:UInt8)∈mY m.kind
  .have:=(B _ L).2;have:(decide (m.state.aY.length=0)&&nX m.state)=true:=this;rw[bY]at this;exact .inr this.2
  left;have H:∀(l:List UInt8) (w:aL),78∉l->76∉l->(l.foldl (λ w b=>rC m b.toNat w) w).state=w.state:=by
   intro l;induction l with
   |nil=>intro w _ _;rfl
   |cons b l F=>intro w Y V;rw[lR,F _ (λ k=>Y (.tail _ k)) (λ k=>V (.tail _ k))];have M:b.toNat≠78:=λ k=>Y (by rw[show b=78 from kF.1 k];exact .head _);have n2:b.toNat≠76:=λ k=>V (by rw[show b=76 from kF.1 k];exact .head _);unfold rC;split<;>first|rfl|exact absurd (by assumption) M|exact absurd (by assumption) n2
  have:=H (mY m.kind) {aL.zero with kind:=m.kind} c L;rw[U]at this;exact this
 have Z:m.options=[]\/(m.options.length<=40/\∀o∈m.options,optV o=true):=by
  by_cases c:(79:UInt8)∈mY m.kind
  .have:=(B _ c).2;have:(decide (m.options.length<=40)&&m.options.all optV)=true:=this;rw[bY,cB,dT]at this;exact .inr this
  left;have H:∀(l:List UInt8) (w:aL),79∉l->(l.foldl (λ w b=>rC m b.toNat w) w).options=w.options:=by
   intro l;induction l with
   |nil=>intro w _;rfl
   |cons b l F=>intro w Y;rw[lR,F _ (λ k=>Y (.tail _ k))];have M:b.toNat≠79:=λ k=>Y (by rw[show b=79 from kF.1 k];exact .head _);unfold rC;split<;>first|rfl|exact absurd (by assumption) M
  have:=H (mY m.kind) {aL.zero with kind:=m.kind} c;rw[U]at this;exact this
 have O:∀o∈m.options,o.lower.length<=100:=λ o k=>by
  rcases Z with e|e
  .rw[e]at k;exact nomatch k
  .have:=(Gz (e.2 o k)).n;omega
 have K:m.options.length<=1000000:=by
  rcases Z with e|e
  .rw[e];decide
  .omega
 refine⟨?_,λ o k=>dG (O o k) Om⟩;rcases hs with e|e
 .exact MU XG (.inr (by rw[e];rfl)) (.inr (by rw[e];rfl)) K O
 .exact MU e (.inl rfl) (.inl rfl) K O
def Yt{a b:List Int}(H:nI a)(hb:nI b):((pI a).toList==(pI b).toList)=decide (a=b):=by
 rw[dM,dL,cB];constructor
 .intro h;have:=dZ (List.map λ b:UInt8=>(b.toNat:Int)) h;rwa [(Qf H).2,(Qf hb).2]at this
 .rintro rfl;rfl
def cU7(l t:List Int)(n U:Int)(ho:0<=U/\U<256):IK l t n U=some true:=by
 unfold IK
 by_cases c:l.length<=300/\t.length<=20
 .rw[bX (by rw[X5];simp;omega)];obtain⟨m,u,e,Z⟩:=cRp c.1 c.2;rw[e,eF];simp only;rw[Yj,eF];cases L:qC m with
  |false=>simp only[bZ,cI];rw[cA (by simp),MV,eF,cA rfl,cRg Z,L];rfl
  |true=>
   have Y:=L;unfold qC at Y;rw[bY,cB]at Y;have V:(encM m).length<=4064:=om
   have hk:=(Jt Y.1).1;have x0:1<=(encM m).length:=by unfold encM;rw[BK (x:=m.kind) om om];simp only[cC,Km];omega
   simp only[cH];rw[bX (by simp only[cG,cQ,dP,cB];omega),gdp om,I3 n _ om om,eF];have m0:=iY n (show(((encM m).length:Nat):Int)≠0 by omega);have m1:=iV n (show(0:Int)<(((encM m).length:Nat):Int)by omega);rw[gdp ⟨m0,m1⟩];have H:nI ((encM m).set (n% (((encM m).length:Nat):Int)).toNat U):=λ x K=>by
    rcases iL K with K|rfl
    .exact QV m x K
    .exact ho
   have B:((encM m).set (n% (((encM m).length:Nat):Int)).toNat U).length=(encM m).length:=dV ..
   generalize(encM m).set (n% (((encM m).length:Nat):Int)).toNat U=b at H B;obtain⟨x,e7,hd,F⟩:=cU0 (b:=b) ⟨H,by omega⟩ om;rw[hd,eF];simp only
   by_cases z:e7=0
   case neg=>rw[cA (by simpa using z),MV];rfl
   obtain⟨K,hb⟩:=F z;have O:=K;unfold qC at O;rw[bY]at O;obtain⟨M,h8⟩:=cU5 O.1;obtain⟨r,he,hr⟩:=cU4 x m M h8;rw[bX (by simp[z]),Yj,K,cA rfl,eF,MV,eF,<-hb];have h0:((pI b).toList==(pI b).toList)=true:=by rw[Yt H H];simp
   simp only[cG,gF,h0,cH,he,qm,cL];rw[Yt (QV m) H];congr 1;rw[cB,dM,hr,cB];constructor
   .rintro rfl;exact hb.symm
   .intro h;exact cU1 K L (by rw[h,<-hb])
 .rw[cA (by rw[X5];simp;omega),MV];rfl
end Ab
end Go.Proofs.YtfmnjkfhahfhgaaGreatDoor
