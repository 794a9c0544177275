import Derived.Test.YtfmnjkfhahfhgaaGreatDoorAbM
import Derived.Lib.ConvBytes
import Derived.Laws.BytesArg
namespace Go.Proofs.YtfmnjkfhahfhgaaGreatDoor
namespace Ab
set_option linter.defProp false
set_option linter.unusedSimpArgs false
set_option linter.unusedVariables false
def mT:List Operand->List PX->Bool
 |[],[]=>true
 |x::xs,p::ps=>chkX x p&&mT xs ps
 |_,_=>false
def B4:Operand->Bool
 | .const (.slice none 0 0)=>true
 |_=>false
def rL(P:Program)(T:TypeId)(f:TypeDesc->Bool):Bool:=match P.underlying T with|some d=>f d|none=>false
def xU:TypeDesc->Bool|.string=>true|_=>false
def B5:TypeDesc->Bool|.slice _=>true|_=>false
def Pb:TypeDesc->Bool|.bool=>true|_=>false
def HD(k:IntKind):TypeDesc->Bool|.int k'=>k==k'|_=>false
def XF(P:Program)(T:TypeId)(f off n:Nat)(H:Bool):Bool:=
 (match P.underlying T with|some (.struct fs)=>(match fs[f]? with|some g=>g.offset==off&&tyOk P g.type H n|none=>false)|_=>false)
def XG(P:Program)(T:TypeId)(n sz:Nat)(H:Bool):Bool:=
 (match P.underlying T with|some (.array m e)=>m==n&&tyOk P e H sz|_=>false)
def oW(P:Program)(f:FuncId):Bool:=match P.funcs[f]? with|some fn=>fn.body.isSome&&!(fn.name== "runtime.NumGoroutine")&&!(f==xO)|none=>false
def HE(P:Program)(T:TypeId):Bool:=(match P.underlying T with|some (.slice e)=>rL P e (HD .u8)|_=>false)
def sZ(P:Program)(H:Op)(po:PO)(xs:List PX):Bool:=
 match po with
 | .mv=>(match H with|.move x=>mT [x] xs|.assign x=>mT [x] xs|_=>false)
 | .nilown _ _=>(match H with|.move x=>B4 x&&xs.length==1|.assign x=>B4 x&&xs.length==1|_=>false)
 | .pick=>(match H with|.pick c x y=>mT [c,x,y] xs|_=>false)
 | .box _=>(match H with|.box _ x=>mT [x] xs|_=>false)
 | .alloc n z=>(match H with|.alloc T=>d5 P T z&&z.length==n&&xs.isEmpty|_=>false)
 | .build z ps=>(match H with|.build T O=>d5 P T z&&K8 P T O.toList ps&&mT (O.toList.map (·.2)) xs|_=>false)
 | .bslice Y z=>(match H with|.buildSlice T n O=>n==xs.length&&bsTy P T Y z&&d7 0 O.toList&&mT (O.toList.map (·.2)) xs|_=>false)
 | .bown Y z=>(match H with|.buildSlice T n O=>n==xs.length&&bsTy P T Y z&&d7 0 O.toList&&mT (O.toList.map (·.2)) xs|_=>false)
 | .load n F=>(match H with|.load T x=>tyOk P T F n&&mT [x] xs|_=>false)
 | .store n=>(match H with|.store T x y=>szIs P T n&&mT [x,y] xs|_=>false)
 | .bin b=>(match H with|.binOp b' _ x y _=>b==b'&&mT [x,y] xs|_=>false)
 | .eqNil=>(match H with|.binOp b T x y _=>b== .eql&&rL P T B5&&B4 y&&mT [x] xs|_=>false)
 | .eqb M=>(match H with|.binOp b' T x y _=>(b'==if M then .neq else .eql)&&rL P T Pb&&mT [x,y] xs|_=>false)
 | .eqa M ks=>(match H with|.binOp b' T x y _=>(b'==if M then .neq else .eql)&&sC P 20 T==some ks&&rL P T aggD&&!P.eqGuardType P.depth T&&mT [x,y] xs|_=>false)
 | .not=>(match H with|.unOp .not _ x=>mT [x] xs|_=>false)
 | .neg=>(match H with|.unOp .neg _ x=>mT [x] xs|_=>false)
 | .field L n F=>(match H with|.field T x f=>XF P T f L n F&&mT [x] xs|_=>false)
 | .faddr L=>(match H with|.fieldAddr T x f=>Hu P T f L&&mT [x] xs|_=>false)
 | .iaA n Y=>(match H with|.indexAddr T x i=>Hv P T n Y&&mT [x,i] xs|_=>false)
 | .iaS Y _=>(match H with|.indexAddr T x i=>B0 P T Y&&mT [x,i] xs|_=>false)
 | .idxA n Y F=>(match H with|.index T x i=>XG P T n Y F&&mT [x,i] xs|_=>false)
 | .idxS=>(match H with|.index T x i=>rL P T xU&&mT [x,i] xs|_=>false)
 | .slc Y l h m=>(match H with|.slice T x lo K mx=>rL P T B5&&y7 P T Y&&l==lo.isSome&&h==K.isSome&&m==mx.isSome&&mT ([x]++lo.toList++K.toList++mx.toList) xs|_=>false)
 | .slcS l h=>(match H with|.slice T x lo K mx=>rL P T xU&&l==lo.isSome&&h==K.isSome&&mx.isNone&&mT ([x]++lo.toList++K.toList) xs|_=>false)
 | .ext i=>(match H with|.extract x i'=>i==i'&&mT [x] xs|_=>false)
 | .len=>(match H with|.call {callee:=.builtin .len,args,argTypes}=>(match args.toList,argTypes.toList with|[x],[t]=>rL P t B5&&mT [x] xs|_,_=>false)|_=>false)
 | .lenS=>(match H with|.call {callee:=.builtin .len,args,argTypes}=>(match args.toList,argTypes.toList with|[x],[t]=>rL P t xU&&mT [x] xs|_,_=>false)|_=>false)
 | .append Y B _=>(match H with|.call {callee:=.builtin .append,args,argTypes}=>(match args.toList,argTypes.toList with|[x,y],[T,U]=>d6 P T U Y B&&mT [x,y] xs|_,_=>false)|_=>false)
 | .appc Y B=>(match H with|.call {callee:=.builtin .append,args,argTypes}=>(match args.toList,argTypes.toList with|[x,y],[T,U]=>d6 P T U Y B&&mT [x,y] xs|_,_=>false)|_=>false)
 | .apl Y B=>(match H with|.call {callee:=.builtin .append,args,argTypes}=>(match args.toList,argTypes.toList with|[x,y],[T,U]=>d6 P T U Y B&&mT [x,y] xs|_,_=>false)|_=>false)
 | .copy Y=>(match H with|.call {callee:=.builtin .copy,args,argTypes}=>(match args.toList,argTypes.toList with|[x,y],[T,_]=>B0 P T Y&&mT [x,y] xs|_,_=>false)|_=>false)
 | .clear Y z=>(match H with|.call {callee:=.builtin .clear,args,argTypes}=>(match args.toList,argTypes.toList with|[x],[T]=>Lb P T Y z&&mT [x] xs|_,_=>false)|_=>false)
 | .mk Y B z=>(match H with|.makeSlice T x y=>mkTy P T Y B z&&mT [x,y] xs|_=>false)
 | .conv k=>(match H with|.convert T T2 x=>rL P T (λ _=>true)&&rL P T2 (HD k)&&mT [x] xs|_=>false)
 | .cvS=>(match H with|.convert T T2 x=>HE P T&&rL P T2 xU&&mT [x] xs|_=>false)
 | .cvB=>(match H with|.convert T T2 x=>rL P T xU&&HE P T2&&mT [x] xs|_=>false)
 | .min=>(match H with|.call {callee:=.builtin .min,args,.. }=>(match args.toList with|[x,y]=>mT [x,y] xs|_=>false)|_=>false)
 | .max=>(match H with|.call {callee:=.builtin .max,args,.. }=>(match args.toList with|[x,y]=>mT [x,y] xs|_=>false)|_=>false)
 | .nilck=>(match H with|.nilCheck x=>mT [x] xs|_=>false)
 | .mkf f=>(match H with|.makeFunc (.func f') fst caps=>f==f'&&fst.isEmpty&&mT caps.toList xs|_=>false)
 | .mkb f=>(match H with|.makeFunc (.func f') fst caps=>(match fst.toList with|[y]=>f==f'&&caps.isEmpty&&mT [y] xs|_=>false)|_=>false)
 | .call f=>(match H with|.call {callee:=.value (.func f'),args,.. }=>f==f'&&mT args.toList xs&&oW P f|_=>false)
 | .callm f=>(match H with|.call {callee:=.value (.func f'),args,.. }=>f==f'&&mT args.toList xs&&oW P f|_=>false)
 | .callv=>(match H with|.call {callee:=.value (.tmp t),args,.. }=>mT (.tmp t::args.toList) xs|_=>false)
 | .callb=>(match H with|.call {callee:=.value (.tmp t),args,.. }=>mT (.tmp t::args.toList) xs|_=>false)
 | .mkmap _=>(match H with|.makeMap _ none=>xs.isEmpty|_=>false)
 | .lkp ok F kz z=>(match H with|.lookup T x i V=>ok==V&&z8 P T kz&&Lh P T F z&&mT [x,i] xs|_=>false)
 | .mupd kz _ _=>(match H with|.mapUpdate T x i y=>z8 P T kz&&mT [x,i,y] xs|.insert T x i y=>z8 P T kz&&mT [x,i,y] xs|_=>false)
 | .lenM=>(match H with|.call {callee:=.builtin .len,args,argTypes}=>(match args.toList,argTypes.toList with|[x],[t]=>rL P t Hz&&mT [x] xs|_,_=>false)|_=>false)
 | .rng=>(match H with|.range T x=>rL P T Hz&&mT [x] xs|_=>false)
 | .next _=>(match H with|.next x false=>mT [x] xs|_=>false)
 | .entry _=>(match H with|.entry x=>mT [x] xs|_=>false)
 | .callvm=>(match H with|.call {callee:=.value (.tmp t),args,.. }=>mT (.tmp t::args.toList) xs|_=>false)
section
variable {P:Program} {o:Oper} {a:Act} {E:Env} {s:S} {w:World} {W:Nat→Prop} {μ:Nat→Loc}
def Vals(w:World)(W:Nat->Prop)(μ:Nat->Loc)(a:Act)(xs:List Operand)(vs:List A):Prop:=
 xs.length=vs.length/\∀(i:Nat) (x:Operand) (v:A),xs[i]? =some x->vs[i]? =some v->Rep w W μ (a.eval x) v
def Vals.one{x:Operand}{vs:List A}(h:Vals w W μ a [x] vs):∃v,vs=[v]/\Rep w W μ (a.eval x) v:=by
 match vs,h.1 with
 |[v],_=>exact⟨v,rfl,h.2 0 x v rfl rfl⟩
def Vals.two{x y:Operand}{vs:List A}(h:Vals w W μ a [x,y] vs):∃v u,vs=[v,u]/\Rep w W μ (a.eval x) v/\Rep w W μ (a.eval y) u:=by
 match vs,h.1 with
 |[v,u],_=>exact⟨v,u,rfl,h.2 0 x v rfl rfl,h.2 1 y u rfl rfl⟩
def Vals.three{x y z:Operand}{vs:List A}(h:Vals w W μ a [x,y,z] vs):∃v u t,vs=[v,u,t]/\Rep w W μ (a.eval x) v/\Rep w W μ (a.eval y) u/\Rep w W μ (a.eval z) t:=by
 match vs,h.1 with
 |[v,u,t],_=>exact⟨v,u,t,rfl,h.2 0 x v rfl rfl,h.2 1 y u rfl rfl,h.2 2 z t rfl rfl⟩
def Vals.four{x y z q:Operand}{vs:List A}(h:Vals w W μ a [x,y,z,q] vs):∃v u t r,vs=[v,u,t,r]/\Rep w W μ (a.eval x) v/\Rep w W μ (a.eval y) u/\Rep w W μ (a.eval z) t/\Rep w W μ (a.eval q) r:=by
 match vs,h.1 with
 |[v,u,t,r],_=>exact⟨v,u,t,r,rfl,h.2 0 x v rfl rfl,h.2 1 y u rfl rfl,h.2 2 z t rfl rfl,h.2 3 q r rfl rfl⟩
def sJ{T:TypeId}{f:TypeDesc->Bool}(h:rL P T f=true):∃d,P.underlying T=some d/\f d=true:=by
 unfold rL at h;split at h
 .rename_i d H;exact⟨d,H,h⟩
 .cases h
end
section
variable {P:Program} {o:Oper} {a:Act} {E:Env} {s:S} {w:World} {W:Nat→Prop} {μ:Nat→Loc}
def mG.mw{av:A}{m m' H:Nat->MS}(h:mG P o a w W μ m av m')(e:m'=H):mG P o a w W μ m av H:=e▸h
def Lm{H:List (Nat×Operand)}{vs:List A}(h:Vals w W μ a (H.map (·.2)) vs):
  H.length=vs.length/\∀(i:Nat) (p:Nat×Operand) (x:A),H[i]? =some p->vs[i]? =some x->Rep w W μ (a.eval p.2) x:=
 ⟨by simpa using h.1,λ i p x O U=>h.2 i p.2 x (by simp[O]) U⟩
def Pc{x:Operand}(h:B4 x=true):x=.const (.slice none 0 0):=by
 unfold B4 at h;split at h
 .rfl
 .cases h
def Pd:∀{xs:List A},allK xs=true->∀x∈xs,x.isK=true
 |x::xs,h,y,hy=>by
  simp only[allK,bX]at h;rcases cK.1 hy with rfl|hy
  .exact h.1
  .exact Pd h.2 y hy
def Pe{T:TypeId}(h:HE P T=true):∃e,P.underlying T=some (.slice e)/\P.underlying e=some (.int .u8):=by
 unfold HE at h;split at h
 .rename_i e O;obtain⟨d,U,H⟩:=sJ h;refine⟨e,O,?_⟩;cases d<;>simp[HD]at H;subst H;exact U
 .cases h
def Pf:∀{es:List (List A)} {l:List Int},u8s es=some l->es=l.map λ n=>[A.int .u8 n]
 |[],l,h=>by simp[u8s]at h;subst h;rfl
 |c::cs,l,h=>by
  unfold u8s at h;split at h
  .cases‹_=[]›
  .rename_i n O H;cases H;obtain⟨Y,U,rfl⟩:=cN.1 h;rw[dJ,<-Pf U]
  .cases h
def Pg{R:Value->A->Prop}(U:∀u n,R u (.int .u8 n)->u=.int .u8 n){sz:Nat}{us:List Value}{l:List Int}(h:Flat R sz us (l.map λ n=>[A.int .u8 n]))(L:l≠[]):sz=1/\us=l.map (Value.int .u8):=by
 have H:sz=1:=by
  cases l with
  |nil=>exact absurd rfl L
  |cons n l=>exact(h.hs 0 [A.int .u8 n] rfl).symm
 subst H;refine⟨rfl,List.ext_getElem? λ i=>?_⟩
 by_cases K:i<l.length
 .obtain⟨u,O,Y⟩:=h.ha i [A.int .u8 l[i]] 0 _ (by simp[K]) rfl;simp only[fW,Nat.add_zero]at O;rw[O,U u _ Y];simp[K]
 .rw[hJ (by have:=h.hl;simp at this;omega),hJ (by simp;omega)]
def XH(hs:SatW E s a w W μ){x:Operand}{T T2 e:TypeId}{ax:A}{es:List (List A)}{l:List Int}(ho:o.op=.convert T T2 x)(hT:P.underlying T=some (.slice e))(he:P.underlying e=some (.int .u8))(x0:P.underlying T2=some .string)
  (V:Rep w W μ (a.eval x) ax) (t0:ax.isStr=false) (O:rT s.mem ax=some es) (hl:u8s es=some l) (c0:sX s.mem ax):mG P o a w W μ s.mem (.str (uX l)) s.mem:=by
 have d0:=Pf hl;subst d0;have hR:∀u n,RepK w W μ u (.int .u8 n)->u=.int .u8 n:=λ u n h=>Rep.int (mY (nE h));have f0:∀u n,RepC w W u (.int .u8 n)->u=.int .u8 n:=λ u n h=>hR u n (nG h);have u0:(convert T T2 (a.eval x)).run P w=.ok (.string (strOfNums l)) w->mG P o a w W μ s.mem (.str (uX l)) s.mem:=λ h=>
  ⟨.value (.string (strOfNums l)),.string (strOfNums l),w,W,μ,by simp[execOp,ho,h],.inl rfl,mY (nE (nG (.str _))),hs.refl⟩
 have B:∀ad H,a.eval x=.slice ad 0 H->l=[]->mG P o a w W μ s.mem (.str (uX l)) s.mem:=λ ad H K h0=>by
  subst h0;refine u0 ?_;rw[K];cases ad with
  |none=>exact run_convert_bytes_nil w T e hT he 0 H T2 x0
  |some b=>rw[run_convert_bytes_string w T T2 e _ 0 H hT he x0,run_bytesToString w b 0 H [] (by simp[loadCells,loadCellsFrom])];rfl
 have F:∀b U H,a.eval x=.slice (some ⟨b,U,none⟩) l.length H->(∀i,i<l.length->w.cell? ⟨b,U+i,none⟩=some (.int .u8 (l.getD i 0)))->mG P o a w W μ s.mem (.str (uX l)) s.mem:=λ b U H K hc=>by refine u0 ?_;rw[K];exact run_convert_bytes_arg w T e hT he b U l.length H l rfl hc T2 x0
 have M:RepC w W (a.eval x) (.sl (l.map λ n=>[A.int .u8 n]))->mG P o a w W μ s.mem (.str (uX l)) s.mem:=λ V=>by
  rcases V.open_sl with⟨h0,ad,H,K⟩|⟨b,U,H,sz,us,K,_,_,hn,_,hf,hc⟩
  .exact B ad H K (by simpa using h0)
  .have y0:l≠[]:=by rintro rfl;simp at hn
   obtain⟨rfl,L⟩:=Pg f0 hf y0;refine F b U H (by simpa using K) λ i hi=>hc i _ ?_;subst L;simp[hi]
 unfold rT at O;split at O
 .cases O;exact M V
 .cases O;exact M (RepC.of_full V).1
 .rename_i y lo n;split at O
  .rename_i r hr;simp only[dD]at O;simp only[sX,hr]at c0;have Z:((r.es.drop lo).take n).length=n:=by simp;omega
   have z0:l.length=n:=by rw[<-Z,O,dN]
   rcases hs.own V hr with⟨rfl,ad,K⟩|⟨k,H,h5,h6,h7,h8,h9,p0⟩
   .exact B ad 0 K (cY z0)
   .obtain⟨_,q0,l0,g0,m0,e0,v0,htot,hf⟩:=p0;have r0:=(hf.drop lo).take n;rw[O]at r0
    by_cases y0:l=[]
    .subst y0;simp at z0;subst z0;refine u0 ?_;rw[h6];rw[run_convert_bytes_string w T T2 e _ 0 H hT he x0,run_bytesToString w _ 0 H [] (by simp[loadCells,loadCellsFrom])];rfl
    .obtain⟨s0,L⟩:=Pg hR r0 y0;rw[s0,fW,fW]at L;refine F k.b (lo*k.sz) H (by rw[h6,z0]) λ i hi=>?_;rw[q0,s0,fW];have Y:((g0.drop lo).take n)[i]? =some (.int .u8 (l.getD i 0)):=by rw[L];simp[hi]
     rw[dX]at Y;split at Y
     .rw[eC]at Y;simp only[World.cell?,v0,oc,bY,cH,fJ];rw[dU (cI.1 Y).1,Y]
     .cases Y
  .cases O
 .simp[A.isStr]at t0
 .cases O
def XI(K:SatW E s a w W μ){x:Operand}{T T2 e:TypeId}{b:ByteArray}{u:TypeDesc}(ho:o.op=.convert T T2 x)(Z:P.underlying T=some u)(h0:P.underlying T2=some (.slice e))(he:P.underlying e=some (.int .u8))
  (hx:Rep w W μ (a.eval x) (.str b)) (V:b.size<=maxLen):mG P o a w W μ s.mem (.sl (b.toList.map λ c=>[A.int .u8 c.toNat])) s.mem:=by
 have O:=Lib.run_convert_string_bytes (P:=P) w T T2 e b Z h0 he;have hk:Keeps (λ _=>False) w (Lib.bytesWorld w e b):=⟨by unfold Lib.bytesWorld World.freeze;rw[bZ Om];rfl,by unfold Lib.bytesWorld World.freeze;rw[bZ Om];rfl,by unfold Lib.bytesWorld World.freeze;rw[bZ Om];rfl,by unfold Lib.bytesWorld World.freeze;rw[bZ Om];exact kE _,by rw[Lib.bytesWorld_size];omega,λ j hj _=>Lib.bytesWorld_at_old w e b j hj⟩;have U:b.toList=b.data.toList:=ByteArray.toList_eq ..
 have Y:b.toList.length=b.size:=by rw[U];rfl
 refine⟨.value _,_,Lib.bytesWorld w e b,W,μ,by simp[execOp,ho,hx.str,O];rfl,.inl rfl,?_,Step.quiet hk K.mem K.inj K.wlt⟩;refine mY (nE (nG ?_));have B:(b.toList.map λ c=>[A.int .u8 c.toNat]).length=b.size:=by rw[dN,Y]
 conv=>arg 3;rw[<-B]
 refine RepC.mk_sl (sz:=1) (us:=b.toList.map λ c=>Value.int .u8 c.toNat) (λ hW=>absurd (K.wlt _ hW) (kK _)) (by rw[Lib.bytesWorld_size];omega) (by rw[B];exact grownCap_ge w b.size 0 e) ?_ ?_
 .refine⟨by simp,λ i c F=>?_,λ i c j q F H=>?_⟩
  .simp only[cV,cN]at F;obtain⟨d,_,rfl⟩:=F;rfl
  .simp only[cV,cN]at F;obtain⟨d,M,rfl⟩:=F;cases j with
   |zero=>simp at H;subst H;exact⟨_,by simp[M],.int _ _⟩
   |succ j=>simp at H
 .intro q v H;simp only[cV,cN]at H;obtain⟨d,M,rfl⟩:=H;have L:q<b.size:=by rw[<-Y];exact(cI.1 M).1
  rw[dY,Lib.bytesWorld_cell w e b q L];rw[U]at M;simp[List.getD,M]
def XJ(Z:SatW E s a w W μ){id:Nat}(v0:s.mem id=.fresh)(po:PO)(xs:List PX)(F:List A)(hV:∀d0,mT d0 xs=true->Vals w W μ a d0 F)(hlen:xs.length=F.length)
  (H:sZ P o.op po xs=true) {ef:Ef} (O:ev id s.mem po F=some ef) (Y:ef.obl) (f0:po≠.pick):mG P o a w W μ s.mem ef.v (setM s.mem ef.mw):=by
 cases po<;>simp only[sZ]at H
 case pick=>exact absurd rfl f0
 case mv=>
  split at H
  .rename_i x B;obtain⟨v,rfl,K⟩:=(hV _ H).one;cases O;exact OQ Z (.inl B) K
  .rename_i x B;obtain⟨v,rfl,K⟩:=(hV _ H).one;cases O;exact OQ Z (.inr B) K
  .cases H
 case nilown sz z=>
  have e0:∀x,(o.op=.move x\/o.op=.assign x)->(B4 x&&xs.length==1)=true->mG P o a w W μ s.mem ef.v (setM s.mem ef.mw):=λ x B h=>by
   simp only[bX,dI]at h
   match F,(show F.length=1 by omega)with
   |[v],_=>cases O;exact WY Z B (Pc h.1) v0 Y
  split at H
  .rename_i x B;exact e0 x (.inl B) H
  .rename_i x B;exact e0 x (.inr B) H
  .cases H
 case box n=>
  split at H
  .rename_i T x B;obtain⟨v,rfl,K⟩:=(hV _ H).one;cases O;exact WZ Z B K v0 Y.1 Y.2.1 Y.2.2
  .cases H
 case alloc n z=>
  split at H
  .rename_i T B;simp only[bX,dI]at H;obtain⟨⟨h1,h2⟩,h3⟩:=H;have:F=[]:=by
    have:xs=[]:=by simpa using h3
    subst this;exact cY hlen.symm
   subst this;subst h2;cases O;exact W0 Z B h1 v0 Y.1
  .cases H
 case build z ps=>
  split at H
  .rename_i T p0 B;simp only[bX]at H;obtain⟨⟨h1,h2⟩,h3⟩:=H;obtain⟨h4,h5⟩:=Lm (hV _ h3);cases F<;>(cases O;exact Xa Z B h1 h2 h4 h5 Y)
  .cases H
 case bslice sz z=>
  split at H
  .rename_i T n p0 B;simp only[bX,dI]at H;obtain⟨⟨⟨h0,h1⟩,h2⟩,h3⟩:=H;obtain⟨h4,h5⟩:=Lm (hV _ h3);cases F<;>(cases O;exact Xd Z B om h1 h2 h4 Y.2.2.2.2 h5 Y.2.1 Y.2.2.1 Y.2.2.2.1)
  .cases H
 case bown sz z=>
  split at H
  .rename_i T n p0 B;simp only[bX,dI]at H;obtain⟨⟨⟨h0,h1⟩,h2⟩,h3⟩:=H;obtain⟨h4,h5⟩:=Lm (hV _ h3);cases F<;>(cases O;exact Xc Z B om h1 h2 h4 Y.2.2.2 h5 v0 Y.1 Y.2.1 Y.2.2.1)
  .cases H
 case load n ag=>
  split at H
  .rename_i T x B;simp only[bX]at H;obtain⟨v,rfl,K⟩:=(hV _ H.2).one;refine(WJ Z B H.1 K O Y).mw ?_;simp only[ev]at O;split at O
   .split at O<;>first|(cases O;rfl)|cases O
   .cases O;rfl
   .cases O
  .cases H
 case store n=>
  split at H
  .rename_i T x y B;simp only[bX]at H;obtain⟨v,u,rfl,K,L⟩:=(hV _ H.2).two;exact W5 Z B H.1 K L O Y
  .cases H
 case bin b=>
  split at H
  .rename_i b' T x y T2 B;simp only[bX,dI]at H;obtain⟨rfl,h2⟩:=H;obtain⟨v,u,rfl,K,L⟩:=(hV _ h2).two;simp only[ev,cN]at O;obtain⟨q,hq,rfl⟩:=O;exact WE Z B K L hq Y
  .cases H
 case eqb neg=>
  split at H
  .rename_i b' T x y T2 B;simp only[bX,dI]at H;obtain⟨⟨rfl,h2⟩,h3⟩:=H;obtain⟨v,u,rfl,K,L⟩:=(hV _ h3).two;obtain⟨d,hd,x0⟩:=sJ h2;have hT:P.underlying T=some .bool:=by cases d<;>simp[Pb]at x0;exact hd
   cases v<;>simp only[ev]at O<;>try(cases O;done)
   cases u<;>simp only[ev]at O<;>try(cases O;done)
   cases O;exact WV Z B hT K L
  .cases H
 case eqa neg ks=>
  split at H
  .rename_i b' T x y T2 B;simp only[bX,dI,dA]at H;obtain⟨⟨⟨⟨rfl,h2⟩,h3⟩,h4⟩,h5⟩:=H;obtain⟨v,u,rfl,K,L⟩:=(hV _ h5).two;cases v<;>simp only[ev]at O<;>try(cases O;done)
   cases u<;>simp only[ev]at O<;>try(cases O;done)
   cases O;exact Xg Z B h2 h3 h4 K L Y.1 Y.2
  .cases H
 case not=>
  split at H
  .rename_i T x B;obtain⟨v,rfl,K⟩:=(hV _ H).one;cases v<;>simp only[ev]at O<;>try(cases O;done)
   cases O;exact WC Z B K
  .cases H
 case neg=>
  split at H
  .rename_i T x B;obtain⟨v,rfl,K⟩:=(hV _ H).one;cases v<;>simp only[ev]at O<;>try(cases O;done)
   cases O;exact WD Z B K
  .cases H
 case field off n ag=>
  split at H
  .rename_i T x f B;simp only[bX]at H;obtain⟨v,rfl,K⟩:=(hV _ H.2).one;refine(WQ Z B H.1 K O Y).mw ?_;cases v<;>simp only[ev]at O<;>first|(cases O;rfl)|cases O
  .cases H
 case faddr off=>
  split at H
  .rename_i T x f B;simp only[bX]at H;obtain⟨v,rfl,K⟩:=(hV _ H.2).one;refine(WL Z B H.1 K O).mw ?_;simp only[ev]at O;split at O
   .split at O<;>first|(cases O;rfl)|cases O
   .cases O;rfl
   .cases O
  .cases H
 case iaA n sz=>
  split at H
  .rename_i T x i B;simp only[bX]at H;obtain⟨v,u,rfl,K,L⟩:=(hV _ H.2).two;refine(WN Z B H.1 K L O Y).mw ?_;cases u<;>simp only[ev]at O<;>try(cases O;done)
   split at O
   .split at O<;>first|(cases O;rfl)|cases O
   .cases O;rfl
   .cases O
  .cases H
 case iaS sz z=>
  split at H
  .rename_i T x i B;simp only[bX]at H;obtain⟨v,u,rfl,K,L⟩:=(hV _ H.2).two;refine(WO Z B H.1 K L O Y).mw ?_;cases u<;>simp only[ev]at O<;>try(cases O;done)
   split at O
   .cases O;rfl
   .cases O;rfl
   .split at O<;>first|(cases O;rfl)|cases O
   .cases O
  .cases H
 case idxA n sz ag=>
  split at H
  .rename_i T x i B;simp only[bX]at H;obtain⟨v,u,rfl,K,L⟩:=(hV _ H.2).two;refine(WP Z B H.1 K L O Y).mw ?_;cases v<;>simp only[ev]at O<;>try(cases O;done)
   cases u<;>simp only[ev]at O<;>try(cases O;done)
   cases O;rfl
  .cases H
 case idxS=>
  split at H
  .rename_i T x i B;simp only[bX]at H;obtain⟨v,u,rfl,K,L⟩:=(hV _ H.2).two;obtain⟨d,hd,x0⟩:=sJ H.1;have hT:P.underlying T=some .string:=by cases d<;>simp[xU]at x0;exact hd
   cases v<;>simp only[ev]at O<;>try(cases O;done)
   cases u<;>simp only[ev]at O<;>try(cases O;done)
   cases O;exact Xj Z B hT K L Y.1 Y.2
  .cases H
 case slc sz l h m=>
  split at H
  .rename_i T x lo hi mx B;simp only[bX,dI]at H;obtain⟨⟨⟨⟨⟨h1,h2⟩,rfl⟩,rfl⟩,rfl⟩,h6⟩:=H;have V:=hV _ h6;obtain⟨d,hd,x0⟩:=sJ h1;have u0:∀v,Rep w W μ (a.eval x) v->∀l h m,Bds (lo.map a.eval) (hi.map a.eval) (mx.map a.eval) l h m->(if v.isStr then none else(rF s.mem sz v l h m).map λ q=>(⟨q.1,q.2,[]⟩:Ef))=some ef->mG P o a w W μ s.mem ef.v (setM s.mem ef.mw):=λ v K l h m hb hq=>by
    split at hq
    .cases hq
    .rename_i s0;simp only[cN]at hq;obtain⟨q,hq,rfl⟩:=hq;refine OT Z B h2 K ⟨λ⟨b,hb⟩=>?_,λ L=>?_⟩ hb hq Y
     .subst hb;exact absurd rfl s0
     .rw[hd]at L;cases L;simp[B5]at x0
   cases lo with
   |none=>
    cases hi with
    |none=>
     cases mx with
     |none=>obtain⟨v,rfl,K⟩:=V.one;exact u0 v K none none none ⟨.inl ⟨rfl,rfl⟩,.inl ⟨rfl,rfl⟩,.inl ⟨rfl,rfl⟩⟩ O
     |some m0=>obtain⟨v,u,rfl,K,L⟩:=V.two;exact absurd O (by simp[ev])
    |some h0=>
     cases mx with
     |none=>
      obtain⟨v,u,rfl,K,L⟩:=V.two;cases u<;>simp only[ev,Option.isSome]at O<;>try(cases O;done)
      exact u0 v K none (some _) none ⟨.inl ⟨rfl,rfl⟩,.inr ⟨_,_,eA some L.int,rfl⟩,.inl ⟨rfl,rfl⟩⟩ O
     |some m0=>
      obtain⟨v,u,t,rfl,K,L,ht⟩:=V.three;cases u<;>simp only[ev,Option.isSome]at O<;>try(cases O;done)
      cases t<;>(try simp only at O)<;>try(cases O;done)
      exact u0 v K none (some _) (some _) ⟨.inl ⟨rfl,rfl⟩,.inr ⟨_,_,eA some L.int,rfl⟩,.inr ⟨_,_,eA some ht.int,rfl⟩⟩ O
   |some l0=>
    cases hi with
    |none=>
     cases mx with
     |none=>
      obtain⟨v,u,rfl,K,L⟩:=V.two;cases u<;>simp only[ev,Option.isSome]at O<;>try(cases O;done)
      exact u0 v K (some _) none none ⟨.inr ⟨_,_,eA some L.int,rfl⟩,.inl ⟨rfl,rfl⟩,.inl ⟨rfl,rfl⟩⟩ O
     |some m0=>obtain⟨v,u,t,rfl,K,L,ht⟩:=V.three;exact absurd O (by simp[ev])
    |some h0=>
     cases mx with
     |none=>
      obtain⟨v,u,t,rfl,K,L,ht⟩:=V.three;cases u<;>simp only[ev,Option.isSome]at O<;>try(cases O;done)
      cases t<;>(try simp only at O)<;>try(cases O;done)
      exact u0 v K (some _) (some _) none ⟨.inr ⟨_,_,eA some L.int,rfl⟩,.inr ⟨_,_,eA some ht.int,rfl⟩,.inl ⟨rfl,rfl⟩⟩ O
     |some m0=>
      obtain⟨v,u,t,r,rfl,K,L,ht,hr⟩:=V.four;cases u<;>simp only[ev,Option.isSome]at O<;>try(cases O;done)
      cases t<;>(try simp only at O)<;>try(cases O;done)
      cases r<;>(try simp only at O)<;>try(cases O;done)
      exact u0 v K (some _) (some _) (some _) ⟨.inr ⟨_,_,eA some L.int,rfl⟩,.inr ⟨_,_,eA some ht.int,rfl⟩,.inr ⟨_,_,eA some hr.int,rfl⟩⟩ O
  .cases H
 case slcS l h=>
  split at H
  .rename_i T x lo hi mx B;simp only[bX,dI]at H;obtain⟨⟨⟨⟨h1,rfl⟩,rfl⟩,h4⟩,h6⟩:=H;have V:=hV _ h6;obtain⟨d,hd,x0⟩:=sJ h1;have hT:P.underlying T=some .string:=by cases d<;>simp[xU]at x0;exact hd
   have h2:y7 P T 0=true:=by simp[y7,hT]
   have g0:mx=none:=by simpa using h4
   subst g0;have u0:∀b,Rep w W μ (a.eval x) (.str b)->∀l h,Bds (lo.map a.eval) (hi.map a.eval) none l h none->((rF s.mem 0 (.str b) l h none).map λ q=>(⟨q.1,q.2,[]⟩:Ef))=some ef->mG P o a w W μ s.mem ef.v (setM s.mem ef.mw):=λ b K l h hb hq=>by simp only[cN]at hq;obtain⟨q,hq,rfl⟩:=hq;exact OT Z B h2 K ⟨λ _=>hT,λ _=>⟨b,rfl⟩⟩ hb hq Y
   cases lo with
   |none=>
    cases hi with
    |none=>
     obtain⟨v,rfl,K⟩:=V.one;cases v<;>simp only[ev,Option.isSome]at O<;>try(cases O;done)
     exact u0 _ K none none ⟨.inl ⟨rfl,rfl⟩,.inl ⟨rfl,rfl⟩,.inl ⟨rfl,rfl⟩⟩ O
    |some h0=>
     obtain⟨v,u,rfl,K,L⟩:=V.two;cases v<;>simp only[ev,Option.isSome]at O<;>try(cases O;done)
     cases u<;>(try simp only at O)<;>try(cases O;done)
     exact u0 _ K none (some _) ⟨.inl ⟨rfl,rfl⟩,.inr ⟨_,_,eA some L.int,rfl⟩,.inl ⟨rfl,rfl⟩⟩ O
   |some l0=>
    cases hi with
    |none=>
     obtain⟨v,u,rfl,K,L⟩:=V.two;cases v<;>simp only[ev,Option.isSome]at O<;>try(cases O;done)
     cases u<;>(try simp only at O)<;>try(cases O;done)
     exact u0 _ K (some _) none ⟨.inr ⟨_,_,eA some L.int,rfl⟩,.inl ⟨rfl,rfl⟩,.inl ⟨rfl,rfl⟩⟩ O
    |some h0=>
     obtain⟨v,u,t,rfl,K,L,ht⟩:=V.three;cases v<;>simp only[ev,Option.isSome]at O<;>try(cases O;done)
     cases u<;>(try simp only at O)<;>try(cases O;done)
     cases t<;>(try simp only at O)<;>try(cases O;done)
     exact u0 _ K (some _) (some _) ⟨.inr ⟨_,_,eA some L.int,rfl⟩,.inr ⟨_,_,eA some ht.int,rfl⟩,.inl ⟨rfl,rfl⟩⟩ O
  .cases H
 case ext i=>
  split at H
  .rename_i x i' B;simp only[bX,dI]at H;obtain⟨rfl,h2⟩:=H;obtain⟨v,rfl,K⟩:=(hV _ h2).one;cases v<;>simp only[ev]at O<;>try(cases O;done)
   cases O;exact WF Z B K Y
  .cases H
 case len=>
  split at H
  .rename_i M y0 B;split at H
   .rename_i x t hx ht;simp only[bX]at H;obtain⟨v,rfl,K⟩:=(hV _ H.2).one;obtain⟨d,hd,x0⟩:=sJ H.1;have hT:∃e,P.underlying t=some (.slice e):=by cases d<;>simp[B5]at x0;exact⟨_,hd⟩
    have ha:M=#[x]:=by rw[<-hx]
    have z0:y0[0]? =some t:=by
     have:y0=#[t]:=by rw[<-ht]
     rw[this];rfl
    subst ha;refine(WH Z B z0 hT K O).mw ?_;simp only[ev]at O;split at O
    .cases O;rfl
    .cases O;rfl
    .split at O<;>first|(cases O;rfl)|cases O
    .cases O
   .cases H
  .cases H
 case lenS=>
  split at H
  .rename_i M y0 B;split at H
   .rename_i x t hx ht;simp only[bX]at H;obtain⟨v,rfl,K⟩:=(hV _ H.2).one;obtain⟨d,hd,x0⟩:=sJ H.1;have hT:P.underlying t=some .string:=by cases d<;>simp[xU]at x0;exact hd
    have ha:M=#[x]:=by rw[<-hx]
    have z0:y0[0]? =some t:=by
     have:y0=#[t]:=by rw[<-ht]
     rw[this];rfl
    subst ha;cases v<;>simp only[ev]at O<;>try(cases O;done)
    cases O;exact WG Z B z0 hT K
   .cases H
  .cases H
 case append sz by_ z=>
  split at H
  .rename_i M y0 B;split at H
   .rename_i x y T U hx ht;simp only[bX]at H;obtain⟨v,u,rfl,K,L⟩:=(hV _ H.2).two;have ha:M=#[x,y]:=by rw[<-hx]
    have z0:y0=#[T,U]:=by rw[<-ht]
    subst ha;subst z0;exact W7 Z B H.1 K L v0 O Y
   .cases H
  .cases H
 case appc sz by_=>
  split at H
  .rename_i M y0 B;split at H
   .rename_i x y T U hx ht;simp only[bX]at H;obtain⟨v,u,rfl,K,L⟩:=(hV _ H.2).two;have ha:M=#[x,y]:=by rw[<-hx]
    have z0:y0=#[T,U]:=by rw[<-ht]
    subst ha;subst z0;exact W8 Z B H.1 K L v0 O Y
   .cases H
  .cases H
 case apl sz by_=>
  split at H
  .rename_i M y0 B;split at H
   .rename_i x y T U hx ht;simp only[bX]at H;obtain⟨v,u,rfl,K,L⟩:=(hV _ H.2).two;have ha:M=#[x,y]:=by rw[<-hx]
    have z0:y0=#[T,U]:=by rw[<-ht]
    subst ha;subst z0;cases v<;>first|(cases O;done)|skip
    cases u<;>first|(cases O;done)|skip
    cases O;obtain⟨h1,rfl,h3,h4,h5⟩:=Y;exact W9 Z B H.1 K L h3 h4 h5
   .cases H
  .cases H
 case clear sz z=>
  split at H
  .rename_i M y0 B;split at H
   .rename_i x T hx ht;simp only[bX]at H;obtain⟨v,rfl,K⟩:=(hV _ H.2).one;have ha:M=#[x]:=by rw[<-hx]
    have z0:y0=#[T]:=by rw[<-ht]
    subst ha;subst z0;exact Xf Z B H.1 K O Y
   .cases H
  .cases H
 case copy sz=>
  split at H
  .rename_i M y0 B;split at H
   .rename_i x y T U hx ht;simp only[bX]at H;obtain⟨v,u,rfl,K,L⟩:=(hV _ H.2).two;have ha:M=#[x,y]:=by rw[<-hx]
    have z0:y0=#[T,U]:=by rw[<-ht]
    subst ha;subst z0;exact Xe Z B H.1 K L O Y
   .cases H
  .cases H
 case mk sz by_ z=>
  split at H
  .rename_i T x y B;simp only[bX]at H;obtain⟨v,u,rfl,K,L⟩:=(hV _ H.2).two;cases v<;>simp only[ev]at O<;>try(cases O;done)
   cases u<;>simp only[ev]at O<;>try(cases O;done)
   cases O;obtain⟨h1,_,h3,h4,h5,h6⟩:=Y;exact y_mk Z B H.1 K L v0 h1 h3 h4 h5 h6
  .cases H
 case conv k=>
  split at H
  .rename_i T T2 x B;simp only[bX]at H;obtain⟨⟨h1,h2⟩,h3⟩:=H;obtain⟨v,rfl,K⟩:=(hV _ h3).one;obtain⟨d,hd,_⟩:=sJ h1;obtain⟨d2,x0,q0⟩:=sJ h2;have hT:P.underlying T2=some (.int k):=by cases d2<;>simp[HD]at q0;subst q0;exact x0
   cases v<;>simp only[ev]at O<;>try(cases O;done)
   cases O;exact WR Z B ⟨⟨d,hd⟩,hT⟩ K
  .cases H
 case cvS=>
  split at H
  .rename_i T T2 x B;simp only[bX]at H;obtain⟨⟨h1,h2⟩,h3⟩:=H;obtain⟨v,rfl,K⟩:=(hV _ h3).one;obtain⟨e,t0,c0⟩:=Pe h1;obtain⟨d2,x0,q0⟩:=sJ h2;have n0:P.underlying T2=some .string:=by cases d2<;>simp[xU]at q0;exact x0
   simp only[ev]at O;split at O
   .cases O
   .rename_i s0;simp only[gP]at O;obtain⟨es,h4,l,h5,O⟩:=O;cases O;exact XH Z B t0 c0 n0 K (by simpa using s0) h4 h5 Y
  .cases H
 case cvB=>
  split at H
  .rename_i T T2 x B;simp only[bX]at H;obtain⟨⟨h1,h2⟩,h3⟩:=H;obtain⟨v,rfl,K⟩:=(hV _ h3).one;obtain⟨e,t0,c0⟩:=Pe h2;obtain⟨d2,x0,q0⟩:=sJ h1;cases v<;>simp only[ev]at O<;>try(cases O;done)
   cases O;exact XI Z B x0 t0 c0 K Y
  .cases H
 case min=>
  split at H
  .rename_i M y0 B;split at H
   .rename_i x y hx;obtain⟨v,u,rfl,K,L⟩:=(hV _ H).two;have ha:M=#[x,y]:=by rw[<-hx]
    subst ha;cases v<;>simp only[ev]at O<;>try(cases O;done)
    cases u<;>simp only[ev]at O<;>try(cases O;done)
    cases O;have:_=_:=Y;subst this;exact WS Z B K L
   .cases H
  .cases H
 case max=>
  split at H
  .rename_i M y0 B;split at H
   .rename_i x y hx;obtain⟨v,u,rfl,K,L⟩:=(hV _ H).two;have ha:M=#[x,y]:=by rw[<-hx]
    subst ha;cases v<;>simp only[ev]at O<;>try(cases O;done)
    cases u<;>simp only[ev]at O<;>try(cases O;done)
    cases O;have:_=_:=Y;subst this;exact WT Z B K L
   .cases H
  .cases H
 case nilck=>
  split at H
  .rename_i x B;obtain⟨v,rfl,K⟩:=(hV _ H).one;refine(WU Z B K O Y).mw ?_;simp only[ev]at O;split at O
   .split at O<;>first|(cases O;rfl)|cases O
   .cases O;rfl
   .cases O;rfl
   .cases O;rfl
   .cases O
  .cases H
 case mkb f=>
  split at H
  .rename_i f' fst r0 B;split at H
   .rename_i y hy;simp only[bX,dI]at H;obtain⟨⟨rfl,h2⟩,h3⟩:=H;have hc:r0=#[]:=by simpa using h2
    have hf:fst=#[y]:=by rw[<-lF (xs:=fst),hy]
    subst hc;subst hf;obtain⟨v,rfl,K⟩:=(hV _ h3).one;cases v<;>simp only[ev]at O<;>first|(cases O;done)|skip
    cases O;exact Xi Z B K Y
   .cases H
  .cases H
 case mkf f=>
  split at H
  .rename_i f' fst r0 B;simp only[bX,dI]at H;obtain⟨⟨rfl,h2⟩,h3⟩:=H;have hf:fst=#[]:=by simpa using h2
   subst hf;have K:=hV _ h3;cases F<;>(cases O;exact Xh Z B K.1 K.2 (Pd Y))
  .cases H
 case mkmap z=>
  split at H
  .rename_i T B;have:F=[]:=by
    have:xs=[]:=by simpa using H
    subst this;exact cY hlen.symm
   subst this;cases O;exact Xr Z B v0
  .cases H
 case lkp ok ag kz z=>
  split at H
  .rename_i T x i j0 B;simp only[bX,dI]at H;obtain⟨⟨⟨rfl,h1⟩,h2⟩,h3⟩:=H;obtain⟨v,u,rfl,K,L⟩:=(hV _ h3).two;cases v<;>simp only[ev]at O<;>try(cases O;done)
   split at O
   .rename_i r hr;cases O;exact Xt Z B h1 h2 K L hr Y.1 Y.2
   .cases O
  .cases H
 case mupd kz ag n=>
  split at H
  rotate_right
  .cases H
  all_goals
   rename_i T x i y B;simp only[bX]at H;obtain⟨h1,h3⟩:=H;obtain⟨v,u,q,rfl,K,L,hq⟩:=(hV _ h3).three;cases v<;>simp only[ev]at O<;>try(cases O;done)
   split at O
   .rename_i r hr;cases O;obtain⟨k1,k2,k3,k4,k5,_,k6⟩:=Y;exact Xw Z (by first|exact .inl B|exact .inr B) h1 K L hq hr k1 k2 k3 k4 k5 k6
   .cases O
 case lenM=>
  split at H
  .rename_i M y0 B;split at H
   .rename_i x t hx ht;simp only[bX]at H;obtain⟨h1,h2⟩:=H;obtain⟨v,rfl,K⟩:=(hV _ h2).one;have ha:M=#[x]:=by rw[<-hx]
    have z0:y0[0]? =some t:=by rw[<-iP,ht];rfl
    subst ha;obtain⟨d,hd,x0⟩:=sJ h1;cases v<;>simp only[ev]at O<;>try(cases O;done)
    split at O
    .rename_i r hr;cases O;refine Xx Z B z0 ?_ K hr Y;cases d<;>simp only[Hz,bY]at x0;exact⟨_,_,hd⟩
    .cases O
   .cases H
  .cases H
 case rng=>
  split at H
  .rename_i T x B;simp only[bX]at H;obtain⟨h1,h2⟩:=H;obtain⟨v,rfl,K⟩:=(hV _ h2).one;obtain⟨d,hd,x0⟩:=sJ h1;cases v<;>simp only[ev]at O<;>try(cases O;done)
   split at O
   .rename_i r hr;cases O;refine Xz Z B ?_ K hr Y v0;cases d<;>simp only[Hz,bY]at x0;exact⟨_,_,hd⟩
   .cases O
  .cases H
 case entry d=>cases F<;>(simp[ev]at O)
 case next d=>cases F<;>(simp[ev]at O)
 case eqNil=>cases F<;>(simp[ev]at O)
 case call f=>cases F<;>(simp[ev]at O)
 case callv=>cases F<;>(simp[ev]at O)
 case callb=>cases F<;>(simp[ev]at O)
 case callm f=>cases F<;>(simp[ev]at O)
 case callvm=>cases F<;>(simp[ev]at O)
end
structure Cx where
 P:Program
 G:b9
def qM:Nat->Loc:=λ _=>.fresh
def PFn(C:Cx)(f:FuncId)(as:List A)(r:A):Prop:=
 ∀(w:World) (W:Nat->Prop) (vs:List Value),xQ w W C.G->(∀b,W b->b<w.heap.size)->vs.length=as.length->
  (∀(i:Nat) (v:Value) (a:A),vs[i]? =some v->as[i]? =some a->RepV w W qM v a)->
  Calls C.P f vs.toArray w λ e w'=>∃v,e=.returned v/\Keeps (λ _=>False) w w'/\Rep w' W qM v r
def look{α:Type}:List (Nat×α)->Nat->Option α
 |[],_=>none
 |q::r,n=>if q.1=n then some q.2 else look r n
def rm{α:Type}(n:Nat):List (Nat×α)->List (Nat×α)
 |[]=>[]
 |q::r=>if q.1=n then rm n r else q::rm n r
def B6{α:Type}:List Nat->List (Nat×α)->List (Nat×α)
 |[],l=>l
 |n::ns,l=>B6 ns (rm n l)
structure St where
 fr:List (Nat×A)
 mem:List (Nat×Row)
 nx:Nat
def St.slot(st:St)(t:Nat):A:=(look st.fr t).getD .any
def St.m(st:St)(x:Nat):MS:=if st.nx<=x then .fresh else match look st.mem x with
 |some r=>.row r
 |none=>.dead
def St.toS(st:St):S:=⟨st.slot,st.m⟩
def putM:List (Nat×MS)->List (Nat×Row)->List (Nat×Row)
 |[],m=>m
 |(x,.row r)::q,m=>putM q ((x,r)::rm x m)
 |(x,_)::q,m=>putM q (rm x m)
def nxt(nx:Nat):List (Nat×MS)->Nat
 |[]=>nx
 |q::r=>nxt (if q.1=nx then nx+1 else nx) r
def putF(d:Option Nat)(v:A)(fr:List (Nat×A)):List (Nat×A):=match d with
 |none=>fr
 |some d=>(d,v)::rm d fr
def St.app(st:St)(d:Option Nat)(v:A)(mw:List (Nat×MS)):St:=⟨putF d v st.fr,putM mw st.mem,nxt st.nx mw⟩
def frz1(m:Nat->MS):A->A
 | .own x lo n=>match m x with
  | .row r=>.sl ((r.es.drop lo).take n)
  |_=>.any
 |a=>a
def mA:List A->Bool
 |[]=>true
 |a::as=>a.pure1&&mA as
def frz(m:Nat->MS):A->A
 | .agg H=>if mA H then .agg H else .agg (H.map (frz1 m))
 |a=>frz1 m a
def rU(m:Nat->MS):A->Prop
 | .own x lo n=>match m x with
  | .row r=>lo+n<=r.es.length/\sY ((r.es.drop lo).take n)
  |_=>False
 |a=>a.pure1=true
def qY(m:Nat->MS):A->Prop
 | .agg H=>if mA H then True else∀c∈H,rU m c
 | .clo _ H=>H=[]
 |a=>rU m a
def oJ(m:Nat->MS):List A->List A
 |[]=>[]
 |a::as=>frz m a::oJ m as
def pC(m:Nat->MS):List A->Prop
 |[]=>True
 |a::as=>qY m a/\pC m as
def qN:A->List Nat
 | .own x _ _=>[x]
 |_=>[]
def sK:A->List Nat
 | .agg H=>if mA H then[]else H.flatMap qN
 |a=>qN a
def qO:List A->List Nat
 |[]=>[]
 |a::as=>sK a++qO as
def A.scal1:A->Bool
 | .bool _|.int _ _|.str _=>true
 |_=>false
def mV:List A->Bool
 |[]=>true
 |a::as=>a.scal1&&mV as
def A.scal2:A->Bool
 | .agg H=>mV H
 |a=>a.scal1
def EQ:List A->Bool
 |[]=>true
 |a::as=>a.scal2&&EQ as
def A.scal:A->Bool
 | .tup vs=>EQ vs
 |a=>a.scal2
def nT(m:Nat->MS):List Nat->List (Nat×MS)
 |[]=>[]
 |x::xs=>match m x with
  | .row r=>(x,.row ⟨true,r.sz,r.z,r.es⟩)::nT m xs
  |_=>nT m xs
def nO(m:Nat->MS)(H:List A)(r:A):List (Nat×MS):=if r.scal then[]else nT m (qO H)
def pN(st:St):Option (Nat×Bool)->Option Bool
 |none=>some true
 |some q=>match st.slot q.1 with
  | .bool b=>some (if q.2 then b else !b)
  | .cnd g (.bool b)=>some (g&&if q.2 then b else !b)
  |_=>none
def nU(g:Option (Nat×Bool))(b:Bool)(v:A):A:=match g with
 |none=>v
 |some _=>.cnd b v
def mP(C:Cx)(st:St):List PX->List A
 |[]=>[]
 |p::ps=>(xv C.G st.slot p).nc::mP C st ps
def pD(C:Cx)(st:St):List PX->Prop
 |[]=>True
 |p::ps=>(xv C.G st.slot p).gd=true/\pD C st ps
def A.isVV:A->Bool
 | .any|.tup _|.cnd _ _=>false
 |_=>true
def rho(l:List (Nat×Nat))(x:Nat):Nat:=(look l x).getD x
def ren0(l:List (Nat×Nat)):A->A
 | .own x lo n=>.own (rho l x) lo n
 | .ptr x i j=>.ptr (rho l x) i j
 | .mp x=>.mp (rho l x)
 | .it x=>.it (rho l x)
 |a=>a
def ren1(l:List (Nat×Nat)):A->A
 | .clo f H=>.clo f (H.map (ren0 l))
 |a=>ren0 l a
def ren(l:List (Nat×Nat)):A->A
 | .agg H=>if mA H then .agg H else .agg (H.map (ren1 l))
 |a=>ren1 l a
def renR(l:List (Nat×Nat)):A->A
 | .tup vs=>.tup (vs.map (ren l))
 |a=>ren l a
def ER(nx:Nat):A->Prop
 | .own x _ _=>x<nx
 | .ptr x _ _=>x<nx
 | .mp x=>x<nx
 | .it x=>x<nx
 |_=>True
def wD(nx:Nat):A->Prop
 | .clo _ H=>∀c∈H,ER nx c
 |a=>ER nx a
def pureEs:List (List A)->Bool
 |[]=>true
 |c::cs=>mA c&&pureEs cs
def pO(l:List (Nat×Nat))(es:List (List A)):List (List A):=if pureEs es then es else es.map (·.map (ren1 l))
def idEs(nx:Nat)(es:List (List A)):Prop:=if pureEs es then True else∀c∈es,∀a∈c,wD nx a
def Aa:List Nat->Bool
 |[]=>true
 |x::xs=>!xs.contains x&&Aa xs
def MFn(C:Cx)(f:FuncId)(as:List A)(ms:List (Nat×Row))(k:Nat)(r:A)(ms':List (Nat×Row))(k':Nat):Prop:=
 ∀(w:World) (W:Nat->Prop) (μ:Nat->Loc) (vs:List Value),xQ w W C.G->(∀b,W b->b<w.heap.size)->vs.length=as.length->
  (∀(i:Nat) (v:Value) (a:A),vs[i]? =some v->as[i]? =some a->RepV w W μ v a)->qW w W μ (⟨[],ms,k⟩:St).m->
  (∀x y b H,μ x=.at_ b->μ y=.at_ H->b.b=H.b->x=y)->
  Calls C.P f vs.toArray w λ e w'=>∃v W' μ',e=.returned v/\Step (⟨[],ms,k⟩:St).m (⟨[],ms',k'⟩:St).m w w' W W' μ μ'/\Rep w' W' μ' v r
def A.hands:A->Bool
 | .own _ _ _|.ptr _ _ _=>true
 | .clo _ H=>!H.isEmpty
 | .agg H=>!mA H
 |_=>false
def HF(nx:Nat):List A->Prop
 |[]=>True
 |c::cs=>wD nx c/\HF nx cs
def Ph(nx:Nat):A->Prop
 | .agg H=>HF nx H
 |a=>wD nx a
def argM(m:Nat->MS)(l:List (Nat×Nat))(k:Nat)(v a:A):Prop:=
 if a.hands then v=ren l a/\Ph k a else qY m v/\frz m v=a
def xV(m:Nat->MS)(l:List (Nat×Nat))(k:Nat):List A->List A->Prop
 |v::vs,a::as=>argM m l k v a/\xV m l k vs as
 |[],[]=>True
 |_,_=>False
def fzM:List A->List A->List Nat
 |v::vs,a::as=>(if a.hands then[]else sK v)++fzM vs as
 |_,_=>[]
def B7(m:Nat->MS)(l:List (Nat×Nat))(k:Nat)(O:List Nat):List (Nat×Row)->Prop
 |[]=>True
 |q::r=>(match m (rho l q.1)with
   | .row H=>H.ro=false/\H.sz=q.2.sz/\H.es=pO l q.2.es
   |_=>False)/\q.2.ro=false/\q.1<k/\idEs k q.2.es/\O.contains (rho l q.1)=false/\Nat.ble 1 q.2.sz=true/\B7 m l k O r
def d9{α:Type}(ms:List (Nat×α)):Nat->Bool
 |0=>true
 |n+1=>(look ms n).isSome&&d9 ms n
def okM(m:Nat->MS)(nx:Nat)(l:List (Nat×Nat))(H as:List A)(ms:List (Nat×Row))(k k':Nat):Prop:=
 xV m l k H as/\B7 m l k (fzM H as) ms/\Aa (ms.map λ q=>rho l q.1)=true/\Aa (ms.map (·.1))=true/\d9 ms k=true/\Nat.ble k k'=true/\(∀q∈ms,rho l q.1<nx)/\(∀q∈l,q.1<k)
def newL(k nx:Nat):Nat->List (Nat×Nat)
 |0=>[]
 |n+1=>(k,nx)::newL (k+1) (nx+1) n
def entM(l:List (Nat×Nat)):Option Row->MS
 |some r=>.row ⟨r.ro,r.sz,r.z,pO l r.es⟩
 |none=>.dead
def pE(l:List (Nat×Nat))(ms':List (Nat×Row)):List Nat->List (Nat×MS)
 |[]=>[]
 |x::xs=>(rho l x,entM l (look ms' x))::pE l ms' xs
def mwM(m:Nat->MS)(l:List (Nat×Nat))(H as:List A)(ms ms':List (Nat×Row))(k k':Nat):List (Nat×MS):=
 nT m (fzM H as)++pE l ms' (ms.map (·.1)++(List.range (k'-k)).map (k+·))
def MS.like:MS->MS->Prop
 | .row r,.row r'=>r.ro=r'.ro/\r.sz=r'.sz/\r.es=r'.es/\(r.sz=0->r.z=r'.z)
 | .dead,.dead=>True
 |_,_=>False
def xW(m:Nat->MS):List (Nat×MS)->Prop
 |[]=>True
 |q::r=>(m q.1).like q.2/\xW m r
def sL(C:Cx)(m:Nat->MS)(nx:Nat)(f:FuncId)(H:List A)(U:Option (Nat×Bool))(g:Bool)(Y:Prop)(F:Nat->Prop)(K:A->List (Nat×MS)->Prop):Prop:=
 ∃l as ms k r O k',(g=true->Y/\MFn C f as ms k r O k'/\okM m nx l H as ms k k'/\F (k'-k))/\(g=false->k=k'/\xW m (mwM m (l++newL k nx (k'-k)) H as ms O k k'))/\
  (U=none\/(renR (l++newL k nx (k'-k)) r).isVV=true)/\(∀g c,r≠.cnd g c)/\K (nU U g (renR (l++newL k nx (k'-k)) r)) (mwM m (l++newL k nx (k'-k)) H as ms O k k')
def PO.lax:PO->Bool
 | .len|.bin _|.not=>true
 |_=>false
def XK{id id':Nat}{m:Nat->MS}{O:PO}{H:List A}(h:O.lax=true):ev id m O H=ev id' m O H:=by cases O<;>first|(cases h;done)|rfl|(rcases H with _|⟨x,_|⟨y,_|⟨z,U⟩⟩⟩<;>first|rfl|(cases x<;>first|rfl|(cases y<;>rfl)))
def aop(C:Cx)(p:POp)(st:St)(K:St->Prop):Prop:=
 match pN st p.g with
 |none=>False
 |some g=>
  match p.po with
  | .pick=>match p.xs with
   |[c,x,y]=>match(xv C.G st.slot c).nc,(xv C.G st.slot x).nc,(xv C.G st.slot y).nc with
    | .bool b,.bool u,.bool v=>(g=true->(xv C.G st.slot c).gd=true/\(b=true->(xv C.G st.slot x).gd=true)/\(b=false->(xv C.G st.slot y).gd=true))/\K (st.app p.dst (nU p.g g (.bool (cond b u v))) [])
    |_,_,_=>False
   |_=>False
  | .call f=>∃r,(g=true->pD C st p.xs/\pC st.m (mP C st p.xs)/\PFn C f (oJ st.m (mP C st p.xs)) r)/\
    (p.g=none\/nO st.m (mP C st p.xs) r=[]/\r.isVV=true)/\K (st.app p.dst (nU p.g g r) (nO st.m (mP C st p.xs) r))
  | .callv=>match mP C st p.xs with
   | .clo f caps::vals=>∃r,(g=true->pD C st p.xs/\oW C.P f=true/\pC st.m (vals++caps)/\PFn C f (oJ st.m (vals++caps)) r)/\
    (p.g=none\/nO st.m (vals++caps) r=[]/\r.isVV=true)/\K (st.app p.dst (nU p.g g r) (nO st.m (vals++caps) r))
   |_=>False
  | .callb=>match mP C st p.xs with
   | .bnd f cs::vals=>∃r,(g=true->pD C st p.xs/\oW C.P f=true/\pC st.m (.agg cs::vals)/\PFn C f (oJ st.m (.agg cs::vals)) r)/\
    (p.g=none\/nO st.m (.agg cs::vals) r=[]/\r.isVV=true)/\K (st.app p.dst (nU p.g g r) (nO st.m (.agg cs::vals) r))
   |_=>False
  | .callm f=>sL C st.m st.nx f (mP C st p.xs) p.g g (pD C st p.xs) (λ _=>True) λ v O=>K (st.app p.dst v O)
  | .callvm=>match mP C st p.xs with
   | .clo f caps::vals=>sL C st.m st.nx f (vals++caps) p.g g (pD C st p.xs/\oW C.P f=true) (λ _=>True) λ v O=>K (st.app p.dst v O)
   |_=>False
  |po=>match ev st.nx st.m po (mP C st p.xs)with
   |some H=>(g=true->pD C st p.xs/\H.obl)/\(p.g=none\/H.mw=[]/\H.v.isVV=true)/\K (st.app p.dst (nU p.g g H.v) H.mw)
   |none=>g=false/\po.lax=true/\K (st.app p.dst (nU p.g g (.bool false)) [])
def oE(fr:Nat->A):Option (Nat×Bool)->Option Bool
 |none=>some true
 |some q=>match fr q.1 with
  | .bool b=>some (if q.2 then b else !b)
  | .cnd g (.bool b)=>some (g&&if q.2 then b else !b)
  |_=>none
def nH(C:Cx)(fr:Nat->A):List PX->List A
 |[]=>[]
 |p::ps=>(xv C.G fr p).nc::nH C fr ps
def gdsF(C:Cx)(fr:Nat->A):List PX->Prop
 |[]=>True
 |p::ps=>(xv C.G fr p).gd=true/\gdsF C fr ps
def aopS(C:Cx)(p:POp)(s:S)(id:Nat)(K:A->List (Nat×MS)->Prop):Prop:=
 match oE s.fr p.g with
 |none=>False
 |some g=>
  match p.po with
  | .pick=>match p.xs with
   |[c,x,y]=>match(xv C.G s.fr c).nc,(xv C.G s.fr x).nc,(xv C.G s.fr y).nc with
    | .bool b,.bool u,.bool v=>(g=true->(xv C.G s.fr c).gd=true/\(b=true->(xv C.G s.fr x).gd=true)/\(b=false->(xv C.G s.fr y).gd=true))/\K (nU p.g g (.bool (cond b u v))) []
    |_,_,_=>False
   |_=>False
  | .call f=>∃r,(g=true->gdsF C s.fr p.xs/\pC s.mem (nH C s.fr p.xs)/\PFn C f (oJ s.mem (nH C s.fr p.xs)) r)/\
    (p.g=none\/nO s.mem (nH C s.fr p.xs) r=[]/\r.isVV=true)/\K (nU p.g g r) (nO s.mem (nH C s.fr p.xs) r)
  | .callv=>match nH C s.fr p.xs with
   | .clo f caps::vals=>∃r,(g=true->gdsF C s.fr p.xs/\oW C.P f=true/\pC s.mem (vals++caps)/\PFn C f (oJ s.mem (vals++caps)) r)/\
    (p.g=none\/nO s.mem (vals++caps) r=[]/\r.isVV=true)/\K (nU p.g g r) (nO s.mem (vals++caps) r)
   |_=>False
  | .callb=>match nH C s.fr p.xs with
   | .bnd f cs::vals=>∃r,(g=true->gdsF C s.fr p.xs/\oW C.P f=true/\pC s.mem (.agg cs::vals)/\PFn C f (oJ s.mem (.agg cs::vals)) r)/\
    (p.g=none\/nO s.mem (.agg cs::vals) r=[]/\r.isVV=true)/\K (nU p.g g r) (nO s.mem (.agg cs::vals) r)
   |_=>False
  | .callm f=>sL C s.mem id f (nH C s.fr p.xs) p.g g (gdsF C s.fr p.xs) (λ n=>∀x,id<=x->x<id+n->s.mem x=.fresh) K
  | .callvm=>match nH C s.fr p.xs with
   | .clo f caps::vals=>sL C s.mem id f (vals++caps) p.g g (gdsF C s.fr p.xs/\oW C.P f=true) (λ n=>∀x,id<=x->x<id+n->s.mem x=.fresh) K
   |_=>False
  |po=>match ev id s.mem po (nH C s.fr p.xs)with
   |some H=>(g=true->gdsF C s.fr p.xs/\H.obl)/\(p.g=none\/H.mw=[]/\H.v.isVV=true)/\K (nU p.g g H.v) H.mw
   |none=>g=false/\po.lax=true/\K (nU p.g g (.bool false)) []
def nilQ(K:Bool->Prop):List A->Prop
 |[.sl es]=>∀b:Bool,(b=true->es=[])->K b
 |[.full es]=>∀b:Bool,(b=true->es=[])->K b
 |_=>False
def PO.isNilQ:PO->Bool
 | .eqNil=>true
 |_=>false
def PO.isNext:PO->Bool
 | .next _|.entry _=>true
 |_=>false
def XL:PO->(Nat->MS)->(A->List (Nat×MS)->Prop)->List A->Prop
 | .next d,m,K,vals=>nxtQ d m K vals
 | .entry d,m,K,vals=>entQ d m K vals
 |_,_,_,_=>False
def arun(C:Cx):List POp->St->(St->Prop)->Prop
 |[],st,K=>K st
 |p::ps,st,K=>if p.po.isNilQ=true then p.g=none/\pD C st p.xs/\nilQ (λ b=>arun C ps (st.app p.dst (.bool b) []) K) (mP C st p.xs)else if p.po.isNext=true then p.g=none/\pD C st p.xs/\XL p.po st.m (λ v H=>arun C ps (st.app p.dst v H) K) (mP C st p.xs)else aop C p st λ st'=>arun C ps st' K
def wE{α:Type}(n x:Nat):∀l:List (Nat×α),look (rm n l) x=if x=n then none else look l x
 |[]=>by simp[rm,look]
 |q::r=>by
  unfold rm;split
  .rename_i h;rw[wE n x r]
   by_cases K:x=n
   .simp[K]
   .rw[bZ K,bZ K];simp only[look];rw[bZ om]
  .rename_i h;simp only[look];split
   .rename_i H;rw[bZ om]
   .exact wE n x r
def Pi(st:St)(d:Option Nat)(v:A)(mw:List (Nat×MS)):(st.app d v mw).slot=setF st.slot d v:=by
 funext t;simp only[St.slot,St.app,setF,putF];cases d with
 |none=>simp
 |some d=>
  simp only[look,dD];split
  .rfl
  .rename_i h;rw[wE,bZ om]
def mwOk:Nat->List (Nat×MS)->Prop
 |_,[]=>True
 |nx,q::r=>q.1<=nx/\q.2≠.fresh/\mwOk (if q.1=nx then nx+1 else nx) r
def Pj{m:Nat->MS}(x:Nat):∀{mw:List (Nat×MS)} (m':Nat->MS),xW m mw->setM m' mw x=m' x\/(m x).like (setM m' mw x)
 |[],_,_=>.inl rfl
 |q::r,m',h=>by
  simp only[setM];rcases Pj x (λ x=>if x=q.1 then q.2 else m' x) h.2 with e|e
  .rw[e]
   by_cases H:x=q.1
   .subst H;rw[cA rfl];exact .inr h.1
   .rw[bZ H];exact .inl rfl
  .exact .inr e
def qD.like{w:World}{W:Nat->Prop}{μ:Nat->Loc}{x:Nat}{p q:MS}(h:qD w W μ x p)(K:p.like q):qD w W μ x q:=by
 cases p<;>cases q<;>first|exact K.elim|exact h|skip
 rename_i r O;obtain⟨ro,U,z,es⟩:=r;obtain⟨Y,B,F,M⟩:=O;obtain⟨rfl,rfl,rfl,L⟩:=K;rcases h with h|⟨k,H,h2|h2⟩
 .exact .inl h
 .exact .inr ⟨k,H,.inl h2⟩
 .have e:U=0:=h2.elim (λ h=>h.2.2.1) (λ h=>h.2.2.1);have V:z=F:=L e;subst V;exact .inr ⟨k,H,.inr h2⟩
def MS.like_ne{p q:MS}(h:p.like q):p≠.fresh/\q≠.fresh:=by cases p<;>cases q<;>first|exact h.elim|exact⟨(nomatch ·),(nomatch ·)⟩
def Ln:∀(mw:List (Nat×MS)) (fr:List (Nat×A)) (mem:List (Nat×Row)) (nx:Nat),mwOk nx mw->∀H,(⟨H,putM mw mem,nxt nx mw⟩:St).m=setM (⟨fr,mem,nx⟩:St).m mw
 |[],fr,mem,nx,_,H=>by simp[putM,nxt,setM,St.m];rfl
 |q::r,fr,mem,nx,h,H=>by
  obtain⟨F,O,B⟩:=h;have e:(λ x=>if x=q.1 then q.2 else(⟨fr,mem,nx⟩:St).m x)=(⟨fr,(match q with|(x,.row r)=>(x,r)::rm x mem|(x,_)=>rm x mem),if q.1=nx then nx+1 else nx⟩:St).m:=by
   funext x;obtain⟨y,U⟩:=q;simp only at F O
   by_cases K:x=y
   .subst K;rw[cA rfl];cases U with
    |fresh=>exact absurd rfl O
    |dead=>simp only[St.m,wE,cG];rw[bZ (by split<;>omega)]
    |row r=>simp only[St.m,look,cG];rw[bZ (by split<;>omega)]
   .rw[bZ K];cases U with
    |fresh=>exact absurd rfl O
    |dead=>
     simp only[St.m,wE,K,cH];split
     .rename_i Y;rw[cA (by split<;>omega)]
     .rename_i Y;rw[bZ (by split<;>omega)]
    |row r=>
     simp only[St.m,look,wE,K,cH,show¬y=x by omega];split
     .rename_i Y;rw[cA (by split<;>omega)]
     .rename_i Y;rw[bZ (by split<;>omega)]
  simp only[setM,nxt];rw[e];obtain⟨y,U⟩:=q;cases U with
  |fresh=>exact absurd rfl O
  |dead=>exact Ln r fr _ _ B H
  |row M=>exact Ln r fr _ _ B H
end Ab
end Go.Proofs.YtfmnjkfhahfhgaaGreatDoor
