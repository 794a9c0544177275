import Derived.Test.YtfmnjkfhahfhgaaGreatDoorAbM
import Derived.Lib.ConvBytes
import Derived.Laws.BytesArg
import Derived.Lib.SliceRun
import Derived.Scope
import Derived.Orders
namespace Go.Proofs.YtfmnjkfhahfhgaaGreatDoor
namespace Ab
set_option linter.all false
def nH:List Operand->List PX->Bool
 |[],[]=>true
 |x::xs,p::ps=>chkX x p&&nH xs ps
 |_,_=>false
def DX:Operand->Bool
 | .const (.slice none 0 0)=>true
 |_=>false
def sI(P:Program)(T:TypeId)(f:TypeDesc->Bool):Bool:=match P.underlying T with|some d=>f d|none=>false
def b9:TypeDesc->Bool|.string=>true|_=>false
def DY:TypeDesc->Bool|.slice _=>true|_=>false
def Rm:TypeDesc->Bool|.bool=>true|_=>false
def JJ(k:IntKind):TypeDesc->Bool|.int k'=>k==k'|_=>false
def ZH(P:Program)(T:TypeId)(f off n:Nat)(H:Bool):Bool:=
 (match P.underlying T with|some (.struct fs)=>(match fs[f]? with|some g=>g.offset==off&&tyOk P g.type H n|none=>false)|_=>false)
def ZI(P:Program)(T:TypeId)(n sz:Nat)(H:Bool):Bool:=
 (match P.underlying T with|some (.array m e)=>m==n&&tyOk P e H sz|_=>false)
def pM(P:Program)(f:FuncId):Bool:=match P.funcs[f]? with|some fn=>fn.body.isSome&&!(fn.name== "runtime.NumGoroutine")&&!(f==zV)|none=>false
def JK(P:Program)(T:TypeId):Bool:=(match P.underlying T with|some (.slice e)=>sI P e (JJ .u8)|_=>false)
def uK(P:Program)(H:Op)(po:PO)(xs:List PX):Bool:=
 match po with
 | .mv=>(match H with|.move x=>nH [x] xs|.assign x=>nH [x] xs|_=>false)
 | .nilown _ _=>(match H with|.move x=>DX x&&xs.length==1|.assign x=>DX x&&xs.length==1|_=>false)
 | .pick=>(match H with|.pick c x y=>nH [c,x,y] xs|_=>false)
 | .box _=>(match H with|.box _ x=>nH [x] xs|_=>false)
 | .alloc n z=>(match H with|.alloc T=>Aj P T z&&z.length==n&&xs.isEmpty|_=>false)
 | .build z ps=>(match H with|.build T O=>Aj P T z&&Nh P T O.toList ps&&nH (O.toList.map (·.2)) xs|_=>false)
 | .bslice Y z=>(match H with|.buildSlice T n O=>n==xs.length&&bsTy P T Y z&&Al 0 O.toList&&nH (O.toList.map (·.2)) xs|_=>false)
 | .bown Y z=>(match H with|.buildSlice T n O=>n==xs.length&&bsTy P T Y z&&Al 0 O.toList&&nH (O.toList.map (·.2)) xs|_=>false)
 | .load n F=>(match H with|.load T x=>tyOk P T F n&&nH [x] xs|_=>false)
 | .store n=>(match H with|.store T x y=>szIs P T n&&nH [x,y] xs|_=>false)
 | .bin b=>(match H with|.binOp b' _ x y _=>b==b'&&nH [x,y] xs|_=>false)
 | .eqNil=>(match H with|.binOp b T x y _=>b== .eql&&sI P T DY&&DX y&&nH [x] xs|_=>false)
 | .eqb M=>(match H with|.binOp b' T x y _=>(b'==if M then .neq else .eql)&&sI P T Rm&&nH [x,y] xs|_=>false)
 | .eqa M ks=>(match H with|.binOp b' T x y _=>(b'==if M then .neq else .eql)&&tI P 20 T==some ks&&sI P T aggD&&!P.eqGuardType P.depth T&&nH [x,y] xs|_=>false)
 | .not=>(match H with|.unOp .not _ x=>nH [x] xs|_=>false)
 | .neg=>(match H with|.unOp .neg _ x=>nH [x] xs|_=>false)
 | .field L n F=>(match H with|.field T x f=>ZH P T f L n F&&nH [x] xs|_=>false)
 | .faddr L=>(match H with|.fieldAddr T x f=>JA P T f L&&nH [x] xs|_=>false)
 | .iaA n Y=>(match H with|.indexAddr T x i=>JB P T n Y&&nH [x,i] xs|_=>false)
 | .iaS Y _=>(match H with|.indexAddr T x i=>DT P T Y&&nH [x,i] xs|_=>false)
 | .idxA n Y F=>(match H with|.index T x i=>ZI P T n Y F&&nH [x,i] xs|_=>false)
 | .idxS=>(match H with|.index T x i=>sI P T b9&&nH [x,i] xs|_=>false)
 | .slc Y l h m=>(match H with|.slice T x lo K mx=>sI P T DY&&BO P T Y&&l==lo.isSome&&h==K.isSome&&m==mx.isSome&&nH ([x]++lo.toList++K.toList++mx.toList) xs|_=>false)
 | .slcS l h=>(match H with|.slice T x lo K mx=>sI P T b9&&l==lo.isSome&&h==K.isSome&&mx.isNone&&nH ([x]++lo.toList++K.toList) xs|_=>false)
 | .ext i=>(match H with|.extract x i'=>i==i'&&nH [x] xs|_=>false)
 | .len=>(match H with|.call {callee:=.builtin .len,args,argTypes}=>(match args.toList,argTypes.toList with|[x],[t]=>sI P t DY&&nH [x] xs|_,_=>false)|_=>false)
 | .lenS=>(match H with|.call {callee:=.builtin .len,args,argTypes}=>(match args.toList,argTypes.toList with|[x],[t]=>sI P t b9&&nH [x] xs|_,_=>false)|_=>false)
 | .append Y B _=>(match H with|.call {callee:=.builtin .append,args,argTypes}=>(match args.toList,argTypes.toList with|[x,y],[T,U]=>Ak P T U Y B&&nH [x,y] xs|_,_=>false)|_=>false)
 | .appc Y B=>(match H with|.call {callee:=.builtin .append,args,argTypes}=>(match args.toList,argTypes.toList with|[x,y],[T,U]=>Ak P T U Y B&&nH [x,y] xs|_,_=>false)|_=>false)
 | .apl Y B=>(match H with|.call {callee:=.builtin .append,args,argTypes}=>(match args.toList,argTypes.toList with|[x,y],[T,U]=>Ak P T U Y B&&nH [x,y] xs|_,_=>false)|_=>false)
 | .copy Y=>(match H with|.call {callee:=.builtin .copy,args,argTypes}=>(match args.toList,argTypes.toList with|[x,y],[T,_]=>DT P T Y&&nH [x,y] xs|_,_=>false)|_=>false)
 | .clear Y z=>(match H with|.call {callee:=.builtin .clear,args,argTypes}=>(match args.toList,argTypes.toList with|[x],[T]=>Nk P T Y z&&nH [x] xs|_,_=>false)|_=>false)
 | .mk Y B z=>(match H with|.makeSlice T x y=>mkTy P T Y B z&&nH [x,y] xs|_=>false)
 | .conv k=>(match H with|.convert T T2 x=>sI P T (λ _=>true)&&sI P T2 (JJ k)&&nH [x] xs|_=>false)
 | .cvS=>(match H with|.convert T T2 x=>JK P T&&sI P T2 b9&&nH [x] xs|_=>false)
 | .cvB=>(match H with|.convert T T2 x=>sI P T b9&&JK P T2&&nH [x] xs|_=>false)
 | .min=>(match H with|.call {callee:=.builtin .min,args,.. }=>(match args.toList with|[x,y]=>nH [x,y] xs|_=>false)|_=>false)
 | .max=>(match H with|.call {callee:=.builtin .max,args,.. }=>(match args.toList with|[x,y]=>nH [x,y] xs|_=>false)|_=>false)
 | .nilck=>(match H with|.nilCheck x=>nH [x] xs|_=>false)
 | .mkf f=>(match H with|.makeFunc (.func f') fst caps=>f==f'&&fst.isEmpty&&nH caps.toList xs|_=>false)
 | .mkb f=>(match H with|.makeFunc (.func f') fst caps=>(match fst.toList with|[y]=>f==f'&&caps.isEmpty&&nH [y] xs|_=>false)|_=>false)
 | .call f=>(match H with|.call {callee:=.value (.func f'),args,.. }=>f==f'&&nH args.toList xs&&pM P f|_=>false)
 | .callm f=>(match H with|.call {callee:=.value (.func f'),args,.. }=>f==f'&&nH args.toList xs&&pM P f|_=>false)
 | .callv=>(match H with|.call {callee:=.value (.tmp t),args,.. }=>nH (.tmp t::args.toList) xs|_=>false)
 | .callb=>(match H with|.call {callee:=.value (.tmp t),args,.. }=>nH (.tmp t::args.toList) xs|_=>false)
 | .mkmap _=>(match H with|.makeMap _ none=>xs.isEmpty|_=>false)
 | .lkp ok F kz z=>(match H with|.lookup T x i V=>ok==V&&BT P T kz&&Np P T F z&&nH [x,i] xs|_=>false)
 | .mupd kz _ _=>(match H with|.mapUpdate T x i y=>BT P T kz&&nH [x,i,y] xs|.insert T x i y=>BT P T kz&&nH [x,i,y] xs|_=>false)
 | .lenM=>(match H with|.call {callee:=.builtin .len,args,argTypes}=>(match args.toList,argTypes.toList with|[x],[t]=>sI P t JF&&nH [x] xs|_,_=>false)|_=>false)
 | .rng=>(match H with|.range T x=>sI P T JF&&nH [x] xs|_=>false)
 | .next _=>(match H with|.next x false=>nH [x] xs|_=>false)
 | .entry _=>(match H with|.entry x=>nH [x] xs|_=>false)
 | .callvm=>(match H with|.call {callee:=.value (.tmp t),args,.. }=>nH (.tmp t::args.toList) xs|_=>false)
section
variable {P:Program} {o:Oper} {a:Act} {E:Env} {s:S} {w:World} {W:Nat→Prop} {μ:Nat→Loc}
def Vals(w:World)(W:Nat->Prop)(μ:Nat->Loc)(a:Act)(xs:List Operand)(vs:List A):Prop:=
 xs.length=vs.length/\∀(i:Nat) (x:Operand) (v:A),xs[i]? =some x->vs[i]? =some v->Rep w W μ (a.eval x) v
def Vals.one{x:Operand}{vs:List A}(h:Vals w W μ a [x] vs):∃v,vs=[v]/\Rep w W μ (a.eval x) v:=by
 match vs,h.1 with
 |[v],_=>exact⟨v,rfl,h.2 0 x v rfl rfl⟩
def Vals.two{x y:Operand}{vs:List A}(h:Vals w W μ a [x,y] vs):∃v u,vs=[v,u]/\Rep w W μ (a.eval x) v/\Rep w W μ (a.eval y) u:=by
 match vs,h.1 with
 |[v,u],_=>exact⟨v,u,rfl,h.2 0 x v rfl rfl,h.2 1 y u rfl rfl⟩
def Vals.three{x y z:Operand}{vs:List A}(h:Vals w W μ a [x,y,z] vs):∃v u t,vs=[v,u,t]/\Rep w W μ (a.eval x) v/\Rep w W μ (a.eval y) u/\Rep w W μ (a.eval z) t:=by
 match vs,h.1 with
 |[v,u,t],_=>exact⟨v,u,t,rfl,h.2 0 x v rfl rfl,h.2 1 y u rfl rfl,h.2 2 z t rfl rfl⟩
def Vals.four{x y z q:Operand}{vs:List A}(h:Vals w W μ a [x,y,z,q] vs):∃v u t r,vs=[v,u,t,r]/\Rep w W μ (a.eval x) v/\Rep w W μ (a.eval y) u/\Rep w W μ (a.eval z) t/\Rep w W μ (a.eval q) r:=by
 match vs,h.1 with
 |[v,u,t,r],_=>exact⟨v,u,t,r,rfl,h.2 0 x v rfl rfl,h.2 1 y u rfl rfl,h.2 2 z t rfl rfl,h.2 3 q r rfl rfl⟩
def tR{T:TypeId}{f:TypeDesc->Bool}(h:sI P T f=true):∃d,P.underlying T=some d/\f d=true:=by
 unfold sI at h;split at h
 .rename_i d H;exact⟨d,H,h⟩
 .cases h
end
section
variable {P:Program} {o:Oper} {a:Act} {E:Env} {s:S} {w:World} {W:Nat→Prop} {μ:Nat→Loc}
def mT.mw{av:A}{m m' H:Nat->MS}(h:mT P o a w W μ m av m')(e:m'=H):mT P o a w W μ m av H:=e▸h
def Nu{H:List (Nat×Operand)}{vs:List A}(h:Vals w W μ a (H.map (·.2)) vs):
  H.length=vs.length/\∀(i:Nat) (p:Nat×Operand) (x:A),H[i]? =some p->vs[i]? =some x->Rep w W μ (a.eval p.2) x:=
 ⟨by simpa using h.1,λ i p x O U=>h.2 i p.2 x (by simp[O]) U⟩
def Rn{x:Operand}(h:DX x=true):x=.const (.slice none 0 0):=by
 unfold DX at h;split at h
 .rfl
 .cases h
def Ro:∀{xs:List A},allK xs=true->∀x∈xs,x.isK=true
 |x::xs,h,y,hy=>by
  simp only[allK,bY]at h;rcases cK.1 hy with rfl|hy
  .exact h.1
  .exact Ro h.2 y hy
def Rp{T:TypeId}(h:JK P T=true):∃e,P.underlying T=some (.slice e)/\P.underlying e=some (.int .u8):=by
 unfold JK at h;split at h
 .rename_i e O;obtain⟨d,U,H⟩:=tR h;refine⟨e,O,?_⟩;cases d<;>simp[JJ]at H;subst H;exact U
 .cases h
def Rq:∀{es:List (List A)} {l:List Int},u8s es=some l->es=l.map λ n=>[A.int .u8 n]
 |[],l,h=>by simp[u8s]at h;subst h;rfl
 |c::cs,l,h=>by
  unfold u8s at h;split at h
  .cases‹_=[]›
  .rename_i n O H;cases H;obtain⟨Y,U,rfl⟩:=cN.1 h;rw[dN,<-Rq U]
  .cases h
def Rr{R:Value->A->Prop}(U:∀u n,R u (.int .u8 n)->u=.int .u8 n){sz:Nat}{us:List Value}{l:List Int}(h:Flat R sz us (l.map λ n=>[A.int .u8 n]))(L:l≠[]):sz=1/\us=l.map (Value.int .u8):=by
 have H:sz=1:=by
  cases l with
  |nil=>exact absurd rfl L
  |cons n l=>exact(h.hs 0 [A.int .u8 n] rfl).symm
 subst H;refine⟨rfl,List.ext_getElem? λ i=>?_⟩
 by_cases K:i<l.length
 .obtain⟨u,O,Y⟩:=h.ha i [A.int .u8 l[i]] 0 _ (by simp[K]) rfl;simp only[gB,Nat.add_zero]at O;rw[O,U u _ Y];simp[K]
 .rw[gO (by have:=h.hl;simp at this;omega),gO (by simp;omega)]
def ZJ(hs:SatW E s a w W μ){x:Operand}{T T2 e:TypeId}{ax:A}{es:List (List A)}{l:List Int}(ho:o.op=.convert T T2 x)(hT:P.underlying T=some (.slice e))(he:P.underlying e=some (.int .u8))(x0:P.underlying T2=some .string)
  (V:Rep w W μ (a.eval x) ax) (c0:ax.isStr=false) (O:sT s.mem ax=some es) (hl:u8s es=some l) (d0:uI s.mem ax):mT P o a w W μ s.mem (.str (pI l)) s.mem:=by
 have f0:=Rq hl;subst f0;have hR:∀u n,RepK w W μ u (.int .u8 n)->u=.int .u8 n:=λ u n h=>Rep.int (nN (nT h));have g0:∀u n,RepC w W u (.int .u8 n)->u=.int .u8 n:=λ u n h=>hR u n (nV h);have u0:(convert T T2 (a.eval x)).run P w=.ok (.string (strOfNums l)) w->mT P o a w W μ s.mem (.str (pI l)) s.mem:=λ h=>
  ⟨.value (.string (strOfNums l)),.string (strOfNums l),w,W,μ,by simp[execOp,ho,h],.inl rfl,nN (nT (nV (.str _))),hs.refl⟩
 have B:∀ad H,a.eval x=.slice ad 0 H->l=[]->mT P o a w W μ s.mem (.str (pI l)) s.mem:=λ ad H K h0=>by
  subst h0;refine u0 ?_;rw[K];cases ad with
  |none=>exact run_convert_bytes_nil w T e hT he 0 H T2 x0
  |some b=>rw[run_convert_bytes_string w T T2 e _ 0 H hT he x0,run_bytesToString w b 0 H [] (by simp[loadCells,loadCellsFrom])];rfl
 have F:∀b U H,a.eval x=.slice (some ⟨b,U,none⟩) l.length H->(∀i,i<l.length->w.cell? ⟨b,U+i,none⟩=some (.int .u8 (l.getD i 0)))->mT P o a w W μ s.mem (.str (pI l)) s.mem:=λ b U H K hc=>by refine u0 ?_;rw[K];exact run_convert_bytes_arg w T e hT he b U l.length H l rfl hc T2 x0
 have M:RepC w W (a.eval x) (.sl (l.map λ n=>[A.int .u8 n]))->mT P o a w W μ s.mem (.str (pI l)) s.mem:=λ V=>by
  rcases V.open_sl with⟨h0,ad,H,K⟩|⟨b,U,H,sz,us,K,_,_,hn,_,hf,hc⟩
  .exact B ad H K (by simpa using h0)
  .have y0:l≠[]:=by rintro rfl;simp at hn
   obtain⟨rfl,L⟩:=Rr g0 hf y0;refine F b U H (by simpa using K) λ i hi=>hc i _ ?_;subst L;simp[hi]
 unfold sT at O;split at O
 .cases O;exact M V
 .cases O;exact M (RepC.of_full V).1
 .rename_i y lo n;split at O
  .rename_i r hr;simp only[cY]at O;simp only[uI,hr]at d0;have Z:((r.es.drop lo).take n).length=n:=by simp;omega
   have z0:l.length=n:=by rw[<-Z,O,dK]
   rcases hs.own V hr with⟨rfl,ad,K⟩|⟨k,H,h5,h6,h7,h8,h9,q0⟩
   .exact B ad 0 K (dA z0)
   .obtain⟨_,r0,m0,l0,j0,e0,p0,htot,hf⟩:=q0;have s0:=(hf.drop lo).take n;rw[O]at s0
    by_cases y0:l=[]
    .subst y0;simp at z0;subst z0;refine u0 ?_;rw[h6];rw[run_convert_bytes_string w T T2 e _ 0 H hT he x0,run_bytesToString w _ 0 H [] (by simp[loadCells,loadCellsFrom])];rfl
    .obtain⟨t0,L⟩:=Rr hR s0 y0;rw[t0,gB,gB]at L;refine F k.b (lo*k.sz) H (by rw[h6,z0]) λ i hi=>?_;rw[r0,t0,gB];have Y:((l0.drop lo).take n)[i]? =some (.int .u8 (l.getD i 0)):=by rw[L];simp[hi]
     rw[eA]at Y;split at Y
     .rw[eG]at Y;simp only[World.cell?,p0,oc,bZ,cI,fO];rw[dX (cJ.1 Y).1,Y]
     .cases Y
  .cases O
 .simp[A.isStr]at c0
 .cases O
def ZK(K:SatW E s a w W μ){x:Operand}{T T2 e:TypeId}{b:ByteArray}{u:TypeDesc}(ho:o.op=.convert T T2 x)(Z:P.underlying T=some u)(h0:P.underlying T2=some (.slice e))(he:P.underlying e=some (.int .u8))
  (hx:Rep w W μ (a.eval x) (.str b)) (V:b.size<=maxLen):mT P o a w W μ s.mem (.sl (b.toList.map λ c=>[A.int .u8 c.toNat])) s.mem:=by
 have O:=Lib.run_convert_string_bytes (P:=P) w T T2 e b Z h0 he;have hk:Keeps (λ _=>False) w (Lib.bytesWorld w e b):=⟨by unfold Lib.bytesWorld World.freeze;rw[bX Om];rfl,by unfold Lib.bytesWorld World.freeze;rw[bX Om];rfl,by unfold Lib.bytesWorld World.freeze;rw[bX Om];rfl,by unfold Lib.bytesWorld World.freeze;rw[bX Om];exact kQ _,by rw[Lib.bytesWorld_size];omega,λ j hj _=>Lib.bytesWorld_at_old w e b j hj⟩;have U:b.toList=b.data.toList:=ByteArray.toList_eq ..
 have Y:b.toList.length=b.size:=by rw[U];rfl
 refine⟨.value _,_,Lib.bytesWorld w e b,W,μ,by simp[execOp,ho,hx.str,O];rfl,.inl rfl,?_,Step.quiet hk K.mem K.inj K.wlt⟩;refine nN (nT (nV ?_));have B:(b.toList.map λ c=>[A.int .u8 c.toNat]).length=b.size:=by rw[dK,Y]
 conv=>arg 3;rw[<-B]
 refine RepC.mk_sl (sz:=1) (us:=b.toList.map λ c=>Value.int .u8 c.toNat) (λ hW=>absurd (K.wlt _ hW) (kV _)) (by rw[Lib.bytesWorld_size];omega) (by rw[B];exact grownCap_ge w b.size 0 e) ?_ ?_
 .refine⟨by simp,λ i c F=>?_,λ i c j q F H=>?_⟩
  .simp only[cV,cN]at F;obtain⟨d,_,rfl⟩:=F;rfl
  .simp only[cV,cN]at F;obtain⟨d,M,rfl⟩:=F;cases j with
   |zero=>simp at H;subst H;exact⟨_,by simp[M],.int _ _⟩
   |succ j=>simp at H
 .intro q v H;simp only[cV,cN]at H;obtain⟨d,M,rfl⟩:=H;have L:q<b.size:=by rw[<-Y];exact(cJ.1 M).1
  rw[eC,Lib.bytesWorld_cell w e b q L];rw[U]at M;simp[List.getD,M]
def ZL(Z:SatW E s a w W μ){id:Nat}(p0:s.mem id=.fresh)(po:PO)(xs:List PX)(F:List A)(hV:∀e0,nH e0 xs=true->Vals w W μ a e0 F)(hlen:xs.length=F.length)
  (H:uK P o.op po xs=true) {ef:Ef} (O:ev id s.mem po F=some ef) (Y:ef.obl) (g0:po≠.pick):mT P o a w W μ s.mem ef.v (setM s.mem ef.mw):=by
 cases po<;>simp only[uK]at H
 case pick=>exact absurd rfl g0
 case mv=>
  split at H
  .rename_i x B;obtain⟨v,rfl,K⟩:=(hV _ H).one;cases O;exact Q1 Z (.inl B) K
  .rename_i x B;obtain⟨v,rfl,K⟩:=(hV _ H).one;cases O;exact Q1 Z (.inr B) K
  .cases H
 case nilown sz z=>
  have f0:∀x,(o.op=.move x\/o.op=.assign x)->(DX x&&xs.length==1)=true->mT P o a w W μ s.mem ef.v (setM s.mem ef.mw):=λ x B h=>by
   simp only[bY,dL]at h
   match F,(show F.length=1 by omega)with
   |[v],_=>cases O;exact Y3 Z B (Rn h.1) p0 Y
  split at H
  .rename_i x B;exact f0 x (.inl B) H
  .rename_i x B;exact f0 x (.inr B) H
  .cases H
 case box n=>
  split at H
  .rename_i T x B;obtain⟨v,rfl,K⟩:=(hV _ H).one;cases O;exact Y4 Z B K p0 Y.1 Y.2.1 Y.2.2
  .cases H
 case alloc n z=>
  split at H
  .rename_i T B;simp only[bY,dL]at H;obtain⟨⟨h1,h2⟩,h3⟩:=H;have:F=[]:=by
    have:xs=[]:=by simpa using h3
    subst this;exact dA hlen.symm
   subst this;subst h2;cases O;exact Y5 Z B h1 p0 Y.1
  .cases H
 case build z ps=>
  split at H
  .rename_i T q0 B;simp only[bY]at H;obtain⟨⟨h1,h2⟩,h3⟩:=H;obtain⟨h4,h5⟩:=Nu (hV _ h3);cases F<;>(cases O;exact Zd Z B h1 h2 h4 h5 Y)
  .cases H
 case bslice sz z=>
  split at H
  .rename_i T n q0 B;simp only[bY,dL]at H;obtain⟨⟨⟨h0,h1⟩,h2⟩,h3⟩:=H;obtain⟨h4,h5⟩:=Nu (hV _ h3);cases F<;>(cases O;exact Zg Z B om h1 h2 h4 Y.2.2.2.2 h5 Y.2.1 Y.2.2.1 Y.2.2.2.1)
  .cases H
 case bown sz z=>
  split at H
  .rename_i T n q0 B;simp only[bY,dL]at H;obtain⟨⟨⟨h0,h1⟩,h2⟩,h3⟩:=H;obtain⟨h4,h5⟩:=Nu (hV _ h3);cases F<;>(cases O;exact Zf Z B om h1 h2 h4 Y.2.2.2 h5 p0 Y.1 Y.2.1 Y.2.2.1)
  .cases H
 case load n ag=>
  split at H
  .rename_i T x B;simp only[bY]at H;obtain⟨v,rfl,K⟩:=(hV _ H.2).one;refine(YO Z B H.1 K O Y).mw ?_;simp only[ev]at O;split at O
   .split at O<;>first|(cases O;rfl)|cases O
   .cases O;rfl
   .cases O
  .cases H
 case store n=>
  split at H
  .rename_i T x y B;simp only[bY]at H;obtain⟨v,u,rfl,K,L⟩:=(hV _ H.2).two;exact Y8 Z B H.1 K L O Y
  .cases H
 case bin b=>
  split at H
  .rename_i b' T x y T2 B;simp only[bY,dL]at H;obtain⟨rfl,h2⟩:=H;obtain⟨v,u,rfl,K,L⟩:=(hV _ h2).two;simp only[ev,cN]at O;obtain⟨q,hq,rfl⟩:=O;exact YJ Z B K L hq Y
  .cases H
 case eqb neg=>
  split at H
  .rename_i b' T x y T2 B;simp only[bY,dL]at H;obtain⟨⟨rfl,h2⟩,h3⟩:=H;obtain⟨v,u,rfl,K,L⟩:=(hV _ h3).two;obtain⟨d,hd,x0⟩:=tR h2;have hT:P.underlying T=some .bool:=by cases d<;>simp[Rm]at x0;exact hd
   cases v<;>simp only[ev]at O<;>try(cases O;done)
   cases u<;>simp only[ev]at O<;>try(cases O;done)
   cases O;exact Y0 Z B hT K L
  .cases H
 case eqa neg ks=>
  split at H
  .rename_i b' T x y T2 B;simp only[bY,dL,dB]at H;obtain⟨⟨⟨⟨rfl,h2⟩,h3⟩,h4⟩,h5⟩:=H;obtain⟨v,u,rfl,K,L⟩:=(hV _ h5).two;cases v<;>simp only[ev]at O<;>try(cases O;done)
   cases u<;>simp only[ev]at O<;>try(cases O;done)
   cases O;exact Zj Z B h2 h3 h4 K L Y.1 Y.2
  .cases H
 case not=>
  split at H
  .rename_i T x B;obtain⟨v,rfl,K⟩:=(hV _ H).one;cases v<;>simp only[ev]at O<;>try(cases O;done)
   cases O;exact YH Z B K
  .cases H
 case neg=>
  split at H
  .rename_i T x B;obtain⟨v,rfl,K⟩:=(hV _ H).one;cases v<;>simp only[ev]at O<;>try(cases O;done)
   cases O;exact YI Z B K
  .cases H
 case field off n ag=>
  split at H
  .rename_i T x f B;simp only[bY]at H;obtain⟨v,rfl,K⟩:=(hV _ H.2).one;refine(YV Z B H.1 K O Y).mw ?_;cases v<;>simp only[ev]at O<;>first|(cases O;rfl)|cases O
  .cases H
 case faddr off=>
  split at H
  .rename_i T x f B;simp only[bY]at H;obtain⟨v,rfl,K⟩:=(hV _ H.2).one;refine(YQ Z B H.1 K O).mw ?_;simp only[ev]at O;split at O
   .split at O<;>first|(cases O;rfl)|cases O
   .cases O;rfl
   .cases O
  .cases H
 case iaA n sz=>
  split at H
  .rename_i T x i B;simp only[bY]at H;obtain⟨v,u,rfl,K,L⟩:=(hV _ H.2).two;refine(YS Z B H.1 K L O Y).mw ?_;cases u<;>simp only[ev]at O<;>try(cases O;done)
   split at O
   .split at O<;>first|(cases O;rfl)|cases O
   .cases O;rfl
   .cases O
  .cases H
 case iaS sz z=>
  split at H
  .rename_i T x i B;simp only[bY]at H;obtain⟨v,u,rfl,K,L⟩:=(hV _ H.2).two;refine(YT Z B H.1 K L O Y).mw ?_;cases u<;>simp only[ev]at O<;>try(cases O;done)
   split at O
   .cases O;rfl
   .cases O;rfl
   .split at O<;>first|(cases O;rfl)|cases O
   .cases O
  .cases H
 case idxA n sz ag=>
  split at H
  .rename_i T x i B;simp only[bY]at H;obtain⟨v,u,rfl,K,L⟩:=(hV _ H.2).two;refine(YU Z B H.1 K L O Y).mw ?_;cases v<;>simp only[ev]at O<;>try(cases O;done)
   cases u<;>simp only[ev]at O<;>try(cases O;done)
   cases O;rfl
  .cases H
 case idxS=>
  split at H
  .rename_i T x i B;simp only[bY]at H;obtain⟨v,u,rfl,K,L⟩:=(hV _ H.2).two;obtain⟨d,hd,x0⟩:=tR H.1;have hT:P.underlying T=some .string:=by cases d<;>simp[b9]at x0;exact hd
   cases v<;>simp only[ev]at O<;>try(cases O;done)
   cases u<;>simp only[ev]at O<;>try(cases O;done)
   cases O;exact Zm Z B hT K L Y.1 Y.2
  .cases H
 case slc sz l h m=>
  split at H
  .rename_i T x lo hi mx B;simp only[bY,dL]at H;obtain⟨⟨⟨⟨⟨h1,h2⟩,rfl⟩,rfl⟩,rfl⟩,h6⟩:=H;have V:=hV _ h6;obtain⟨d,hd,x0⟩:=tR h1;have u0:∀v,Rep w W μ (a.eval x) v->∀l h m,Bds (lo.map a.eval) (hi.map a.eval) (mx.map a.eval) l h m->(if v.isStr then none else(sB s.mem sz v l h m).map λ q=>(⟨q.1,q.2,[]⟩:Ef))=some ef->mT P o a w W μ s.mem ef.v (setM s.mem ef.mw):=λ v K l h m hb hq=>by
    split at hq
    .cases hq
    .rename_i t0;simp only[cN]at hq;obtain⟨q,hq,rfl⟩:=hq;refine Q4 Z B h2 K ⟨λ⟨b,hb⟩=>?_,λ L=>?_⟩ hb hq Y
     .subst hb;exact absurd rfl t0
     .rw[hd]at L;cases L;simp[DY]at x0
   cases lo with
   |none=>
    cases hi with
    |none=>
     cases mx with
     |none=>obtain⟨v,rfl,K⟩:=V.one;exact u0 v K none none none ⟨.inl ⟨rfl,rfl⟩,.inl ⟨rfl,rfl⟩,.inl ⟨rfl,rfl⟩⟩ O
     |some m0=>obtain⟨v,u,rfl,K,L⟩:=V.two;exact absurd O (by simp[ev])
    |some h0=>
     cases mx with
     |none=>
      obtain⟨v,u,rfl,K,L⟩:=V.two;cases u<;>simp only[ev,Option.isSome]at O<;>try(cases O;done)
      exact u0 v K none (some _) none ⟨.inl ⟨rfl,rfl⟩,.inr ⟨_,_,dZ some L.int,rfl⟩,.inl ⟨rfl,rfl⟩⟩ O
     |some m0=>
      obtain⟨v,u,t,rfl,K,L,ht⟩:=V.three;cases u<;>simp only[ev,Option.isSome]at O<;>try(cases O;done)
      cases t<;>(try simp only at O)<;>try(cases O;done)
      exact u0 v K none (some _) (some _) ⟨.inl ⟨rfl,rfl⟩,.inr ⟨_,_,dZ some L.int,rfl⟩,.inr ⟨_,_,dZ some ht.int,rfl⟩⟩ O
   |some l0=>
    cases hi with
    |none=>
     cases mx with
     |none=>
      obtain⟨v,u,rfl,K,L⟩:=V.two;cases u<;>simp only[ev,Option.isSome]at O<;>try(cases O;done)
      exact u0 v K (some _) none none ⟨.inr ⟨_,_,dZ some L.int,rfl⟩,.inl ⟨rfl,rfl⟩,.inl ⟨rfl,rfl⟩⟩ O
     |some m0=>obtain⟨v,u,t,rfl,K,L,ht⟩:=V.three;exact absurd O (by simp[ev])
    |some h0=>
     cases mx with
     |none=>
      obtain⟨v,u,t,rfl,K,L,ht⟩:=V.three;cases u<;>simp only[ev,Option.isSome]at O<;>try(cases O;done)
      cases t<;>(try simp only at O)<;>try(cases O;done)
      exact u0 v K (some _) (some _) none ⟨.inr ⟨_,_,dZ some L.int,rfl⟩,.inr ⟨_,_,dZ some ht.int,rfl⟩,.inl ⟨rfl,rfl⟩⟩ O
     |some m0=>
      obtain⟨v,u,t,r,rfl,K,L,ht,hr⟩:=V.four;cases u<;>simp only[ev,Option.isSome]at O<;>try(cases O;done)
      cases t<;>(try simp only at O)<;>try(cases O;done)
      cases r<;>(try simp only at O)<;>try(cases O;done)
      exact u0 v K (some _) (some _) (some _) ⟨.inr ⟨_,_,dZ some L.int,rfl⟩,.inr ⟨_,_,dZ some ht.int,rfl⟩,.inr ⟨_,_,dZ some hr.int,rfl⟩⟩ O
  .cases H
 case slcS l h=>
  split at H
  .rename_i T x lo hi mx B;simp only[bY,dL]at H;obtain⟨⟨⟨⟨h1,rfl⟩,rfl⟩,h4⟩,h6⟩:=H;have V:=hV _ h6;obtain⟨d,hd,x0⟩:=tR h1;have hT:P.underlying T=some .string:=by cases d<;>simp[b9]at x0;exact hd
   have h2:BO P T 0=true:=by simp[BO,hT]
   have j0:mx=none:=by simpa using h4
   subst j0;have u0:∀b,Rep w W μ (a.eval x) (.str b)->∀l h,Bds (lo.map a.eval) (hi.map a.eval) none l h none->((sB s.mem 0 (.str b) l h none).map λ q=>(⟨q.1,q.2,[]⟩:Ef))=some ef->mT P o a w W μ s.mem ef.v (setM s.mem ef.mw):=λ b K l h hb hq=>by simp only[cN]at hq;obtain⟨q,hq,rfl⟩:=hq;exact Q4 Z B h2 K ⟨λ _=>hT,λ _=>⟨b,rfl⟩⟩ hb hq Y
   cases lo with
   |none=>
    cases hi with
    |none=>
     obtain⟨v,rfl,K⟩:=V.one;cases v<;>simp only[ev,Option.isSome]at O<;>try(cases O;done)
     exact u0 _ K none none ⟨.inl ⟨rfl,rfl⟩,.inl ⟨rfl,rfl⟩,.inl ⟨rfl,rfl⟩⟩ O
    |some h0=>
     obtain⟨v,u,rfl,K,L⟩:=V.two;cases v<;>simp only[ev,Option.isSome]at O<;>try(cases O;done)
     cases u<;>(try simp only at O)<;>try(cases O;done)
     exact u0 _ K none (some _) ⟨.inl ⟨rfl,rfl⟩,.inr ⟨_,_,dZ some L.int,rfl⟩,.inl ⟨rfl,rfl⟩⟩ O
   |some l0=>
    cases hi with
    |none=>
     obtain⟨v,u,rfl,K,L⟩:=V.two;cases v<;>simp only[ev,Option.isSome]at O<;>try(cases O;done)
     cases u<;>(try simp only at O)<;>try(cases O;done)
     exact u0 _ K (some _) none ⟨.inr ⟨_,_,dZ some L.int,rfl⟩,.inl ⟨rfl,rfl⟩,.inl ⟨rfl,rfl⟩⟩ O
    |some h0=>
     obtain⟨v,u,t,rfl,K,L,ht⟩:=V.three;cases v<;>simp only[ev,Option.isSome]at O<;>try(cases O;done)
     cases u<;>(try simp only at O)<;>try(cases O;done)
     cases t<;>(try simp only at O)<;>try(cases O;done)
     exact u0 _ K (some _) (some _) ⟨.inr ⟨_,_,dZ some L.int,rfl⟩,.inr ⟨_,_,dZ some ht.int,rfl⟩,.inl ⟨rfl,rfl⟩⟩ O
  .cases H
 case ext i=>
  split at H
  .rename_i x i' B;simp only[bY,dL]at H;obtain⟨rfl,h2⟩:=H;obtain⟨v,rfl,K⟩:=(hV _ h2).one;cases v<;>simp only[ev]at O<;>try(cases O;done)
   cases O;exact YK Z B K Y
  .cases H
 case len=>
  split at H
  .rename_i M y0 B;split at H
   .rename_i x t hx ht;simp only[bY]at H;obtain⟨v,rfl,K⟩:=(hV _ H.2).one;obtain⟨d,hd,x0⟩:=tR H.1;have hT:∃e,P.underlying t=some (.slice e):=by cases d<;>simp[DY]at x0;exact⟨_,hd⟩
    have ha:M=#[x]:=by rw[<-hx]
    have z0:y0[0]? =some t:=by
     have:y0=#[t]:=by rw[<-ht]
     rw[this];rfl
    subst ha;refine(YM Z B z0 hT K O).mw ?_;simp only[ev]at O;split at O
    .cases O;rfl
    .cases O;rfl
    .split at O<;>first|(cases O;rfl)|cases O
    .cases O
   .cases H
  .cases H
 case lenS=>
  split at H
  .rename_i M y0 B;split at H
   .rename_i x t hx ht;simp only[bY]at H;obtain⟨v,rfl,K⟩:=(hV _ H.2).one;obtain⟨d,hd,x0⟩:=tR H.1;have hT:P.underlying t=some .string:=by cases d<;>simp[b9]at x0;exact hd
    have ha:M=#[x]:=by rw[<-hx]
    have z0:y0[0]? =some t:=by
     have:y0=#[t]:=by rw[<-ht]
     rw[this];rfl
    subst ha;cases v<;>simp only[ev]at O<;>try(cases O;done)
    cases O;exact YL Z B z0 hT K
   .cases H
  .cases H
 case append sz by_ z=>
  split at H
  .rename_i M y0 B;split at H
   .rename_i x y T U hx ht;simp only[bY]at H;obtain⟨v,u,rfl,K,L⟩:=(hV _ H.2).two;have ha:M=#[x,y]:=by rw[<-hx]
    have z0:y0=#[T,U]:=by rw[<-ht]
    subst ha;subst z0;exact Za Z B H.1 K L p0 O Y
   .cases H
  .cases H
 case appc sz by_=>
  split at H
  .rename_i M y0 B;split at H
   .rename_i x y T U hx ht;simp only[bY]at H;obtain⟨v,u,rfl,K,L⟩:=(hV _ H.2).two;have ha:M=#[x,y]:=by rw[<-hx]
    have z0:y0=#[T,U]:=by rw[<-ht]
    subst ha;subst z0;exact Zb Z B H.1 K L p0 O Y
   .cases H
  .cases H
 case apl sz by_=>
  split at H
  .rename_i M y0 B;split at H
   .rename_i x y T U hx ht;simp only[bY]at H;obtain⟨v,u,rfl,K,L⟩:=(hV _ H.2).two;have ha:M=#[x,y]:=by rw[<-hx]
    have z0:y0=#[T,U]:=by rw[<-ht]
    subst ha;subst z0;cases v<;>first|(cases O;done)|skip
    cases u<;>first|(cases O;done)|skip
    cases O;obtain⟨h1,rfl,h3,h4,h5⟩:=Y;exact Zc Z B H.1 K L h3 h4 h5
   .cases H
  .cases H
 case clear sz z=>
  split at H
  .rename_i M y0 B;split at H
   .rename_i x T hx ht;simp only[bY]at H;obtain⟨v,rfl,K⟩:=(hV _ H.2).one;have ha:M=#[x]:=by rw[<-hx]
    have z0:y0=#[T]:=by rw[<-ht]
    subst ha;subst z0;exact Zi Z B H.1 K O Y
   .cases H
  .cases H
 case copy sz=>
  split at H
  .rename_i M y0 B;split at H
   .rename_i x y T U hx ht;simp only[bY]at H;obtain⟨v,u,rfl,K,L⟩:=(hV _ H.2).two;have ha:M=#[x,y]:=by rw[<-hx]
    have z0:y0=#[T,U]:=by rw[<-ht]
    subst ha;subst z0;exact Zh Z B H.1 K L O Y
   .cases H
  .cases H
 case mk sz by_ z=>
  split at H
  .rename_i T x y B;simp only[bY]at H;obtain⟨v,u,rfl,K,L⟩:=(hV _ H.2).two;cases v<;>simp only[ev]at O<;>try(cases O;done)
   cases u<;>simp only[ev]at O<;>try(cases O;done)
   cases O;obtain⟨h1,_,h3,h4,h5,h6⟩:=Y;exact y_mk Z B H.1 K L p0 h1 h3 h4 h5 h6
  .cases H
 case conv k=>
  split at H
  .rename_i T T2 x B;simp only[bY]at H;obtain⟨⟨h1,h2⟩,h3⟩:=H;obtain⟨v,rfl,K⟩:=(hV _ h3).one;obtain⟨d,hd,_⟩:=tR h1;obtain⟨d2,x0,r0⟩:=tR h2;have hT:P.underlying T2=some (.int k):=by cases d2<;>simp[JJ]at r0;subst r0;exact x0
   cases v<;>simp only[ev]at O<;>try(cases O;done)
   cases O;exact YW Z B ⟨⟨d,hd⟩,hT⟩ K
  .cases H
 case cvS=>
  split at H
  .rename_i T T2 x B;simp only[bY]at H;obtain⟨⟨h1,h2⟩,h3⟩:=H;obtain⟨v,rfl,K⟩:=(hV _ h3).one;obtain⟨e,c0,d0⟩:=Rp h1;obtain⟨d2,x0,r0⟩:=tR h2;have o0:P.underlying T2=some .string:=by cases d2<;>simp[b9]at r0;exact x0
   simp only[ev]at O;split at O
   .cases O
   .rename_i t0;simp only[gX]at O;obtain⟨es,h4,l,h5,O⟩:=O;cases O;exact ZJ Z B c0 d0 o0 K (by simpa using t0) h4 h5 Y
  .cases H
 case cvB=>
  split at H
  .rename_i T T2 x B;simp only[bY]at H;obtain⟨⟨h1,h2⟩,h3⟩:=H;obtain⟨v,rfl,K⟩:=(hV _ h3).one;obtain⟨e,c0,d0⟩:=Rp h2;obtain⟨d2,x0,r0⟩:=tR h1;cases v<;>simp only[ev]at O<;>try(cases O;done)
   cases O;exact ZK Z B x0 c0 d0 K Y
  .cases H
 case min=>
  split at H
  .rename_i M y0 B;split at H
   .rename_i x y hx;obtain⟨v,u,rfl,K,L⟩:=(hV _ H).two;have ha:M=#[x,y]:=by rw[<-hx]
    subst ha;cases v<;>simp only[ev]at O<;>try(cases O;done)
    cases u<;>simp only[ev]at O<;>try(cases O;done)
    cases O;have:_=_:=Y;subst this;exact YX Z B K L
   .cases H
  .cases H
 case max=>
  split at H
  .rename_i M y0 B;split at H
   .rename_i x y hx;obtain⟨v,u,rfl,K,L⟩:=(hV _ H).two;have ha:M=#[x,y]:=by rw[<-hx]
    subst ha;cases v<;>simp only[ev]at O<;>try(cases O;done)
    cases u<;>simp only[ev]at O<;>try(cases O;done)
    cases O;have:_=_:=Y;subst this;exact YY Z B K L
   .cases H
  .cases H
 case nilck=>
  split at H
  .rename_i x B;obtain⟨v,rfl,K⟩:=(hV _ H).one;refine(YZ Z B K O Y).mw ?_;simp only[ev]at O;split at O
   .split at O<;>first|(cases O;rfl)|cases O
   .cases O;rfl
   .cases O;rfl
   .cases O;rfl
   .cases O
  .cases H
 case mkb f=>
  split at H
  .rename_i f' fst s0 B;split at H
   .rename_i y hy;simp only[bY,dL]at H;obtain⟨⟨rfl,h2⟩,h3⟩:=H;have hc:s0=#[]:=by simpa using h2
    have hf:fst=#[y]:=by rw[<-lQ (xs:=fst),hy]
    subst hc;subst hf;obtain⟨v,rfl,K⟩:=(hV _ h3).one;cases v<;>simp only[ev]at O<;>first|(cases O;done)|skip
    cases O;exact Zl Z B K Y
   .cases H
  .cases H
 case mkf f=>
  split at H
  .rename_i f' fst s0 B;simp only[bY,dL]at H;obtain⟨⟨rfl,h2⟩,h3⟩:=H;have hf:fst=#[]:=by simpa using h2
   subst hf;have K:=hV _ h3;cases F<;>(cases O;exact Zk Z B K.1 K.2 (Ro Y))
  .cases H
 case mkmap z=>
  split at H
  .rename_i T B;have:F=[]:=by
    have:xs=[]:=by simpa using H
    subst this;exact dA hlen.symm
   subst this;cases O;exact Zt Z B p0
  .cases H
 case lkp ok ag kz z=>
  split at H
  .rename_i T x i b0 B;simp only[bY,dL]at H;obtain⟨⟨⟨rfl,h1⟩,h2⟩,h3⟩:=H;obtain⟨v,u,rfl,K,L⟩:=(hV _ h3).two;cases v<;>simp only[ev]at O<;>try(cases O;done)
   split at O
   .rename_i r hr;cases O;exact Zv Z B h1 h2 K L hr Y.1 Y.2
   .cases O
  .cases H
 case mupd kz ag n=>
  split at H
  rotate_right
  .cases H
  all_goals
   rename_i T x i y B;simp only[bY]at H;obtain⟨h1,h3⟩:=H;obtain⟨v,u,q,rfl,K,L,hq⟩:=(hV _ h3).three;cases v<;>simp only[ev]at O<;>try(cases O;done)
   split at O
   .rename_i r hr;cases O;obtain⟨k1,k2,k3,k4,k5,_,k6⟩:=Y;exact Zy Z (by first|exact .inl B|exact .inr B) h1 K L hq hr k1 k2 k3 k4 k5 k6
   .cases O
 case lenM=>
  split at H
  .rename_i M y0 B;split at H
   .rename_i x t hx ht;simp only[bY]at H;obtain⟨h1,h2⟩:=H;obtain⟨v,rfl,K⟩:=(hV _ h2).one;have ha:M=#[x]:=by rw[<-hx]
    have z0:y0[0]? =some t:=by rw[<-jA,ht];rfl
    subst ha;obtain⟨d,hd,x0⟩:=tR h1;cases v<;>simp only[ev]at O<;>try(cases O;done)
    split at O
    .rename_i r hr;cases O;refine Zz Z B z0 ?_ K hr Y;cases d<;>simp only[JF,bZ]at x0;exact⟨_,_,hd⟩
    .cases O
   .cases H
  .cases H
 case rng=>
  split at H
  .rename_i T x B;simp only[bY]at H;obtain⟨h1,h2⟩:=H;obtain⟨v,rfl,K⟩:=(hV _ h2).one;obtain⟨d,hd,x0⟩:=tR h1;cases v<;>simp only[ev]at O<;>try(cases O;done)
   split at O
   .rename_i r hr;cases O;refine ZB Z B ?_ K hr Y p0;cases d<;>simp only[JF,bZ]at x0;exact⟨_,_,hd⟩
   .cases O
  .cases H
 case entry d=>cases F<;>(simp[ev]at O)
 case next d=>cases F<;>(simp[ev]at O)
 case eqNil=>cases F<;>(simp[ev]at O)
 case call f=>cases F<;>(simp[ev]at O)
 case callv=>cases F<;>(simp[ev]at O)
 case callb=>cases F<;>(simp[ev]at O)
 case callm f=>cases F<;>(simp[ev]at O)
 case callvm=>cases F<;>(simp[ev]at O)
end
structure Cx where
 P:Program
 G:Ag
def rE:Nat->Loc:=λ _=>.fresh
def PFn(C:Cx)(f:FuncId)(as:List A)(r:A):Prop:=
 ∀(w:World) (W:Nat->Prop) (vs:List Value),zX w W C.G->(∀b,W b->b<w.heap.size)->vs.length=as.length->
  (∀(i:Nat) (v:Value) (a:A),vs[i]? =some v->as[i]? =some a->RepV w W rE v a)->
  Calls C.P f vs.toArray w λ e w'=>∃v,e=.returned v/\Keeps (λ _=>False) w w'/\Rep w' W rE v r
def look{α:Type}:List (Nat×α)->Nat->Option α
 |[],_=>none
 |q::r,n=>if q.1=n then some q.2 else look r n
def rm{α:Type}(n:Nat):List (Nat×α)->List (Nat×α)
 |[]=>[]
 |q::r=>if q.1=n then rm n r else q::rm n r
def DZ{α:Type}:List Nat->List (Nat×α)->List (Nat×α)
 |[],l=>l
 |n::ns,l=>DZ ns (rm n l)
structure St where
 fr:List (Nat×A)
 mem:List (Nat×Row)
 nx:Nat
def St.slot(st:St)(t:Nat):A:=(look st.fr t).getD .any
def St.m(st:St)(x:Nat):MS:=if st.nx<=x then .fresh else match look st.mem x with
 |some r=>.row r
 |none=>.dead
def St.toS(st:St):S:=⟨st.slot,st.m⟩
def putM:List (Nat×MS)->List (Nat×Row)->List (Nat×Row)
 |[],m=>m
 |(x,.row r)::q,m=>putM q ((x,r)::rm x m)
 |(x,_)::q,m=>putM q (rm x m)
def nxt(nx:Nat):List (Nat×MS)->Nat
 |[]=>nx
 |q::r=>nxt (if q.1=nx then nx+1 else nx) r
def putF(d:Option Nat)(v:A)(fr:List (Nat×A)):List (Nat×A):=match d with
 |none=>fr
 |some d=>(d,v)::rm d fr
def St.app(st:St)(d:Option Nat)(v:A)(mw:List (Nat×MS)):St:=⟨putF d v st.fr,putM mw st.mem,nxt st.nx mw⟩
def frz1(m:Nat->MS):A->A
 | .own x lo n=>match m x with
  | .row r=>.sl ((r.es.drop lo).take n)
  |_=>.any
 |a=>a
def mQ:List A->Bool
 |[]=>true
 |a::as=>a.pure1&&mQ as
def frz(m:Nat->MS):A->A
 | .agg H=>if mQ H then .agg H else .agg (H.map (frz1 m))
 |a=>frz1 m a
def sU(m:Nat->MS):A->Prop
 | .own x lo n=>match m x with
  | .row r=>lo+n<=r.es.length/\uJ ((r.es.drop lo).take n)
  |_=>False
 |a=>a.pure1=true
def rS(m:Nat->MS):A->Prop
 | .agg H=>if mQ H then True else∀c∈H,sU m c
 | .clo _ H=>H=[]
 |a=>sU m a
def oZ(m:Nat->MS):List A->List A
 |[]=>[]
 |a::as=>frz m a::oZ m as
def pS(m:Nat->MS):List A->Prop
 |[]=>True
 |a::as=>rS m a/\pS m as
def rF:A->List Nat
 | .own x _ _=>[x]
 |_=>[]
def tS:A->List Nat
 | .agg H=>if mQ H then[]else H.flatMap rF
 |a=>rF a
def rG:List A->List Nat
 |[]=>[]
 |a::as=>tS a++rG as
def A.scal1:A->Bool
 | .bool _|.int _ _|.str _=>true
 |_=>false
def nJ:List A->Bool
 |[]=>true
 |a::as=>a.scal1&&nJ as
def A.scal2:A->Bool
 | .agg H=>nJ H
 |a=>a.scal1
def GO:List A->Bool
 |[]=>true
 |a::as=>a.scal2&&GO as
def A.scal:A->Bool
 | .tup vs=>GO vs
 |a=>a.scal2
def oK(m:Nat->MS):List Nat->List (Nat×MS)
 |[]=>[]
 |x::xs=>match m x with
  | .row r=>(x,.row ⟨true,r.sz,r.z,r.es⟩)::oK m xs
  |_=>oK m xs
def oE(m:Nat->MS)(H:List A)(r:A):List (Nat×MS):=if r.scal then[]else oK m (rG H)
def qE(st:St):Option (Nat×Bool)->Option Bool
 |none=>some true
 |some q=>match st.slot q.1 with
  | .bool b=>some (if q.2 then b else !b)
  | .cnd g (.bool b)=>some (g&&if q.2 then b else !b)
  |_=>none
def oL(g:Option (Nat×Bool))(b:Bool)(v:A):A:=match g with
 |none=>v
 |some _=>.cnd b v
def nC(C:Cx)(st:St):List PX->List A
 |[]=>[]
 |p::ps=>(xv C.G st.slot p).nc::nC C st ps
def pT(C:Cx)(st:St):List PX->Prop
 |[]=>True
 |p::ps=>(xv C.G st.slot p).gd=true/\pT C st ps
def A.isVV:A->Bool
 | .any|.tup _|.cnd _ _=>false
 |_=>true
def rho(l:List (Nat×Nat))(x:Nat):Nat:=(look l x).getD x
def ren0(l:List (Nat×Nat)):A->A
 | .own x lo n=>.own (rho l x) lo n
 | .ptr x i j=>.ptr (rho l x) i j
 | .mp x=>.mp (rho l x)
 | .it x=>.it (rho l x)
 |a=>a
def ren1(l:List (Nat×Nat)):A->A
 | .clo f H=>.clo f (H.map (ren0 l))
 |a=>ren0 l a
def ren(l:List (Nat×Nat)):A->A
 | .agg H=>if mQ H then .agg H else .agg (H.map (ren1 l))
 |a=>ren1 l a
def renR(l:List (Nat×Nat)):A->A
 | .tup vs=>.tup (vs.map (ren l))
 |a=>ren l a
def GP(nx:Nat):A->Prop
 | .own x _ _=>x<nx
 | .ptr x _ _=>x<nx
 | .mp x=>x<nx
 | .it x=>x<nx
 |_=>True
def yB(nx:Nat):A->Prop
 | .clo _ H=>∀c∈H,GP nx c
 |a=>GP nx a
def pureEs:List (List A)->Bool
 |[]=>true
 |c::cs=>mQ c&&pureEs cs
def qF(l:List (Nat×Nat))(es:List (List A)):List (List A):=if pureEs es then es else es.map (·.map (ren1 l))
def idEs(nx:Nat)(es:List (List A)):Prop:=if pureEs es then True else∀c∈es,∀a∈c,yB nx a
def BU:List Nat->Bool
 |[]=>true
 |x::xs=>!xs.contains x&&BU xs
def MFn(C:Cx)(f:FuncId)(as:List A)(ms:List (Nat×Row))(k:Nat)(r:A)(ms':List (Nat×Row))(k':Nat):Prop:=
 ∀(w:World) (W:Nat->Prop) (μ:Nat->Loc) (vs:List Value),zX w W C.G->(∀b,W b->b<w.heap.size)->vs.length=as.length->
  (∀(i:Nat) (v:Value) (a:A),vs[i]? =some v->as[i]? =some a->RepV w W μ v a)->rQ w W μ (⟨[],ms,k⟩:St).m->
  (∀x y b H,μ x=.at_ b->μ y=.at_ H->b.b=H.b->x=y)->
  Calls C.P f vs.toArray w λ e w'=>∃v W' μ',e=.returned v/\Step (⟨[],ms,k⟩:St).m (⟨[],ms',k'⟩:St).m w w' W W' μ μ'/\Rep w' W' μ' v r
def A.hands:A->Bool
 | .own _ _ _|.ptr _ _ _=>true
 | .clo _ H=>!H.isEmpty
 | .agg H=>!mQ H
 |_=>false
def JL(nx:Nat):List A->Prop
 |[]=>True
 |c::cs=>yB nx c/\JL nx cs
def Rs(nx:Nat):A->Prop
 | .agg H=>JL nx H
 |a=>yB nx a
def argM(m:Nat->MS)(l:List (Nat×Nat))(k:Nat)(v a:A):Prop:=
 if a.hands then v=ren l a/\Rs k a else rS m v/\frz m v=a
def d9(m:Nat->MS)(l:List (Nat×Nat))(k:Nat):List A->List A->Prop
 |v::vs,a::as=>argM m l k v a/\d9 m l k vs as
 |[],[]=>True
 |_,_=>False
def fzM:List A->List A->List Nat
 |v::vs,a::as=>(if a.hands then[]else tS v)++fzM vs as
 |_,_=>[]
def D0(m:Nat->MS)(l:List (Nat×Nat))(k:Nat)(O:List Nat):List (Nat×Row)->Prop
 |[]=>True
 |q::r=>(match m (rho l q.1)with
   | .row H=>H.ro=false/\H.sz=q.2.sz/\H.es=qF l q.2.es
   |_=>False)/\q.2.ro=false/\q.1<k/\idEs k q.2.es/\O.contains (rho l q.1)=false/\Nat.ble 1 q.2.sz=true/\D0 m l k O r
def An{α:Type}(ms:List (Nat×α)):Nat->Bool
 |0=>true
 |n+1=>(look ms n).isSome&&An ms n
def okM(m:Nat->MS)(nx:Nat)(l:List (Nat×Nat))(H as:List A)(ms:List (Nat×Row))(k k':Nat):Prop:=
 d9 m l k H as/\D0 m l k (fzM H as) ms/\BU (ms.map λ q=>rho l q.1)=true/\BU (ms.map (·.1))=true/\An ms k=true/\Nat.ble k k'=true/\(∀q∈ms,rho l q.1<nx)/\(∀q∈l,q.1<k)
def newL(k nx:Nat):Nat->List (Nat×Nat)
 |0=>[]
 |n+1=>(k,nx)::newL (k+1) (nx+1) n
def entM(l:List (Nat×Nat)):Option Row->MS
 |some r=>.row ⟨r.ro,r.sz,r.z,qF l r.es⟩
 |none=>.dead
def pU(l:List (Nat×Nat))(ms':List (Nat×Row)):List Nat->List (Nat×MS)
 |[]=>[]
 |x::xs=>(rho l x,entM l (look ms' x))::pU l ms' xs
def mwM(m:Nat->MS)(l:List (Nat×Nat))(H as:List A)(ms ms':List (Nat×Row))(k k':Nat):List (Nat×MS):=
 oK m (fzM H as)++pU l ms' (ms.map (·.1)++(List.range (k'-k)).map (k+·))
def MS.like:MS->MS->Prop
 | .row r,.row r'=>r.ro=r'.ro/\r.sz=r'.sz/\r.es=r'.es/\(r.sz=0->r.z=r'.z)
 | .dead,.dead=>True
 |_,_=>False
def f5(m:Nat->MS):List (Nat×MS)->Prop
 |[]=>True
 |q::r=>(m q.1).like q.2/\f5 m r
def tT(C:Cx)(m:Nat->MS)(nx:Nat)(f:FuncId)(H:List A)(U:Option (Nat×Bool))(g:Bool)(Y:Prop)(F:Nat->Prop)(K:A->List (Nat×MS)->Prop):Prop:=
 ∃l as ms k r O k',(g=true->Y/\MFn C f as ms k r O k'/\okM m nx l H as ms k k'/\F (k'-k))/\(g=false->k=k'/\f5 m (mwM m (l++newL k nx (k'-k)) H as ms O k k'))/\
  (U=none\/(renR (l++newL k nx (k'-k)) r).isVV=true)/\(∀g c,r≠.cnd g c)/\K (oL U g (renR (l++newL k nx (k'-k)) r)) (mwM m (l++newL k nx (k'-k)) H as ms O k k')
def PO.lax:PO->Bool
 | .len|.bin _|.not=>true
 |_=>false
def ZM{id id':Nat}{m:Nat->MS}{O:PO}{H:List A}(h:O.lax=true):ev id m O H=ev id' m O H:=by cases O<;>first|(cases h;done)|rfl|(rcases H with _|⟨x,_|⟨y,_|⟨z,U⟩⟩⟩<;>first|rfl|(cases x<;>first|rfl|(cases y<;>rfl)))
def aop(C:Cx)(p:POp)(st:St)(K:St->Prop):Prop:=
 match qE st p.g with
 |none=>False
 |some g=>
  match p.po with
  | .pick=>match p.xs with
   |[c,x,y]=>match(xv C.G st.slot c).nc,(xv C.G st.slot x).nc,(xv C.G st.slot y).nc with
    | .bool b,.bool u,.bool v=>(g=true->(xv C.G st.slot c).gd=true/\(b=true->(xv C.G st.slot x).gd=true)/\(b=false->(xv C.G st.slot y).gd=true))/\K (st.app p.dst (oL p.g g (.bool (cond b u v))) [])
    |_,_,_=>False
   |_=>False
  | .call f=>∃r,(g=true->pT C st p.xs/\pS st.m (nC C st p.xs)/\PFn C f (oZ st.m (nC C st p.xs)) r)/\
    (p.g=none\/oE st.m (nC C st p.xs) r=[]/\r.isVV=true)/\K (st.app p.dst (oL p.g g r) (oE st.m (nC C st p.xs) r))
  | .callv=>match nC C st p.xs with
   | .clo f caps::vals=>∃r,(g=true->pT C st p.xs/\pM C.P f=true/\pS st.m (vals++caps)/\PFn C f (oZ st.m (vals++caps)) r)/\
    (p.g=none\/oE st.m (vals++caps) r=[]/\r.isVV=true)/\K (st.app p.dst (oL p.g g r) (oE st.m (vals++caps) r))
   |_=>False
  | .callb=>match nC C st p.xs with
   | .bnd f cs::vals=>∃r,(g=true->pT C st p.xs/\pM C.P f=true/\pS st.m (.agg cs::vals)/\PFn C f (oZ st.m (.agg cs::vals)) r)/\
    (p.g=none\/oE st.m (.agg cs::vals) r=[]/\r.isVV=true)/\K (st.app p.dst (oL p.g g r) (oE st.m (.agg cs::vals) r))
   |_=>False
  | .callm f=>tT C st.m st.nx f (nC C st p.xs) p.g g (pT C st p.xs) (λ _=>True) λ v O=>K (st.app p.dst v O)
  | .callvm=>match nC C st p.xs with
   | .clo f caps::vals=>tT C st.m st.nx f (vals++caps) p.g g (pT C st p.xs/\pM C.P f=true) (λ _=>True) λ v O=>K (st.app p.dst v O)
   |_=>False
  |po=>match ev st.nx st.m po (nC C st p.xs)with
   |some H=>(g=true->pT C st p.xs/\H.obl)/\(p.g=none\/H.mw=[]/\H.v.isVV=true)/\K (st.app p.dst (oL p.g g H.v) H.mw)
   |none=>g=false/\po.lax=true/\K (st.app p.dst (oL p.g g (.bool false)) [])
def oV(fr:Nat->A):Option (Nat×Bool)->Option Bool
 |none=>some true
 |some q=>match fr q.1 with
  | .bool b=>some (if q.2 then b else !b)
  | .cnd g (.bool b)=>some (g&&if q.2 then b else !b)
  |_=>none
def nW(C:Cx)(fr:Nat->A):List PX->List A
 |[]=>[]
 |p::ps=>(xv C.G fr p).nc::nW C fr ps
def gdsF(C:Cx)(fr:Nat->A):List PX->Prop
 |[]=>True
 |p::ps=>(xv C.G fr p).gd=true/\gdsF C fr ps
def aopS(C:Cx)(p:POp)(s:S)(id:Nat)(K:A->List (Nat×MS)->Prop):Prop:=
 match oV s.fr p.g with
 |none=>False
 |some g=>
  match p.po with
  | .pick=>match p.xs with
   |[c,x,y]=>match(xv C.G s.fr c).nc,(xv C.G s.fr x).nc,(xv C.G s.fr y).nc with
    | .bool b,.bool u,.bool v=>(g=true->(xv C.G s.fr c).gd=true/\(b=true->(xv C.G s.fr x).gd=true)/\(b=false->(xv C.G s.fr y).gd=true))/\K (oL p.g g (.bool (cond b u v))) []
    |_,_,_=>False
   |_=>False
  | .call f=>∃r,(g=true->gdsF C s.fr p.xs/\pS s.mem (nW C s.fr p.xs)/\PFn C f (oZ s.mem (nW C s.fr p.xs)) r)/\
    (p.g=none\/oE s.mem (nW C s.fr p.xs) r=[]/\r.isVV=true)/\K (oL p.g g r) (oE s.mem (nW C s.fr p.xs) r)
  | .callv=>match nW C s.fr p.xs with
   | .clo f caps::vals=>∃r,(g=true->gdsF C s.fr p.xs/\pM C.P f=true/\pS s.mem (vals++caps)/\PFn C f (oZ s.mem (vals++caps)) r)/\
    (p.g=none\/oE s.mem (vals++caps) r=[]/\r.isVV=true)/\K (oL p.g g r) (oE s.mem (vals++caps) r)
   |_=>False
  | .callb=>match nW C s.fr p.xs with
   | .bnd f cs::vals=>∃r,(g=true->gdsF C s.fr p.xs/\pM C.P f=true/\pS s.mem (.agg cs::vals)/\PFn C f (oZ s.mem (.agg cs::vals)) r)/\
    (p.g=none\/oE s.mem (.agg cs::vals) r=[]/\r.isVV=true)/\K (oL p.g g r) (oE s.mem (.agg cs::vals) r)
   |_=>False
  | .callm f=>tT C s.mem id f (nW C s.fr p.xs) p.g g (gdsF C s.fr p.xs) (λ n=>∀x,id<=x->x<id+n->s.mem x=.fresh) K
  | .callvm=>match nW C s.fr p.xs with
   | .clo f caps::vals=>tT C s.mem id f (vals++caps) p.g g (gdsF C s.fr p.xs/\pM C.P f=true) (λ n=>∀x,id<=x->x<id+n->s.mem x=.fresh) K
   |_=>False
  |po=>match ev id s.mem po (nW C s.fr p.xs)with
   |some H=>(g=true->gdsF C s.fr p.xs/\H.obl)/\(p.g=none\/H.mw=[]/\H.v.isVV=true)/\K (oL p.g g H.v) H.mw
   |none=>g=false/\po.lax=true/\K (oL p.g g (.bool false)) []
def nilQ(K:Bool->Prop):List A->Prop
 |[.sl es]=>∀b:Bool,(b=true->es=[])->K b
 |[.full es]=>∀b:Bool,(b=true->es=[])->K b
 |_=>False
def PO.isNilQ:PO->Bool
 | .eqNil=>true
 |_=>false
def PO.isNext:PO->Bool
 | .next _|.entry _=>true
 |_=>false
def ZN:PO->(Nat->MS)->(A->List (Nat×MS)->Prop)->List A->Prop
 | .next d,m,K,vals=>nxtQ d m K vals
 | .entry d,m,K,vals=>entQ d m K vals
 |_,_,_,_=>False
def arun(C:Cx):List POp->St->(St->Prop)->Prop
 |[],st,K=>K st
 |p::ps,st,K=>if p.po.isNilQ=true then p.g=none/\pT C st p.xs/\nilQ (λ b=>arun C ps (st.app p.dst (.bool b) []) K) (nC C st p.xs)else if p.po.isNext=true then p.g=none/\pT C st p.xs/\ZN p.po st.m (λ v H=>arun C ps (st.app p.dst v H) K) (nC C st p.xs)else aop C p st λ st'=>arun C ps st' K
def yC{α:Type}(n x:Nat):∀l:List (Nat×α),look (rm n l) x=if x=n then none else look l x
 |[]=>by simp[rm,look]
 |q::r=>by
  unfold rm;split
  .rename_i h;rw[yC n x r]
   by_cases K:x=n
   .simp[K]
   .rw[bX K,bX K];simp only[look];rw[bX om]
  .rename_i h;simp only[look];split
   .rename_i H;rw[bX om]
   .exact yC n x r
def Rt(st:St)(d:Option Nat)(v:A)(mw:List (Nat×MS)):(st.app d v mw).slot=setF st.slot d v:=by
 funext t;simp only[St.slot,St.app,setF,putF];cases d with
 |none=>simp
 |some d=>
  simp only[look,cY];split
  .rfl
  .rename_i h;rw[yC,bX om]
def mwOk:Nat->List (Nat×MS)->Prop
 |_,[]=>True
 |nx,q::r=>q.1<=nx/\q.2≠.fresh/\mwOk (if q.1=nx then nx+1 else nx) r
def Ru{m:Nat->MS}(x:Nat):∀{mw:List (Nat×MS)} (m':Nat->MS),f5 m mw->setM m' mw x=m' x\/(m x).like (setM m' mw x)
 |[],_,_=>.inl rfl
 |q::r,m',h=>by
  simp only[setM];rcases Ru x (λ x=>if x=q.1 then q.2 else m' x) h.2 with e|e
  .rw[e]
   by_cases H:x=q.1
   .subst H;rw[cA rfl];exact .inr h.1
   .rw[bX H];exact .inl rfl
  .exact .inr e
def qU.like{w:World}{W:Nat->Prop}{μ:Nat->Loc}{x:Nat}{p q:MS}(h:qU w W μ x p)(K:p.like q):qU w W μ x q:=by
 cases p<;>cases q<;>first|exact K.elim|exact h|skip
 rename_i r O;obtain⟨ro,U,z,es⟩:=r;obtain⟨Y,B,F,M⟩:=O;obtain⟨rfl,rfl,rfl,L⟩:=K;rcases h with h|⟨k,H,h2|h2⟩
 .exact .inl h
 .exact .inr ⟨k,H,.inl h2⟩
 .have e:U=0:=h2.elim (λ h=>h.2.2.1) (λ h=>h.2.2.1);have V:z=F:=L e;subst V;exact .inr ⟨k,H,.inr h2⟩
def MS.like_ne{p q:MS}(h:p.like q):p≠.fresh/\q≠.fresh:=by cases p<;>cases q<;>first|exact h.elim|exact⟨(nomatch ·),(nomatch ·)⟩
def Nv:∀(mw:List (Nat×MS)) (fr:List (Nat×A)) (mem:List (Nat×Row)) (nx:Nat),mwOk nx mw->∀H,(⟨H,putM mw mem,nxt nx mw⟩:St).m=setM (⟨fr,mem,nx⟩:St).m mw
 |[],fr,mem,nx,_,H=>by simp[putM,nxt,setM,St.m];rfl
 |q::r,fr,mem,nx,h,H=>by
  obtain⟨F,O,B⟩:=h;have e:(λ x=>if x=q.1 then q.2 else(⟨fr,mem,nx⟩:St).m x)=(⟨fr,(match q with|(x,.row r)=>(x,r)::rm x mem|(x,_)=>rm x mem),if q.1=nx then nx+1 else nx⟩:St).m:=by
   funext x;obtain⟨y,U⟩:=q;simp only at F O
   by_cases K:x=y
   .subst K;rw[cA rfl];cases U with
    |fresh=>exact absurd rfl O
    |dead=>simp only[St.m,yC,cH];rw[bX (by split<;>omega)]
    |row r=>simp only[St.m,look,cH];rw[bX (by split<;>omega)]
   .rw[bX K];cases U with
    |fresh=>exact absurd rfl O
    |dead=>
     simp only[St.m,yC,K,cI];split
     .rename_i Y;rw[cA (by split<;>omega)]
     .rename_i Y;rw[bX (by split<;>omega)]
    |row r=>
     simp only[St.m,look,yC,K,cI,show¬y=x by omega];split
     .rename_i Y;rw[cA (by split<;>omega)]
     .rename_i Y;rw[bX (by split<;>omega)]
  simp only[setM,nxt];rw[e];obtain⟨y,U⟩:=q;cases U with
  |fresh=>exact absurd rfl O
  |dead=>exact Nv r fr _ _ B H
  |row M=>exact Nv r fr _ _ B H
def St.m_row{st:St}{x:Nat}{r:Row}(h:st.m x=.row r):x<st.nx:=by
  unfold St.m at h;split at h
  .cases h
  .omega
def St.m_nx(st:St):st.m st.nx=.fresh:=by simp[St.m]
def Nw(nx:Nat)(r:Row):mwOk nx [(nx,.row r)]:=⟨dC _,by simp,trivial⟩
def GQ{nx y:Nat}{q:MS}{r:List (Nat×MS)}(h:y<nx)(H:q≠.fresh)(O:mwOk nx r):mwOk nx ((y,q)::r):=
  ⟨jF h,H,by rw[bX (by simp only;omega)];exact O⟩
def JM{nx:Nat}:∀{x y:List (Nat×MS)},(∀q∈x,q.1<nx/\q.2≠.fresh)->mwOk nx y->mwOk nx (x++y)
  |[],_,_,h=>h
  |q::x,y,K,h=>GQ (K q (.head _)).1 (K q (.head _)).2 (JM (λ p H=>K p (.tail _ H)) h)
def Rv{st:St}{B:PO}{O:List A}{Y:Ef}(H:ev st.nx st.m B O=some Y):mwOk st.nx Y.mw:=by
  unfold ev at H
  (repeat' split at H)
  all_goals first
    |(cases H;done)
    |(cases H;first
        |trivial
        |exact Nw _ _
        |exact GQ (St.m_row (by assumption)) (by simp) trivial)
    |(simp only[cN]at H;obtain⟨q,_,rfl⟩:=H;trivial)
    |(simp only[gX]at H;obtain⟨new,U,l,K,H⟩:=H;cases H;trivial)
    | (simp only[gX]at H;obtain⟨new,U,H⟩:=H
       (repeat' split at H)<;>cases H<;>first
         |trivial
         |exact Nw _ _
         |exact GQ (St.m_row (by assumption)) (by simp) trivial
         |exact GQ (St.m_row (by assumption)) (by simp) (Nw _ _))
def JN{m:Nat->MS}:∀{xs:List Nat},∀q∈oK m xs,(∃r,m q.1=.row r)/\q.2≠.fresh
  |x::xs,q,h=>by
    unfold oK at h;split at h
    · rename_i r H
      rcases cK.1 h with rfl|h
      .exact⟨⟨r,H⟩,by simp⟩
      .exact JN q h
    .exact JN q h
def ZO(st:St)(xs:List Nat):mwOk st.nx (oK st.m xs):=by have:=JM (nx:=st.nx) (x:=oK st.m xs) (y:=[]) (λ q H=>let⟨⟨r,O⟩,U⟩:=JN q H;⟨St.m_row O,U⟩) trivial;rwa [dY]at this
def D1(st:St)(H:List A)(r:A):mwOk st.nx (oE st.m H r):=by
  unfold oE;split
  .trivial
  .exact ZO st _
def JO(st:St)(d:Option Nat)(v:A)(mw:List (Nat×MS))(h:mwOk st.nx mw):(st.app d v mw).toS=⟨setF st.slot d v,setM st.m mw⟩:=by simp only[St.toS,Rt];congr 1;exact Nv mw st.fr st.mem st.nx h _
section
variable {C:Cx} {o:Oper} {a:Act} {E:Env} {st:St} {w:World} {W:Nat→Prop} {μ:Nat→Loc}
def qN.ro{r:Row}{k:Blk}(h:qN w W μ r k):qN w W μ ⟨true,r.sz,r.z,r.es⟩ k:=by
  rcases h with h|h|h
  .exact .inl ⟨by simp,h.2⟩
  .exact .inr (.inl ⟨by simp,h.2⟩)
  .exact .inr (.inr ⟨by simp,h.2⟩)
def GR:∀H:List PX,nC C st H=nW C st.slot H
  |[]=>rfl
  |p::H=>by simp only[nC,nW,GR H]
def JP:∀H:List PX,pT C st H=gdsF C st.slot H
  |[]=>rfl
  |p::H=>by simp only[pT,gdsF,JP H]
def ZP(g:Option (Nat×Bool)):qE st g=oV st.slot g:=by cases g<;>rfl
def yD{s:S}(O:SatW E s a w W μ)(hG:E.G=C.G):∀(ps:List PX) (H:List Operand),nH H ps=true->gdsF C s.fr ps->Vals w W μ a H (nW C s.fr ps)
  |[],[],_,_=>⟨rfl,by simp⟩
  |p::ps,x::xs,h,hg=>by
    simp only[nH,bY]at h;obtain⟨U,Y⟩:=yD O hG ps xs h.2 hg.2;refine⟨by simp[nW,U],λ i y v K L=>?_⟩;cases i with
    |zero=>simp[nW]at K L;subst K;subst L;have:=GK O h.1;rw[hG]at this;exact Jy this hg.1
    |succ i=>simp[nW]at K L;exact Y i y v K L
  |[],_::_,h,_=>by simp[nH]at h
  |_::_,[],h,_=>by simp[nH]at h
def Rw(fr:Nat->A):∀H:List PX,(nW C fr H).length=H.length
  |[]=>rfl
  |_::H=>by simp[nW,Rw fr H]
def sJ(W:Nat->Prop)(μ:Nat->Loc)(ids:List Nat):Nat->Prop:=λ b=>W b/\¬∃x k,x∈ids/\μ x=.at_ k/\k.b=b
def RepC.less{v:Value}{x:A}{ids:List Nat}(h:RepC w W v x):RepC w (sJ W μ ids) v x:=
  h.keep (Keeps.refl (λ _=>False) w) (λ _ _ _ h=>h) (λ _ _ h H=>h H.1)
def Nx{s:S}(hs:SatW E s a w W μ){v:Value}{x:A}{ids:List Nat}(h:RepK w W μ v x)(H:sU s.mem x)(h0:∀y∈rF x,y∈ids):RepC w (sJ W μ ids) v (frz1 s.mem x):=by
  cases x with
  |own y lo n=>
    simp only[sU]at H;cases K:s.mem y with
    |fresh=>simp[K]at H
    |dead=>simp[K]at H
    |row r=>
      simp only[K]at H;obtain⟨p0,U⟩:=H;simp only[frz1,K];have L:((r.es.drop lo).take n).length=n:=by simp;omega
      rcases hs.own (nN (nT h)) K with⟨rfl,ad,rfl⟩|⟨k,q0,h5,h6,h7,h8,h9,F⟩
      .rw[show(r.es.drop lo).take 0=[]by simp];exact .sl0 _ _
      · obtain⟨_,M,z0,x0,u0,e,O,V,hf⟩:=F
        rw[h6];have Y:=(hf.drop lo).take n
        conv=>arg 3;rw[show n=((r.es.drop lo).take n).length from L.symm]
        refine RepC.mk_sl (sz:=r.sz) (us:=(x0.drop (lo*r.sz)).take (n*r.sz)) (λ hW=>hW.2 ⟨y,k,h0 y (by simp[rF]),h5,rfl⟩) (cS.1 O).1 om ?_ ?_
        · refine⟨Y.hl,Y.hs,λ i c j b Z hb=>?_⟩
          obtain⟨u,hu,y0⟩:=Y.ha i c j b Z hb;exact⟨u,hu,(y0.toC (U c (cU Z) b (cU hb))).less⟩
        · intro q u B
          rw[eA]at B;split at B
          · rw[eG]at B
            simp only[World.cell?,O,M,oc,bZ,cI,fO];rw[dX (cJ.1 B).1,B]
          .cases B
  |_=>exact(h.toC H).less
def g9:∀{H:List A},mQ H=true->∀c∈H,c.pure1=true
  |c::H,h,d,hd=>by
    simp only[mQ,bY]at h;rcases cK.1 hd with rfl|hd
    .exact h.1
    .exact g9 h.2 d hd
def Ny{s:S}(L:SatW E s a w W μ){v:Value}{x:A}{ids:List Nat}(h:Rep w W μ v x)(H:rS s.mem x)(U:∀y∈tS x,y∈ids):RepV w (sJ W μ ids) rE v (frz s.mem x):=by
  cases x with
  |agg O=>
    obtain⟨vs,rfl,K,B⟩:RepV w W μ v (.agg O):=h
    by_cases F:mQ O=true
    · simp only[frz,F,cH]
      exact⟨vs,rfl,K,λ i u b M hb=>nV ((B i u b M hb).toC (g9 F b (cU hb))).less⟩
    · simp only[frz,rS,tS,F]at H U|-
      refine⟨vs,rfl,by simp[K],λ i u b M hb=>?_⟩;simp only[cV,cN]at hb;obtain⟨c,V,rfl⟩:=hb;have Y:=cU V;exact nV (Nx L (B i u c M V) (H c Y) (λ y Z=>U y (fN.2 ⟨c,Y,Z⟩)))
  |clo f O=>have:O=[]:=H;subst this;exact(show RepV w W μ v (.clo f [])from h).imp (λ⟨vs,hv,K,B⟩=>⟨vs,hv,K,by simp⟩) id
  |any=>simp[rS,sU,A.pure1]at H
  |tup O=>simp[rS,sU,A.pure1]at H
  |cnd g b=>simp[rS,sU,A.pure1]at H
  |ptr y i j=>simp[rS,sU,A.pure1]at H
  |mp y=>simp[rS,sU,A.pure1]at H
  |it y=>simp[rS,sU,A.pure1]at H
  |rd O h0=>simp[rS,sU,A.pure1]at H
  |own y lo n=>exact nT (nV (Nx L (show RepK w W μ v (.own y lo n)from h) H U))
  |bnd f O=>exact nT (nV (RepC.less (show RepC w W v (.bnd f O)from h)))
  |bool b=>exact nT (nV (RepC.less (show RepC w W v (.bool b)from h)))
  |int k n=>exact nT (nV (RepC.less (show RepC w W v (.int k n)from h)))
  |str b=>exact nT (nV (RepC.less (show RepC w W v (.str b)from h)))
  |sl es=>exact nT (nV (RepC.less (show RepC w W v (.sl es)from h)))
  |full es=>exact nT (nV (RepC.less (show RepC w W v (.full es)from h)))
def Rx(m:Nat->MS):∀{H:List A} (i:Nat) (b:A),(oZ m H)[i]? =some b->∃x,H[i]? =some x/\b=frz m x
  |[],i,b,h=>by simp[oZ]at h
  |x::xs,i,b,h=>by
    cases i with
    |zero=>simp[oZ]at h;exact⟨x,rfl,h.symm⟩
    |succ i=>simp[oZ]at h;exact Rx m i b h
def Ry{m:Nat->MS}:∀{H:List A},pS m H->∀x∈H,rS m x
  |x::xs,h,y,hy=>by
    rcases cK.1 hy with rfl|hy
    .exact h.1
    .exact Ry h.2 y hy
def Rz:∀{H:List A} {x:A},x∈H->∀y∈tS x,y∈rG H
  |z::zs,x,hx,y,K=>by
    simp only[rG,cX];rcases cK.1 hx with rfl|hx
    .exact .inl K
    .exact .inr (Rz hx y K)
def RA(m:Nat->MS):∀H:List A,(oZ m H).length=H.length
  |[]=>rfl
  |_::xs=>by simp[oZ,RA m xs]
def JQ(m:Nat->MS):∀(ids:List Nat) (O:Nat->MS) (x:Nat),setM O (oK m ids) x=if x∈ids then(match m x with|.row r=>.row ⟨true,r.sz,r.z,r.es⟩|_=>O x)else O x
  |[],O,x=>by simp[oK,setM]
  |y::ys,O,x=>by
    unfold oK;split
    · rename_i r Y
      simp only[setM];rw[JQ m ys]
      by_cases U:x∈ys
      · simp only[U,cH,cK,or_true]
        by_cases H:x=y
        .subst H;simp[Y]
        .cases m x<;>simp[H]
      · simp only[U,cI,cK,gT]
        by_cases H:x=y
        .subst H;simp[Y]
        .simp[H]
    · rename_i Y
      rw[JQ m ys]
      by_cases U:x∈ys
      .simp[U]
      · simp only[U,cI,cK,gT]
        split
        · rename_i H
          subst H;split
          .rename_i r B;exact absurd B (Y r)
          .rfl
        .rfl
def ZQ{s:S}(K:SatW E s a w W μ){w':World}(F:Keeps (λ _=>False) w w')(ids:List Nat):Step s.mem (setM s.mem (oK s.mem ids)) w w' W (sJ W μ ids) μ μ where
  keeps:=F.mono λ _ _ h=>h.elim
  hW:=λ _ _ h=>h.1
  wsup:=λ b hb=>by
    by_cases h:∃x k,x∈ids/\μ x=.at_ k/\k.b=b
    .obtain⟨x,k,_,O,L⟩:=h;exact .inr ⟨x,k,O,L⟩
    .exact .inl ⟨hb,h⟩
  wlt0:=K.wlt
  wlt:=λ b h=>eK (K.wlt b h.1) F.size
  old:=Old.refl μ
  mem:=λ x=>by
    rw[JQ];have hm:=K.mem x;have x0:∀(r:Row) (k:Blk),qN w W μ r k->(r.ro=false->¬x∈ids)->μ x=.at_ k->qN w' (sJ W μ ids) μ r k:=λ r k y0 V h0=>by
      rcases y0 with⟨U,O,L,us,z0,e,M,Z,h6⟩|⟨U,O,L,es,M,Z,h6⟩|⟨U,O,L,hz,y,b,c,u0,Z,h6,M⟩
      rotate_left
      · refine .inr (.inl ⟨λ H=>⟨U H,λ⟨y,ky,hy,Y,B⟩=>V H (K.inj y x ky k Y h0 B▸hy)⟩,O,L,es,?_,Z,λ i e c p q=>(h6 i e c p q).keep F (λ _ _ _ h=>h) (λ _ _ h O=>h O.1)⟩)
        rw[F.block k.b (cS.1 M).1 (λ h=>h)];exact M
      · refine .inr (.inr ⟨λ H=>⟨U H,λ⟨y,ky,hy,Y,B⟩=>V H (K.inj y x ky k Y h0 B▸hy)⟩,O,L,hz,y,b,c,u0,Z,h6.goes F (λ _ _ _ h=>h) (λ _ _ h O=>h O.1) (Old.refl μ),?_⟩)
        rw[F.block k.b (cS.1 M).1 (λ h=>h)];exact M
      refine .inl ⟨λ H=>⟨U H,λ⟨y,ky,hy,Y,B⟩=>V H (K.inj y x ky k Y h0 B▸hy)⟩,O,L,us,z0,e,?_,Z,h6.mono λ u b H=>H.goes F (λ _ _ _ h=>h) (λ _ _ h O=>h O.1) (Old.refl μ)⟩;rw[F.block k.b (cS.1 M).1 (λ h=>h)];exact M
    split
    · rename_i V
      cases H:s.mem x with
      |fresh=>rw[H]at hm;exact hm
      |dead=>rw[H]at hm;exact hm
      |row r=>
        rw[H]at hm;rcases hm with U|⟨k,U,O⟩
        .exact .inl U
        .exact .inr ⟨k,U,x0 ⟨true,r.sz,r.z,r.es⟩ k O.ro (by simp) U⟩
    · rename_i V
      cases H:s.mem x with
      |fresh=>rw[H]at hm;exact hm
      |dead=>rw[H]at hm;exact hm
      |row r=>
        rw[H]at hm;rcases hm with U|⟨k,U,O⟩
        .exact .inl U
        .exact .inr ⟨k,U,x0 r k O (λ _=>V) U⟩
  inj:=K.inj
  live:=λ x k h=>.inl ⟨x,k,h,rfl⟩
def RB:Old rE μ:=λ x h=>absurd rfl h
def ZR{W':Nat->Prop}{v:Value}{r:A}(h:Rep w W rE v r)(O:r.scal=true):Rep w W' μ v r:=by
  have Y:∀{u:Value} {b:A},b.scal1=true->RepK w W rE u b->RepK w W' μ u b:=λ{u b} hb K=>by
    cases b<;>simp[A.scal1]at hb
    · have:RepC w W u _:=K
      cases this;exact nV (.bool _)
    · have:RepC w W u _:=K
      cases this;exact nV (.int _ _)
    · have:RepC w W u _:=K
      cases this;exact nV (.str _)
  have B:∀{H:List A},nJ H=true->∀c∈H,c.scal1=true:=λ{H}=>by
    induction H with
    |nil=>simp
    |cons d ds F=>
      intro h c hc;simp only[nJ,bY]at h;rcases cK.1 hc with rfl|hc
      .exact h.1
      .exact F h.2 c hc
  have L:∀{u:Value} {b:A},b.scal2=true->RepV w W rE u b->RepV w W' μ u b:=λ{u b} hb K=>by
    cases b with
    |agg H=>obtain⟨vs,V,Z,O⟩:=K;exact⟨vs,V,Z,λ i u c M U=>Y (B hb c (cU U)) (O i u c M U)⟩
    |bool b=>exact nT (Y hb K)
    |int k n=>exact nT (Y hb K)
    |str b=>exact nT (Y hb K)
    |_=>simp[A.scal2,A.scal1]at hb
  have h0:∀{H:List A},GO H=true->∀c∈H,c.scal2=true:=λ{H}=>by
    induction H with
    |nil=>simp
    |cons d ds F=>
      intro h c hc;simp only[GO,bY]at h;rcases cK.1 hc with rfl|hc
      .exact h.1
      .exact F h.2 c hc
  cases r with
  |tup as=>obtain⟨vs,V,Z,x0⟩:=h;exact⟨vs,V,Z,λ i u c M U=>L (h0 O c (cU U)) (x0 i u c M U)⟩
  |any=>trivial
  |cnd g b=>simp[A.scal,A.scal2,A.scal1]at O
  |agg H=>exact nN (L O h)
  |bool b=>exact nN (L O h)
  |int k n=>exact nN (L O h)
  |str b=>exact nN (L O h)
  |_=>simp[A.scal,A.scal2,A.scal1]at O
def RC{f:FuncId}{s:S}(O:SatW E s a w W μ)(hG:E.G=C.G){vs:List Value}{H:List A}(hl:vs.length=H.length)(hV:∀(i:Nat) (v:Value) (x:A),vs[i]? =some v->H[i]? =some x->Rep w W μ v x)
    (B:pS s.mem H) {r:A} (hf:PFn C f (oZ s.mem H) r):
    Calls C.P f vs.toArray w λ e w'=>∃v W',e=.returned v/\Rep w' W' μ v r/\Step s.mem (setM s.mem (oE s.mem H r)) w w' W W' μ μ:=by
  have K:zX w (sJ W μ (rG H)) C.G:=λ g cs hg=>by obtain⟨h1,h2,h3⟩:=O.glob g cs (hG▸hg);exact⟨λ h=>h1 h.1,h2,λ j b hj=>let⟨u,hu,Y⟩:=h3 j b hj;⟨u,hu,Y.less⟩⟩
  have:=hf w (sJ W μ (rG H)) vs K (λ b h=>O.wlt b h.1) (by rw[RA];exact hl) (λ i v b hv hb=>by
    obtain⟨x,L,rfl⟩:=Rx _ i b hb;have U:=cU L;exact Ny O (hV i v x hv L) (Ry B x U) (Rz U))
  refine this.mono λ e w' ⟨v,V,Z,Y⟩=>?_;have F:Rep w' (sJ W μ (rG H)) μ v r:=Y.goes (Keeps.refl (λ _=>False) w') (λ _ _ _ h=>h) (λ _ _ h=>h) RB;unfold oE;split
  · rename_i M
    exact⟨v,W,V,ZR Y M,Step.quiet Z O.mem O.inj O.wlt⟩
  .exact⟨v,_,V,F,ZQ O Z _⟩
def ZS{s:S}(hs:SatW E s a w W μ){Y:Array Oper}{o:Oper}{g:Option (Nat×Bool)}{b:Bool}
    (hg:match g,o.guard with|none,none=>True|some q,some p=>p.2=q.2/\(Y[p.1]?).bind (·.dst)=some q.1|_,_=>False) (h:oV s.fr g=some b):Region.wanted o (yielded Y a.tmps)=b:=by
  cases g with
  |none=>
    cases L:o.guard with
    |none=>simp[oV]at h;subst h;simp[Region.wanted,L]
    |some p=>simp[L]at hg
  |some q=>
    cases L:o.guard with
    |none=>simp[L]at hg
    |some p=>
      simp only[L]at hg;obtain⟨Z,h2⟩:=hg;obtain⟨j,U⟩:=p;obtain⟨t,M⟩:=q;simp only at Z h2;subst Z;have O:=hs.fr t;simp only[Region.wanted,L,yielded,h2,qm];simp only[oV]at h;have B:∀v,a.tmps.getD t undef=.bool v->a.tmps[t]? =some (.bool v):=λ v K=>by
        rw[gE]at K;cases V:a.tmps[t]? with
        |none=>rw[V]at K;simp[undef]at K
        |some u=>rw[V]at K;simp at K;rw[K]
      split at h
      · rename_i v K
        simp only[cY]at h;subst h;have H:Rep w W μ (a.tmps.getD t undef) (.bool v):=by rw[K]at O;exact O
        rw[B v H.bool];cases v<;>cases U<;>rfl
      · rename_i g' v K
        simp only[cY]at h;subst h;have H:Rep w W μ (a.tmps.getD t undef) (.cnd g' (.bool v)):=by rw[K]at O;exact O
        cases g' with
        |true=>rw[B v (Rep.bool (nN (H.1 rfl)))];cases v<;>cases U<;>rfl
        |false=>
          have F:=H.2 rfl;rw[gE]at F;cases V:a.tmps[t]? with
          |none=>rfl
          |some u=>rw[V]at F;simp at F;subst F;rfl
      .cases h
def Oper.wp_of_yields{m':Nat->MS}{av:A}{Q:Exit->Act->World->Prop}{k:Act->World->Prop}{s:S}(_hs:SatW E s a w W μ)(h:mT C.P o a w W μ s.mem av m')
    (Y:∀v w' W' μ',Rep w' W' μ' v av->Step s.mem m' w w' W W' μ μ'->k (a.put o.dst v) w'):o.wp C.P a w k Q:=by
  obtain⟨r,v,w',W',μ',O,B,H,U⟩:=h;unfold Oper.wp;rw[O];rcases B with rfl|⟨rfl,rfl⟩
  .exact Y v w' W' μ' H U
  .exact Y undef w' W' μ' H U
structure POk (C:Cx) (N:Nat) (ops:Array Oper) (o:Oper) (p:POp):Prop where
  dst:o.dst=p.dst
  lt:∀d,p.dst=some d->d<N
  g:match p.g,o.guard with|none,none=>True|some q,some r=>r.2=q.2/\(ops[r.1]?).bind (·.dst)=some q.1|_,_=>False
  op:uK C.P o.op p.po p.xs=true
def Rep.toVV{v:Value}{x:A}(h:Rep w W μ v x)(H:x.isVV=true):RepV w W μ v x:=by cases x<;>first|exact h|(simp[A.isVV]at H)
def Ao{α:Type}:∀(l m:List (Nat×α)) (x:Nat),look (l++m) x=(look l x).or (look m x)
  |[],m,x=>by simp[look]
  |q::l,m,x=>by
    simp only[Jm,look];split
    .rfl
    .exact Ao l m x
def GS{α:Type}:∀{l:List (Nat×α)} {x:Nat},(∀q∈l,q.1≠x)->look l x=none
  |[],_,_=>rfl
  |q::l,x,h=>by simp only[look];rw[bX (h q (.head _))];exact GS λ p H=>h p (.tail _ H)
def Ap:∀(n k nx x:Nat),look (newL k nx n) x=if k<=x/\x<k+n then some (nx+(x-k))else none
  |0,k,nx,x=>by simp only[newL,look];rw[bX om]
  |n+1,k,nx,x=>by
    simp only[newL,look]
    by_cases h:k=x
    .subst h;rw[cA rfl,cA om];simp
    · rw[bX h,Ap n (k+1) (nx+1) x]
      by_cases H:k+1<=x/\x<k+1+n
      .rw[cA H,cA om];congr 1;omega
      .rw[bX H,bX om]
def Nz{α:Type}{ms:List (Nat×α)}:∀{k:Nat},An ms k=true->∀x,x<k->∃r,look ms x=some r
  |k+1,h,x,K=>by
    simp only[An,bY]at h
    by_cases H:x=k
    .subst H;exact iO.1 h.1
    .exact Nz h.2 x om
def D2{α:Type}:∀{l:List (Nat×α)} {x:Nat} {v:α},look l x=some v->(x,v)∈l
  |q::r,x,v,h=>by
    simp only[look]at h;split at h
    .rename_i H;cases h;subst H;exact .head _
    .exact .tail _ (D2 h)
def NA{α:Type}:∀{l:List (Nat×α)} {f:Nat->Nat},BU (l.map λ q=>f q.1)=true->∀x y r H,look l x=some r->look l y=some H->f x=f y->x=y
  |q::rest,f,h,x,y,r,H,K,L,V=>by
    simp only[dN,BU,bY,dB,kD,dE]at h;simp only[look]at K L;split at K<;>split at L
    .omega
    · rename_i O U
      exact absurd (cR.2 ⟨(y,H),D2 L,by rw[O];exact V.symm⟩) h.1
    · rename_i O U
      exact absurd (cR.2 ⟨(x,r),D2 K,by rw[U];exact V⟩) h.1
    .exact NA h.2 x y r H K L V
def D3{m:Nat->MS}{l:List (Nat×Nat)}{k:Nat}{Y:List Nat}:∀{ms:List (Nat×Row)},D0 m l k Y ms->∀x r,(x,r)∈ms->
    (∃H,m (rho l x)=.row H/\H.ro=false/\H.sz=r.sz/\H.es=qF l r.es)/\r.ro=false/\x<k/\idEs k r.es/\rho l x∉Y/\0<r.sz
  |q::rest,h,x,r,hx=>by
    obtain⟨O,B,F,M,K,L,V⟩:=h;rcases cK.1 hx with rfl|hx
    · refine⟨?_,B,F,M,by simpa using K,fP L⟩
      split at O
      .rename_i H U;exact⟨H,U,O⟩
      .exact O.elim
    .exact D3 V x r hx
def RD{nx:Nat}:∀{H:List A},JL nx H->∀c∈H,yB nx c
  |_::_,h,_,.head _=>h.1
  |_::_,h,c,.tail _ K=>RD h.2 c K
def ZT{H:List A}(h:(A.agg H).hands=true):mQ H=false:=by simpa [A.hands]using h
def RE{m:Nat->MS}{l:List (Nat×Nat)}{k:Nat}:∀{H as:List A},d9 m l k H as->∀(i:Nat) (a:A),as[i]? =some a->∃v,H[i]? =some v/\argM m l k v a/\(a.hands=false->∀y∈tS v,y∈fzM H as)
  |v::vs,a::as,h,i,b,hb=>by
    cases i with
    |zero=>simp at hb;subst hb;refine⟨v,rfl,h.1,λ O y K=>?_⟩;simp only[fzM,O,bZ,cI];exact dW _ K
    |succ i=>obtain⟨u,U,Y,B⟩:=RE h.2 i b (by simpa using hb);exact⟨u,by simpa using U,Y,λ O y K=>by simp only[fzM];exact dJ _ (B O y K)⟩
  |[],[],_,i,b,hb=>by simp at hb
  |_::_,[],h,_,_,_=>h.elim
  |[],_::_,h,_,_,_=>h.elim
def RF{m:Nat->MS}{l:List (Nat×Nat)}{k:Nat}:∀{H as:List A},d9 m l k H as->H.length=as.length
  |v::vs,a::as,h=>by simp[RF h.2]
  |[],[],_=>rfl
  |_::_,[],h=>h.elim
  |[],_::_,h=>h.elim
def RG(m:Nat->MS):∀(x y:List (Nat×MS)),setM m (x++y)=setM (setM m x) y
  |[],_=>rfl
  |q::x,y=>by simp only[Jm,setM];exact RG _ x y
def NB{L:List (Nat×Nat)}{ms':List (Nat×Row)}{y:Nat}:∀{ids:List Nat} {m:Nat->MS},(∀x∈ids,rho L x≠y)->setM m (pU L ms' ids) y=m y
  |[],m,_=>rfl
  |x::ids,m,h=>by simp only[pU,setM];rw[NB λ z H=>h z (.tail _ H)];exact bX λ e=>h x (.head _) e.symm
def RH{L:List (Nat×Nat)}{ms':List (Nat×Row)}{x:Nat}:∀{ids:List Nat} {m:Nat->MS},x∈ids->(∀z∈ids,rho L z=rho L x->z=x)->
    setM m (pU L ms' ids) (rho L x)=entM L (look ms' x)
  |y::ids,m,hx,K=>by
    simp only[pU,setM]
    by_cases h:x∈ids
    .exact RH h λ z H=>K z (.tail _ H)
    · rcases cK.1 hx with rfl|hx
      .rw[NB λ z H e=>h (K z (.tail _ H) e▸H),cA rfl]
      .exact absurd hx h
def NC:∀{es:List (List A)},pureEs es=true->∀c∈es,mQ c=true
  |d::ds,h,c,hc=>by
    simp only[pureEs,bY]at h;rcases cK.1 hc with rfl|hc
    .exact h.1
    .exact NC h.2 c hc
def RepC.pure{v:Value}{a:A}(h:RepC w W v a):a.pure1=true:=by cases h<;>rfl
def RepY.pure{v:Value}{a:A}(h:RepY w W v a):a.pure1=true:=by
  cases a with
  |agg H=>rfl
  |_=>exact RepC.pure h
def RI:∀{H:List A},(∀(i:Nat) (a:A),H[i]? =some a->a.pure1=true)->mQ H=true
  |[],_=>rfl
  |a::H,h=>by simp only[mQ,bY];exact⟨h 0 a rfl,RI λ i b hb=>h (i+1) b (by simpa using hb)⟩
def RJ:∀{es:List (List A)},(∀(i:Nat) (c:List A),es[i]? =some c->mQ c=true)->pureEs es=true
  |[],_=>rfl
  |a::cs,h=>by simp only[pureEs,bY];exact⟨h 0 a rfl,RJ λ i b hb=>h (i+1) b (by simpa using hb)⟩
def zW.pure{r:Row}{k:Blk}(h:zW w W r k):pureEs r.es=true:=by
  obtain⟨_,_,_,es,Z,Y,B⟩:=h;refine RJ λ i c U=>?_;have L:i<es.size:=by rw[Y];exact(cJ.1 U).1
  obtain⟨_,kk,cs,ag,rfl,_,_,F,H⟩:=B i es[i] c (fK L) U;simp only[mQ,bY];refine⟨F.pure,RI λ j a K=>?_⟩;unfold RepX at H;split at H
  · obtain⟨vs,_,O,M⟩:=H
    have V:j<vs.length:=by rw[O];exact(cJ.1 K).1
    exact(M j vs[j] a (cF V) K).pure
  · obtain⟨b,rfl,O⟩:=H
    cases j with
    |zero=>simp at K;subst K;exact O.pure
    |succ n=>simp at K
def RK{R U:Value->A->Prop}{l:List (Nat×Nat)}{k sz:Nat}{us:List Value}{es:List (List A)}(h:Flat R sz us (qF l es))(H:idEs k es)
    (M:∀u a,yB k a->R u (ren1 l a)->U u a) (K:∀u a,a.pure1=true->R u a->U u a):Flat U sz us es:=by
  unfold qF at h;unfold idEs at H;split at h
  · rename_i Y
    exact⟨h.hl,h.hs,λ i c j b O hb=>let⟨u,B,F⟩:=h.ha i c j b O hb;⟨u,B,K u b (g9 (NC Y c (cU O)) b (cU hb)) F⟩⟩
  · rename_i Y
    rw[bX Y]at H;refine⟨by simpa using h.hl,λ i c O=>by simpa using h.hs i (c.map (ren1 l)) (by simp[O]),λ i c j b O hb=>?_⟩;obtain⟨u,B,F⟩:=h.ha i (c.map (ren1 l)) j (ren1 l b) (by simp[O]) (by simp[hb]);exact⟨u,B,M u b (H c (cU O) b (cU hb)) F⟩
def ZU{R O:Value->A->Prop}{l:List (Nat×Nat)}{sz:Nat}{us:List Value}{es:List (List A)}(h:Flat R sz us es)
    (F:∀u a,R u a->O u (ren1 l a)) (M:∀u a,a.pure1=true->R u a->O u a):Flat O sz us (qF l es):=by
  unfold qF;split
  · rename_i K
    exact⟨h.hl,h.hs,λ i c j b H hb=>let⟨u,U,Y⟩:=h.ha i c j b H hb;⟨u,U,M u b (g9 (NC K c (cU H)) b (cU hb)) Y⟩⟩
  · refine⟨by simpa using h.hl,λ i c H=>?_,λ i c j b H hb=>?_⟩
    · simp only[cV,cN]at H
      obtain⟨d,B,rfl⟩:=H
      simpa using h.hs i d B
    · simp only[cV,cN]at H
      obtain⟨d,B,rfl⟩:=H;simp only[cV,cN]at hb;obtain⟨c,H,rfl⟩:=hb;obtain⟨u,U,Y⟩:=h.ha i d j c B H;exact⟨u,U,F u c Y⟩
section
variable {w':World} {W':Nat→Prop} {μ':Nat→Loc}
def sV{l:List (Nat×Nat)}{k:Nat}(O:∀u a,RepC w W u a->RepC w W' u a)(B:∀b,b<w.heap.size->¬W b->¬W' b)(Y:∀x,x<k->μ' x=μ (rho l x)){u:Value}{b:A}(H:GP k b)(h:RepP w W μ u (ren0 l b)):RepP w W' μ' u b:=by
  cases b with
  |own x lo n=>refine⟨h.1,?_⟩;rw[Y x H];exact h.2
  |ptr x i j=>refine⟨h.1,?_⟩;rw[Y x H];exact h.2
  |mp x=>refine⟨h.1,?_⟩;rw[Y x H];exact h.2
  |it x=>refine⟨h.1,?_⟩;rw[Y x H];exact h.2
  |rd U F=>obtain⟨b,o,L,hb,K,M⟩:=h;exact⟨b,o,L,B b K hb,K,λ j a V=>let⟨u,Z,hr⟩:=M j a V;⟨u,Z,O u a hr⟩⟩
  |bool b=>exact O _ _ h
  |int k n=>exact O _ _ h
  |str s=>exact O _ _ h
  |sl es=>exact O _ _ h
  |full es=>exact O _ _ h
  |clo f U=>exact O _ _ h
  |bnd f U=>exact O _ _ h
  |agg U=>exact(by cases(show RepC w W u (.agg U)from h))
  |tup U=>exact(by cases(show RepC w W u (.tup U)from h))
  |cnd g a=>exact(by cases(show RepC w W u (.cnd g a)from h))
  |any=>exact(by cases(show RepC w W u .any from h))
def ND{l:List (Nat×Nat)}{k:Nat}(O:∀u a,RepC w W u a->RepC w W' u a)(U:∀b,b<w.heap.size->¬W b->¬W' b)(Y:∀x,x<k->μ' x=μ (rho l x)){u:Value}{b:A}(H:yB k b)(h:RepK w W μ u (ren1 l b)):RepK w W' μ' u b:=by
  cases b with
  |clo f B=>refine h.imp (λ⟨vs,K,L,V⟩=>?_) (λ⟨Z,h2,h3⟩=>⟨Z,h2,by simpa using h3⟩);exact⟨vs,K,by simpa using L,λ i u c hu M=>sV O U Y (H c (cU M)) (V i u (ren0 l c) hu (by simp[M]))⟩
  |own x lo n=>exact(sV (b:=.own x lo n) O U Y H (h.toP rfl)).toK
  |ptr x i j=>exact(sV (b:=.ptr x i j) O U Y H (h.toP rfl)).toK
  |mp x=>exact(sV (b:=.mp x) O U Y H (h.toP rfl)).toK
  |it x=>exact(sV (b:=.it x) O U Y H (h.toP rfl)).toK
  |rd B F=>exact(sV (b:=.rd B F) O U Y H (h.toP rfl)).toK
  |bool b=>exact(sV (b:=.bool b) O U Y H (h.toP rfl)).toK
  |int k n=>exact(sV (b:=.int k n) O U Y H (h.toP rfl)).toK
  |str s=>exact(sV (b:=.str s) O U Y H (h.toP rfl)).toK
  |sl es=>exact(sV (b:=.sl es) O U Y H (h.toP rfl)).toK
  |full es=>exact(sV (b:=.full es) O U Y H (h.toP rfl)).toK
  |bnd f B=>exact(sV (b:=.bnd f B) O U Y H (h.toP rfl)).toK
  |agg B=>exact(sV (b:=.agg B) O U Y H (h.toP rfl)).toK
  |tup B=>exact(sV (b:=.tup B) O U Y H (h.toP rfl)).toK
  |cnd g a=>exact(sV (b:=.cnd g a) O U Y H (h.toP rfl)).toK
  |any=>exact(sV (b:=.any) O U Y H (h.toP rfl)).toK
def D4{L:List (Nat×Nat)}(O:∀x,μ x=.fresh\/μ' (rho L x)=μ x){u:Value}{b:A}(h:RepP w W μ u b):RepP w W μ' u (ren0 L b):=by
  cases b with
  |own x lo n=>
    refine⟨h.1,?_⟩;have H:=h.2;rcases O x with e|e
    .rw[e]at H;exact H.elim
    .rw[e];exact H
  |ptr x i j=>
    refine⟨h.1,?_⟩;have H:=h.2;rcases O x with e|e
    .rw[e]at H;exact H.elim
    .rw[e];exact H
  |mp x=>
    refine⟨h.1,?_⟩;have H:=h.2;rcases O x with e|e
    .rw[e]at H;exact H.elim
    .rw[e];exact H
  |it x=>
    refine⟨h.1,?_⟩;have H:=h.2;rcases O x with e|e
    .rw[e]at H;exact H.elim
    .rw[e];exact H
  |_=>exact h
@[go_sem] theorem ZV(L:List (Nat×Nat))(s:List Nat):(s.map iE).map (List.map (ren1 L))=s.map iE:=by simp[iE,ren1,ren0]
def ZW{L:List (Nat×Nat)}{y c:Nat}{H:List Nat}:qF L ([.mp y,.int .i64 c]::H.map iE)=[.mp (rho L y),.int .i64 c]::H.map iE:=by unfold qF;rw[bX (by simp[pureEs,mQ,A.pure1]),dN,ZV];rfl
def ItOk.ren{L:List (Nat×Nat)}(O:∀x,μ x=.fresh\/μ' (rho L x)=μ x){r:Row}{k:Blk}(h:ItOk w W μ r k):ItOk w W μ' ⟨r.ro,r.sz,r.z,qF L r.es⟩ k:=by obtain⟨U,Y,B,F,y,b,c,H,M,K,V⟩:=h;exact⟨U,Y,B,F,rho L y,b,c,H,by simp only[M];exact ZW,D4 (b:=.mp y) O K,V⟩
def BV{L:List (Nat×Nat)}(H:∀x,μ x=.fresh\/μ' (rho L x)=μ x){u:Value}{b:A}(h:RepK w W μ u b):RepK w W μ' u (ren1 L b):=by
  cases b with
  |clo f cs=>refine h.imp (λ⟨vs,K,V,U⟩=>?_) (λ⟨Y,B,F⟩=>⟨Y,B,by simpa using F⟩);refine⟨vs,K,by simpa using V,λ i u c M O=>?_⟩;simp only[cV,cN]at O;obtain⟨d,Z,rfl⟩:=O;exact D4 H (U i u d M Z)
  |own x lo n=>exact(D4 (b:=.own x lo n) H (h.toP rfl)).toK
  |ptr x i j=>exact(D4 (b:=.ptr x i j) H (h.toP rfl)).toK
  |mp x=>exact(D4 (b:=.mp x) H (h.toP rfl)).toK
  |it x=>exact(D4 (b:=.it x) H (h.toP rfl)).toK
  |_=>exact h
def BW{L:List (Nat×Nat)}(H:∀x,μ x=.fresh\/μ' (rho L x)=μ x){u:Value}{b:A}(h:RepV w W μ u b):RepV w W μ' u (ren L b):=by
  cases b with
  |agg Y=>
    obtain⟨vs,K,V,B⟩:=h;simp only[ren];split
    · rename_i F
      exact⟨vs,K,V,λ i u c U O=>nV ((B i u c U O).toC (g9 F c (cU O)))⟩
    · refine⟨vs,K,by simpa using V,λ i u c U O=>?_⟩
      simp only[cV,cN]at O;obtain⟨d,M,rfl⟩:=O;exact BV H (B i u d U M)
  |clo f Y=>exact BV (w:=w) (W:=W) (b:=.clo f Y) H h
  |own x lo n=>exact BV (w:=w) (W:=W) (b:=.own x lo n) H h
  |ptr x i j=>exact BV (w:=w) (W:=W) (b:=.ptr x i j) H h
  |mp x=>exact BV (w:=w) (W:=W) (b:=.mp x) H h
  |it x=>exact BV (w:=w) (W:=W) (b:=.it x) H h
  |_=>exact h
def ZX{L:List (Nat×Nat)}(H:∀x,μ x=.fresh\/μ' (rho L x)=μ x){u:Value}{b:A}(h:Rep w W μ u b)(hb:∀g c,b≠.cnd g c):Rep w W μ' u (renR L b):=by
  cases b with
  |tup O=>obtain⟨vs,K,V,Y⟩:=h;refine⟨vs,K,by simpa using V,λ i u c B U=>?_⟩;simp only[cV,cN]at U;obtain⟨d,F,rfl⟩:=U;exact BW H (Y i u d B F)
  |any=>trivial
  |cnd g c=>exact absurd rfl (hb g c)
  |agg O=>exact nN (BW (b:=.agg O) H h)
  |clo f O=>exact nN (BW (b:=.clo f O) H h)
  |own x lo n=>exact nN (BW (b:=.own x lo n) H h)
  |ptr x i j=>exact nN (BW (b:=.ptr x i j) H h)
  |mp x=>exact nN (BW (b:=.mp x) H h)
  |it x=>exact nN (BW (b:=.it x) H h)
  |bool b=>exact h
  |int k n=>exact h
  |str s=>exact h
  |sl es=>exact h
  |full es=>exact h
  |bnd f O=>exact h
  |rd O M=>exact h
end
def ZY{f:FuncId}{s:S}(hs:SatW E s a w W μ)(hG:E.G=C.G){vs:List Value}{u0 as:List A}{l:List (Nat×Nat)}{ms ms':List (Nat×Row)}{k k' nx:Nat}{r:A}(hl:vs.length=u0.length)
    (hV:∀(i:Nat) (v:Value) (x:A),vs[i]? =some v->u0[i]? =some x->Rep w W μ v x) (o0:∀x,nx<=x->x<nx+(k'-k)->s.mem x=.fresh)
    (hf:MFn C f as ms k r ms' k') (l1:okM s.mem nx l u0 as ms k k') (m1:∀g c,r≠.cnd g c):
    Calls C.P f vs.toArray w λ e w'=>∃v W' μ',e=.returned v/\Rep w' W' μ' v (renR (l++newL k nx (k'-k)) r)/\
      Step s.mem (setM s.mem (mwM s.mem (l++newL k nx (k'-k)) u0 as ms ms' k k')) w w' W W' μ μ':=by
  obtain⟨hargs,r0,i1,d2,s1,t1,hlt,o1⟩:=l1;have t1:k<=k':=fP t1;have b0:=Nz s1;have U:∀x,x<k->rho (l++newL k nx (k'-k)) x=rho l x:=λ x hx=>by simp only[rho,Ao,Ap];rw[bX om,lJ]
  have B:∀i,i<k'-k->rho (l++newL k nx (k'-k)) (k+i)=nx+i:=λ i hi=>by simp only[rho,Ao,Ap];rw[GS λ q hq=>by have:=o1 q hq;omega,cA om];simp
  have s0:∀x,x<k->∃r r',look ms x=some r/\s.mem (rho l x)=.row r'/\r'.ro=false/\r'.sz=r.sz/\r'.es=qF l r.es/\r.ro=false/\idEs k r.es/\rho l x∉fzM u0 as/\rho l x<nx/\0<r.sz:=λ x hx=>by obtain⟨r,Z⟩:=b0 x hx;obtain⟨⟨r',h1,H,h3,h4⟩,h5,h6,h7,h8,h9⟩:=D3 r0 x r (D2 Z);exact⟨r,r',Z,h1,H,h3,h4,h5,h7,h8,hlt _ (D2 Z),h9⟩
  have z1:∀x y,x<k->y<k->rho l x=rho l y->x=y:=λ x y hx K he=>by obtain⟨r1,h1⟩:=b0 x hx;obtain⟨r2,H⟩:=b0 y K;exact NA i1 x y r1 r2 h1 H he
  have u1:∀x y,x<k'->y<k'->rho (l++newL k nx (k'-k)) x=rho (l++newL k nx (k'-k)) y->x=y:=λ x y hx K he=>by
    by_cases h1:x<k<;>by_cases H:y<k
    .rw[U x h1,U y H]at he;exact z1 x y h1 H he
    · rw[U x h1,show y=k+(y-k)by omega,B _ om]at he
      obtain⟨_,_,_,_,_,_,_,_,_,_,h3,_⟩:=s0 x h1;omega
    · rw[U y H,show x=k+(x-k)by omega,B _ om]at he
      obtain⟨_,_,_,_,_,_,_,_,_,_,h3,_⟩:=s0 y H;omega
    · rw[show x=k+(x-k)by omega,show y=k+(y-k)by omega,B _ om,B _ om]at he
      omega
  let fz:=fzM u0 as
  let Wc:=sJ W μ fz
  let μc:Nat->Loc:=λ x=>if x<k then μ (rho l x)else .fresh
  have M:∀x,x<k->μc x=μ (rho l x):=λ x hx=>cA hx;have y0:∀x,¬x<k->μc x=.fresh:=λ x hx=>bX hx;have hC:∀u b,RepC w W u b->RepC w Wc u b:=λ u b h=>h.less;have q1:∀b,b<w.heap.size->¬W b->¬Wc b:=λ b _ h H=>h H.1;have hgl:zX w Wc C.G:=λ g cs hg=>by obtain⟨h1,H,h3⟩:=hs.glob g cs (hG▸hg);exact⟨λ h=>h1 h.1,H,λ j b hj=>let⟨u,hu,Z⟩:=h3 j b hj;⟨u,hu,Z.less⟩⟩
  have hmem:rQ w Wc μc (⟨[],ms,k⟩:St).m:=λ x=>by
    by_cases hx:x<k
    · obtain⟨r,r',h1,H,h3,h4,h5,h6,h7,h8,h9,e2⟩:=s0 x hx
      have e:(⟨[],ms,k⟩:St).m x=.row r:=by simp only[St.m,h1];rw[bX om]
      rw[e];have hm:=hs.mem (rho l x);rw[H]at hm;rcases hm with⟨Y,F,g3⟩|⟨kb,Y,gA⟩
      · refine .inl ⟨(M x hx).trans Y,?_,by omega⟩
        rw[h5]at F;unfold qF at F;split at F
        .exact F
        .exact kG.1 F
      · obtain⟨F,g3,g4,us,q0,e',g5,g6,g7⟩:=gA.ok (by have:=gA.wr.2;omega)
        refine .inr ⟨kb,(M x hx).trans Y,.inl ⟨λ _=>⟨F h3,λ⟨y,ky,K,b1,a1⟩=>h8 (hs.inj y (rho l x) ky kb b1 Y a1▸K)⟩,g3.trans h4,by omega,us,q0,e',g5,g6,?_⟩⟩;rw[h5,h4]at g7;exact RK g7 h7 (λ u b a0 Z=>ND hC q1 (λ z O=>M z O) a0 Z) (λ u b hp Z=>nV (Z.toC hp).less)
    · have e:(⟨[],ms,k⟩:St).m x=.fresh:=by simp only[St.m];rw[cA om]
      rw[e];exact y0 x hx
  have hinj:∀x y b b',μc x=.at_ b->μc y=.at_ b'->b.b=b'.b->x=y:=λ x y b b' hx K he=>by
    by_cases h1:x<k
    · by_cases H:y<k
      · rw[M x h1]at hx;rw[M y H]at K
        exact z1 x y h1 H (hs.inj _ _ b b' hx K he)
      .rw[y0 y H]at K;cases K
    .rw[y0 x h1]at hx;cases hx
  have c0:∀(i:Nat) (v:Value) (b:A),vs[i]? =some v->as[i]? =some b->RepV w Wc μc v b:=λ i v b hv hb=>by
    obtain⟨x,hx,hm,O⟩:=RE hargs i b hb;have Z:=hV i v x hv hx;unfold argM at hm;split at hm
    · rename_i hh
      obtain⟨rfl,a0⟩:=hm
      by_cases ha:∃cs,b=.agg cs
      · obtain⟨cs,rfl⟩:=ha
        have hp:=ZT hh;simp only[ren,hp,bZ,cI]at Z;obtain⟨us,hu,w1,x2⟩:=Z;exact⟨us,hu,by simpa using w1,λ i u c h1 H=>ND (W':=Wc) (μ':=μc) hC q1 (λ z O=>M z O) (RD a0 c (cU H)) (x2 i u (ren1 l c) h1 (by simp[H]))⟩
      · have hk:RepK w W μ v (ren1 l b):=by cases b<;>first|exact Z|exact absurd ⟨_,rfl⟩ ha|(simp[A.hands]at hh)
        have y2:=ND (W':=Wc) (μ':=μc) hC q1 (λ z O=>M z O) (by cases b<;>first|exact a0|exact absurd ⟨_,rfl⟩ ha) hk;exact nT y2
    · rename_i hh
      obtain⟨z2,rfl⟩:=hm;exact(Ny hs Z z2 (λ y K=>O (by simpa using hh) y K)).goes (Keeps.refl (λ _=>False) w) (λ _ _ _ h=>h) (λ _ _ h=>h) RB
  have hlen:vs.length=as.length:=hl.trans (RF hargs);refine(hf w Wc μc vs hgl (λ b h=>hs.wlt b h.1) hlen c0 hmem hinj).mono λ e w' ⟨v,Wc',μc',he,V,Z⟩=>?_
  clear hgl hmem c0 hV
  have e0:∀x,k'<=x->μc' x=.fresh:=λ x hx=>by have:=V.mem x;rw[show(⟨[],ms',k'⟩:St).m x=.fresh by simp only[St.m];rw[cA hx]]at this;exact this
  generalize hL:l++newL k nx (k'-k)=L at*
  let μ':Nat->Loc:=λ y=>open Classical in if h:∃z,z<k'/\rho L z=y then μc' (Classical.choose h)else μ y
  have h0:∀z,z<k'->μ' (rho L z)=μc' z:=λ z O=>by have h:∃z',z'<k'/\rho L z'=rho L z:=⟨z,O,rfl⟩;show(if h:∃z',z'<k'/\rho L z'=rho L z then μc' (Classical.choose h)else μ (rho L z))=_;rw[kR h];rw[u1 _ _ (fB h).1 O (fB h).2]
  have x0:∀y,(¬∃z,z<k'/\rho L z=y)->μ' y=μ y:=λ y K=>dif_neg K;have t0:∀x,μc' x=.fresh\/μ' (rho L x)=μc' x:=λ x=>by
    by_cases hx:x<k'
    .exact .inr (h0 x hx)
    .exact .inl (e0 x om)
  have sub:∀b,(Wc b/\∃y kb,μc y=.at_ kb/\kb.b=b)->W b/\∃y kb,μ y=.at_ kb/\kb.b=b:=λ b ⟨h1,y,kb,H,h3⟩=>by
    by_cases K:y<k
    .rw[M y K]at H;exact⟨h1.1,_,kb,H,h3⟩
    .rw[y0 y K]at H;cases H
  have d0:∀y kb,μ y=.at_ kb->(∃z kz,μc z=.at_ kz/\kz.b=kb.b)->∃z,z<k'/\rho L z=y:=λ y kb K ⟨z,kz,h1,H⟩=>by
    by_cases O:z<k
    · rw[M z O]at h1
      refine⟨z,by omega,?_⟩;rw[U z O];exact hs.inj _ _ kz kb h1 K H
    .rw[y0 z O]at h1;cases h1
  have f0:Old μ μ':=λ y K=>by
    by_cases h:∃z,z<k'/\rho L z=y
    · obtain⟨z,O,rfl⟩:=h
      rw[h0 z O]
      by_cases g0:z<k
      · rw[U z g0]at K|-
        rcases V.old z (by rw[M z g0];exact K)with e|e
        .exact .inl (e.trans (M z g0))
        .exact .inr e
      · exfalso
        apply K;have hf:=o0 (nx+(z-k)) om om;rw[show z=k+(z-k)by omega,B _ om];have:=hs.mem (nx+(z-k));rw[hf]at this;exact this
    .exact .inl (x0 y h)
  have p0:Keeps (λ b=>W b/\∃y kb,μ y=.at_ kb/\kb.b=b) w w':=V.keeps.mono λ b _ h=>sub b h;have x1:∀b,b<w.heap.size->Wc' b->W b:=λ b hb h=>(V.hW b hb h).1;refine⟨v,Wc',μ',he,ZX t0 Z m1,⟨p0,x1,λ b hb=>?_,hs.wlt,V.wlt,f0,λ y=>?_,λ x y b b' hx K hb=>?_,λ y b K=>?_⟩⟩
  ·
    by_cases O:∃x kb,x∈fz/\μ x=.at_ kb/\kb.b=b
    .obtain⟨x,kb,_,H,h3⟩:=O;exact .inr ⟨x,kb,H,h3⟩
    · rcases V.wsup b ⟨hb,O⟩with h|⟨x,kb,h1,H⟩
      .exact .inl h
      · by_cases hx:x<k
        .rw[M x hx]at h1;exact .inr ⟨_,kb,h1,H⟩
        .rw[y0 x hx]at h1;cases h1
  ·
    rw[mwM,RG]
    by_cases h:∃z,z<k'/\rho L z=y
    · obtain⟨z,O,rfl⟩:=h
      have c1:z∈ms.map (·.1)++(List.range (k'-k)).map (k+·):=by
        by_cases g0:z<k
        · obtain⟨r,Z⟩:=b0 z g0
          exact dW _ (cR.2 ⟨(z,r),D2 Z,rfl⟩)
        .exact dJ _ (cR.2 ⟨z-k,eH.2 om,by omega⟩)
      rw[RH c1 λ x hx he=>by
        refine u1 x z ?_ O he;rcases cX.1 hx with hx|hx
        · obtain⟨q,hq,rfl⟩:=cR.1 hx
          have:=(D3 r0 q.1 q.2 hq).2.2.1;omega
        · obtain⟨i,hi,rfl⟩:=cR.1 hx
          have:=eH.1 hi;omega]
      have hm:=V.mem z;have e:(⟨[],ms',k'⟩:St).m z=(match look ms' z with|some r=>.row r|none=>.dead:MS):=by simp only[St.m];rw[bX om];try cases look ms' z<;>rfl
      rw[e]at hm;cases hlk':look ms' z with
      |none=>rw[hlk']at hm;exact(h0 z O).trans hm
      |some r1=>
        rw[hlk']at hm;rcases hm with⟨Y,F,g3⟩|⟨kb,Y,⟨F,g3,g4,us,q0,e',g5,g6,g7⟩|gM|gI⟩
        · refine .inl ⟨(h0 z O).trans Y,?_,g3⟩
          show qF L r1.es=[];rw[F];rfl
        .exact .inr ⟨kb,(h0 z O).trans Y,.inl ⟨F,g3,g4,us,q0,e',g5,g6,ZU g7 (λ u b hb=>BV t0 hb) (λ u b hp hb=>nV (hb.toC hp))⟩⟩
        · refine .inr ⟨kb,(h0 z O).trans Y,.inr (.inl ?_)⟩
          have e3:qF L r1.es=r1.es:=by unfold qF;rw[cA gM.pure]
          rw[e3];exact gM
        .exact .inr ⟨kb,(h0 z O).trans Y,.inr (.inr (gI.ren t0))⟩
    · rw[NB λ x hx he=>h ⟨x,by
        rcases cX.1 hx with hx|hx
        · obtain⟨q,hq,rfl⟩:=cR.1 hx
          have:=(D3 r0 q.1 q.2 hq).2.2.1;omega
        · obtain⟨i,hi,rfl⟩:=cR.1 hx
          have:=eH.1 hi;omega,he⟩,JQ]
      have hm:=hs.mem y;have d1:∀(r:Row) (kb:Blk),qN w W μ r kb->μ y=.at_ kb->(r.ro=false->y∉fz)->qN w' Wc' μ' r kb:=λ r kb p1 K u2=>by
        have hlt:=p1.lt;have y1:¬∃z kz,μc z=.at_ kz/\kz.b=kb.b:=λ hh=>h (d0 y kb K hh);have l0:(r.ro=false->W kb.b)->r.ro=false->Wc' kb.b:=λ Y e1=>by
          rcases V.wsup kb.b ⟨Y e1,λ⟨x,kx,hx,p2,q2⟩=>u2 e1 (hs.inj x y kx kb p2 K q2▸hx)⟩with h1|h1
          .exact h1
          .exact absurd h1 y1
        rcases p1 with⟨Y,F,g3,us,q0,e',g4,g5,g6⟩|⟨Y,F,g3,es,g4,g5,g6⟩|⟨Y,F,g3,O,y',b',c,f1,g5,g6,g4⟩
        · refine .inl ⟨l0 Y,F,g3,us,q0,e',?_,g5,g6.mono λ u b hb=>hb.goes p0 (λ _ _ h H=>h H.1) (λ b hb h H=>h (x1 b hb H)) f0⟩
          rw[V.keeps.block kb.b hlt (λ hh=>y1 hh.2)];exact g4
        · refine .inr (.inl ⟨l0 Y,F,g3,es,?_,g5,λ i e c p q=>(g6 i e c p q).keep p0 (λ _ _ h H=>h H.1) (λ b hb h H=>h (x1 b hb H))⟩)
          rw[V.keeps.block kb.b hlt (λ hh=>y1 hh.2)];exact g4
        · refine .inr (.inr ⟨l0 Y,F,g3,O,y',b',c,f1,g5,g6.goes p0 (λ _ _ h H=>h H.1) (λ b hb h H=>h (x1 b hb H)) f0,?_⟩)
          rw[V.keeps.block kb.b hlt (λ hh=>y1 hh.2)];exact g4
      have m0:qU w' Wc' μ' y (s.mem y)\/(y∈fz/\∃r,s.mem y=.row r/\qU w' Wc' μ' y (.row ⟨true,r.sz,r.z,r.es⟩)):=by
        cases hr1:s.mem y with
        |fresh=>rw[hr1]at hm;exact .inl ((x0 y h).trans hm)
        |dead=>rw[hr1]at hm;exact .inl ((x0 y h).trans hm)
        |row r1=>
          rw[hr1]at hm
          by_cases O:y∈fz
          · refine .inr ⟨O,r1,rfl,?_⟩
            rcases hm with⟨Y,F,g3⟩|⟨kb,Y,F⟩
            .exact .inl ⟨(x0 y h).trans Y,F,g3⟩
            .exact .inr ⟨kb,(x0 y h).trans Y,d1 ⟨true,r1.sz,r1.z,r1.es⟩ kb F.ro Y (by simp)⟩
          · refine .inl ?_
            rcases hm with⟨Y,F,g3⟩|⟨kb,Y,F⟩
            .exact .inl ⟨(x0 y h).trans Y,F,g3⟩
            .exact .inr ⟨kb,(x0 y h).trans Y,d1 r1 kb F Y (λ _=>O)⟩
      split
      · rename_i O
        rcases m0 with h1|⟨_,r1,h1,H⟩
        · cases hr1:s.mem y with
          |fresh=>rw[hr1]at h1;exact h1
          |dead=>rw[hr1]at h1;exact h1
          |row r1=>
            rw[hr1]at h1;rcases h1 with⟨Y,F,g3⟩|⟨kb,Y,F⟩
            .exact .inl ⟨Y,F,g3⟩
            .exact .inr ⟨kb,Y,F.ro⟩
        .rw[h1];exact H
      · rename_i O
        rcases m0 with h1|⟨h1,_⟩
        .exact h1
        .exact absurd h1 O
  ·
    have s2:∀x b,μ x=.at_ b->b.b<w.heap.size:=λ x b hx=>by obtain⟨_,_,h⟩:=hs.mem.at_ hx;exact h.lt
    have j0:∀z y b b',z<k'->μc' z=.at_ b->μ y=.at_ b'->b.b=b'.b->∃z,z<k'/\rho L z=y:=λ z y b b' _ h1 H h3=>by
      rcases V.live z b h1 with⟨z0,k0,h4,h5⟩|h4
      .exact d0 y b' H ⟨z0,k0,h4,h5.trans h3⟩
      .have:=s2 y b' H;omega
    by_cases h1:∃z,z<k'/\rho L z=x<;>by_cases H:∃z,z<k'/\rho L z=y
    · obtain⟨z,O,rfl⟩:=h1
      obtain⟨z',t2,rfl⟩:=H;rw[h0 z O]at hx;rw[h0 z' t2]at K;rw[V.inj z z' b b' hx K hb]
    · obtain⟨z,O,rfl⟩:=h1
      rw[h0 z O]at hx;rw[x0 y H]at K;exact absurd (j0 z y b b' O hx K hb) H
    · obtain⟨z,O,rfl⟩:=H
      rw[h0 z O]at K;rw[x0 x h1]at hx;exact absurd (j0 z x b' b O K hx hb.symm) h1
    · rw[x0 x h1]at hx;rw[x0 y H]at K
      exact hs.inj x y b b' hx K hb
  ·
    by_cases h:∃z,z<k'/\rho L z=y
    · obtain⟨z,O,rfl⟩:=h
      rw[h0 z O]at K;rcases V.live z b K with⟨z0,k0,h4,h5⟩|h4
      · by_cases k1:z0<k
        .rw[M z0 k1]at h4;exact .inl ⟨_,k0,h4,h5⟩
        .rw[y0 z0 k1]at h4;cases h4
      .exact .inr h4
    .rw[x0 y h]at K;exact .inl ⟨y,b,K,rfl⟩
def ZZ{st:St}{l:List (Nat×Nat)}{O as:List A}{ms ms':List (Nat×Row)}{k k':Nat}(h0:okM st.m st.nx l O as ms k k'):mwOk st.nx (mwM st.m (l++newL k st.nx (k'-k)) O as ms ms' k k'):=by
  obtain⟨hargs,Y,q0,r0,p0,B,K,x0⟩:=h0;have B:k<=k':=fP B;have y0:∀{L:List (Nat×Nat)} {H:List Nat},∀q∈pU L ms' H,(∃x∈H,q.1=rho L x)/\q.2≠.fresh:=λ{L} {H}=>by
    induction H with
    |nil=>intro q hq;cases hq
    |cons x H F=>
      intro q hq;rcases cK.1 hq with rfl|hq
      .exact⟨⟨x,.head _,rfl⟩,by simp only;cases look ms' _<;>simp[entM]⟩
      .obtain⟨⟨y,hy,V⟩,M⟩:=F q hq;exact⟨⟨y,.tail _ hy,V⟩,M⟩
  have z0:∀(L:List (Nat×Nat)) (x y:List Nat),pU L ms' (x++y)=pU L ms' x++pU L ms' y:=λ L x y=>by
    induction x with
    |nil=>rfl
    |cons z x F=>simp only[Jm,pU,F]
  unfold mwM;refine JM (λ q hq=>let⟨⟨r,hr⟩,M⟩:=JN q hq;⟨St.m_row hr,M⟩) ?_;rw[z0];refine JM (λ q hq=>?_) ?_
  · obtain⟨⟨x,hx,V⟩,M⟩:=y0 q hq
    obtain⟨p,Z,rfl⟩:=cR.1 hx;have h3:=(D3 Y p.1 p.2 Z).2.2.1;refine⟨?_,M⟩;rw[V];have:rho (l++newL k st.nx (k'-k)) p.1=rho l p.1:=by simp only[rho,Ao,Ap];rw[bX om,lJ]
    rw[this];exact K p Z
  · have u0:∀(n j:Nat),j+n<=k'-k->mwOk (st.nx+j) (pU (l++newL k st.nx (k'-k)) ms' ((List.range' j n).map (k+·))):=λ n=>by
      induction n with
      |zero=>intro j _;trivial
      |succ n F=>
        intro j hj;have U:rho (l++newL k st.nx (k'-k)) (k+j)=st.nx+j:=by simp only[rho,Ao,Ap];rw[GS λ q hq=>by have:=x0 q hq;omega,cA om];simp
        rw[hZ,dN,pU];refine⟨by rw[U];exact dC _,by simp only;cases look ms' _<;>simp[entM],?_⟩;simp only[U,cH];exact F (j+1) om
    have:=u0 (k'-k) 0 om;rwa [<-eX]at this
def RL{st:St}:∀{mw:List (Nat×MS)},f5 st.m mw->mwOk st.nx mw
  |[],_=>trivial
  |q::r,⟨H,K⟩=>GQ (by
      by_cases h:q.1<st.nx
      .exact h
      .exact absurd (by simp only[St.m];rw[cA om]) (MS.like_ne H).1) (MS.like_ne H).2 (RL K)
def RM{P:Program}{f:FuncId}(h:pM P f=true):(f==zV)=false:=by
  unfold pM at h;split at h
  .simp only[bY,dB]at h;exact h.2
  .cases h
def RN{t:Operand}{args:Array Operand}{Y:Array TypeId}{f:FuncId}{vs H:List Value}(ho:o.op=.call {callee:=.value t,args:=args,argTypes:=Y})(K:a.eval t=.func (.func f) #[] H.toArray)
    (O:pM C.P f=true) (B:vs=args.toList.map a.eval++H):(execOp a.eval o).run C.P w=.ok (.enter f vs.toArray) w:=by
  unfold pM at O;have M:vs.toArray=args.map a.eval++H.toArray:=by rw[B];simp[<-Array.toList_map]
  split at O
  · rename_i fn U
    simp only[bY,dB]at O;have hb:fn.body.isNone=false:=by cases hb:fn.body<;>simp[hb]at O|-
    have F:(callFunc f (args.map a.eval++H.toArray)).run C.P w=.ok (.enter f (args.map a.eval++H.toArray)) w:=by simp only[callFunc,qc,run_program,Oc,U];rw[bX (by simp[O.1.2]),bX (by simp[hb])];rfl
    rw[M];simp[execOp,ho,resolve,K,Deferred.ofValue,invoke,F]
  .cases O
def Z0{t:Operand}{args:Array Operand}{U:Array TypeId}{f:FuncId}{u:Value}{vs:List Value}(ho:o.op=.call {callee:=.value t,args:=args,argTypes:=U})(K:a.eval t=.func (.func f) #[u] #[])
    (H:pM C.P f=true) (Y:vs=u::args.toList.map a.eval):(execOp a.eval o).run C.P w=.ok (.enter f vs.toArray) w:=by
  unfold pM at H;have F:vs.toArray=#[u]++args.map a.eval:=by rw[Y];simp[<-Array.toList_map]
  split at H
  · rename_i fn O
    simp only[bY,dB]at H;have hb:fn.body.isNone=false:=by cases hb:fn.body<;>simp[hb]at H|-
    have B:(callFunc f (#[u]++args.map a.eval)).run C.P w=.ok (.enter f (#[u]++args.map a.eval)) w:=by simp only[callFunc,qc,run_program,Oc,O];rw[bX (by simp[H.1.2]),bX (by simp[hb])];rfl
    rw[F];simp[execOp,ho,resolve,K,Deferred.ofValue,invoke,B]
  .cases H
def RO{e0:Array Oper}{p:POp}{s:S}{id:Nat}(Z:SatW E s a w W μ)(hG:E.G=C.G)(z1:s.mem id=.fresh)(hp:POk C E.N e0 o p){K:A->List (Nat×MS)->Prop}(h:aopS C p s id K){Q:Exit->Act->World->Prop}{k:Act->World->Prop}
    (hk:∀v mw a' w',K v mw->Sat E ⟨setF s.fr p.dst v,setM s.mem mw⟩ a' w'->k a' w'):if Region.wanted o (yielded e0 a.tmps)then o.wp C.P a w k Q else k (a.put o.dst undef) w:=by
  unfold aopS at h;cases L:oV s.fr p.g with
  |none=>simp[L]at h
  |some g=>
    simp only[L]at h;have m0:=ZS Z hp.g L;rw[m0,hp.dst];have skip:∀(v:A),g=false->K (oL p.g g v) []->k (a.put p.dst undef) w:=λ v hg hK=>by
      refine hk _ _ _ _ hK ⟨W,μ,?_⟩;refine Z.step (m':=s.mem) Z.refl hp.lt ?_;cases hpg:p.g with
      |none=>rw[hpg]at L;simp[oV]at L;rw[hg]at L;cases L
      |some q=>exact⟨λ h=>(by rw[hg]at h;cases h),λ _=>rfl⟩
    have f0:∀(v:A) (mw:List (Nat×MS)) (u:Value) (w':World) (W':Nat->Prop) (μ':Nat->Loc),g=true->(p.g=none\/v.isVV=true)->K (oL p.g g v) mw->Rep w' W' μ' u v->Step s.mem (setM s.mem mw) w w' W W' μ μ'->k (a.put p.dst u) w':=λ v mw u w' W' μ' hg z0 hK hr hst=>by
      refine hk _ _ _ _ hK ⟨W',μ',?_⟩;refine Z.step hst hp.lt ?_;cases hpg:p.g with
      |none=>exact hr
      |some q=>
        refine⟨λ _=>?_,λ h=>(by rw[hg]at h;cases h)⟩;rcases z0 with h1|h1
        .rw[hpg]at h1;cases h1
        .exact hr.toVV h1
    have go:∀(v:A) (mw:List (Nat×MS)),g=true->mT C.P o a w W μ s.mem v (setM s.mem mw)->(p.g=none\/v.isVV=true)->K (oL p.g g v) mw->o.wp C.P a w k Q:=λ v mw hg hy z0 hK=>by refine Oper.wp_of_yields Z hy λ u w' W' μ' hr hst=>?_;rw[hp.dst];exact f0 v mw u w' W' μ' hg z0 hK hr hst
    have sk:∀(v:A) (mw:List (Nat×MS)),g=false->(p.g=none\/mw=[]/\v.isVV=true)->K (oL p.g g v) mw->k (a.put p.dst undef) w:=λ v mw hg z0 hK=>by
      rcases z0 with h1|⟨h1,_⟩
      .rw[h1]at L;simp[oV]at L;rw[hg]at L;cases L
      .subst h1;exact skip v hg hK
    have l0:∀(t:Operand) (args:Array Operand) (Y:Array TypeId) (f:FuncId) (vs U:List Value) (H:List A) (r:A),o.op=.call {callee:=.value t,args:=args,argTypes:=Y}->a.eval t=.func (.func f) #[] U.toArray->pM C.P f=true->
        vs=args.toList.map a.eval++U->vs.length=H.length->(∀(i:Nat) (v:Value) (x:A),vs[i]? =some v->H[i]? =some x->Rep w W μ v x)->pS s.mem H->PFn C f (oZ s.mem H) r->
        g=true->(p.g=none\/oE s.mem H r=[]/\r.isVV=true)->K (oL p.g g r) (oE s.mem H r)->o.wp C.P a w k Q:=λ t args Y f vs U H r ho ht hb q0 hl M u0 p0 hg z0 hK=>by
      have hc:=RC Z hG hl M u0 p0;unfold Oper.wp;rw[RN ho ht hb q0];refine hc.mono λ e w' ⟨v,W',he,hrep,hst⟩=>?_;subst he;show k (a.put o.dst v) w';rw[hp.dst];exact f0 r _ v w' W' μ hg (z0.imp (λ h=>h) And.right) hK hrep hst
    have j0:∀(t:Operand) (args:Array Operand) (Y:Array TypeId) (f:FuncId) (u:Value) (vs:List Value) (H:List A) (r:A),o.op=.call {callee:=.value t,args:=args,argTypes:=Y}->a.eval t=.func (.func f) #[u] #[]->pM C.P f=true->
        vs=u::args.toList.map a.eval->vs.length=H.length->(∀(i:Nat) (v:Value) (x:A),vs[i]? =some v->H[i]? =some x->Rep w W μ v x)->pS s.mem H->PFn C f (oZ s.mem H) r->
        g=true->(p.g=none\/oE s.mem H r=[]/\r.isVV=true)->K (oL p.g g r) (oE s.mem H r)->o.wp C.P a w k Q:=λ t args Y f u vs H r ho ht hb q0 hl M u0 p0 hg z0 hK=>by
      have hc:=RC Z hG hl M u0 p0;unfold Oper.wp;rw[Z0 ho ht hb q0];refine hc.mono λ e w' ⟨v,W',he,hrep,hst⟩=>?_;subst he;show k (a.put o.dst v) w';rw[hp.dst];exact f0 r _ v w' W' μ hg (z0.imp (λ h=>h) And.right) hK hrep hst
    have r0:∀(t:Operand) (args:Array Operand) (Y:Array TypeId) (f:FuncId) (vs U:List Value) (H:List A) (ob:Prop),o.op=.call {callee:=.value t,args:=args,argTypes:=Y}->a.eval t=.func (.func f) #[] U.toArray->pM C.P f=true->
        vs=args.toList.map a.eval++U->vs.length=H.length->(∀(i:Nat) (v:Value) (x:A),vs[i]? =some v->H[i]? =some x->Rep w W μ v x)->g=true->
        tT C s.mem id f H p.g g ob (λ n=>∀x,id<=x->x<id+n->s.mem x=.fresh) K->o.wp C.P a w k Q:=λ t args Y f vs U H ob ho ht hb q0 hl M b0 u1=>by
      obtain⟨l,as,ms,kk,r,p1,q1,s0,_,s1,a0,hK⟩:=u1;obtain⟨_,t1,c1,d1⟩:=s0 b0;have hc:=ZY Z hG hl M d1 t1 c1 a0;unfold Oper.wp;rw[RN ho ht hb q0];refine hc.mono λ e w' ⟨v,W',μ',he,hrep,hst⟩=>?_;subst he;show k (a.put o.dst v) w';rw[hp.dst];exact f0 _ _ v w' W' μ' b0 s1 hK hrep hst
    have t0:∀{f:FuncId} {H:List A} {ob:Prop} {F:Nat->Prop},g=false->tT C s.mem id f H p.g g ob F K->k (a.put p.dst undef) w:=λ hg h=>by
      obtain⟨l,as,ms,kk,r,p1,q1,_,hf,_,_,hK⟩:=h;obtain⟨_,o0⟩:=hf hg;refine hk _ _ _ _ hK ⟨W,μ,?_⟩;refine{(Z.step (m':=s.mem) (d:=p.dst) (v:=undef) (av:=oL p.g g (renR _ _)) Z.refl hp.lt ?_)with mem:=λ x=>?_}
      case refine_2=>
        rcases Ru x s.mem o0 with e|e
        · show qU w W μ x (setM s.mem _ x)
          rw[e];exact Z.mem x
        .exact(Z.mem x).like e
      cases hpg:p.g with
      |none=>rw[hpg]at L;simp[oV]at L;rw[hg]at L;cases L
      |some q=>exact⟨λ h=>(by rw[hg]at h;cases h),λ _=>rfl⟩
    split at h
    · rename_i h0
      split at h
      · rename_i c x y c0
        split at h
        · rename_i b u v hc hx hy
          obtain⟨B,hK⟩:=h;cases g with
          |false=>exact skip _ rfl hK
          |true=>
            obtain⟨g1,g2,g3⟩:=B rfl;have O:=hp.op;rw[h0,c0]at O;simp only[uK]at O;split at O
            · rename_i c' x' y' ho
              simp only[nH,bY,fG]at O;obtain⟨k1,k2,k3⟩:=O;have r1:=GK Z k1;have r2:=GK Z k2;have r3:=GK Z k3;rw[hG]at r1 r2 r3;simp only[cH];refine go _ [] rfl (YG Z ho (b:=b) (p:=u) (q:=v) ?_ ?_ ?_) (.inr rfl) hK
              .rw[<-hc];exact Jy r1 g1
              .intro hb;rw[<-hx];exact Jy r2 (g2 hb)
              .intro hb;rw[<-hy];exact Jy r3 (g3 hb)
            .cases O
        .exact h.elim
      .exact h.elim
    · rename_i f h0
      obtain⟨r,h1,h2,hK⟩:=h;cases g with
      |false=>exact sk _ _ rfl h2 hK
      |true=>
        obtain⟨B,u0,p0⟩:=h1 rfl;have O:=hp.op;rw[h0]at O;simp only[uK]at O;split at O
        · rename_i f' args Y ho
          simp only[bY,dL]at O;obtain⟨⟨rfl,c0⟩,x0⟩:=O;have M:=yD Z hG p.xs args.toList c0 B;simp only[cH];exact l0 _ args Y f (args.toList.map a.eval) [] (nW C s.fr p.xs) r ho rfl x0 (by simp) (by simpa using M.1) (λ i v x V hx=>by
            simp only[cV,cN]at V;obtain⟨q,hq,rfl⟩:=V;exact M.2 i q x hq hx) u0 p0 rfl h2 hK
        .cases O
    · rename_i h0
      split at h
      · rename_i f U H y0
        obtain⟨r,h1,h2,hK⟩:=h;cases g with
        |false=>exact sk _ _ rfl h2 hK
        |true=>
          obtain⟨B,x0,u0,p0⟩:=h1 rfl;have O:=hp.op;rw[h0]at O;simp only[uK]at O;split at O
          · rename_i t args Y ho
            have M:=yD Z hG p.xs (.tmp t::args.toList) O B;rw[y0]at M;obtain⟨vs,d0,hv2,hv3⟩:=cloK (show RepK w W μ (a.eval (.tmp t)) (.clo f U)from M.2 0 (.tmp t) _ rfl rfl) (RM x0);simp only[cH];have g0:args.toList.length=H.length:=by simpa using M.1
            exact l0 _ args Y f (args.toList.map a.eval++vs) vs (H++U) r ho d0 x0 rfl (by simp only[cC,dK];omega) (λ i v x V hx=>by
              rw[fZ]at V hx;simp only[dK]at V;split at V
              · rename_i hi
                rw[cA om]at hx;simp only[cV,cN]at V;obtain⟨q,hq,rfl⟩:=V;exact M.2 (i+1) q x (by simpa using hq) (by simpa using hx)
              · rename_i hi
                rw[bX om,<-g0]at hx;exact nN (nT (hv3 _ v x V hx).toK)) u0 p0 rfl h2 hK
          .cases O
      .exact h.elim
    · rename_i h0
      split at h
      · rename_i f cs H y0
        obtain⟨r,h1,h2,hK⟩:=h;cases g with
        |false=>exact sk _ _ rfl h2 hK
        |true=>
          obtain⟨B,x0,u0,p0⟩:=h1 rfl;have O:=hp.op;rw[h0]at O;simp only[uK]at O;split at O
          · rename_i t args Y ho
            have M:=yD Z hG p.xs (.tmp t::args.toList) O B;rw[y0]at M;obtain⟨us,d0,hv2,hv3⟩:=RepC.bnd_val (show RepC w W (a.eval (.tmp t)) (.bnd f cs)from M.2 0 (.tmp t) _ rfl rfl);simp only[cH];have g0:args.toList.length=H.length:=by simpa using M.1
            refine j0 _ args Y f _ (.agg us.toArray::args.toList.map a.eval) (.agg cs::H) r ho d0 x0 rfl (by simp only[ym,dK];omega) (λ i v x V hx=>?_) u0 p0 rfl h2 hK;cases i with
            |zero=>simp only[List.getElem?_cons_zero,cY]at V hx;subst V;subst hx;exact show RepV w W μ (.agg us.toArray) (.agg cs)from⟨us,rfl,hv2,λ i u c h1 h2=>nV (hv3 i u c h1 h2)⟩
            |succ i=>simp only[List.getElem?_cons_succ,cV,cN]at V hx;obtain⟨q,hq,rfl⟩:=V;exact M.2 (i+1) q x (by simpa using hq) (by simpa using hx)
          .cases O
      .exact h.elim
    · rename_i f h0
      cases g with
      |false=>exact t0 rfl h
      |true=>
        have B:gdsF C s.fr p.xs:=by obtain⟨_,_,_,_,_,_,_,s0,_⟩:=h;exact(s0 rfl).1
        have O:=hp.op;rw[h0]at O;simp only[uK]at O;split at O
        · rename_i f' args Y ho
          simp only[bY,dL]at O;obtain⟨⟨rfl,c0⟩,x0⟩:=O;have M:=yD Z hG p.xs args.toList c0 B;simp only[cH];exact r0 _ args Y f (args.toList.map a.eval) [] (nW C s.fr p.xs) _ ho rfl x0 (by simp) (by simpa using M.1) (λ i v x V hx=>by
            simp only[cV,cN]at V;obtain⟨q,hq,rfl⟩:=V;exact M.2 i q x hq hx) rfl h
        .cases O
    · rename_i h0
      split at h
      · rename_i f U H y0
        cases g with
        |false=>exact t0 rfl h
        |true=>
          have B:gdsF C s.fr p.xs/\pM C.P f=true:=by obtain⟨_,_,_,_,_,_,_,s0,_⟩:=h;exact(s0 rfl).1
          obtain⟨B,x0⟩:=B;have O:=hp.op;rw[h0]at O;simp only[uK]at O;split at O
          · rename_i t args Y ho
            have M:=yD Z hG p.xs (.tmp t::args.toList) O B;rw[y0]at M;obtain⟨vs,d0,hv2,hv3⟩:=cloK (show RepK w W μ (a.eval (.tmp t)) (.clo f U)from M.2 0 (.tmp t) _ rfl rfl) (RM x0);simp only[cH];have g0:args.toList.length=H.length:=by simpa using M.1
            exact r0 _ args Y f (args.toList.map a.eval++vs) vs (H++U) _ ho d0 x0 rfl (by simp only[cC,dK];omega) (λ i v x V hx=>by
              rw[fZ]at V hx;simp only[dK]at V;split at V
              · rename_i hi
                rw[cA om]at hx;simp only[cV,cN]at V;obtain⟨q,hq,rfl⟩:=V;exact M.2 (i+1) q x (by simpa using hq) (by simpa using hx)
              · rename_i hi
                rw[bX om,<-g0]at hx;exact nN (nT (hv3 _ v x V hx).toK)) rfl h
          .cases O
      .exact h.elim
    · rename_i e1 m1 i1 o1 b1 l1
      split at h
      · rename_i ef f1
        obtain⟨h1,h2,hK⟩:=h;cases g with
        |false=>exact sk _ _ rfl h2 hK
        |true=>obtain⟨B,x1⟩:=h1 rfl;simp only[cH];refine go ef.v ef.mw rfl (ZL Z z1 p.po p.xs _ (λ e0 y1=>yD Z hG p.xs e0 y1 B) (Rw _ p.xs).symm hp.op f1 x1 e1) (h2.imp (λ h=>h) And.right) hK
      · obtain⟨hg,_,hK⟩:=h
        subst hg;exact skip _ rfl hK
def NE(st:St)(x:Nat)(h:st.nx<=x):st.m x=.fresh:=cA h
def JR{f:FuncId}{H:List A}{U:Option (Nat×Bool)}{g:Bool}{Y:Prop}{F:Nat->Prop}{K:A->List (Nat×MS)->Prop}(h:tT C st.m st.nx f H U g Y F K):
    tT C st.m st.nx f H U g Y (λ n=>∀x,st.nx<=x->x<st.nx+n->st.m x=.fresh) (λ v B=>mwOk st.nx B/\K v B):=by
  obtain⟨l,as,ms,k,r,O,k',M,L,V,Z,h5⟩:=h;refine⟨l,as,ms,k,r,O,k',λ hg=>let⟨a1,a2,a3,_⟩:=M hg;⟨a1,a2,a3,λ x hx _=>NE st x hx⟩,L,V,Z,?_,h5⟩;cases g with
  |true=>exact ZZ (M rfl).2.2.1
  |false=>exact RL (L rfl).2
def Z1{p:POp}{K:St->Prop}(h:aop C p st K):aopS C p st.toS st.nx (λ v B=>mwOk st.nx B/\K (st.app p.dst v B)):=by
  unfold aop at h;unfold aopS;simp only[St.toS];rw[ZP]at h;simp only[JP,GR]at h;cases hg:oV st.slot p.g with
  |none=>simp[hg]at h
  |some g=>
    simp only[hg]at h⊢;cases L:p.po<;>simp only[L]at h|-
    case pick=>
      split at h
      · split at h
        .exact⟨h.1,trivial,h.2⟩
        .exact h.elim
      .exact h.elim
    case call f=>obtain⟨r,H,O,U⟩:=h;exact⟨r,H,O,D1 st _ _,U⟩
    case callv=>
      split at h
      · obtain⟨r,H,O,U⟩:=h
        exact⟨r,H,O,D1 st _ _,U⟩
      .exact h.elim
    case callb=>
      split at h
      · obtain⟨r,H,O,U⟩:=h
        exact⟨r,H,O,D1 st _ _,U⟩
      .exact h.elim
    case callm f=>exact JR h
    case callvm=>
      split at h
      .exact JR h
      .exact h.elim
    all_goals
      split at h
      · rename_i F Y
        obtain⟨H,O,U⟩:=h;exact⟨H,O,Rv Y,U⟩
      .exact⟨h.1,h.2.1,trivial,h.2.2⟩
def RP{H:Array Oper}{p:POp}(U:SatW E st.toS a w W μ)(hG:E.G=C.G)(Y:POk C E.N H o p){K:St->Prop}(h:aop C p st K){Q:Exit->Act->World->Prop}{k:Act->World->Prop}
    (B:∀st' O w',K st'->Sat E st'.toS O w'->k O w'):if Region.wanted o (yielded H a.tmps)then o.wp C.P a w k Q else k (a.put o.dst undef) w:=
  RO U hG st.m_nx Y (Z1 h) λ v F O w' ⟨V,hK⟩ L=>B _ O w' hK (by rw[JO st _ _ _ V];exact L)
def ROk(C:Cx)(N:Nat)(H:Array Oper):Nat->List POp->Prop
  |n,[]=>n=H.size
  |n,p::ps=>(∃o,H[n]? =some o/\POk C N H o p)/\ROk C N H (n+1) ps
def RQ{st:St}:∀(mw:List (Nat×MS)),(∀q∈mw,∃r,q.2=.row r/\∃H,st.m q.1=.row H)->mwOk st.nx mw
  |[],_=>trivial
  |q::mw,h=>by obtain⟨r,O,H,U⟩:=h q (.head _);have K:=St.m_row U;exact⟨jF K,(by rw[O];exact(λ h=>nomatch h)),(by rw[bX om];exact RQ mw λ p Y=>h p (.tail _ Y))⟩
def JT{F:Array Oper}(hG:E.G=C.G){Q:Exit->Act->World->Prop}:∀(ps:List POp) (n:Nat) (st:St) (a:Act) (w:World),ROk C E.N F n ps->Sat E st.toS a w->∀(K:St->Prop),arun C ps st K->
    (∀st' a' w',K st'->Sat E st'.toS a' w'->Q .normal a' w')->wpOps C.P F Q (List.range' n ps.length) a w
  |[],n,st,a,w,_,L,K,h,hk=>hk st a w h L
  |p::ps,n,st,a,w,hr,⟨W,μ,L⟩,K,h,hk=>by
    obtain⟨⟨o,ho,V⟩,q0⟩:=hr;unfold arun at h;split at h
    · rename_i hq
      have Y:p.po=.eqNil:=by cases Y:p.po<;>rw[Y]at hq<;>first|rfl|cases hq
      obtain⟨hg,M,h⟩:=h;have H:=V.op;rw[Y]at H;simp only[uK]at H;split at H
      · rename_i b T x y T2 x0
        simp only[bY,dL]at H;obtain⟨⟨⟨rfl,hT⟩,Z⟩,hx⟩:=H;obtain⟨d,hd,e0⟩:=tR hT;obtain⟨e,rfl⟩:∃e,d=.slice e:=by cases d<;>simp[DY]at e0;exact⟨_,rfl⟩
        have Z:=Rn Z;subst Z;rw[JP]at M;rw[GR]at h;have hV:=yD L hG p.xs [x] hx M;obtain⟨av,y0,O⟩:=hV.one;have U:nW C st.slot p.xs=[av]:=y0;rw[U]at h;have go:∀(b:Bool),(binOp .eql T (a.eval x) (.slice none 0 0)).run C.P w=.ok (.bool b) w->arun C ps (st.app p.dst (.bool b) []) K->wpOps C.P F Q (List.range' n (p::ps).length) a w:=λ b d0 hK=>by
          have r0:o.guard=none:=by
            have:=V.g;rw[hg]at this;cases hog:o.guard with
            |none=>rfl
            |some r=>simp[hog]at this
          simp only[ym,hZ,wpOps,ho];rw[cA (by simp[Region.wanted,r0])];refine .inl ?_;have s0:(binOp .eql T (a.eval x) (a.eval (.const (.slice none 0 0)))).run C.P w=.ok (.bool b) w:=d0;have p0:∀i j,eqGuard .eql T i j (a.eval x) (a.eval (.const (.slice none 0 0)))=pure ():=by intro i j;show eqGuard .eql T i j (a.eval x) (Value.slice none 0 0)=_;cases a.eval x<;>rfl
          have f0:mT C.P o a w W μ st.m (.bool b) st.m:=⟨.value (.bool b),.bool b,w,W,μ,by simp[execOp,x0,p0,s0],.inl rfl,nN (nT (nV (.bool b))),L.refl⟩;refine Oper.wp_of_yields L f0 λ v w' W' μ' hrv hst=>?_;rw[V.dst];refine JT hG ps (n+1) (st.app p.dst (.bool b) []) (a.put p.dst v) w' q0 ⟨W',μ',?_⟩ K hK hk;rw[JO st _ _ _ (by trivial)];exact L.step hst V.lt hrv
        have z0:∀es,RepC w W (a.eval x) (.sl es)->(∀b:Bool,(b=true->es=[])->arun C ps (st.app p.dst (.bool b) []) K)->wpOps C.P F Q (List.range' n (p::ps).length) a w:=λ es g0 hK=>by
          rcases g0.open_sl with⟨h0,ad,t0,hv⟩|⟨bb,l0,t0,sz,us,hv,_⟩
          .refine go ad.isNone (by rw[hv];exact Lib.run_eql_slice_nil w T e ad 0 t0 0 0 hd) (hK _ λ _=>h0)
          .refine go false (by rw[hv];exact Lib.run_eql_slice_nil w T e _ _ t0 0 0 hd) (hK _ λ h=>nomatch h)
        unfold nilQ at h;split at h
        .rename_i es c0;cases c0;exact z0 es O h
        .rename_i es c0;cases c0;exact z0 es (RepC.of_full O).1 h
        .exact h.elim
      .cases H
    split at h
    · rename_i hq
      obtain⟨hg,M,h⟩:=h;have H:=V.op;have r0:o.guard=none:=by
        have:=V.g;rw[hg]at this;cases hog:o.guard with
        |none=>rfl
        |some r=>simp[hog]at this
      rw[JP]at M;rw[GR]at h;have z0:∀(v:A) (B:List (Nat×MS)),arun C ps (st.app p.dst v B) K->(∀q∈B,∃r,q.2=.row r/\∃r',st.m q.1=.row r')->mT C.P o a w W μ st.m v (setM st.m B)->wpOps C.P F Q (List.range' n (p::ps).length) a w:=λ v B hK u0 Z=>by simp only[ym,hZ,wpOps,ho];rw[cA (by simp[Region.wanted,r0])];refine .inl ?_;refine Oper.wp_of_yields L Z λ u w' W' μ' hrv hst=>?_;rw[V.dst];refine JT hG ps (n+1) (st.app p.dst v B) (a.put p.dst u) w' q0 ⟨W',μ',?_⟩ K hK hk;rw[JO st _ _ _ (RQ B u0)];exact L.step hst V.lt hrv
      cases Y:p.po<;>rw[Y]at hq<;>first|(cases hq;done)|skip
      · rw[Y]at H h
        simp only[uK]at H;split at H
        · rename_i x x0
          have hV:=yD L hG p.xs [x] H M;obtain⟨av,y0,O⟩:=hV.one;have U:nW C st.slot p.xs=[av]:=y0;rw[U]at h;obtain⟨v,B,hK,u0,Z⟩:=ZF L x0 O (show nxtQ _ st.toS.mem (λ v B=>arun C ps (st.app p.dst v B) K) [av]from h);exact z0 v B hK u0 Z
        .cases H
      · rw[Y]at H h
        simp only[uK]at H;split at H
        · rename_i x x0
          have hV:=yD L hG p.xs [x] H M;obtain⟨av,y0,O⟩:=hV.one;have U:nW C st.slot p.xs=[av]:=y0;rw[U]at h;obtain⟨v,B,hK,u0,Z⟩:=ZG L x0 O (show entQ _ st.toS.mem (λ v B=>arun C ps (st.app p.dst v B) K) [av]from h);exact z0 v B hK u0 Z
        .cases H
    have:=RP L hG V h (Q:=Q) (k:=wpOps C.P F Q (List.range' (n+1) ps.length)) (λ st' a' w' hK hs'=>JT hG ps (n+1) st' a' w' q0 hs' K hK hk);simp only[ym,hZ,wpOps,ho];split at this
    .rename_i hw;rw[cA hw];exact .inl this
    .rename_i hw;rw[bX hw];exact this
def ROk.size{H:Array Oper}:∀{ps:List POp} {n N:Nat},ROk C N H n ps->n+ps.length=H.size
  |[],n,_,h=>h
  |_::ps,n,_,h=>by have:=h.2.size;simp;omega
def Z2{H:Array Oper}{id:Nat}(hG:E.G=C.G){ps:List POp}(O:ROk C E.N H 0 ps){st:St}{a:Act}{w:World}(Y:Sat E st.toS a w){K:St->Prop}(h:arun C ps st K){Q:Exit->Act->World->Prop}
    (B:∀st' U w',K st'->Sat E st'.toS U w'->Q .normal U w'):(Code.region id H false).wp C.P Q a w:=by
  refine wp_region ?_;have:=JT hG ps 0 st a w O Y K h (Q:=Q) B;rw[eX];have e:=O.size;rw[eC]at e;rw[<-e];exact this
end
inductive PC where
  |skip
  |reg (dr:List Nat) (ops:List POp)
  |regd (dr:List Nat) (ops:List POp)
  |regm (dr:List Nat) (an:List (List Nat)) (ops:List POp)
  |seq (a b:PC)
  |cond (x:PX) (a b:PC)
  |block (id:Nat) (c:PC)
  |loop (c:PC)
  |exit (id:Nat)
  |ret
  |scope (c:PC)
  |label
  |dead
def chkG(H:Array Oper)(p:POp)(o:Oper):Bool:=
  match p.g,o.guard with
  |none,none=>true
  |some q,some r=>r.2==q.2&&(H[r.1]?).bind (·.dst)==some q.1
  |_,_=>false
def chkD(N:Nat):Option Nat->Bool
  |none=>true
  |some d=>Nat.blt d N
def chkR(P:Program)(N:Nat)(H:Array Oper):List Oper->List POp->Bool
  |[],[]=>true
  |o::os,p::ps=>o.dst==p.dst&&chkD N p.dst&&chkG H p o&&uK P o.op p.po p.xs&&chkR P N H os ps
  |_,_=>false
def POp.sortOk:List Oper->Nat->Bool
  |[],_=>true
  |o::os,i=>o.after.all (λ e=>!Region.binds .any e||Nat.blt e.on i)&&POp.sortOk os (i+1)
def rdsX:List PX->List Nat
  |[]=>[]
  | .t n::ps=>n::rdsX ps
  |_::ps=>rdsX ps
def POp.rds(p:POp):List Nat:=(match p.g with|none=>[]|some q=>[q.1])++rdsX p.xs
def conf(p q:POp):Bool:=
  (match p.dst with|none=>false|some d=>q.dst==some d||q.rds.contains d)||(match q.dst with|none=>false|some d=>p.rds.contains d)
def pV(o:Oper):List Nat:=(o.after.toList.filter λ e=>Region.binds .any e).map (·.on)
def ancs:List (List Nat)->List (List Nat)->List (List Nat)
  |acc,[]=>acc
  |acc,e::es=>ancs (acc++[e++e.flatMap λ i=>acc.getD i []]) es
def D5(ps:List POp)(H:List (List Nat)):Bool:=
  (List.range ps.length).all λ j=>(List.range j).all λ i=>match ps[i]?,ps[j]? with
    |some p,some q=>!conf p q||(H.getD j []).contains i
    |_,_=>true
def RR(H:Array Oper)(ps:List POp):Bool:=POp.sortOk H.toList 0&&D5 ps (ancs [] (H.toList.map pV))
def chkC(P:Program)(N:Nat):Code->PC->Bool
  | .skip,.skip=>true
  | .region _ ops false,.reg _ ps=>chkR P N ops ops.toList ps
  | .region _ ops true,.regd _ ps=>chkR P N ops ops.toList ps&&RR ops ps
  | .region _ ops true,.regm _ an ps=>chkR P N ops ops.toList ps&&(POp.sortOk ops.toList 0&&(D5 ps an&&an==ancs [] (ops.toList.map pV)))
  | .seq a b,.seq c d=>chkC P N a c&&chkC P N b d
  | .cond x a b,.cond p c d=>chkX x p&&chkC P N a c&&chkC P N b d
  | .block i a,.block j c=>i==j&&chkC P N a c
  | .loop a,.loop c=>chkC P N a c
  | .exit i,.exit j=>i==j
  | .ret,.ret=>true
  | .scope a,.scope c=>chkC P N a c
  | .label _,.label=>true
  |_,.dead=>true
  |_,_=>false
def St.drop(st:St)(H:List Nat):St:=⟨DZ H st.fr,st.mem,st.nx⟩
def AW(C:Cx)(E:Env)(c:PC)(Q:Exit->St->Prop)(st:St):Prop:=
  ∀H,chkC C.P E.N H c=true->∀a w,Sat E st.toS a w->H.wp C.P (λ e O w'=>∃st',Q e st'/\Sat E st'.toS O w') a w
def St.le(E:Env)(st st':St):Prop:=∀a w,Sat E st.toS a w->Sat E st'.toS a w
def fixL(l:List (Nat×Nat)):Nat->Bool
  |0=>true
  |n+1=>Nat.beq (rho l n) n&&fixL l n
def rT(k:Nat)(l:List (Nat×Nat))(nx:Nat):Bool:=fixL l k&&Nat.ble k nx
def RS{l:List (Nat×Nat)}:∀{k:Nat},fixL l k=true->∀x,x<k->rho l x=x
  |k+1,h,x,K=>by
    simp only[fixL,bY]at h
    by_cases H:x=k
    .subst H;exact fQ h.1
    .exact RS h.2 x om
section
variable {C:Cx} {E:Env} {Q:Exit→St→Prop} {st:St}
def AW.mono{c:PC}{O:Exit->St->Prop}(h:AW C E c Q st)(U:∀e s,Q e s->O e s):AW C E c O st:=
  λ H Y a w B=>wp_mono (h H Y a w B) λ e _ _ ⟨st',K,L⟩=>⟨st',U e st' K,L⟩
def AW.weak{c:PC}{st':St}(O:St.le E st st')(h:AW C E c Q st'):AW C E c Q st:=
  λ H U a w Y=>h H U a w (O a w Y)
def Z3(h:Q .normal st):AW C E .skip Q st:=λ H O a w U=>by cases H<;>simp[chkC]at O;exact wp_skip ⟨st,h,U⟩
def Z4(h:Q .normal st):AW C E .label Q st:=λ H O a w U=>by cases H<;>simp[chkC]at O;exact wp_label ⟨st,h,U⟩
def Z5{c:PC}(h:AW C E c (λ e s=>match e with|.goto _=>False|e=>Q e s) st):AW C E (.scope c) Q st:=λ H O a w U=>by
  cases H<;>simp[chkC]at O;rename_i Y;refine wp_scope_straight (wp_mono (h Y O a w U) λ e B w' ⟨st',K,L⟩=>?_);cases e with
  |goto l=>exact K
  |_=>exact⟨st',K,L⟩
def Z6{x y:PC}(h:AW C E x (λ e s=>match e with|.normal=>AW C E y Q s|e=>Q e s) st):AW C E (.seq x y) Q st:=λ H O a w U=>by
  cases H<;>simp[chkC]at O;rename_i Y V;refine wp_seq (wp_mono (h Y O.1 a w U) λ e B w' ⟨st',K,L⟩=>?_);cases e with
  |normal=>exact K V O.2 B w' L
  |_=>exact⟨st',K,L⟩
def JU{x:PX}{p q:PC}{b:Bool}(L:xv C.G st.slot x=.bool b)(hG:E.G=C.G)(V:b=true->AW C E p Q st)(Y:b=false->AW C E q Q st):AW C E (.cond x p q) Q st:=λ H O a w B=>by
  cases H<;>simp[chkC]at O;rename_i o F Z;obtain⟨W,μ,K⟩:=B;have U:=GK K O.1.1;rw[hG]at U;have hv:Rep w W μ (a.eval o) (.bool b):=by rw[<-L];exact U
  exact wp_cond_split hv.bool (λ hb=>V hb F O.1.2 a w ⟨W,μ,K⟩) (λ hb=>Y hb Z O.2 a w ⟨W,μ,K⟩)
def NF{id:Nat}{c:PC}(h:AW C E c (λ e s=>match e with|.exit i=>(if i=id then Q .normal s else Q (.exit i) s)|e=>Q e s) st):AW C E (.block id c) Q st:=λ H O a w Y=>by
  cases H<;>simp[chkC]at O;rename_i i B;obtain⟨rfl,O⟩:=O;refine wp_block (wp_mono (h B O a w Y) λ e F w' ⟨st',K,L⟩=>?_);cases e with
  |exit j=>
    simp only[Exit.inBlock]at K⊢;split at K
    .rename_i U;rw[cA U];exact⟨st',K,L⟩
    .rename_i U;rw[bX U];exact⟨st',K,L⟩
  |_=>exact⟨st',K,L⟩
def Z7{id:Nat}(h:Q (.exit id) st):AW C E (.exit id) Q st:=λ H O a w U=>by cases H<;>simp[chkC]at O;subst O;exact wp_exit ⟨st,h,U⟩
def Z8(h:Q .ret st):AW C E .ret Q st:=λ H O a w U=>by cases H<;>simp[chkC]at O;exact wp_ret ⟨st,h,U⟩
def RT{c:PC}{G:Type}(I:G->St)(U:G->Prop)(μ:G->Nat)(L:G)(h0:U L)(u0:St.le E st (I L))
    (h:∀g,U g->AW C E c (λ e s=>match e with|.normal=>∃g',U g'/\St.le E s (I g')/\μ g'<μ g|e=>Q e s) (I g)):AW C E (.loop c) Q st:=λ y0 hc a w V=>by
  cases y0<;>simp[chkC]at hc;rename_i O;refine wp_mono (c:=.loop O) (Q:=λ e a' w'=>∃st',Q e st'/\Sat E st'.toS a' w') ?_ (λ _ _ _ h=>h);have p0:∀n g,μ g=n->U g->∀a w,Sat E (I g).toS a w->∀(b:Frame) (k:List Item) (B:List Frame),
      ∃e a' w',(∃st',Q e st'/\Sat E st'.toS a' w')/\Arrives C.P (lone (b.at a (.code O:: .inLoop O::k)) B w) b k B e a' w':=by
    intro n;induction n using Nat.strongRecOn with
    |_ n ih=>
      intro g hn hg a w V b k B;obtain⟨e,F,M,⟨st',Y,K⟩,H⟩:=h g hg O hc a w V b (.inLoop O::k) B;cases e with
      |normal=>obtain⟨g',q0,z0,Z⟩:=Y;obtain⟨e₂,a₂,w₂,r0,x0⟩:=ih (μ g') (hn▸Z) g' rfl q0 F M (z0 F M K) b k B;exact⟨e₂,a₂,w₂,r0,.of_steps (Steps.trans H (.one step_inLoop)) x0⟩
      |exit id=>exact⟨_,F,M,⟨st',Y,K⟩,.pass (x:=.inLoop O) rfl (λ _ _=>.inl (by simp)) H⟩
      |goto l=>exact⟨_,F,M,⟨st',Y,K⟩,.pass (x:=.inLoop O) rfl (λ _ _=>.inl (by simp)) H⟩
      |ret=>exact⟨_,F,M,⟨st',Y,K⟩,.pass (x:=.inLoop O) rfl (λ _ _=>.inl (by simp)) H⟩
      |panic ch=>exact⟨_,F,M,⟨st',Y,K⟩,.pass (x:=.inLoop O) rfl (λ _ _=>.inl (by simp)) H⟩
      |outgrown=>exact⟨_,F,M,⟨st',Y,K⟩,.pass (x:=.inLoop O) rfl (λ _ _=>.inl (by simp)) H⟩
  intro b k B;obtain⟨e,a',w',Y,H⟩:=p0 _ L rfl h0 a w (u0 a w V) b k B;exact⟨e,a',w',Y,.of_steps (.one step_loop) H⟩
def Z9{c:PC}{G:Type}(I:G->St)(L:G->Prop)(μ:G->Nat)
    (h:∀g,L g->AW C E c (λ e s=>match e with|.normal=>∃M,L M/\St.le E s (I M)/\μ M<μ g|e=>Q e s) (I g))
    (h1:AW C E c (λ e s=>match e with|.normal=>∃M,L M/\St.le E s (I M)|e=>Q e s) st):AW C E (.loop c) Q st:=λ u0 V a w Z=>by
  have q0:=V;cases u0<;>simp[chkC]at V;rename_i O;refine wp_mono (c:=.loop O) (Q:=λ e a' w'=>∃st',Q e st'/\Sat E st'.toS a' w') ?_ (λ _ _ _ h=>h);have p0:∀n g,μ g=n->L g->∀a w,Sat E (I g).toS a w->∀(b:Frame) (k:List Item) (cs:List Frame),
      ∃e a' w',(∃st',Q e st'/\Sat E st'.toS a' w')/\Arrives C.P (lone (b.at a (.code O:: .inLoop O::k)) cs w) b k cs e a' w':=by
    intro n;induction n using Nat.strongRecOn with
    |_ n ih=>
      intro g hn hg a w Z b k cs;obtain⟨e,U,Y,⟨st',F,K⟩,H⟩:=h g hg O V a w Z b (.inLoop O::k) cs;cases e with
      |normal=>obtain⟨M,y0,h0,hlt⟩:=F;obtain⟨e₂,a₂,w₂,z0,B⟩:=ih (μ M) (hn▸hlt) M rfl y0 U Y (h0 U Y K) b k cs;exact⟨e₂,a₂,w₂,z0,.of_steps (Steps.trans H (.one step_inLoop)) B⟩
      |exit id=>exact⟨_,U,Y,⟨st',F,K⟩,.pass (x:=.inLoop O) rfl (λ _ _=>.inl (by simp)) H⟩
      |goto l=>exact⟨_,U,Y,⟨st',F,K⟩,.pass (x:=.inLoop O) rfl (λ _ _=>.inl (by simp)) H⟩
      |ret=>exact⟨_,U,Y,⟨st',F,K⟩,.pass (x:=.inLoop O) rfl (λ _ _=>.inl (by simp)) H⟩
      |panic ch=>exact⟨_,U,Y,⟨st',F,K⟩,.pass (x:=.inLoop O) rfl (λ _ _=>.inl (by simp)) H⟩
      |outgrown=>exact⟨_,U,Y,⟨st',F,K⟩,.pass (x:=.inLoop O) rfl (λ _ _=>.inl (by simp)) H⟩
  intro b k cs;obtain⟨e,U,Y,⟨st',F,K⟩,H⟩:=h1 O V a w Z b (.inLoop O::k) cs;cases e with
  |normal=>obtain⟨M,y0,h0⟩:=F;obtain⟨e₂,a₂,w₂,z0,B⟩:=p0 _ M rfl y0 U Y (h0 U Y K) b k cs;exact⟨e₂,a₂,w₂,z0,.of_steps (Steps.trans (.one step_loop) (Steps.trans H (.one step_inLoop))) B⟩
  |exit id=>exact⟨_,U,Y,⟨st',F,K⟩,.of_steps (.one step_loop) (.pass (x:=.inLoop O) rfl (λ _ _=>.inl (by simp)) H)⟩
  |goto l=>exact⟨_,U,Y,⟨st',F,K⟩,.of_steps (.one step_loop) (.pass (x:=.inLoop O) rfl (λ _ _=>.inl (by simp)) H)⟩
  |ret=>exact⟨_,U,Y,⟨st',F,K⟩,.of_steps (.one step_loop) (.pass (x:=.inLoop O) rfl (λ _ _=>.inl (by simp)) H)⟩
  |panic ch=>exact⟨_,U,Y,⟨st',F,K⟩,.of_steps (.one step_loop) (.pass (x:=.inLoop O) rfl (λ _ _=>.inl (by simp)) H)⟩
  |outgrown=>exact⟨_,U,Y,⟨st',F,K⟩,.of_steps (.one step_loop) (.pass (x:=.inLoop O) rfl (λ _ _=>.inl (by simp)) H)⟩
def aI4{H:Array Oper}{p:POp}{o:Oper}(h:chkG H p o=true):match p.g,o.guard with|none,none=>True|some q,some r=>r.2=q.2/\(H[r.1]?).bind (·.dst)=some q.1|_,_=>False:=by unfold chkG at h;cases K:p.g<;>cases L:o.guard<;>simp only[K,L]at h⊢<;>first|trivial|(cases h;done)|(simp only[bY,dL]at h;exact h)
def JV{P:Program}{N:Nat}{H:Array Oper}{G:Ag}:∀(O:List Oper) (ps:List POp) (n:Nat),chkR P N H O ps=true->(∀i,O[i]? =H[n+i]?)->n+O.length=H.size->ROk ⟨P,G⟩ N H n ps
  |[],[],n,_,_,L=>by
    show n=H.size
    simpa using L
  |o::O,p::ps,n,K,h,L=>by
    simp only[chkR,bY,dL]at K;obtain⟨⟨⟨⟨Y,U⟩,B⟩,F⟩,M⟩:=K;refine⟨⟨o,by have:=h 0;simpa using this.symm,Y,λ d V=>?_,aI4 B,F⟩,JV O ps (n+1) M (λ i=>?_) (by simp at L;omega)⟩
    .rw[V]at U;simpa [chkD]using U
    · have:=h (i+1)
      simp only[List.getElem?_cons_succ]at this;rw[this];congr 1;omega
  |[],_::_,_,K,_,_=>by simp[chkR]at K
  |_::_,[],_,K,_,_=>by simp[chkR]at K
def RU{α:Type}:∀(H:List Nat) (l:List (Nat×α)) (t:Nat),look (DZ H l) t=if t∈H then none else look l t
  |[],l,t=>by simp[DZ]
  |n::H,l,t=>by
    simp only[DZ];rw[RU H,yC]
    by_cases O:t∈H
    .simp[O]
    · by_cases U:t=n
      .simp[U]
      .simp[O,U]
def Sat.drop{a:Act}{w:World}{H:List Nat}(h:Sat E st.toS a w):Sat E (st.drop H).toS a w:=by
  obtain⟨W,μ,O⟩:=h;refine⟨W,μ,{O with fr:=λ t=>?_}⟩;show Rep w W μ _ ((st.drop H).slot t);simp only[St.slot,St.drop,RU];split
  .trivial
  .exact O.fr t
def aI7{Y:List Nat}{H:List POp}(hG:E.G=C.G)(h:arun C H st λ s=>Q .normal (s.drop Y)):AW C E (.reg Y H) Q st:=λ O U a w B=>by
  cases O with
  |region id F d=>
   cases d with
   |true=>simp[chkC]at U
   |false=>simp only[chkC]at U;refine Z2 hG (ps:=H) ?_ B h (λ st' M w' hK K=>⟨_,hK,K.drop⟩);obtain⟨P,G⟩:=C;exact JV F.toList H 0 U (by simp) (by simp)
  |_=>simp[chkC]at U
def idOk(nx:Nat):A->Prop
  | .agg H=>if mQ H then True else∀c∈H,yB nx c
  | .tup _=>False
  | .cnd _ _=>False
  |a=>yB nx a
def leF(l:List (Nat×Nat))(st:St)(nx:Nat):List (Nat×A)->Prop
  |[]=>True
  |q::r=>st.slot q.1=ren l q.2/\idOk nx q.2/\leF l st nx r
def leM(l:List (Nat×Nat))(st:St)(nx:Nat):List (Nat×Row)->Prop
  |[]=>True
  |q::r=>(match look st.mem (rho l q.1)with
      |some H=>(q.2.ro=true\/H.ro=false)/\H.sz=q.2.sz/\H.es=qF l q.2.es/\(q.2.sz=0->H.z=q.2.z)
      |none=>False)/\rho l q.1<st.nx/\q.1<nx/\idEs nx q.2.es/\leM l st nx r
def Le(l:List (Nat×Nat))(st st':St):Prop:=leF l st st'.nx st'.fr/\leM l st st'.nx st'.mem/\BU (st'.mem.map λ q=>rho l q.1)=true
def RV{l:List (Nat×Nat)}{nx:Nat}:∀{fr:List (Nat×A)},leF l st nx fr->∀t v,look fr t=some v->st.slot t=ren l v/\idOk nx v
  |q::r,h,t,v,K=>by
    simp only[look]at K;split at K
    .rename_i H;cases K;subst H;exact⟨h.1,h.2.1⟩
    .exact RV h.2.2 t v K
def RW{l:List (Nat×Nat)}{nx:Nat}:∀{m:List (Nat×Row)},leM l st nx m->∀x r,look m x=some r->(∃H,look st.mem (rho l x)=some H/\(r.ro=true\/H.ro=false)/\H.sz=r.sz/\H.es=qF l r.es/\(r.sz=0->H.z=r.z))/\rho l x<st.nx/\x<nx/\idEs nx r.es
  |q::r,h,t,v,K=>by
    simp only[look]at K;split at K
    · rename_i Y;cases K;subst Y
      obtain⟨O,B,F,M,_⟩:=h;refine⟨?_,B,F,M⟩;split at O
      .rename_i H U;exact⟨H,U,O⟩
      .exact O.elim
    .exact RW h.2.2.2.2 t v K
def aIa(l:List (Nat×Nat))(a:A):(ren1 l a).pure1=a.pure1:=by
  cases a with
  |clo f H=>cases H<;>rfl
  |_=>rfl
def RY(l:List (Nat×Nat)):∀H:List A,mQ (H.map (ren1 l))=mQ H
  |[]=>rfl
  |a::H=>by simp only[dN,mQ,aIa,RY l H]
def RZ(l:List (Nat×Nat)):∀es:List (List A),pureEs (es.map (·.map (ren1 l)))=pureEs es
  |[]=>rfl
  |a::cs=>by simp only[dN,pureEs,RY,RZ l cs]
def aId{l:List (Nat×Nat)}{es:List (List A)}(h:pureEs (qF l es)=true):qF l es=es:=by
  unfold qF at*;split at h
  .rename_i H;rw[cA H]
  .rename_i H;rw[RZ]at h;exact absurd h H
def R0{l:List (Nat×Nat)}:∀{es:List (List A)} {H:List Nat},es.map (·.map (ren1 l))=H.map iE->es=H.map iE
  |[],[],_=>rfl
  |[],_::_,h=>by simp at h
  |_::_,[],h=>by simp at h
  |c::es,i::H,h=>by
    simp only[dN,gL]at h;obtain⟨O,U⟩:=h;rw[R0 U,dN];congr 1
    match c,O with
    |[a],O=>simp only[iE,dN,iU,gL,jK]at O;cases a<;>simp_all[ren1,ren0,iE]
    |[],O=>simp[iE]at O
    |_::_::_,O=>simp[iE]at O
def aIf{l:List (Nat×Nat)}{es:List (List A)}{y c:Nat}{O:List Nat}(h:qF l es=[.mp y,.int .i64 c]::O.map iE):∃U,es=[.mp U,.int .i64 c]::O.map iE/\rho l U=y:=by
  unfold qF at h;split at h
  .rename_i Y;rw[h]at Y;simp[pureEs,mQ,A.pure1]at Y
  · cases es with
    |nil=>simp at h
    |cons d es=>
      simp only[dN,gL]at h;obtain⟨H,F⟩:=h;rw[R0 F]
      match d,H with
      |[a,b],H=>
        simp only[dN,iU,gL,jK]at H;obtain⟨B,M⟩:=H;have hb:b=.int .i64 c:=by cases b<;>simp_all[ren1,ren0]
        cases a<;>simp[ren1,ren0]at B;exact⟨_,by rw[hb],B⟩
      |[],H=>simp at H
      |[_],H=>simp at H
      |_::_::_::_,H=>simp at H
def D6{l:List (Nat×Nat)}{nx:Nat}{w:World}{W:Nat->Prop}{μ μ':Nat->Loc}(O:∀x,x<nx->(μ' x=μ (rho l x)\/μ' x=.dead)){v:Value}{b:A}(H:GP nx b)(h:RepP w W μ v (ren0 l b)):RepP w W μ' v b:=by
  cases b with
  |own x lo n=>
    refine⟨h.1,?_⟩;rcases O x H with e|e
    .rw[e];exact h.2
    .rw[e];trivial
  |ptr x i j=>
    refine⟨h.1,?_⟩;rcases O x H with e|e
    .rw[e];exact h.2
    .rw[e];trivial
  |mp x=>
    refine⟨h.1,?_⟩;rcases O x H with e|e
    .rw[e];exact h.2
    .rw[e];trivial
  |it x=>
    refine⟨h.1,?_⟩;rcases O x H with e|e
    .rw[e];exact h.2
    .rw[e];trivial
  |_=>exact h
def tU{l:List (Nat×Nat)}{nx:Nat}{w:World}{W:Nat->Prop}{μ μ':Nat->Loc}(O:∀x,x<nx->(μ' x=μ (rho l x)\/μ' x=.dead)){v:Value}{b:A}(H:yB nx b)(h:RepK w W μ v (ren1 l b)):RepK w W μ' v b:=by
  cases b with
  |clo f cs=>refine h.imp (λ⟨vs,K,L,Y⟩=>?_) (λ⟨B,F,M⟩=>⟨B,F,by simpa using M⟩);exact⟨vs,K,by simpa using L,λ i u c V U=>D6 O (H c (cU U)) (Y i u (ren0 l c) V (by simp[U]))⟩
  |own x lo n=>exact(D6 (b:=.own x lo n) O H (h.toP rfl)).toK
  |ptr x i j=>exact(D6 (b:=.ptr x i j) O H (h.toP rfl)).toK
  |mp x=>exact(D6 (b:=.mp x) O H (h.toP rfl)).toK
  |it x=>exact(D6 (b:=.it x) O H (h.toP rfl)).toK
  |_=>exact h
def St.le_of{E:Env}(l:List (Nat×Nat)){st st':St}(h:Le l st st')(hk:rT E.k0 l st'.nx=true):St.le E st st':=by
  intro a w ⟨W,μ,hs⟩;obtain⟨hF,hM,hD⟩:=h;simp only[rT,bY]at hk;obtain⟨t0,p0⟩:=hk;have p0:E.k0<=st'.nx:=fP p0
  let μ':Nat->Loc:=λ x=>if st'.nx<=x then .fresh else match look st'.mem x with|some _=>μ (rho l x)|none=>.dead
  have Y:∀x,x<st'.nx->(μ' x=μ (rho l x)\/μ' x=.dead):=λ x K=>by
    show(if st'.nx<=x then Loc.fresh else _)=_\/(if st'.nx<=x then Loc.fresh else _)=_;rw[bX om];cases look st'.mem x with
    |none=>exact .inr rfl
    |some r=>exact .inl rfl
  have x0:∀x k,μ' x=.at_ k->μ (rho l x)=.at_ k/\∃r,look st'.mem x=some r:=λ x k K=>by
    have B:(if st'.nx<=x then Loc.fresh else match look st'.mem x with|some _=>μ (rho l x)|none=>.dead)=.at_ k:=K;split at B
    .cases B
    · split at B
      .rename_i r H;exact⟨B,r,H⟩
      .cases B
  refine⟨W,μ',{hs with fr:=λ t=>?_,mem:=λ x=>?_,inj:=λ x y k k' K hy he=>?_,live:=λ x k K=>hs.live _ k (x0 x k K).1,fix:=λ x K=>?_}⟩
  · show Rep w W μ' _ (st'.slot t)
    simp only[St.slot];cases hl:look st'.fr t with
    |none=>trivial
    |some v=>
      obtain⟨h1,O⟩:=RV hF t v hl;have H:=hs.fr t;rw[show st.toS.fr t=st.slot t from rfl,h1]at H;simp only[Xm];cases v with
      |agg cs=>
        simp only[ren,idOk]at H O;split at H
        · rename_i hp
          obtain⟨vs,hv,L,hc⟩:=H;exact⟨vs,hv,L,λ i u c hu F=>nV ((hc i u c hu F).toC (g9 hp c (cU F)))⟩
        · rename_i hp
          rw[bX hp]at O;obtain⟨vs,hv,L,hc⟩:=H;exact⟨vs,hv,by simpa using L,λ i u c hu F=>tU Y (O c (cU F)) (hc i u _ hu (by simp[F]))⟩
      |clo f cs=>exact nN (nT (tU (b:=.clo f cs) Y O H))
      |tup cs=>exact O.elim
      |cnd g b=>exact O.elim
      |any=>trivial
      |bool b=>exact nN (nT (tU (b:=.bool b) Y O H))
      |int k n=>exact nN (nT (tU (b:=.int k n) Y O H))
      |str b=>exact nN (nT (tU (b:=.str b) Y O H))
      |sl es=>exact nN (nT (tU (b:=.sl es) Y O H))
      |full es=>exact nN (nT (tU (b:=.full es) Y O H))
      |bnd f cs=>exact nN (nT (tU (b:=.bnd f cs) Y O H))
      |own x lo n=>exact nN (nT (tU (b:=.own x lo n) Y O H))
      |ptr x i j=>exact nN (nT (tU (b:=.ptr x i j) Y O H))
      |mp x=>exact nN (nT (tU (b:=.mp x) Y O H))
      |it x=>exact nN (nT (tU (b:=.it x) Y O H))
      |rd cs c0=>exact nN (nT (tU (b:=.rd cs c0) Y O H))
  · show qU w W μ' x (st'.m x)
    unfold St.m
    by_cases K:st'.nx<=x
    · rw[cA K]
      show(if st'.nx<=x then Loc.fresh else _)=_;rw[cA K]
    · rw[bX K]
      cases hl:look st'.mem x with
      |none=>show(if st'.nx<=x then Loc.fresh else match look st'.mem x with|some _=>μ (rho l x)|none=>.dead)=_;rw[bX K,hl]
      |some r=>
        obtain⟨⟨r',h1,z0,U,M,q0⟩,O,h3,h4⟩:=RW hM x r hl;have hm:=hs.mem (rho l x);rw[show st.toS.mem (rho l x)=MS.row r' by show st.m _=_;unfold St.m;rw[bX om,h1]]at hm;have h0:μ' x=μ (rho l x):=by show(if st'.nx<=x then Loc.fresh else match look st'.mem x with|some _=>μ (rho l x)|none=>.dead)=_;rw[bX K,hl]
        rcases hm with⟨e1,V,e3⟩|⟨k,e1,⟨V,e3,e4,us,r0,e,e5,e6,Z⟩|eM|eI⟩
        · refine .inl ⟨h0.trans e1,?_,by omega⟩
          rw[M]at V;simp only[qF]at V;split at V
          .exact V
          .exact kG.1 V
        · refine .inr ⟨k,h0.trans e1,.inl ⟨λ H=>V (z0.elim (λ h=>by rw[H]at h;cases h) (λ h=>h)),e3.trans U,by omega,us,r0,e,e5,e6,?_⟩⟩
          rw[M,U]at Z;exact RK Z h4 (λ u b u0 H=>tU Y u0 H) (λ u b hp H=>nV (H.toC hp))
        · have hp:=eM.pure
          have e9:r'.es=r.es:=by rw[M];exact aId (M▸hp)
          obtain⟨V,e3,e4,es,e5,e6,Z⟩:=eM;rw[e9]at e6 Z;rw[q0 (U▸e4)]at Z;exact .inr ⟨k,h0.trans e1,.inr (.inl ⟨λ H=>V (z0.elim (λ h=>by rw[H]at h;cases h) (λ h=>h)),e3.trans U,U▸e4,es,e5,e6,Z⟩)⟩
        · obtain⟨V,e3,e4,ez,y,b,c,s0,e5,e6,Z⟩:=eI
          obtain⟨y0,g1,g2⟩:=aIf (M.symm.trans e5);subst g2;have u0:y0<st'.nx:=by rw[g1]at h4;unfold idEs at h4;rw[bX (by simp[pureEs,mQ,A.pure1])]at h4;exact h4 _ (.head _) _ (.head _)
          exact .inr ⟨k,h0.trans e1,.inr (.inr ⟨λ H=>V (z0.elim (λ h=>by rw[H]at h;cases h) (λ h=>h)),e3.trans U,U▸e4,by rw[<-q0 (U▸e4)];exact ez,y0,b,c,s0,g1,D6 (b:=.mp y0) Y u0 e6,Z⟩)⟩
  · obtain⟨h1,r1,O⟩:=x0 x k K
    obtain⟨h3,r2,h4⟩:=x0 y k' hy;exact NA hD x y r1 r2 O h4 (hs.inj _ _ k k' h1 h3 he)
  · have h1:=RS t0 x K
    rcases Y x (by omega)with e|e
    .rw[e,h1];exact hs.fix x K
    .exact .inr e
end
def pE:Nat->List A->List (Nat×A)
 |_,[]=>[]
 |n,a::as=>(n,a)::pE (n+1) as
inductive RX where
 |t (n:Nat)
 |c (n sz:Nat) (ag:Bool)
def wS(P:Program):List ResultVar->List RX->Bool
 |[],[]=>true
 | .tmp t::rs,.t n::ns=>t==n&&wS P rs ns
 | .cell t T::rs,.c n sz ag::ns=>t==n&&tyOk P T ag sz&&wS P rs ns
 |_,_=>false
def chkF(P:Program)(f:FuncId)(H:PC)(N:Nat)(rs:List RX)(O:Nat):Bool:=
 match P.funcs[f]? with
 |some fn=>(match fn.body with
  |some c=>chkC P N c H
  |none=>false)&&fn.ntmps==N&&wS P fn.results.toList rs&&Nat.ble O N
 |none=>false
def resA(st:St):RX->A
 | .t n=>st.slot n
 | .c n H O=>match ev st.nx st.m (.load H O) [st.slot n]with
  |some U=>U.v
  |none=>.any
def resG(st:St):RX->Prop
 | .t _=>True
 | .c n H O=>match ev st.nx st.m (.load H O) [st.slot n]with
  |some U=>U.obl
  |none=>False
def allG(st:St):List RX->Prop
 |[]=>True
 |x::xs=>(resG st x/\rS st.m (resA st x))/\allG st xs
def vM(st:St):List RX->List A
 |[]=>[]
 |x::xs=>frz st.m (resA st x)::vM st xs
def D7:List A->A
 |[x]=>x
 |xs=>.tup xs
def D8(st:St)(rs:List RX)(r:A):Prop:=allG st rs/\D7 (vM st rs)=r
def resL(st:St):List RX->List A
 |[]=>[]
 |x::xs=>resA st x::resL st xs
def Aq(st:St):List RX->Prop
 |[]=>True
 |x::xs=>resG st x/\Aq st xs
def BX:List A->Bool
 |[]=>true
 |x::xs=>x.isVV&&BX xs
def i5(k:Nat)(st:St)(rs:List RX)(rl:List A)(ms':List (Nat×Row))(k':Nat):Prop:=
 Aq st rs/\BX rl=true/\∃l,Le l ⟨pE 0 (resL st rs),st.mem,st.nx⟩ ⟨pE 0 rl,ms',k'⟩/\rT k l k'=true
def GT(k:Nat)(rs:List RX)(rl:List A)(ms':List (Nat×Row))(k':Nat):Exit->St->Prop
 | .ret,st=>i5 k st rs rl ms' k'
 | .normal,st=>i5 k st rs rl ms' k'
 |_,_=>False
def D9:List (Nat×Row)->Bool
 |[]=>true
 |q::r=>!q.2.ro&&D9 r
def Post(rs:List RX)(r:A):Exit->St->Prop
 | .ret,st=>D8 st rs r
 | .normal,st=>D8 st rs r
 |_,_=>False
section
variable {C:Cx}
def GU:∀(as:List A) (n t:Nat),look (pE n as) t=if n<=t then as[t-n]? else none
 |[],n,t=>by simp[pE,look]
 |a::as,n,t=>by
  simp only[pE,look]
  by_cases h:n=t
  .subst h;simp
  .rw[bX h,GU as (n+1) t]
   by_cases H:n+1<=t
   .rw[cA H,cA om];rw[show t-n=(t-(n+1))+1 by omega];simp
   .rw[bX H]
    by_cases O:n<=t
    .omega
    .rw[bX O]
def Ea:List Value->Value
 |[v]=>v
 |us=>.tuple us.toArray
def NG{E:Env}{st:St}{a:Act}{w:World}{W:Nat->Prop}{μ:Nat->Loc}(Y:SatW E st.toS a w W μ){F:ResultVar->Sem Value}(B:∀t,F (.tmp t)=pure (a.tmps.getD t undef))
  (M:∀t T,F (.cell t T)=do loadVar T (<-asAddr (a.tmps.getD t undef))):∀(l:List ResultVar) (O:List RX),wS C.P l O=true->Aq st O->
  ∃us,(l.mapM F).run C.P w=.ok us w/\us.length=O.length/\∀(i:Nat) (u:Value) (x:RX),us[i]? =some u->O[i]? =some x->Rep w W μ u (resA st x)
 |[],[],_,_=>⟨[],rfl,rfl,λ i u x h=>by simp at h⟩
 |[],_::_,h,_=>by simp[wS]at h
 |x::l,[],h,_=>by cases x<;>simp[wS]at h
 | .cell _ _::_,.t _::_,h,_=>by simp[wS]at h
 | .tmp _::_,.c _ _ _::_,h,_=>by simp[wS]at h
 | .tmp t::l,.t n::O,h,hg=>by
  simp only[wS,bY,dL]at h;obtain⟨rfl,L⟩:=h;obtain⟨us,V,Z,e3⟩:=NG Y B M l O L hg.2;refine⟨a.tmps.getD t undef::us,?_,by simp[Z],λ i u x U K=>?_⟩
  .simp only[lI,qc,B,Qc,Oc,V]
  .cases i with
   |zero=>rw[List.getElem?_cons_zero]at U K;cases U;cases K;exact Y.fr t
   |succ i=>exact e3 i u x (by simpa using U) (by simpa using K)
 | .cell t T::l,.c n sz ag::O,h,hg=>by
  simp only[wS,bY,dL]at h;obtain⟨⟨rfl,hT⟩,L⟩:=h;obtain⟨us,V,Z,e3⟩:=NG Y B M l O L hg.2;have H:=hg.1;have hl:∃u,(F (.cell t T)).run C.P w=.ok u w/\Rep w W μ u (resA st (.c t sz ag)):=by
   simp only[resG]at H;split at H
   .rename_i ef he;obtain⟨b,q,u,h1,h3,h4⟩:=Q2 (P:=C.P) Y hT (Y.fr t) he H;refine⟨u,?_,?_⟩
    .rw[M];simp only[h1,qc];show(((loadVar T ⟨b,q,none⟩).run C.P w))=_;exact h3
    .simp only[resA,he];exact h4
   .exact H.elim
  obtain⟨u0,h5,h6⟩:=hl;refine⟨u0::us,?_,by simp[Z],λ i u x U K=>?_⟩
  .simp only[lI,qc,h5,Qc,Oc,V]
  .cases i with
   |zero=>simp at U K;subst U;subst K;exact h6
   |succ i=>exact e3 i u x (by simpa using U) (by simpa using K)
def R1(fn:Func){E:Env}{st:St}{a:Act}{w:World}{W:Nat->Prop}{μ:Nat->Loc}(H:SatW E st.toS a w W μ){rs:List RX}(h:wS C.P fn.results.toList rs=true)(hg:Aq st rs):
  ∃us,(results fn a.tmps).run C.P w=.ok (Ea us) w/\us.length=rs.length/\∀(i:Nat) (u:Value) (x:RX),us[i]? =some u->rs[i]? =some x->Rep w W μ u (resA st x):=by
 have e:∀F:ResultVar->Sem Value,fn.results.mapM F=List.toArray<$>fn.results.toList.mapM F:=λ F=>by rw[<-List.mapM_toArray,lQ]
 let F:ResultVar->Sem Value:=λ
  | .tmp t=>pure (a.tmps.getD t undef)
  | .cell x t=>do loadVar t (<-asAddr (a.tmps.getD x undef))
 have O:results fn a.tmps=(do
   let vs<-fn.results.mapM F
   pure (if h:vs.size=1 then vs[0]else .tuple vs)):=by
  unfold results;congr 1
 obtain⟨us,U,Y,B⟩:=NG (C:=C) H (F:=F) (λ t=>rfl) (λ t T=>rfl) _ _ h hg;refine⟨us,?_,Y,B⟩;rw[O];simp only[qc];rw[e F,Sem.run_map,U];simp only[Oc,Qc,iM]
 match us with
 |[t]=>simp[Ea]
 |[]=>simp[Ea]
 |_::_::_=>simp[Ea]
def R2{st:St}:∀{rs:List RX},allG st rs->Aq st rs
 |[],_=>trivial
 |_::_,h=>⟨h.1.1,R2 h.2⟩
def R3{st:St}:∀{rs:List RX},allG st rs->∀(i:Nat) (x:RX),rs[i]? =some x->rS st.m (resA st x)
 |y::ys,h,i,x,H=>by
  cases i with
  |zero=>simp at H;subst H;exact h.1.2
  |succ i=>exact R3 h.2 i x (by simpa using H)
 |[],_,i,x,H=>by simp at H
def R4{st:St}:∀(rs:List RX) (i:Nat),(vM st rs)[i]? =(rs[i]?).map λ x=>frz st.m (resA st x)
 |[],i=>by simp[vM]
 |y::ys,i=>by
  cases i with
  |zero=>simp[vM]
  |succ i=>simpa [vM]using R4 ys i
def NH{f:FuncId}{pc:PC}{N np:Nat}{rs:List RX}(H:chkF C.P f pc N rs np=true){as:List A}(u0:as.length=np){r:A}
  (h:∀E:Env,E.G=C.G->E.N=N->E.k0=0->AW C E pc (Post rs r) ⟨pE 0 as,[],0⟩):PFn C f as r:=by
 intro w W vs hgl V hlen hargs;unfold chkF at H;split at H
 .rename_i fn h0;simp only[bY,dL]at H;obtain⟨⟨⟨hc,hN⟩,U⟩,Y⟩:=H;have Y:np<=N:=fP Y;split at hc
  .rename_i c hb
   let E:Env:=⟨w,W,λ _=>False,N,C.G,0,rE⟩
   have hS:SatW E (⟨pE 0 as,[],0⟩:St).toS {tmps:=vs.toArray++Array.replicate (fn.ntmps-vs.toArray.size) undef,defers:=[]} w W rE:={
    defers:=rfl
    size:=by simp;show vs.length+(fn.ntmps-vs.length)=N;omega
    fr:=λ t=>by
     show Rep w W rE _ ((⟨pE 0 as,[],0⟩:St).slot t);simp only[St.slot,GU,fS,cH,Nat.sub_zero];cases ha:as[t]? with
     |none=>trivial
     |some b=>
      have ht:t<vs.length:=by rw[hlen];exact(cJ.1 ha).1
      have hv:vs[t]? =some vs[t]:=by simp[ht]
      have:(vs.toArray++Array.replicate (fn.ntmps-vs.toArray.size) undef).getD t undef=vs[t]:=by rw[gE,iC (by simpa using ht)];simp[ht]
      rw[this];exact nN (hargs t _ b hv ha)
    mem:=λ x=>by show qU w W rE x ((⟨pE 0 as,[],0⟩:St).m x);simp[St.m,qU,rE]
    inj:=λ x y k k' L=>by cases L
    keeps:=Keeps.refl _ w
    winlt:=V
    wsub:=λ b h=>.inl h
    wsup:=λ b h=>.inl h
    wlt:=V
    live:=λ x k L=>by cases L
    glob:=hgl
    fix:=λ x L=>absurd L (lG x)}
   have x0:=h E rfl rfl rfl c hc _ w ⟨W,rE,hS⟩;refine calls_of_wp h0 hb (wp_mono x0 λ e a' w' ⟨st',hq,W',μ',K⟩=>?_);have B:D8 st' rs r->a'.defers=[]/\∃v,(results fn a'.tmps).run C.P w'=.ok v w'/\∃u,Ending.returned v=.returned u/\Keeps (λ _=>False) w w'/\Rep w' W rE u r:=λ y0=>by
    obtain⟨hg,hr⟩:=y0;obtain⟨us,F,Z,hus⟩:=R1 fn K U (R2 hg);refine⟨K.defers,_,F,_,rfl,K.keeps,?_⟩;have z0:∀{v:Value} {b:A},RepV w' (sJ W' μ' (tS b)) rE v (frz st'.m b)->RepV w' W rE v (frz st'.m b):=λ{v b} hv=>
     hv.goes (Keeps.refl (λ _=>False) w') (λ _ _ _ h=>h) (λ q _ h1 h2=>h1 ⟨(K.wsup q h2).elim id (λ h=>h.elim),λ⟨x,k,_,hk,p0⟩=>by
      rcases K.live x k hk with h3|h3
      .exact h3
      .have:=V q h2;have h4:w.heap.size<=k.b:=h3;omega⟩) (Old.refl _)
    have O:∀(i:Nat) (u:Value) (x:RX),us[i]? =some u->rs[i]? =some x->RepV w' W rE u (frz st'.m (resA st' x)):=λ i u x hu L=>z0 (Ny (s:=st'.toS) K (hus i u x hu L) (R3 hg i x L) (λ y hy=>hy));subst hr
    match rs,us,Z,O with
    |[x],[u],_,O=>exact nN (O 0 u x rfl rfl)
    |[],[],_,O=>exact⟨[],by simp[Ea],by simp[vM],by simp⟩
    |x1::x2::xs,u1::u2::us,Z,O=>
     refine⟨u1::u2::us,rfl,?_,λ i u b hu hb=>?_⟩
     .simp only[vM,ym]at Z⊢;have:∀l,(vM st' l).length=l.length:=λ l=>by induction l with
       |nil=>rfl
       |cons a l ih=>simp[vM,ih]
      rw[this];omega
     .have M:(vM st' (x1::x2::xs))[i]? =some b:=hb;rw[R4,cN]at M;obtain⟨x,L,rfl⟩:=M;exact O i u x hu L
   cases e with
   |normal=>exact B hq
   |ret=>exact B hq
   |_=>exact hq.elim
  .cases hc
 .cases H
def R5:∀{ms:List (Nat×Row)},D9 ms=true->∀x r,look ms x=some r->r.ro=false
 |q::ms,h,x,r,H=>by
  simp only[D9,bY,dB]at h;simp only[look]at H;split at H
  .cases H;exact h.1
  .exact R5 h.2 x r H
def R6:∀{l:List A},BX l=true->∀x∈l,x.isVV=true
 |y::ys,h,x,hx=>by
  simp only[BX,bY]at h;rcases cK.1 hx with rfl|hx
  .exact h.1
  .exact R6 h.2 x hx
def R7{st:St}:∀(rs:List RX) (i:Nat),(resL st rs)[i]? =(rs[i]?).map λ x=>resA st x
 |[],i=>by simp[resL]
 |y::ys,i=>by
  cases i with
  |zero=>simp[resL]
  |succ i=>simpa [resL]using R7 ys i
def R8{f:FuncId}{pc:PC}{N np:Nat}{rs:List RX}(O:chkF C.P f pc N rs np=true){as:List A}(f0:as.length=np){ms ms':List (Nat×Row)}{k k':Nat}{rl:List A}(z0:D9 ms=true)(Y:An ms k=true)
  (u0:rl.length=rs.length) (h:∀E:Env,E.G=C.G->E.N=N->E.k0=k->AW C E pc (GT k rs rl ms' k') ⟨pE 0 as,ms,k⟩):MFn C f as ms k (D7 rl) ms' k':=by
 intro w W μ vs hgl hlt hlen hargs V hinj;unfold chkF at O;split at O
 .rename_i fn p0;simp only[bY,dL]at O;obtain⟨⟨⟨hc,hN⟩,B⟩,F⟩:=O;have F:np<=N:=fP F;have M:∀x r,(⟨[],ms,k⟩:St).m x=.row r->r.ro=false:=λ x r K=>by
   simp only[St.m]at K;split at K
   .cases K
   .cases hl:look ms x with
    |none=>rw[hl]at K;cases K
    |some r'=>rw[hl]at K;cases K;exact R5 z0 x r hl
  have q0:∀x,k<=x->μ x=.fresh:=λ x K=>by have:=V x;rw[show(⟨[],ms,k⟩:St).m x=.fresh by simp only[St.m];rw[cA K]]at this;exact this
  have hnf:∀x,x<k->μ x≠.fresh:=λ x K hf=>by
   obtain⟨r,hr⟩:=Nz Y x K;have:=V x;rw[show(⟨[],ms,k⟩:St).m x=.row r by simp only[St.m,hr];rw[bX om]]at this;rcases this with⟨h1,_⟩|⟨kb,h1,_⟩
   .rw[hf]at h1;cases h1
   .rw[hf]at h1;cases h1
  have hown:∀x kb,μ x=.at_ kb->W kb.b:=λ x kb K=>by obtain⟨r,h1,h2⟩:=V.at_ K;exact h2.wr.1 (M x r h1)
  split at hc
  .rename_i c hb
   let E:Env:=⟨w,W,λ b=>W b/\∃y kb,μ y=.at_ kb/\kb.b=b,N,C.G,k,μ⟩
   have hS:SatW E (⟨pE 0 as,ms,k⟩:St).toS {tmps:=vs.toArray++Array.replicate (fn.ntmps-vs.toArray.size) undef,defers:=[]} w W μ:={
    defers:=rfl
    size:=by simp;show vs.length+(fn.ntmps-vs.length)=N;omega
    fr:=λ t=>by
     show Rep w W μ _ ((⟨pE 0 as,ms,k⟩:St).slot t);simp only[St.slot,GU,fS,cH,Nat.sub_zero];cases ha:as[t]? with
     |none=>trivial
     |some b=>
      have ht:t<vs.length:=by rw[hlen];exact(cJ.1 ha).1
      have hv:vs[t]? =some vs[t]:=by simp[ht]
      have:(vs.toArray++Array.replicate (fn.ntmps-vs.toArray.size) undef).getD t undef=vs[t]:=by rw[gE,iC (by simpa using ht)];simp[ht]
      rw[this];exact nN (hargs t _ b hv ha)
    mem:=V
    inj:=hinj
    keeps:=Keeps.refl _ w
    winlt:=hlt
    wsub:=λ b h=>.inl h
    wsup:=λ b h=>.inl h
    wlt:=hlt
    live:=λ x kb K=>.inl ⟨hown x kb K,x,kb,K,rfl⟩
    glob:=hgl
    fix:=λ x K=>.inl ⟨rfl,hnf x K⟩}
   have r0:=h E rfl rfl rfl c hc _ w ⟨W,μ,hS⟩;refine calls_of_wp p0 hb (wp_mono r0 λ e a' w' ⟨st',hq,W1,μ1,L⟩=>?_);have h0:i5 k st' rs rl ms' k'->a'.defers=[]/\∃v,(results fn a'.tmps).run C.P w'=.ok v w'/\∃u W' μ',Ending.returned v=.returned u/\Step (⟨[],ms,k⟩:St).m (⟨[],ms',k'⟩:St).m w w' W W' μ μ'/\Rep w' W' μ' u (D7 rl):=λ⟨hg,s0,l,x0,t0⟩=>by
    obtain⟨us,y0,Z,hus⟩:=R1 fn L B hg
    let E':Env:={E with N:=us.length}
    have c0:SatW E' (⟨pE 0 (resL st' rs),st'.mem,st'.nx⟩:St).toS {tmps:=us.toArray,defers:=[]} w' W1 μ1:={
     defers:=rfl
     size:=by simp;rfl
     fr:=λ t=>by
      show Rep w' W1 μ1 _ ((⟨pE 0 (resL st' rs),st'.mem,st'.nx⟩:St).slot t);simp only[St.slot,GU,fS,cH,Nat.sub_zero,R7];cases K:rs[t]? with
      |none=>trivial
      |some x=>
       have ht:t<us.length:=by rw[Z];exact(cJ.1 K).1
       have:us.toArray.getD t undef=us[t]:=by simp[Array.getD,ht]
       show Rep w' W1 μ1 (us.toArray.getD t undef) (resA st' x);rw[this];exact hus t _ x (by simp[ht]) K
     mem:=L.mem
     inj:=L.inj
     keeps:=L.keeps
     winlt:=L.winlt
     wsub:=L.wsub
     wsup:=L.wsup
     wlt:=L.wlt
     live:=L.live
     glob:=L.glob
     fix:=L.fix}
    obtain⟨W2,μ2,H⟩:=St.le_of (E:=E') l x0 t0 _ w' ⟨W1,μ1,c0⟩;have d0:Step (⟨[],ms,k⟩:St).m (⟨[],ms',k'⟩:St).m w w' W W2 μ μ2:={
     keeps:=H.keeps
     hW:=λ b hb h=>by
      rcases H.wsub b h with h1|h1
      .exact h1
      .have h2:w.heap.size<=b:=h1;omega
     wsup:=λ b hb=>by
      rcases H.wsup b hb with h1|h1
      .exact .inl h1
      .exact .inr h1.2
     wlt0:=hlt
     wlt:=H.wlt
     old:=λ x K=>by
      by_cases e0:x<k
      .rcases H.fix x e0 with h1|h1
       .exact .inl h1.1
       .exact .inr h1
      .exact absurd (q0 x om) K
     mem:=H.mem
     inj:=H.inj
     live:=λ x kb K=>by
      rcases H.live x kb K with h1|h1
      .exact .inl h1.2
      .exact .inr h1}
    have U:∀(i:Nat) (u:Value) (b:A),us[i]? =some u->rl[i]? =some b->RepV w' W2 μ2 u b:=λ i u b hu hb=>by
     have h1:=H.fr i;have hi:i<us.length:=(cJ.1 hu).1;have h2:(⟨pE 0 rl,ms',k'⟩:St).slot i=b:=by simp only[St.slot,GU,fS,cH,Nat.sub_zero,hb,Xm]
     have h3:us.toArray.getD i undef=u:=by rw[cF hi]at hu;cases hu;simp[Array.getD,hi]
     have h4:Rep w' W2 μ2 (us.toArray.getD i undef) ((⟨pE 0 rl,ms',k'⟩:St).slot i):=h1;rw[h2,h3]at h4;have hv:=R6 s0 b (cU hb);exact h4.toVV hv
    refine⟨L.defers,_,y0,_,W2,μ2,rfl,d0,?_⟩
    match rl,us,(Z.trans u0.symm),U with
    |[b],[u],_,U=>exact nN (U 0 u b rfl rfl)
    |[],[],_,_=>exact⟨[],by simp[Ea],by simp,by simp⟩
    |b1::b2::bs,u1::u2::us,Z,U=>exact⟨u1::u2::us,rfl,Z,U⟩
   cases e with
   |normal=>exact h0 hq
   |ret=>exact h0 hq
   |_=>exact hq.elim
  .cases hc
 .cases O
end
def uL(C:Cx):List POp->St->(St->Prop)->Prop
 |[],st,K=>K st
 |p::ps,st,K=>aop C p st λ st'=>(st'.mem=st.mem/\st'.nx=st.nx)/\uL C ps st' K
section
variable {C:Cx} {E:Env}
def aJ4{p:POp}{st:St}{K:St->Prop}(h:aop C p st K):∃v M,K (st.app p.dst v M)/\aop C p st (λ s=>s=st.app p.dst v M):=by
 unfold aop at h⊢;cases hg:qE st p.g with
 |none=>simp[hg]at h
 |some g=>
  simp only[hg]at h⊢;cases L:p.po<;>simp only[L]at h|-
  case pick=>
   split at h
   .split at h
    .exact⟨_,_,h.2,h.1,rfl⟩
    .exact h.elim
   .exact h.elim
  case call f=>obtain⟨r,H,O,U⟩:=h;exact⟨_,_,U,r,H,O,rfl⟩
  case callv=>
   split at h
   .obtain⟨r,H,O,U⟩:=h;exact⟨_,_,U,r,H,O,rfl⟩
   .exact h.elim
  case callb=>
   split at h
   .obtain⟨r,H,O,U⟩:=h;exact⟨_,_,U,r,H,O,rfl⟩
   .exact h.elim
  case callm f=>obtain⟨l,as,ms,k,r,Y,k',H,O,U,B,F⟩:=h;exact⟨_,_,F,l,as,ms,k,r,Y,k',H,O,U,B,rfl⟩
  case callvm=>
   split at h
   .obtain⟨l,as,ms,k,r,Y,k',H,O,U,B,F⟩:=h;exact⟨_,_,F,l,as,ms,k,r,Y,k',H,O,U,B,rfl⟩
   .exact h.elim
  all_goals
   split at h
   .exact⟨_,_,h.2.2,h.1,h.2.1,rfl⟩
   .exact⟨_,_,h.2.2,h.1,h.2.1,rfl⟩
def Ar{x:PX}{f g:Nat->A}(G:Ag)(h:∀t∈rdsX [x],f t=g t):xv G f x=xv G g x:=by cases x<;>first|rfl|exact h _ (by simp[rdsX])
def tV(x:PX)(xs:List PX)(t:Nat):t∈rdsX (x::xs)↔t∈rdsX [x]\/t∈rdsX xs:=by cases x<;>simp[rdsX]
def R9{st H:St}:∀(xs:List PX),(∀t∈rdsX xs,st.slot t=H.slot t)->nC C st xs=nC C H xs/\(pT C st xs↔pT C H xs)
 |[],_=>⟨rfl,lE⟩
 |x::xs,h=>by have O:=Ar (x:=x) C.G (f:=st.slot) (g:=H.slot) λ t K=>h t ((tV x xs t).2 (.inl K));obtain⟨U,Y⟩:=R9 xs λ t K=>h t ((tV x xs t).2 (.inr K));simp only[nC,pT,O,U,Y,cW]
def Sa{st H:St}(hm:H.mem=st.mem)(O:H.nx=st.nx):H.m=st.m:=by funext x;simp only[St.m,hm,O]
def As{st:St}{d:Option Nat}{v u:A}{mw:List (Nat×MS)}{H:St}(h:st.app d u mw=st.app d v [])(hm:H.mem=st.mem)(U:H.nx=st.nx):H.app d u mw=H.app d v []:=by
 simp only[St.app,St.mk.injEq,putM,nxt]at h⊢;obtain⟨O,Y,B⟩:=h;refine⟨?_,by rw[hm];exact Y,by rw[U];exact B⟩;cases d with
 |none=>rfl
 |some d=>simp only[putF,gL,hY,gG,jK]at O⊢;exact O
def aJa{p:POp}{st H:St}{v:A}(hm:H.mem=st.mem)(O:H.nx=st.nx)(hr:∀t∈p.rds,st.slot t=H.slot t)
  (h:aop C p st (λ s=>s=st.app p.dst v [])):aop C p H (λ s=>s=H.app p.dst v []):=by
 have L:∀t∈rdsX p.xs,st.slot t=H.slot t:=λ t K=>hr t (dJ _ K);obtain⟨hv,M⟩:=R9 (C:=C) p.xs L;have h0:qE H p.g=qE st p.g:=by
  cases hg:p.g with
  |none=>rfl
  |some q=>simp only[qE];rw[hr q.1 (dW _ (by simp[hg]))]
 unfold aop at h⊢;rw[h0,<-hv,O,Sa hm O,<-M];cases hg:qE st p.g with
 |none=>simp[hg]at h
 |some g=>
  simp only[hg]at h⊢;cases hp:p.po<;>simp only[hp]at h|-
  case pick=>
   split at h
   .rename_i c x y x0;simp only[x0]at L⊢;have e1:=Ar (x:=c) C.G (f:=st.slot) (g:=H.slot) λ t K=>L t ((tV _ _ _).2 (.inl K));have e2:=Ar (x:=x) C.G (f:=st.slot) (g:=H.slot) λ t K=>L t ((tV _ _ _).2 (.inr ((tV _ _ _).2 (.inl K))));have e3:=Ar (x:=y) C.G (f:=st.slot) (g:=H.slot) λ t K=>L t ((tV _ _ _).2 (.inr ((tV _ _ _).2 (.inr K))));rw[<-e1,<-e2,<-e3];split at h
    .exact⟨h.1,As h.2 hm O⟩
    .exact h.elim
   .exact h.elim
  case call f=>obtain⟨r,U,Y,B⟩:=h;exact⟨r,U,Y,As B hm O⟩
  case callv=>
   split at h
   .obtain⟨r,U,Y,B⟩:=h;exact⟨r,U,Y,As B hm O⟩
   .exact h.elim
  case callb=>
   split at h
   .obtain⟨r,U,Y,B⟩:=h;exact⟨r,U,Y,As B hm O⟩
   .exact h.elim
  case callm f=>obtain⟨l,as,ms,k,r,F,k',U,Y,B,V,Z⟩:=h;exact⟨l,as,ms,k,r,F,k',U,Y,B,V,As Z hm O⟩
  case callvm=>
   split at h
   .obtain⟨l,as,ms,k,r,F,k',U,Y,B,V,Z⟩:=h;exact⟨l,as,ms,k,r,F,k',U,Y,B,V,As Z hm O⟩
   .exact h.elim
  all_goals
   split at h
   .exact⟨h.1,h.2.1,As h.2.2 hm O⟩
   .exact⟨h.1,h.2.1,As h.2.2 hm O⟩
def SL(ps:List POp)(vs:Nat->A)(st:St)(f:Nat->Bool):Nat->St
 |0=>st
 |n+1=>match ps[n]? with
  |some p=>if f n then(SL ps vs st f n).app p.dst (vs n) []else SL ps vs st f n
  |none=>SL ps vs st f n
def JW(ps:List POp)(vs:Nat->A)(st:St)(f:Nat->Bool):∀n,(SL ps vs st f n).mem=st.mem/\(SL ps vs st f n).nx=st.nx
 |0=>⟨rfl,rfl⟩
 |n+1=>by
  have:=JW ps vs st f n;simp only[SL];split
  .split
   .exact this
   .exact this
  .exact this
def At(st:St)(d:Option Nat)(v:A)(t:Nat):(st.app d v []).slot t=if d=some t then v else st.slot t:=by
 rw[Rt];cases d with
 |none=>simp[setF]
 |some d=>
  by_cases h:t=d
  .subst h;simp[setF]
  .simp[setF,h,lD h,show¬d=t fromλ e=>h e.symm]
def Sb{ps:List POp}{vs:Nat->A}{st:St}{f:Nat->Bool}{j:Nat}{p:POp}(M:ps[j]? =some p)(L:f j=false)(f':Nat->Bool)(V:f' j=true)(O:∀i,i≠j->f' i=f i)
  (Z:∀i q,j<i->ps[i]? =some q->f i=true->conf p q=false):∀n t,(SL ps vs st f' n).slot t=if j<n/\p.dst=some t then vs j else(SL ps vs st f n).slot t
 |0,t=>by simp[SL]
 |n+1,t=>by
  have B:=Sb (vs:=vs) (st:=st) M L f' V O Z n
  by_cases hn:n=j
  .subst hn;simp only[SL,M,V,L,cH,bZ,cI,At]
   by_cases H:p.dst=some t
   .simp[H]
   .simp only[H,cI,and_false];have:=B t
    simpa [H]using this
  .have K:j<n+1↔j<n:=om
   simp only[SL,O n hn,K];cases hq:ps[n]? with
   |none=>simpa using B t
   |some q=>
    simp only[];split
    .rename_i F;rw[At,At,B t]
     by_cases H:q.dst=some t
     .simp only[H,cH]
      by_cases U:j<n
      .have:=Z n q U hq F;unfold conf at this
       by_cases Y:p.dst=some t
       .simp[Y,H]at this
       .simp[Y]
      .simp[U]
     .simp[H]
    .exact B t
def Sc{ps:List POp}{vs:Nat->A}{st:St}{f:Nat->Bool}{j t:Nat}(U:∀i q,i<j->ps[i]? =some q->q.dst=some t->f i=true)(Y:∀i q,j<=i->ps[i]? =some q->q.dst=some t->f i=false):
  ∀n,(SL ps vs st f n).slot t=(SL ps vs st (λ _=>true) (min n j)).slot t
 |0=>by simp[SL]
 |n+1=>by
  have H:=Sc (vs:=vs) (st:=st) U Y n
  by_cases B:n<j
  .rw[show min (n+1) j=n+1 by omega];rw[show min n j=n by omega]at H;simp only[SL];cases K:ps[n]? with
   |none=>exact H
   |some q=>
    simp only[cH]
    by_cases O:q.dst=some t
    .rw[U n q B K O];simp[At,O]
    .rw[At,bX O];split
     .rw[At,bX O];exact H
     .exact H
  .rw[show min (n+1) j=j by omega];rw[show min n j=j by omega]at H;simp only[SL];cases K:ps[n]? with
   |none=>exact H
   |some q=>
    simp only[]
    by_cases O:q.dst=some t
    .rw[Y n q om K O];simpa using H
    .split
     .rw[At,bX O];exact H
     .exact H
def Sd{K:St->Prop}:∀(ps:List POp) (st:St),uL C ps st K->∃vs:Nat->A,K (SL ps vs st (λ _=>true) ps.length)/\
  ∀j p,ps[j]? =some p->aop C p (SL ps vs st (λ _=>true) j) (λ s=>s=(SL ps vs st (λ _=>true) j).app p.dst (vs j) [])
 |[],st,h=>⟨λ _=>.any,h,λ j p M=>by simp at M⟩
 |p::ps,st,h=>by
  obtain⟨v,mw,⟨⟨O,U⟩,Y⟩,B⟩:=aJ4 h;have e:st.app p.dst v mw=st.app p.dst v []:=by simp only[St.app,St.mk.injEq]at O U⊢;exact⟨trivial,O,U⟩
  rw[e]at Y B;obtain⟨vs,L,V⟩:=Sd ps _ Y;have F:∀n,SL (p::ps) (λ i=>match i with|0=>v|i+1=>vs i) st (λ _=>true) (n+1)=SL ps vs (st.app p.dst v []) (λ _=>true) n:=by
   intro n;induction n with
   |zero=>simp[SL]
   |succ n ih=>rw[SL,ih];simp only[List.getElem?_cons_succ];rfl
  refine⟨λ i=>match i with|0=>v|i+1=>vs i,?_,λ j q H=>?_⟩
  .rw[lN,F];exact L
  .cases j with
   |zero=>simp at H;subst H;exact B
   |succ j=>rw[F];exact V j q (by simpa using H)
def GV{D:Nat->Prop}:∀(es acc:List (List Nat)),(∀j e,es[j]? =some e->D (acc.length+j)->∀i∈e,D i)->(∀j,D j->∀i∈acc.getD j [],D i)->
  ∀j,D j->∀i∈(ancs acc es).getD j [],D i
 |[],acc,_,h=>h
 |e::es,acc,L,h=>by
  unfold ancs;refine GV es _ (λ j B U H=>L (j+1) B (by simpa using U) (by rw[cC]at H;simp only[ym,Ym]at H;rwa [show acc.length+(j+1)=acc.length+(0+1)+j by omega])) ?_;intro j H i K
  by_cases U:j<acc.length
  .refine h j H i ?_;rw[cD,dX U]at K;rwa [cD]
  .by_cases Y:j=acc.length
   .subst Y;have O:=L 0 e rfl (by simpa using H);rw[cD,fE (dC _)]at K;simp only[hJ,List.getElem?_cons_zero,Xm,cX,fN]at K;rcases K with K|⟨k,F,K⟩
    .exact O i K
    .exact h k (O k F) i K
   .rw[cD,gO (by simp;omega)]at K;simp at K
def JX{ps:List POp}{O:List (List Nat)}(h:D5 ps O=true){i j:Nat}{p q:POp}(H:i<j)(B:ps[i]? =some p)(U:ps[j]? =some q)(F:conf p q=true):i∈O.getD j []:=by
 unfold D5 at h;have M:=dT.1 h j (eH.2 (cJ.1 U).1);have Y:=dT.1 M i (eH.2 H);simp only[B,U,F,cQ,dP]at Y
 simpa using Y
def NI:∀(H:List Oper) (n:Nat),POp.sortOk H n=true->∀j o,H[j]? =some o->∀i∈pV o,i<n+j
 |[],_,_,j,o,h=>by simp at h
 |x::H,n,h,j,o,L=>by
  simp only[POp.sortOk,bY]at h;cases j with
  |zero=>
   simp at L;subst L;intro i K;simp only[pV,cR,gY]at K;obtain⟨e,⟨O,hb⟩,rfl⟩:=K;have:=Array.all_eq_true_iff_forall_mem.1 h.1 e (by simpa using O)
   simpa [hb]using this
  |succ j=>intro i K;have:=NI H (n+1) h.2 j o (by simpa using L) i K;omega
def left(f:Nat->Bool):Nat->Nat
 |0=>0
 |n+1=>left f n+if f n then 0 else 1
def NJ{f f':Nat->Bool}{j:Nat}(O:f j=false)(H:f' j=true)(h:∀i,i≠j->f' i=f i):∀n,left f n=left f' n+if j<n then 1 else 0
 |0=>rfl
 |n+1=>by
  have U:=NJ O H h n;simp only[left]
  by_cases Y:n=j
  .subst Y;simp[O,H];simp at U;omega
  .rw[h n Y,U];have:j<n+1↔j<n:=om
   simp only[this];omega
def NK{f:Nat->Bool}:∀n,left f n=0->∀i,i<n->f i=true
 |n+1,h,i,L=>by
  simp only[left]at h
  by_cases H:i=n
  .subst H;cases K:f i with
   |true=>rfl
   |false=>simp[K]at h
  .exact NK n om i om
def JY{p q:POp}{t:Nat}(h:p.dst=some t)(hq:t∈q.rds\/q.dst=some t):conf p q=true/\(t∈q.rds->conf q p=true):=by
 unfold conf;rw[h];refine⟨?_,λ H=>?_⟩
 .rcases hq with hq|hq<;>simp[hq]
 .simp[H]
end
section
variable {C:Cx} {E:Env}
def Sat.drawn{s:S}{a:Act}{w:World}{n:Nat}(h:Sat E s a w)(O:w.drawn<=n):Sat E s a {w with drawn:=n}:=by obtain⟨W,μ,H⟩:=h;have U:Keeps (λ _=>False) w {w with drawn:=n}:=⟨rfl,rfl,rfl,O,dC _,λ _ _ _=>rfl⟩;exact⟨W,μ,H.step (Step.quiet U H.mem H.inj H.wlt) (d:=none) (v:=undef) (av:=.any) (λ x K=>by cases K) trivial⟩
def ROk.at{H:Array Oper}{N:Nat}:∀{ps:List POp} {n j:Nat} {o:Oper},ROk C N H n ps->H[n+j]? =some o->∃p,ps[j]? =some p/\POk C N H o p
  |[],n,j,o,h,K=>by have h:n=H.size:=h;have:=(cS.1 K).1;omega
  |p::ps,n,0,o,h,K=>by obtain⟨⟨B,O,U⟩,_⟩:=h;rw[lV,O]at K;cases K;exact⟨p,rfl,U⟩
  |p::ps,n,j+1,o,h,K=>by obtain⟨q,Y,U⟩:=ROk.at (j:=j) h.2 (by rw[<-K];congr 1;omega);exact⟨q,by simpa using Y,U⟩
def NL{ps:List POp}{vs:Nat->A}{st:St}{f f':Nat->Bool}:∀n,(∀i,i<n->f i=f' i)->SL ps vs st f n=SL ps vs st f' n
  |0,_=>rfl
  |n+1,h=>by have H:=NL (ps:=ps) (vs:=vs) (st:=st) n λ i K=>h i om;simp only[SL,H,h n om]
def aJn{st H:St}(O:∀t,H.slot t=st.slot t)(hm:H.mem=st.mem)(U:H.nx=st.nx):H.toS=st.toS:=by unfold St.toS;rw[Sa hm U,show H.slot=st.slot from funext O]
def aJo{O:Array Oper}{ps:List POp}{st:St}{vs:Nat->A}{K:St->Prop}{Q:Exit->Act->World->Prop}(hG:E.G=C.G)(hr:ROk C E.N O 0 ps)(a0:POp.sortOk O.toList 0=true)
    (f0:D5 ps (ancs [] (O.toList.map pV))=true) (hK:K (SL ps vs st (λ _=>true) ps.length))
    (hv:∀j p,ps[j]? =some p->aop C p (SL ps vs st (λ _=>true) j) (λ s=>s=(SL ps vs st (λ _=>true) j).app p.dst (vs j) []))
    (hQ:∀st' a' w',K st'->Sat E st'.toS a' w'->Q .normal a' w'):
    ∀(Y:Nat) (H:Array Bool) (a:Act) (w:World),H.size=O.size->Sat E (SL ps vs st (λ i=>H.getD i false) ps.length).toS a w->
      (∀j o,O[j]? =some o->H.getD j false=true->∀i∈pV o,H.getD i false=true)->left (λ i=>H.getD i false) O.size<=Y->
      wpAny C.P .any O Q Y H a w:=by
  have hlen:ps.length=O.size:=by have:=hr.size;omega
  have h0:∀(H:Array Bool) (a:Act) (w:World),Sat E (SL ps vs st (λ i=>H.getD i false) ps.length).toS a w->(∀i,i<O.size->H.getD i false=true)->Q .normal a w:=by intro H a w hs M;refine hQ _ a w hK ?_;rw[NL (f:=λ _=>true) (f':=λ i=>H.getD i false) ps.length λ i hi=>(M i om).symm];exact hs
  have z0:∀(H:Array Bool),H.size=O.size->Region.ready .any O H=[]->∀i,i<O.size->H.getD i false=true:=by
    intro H u0 s0 i;induction i using Nat.strongRecOn with
    |_ i ih=>
      intro hi;cases V:H.getD i false with
      |true=>rfl
      |false=>
        have:i∈Region.ready .any O H:=by
          rw[mem_ready];refine⟨?_,O[i],by simp[hi],λ e Z hb=>?_⟩
          · have h1:i<H.size:=om
            simp only[Array.getD,h1,kR]at V⊢;exact V
          · have h2:e.on∈pV O[i]:=by
              simp only[pV,cR,gY];exact⟨e,⟨by simpa using Z,hb⟩,rfl⟩
            have h3:=NI O.toList 0 a0 i O[i] (by simp[hi]) e.on h2;exact ih e.on om om
        rw[s0]at this;cases this
  intro Y;induction Y with
  |zero=>
    intro H a w u0 hs t0 x1;have M:=NK (f:=λ i=>H.getD i false) O.size om;refine⟨?_,h0 H a w hs M⟩;cases hrd:Region.ready .any O H with
    |nil=>rfl
    |cons i rs=>
      have:i∈Region.ready .any O H:=by rw[hrd];simp
      rw[mem_ready]at this;obtain⟨h1,o,ho,_⟩:=this;have hi:=(cS.1 ho).1;have:=M i hi;have h2:i<H.size:=om
      simp only[Array.getD,h2,kR]at h1 this;rw[this]at h1;cases h1
  |succ Y ih=>
    intro H a w u0 hs t0 x1;refine⟨λ s0=>h0 H a w hs (z0 H u0 s0),λ i hi=>?_⟩;rw[mem_ready]at hi;obtain⟨V,o,ho,y1⟩:=hi;have hlt:=(cS.1 ho).1;have p0:i<H.size:=om
    have V:H.getD i false=false:=by simp only[Array.getD,p0,kR]at V⊢;exact V
    obtain⟨p,hp,z1⟩:=hr.at (j:=i) (by rw[eC];exact ho);have c0:∀k∈pV o,H.getD k false=true:=by intro k B;simp only[pV,cR,gY]at B;obtain⟨e,⟨Z,hb⟩,rfl⟩:=B;exact y1 e (by simpa using Z) hb
    have x0:(H.setIfInBounds i true).getD i false=true:=by simp[Array.getD,p0]
    have U:∀k,k≠i->(H.setIfInBounds i true).getD k false=H.getD k false:=λ k B=>getD_set_ne false (lD B);have q0:∀j o,O[j]? =some o->(H.setIfInBounds i true).getD j false=true->∀k∈pV o,(H.setIfInBounds i true).getD k false=true:=by
      intro j o' F hj k B
      by_cases g0:j=i
      · subst g0
        rw[ho]at F;cases F;exact getD_set_true (c0 k B)
      · rw[U j g0]at hj
        exact getD_set_true (t0 j o' F hj k B)
    have l0:∀j,(H.setIfInBounds i true).getD j false=true->∀k∈(ancs [] (O.toList.map pV)).getD j [],(H.setIfInBounds i true).getD k false=true:=
      GV (D:=λ j=>(H.setIfInBounds i true).getD j false=true) _ [] (λ j e Z hD=>by
        simp only[cV,cN]at Z;obtain⟨o',F,rfl⟩:=Z;exact q0 j o' (by simpa using F) (by simpa using hD)) (λ j _ k B=>by simp at B)
    have d0:∀j,H.getD j false=true->∀k∈(ancs [] (O.toList.map pV)).getD j [],H.getD k false=true:=
      GV (D:=λ j=>H.getD j false=true) _ [] (λ j e Z hD=>by
        simp only[cV,cN]at Z;obtain⟨o',F,rfl⟩:=Z;exact t0 j o' (by simpa using F) (by simpa using hD)) (λ j _ k B=>by simp at B)
    have m0:∀k q,k<i->ps[k]? =some q->conf q p=true->H.getD k false=true:=by intro k q B hq hc;have:=l0 i x0 k (JX f0 B hq hp hc);rwa [U k om]at this
    have r0:∀k q,i<k->ps[k]? =some q->conf p q=true->H.getD k false=false:=by
      intro k q B hq hc;cases hlk:H.getD k false with
      |false=>rfl
      |true=>have:=d0 k hlk i (JX f0 B hp hq hc);rw[V]at this;cases this
    have L:=JW ps vs st (λ k=>H.getD k false) ps.length;have y0:=JW ps vs st (λ _=>true) i;have j0:i<ps.length:=(cJ.1 hp).1;have o0:aop C p (SL ps vs st (λ k=>H.getD k false) ps.length) (λ s=>s=(SL ps vs st (λ k=>H.getD k false) ps.length).app p.dst (vs i) []):=by
      refine aJa (st:=SL ps vs st (λ _=>true) i) (by rw[L.1,y0.1]) (by rw[L.2,y0.2]) (λ t ht=>?_) (hv i p hp);rw[Sc (j:=i) (t:=t) (λ k q B hq hd=>m0 k q B hq (JY hd (.inl ht)).1) (λ k q B hq hd=>?_) ps.length,jW (jF j0)]
      by_cases u1:k=i
      .subst u1;exact V
      .exact r0 k q om hq ((JY hd (.inl ht)).2 ht)
    obtain ⟨W,μ,hs⟩:=hs;have e0:=RP hs hG z1 o0 (Q:=Q) (k:=wpAny C.P .any O Q Y (H.setIfInBounds i true)) (λ st' a' w' p1 hs'=>by
      subst p1;refine ih _ a' w' (by simpa using u0) ?_ q0 ?_
      · have e:(SL ps vs st (λ k=>(H.setIfInBounds i true).getD k false) ps.length).toS=((SL ps vs st (λ k=>H.getD k false) ps.length).app p.dst (vs i) []).toS:=by
          have b0:=JW ps vs st (λ k=>(H.setIfInBounds i true).getD k false) ps.length;refine aJn (λ t=>?_) ?_ ?_
          · rw[Sb (f:=λ k=>H.getD k false) hp V (λ k=>(H.setIfInBounds i true).getD k false) x0 U (λ k q B hq q1=>?_),At]
            .simp only[j0,gG]
            · cases hc:conf p q with
              |false=>rfl
              |true=>have:=r0 k q B hq hc;exact absurd (this.symm.trans q1) (by simp)
          .rw[b0.1];exact L.1.symm
          .rw[b0.2];exact L.2.symm
        rw[e];exact hs'
      · have:=NJ (f:=λ k=>H.getD k false) (f':=λ k=>(H.setIfInBounds i true).getD k false) (j:=i) V x0 U O.size
        rw[cA hlt]at this;omega)
    simp only[wpOp,ho];split at e0
    .rename_i hw;rw[cA hw];exact .inl e0
    .rename_i hw;rw[bX hw];exact e0
def aJp{Q:Exit->St->Prop}{st:St}{dr:List Nat}{H:List POp}(hm:C.P.follows .mixedOrders=true)(hG:E.G=C.G)(h:uL C H st λ s=>Q .normal (s.drop dr)):AW C E (.regd dr H) Q st:=λ O Y a w L=>by
  cases O with
  |region id U d=>
   cases d with
   |false=>simp[chkC]at Y
   |true=>
    simp only[chkC,bY,RR]at Y;obtain⟨B,F,M⟩:=Y;have V:ROk C E.N U 0 H:=by obtain⟨P,G⟩:=C;exact JV U.toList H 0 B (by simp) (by simp)
    obtain⟨vs,hK,Z⟩:=Sd H st h;refine wp_region_any hm ?_;refine aJo (st:=st) (vs:=vs) hG V F M hK Z (λ st' a' w' hQ K=>⟨_,hQ,K.drop⟩) U.size _ a _ (by simp) ?_ (λ j o ho hj=>?_) ?_
    · have e:SL H vs st (λ i=>(Array.replicate U.size false).getD i false) H.length=SL H vs st (λ _=>false) H.length:=NL _ λ i _=>by simp[Array.getD]
      have e2:∀n,SL H vs st (λ _=>false) n=st:=λ n=>by
        induction n with
        |zero=>rfl
        |succ n ih=>simp only[SL,ih,bZ,cI];split<;>rfl
      rw[e,e2];exact L.drawn (kQ _)
    .simp[Array.getD]at hj
    · have:∀n,left (λ i=>(Array.replicate U.size false).getD i false) n<=n:=λ n=>by
        induction n with
        |zero=>exact dC _
        |succ n ih=>simp only[left];split<;>omega
      exact this _
  |_=>simp[chkC]at Y
end
def i6{a b:ByteArray}:a.toList=b.toList↔a=b:=by
 constructor
 .intro h;rw[lM,lM]at h;cases a;cases b;simp only[ByteArray.mk.injEq];exact Array.toList_inj.1 (by simpa using h)
 .intro h;rw[h]
def eI(k:IntKind)(x:Int):List A:=[A.int k x]
def eB(x:Bool):List A:=[A.bool x]
def eS(x:ByteArray):List A:=[A.str x]
def eL{α:Type}(f:α->List A)(l:List α):List A:=[A.sl (l.map f)]
@[go_sem] theorem aJr(a:A):sub [a] 0 1=[a]:=rfl
@[go_sem] theorem aJs(a b:A):upd [a] 0 [b]=[b]:=rfl
@[go_sem] theorem aJt{α β:Type}(f:α->β)(l:List α)(n:Nat):(l.map f).take n=(l.take n).map f:=List.map_take.symm
@[go_sem] theorem aJu{α β:Type}(f:α->β)(l:List α)(n:Nat):(l.map f).drop n=(l.drop n).map f:=List.map_drop.symm
@[go_sem] theorem aJv{α β:Type}(f:α->β)(l m:List α):l.map f++m.map f=(l++m).map f:=fL.symm
attribute [go_sem] eJ
@[go_sem] theorem aJw(c:List A)(H:List (List A)):uJ (c::H)↔mQ c=true/\uJ H:=by
 constructor
 .intro h;refine⟨?_,λ d hd=>h d (.tail _ hd)⟩;have:=h c (.head _)
  clear h
  induction c with
  |nil=>rfl
  |cons a c O=>simp only[mQ,bY];exact⟨this a (.head _),O λ b hb=>this b (.tail _ hb)⟩
 .rintro⟨U,Y⟩ d hd;rcases cK.1 hd with rfl|hd
  .exact g9 U
  .exact Y d hd
@[go_sem] theorem aJx:maxLen=9223372036854775807:=rfl
@[go_sem] theorem eI.getD(k:IntKind)(l:List Int)(i:Nat):(l.map (eI k)).getD i [A.int k 0]=[A.int k (l.getD i 0)]:=by simp only[cD,cV];cases l[i]? <;>rfl
@[go_sem] theorem eI.snoc(k:IntKind)(l:List Int)(x:Int):l.map (eI k)++[[A.int k x]]=(l++[x]).map (eI k):=by simp[eI]
@[go_sem] theorem eI.set(k:IntKind)(l:List Int)(i:Nat)(x:Int):(l.map (eI k)).set i [A.int k x]=(l.set i x).map (eI k):=by simp[kI,eI]
@[go_sem] theorem eI.allLen(k:IntKind)(l:List Int):pL 1 (l.map (eI k)):=by intro c H;obtain⟨x,_,rfl⟩:=cR.1 H;rfl
@[go_sem] theorem eI.pureRows(k:IntKind)(l:List Int):uJ (l.map (eI k)):=by intro c H;obtain⟨x,_,rfl⟩:=cR.1 H;intro a K;simp[eI]at K;subst K;rfl
@[go_sem] theorem eI.pureEs(k:IntKind)(l:List Int):pureEs (l.map (eI k))=true:=by induction l with
 |nil=>rfl
 |cons a l H=>simpa [Ab.pureEs,mQ,A.pure1,eI]using H
@[go_sem] theorem eB.getD(l:List Bool)(i:Nat):(l.map eB).getD i [A.bool false]=[A.bool (l.getD i false)]:=by simp only[cD,cV];cases l[i]? <;>rfl
@[go_sem] theorem eB.set(l:List Bool)(i:Nat)(x:Bool):(l.map eB).set i [A.bool x]=(l.set i x).map eB:=by simp[kI,eB]
@[go_sem] theorem eB.rep(n:Nat)(x:Bool):List.replicate n [A.bool x]=(List.replicate n x).map eB:=by simp[eB]
@[go_sem] theorem eB.pureRows(l:List Bool):uJ (l.map eB):=by intro c H;obtain⟨x,_,rfl⟩:=cR.1 H;intro a K;simp[eB]at K;subst K;rfl
@[go_sem] theorem eB.pureEs(l:List Bool):pureEs (l.map eB)=true:=by induction l with
 |nil=>rfl
 |cons a l H=>simpa [Ab.pureEs,mQ,A.pure1,eB]using H
@[go_sem] theorem eS.getD(l:List ByteArray)(i:Nat):(l.map eS).getD i [A.str ⟨#[]⟩]=[A.str (l.getD i ⟨#[]⟩)]:=by simp only[cD,cV];cases l[i]? <;>rfl
@[go_sem] theorem eS.snoc(l:List ByteArray)(x:ByteArray):l.map eS++[[A.str x]]=(l++[x]).map eS:=by simp[eS]
@[go_sem] theorem eS.set(l:List ByteArray)(i:Nat)(x:ByteArray):(l.map eS).set i [A.str x]=(l.set i x).map eS:=by simp[kI,eS]
@[go_sem] theorem eS.allLen(l:List ByteArray):pL 1 (l.map eS):=by intro c H;obtain⟨x,_,rfl⟩:=cR.1 H;rfl
@[go_sem] theorem eS.pureRows(l:List ByteArray):uJ (l.map eS):=by intro c H;obtain⟨x,_,rfl⟩:=cR.1 H;intro a K;simp[eS]at K;subst K;rfl
@[go_sem] theorem eS.pureEs(l:List ByteArray):pureEs (l.map eS)=true:=by induction l with
 |nil=>rfl
 |cons a l H=>simpa [Ab.pureEs,mQ,A.pure1,eS]using H
@[go_sem] theorem eL.getD{α:Type}(f:α->List A)(l:List (List α))(i:Nat):(l.map (eL f)).getD i [A.sl (([]:List α).map f)]=[A.sl ((l.getD i []).map f)]:=by simp only[cD,cV];cases l[i]? <;>rfl
@[go_sem] theorem eL.getD0{α:Type}(f:α->List A)(l:List (List α))(i:Nat):(l.map (eL f)).getD i [A.sl []]=[A.sl ((l.getD i []).map f)]:=eL.getD f l i
@[ext] structure Arr (α:Type) (n:Nat) where
 l:List α
 h:l.length=n
instance{α:Type}[DecidableEq α]{n:Nat}:DecidableEq (Arr α n):=λ a b=>decidable_of_iff (a.l=b.l) (by rw[Arr.ext_iff])
def Arr.get{α:Type}{n:Nat}(a:Arr α n)(i:Nat)(z:α):α:=a.l.getD (pB i n) z
def Arr.put{α:Type}{n:Nat}(a:Arr α n)(i:Nat)(x:α):Arr α n:=⟨a.l.set (pB i n) x,by simp[a.h]⟩
def Arr.rep{α:Type}(n:Nat)(x:α):Arr α n:=⟨List.replicate n x,by simp⟩
def Arr.enc{α:Type}{n:Nat}(f:α->List A)(a:Arr α n):List A:=(a.l.map f).flatten
def Se{α:Type}(f:α->List A)(sz:Nat)(H:∀x,(f x).length=sz):∀l:List α,(l.map f).flatten.length=l.length*sz
 |[]=>by simp
 |a::l=>by simp only[dN,List.flatten_cons,cC,H,Se f sz H l,ym];rw[eD];omega
def Sf{α:Type}(f:α->List A)(sz:Nat)(H:∀x,(f x).length=sz)(z:α):∀(l:List α) (i:Nat),i<l.length->sub (l.map f).flatten (i*sz) sz=f (l.getD i z)
 |[],i,h=>by simp at h
 |a::l,0,_=>by simp[sub,H a]
 |a::l,i+1,h=>by have:=Sf f sz H z l i (by simpa using h);simp only[sub,dN,List.flatten_cons,hI]at this⊢;rw[<-this,kW,hX (by rw[H,eD];omega),H,lP];congr 2;rw[eD];omega
def Sg{α:Type}(f:α->List A)(sz:Nat)(H:∀x,(f x).length=sz)(x:α):∀(l:List α) (i:Nat),i<l.length->upd (l.map f).flatten (i*sz) (f x)=((l.set i x).map f).flatten
 |[],i,h=>by simp at h
 |a::l,0,_=>by simp[upd,H]
 |a::l,i+1,h=>by
  have:=Sg f sz H x l i (by simpa using h);simp only[upd,dN,List.flatten_cons,List.set_cons_succ]at this⊢;rw[<-this];have e:(i+1)*sz=(f a).length+i*sz:=by rw[H,eD];omega
  rw[e,List.take_length_add_append,fX,List.drop_length_add_append];simp[cE]
@[go_sem] theorem Arr.enc_len{α:Type}{n:Nat}(f:α->List A)(a:Arr α n)(sz:Nat)(H:∀x,(f x).length=sz):(Arr.enc f a).length=n*sz:=by rw[Arr.enc,Se f sz H,a.h]
def Au{α:Type}(l:List α)(i:Nat)(z:α)(h:i<l.length):l.getD i z=l[i]:=by rw[cD,cF h];rfl
def Eb{i n:Nat}(h:0<n):pB i n<n:=by unfold pB;split<;>omega
def Ec{i n:Nat}(h:i<n):pB i n=i:=cA h
def JZ{α:Type}{n sz:Nat}(f:α->List A)(H:∀x,(f x).length=sz)(z:α)(a:Arr α (n+1))(i:Nat):sub (Arr.enc f a) (pB i (n+1)*sz) sz=f (a.get i z):=Sf f sz H z a.l _ (by rw[a.h];exact Eb om)
def Sh{α:Type}{n sz:Nat}(f:α->List A)(H:∀x,(f x).length=sz)(a:Arr α (n+1))(i:Nat)(x:α):upd (Arr.enc f a) (pB i (n+1)*sz) (f x)=Arr.enc f (a.put i x):=Sg f sz H x a.l _ (by rw[a.h];exact Eb om)
attribute [go_sem] Ec
@[go_sem] theorem aK6(i n:Nat):(pB i (n+1)<=n)=True:=by have:=Eb (i:=i) (n:=n+1) om;exact eq_true om
section
variable {n:Nat}
@[go_sem] theorem eI.alen(k:IntKind)(a:Arr Int n):(Arr.enc (eI k) a).length=n:=by rw[Arr.enc_len _ _ 1 (λ _=>rfl),gB]
@[go_sem] theorem eB.alen(a:Arr Bool n):(Arr.enc eB a).length=n:=by rw[Arr.enc_len _ _ 1 (λ _=>rfl),gB]
@[go_sem] theorem eS.alen(a:Arr ByteArray n):(Arr.enc eS a).length=n:=by rw[Arr.enc_len _ _ 1 (λ _=>rfl),gB]
@[go_sem] theorem eI.aat(k:IntKind)(a:Arr Int (n+1))(i:Nat):sub (Arr.enc (eI k) a) (pB i (n+1)) 1=[A.int k (a.get i 0)]:=by have:=JZ (eI k) (sz:=1) (λ _=>rfl) 0 a i;rwa [gB]at this
@[go_sem] theorem eI.aput(k:IntKind)(a:Arr Int (n+1))(i:Nat)(x:Int):upd (Arr.enc (eI k) a) (pB i (n+1)) [A.int k x]=Arr.enc (eI k) (a.put i x):=by have:=Sh (eI k) (sz:=1) (λ _=>rfl) a i x;rwa [gB]at this
@[go_sem] theorem eI.aatc(k:IntKind)(a:Arr Int (n+1))(i:Nat)(h:i<n+1):sub (Arr.enc (eI k) a) i 1=[A.int k (a.get i 0)]:=by have:=eI.aat k a i;rwa [Ec h]at this
@[go_sem] theorem eI.aputc(k:IntKind)(a:Arr Int (n+1))(i:Nat)(x:Int)(h:i<n+1):upd (Arr.enc (eI k) a) i [A.int k x]=Arr.enc (eI k) (a.put i x):=by have:=eI.aput k a i x;rwa [Ec h]at this
@[go_sem] theorem eB.aat(a:Arr Bool (n+1))(i:Nat):sub (Arr.enc eB a) (pB i (n+1)) 1=[A.bool (a.get i false)]:=by have:=JZ eB (sz:=1) (λ _=>rfl) false a i;rwa [gB]at this
@[go_sem] theorem eB.aat2{m:Nat}(a:Arr (Arr Bool (m+1)) (n+1))(i j:Nat):sub (Arr.enc (Arr.enc eB) a) (pB i (n+1)*(m+1)+pB j (m+1)) 1=[A.bool ((a.get i (Arr.rep (m+1) false)).get j false)]:=by have H:=JZ (sz:=m+1) (Arr.enc eB) (λ x=>eB.alen x) (Arr.rep (m+1) false) a i;have O:=eB.aat (a.get i (Arr.rep (m+1) false)) j;have U:=Eb (i:=j) (n:=m+1) om;rw[<-O,<-H];simp only[sub,List.drop_take,lH,eV];congr 1;omega
@[go_sem] theorem aK7(i j n m k:Nat)(h:(n+1)*(m+1)<=k+1):(pB i (n+1)*(m+1)+pB j (m+1)<=k)=True:=by have H:=Eb (i:=i) (n:=n+1) om;have U:=Eb (i:=j) (n:=m+1) om;have O:(pB i (n+1)+1)*(m+1)<=(n+1)*(m+1):=dR _ H;rw[eD]at O;exact eq_true om
@[go_sem] theorem eB.aput(a:Arr Bool (n+1))(i:Nat)(x:Bool):upd (Arr.enc eB a) (pB i (n+1)) [A.bool x]=Arr.enc eB (a.put i x):=by have:=Sh eB (sz:=1) (λ _=>rfl) a i x;rwa [gB]at this
@[go_sem] theorem eB.aputc(a:Arr Bool (n+1))(i:Nat)(x:Bool)(h:i<n+1):upd (Arr.enc eB a) i [A.bool x]=Arr.enc eB (a.put i x):=by have:=eB.aput a i x;rwa [Ec h]at this
@[go_sem] theorem eS.aat(a:Arr ByteArray (n+1))(i:Nat):sub (Arr.enc eS a) (pB i (n+1)) 1=[A.str (a.get i ⟨#[]⟩)]:=by have:=JZ eS (sz:=1) (λ _=>rfl) ⟨#[]⟩ a i;rwa [gB]at this
@[go_sem] theorem eB.aall(a b:Arr Bool n):upd (Arr.enc eB a) 0 (Arr.enc eB b)=Arr.enc eB b:=by simp[upd,eB.alen]
@[go_sem] theorem eI.asub(k:IntKind)(a:Arr Int n):sub (Arr.enc (eI k) a) 0 n=Arr.enc (eI k) a:=by rw[sub,fF,eJ (by rw[eI.alen];exact dC _)]
@[go_sem] theorem eB.asub(a:Arr Bool n):sub (Arr.enc eB a) 0 n=Arr.enc eB a:=by rw[sub,fF,eJ (by rw[eB.alen];exact dC _)]
def NM{α:Type}(f:α->List A)(H:∀x,mQ (f x)=true):∀l:List α,mQ (l.map f).flatten=true
 |[]=>rfl
 |a::l=>by
  have O:=H a;have U:=NM f H l;have:∀x y:List A,mQ x=true->mQ y=true->mQ (x++y)=true:=λ x y K L=>by
   induction x with
   |nil=>exact L
   |cons c x Y=>simp only[mQ,bY,Jm]at K⊢;exact⟨K.1,Y K.2⟩
  simpa using this _ _ O U
@[go_sem] theorem eI.apure(k:IntKind)(a:Arr Int n):mQ (Arr.enc (eI k) a)=true:=NM _ (λ _=>rfl) _
@[go_sem] theorem eB.apure(a:Arr Bool n):mQ (Arr.enc eB a)=true:=NM _ (λ _=>rfl) _
end
class En (T:Type) where
 sz:Nat
 e:T->List A
 z:T
attribute [go_sem] En.sz En.e En.z
@[go_sem] abbrev bx{T:Type}[En T](v:T):Row:=⟨false,En.sz T,En.e (En.z:T),[En.e v]⟩
@[go_sem] abbrev sx{T:Type}[En T](v:List T):Row:=⟨false,En.sz T,En.e (En.z:T),v.map En.e⟩
@[go_sem] abbrev ga{T:Type}[En T](v:T):A:=.agg (En.e v)
@[go_sem] abbrev la{T:Type}[En T](v:List T):A:=.sl (v.map En.e)
section
variable {T:Type} {f:T→List A}
@[go_sem] theorem aK9{n:Nat}(h:∀x,(f x).length=n)(l:List T):pL n (l.map f):=by intro c H;obtain⟨x,_,rfl⟩:=cR.1 H;exact h x
@[go_sem] theorem aKa(h:∀x,mQ (f x)=true)(l:List T):uJ (l.map f):=by intro c H;obtain⟨x,_,rfl⟩:=cR.1 H;exact g9 (h x)
@[go_sem] theorem aKb(h:∀x,mQ (f x)=true)(l:List T):pureEs (l.map f)=true:=by induction l with
 |nil=>rfl
 |cons a l H=>simp[Ab.pureEs,h,H]
@[go_sem] theorem aKc(l:List T)(i:Nat)(z:T):(l.map f).getD i (f z)=f (l.getD i z):=by simp only[cD,cV];cases l[i]? <;>rfl
@[go_sem] theorem aKd(l:List T)(x:T):l.map f++[f x]=(l++[x]).map f:=by simp
@[go_sem] theorem aKe(l:List T)(i:Nat)(x:T):(l.map f).set i (f x)=(l.set i x).map f:=by simp[kI]
end
@[ext] structure aK where
 (site inc num:Int)
 deriving DecidableEq
namespace aK
def zero:aK:=⟨0,0,0⟩
def enc(x:aK):List A:=[A.int .i64 x.site,A.int .i64 x.inc,A.int .i64 x.num]
@[go_sem] theorem len(x:aK):(enc x).length=3:=by simp[enc]
instance:En aK:=⟨3,enc,zero⟩
@[go_sem] theorem laws(x:aK):
 mQ (enc x)=true/\
 nJ (enc x)=true/\
 nB [.i .i64,.i .i64,.i .i64] (enc x)=true/\
 sub (enc x) 0 3=enc x/\
 (∀y,upd (enc x) 0 (enc y)=enc y)/\
 sub (enc x) 0 1=[A.int .i64 x.site]/\
 sub (enc x) 1 1=[A.int .i64 x.inc]/\
 sub (enc x) 2 1=[A.int .i64 x.num]/\
 (∀v,upd (enc x) 0 ([A.int .i64 v])=enc {x with site:=v})/\
 (∀v,upd (enc x) 1 ([A.int .i64 v])=enc {x with inc:=v})/\
 (∀v,upd (enc x) 2 ([A.int .i64 v])=enc {x with num:=v})/\
 (∀(H O K:A) (U:List A),upd (H::O::K::U) 0 (enc x)=A.int .i64 x.site::A.int .i64 x.inc::A.int .i64 x.num::U)/\
 (∀(H O K:A),upd (enc x) 0 [H,O,K]=[H,O,K]):=by simp[sub,upd,mQ,A.pure1,nJ,A.scal1,nB,LK.fits,eN,enc]
@[go_sem] theorem eq(x y:aK):eqA (enc x) (enc y)=decide (x=y):=by rw[dM];simp[eqA,eq1,i6,fU,enc,aK.ext_iff]
@[go_sem] theorem rep(n:Nat)(x:aK):List.replicate n (enc x)=(List.replicate n x).map enc:=by simp
end aK
@[ext] structure aC where
 (mode aU:Int)
 deriving DecidableEq
namespace aC
def zero:aC:=⟨0,0⟩
def enc(x:aC):List A:=[A.int .i64 x.mode,A.int .i64 x.aU]
@[go_sem] theorem len(x:aC):(enc x).length=2:=by simp[enc]
instance:En aC:=⟨2,enc,zero⟩
@[go_sem] theorem laws(x:aC):
 mQ (enc x)=true/\
 nJ (enc x)=true/\
 nB [.i .i64,.i .i64] (enc x)=true/\
 sub (enc x) 0 2=enc x/\
 (∀y,upd (enc x) 0 (enc y)=enc y)/\
 sub (enc x) 0 1=[A.int .i64 x.mode]/\
 sub (enc x) 1 1=[A.int .i64 x.aU]/\
 (∀v,upd (enc x) 0 ([A.int .i64 v])=enc {x with mode:=v})/\
 (∀v,upd (enc x) 1 ([A.int .i64 v])=enc {x with aU:=v})/\
 (∀(H O:A) (U:List A),upd (H::O::U) 0 (enc x)=A.int .i64 x.mode::A.int .i64 x.aU::U)/\
 (∀(H O:A),upd (enc x) 0 [H,O]=[H,O]):=by simp[sub,upd,mQ,A.pure1,nJ,A.scal1,nB,LK.fits,eN,enc]
@[go_sem] theorem eq(x y:aC):eqA (enc x) (enc y)=decide (x=y):=by rw[dM];simp[eqA,eq1,i6,fU,enc,aC.ext_iff]
end aC
@[ext] structure aO where
 name:ByteArray
 aI:aC
 deriving DecidableEq
namespace aO
def zero:aO:=⟨⟨#[]⟩,aC.zero⟩
def enc(x:aO):List A:=[A.str x.name]++aC.enc x.aI
@[go_sem] theorem len(x:aO):(enc x).length=3:=by simp[enc,aC.len]
instance:En aO:=⟨3,enc,zero⟩
@[go_sem] theorem laws(x:aO):
 mQ (enc x)=true/\
 nJ (enc x)=true/\
 nB [.s,.i .i64,.i .i64] (enc x)=true/\
 sub (enc x) 0 3=enc x/\
 (∀y,upd (enc x) 0 (enc y)=enc y)/\
 sub (enc x) 0 1=[A.str x.name]/\
 sub (enc x) 1 2=aC.enc x.aI/\
 sub (enc x) 1 1=[A.int .i64 x.aI.mode]/\
 sub (enc x) 2 1=[A.int .i64 x.aI.aU]/\
 (∀v,upd (enc x) 0 ([A.str v])=enc {x with name:=v})/\
 (∀v,upd (enc x) 1 (aC.enc v)=enc {x with aI:=v})/\
 (∀v,upd (enc x) 1 ([A.int .i64 v])=enc {x with aI:={x.aI with mode:=v}})/\
 (∀v,upd (enc x) 2 ([A.int .i64 v])=enc {x with aI:={x.aI with aU:=v}})/\
 (∀(H O K:A) (U:List A),upd (H::O::K::U) 0 (enc x)=A.str x.name::A.int .i64 x.aI.mode::A.int .i64 x.aI.aU::U)/\
 (∀(H O K:A),upd (enc x) 0 [H,O,K]=[H,O,K]):=by simp[sub,upd,mQ,A.pure1,nJ,A.scal1,nB,LK.fits,eN,enc,aC.enc]
@[go_sem] theorem eq(x y:aO):eqA (enc x) (enc y)=decide (x=y):=by rw[dM];simp[eqA,eq1,i6,fU,enc,aC.enc,aO.ext_iff,aC.ext_iff]
end aO
@[ext] structure aJ where
 name:ByteArray
 (kind aU home:Int)
 deriving DecidableEq
namespace aJ
def zero:aJ:=⟨⟨#[]⟩,0,0,0⟩
def enc(x:aJ):List A:=[A.str x.name,A.int .i64 x.kind,A.int .i64 x.aU,A.int .i64 x.home]
@[go_sem] theorem len(x:aJ):(enc x).length=4:=by simp[enc]
instance:En aJ:=⟨4,enc,zero⟩
@[go_sem] theorem laws(x:aJ):
 mQ (enc x)=true/\
 nJ (enc x)=true/\
 nB [.s,.i .i64,.i .i64,.i .i64] (enc x)=true/\
 sub (enc x) 0 4=enc x/\
 (∀y,upd (enc x) 0 (enc y)=enc y)/\
 sub (enc x) 0 1=[A.str x.name]/\
 sub (enc x) 1 1=[A.int .i64 x.kind]/\
 sub (enc x) 2 1=[A.int .i64 x.aU]/\
 sub (enc x) 3 1=[A.int .i64 x.home]/\
 (∀v,upd (enc x) 0 ([A.str v])=enc {x with name:=v})/\
 (∀v,upd (enc x) 1 ([A.int .i64 v])=enc {x with kind:=v})/\
 (∀v,upd (enc x) 2 ([A.int .i64 v])=enc {x with aU:=v})/\
 (∀v,upd (enc x) 3 ([A.int .i64 v])=enc {x with home:=v})/\
 (∀(H O K U:A) (Y:List A),upd (H::O::K::U::Y) 0 (enc x)=A.str x.name::A.int .i64 x.kind::A.int .i64 x.aU::A.int .i64 x.home::Y)/\
 (∀(H O K U:A),upd (enc x) 0 [H,O,K,U]=[H,O,K,U]):=by simp[sub,upd,mQ,A.pure1,nJ,A.scal1,nB,LK.fits,eN,enc]
@[go_sem] theorem eq(x y:aJ):eqA (enc x) (enc y)=decide (x=y):=by rw[dM];simp[eqA,eq1,i6,fU,enc,aJ.ext_iff]
end aJ
@[ext] structure bA where
 aM:aK
 aI:aC
 deriving DecidableEq
namespace bA
def zero:bA:=⟨aK.zero,aC.zero⟩
def enc(x:bA):List A:=aK.enc x.aM++aC.enc x.aI
@[go_sem] theorem len(x:bA):(enc x).length=5:=by simp[enc,aC.len,aK.len]
instance:En bA:=⟨5,enc,zero⟩
@[go_sem] theorem laws(x:bA):
 mQ (enc x)=true/\
 nJ (enc x)=true/\
 nB [.i .i64,.i .i64,.i .i64,.i .i64,.i .i64] (enc x)=true/\
 sub (enc x) 0 5=enc x/\
 (∀y,upd (enc x) 0 (enc y)=enc y)/\
 sub (enc x) 0 3=aK.enc x.aM/\
 sub (enc x) 3 2=aC.enc x.aI/\
 sub (enc x) 3 1=[A.int .i64 x.aI.mode]/\
 sub (enc x) 4 1=[A.int .i64 x.aI.aU]/\
 (∀v,upd (enc x) 0 (aK.enc v)=enc {x with aM:=v})/\
 (∀v,upd (enc x) 3 (aC.enc v)=enc {x with aI:=v})/\
 (∀(H O K U Y:A) (B:List A),upd (H::O::K::U::Y::B) 0 (enc x)=A.int .i64 x.aM.site::A.int .i64 x.aM.inc::A.int .i64 x.aM.num::A.int .i64 x.aI.mode::A.int .i64 x.aI.aU::B)/\
 (∀(H O K U Y:A),upd (enc x) 0 [H,O,K,U,Y]=[H,O,K,U,Y]):=by simp[sub,upd,mQ,A.pure1,nJ,A.scal1,nB,LK.fits,eN,enc,aC.enc,aK.enc]
@[go_sem] theorem eq(x y:bA):eqA (enc x) (enc y)=decide (x=y):=by rw[dM];simp[eqA,eq1,i6,fU,enc,aC.enc,aK.enc,bA.ext_iff,aC.ext_iff,aK.ext_iff]
@[go_sem] theorem rep(n:Nat)(x:bA):List.replicate n (enc x)=(List.replicate n x).map enc:=by simp
end bA
@[ext] structure aV where
 aM:aK
 aI:aC
 (bE bS:Int)
 deriving DecidableEq
namespace aV
def zero:aV:=⟨aK.zero,aC.zero,0,0⟩
def enc(x:aV):List A:=aK.enc x.aM++aC.enc x.aI++[A.int .i64 x.bE,A.int .i64 x.bS]
@[go_sem] theorem len(x:aV):(enc x).length=7:=by simp[enc,aC.len,aK.len]
instance:En aV:=⟨7,enc,zero⟩
@[go_sem] theorem laws(x:aV):
 mQ (enc x)=true/\
 nJ (enc x)=true/\
 nB [.i .i64,.i .i64,.i .i64,.i .i64,.i .i64,.i .i64,.i .i64] (enc x)=true/\
 sub (enc x) 0 7=enc x/\
 (∀y,upd (enc x) 0 (enc y)=enc y)/\
 sub (enc x) 0 3=aK.enc x.aM/\
 sub (enc x) 3 2=aC.enc x.aI/\
 sub (enc x) 3 1=[A.int .i64 x.aI.mode]/\
 sub (enc x) 4 1=[A.int .i64 x.aI.aU]/\
 sub (enc x) 5 1=[A.int .i64 x.bE]/\
 sub (enc x) 6 1=[A.int .i64 x.bS]/\
 (∀v,upd (enc x) 0 (aK.enc v)=enc {x with aM:=v})/\
 (∀v,upd (enc x) 3 (aC.enc v)=enc {x with aI:=v})/\
 (∀v,upd (enc x) 5 ([A.int .i64 v])=enc {x with bE:=v})/\
 (∀v,upd (enc x) 6 ([A.int .i64 v])=enc {x with bS:=v})/\
 (∀(H O K U Y B F:A) (M:List A),upd (H::O::K::U::Y::B::F::M) 0 (enc x)=A.int .i64 x.aM.site::A.int .i64 x.aM.inc::A.int .i64 x.aM.num::A.int .i64 x.aI.mode::A.int .i64 x.aI.aU::A.int .i64 x.bE::A.int .i64 x.bS::M)/\
 (∀(H O K U Y B F:A),upd (enc x) 0 [H,O,K,U,Y,B,F]=[H,O,K,U,Y,B,F]):=by simp[sub,upd,mQ,A.pure1,nJ,A.scal1,nB,LK.fits,eN,enc,aC.enc,aK.enc]
@[go_sem] theorem eq(x y:aV):eqA (enc x) (enc y)=decide (x=y):=by rw[dM];simp[eqA,eq1,i6,fU,enc,aC.enc,aK.enc,aV.ext_iff,aC.ext_iff,aK.ext_iff]
end aV
@[ext] structure aA where
 aB:aJ
 aS:(List bA)
 (aN aW:(List aV))
 gen:Int
namespace aA
def zero:aA:=⟨aJ.zero,[],[],[],0⟩
def enc(x:aA):List A:=aJ.enc x.aB++[A.sl (x.aS.map bA.enc),A.sl (x.aN.map aV.enc),A.sl (x.aW.map aV.enc),A.int .i64 x.gen]
@[go_sem] theorem len(x:aA):(enc x).length=8:=by simp[enc,aJ.len]
instance:En aA:=⟨8,enc,zero⟩
@[go_sem] theorem laws(x:aA):
 mQ (enc x)=true/\
 nJ (enc x)=false/\
 sub (enc x) 0 8=enc x/\
 (∀y,upd (enc x) 0 (enc y)=enc y)/\
 sub (enc x) 0 4=aJ.enc x.aB/\
 sub (enc x) 0 1=[A.str x.aB.name]/\
 sub (enc x) 1 1=[A.int .i64 x.aB.kind]/\
 sub (enc x) 2 1=[A.int .i64 x.aB.aU]/\
 sub (enc x) 3 1=[A.int .i64 x.aB.home]/\
 sub (enc x) 4 1=[A.sl (x.aS.map bA.enc)]/\
 sub (enc x) 5 1=[A.sl (x.aN.map aV.enc)]/\
 sub (enc x) 6 1=[A.sl (x.aW.map aV.enc)]/\
 sub (enc x) 7 1=[A.int .i64 x.gen]/\
 (∀v,upd (enc x) 0 (aJ.enc v)=enc {x with aB:=v})/\
 (∀v,upd (enc x) 0 ([A.str v])=enc {x with aB:={x.aB with name:=v}})/\
 (∀v,upd (enc x) 1 ([A.int .i64 v])=enc {x with aB:={x.aB with kind:=v}})/\
 (∀v,upd (enc x) 2 ([A.int .i64 v])=enc {x with aB:={x.aB with aU:=v}})/\
 (∀v,upd (enc x) 3 ([A.int .i64 v])=enc {x with aB:={x.aB with home:=v}})/\
 (∀v,upd (enc x) 4 ([A.sl (v.map bA.enc)])=enc {x with aS:=v})/\
 (∀v,upd (enc x) 5 ([A.sl (v.map aV.enc)])=enc {x with aN:=v})/\
 (∀v,upd (enc x) 6 ([A.sl (v.map aV.enc)])=enc {x with aW:=v})/\
 (∀v,upd (enc x) 7 ([A.int .i64 v])=enc {x with gen:=v})/\
 (∀(H O K U Y B F M:A) (cs:List A),upd (H::O::K::U::Y::B::F::M::cs) 0 (enc x)=A.str x.aB.name::A.int .i64 x.aB.kind::A.int .i64 x.aB.aU::A.int .i64 x.aB.home::A.sl (x.aS.map bA.enc)::A.sl (x.aN.map aV.enc)::A.sl (x.aW.map aV.enc)::A.int .i64 x.gen::cs)/\
 (∀(H O K U Y B F M:A),upd (enc x) 0 [H,O,K,U,Y,B,F,M]=[H,O,K,U,Y,B,F,M])/\
 (∀y lo k,upd (enc x) 4 [.own y lo k]=[A.str x.aB.name,A.int .i64 x.aB.kind,A.int .i64 x.aB.aU,A.int .i64 x.aB.home,.own y lo k,A.sl (x.aN.map aV.enc),A.sl (x.aW.map aV.enc),A.int .i64 x.gen])/\
 (∀y lo k,upd (enc x) 5 [.own y lo k]=[A.str x.aB.name,A.int .i64 x.aB.kind,A.int .i64 x.aB.aU,A.int .i64 x.aB.home,A.sl (x.aS.map bA.enc),.own y lo k,A.sl (x.aW.map aV.enc),A.int .i64 x.gen])/\
 (∀y lo k,upd (enc x) 6 [.own y lo k]=[A.str x.aB.name,A.int .i64 x.aB.kind,A.int .i64 x.aB.aU,A.int .i64 x.aB.home,A.sl (x.aS.map bA.enc),A.sl (x.aN.map aV.enc),.own y lo k,A.int .i64 x.gen]):=by simp[sub,upd,mQ,A.pure1,nJ,A.scal1,nB,LK.fits,eN,enc,aJ.enc]
end aA
@[ext] structure aR where
 k:Int
 aZ:aO
 bG:(List aR)
namespace aR
def zero:aR:=⟨0,aO.zero,[]⟩
def enc(x:aR):List A:=[A.int .i64 x.k]++aO.enc x.aZ++[A.sl (x.bG.map aR.enc)]
termination_by _root_.SizeOf.sizeOf x
decreasing_by
 rename_i h;have H:=jU h;cases x;simp at H⊢;omega
@[simp] theorem aKf(k:Int)(aZ:aO)(bG:(List aR)):enc ⟨k,aZ,bG⟩=[A.int .i64 k,A.str aZ.name,A.int .i64 aZ.aI.mode,A.int .i64 aZ.aI.aU,A.sl (bG.map aR.enc)]:=by simp[enc,aC.enc,aO.enc]
@[simp] theorem aKg:zero.k=0/\zero.aZ.name=⟨#[]⟩/\zero.aZ.aI.mode=0/\zero.aZ.aI.aU=0/\zero.bG=[]:=by and_intros<;>rfl
def enc_cells(x:aR):[A.int .i64 x.k,A.str x.aZ.name,A.int .i64 x.aZ.aI.mode,A.int .i64 x.aZ.aI.aU,A.sl (x.bG.map aR.enc)]=enc x:=by simp[enc,aC.enc,aO.enc]
@[go_sem] theorem len(x:aR):(enc x).length=5:=by simp[enc,aO.len]
instance:En aR:=⟨5,enc,zero⟩
@[go_sem] theorem laws(x:aR):
 mQ (enc x)=true/\
 nJ (enc x)=false/\
 sub (enc x) 0 5=enc x/\
 (∀y,upd (enc x) 0 (enc y)=enc y)/\
 sub (enc x) 0 1=[A.int .i64 x.k]/\
 sub (enc x) 1 3=aO.enc x.aZ/\
 sub (enc x) 1 1=[A.str x.aZ.name]/\
 sub (enc x) 2 2=aC.enc x.aZ.aI/\
 sub (enc x) 2 1=[A.int .i64 x.aZ.aI.mode]/\
 sub (enc x) 3 1=[A.int .i64 x.aZ.aI.aU]/\
 sub (enc x) 4 1=[A.sl (x.bG.map aR.enc)]/\
 (∀v,upd (enc x) 0 ([A.int .i64 v])=enc {x with k:=v})/\
 (∀v,upd (enc x) 1 (aO.enc v)=enc {x with aZ:=v})/\
 (∀v,upd (enc x) 1 ([A.str v])=enc {x with aZ:={x.aZ with name:=v}})/\
 (∀v,upd (enc x) 2 (aC.enc v)=enc {x with aZ:={x.aZ with aI:=v}})/\
 (∀v,upd (enc x) 4 ([A.sl (v.map aR.enc)])=enc {x with bG:=v})/\
 (∀(H O K U Y:A) (B:List A),upd (H::O::K::U::Y::B) 0 (enc x)=A.int .i64 x.k::A.str x.aZ.name::A.int .i64 x.aZ.aI.mode::A.int .i64 x.aZ.aI.aU::A.sl (x.bG.map aR.enc)::B)/\
 (∀(H O K U Y:A),upd (enc x) 0 [H,O,K,U,Y]=[H,O,K,U,Y])/\
 (∀y lo k,upd (enc x) 4 [.own y lo k]=[A.int .i64 x.k,A.str x.aZ.name,A.int .i64 x.aZ.aI.mode,A.int .i64 x.aZ.aI.aU,.own y lo k]):=by simp[sub,upd,mQ,A.pure1,nJ,A.scal1,nB,LK.fits,eN,enc,aC.enc,aO.enc]
end aR
@[ext] structure bR where
 aM:aK
 bU:aR
 gen:Int
namespace bR
def zero:bR:=⟨aK.zero,aR.zero,0⟩
def enc(x:bR):List A:=aK.enc x.aM++aR.enc x.bU++[A.int .i64 x.gen]
@[go_sem] theorem len(x:bR):(enc x).length=9:=by simp[enc,aR.len,aK.len]
instance:En bR:=⟨9,enc,zero⟩
@[go_sem] theorem laws(x:bR):
 mQ (enc x)=true/\
 nJ (enc x)=false/\
 sub (enc x) 0 9=enc x/\
 (∀y,upd (enc x) 0 (enc y)=enc y)/\
 sub (enc x) 0 3=aK.enc x.aM/\
 sub (enc x) 3 5=aR.enc x.bU/\
 sub (enc x) 8 1=[A.int .i64 x.gen]/\
 (∀v,upd (enc x) 0 (aK.enc v)=enc {x with aM:=v})/\
 (∀v,upd (enc x) 3 (aR.enc v)=enc {x with bU:=v})/\
 (∀v,upd (enc x) 8 ([A.int .i64 v])=enc {x with gen:=v})/\
 (∀(H O K U Y B F M L:A),upd (enc x) 0 [H,O,K,U,Y,B,F,M,L]=[H,O,K,U,Y,B,F,M,L]):=by simp[sub,upd,mQ,A.pure1,nJ,A.scal1,nB,LK.fits,eN,enc,aC.enc,aO.enc,aR.enc,aK.enc]
end bR
@[ext] structure aH where
 aF:(List aA)
 aY:(List bR)
namespace aH
def zero:aH:=⟨[],[]⟩
def enc(x:aH):List A:=[A.sl (x.aF.map aA.enc),A.sl (x.aY.map bR.enc)]
@[go_sem] theorem len(x:aH):(enc x).length=2:=by simp[enc]
instance:En aH:=⟨2,enc,zero⟩
@[go_sem] theorem laws(x:aH):
 mQ (enc x)=true/\
 nJ (enc x)=false/\
 sub (enc x) 0 2=enc x/\
 (∀y,upd (enc x) 0 (enc y)=enc y)/\
 sub (enc x) 0 1=[A.sl (x.aF.map aA.enc)]/\
 sub (enc x) 1 1=[A.sl (x.aY.map bR.enc)]/\
 (∀v,upd (enc x) 0 ([A.sl (v.map aA.enc)])=enc {x with aF:=v})/\
 (∀v,upd (enc x) 1 ([A.sl (v.map bR.enc)])=enc {x with aY:=v})/\
 (∀(H O:A) (U:List A),upd (H::O::U) 0 (enc x)=A.sl (x.aF.map aA.enc)::A.sl (x.aY.map bR.enc)::U)/\
 (∀(H O:A),upd (enc x) 0 [H,O]=[H,O])/\
 (∀y lo k,upd (enc x) 0 [.own y lo k]=[.own y lo k,A.sl (x.aY.map bR.enc)])/\
 (∀y lo k,upd (enc x) 1 [.own y lo k]=[A.sl (x.aF.map aA.enc),.own y lo k]):=by simp[sub,upd,mQ,A.pure1,nJ,A.scal1,nB,LK.fits,eN,enc]
end aH
@[ext] structure aP where
 aM:aK
 (label cost:Int)
 lower:(List aO)
namespace aP
def zero:aP:=⟨aK.zero,0,0,[]⟩
def enc(x:aP):List A:=aK.enc x.aM++[A.int .i64 x.label,A.int .i64 x.cost,A.sl (x.lower.map aO.enc)]
@[go_sem] theorem len(x:aP):(enc x).length=6:=by simp[enc,aK.len]
instance:En aP:=⟨6,enc,zero⟩
@[go_sem] theorem laws(x:aP):
 mQ (enc x)=true/\
 nJ (enc x)=false/\
 sub (enc x) 0 6=enc x/\
 (∀y,upd (enc x) 0 (enc y)=enc y)/\
 sub (enc x) 0 3=aK.enc x.aM/\
 sub (enc x) 3 1=[A.int .i64 x.label]/\
 sub (enc x) 4 1=[A.int .i64 x.cost]/\
 sub (enc x) 5 1=[A.sl (x.lower.map aO.enc)]/\
 (∀v,upd (enc x) 0 (aK.enc v)=enc {x with aM:=v})/\
 (∀v,upd (enc x) 3 ([A.int .i64 v])=enc {x with label:=v})/\
 (∀v,upd (enc x) 4 ([A.int .i64 v])=enc {x with cost:=v})/\
 (∀v,upd (enc x) 5 ([A.sl (v.map aO.enc)])=enc {x with lower:=v})/\
 (∀(H O K U Y B:A) (F:List A),upd (H::O::K::U::Y::B::F) 0 (enc x)=A.int .i64 x.aM.site::A.int .i64 x.aM.inc::A.int .i64 x.aM.num::A.int .i64 x.label::A.int .i64 x.cost::A.sl (x.lower.map aO.enc)::F)/\
 (∀(H O K U Y B:A),upd (enc x) 0 [H,O,K,U,Y,B]=[H,O,K,U,Y,B])/\
 (∀y lo k,upd (enc x) 5 [.own y lo k]=[A.int .i64 x.aM.site,A.int .i64 x.aM.inc,A.int .i64 x.aM.num,A.int .i64 x.label,A.int .i64 x.cost,.own y lo k]):=by simp[sub,upd,mQ,A.pure1,nJ,A.scal1,nB,LK.fits,eN,enc,aK.enc]
end aP
@[ext] structure aL where
 kind:Int
 aM:aK
 gen:Int
 aZ:aO
 (bE inc round epoch site label:Int)
 done:Bool
 state:aH
 options:(List aP)
namespace aL
def zero:aL:=⟨0,aK.zero,0,aO.zero,0,0,0,0,0,0,false,aH.zero,[]⟩
def enc(x:aL):List A:=[A.int .i64 x.kind]++aK.enc x.aM++[A.int .i64 x.gen]++aO.enc x.aZ++[A.int .i64 x.bE,A.int .i64 x.inc,A.int .i64 x.round,A.int .i64 x.epoch,A.int .i64 x.site,A.int .i64 x.label,A.bool x.done]++aH.enc x.state++[A.sl (x.options.map aP.enc)]
@[go_sem] theorem len(x:aL):(enc x).length=18:=by simp[enc,aO.len,aK.len,aH.len]
instance:En aL:=⟨18,enc,zero⟩
@[go_sem] theorem laws(x:aL):
 mQ (enc x)=true/\
 nJ (enc x)=false/\
 sub (enc x) 0 18=enc x/\
 (∀y,upd (enc x) 0 (enc y)=enc y)/\
 sub (enc x) 0 1=[A.int .i64 x.kind]/\
 sub (enc x) 1 3=aK.enc x.aM/\
 sub (enc x) 4 1=[A.int .i64 x.gen]/\
 sub (enc x) 5 3=aO.enc x.aZ/\
 sub (enc x) 5 1=[A.str x.aZ.name]/\
 sub (enc x) 6 2=aC.enc x.aZ.aI/\
 sub (enc x) 6 1=[A.int .i64 x.aZ.aI.mode]/\
 sub (enc x) 7 1=[A.int .i64 x.aZ.aI.aU]/\
 sub (enc x) 8 1=[A.int .i64 x.bE]/\
 sub (enc x) 9 1=[A.int .i64 x.inc]/\
 sub (enc x) 10 1=[A.int .i64 x.round]/\
 sub (enc x) 11 1=[A.int .i64 x.epoch]/\
 sub (enc x) 12 1=[A.int .i64 x.site]/\
 sub (enc x) 13 1=[A.int .i64 x.label]/\
 sub (enc x) 14 1=[A.bool x.done]/\
 sub (enc x) 15 2=aH.enc x.state/\
 sub (enc x) 15 1=[A.sl (x.state.aF.map aA.enc)]/\
 sub (enc x) 16 1=[A.sl (x.state.aY.map bR.enc)]/\
 sub (enc x) 17 1=[A.sl (x.options.map aP.enc)]/\
 (∀v,upd (enc x) 0 ([A.int .i64 v])=enc {x with kind:=v})/\
 (∀v,upd (enc x) 1 (aK.enc v)=enc {x with aM:=v})/\
 (∀v,upd (enc x) 4 ([A.int .i64 v])=enc {x with gen:=v})/\
 (∀v,upd (enc x) 5 (aO.enc v)=enc {x with aZ:=v})/\
 (∀v,upd (enc x) 6 (aC.enc v)=enc {x with aZ:={x.aZ with aI:=v}})/\
 (∀v,upd (enc x) 8 ([A.int .i64 v])=enc {x with bE:=v})/\
 (∀v,upd (enc x) 9 ([A.int .i64 v])=enc {x with inc:=v})/\
 (∀v,upd (enc x) 10 ([A.int .i64 v])=enc {x with round:=v})/\
 (∀v,upd (enc x) 11 ([A.int .i64 v])=enc {x with epoch:=v})/\
 (∀v,upd (enc x) 12 ([A.int .i64 v])=enc {x with site:=v})/\
 (∀v,upd (enc x) 13 ([A.int .i64 v])=enc {x with label:=v})/\
 (∀v,upd (enc x) 14 ([A.bool v])=enc {x with done:=v})/\
 (∀v,upd (enc x) 15 (aH.enc v)=enc {x with state:=v})/\
 (∀v,upd (enc x) 17 ([A.sl (v.map aP.enc)])=enc {x with options:=v})/\
 (∀(K L V Z c4 c5 c6 c7 c8 c9 H O U Y B F M h0:A),upd (enc x) 0 [K,L,V,Z,c4,c5,c6,c7,c8,c9,H,O,U,Y,B,F,M,h0]=[K,L,V,Z,c4,c5,c6,c7,c8,c9,H,O,U,Y,B,F,M,h0])/\
 (∀y lo k,upd (enc x) 17 [.own y lo k]=[A.int .i64 x.kind,A.int .i64 x.aM.site,A.int .i64 x.aM.inc,A.int .i64 x.aM.num,A.int .i64 x.gen,A.str x.aZ.name,A.int .i64 x.aZ.aI.mode,A.int .i64 x.aZ.aI.aU,A.int .i64 x.bE,A.int .i64 x.inc,A.int .i64 x.round,A.int .i64 x.epoch,A.int .i64 x.site,A.int .i64 x.label,A.bool x.done,A.sl (x.state.aF.map aA.enc),A.sl (x.state.aY.map bR.enc),.own y lo k]):=by simp[sub,upd,mQ,A.pure1,nJ,A.scal1,nB,LK.fits,eN,enc,aC.enc,aO.enc,aK.enc,aH.enc]
end aL
@[ext] structure bM where
 l:(List Int)
 at_:Int
namespace bM
def zero:bM:=⟨[],0⟩
def enc(x:bM):List A:=[A.sl (x.l.map (eI .i64)),A.int .i64 x.at_]
@[go_sem] theorem len(x:bM):(enc x).length=2:=by simp[enc]
instance:En bM:=⟨2,enc,zero⟩
@[go_sem] theorem laws(x:bM):
 mQ (enc x)=true/\
 nJ (enc x)=false/\
 sub (enc x) 0 2=enc x/\
 (∀y,upd (enc x) 0 (enc y)=enc y)/\
 sub (enc x) 0 1=[A.sl (x.l.map (eI .i64))]/\
 sub (enc x) 1 1=[A.int .i64 x.at_]/\
 (∀v,upd (enc x) 0 ([A.sl (v.map (eI .i64))])=enc {x with l:=v})/\
 (∀v,upd (enc x) 1 ([A.int .i64 v])=enc {x with at_:=v})/\
 (∀(H O:A) (U:List A),upd (H::O::U) 0 (enc x)=A.sl (x.l.map (eI .i64))::A.int .i64 x.at_::U)/\
 (∀(H O:A),upd (enc x) 0 [H,O]=[H,O])/\
 (∀y lo k,upd (enc x) 0 [.own y lo k]=[.own y lo k,A.int .i64 x.at_]):=by simp[sub,upd,mQ,A.pure1,nJ,A.scal1,nB,LK.fits,eN,enc]
end bM
@[ext] structure bO where
 name:ByteArray
 (before after:aC)
 deriving DecidableEq
namespace bO
def zero:bO:=⟨⟨#[]⟩,aC.zero,aC.zero⟩
def enc(x:bO):List A:=[A.str x.name]++aC.enc x.before++aC.enc x.after
@[go_sem] theorem len(x:bO):(enc x).length=5:=by simp[enc,aC.len]
instance:En bO:=⟨5,enc,zero⟩
@[go_sem] theorem laws(x:bO):
 mQ (enc x)=true/\
 nJ (enc x)=true/\
 nB [.s,.i .i64,.i .i64,.i .i64,.i .i64] (enc x)=true/\
 sub (enc x) 0 5=enc x/\
 (∀y,upd (enc x) 0 (enc y)=enc y)/\
 sub (enc x) 0 1=[A.str x.name]/\
 sub (enc x) 1 2=aC.enc x.before/\
 sub (enc x) 3 2=aC.enc x.after/\
 (∀v,upd (enc x) 0 ([A.str v])=enc {x with name:=v})/\
 (∀v,upd (enc x) 1 (aC.enc v)=enc {x with before:=v})/\
 (∀v,upd (enc x) 3 (aC.enc v)=enc {x with after:=v})/\
 (∀(H O K U Y:A) (B:List A),upd (H::O::K::U::Y::B) 0 (enc x)=A.str x.name::A.int .i64 x.before.mode::A.int .i64 x.before.aU::A.int .i64 x.after.mode::A.int .i64 x.after.aU::B)/\
 (∀(H O K U Y:A),upd (enc x) 0 [H,O,K,U,Y]=[H,O,K,U,Y]):=by simp[sub,upd,mQ,A.pure1,nJ,A.scal1,nB,LK.fits,eN,enc,aC.enc]
end bO
@[ext] structure bV where
 (label at_:Int)
 deriving DecidableEq
namespace bV
def zero:bV:=⟨0,0⟩
def enc(x:bV):List A:=[A.int .i64 x.label,A.int .i64 x.at_]
@[go_sem] theorem len(x:bV):(enc x).length=2:=by simp[enc]
instance:En bV:=⟨2,enc,zero⟩
@[go_sem] theorem laws(x:bV):
 mQ (enc x)=true/\
 nJ (enc x)=true/\
 nB [.i .i64,.i .i64] (enc x)=true/\
 sub (enc x) 0 2=enc x/\
 (∀y,upd (enc x) 0 (enc y)=enc y)/\
 sub (enc x) 0 1=[A.int .i64 x.label]/\
 sub (enc x) 1 1=[A.int .i64 x.at_]/\
 (∀v,upd (enc x) 0 ([A.int .i64 v])=enc {x with label:=v})/\
 (∀v,upd (enc x) 1 ([A.int .i64 v])=enc {x with at_:=v})/\
 (∀(H O:A) (U:List A),upd (H::O::U) 0 (enc x)=A.int .i64 x.label::A.int .i64 x.at_::U)/\
 (∀(H O:A),upd (enc x) 0 [H,O]=[H,O]):=by simp[sub,upd,mQ,A.pure1,nJ,A.scal1,nB,LK.fits,eN,enc]
end bV
@[ext] structure bB where
 aQ:(List bO)
 bI:(List bV)
namespace bB
def zero:bB:=⟨[],[]⟩
def enc(x:bB):List A:=[A.sl (x.aQ.map bO.enc),A.sl (x.bI.map bV.enc)]
@[go_sem] theorem len(x:bB):(enc x).length=2:=by simp[enc]
instance:En bB:=⟨2,enc,zero⟩
@[go_sem] theorem laws(x:bB):
 mQ (enc x)=true/\
 nJ (enc x)=false/\
 sub (enc x) 0 2=enc x/\
 (∀y,upd (enc x) 0 (enc y)=enc y)/\
 sub (enc x) 0 1=[A.sl (x.aQ.map bO.enc)]/\
 sub (enc x) 1 1=[A.sl (x.bI.map bV.enc)]/\
 (∀v,upd (enc x) 0 ([A.sl (v.map bO.enc)])=enc {x with aQ:=v})/\
 (∀v,upd (enc x) 1 ([A.sl (v.map bV.enc)])=enc {x with bI:=v})/\
 (∀(H O:A) (U:List A),upd (H::O::U) 0 (enc x)=A.sl (x.aQ.map bO.enc)::A.sl (x.bI.map bV.enc)::U)/\
 (∀(H O:A),upd (enc x) 0 [H,O]=[H,O])/\
 (∀y lo k,upd (enc x) 0 [.own y lo k]=[.own y lo k,A.sl (x.bI.map bV.enc)])/\
 (∀y lo k,upd (enc x) 1 [.own y lo k]=[A.sl (x.aQ.map bO.enc),.own y lo k]):=by simp[sub,upd,mQ,A.pure1,nJ,A.scal1,nB,LK.fits,eN,enc]
end bB
@[ext] structure bP where
 bU:aR
 (bE limit:Int)
namespace bP
def zero:bP:=⟨aR.zero,0,0⟩
def enc(x:bP):List A:=aR.enc x.bU++[A.int .i64 x.bE,A.int .i64 x.limit]
@[go_sem] theorem len(x:bP):(enc x).length=7:=by simp[enc,aR.len]
instance:En bP:=⟨7,enc,zero⟩
@[go_sem] theorem laws(x:bP):
 mQ (enc x)=true/\
 nJ (enc x)=false/\
 sub (enc x) 0 7=enc x/\
 (∀y,upd (enc x) 0 (enc y)=enc y)/\
 sub (enc x) 0 5=aR.enc x.bU/\
 sub (enc x) 5 1=[A.int .i64 x.bE]/\
 sub (enc x) 6 1=[A.int .i64 x.limit]/\
 (∀v,upd (enc x) 0 (aR.enc v)=enc {x with bU:=v})/\
 (∀v,upd (enc x) 5 ([A.int .i64 v])=enc {x with bE:=v})/\
 (∀v,upd (enc x) 6 ([A.int .i64 v])=enc {x with limit:=v})/\
 (∀(H O K U Y B F:A) (M:List A),upd (H::O::K::U::Y::B::F::M) 0 (enc x)=A.int .i64 x.bU.k::A.str x.bU.aZ.name::A.int .i64 x.bU.aZ.aI.mode::A.int .i64 x.bU.aZ.aI.aU::A.sl (x.bU.bG.map aR.enc)::A.int .i64 x.bE::A.int .i64 x.limit::M)/\
 (∀(H O K U Y B F:A),upd (enc x) 0 [H,O,K,U,Y,B,F]=[H,O,K,U,Y,B,F]):=by simp[sub,upd,mQ,A.pure1,nJ,A.scal1,nB,LK.fits,eN,enc,aC.enc,aO.enc,aR.enc]
end bP
@[ext] structure aG where
 aM:aK
 cost:Int
 bH:bB
 bJ:Bool
 bK:bP
 (since gen:Int)
namespace aG
def zero:aG:=⟨aK.zero,0,bB.zero,false,bP.zero,0,0⟩
def enc(x:aG):List A:=aK.enc x.aM++[A.int .i64 x.cost]++bB.enc x.bH++[A.bool x.bJ]++bP.enc x.bK++[A.int .i64 x.since,A.int .i64 x.gen]
@[go_sem] theorem len(x:aG):(enc x).length=16:=by simp[enc,bB.len,aK.len,bP.len]
instance:En aG:=⟨16,enc,zero⟩
@[go_sem] theorem laws(x:aG):
 mQ (enc x)=true/\
 nJ (enc x)=false/\
 sub (enc x) 0 16=enc x/\
 (∀y,upd (enc x) 0 (enc y)=enc y)/\
 sub (enc x) 0 3=aK.enc x.aM/\
 sub (enc x) 3 1=[A.int .i64 x.cost]/\
 sub (enc x) 4 2=bB.enc x.bH/\
 sub (enc x) 4 1=[A.sl (x.bH.aQ.map bO.enc)]/\
 sub (enc x) 5 1=[A.sl (x.bH.bI.map bV.enc)]/\
 sub (enc x) 6 1=[A.bool x.bJ]/\
 sub (enc x) 7 7=bP.enc x.bK/\
 sub (enc x) 7 5=aR.enc x.bK.bU/\
 sub (enc x) 12 1=[A.int .i64 x.bK.bE]/\
 sub (enc x) 13 1=[A.int .i64 x.bK.limit]/\
 sub (enc x) 14 1=[A.int .i64 x.since]/\
 sub (enc x) 15 1=[A.int .i64 x.gen]/\
 (∀v,upd (enc x) 0 (aK.enc v)=enc {x with aM:=v})/\
 (∀v,upd (enc x) 3 ([A.int .i64 v])=enc {x with cost:=v})/\
 (∀v,upd (enc x) 4 (bB.enc v)=enc {x with bH:=v})/\
 (∀v,upd (enc x) 6 ([A.bool v])=enc {x with bJ:=v})/\
 (∀v,upd (enc x) 7 (bP.enc v)=enc {x with bK:=v})/\
 (∀v,upd (enc x) 14 ([A.int .i64 v])=enc {x with since:=v})/\
 (∀v,upd (enc x) 15 ([A.int .i64 v])=enc {x with gen:=v})/\
 (∀(M K L V Z c5 c6 c7 c8 c9 H O U Y B F:A),upd (enc x) 0 [M,K,L,V,Z,c5,c6,c7,c8,c9,H,O,U,Y,B,F]=[M,K,L,V,Z,c5,c6,c7,c8,c9,H,O,U,Y,B,F]):=by simp[sub,upd,mQ,A.pure1,nJ,A.scal1,nB,LK.fits,eN,enc,aC.enc,aO.enc,aR.enc,bB.enc,aK.enc,bP.enc]
end aG
@[ext] structure bF where
 now:Int
 aF:(List aA)
 aD:(List aG)
namespace bF
def zero:bF:=⟨0,[],[]⟩
def enc(x:bF):List A:=[A.int .i64 x.now,A.sl (x.aF.map aA.enc),A.sl (x.aD.map aG.enc)]
@[go_sem] theorem len(x:bF):(enc x).length=3:=by simp[enc]
instance:En bF:=⟨3,enc,zero⟩
@[go_sem] theorem laws(x:bF):
 mQ (enc x)=true/\
 nJ (enc x)=false/\
 sub (enc x) 0 3=enc x/\
 (∀y,upd (enc x) 0 (enc y)=enc y)/\
 sub (enc x) 0 1=[A.int .i64 x.now]/\
 sub (enc x) 1 1=[A.sl (x.aF.map aA.enc)]/\
 sub (enc x) 2 1=[A.sl (x.aD.map aG.enc)]/\
 (∀v,upd (enc x) 0 ([A.int .i64 v])=enc {x with now:=v})/\
 (∀v,upd (enc x) 1 ([A.sl (v.map aA.enc)])=enc {x with aF:=v})/\
 (∀v,upd (enc x) 2 ([A.sl (v.map aG.enc)])=enc {x with aD:=v})/\
 (∀(H O K:A) (U:List A),upd (H::O::K::U) 0 (enc x)=A.int .i64 x.now::A.sl (x.aF.map aA.enc)::A.sl (x.aD.map aG.enc)::U)/\
 (∀(H O K:A),upd (enc x) 0 [H,O,K]=[H,O,K])/\
 (∀y lo k,upd (enc x) 1 [.own y lo k]=[A.int .i64 x.now,.own y lo k,A.sl (x.aD.map aG.enc)])/\
 (∀y lo k,upd (enc x) 2 [.own y lo k]=[A.int .i64 x.now,A.sl (x.aF.map aA.enc),.own y lo k]):=by simp[sub,upd,mQ,A.pure1,nJ,A.scal1,nB,LK.fits,eN,enc]
end bF
@[ext] structure aT where
 b:(List Int)
 err:Int
namespace aT
def zero:aT:=⟨[],0⟩
def enc(x:aT):List A:=[A.sl (x.b.map (eI .u8)),A.int .i64 x.err]
@[go_sem] theorem len(x:aT):(enc x).length=2:=by simp[enc]
instance:En aT:=⟨2,enc,zero⟩
@[go_sem] theorem laws(x:aT):
 mQ (enc x)=true/\
 nJ (enc x)=false/\
 sub (enc x) 0 2=enc x/\
 (∀y,upd (enc x) 0 (enc y)=enc y)/\
 sub (enc x) 0 1=[A.sl (x.b.map (eI .u8))]/\
 sub (enc x) 1 1=[A.int .i64 x.err]/\
 (∀v,upd (enc x) 0 ([A.sl (v.map (eI .u8))])=enc {x with b:=v})/\
 (∀v,upd (enc x) 1 ([A.int .i64 v])=enc {x with err:=v})/\
 (∀(H O:A) (U:List A),upd (H::O::U) 0 (enc x)=A.sl (x.b.map (eI .u8))::A.int .i64 x.err::U)/\
 (∀(H O:A),upd (enc x) 0 [H,O]=[H,O])/\
 (∀y lo k,upd (enc x) 0 [.own y lo k]=[.own y lo k,A.int .i64 x.err]):=by simp[sub,upd,mQ,A.pure1,nJ,A.scal1,nB,LK.fits,eN,enc]
end aT
@[ext] structure bL where
 of:Nat
 (low high plus:Int)
namespace bL
def zero:bL:=⟨zV,0,0,0⟩
def enc(x:bL):List A:=[A.clo x.of [],A.int .i64 x.low,A.int .i64 x.high,A.int .i64 x.plus]
@[go_sem] theorem len(x:bL):(enc x).length=4:=by simp[enc]
instance:En bL:=⟨4,enc,zero⟩
@[go_sem] theorem laws(x:bL):
 mQ (enc x)=true/\
 sub (enc x) 0 4=enc x/\
 (∀y,upd (enc x) 0 (enc y)=enc y)/\
 sub (enc x) 0 1=[A.clo x.of []]/\
 sub (enc x) 1 1=[A.int .i64 x.low]/\
 sub (enc x) 2 1=[A.int .i64 x.high]/\
 sub (enc x) 3 1=[A.int .i64 x.plus]/\
 (∀v,upd (enc x) 0 ([A.clo v []])=enc {x with of:=v})/\
 (∀v,upd (enc x) 1 ([A.int .i64 v])=enc {x with low:=v})/\
 (∀v,upd (enc x) 2 ([A.int .i64 v])=enc {x with high:=v})/\
 (∀v,upd (enc x) 3 ([A.int .i64 v])=enc {x with plus:=v}):=by simp[sub,upd,mQ,A.pure1,nJ,A.scal1,nB,LK.fits,eN,enc]
end bL
@[ext] structure bQ where
 kind:Int
 aM:aK
 bK:bP
 name:ByteArray
 n:Int
namespace bQ
def zero:bQ:=⟨0,aK.zero,bP.zero,⟨#[]⟩,0⟩
def enc(x:bQ):List A:=[A.int .i64 x.kind]++aK.enc x.aM++bP.enc x.bK++[A.str x.name,A.int .i64 x.n]
@[go_sem] theorem len(x:bQ):(enc x).length=13:=by simp[enc,aK.len,bP.len]
instance:En bQ:=⟨13,enc,zero⟩
@[go_sem] theorem laws(x:bQ):
 mQ (enc x)=true/\
 nJ (enc x)=false/\
 sub (enc x) 0 13=enc x/\
 (∀y,upd (enc x) 0 (enc y)=enc y)/\
 sub (enc x) 0 1=[A.int .i64 x.kind]/\
 sub (enc x) 1 3=aK.enc x.aM/\
 sub (enc x) 4 7=bP.enc x.bK/\
 sub (enc x) 11 1=[A.str x.name]/\
 sub (enc x) 12 1=[A.int .i64 x.n]/\
 (∀v,upd (enc x) 0 ([A.int .i64 v])=enc {x with kind:=v})/\
 (∀v,upd (enc x) 1 (aK.enc v)=enc {x with aM:=v})/\
 (∀v,upd (enc x) 4 (bP.enc v)=enc {x with bK:=v})/\
 (∀v,upd (enc x) 11 ([A.str v])=enc {x with name:=v})/\
 (∀v,upd (enc x) 12 ([A.int .i64 v])=enc {x with n:=v})/\
 (∀(Y B K F M L V Z c8 c9 H O U:A),upd (enc x) 0 [Y,B,K,F,M,L,V,Z,c8,c9,H,O,U]=[Y,B,K,F,M,L,V,Z,c8,c9,H,O,U]):=by simp[sub,upd,mQ,A.pure1,nJ,A.scal1,nB,LK.fits,eN,enc,aC.enc,aO.enc,aR.enc,aK.enc,bP.enc]
end bQ
@[ext] structure bN where
 kind:Int
 aM:aK
 name:ByteArray
 aI:aC
 deriving DecidableEq
namespace bN
def zero:bN:=⟨0,aK.zero,⟨#[]⟩,aC.zero⟩
def enc(x:bN):List A:=[A.int .i64 x.kind]++aK.enc x.aM++[A.str x.name]++aC.enc x.aI
@[go_sem] theorem len(x:bN):(enc x).length=7:=by simp[enc,aC.len,aK.len]
instance:En bN:=⟨7,enc,zero⟩
@[go_sem] theorem laws(x:bN):
 mQ (enc x)=true/\
 nJ (enc x)=true/\
 nB [.i .i64,.i .i64,.i .i64,.i .i64,.s,.i .i64,.i .i64] (enc x)=true/\
 sub (enc x) 0 7=enc x/\
 (∀y,upd (enc x) 0 (enc y)=enc y)/\
 (∀v,upd (enc x) 0 ([A.int .i64 v])=enc {x with kind:=v})/\
 (∀v,upd (enc x) 1 (aK.enc v)=enc {x with aM:=v})/\
 (∀v,upd (enc x) 4 ([A.str v])=enc {x with name:=v})/\
 (∀v,upd (enc x) 5 (aC.enc v)=enc {x with aI:=v})/\
 (∀(H O K U Y B F:A) (M:List A),upd (H::O::K::U::Y::B::F::M) 0 (enc x)=A.int .i64 x.kind::A.int .i64 x.aM.site::A.int .i64 x.aM.inc::A.int .i64 x.aM.num::A.str x.name::A.int .i64 x.aI.mode::A.int .i64 x.aI.aU::M)/\
 (∀(H O K U Y B F:A),upd (enc x) 0 [H,O,K,U,Y,B,F]=[H,O,K,U,Y,B,F]):=by simp[sub,upd,mQ,A.pure1,nJ,A.scal1,nB,LK.fits,eN,enc,aC.enc,aK.enc]
end bN
@[ext] structure bD where
 c:bF
 ev:(List bN)
namespace bD
def zero:bD:=⟨bF.zero,[]⟩
def enc(x:bD):List A:=bF.enc x.c++[A.sl (x.ev.map bN.enc)]
instance:En bD:=⟨4,enc,zero⟩
end bD
@[ext] structure bT where
 rest:(List Int)
 err:Int
namespace bT
def zero:bT:=⟨[],0⟩
def enc(x:bT):List A:=[A.sl (x.rest.map (eI .u8)),A.int .i64 x.err]
@[go_sem] theorem len(x:bT):(enc x).length=2:=by simp[enc]
instance:En bT:=⟨2,enc,zero⟩
@[go_sem] theorem laws(x:bT):
 mQ (enc x)=true/\
 nJ (enc x)=false/\
 sub (enc x) 0 2=enc x/\
 (∀y,upd (enc x) 0 (enc y)=enc y)/\
 sub (enc x) 0 1=[A.sl (x.rest.map (eI .u8))]/\
 sub (enc x) 1 1=[A.int .i64 x.err]/\
 (∀v,upd (enc x) 0 ([A.sl (v.map (eI .u8))])=enc {x with rest:=v})/\
 (∀v,upd (enc x) 1 ([A.int .i64 v])=enc {x with err:=v})/\
 (∀(H O:A) (U:List A),upd (H::O::U) 0 (enc x)=A.sl (x.rest.map (eI .u8))::A.int .i64 x.err::U)/\
 (∀(H O:A),upd (enc x) 0 [H,O]=[H,O])/\
 (∀y lo k,upd (enc x) 0 [.own y lo k]=[.own y lo k,A.int .i64 x.err]):=by simp[sub,upd,mQ,A.pure1,nJ,A.scal1,nB,LK.fits,eN,enc]
end bT
@[ext] structure aX where
 bC:bT
namespace aX
def zero:aX:=⟨bT.zero⟩
def enc(x:aX):List A:=bT.enc x.bC
@[go_sem] theorem len(x:aX):(enc x).length=2:=by simp[enc,bT.len]
instance:En aX:=⟨2,enc,zero⟩
@[go_sem] theorem laws(x:aX):
 mQ (enc x)=true/\
 nJ (enc x)=false/\
 sub (enc x) 0 2=enc x/\
 (∀y,upd (enc x) 0 (enc y)=enc y)/\
 sub (enc x) 0 1=[A.sl (x.bC.rest.map (eI .u8))]/\
 sub (enc x) 1 1=[A.int .i64 x.bC.err]/\
 (∀v,upd (enc x) 1 ([A.int .i64 v])=enc {x with bC:={x.bC with err:=v}})/\
 (∀(H O:A) (U:List A),upd (H::O::U) 0 (enc x)=A.sl (x.bC.rest.map (eI .u8))::A.int .i64 x.bC.err::U)/\
 (∀(H O:A),upd (enc x) 0 [H,O]=[H,O]):=by simp[sub,upd,mQ,A.pure1,nJ,A.scal1,nB,LK.fits,eN,enc,bT.enc]
end aX
@[ext] structure bW where
 all:(List Int)
 (at_ err:Int)
namespace bW
def zero:bW:=⟨[],0,0⟩
def enc(x:bW):List A:=[A.sl (x.all.map (eI .u8)),A.int .i64 x.at_,A.int .i64 x.err]
@[go_sem] theorem len(x:bW):(enc x).length=3:=by simp[enc]
instance:En bW:=⟨3,enc,zero⟩
@[go_sem] theorem laws(x:bW):
 mQ (enc x)=true/\
 nJ (enc x)=false/\
 sub (enc x) 0 3=enc x/\
 (∀y,upd (enc x) 0 (enc y)=enc y)/\
 sub (enc x) 0 1=[A.sl (x.all.map (eI .u8))]/\
 sub (enc x) 1 1=[A.int .i64 x.at_]/\
 sub (enc x) 2 1=[A.int .i64 x.err]/\
 (∀v,upd (enc x) 0 ([A.sl (v.map (eI .u8))])=enc {x with all:=v})/\
 (∀v,upd (enc x) 1 ([A.int .i64 v])=enc {x with at_:=v})/\
 (∀v,upd (enc x) 2 ([A.int .i64 v])=enc {x with err:=v})/\
 (∀(H O K:A) (U:List A),upd (H::O::K::U) 0 (enc x)=A.sl (x.all.map (eI .u8))::A.int .i64 x.at_::A.int .i64 x.err::U)/\
 (∀(H O K:A),upd (enc x) 0 [H,O,K]=[H,O,K])/\
 (∀y lo k,upd (enc x) 0 [.own y lo k]=[.own y lo k,A.int .i64 x.at_,A.int .i64 x.err]):=by simp[sub,upd,mQ,A.pure1,nJ,A.scal1,nB,LK.fits,eN,enc]
end bW
attribute [simp] aR.enc_cells
end Ab
end Go.Proofs.YtfmnjkfhahfhgaaGreatDoor
