import Derived.Test.YtfmnjkfhahfhgaaGreatDoorAbM
import Derived.Lib.ConvBytes
import Derived.Laws.BytesArg
namespace Go.Proofs.YtfmnjkfhahfhgaaGreatDoor
namespace Ab
set_option linter.defProp false
set_option linter.unusedSimpArgs false
set_option linter.unusedVariables false
def nA:List Operand->List PX->Bool
 |[],[]=>true
 |x::xs,p::ps=>chkX x p&&nA xs ps
 |_,_=>false
def CW:Operand->Bool
 | .const (.slice none 0 0)=>true
 |_=>false
def sB(P:Program)(T:TypeId)(f:TypeDesc->Bool):Bool:=match P.underlying T with|some d=>f d|none=>false
def zG:TypeDesc->Bool|.string=>true|_=>false
def CX:TypeDesc->Bool|.slice _=>true|_=>false
def Ql:TypeDesc->Bool|.bool=>true|_=>false
def IH(k:IntKind):TypeDesc->Bool|.int k'=>k==k'|_=>false
def YL(P:Program)(T:TypeId)(f off n:Nat)(H:Bool):Bool:=
 (match P.underlying T with|some (.struct fs)=>(match fs[f]? with|some g=>g.offset==off&&tyOk P g.type H n|none=>false)|_=>false)
def YM(P:Program)(T:TypeId)(n sz:Nat)(H:Bool):Bool:=
 (match P.underlying T with|some (.array m e)=>m==n&&tyOk P e H sz|_=>false)
def pG(P:Program)(f:FuncId):Bool:=match P.funcs[f]? with|some fn=>fn.body.isSome&&!(fn.name== "runtime.NumGoroutine")&&!(f==yZ)|none=>false
def II(P:Program)(T:TypeId):Bool:=(match P.underlying T with|some (.slice e)=>sB P e (IH .u8)|_=>false)
def tZ(P:Program)(H:Op)(po:PO)(xs:List PX):Bool:=
 match po with
 | .mv=>(match H with|.move x=>nA [x] xs|.assign x=>nA [x] xs|_=>false)
 | .nilown _ _=>(match H with|.move x=>CW x&&xs.length==1|.assign x=>CW x&&xs.length==1|_=>false)
 | .pick=>(match H with|.pick c x y=>nA [c,x,y] xs|_=>false)
 | .box _=>(match H with|.box _ x=>nA [x] xs|_=>false)
 | .alloc n z=>(match H with|.alloc T=>p5 P T z&&z.length==n&&xs.isEmpty|_=>false)
 | .build z ps=>(match H with|.build T O=>p5 P T z&&Mg P T O.toList ps&&nA (O.toList.map (·.2)) xs|_=>false)
 | .bslice Y z=>(match H with|.buildSlice T n O=>n==xs.length&&bsTy P T Y z&&p7 0 O.toList&&nA (O.toList.map (·.2)) xs|_=>false)
 | .bown Y z=>(match H with|.buildSlice T n O=>n==xs.length&&bsTy P T Y z&&p7 0 O.toList&&nA (O.toList.map (·.2)) xs|_=>false)
 | .load n F=>(match H with|.load T x=>tyOk P T F n&&nA [x] xs|_=>false)
 | .store n=>(match H with|.store T x y=>szIs P T n&&nA [x,y] xs|_=>false)
 | .bin b=>(match H with|.binOp b' _ x y _=>b==b'&&nA [x,y] xs|_=>false)
 | .eqNil=>(match H with|.binOp b T x y _=>b== .eql&&sB P T CX&&CW y&&nA [x] xs|_=>false)
 | .eqb M=>(match H with|.binOp b' T x y _=>(b'==if M then .neq else .eql)&&sB P T Ql&&nA [x,y] xs|_=>false)
 | .eqa M ks=>(match H with|.binOp b' T x y _=>(b'==if M then .neq else .eql)&&sW P 20 T==some ks&&sB P T aggD&&!P.eqGuardType P.depth T&&nA [x,y] xs|_=>false)
 | .not=>(match H with|.unOp .not _ x=>nA [x] xs|_=>false)
 | .neg=>(match H with|.unOp .neg _ x=>nA [x] xs|_=>false)
 | .field L n F=>(match H with|.field T x f=>YL P T f L n F&&nA [x] xs|_=>false)
 | .faddr L=>(match H with|.fieldAddr T x f=>Iy P T f L&&nA [x] xs|_=>false)
 | .iaA n Y=>(match H with|.indexAddr T x i=>Iz P T n Y&&nA [x,i] xs|_=>false)
 | .iaS Y _=>(match H with|.indexAddr T x i=>CS P T Y&&nA [x,i] xs|_=>false)
 | .idxA n Y F=>(match H with|.index T x i=>YM P T n Y F&&nA [x,i] xs|_=>false)
 | .idxS=>(match H with|.index T x i=>sB P T zG&&nA [x,i] xs|_=>false)
 | .slc Y l h m=>(match H with|.slice T x lo K mx=>sB P T CX&&AM P T Y&&l==lo.isSome&&h==K.isSome&&m==mx.isSome&&nA ([x]++lo.toList++K.toList++mx.toList) xs|_=>false)
 | .slcS l h=>(match H with|.slice T x lo K mx=>sB P T zG&&l==lo.isSome&&h==K.isSome&&mx.isNone&&nA ([x]++lo.toList++K.toList) xs|_=>false)
 | .ext i=>(match H with|.extract x i'=>i==i'&&nA [x] xs|_=>false)
 | .len=>(match H with|.call {callee:=.builtin .len,args,argTypes}=>(match args.toList,argTypes.toList with|[x],[t]=>sB P t CX&&nA [x] xs|_,_=>false)|_=>false)
 | .lenS=>(match H with|.call {callee:=.builtin .len,args,argTypes}=>(match args.toList,argTypes.toList with|[x],[t]=>sB P t zG&&nA [x] xs|_,_=>false)|_=>false)
 | .append Y B _=>(match H with|.call {callee:=.builtin .append,args,argTypes}=>(match args.toList,argTypes.toList with|[x,y],[T,U]=>p6 P T U Y B&&nA [x,y] xs|_,_=>false)|_=>false)
 | .appc Y B=>(match H with|.call {callee:=.builtin .append,args,argTypes}=>(match args.toList,argTypes.toList with|[x,y],[T,U]=>p6 P T U Y B&&nA [x,y] xs|_,_=>false)|_=>false)
 | .apl Y B=>(match H with|.call {callee:=.builtin .append,args,argTypes}=>(match args.toList,argTypes.toList with|[x,y],[T,U]=>p6 P T U Y B&&nA [x,y] xs|_,_=>false)|_=>false)
 | .copy Y=>(match H with|.call {callee:=.builtin .copy,args,argTypes}=>(match args.toList,argTypes.toList with|[x,y],[T,_]=>CS P T Y&&nA [x,y] xs|_,_=>false)|_=>false)
 | .clear Y z=>(match H with|.call {callee:=.builtin .clear,args,argTypes}=>(match args.toList,argTypes.toList with|[x],[T]=>Mj P T Y z&&nA [x] xs|_,_=>false)|_=>false)
 | .mk Y B z=>(match H with|.makeSlice T x y=>mkTy P T Y B z&&nA [x,y] xs|_=>false)
 | .conv k=>(match H with|.convert T T2 x=>sB P T (λ _=>true)&&sB P T2 (IH k)&&nA [x] xs|_=>false)
 | .cvS=>(match H with|.convert T T2 x=>II P T&&sB P T2 zG&&nA [x] xs|_=>false)
 | .cvB=>(match H with|.convert T T2 x=>sB P T zG&&II P T2&&nA [x] xs|_=>false)
 | .min=>(match H with|.call {callee:=.builtin .min,args,.. }=>(match args.toList with|[x,y]=>nA [x,y] xs|_=>false)|_=>false)
 | .max=>(match H with|.call {callee:=.builtin .max,args,.. }=>(match args.toList with|[x,y]=>nA [x,y] xs|_=>false)|_=>false)
 | .nilck=>(match H with|.nilCheck x=>nA [x] xs|_=>false)
 | .mkf f=>(match H with|.makeFunc (.func f') fst caps=>f==f'&&fst.isEmpty&&nA caps.toList xs|_=>false)
 | .mkb f=>(match H with|.makeFunc (.func f') fst caps=>(match fst.toList with|[y]=>f==f'&&caps.isEmpty&&nA [y] xs|_=>false)|_=>false)
 | .call f=>(match H with|.call {callee:=.value (.func f'),args,.. }=>f==f'&&nA args.toList xs&&pG P f|_=>false)
 | .callm f=>(match H with|.call {callee:=.value (.func f'),args,.. }=>f==f'&&nA args.toList xs&&pG P f|_=>false)
 | .callv=>(match H with|.call {callee:=.value (.tmp t),args,.. }=>nA (.tmp t::args.toList) xs|_=>false)
 | .callb=>(match H with|.call {callee:=.value (.tmp t),args,.. }=>nA (.tmp t::args.toList) xs|_=>false)
 | .mkmap _=>(match H with|.makeMap _ none=>xs.isEmpty|_=>false)
 | .lkp ok F kz z=>(match H with|.lookup T x i V=>ok==V&&AR P T kz&&Mp P T F z&&nA [x,i] xs|_=>false)
 | .mupd kz _ _=>(match H with|.mapUpdate T x i y=>AR P T kz&&nA [x,i,y] xs|.insert T x i y=>AR P T kz&&nA [x,i,y] xs|_=>false)
 | .lenM=>(match H with|.call {callee:=.builtin .len,args,argTypes}=>(match args.toList,argTypes.toList with|[x],[t]=>sB P t ID&&nA [x] xs|_,_=>false)|_=>false)
 | .rng=>(match H with|.range T x=>sB P T ID&&nA [x] xs|_=>false)
 | .next _=>(match H with|.next x false=>nA [x] xs|_=>false)
 | .entry _=>(match H with|.entry x=>nA [x] xs|_=>false)
 | .callvm=>(match H with|.call {callee:=.value (.tmp t),args,.. }=>nA (.tmp t::args.toList) xs|_=>false)
section
variable {P:Program} {o:Oper} {a:Act} {E:Env} {s:S} {w:World} {W:Nat→Prop} {μ:Nat→Loc}
def Vals(w:World)(W:Nat->Prop)(μ:Nat->Loc)(a:Act)(xs:List Operand)(vs:List A):Prop:=
 xs.length=vs.length/\∀(i:Nat) (x:Operand) (v:A),xs[i]? =some x->vs[i]? =some v->Rep w W μ (a.eval x) v
def Vals.one{x:Operand}{vs:List A}(h:Vals w W μ a [x] vs):∃v,vs=[v]/\Rep w W μ (a.eval x) v:=by
 match vs,h.1 with
 |[v],_=>exact⟨v,rfl,h.2 0 x v rfl rfl⟩
def Vals.two{x y:Operand}{vs:List A}(h:Vals w W μ a [x,y] vs):∃v u,vs=[v,u]/\Rep w W μ (a.eval x) v/\Rep w W μ (a.eval y) u:=by
 match vs,h.1 with
 |[v,u],_=>exact⟨v,u,rfl,h.2 0 x v rfl rfl,h.2 1 y u rfl rfl⟩
def Vals.three{x y z:Operand}{vs:List A}(h:Vals w W μ a [x,y,z] vs):∃v u t,vs=[v,u,t]/\Rep w W μ (a.eval x) v/\Rep w W μ (a.eval y) u/\Rep w W μ (a.eval z) t:=by
 match vs,h.1 with
 |[v,u,t],_=>exact⟨v,u,t,rfl,h.2 0 x v rfl rfl,h.2 1 y u rfl rfl,h.2 2 z t rfl rfl⟩
def Vals.four{x y z q:Operand}{vs:List A}(h:Vals w W μ a [x,y,z,q] vs):∃v u t r,vs=[v,u,t,r]/\Rep w W μ (a.eval x) v/\Rep w W μ (a.eval y) u/\Rep w W μ (a.eval z) t/\Rep w W μ (a.eval q) r:=by
 match vs,h.1 with
 |[v,u,t,r],_=>exact⟨v,u,t,r,rfl,h.2 0 x v rfl rfl,h.2 1 y u rfl rfl,h.2 2 z t rfl rfl,h.2 3 q r rfl rfl⟩
def tG{T:TypeId}{f:TypeDesc->Bool}(h:sB P T f=true):∃d,P.underlying T=some d/\f d=true:=by
 unfold sB at h;split at h
 .rename_i d H;exact⟨d,H,h⟩
 .cases h
end
section
variable {P:Program} {o:Oper} {a:Act} {E:Env} {s:S} {w:World} {W:Nat→Prop} {μ:Nat→Loc}
def mN.mw{av:A}{m m' H:Nat->MS}(h:mN P o a w W μ m av m')(e:m'=H):mN P o a w W μ m av H:=e▸h
def Mu{H:List (Nat×Operand)}{vs:List A}(h:Vals w W μ a (H.map (·.2)) vs):
  H.length=vs.length/\∀(i:Nat) (p:Nat×Operand) (x:A),H[i]? =some p->vs[i]? =some x->Rep w W μ (a.eval p.2) x:=
 ⟨by simpa using h.1,λ i p x O U=>h.2 i p.2 x (by simp[O]) U⟩
def Qn{x:Operand}(h:CW x=true):x=.const (.slice none 0 0):=by
 unfold CW at h;split at h
 .rfl
 .cases h
def Qo:∀{xs:List A},allK xs=true->∀x∈xs,x.isK=true
 |x::xs,h,y,hy=>by
  simp only[allK,bY]at h;rcases cL.1 hy with rfl|hy
  .exact h.1
  .exact Qo h.2 y hy
def Qp{T:TypeId}(h:II P T=true):∃e,P.underlying T=some (.slice e)/\P.underlying e=some (.int .u8):=by
 unfold II at h;split at h
 .rename_i e O;obtain⟨d,U,H⟩:=tG h;refine⟨e,O,?_⟩;cases d<;>simp[IH]at H;subst H;exact U
 .cases h
def Qq:∀{es:List (List A)} {l:List Int},u8s es=some l->es=l.map λ n=>[A.int .u8 n]
 |[],l,h=>by simp[u8s]at h;subst h;rfl
 |c::cs,l,h=>by
  unfold u8s at h;split at h
  .cases‹_=[]›
  .rename_i n O H;cases H;obtain⟨Y,U,rfl⟩:=cO.1 h;rw[dO,<-Qq U]
  .cases h
def Qr{R:Value->A->Prop}(U:∀u n,R u (.int .u8 n)->u=.int .u8 n){sz:Nat}{us:List Value}{l:List Int}(h:Flat R sz us (l.map λ n=>[A.int .u8 n]))(L:l≠[]):sz=1/\us=l.map (Value.int .u8):=by
 have H:sz=1:=by
  cases l with
  |nil=>exact absurd rfl L
  |cons n l=>exact(h.hs 0 [A.int .u8 n] rfl).symm
 subst H;refine⟨rfl,List.ext_getElem? λ i=>?_⟩
 by_cases K:i<l.length
 .obtain⟨u,O,Y⟩:=h.ha i [A.int .u8 l[i]] 0 _ (by simp[K]) rfl;simp only[gC,Nat.add_zero]at O;rw[O,U u _ Y];simp[K]
 .rw[iB (by have:=h.hl;simp at this;omega),iB (by simp;omega)]
def YN(hs:SatW E s a w W μ){x:Operand}{T T2 e:TypeId}{ax:A}{es:List (List A)}{l:List Int}(ho:o.op=.convert T T2 x)(hT:P.underlying T=some (.slice e))(he:P.underlying e=some (.int .u8))(x0:P.underlying T2=some .string)
  (V:Rep w W μ (a.eval x) ax) (t0:ax.isStr=false) (O:sL s.mem ax=some es) (hl:u8s es=some l) (c0:tW s.mem ax):mN P o a w W μ s.mem (.str (tY l)) s.mem:=by
 have d0:=Qq hl;subst d0;have hR:∀u n,RepK w W μ u (.int .u8 n)->u=.int .u8 n:=λ u n h=>Rep.int (nG (nL h));have f0:∀u n,RepC w W u (.int .u8 n)->u=.int .u8 n:=λ u n h=>hR u n (nN h);have u0:(convert T T2 (a.eval x)).run P w=.ok (.string (strOfNums l)) w->mN P o a w W μ s.mem (.str (tY l)) s.mem:=λ h=>
  ⟨.value (.string (strOfNums l)),.string (strOfNums l),w,W,μ,by simp[execOp,ho,h],.inl rfl,nG (nL (nN (.str _))),hs.refl⟩
 have B:∀ad H,a.eval x=.slice ad 0 H->l=[]->mN P o a w W μ s.mem (.str (tY l)) s.mem:=λ ad H K h0=>by
  subst h0;refine u0 ?_;rw[K];cases ad with
  |none=>exact run_convert_bytes_nil w T e hT he 0 H T2 x0
  |some b=>rw[run_convert_bytes_string w T T2 e _ 0 H hT he x0,run_bytesToString w b 0 H [] (by simp[loadCells,loadCellsFrom])];rfl
 have F:∀b U H,a.eval x=.slice (some ⟨b,U,none⟩) l.length H->(∀i,i<l.length->w.cell? ⟨b,U+i,none⟩=some (.int .u8 (l.getD i 0)))->mN P o a w W μ s.mem (.str (tY l)) s.mem:=λ b U H K hc=>by refine u0 ?_;rw[K];exact run_convert_bytes_arg w T e hT he b U l.length H l rfl hc T2 x0
 have M:RepC w W (a.eval x) (.sl (l.map λ n=>[A.int .u8 n]))->mN P o a w W μ s.mem (.str (tY l)) s.mem:=λ V=>by
  rcases V.open_sl with⟨h0,ad,H,K⟩|⟨b,U,H,sz,us,K,_,_,hn,_,hf,hc⟩
  .exact B ad H K (by simpa using h0)
  .have y0:l≠[]:=by rintro rfl;simp at hn
   obtain⟨rfl,L⟩:=Qr f0 hf y0;refine F b U H (by simpa using K) λ i hi=>hc i _ ?_;subst L;simp[hi]
 unfold sL at O;split at O
 .cases O;exact M V
 .cases O;exact M (RepC.of_full V).1
 .rename_i y lo n;split at O
  .rename_i r hr;simp only[cJ]at O;simp only[tW,hr]at c0;have Z:((r.es.drop lo).take n).length=n:=by simp;omega
   have z0:l.length=n:=by rw[<-Z,O,dM]
   rcases hs.own V hr with⟨rfl,ad,K⟩|⟨k,H,h5,h6,h7,h8,h9,p0⟩
   .exact B ad 0 K (dB z0)
   .obtain⟨_,q0,l0,g0,m0,e0,v0,htot,hf⟩:=p0;have r0:=(hf.drop lo).take n;rw[O]at r0
    by_cases y0:l=[]
    .subst y0;simp at z0;subst z0;refine u0 ?_;rw[h6];rw[run_convert_bytes_string w T T2 e _ 0 H hT he x0,run_bytesToString w _ 0 H [] (by simp[loadCells,loadCellsFrom])];rfl
    .obtain⟨s0,L⟩:=Qr hR r0 y0;rw[s0,gC,gC]at L;refine F k.b (lo*k.sz) H (by rw[h6,z0]) λ i hi=>?_;rw[q0,s0,gC];have Y:((g0.drop lo).take n)[i]? =some (.int .u8 (l.getD i 0)):=by rw[L];simp[hi]
     rw[eA]at Y;split at Y
     .rw[eG]at Y;simp only[World.cell?,v0,oc,bZ,cI,fO];rw[dX (cK.1 Y).1,Y]
     .cases Y
  .cases O
 .simp[A.isStr]at t0
 .cases O
def YO(K:SatW E s a w W μ){x:Operand}{T T2 e:TypeId}{b:ByteArray}{u:TypeDesc}(ho:o.op=.convert T T2 x)(Z:P.underlying T=some u)(h0:P.underlying T2=some (.slice e))(he:P.underlying e=some (.int .u8))
  (hx:Rep w W μ (a.eval x) (.str b)) (V:b.size<=maxLen):mN P o a w W μ s.mem (.sl (b.toList.map λ c=>[A.int .u8 c.toNat])) s.mem:=by
 have O:=Lib.run_convert_string_bytes (P:=P) w T T2 e b Z h0 he;have hk:Keeps (λ _=>False) w (Lib.bytesWorld w e b):=⟨by unfold Lib.bytesWorld World.freeze;rw[bX Om];rfl,by unfold Lib.bytesWorld World.freeze;rw[bX Om];rfl,by unfold Lib.bytesWorld World.freeze;rw[bX Om];rfl,by unfold Lib.bytesWorld World.freeze;rw[bX Om];exact kK _,by rw[Lib.bytesWorld_size];omega,λ j hj _=>Lib.bytesWorld_at_old w e b j hj⟩;have U:b.toList=b.data.toList:=ByteArray.toList_eq ..
 have Y:b.toList.length=b.size:=by rw[U];rfl
 refine⟨.value _,_,Lib.bytesWorld w e b,W,μ,by simp[execOp,ho,hx.str,O];rfl,.inl rfl,?_,Step.quiet hk K.mem K.inj K.wlt⟩;refine nG (nL (nN ?_));have B:(b.toList.map λ c=>[A.int .u8 c.toNat]).length=b.size:=by rw[dM,Y]
 conv=>arg 3;rw[<-B]
 refine RepC.mk_sl (sz:=1) (us:=b.toList.map λ c=>Value.int .u8 c.toNat) (λ hW=>absurd (K.wlt _ hW) (kR _)) (by rw[Lib.bytesWorld_size];omega) (by rw[B];exact grownCap_ge w b.size 0 e) ?_ ?_
 .refine⟨by simp,λ i c F=>?_,λ i c j q F H=>?_⟩
  .simp only[cW,cO]at F;obtain⟨d,_,rfl⟩:=F;rfl
  .simp only[cW,cO]at F;obtain⟨d,M,rfl⟩:=F;cases j with
   |zero=>simp at H;subst H;exact⟨_,by simp[M],.int _ _⟩
   |succ j=>simp at H
 .intro q v H;simp only[cW,cO]at H;obtain⟨d,M,rfl⟩:=H;have L:q<b.size:=by rw[<-Y];exact(cK.1 M).1
  rw[eC,Lib.bytesWorld_cell w e b q L];rw[U]at M;simp[List.getD,M]
def YP(Z:SatW E s a w W μ){id:Nat}(v0:s.mem id=.fresh)(po:PO)(xs:List PX)(F:List A)(hV:∀d0,nA d0 xs=true->Vals w W μ a d0 F)(hlen:xs.length=F.length)
  (H:tZ P o.op po xs=true) {ef:Ef} (O:ev id s.mem po F=some ef) (Y:ef.obl) (f0:po≠.pick):mN P o a w W μ s.mem ef.v (setM s.mem ef.mw):=by
 cases po<;>simp only[tZ]at H
 case pick=>exact absurd rfl f0
 case mv=>
  split at H
  .rename_i x B;obtain⟨v,rfl,K⟩:=(hV _ H).one;cases O;exact PW Z (.inl B) K
  .rename_i x B;obtain⟨v,rfl,K⟩:=(hV _ H).one;cases O;exact PW Z (.inr B) K
  .cases H
 case nilown sz z=>
  have e0:∀x,(o.op=.move x\/o.op=.assign x)->(CW x&&xs.length==1)=true->mN P o a w W μ s.mem ef.v (setM s.mem ef.mw):=λ x B h=>by
   simp only[bY,dN]at h
   match F,(show F.length=1 by omega)with
   |[v],_=>cases O;exact X6 Z B (Qn h.1) v0 Y
  split at H
  .rename_i x B;exact e0 x (.inl B) H
  .rename_i x B;exact e0 x (.inr B) H
  .cases H
 case box n=>
  split at H
  .rename_i T x B;obtain⟨v,rfl,K⟩:=(hV _ H).one;cases O;exact X7 Z B K v0 Y.1 Y.2.1 Y.2.2
  .cases H
 case alloc n z=>
  split at H
  .rename_i T B;simp only[bY,dN]at H;obtain⟨⟨h1,h2⟩,h3⟩:=H;have:F=[]:=by
    have:xs=[]:=by simpa using h3
    subst this;exact dB hlen.symm
   subst this;subst h2;cases O;exact X8 Z B h1 v0 Y.1
  .cases H
 case build z ps=>
  split at H
  .rename_i T p0 B;simp only[bY]at H;obtain⟨⟨h1,h2⟩,h3⟩:=H;obtain⟨h4,h5⟩:=Mu (hV _ h3);cases F<;>(cases O;exact Yg Z B h1 h2 h4 h5 Y)
  .cases H
 case bslice sz z=>
  split at H
  .rename_i T n p0 B;simp only[bY,dN]at H;obtain⟨⟨⟨h0,h1⟩,h2⟩,h3⟩:=H;obtain⟨h4,h5⟩:=Mu (hV _ h3);cases F<;>(cases O;exact Yj Z B om h1 h2 h4 Y.2.2.2.2 h5 Y.2.1 Y.2.2.1 Y.2.2.2.1)
  .cases H
 case bown sz z=>
  split at H
  .rename_i T n p0 B;simp only[bY,dN]at H;obtain⟨⟨⟨h0,h1⟩,h2⟩,h3⟩:=H;obtain⟨h4,h5⟩:=Mu (hV _ h3);cases F<;>(cases O;exact Yi Z B om h1 h2 h4 Y.2.2.2 h5 v0 Y.1 Y.2.1 Y.2.2.1)
  .cases H
 case load n ag=>
  split at H
  .rename_i T x B;simp only[bY]at H;obtain⟨v,rfl,K⟩:=(hV _ H.2).one;refine(XR Z B H.1 K O Y).mw ?_;simp only[ev]at O;split at O
   .split at O<;>first|(cases O;rfl)|cases O
   .cases O;rfl
   .cases O
  .cases H
 case store n=>
  split at H
  .rename_i T x y B;simp only[bY]at H;obtain⟨v,u,rfl,K,L⟩:=(hV _ H.2).two;exact Yb Z B H.1 K L O Y
  .cases H
 case bin b=>
  split at H
  .rename_i b' T x y T2 B;simp only[bY,dN]at H;obtain⟨rfl,h2⟩:=H;obtain⟨v,u,rfl,K,L⟩:=(hV _ h2).two;simp only[ev,cO]at O;obtain⟨q,hq,rfl⟩:=O;exact XM Z B K L hq Y
  .cases H
 case eqb neg=>
  split at H
  .rename_i b' T x y T2 B;simp only[bY,dN]at H;obtain⟨⟨rfl,h2⟩,h3⟩:=H;obtain⟨v,u,rfl,K,L⟩:=(hV _ h3).two;obtain⟨d,hd,x0⟩:=tG h2;have hT:P.underlying T=some .bool:=by cases d<;>simp[Ql]at x0;exact hd
   cases v<;>simp only[ev]at O<;>try(cases O;done)
   cases u<;>simp only[ev]at O<;>try(cases O;done)
   cases O;exact X3 Z B hT K L
  .cases H
 case eqa neg ks=>
  split at H
  .rename_i b' T x y T2 B;simp only[bY,dN,dA]at H;obtain⟨⟨⟨⟨rfl,h2⟩,h3⟩,h4⟩,h5⟩:=H;obtain⟨v,u,rfl,K,L⟩:=(hV _ h5).two;cases v<;>simp only[ev]at O<;>try(cases O;done)
   cases u<;>simp only[ev]at O<;>try(cases O;done)
   cases O;exact Yn Z B h2 h3 h4 K L Y.1 Y.2
  .cases H
 case not=>
  split at H
  .rename_i T x B;obtain⟨v,rfl,K⟩:=(hV _ H).one;cases v<;>simp only[ev]at O<;>try(cases O;done)
   cases O;exact XK Z B K
  .cases H
 case neg=>
  split at H
  .rename_i T x B;obtain⟨v,rfl,K⟩:=(hV _ H).one;cases v<;>simp only[ev]at O<;>try(cases O;done)
   cases O;exact XL Z B K
  .cases H
 case field off n ag=>
  split at H
  .rename_i T x f B;simp only[bY]at H;obtain⟨v,rfl,K⟩:=(hV _ H.2).one;refine(XY Z B H.1 K O Y).mw ?_;cases v<;>simp only[ev]at O<;>first|(cases O;rfl)|cases O
  .cases H
 case faddr off=>
  split at H
  .rename_i T x f B;simp only[bY]at H;obtain⟨v,rfl,K⟩:=(hV _ H.2).one;refine(XT Z B H.1 K O).mw ?_;simp only[ev]at O;split at O
   .split at O<;>first|(cases O;rfl)|cases O
   .cases O;rfl
   .cases O
  .cases H
 case iaA n sz=>
  split at H
  .rename_i T x i B;simp only[bY]at H;obtain⟨v,u,rfl,K,L⟩:=(hV _ H.2).two;refine(XV Z B H.1 K L O Y).mw ?_;cases u<;>simp only[ev]at O<;>try(cases O;done)
   split at O
   .split at O<;>first|(cases O;rfl)|cases O
   .cases O;rfl
   .cases O
  .cases H
 case iaS sz z=>
  split at H
  .rename_i T x i B;simp only[bY]at H;obtain⟨v,u,rfl,K,L⟩:=(hV _ H.2).two;refine(XW Z B H.1 K L O Y).mw ?_;cases u<;>simp only[ev]at O<;>try(cases O;done)
   split at O
   .cases O;rfl
   .cases O;rfl
   .split at O<;>first|(cases O;rfl)|cases O
   .cases O
  .cases H
 case idxA n sz ag=>
  split at H
  .rename_i T x i B;simp only[bY]at H;obtain⟨v,u,rfl,K,L⟩:=(hV _ H.2).two;refine(XX Z B H.1 K L O Y).mw ?_;cases v<;>simp only[ev]at O<;>try(cases O;done)
   cases u<;>simp only[ev]at O<;>try(cases O;done)
   cases O;rfl
  .cases H
 case idxS=>
  split at H
  .rename_i T x i B;simp only[bY]at H;obtain⟨v,u,rfl,K,L⟩:=(hV _ H.2).two;obtain⟨d,hd,x0⟩:=tG H.1;have hT:P.underlying T=some .string:=by cases d<;>simp[zG]at x0;exact hd
   cases v<;>simp only[ev]at O<;>try(cases O;done)
   cases u<;>simp only[ev]at O<;>try(cases O;done)
   cases O;exact Yq Z B hT K L Y.1 Y.2
  .cases H
 case slc sz l h m=>
  split at H
  .rename_i T x lo hi mx B;simp only[bY,dN]at H;obtain⟨⟨⟨⟨⟨h1,h2⟩,rfl⟩,rfl⟩,rfl⟩,h6⟩:=H;have V:=hV _ h6;obtain⟨d,hd,x0⟩:=tG h1;have u0:∀v,Rep w W μ (a.eval x) v->∀l h m,Bds (lo.map a.eval) (hi.map a.eval) (mx.map a.eval) l h m->(if v.isStr then none else(rU s.mem sz v l h m).map λ q=>(⟨q.1,q.2,[]⟩:Ef))=some ef->mN P o a w W μ s.mem ef.v (setM s.mem ef.mw):=λ v K l h m hb hq=>by
    split at hq
    .cases hq
    .rename_i s0;simp only[cO]at hq;obtain⟨q,hq,rfl⟩:=hq;refine P2 Z B h2 K ⟨λ⟨b,hb⟩=>?_,λ L=>?_⟩ hb hq Y
     .subst hb;exact absurd rfl s0
     .rw[hd]at L;cases L;simp[CX]at x0
   cases lo with
   |none=>
    cases hi with
    |none=>
     cases mx with
     |none=>obtain⟨v,rfl,K⟩:=V.one;exact u0 v K none none none ⟨.inl ⟨rfl,rfl⟩,.inl ⟨rfl,rfl⟩,.inl ⟨rfl,rfl⟩⟩ O
     |some m0=>obtain⟨v,u,rfl,K,L⟩:=V.two;exact absurd O (by simp[ev])
    |some h0=>
     cases mx with
     |none=>
      obtain⟨v,u,rfl,K,L⟩:=V.two;cases u<;>simp only[ev,Option.isSome]at O<;>try(cases O;done)
      exact u0 v K none (some _) none ⟨.inl ⟨rfl,rfl⟩,.inr ⟨_,_,dZ some L.int,rfl⟩,.inl ⟨rfl,rfl⟩⟩ O
     |some m0=>
      obtain⟨v,u,t,rfl,K,L,ht⟩:=V.three;cases u<;>simp only[ev,Option.isSome]at O<;>try(cases O;done)
      cases t<;>(try simp only at O)<;>try(cases O;done)
      exact u0 v K none (some _) (some _) ⟨.inl ⟨rfl,rfl⟩,.inr ⟨_,_,dZ some L.int,rfl⟩,.inr ⟨_,_,dZ some ht.int,rfl⟩⟩ O
   |some l0=>
    cases hi with
    |none=>
     cases mx with
     |none=>
      obtain⟨v,u,rfl,K,L⟩:=V.two;cases u<;>simp only[ev,Option.isSome]at O<;>try(cases O;done)
      exact u0 v K (some _) none none ⟨.inr ⟨_,_,dZ some L.int,rfl⟩,.inl ⟨rfl,rfl⟩,.inl ⟨rfl,rfl⟩⟩ O
     |some m0=>obtain⟨v,u,t,rfl,K,L,ht⟩:=V.three;exact absurd O (by simp[ev])
    |some h0=>
     cases mx with
     |none=>
      obtain⟨v,u,t,rfl,K,L,ht⟩:=V.three;cases u<;>simp only[ev,Option.isSome]at O<;>try(cases O;done)
      cases t<;>(try simp only at O)<;>try(cases O;done)
      exact u0 v K (some _) (some _) none ⟨.inr ⟨_,_,dZ some L.int,rfl⟩,.inr ⟨_,_,dZ some ht.int,rfl⟩,.inl ⟨rfl,rfl⟩⟩ O
     |some m0=>
      obtain⟨v,u,t,r,rfl,K,L,ht,hr⟩:=V.four;cases u<;>simp only[ev,Option.isSome]at O<;>try(cases O;done)
      cases t<;>(try simp only at O)<;>try(cases O;done)
      cases r<;>(try simp only at O)<;>try(cases O;done)
      exact u0 v K (some _) (some _) (some _) ⟨.inr ⟨_,_,dZ some L.int,rfl⟩,.inr ⟨_,_,dZ some ht.int,rfl⟩,.inr ⟨_,_,dZ some hr.int,rfl⟩⟩ O
  .cases H
 case slcS l h=>
  split at H
  .rename_i T x lo hi mx B;simp only[bY,dN]at H;obtain⟨⟨⟨⟨h1,rfl⟩,rfl⟩,h4⟩,h6⟩:=H;have V:=hV _ h6;obtain⟨d,hd,x0⟩:=tG h1;have hT:P.underlying T=some .string:=by cases d<;>simp[zG]at x0;exact hd
   have h2:AM P T 0=true:=by simp[AM,hT]
   have g0:mx=none:=by simpa using h4
   subst g0;have u0:∀b,Rep w W μ (a.eval x) (.str b)->∀l h,Bds (lo.map a.eval) (hi.map a.eval) none l h none->((rU s.mem 0 (.str b) l h none).map λ q=>(⟨q.1,q.2,[]⟩:Ef))=some ef->mN P o a w W μ s.mem ef.v (setM s.mem ef.mw):=λ b K l h hb hq=>by simp only[cO]at hq;obtain⟨q,hq,rfl⟩:=hq;exact P2 Z B h2 K ⟨λ _=>hT,λ _=>⟨b,rfl⟩⟩ hb hq Y
   cases lo with
   |none=>
    cases hi with
    |none=>
     obtain⟨v,rfl,K⟩:=V.one;cases v<;>simp only[ev,Option.isSome]at O<;>try(cases O;done)
     exact u0 _ K none none ⟨.inl ⟨rfl,rfl⟩,.inl ⟨rfl,rfl⟩,.inl ⟨rfl,rfl⟩⟩ O
    |some h0=>
     obtain⟨v,u,rfl,K,L⟩:=V.two;cases v<;>simp only[ev,Option.isSome]at O<;>try(cases O;done)
     cases u<;>(try simp only at O)<;>try(cases O;done)
     exact u0 _ K none (some _) ⟨.inl ⟨rfl,rfl⟩,.inr ⟨_,_,dZ some L.int,rfl⟩,.inl ⟨rfl,rfl⟩⟩ O
   |some l0=>
    cases hi with
    |none=>
     obtain⟨v,u,rfl,K,L⟩:=V.two;cases v<;>simp only[ev,Option.isSome]at O<;>try(cases O;done)
     cases u<;>(try simp only at O)<;>try(cases O;done)
     exact u0 _ K (some _) none ⟨.inr ⟨_,_,dZ some L.int,rfl⟩,.inl ⟨rfl,rfl⟩,.inl ⟨rfl,rfl⟩⟩ O
    |some h0=>
     obtain⟨v,u,t,rfl,K,L,ht⟩:=V.three;cases v<;>simp only[ev,Option.isSome]at O<;>try(cases O;done)
     cases u<;>(try simp only at O)<;>try(cases O;done)
     cases t<;>(try simp only at O)<;>try(cases O;done)
     exact u0 _ K (some _) (some _) ⟨.inr ⟨_,_,dZ some L.int,rfl⟩,.inr ⟨_,_,dZ some ht.int,rfl⟩,.inl ⟨rfl,rfl⟩⟩ O
  .cases H
 case ext i=>
  split at H
  .rename_i x i' B;simp only[bY,dN]at H;obtain⟨rfl,h2⟩:=H;obtain⟨v,rfl,K⟩:=(hV _ h2).one;cases v<;>simp only[ev]at O<;>try(cases O;done)
   cases O;exact XN Z B K Y
  .cases H
 case len=>
  split at H
  .rename_i M y0 B;split at H
   .rename_i x t hx ht;simp only[bY]at H;obtain⟨v,rfl,K⟩:=(hV _ H.2).one;obtain⟨d,hd,x0⟩:=tG H.1;have hT:∃e,P.underlying t=some (.slice e):=by cases d<;>simp[CX]at x0;exact⟨_,hd⟩
    have ha:M=#[x]:=by rw[<-hx]
    have z0:y0[0]? =some t:=by
     have:y0=#[t]:=by rw[<-ht]
     rw[this];rfl
    subst ha;refine(XP Z B z0 hT K O).mw ?_;simp only[ev]at O;split at O
    .cases O;rfl
    .cases O;rfl
    .split at O<;>first|(cases O;rfl)|cases O
    .cases O
   .cases H
  .cases H
 case lenS=>
  split at H
  .rename_i M y0 B;split at H
   .rename_i x t hx ht;simp only[bY]at H;obtain⟨v,rfl,K⟩:=(hV _ H.2).one;obtain⟨d,hd,x0⟩:=tG H.1;have hT:P.underlying t=some .string:=by cases d<;>simp[zG]at x0;exact hd
    have ha:M=#[x]:=by rw[<-hx]
    have z0:y0[0]? =some t:=by
     have:y0=#[t]:=by rw[<-ht]
     rw[this];rfl
    subst ha;cases v<;>simp only[ev]at O<;>try(cases O;done)
    cases O;exact XO Z B z0 hT K
   .cases H
  .cases H
 case append sz by_ z=>
  split at H
  .rename_i M y0 B;split at H
   .rename_i x y T U hx ht;simp only[bY]at H;obtain⟨v,u,rfl,K,L⟩:=(hV _ H.2).two;have ha:M=#[x,y]:=by rw[<-hx]
    have z0:y0=#[T,U]:=by rw[<-ht]
    subst ha;subst z0;exact Yd Z B H.1 K L v0 O Y
   .cases H
  .cases H
 case appc sz by_=>
  split at H
  .rename_i M y0 B;split at H
   .rename_i x y T U hx ht;simp only[bY]at H;obtain⟨v,u,rfl,K,L⟩:=(hV _ H.2).two;have ha:M=#[x,y]:=by rw[<-hx]
    have z0:y0=#[T,U]:=by rw[<-ht]
    subst ha;subst z0;exact Ye Z B H.1 K L v0 O Y
   .cases H
  .cases H
 case apl sz by_=>
  split at H
  .rename_i M y0 B;split at H
   .rename_i x y T U hx ht;simp only[bY]at H;obtain⟨v,u,rfl,K,L⟩:=(hV _ H.2).two;have ha:M=#[x,y]:=by rw[<-hx]
    have z0:y0=#[T,U]:=by rw[<-ht]
    subst ha;subst z0;cases v<;>first|(cases O;done)|skip
    cases u<;>first|(cases O;done)|skip
    cases O;obtain⟨h1,rfl,h3,h4,h5⟩:=Y;exact Yf Z B H.1 K L h3 h4 h5
   .cases H
  .cases H
 case clear sz z=>
  split at H
  .rename_i M y0 B;split at H
   .rename_i x T hx ht;simp only[bY]at H;obtain⟨v,rfl,K⟩:=(hV _ H.2).one;have ha:M=#[x]:=by rw[<-hx]
    have z0:y0=#[T]:=by rw[<-ht]
    subst ha;subst z0;exact Yl Z B H.1 K O Y
   .cases H
  .cases H
 case copy sz=>
  split at H
  .rename_i M y0 B;split at H
   .rename_i x y T U hx ht;simp only[bY]at H;obtain⟨v,u,rfl,K,L⟩:=(hV _ H.2).two;have ha:M=#[x,y]:=by rw[<-hx]
    have z0:y0=#[T,U]:=by rw[<-ht]
    subst ha;subst z0;exact Yk Z B H.1 K L O Y
   .cases H
  .cases H
 case mk sz by_ z=>
  split at H
  .rename_i T x y B;simp only[bY]at H;obtain⟨v,u,rfl,K,L⟩:=(hV _ H.2).two;cases v<;>simp only[ev]at O<;>try(cases O;done)
   cases u<;>simp only[ev]at O<;>try(cases O;done)
   cases O;obtain⟨h1,_,h3,h4,h5,h6⟩:=Y;exact y_mk Z B H.1 K L v0 h1 h3 h4 h5 h6
  .cases H
 case conv k=>
  split at H
  .rename_i T T2 x B;simp only[bY]at H;obtain⟨⟨h1,h2⟩,h3⟩:=H;obtain⟨v,rfl,K⟩:=(hV _ h3).one;obtain⟨d,hd,_⟩:=tG h1;obtain⟨d2,x0,q0⟩:=tG h2;have hT:P.underlying T2=some (.int k):=by cases d2<;>simp[IH]at q0;subst q0;exact x0
   cases v<;>simp only[ev]at O<;>try(cases O;done)
   cases O;exact XZ Z B ⟨⟨d,hd⟩,hT⟩ K
  .cases H
 case cvS=>
  split at H
  .rename_i T T2 x B;simp only[bY]at H;obtain⟨⟨h1,h2⟩,h3⟩:=H;obtain⟨v,rfl,K⟩:=(hV _ h3).one;obtain⟨e,t0,c0⟩:=Qp h1;obtain⟨d2,x0,q0⟩:=tG h2;have n0:P.underlying T2=some .string:=by cases d2<;>simp[zG]at q0;exact x0
   simp only[ev]at O;split at O
   .cases O
   .rename_i s0;simp only[gT]at O;obtain⟨es,h4,l,h5,O⟩:=O;cases O;exact YN Z B t0 c0 n0 K (by simpa using s0) h4 h5 Y
  .cases H
 case cvB=>
  split at H
  .rename_i T T2 x B;simp only[bY]at H;obtain⟨⟨h1,h2⟩,h3⟩:=H;obtain⟨v,rfl,K⟩:=(hV _ h3).one;obtain⟨e,t0,c0⟩:=Qp h2;obtain⟨d2,x0,q0⟩:=tG h1;cases v<;>simp only[ev]at O<;>try(cases O;done)
   cases O;exact YO Z B x0 t0 c0 K Y
  .cases H
 case min=>
  split at H
  .rename_i M y0 B;split at H
   .rename_i x y hx;obtain⟨v,u,rfl,K,L⟩:=(hV _ H).two;have ha:M=#[x,y]:=by rw[<-hx]
    subst ha;cases v<;>simp only[ev]at O<;>try(cases O;done)
    cases u<;>simp only[ev]at O<;>try(cases O;done)
    cases O;have:_=_:=Y;subst this;exact X0 Z B K L
   .cases H
  .cases H
 case max=>
  split at H
  .rename_i M y0 B;split at H
   .rename_i x y hx;obtain⟨v,u,rfl,K,L⟩:=(hV _ H).two;have ha:M=#[x,y]:=by rw[<-hx]
    subst ha;cases v<;>simp only[ev]at O<;>try(cases O;done)
    cases u<;>simp only[ev]at O<;>try(cases O;done)
    cases O;have:_=_:=Y;subst this;exact X1 Z B K L
   .cases H
  .cases H
 case nilck=>
  split at H
  .rename_i x B;obtain⟨v,rfl,K⟩:=(hV _ H).one;refine(X2 Z B K O Y).mw ?_;simp only[ev]at O;split at O
   .split at O<;>first|(cases O;rfl)|cases O
   .cases O;rfl
   .cases O;rfl
   .cases O;rfl
   .cases O
  .cases H
 case mkb f=>
  split at H
  .rename_i f' fst r0 B;split at H
   .rename_i y hy;simp only[bY,dN]at H;obtain⟨⟨rfl,h2⟩,h3⟩:=H;have hc:r0=#[]:=by simpa using h2
    have hf:fst=#[y]:=by rw[<-lK (xs:=fst),hy]
    subst hc;subst hf;obtain⟨v,rfl,K⟩:=(hV _ h3).one;cases v<;>simp only[ev]at O<;>first|(cases O;done)|skip
    cases O;exact Yp Z B K Y
   .cases H
  .cases H
 case mkf f=>
  split at H
  .rename_i f' fst r0 B;simp only[bY,dN]at H;obtain⟨⟨rfl,h2⟩,h3⟩:=H;have hf:fst=#[]:=by simpa using h2
   subst hf;have K:=hV _ h3;cases F<;>(cases O;exact Yo Z B K.1 K.2 (Qo Y))
  .cases H
 case mkmap z=>
  split at H
  .rename_i T B;have:F=[]:=by
    have:xs=[]:=by simpa using H
    subst this;exact dB hlen.symm
   subst this;cases O;exact Yx Z B v0
  .cases H
 case lkp ok ag kz z=>
  split at H
  .rename_i T x i j0 B;simp only[bY,dN]at H;obtain⟨⟨⟨rfl,h1⟩,h2⟩,h3⟩:=H;obtain⟨v,u,rfl,K,L⟩:=(hV _ h3).two;cases v<;>simp only[ev]at O<;>try(cases O;done)
   split at O
   .rename_i r hr;cases O;exact Yz Z B h1 h2 K L hr Y.1 Y.2
   .cases O
  .cases H
 case mupd kz ag n=>
  split at H
  rotate_right
  .cases H
  all_goals
   rename_i T x i y B;simp only[bY]at H;obtain⟨h1,h3⟩:=H;obtain⟨v,u,q,rfl,K,L,hq⟩:=(hV _ h3).three;cases v<;>simp only[ev]at O<;>try(cases O;done)
   split at O
   .rename_i r hr;cases O;obtain⟨k1,k2,k3,k4,k5,_,k6⟩:=Y;exact YC Z (by first|exact .inl B|exact .inr B) h1 K L hq hr k1 k2 k3 k4 k5 k6
   .cases O
 case lenM=>
  split at H
  .rename_i M y0 B;split at H
   .rename_i x t hx ht;simp only[bY]at H;obtain⟨h1,h2⟩:=H;obtain⟨v,rfl,K⟩:=(hV _ h2).one;have ha:M=#[x]:=by rw[<-hx]
    have z0:y0[0]? =some t:=by rw[<-iU,ht];rfl
    subst ha;obtain⟨d,hd,x0⟩:=tG h1;cases v<;>simp only[ev]at O<;>try(cases O;done)
    split at O
    .rename_i r hr;cases O;refine YD Z B z0 ?_ K hr Y;cases d<;>simp only[ID,bZ]at x0;exact⟨_,_,hd⟩
    .cases O
   .cases H
  .cases H
 case rng=>
  split at H
  .rename_i T x B;simp only[bY]at H;obtain⟨h1,h2⟩:=H;obtain⟨v,rfl,K⟩:=(hV _ h2).one;obtain⟨d,hd,x0⟩:=tG h1;cases v<;>simp only[ev]at O<;>try(cases O;done)
   split at O
   .rename_i r hr;cases O;refine YF Z B ?_ K hr Y v0;cases d<;>simp only[ID,bZ]at x0;exact⟨_,_,hd⟩
   .cases O
  .cases H
 case entry d=>cases F<;>(simp[ev]at O)
 case next d=>cases F<;>(simp[ev]at O)
 case eqNil=>cases F<;>(simp[ev]at O)
 case call f=>cases F<;>(simp[ev]at O)
 case callv=>cases F<;>(simp[ev]at O)
 case callb=>cases F<;>(simp[ev]at O)
 case callm f=>cases F<;>(simp[ev]at O)
 case callvm=>cases F<;>(simp[ev]at O)
end
structure Cx where
 P:Program
 G:o5
def qX:Nat->Loc:=λ _=>.fresh
def PFn(C:Cx)(f:FuncId)(as:List A)(r:A):Prop:=
 ∀(w:World) (W:Nat->Prop) (vs:List Value),zB w W C.G->(∀b,W b->b<w.heap.size)->vs.length=as.length->
  (∀(i:Nat) (v:Value) (a:A),vs[i]? =some v->as[i]? =some a->RepV w W qX v a)->
  Calls C.P f vs.toArray w λ e w'=>∃v,e=.returned v/\Keeps (λ _=>False) w w'/\Rep w' W qX v r
def look{α:Type}:List (Nat×α)->Nat->Option α
 |[],_=>none
 |q::r,n=>if q.1=n then some q.2 else look r n
def rm{α:Type}(n:Nat):List (Nat×α)->List (Nat×α)
 |[]=>[]
 |q::r=>if q.1=n then rm n r else q::rm n r
def CY{α:Type}:List Nat->List (Nat×α)->List (Nat×α)
 |[],l=>l
 |n::ns,l=>CY ns (rm n l)
structure St where
 fr:List (Nat×A)
 mem:List (Nat×Row)
 nx:Nat
def St.slot(st:St)(t:Nat):A:=(look st.fr t).getD .any
def St.m(st:St)(x:Nat):MS:=if st.nx<=x then .fresh else match look st.mem x with
 |some r=>.row r
 |none=>.dead
def St.toS(st:St):S:=⟨st.slot,st.m⟩
def putM:List (Nat×MS)->List (Nat×Row)->List (Nat×Row)
 |[],m=>m
 |(x,.row r)::q,m=>putM q ((x,r)::rm x m)
 |(x,_)::q,m=>putM q (rm x m)
def nxt(nx:Nat):List (Nat×MS)->Nat
 |[]=>nx
 |q::r=>nxt (if q.1=nx then nx+1 else nx) r
def putF(d:Option Nat)(v:A)(fr:List (Nat×A)):List (Nat×A):=match d with
 |none=>fr
 |some d=>(d,v)::rm d fr
def St.app(st:St)(d:Option Nat)(v:A)(mw:List (Nat×MS)):St:=⟨putF d v st.fr,putM mw st.mem,nxt st.nx mw⟩
def frz1(m:Nat->MS):A->A
 | .own x lo n=>match m x with
  | .row r=>.sl ((r.es.drop lo).take n)
  |_=>.any
 |a=>a
def mK:List A->Bool
 |[]=>true
 |a::as=>a.pure1&&mK as
def frz(m:Nat->MS):A->A
 | .agg H=>if mK H then .agg H else .agg (H.map (frz1 m))
 |a=>frz1 m a
def sM(m:Nat->MS):A->Prop
 | .own x lo n=>match m x with
  | .row r=>lo+n<=r.es.length/\tX ((r.es.drop lo).take n)
  |_=>False
 |a=>a.pure1=true
def rK(m:Nat->MS):A->Prop
 | .agg H=>if mK H then True else∀c∈H,sM m c
 | .clo _ H=>H=[]
 |a=>sM m a
def oT(m:Nat->MS):List A->List A
 |[]=>[]
 |a::as=>frz m a::oT m as
def pM(m:Nat->MS):List A->Prop
 |[]=>True
 |a::as=>rK m a/\pM m as
def qY:A->List Nat
 | .own x _ _=>[x]
 |_=>[]
def tH:A->List Nat
 | .agg H=>if mK H then[]else H.flatMap qY
 |a=>qY a
def qZ:List A->List Nat
 |[]=>[]
 |a::as=>tH a++qZ as
def A.scal1:A->Bool
 | .bool _|.int _ _|.str _=>true
 |_=>false
def nB:List A->Bool
 |[]=>true
 |a::as=>a.scal1&&nB as
def A.scal2:A->Bool
 | .agg H=>nB H
 |a=>a.scal1
def FF:List A->Bool
 |[]=>true
 |a::as=>a.scal2&&FF as
def A.scal:A->Bool
 | .tup vs=>FF vs
 |a=>a.scal2
def oE(m:Nat->MS):List Nat->List (Nat×MS)
 |[]=>[]
 |x::xs=>match m x with
  | .row r=>(x,.row ⟨true,r.sz,r.z,r.es⟩)::oE m xs
  |_=>oE m xs
def nW(m:Nat->MS)(H:List A)(r:A):List (Nat×MS):=if r.scal then[]else oE m (qZ H)
def pX(st:St):Option (Nat×Bool)->Option Bool
 |none=>some true
 |some q=>match st.slot q.1 with
  | .bool b=>some (if q.2 then b else !b)
  | .cnd g (.bool b)=>some (g&&if q.2 then b else !b)
  |_=>none
def oF(g:Option (Nat×Bool))(b:Bool)(v:A):A:=match g with
 |none=>v
 |some _=>.cnd b v
def mV(C:Cx)(st:St):List PX->List A
 |[]=>[]
 |p::ps=>(xv C.G st.slot p).nc::mV C st ps
def pN(C:Cx)(st:St):List PX->Prop
 |[]=>True
 |p::ps=>(xv C.G st.slot p).gd=true/\pN C st ps
def A.isVV:A->Bool
 | .any|.tup _|.cnd _ _=>false
 |_=>true
def rho(l:List (Nat×Nat))(x:Nat):Nat:=(look l x).getD x
def ren0(l:List (Nat×Nat)):A->A
 | .own x lo n=>.own (rho l x) lo n
 | .ptr x i j=>.ptr (rho l x) i j
 | .mp x=>.mp (rho l x)
 | .it x=>.it (rho l x)
 |a=>a
def ren1(l:List (Nat×Nat)):A->A
 | .clo f H=>.clo f (H.map (ren0 l))
 |a=>ren0 l a
def ren(l:List (Nat×Nat)):A->A
 | .agg H=>if mK H then .agg H else .agg (H.map (ren1 l))
 |a=>ren1 l a
def renR(l:List (Nat×Nat)):A->A
 | .tup vs=>.tup (vs.map (ren l))
 |a=>ren l a
def FG(nx:Nat):A->Prop
 | .own x _ _=>x<nx
 | .ptr x _ _=>x<nx
 | .mp x=>x<nx
 | .it x=>x<nx
 |_=>True
def xF(nx:Nat):A->Prop
 | .clo _ H=>∀c∈H,FG nx c
 |a=>FG nx a
def pureEs:List (List A)->Bool
 |[]=>true
 |c::cs=>mK c&&pureEs cs
def pY(l:List (Nat×Nat))(es:List (List A)):List (List A):=if pureEs es then es else es.map (·.map (ren1 l))
def idEs(nx:Nat)(es:List (List A)):Prop:=if pureEs es then True else∀c∈es,∀a∈c,xF nx a
def AS:List Nat->Bool
 |[]=>true
 |x::xs=>!xs.contains x&&AS xs
def MFn(C:Cx)(f:FuncId)(as:List A)(ms:List (Nat×Row))(k:Nat)(r:A)(ms':List (Nat×Row))(k':Nat):Prop:=
 ∀(w:World) (W:Nat->Prop) (μ:Nat->Loc) (vs:List Value),zB w W C.G->(∀b,W b->b<w.heap.size)->vs.length=as.length->
  (∀(i:Nat) (v:Value) (a:A),vs[i]? =some v->as[i]? =some a->RepV w W μ v a)->rI w W μ (⟨[],ms,k⟩:St).m->
  (∀x y b H,μ x=.at_ b->μ y=.at_ H->b.b=H.b->x=y)->
  Calls C.P f vs.toArray w λ e w'=>∃v W' μ',e=.returned v/\Step (⟨[],ms,k⟩:St).m (⟨[],ms',k'⟩:St).m w w' W W' μ μ'/\Rep w' W' μ' v r
def A.hands:A->Bool
 | .own _ _ _|.ptr _ _ _=>true
 | .clo _ H=>!H.isEmpty
 | .agg H=>!mK H
 |_=>false
def IJ(nx:Nat):List A->Prop
 |[]=>True
 |c::cs=>xF nx c/\IJ nx cs
def Qs(nx:Nat):A->Prop
 | .agg H=>IJ nx H
 |a=>xF nx a
def argM(m:Nat->MS)(l:List (Nat×Nat))(k:Nat)(v a:A):Prop:=
 if a.hands then v=ren l a/\Qs k a else rK m v/\frz m v=a
def zH(m:Nat->MS)(l:List (Nat×Nat))(k:Nat):List A->List A->Prop
 |v::vs,a::as=>argM m l k v a/\zH m l k vs as
 |[],[]=>True
 |_,_=>False
def fzM:List A->List A->List Nat
 |v::vs,a::as=>(if a.hands then[]else tH v)++fzM vs as
 |_,_=>[]
def CZ(m:Nat->MS)(l:List (Nat×Nat))(k:Nat)(O:List Nat):List (Nat×Row)->Prop
 |[]=>True
 |q::r=>(match m (rho l q.1)with
   | .row H=>H.ro=false/\H.sz=q.2.sz/\H.es=pY l q.2.es
   |_=>False)/\q.2.ro=false/\q.1<k/\idEs k q.2.es/\O.contains (rho l q.1)=false/\Nat.ble 1 q.2.sz=true/\CZ m l k O r
def p9{α:Type}(ms:List (Nat×α)):Nat->Bool
 |0=>true
 |n+1=>(look ms n).isSome&&p9 ms n
def okM(m:Nat->MS)(nx:Nat)(l:List (Nat×Nat))(H as:List A)(ms:List (Nat×Row))(k k':Nat):Prop:=
 zH m l k H as/\CZ m l k (fzM H as) ms/\AS (ms.map λ q=>rho l q.1)=true/\AS (ms.map (·.1))=true/\p9 ms k=true/\Nat.ble k k'=true/\(∀q∈ms,rho l q.1<nx)/\(∀q∈l,q.1<k)
def newL(k nx:Nat):Nat->List (Nat×Nat)
 |0=>[]
 |n+1=>(k,nx)::newL (k+1) (nx+1) n
def entM(l:List (Nat×Nat)):Option Row->MS
 |some r=>.row ⟨r.ro,r.sz,r.z,pY l r.es⟩
 |none=>.dead
def pO(l:List (Nat×Nat))(ms':List (Nat×Row)):List Nat->List (Nat×MS)
 |[]=>[]
 |x::xs=>(rho l x,entM l (look ms' x))::pO l ms' xs
def mwM(m:Nat->MS)(l:List (Nat×Nat))(H as:List A)(ms ms':List (Nat×Row))(k k':Nat):List (Nat×MS):=
 oE m (fzM H as)++pO l ms' (ms.map (·.1)++(List.range (k'-k)).map (k+·))
def MS.like:MS->MS->Prop
 | .row r,.row r'=>r.ro=r'.ro/\r.sz=r'.sz/\r.es=r'.es/\(r.sz=0->r.z=r'.z)
 | .dead,.dead=>True
 |_,_=>False
def zI(m:Nat->MS):List (Nat×MS)->Prop
 |[]=>True
 |q::r=>(m q.1).like q.2/\zI m r
def tI(C:Cx)(m:Nat->MS)(nx:Nat)(f:FuncId)(H:List A)(U:Option (Nat×Bool))(g:Bool)(Y:Prop)(F:Nat->Prop)(K:A->List (Nat×MS)->Prop):Prop:=
 ∃l as ms k r O k',(g=true->Y/\MFn C f as ms k r O k'/\okM m nx l H as ms k k'/\F (k'-k))/\(g=false->k=k'/\zI m (mwM m (l++newL k nx (k'-k)) H as ms O k k'))/\
  (U=none\/(renR (l++newL k nx (k'-k)) r).isVV=true)/\(∀g c,r≠.cnd g c)/\K (oF U g (renR (l++newL k nx (k'-k)) r)) (mwM m (l++newL k nx (k'-k)) H as ms O k k')
def PO.lax:PO->Bool
 | .len|.bin _|.not=>true
 |_=>false
def YQ{id id':Nat}{m:Nat->MS}{O:PO}{H:List A}(h:O.lax=true):ev id m O H=ev id' m O H:=by cases O<;>first|(cases h;done)|rfl|(rcases H with _|⟨x,_|⟨y,_|⟨z,U⟩⟩⟩<;>first|rfl|(cases x<;>first|rfl|(cases y<;>rfl)))
def aop(C:Cx)(p:POp)(st:St)(K:St->Prop):Prop:=
 match pX st p.g with
 |none=>False
 |some g=>
  match p.po with
  | .pick=>match p.xs with
   |[c,x,y]=>match(xv C.G st.slot c).nc,(xv C.G st.slot x).nc,(xv C.G st.slot y).nc with
    | .bool b,.bool u,.bool v=>(g=true->(xv C.G st.slot c).gd=true/\(b=true->(xv C.G st.slot x).gd=true)/\(b=false->(xv C.G st.slot y).gd=true))/\K (st.app p.dst (oF p.g g (.bool (cond b u v))) [])
    |_,_,_=>False
   |_=>False
  | .call f=>∃r,(g=true->pN C st p.xs/\pM st.m (mV C st p.xs)/\PFn C f (oT st.m (mV C st p.xs)) r)/\
    (p.g=none\/nW st.m (mV C st p.xs) r=[]/\r.isVV=true)/\K (st.app p.dst (oF p.g g r) (nW st.m (mV C st p.xs) r))
  | .callv=>match mV C st p.xs with
   | .clo f caps::vals=>∃r,(g=true->pN C st p.xs/\pG C.P f=true/\pM st.m (vals++caps)/\PFn C f (oT st.m (vals++caps)) r)/\
    (p.g=none\/nW st.m (vals++caps) r=[]/\r.isVV=true)/\K (st.app p.dst (oF p.g g r) (nW st.m (vals++caps) r))
   |_=>False
  | .callb=>match mV C st p.xs with
   | .bnd f cs::vals=>∃r,(g=true->pN C st p.xs/\pG C.P f=true/\pM st.m (.agg cs::vals)/\PFn C f (oT st.m (.agg cs::vals)) r)/\
    (p.g=none\/nW st.m (.agg cs::vals) r=[]/\r.isVV=true)/\K (st.app p.dst (oF p.g g r) (nW st.m (.agg cs::vals) r))
   |_=>False
  | .callm f=>tI C st.m st.nx f (mV C st p.xs) p.g g (pN C st p.xs) (λ _=>True) λ v O=>K (st.app p.dst v O)
  | .callvm=>match mV C st p.xs with
   | .clo f caps::vals=>tI C st.m st.nx f (vals++caps) p.g g (pN C st p.xs/\pG C.P f=true) (λ _=>True) λ v O=>K (st.app p.dst v O)
   |_=>False
  |po=>match ev st.nx st.m po (mV C st p.xs)with
   |some H=>(g=true->pN C st p.xs/\H.obl)/\(p.g=none\/H.mw=[]/\H.v.isVV=true)/\K (st.app p.dst (oF p.g g H.v) H.mw)
   |none=>g=false/\po.lax=true/\K (st.app p.dst (oF p.g g (.bool false)) [])
def oP(fr:Nat->A):Option (Nat×Bool)->Option Bool
 |none=>some true
 |some q=>match fr q.1 with
  | .bool b=>some (if q.2 then b else !b)
  | .cnd g (.bool b)=>some (g&&if q.2 then b else !b)
  |_=>none
def nO(C:Cx)(fr:Nat->A):List PX->List A
 |[]=>[]
 |p::ps=>(xv C.G fr p).nc::nO C fr ps
def gdsF(C:Cx)(fr:Nat->A):List PX->Prop
 |[]=>True
 |p::ps=>(xv C.G fr p).gd=true/\gdsF C fr ps
def aopS(C:Cx)(p:POp)(s:S)(id:Nat)(K:A->List (Nat×MS)->Prop):Prop:=
 match oP s.fr p.g with
 |none=>False
 |some g=>
  match p.po with
  | .pick=>match p.xs with
   |[c,x,y]=>match(xv C.G s.fr c).nc,(xv C.G s.fr x).nc,(xv C.G s.fr y).nc with
    | .bool b,.bool u,.bool v=>(g=true->(xv C.G s.fr c).gd=true/\(b=true->(xv C.G s.fr x).gd=true)/\(b=false->(xv C.G s.fr y).gd=true))/\K (oF p.g g (.bool (cond b u v))) []
    |_,_,_=>False
   |_=>False
  | .call f=>∃r,(g=true->gdsF C s.fr p.xs/\pM s.mem (nO C s.fr p.xs)/\PFn C f (oT s.mem (nO C s.fr p.xs)) r)/\
    (p.g=none\/nW s.mem (nO C s.fr p.xs) r=[]/\r.isVV=true)/\K (oF p.g g r) (nW s.mem (nO C s.fr p.xs) r)
  | .callv=>match nO C s.fr p.xs with
   | .clo f caps::vals=>∃r,(g=true->gdsF C s.fr p.xs/\pG C.P f=true/\pM s.mem (vals++caps)/\PFn C f (oT s.mem (vals++caps)) r)/\
    (p.g=none\/nW s.mem (vals++caps) r=[]/\r.isVV=true)/\K (oF p.g g r) (nW s.mem (vals++caps) r)
   |_=>False
  | .callb=>match nO C s.fr p.xs with
   | .bnd f cs::vals=>∃r,(g=true->gdsF C s.fr p.xs/\pG C.P f=true/\pM s.mem (.agg cs::vals)/\PFn C f (oT s.mem (.agg cs::vals)) r)/\
    (p.g=none\/nW s.mem (.agg cs::vals) r=[]/\r.isVV=true)/\K (oF p.g g r) (nW s.mem (.agg cs::vals) r)
   |_=>False
  | .callm f=>tI C s.mem id f (nO C s.fr p.xs) p.g g (gdsF C s.fr p.xs) (λ n=>∀x,id<=x->x<id+n->s.mem x=.fresh) K
  | .callvm=>match nO C s.fr p.xs with
   | .clo f caps::vals=>tI C s.mem id f (vals++caps) p.g g (gdsF C s.fr p.xs/\pG C.P f=true) (λ n=>∀x,id<=x->x<id+n->s.mem x=.fresh) K
   |_=>False
  |po=>match ev id s.mem po (nO C s.fr p.xs)with
   |some H=>(g=true->gdsF C s.fr p.xs/\H.obl)/\(p.g=none\/H.mw=[]/\H.v.isVV=true)/\K (oF p.g g H.v) H.mw
   |none=>g=false/\po.lax=true/\K (oF p.g g (.bool false)) []
def nilQ(K:Bool->Prop):List A->Prop
 |[.sl es]=>∀b:Bool,(b=true->es=[])->K b
 |[.full es]=>∀b:Bool,(b=true->es=[])->K b
 |_=>False
def PO.isNilQ:PO->Bool
 | .eqNil=>true
 |_=>false
def PO.isNext:PO->Bool
 | .next _|.entry _=>true
 |_=>false
def YR:PO->(Nat->MS)->(A->List (Nat×MS)->Prop)->List A->Prop
 | .next d,m,K,vals=>nxtQ d m K vals
 | .entry d,m,K,vals=>entQ d m K vals
 |_,_,_,_=>False
def arun(C:Cx):List POp->St->(St->Prop)->Prop
 |[],st,K=>K st
 |p::ps,st,K=>if p.po.isNilQ=true then p.g=none/\pN C st p.xs/\nilQ (λ b=>arun C ps (st.app p.dst (.bool b) []) K) (mV C st p.xs)else if p.po.isNext=true then p.g=none/\pN C st p.xs/\YR p.po st.m (λ v H=>arun C ps (st.app p.dst v H) K) (mV C st p.xs)else aop C p st λ st'=>arun C ps st' K
def xG{α:Type}(n x:Nat):∀l:List (Nat×α),look (rm n l) x=if x=n then none else look l x
 |[]=>by simp[rm,look]
 |q::r=>by
  unfold rm;split
  .rename_i h;rw[xG n x r]
   by_cases K:x=n
   .simp[K]
   .rw[bX K,bX K];simp only[look];rw[bX om]
  .rename_i h;simp only[look];split
   .rename_i H;rw[bX om]
   .exact xG n x r
def Qt(st:St)(d:Option Nat)(v:A)(mw:List (Nat×MS)):(st.app d v mw).slot=setF st.slot d v:=by
 funext t;simp only[St.slot,St.app,setF,putF];cases d with
 |none=>simp
 |some d=>
  simp only[look,cJ];split
  .rfl
  .rename_i h;rw[xG,bX om]
def mwOk:Nat->List (Nat×MS)->Prop
 |_,[]=>True
 |nx,q::r=>q.1<=nx/\q.2≠.fresh/\mwOk (if q.1=nx then nx+1 else nx) r
def Qu{m:Nat->MS}(x:Nat):∀{mw:List (Nat×MS)} (m':Nat->MS),zI m mw->setM m' mw x=m' x\/(m x).like (setM m' mw x)
 |[],_,_=>.inl rfl
 |q::r,m',h=>by
  simp only[setM];rcases Qu x (λ x=>if x=q.1 then q.2 else m' x) h.2 with e|e
  .rw[e]
   by_cases H:x=q.1
   .subst H;rw[cB rfl];exact .inr h.1
   .rw[bX H];exact .inl rfl
  .exact .inr e
def qN.like{w:World}{W:Nat->Prop}{μ:Nat->Loc}{x:Nat}{p q:MS}(h:qN w W μ x p)(K:p.like q):qN w W μ x q:=by
 cases p<;>cases q<;>first|exact K.elim|exact h|skip
 rename_i r O;obtain⟨ro,U,z,es⟩:=r;obtain⟨Y,B,F,M⟩:=O;obtain⟨rfl,rfl,rfl,L⟩:=K;rcases h with h|⟨k,H,h2|h2⟩
 .exact .inl h
 .exact .inr ⟨k,H,.inl h2⟩
 .have e:U=0:=h2.elim (λ h=>h.2.2.1) (λ h=>h.2.2.1);have V:z=F:=L e;subst V;exact .inr ⟨k,H,.inr h2⟩
def MS.like_ne{p q:MS}(h:p.like q):p≠.fresh/\q≠.fresh:=by cases p<;>cases q<;>first|exact h.elim|exact⟨(nomatch ·),(nomatch ·)⟩
def Mv:∀(mw:List (Nat×MS)) (fr:List (Nat×A)) (mem:List (Nat×Row)) (nx:Nat),mwOk nx mw->∀H,(⟨H,putM mw mem,nxt nx mw⟩:St).m=setM (⟨fr,mem,nx⟩:St).m mw
 |[],fr,mem,nx,_,H=>by simp[putM,nxt,setM,St.m];rfl
 |q::r,fr,mem,nx,h,H=>by
  obtain⟨F,O,B⟩:=h;have e:(λ x=>if x=q.1 then q.2 else(⟨fr,mem,nx⟩:St).m x)=(⟨fr,(match q with|(x,.row r)=>(x,r)::rm x mem|(x,_)=>rm x mem),if q.1=nx then nx+1 else nx⟩:St).m:=by
   funext x;obtain⟨y,U⟩:=q;simp only at F O
   by_cases K:x=y
   .subst K;rw[cB rfl];cases U with
    |fresh=>exact absurd rfl O
    |dead=>simp only[St.m,xG,cH];rw[bX (by split<;>omega)]
    |row r=>simp only[St.m,look,cH];rw[bX (by split<;>omega)]
   .rw[bX K];cases U with
    |fresh=>exact absurd rfl O
    |dead=>
     simp only[St.m,xG,K,cI];split
     .rename_i Y;rw[cB (by split<;>omega)]
     .rename_i Y;rw[bX (by split<;>omega)]
    |row r=>
     simp only[St.m,look,xG,K,cI,show¬y=x by omega];split
     .rename_i Y;rw[cB (by split<;>omega)]
     .rename_i Y;rw[bX (by split<;>omega)]
  simp only[setM,nxt];rw[e];obtain⟨y,U⟩:=q;cases U with
  |fresh=>exact absurd rfl O
  |dead=>exact Mv r fr _ _ B H
  |row M=>exact Mv r fr _ _ B H
end Ab
end Go.Proofs.YtfmnjkfhahfhgaaGreatDoor
