import Derived.Test.YtamndckemppjdaaGreatDoorAbM
import Derived.Lib.ConvBytes
import Derived.Laws.BytesArg
namespace Go.Proofs.YtamndckemppjdaaGreatDoor
namespace Ab
set_option linter.unusedSimpArgs false
set_option linter.unusedVariables false
def zw3:List Operand->List PX->Bool
 |[],[]=>true
 |x::xs,p::ps=>chkX x p&&zw3 xs ps
 |_,_=>false
def zaY0:Operand->Bool
 | .const (.slice none 0 0)=>true
 |_=>false
def zae6(P:Program)(T:TypeId)(f:TypeDesc->Bool):Bool:=match P.underlying T with|some d=>f d|none=>false
def zae7:TypeDesc->Bool|.string=>true|_=>false
def zaM7:TypeDesc->Bool|.slice _=>true|_=>false
def zbV3:TypeDesc->Bool|.bool=>true|_=>false
def zbs8(k:IntKind):TypeDesc->Bool|.int k'=>k==k'|_=>false
def zcf0(P:Program)(T:TypeId)(f off n:Nat)(ag:Bool):Bool:=
 (match P.underlying T with|some (.struct fs)=>(match fs[f]? with|some g=>g.offset==off&&tyOk P g.type ag n|none=>false)|_=>false)
def zcP2(P:Program)(T:TypeId)(n sz:Nat)(ag:Bool):Bool:=
 (match P.underlying T with|some (.array m e)=>m==n&&tyOk P e ag sz|_=>false)
def zx1(P:Program)(f:FuncId):Bool:=match P.funcs[f]? with|some fn=>fn.body.isSome&&!(fn.name== "runtime.NumGoroutine")&&!(f==zF2)|none=>false
def zbe3(P:Program)(T:TypeId):Bool:=(match P.underlying T with|some (.slice e)=>zae6 P e (zbs8 .u8)|_=>false)
def zbF4(P:Program)(t:TypeId)(nm:String)(f:FuncId)(pr:Bool):Bool:=
 (match P.info? t with|some ti=>(match ti.methods.find? (·.name==nm)with|some m=>m.path.toList.isEmpty&&m.func==some (f,pr)|none=>false)|none=>false)&&(match P.underlying t with|some (.pointer e)=>tyOk P e false 1|_=>false)
def zav6(P:Program)(op:Op)(po:PO)(xs:List PX):Bool:=
 match po with
 | .mv=>(match op with|.move x=>zw3 [x] xs|.assign x=>zw3 [x] xs|_=>false)
 | .nilown _ _=>(match op with|.move x=>zaY0 x&&xs.length==1|.assign x=>zaY0 x&&xs.length==1|_=>false)
 | .pick=>(match op with|.pick c x y=>zw3 [c,x,y] xs|_=>false)
 | .box _=>(match op with|.box _ x=>zw3 [x] xs|_=>false)
 | .alloc n z=>(match op with|.alloc T=>zaI9 P T z&&z.length==n&&xs.isEmpty|_=>false)
 | .build z ps=>(match op with|.build T parts=>zaI9 P T z&&zbs4 P T parts.toList ps&&zw3 (parts.toList.map (·.2)) xs|_=>false)
 | .bslice sz z=>(match op with|.buildSlice T n parts=>n==xs.length&&bsTy P T sz z&&zav4 0 parts.toList&&zw3 (parts.toList.map (·.2)) xs|_=>false)
 | .bown sz z=>(match op with|.buildSlice T n parts=>n==xs.length&&bsTy P T sz z&&zav4 0 parts.toList&&zw3 (parts.toList.map (·.2)) xs|_=>false)
 | .load n ag=>(match op with|.load T x=>tyOk P T ag n&&zw3 [x] xs|_=>false)
 | .store n=>(match op with|.store T x y=>szIs P T n&&zw3 [x,y] xs|_=>false)
 | .bin b=>(match op with|.binOp b' _ x y _=>b==b'&&zw3 [x,y] xs|_=>false)
 | .eqNil=>(match op with|.binOp b T x y _=>b== .eql&&zae6 P T zaM7&&zaY0 y&&zw3 [x] xs|_=>false)
 | .eqb neg=>(match op with|.binOp b' T x y _=>(b'==if neg then .neq else .eql)&&zae6 P T zbV3&&zw3 [x,y] xs|_=>false)
 | .eqa neg ks=>(match op with|.binOp b' T x y _=>(b'==if neg then .neq else .eql)&&zaq8 P 20 T==some ks&&zae6 P T aggD&&!P.eqGuardType P.depth T&&zw3 [x,y] xs|_=>false)
 | .not=>(match op with|.unOp .not _ x=>zw3 [x] xs|_=>false)
 | .neg=>(match op with|.unOp .neg _ x=>zw3 [x] xs|_=>false)
 | .field off n ag=>(match op with|.field T x f=>zcf0 P T f off n ag&&zw3 [x] xs|_=>false)
 | .faddr off=>(match op with|.fieldAddr T x f=>zbe2 P T f off&&zw3 [x] xs|_=>false)
 | .iaA n sz=>(match op with|.indexAddr T x i=>zbJ2 P T n sz&&zw3 [x,i] xs|_=>false)
 | .iaS sz _=>(match op with|.indexAddr T x i=>zbo2 P T sz&&zw3 [x,i] xs|_=>false)
 | .idxA n sz ag=>(match op with|.index T x i=>zcP2 P T n sz ag&&zw3 [x,i] xs|_=>false)
 | .idxS=>(match op with|.index T x i=>zae6 P T zae7&&zw3 [x,i] xs|_=>false)
 | .slc sz l h m=>(match op with|.slice T x lo hi mx=>zae6 P T zaM7&&zbg2 P T sz&&l==lo.isSome&&h==hi.isSome&&m==mx.isSome&&zw3 ([x]++lo.toList++hi.toList++mx.toList) xs|_=>false)
 | .slcS l h=>(match op with|.slice T x lo hi mx=>zae6 P T zae7&&l==lo.isSome&&h==hi.isSome&&mx.isNone&&zw3 ([x]++lo.toList++hi.toList) xs|_=>false)
 | .ext i=>(match op with|.extract x i'=>i==i'&&zw3 [x] xs|_=>false)
 | .len=>(match op with|.call {callee:=.builtin .len,args,argTypes}=>(match args.toList,argTypes.toList with|[x],[t]=>zae6 P t zaM7&&zw3 [x] xs|_,_=>false)|_=>false)
 | .lenS=>(match op with|.call {callee:=.builtin .len,args,argTypes}=>(match args.toList,argTypes.toList with|[x],[t]=>zae6 P t zae7&&zw3 [x] xs|_,_=>false)|_=>false)
 | .append sz by_ _=>(match op with|.call {callee:=.builtin .append,args,argTypes}=>(match args.toList,argTypes.toList with|[x,y],[T,U]=>zba7 P T U sz by_&&zw3 [x,y] xs|_,_=>false)|_=>false)
 | .appc sz by_=>(match op with|.call {callee:=.builtin .append,args,argTypes}=>(match args.toList,argTypes.toList with|[x,y],[T,U]=>zba7 P T U sz by_&&zw3 [x,y] xs|_,_=>false)|_=>false)
 | .apl sz by_=>(match op with|.call {callee:=.builtin .append,args,argTypes}=>(match args.toList,argTypes.toList with|[x,y],[T,U]=>zba7 P T U sz by_&&zw3 [x,y] xs|_,_=>false)|_=>false)
 | .copy sz=>(match op with|.call {callee:=.builtin .copy,args,argTypes}=>(match args.toList,argTypes.toList with|[x,y],[T,_]=>zbo2 P T sz&&zw3 [x,y] xs|_,_=>false)|_=>false)
 | .clear sz z=>(match op with|.call {callee:=.builtin .clear,args,argTypes}=>(match args.toList,argTypes.toList with|[x],[T]=>zbV0 P T sz z&&zw3 [x] xs|_,_=>false)|_=>false)
 | .mk sz by_ z=>(match op with|.makeSlice T x y=>mkTy P T sz by_ z&&zw3 [x,y] xs|_=>false)
 | .conv k=>(match op with|.convert T T2 x=>zae6 P T (λ _=>true)&&zae6 P T2 (zbs8 k)&&zw3 [x] xs|_=>false)
 | .cvS=>(match op with|.convert T T2 x=>zbe3 P T&&zae6 P T2 zae7&&zw3 [x] xs|_=>false)
 | .cvB=>(match op with|.convert T T2 x=>zae6 P T zae7&&zbe3 P T2&&zw3 [x] xs|_=>false)
 | .min=>(match op with|.call {callee:=.builtin .min,args,.. }=>(match args.toList with|[x,y]=>zw3 [x,y] xs|_=>false)|_=>false)
 | .max=>(match op with|.call {callee:=.builtin .max,args,.. }=>(match args.toList with|[x,y]=>zw3 [x,y] xs|_=>false)|_=>false)
 | .nilck=>(match op with|.nilCheck x=>zw3 [x] xs|_=>false)
 | .mki T=>(match op with|.makeInterface T' x=>T==T'&&zae6 P T zby1&&zw3 [x] xs|_=>false)
 | .tas T=>(match op with|.typeAssert x _ T' false=>T==T'&&zae6 P T zby1&&zw3 [x] xs|_=>false)
 | .inv t nm f pr=>(match op with|.call {callee:=.invoke x nm',args,.. }=>nm==nm'&&zw3 (x::args.toList) xs&&zbF4 P t nm f pr&&zx1 P f|_=>false)
 | .mkf f=>(match op with|.makeFunc (.func f') fst caps=>f==f'&&fst.isEmpty&&zw3 caps.toList xs|_=>false)
 | .mkb f=>(match op with|.makeFunc (.func f') fst caps=>(match fst.toList with|[y]=>f==f'&&caps.isEmpty&&zw3 [y] xs|_=>false)|_=>false)
 | .call f=>(match op with|.call {callee:=.value (.func f'),args,.. }=>f==f'&&zw3 args.toList xs&&zx1 P f|_=>false)
 | .callm f=>(match op with|.call {callee:=.value (.func f'),args,.. }=>f==f'&&zw3 args.toList xs&&zx1 P f|_=>false)
 | .callv=>(match op with|.call {callee:=.value (.tmp t),args,.. }=>zw3 (.tmp t::args.toList) xs|_=>false)
 | .callb=>(match op with|.call {callee:=.value (.tmp t),args,.. }=>zw3 (.tmp t::args.toList) xs|_=>false)
 | .mkmap _=>(match op with|.makeMap _ none=>xs.isEmpty|_=>false)
 | .lkp ok ag kz z=>(match op with|.lookup T x i ok'=>ok==ok'&&zbg8 P T kz&&zbV1 P T ag z&&zw3 [x,i] xs|_=>false)
 | .mupd kz _ _=>(match op with|.mapUpdate T x i y=>zbg8 P T kz&&zw3 [x,i,y] xs|.insert T x i y=>zbg8 P T kz&&zw3 [x,i,y] xs|_=>false)
 | .lenM=>(match op with|.call {callee:=.builtin .len,args,argTypes}=>(match args.toList,argTypes.toList with|[x],[t]=>zae6 P t zbJ4&&zw3 [x] xs|_,_=>false)|_=>false)
 | .rng=>(match op with|.range T x=>zae6 P T zbJ4&&zw3 [x] xs|_=>false)
 | .next _=>(match op with|.next x false=>zw3 [x] xs|_=>false)
 | .entry _=>(match op with|.entry x=>zw3 [x] xs|_=>false)
 | .callvm=>(match op with|.call {callee:=.value (.tmp t),args,.. }=>zw3 (.tmp t::args.toList) xs|_=>false)
section
variable {P:Program} {o:Oper} {a:Act} {E:Env} {s:S} {w:World} {W:Nat→Prop} {μ:Nat→Loc}
def Vals(w:World)(W:Nat->Prop)(μ:Nat->Loc)(a:Act)(xs:List Operand)(vs:List A):Prop:=
 xs.length=vs.length/\∀(i:Nat) (x:Operand) (v:A),xs[i]? =some x->vs[i]? =some v->Rep w W μ (a.eval x) v
theorem Vals.one{x:Operand}{vs:List A}(h:Vals w W μ a [x] vs):∃v,vs=[v]/\Rep w W μ (a.eval x) v:=by
 match vs,h.1 with
 |[v],_=>exact⟨v,rfl,h.2 0 x v rfl rfl⟩
theorem Vals.two{x y:Operand}{vs:List A}(h:Vals w W μ a [x,y] vs):∃v u,vs=[v,u]/\Rep w W μ (a.eval x) v/\Rep w W μ (a.eval y) u:=by
 match vs,h.1 with
 |[v,u],_=>exact⟨v,u,rfl,h.2 0 x v rfl rfl,h.2 1 y u rfl rfl⟩
theorem Vals.three{x y z:Operand}{vs:List A}(h:Vals w W μ a [x,y,z] vs):∃v u t,vs=[v,u,t]/\Rep w W μ (a.eval x) v/\Rep w W μ (a.eval y) u/\Rep w W μ (a.eval z) t:=by
 match vs,h.1 with
 |[v,u,t],_=>exact⟨v,u,t,rfl,h.2 0 x v rfl rfl,h.2 1 y u rfl rfl,h.2 2 z t rfl rfl⟩
theorem Vals.four{x y z q:Operand}{vs:List A}(h:Vals w W μ a [x,y,z,q] vs):∃v u t r,vs=[v,u,t,r]/\Rep w W μ (a.eval x) v/\Rep w W μ (a.eval y) u/\Rep w W μ (a.eval z) t/\Rep w W μ (a.eval q) r:=by
 match vs,h.1 with
 |[v,u,t,r],_=>exact⟨v,u,t,r,rfl,h.2 0 x v rfl rfl,h.2 1 y u rfl rfl,h.2 2 z t rfl rfl,h.2 3 q r rfl rfl⟩
theorem zA5{T:TypeId}{f:TypeDesc->Bool}(h:zae6 P T f=true):∃d,P.underlying T=some d/\f d=true:=by
 unfold zae6 at h;split at h
 .rename_i d hd;exact⟨d,hd,h⟩
 .cases h
end
section
variable {P:Program} {o:Oper} {a:Act} {E:Env} {s:S} {w:World} {W:Nat→Prop} {μ:Nat→Loc}
theorem zq3.mw{av:A}{m m' m'':Nat->MS}(h:zq3 P o a w W μ m av m')(e:m'=m''):zq3 P o a w W μ m av m'':=e▸h
theorem zaQ6{parts:List (Nat×Operand)}{vs:List A}(h:Vals w W μ a (parts.map (·.2)) vs):
  parts.length=vs.length/\∀(i:Nat) (p:Nat×Operand) (x:A),parts[i]? =some p->vs[i]? =some x->Rep w W μ (a.eval p.2) x:=
 ⟨by simpa using h.1,λ i p x h1 h2=>h.2 i p.2 x (by simp[h1]) h2⟩
theorem zba8{x:Operand}(h:zaY0 x=true):x=.const (.slice none 0 0):=by
 unfold zaY0 at h;split at h
 .rfl
 .cases h
theorem zbo7:∀{xs:List A},allK xs=true->∀x∈xs,x.isK=true
 |x::xs,h,y,hy=>by
  simp only[allK,cF]at h;rcases dB.1 hy with rfl|hy
  .exact h.1
  .exact zbo7 h.2 y hy
theorem zaU0{T:TypeId}(h:zbe3 P T=true):∃e,P.underlying T=some (.slice e)/\P.underlying e=some (.int .u8):=by
 unfold zbe3 at h;split at h
 .rename_i e he;obtain⟨d,hd,hd2⟩:=zA5 h;refine⟨e,he,?_⟩;cases d<;>simp[zbs8]at hd2;subst hd2;exact hd
 .cases h
theorem zbV4:∀{es:List (List A)} {l:List Int},u8s es=some l->es=l.map λ n=>[A.int .u8 n]
 |[],l,h=>by simp[u8s]at h;subst h;rfl
 |c::cs,l,h=>by
  unfold u8s at h;split at h
  .cases‹_=[]›
  .rename_i n cs' heq;cases heq;obtain⟨l',h1,rfl⟩:=cI.1 h;rw[dI,<-zbV4 h1]
  .cases h
theorem zbJ6{R:Value->A->Prop}(hR:∀u n,R u (.int .u8 n)->u=.int .u8 n){sz:Nat}{us:List Value}{l:List Int}(h:Flat R sz us (l.map λ n=>[A.int .u8 n]))(hl:l≠[]):sz=1/\us=l.map (Value.int .u8):=by
 have hsz:sz=1:=by
  cases l with
  |nil=>exact absurd rfl hl
  |cons n l=>exact(h.hs 0 [A.int .u8 n] rfl).symm
 subst hsz;refine⟨rfl,List.ext_getElem? λ i=>?_⟩
 by_cases hi:i<l.length
 .obtain⟨u,hu,hr⟩:=h.ha i [A.int .u8 l[i]] 0 _ (by simp[hi]) rfl;simp only[eP,Nat.add_zero]at hu;rw[hu,hR u _ hr];simp[hi]
 .rw[fH (by have:=h.hl;simp at this;omega),fH (by simp;omega)]
theorem zcP3(hs:SatW E s a w W μ){x:Operand}{T T2 e:TypeId}{ax:A}{es:List (List A)}{l:List Int}(ho:o.op=.convert T T2 x)(hT:P.underlying T=some (.slice e))(he:P.underlying e=some (.int .u8))(hT2:P.underlying T2=some .string)
  (hx:Rep w W μ (a.eval x) ax) (hns:ax.isStr=false) (hel:zao0 s.mem ax=some es) (hl:u8s es=some l) (hok:zY6 s.mem ax):zq3 P o a w W μ s.mem (.str (zaQ2 l)) s.mem:=by
 have hes:=zbV4 hl;subst hes;have hR:∀u n,RepK w W μ u (.int .u8 n)->u=.int .u8 n:=λ u n h=>Rep.int (zp6 (zo5 h));have hRC:∀u n,RepC w W u (.int .u8 n)->u=.int .u8 n:=λ u n h=>hR u n (zp5 h);have fin:(convert T T2 (a.eval x)).run P w=.ok (.string (strOfNums l)) w->zq3 P o a w W μ s.mem (.str (zaQ2 l)) s.mem:=λ h=>
  ⟨.value (.string (strOfNums l)),.string (strOfNums l),w,W,μ,by simp[execOp,ho,h],.inl rfl,zp6 (zo5 (zp5 (.str _))),hs.refl⟩
 have none_:∀ad cap,a.eval x=.slice ad 0 cap->l=[]->zq3 P o a w W μ s.mem (.str (zaQ2 l)) s.mem:=λ ad cap hv h0=>by
  subst h0;refine fin ?_;rw[hv];cases ad with
  |none=>exact run_convert_bytes_nil w T e hT he 0 cap T2 hT2
  |some b=>rw[run_convert_bytes_string w T T2 e _ 0 cap hT he hT2,run_bytesToString w b 0 cap [] (by simp[loadCells,loadCellsFrom])];rfl
 have some_:∀b off cap,a.eval x=.slice (some ⟨b,off,none⟩) l.length cap->(∀i,i<l.length->w.cell? ⟨b,off+i,none⟩=some (.int .u8 (l.getD i 0)))->zq3 P o a w W μ s.mem (.str (zaQ2 l)) s.mem:=λ b off cap hv hc=>by refine fin ?_;rw[hv];exact run_convert_bytes_arg w T e hT he b off l.length cap l rfl hc T2 hT2
 have plain:RepC w W (a.eval x) (.sl (l.map λ n=>[A.int .u8 n]))->zq3 P o a w W μ s.mem (.str (zaQ2 l)) s.mem:=λ hx=>by
  rcases hx.open_sl with⟨h0,ad,cap,hv⟩|⟨b,off,cap,sz,us,hv,_,_,hn,_,hf,hc⟩
  .exact none_ ad cap hv (by simpa using h0)
  .have hl0:l≠[]:=by rintro rfl;simp at hn
   obtain⟨rfl,hus⟩:=zbJ6 hRC hf hl0;refine some_ b off cap (by simpa using hv) λ i hi=>hc i _ ?_;subst hus;simp[hi]
 unfold zao0 at hel;split at hel
 .cases hel;exact plain hx
 .cases hel;exact plain (RepC.of_full hx).1
 .rename_i y lo n;split at hel
  .rename_i r hr;simp only[eJ]at hel;simp only[zY6,hr]at hok;have hlen:((r.es.drop lo).take n).length=n:=by simp;omega
   have hln:l.length=n:=by rw[<-hlen,hel,eA]
   rcases hs.own hx hr with⟨rfl,ad,hv⟩|⟨k,cap,h5,h6,h7,h8,h9,hrow⟩
   .exact none_ ad 0 hv (cW hln)
   .obtain⟨_,hksz,hpos,us0,rest,e0,hheap,htot,hf⟩:=hrow;have hf2:=(hf.drop lo).take n;rw[hel]at hf2
    by_cases hl0:l=[]
    .subst hl0;simp at hln;subst hln;refine fin ?_;rw[h6];rw[run_convert_bytes_string w T T2 e _ 0 cap hT he hT2,run_bytesToString w _ 0 cap [] (by simp[loadCells,loadCellsFrom])];rfl
    .obtain⟨hsz,hus⟩:=zbJ6 hR hf2 hl0;rw[hsz,eP,eP]at hus;refine some_ k.b (lo*k.sz) cap (by rw[h6,hln]) λ i hi=>?_;rw[hksz,hsz,eP];have h10:((us0.drop lo).take n)[i]? =some (.int .u8 (l.getD i 0)):=by rw[hus];simp[hi]
     rw[dG]at h10;split at h10
     .rw[dO]at h10;simp only[World.cell?,hheap,Option.isSome_none,cG,cV,dX];rw[dF (cH.1 h10).1,h10]
     .cases h10
  .cases hel
 .simp[A.isStr]at hns
 .cases hel
theorem zcP4(hs:SatW E s a w W μ){x:Operand}{T T2 e:TypeId}{b:ByteArray}{u:TypeDesc}(ho:o.op=.convert T T2 x)(hT:P.underlying T=some u)(hT2:P.underlying T2=some (.slice e))(he:P.underlying e=some (.int .u8))
  (hx:Rep w W μ (a.eval x) (.str b)) (hlen:b.size<=maxLen):zq3 P o a w W μ s.mem (.sl (b.toList.map λ c=>[A.int .u8 c.toNat])) s.mem:=by
 have hrun:=Lib.run_convert_string_bytes (P:=P) w T T2 e b hT hT2 he;have hk:Keeps (λ _=>False) w (Lib.bytesWorld w e b):=⟨by unfold Lib.bytesWorld World.freeze;rw[cL (by decide)];rfl,by unfold Lib.bytesWorld World.freeze;rw[cL (by decide)];rfl,by unfold Lib.bytesWorld World.freeze;rw[cL (by decide)];rfl,by unfold Lib.bytesWorld World.freeze;rw[cL (by decide)];exact hY _,by rw[Lib.bytesWorld_size];omega,λ j hj _=>Lib.bytesWorld_at_old w e b j hj⟩;have htl:b.toList=b.data.toList:=ByteArray.toList_eq ..
 have hbl:b.toList.length=b.size:=by rw[htl];rfl
 refine⟨.value _,_,Lib.bytesWorld w e b,W,μ,by simp[execOp,ho,hx.str,hrun];rfl,.inl rfl,?_,Step.quiet hk hs.mem hs.inj hs.wlt⟩;refine zp6 (zo5 (zp5 ?_));have hll:(b.toList.map λ c=>[A.int .u8 c.toNat]).length=b.size:=by rw[eA,hbl]
 conv=>arg 3;rw[<-hll]
 refine RepC.mk_sl (sz:=1) (us:=b.toList.map λ c=>Value.int .u8 c.toNat) (λ hW=>absurd (hs.wlt _ hW) (hJ _)) (by rw[Lib.bytesWorld_size];omega) (by rw[hll];exact grownCap_ge w b.size 0 e) ?_ ?_
 .refine⟨by simp,λ i c hc=>?_,λ i c j q hc hq=>?_⟩
  .simp only[cP,cI]at hc;obtain⟨d,_,rfl⟩:=hc;rfl
  .simp only[cP,cI]at hc;obtain⟨d,hd,rfl⟩:=hc;cases j with
   |zero=>simp at hq;subst hq;exact⟨_,by simp[hd],.int _ _⟩
   |succ j=>simp at hq
 .intro q v hq;simp only[cP,cI]at hq;obtain⟨d,hd,rfl⟩:=hq;have hlt:q<b.size:=by rw[<-hbl];exact(cH.1 hd).1
  rw[dJ,Lib.bytesWorld_cell w e b q hlt];rw[htl]at hd;simp[List.getD,hd]
theorem zbV5(hs:SatW E s a w W μ){id:Nat}(hid:s.mem id=.fresh)(po:PO)(xs:List PX)(vals:List A)(hV:∀ops,zw3 ops xs=true->Vals w W μ a ops vals)(hlen:xs.length=vals.length)
  (hchk:zav6 P o.op po xs=true) {ef:Ef} (he:ev id s.mem po vals=some ef) (hobl:ef.obl) (hnp:po≠.pick):zq3 P o a w W μ s.mem ef.v (setM s.mem ef.mw):=by
 cases po<;>simp only[zav6]at hchk
 case pick=>exact absurd rfl hnp
 case mv=>
  split at hchk
  .rename_i x ho;obtain⟨v,rfl,hv⟩:=(hV _ hchk).one;cases he;exact zbU5 hs (.inl ho) hv
  .rename_i x ho;obtain⟨v,rfl,hv⟩:=(hV _ hchk).one;cases he;exact zbU5 hs (.inr ho) hv
  .cases hchk
 case nilown sz z=>
  have key:∀x,(o.op=.move x\/o.op=.assign x)->(zaY0 x&&xs.length==1)=true->zq3 P o a w W μ s.mem ef.v (setM s.mem ef.mw):=λ x ho h=>by
   simp only[cF,cY]at h
   match vals,(show vals.length=1 by omega)with
   |[v],_=>cases he;exact zbU6 hs ho (zba8 h.1) hid hobl
  split at hchk
  .rename_i x ho;exact key x (.inl ho) hchk
  .rename_i x ho;exact key x (.inr ho) hchk
  .cases hchk
 case box n=>
  split at hchk
  .rename_i T x ho;obtain⟨v,rfl,hv⟩:=(hV _ hchk).one;cases he;exact zcO1 hs ho hv hid hobl.1 hobl.2.1 hobl.2.2
  .cases hchk
 case alloc n z=>
  split at hchk
  .rename_i T ho;simp only[cF,cY]at hchk;obtain⟨⟨h1,h2⟩,h3⟩:=hchk;have:vals=[]:=by
    have:xs=[]:=by simpa using h3
    subst this;exact cW hlen.symm
   subst this;subst h2;cases he;exact zce2 hs ho h1 hid hobl.1
  .cases hchk
 case build z ps=>
  split at hchk
  .rename_i T parts ho;simp only[cF]at hchk;obtain⟨⟨h1,h2⟩,h3⟩:=hchk;obtain⟨h4,h5⟩:=zaQ6 (hV _ h3);cases vals<;>(cases he;exact zce4 hs ho h1 h2 h4 h5 hobl)
  .cases hchk
 case bslice sz z=>
  split at hchk
  .rename_i T n parts ho;simp only[cF,cY]at hchk;obtain⟨⟨⟨h0,h1⟩,h2⟩,h3⟩:=hchk;obtain⟨h4,h5⟩:=zaQ6 (hV _ h3);cases vals<;>(cases he;exact zbU9 hs ho (by omega) h1 h2 h4 hobl.2.2.2.2 h5 hobl.2.1 hobl.2.2.1 hobl.2.2.2.1)
  .cases hchk
 case bown sz z=>
  split at hchk
  .rename_i T n parts ho;simp only[cF,cY]at hchk;obtain⟨⟨⟨h0,h1⟩,h2⟩,h3⟩:=hchk;obtain⟨h4,h5⟩:=zaQ6 (hV _ h3);cases vals<;>(cases he;exact zco9 hs ho (by omega) h1 h2 h4 hobl.2.2.2 h5 hid hobl.1 hobl.2.1 hobl.2.2.1)
  .cases hchk
 case load n ag=>
  split at hchk
  .rename_i T x ho;simp only[cF]at hchk;obtain⟨v,rfl,hv⟩:=(hV _ hchk.2).one;refine(zco5 hs ho hchk.1 hv he hobl).mw ?_;simp only[ev]at he;split at he
   .split at he<;>first|(cases he;rfl)|cases he
   .cases he;rfl
   .cases he
  .cases hchk
 case store n=>
  split at hchk
  .rename_i T x y ho;simp only[cF]at hchk;obtain⟨v,u,rfl,hv,hu⟩:=(hV _ hchk.2).two;exact zce3 hs ho hchk.1 hv hu he hobl
  .cases hchk
 case bin b=>
  split at hchk
  .rename_i b' T x y T2 ho;simp only[cF,cY]at hchk;obtain⟨rfl,h2⟩:=hchk;obtain⟨v,u,rfl,hv,hu⟩:=(hV _ h2).two;simp only[ev,cI]at he;obtain⟨q,hq,rfl⟩:=he;exact zcN3 hs ho hv hu hq hobl
  .cases hchk
 case eqb neg=>
  split at hchk
  .rename_i b' T x y T2 ho;simp only[cF,cY]at hchk;obtain⟨⟨rfl,h2⟩,h3⟩:=hchk;obtain⟨v,u,rfl,hv,hu⟩:=(hV _ h3).two;obtain⟨d,hd,hd2⟩:=zA5 h2;have hT:P.underlying T=some .bool:=by cases d<;>simp[zbV3]at hd2;exact hd
   cases v<;>simp only[ev]at he<;>try(cases he;done)
   cases u<;>simp only[ev]at he<;>try(cases he;done)
   cases he;exact zcO0 hs ho hT hv hu
  .cases hchk
 case eqa neg ks=>
  split at hchk
  .rename_i b' T x y T2 ho;simp only[cF,cY,dQ]at hchk;obtain⟨⟨⟨⟨rfl,h2⟩,h3⟩,h4⟩,h5⟩:=hchk;obtain⟨v,u,rfl,hv,hu⟩:=(hV _ h5).two;cases v<;>simp only[ev]at he<;>try(cases he;done)
   cases u<;>simp only[ev]at he<;>try(cases he;done)
   cases he;exact zcO3 hs ho h2 h3 h4 hv hu hobl.1 hobl.2
  .cases hchk
 case not=>
  split at hchk
  .rename_i T x ho;obtain⟨v,rfl,hv⟩:=(hV _ hchk).one;cases v<;>simp only[ev]at he<;>try(cases he;done)
   cases he;exact zcN1 hs ho hv
  .cases hchk
 case neg=>
  split at hchk
  .rename_i T x ho;obtain⟨v,rfl,hv⟩:=(hV _ hchk).one;cases v<;>simp only[ev]at he<;>try(cases he;done)
   cases he;exact zcN2 hs ho hv
  .cases hchk
 case field off n ag=>
  split at hchk
  .rename_i T x f ho;simp only[cF]at hchk;obtain⟨v,rfl,hv⟩:=(hV _ hchk.2).one;refine(zcd9 hs ho hchk.1 hv he hobl).mw ?_;cases v<;>simp only[ev]at he<;>first|(cases he;rfl)|cases he
  .cases hchk
 case faddr off=>
  split at hchk
  .rename_i T x f ho;simp only[cF]at hchk;obtain⟨v,rfl,hv⟩:=(hV _ hchk.2).one;refine(zcd8 hs ho hchk.1 hv he).mw ?_;simp only[ev]at he;split at he
   .split at he<;>first|(cases he;rfl)|cases he
   .cases he;rfl
   .cases he
  .cases hchk
 case iaA n sz=>
  split at hchk
  .rename_i T x i ho;simp only[cF]at hchk;obtain⟨v,u,rfl,hv,hu⟩:=(hV _ hchk.2).two;refine(zcN6 hs ho hchk.1 hv hu he hobl).mw ?_;cases u<;>simp only[ev]at he<;>try(cases he;done)
   split at he
   .split at he<;>first|(cases he;rfl)|cases he
   .cases he;rfl
   .cases he
  .cases hchk
 case iaS sz z=>
  split at hchk
  .rename_i T x i ho;simp only[cF]at hchk;obtain⟨v,u,rfl,hv,hu⟩:=(hV _ hchk.2).two;refine(zcN7 hs ho hchk.1 hv hu he hobl).mw ?_;cases u<;>simp only[ev]at he<;>try(cases he;done)
   split at he
   .cases he;rfl
   .cases he;rfl
   .split at he<;>first|(cases he;rfl)|cases he
   .cases he
  .cases hchk
 case idxA n sz ag=>
  split at hchk
  .rename_i T x i ho;simp only[cF]at hchk;obtain⟨v,u,rfl,hv,hu⟩:=(hV _ hchk.2).two;refine(zco6 hs ho hchk.1 hv hu he hobl).mw ?_;cases v<;>simp only[ev]at he<;>try(cases he;done)
   cases u<;>simp only[ev]at he<;>try(cases he;done)
   cases he;rfl
  .cases hchk
 case idxS=>
  split at hchk
  .rename_i T x i ho;simp only[cF]at hchk;obtain⟨v,u,rfl,hv,hu⟩:=(hV _ hchk.2).two;obtain⟨d,hd,hd2⟩:=zA5 hchk.1;have hT:P.underlying T=some .string:=by cases d<;>simp[zae7]at hd2;exact hd
   cases v<;>simp only[ev]at he<;>try(cases he;done)
   cases u<;>simp only[ev]at he<;>try(cases he;done)
   cases he;exact zcp1 hs ho hT hv hu hobl.1 hobl.2
  .cases hchk
 case slc sz l h m=>
  split at hchk
  .rename_i T x lo hi mx ho;simp only[cF,cY]at hchk;obtain⟨⟨⟨⟨⟨h1,h2⟩,rfl⟩,rfl⟩,rfl⟩,h6⟩:=hchk;have V:=hV _ h6;obtain⟨d,hd,hd2⟩:=zA5 h1;have fin:∀v,Rep w W μ (a.eval x) v->∀l h m,Bds (lo.map a.eval) (hi.map a.eval) (mx.map a.eval) l h m->(if v.isStr then none else(zah8 s.mem sz v l h m).map λ q=>(⟨q.1,q.2,[]⟩:Ef))=some ef->zq3 P o a w W μ s.mem ef.v (setM s.mem ef.mw):=λ v hv l h m hb hq=>by
    split at hq
    .cases hq
    .rename_i hns;simp only[cI]at hq;obtain⟨q,hq,rfl⟩:=hq;refine zcm5 hs ho h2 hv ⟨λ⟨b,hb⟩=>?_,λ hu=>?_⟩ hb hq hobl
     .subst hb;exact absurd rfl hns
     .rw[hd]at hu;cases hu;simp[zaM7]at hd2
   cases lo with
   |none=>
    cases hi with
    |none=>
     cases mx with
     |none=>obtain⟨v,rfl,hv⟩:=V.one;exact fin v hv none none none ⟨.inl ⟨rfl,rfl⟩,.inl ⟨rfl,rfl⟩,.inl ⟨rfl,rfl⟩⟩ he
     |some m0=>obtain⟨v,u,rfl,hv,hu⟩:=V.two;exact absurd he (by simp[ev])
    |some h0=>
     cases mx with
     |none=>
      obtain⟨v,u,rfl,hv,hu⟩:=V.two;cases u<;>simp only[ev,Option.isSome]at he<;>try(cases he;done)
      exact fin v hv none (some _) none ⟨.inl ⟨rfl,rfl⟩,.inr ⟨_,_,dA some hu.int,rfl⟩,.inl ⟨rfl,rfl⟩⟩ he
     |some m0=>
      obtain⟨v,u,t,rfl,hv,hu,ht⟩:=V.three;cases u<;>simp only[ev,Option.isSome]at he<;>try(cases he;done)
      cases t<;>(try simp only at he)<;>try(cases he;done)
      exact fin v hv none (some _) (some _) ⟨.inl ⟨rfl,rfl⟩,.inr ⟨_,_,dA some hu.int,rfl⟩,.inr ⟨_,_,dA some ht.int,rfl⟩⟩ he
   |some l0=>
    cases hi with
    |none=>
     cases mx with
     |none=>
      obtain⟨v,u,rfl,hv,hu⟩:=V.two;cases u<;>simp only[ev,Option.isSome]at he<;>try(cases he;done)
      exact fin v hv (some _) none none ⟨.inr ⟨_,_,dA some hu.int,rfl⟩,.inl ⟨rfl,rfl⟩,.inl ⟨rfl,rfl⟩⟩ he
     |some m0=>obtain⟨v,u,t,rfl,hv,hu,ht⟩:=V.three;exact absurd he (by simp[ev])
    |some h0=>
     cases mx with
     |none=>
      obtain⟨v,u,t,rfl,hv,hu,ht⟩:=V.three;cases u<;>simp only[ev,Option.isSome]at he<;>try(cases he;done)
      cases t<;>(try simp only at he)<;>try(cases he;done)
      exact fin v hv (some _) (some _) none ⟨.inr ⟨_,_,dA some hu.int,rfl⟩,.inr ⟨_,_,dA some ht.int,rfl⟩,.inl ⟨rfl,rfl⟩⟩ he
     |some m0=>
      obtain⟨v,u,t,r,rfl,hv,hu,ht,hr⟩:=V.four;cases u<;>simp only[ev,Option.isSome]at he<;>try(cases he;done)
      cases t<;>(try simp only at he)<;>try(cases he;done)
      cases r<;>(try simp only at he)<;>try(cases he;done)
      exact fin v hv (some _) (some _) (some _) ⟨.inr ⟨_,_,dA some hu.int,rfl⟩,.inr ⟨_,_,dA some ht.int,rfl⟩,.inr ⟨_,_,dA some hr.int,rfl⟩⟩ he
  .cases hchk
 case slcS l h=>
  split at hchk
  .rename_i T x lo hi mx ho;simp only[cF,cY]at hchk;obtain⟨⟨⟨⟨h1,rfl⟩,rfl⟩,h4⟩,h6⟩:=hchk;have V:=hV _ h6;obtain⟨d,hd,hd2⟩:=zA5 h1;have hT:P.underlying T=some .string:=by cases d<;>simp[zae7]at hd2;exact hd
   have h2:zbg2 P T 0=true:=by simp[zbg2,hT]
   have hmx:mx=none:=by simpa using h4
   subst hmx;have fin:∀b,Rep w W μ (a.eval x) (.str b)->∀l h,Bds (lo.map a.eval) (hi.map a.eval) none l h none->((zah8 s.mem 0 (.str b) l h none).map λ q=>(⟨q.1,q.2,[]⟩:Ef))=some ef->zq3 P o a w W μ s.mem ef.v (setM s.mem ef.mw):=λ b hv l h hb hq=>by simp only[cI]at hq;obtain⟨q,hq,rfl⟩:=hq;exact zcm5 hs ho h2 hv ⟨λ _=>hT,λ _=>⟨b,rfl⟩⟩ hb hq hobl
   cases lo with
   |none=>
    cases hi with
    |none=>
     obtain⟨v,rfl,hv⟩:=V.one;cases v<;>simp only[ev,Option.isSome]at he<;>try(cases he;done)
     exact fin _ hv none none ⟨.inl ⟨rfl,rfl⟩,.inl ⟨rfl,rfl⟩,.inl ⟨rfl,rfl⟩⟩ he
    |some h0=>
     obtain⟨v,u,rfl,hv,hu⟩:=V.two;cases v<;>simp only[ev,Option.isSome]at he<;>try(cases he;done)
     cases u<;>(try simp only at he)<;>try(cases he;done)
     exact fin _ hv none (some _) ⟨.inl ⟨rfl,rfl⟩,.inr ⟨_,_,dA some hu.int,rfl⟩,.inl ⟨rfl,rfl⟩⟩ he
   |some l0=>
    cases hi with
    |none=>
     obtain⟨v,u,rfl,hv,hu⟩:=V.two;cases v<;>simp only[ev,Option.isSome]at he<;>try(cases he;done)
     cases u<;>(try simp only at he)<;>try(cases he;done)
     exact fin _ hv (some _) none ⟨.inr ⟨_,_,dA some hu.int,rfl⟩,.inl ⟨rfl,rfl⟩,.inl ⟨rfl,rfl⟩⟩ he
    |some h0=>
     obtain⟨v,u,t,rfl,hv,hu,ht⟩:=V.three;cases v<;>simp only[ev,Option.isSome]at he<;>try(cases he;done)
     cases u<;>(try simp only at he)<;>try(cases he;done)
     cases t<;>(try simp only at he)<;>try(cases he;done)
     exact fin _ hv (some _) (some _) ⟨.inr ⟨_,_,dA some hu.int,rfl⟩,.inr ⟨_,_,dA some ht.int,rfl⟩,.inl ⟨rfl,rfl⟩⟩ he
  .cases hchk
 case ext i=>
  split at hchk
  .rename_i x i' ho;simp only[cF,cY]at hchk;obtain⟨rfl,h2⟩:=hchk;obtain⟨v,rfl,hv⟩:=(hV _ h2).one;cases v<;>simp only[ev]at he<;>try(cases he;done)
   cases he;exact zcN4 hs ho hv hobl
  .cases hchk
 case len=>
  split at hchk
  .rename_i args ats ho;split at hchk
   .rename_i x t hx ht;simp only[cF]at hchk;obtain⟨v,rfl,hv⟩:=(hV _ hchk.2).one;obtain⟨d,hd,hd2⟩:=zA5 hchk.1;have hT:∃e,P.underlying t=some (.slice e):=by cases d<;>simp[zaM7]at hd2;exact⟨_,hd⟩
    have ha:args=#[x]:=by rw[<-hx]
    have hat:ats[0]? =some t:=by
     have:ats=#[t]:=by rw[<-ht]
     rw[this];rfl
    subst ha;refine(zcN5 hs ho hat hT hv he).mw ?_;simp only[ev]at he;split at he
    .cases he;rfl
    .cases he;rfl
    .split at he<;>first|(cases he;rfl)|cases he
    .cases he
   .cases hchk
  .cases hchk
 case lenS=>
  split at hchk
  .rename_i args ats ho;split at hchk
   .rename_i x t hx ht;simp only[cF]at hchk;obtain⟨v,rfl,hv⟩:=(hV _ hchk.2).one;obtain⟨d,hd,hd2⟩:=zA5 hchk.1;have hT:P.underlying t=some .string:=by cases d<;>simp[zae7]at hd2;exact hd
    have ha:args=#[x]:=by rw[<-hx]
    have hat:ats[0]? =some t:=by
     have:ats=#[t]:=by rw[<-ht]
     rw[this];rfl
    subst ha;cases v<;>simp only[ev]at he<;>try(cases he;done)
    cases he;exact zco4 hs ho hat hT hv
   .cases hchk
  .cases hchk
 case append sz by_ z=>
  split at hchk
  .rename_i args ats ho;split at hchk
   .rename_i x y T U hx ht;simp only[cF]at hchk;obtain⟨v,u,rfl,hv,hu⟩:=(hV _ hchk.2).two;have ha:args=#[x,y]:=by rw[<-hx]
    have hat:ats=#[T,U]:=by rw[<-ht]
    subst ha;subst hat;exact zbU8 hs ho hchk.1 hv hu hid he hobl
   .cases hchk
  .cases hchk
 case appc sz by_=>
  split at hchk
  .rename_i args ats ho;split at hchk
   .rename_i x y T U hx ht;simp only[cF]at hchk;obtain⟨v,u,rfl,hv,hu⟩:=(hV _ hchk.2).two;have ha:args=#[x,y]:=by rw[<-hx]
    have hat:ats=#[T,U]:=by rw[<-ht]
    subst ha;subst hat;exact zco8 hs ho hchk.1 hv hu hid he hobl
   .cases hchk
  .cases hchk
 case apl sz by_=>
  split at hchk
  .rename_i args ats ho;split at hchk
   .rename_i x y T U hx ht;simp only[cF]at hchk;obtain⟨v,u,rfl,hv,hu⟩:=(hV _ hchk.2).two;have ha:args=#[x,y]:=by rw[<-hx]
    have hat:ats=#[T,U]:=by rw[<-ht]
    subst ha;subst hat;cases v<;>first|(cases he;done)|skip
    cases u<;>first|(cases he;done)|skip
    cases he;obtain⟨h1,rfl,h3,h4,h5⟩:=hobl;exact zcO2 hs ho hchk.1 hv hu h3 h4 h5
   .cases hchk
  .cases hchk
 case clear sz z=>
  split at hchk
  .rename_i args ats ho;split at hchk
   .rename_i x T hx ht;simp only[cF]at hchk;obtain⟨v,rfl,hv⟩:=(hV _ hchk.2).one;have ha:args=#[x]:=by rw[<-hx]
    have hat:ats=#[T]:=by rw[<-ht]
    subst ha;subst hat;exact zce5 hs ho hchk.1 hv he hobl
   .cases hchk
  .cases hchk
 case copy sz=>
  split at hchk
  .rename_i args ats ho;split at hchk
   .rename_i x y T U hx ht;simp only[cF]at hchk;obtain⟨v,u,rfl,hv,hu⟩:=(hV _ hchk.2).two;have ha:args=#[x,y]:=by rw[<-hx]
    have hat:ats=#[T,U]:=by rw[<-ht]
    subst ha;subst hat;exact zcp0 hs ho hchk.1 hv hu he hobl
   .cases hchk
  .cases hchk
 case mk sz by_ z=>
  split at hchk
  .rename_i T x y ho;simp only[cF]at hchk;obtain⟨v,u,rfl,hv,hu⟩:=(hV _ hchk.2).two;cases v<;>simp only[ev]at he<;>try(cases he;done)
   cases u<;>simp only[ev]at he<;>try(cases he;done)
   cases he;obtain⟨h1,_,h3,h4,h5,h6⟩:=hobl;exact y_mk hs ho hchk.1 hv hu hid h1 h3 h4 h5 h6
  .cases hchk
 case conv k=>
  split at hchk
  .rename_i T T2 x ho;simp only[cF]at hchk;obtain⟨⟨h1,h2⟩,h3⟩:=hchk;obtain⟨v,rfl,hv⟩:=(hV _ h3).one;obtain⟨d,hd,_⟩:=zA5 h1;obtain⟨d2,hd2,hd3⟩:=zA5 h2;have hT:P.underlying T2=some (.int k):=by cases d2<;>simp[zbs8]at hd3;subst hd3;exact hd2
   cases v<;>simp only[ev]at he<;>try(cases he;done)
   cases he;exact zco7 hs ho ⟨⟨d,hd⟩,hT⟩ hv
  .cases hchk
 case cvS=>
  split at hchk
  .rename_i T T2 x ho;simp only[cF]at hchk;obtain⟨⟨h1,h2⟩,h3⟩:=hchk;obtain⟨v,rfl,hv⟩:=(hV _ h3).one;obtain⟨e,he1,he2⟩:=zaU0 h1;obtain⟨d2,hd2,hd3⟩:=zA5 h2;have hT2:P.underlying T2=some .string:=by cases d2<;>simp[zae7]at hd3;exact hd2
   simp only[ev]at he;split at he
   .cases he
   .rename_i hns;simp only[dD]at he;obtain⟨es,h4,l,h5,he⟩:=he;cases he;exact zcP3 hs ho he1 he2 hT2 hv (by simpa using hns) h4 h5 hobl
  .cases hchk
 case cvB=>
  split at hchk
  .rename_i T T2 x ho;simp only[cF]at hchk;obtain⟨⟨h1,h2⟩,h3⟩:=hchk;obtain⟨v,rfl,hv⟩:=(hV _ h3).one;obtain⟨e,he1,he2⟩:=zaU0 h2;obtain⟨d2,hd2,hd3⟩:=zA5 h1;cases v<;>simp only[ev]at he<;>try(cases he;done)
   cases he;exact zcP4 hs ho hd2 he1 he2 hv hobl
  .cases hchk
 case min=>
  split at hchk
  .rename_i args ats ho;split at hchk
   .rename_i x y hx;obtain⟨v,u,rfl,hv,hu⟩:=(hV _ hchk).two;have ha:args=#[x,y]:=by rw[<-hx]
    subst ha;cases v<;>simp only[ev]at he<;>try(cases he;done)
    cases u<;>simp only[ev]at he<;>try(cases he;done)
    cases he;have:_=_:=hobl;subst this;exact zcN8 hs ho hv hu
   .cases hchk
  .cases hchk
 case max=>
  split at hchk
  .rename_i args ats ho;split at hchk
   .rename_i x y hx;obtain⟨v,u,rfl,hv,hu⟩:=(hV _ hchk).two;have ha:args=#[x,y]:=by rw[<-hx]
    subst ha;cases v<;>simp only[ev]at he<;>try(cases he;done)
    cases u<;>simp only[ev]at he<;>try(cases he;done)
    cases he;have:_=_:=hobl;subst this;exact zcN9 hs ho hv hu
   .cases hchk
  .cases hchk
 case nilck=>
  split at hchk
  .rename_i x ho;obtain⟨v,rfl,hv⟩:=(hV _ hchk).one;refine(zce0 hs ho hv he hobl).mw ?_;simp only[ev]at he;split at he
   .split at he<;>first|(cases he;rfl)|cases he
   .cases he;rfl
   .cases he;rfl
   .cases he;rfl
   .cases he
  .cases hchk
 case mki T=>
  split at hchk
  .rename_i T' x ho;simp only[cF,cY]at hchk;obtain⟨⟨rfl,h2⟩,h3⟩:=hchk;obtain⟨d,hd,hd2⟩:=zA5 h2;obtain⟨v,rfl,hv⟩:=(hV _ h3).one;refine(zcO6 hs ho hd hd2 hv he hobl).mw ?_;cases v<;>simp only[ev]at he<;>first|(cases he;done)|(cases he;rfl)|(split at he<;>first|(cases he;rfl)|cases he)
  .cases hchk
 case tas T=>
  split at hchk
  .rename_i x U T' ho;simp only[cF,cY]at hchk;obtain⟨⟨rfl,h2⟩,h3⟩:=hchk;obtain⟨d,hd,hd2⟩:=zA5 h2;obtain⟨v,rfl,hv⟩:=(hV _ h3).one;cases v<;>simp only[ev]at he<;>first|(cases he;done)|skip
   cases he;have:_=_:=hobl;subst this;exact zcO7 hs ho hd hd2 hv
  .cases hchk
 case mkb f=>
  split at hchk
  .rename_i f' fst caps ho;split at hchk
   .rename_i y hy;simp only[cF,cY]at hchk;obtain⟨⟨rfl,h2⟩,h3⟩:=hchk;have hc:caps=#[]:=by simpa using h2
    have hf:fst=#[y]:=by rw[<-Array.toArray_toList (xs:=fst),hy]
    subst hc;subst hf;obtain⟨v,rfl,hv⟩:=(hV _ h3).one;cases v<;>simp only[ev]at he<;>first|(cases he;done)|skip
    cases he;exact zcO5 hs ho hv hobl
   .cases hchk
  .cases hchk
 case mkf f=>
  split at hchk
  .rename_i f' fst caps ho;simp only[cF,cY]at hchk;obtain⟨⟨rfl,h2⟩,h3⟩:=hchk;have hf:fst=#[]:=by simpa using h2
   subst hf;have hv:=hV _ h3;cases vals<;>(cases he;exact zcO4 hs ho hv.1 hv.2 (zbo7 hobl))
  .cases hchk
 case mkmap z=>
  split at hchk
  .rename_i T ho;have:vals=[]:=by
    have:xs=[]:=by simpa using hchk
    subst this;exact cW hlen.symm
   subst this;cases he;exact zce8 hs ho hid
  .cases hchk
 case lkp ok ag kz z=>
  split at hchk
  .rename_i T x i ok' ho;simp only[cF,cY]at hchk;obtain⟨⟨⟨rfl,h1⟩,h2⟩,h3⟩:=hchk;obtain⟨v,u,rfl,hv,hu⟩:=(hV _ h3).two;cases v<;>simp only[ev]at he<;>try(cases he;done)
   split at he
   .rename_i r hr;cases he;exact zcP0 hs ho h1 h2 hv hu hr hobl.1 hobl.2
   .cases he
  .cases hchk
 case mupd kz ag n=>
  split at hchk
  rotate_right
  .cases hchk
  all_goals
   rename_i T x i y ho;simp only[cF]at hchk;obtain⟨h1,h3⟩:=hchk;obtain⟨v,u,q,rfl,hv,hu,hq⟩:=(hV _ h3).three;cases v<;>simp only[ev]at he<;>try(cases he;done)
   split at he
   .rename_i r hr;cases he;obtain⟨k1,k2,k3,k4,k5,_,k6⟩:=hobl;exact zcp3 hs (by first|exact .inl ho|exact .inr ho) h1 hv hu hq hr k1 k2 k3 k4 k5 k6
   .cases he
 case lenM=>
  split at hchk
  .rename_i args ats ho;split at hchk
   .rename_i x t hx ht;simp only[cF]at hchk;obtain⟨h1,h2⟩:=hchk;obtain⟨v,rfl,hv⟩:=(hV _ h2).one;have ha:args=#[x]:=by rw[<-hx]
    have hat:ats[0]? =some t:=by rw[<-fV,ht];rfl
    subst ha;obtain⟨d,hd,hd2⟩:=zA5 h1;cases v<;>simp only[ev]at he<;>try(cases he;done)
    split at he
    .rename_i r hr;cases he;refine zcp4 hs ho hat ?_ hv hr hobl;cases d<;>simp only[zbJ4,cG]at hd2;exact⟨_,_,hd⟩
    .cases he
   .cases hchk
  .cases hchk
 case rng=>
  split at hchk
  .rename_i T x ho;simp only[cF]at hchk;obtain⟨h1,h2⟩:=hchk;obtain⟨v,rfl,hv⟩:=(hV _ h2).one;obtain⟨d,hd,hd2⟩:=zA5 h1;cases v<;>simp only[ev]at he<;>try(cases he;done)
   split at he
   .rename_i r hr;cases he;refine zcP1 hs ho ?_ hv hr hobl hid;cases d<;>simp only[zbJ4,cG]at hd2;exact⟨_,_,hd⟩
   .cases he
  .cases hchk
 case entry d=>cases vals<;>(simp[ev]at he)
 case next d=>cases vals<;>(simp[ev]at he)
 case eqNil=>cases vals<;>(simp[ev]at he)
 case call f=>cases vals<;>(simp[ev]at he)
 case callv=>cases vals<;>(simp[ev]at he)
 case callb=>cases vals<;>(simp[ev]at he)
 case callm f=>cases vals<;>(simp[ev]at he)
 case inv t nm f pr=>cases vals<;>(simp[ev]at he)
 case callvm=>cases vals<;>(simp[ev]at he)
end
structure Cx where
 P:Program
 G:zaI4
def zN6:Nat->Loc:=λ _=>.fresh
def PFn(C:Cx)(f:FuncId)(as:List A)(r:A):Prop:=
 ∀(w:World) (W:Nat->Prop) (vs:List Value),zaq7 w W C.G->(∀b,W b->b<w.heap.size)->vs.length=as.length->
  (∀(i:Nat) (v:Value) (a:A),vs[i]? =some v->as[i]? =some a->RepV w W zN6 v a)->
  Calls C.P f vs.toArray w λ e w'=>∃v,e=.returned v/\Keeps (λ _=>False) w w'/\Rep w' W zN6 v r
def look{α:Type}:List (Nat×α)->Nat->Option α
 |[],_=>none
 |q::r,n=>if q.1=n then some q.2 else look r n
def rm{α:Type}(n:Nat):List (Nat×α)->List (Nat×α)
 |[]=>[]
 |q::r=>if q.1=n then rm n r else q::rm n r
def zbo8{α:Type}:List Nat->List (Nat×α)->List (Nat×α)
 |[],l=>l
 |n::ns,l=>zbo8 ns (rm n l)
structure St where
 fr:List (Nat×A)
 mem:List (Nat×Row)
 nx:Nat
def St.slot(st:St)(t:Nat):A:=(look st.fr t).getD .any
def St.m(st:St)(x:Nat):MS:=if st.nx<=x then .fresh else match look st.mem x with
 |some r=>.row r
 |none=>.dead
def St.toS(st:St):S:=⟨st.slot,st.m⟩
def putM:List (Nat×MS)->List (Nat×Row)->List (Nat×Row)
 |[],m=>m
 |(x,.row r)::q,m=>putM q ((x,r)::rm x m)
 |(x,_)::q,m=>putM q (rm x m)
def nxt(nx:Nat):List (Nat×MS)->Nat
 |[]=>nx
 |q::r=>nxt (if q.1=nx then nx+1 else nx) r
def putF(d:Option Nat)(v:A)(fr:List (Nat×A)):List (Nat×A):=match d with
 |none=>fr
 |some d=>(d,v)::rm d fr
def St.app(st:St)(d:Option Nat)(v:A)(mw:List (Nat×MS)):St:=⟨putF d v st.fr,putM mw st.mem,nxt st.nx mw⟩
def frz1(m:Nat->MS):A->A
 | .own x lo n=>match m x with
  | .row r=>.sl ((r.es.drop lo).take n)
  |_=>.any
 |a=>a
def zk0:List A->Bool
 |[]=>true
 |a::as=>a.pure1&&zk0 as
def frz(m:Nat->MS):A->A
 | .agg cs=>if zk0 cs then .agg cs else .agg (cs.map (frz1 m))
 |a=>frz1 m a
def zV8(m:Nat->MS):A->Prop
 | .own x lo n=>match m x with
  | .row r=>lo+n<=r.es.length/\zN4 ((r.es.drop lo).take n)
  |_=>False
 |a=>a.pure1=true
def zac7(m:Nat->MS):A->Prop
 | .agg cs=>if zk0 cs then True else∀c∈cs,zV8 m c
 | .clo _ cs=>cs=[]
 |a=>zV8 m a
def zC0(m:Nat->MS):List A->List A
 |[]=>[]
 |a::as=>frz m a::zC0 m as
def zx2(m:Nat->MS):List A->Prop
 |[]=>True
 |a::as=>zac7 m a/\zx2 m as
def zI3:A->List Nat
 | .own x _ _=>[x]
 |_=>[]
def zae8:A->List Nat
 | .agg cs=>if zk0 cs then[]else cs.flatMap zI3
 |a=>zI3 a
def zz2:List A->List Nat
 |[]=>[]
 |a::as=>zae8 a++zz2 as
def A.scal1:A->Bool
 | .bool _|.int _ _|.str _=>true
 |_=>false
def zs0:List A->Bool
 |[]=>true
 |a::as=>a.scal1&&zs0 as
def A.scal2:A->Bool
 | .agg cs=>zs0 cs
 |a=>a.scal1
def zbh1:List A->Bool
 |[]=>true
 |a::as=>a.scal2&&zbh1 as
def A.scal:A->Bool
 | .tup vs=>zbh1 vs
 |a=>a.scal2
def zG1(m:Nat->MS):List Nat->List (Nat×MS)
 |[]=>[]
 |x::xs=>match m x with
  | .row r=>(x,.row ⟨true,r.sz,r.z,r.es⟩)::zG1 m xs
  |_=>zG1 m xs
def zx3(m:Nat->MS)(vals:List A)(r:A):List (Nat×MS):=if r.scal then[]else zG1 m (zz2 vals)
def zB0(st:St):Option (Nat×Bool)->Option Bool
 |none=>some true
 |some q=>match st.slot q.1 with
  | .bool b=>some (if q.2 then b else !b)
  | .cnd g (.bool b)=>some (g&&if q.2 then b else !b)
  |_=>none
def zH1(g:Option (Nat×Bool))(b:Bool)(v:A):A:=match g with
 |none=>v
 |some _=>.cnd b v
def zs1(C:Cx)(st:St):List PX->List A
 |[]=>[]
 |p::ps=>(xv C.G st.slot p).nc::zs1 C st ps
def zP7(C:Cx)(st:St):List PX->Prop
 |[]=>True
 |p::ps=>(xv C.G st.slot p).gd=true/\zP7 C st ps
def A.isVV:A->Bool
 | .any|.tup _|.cnd _ _=>false
 |_=>true
def rho(l:List (Nat×Nat))(x:Nat):Nat:=(look l x).getD x
def ren0(l:List (Nat×Nat)):A->A
 | .own x lo n=>.own (rho l x) lo n
 | .ptr x i j=>.ptr (rho l x) i j
 | .ipt t x i j=>.ipt t (rho l x) i j
 | .mp x=>.mp (rho l x)
 | .it x=>.it (rho l x)
 |a=>a
def ren1(l:List (Nat×Nat)):A->A
 | .clo f cs=>.clo f (cs.map (ren0 l))
 |a=>ren0 l a
def ren(l:List (Nat×Nat)):A->A
 | .agg cs=>if zk0 cs then .agg cs else .agg (cs.map (ren1 l))
 |a=>ren1 l a
def renR(l:List (Nat×Nat)):A->A
 | .tup vs=>.tup (vs.map (ren l))
 |a=>ren l a
def zby6(nx:Nat):A->Prop
 | .own x _ _=>x<nx
 | .ptr x _ _=>x<nx
 | .ipt _ x _ _=>x<nx
 | .mp x=>x<nx
 | .it x=>x<nx
 |_=>True
def zaO7(nx:Nat):A->Prop
 | .clo _ cs=>∀c∈cs,zby6 nx c
 |a=>zby6 nx a
def pureEs:List (List A)->Bool
 |[]=>true
 |c::cs=>zk0 c&&pureEs cs
def zU5(l:List (Nat×Nat))(es:List (List A)):List (List A):=if pureEs es then es else es.map (·.map (ren1 l))
def idEs(nx:Nat)(es:List (List A)):Prop:=if pureEs es then True else∀c∈es,∀a∈c,zaO7 nx a
def zar0:List Nat->Bool
 |[]=>true
 |x::xs=>!xs.contains x&&zar0 xs
def MFn(C:Cx)(f:FuncId)(as:List A)(ms:List (Nat×Row))(k:Nat)(r:A)(ms':List (Nat×Row))(k':Nat):Prop:=
 ∀(w:World) (W:Nat->Prop) (μ:Nat->Loc) (vs:List Value),zaq7 w W C.G->(∀b,W b->b<w.heap.size)->vs.length=as.length->
  (∀(i:Nat) (v:Value) (a:A),vs[i]? =some v->as[i]? =some a->RepV w W μ v a)->zac5 w W μ (⟨[],ms,k⟩:St).m->
  (∀x y b b',μ x=.at_ b->μ y=.at_ b'->b.b=b'.b->x=y)->
  Calls C.P f vs.toArray w λ e w'=>∃v W' μ',e=.returned v/\Step (⟨[],ms,k⟩:St).m (⟨[],ms',k'⟩:St).m w w' W W' μ μ'/\Rep w' W' μ' v r
def MPre(C:Cx)(pre:List Value)(f:FuncId)(as:List A)(ms:List (Nat×Row))(k:Nat)(r:A)(ms':List (Nat×Row))(k':Nat):Prop:=
 ∀(w:World) (W:Nat->Prop) (μ:Nat->Loc) (vs:List Value),zaq7 w W C.G->(∀b,W b->b<w.heap.size)->vs.length=as.length->
  (∀(i:Nat) (v:Value) (a:A),vs[i]? =some v->as[i]? =some a->RepV w W μ v a)->zac5 w W μ (⟨[],ms,k⟩:St).m->
  (∀x y b b',μ x=.at_ b->μ y=.at_ b'->b.b=b'.b->x=y)->
  Calls C.P f (pre++vs).toArray w λ e w'=>∃v W' μ',e=.returned v/\Step (⟨[],ms,k⟩:St).m (⟨[],ms',k'⟩:St).m w w' W W' μ μ'/\Rep w' W' μ' v r
def A.hands:A->Bool
 | .own _ _ _|.ptr _ _ _|.ipt _ _ _ _=>true
 | .clo _ cs=>!cs.isEmpty
 | .agg cs=>!zk0 cs
 |_=>false
def zbJ7(nx:Nat):List A->Prop
 |[]=>True
 |c::cs=>zaO7 nx c/\zbJ7 nx cs
def zcm7(nx:Nat):A->Prop
 | .agg cs=>zbJ7 nx cs
 |a=>zaO7 nx a
def argM(m:Nat->MS)(l:List (Nat×Nat))(k:Nat)(v a:A):Prop:=
 if a.hands then v=ren l a/\zcm7 k a else zac7 m v/\frz m v=a
def zaU1(m:Nat->MS)(l:List (Nat×Nat))(k:Nat):List A->List A->Prop
 |v::vs,a::as=>argM m l k v a/\zaU1 m l k vs as
 |[],[]=>True
 |_,_=>False
def fzM:List A->List A->List Nat
 |v::vs,a::as=>(if a.hands then[]else zae8 v)++fzM vs as
 |_,_=>[]
def szM(x:MS)(r:Row):Prop:=if Nat.ble 1 r.sz then True else match x with
 | .row r'=>r'.z=r.z/\r.z≠[]
 |_=>False
def zbo9(m:Nat->MS)(l:List (Nat×Nat))(k:Nat)(fz:List Nat):List (Nat×Row)->Prop
 |[]=>True
 |q::r=>(match m (rho l q.1)with
   | .row r'=>r'.ro=false/\r'.sz=q.2.sz/\r'.es=zU5 l q.2.es
   |_=>False)/\q.2.ro=false/\q.1<k/\idEs k q.2.es/\fz.contains (rho l q.1)=false/\szM (m (rho l q.1)) q.2/\zbo9 m l k fz r
def zaJ2{α:Type}(ms:List (Nat×α)):Nat->Bool
 |0=>true
 |n+1=>(look ms n).isSome&&zaJ2 ms n
def okM(m:Nat->MS)(nx:Nat)(l:List (Nat×Nat))(vals as:List A)(ms:List (Nat×Row))(k k':Nat):Prop:=
 zaU1 m l k vals as/\zbo9 m l k (fzM vals as) ms/\zar0 (ms.map λ q=>rho l q.1)=true/\zar0 (ms.map (·.1))=true/\zaJ2 ms k=true/\Nat.ble k k'=true/\(∀q∈ms,rho l q.1<nx)/\(∀q∈l,q.1<k)
def newL(k nx:Nat):Nat->List (Nat×Nat)
 |0=>[]
 |n+1=>(k,nx)::newL (k+1) (nx+1) n
def entM(l:List (Nat×Nat)):Option Row->MS
 |some r=>.row ⟨r.ro,r.sz,r.z,zU5 l r.es⟩
 |none=>.dead
def zQ6(l:List (Nat×Nat))(ms':List (Nat×Row)):List Nat->List (Nat×MS)
 |[]=>[]
 |x::xs=>(rho l x,entM l (look ms' x))::zQ6 l ms' xs
def mwM(m:Nat->MS)(l:List (Nat×Nat))(vals as:List A)(ms ms':List (Nat×Row))(k k':Nat):List (Nat×MS):=
 zG1 m (fzM vals as)++zQ6 l ms' (ms.map (·.1)++(List.range (k'-k)).map (k+·))
def MS.like:MS->MS->Prop
 | .row r,.row r'=>r.ro=r'.ro/\r.sz=r'.sz/\r.es=r'.es/\(r.sz=0->r.z=r'.z)
 | .dead,.dead=>True
 |_,_=>False
def zaU2(m:Nat->MS):List (Nat×MS)->Prop
 |[]=>True
 |q::r=>(m q.1).like q.2/\zaU2 m r
def zao1(C:Cx)(m:Nat->MS)(nx:Nat)(f:FuncId)(vals:List A)(og:Option (Nat×Bool))(g:Bool)(ob:Prop)(F:Nat->Prop)(K:A->List (Nat×MS)->Prop):Prop:=
 ∃l as ms k r ms' k',(g=true->ob/\MFn C f as ms k r ms' k'/\okM m nx l vals as ms k k'/\F (k'-k))/\(g=false->k=k'/\zaU2 m (mwM m (l++newL k nx (k'-k)) vals as ms ms' k k'))/\
  (og=none\/(renR (l++newL k nx (k'-k)) r).isVV=true)/\(∀g c,r≠.cnd g c)/\K (zH1 og g (renR (l++newL k nx (k'-k)) r)) (mwM m (l++newL k nx (k'-k)) vals as ms ms' k k')
def PO.lax:PO->Bool
 | .len|.bin _|.not=>true
 |_=>false
theorem zcp9{id id':Nat}{m:Nat->MS}{po:PO}{vals:List A}(h:po.lax=true):ev id m po vals=ev id' m po vals:=by cases po<;>first|(cases h;done)|rfl|(rcases vals with _|⟨x,_|⟨y,_|⟨z,xs⟩⟩⟩<;>first|rfl|(cases x<;>first|rfl|(cases y<;>rfl)))
def ircv(m:Nat->MS)(pr:Bool)(x i j:Nat):A:=if pr then .ptr x i j else match m x with
 | .row r=>zP9 false (sub (r.es.getD i r.z) j 1)
 |_=>.any
def zaQ7(m:Nat->MS)(pr:Bool)(x i j:Nat):Prop:=match m x with
 | .row r=>pr=true\/(i<r.es.length/\j+1<=r.sz)
 |_=>False
def PO.drawn:PO->Bool
 | .inv _ _ _ _=>false
 |_=>true
def aop(C:Cx)(p:POp)(st:St)(K:St->Prop):Prop:=
 match zB0 st p.g with
 |none=>False
 |some g=>
  match p.po with
  | .pick=>match p.xs with
   |[c,x,y]=>match(xv C.G st.slot c).nc,(xv C.G st.slot x).nc,(xv C.G st.slot y).nc with
    | .bool b,.bool u,.bool v=>(g=true->(xv C.G st.slot c).gd=true/\(b=true->(xv C.G st.slot x).gd=true)/\(b=false->(xv C.G st.slot y).gd=true))/\K (st.app p.dst (zH1 p.g g (.bool (cond b u v))) [])
    |_,_,_=>False
   |_=>False
  | .call f=>∃r,(g=true->zP7 C st p.xs/\zx2 st.m (zs1 C st p.xs)/\PFn C f (zC0 st.m (zs1 C st p.xs)) r)/\
    (p.g=none\/zx3 st.m (zs1 C st p.xs) r=[]/\r.isVV=true)/\K (st.app p.dst (zH1 p.g g r) (zx3 st.m (zs1 C st p.xs) r))
  | .callv=>match zs1 C st p.xs with
   | .clo f caps::vals=>∃r,(g=true->zP7 C st p.xs/\zx1 C.P f=true/\zx2 st.m (vals++caps)/\PFn C f (zC0 st.m (vals++caps)) r)/\
    (p.g=none\/zx3 st.m (vals++caps) r=[]/\r.isVV=true)/\K (st.app p.dst (zH1 p.g g r) (zx3 st.m (vals++caps) r))
   |_=>False
  | .callb=>match zs1 C st p.xs with
   | .bnd f cs::vals=>∃r,(g=true->zP7 C st p.xs/\zx1 C.P f=true/\zx2 st.m (.agg cs::vals)/\PFn C f (zC0 st.m (.agg cs::vals)) r)/\
    (p.g=none\/zx3 st.m (.agg cs::vals) r=[]/\r.isVV=true)/\K (st.app p.dst (zH1 p.g g r) (zx3 st.m (.agg cs::vals) r))
   |_=>False
  | .callm f=>zao1 C st.m st.nx f (zs1 C st p.xs) p.g g (zP7 C st p.xs) (λ _=>True) λ v mw=>K (st.app p.dst v mw)
  | .callvm=>match zs1 C st p.xs with
   | .clo f caps::vals=>zao1 C st.m st.nx f (vals++caps) p.g g (zP7 C st p.xs/\zx1 C.P f=true) (λ _=>True) λ v mw=>K (st.app p.dst v mw)
   |_=>False
  | .inv t _ f pr=>match zs1 C st p.xs with
   | .ipt t' x i j::vals=>zao1 C st.m st.nx f (ircv st.m pr x i j::vals) p.g g (zP7 C st p.xs/\t'=t/\zaQ7 st.m pr x i j) (λ _=>True) λ v mw=>K (st.app p.dst v mw)
   |_=>False
  |po=>match ev st.nx st.m po (zs1 C st p.xs)with
   |some ef=>(g=true->zP7 C st p.xs/\ef.obl)/\(p.g=none\/ef.mw=[]/\ef.v.isVV=true)/\K (st.app p.dst (zH1 p.g g ef.v) ef.mw)
   |none=>g=false/\po.lax=true/\K (st.app p.dst (zH1 p.g g (.bool false)) [])
def zB6(fr:Nat->A):Option (Nat×Bool)->Option Bool
 |none=>some true
 |some q=>match fr q.1 with
  | .bool b=>some (if q.2 then b else !b)
  | .cnd g (.bool b)=>some (g&&if q.2 then b else !b)
  |_=>none
def zA3(C:Cx)(fr:Nat->A):List PX->List A
 |[]=>[]
 |p::ps=>(xv C.G fr p).nc::zA3 C fr ps
def gdsF(C:Cx)(fr:Nat->A):List PX->Prop
 |[]=>True
 |p::ps=>(xv C.G fr p).gd=true/\gdsF C fr ps
def aopS(C:Cx)(p:POp)(s:S)(id:Nat)(K:A->List (Nat×MS)->Prop):Prop:=
 match zB6 s.fr p.g with
 |none=>False
 |some g=>
  match p.po with
  | .pick=>match p.xs with
   |[c,x,y]=>match(xv C.G s.fr c).nc,(xv C.G s.fr x).nc,(xv C.G s.fr y).nc with
    | .bool b,.bool u,.bool v=>(g=true->(xv C.G s.fr c).gd=true/\(b=true->(xv C.G s.fr x).gd=true)/\(b=false->(xv C.G s.fr y).gd=true))/\K (zH1 p.g g (.bool (cond b u v))) []
    |_,_,_=>False
   |_=>False
  | .call f=>∃r,(g=true->gdsF C s.fr p.xs/\zx2 s.mem (zA3 C s.fr p.xs)/\PFn C f (zC0 s.mem (zA3 C s.fr p.xs)) r)/\
    (p.g=none\/zx3 s.mem (zA3 C s.fr p.xs) r=[]/\r.isVV=true)/\K (zH1 p.g g r) (zx3 s.mem (zA3 C s.fr p.xs) r)
  | .callv=>match zA3 C s.fr p.xs with
   | .clo f caps::vals=>∃r,(g=true->gdsF C s.fr p.xs/\zx1 C.P f=true/\zx2 s.mem (vals++caps)/\PFn C f (zC0 s.mem (vals++caps)) r)/\
    (p.g=none\/zx3 s.mem (vals++caps) r=[]/\r.isVV=true)/\K (zH1 p.g g r) (zx3 s.mem (vals++caps) r)
   |_=>False
  | .callb=>match zA3 C s.fr p.xs with
   | .bnd f cs::vals=>∃r,(g=true->gdsF C s.fr p.xs/\zx1 C.P f=true/\zx2 s.mem (.agg cs::vals)/\PFn C f (zC0 s.mem (.agg cs::vals)) r)/\
    (p.g=none\/zx3 s.mem (.agg cs::vals) r=[]/\r.isVV=true)/\K (zH1 p.g g r) (zx3 s.mem (.agg cs::vals) r)
   |_=>False
  | .callm f=>zao1 C s.mem id f (zA3 C s.fr p.xs) p.g g (gdsF C s.fr p.xs) (λ n=>∀x,id<=x->x<id+n->s.mem x=.fresh) K
  | .callvm=>match zA3 C s.fr p.xs with
   | .clo f caps::vals=>zao1 C s.mem id f (vals++caps) p.g g (gdsF C s.fr p.xs/\zx1 C.P f=true) (λ n=>∀x,id<=x->x<id+n->s.mem x=.fresh) K
   |_=>False
  | .inv t _ f pr=>match zA3 C s.fr p.xs with
   | .ipt t' x i j::vals=>zao1 C s.mem id f (ircv s.mem pr x i j::vals) p.g g (gdsF C s.fr p.xs/\t'=t/\zaQ7 s.mem pr x i j) (λ n=>∀x,id<=x->x<id+n->s.mem x=.fresh) K
   |_=>False
  |po=>match ev id s.mem po (zA3 C s.fr p.xs)with
   |some ef=>(g=true->gdsF C s.fr p.xs/\ef.obl)/\(p.g=none\/ef.mw=[]/\ef.v.isVV=true)/\K (zH1 p.g g ef.v) ef.mw
   |none=>g=false/\po.lax=true/\K (zH1 p.g g (.bool false)) []
def nilQ(K:Bool->Prop):List A->Prop
 |[.sl es]=>∀b:Bool,(b=true->es=[])->K b
 |[.full es]=>∀b:Bool,(b=true->es=[])->K b
 |_=>False
def PO.isNilQ:PO->Bool
 | .eqNil=>true
 |_=>false
def PO.isNext:PO->Bool
 | .next _|.entry _=>true
 |_=>false
def zcP5:PO->(Nat->MS)->(A->List (Nat×MS)->Prop)->List A->Prop
 | .next d,m,K,vals=>nxtQ d m K vals
 | .entry d,m,K,vals=>entQ d m K vals
 |_,_,_,_=>False
def arun(C:Cx):List POp->St->(St->Prop)->Prop
 |[],st,K=>K st
 |p::ps,st,K=>if p.po.isNilQ=true then p.g=none/\zP7 C st p.xs/\nilQ (λ b=>arun C ps (st.app p.dst (.bool b) []) K) (zs1 C st p.xs)else if p.po.isNext=true then p.g=none/\zP7 C st p.xs/\zcP5 p.po st.m (λ v mw=>arun C ps (st.app p.dst v mw) K) (zs1 C st p.xs)else aop C p st λ st'=>arun C ps st' K
theorem zak6{α:Type}(n x:Nat):∀l:List (Nat×α),look (rm n l) x=if x=n then none else look l x
 |[]=>by simp[rm,look]
 |q::r=>by
  unfold rm;split
  .rename_i h;rw[zak6 n x r]
   by_cases hx:x=n
   .simp[hx]
   .rw[cL hx,cL hx];simp only[look];rw[cL (by omega)]
  .rename_i h;simp only[look];split
   .rename_i h2;rw[cL (by omega)]
   .exact zak6 n x r
theorem zby7(st:St)(d:Option Nat)(v:A)(mw:List (Nat×MS)):(st.app d v mw).slot=setF st.slot d v:=by
 funext t;simp only[St.slot,St.app,setF,putF];cases d with
 |none=>simp
 |some d=>
  simp only[look,eJ];split
  .rfl
  .rename_i h;rw[zak6,cL (by omega)]
def mwOk:Nat->List (Nat×MS)->Prop
 |_,[]=>True
 |nx,q::r=>q.1<=nx/\q.2≠.fresh/\mwOk (if q.1=nx then nx+1 else nx) r
theorem zbp0{m:Nat->MS}(x:Nat):∀{mw:List (Nat×MS)} (m':Nat->MS),zaU2 m mw->setM m' mw x=m' x\/(m x).like (setM m' mw x)
 |[],_,_=>.inl rfl
 |q::r,m',h=>by
  simp only[setM];rcases zbp0 x (λ x=>if x=q.1 then q.2 else m' x) h.2 with e|e
  .rw[e]
   by_cases hx:x=q.1
   .subst hx;rw[cQ rfl];exact .inr h.1
   .rw[cL hx];exact .inl rfl
  .exact .inr e
theorem zV7.like{w:World}{W:Nat->Prop}{μ:Nat->Loc}{x:Nat}{p q:MS}(h:zV7 w W μ x p)(hl:p.like q):zV7 w W μ x q:=by
 cases p<;>cases q<;>first|exact hl.elim|exact h|skip
 rename_i r r';obtain⟨ro,sz,z,es⟩:=r;obtain⟨ro',sz',z',es'⟩:=r';obtain⟨rfl,rfl,rfl,hz⟩:=hl;rcases h with h|⟨k,h1,h2|h2⟩
 .exact .inl h
 .exact .inr ⟨k,h1,.inl h2⟩
 .have e:sz=0:=h2.elim (λ h=>h.2.2.1) (λ h=>h.2.2.1);have e2:z=z':=hz e;subst e2;exact .inr ⟨k,h1,.inr h2⟩
theorem MS.like_ne{p q:MS}(h:p.like q):p≠.fresh/\q≠.fresh:=by cases p<;>cases q<;>first|exact h.elim|exact⟨(nomatch ·),(nomatch ·)⟩
theorem zbF5:∀(mw:List (Nat×MS)) (fr:List (Nat×A)) (mem:List (Nat×Row)) (nx:Nat),mwOk nx mw->∀f2,(⟨f2,putM mw mem,nxt nx mw⟩:St).m=setM (⟨fr,mem,nx⟩:St).m mw
 |[],fr,mem,nx,_,f2=>by simp[putM,nxt,setM,St.m];rfl
 |q::r,fr,mem,nx,h,f2=>by
  obtain⟨h1,h2,h3⟩:=h;have e:(λ x=>if x=q.1 then q.2 else(⟨fr,mem,nx⟩:St).m x)=(⟨fr,(match q with|(x,.row r)=>(x,r)::rm x mem|(x,_)=>rm x mem),if q.1=nx then nx+1 else nx⟩:St).m:=by
   funext x;obtain⟨y,q2⟩:=q;simp only at h1 h2
   by_cases hx:x=y
   .subst hx;rw[cQ rfl];cases q2 with
    |fresh=>exact absurd rfl h2
    |dead=>simp only[St.m,zak6,dM];rw[cL (by split<;>omega)]
    |row r=>simp only[St.m,look,dM];rw[cL (by split<;>omega)]
   .rw[cL hx];cases q2 with
    |fresh=>exact absurd rfl h2
    |dead=>
     simp only[St.m,zak6,hx,cV];split
     .rename_i hh;rw[cQ (by split<;>omega)]
     .rename_i hh;rw[cL (by split<;>omega)]
    |row r=>
     simp only[St.m,look,zak6,hx,cV,show¬y=x by omega];split
     .rename_i hh;rw[cQ (by split<;>omega)]
     .rename_i hh;rw[cL (by split<;>omega)]
  simp only[setM,nxt];rw[e];obtain⟨y,q2⟩:=q;cases q2 with
  |fresh=>exact absurd rfl h2
  |dead=>exact zbF5 r fr _ _ h3 f2
  |row r'=>exact zbF5 r fr _ _ h3 f2
end Ab
end Go.Proofs.YtamndckemppjdaaGreatDoor
