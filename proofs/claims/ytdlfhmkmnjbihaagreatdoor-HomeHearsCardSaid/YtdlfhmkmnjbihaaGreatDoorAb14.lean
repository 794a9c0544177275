import Derived.Test.YtdlfhmkmnjbihaaGreatDoorAbM
import Derived.Lib.ConvBytes
import Derived.Laws.BytesArg
namespace Go.Proofs.YtdlfhmkmnjbihaaGreatDoor
namespace Ab
set_option linter.unusedSimpArgs false
set_option linter.unusedVariables false
def zx7:List Operand->List PX->Bool
 |[],[]=>true
 |x::xs,p::ps=>chkX x p&&zx7 xs ps
 |_,_=>false
def zbJ7:Operand->Bool
 | .const (.slice none 0 0)=>true
 |_=>false
def zaI6(P:Program)(T:TypeId)(f:TypeDesc->Bool):Bool:=match P.underlying T with|some d=>f d|none=>false
def zaz4:TypeDesc->Bool|.string=>true|_=>false
def zbr9:TypeDesc->Bool|.slice _=>true|_=>false
def zds7:TypeDesc->Bool|.bool=>true|_=>false
def zcw3(k:IntKind):TypeDesc->Bool|.int k'=>k==k'|_=>false
def zdJ7(P:Program)(T:TypeId)(f off n:Nat)(ag:Bool):Bool:=
 (match P.underlying T with|some (.struct fs)=>(match fs[f]? with|some g=>g.offset==off&&tyOk P g.type ag n|none=>false)|_=>false)
def zec5(P:Program)(T:TypeId)(n sz:Nat)(ag:Bool):Bool:=
 (match P.underlying T with|some (.array m e)=>m==n&&tyOk P e ag sz|_=>false)
def zD6(P:Program)(f:FuncId):Bool:=match P.funcs[f]? with|some fn=>fn.body.isSome&&!(fn.name== "runtime.NumGoroutine")&&!(f==zak5)|none=>false
def zbW0(P:Program)(T:TypeId):Bool:=(match P.underlying T with|some (.slice e)=>zaI6 P e (zcw3 .u8)|_=>false)
def zaY6(P:Program)(op:Op)(po:PO)(xs:List PX):Bool:=
 match po with
 | .mv=>(match op with|.move x=>zx7 [x] xs|.assign x=>zx7 [x] xs|_=>false)
 | .nilown _ _=>(match op with|.move x=>zbJ7 x&&xs.length==1|.assign x=>zbJ7 x&&xs.length==1|_=>false)
 | .pick=>(match op with|.pick c x y=>zx7 [c,x,y] xs|_=>false)
 | .box _=>(match op with|.box _ x=>zx7 [x] xs|_=>false)
 | .alloc n z=>(match op with|.alloc T=>zbk7 P T z&&z.length==n&&xs.isEmpty|_=>false)
 | .build z ps=>(match op with|.build T parts=>zbk7 P T z&&zcv9 P T parts.toList ps&&zx7 (parts.toList.map (·.2)) xs|_=>false)
 | .bslice sz z=>(match op with|.buildSlice T n parts=>n==xs.length&&bsTy P T sz z&&zaT5 0 parts.toList&&zx7 (parts.toList.map (·.2)) xs|_=>false)
 | .bown sz z=>(match op with|.buildSlice T n parts=>n==xs.length&&bsTy P T sz z&&zaT5 0 parts.toList&&zx7 (parts.toList.map (·.2)) xs|_=>false)
 | .load n ag=>(match op with|.load T x=>tyOk P T ag n&&zx7 [x] xs|_=>false)
 | .store n=>(match op with|.store T x y=>szIs P T n&&zx7 [x,y] xs|_=>false)
 | .bin b=>(match op with|.binOp b' _ x y _=>b==b'&&zx7 [x,y] xs|_=>false)
 | .eqNil=>(match op with|.binOp b T x y _=>b== .eql&&zaI6 P T zbr9&&zbJ7 y&&zx7 [x] xs|_=>false)
 | .eqb neg=>(match op with|.binOp b' T x y _=>(b'==if neg then .neq else .eql)&&zaI6 P T zds7&&zx7 [x,y] xs|_=>false)
 | .eqa neg ks=>(match op with|.binOp b' T x y _=>(b'==if neg then .neq else .eql)&&zaP1 P 20 T==some ks&&zaI6 P T aggD&&!P.eqGuardType P.depth T&&zx7 [x,y] xs|_=>false)
 | .not=>(match op with|.unOp .not _ x=>zx7 [x] xs|_=>false)
 | .neg=>(match op with|.unOp .neg _ x=>zx7 [x] xs|_=>false)
 | .field off n ag=>(match op with|.field T x f=>zdJ7 P T f off n ag&&zx7 [x] xs|_=>false)
 | .faddr off=>(match op with|.fieldAddr T x f=>zbV9 P T f off&&zx7 [x] xs|_=>false)
 | .iaA n sz=>(match op with|.indexAddr T x i=>zcZ0 P T n sz&&zx7 [x,i] xs|_=>false)
 | .iaS sz _=>(match op with|.indexAddr T x i=>zcq1 P T sz&&zx7 [x,i] xs|_=>false)
 | .idxA n sz ag=>(match op with|.index T x i=>zec5 P T n sz ag&&zx7 [x,i] xs|_=>false)
 | .idxS=>(match op with|.index T x i=>zaI6 P T zaz4&&zx7 [x,i] xs|_=>false)
 | .slc sz l h m=>(match op with|.slice T x lo hi mx=>zaI6 P T zbr9&&zbY5 P T sz&&l==lo.isSome&&h==hi.isSome&&m==mx.isSome&&zx7 ([x]++lo.toList++hi.toList++mx.toList) xs|_=>false)
 | .slcS l h=>(match op with|.slice T x lo hi mx=>zaI6 P T zaz4&&l==lo.isSome&&h==hi.isSome&&mx.isNone&&zx7 ([x]++lo.toList++hi.toList) xs|_=>false)
 | .ext i=>(match op with|.extract x i'=>i==i'&&zx7 [x] xs|_=>false)
 | .len=>(match op with|.call {callee:=.builtin .len,args,argTypes}=>(match args.toList,argTypes.toList with|[x],[t]=>zaI6 P t zbr9&&zx7 [x] xs|_,_=>false)|_=>false)
 | .lenS=>(match op with|.call {callee:=.builtin .len,args,argTypes}=>(match args.toList,argTypes.toList with|[x],[t]=>zaI6 P t zaz4&&zx7 [x] xs|_,_=>false)|_=>false)
 | .append sz by_ _=>(match op with|.call {callee:=.builtin .append,args,argTypes}=>(match args.toList,argTypes.toList with|[x,y],[T,U]=>zbP7 P T U sz by_&&zx7 [x,y] xs|_,_=>false)|_=>false)
 | .appc sz by_=>(match op with|.call {callee:=.builtin .append,args,argTypes}=>(match args.toList,argTypes.toList with|[x,y],[T,U]=>zbP7 P T U sz by_&&zx7 [x,y] xs|_,_=>false)|_=>false)
 | .apl sz by_=>(match op with|.call {callee:=.builtin .append,args,argTypes}=>(match args.toList,argTypes.toList with|[x,y],[T,U]=>zbP7 P T U sz by_&&zx7 [x,y] xs|_,_=>false)|_=>false)
 | .copy sz=>(match op with|.call {callee:=.builtin .copy,args,argTypes}=>(match args.toList,argTypes.toList with|[x,y],[T,_]=>zcq1 P T sz&&zx7 [x,y] xs|_,_=>false)|_=>false)
 | .clear sz z=>(match op with|.call {callee:=.builtin .clear,args,argTypes}=>(match args.toList,argTypes.toList with|[x],[T]=>zds4 P T sz z&&zx7 [x] xs|_,_=>false)|_=>false)
 | .mk sz by_ z=>(match op with|.makeSlice T x y=>mkTy P T sz by_ z&&zx7 [x,y] xs|_=>false)
 | .conv k=>(match op with|.convert T T2 x=>zaI6 P T (λ _=>true)&&zaI6 P T2 (zcw3 k)&&zx7 [x] xs|_=>false)
 | .cvS=>(match op with|.convert T T2 x=>zbW0 P T&&zaI6 P T2 zaz4&&zx7 [x] xs|_=>false)
 | .cvB=>(match op with|.convert T T2 x=>zaI6 P T zaz4&&zbW0 P T2&&zx7 [x] xs|_=>false)
 | .min=>(match op with|.call {callee:=.builtin .min,args,.. }=>(match args.toList with|[x,y]=>zx7 [x,y] xs|_=>false)|_=>false)
 | .max=>(match op with|.call {callee:=.builtin .max,args,.. }=>(match args.toList with|[x,y]=>zx7 [x,y] xs|_=>false)|_=>false)
 | .nilck=>(match op with|.nilCheck x=>zx7 [x] xs|_=>false)
 | .mkf f=>(match op with|.makeFunc (.func f') fst caps=>f==f'&&fst.isEmpty&&zx7 caps.toList xs|_=>false)
 | .mkb f=>(match op with|.makeFunc (.func f') fst caps=>(match fst.toList with|[y]=>f==f'&&caps.isEmpty&&zx7 [y] xs|_=>false)|_=>false)
 | .call f=>(match op with|.call {callee:=.value (.func f'),args,.. }=>f==f'&&zx7 args.toList xs&&zD6 P f|_=>false)
 | .callm f=>(match op with|.call {callee:=.value (.func f'),args,.. }=>f==f'&&zx7 args.toList xs&&zD6 P f|_=>false)
 | .callv=>(match op with|.call {callee:=.value (.tmp t),args,.. }=>zx7 (.tmp t::args.toList) xs|_=>false)
 | .callb=>(match op with|.call {callee:=.value (.tmp t),args,.. }=>zx7 (.tmp t::args.toList) xs|_=>false)
 | .mkmap _=>(match op with|.makeMap _ none=>xs.isEmpty|_=>false)
 | .lkp ok ag kz z=>(match op with|.lookup T x i ok'=>ok==ok'&&zbZ2 P T kz&&zds5 P T ag z&&zx7 [x,i] xs|_=>false)
 | .mupd kz _ _=>(match op with|.mapUpdate T x i y=>zbZ2 P T kz&&zx7 [x,i,y] xs|.insert T x i y=>zbZ2 P T kz&&zx7 [x,i,y] xs|_=>false)
 | .lenM=>(match op with|.call {callee:=.builtin .len,args,argTypes}=>(match args.toList,argTypes.toList with|[x],[t]=>zaI6 P t zcZ2&&zx7 [x] xs|_,_=>false)|_=>false)
 | .rng=>(match op with|.range T x=>zaI6 P T zcZ2&&zx7 [x] xs|_=>false)
 | .next _=>(match op with|.next x false=>zx7 [x] xs|_=>false)
 | .entry _=>(match op with|.entry x=>zx7 [x] xs|_=>false)
 | .callvm=>(match op with|.call {callee:=.value (.tmp t),args,.. }=>zx7 (.tmp t::args.toList) xs|_=>false)
section
variable {P:Program} {o:Oper} {a:Act} {E:Env} {s:S} {w:World} {W:Nat→Prop} {μ:Nat→Loc}
def Vals(w:World)(W:Nat->Prop)(μ:Nat->Loc)(a:Act)(xs:List Operand)(vs:List A):Prop:=
 xs.length=vs.length/\∀(i:Nat) (x:Operand) (v:A),xs[i]? =some x->vs[i]? =some v->Rep w W μ (a.eval x) v
theorem Vals.one{x:Operand}{vs:List A}(h:Vals w W μ a [x] vs):∃v,vs=[v]/\Rep w W μ (a.eval x) v:=by
 match vs,h.1 with
 |[v],_=>exact⟨v,rfl,h.2 0 x v rfl rfl⟩
theorem Vals.two{x y:Operand}{vs:List A}(h:Vals w W μ a [x,y] vs):∃v u,vs=[v,u]/\Rep w W μ (a.eval x) v/\Rep w W μ (a.eval y) u:=by
 match vs,h.1 with
 |[v,u],_=>exact⟨v,u,rfl,h.2 0 x v rfl rfl,h.2 1 y u rfl rfl⟩
theorem Vals.three{x y z:Operand}{vs:List A}(h:Vals w W μ a [x,y,z] vs):∃v u t,vs=[v,u,t]/\Rep w W μ (a.eval x) v/\Rep w W μ (a.eval y) u/\Rep w W μ (a.eval z) t:=by
 match vs,h.1 with
 |[v,u,t],_=>exact⟨v,u,t,rfl,h.2 0 x v rfl rfl,h.2 1 y u rfl rfl,h.2 2 z t rfl rfl⟩
theorem Vals.four{x y z q:Operand}{vs:List A}(h:Vals w W μ a [x,y,z,q] vs):∃v u t r,vs=[v,u,t,r]/\Rep w W μ (a.eval x) v/\Rep w W μ (a.eval y) u/\Rep w W μ (a.eval z) t/\Rep w W μ (a.eval q) r:=by
 match vs,h.1 with
 |[v,u,t,r],_=>exact⟨v,u,t,r,rfl,h.2 0 x v rfl rfl,h.2 1 y u rfl rfl,h.2 2 z t rfl rfl,h.2 3 q r rfl rfl⟩
theorem zI8{T:TypeId}{f:TypeDesc->Bool}(h:zaI6 P T f=true):∃d,P.underlying T=some d/\f d=true:=by
 unfold zaI6 at h;split at h
 .rename_i d hd;exact⟨d,hd,h⟩
 .cases h
end
section
variable {P:Program} {o:Oper} {a:Act} {E:Env} {s:S} {w:World} {W:Nat→Prop} {μ:Nat→Loc}
theorem zp0.mw{av:A}{m m' m'':Nat->MS}(h:zp0 P o a w W μ m av m')(e:m'=m''):zp0 P o a w W μ m av m'':=e▸h
theorem zby5{parts:List (Nat×Operand)}{vs:List A}(h:Vals w W μ a (parts.map (·.2)) vs):
  parts.length=vs.length/\∀(i:Nat) (p:Nat×Operand) (x:A),parts[i]? =some p->vs[i]? =some x->Rep w W μ (a.eval p.2) x:=
 ⟨by simpa using h.1,λ i p x h1 h2=>h.2 i p.2 x (by simp[h1]) h2⟩
theorem zbP8{x:Operand}(h:zbJ7 x=true):x=.const (.slice none 0 0):=by
 unfold zbJ7 at h;split at h
 .rfl
 .cases h
theorem zcq6:∀{xs:List A},allK xs=true->∀x∈xs,x.isK=true
 |x::xs,h,y,hy=>by
  simp only[allK,bM]at h;rcases bX.1 hy with rfl|hy
  .exact h.1
  .exact zcq6 h.2 y hy
theorem zbE3{T:TypeId}(h:zbW0 P T=true):∃e,P.underlying T=some (.slice e)/\P.underlying e=some (.int .u8):=by
 unfold zbW0 at h;split at h
 .rename_i e he;obtain⟨d,hd,hd2⟩:=zI8 h;refine⟨e,he,?_⟩;cases d<;>simp[zcw3]at hd2;subst hd2;exact hd
 .cases h
theorem zds8:∀{es:List (List A)} {l:List Int},u8s es=some l->es=l.map λ n=>[A.int .u8 n]
 |[],l,h=>by simp[u8s]at h;subst h;rfl
 |c::cs,l,h=>by
  unfold u8s at h;split at h
  .cases‹_=[]›
  .rename_i n cs' heq;cases heq;obtain⟨l',h1,rfl⟩:=cC.1 h;rw[cX,<-zds8 h1]
  .cases h
theorem zcZ4{R:Value->A->Prop}(hR:∀u n,R u (.int .u8 n)->u=.int .u8 n){sz:Nat}{us:List Value}{l:List Int}(h:Flat R sz us (l.map λ n=>[A.int .u8 n]))(hl:l≠[]):sz=1/\us=l.map (Value.int .u8):=by
 have hsz:sz=1:=by
  cases l with
  |nil=>exact absurd rfl hl
  |cons n l=>exact(h.hs 0 [A.int .u8 n] rfl).symm
 subst hsz;refine⟨rfl,List.ext_getElem? λ i=>?_⟩
 by_cases hi:i<l.length
 .obtain⟨u,hu,hr⟩:=h.ha i [A.int .u8 l[i]] 0 _ (by simp[hi]) rfl;simp only[fQ,Nat.add_zero]at hu;rw[hu,hR u _ hr];simp[hi]
 .rw[gO (by have:=h.hl;simp at this;omega),gO (by simp;omega)]
theorem zec6(hs:SatW E s a w W μ){x:Operand}{T T2 e:TypeId}{ax:A}{es:List (List A)}{l:List Int}(ho:o.op=.convert T T2 x)(hT:P.underlying T=some (.slice e))(he:P.underlying e=some (.int .u8))(hT2:P.underlying T2=some .string)
  (hx:Rep w W μ (a.eval x) ax) (hns:ax.isStr=false) (hel:zaM4 s.mem ax=some es) (hl:u8s es=some l) (hok:zap7 s.mem ax):zp0 P o a w W μ s.mem (.str (zbJ3 l)) s.mem:=by
 have hes:=zds8 hl;subst hes;have hR:∀u n,RepK w W μ u (.int .u8 n)->u=.int .u8 n:=λ u n h=>Rep.int (zp2 (zo1 h));have hRC:∀u n,RepC w W u (.int .u8 n)->u=.int .u8 n:=λ u n h=>hR u n (zp1 h);have fin:(convert T T2 (a.eval x)).run P w=.ok (.string (strOfNums l)) w->zp0 P o a w W μ s.mem (.str (zbJ3 l)) s.mem:=λ h=>
  ⟨.value (.string (strOfNums l)),.string (strOfNums l),w,W,μ,by simp[execOp,ho,h],.inl rfl,zp2 (zo1 (zp1 (.str _))),hs.refl⟩
 have none_:∀ad cap,a.eval x=.slice ad 0 cap->l=[]->zp0 P o a w W μ s.mem (.str (zbJ3 l)) s.mem:=λ ad cap hv h0=>by
  subst h0;refine fin ?_;rw[hv];cases ad with
  |none=>exact run_convert_bytes_nil w T e hT he 0 cap T2 hT2
  |some b=>rw[run_convert_bytes_string w T T2 e _ 0 cap hT he hT2,run_bytesToString w b 0 cap [] (by simp[loadCells,loadCellsFrom])];rfl
 have some_:∀b off cap,a.eval x=.slice (some ⟨b,off,none⟩) l.length cap->(∀i,i<l.length->w.cell? ⟨b,off+i,none⟩=some (.int .u8 (l.getD i 0)))->zp0 P o a w W μ s.mem (.str (zbJ3 l)) s.mem:=λ b off cap hv hc=>by refine fin ?_;rw[hv];exact run_convert_bytes_arg w T e hT he b off l.length cap l rfl hc T2 hT2
 have plain:RepC w W (a.eval x) (.sl (l.map λ n=>[A.int .u8 n]))->zp0 P o a w W μ s.mem (.str (zbJ3 l)) s.mem:=λ hx=>by
  rcases hx.open_sl with⟨h0,ad,cap,hv⟩|⟨b,off,cap,sz,us,hv,_,_,hn,_,hf,hc⟩
  .exact none_ ad cap hv (by simpa using h0)
  .have hl0:l≠[]:=by rintro rfl;simp at hn
   obtain⟨rfl,hus⟩:=zcZ4 hRC hf hl0;refine some_ b off cap (by simpa using hv) λ i hi=>hc i _ ?_;subst hus;simp[hi]
 unfold zaM4 at hel;split at hel
 .cases hel;exact plain hx
 .cases hel;exact plain (RepC.of_full hx).1
 .rename_i y lo n;split at hel
  .rename_i r hr;simp only[cK]at hel;simp only[zap7,hr]at hok;have hlen:((r.es.drop lo).take n).length=n:=by simp;omega
   have hln:l.length=n:=by rw[<-hlen,hel,cO]
   rcases hs.own hx hr with⟨rfl,ad,hv⟩|⟨k,cap,h5,h6,h7,h8,h9,hrow⟩
   .exact none_ ad 0 hv (cR hln)
   .obtain⟨_,hksz,hpos,us0,rest,e0,hheap,htot,hf⟩:=hrow;have hf2:=(hf.drop lo).take n;rw[hel]at hf2
    by_cases hl0:l=[]
    .subst hl0;simp at hln;subst hln;refine fin ?_;rw[h6];rw[run_convert_bytes_string w T T2 e _ 0 cap hT he hT2,run_bytesToString w _ 0 cap [] (by simp[loadCells,loadCellsFrom])];rfl
    .obtain⟨hsz,hus⟩:=zcZ4 hR hf2 hl0;rw[hsz,fQ,fQ]at hus;refine some_ k.b (lo*k.sz) cap (by rw[h6,hln]) λ i hi=>?_;rw[hksz,hsz,fQ];have h10:((us0.drop lo).take n)[i]? =some (.int .u8 (l.getD i 0)):=by rw[hus];simp[hi]
     rw[dJ]at h10;split at h10
     .rw[dR]at h10;simp only[World.cell?,hheap,Option.isSome_none,bP,bV,eY];rw[dF (bY.1 h10).1,h10]
     .cases h10
  .cases hel
 .simp[A.isStr]at hns
 .cases hel
theorem zec7(hs:SatW E s a w W μ){x:Operand}{T T2 e:TypeId}{b:ByteArray}{u:TypeDesc}(ho:o.op=.convert T T2 x)(hT:P.underlying T=some u)(hT2:P.underlying T2=some (.slice e))(he:P.underlying e=some (.int .u8))
  (hx:Rep w W μ (a.eval x) (.str b)) (hlen:b.size<=maxLen):zp0 P o a w W μ s.mem (.sl (b.toList.map λ c=>[A.int .u8 c.toNat])) s.mem:=by
 have hrun:=Lib.run_convert_string_bytes (P:=P) w T T2 e b hT hT2 he;have hk:Keeps (λ _=>False) w (Lib.bytesWorld w e b):=⟨by unfold Lib.bytesWorld World.freeze;rw[bN (by decide)];rfl,by unfold Lib.bytesWorld World.freeze;rw[bN (by decide)];rfl,by unfold Lib.bytesWorld World.freeze;rw[bN (by decide)];rfl,by unfold Lib.bytesWorld World.freeze;rw[bN (by decide)];exact jR _,by rw[Lib.bytesWorld_size];omega,λ j hj _=>Lib.bytesWorld_at_old w e b j hj⟩;have htl:b.toList=b.data.toList:=ByteArray.toList_eq ..
 have hbl:b.toList.length=b.size:=by rw[htl];rfl
 refine⟨.value _,_,Lib.bytesWorld w e b,W,μ,by simp[execOp,ho,hx.str,hrun];rfl,.inl rfl,?_,Step.quiet hk hs.mem hs.inj hs.wlt⟩;refine zp2 (zo1 (zp1 ?_));have hll:(b.toList.map λ c=>[A.int .u8 c.toNat]).length=b.size:=by rw[cO,hbl]
 conv=>arg 3;rw[<-hll]
 refine RepC.mk_sl (sz:=1) (us:=b.toList.map λ c=>Value.int .u8 c.toNat) (λ hW=>absurd (hs.wlt _ hW) (jU _)) (by rw[Lib.bytesWorld_size];omega) (by rw[hll];exact grownCap_ge w b.size 0 e) ?_ ?_
 .refine⟨by simp,λ i c hc=>?_,λ i c j q hc hq=>?_⟩
  .simp only[cH,cC]at hc;obtain⟨d,_,rfl⟩:=hc;rfl
  .simp only[cH,cC]at hc;obtain⟨d,hd,rfl⟩:=hc;cases j with
   |zero=>simp at hq;subst hq;exact⟨_,by simp[hd],.int _ _⟩
   |succ j=>simp at hq
 .intro q v hq;simp only[cH,cC]at hq;obtain⟨d,hd,rfl⟩:=hq;have hlt:q<b.size:=by rw[<-hbl];exact(bY.1 hd).1
  rw[dG,Lib.bytesWorld_cell w e b q hlt];rw[htl]at hd;simp[List.getD,hd]
theorem zds9(hs:SatW E s a w W μ){id:Nat}(hid:s.mem id=.fresh)(po:PO)(xs:List PX)(vals:List A)(hV:∀ops,zx7 ops xs=true->Vals w W μ a ops vals)(hlen:xs.length=vals.length)
  (hchk:zaY6 P o.op po xs=true) {ef:Ef} (he:ev id s.mem po vals=some ef) (hobl:ef.obl) (hnp:po≠.pick):zp0 P o a w W μ s.mem ef.v (setM s.mem ef.mw):=by
 cases po<;>simp only[zaY6]at hchk
 case pick=>exact absurd rfl hnp
 case mv=>
  split at hchk
  .rename_i x ho;obtain⟨v,rfl,hv⟩:=(hV _ hchk).one;cases he;exact zdr9 hs (.inl ho) hv
  .rename_i x ho;obtain⟨v,rfl,hv⟩:=(hV _ hchk).one;cases he;exact zdr9 hs (.inr ho) hv
  .cases hchk
 case nilown sz z=>
  have key:∀x,(o.op=.move x\/o.op=.assign x)->(zbJ7 x&&xs.length==1)=true->zp0 P o a w W μ s.mem ef.v (setM s.mem ef.mw):=λ x ho h=>by
   simp only[bM,dB]at h
   match vals,(show vals.length=1 by omega)with
   |[v],_=>cases he;exact zds0 hs ho (zbP8 h.1) hid hobl
  split at hchk
  .rename_i x ho;exact key x (.inl ho) hchk
  .rename_i x ho;exact key x (.inr ho) hchk
  .cases hchk
 case box n=>
  split at hchk
  .rename_i T x ho;obtain⟨v,rfl,hv⟩:=(hV _ hchk).one;cases he;exact zeb6 hs ho hv hid hobl.1 hobl.2.1 hobl.2.2
  .cases hchk
 case alloc n z=>
  split at hchk
  .rename_i T ho;simp only[bM,dB]at hchk;obtain⟨⟨h1,h2⟩,h3⟩:=hchk;have:vals=[]:=by
    have:xs=[]:=by simpa using h3
    subst this;exact cR hlen.symm
   subst this;subst h2;cases he;exact zdJ1 hs ho h1 hid hobl.1
  .cases hchk
 case build z ps=>
  split at hchk
  .rename_i T parts ho;simp only[bM]at hchk;obtain⟨⟨h1,h2⟩,h3⟩:=hchk;obtain⟨h4,h5⟩:=zby5 (hV _ h3);cases vals<;>(cases he;exact zdJ3 hs ho h1 h2 h4 h5 hobl)
  .cases hchk
 case bslice sz z=>
  split at hchk
  .rename_i T n parts ho;simp only[bM,dB]at hchk;obtain⟨⟨⟨h0,h1⟩,h2⟩,h3⟩:=hchk;obtain⟨h4,h5⟩:=zby5 (hV _ h3);cases vals<;>(cases he;exact zds3 hs ho (by omega) h1 h2 h4 hobl.2.2.2.2 h5 hobl.2.1 hobl.2.2.1 hobl.2.2.2.1)
  .cases hchk
 case bown sz z=>
  split at hchk
  .rename_i T n parts ho;simp only[bM,dB]at hchk;obtain⟨⟨⟨h0,h1⟩,h2⟩,h3⟩:=hchk;obtain⟨h4,h5⟩:=zby5 (hV _ h3);cases vals<;>(cases he;exact zdS6 hs ho (by omega) h1 h2 h4 hobl.2.2.2 h5 hid hobl.1 hobl.2.1 hobl.2.2.1)
  .cases hchk
 case load n ag=>
  split at hchk
  .rename_i T x ho;simp only[bM]at hchk;obtain⟨v,rfl,hv⟩:=(hV _ hchk.2).one;refine(zdS2 hs ho hchk.1 hv he hobl).mw ?_;simp only[ev]at he;split at he
   .split at he<;>first|(cases he;rfl)|cases he
   .cases he;rfl
   .cases he
  .cases hchk
 case store n=>
  split at hchk
  .rename_i T x y ho;simp only[bM]at hchk;obtain⟨v,u,rfl,hv,hu⟩:=(hV _ hchk.2).two;exact zdJ2 hs ho hchk.1 hv hu he hobl
  .cases hchk
 case bin b=>
  split at hchk
  .rename_i b' T x y T2 ho;simp only[bM,dB]at hchk;obtain⟨rfl,h2⟩:=hchk;obtain⟨v,u,rfl,hv,hu⟩:=(hV _ h2).two;simp only[ev,cC]at he;obtain⟨q,hq,rfl⟩:=he;exact zea8 hs ho hv hu hq hobl
  .cases hchk
 case eqb neg=>
  split at hchk
  .rename_i b' T x y T2 ho;simp only[bM,dB]at hchk;obtain⟨⟨rfl,h2⟩,h3⟩:=hchk;obtain⟨v,u,rfl,hv,hu⟩:=(hV _ h3).two;obtain⟨d,hd,hd2⟩:=zI8 h2;have hT:P.underlying T=some .bool:=by cases d<;>simp[zds7]at hd2;exact hd
   cases v<;>simp only[ev]at he<;>try(cases he;done)
   cases u<;>simp only[ev]at he<;>try(cases he;done)
   cases he;exact zeb5 hs ho hT hv hu
  .cases hchk
 case eqa neg ks=>
  split at hchk
  .rename_i b' T x y T2 ho;simp only[bM,dB,cQ]at hchk;obtain⟨⟨⟨⟨rfl,h2⟩,h3⟩,h4⟩,h5⟩:=hchk;obtain⟨v,u,rfl,hv,hu⟩:=(hV _ h5).two;cases v<;>simp only[ev]at he<;>try(cases he;done)
   cases u<;>simp only[ev]at he<;>try(cases he;done)
   cases he;exact zeb8 hs ho h2 h3 h4 hv hu hobl.1 hobl.2
  .cases hchk
 case not=>
  split at hchk
  .rename_i T x ho;obtain⟨v,rfl,hv⟩:=(hV _ hchk).one;cases v<;>simp only[ev]at he<;>try(cases he;done)
   cases he;exact zea6 hs ho hv
  .cases hchk
 case neg=>
  split at hchk
  .rename_i T x ho;obtain⟨v,rfl,hv⟩:=(hV _ hchk).one;cases v<;>simp only[ev]at he<;>try(cases he;done)
   cases he;exact zea7 hs ho hv
  .cases hchk
 case field off n ag=>
  split at hchk
  .rename_i T x f ho;simp only[bM]at hchk;obtain⟨v,rfl,hv⟩:=(hV _ hchk.2).one;refine(zdI8 hs ho hchk.1 hv he hobl).mw ?_;cases v<;>simp only[ev]at he<;>first|(cases he;rfl)|cases he
  .cases hchk
 case faddr off=>
  split at hchk
  .rename_i T x f ho;simp only[bM]at hchk;obtain⟨v,rfl,hv⟩:=(hV _ hchk.2).one;refine(zdI7 hs ho hchk.1 hv he).mw ?_;simp only[ev]at he;split at he
   .split at he<;>first|(cases he;rfl)|cases he
   .cases he;rfl
   .cases he
  .cases hchk
 case iaA n sz=>
  split at hchk
  .rename_i T x i ho;simp only[bM]at hchk;obtain⟨v,u,rfl,hv,hu⟩:=(hV _ hchk.2).two;refine(zeb1 hs ho hchk.1 hv hu he hobl).mw ?_;cases u<;>simp only[ev]at he<;>try(cases he;done)
   split at he
   .split at he<;>first|(cases he;rfl)|cases he
   .cases he;rfl
   .cases he
  .cases hchk
 case iaS sz z=>
  split at hchk
  .rename_i T x i ho;simp only[bM]at hchk;obtain⟨v,u,rfl,hv,hu⟩:=(hV _ hchk.2).two;refine(zeb2 hs ho hchk.1 hv hu he hobl).mw ?_;cases u<;>simp only[ev]at he<;>try(cases he;done)
   split at he
   .cases he;rfl
   .cases he;rfl
   .split at he<;>first|(cases he;rfl)|cases he
   .cases he
  .cases hchk
 case idxA n sz ag=>
  split at hchk
  .rename_i T x i ho;simp only[bM]at hchk;obtain⟨v,u,rfl,hv,hu⟩:=(hV _ hchk.2).two;refine(zdS3 hs ho hchk.1 hv hu he hobl).mw ?_;cases v<;>simp only[ev]at he<;>try(cases he;done)
   cases u<;>simp only[ev]at he<;>try(cases he;done)
   cases he;rfl
  .cases hchk
 case idxS=>
  split at hchk
  .rename_i T x i ho;simp only[bM]at hchk;obtain⟨v,u,rfl,hv,hu⟩:=(hV _ hchk.2).two;obtain⟨d,hd,hd2⟩:=zI8 hchk.1;have hT:P.underlying T=some .string:=by cases d<;>simp[zaz4]at hd2;exact hd
   cases v<;>simp only[ev]at he<;>try(cases he;done)
   cases u<;>simp only[ev]at he<;>try(cases he;done)
   cases he;exact zdS8 hs ho hT hv hu hobl.1 hobl.2
  .cases hchk
 case slc sz l h m=>
  split at hchk
  .rename_i T x lo hi mx ho;simp only[bM,dB]at hchk;obtain⟨⟨⟨⟨⟨h1,h2⟩,rfl⟩,rfl⟩,rfl⟩,h6⟩:=hchk;have V:=hV _ h6;obtain⟨d,hd,hd2⟩:=zI8 h1;have fin:∀v,Rep w W μ (a.eval x) v->∀l h m,Bds (lo.map a.eval) (hi.map a.eval) (mx.map a.eval) l h m->(if v.isStr then none else(zaD3 s.mem sz v l h m).map λ q=>(⟨q.1,q.2,[]⟩:Ef))=some ef->zp0 P o a w W μ s.mem ef.v (setM s.mem ef.mw):=λ v hv l h m hb hq=>by
    split at hq
    .cases hq
    .rename_i hns;simp only[cC]at hq;obtain⟨q,hq,rfl⟩:=hq;refine zdQ7 hs ho h2 hv ⟨λ⟨b,hb⟩=>?_,λ hu=>?_⟩ hb hq hobl
     .subst hb;exact absurd rfl hns
     .rw[hd]at hu;cases hu;simp[zbr9]at hd2
   cases lo with
   |none=>
    cases hi with
    |none=>
     cases mx with
     |none=>obtain⟨v,rfl,hv⟩:=V.one;exact fin v hv none none none ⟨.inl ⟨rfl,rfl⟩,.inl ⟨rfl,rfl⟩,.inl ⟨rfl,rfl⟩⟩ he
     |some m0=>obtain⟨v,u,rfl,hv,hu⟩:=V.two;exact absurd he (by simp[ev])
    |some h0=>
     cases mx with
     |none=>
      obtain⟨v,u,rfl,hv,hu⟩:=V.two;cases u<;>simp only[ev,Option.isSome]at he<;>try(cases he;done)
      exact fin v hv none (some _) none ⟨.inl ⟨rfl,rfl⟩,.inr ⟨_,_,dC some hu.int,rfl⟩,.inl ⟨rfl,rfl⟩⟩ he
     |some m0=>
      obtain⟨v,u,t,rfl,hv,hu,ht⟩:=V.three;cases u<;>simp only[ev,Option.isSome]at he<;>try(cases he;done)
      cases t<;>(try simp only at he)<;>try(cases he;done)
      exact fin v hv none (some _) (some _) ⟨.inl ⟨rfl,rfl⟩,.inr ⟨_,_,dC some hu.int,rfl⟩,.inr ⟨_,_,dC some ht.int,rfl⟩⟩ he
   |some l0=>
    cases hi with
    |none=>
     cases mx with
     |none=>
      obtain⟨v,u,rfl,hv,hu⟩:=V.two;cases u<;>simp only[ev,Option.isSome]at he<;>try(cases he;done)
      exact fin v hv (some _) none none ⟨.inr ⟨_,_,dC some hu.int,rfl⟩,.inl ⟨rfl,rfl⟩,.inl ⟨rfl,rfl⟩⟩ he
     |some m0=>obtain⟨v,u,t,rfl,hv,hu,ht⟩:=V.three;exact absurd he (by simp[ev])
    |some h0=>
     cases mx with
     |none=>
      obtain⟨v,u,t,rfl,hv,hu,ht⟩:=V.three;cases u<;>simp only[ev,Option.isSome]at he<;>try(cases he;done)
      cases t<;>(try simp only at he)<;>try(cases he;done)
      exact fin v hv (some _) (some _) none ⟨.inr ⟨_,_,dC some hu.int,rfl⟩,.inr ⟨_,_,dC some ht.int,rfl⟩,.inl ⟨rfl,rfl⟩⟩ he
     |some m0=>
      obtain⟨v,u,t,r,rfl,hv,hu,ht,hr⟩:=V.four;cases u<;>simp only[ev,Option.isSome]at he<;>try(cases he;done)
      cases t<;>(try simp only at he)<;>try(cases he;done)
      cases r<;>(try simp only at he)<;>try(cases he;done)
      exact fin v hv (some _) (some _) (some _) ⟨.inr ⟨_,_,dC some hu.int,rfl⟩,.inr ⟨_,_,dC some ht.int,rfl⟩,.inr ⟨_,_,dC some hr.int,rfl⟩⟩ he
  .cases hchk
 case slcS l h=>
  split at hchk
  .rename_i T x lo hi mx ho;simp only[bM,dB]at hchk;obtain⟨⟨⟨⟨h1,rfl⟩,rfl⟩,h4⟩,h6⟩:=hchk;have V:=hV _ h6;obtain⟨d,hd,hd2⟩:=zI8 h1;have hT:P.underlying T=some .string:=by cases d<;>simp[zaz4]at hd2;exact hd
   have h2:zbY5 P T 0=true:=by simp[zbY5,hT]
   have hmx:mx=none:=by simpa using h4
   subst hmx;have fin:∀b,Rep w W μ (a.eval x) (.str b)->∀l h,Bds (lo.map a.eval) (hi.map a.eval) none l h none->((zaD3 s.mem 0 (.str b) l h none).map λ q=>(⟨q.1,q.2,[]⟩:Ef))=some ef->zp0 P o a w W μ s.mem ef.v (setM s.mem ef.mw):=λ b hv l h hb hq=>by simp only[cC]at hq;obtain⟨q,hq,rfl⟩:=hq;exact zdQ7 hs ho h2 hv ⟨λ _=>hT,λ _=>⟨b,rfl⟩⟩ hb hq hobl
   cases lo with
   |none=>
    cases hi with
    |none=>
     obtain⟨v,rfl,hv⟩:=V.one;cases v<;>simp only[ev,Option.isSome]at he<;>try(cases he;done)
     exact fin _ hv none none ⟨.inl ⟨rfl,rfl⟩,.inl ⟨rfl,rfl⟩,.inl ⟨rfl,rfl⟩⟩ he
    |some h0=>
     obtain⟨v,u,rfl,hv,hu⟩:=V.two;cases v<;>simp only[ev,Option.isSome]at he<;>try(cases he;done)
     cases u<;>(try simp only at he)<;>try(cases he;done)
     exact fin _ hv none (some _) ⟨.inl ⟨rfl,rfl⟩,.inr ⟨_,_,dC some hu.int,rfl⟩,.inl ⟨rfl,rfl⟩⟩ he
   |some l0=>
    cases hi with
    |none=>
     obtain⟨v,u,rfl,hv,hu⟩:=V.two;cases v<;>simp only[ev,Option.isSome]at he<;>try(cases he;done)
     cases u<;>(try simp only at he)<;>try(cases he;done)
     exact fin _ hv (some _) none ⟨.inr ⟨_,_,dC some hu.int,rfl⟩,.inl ⟨rfl,rfl⟩,.inl ⟨rfl,rfl⟩⟩ he
    |some h0=>
     obtain⟨v,u,t,rfl,hv,hu,ht⟩:=V.three;cases v<;>simp only[ev,Option.isSome]at he<;>try(cases he;done)
     cases u<;>(try simp only at he)<;>try(cases he;done)
     cases t<;>(try simp only at he)<;>try(cases he;done)
     exact fin _ hv (some _) (some _) ⟨.inr ⟨_,_,dC some hu.int,rfl⟩,.inr ⟨_,_,dC some ht.int,rfl⟩,.inl ⟨rfl,rfl⟩⟩ he
  .cases hchk
 case ext i=>
  split at hchk
  .rename_i x i' ho;simp only[bM,dB]at hchk;obtain⟨rfl,h2⟩:=hchk;obtain⟨v,rfl,hv⟩:=(hV _ h2).one;cases v<;>simp only[ev]at he<;>try(cases he;done)
   cases he;exact zea9 hs ho hv hobl
  .cases hchk
 case len=>
  split at hchk
  .rename_i args ats ho;split at hchk
   .rename_i x t hx ht;simp only[bM]at hchk;obtain⟨v,rfl,hv⟩:=(hV _ hchk.2).one;obtain⟨d,hd,hd2⟩:=zI8 hchk.1;have hT:∃e,P.underlying t=some (.slice e):=by cases d<;>simp[zbr9]at hd2;exact⟨_,hd⟩
    have ha:args=#[x]:=by rw[<-hx]
    have hat:ats[0]? =some t:=by
     have:ats=#[t]:=by rw[<-ht]
     rw[this];rfl
    subst ha;refine(zeb0 hs ho hat hT hv he).mw ?_;simp only[ev]at he;split at he
    .cases he;rfl
    .cases he;rfl
    .split at he<;>first|(cases he;rfl)|cases he
    .cases he
   .cases hchk
  .cases hchk
 case lenS=>
  split at hchk
  .rename_i args ats ho;split at hchk
   .rename_i x t hx ht;simp only[bM]at hchk;obtain⟨v,rfl,hv⟩:=(hV _ hchk.2).one;obtain⟨d,hd,hd2⟩:=zI8 hchk.1;have hT:P.underlying t=some .string:=by cases d<;>simp[zaz4]at hd2;exact hd
    have ha:args=#[x]:=by rw[<-hx]
    have hat:ats[0]? =some t:=by
     have:ats=#[t]:=by rw[<-ht]
     rw[this];rfl
    subst ha;cases v<;>simp only[ev]at he<;>try(cases he;done)
    cases he;exact zdS1 hs ho hat hT hv
   .cases hchk
  .cases hchk
 case append sz by_ z=>
  split at hchk
  .rename_i args ats ho;split at hchk
   .rename_i x y T U hx ht;simp only[bM]at hchk;obtain⟨v,u,rfl,hv,hu⟩:=(hV _ hchk.2).two;have ha:args=#[x,y]:=by rw[<-hx]
    have hat:ats=#[T,U]:=by rw[<-ht]
    subst ha;subst hat;exact zds2 hs ho hchk.1 hv hu hid he hobl
   .cases hchk
  .cases hchk
 case appc sz by_=>
  split at hchk
  .rename_i args ats ho;split at hchk
   .rename_i x y T U hx ht;simp only[bM]at hchk;obtain⟨v,u,rfl,hv,hu⟩:=(hV _ hchk.2).two;have ha:args=#[x,y]:=by rw[<-hx]
    have hat:ats=#[T,U]:=by rw[<-ht]
    subst ha;subst hat;exact zdS5 hs ho hchk.1 hv hu hid he hobl
   .cases hchk
  .cases hchk
 case apl sz by_=>
  split at hchk
  .rename_i args ats ho;split at hchk
   .rename_i x y T U hx ht;simp only[bM]at hchk;obtain⟨v,u,rfl,hv,hu⟩:=(hV _ hchk.2).two;have ha:args=#[x,y]:=by rw[<-hx]
    have hat:ats=#[T,U]:=by rw[<-ht]
    subst ha;subst hat;cases v<;>first|(cases he;done)|skip
    cases u<;>first|(cases he;done)|skip
    cases he;obtain⟨h1,rfl,h3,h4,h5⟩:=hobl;exact zeb7 hs ho hchk.1 hv hu h3 h4 h5
   .cases hchk
  .cases hchk
 case clear sz z=>
  split at hchk
  .rename_i args ats ho;split at hchk
   .rename_i x T hx ht;simp only[bM]at hchk;obtain⟨v,rfl,hv⟩:=(hV _ hchk.2).one;have ha:args=#[x]:=by rw[<-hx]
    have hat:ats=#[T]:=by rw[<-ht]
    subst ha;subst hat;exact zdJ4 hs ho hchk.1 hv he hobl
   .cases hchk
  .cases hchk
 case copy sz=>
  split at hchk
  .rename_i args ats ho;split at hchk
   .rename_i x y T U hx ht;simp only[bM]at hchk;obtain⟨v,u,rfl,hv,hu⟩:=(hV _ hchk.2).two;have ha:args=#[x,y]:=by rw[<-hx]
    have hat:ats=#[T,U]:=by rw[<-ht]
    subst ha;subst hat;exact zdS7 hs ho hchk.1 hv hu he hobl
   .cases hchk
  .cases hchk
 case mk sz by_ z=>
  split at hchk
  .rename_i T x y ho;simp only[bM]at hchk;obtain⟨v,u,rfl,hv,hu⟩:=(hV _ hchk.2).two;cases v<;>simp only[ev]at he<;>try(cases he;done)
   cases u<;>simp only[ev]at he<;>try(cases he;done)
   cases he;obtain⟨h1,_,h3,h4,h5,h6⟩:=hobl;exact y_mk hs ho hchk.1 hv hu hid h1 h3 h4 h5 h6
  .cases hchk
 case conv k=>
  split at hchk
  .rename_i T T2 x ho;simp only[bM]at hchk;obtain⟨⟨h1,h2⟩,h3⟩:=hchk;obtain⟨v,rfl,hv⟩:=(hV _ h3).one;obtain⟨d,hd,_⟩:=zI8 h1;obtain⟨d2,hd2,hd3⟩:=zI8 h2;have hT:P.underlying T2=some (.int k):=by cases d2<;>simp[zcw3]at hd3;subst hd3;exact hd2
   cases v<;>simp only[ev]at he<;>try(cases he;done)
   cases he;exact zdS4 hs ho ⟨⟨d,hd⟩,hT⟩ hv
  .cases hchk
 case cvS=>
  split at hchk
  .rename_i T T2 x ho;simp only[bM]at hchk;obtain⟨⟨h1,h2⟩,h3⟩:=hchk;obtain⟨v,rfl,hv⟩:=(hV _ h3).one;obtain⟨e,he1,he2⟩:=zbE3 h1;obtain⟨d2,hd2,hd3⟩:=zI8 h2;have hT2:P.underlying T2=some .string:=by cases d2<;>simp[zaz4]at hd3;exact hd2
   simp only[ev]at he;split at he
   .cases he
   .rename_i hns;simp only[gE]at he;obtain⟨es,h4,l,h5,he⟩:=he;cases he;exact zec6 hs ho he1 he2 hT2 hv (by simpa using hns) h4 h5 hobl
  .cases hchk
 case cvB=>
  split at hchk
  .rename_i T T2 x ho;simp only[bM]at hchk;obtain⟨⟨h1,h2⟩,h3⟩:=hchk;obtain⟨v,rfl,hv⟩:=(hV _ h3).one;obtain⟨e,he1,he2⟩:=zbE3 h2;obtain⟨d2,hd2,hd3⟩:=zI8 h1;cases v<;>simp only[ev]at he<;>try(cases he;done)
   cases he;exact zec7 hs ho hd2 he1 he2 hv hobl
  .cases hchk
 case min=>
  split at hchk
  .rename_i args ats ho;split at hchk
   .rename_i x y hx;obtain⟨v,u,rfl,hv,hu⟩:=(hV _ hchk).two;have ha:args=#[x,y]:=by rw[<-hx]
    subst ha;cases v<;>simp only[ev]at he<;>try(cases he;done)
    cases u<;>simp only[ev]at he<;>try(cases he;done)
    cases he;have:_=_:=hobl;subst this;exact zeb3 hs ho hv hu
   .cases hchk
  .cases hchk
 case max=>
  split at hchk
  .rename_i args ats ho;split at hchk
   .rename_i x y hx;obtain⟨v,u,rfl,hv,hu⟩:=(hV _ hchk).two;have ha:args=#[x,y]:=by rw[<-hx]
    subst ha;cases v<;>simp only[ev]at he<;>try(cases he;done)
    cases u<;>simp only[ev]at he<;>try(cases he;done)
    cases he;have:_=_:=hobl;subst this;exact zeb4 hs ho hv hu
   .cases hchk
  .cases hchk
 case nilck=>
  split at hchk
  .rename_i x ho;obtain⟨v,rfl,hv⟩:=(hV _ hchk).one;refine(zdI9 hs ho hv he hobl).mw ?_;simp only[ev]at he;split at he
   .split at he<;>first|(cases he;rfl)|cases he
   .cases he;rfl
   .cases he;rfl
   .cases he;rfl
   .cases he
  .cases hchk
 case mkb f=>
  split at hchk
  .rename_i f' fst caps ho;split at hchk
   .rename_i y hy;simp only[bM,dB]at hchk;obtain⟨⟨rfl,h2⟩,h3⟩:=hchk;have hc:caps=#[]:=by simpa using h2
    have hf:fst=#[y]:=by rw[<-Array.toArray_toList (xs:=fst),hy]
    subst hc;subst hf;obtain⟨v,rfl,hv⟩:=(hV _ h3).one;cases v<;>simp only[ev]at he<;>first|(cases he;done)|skip
    cases he;exact zec0 hs ho hv hobl
   .cases hchk
  .cases hchk
 case mkf f=>
  split at hchk
  .rename_i f' fst caps ho;simp only[bM,dB]at hchk;obtain⟨⟨rfl,h2⟩,h3⟩:=hchk;have hf:fst=#[]:=by simpa using h2
   subst hf;have hv:=hV _ h3;cases vals<;>(cases he;exact zeb9 hs ho hv.1 hv.2 (zcq6 hobl))
  .cases hchk
 case mkmap z=>
  split at hchk
  .rename_i T ho;have:vals=[]:=by
    have:xs=[]:=by simpa using hchk
    subst this;exact cR hlen.symm
   subst this;cases he;exact zdJ5 hs ho hid
  .cases hchk
 case lkp ok ag kz z=>
  split at hchk
  .rename_i T x i ok' ho;simp only[bM,dB]at hchk;obtain⟨⟨⟨rfl,h1⟩,h2⟩,h3⟩:=hchk;obtain⟨v,u,rfl,hv,hu⟩:=(hV _ h3).two;cases v<;>simp only[ev]at he<;>try(cases he;done)
   split at he
   .rename_i r hr;cases he;exact zec3 hs ho h1 h2 hv hu hr hobl.1 hobl.2
   .cases he
  .cases hchk
 case mupd kz ag n=>
  split at hchk
  rotate_right
  .cases hchk
  all_goals
   rename_i T x i y ho;simp only[bM]at hchk;obtain⟨h1,h3⟩:=hchk;obtain⟨v,u,q,rfl,hv,hu,hq⟩:=(hV _ h3).three;cases v<;>simp only[ev]at he<;>try(cases he;done)
   split at he
   .rename_i r hr;cases he;obtain⟨k1,k2,k3,k4,k5,_,k6⟩:=hobl;exact zdT0 hs (by first|exact .inl ho|exact .inr ho) h1 hv hu hq hr k1 k2 k3 k4 k5 k6
   .cases he
 case lenM=>
  split at hchk
  .rename_i args ats ho;split at hchk
   .rename_i x t hx ht;simp only[bM]at hchk;obtain⟨h1,h2⟩:=hchk;obtain⟨v,rfl,hv⟩:=(hV _ h2).one;have ha:args=#[x]:=by rw[<-hx]
    have hat:ats[0]? =some t:=by rw[<-iF,ht];rfl
    subst ha;obtain⟨d,hd,hd2⟩:=zI8 h1;cases v<;>simp only[ev]at he<;>try(cases he;done)
    split at he
    .rename_i r hr;cases he;refine zdT1 hs ho hat ?_ hv hr hobl;cases d<;>simp only[zcZ2,bP]at hd2;exact⟨_,_,hd⟩
    .cases he
   .cases hchk
  .cases hchk
 case rng=>
  split at hchk
  .rename_i T x ho;simp only[bM]at hchk;obtain⟨h1,h2⟩:=hchk;obtain⟨v,rfl,hv⟩:=(hV _ h2).one;obtain⟨d,hd,hd2⟩:=zI8 h1;cases v<;>simp only[ev]at he<;>try(cases he;done)
   split at he
   .rename_i r hr;cases he;refine zec4 hs ho ?_ hv hr hobl hid;cases d<;>simp only[zcZ2,bP]at hd2;exact⟨_,_,hd⟩
   .cases he
  .cases hchk
 case entry d=>cases vals<;>(simp[ev]at he)
 case next d=>cases vals<;>(simp[ev]at he)
 case eqNil=>cases vals<;>(simp[ev]at he)
 case call f=>cases vals<;>(simp[ev]at he)
 case callv=>cases vals<;>(simp[ev]at he)
 case callb=>cases vals<;>(simp[ev]at he)
 case callm f=>cases vals<;>(simp[ev]at he)
 case callvm=>cases vals<;>(simp[ev]at he)
end
structure Cx where
 P:Program
 G:zbP5
def zay3:Nat->Loc:=λ _=>.fresh
def PFn(C:Cx)(f:FuncId)(as:List A)(r:A):Prop:=
 ∀(w:World) (W:Nat->Prop) (vs:List Value),zbd4 w W C.G->(∀b,W b->b<w.heap.size)->vs.length=as.length->
  (∀(i:Nat) (v:Value) (a:A),vs[i]? =some v->as[i]? =some a->RepV w W zay3 v a)->
  Calls C.P f vs.toArray w λ e w'=>∃v,e=.returned v/\Keeps (λ _=>False) w w'/\Rep w' W zay3 v r
def look{α:Type}:List (Nat×α)->Nat->Option α
 |[],_=>none
 |q::r,n=>if q.1=n then some q.2 else look r n
def rm{α:Type}(n:Nat):List (Nat×α)->List (Nat×α)
 |[]=>[]
 |q::r=>if q.1=n then rm n r else q::rm n r
def zcq7{α:Type}:List Nat->List (Nat×α)->List (Nat×α)
 |[],l=>l
 |n::ns,l=>zcq7 ns (rm n l)
structure St where
 fr:List (Nat×A)
 mem:List (Nat×Row)
 nx:Nat
def St.slot(st:St)(t:Nat):A:=(look st.fr t).getD .any
def St.m(st:St)(x:Nat):MS:=if st.nx<=x then .fresh else match look st.mem x with
 |some r=>.row r
 |none=>.dead
def St.toS(st:St):S:=⟨st.slot,st.m⟩
def putM:List (Nat×MS)->List (Nat×Row)->List (Nat×Row)
 |[],m=>m
 |(x,.row r)::q,m=>putM q ((x,r)::rm x m)
 |(x,_)::q,m=>putM q (rm x m)
def nxt(nx:Nat):List (Nat×MS)->Nat
 |[]=>nx
 |q::r=>nxt (if q.1=nx then nx+1 else nx) r
def putF(d:Option Nat)(v:A)(fr:List (Nat×A)):List (Nat×A):=match d with
 |none=>fr
 |some d=>(d,v)::rm d fr
def St.app(st:St)(d:Option Nat)(v:A)(mw:List (Nat×MS)):St:=⟨putF d v st.fr,putM mw st.mem,nxt st.nx mw⟩
def frz1(m:Nat->MS):A->A
 | .own x lo n=>match m x with
  | .row r=>.sl ((r.es.drop lo).take n)
  |_=>.any
 |a=>a
def zn6:List A->Bool
 |[]=>true
 |a::as=>a.pure1&&zn6 as
def frz(m:Nat->MS):A->A
 | .agg cs=>if zn6 cs then .agg cs else .agg (cs.map (frz1 m))
 |a=>frz1 m a
def zat3(m:Nat->MS):A->Prop
 | .own x lo n=>match m x with
  | .row r=>lo+n<=r.es.length/\zU1 ((r.es.drop lo).take n)
  |_=>False
 |a=>a.pure1=true
def zaz5(m:Nat->MS):A->Prop
 | .agg cs=>if zn6 cs then True else∀c∈cs,zat3 m c
 | .clo _ cs=>cs=[]
 |a=>zat3 m a
def zG8(m:Nat->MS):List A->List A
 |[]=>[]
 |a::as=>frz m a::zG8 m as
def zA1(m:Nat->MS):List A->Prop
 |[]=>True
 |a::as=>zaz5 m a/\zA1 m as
def zP8:A->List Nat
 | .own x _ _=>[x]
 |_=>[]
def zaz6:A->List Nat
 | .agg cs=>if zn6 cs then[]else cs.flatMap zP8
 |a=>zP8 a
def zC3:List A->List Nat
 |[]=>[]
 |a::as=>zaz6 a++zC3 as
def A.scal1:A->Bool
 | .bool _|.int _ _|.str _=>true
 |_=>false
def zz9:List A->Bool
 |[]=>true
 |a::as=>a.scal1&&zz9 as
def A.scal2:A->Bool
 | .agg cs=>zz9 cs
 |a=>a.scal1
def zbZ5:List A->Bool
 |[]=>true
 |a::as=>a.scal2&&zbZ5 as
def A.scal:A->Bool
 | .tup vs=>zbZ5 vs
 |a=>a.scal2
def zP9(m:Nat->MS):List Nat->List (Nat×MS)
 |[]=>[]
 |x::xs=>match m x with
  | .row r=>(x,.row ⟨true,r.sz,r.z,r.es⟩)::zP9 m xs
  |_=>zP9 m xs
def zA3(m:Nat->MS)(vals:List A)(r:A):List (Nat×MS):=if r.scal then[]else zP9 m (zC3 vals)
def zI2(st:St):Option (Nat×Bool)->Option Bool
 |none=>some true
 |some q=>match st.slot q.1 with
  | .bool b=>some (if q.2 then b else !b)
  | .cnd g (.bool b)=>some (g&&if q.2 then b else !b)
  |_=>none
def zQ0(g:Option (Nat×Bool))(b:Bool)(v:A):A:=match g with
 |none=>v
 |some _=>.cnd b v
def zs5(C:Cx)(st:St):List PX->List A
 |[]=>[]
 |p::ps=>(xv C.G st.slot p).nc::zs5 C st ps
def zaf4(C:Cx)(st:St):List PX->Prop
 |[]=>True
 |p::ps=>(xv C.G st.slot p).gd=true/\zaf4 C st ps
def A.isVV:A->Bool
 | .any|.tup _|.cnd _ _=>false
 |_=>true
def rho(l:List (Nat×Nat))(x:Nat):Nat:=(look l x).getD x
def ren0(l:List (Nat×Nat)):A->A
 | .own x lo n=>.own (rho l x) lo n
 | .ptr x i j=>.ptr (rho l x) i j
 | .mp x=>.mp (rho l x)
 | .it x=>.it (rho l x)
 |a=>a
def ren1(l:List (Nat×Nat)):A->A
 | .clo f cs=>.clo f (cs.map (ren0 l))
 |a=>ren0 l a
def ren(l:List (Nat×Nat)):A->A
 | .agg cs=>if zn6 cs then .agg cs else .agg (cs.map (ren1 l))
 |a=>ren1 l a
def renR(l:List (Nat×Nat)):A->A
 | .tup vs=>.tup (vs.map (ren l))
 |a=>ren l a
def zcE1(nx:Nat):A->Prop
 | .own x _ _=>x<nx
 | .ptr x _ _=>x<nx
 | .mp x=>x<nx
 | .it x=>x<nx
 |_=>True
def zbw3(nx:Nat):A->Prop
 | .clo _ cs=>∀c∈cs,zcE1 nx c
 |a=>zcE1 nx a
def pureEs:List (List A)->Bool
 |[]=>true
 |c::cs=>zn6 c&&pureEs cs
def zak6(l:List (Nat×Nat))(es:List (List A)):List (List A):=if pureEs es then es else es.map (·.map (ren1 l))
def idEs(nx:Nat)(es:List (List A)):Prop:=if pureEs es then True else∀c∈es,∀a∈c,zbw3 nx a
def zaP3:List Nat->Bool
 |[]=>true
 |x::xs=>!xs.contains x&&zaP3 xs
def MFn(C:Cx)(f:FuncId)(as:List A)(ms:List (Nat×Row))(k:Nat)(r:A)(ms':List (Nat×Row))(k':Nat):Prop:=
 ∀(w:World) (W:Nat->Prop) (μ:Nat->Loc) (vs:List Value),zbd4 w W C.G->(∀b,W b->b<w.heap.size)->vs.length=as.length->
  (∀(i:Nat) (v:Value) (a:A),vs[i]? =some v->as[i]? =some a->RepV w W μ v a)->zaz0 w W μ (⟨[],ms,k⟩:St).m->
  (∀x y b b',μ x=.at_ b->μ y=.at_ b'->b.b=b'.b->x=y)->
  Calls C.P f vs.toArray w λ e w'=>∃v W' μ',e=.returned v/\Step (⟨[],ms,k⟩:St).m (⟨[],ms',k'⟩:St).m w w' W W' μ μ'/\Rep w' W' μ' v r
def A.hands:A->Bool
 | .own _ _ _|.ptr _ _ _=>true
 | .clo _ cs=>!cs.isEmpty
 | .agg cs=>!zn6 cs
 |_=>false
def zcZ5(nx:Nat):List A->Prop
 |[]=>True
 |c::cs=>zbw3 nx c/\zcZ5 nx cs
def zdQ9(nx:Nat):A->Prop
 | .agg cs=>zcZ5 nx cs
 |a=>zbw3 nx a
def argM(m:Nat->MS)(l:List (Nat×Nat))(k:Nat)(v a:A):Prop:=
 if a.hands then v=ren l a/\zdQ9 k a else zaz5 m v/\frz m v=a
def zbE4(m:Nat->MS)(l:List (Nat×Nat))(k:Nat):List A->List A->Prop
 |v::vs,a::as=>argM m l k v a/\zbE4 m l k vs as
 |[],[]=>True
 |_,_=>False
def fzM:List A->List A->List Nat
 |v::vs,a::as=>(if a.hands then[]else zaz6 v)++fzM vs as
 |_,_=>[]
def zcq8(m:Nat->MS)(l:List (Nat×Nat))(k:Nat)(fz:List Nat):List (Nat×Row)->Prop
 |[]=>True
 |q::r=>(match m (rho l q.1)with
   | .row r'=>r'.ro=false/\r'.sz=q.2.sz/\r'.es=zak6 l q.2.es
   |_=>False)/\q.2.ro=false/\q.1<k/\idEs k q.2.es/\fz.contains (rho l q.1)=false/\Nat.ble 1 q.2.sz=true/\zcq8 m l k fz r
def zbP9{α:Type}(ms:List (Nat×α)):Nat->Bool
 |0=>true
 |n+1=>(look ms n).isSome&&zbP9 ms n
def okM(m:Nat->MS)(nx:Nat)(l:List (Nat×Nat))(vals as:List A)(ms:List (Nat×Row))(k k':Nat):Prop:=
 zbE4 m l k vals as/\zcq8 m l k (fzM vals as) ms/\zaP3 (ms.map λ q=>rho l q.1)=true/\zaP3 (ms.map (·.1))=true/\zbP9 ms k=true/\Nat.ble k k'=true/\(∀q∈ms,rho l q.1<nx)/\(∀q∈l,q.1<k)
def newL(k nx:Nat):Nat->List (Nat×Nat)
 |0=>[]
 |n+1=>(k,nx)::newL (k+1) (nx+1) n
def entM(l:List (Nat×Nat)):Option Row->MS
 |some r=>.row ⟨r.ro,r.sz,r.z,zak6 l r.es⟩
 |none=>.dead
def zak7(l:List (Nat×Nat))(ms':List (Nat×Row)):List Nat->List (Nat×MS)
 |[]=>[]
 |x::xs=>(rho l x,entM l (look ms' x))::zak7 l ms' xs
def mwM(m:Nat->MS)(l:List (Nat×Nat))(vals as:List A)(ms ms':List (Nat×Row))(k k':Nat):List (Nat×MS):=
 zP9 m (fzM vals as)++zak7 l ms' (ms.map (·.1)++(List.range (k'-k)).map (k+·))
def MS.like:MS->MS->Prop
 | .row r,.row r'=>r.ro=r'.ro/\r.sz=r'.sz/\r.es=r'.es/\(r.sz=0->r.z=r'.z)
 | .dead,.dead=>True
 |_,_=>False
def zbZ6(m:Nat->MS):List (Nat×MS)->Prop
 |[]=>True
 |q::r=>(m q.1).like q.2/\zbZ6 m r
def zaT7(C:Cx)(m:Nat->MS)(nx:Nat)(f:FuncId)(vals:List A)(og:Option (Nat×Bool))(g:Bool)(ob:Prop)(F:Nat->Prop)(K:A->List (Nat×MS)->Prop):Prop:=
 ∃l as ms k r ms' k',(g=true->ob/\MFn C f as ms k r ms' k'/\okM m nx l vals as ms k k'/\F (k'-k))/\(g=false->k=k'/\zbZ6 m (mwM m (l++newL k nx (k'-k)) vals as ms ms' k k'))/\
  (og=none\/(renR (l++newL k nx (k'-k)) r).isVV=true)/\(∀g c,r≠.cnd g c)/\K (zQ0 og g (renR (l++newL k nx (k'-k)) r)) (mwM m (l++newL k nx (k'-k)) vals as ms ms' k k')
def PO.lax:PO->Bool
 | .len|.bin _|.not=>true
 |_=>false
theorem zdT6{id id':Nat}{m:Nat->MS}{po:PO}{vals:List A}(h:po.lax=true):ev id m po vals=ev id' m po vals:=by cases po<;>first|(cases h;done)|rfl|(rcases vals with _|⟨x,_|⟨y,_|⟨z,xs⟩⟩⟩<;>first|rfl|(cases x<;>first|rfl|(cases y<;>rfl)))
def aop(C:Cx)(p:POp)(st:St)(K:St->Prop):Prop:=
 match zI2 st p.g with
 |none=>False
 |some g=>
  match p.po with
  | .pick=>match p.xs with
   |[c,x,y]=>match(xv C.G st.slot c).nc,(xv C.G st.slot x).nc,(xv C.G st.slot y).nc with
    | .bool b,.bool u,.bool v=>(g=true->(xv C.G st.slot c).gd=true/\(b=true->(xv C.G st.slot x).gd=true)/\(b=false->(xv C.G st.slot y).gd=true))/\K (st.app p.dst (zQ0 p.g g (.bool (cond b u v))) [])
    |_,_,_=>False
   |_=>False
  | .call f=>∃r,(g=true->zaf4 C st p.xs/\zA1 st.m (zs5 C st p.xs)/\PFn C f (zG8 st.m (zs5 C st p.xs)) r)/\
    (p.g=none\/zA3 st.m (zs5 C st p.xs) r=[]/\r.isVV=true)/\K (st.app p.dst (zQ0 p.g g r) (zA3 st.m (zs5 C st p.xs) r))
  | .callv=>match zs5 C st p.xs with
   | .clo f caps::vals=>∃r,(g=true->zaf4 C st p.xs/\zD6 C.P f=true/\zA1 st.m (vals++caps)/\PFn C f (zG8 st.m (vals++caps)) r)/\
    (p.g=none\/zA3 st.m (vals++caps) r=[]/\r.isVV=true)/\K (st.app p.dst (zQ0 p.g g r) (zA3 st.m (vals++caps) r))
   |_=>False
  | .callb=>match zs5 C st p.xs with
   | .bnd f cs::vals=>∃r,(g=true->zaf4 C st p.xs/\zD6 C.P f=true/\zA1 st.m (.agg cs::vals)/\PFn C f (zG8 st.m (.agg cs::vals)) r)/\
    (p.g=none\/zA3 st.m (.agg cs::vals) r=[]/\r.isVV=true)/\K (st.app p.dst (zQ0 p.g g r) (zA3 st.m (.agg cs::vals) r))
   |_=>False
  | .callm f=>zaT7 C st.m st.nx f (zs5 C st p.xs) p.g g (zaf4 C st p.xs) (λ _=>True) λ v mw=>K (st.app p.dst v mw)
  | .callvm=>match zs5 C st p.xs with
   | .clo f caps::vals=>zaT7 C st.m st.nx f (vals++caps) p.g g (zaf4 C st p.xs/\zD6 C.P f=true) (λ _=>True) λ v mw=>K (st.app p.dst v mw)
   |_=>False
  |po=>match ev st.nx st.m po (zs5 C st p.xs)with
   |some ef=>(g=true->zaf4 C st p.xs/\ef.obl)/\(p.g=none\/ef.mw=[]/\ef.v.isVV=true)/\K (st.app p.dst (zQ0 p.g g ef.v) ef.mw)
   |none=>g=false/\po.lax=true/\K (st.app p.dst (zQ0 p.g g (.bool false)) [])
def zG1(fr:Nat->A):Option (Nat×Bool)->Option Bool
 |none=>some true
 |some q=>match fr q.1 with
  | .bool b=>some (if q.2 then b else !b)
  | .cnd g (.bool b)=>some (g&&if q.2 then b else !b)
  |_=>none
def zF2(C:Cx)(fr:Nat->A):List PX->List A
 |[]=>[]
 |p::ps=>(xv C.G fr p).nc::zF2 C fr ps
def gdsF(C:Cx)(fr:Nat->A):List PX->Prop
 |[]=>True
 |p::ps=>(xv C.G fr p).gd=true/\gdsF C fr ps
def aopS(C:Cx)(p:POp)(s:S)(id:Nat)(K:A->List (Nat×MS)->Prop):Prop:=
 match zG1 s.fr p.g with
 |none=>False
 |some g=>
  match p.po with
  | .pick=>match p.xs with
   |[c,x,y]=>match(xv C.G s.fr c).nc,(xv C.G s.fr x).nc,(xv C.G s.fr y).nc with
    | .bool b,.bool u,.bool v=>(g=true->(xv C.G s.fr c).gd=true/\(b=true->(xv C.G s.fr x).gd=true)/\(b=false->(xv C.G s.fr y).gd=true))/\K (zQ0 p.g g (.bool (cond b u v))) []
    |_,_,_=>False
   |_=>False
  | .call f=>∃r,(g=true->gdsF C s.fr p.xs/\zA1 s.mem (zF2 C s.fr p.xs)/\PFn C f (zG8 s.mem (zF2 C s.fr p.xs)) r)/\
    (p.g=none\/zA3 s.mem (zF2 C s.fr p.xs) r=[]/\r.isVV=true)/\K (zQ0 p.g g r) (zA3 s.mem (zF2 C s.fr p.xs) r)
  | .callv=>match zF2 C s.fr p.xs with
   | .clo f caps::vals=>∃r,(g=true->gdsF C s.fr p.xs/\zD6 C.P f=true/\zA1 s.mem (vals++caps)/\PFn C f (zG8 s.mem (vals++caps)) r)/\
    (p.g=none\/zA3 s.mem (vals++caps) r=[]/\r.isVV=true)/\K (zQ0 p.g g r) (zA3 s.mem (vals++caps) r)
   |_=>False
  | .callb=>match zF2 C s.fr p.xs with
   | .bnd f cs::vals=>∃r,(g=true->gdsF C s.fr p.xs/\zD6 C.P f=true/\zA1 s.mem (.agg cs::vals)/\PFn C f (zG8 s.mem (.agg cs::vals)) r)/\
    (p.g=none\/zA3 s.mem (.agg cs::vals) r=[]/\r.isVV=true)/\K (zQ0 p.g g r) (zA3 s.mem (.agg cs::vals) r)
   |_=>False
  | .callm f=>zaT7 C s.mem id f (zF2 C s.fr p.xs) p.g g (gdsF C s.fr p.xs) (λ n=>∀x,id<=x->x<id+n->s.mem x=.fresh) K
  | .callvm=>match zF2 C s.fr p.xs with
   | .clo f caps::vals=>zaT7 C s.mem id f (vals++caps) p.g g (gdsF C s.fr p.xs/\zD6 C.P f=true) (λ n=>∀x,id<=x->x<id+n->s.mem x=.fresh) K
   |_=>False
  |po=>match ev id s.mem po (zF2 C s.fr p.xs)with
   |some ef=>(g=true->gdsF C s.fr p.xs/\ef.obl)/\(p.g=none\/ef.mw=[]/\ef.v.isVV=true)/\K (zQ0 p.g g ef.v) ef.mw
   |none=>g=false/\po.lax=true/\K (zQ0 p.g g (.bool false)) []
def nilQ(K:Bool->Prop):List A->Prop
 |[.sl es]=>∀b:Bool,(b=true->es=[])->K b
 |[.full es]=>∀b:Bool,(b=true->es=[])->K b
 |_=>False
def PO.isNilQ:PO->Bool
 | .eqNil=>true
 |_=>false
def PO.isNext:PO->Bool
 | .next _|.entry _=>true
 |_=>false
def zec8:PO->(Nat->MS)->(A->List (Nat×MS)->Prop)->List A->Prop
 | .next d,m,K,vals=>nxtQ d m K vals
 | .entry d,m,K,vals=>entQ d m K vals
 |_,_,_,_=>False
def arun(C:Cx):List POp->St->(St->Prop)->Prop
 |[],st,K=>K st
 |p::ps,st,K=>if p.po.isNilQ=true then p.g=none/\zaf4 C st p.xs/\nilQ (λ b=>arun C ps (st.app p.dst (.bool b) []) K) (zs5 C st p.xs)else if p.po.isNext=true then p.g=none/\zaf4 C st p.xs/\zec8 p.po st.m (λ v mw=>arun C ps (st.app p.dst v mw) K) (zs5 C st p.xs)else aop C p st λ st'=>arun C ps st' K
theorem zaH6{α:Type}(n x:Nat):∀l:List (Nat×α),look (rm n l) x=if x=n then none else look l x
 |[]=>by simp[rm,look]
 |q::r=>by
  unfold rm;split
  .rename_i h;rw[zaH6 n x r]
   by_cases hx:x=n
   .simp[hx]
   .rw[bN hx,bN hx];simp only[look];rw[bN (by omega)]
  .rename_i h;simp only[look];split
   .rename_i h2;rw[bN (by omega)]
   .exact zaH6 n x r
theorem zcE2(st:St)(d:Option Nat)(v:A)(mw:List (Nat×MS)):(st.app d v mw).slot=setF st.slot d v:=by
 funext t;simp only[St.slot,St.app,setF,putF];cases d with
 |none=>simp
 |some d=>
  simp only[look,cK];split
  .rfl
  .rename_i h;rw[zaH6,bN (by omega)]
def mwOk:Nat->List (Nat×MS)->Prop
 |_,[]=>True
 |nx,q::r=>q.1<=nx/\q.2≠.fresh/\mwOk (if q.1=nx then nx+1 else nx) r
theorem zcq9{m:Nat->MS}(x:Nat):∀{mw:List (Nat×MS)} (m':Nat->MS),zbZ6 m mw->setM m' mw x=m' x\/(m x).like (setM m' mw x)
 |[],_,_=>.inl rfl
 |q::r,m',h=>by
  simp only[setM];rcases zcq9 x (λ x=>if x=q.1 then q.2 else m' x) h.2 with e|e
  .rw[e]
   by_cases hx:x=q.1
   .subst hx;rw[bO rfl];exact .inr h.1
   .rw[bN hx];exact .inl rfl
  .exact .inr e
theorem zau0.like{w:World}{W:Nat->Prop}{μ:Nat->Loc}{x:Nat}{p q:MS}(h:zau0 w W μ x p)(hl:p.like q):zau0 w W μ x q:=by
 cases p<;>cases q<;>first|exact hl.elim|exact h|skip
 rename_i r r';obtain⟨ro,sz,z,es⟩:=r;obtain⟨ro',sz',z',es'⟩:=r';obtain⟨rfl,rfl,rfl,hz⟩:=hl;rcases h with h|⟨k,h1,h2|h2⟩
 .exact .inl h
 .exact .inr ⟨k,h1,.inl h2⟩
 .have e:sz=0:=h2.elim (λ h=>h.2.2.1) (λ h=>h.2.2.1);have e2:z=z':=hz e;subst e2;exact .inr ⟨k,h1,.inr h2⟩
theorem MS.like_ne{p q:MS}(h:p.like q):p≠.fresh/\q≠.fresh:=by cases p<;>cases q<;>first|exact h.elim|exact⟨(nomatch ·),(nomatch ·)⟩
theorem zcR7:∀(mw:List (Nat×MS)) (fr:List (Nat×A)) (mem:List (Nat×Row)) (nx:Nat),mwOk nx mw->∀f2,(⟨f2,putM mw mem,nxt nx mw⟩:St).m=setM (⟨fr,mem,nx⟩:St).m mw
 |[],fr,mem,nx,_,f2=>by simp[putM,nxt,setM,St.m];rfl
 |q::r,fr,mem,nx,h,f2=>by
  obtain⟨h1,h2,h3⟩:=h;have e:(λ x=>if x=q.1 then q.2 else(⟨fr,mem,nx⟩:St).m x)=(⟨fr,(match q with|(x,.row r)=>(x,r)::rm x mem|(x,_)=>rm x mem),if q.1=nx then nx+1 else nx⟩:St).m:=by
   funext x;obtain⟨y,q2⟩:=q;simp only at h1 h2
   by_cases hx:x=y
   .subst hx;rw[bO rfl];cases q2 with
    |fresh=>exact absurd rfl h2
    |dead=>simp only[St.m,zaH6,bT];rw[bN (by split<;>omega)]
    |row r=>simp only[St.m,look,bT];rw[bN (by split<;>omega)]
   .rw[bN hx];cases q2 with
    |fresh=>exact absurd rfl h2
    |dead=>
     simp only[St.m,zaH6,hx,bV];split
     .rename_i hh;rw[bO (by split<;>omega)]
     .rename_i hh;rw[bN (by split<;>omega)]
    |row r=>
     simp only[St.m,look,zaH6,hx,bV,show¬y=x by omega];split
     .rename_i hh;rw[bO (by split<;>omega)]
     .rename_i hh;rw[bN (by split<;>omega)]
  simp only[setM,nxt];rw[e];obtain⟨y,q2⟩:=q;cases q2 with
  |fresh=>exact absurd rfl h2
  |dead=>exact zcR7 r fr _ _ h3 f2
  |row r'=>exact zcR7 r fr _ _ h3 f2
end Ab
end Go.Proofs.YtdlfhmkmnjbihaaGreatDoor
