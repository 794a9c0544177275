import Derived.Test.YtebopmkhhppfaaaGreatDoorAb9
namespace Go.Proofs.YtebopmkhhppfaaaGreatDoor
namespace Ab
set_option linter.unusedSimpArgs false
set_option linter.unusedVariables false
section
variable {P:Program} {o:Oper} {a:Act} {E:Env} {s:S} {w:World} {W:Nat→Prop} {μ:Nat→Loc}
def Cs (R:Value→A→Prop) (us:List Value) (cs:List A):Prop:=us.length=cs.length∧∀ (i:Nat) (u:Value) (b:A),us[i]? = some u→cs[i]? = some b→R u b
theorem Cs.upd {R:Value→A→Prop} {us vs:List Value} {c d:List A} (h:Cs R us c) (k:Cs R vs d) (j:Nat) (hj:j+d.length≤c.length):Cs R (us.take j++vs++us.drop (j+vs.length)) (Ab.upd c j d):=by
 have h1:=Flat.upd (R:=R) (c:=c) (Flat.one h.1 h.2) k.1 k.2 j hj
 have hlen:(Ab.upd c j d).length=c.length:=by simp [Ab.upd]; omega
 refine ⟨by rw [hlen]; simpa using h1.hl,fun i u b hu hb=>?_⟩
 obtain ⟨u',hu',hr⟩:=h1.ha 0 _ i b rfl hb
 simp only [Nat.zero_mul,Nat.zero_add] at hu'
 rw [hu] at hu'; cases hu'; exact hr
theorem zbr8 (us:List Value):∀ (off k:Nat) (cells:Array Value),off+k+us.length≤cells.size →
  (((us.zipIdx k).foldl (fun cs q=>cs.setIfInBounds (off+q.2) q.1) cells)).toList=cells.toList.take (off+k)++us++cells.toList.drop (off+k+us.length):=by
 induction us with
 | nil=>intro off k cells h; simp
 | cons u us ih =>
  intro off k cells h
  simp only [List.zipIdx_cons,List.foldl_cons,List.length_cons] at h ⊢
  rw [ih off (k+1) _ (by simp; omega)]
  rw [Array.toList_setIfInBounds]
  have:=list_seg_step cells.toList (off+k) u us (by simp; omega)
  rw [show off+(k+1)=off+k+1 by omega]
  exact this
def zaM6 (place:Nat→Option (Nat×Nat)):List (Nat×Operand)→List (Nat×Nat)→Bool
 | [],[]=>true
 | p :: ps,q :: qs=>place p.1 == some q&&zaM6 place ps qs
 | _,_=>false
theorem zbe7 (ρ:Operand→Value) (place:Nat→Option (Nat×Nat)):∀ (parts:List (Nat×Operand)) (ps:List (Nat×Nat)) (xs:List A) (cells:Array Value) (z:List A),zaM6 place parts ps=true→parts.length=xs.length →
  (∀ (i:Nat) (p:Nat×Operand) (x:A),parts[i]? = some p→xs[i]? = some x→Rep w W μ (ρ p.2) x)→zbe1 z.length ps xs→Cs (RepK w W μ) cells.toList z →
  ∃ us:List Value,Instr.fill place cells (parts.map fun p=>(p.1,ρ p.2))=some us.toArray∧Cs (RepK w W μ) us (laid z ps xs)
 | [],[],xs,cells,z,_,hl,_,_,hc=>by
  have:xs=[]:=List.eq_nil_of_length_eq_zero hl.symm
  subst this
  exact ⟨cells.toList,by simp [Instr.fill],by simpa [laid] using hc⟩
 | p :: parts,q :: ps,x :: xs,cells,z,hf,hl,hr,hok,hc=>by
  simp only [zaM6,Bool.and_eq_true,beq_iff_eq] at hf
  obtain ⟨hv,hlen,hfit,hok'⟩:=hok
  obtain ⟨us,hu,hul,hur⟩:=(hr 0 p x rfl rfl).toCells hv
  have hcl:cells.size=z.length:=by simpa using hc.1
  have hq:us.length=q.2:=by rw [hul,hlen]
  have hset:=zbr8 us q.1 0 cells (by omega)
  simp only [Nat.add_zero] at hset
  have hupd:=hc.upd ⟨hul,hur⟩ q.1 (by omega)
  have hzl:(Ab.upd z q.1 x.cells).length=z.length:=by simp [Ab.upd]; omega
  obtain ⟨us',h1,h2⟩:=zbe7 ρ place parts ps xs ((us.zipIdx).foldl (fun cs q'=>cs.setIfInBounds (q.1+q'.2) q'.1) cells) (Ab.upd z q.1 x.cells) hf.2 (by simpa using hl) (fun i p' x' h3 h4=>hr (i+1) p' x' h3 h4)
   (hzl ▸ hok') (by rw [hset]; exact hupd)
  refine ⟨us',?_,by simpa [laid] using h2⟩
  simp only [List.map_cons,Instr.fill,hf.1]
  have hs1:(ρ p.2).cells.size=q.2:=by rw [hu]; simpa using hq
  rw [if_neg (by simp [hs1]; omega)]
  rw [← h1]
  congr 1
  rw [hu]
  simp
 | [],_ :: _,_,_,_,hf,_,_,_,_=>by simp [zaM6] at hf
 | _ :: _,[],_,_,_,hf,_,_,_,_=>by simp [zaM6] at hf
 | _ :: _,_ :: _,[],_,_,_,hl,_,_,_=>by simp at hl
theorem zaP3 {α β:Type} (f:α→Sem β) (g:α→β):∀ (l:List α),(∀ x ∈ l,(f x).run P w=.ok (g x) w)→(l.mapM f).run P w=.ok (l.map g) w
 | [],_=>by simp
 | x :: l,h=>by
  have ih:=zaP3 f g l (fun y hy=>h y (List.mem_cons_of_mem _ hy))
  simp [List.mapM_cons,h x (by simp),ih]
def zbr9 (P:Program) (f:Field):Nat×Nat:=(f.offset,match P.info? f.type with|some k=>k.size|none=>0)
def zbw8 (P:Program) (T:TypeId) (parts:List (Nat×Operand)) (ps:List (Nat×Nat)):Bool :=
 match P.underlying T with
 | some (.struct fs)=>fs.toList.all (fun (f:Field)=>match P.info? f.type with|some _=>true|none=>false) &&
   zaM6 (fun i=>(fs.toList[i]?).map (zbr9 P)) parts ps
 | some (.array _ e)=>match P.info? e with
  | some k=>zaM6 (fun i=>some (i * k.size,k.size)) parts ps
  | none=>false
 | _=>false
theorem zcy2 (hs:SatW E s a w W μ) {T:TypeId} {parts:Array (Nat×Operand)} {z:List A} {ps:List (Nat×Nat)} {xs:List A} (ho:o.op=.build T parts) (hz:zaE6 P T z=true) (hT:zbw8 P T parts.toList ps=true)
  (hl:parts.toList.length=xs.length) (hx:∀ (i:Nat) (p:Nat×Operand) (x:A),parts.toList[i]? = some p→xs[i]? = some x→Rep w W μ (a.eval p.2) x) (hobl:zbe1 z.length ps xs) :
  zh5 P o a w W μ s.mem (.agg (laid z ps xs)) s.mem:=by
 obtain ⟨v,hv,_,hzl,hzr⟩:=zas6 hz
 have hc:Cs (RepK w W μ) v.cells.toList z:=⟨hzl,fun i u b h1 h2=>zh7 (hzr w W i u b h1 h2)⟩
 have fin:∀ us:List Value,(Instr.build T (parts.map fun (i,x)=>(i,a.eval x))).run P w=.ok (.agg us.toArray) w→Cs (RepK w W μ) us (laid z ps xs)→zh5 P o a w W μ s.mem (.agg (laid z ps xs)) s.mem:=fun us h1 h2 =>
  hs.still (v:=.agg us.toArray) (by simp only [execOp,ho,Sem.run_bind,h1,Result.andThen_ok,Sem.run_pure]) ⟨us,rfl,h2.1,h2.2⟩
 unfold zbw8 at hT
 split at hT
 ·rename_i fs hu
  simp only [Bool.and_eq_true] at hT
  obtain ⟨hall,hfill⟩:=hT
  obtain ⟨us,h1,h2⟩:=zbe7 (w:=w) (W:=W) (μ:=μ) a.eval _ parts.toList ps xs v.cells z hfill hl hx hobl hc
  refine fin us ?_ h2
  have hpl:(fs.mapM fun (f:Field)=>do pure (f.offset,← sizeOf f.type):Sem (Array (Nat×Nat))).run P w=.ok ((fs.toList.map (zbr9 P)).toArray) w:=by
   have e:fs=fs.toList.toArray:=by simp
   rw [e,List.mapM_toArray]
   simp only [Sem.run_map]
   rw [zaP3 _ (zbr9 P) fs.toList (fun f hf=>by
    have:=List.all_eq_true.1 hall f hf
    cases hi:P.info? f.type with
    | none=>simp [hi] at this
    | some k=>simp [zH2 hi,zbr9,hi])]
   simp
  simp only [Instr.build,Sem.run_bind,hv,Result.andThen_ok,run_underlying hu,hpl]
  have e2:(fun i:Nat=>((fs.toList.map (zbr9 P)).toArray)[i]?)=(fun i:Nat=>(fs.toList[i]?).map (zbr9 P)):=by
   funext i; simp
  have e3:(parts.map fun (x:Nat×Operand)=>(x.1,a.eval x.2)).toList=parts.toList.map fun p=>(p.1,a.eval p.2):=by simp
  rw [e2,e3,h1]
  rfl
 ·rename_i n e hu
  cases hi:P.info? e with
  | none=>simp [hi] at hT
  | some k =>
   simp only [hi] at hT
   obtain ⟨us,h1,h2⟩:=zbe7 (w:=w) (W:=W) (μ:=μ) a.eval _ parts.toList ps xs v.cells z hT hl hx hobl hc
   refine fin us ?_ h2
   have e3:(parts.map fun (x:Nat×Operand)=>(x.1,a.eval x.2)).toList=parts.toList.map fun p=>(p.1,a.eval p.2):=by simp
   simp only [Instr.build,Sem.run_bind,hv,Result.andThen_ok,run_underlying hu,zH2 hi]
   rw [e3,h1]
   rfl
 ·cases hT
def zbw9 (P:Program) (T:TypeId):Bool:=match P.info? T with|some i=>i.zero.isSome|none=>false
theorem zbx0 {P:Program} {T:TypeId} (h:zbw9 P T=true):∃ v,∀ w,(zeroValue T).run P w=.ok v w:=by
 unfold zbw9 at h
 split at h
 ·rename_i i hi
  obtain ⟨v,hv⟩:=Option.isSome_iff_exists.1 h
  exact ⟨v,fun w=>by simp [zeroValue,typeInfo,hi,hv]⟩
 ·cases h
def bsTy (P:Program) (T:TypeId) (sz:Nat) (z:List A):Bool :=
 match P.underlying T with
 | some (.slice e)=>szIs P e sz&&zbw9 P e&&z.length == sz
 | _=>false
def zas7:Nat→List (Nat×Operand)→Bool
 | _,[]=>true
 | n,p :: ps=>p.1 == n&&zas7 (n+1) ps
theorem zbs0 (ρ:Operand→Value) (sz:Nat):∀ (parts:List (Nat×Operand)) (n:Nat) (xs:List A) (pre:List Value) (post:List Value) (es:List (List A)),zas7 n parts=true→parts.length=xs.length →
  (∀ (i:Nat) (p:Nat×Operand) (x:A),parts[i]? = some p→xs[i]? = some x→Rep w W μ (ρ p.2) x)→allV xs=true→zF2 sz (zp2 xs)→Flat (RepK w W μ) sz pre es→es.length=n→post.length=xs.length * sz →
  ∃ us:List Value,Instr.fill (fun i=>some (i * sz,sz)) (pre++post).toArray (parts.map fun p=>(p.1,ρ p.2))=some us.toArray∧Flat (RepK w W μ) sz us (es++zp2 xs)
 | [],n,xs,pre,post,es,_,hl,_,_,_,hf,_,hp=>by
  have:xs=[]:=List.eq_nil_of_length_eq_zero hl.symm
  subst this
  have:post=[]:=List.eq_nil_of_length_eq_zero (by simpa using hp)
  subst this
  exact ⟨pre,by simp [Instr.fill],by simpa [zp2] using hf⟩
 | p :: parts,n,x :: xs,pre,post,es,ho,hl,hr,hv,ha,hf,hn,hp=>by
  simp only [zas7,Bool.and_eq_true,beq_iff_eq] at ho
  simp only [allV,Bool.and_eq_true] at hv
  obtain ⟨us,hu,hul,hur⟩:=(hr 0 p x rfl rfl).toCells hv.1
  have hxl:x.cells.length=sz:=ha _ (by simp [zp2])
  have hpl:pre.length=n * sz:=by rw [hf.hl,hn]
  have hpo:post.length=sz+xs.length * sz:=by rw [hp,List.length_cons,Nat.add_mul]; omega
  have h1:Flat (RepK w W μ) sz (pre++us) (es++[x.cells]):=hf.append (hxl ▸ Flat.one hul hur)
  obtain ⟨us',h2,h3⟩:=zbs0 ρ sz parts (n+1) xs (pre++us) (post.drop sz) (es++[x.cells]) ho.2 (by simpa using hl) (fun i p' x' h4 h5=>hr (i+1) p' x' h4 h5) hv.2
   (fun c hc=>ha c (by simp [zp2,hc])) h1 (by simp [hn]) (by simp [hpo])
  refine ⟨us',?_,by simpa [zp2] using h3⟩
  simp only [List.map_cons,Instr.fill,ho.1]
  have hs1:(ρ p.2).cells.size=sz:=by rw [hu]; simp; omega
  rw [if_neg (by simp [hs1,hpl,hpo])]
  rw [← h2]
  congr 1
  rw [hu]
  have hset:=zbr8 us (n * sz) 0 (pre++post).toArray (by simp [hpl,hpo]; omega)
  simp only [Nat.add_zero] at hset
  have e4:us.toArray.zipIdx.foldl (fun cs x=>cs.setIfInBounds (n * sz+x.2) x.1) (pre++post).toArray=us.zipIdx.foldl (fun cs x=>cs.setIfInBounds (n * sz+x.2) x.1) (pre++post).toArray:=by simp
  apply Array.ext'
  rw [show (us.toArray.zipIdx.foldl (fun cs (x:Value×Nat)=>match x with|(c,j)=>cs.setIfInBounds (n * sz+j) c) (pre++post).toArray)=us.zipIdx.foldl (fun cs x=>cs.setIfInBounds (n * sz+x.2) x.1) (pre++post).toArray from e4]
  rw [hset]
  simp only [List.take_left' hpl]
  have e2:(pre++post).drop (n * sz+us.length)=post.drop sz:=by rw [← hpl,List.drop_append]; simp [hul,hxl]
  simp [e2]
 | _ :: _,_,[],_,_,_,_,hl,_,_,_,_,_,_=>by simp at hl
theorem zaE7 {T:TypeId} {parts:Array (Nat×Operand)} {sz:Nat} {z:List A} {xs:List A} (hT:bsTy P T sz z=true) (hord:zas7 0 parts.toList=true) (hl:parts.toList.length=xs.length) (hsmall:xs.length * sz≤16777216)
  {ρ:Operand→Value} (hx:∀ (i:Nat) (p:Nat×Operand) (x:A),parts.toList[i]? = some p→xs[i]? = some x→Rep w W μ (ρ p.2) x) (hv:allV xs=true) (ha:zF2 sz (zp2 xs)) :
  ∃ us e,(Instr.buildSlice T xs.length (parts.map fun (i,x)=>(i,ρ x))).run P w=.ok (.slice (some ⟨w.heap.size,0,none⟩) xs.length xs.length) (w.alloc (.cells us.toArray e))∧Flat (RepK w W μ) sz us (zp2 xs):=by
 unfold bsTy at hT
 split at hT
 ·rename_i e hu
  simp only [Bool.and_eq_true,beq_iff_eq] at hT
  obtain ⟨⟨h1,h2⟩,h3⟩:=hT
  obtain ⟨v,hzv⟩:=zbx0 h2
  have e3:(parts.map fun (x:Nat×Operand)=>(x.1,ρ x.2)).toList=parts.toList.map fun p=>(p.1,ρ p.2):=by simp
  have main:∀ za:Array Value,∃ us:List Value,Instr.fill (fun i=>some (i * sz,sz)) ((Array.range (xs.length * sz)).map fun i=>za[i % za.size]!) (parts.map fun (x:Nat×Operand)=>(x.1,ρ x.2)).toList=some us.toArray∧Flat (RepK w W μ) sz us (zp2 xs):=fun za=>by
   obtain ⟨us,h4,h5⟩:=zbs0 (w:=w) (W:=W) (μ:=μ) ρ sz parts.toList 0 xs [] ((Array.range (xs.length * sz)).map fun i=>za[i % za.size]!).toList [] hord hl hx hv ha (Flat.nil _ _) rfl (by simp)
   refine ⟨us,?_,by simpa using h5⟩
   rw [List.nil_append,Array.toArray_toList] at h4
   rw [e3,← h4]
  by_cases h0:xs.length * sz=0
  ·obtain ⟨us,h4,h5⟩:=main #[]
   refine ⟨us,e,?_,h5⟩
   simp only [Instr.buildSlice,Sem.run_bind,run_underlying hu,Result.andThen_ok,zag0 h1]
   rw [if_neg (by omega),if_pos h0]
   simp only [Sem.run_bind,Sem.run_pure,Result.andThen_ok,h4]
   simp [newRow,newObj,Sem.run]
  ·obtain ⟨us,h4,h5⟩:=main v.cells
   refine ⟨us,e,?_,h5⟩
   simp only [Instr.buildSlice,Sem.run_bind,run_underlying hu,Result.andThen_ok,zag0 h1]
   rw [if_neg (by omega),if_neg h0]
   simp only [Sem.run_bind,Sem.run_pure,hzv,Result.andThen_ok,h4]
   simp [newRow,newObj,Sem.run]
 ·cases hT
theorem zam6:∀ xs:List A,(zp2 xs).length=xs.length
 | []=>rfl
 | _ :: xs=>by simp [zp2,zam6 xs]
theorem zeH2 (hs:SatW E s a w W μ) {T:TypeId} {parts:Array (Nat×Operand)} {sz id n:Nat} {z:List A} {xs:List A} (ho:o.op=.buildSlice T n parts) (hn:n=xs.length) (hT:bsTy P T sz z=true) (hord:zas7 0 parts.toList=true) (hl:parts.toList.length=xs.length) (hsmall:xs.length * sz≤16777216)
  (hx:∀ (i:Nat) (p:Nat×Operand) (x:A),parts.toList[i]? = some p→xs[i]? = some x→Rep w W μ (a.eval p.2) x) (hid:s.mem id=.fresh) (hpos:0 < sz) (hv:allV xs=true) (ha:zF2 sz (zp2 xs)) :
  zh5 P o a w W μ s.mem (.own id 0 xs.length) (setM s.mem [(id,.row ⟨false,sz,z,zp2 xs⟩)]):=by
 subst hn
 obtain ⟨us,e,hrun,hf⟩:=zaE7 (w:=w) (W:=W) (μ:=μ) hT hord hl hsmall hx hv ha
 have hst:=Step.new (w':=w.alloc (.cells us.toArray e)) hs.mem hs.inj hs.wlt hid (r:=⟨false,sz,z,zp2 xs⟩) (us:=us) (rest:=[]) (e:=e) hpos (zak5 _ _) hf (by simpa using heap_alloc_new w _)
 refine ⟨_,.slice (some ⟨w.heap.size,0,none⟩) xs.length xs.length,_,_,_,?_,.inl rfl,?_,hst⟩
 ·simp only [execOp,ho,Sem.run_bind,hrun,Result.andThen_ok,Sem.run_pure]
 ·have hk:us.length=xs.length * sz:=by rw [hf.hl,zam6]
  by_cases hb:xs.length≤maxLen
  ·have:=zad5 (w:=w.alloc (.cells us.toArray e)) (W:=fun b=>W b∨b=w.heap.size) (μ:=fun x=>if x=id then Loc.at_ ⟨w.heap.size,sz,us.length+([]:List Value).length⟩ else μ x) (x:=id) (lo:=0) (n:=xs.length) (cap:=xs.length)
    (k:=⟨w.heap.size,sz,us.length+([]:List Value).length⟩) (by simp) (by simp [hk]) (Nat.le_refl _) (by omega)
   simpa using this
  ·exfalso
   have:xs.length≤xs.length * sz:=Nat.le_mul_of_pos_right _ hpos
   simp only [maxLen] at hb
   omega
theorem zbU3 (hs:SatW E s a w W μ) {T:TypeId} {parts:Array (Nat×Operand)} {sz n:Nat} {z:List A} {xs:List A} (ho:o.op=.buildSlice T n parts) (hn:n=xs.length) (hT:bsTy P T sz z=true) (hord:zas7 0 parts.toList=true) (hl:parts.toList.length=xs.length) (hsmall:xs.length * sz≤16777216)
  (hx:∀ (i:Nat) (p:Nat×Operand) (x:A),parts.toList[i]? = some p→xs[i]? = some x→Rep w W μ (a.eval p.2) x) (hv:allV xs=true) (ha:zF2 sz (zp2 xs)) (hpure:zK0 (zp2 xs)) :
  zh5 P o a w W μ s.mem (.full (zp2 xs)) s.mem:=by
 subst hn
 obtain ⟨us,e,hrun,hf⟩:=zaE7 (w:=w) (W:=W) (μ:=μ) hT hord hl hsmall hx hv ha
 have hk:=zak5 w (.cells us.toArray e)
 refine ⟨_,.slice (some ⟨w.heap.size,0,none⟩) xs.length xs.length,_,W,μ,?_,.inl rfl,?_,Step.quiet hk hs.mem hs.inj hs.wlt⟩
 ·simp only [execOp,ho,Sem.run_bind,hrun,Result.andThen_ok,Sem.run_pure]
 ·have hfc:Flat (RepC (w.alloc (.cells us.toArray e)) W) sz us (zp2 xs):=by
   refine ⟨hf.hl,hf.hs,fun i c j b hc hb=>?_⟩
   obtain ⟨u,hu,hr⟩:=hf.ha i c j b hc hb
   exact ⟨u,hu,(hr.toC (hpure c (List.mem_of_getElem? hc) b (List.mem_of_getElem? hb))).keep hk (fun _ _ _ h=>h) (fun _ _ h=>h)⟩
  have hlen:=zam6 xs
  have:RepC (w.alloc (.cells us.toArray e)) W (.slice (some ⟨w.heap.size,0,none⟩) (zp2 xs).length (zp2 xs).length) (.sl (zp2 xs)) :=
   RepC.mk_sl (fun h=>absurd (hs.wlt _ h) (Nat.lt_irrefl _)) (by simp) (Nat.le_refl _) hfc fun q u hq=>by
    rw [Nat.zero_add,World.cell?_alloc_new]
    simpa using hq
  rw [hlen] at this
  exact zE1 (.full _ _ _ this)
def mkTy (P:Program) (T:TypeId) (sz bytes:Nat) (z:List A):Bool :=
 match P.underlying T with
 | some (.slice e)=>(match P.info? e with|some i=>i.size == sz&&i.bytes == bytes|none=>false)&&zaE6 P e z&&z.length == sz
 | _=>false
theorem zbe8 {za:Array Value} {z:List A} (hz:Cs (RepK w W μ) za.toList z) (hpos:0 < z.length) (n c:Nat) (hnc:n≤c) :
  ∃ us rest:List Value,((Array.range (c * z.length)).map fun i=>za[i % za.size]!)=(us++rest).toArray∧us.length+rest.length=c * z.length∧Flat (RepK w W μ) z.length us (List.replicate n z):=by
 have hsz:za.size=z.length:=by simpa using hz.1
 obtain ⟨L,hL⟩:∃ L,L=((Array.range (c * z.length)).map fun i=>za[i % za.size]!).toList:=⟨_,rfl⟩
 have hlen:L.length=c * z.length:=by simp [hL]
 have hle:=Nat.mul_le_mul_right z.length hnc
 refine ⟨L.take (n * z.length),L.drop (n * z.length),by rw [List.take_append_drop,hL,Array.toArray_toList],by rw [← List.length_append,List.take_append_drop,hlen],?_⟩
 refine ⟨by rw [List.length_take,hlen,Nat.min_eq_left hle,List.length_replicate],fun i c' hc'=>?_,fun i c' j b hc' hb=>?_⟩
 ·rw [List.getElem?_replicate] at hc'
  split at hc' <;> simp_all
 ·rw [List.getElem?_replicate] at hc'
  split at hc'
  ·rename_i hi
   cases hc'
   have hj:j < z.length:=(List.getElem?_eq_some_iff.1 hb).1
   have hlt:i * z.length+j < n * z.length:=by
    have:(i+1) * z.length≤n * z.length:=Nat.mul_le_mul_right _ hi
    rw [Nat.add_mul] at this; omega
   have hja:j < za.size:=by omega
   refine ⟨za[j],?_,hz.2 j _ b (by simp [hja]) hb⟩
   rw [List.getElem?_take,if_pos hlt,hL]
   have:(i * z.length+j) % za.size=j:=by rw [hsz,Nat.mul_comm,Nat.mul_add_mod,Nat.mod_eq_of_lt hj]
   have hlt2:i * z.length+j < c * z.length:=by omega
   simp [hlt2,this,hja]
  ·cases hc'
theorem y_mk (hs:SatW E s a w W μ) {T:TypeId} {x y:Operand} {sz bytes id:Nat} {z:List A} {k k2:IntKind} {l c:Int} (ho:o.op=.makeSlice T x y) (hT:mkTy P T sz bytes z=true) (hx:Rep w W μ (a.eval x) (.int k l)) (hy:Rep w W μ (a.eval y) (.int k2 c)) (hid:s.mem id=.fresh)
  (hpos:0 < sz) (hl0:0≤l) (hlc:l≤c) (hby:c * bytes≤140737488355328) (hcm:c≤maxLen) :
  zh5 P o a w W μ s.mem (.own id 0 l.toNat) (setM s.mem [(id,.row ⟨false,sz,z,List.replicate l.toNat z⟩)]):=by
 unfold mkTy at hT
 split at hT
 ·rename_i e hu
  simp only [Bool.and_eq_true,beq_iff_eq] at hT
  obtain ⟨⟨h1,h2⟩,h3⟩:=hT
  subst h3
  split at h1
  ·rename_i i hi
   simp only [Bool.and_eq_true,beq_iff_eq] at h1
   obtain ⟨h1,h1b⟩:=h1
   obtain ⟨v,hzv,_,hzl,hzr⟩:=zas6 h2
   have hcs:Cs (RepK w W μ) v.cells.toList z:=⟨hzl,fun q u b h1 h2=>zh7 (hzr w W q u b h1 h2)⟩
   obtain ⟨us,rest,harr,htot,hf⟩:=zbe8 hcs hpos l.toNat c.toNat (by omega)
   have hst:=Step.new (w':=w.alloc (.cells (us++rest).toArray e)) hs.mem hs.inj hs.wlt hid (r:=⟨false,z.length,z,List.replicate l.toNat z⟩) (us:=us) (rest:=rest) (e:=e) hpos (zak5 _ _) hf (by simpa using heap_alloc_new w _)
   refine ⟨_,.slice (some ⟨w.heap.size,0,none⟩) l.toNat c.toNat,_,_,_,?_,.inl rfl,?_,hst⟩
   ·have hc64:c≤9223372036854775807:=by simp only [maxLen] at hcm; omega
    have hwl:IntKind.i64.wrap l=l:=IntWalk.i64_in _ (by omega)
    have hwc:IntKind.i64.wrap c=c:=IntWalk.i64_in _ (by omega)
    have e1:¬ c < 0:=by omega
    have e2:¬ 281474976710656 < (bytes:Int) * c:=by rw [Int.mul_comm]; omega
    have e3:¬ l < 0:=by omega
    have e4:¬ c < l:=by omega
    have ask:∀ b:Nat,(askRoom b).run P w=.ok () w:=fun b=>by unfold askRoom; split <;> simp [mark,Sem.run]
    simp only [execOp,ho,hx.int,hy.int,Instr.makeSlice,Sem.run_bind,run_underlying hu,Result.andThen_ok,asInt,asIntOf,Sem.run_pure,typeInfo,run_program,hi,hwl,hwc,h1b]
    simp only [e1,e2,e3,e4,ask,Int.reducePow,gt_iff_lt,decide_false,Bool.false_eq_true,if_false,Sem.run_pure,Result.andThen_ok,Sem.run_bind,zH2 hi,Bool.or_self,Sem.run_ite]
    have hnr:∀ arr:Array Value,arr=(us++rest).toArray→(newRow e arr).run P w=.ok ⟨w.heap.size,0,none⟩ (w.alloc (.cells (us++rest).toArray e)):=fun arr h=>by
     subst h; simp [newRow,newObj,Sem.run]
    by_cases h0:c.toNat * i.size=0
    ·rw [if_pos h0,hnr _ (by rw [← harr,← h1,h0]; simp)]
     rfl
    ·rw [if_neg h0]
     simp only [hzv,Result.andThen_ok]
     rw [hnr _ (by rw [h1]; exact harr)]
     rfl
   ·have:=zad5 (w:=w.alloc (.cells (us++rest).toArray e)) (W:=fun b=>W b∨b=w.heap.size) (μ:=fun x=>if x=id then Loc.at_ ⟨w.heap.size,z.length,us.length+rest.length⟩ else μ x) (x:=id) (lo:=0) (n:=l.toNat) (cap:=c.toNat)
     (k:=⟨w.heap.size,z.length,us.length+rest.length⟩) (by simp) (by simp [htot]) (by omega) (by omega)
    simpa using this
  ·cases h1
 ·cases hT
theorem zeH3 {id:Nat} (hs:SatW E s a w W μ) {x y:Operand} {T U:TypeId} {sz:Nat} {ax ay:A} {ef:Ef} (ho:o.op=.call { callee:=.builtin .copy,args:=#[x,y],argTypes:=#[T,U] }) (hT:zbr5 P T sz=true)
  (hx:Rep w W μ (a.eval x) ax) (hy:Rep w W μ (a.eval y) ay) (he:ev id s.mem (.copy sz) [ax,ay]=some ef) (hobl:ef.obl):zh5 P o a w W μ s.mem ef.v (setM s.mem ef.mw):=by
 obtain ⟨e,hu,hz⟩:=zbe5 hT
 have fin:∀ n w' μ' m',(Builtin.copy_ #[T,U] o.type #[a.eval x,a.eval y]).run P w=.ok (goInt n) w'→Step s.mem m' w w' W W μ μ'→zh5 P o a w W μ s.mem (.int .i64 n) m':=fun n w' μ' m' h1 h3 =>
  ⟨.value (goInt n),goInt n,w',W,μ',by simp [execOp,ho,resolve,invoke,builtin,h1],.inl rfl,zE1 (.int _ _),h3⟩
 simp only [ev] at he
 cases hel:zas5 s.mem ay with
 | none=>simp [hel] at he
 | some new =>
  simp only [hel,Option.bind_some] at he
  split at he
  ·rename_i y0 lo n
   split at he
   ·rename_i r hr
    cases he
    obtain ⟨hro,hrsz,hln,hok,hall⟩:=hobl
    obtain ⟨news,hsrc,hf⟩:=zbw7 (P:=P) hs hy hel hok hall
    obtain ⟨h1,h2⟩:=hsrc w rfl
    have h3:=h2 (Nat.min new.length n) (Nat.min_le_left _ _)
    have hmv:((Nat.min new.length n:Nat):Int)=Nat.min new.length n:=rfl
    have htk:new.take n=new.take (Nat.min new.length n):=by
     rw [show Nat.min new.length n=min new.length n from rfl]
     rcases Nat.le_total new.length n with h|h
     ·rw [Nat.min_eq_left h,List.take_of_length_le h,List.take_length]
     ·rw [Nat.min_eq_right h]
    rcases hs.own hx hr with ⟨hn0,ad,hv⟩|⟨k,cap,h5,h6,h7,h8,h9,hrow⟩
    ·subst hn0
     have hmin:Nat.min new.length 0=0:=by simp
     rw [hmin] at h3 ⊢
     have hrun:(Builtin.copy_ #[T,U] o.type #[a.eval x,a.eval y]).run P w=.ok (goInt 0) w:=by
      rw [hv]
      cases ad <;> simp [Builtin.copy_,run_underlying hu,h1,zag0 hz,h3,storeCells]
     have hes:r.es.take lo++new.take 0++r.es.drop (lo+0)=r.es:=by simp
     refine fin 0 w μ _ hrun ?_
     rw [hes,← hrsz,← hro]
     have:setM s.mem [(y0,MS.row ⟨r.ro,r.sz,r.z,r.es⟩)]=s.mem:=by
      funext q
      simp only [setM]
      split
      ·rename_i hq; rw [hq,hr]
      ·rfl
     rw [hro] at this
     rw [hro,this]
     exact hs.refl
    ·obtain ⟨_,hksz,hpos,us0,rest,e0,hheap,htot,hf0⟩:=hrow
     rw [hrsz] at hksz hpos hf0
     rw [hksz] at h6
     generalize hmin:Nat.min new.length n=m at *
     have hmn:m≤n:=by rw [← hmin]; exact Nat.min_le_right _ _
     have hml:m≤new.length:=by rw [← hmin]; exact Nat.min_le_left _ _
     have hf1:=hf.take m
     have hnl:(news.take (m * sz)).length=m * sz:=by rw [hf1.hl]; simp [Nat.min_eq_left hml]
     have hlo:(lo+m) * sz≤us0.length:=by rw [hf0.hl]; exact Nat.mul_le_mul_right _ (by omega)
     have hone:∀ u ∈ news.take (m * sz),u.oneCell'=true:=fun u hu'=>by
      obtain ⟨q,hq⟩:=List.getElem?_of_mem hu'
      have hq1:=(List.getElem?_eq_some_iff.1 hq).1
      have hql:q / sz < (new.take m).length:=by rw [hf1.hl] at hq1; exact (Nat.div_lt_iff_lt_mul hpos).2 hq1
      have hc:=List.getElem?_eq_getElem hql
      have hcl:=hf1.hs _ _ hc
      have hj:q % sz < ((new.take m)[q / sz]).length:=by rw [hcl]; exact Nat.mod_lt _ hpos
      obtain ⟨u',hu2,hr2⟩:=hf1.ha _ _ _ _ hc (List.getElem?_eq_getElem hj)
      rw [Nat.div_add_mod'] at hu2
      rw [hq] at hu2; cases hu2
      exact hr2.oneCell
     rw [Nat.add_mul] at hlo
     have hst:=run_storeCells_at P k.b (lo * sz) e0 (news.take (m * sz)) 0 (us0++rest).toArray w hheap (by simp only [List.size_toArray,List.length_append]; omega) hone
     simp only [Nat.add_zero] at hst
     have e1:(us0++rest).take (lo * sz)=us0.take (lo * sz):=List.take_append_of_le_length (by omega)
     have e2:(us0++rest).drop (lo * sz+(news.take (m * sz)).length)=us0.drop ((lo+m) * sz)++rest:=by
      rw [hnl,← Nat.add_mul]; exact List.drop_append_of_le_length (by rw [Nat.add_mul]; omega)
     rw [e1,e2,← List.append_assoc] at hst
     have hcat:Flat (RepK w W μ) sz (us0.take (lo * sz)++news.take (m * sz)++us0.drop ((lo+m) * sz)) (r.es.take lo++new.take n++r.es.drop (lo+m)):=by
      rw [htk]
      exact ((hf0.take lo).append hf1).append (hf0.drop (lo+m))
     have hrun:(Builtin.copy_ #[T,U] o.type #[a.eval x,a.eval y]).run P w=.ok (goInt m) (w.setRow k.b ((us0.take (lo * sz)++news.take (m * sz)++us0.drop ((lo+m) * sz))++rest).toArray):=by
      rw [h6]
      simp [Builtin.copy_,run_underlying hu,h1,hmin,zag0 hz,h3,hst]
     refine fin m _ μ _ hrun ?_
     exact Step.write (rest:=rest) hs.mem hs.inj hs.wlt h5 hr hro (r':=⟨false,sz,r.z,r.es.take lo++new.take n++r.es.drop (lo+m)⟩) hrsz.symm (zao2 _ _ _) hcat (setRow_heap w k.b _ _ e0 _ hheap) (by
      have hmeq:min n new.length=m:=by rw [← hmin]; exact Nat.min_comm _ _
      have:(r.es.take lo++new.take n++r.es.drop (lo+m)).length=r.es.length:=by
       rw [List.length_append,List.length_append,List.length_take,List.length_take,List.length_drop,hmeq,Nat.min_eq_left (by omega)]
       omega
      rw [hcat.hl,← htot,hf0.hl,this])
   ·cases he
  ·cases he
def zbU4 (P:Program) (T:TypeId) (sz:Nat) (z:List A):Bool :=
 match P.underlying T with
 | some (.slice e)=>zaE6 P e z&&z.length == sz
 | _=>false
theorem zcy3 {id:Nat} (hs:SatW E s a w W μ) {x:Operand} {T:TypeId} {sz:Nat} {z:List A} {ax:A} {ef:Ef} (ho:o.op=.call { callee:=.builtin .clear,args:=#[x],argTypes:=#[T] }) (hT:zbU4 P T sz z=true)
  (hx:Rep w W μ (a.eval x) ax) (he:ev id s.mem (.clear sz z) [ax]=some ef) (hobl:ef.obl):zh5 P o a w W μ s.mem ef.v (setM s.mem ef.mw):=by
 unfold zbU4 at hT
 split at hT
 ·rename_i e hu
  simp only [Bool.and_eq_true,beq_iff_eq] at hT
  obtain ⟨h2,h3⟩:=hT
  subst h3
  obtain ⟨v,hzv,_,hzl,hzr⟩:=zas6 h2
  have fin:∀ w' μ' m',(Builtin.clear_ #[T] o.type #[a.eval x]).run P w=.ok (.tuple #[]) w'→Step s.mem m' w w' W W μ μ'→zh5 P o a w W μ s.mem .any m':=fun w' μ' m' h1 h3 =>
   ⟨.value (.tuple #[]),.tuple #[],w',W,μ',by simp [execOp,ho,resolve,invoke,builtin,h1],.inl rfl,trivial,h3⟩
  simp only [ev] at he
  split at he
  ·rename_i y0 lo n
   split at he
   ·rename_i r hr
    cases he
    obtain ⟨hro,hrsz,hln⟩:=hobl
    by_cases hn:n=0
    ·have hrun:(Builtin.clear_ #[T] o.type #[a.eval x]).run P w=.ok (.tuple #[]) w:=by
      rcases hs.own hx hr with ⟨hn0,ad,hv⟩|⟨k,cap,h5,h6,h7,h8,h9,hrow⟩
      ·rw [hv]
       cases ad <;> simp [Builtin.clear_,run_underlying hu]
      ·rw [h6,hn]
       simp [Builtin.clear_,run_underlying hu]
     have hes:r.es.take lo++List.replicate n z++r.es.drop (lo+n)=r.es:=by simp [hn]
     refine fin w μ _ hrun ?_
     rw [hes,← hrsz,← hro]
     have:setM s.mem [(y0,MS.row ⟨r.ro,r.sz,r.z,r.es⟩)]=s.mem:=by
      funext q
      simp only [setM]
      split
      ·rename_i hq; rw [hq,hr]
      ·rfl
     rw [hro] at this
     rw [hro,this]
     exact hs.refl
    rcases hs.own hx hr with ⟨hn0,ad,hv⟩|⟨k,cap,h5,h6,h7,h8,h9,hrow⟩
    ·exact absurd hn0 hn
    ·obtain ⟨_,hksz,hpos,us0,rest,e0,hheap,htot,hf0⟩:=hrow
     rw [hrsz] at hksz hpos hf0
     rw [hksz] at h6
     have hcs:Cs (RepK w W μ) v.cells.toList z:=⟨hzl,fun q u b h1 h2=>zh7 (hzr w W q u b h1 h2)⟩
     obtain ⟨news,rest0,harr,htot0,hf1⟩:=zbe8 hcs hpos n n (Nat.le_refl _)
     have hnl:news.length=n * z.length:=by rw [hf1.hl,List.length_replicate]
     have hr0:rest0=[]:=List.length_eq_zero_iff.1 (by omega)
     subst hr0
     have hlo:(lo+n) * z.length≤us0.length:=by rw [hf0.hl]; exact Nat.mul_le_mul_right _ hln
     have hone:∀ u ∈ news,u.oneCell'=true:=fun u hu'=>by
      obtain ⟨q,hq⟩:=List.getElem?_of_mem hu'
      have hq1:=(List.getElem?_eq_some_iff.1 hq).1
      have hql:q / z.length < (List.replicate n z).length:=by rw [hf1.hl] at hq1; exact (Nat.div_lt_iff_lt_mul hpos).2 hq1
      have hc:=List.getElem?_eq_getElem hql
      have hcl:=hf1.hs _ _ hc
      have hj:q % z.length < ((List.replicate n z)[q / z.length]).length:=by rw [hcl]; exact Nat.mod_lt _ hpos
      obtain ⟨u',hu2,hr2⟩:=hf1.ha _ _ _ _ hc (List.getElem?_eq_getElem hj)
      rw [Nat.div_add_mod'] at hu2
      rw [hq] at hu2; cases hu2
      exact hr2.oneCell
     rw [Nat.add_mul] at hlo
     have hst:=run_storeCells_at P k.b (lo * z.length) e0 news 0 (us0++rest).toArray w hheap (by simp only [List.size_toArray,List.length_append]; omega) hone
     simp only [Nat.add_zero] at hst
     have e1:(us0++rest).take (lo * z.length)=us0.take (lo * z.length):=List.take_append_of_le_length (by omega)
     have e2:(us0++rest).drop (lo * z.length+news.length)=us0.drop ((lo+n) * z.length)++rest:=by
      rw [hnl,← Nat.add_mul]; exact List.drop_append_of_le_length (by rw [Nat.add_mul]; omega)
     rw [e1,e2,← List.append_assoc] at hst
     have hcat:Flat (RepK w W μ) z.length (us0.take (lo * z.length)++news++us0.drop ((lo+n) * z.length)) (r.es.take lo++List.replicate n z++r.es.drop (lo+n)) :=
      ((hf0.take lo).append hf1).append (hf0.drop (lo+n))
     have hzc:Builtin.zeroCells v.cells n=news.toArray:=by
      have hsz2:v.cells.size=z.length:=by simpa using hzl
      rw [Builtin.zeroCells,hsz2]
      rw [hsz2] at harr
      rw [harr,List.append_nil]
     have hrun:(Builtin.clear_ #[T] o.type #[a.eval x]).run P w=.ok (.tuple #[]) (w.setRow k.b ((us0.take (lo * z.length)++news++us0.drop ((lo+n) * z.length))++rest).toArray):=by
      rw [h6]
      simp [Builtin.clear_,run_underlying hu,hn,hzv,hzc,hst]
     refine fin _ μ _ hrun ?_
     exact Step.write (rest:=rest) hs.mem hs.inj hs.wlt h5 hr hro (r':=⟨false,z.length,r.z,r.es.take lo++List.replicate n z++r.es.drop (lo+n)⟩) hrsz.symm (zao2 _ _ _) hcat (setRow_heap w k.b _ _ e0 _ hheap) (by
      have:(r.es.take lo++List.replicate n z++r.es.drop (lo+n)).length=r.es.length:=by
       rw [List.length_append,List.length_append,List.length_take,List.length_replicate,List.length_drop,Nat.min_eq_left (by omega)]
       omega
      rw [hcat.hl,← htot,hf0.hl,this])
   ·cases he
  ·cases he
 ·cases hT
end
end Ab
end Go.Proofs.YtebopmkhhppfaaaGreatDoor
