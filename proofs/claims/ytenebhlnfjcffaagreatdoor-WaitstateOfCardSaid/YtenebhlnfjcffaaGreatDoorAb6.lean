import Derived.WalkKit
import Derived.Laws.AppendOwn
import Derived.Laws.AppendOwnNone
import Derived.Laws.OwnMore
import Derived.Laws.MakeOwn
import Derived.Laws.CopyOwn
import Derived.Orders
namespace Go.Proofs.YtenebhlnfjcffaaGreatDoor
namespace Ab
set_option linter.defProp false
def bS:=@Bool.and_eq_true
def bT:=@Bool.false_eq_true
def bU:=@List.getD_eq_getElem?_getD
def bV:=@decide_eq_true_eq
def bW:=@if_neg
def bX:=@List.getElem?_eq_getElem
def bY:=@if_pos
def bZ:=@if_true
def cA:=@if_false
def cB:=@decide_true
def cC:=@List.getElem?_eq_some_iff
def cD:=@Option.map_eq_some_iff
def cE:=@List.mem_cons
def cF:=@Bool.true_and
def cG:=@decide_eq_false_iff_not
def cH:=@Array.getElem?_eq_some_iff
def cI:=@List.length_append
def cJ:=@List.mem_of_getElem?
def cK:=@List.getElem?_map
def cL:=@decide_false
def cN:=@Bool.not_eq_true'
def cO:=@List.eq_nil_of_length_eq_zero
def cP:=@Bool.not_true
def cQ:=@and_self
def cR:=@decide_eq_true
def cS:=@Nat.le_refl
def cU:=@Option.some.injEq
def cV:=@List.mem_map
def cW:=@congrArg
def cX:=@Bool.not_false
def cY:=@beq_iff_eq
def dA:=@List.pairwise_cons
def dB:=@Bool.false_or
def dC:=@Nat.mul_le_mul_right
def dD:=@Bool.eq_false_iff
def dE:=@List.getElem?_append_left
def dF:=@List.mem_append
def dG:=@Option.some.inj
def dH:=@List.getElem?_take
def dI:=@List.append_assoc
def dJ:=@Nat.zero_add
def dK:=@Bool.or_eq_true
def dL:=@List.length_take
def dM:=@List.map_cons
def dN:=@Nat.add_mul
def dO:=@List.take_of_length_le
def dP:=@Bool.eq_iff_iff
def dQ:=@Nat.lt_of_lt_of_le
def dR:=@List.getElem?_drop
def dS:=@List.mem_append_right
def dT:=@List.pairwise_iff_getElem
def dU:=@implies_true
def dV:=@List.length_map
def dW:=@List.take_length
def dX:=@List.mem_append_left
def dY:=@Nat.lt_succ_self
def dZ:=@List.Nodup.length_le_of_subset
def eA:=@List.findIdx?_eq_some_iff_getElem
def eC:=@List.mem_range
def eD:=@decide_eq_false
def eE:=@List.mem_filterMap
def eG:=@Nat.add_comm
def eH:=@List.pairwise_append
def eJ:=@List.mem_singleton
def eK:=@List.all_eq_true
def eN:=@List.append_nil
def eO:=@List.range_eq_range'
def eP:=@List.length_filterMap_le
def eQ:=@Classical.choose_spec
def eR:=@List.getElem?_append_right
def eT:=@Bool.false_and
def eU:=@List.take_append_of_le_length
def eV:=@List.mem_iff_getElem
def eX:=@Array.getElem?_eq_getElem
def eY:=@List.findIdx?_eq_none_iff
def eZ:=@Bool.or_self
def fA:=@List.getElem?_toArray
def fB:=@Nat.le_of_ble_eq_true
def fC:=@true_and
def fD:=@Sum.inl.injEq
def fE:=@List.getElem_of_mem
def fF:=@Nat.zero_le
def fG:=@List.drop_append_of_le_length
def fH:=@List.take_append_drop
def fI:=@List.drop_drop
def fJ:=@List.getElem?_append
def fK:=@List.length_drop
def fL:=@and_assoc
def fM:=@Array.getD_eq_getD_getElem?
def fN:=@Nat.add_assoc
def fO:=@Bool.and_true
def fP:=@List.take_succ_eq_append_getElem
def fQ:=@of_decide_eq_true
def fR:=@List.length_pos_iff
def fS:=@List.cons.injEq
def fT:=@List.length_replicate
def fU:=@List.mem_flatMap
def fV:=@Int.lt_irrefl
def fW:=@Bool.true_or
def fX:=@Nat.lt_or_ge
def fY:=@Nat.mul_one
def fZ:=@Bool.or_eq_false_iff
def gB:=@Option.bind_eq_some_iff
def gC:=@Bool.not_eq_false
def gD:=@Nat.min_eq_left
def gE:=@List.getD_cons_succ
def gF:=@Nat.sub_self
def gG:=@List.drop_eq_nil_of_le
def gH:=@Bool.and_assoc
def gJ:=@Array.getElem?_append_left
def gK:=@List.drop_zero
def gL:=@Bool.true_eq_false
def gN:=@List.perm_ext_iff_of_nodup
def gO:=@Nat.div_lt_iff_lt_mul
def gP:=@List.getElem?_eq_none
def gQ:=@List.set_append_right
def gR:=@Bool.and_eq_false_iff
def gS:=@Go.MapKept.run_getObj_map
def gT:=@Nat.le_trans
def gU:=@Bool.and_self
def gV:=@Array.getElem?_setIfInBounds_ne
def gW:=@List.getElem_mem
def gX:=@List.mem_filter
def gY:=@Array.getElem?_toList
def gZ:=@List.size_toArray
def hI:=@Nat.lt_trichotomy
def hJ:=@List.getElem?_of_mem
def hX:=@false_or
def hY:=@Nat.le_of_lt
def hZ:=@List.range'_succ
def iA:=@false_and
def iB:=@List.drop_eq_getElem_cons
def iC:=@List.map_eq_nil_iff
def iD:=@List.mergeSort_perm
def iF:=@and_true
def iG:=@false_implies
def iH:=@List.Perm.eq_of_pairwise
def iI:=@List.map_append
def iJ:=@List.nodup_cons
def iK:=@List.length_eq_zero_iff
def iL:=@List.pairwise_mergeSort
def iM:=@List.Pairwise.filterMap
def iN:=@List.pairwise_filterMap
def iO:=@List.set_eq_take_append_cons_drop
def iP:=@not_false_eq_true
def iQ:=@Bool.and_false
def iR:=@getElem!_pos
def iS:=@Array.getElem?_modify
def iT:=@List.length_mergeSort
def iU:=@List.eq_nil_or_concat
def iV:=@Nat.div_add_mod'
def iW:=@Nat.min_eq_right
def iX:=@List.ext_getElem
def iY:=@List.nodup_range
def iZ:=@List.not_mem_nil
def jA:=@decide_eq_decide
def jB:=@Bool.or_false
def jC:=@List.contains_eq_mem
def jD:=@List.getLast?_eq_some_getLast
def jE:=@Nat.zero_mul
def jF:=@Bool.or_true
def jG:=@List.take_take
def jH:=@Go.MapKept.run_setObj_map
def jI:=@Decidable.byContradiction
def jJ:=@List.mem_take_iff_getElem
def jK:=@not_true_eq_false
def jL:=@Nat.le_succ
def jM:=@dif_pos
def jN:=@List.findIdx_cons
def jO:=@Nat.lt_irrefl
def jP:=@forall_congr'
def jQ:=@List.drop_append
def jR:=@ite_self
def jS:=@Bool.not_eq_true
def jT:=@List.any_eq_true
def jU:=@Nat.mod_lt
def jV:=@Nat.mul_comm
def jW:=@Iff.rfl
def jX:=@List.length_set
def jY:=@List.mapM_cons
def jZ:=@Option.or_none
def kA:=@List.Perm.refl
def kB:=@Ne.symm
def kC:=@not_or
def kD:=@or_false
set_option linter.unusedSimpArgs false
set_option linter.unusedVariables false
inductive A where
 | bool (b:Bool)
 | int (k:IntKind) (n:Int)
 | str (s:ByteArray)
 | sl (es:List (List A))
 | full (es:List (List A))
 | own (x lo n:Nat)
 | ptr (x i j:Nat)
 | mp (x:Nat)
 | it (x:Nat)
 | rd (cs:List A) (off:Nat)
 | agg (cs:List A)
 | tup (vs:List A)
 | clo (f:FuncId) (caps:List A)
 | bnd (f:FuncId) (cs:List A)
 | cnd (g:Bool) (a:A)
 | any
structure Row where
 ro:Bool
 sz:Nat
 z:List A
 es:List (List A)
structure Blk where
 b:Nat
 sz:Nat
 tot:Nat
inductive Loc where
 | fresh
 | dead
 | empty
 | at_ (k:Blk)
inductive RepC (w:World) (W:Nat→Prop):Value→A→Prop
 | bool (b:Bool):RepC w W (.bool b) (.bool b)
 | int (k:IntKind) (n:Int):RepC w W (.int k n) (.int k n)
 | str (s:ByteArray):RepC w W (.string s) (.str s)
 | fn (f:FuncId):RepC w W (.func (.func f) #[] #[]) (.clo f [])
 | sl0 (a:Option Addr) (cap:Nat):RepC w W (.slice a 0 cap) (.sl [])
 | sl (b off cap sz:Nat) (es:List (List A)) (us:List Value) (hb:¬ W b) (hlt:b < w.heap.size) (hn:0 < es.length) (hcap:es.length≤cap)
   (hsz:∀ (i:Nat) (c:List A),es[i]? = some c→c.length=sz) (hlen:us.length=es.length * sz)
   (hc:∀ (q:Nat) (u:Value),us[q]? = some u→w.cell? ⟨b,off+q,none⟩=some u)
   (hr:∀ (i:Nat) (c:List A) (j:Nat) (a:A),es[i]? = some c→c[j]? = some a→RepC w W (us.getD (i * sz+j) undef) a) :
   RepC w W (.slice (some ⟨b,off,none⟩) es.length cap) (.sl es)
 | full (a:Option Addr) (n:Nat) (es:List (List A)) (h:RepC w W (.slice a n n) (.sl es)):RepC w W (.slice a n n) (.full es)
 | bnd (f:FuncId) (us:List Value) (cs:List A) (hl:us.length=cs.length) (hr:∀ (i:Nat) (u:Value) (c:A),us[i]? = some u→cs[i]? = some c→RepC w W u c):RepC w W (.func (.func f) #[.agg us.toArray] #[]) (.bnd f cs)
def RepP (w:World) (W:Nat→Prop) (μ:Nat→Loc) (v:Value):A→Prop
 | .own x lo n=>v.oneCell'=true∧match μ x with
   | .fresh=>False
   | .dead=>True
   | .empty=>n=0∧∃ a,v=.slice a 0 0
   | .at_ k=>0 < k.sz∧((n=0∧∃ a,v=.slice a 0 0)∨∃ cap,v=.slice (some ⟨k.b,lo * k.sz,none⟩) n cap∧(lo+cap) * k.sz≤k.tot∧n≤cap∧lo+cap≤maxLen)
 | .ptr x i j=>v.oneCell'=true∧match μ x with
   | .fresh=>False
   | .dead=>True
   | .empty=>False
   | .at_ k=>0 < k.sz∧v=.pointer (some ⟨k.b,i * k.sz+j,none⟩)
 | .mp x=>v.oneCell'=true∧match μ x with
   | .fresh=>False
   | .dead=>True
   | .empty=>False
   | .at_ k=>k.sz=0∧v=.map (some k.b)
 | .it x=>v.oneCell'=true∧match μ x with
   | .fresh=>False
   | .dead=>True
   | .empty=>False
   | .at_ k=>k.sz=0∧v=.pointer (some ⟨k.b,0,none⟩)
 | .rd cs off=>∃ b o,v=.pointer (some ⟨b,o+off,none⟩)∧¬ W b∧b < w.heap.size∧∀ (j:Nat) (a:A),cs[j]? = some a→∃ u,w.cell? ⟨b,o+j,none⟩=some u∧RepC w W u a
 | a=>RepC w W v a
def RepK (w:World) (W:Nat→Prop) (μ:Nat→Loc) (v:Value):A→Prop
 | .clo f caps=>∃ vs:List Value,v=.func (.func f) #[] vs.toArray∧vs.length=caps.length∧∀ (i:Nat) (u:Value) (a:A),vs[i]? = some u→caps[i]? = some a→RepP w W μ u a
 | a=>RepP w W μ v a
def RepV (w:World) (W:Nat→Prop) (μ:Nat→Loc) (v:Value):A→Prop
 | .agg cs=>∃ vs:List Value,v=.agg vs.toArray∧vs.length=cs.length∧∀ (i:Nat) (u:Value) (a:A),vs[i]? = some u→cs[i]? = some a→RepK w W μ u a
 | a=>RepK w W μ v a
def Rep (w:World) (W:Nat→Prop) (μ:Nat→Loc) (v:Value):A→Prop
 | .any=>True
 | .tup as=>∃ vs:List Value,v=.tuple vs.toArray∧vs.length=as.length∧∀ (i:Nat) (u:Value) (a:A),vs[i]? = some u→as[i]? = some a→RepV w W μ u a
 | .cnd g a=>(g=true→RepV w W μ v a)∧(g=false→v=undef)
 | a=>RepV w W μ v a
structure Flat (R:Value→A→Prop) (sz:Nat) (us:List Value) (es:List (List A)):Prop where
 hl:us.length=es.length * sz
 hs:∀ (i:Nat) (c:List A),es[i]? = some c→c.length=sz
 ha:∀ (i:Nat) (c:List A) (j:Nat) (a:A),es[i]? = some c→c[j]? = some a→∃ u,us[i * sz+j]? = some u∧R u a
def zaH6 (w:World) (W:Nat→Prop) (μ:Nat→Loc) (r:Row) (k:Blk):Prop :=
 (r.ro=false→W k.b)∧k.sz=r.sz∧0 < r.sz ∧
  ∃ (us rest:List Value) (e:TypeId),w.heap[k.b]? = some (.cells (us++rest).toArray e (0,0))∧us.length+rest.length=k.tot∧Flat (RepK w W μ) r.sz us r.es
def zP0:A→A→Bool
 | .str _,.str _=>true
 | .int k _,.int k' _=>k == k'
 | .bool _,.bool _=>true
 | _,_=>false
def RepX (w:World) (W:Nat→Prop) (ag:Bool) (v:Value) (cs:List A):Prop :=
 if ag=true then ∃ vs:List Value,v=.agg vs.toArray∧vs.length=cs.length∧∀ (i:Nat) (u:Value) (a:A),vs[i]? = some u→cs[i]? = some a→RepC w W u a
 else ∃ a,cs=[a]∧RepC w W v a
def zav2 (w:World) (W:Nat→Prop) (z:List A) (i:Nat) (e:MapEntry) (c:List A):Prop :=
 e.born=i∧∃ k cs ag,c=k :: cs∧z=[z.headD .any,.bool ag]∧zP0 (z.headD .any) k=true∧RepC w W e.key k∧RepX w W ag e.val cs
def zaY2 (w:World) (W:Nat→Prop) (r:Row) (k:Blk):Prop :=
 (r.ro=false→W k.b)∧k.sz=r.sz∧r.sz=0 ∧
  ∃ es:Array MapEntry,w.heap[k.b]? = some (.map es es.size)∧es.size=r.es.length∧∀ (i:Nat) (e:MapEntry) (c:List A),es[i]? = some e→r.es[i]? = some c→zav2 w W r.z i e c
def iE (i:Nat):List A:=[.int .i64 (i:Nat)]
def ItOk (w:World) (W:Nat→Prop) (μ:Nat→Loc) (r:Row) (k:Blk):Prop :=
 (r.ro=false→W k.b)∧k.sz=r.sz∧r.sz=0∧r.z=[] ∧
  ∃ (y b c:Nat) (seen:List Nat),r.es=[.mp y,.int .i64 c] :: seen.map iE∧RepP w W μ (.map (some b)) (.mp y)∧w.heap[k.b]? = some (.mapIter (some b) c seen.toArray c)
def zP3 (w:World) (W:Nat→Prop) (μ:Nat→Loc) (r:Row) (k:Blk):Prop:=zaH6 w W μ r k∨zaY2 w W r k∨ItOk w W μ r k
theorem zP3.ok {w:World} {W:Nat→Prop} {μ:Nat→Loc} {r:Row} {k:Blk} (h:zP3 w W μ r k) (hk:0 < k.sz):zaH6 w W μ r k:=by
 rcases h with h|⟨_,h1,h2,_⟩|⟨_,h1,h2,_⟩
 ·exact h
 ·omega
 ·omega
theorem zP3.any {w:World} {W:Nat→Prop} {μ:Nat→Loc} {r:Row} {k:Blk} (h:zP3 w W μ r k) (hk:k.sz=0):zaY2 w W r k∨ItOk w W μ r k:=by
 rcases h with ⟨_,h1,h2,_⟩|h
 ·omega
 ·exact h
inductive MS where
 | fresh
 | dead
 | row (r:Row)
def zae1 (w:World) (W:Nat→Prop) (μ:Nat→Loc) (x:Nat):MS→Prop
 | .fresh=>μ x=.fresh
 | .dead=>μ x=.dead
 | .row r=>(μ x=.empty∧r.es=[]∧0 < r.sz)∨∃ k,μ x=.at_ k∧zP3 w W μ r k
def zai4 (w:World) (W:Nat→Prop) (μ:Nat→Loc) (m:Nat→MS):Prop:=∀ x,zae1 w W μ x (m x)
abbrev zbg7:=List (Nat×List A)
def zaL0 (w:World) (W:Nat→Prop) (G:zbg7):Prop :=
 ∀ g cs,(g,cs) ∈ G→¬ W g∧g < w.heap.size∧∀ (j:Nat) (a:A),cs[j]? = some a→∃ u,w.cell? ⟨g,j,none⟩=some u∧RepC w W u a
structure Keeps (D:Nat→Prop) (w w':World):Prop where
 os:w'.os=w.os
 tape:w'.tape=w.tape
 output:w'.output=w.output
 drawn:w.drawn≤w'.drawn
 size:w.heap.size≤w'.heap.size
 block:∀ b,b < w.heap.size→¬ D b→w'.heap[b]? = w.heap[b]?
theorem Keeps.refl (D:Nat→Prop) (w:World):Keeps D w w:=⟨rfl,rfl,rfl,cS _,cS _,fun _ _ _=>rfl⟩
theorem Keeps.trans {D D':Nat→Prop} {a b c:World} (h:Keeps D a b) (k:Keeps D' b c) (hd:∀ x,x < a.heap.size→D' x→D x):Keeps D a c :=
 ⟨k.os.trans h.os,k.tape.trans h.tape,k.output.trans h.output,gT h.drawn k.drawn,gT h.size k.size,fun x hx hn =>
  (k.block x (dQ hx h.size) (fun hh=>hn (hd x hx hh))).trans (h.block x hx hn)⟩
theorem Keeps.mono {D D':Nat→Prop} {a b:World} (h:Keeps D a b) (hd:∀ x,x < a.heap.size→D x→D' x):Keeps D' a b :=
 ⟨h.os,h.tape,h.output,h.drawn,h.size,fun x hx hn=>h.block x hx (fun hh=>hn (hd x hx hh))⟩
theorem RepC.keep {D:Nat→Prop} {w w':World} {W W':Nat→Prop} (hk:Keeps D w w') (hD:∀ b,b < w.heap.size→¬ W b→¬ D b) (hW:∀ b,b < w.heap.size→¬ W b→¬ W' b)
  {v:Value} {a:A} (h:RepC w W v a):RepC w' W' v a:=by
 induction h with
 | bool b=>exact .bool b
 | int k n=>exact .int k n
 | str s=>exact .str s
 | fn f=>exact .fn f
 | sl0 a cap=>exact .sl0 a cap
 | sl b off cap sz es us hb hlt hn hcap hsz hlen hc hr ih =>
  refine .sl b off cap sz es us (hW b hlt hb) (dQ hlt hk.size) hn hcap hsz hlen (fun q u h1=>?_) ih
  rw [World.cell?_of_block (w:=w) (hk.block b hlt (hD b hlt hb))]
  exact hc q u h1
 | full a n es h ih=>exact .full a n es ih
 | bnd f us cs hl hr ih=>exact .bnd f us cs hl ih
theorem RepC.oneCell {w:World} {W:Nat→Prop} {v:Value} {a:A} (h:RepC w W v a):v.oneCell'=true:=by
 cases h <;> rfl
theorem RepP.oneCell {w:World} {W:Nat→Prop} {μ:Nat→Loc} {v:Value} {a:A} (h:RepP w W μ v a):v.oneCell'=true:=by
 cases a <;> simp only [RepP] at h <;> first|exact RepC.oneCell h|exact h.1|(obtain ⟨b,o,rfl,_⟩:=h; rfl)
def A.noClo:A→Bool
 | .clo _ _=>false
 | _=>true
theorem RepK.toP {w:World} {W:Nat→Prop} {μ:Nat→Loc} {v:Value} {a:A} (h:RepK w W μ v a) (hc:a.noClo=true):RepP w W μ v a:=by
 cases a <;> first|exact h|cases hc
theorem RepP.toK {w:World} {W:Nat→Prop} {μ:Nat→Loc} {v:Value} {a:A} (h:RepP w W μ v a):RepK w W μ v a:=by
 cases a with
 | clo f cs =>
  have h2:RepC w W v (.clo f cs):=h
  cases h2
  exact ⟨[],rfl,rfl,fun i u a h=>by simp at h⟩
 | _=>exact h
theorem RepK.oneCell {w:World} {W:Nat→Prop} {μ:Nat→Loc} {v:Value} {a:A} (h:RepK w W μ v a):v.oneCell'=true:=by
 cases a with
 | clo f cs=>obtain ⟨vs,rfl,_⟩:=h; rfl
 | _=>exact (h.toP rfl).oneCell
def Old (μ μ':Nat→Loc):Prop:=∀ x,μ x≠.fresh→μ' x=μ x∨μ' x=.dead
theorem Old.refl (μ:Nat→Loc):Old μ μ:=fun _ _=>.inl rfl
theorem RepP.goes {D:Nat→Prop} {w w':World} {W W':Nat→Prop} {μ μ':Nat→Loc} (hk:Keeps D w w') (hD:∀ b,b < w.heap.size→¬ W b→¬ D b)
  (hW:∀ b,b < w.heap.size→¬ W b→¬ W' b) {v:Value} {a:A} (hid:Old μ μ') (h:RepP w W μ v a):RepP w' W' μ' v a:=by
 cases a with
 | own x lo n =>
  refine ⟨h.1,?_⟩
  have h2:=h.2
  by_cases hf:μ x=.fresh
  ·rw [hf] at h2; exact h2.elim
  ·rcases hid x hf with e|e
   ·rw [e]; exact h2
   ·rw [e]; trivial
 | ptr x i j =>
  refine ⟨h.1,?_⟩
  have h2:=h.2
  by_cases hf:μ x=.fresh
  ·rw [hf] at h2; exact h2.elim
  ·rcases hid x hf with e|e
   ·rw [e]; exact h2
   ·rw [e]; trivial
 | mp x =>
  refine ⟨h.1,?_⟩
  have h2:=h.2
  by_cases hf:μ x=.fresh
  ·rw [hf] at h2; exact h2.elim
  ·rcases hid x hf with e|e
   ·rw [e]; exact h2
   ·rw [e]; trivial
 | it x =>
  refine ⟨h.1,?_⟩
  have h2:=h.2
  by_cases hf:μ x=.fresh
  ·rw [hf] at h2; exact h2.elim
  ·rcases hid x hf with e|e
   ·rw [e]; exact h2
   ·rw [e]; trivial
 | rd cs off =>
  obtain ⟨b,o,hv,hb,hlt,hc⟩:=h
  refine ⟨b,o,hv,hW b hlt hb,dQ hlt hk.size,fun j a hj=>?_⟩
  obtain ⟨u,hu,hr⟩:=hc j a hj
  exact ⟨u,(World.cell?_of_block (w:=w) (hk.block b hlt (hD b hlt hb))).trans hu,hr.keep hk hD hW⟩
 | _=>exact RepC.keep hk hD hW h
theorem RepK.goes {D:Nat→Prop} {w w':World} {W W':Nat→Prop} {μ μ':Nat→Loc} (hk:Keeps D w w') (hD:∀ b,b < w.heap.size→¬ W b→¬ D b)
  (hW:∀ b,b < w.heap.size→¬ W b→¬ W' b) {v:Value} {a:A} (hid:Old μ μ') (h:RepK w W μ v a):RepK w' W' μ' v a:=by
 cases a with
 | clo f cs =>
  obtain ⟨vs,hv,hl,hr⟩:=h
  exact ⟨vs,hv,hl,fun i u a h1 h2=>(hr i u a h1 h2).goes hk hD hW hid⟩
 | _=>exact ((h.toP rfl).goes hk hD hW hid).toK
theorem RepV.goes {D:Nat→Prop} {w w':World} {W W':Nat→Prop} {μ μ':Nat→Loc} (hk:Keeps D w w') (hD:∀ b,b < w.heap.size→¬ W b→¬ D b)
  (hW:∀ b,b < w.heap.size→¬ W b→¬ W' b) {v:Value} {a:A} (hid:Old μ μ') (h:RepV w W μ v a):RepV w' W' μ' v a:=by
 cases a with
 | agg cs =>
  obtain ⟨vs,hv,hl,hr⟩:=h
  exact ⟨vs,hv,hl,fun i u a h1 h2=>(hr i u a h1 h2).goes hk hD hW hid⟩
 | clo f cs=>exact RepK.goes (a:=.clo f cs) hk hD hW hid h
 | bnd f cs=>exact RepK.goes (a:=.bnd f cs) hk hD hW hid h
 | bool b=>exact RepK.goes (a:=.bool b) hk hD hW hid h
 | int k n=>exact RepK.goes (a:=.int k n) hk hD hW hid h
 | str s=>exact RepK.goes (a:=.str s) hk hD hW hid h
 | sl es=>exact RepK.goes (a:=.sl es) hk hD hW hid h
 | full es=>exact RepK.goes (a:=.full es) hk hD hW hid h
 | own x lo n=>exact RepK.goes (a:=.own x lo n) hk hD hW hid h
 | ptr x i j=>exact RepK.goes (a:=.ptr x i j) hk hD hW hid h
 | mp x=>exact RepK.goes (a:=.mp x) hk hD hW hid h
 | it x=>exact RepK.goes (a:=.it x) hk hD hW hid h
 | rd cs off=>exact RepK.goes (a:=.rd cs off) hk hD hW hid h
 | tup vs=>exact RepK.goes (a:=.tup vs) hk hD hW hid h
 | cnd g a=>exact RepK.goes (a:=.cnd g a) hk hD hW hid h
 | any=>exact RepK.goes (a:=.any) hk hD hW hid h
theorem Rep.goes {D:Nat→Prop} {w w':World} {W W':Nat→Prop} {μ μ':Nat→Loc} (hk:Keeps D w w') (hD:∀ b,b < w.heap.size→¬ W b→¬ D b)
  (hW:∀ b,b < w.heap.size→¬ W b→¬ W' b) {v:Value} {a:A} (hid:Old μ μ') (h:Rep w W μ v a):Rep w' W' μ' v a:=by
 cases a with
 | any=>trivial
 | tup as =>
  obtain ⟨vs,hv,hl,hr⟩:=h
  exact ⟨vs,hv,hl,fun i u a h1 h2=>(hr i u a h1 h2).goes hk hD hW hid⟩
 | cnd g a=>exact ⟨fun hg=>(h.1 hg).goes hk hD hW hid,h.2⟩
 | bool b=>exact RepV.goes (a:=.bool b) hk hD hW hid h
 | int k n=>exact RepV.goes (a:=.int k n) hk hD hW hid h
 | str s=>exact RepV.goes (a:=.str s) hk hD hW hid h
 | sl es=>exact RepV.goes (a:=.sl es) hk hD hW hid h
 | full es=>exact RepV.goes (a:=.full es) hk hD hW hid h
 | own x lo n=>exact RepV.goes (a:=.own x lo n) hk hD hW hid h
 | ptr x i j=>exact RepV.goes (a:=.ptr x i j) hk hD hW hid h
 | mp x=>exact RepV.goes (a:=.mp x) hk hD hW hid h
 | it x=>exact RepV.goes (a:=.it x) hk hD hW hid h
 | rd cs off=>exact RepV.goes (a:=.rd cs off) hk hD hW hid h
 | agg cs=>exact RepV.goes (a:=.agg cs) hk hD hW hid h
 | clo f cs=>exact RepV.goes (a:=.clo f cs) hk hD hW hid h
 | bnd f cs=>exact RepV.goes (a:=.bnd f cs) hk hD hW hid h
theorem Flat.mono {R R':Value→A→Prop} {sz:Nat} {us:List Value} {es:List (List A)} (h:Flat R sz us es) (hr:∀ u a,R u a→R' u a):Flat R' sz us es :=
 ⟨h.hl,h.hs,fun i c j a h1 h2=>let ⟨u,h3,h4⟩:=h.ha i c j a h1 h2; ⟨u,h3,hr u a h4⟩⟩
theorem Flat.nil (R:Value→A→Prop) (sz:Nat):Flat R sz [] []:=⟨by simp,by simp,by simp⟩
theorem Flat.one {R:Value→A→Prop} {us:List Value} {c:List A} (hl:us.length=c.length) (hr:∀ (i:Nat) (u:Value) (a:A),us[i]? = some u→c[i]? = some a→R u a) :
  Flat R c.length us [c]:=by
 refine ⟨by simp [hl],fun i d h=>?_,fun i d j a h h2=>?_⟩
 ·cases i with
  | zero=>simp at h; rw [h]
  | succ i=>simp at h
 ·cases i with
  | zero =>
   simp at h; subst h
   have hj:j < us.length:=by rw [hl]; exact (cC.1 h2).1
   exact ⟨us[j],by simp [hj],hr j _ a (by simp [hj]) h2⟩
  | succ i=>simp at h
theorem Flat.append {R:Value→A→Prop} {sz:Nat} {us vs:List Value} {es fs:List (List A)} (h:Flat R sz us es) (k:Flat R sz vs fs):Flat R sz (us++vs) (es++fs):=by
 refine ⟨by simp [h.hl,k.hl,dN],fun i c hc=>?_,fun i c j a hc ha=>?_⟩
 ·rw [fJ] at hc
  split at hc
  ·exact h.hs i c hc
  ·exact k.hs _ c hc
 ·rw [fJ] at hc
  split at hc
  ·rename_i hi
   obtain ⟨u,hu,hr⟩:=h.ha i c j a hc ha
   refine ⟨u,?_,hr⟩
   rw [dE (cC.1 hu).1,hu]
  ·rename_i hi
   obtain ⟨u,hu,hr⟩:=k.ha _ c j a hc ha
   refine ⟨u,?_,hr⟩
   have e:i * sz+j=us.length+((i - es.length) * sz+j):=by
    rw [h.hl,← fN,← dN]; congr 2; omega
   rw [e,eR (by omega)]
   rw [show us.length+((i - es.length) * sz+j) - us.length=(i - es.length) * sz+j by omega,hu]
theorem Flat.take {R:Value→A→Prop} {sz:Nat} {us:List Value} {es:List (List A)} (h:Flat R sz us es) (n:Nat):Flat R sz (us.take (n * sz)) (es.take n):=by
 refine ⟨by simp only [dL,h.hl,Nat.mul_min_mul_right],fun i c hc=>?_,fun i c j a hc ha=>?_⟩
 ·rw [dH] at hc
  split at hc
  ·exact h.hs i c hc
  ·cases hc
 ·rw [dH] at hc
  split at hc
  ·rename_i hi
   obtain ⟨u,hu,hr⟩:=h.ha i c j a hc ha
   refine ⟨u,?_,hr⟩
   have hj:j < sz:=by rw [← h.hs i c hc]; exact (cC.1 ha).1
   have:i * sz+j < n * sz:=by
    have:(i+1) * sz≤n * sz:=dC _ hi
    rw [dN] at this; omega
   rw [dH,bY this,hu]
  ·cases hc
theorem Flat.drop {R:Value→A→Prop} {sz:Nat} {us:List Value} {es:List (List A)} (h:Flat R sz us es) (n:Nat):Flat R sz (us.drop (n * sz)) (es.drop n):=by
 refine ⟨by simp only [fK,h.hl]; rw [Nat.sub_mul],fun i c hc=>?_,fun i c j a hc ha=>?_⟩
 ·rw [dR] at hc
  exact h.hs _ c hc
 ·rw [dR] at hc
  obtain ⟨u,hu,hr⟩:=h.ha _ c j a hc ha
  refine ⟨u,?_,hr⟩
  rw [dR,← hu]
  congr 1
  rw [dN]; omega
theorem Flat.set {R:Value→A→Prop} {sz:Nat} {us vs:List Value} {es:List (List A)} {c:List A} (h:Flat R sz us es) (n:Nat) (hn:n < es.length) (k:Flat R sz vs [c]) :
  Flat R sz (us.take (n * sz)++vs++us.drop ((n+1) * sz)) (es.set n c):=by
 have h1:=((h.take n).append k).append (h.drop (n+1))
 have e:es.set n c=es.take n++[c]++es.drop (n+1):=by
  rw [iO,bY hn]; simp
 rw [e]; exact h1
theorem Flat.split {R:Value→A→Prop} {sz:Nat} {us:List Value} {es:List (List A)} (h:Flat R sz us es) {i:Nat} {c:List A} (hc:es[i]? = some c) :
  Flat R sz ((us.drop (i * sz)).take sz) [c]:=by
 have h1:=((h.drop i).take 1)
 have e:(es.drop i).take 1=[c]:=by
  have hi:=(cC.1 hc).1
  rw [iB hi]
  have:=(cC.1 hc).2
  simp [this]
 rw [e] at h1
 simpa using h1
theorem Flat.upd {R:Value→A→Prop} {us vs:List Value} {c d:List A} (h:Flat R c.length us [c]) (hl:vs.length=d.length) (hr:∀ (i:Nat) (u:Value) (a:A),vs[i]? = some u→d[i]? = some a→R u a)
  (j:Nat) (hj:j+d.length≤c.length):Flat R c.length (us.take j++vs++us.drop (j+vs.length)) [c.take j++d++c.drop (j+d.length)]:=by
 have hus:us.length=c.length:=by simpa using h.hl
 have hc:∀ (i:Nat) (u:Value) (a:A),us[i]? = some u→c[i]? = some a→R u a:=by
  intro i u a hu ha
  obtain ⟨u',hu',hr'⟩:=h.ha 0 c i a (by simp) ha
  simp only [jE,dJ] at hu'
  rw [hu] at hu'
  cases hu'
  exact hr'
 have hlen:(c.take j++d++c.drop (j+d.length)).length=c.length:=by simp; omega
 have:=Flat.one (R:=R) (us:=us.take j++vs++us.drop (j+vs.length)) (c:=c.take j++d++c.drop (j+d.length)) (by simp [hus,hl]) (by
  intro i u a hu ha
  rw [dI,fJ] at hu ha
  rw [dL,hus] at hu
  rw [dL] at ha
  split at hu
  ·rename_i hi
   rw [bY hi] at ha
   rw [dH] at hu ha
   split at hu
   ·rename_i hij
    rw [bY hij] at ha
    exact hc i u a hu ha
   ·cases hu
  ·rename_i hi
   rw [bW hi] at ha
   rw [fJ] at hu ha
   rw [hl] at hu
   split at hu
   ·rename_i hi2
    rw [bY hi2] at ha
    exact hr _ u a hu ha
   ·rename_i hi2
    rw [bW hi2] at ha
    rw [dR] at hu ha
    exact hc _ u a hu ha)
 rwa [hlen] at this
def sub (cs:List A) (off n:Nat):List A:=(cs.drop off).take n
def upd (cs:List A) (off:Nat) (new:List A):List A:=cs.take off++new++cs.drop (off+new.length)
def zI9 (n:Nat) (es:List (List A)):Prop:=∀ c ∈ es,c.length=n
def A.cells:A→List A
 | .agg cs=>cs
 | a=>[a]
def A.isV:A→Bool
 | .bool _|.int _ _|.str _|.sl _|.full _|.own _ _ _|.ptr _ _ _|.agg _=>true
 | .clo _ _|.bnd _ _=>true
 | _=>false
def zab4 (ag:Bool) (cs:List A):A:=if ag then .agg cs else cs.headD .any
inductive LK where
 | b
 | i (k:IntKind)
 | s
 deriving DecidableEq
def LK.fits:LK→A→Bool
 | .b,.bool _=>true
 | .i k,.int k' _=>k == k'
 | .s,.str _=>true
 | _,_=>false
def zq1:List LK→List A→Bool
 | [],[]=>true
 | k :: ks,a :: as=>k.fits a&&zq1 ks as
 | _,_=>false
def eq1:A→A→Bool
 | .bool a,.bool b=>a == b
 | .int _ a,.int _ b=>a == b
 | .str a,.str b=>a.toList == b.toList
 | _,_=>false
def eqA:List A→List A→Bool
 | a :: as,b :: bs=>eq1 a b&&eqA as bs
 | _,_=>true
def zG0 (i n:Nat):Nat:=if i < n then i else n - 1
def zal5 (op:BinOp) (k:IntKind) (x y:Int):Int :=
 match op with
 | .and=>k.wrap (BitVec.ofInt k.bits x &&& BitVec.ofInt k.bits y).toNat
 | .or=>k.wrap (BitVec.ofInt k.bits x ||| BitVec.ofInt k.bits y).toNat
 | .xor=>k.wrap (BitVec.ofInt k.bits x ^^^ BitVec.ofInt k.bits y).toNat
 | .andNot=>k.wrap (BitVec.ofInt k.bits x &&& ~~~(BitVec.ofInt k.bits y)).toNat
 | _=>0
inductive PO where
 | mv
 | nilown (sz:Nat) (z:List A)
 | pick
 | box (n:Nat)
 | alloc (n:Nat) (z:List A)
 | build (z:List A) (ps:List (Nat×Nat))
 | bslice (sz:Nat) (z:List A)
 | bown (sz:Nat) (z:List A)
 | load (n:Nat) (ag:Bool)
 | store (n:Nat)
 | bin (op:BinOp)
 | eqb (neg:Bool)
 | eqa (neg:Bool) (ks:List LK)
 | not
 | neg
 | field (off n:Nat) (ag:Bool)
 | faddr (off:Nat)
 | iaA (n sz:Nat)
 | iaS (sz:Nat) (z:List A)
 | idxA (n sz:Nat) (ag:Bool)
 | idxS
 | slc (sz:Nat) (lo hi mx:Bool)
 | slcS (lo hi:Bool)
 | ext (i:Nat)
 | len
 | lenS
 | append (sz bytes:Nat) (z:List A)
 | appc (sz bytes:Nat)
 | apl (sz bytes:Nat)
 | copy (sz:Nat)
 | clear (sz:Nat) (z:List A)
 | mk (sz bytes:Nat) (z:List A)
 | conv (k:IntKind)
 | cvS
 | cvB
 | eqNil
 | min
 | max
 | nilck
 | call (f:FuncId)
 | callv
 | callb
 | callm (f:FuncId)
 | callvm
 | mkf (f:FuncId)
 | mkb (f:FuncId)
 | mkmap (z:List A)
 | lkp (ok ag:Bool) (kz:A) (z:List A)
 | mupd (kz:A) (ag:Bool) (n:Nat)
 | lenM
 | rng
 | next (d:List A)
 | entry (d:List A)
inductive PX where
 | t (n:Nat)
 | c (a:A)
 | g (g:Nat)
 | f (f:FuncId)
structure POp where
 dst:Option Nat
 g:Option (Nat×Bool)
 po:PO
 xs:List PX
structure Ef where
 obl:Prop
 v:A
 mw:List (Nat×MS)
def zbB1 (op:BinOp):A→A→Option (Prop×A)
 | .int k a,.int k' b =>
  match op with
  | .shl=>some (0≤b,.int k (k.wrap (a * 2 ^ (Nat.min b.toNat k.bits))))
  | .shr=>some (0≤b,.int k (a.fdiv (2 ^ (Nat.min b.toNat k.bits))))
  | op=>if k=k' then
    match op with
    | .add=>some (True,.int k (k.wrap (a+b)))
    | .sub=>some (True,.int k (k.wrap (a - b)))
    | .mul=>some (True,.int k (k.wrap (a * b)))
    | .quo=>some (b≠0,.int k (k.wrap (a.tdiv b)))
    | .rem=>some (b≠0,.int k (a.tmod b))
    | .eql=>some (True,.bool (decide (a=b)))
    | .neq=>some (True,.bool (!decide (a=b)))
    | .lss=>some (True,.bool (decide (a < b)))
    | .leq=>some (True,.bool (decide (a≤b)))
    | .gtr=>some (True,.bool (decide (b < a)))
    | .geq=>some (True,.bool (decide (b≤a)))
    | .and=>some (True,.int k (zal5 .and k a b))
    | .or=>some (True,.int k (zal5 .or k a b))
    | .xor=>some (True,.int k (zal5 .xor k a b))
    | .andNot=>some (True,.int k (zal5 .andNot k a b))
    | _=>none
   else none
 | .str a,.str b =>
  match op with
  | .add=>some (((a.size+b.size:Nat):Int)≤IntKind.i64.max,.str (a++b))
  | .eql=>some (True,.bool (a.toList == b.toList))
  | .neq=>some (True,.bool (!(a.toList == b.toList)))
  | .lss=>some (True,.bool (Op.bytesLess a.toList b.toList))
  | .leq=>some (True,.bool (Op.bytesLess a.toList b.toList||a.toList == b.toList))
  | .gtr=>some (True,.bool (!(Op.bytesLess a.toList b.toList||a.toList == b.toList)))
  | .geq=>some (True,.bool (!Op.bytesLess a.toList b.toList))
  | _=>none
 | _,_=>none
def zat1 (m:Nat→MS):A→Option (List (List A))
 | .sl es=>some es
 | .full es=>some es
 | .own x lo n=>match m x with
  | .row r=>some ((r.es.drop lo).take n)
  | _=>none
 | .str s=>some (s.toList.map fun b=>[A.int .u8 b.toNat])
 | _=>none
def zab5 (m:Nat→MS):A→Prop
 | .own x lo n=>match m x with
  | .row r=>lo+n≤r.es.length
  | _=>False
 | _=>True
def zal6 (m:Nat→MS) (sz:Nat) (x:A) (lo hi:Option Int) (mx:Option Int):Option (Prop×A) :=
 match x,mx with
 | .sl es,none=>some (0≤lo.getD 0∧lo.getD 0≤hi.getD es.length∧hi.getD es.length≤es.length∧zI9 sz es,.sl ((es.take (hi.getD es.length).toNat).drop (lo.getD 0).toNat))
 | .full es,none=>some (0≤lo.getD 0∧lo.getD 0≤hi.getD es.length∧hi.getD es.length≤es.length∧zI9 sz es,.sl ((es.take (hi.getD es.length).toNat).drop (lo.getD 0).toNat))
 | .own y l n,none=>match m y with
  | .row r=>some (0≤lo.getD 0∧lo.getD 0≤hi.getD n∧hi.getD n≤n∧r.sz=sz,.own y (l+(lo.getD 0).toNat) ((hi.getD n).toNat - (lo.getD 0).toNat))
  | _=>none
 | .str s,none=>some (0≤lo.getD 0∧lo.getD 0≤hi.getD s.size∧hi.getD s.size≤s.size,.str (s.extract (lo.getD 0).toNat (hi.getD s.size).toNat))
 | .sl es,some m=>match hi with
  | some h=>some (0≤lo.getD 0∧lo.getD 0≤h∧h≤es.length∧h=m∧zI9 sz es,.full ((es.take h.toNat).drop (lo.getD 0).toNat))
  | none=>none
 | .full es,some m=>match hi with
  | some h=>some (0≤lo.getD 0∧lo.getD 0≤h∧h≤es.length∧h=m∧zI9 sz es,.full ((es.take h.toNat).drop (lo.getD 0).toNat))
  | none=>none
 | .own y l n,some q=>match hi,m y with
  | some h,.row r=>some (0≤lo.getD 0∧lo.getD 0≤h∧h≤n∧h=q∧r.sz=sz,.own y (l+(lo.getD 0).toNat) (h.toNat - (lo.getD 0).toNat))
  | _,_=>none
 | _,_=>none
def laid:List A→List (Nat×Nat)→List A→List A
 | z,p :: ps,x :: xs=>laid (upd z p.1 x.cells) ps xs
 | z,_,_=>z
def zbn6 (n:Nat):List (Nat×Nat)→List A→Prop
 | p :: ps,x :: xs=>x.isV=true∧x.cells.length=p.2∧p.1+p.2≤n∧zbn6 n ps xs
 | [],[]=>True
 | _,_=>False
def allV:List A→Bool
 | []=>true
 | x :: xs=>x.isV&&allV xs
def zv3:List A→List (List A)
 | []=>[]
 | x :: xs=>x.cells :: zv3 xs
def A.isStr:A→Bool
 | .str _=>true
 | _=>false
def A.isK:A→Bool
 | .bool _|.int _ _|.str _|.sl _|.full _|.own _ _ _|.ptr _ _ _=>true
 | .clo _ []|.bnd _ _=>true
 | _=>false
def allK:List A→Bool
 | []=>true
 | x :: xs=>x.isK&&allK xs
def A.pure1:A→Bool
 | .bool _|.int _ _|.str _|.sl _|.full _|.clo _ []|.bnd _ _=>true
 | _=>false
def zbn7:List A→Bool
 | []=>true
 | c :: cs=>c.pure1&&zbn7 cs
def zS3 (es:List (List A)):Prop:=∀ c ∈ es,∀ a ∈ c,A.pure1 a=true
def u8s:List (List A)→Option (List Int)
 | []=>some []
 | [.int .u8 n] :: cs=>(u8s cs).map (n :: ·)
 | _=>none
def zaU2 (l:List Int):ByteArray:=⟨(l.map fun n=>UInt8.ofNat n.toNat).toArray⟩
def zai5 (k:A):List (List A)→Option (List A)
 | []=>none
 | c :: es=>bif eq1 k (c.headD .any) then some c.tail else zai5 k es
def mins (k:A) (v:List A):List (List A)→List (List A)
 | []=>[k :: v]
 | c :: es=>bif eq1 k (c.headD .any) then (k :: v) :: es else c :: mins k v es
def zbN1 (es:List (List A)):Option (Nat×Nat):=match es.head?,es.tail.getLast? with
 | some [.mp y,.int _ _],some [.int _ i]=>some (y,i.toNat)
 | _,_=>none
def mEnt (z:List A) (c:List A):List A:=[c.headD .any,zab4 (match z.getD 1 .any with|.bool ag=>ag|_=>false) c.tail]
def mval (ag:Bool) (z:List A) (o:Option (List A)):A:=zab4 ag (o.getD z)
def A.isAg:A→Bool
 | .agg _=>true
 | _=>false
def ev (id:Nat) (m:Nat→MS):PO→List A→Option Ef
 | .mv,[x]=>some ⟨True,x,[]⟩
 | .nilown sz z,[_]=>some ⟨0 < sz,.own id 0 0,[(id,.row ⟨false,sz,z,[]⟩)]⟩
 | .box n,[x]=>some ⟨x.isV=true∧0 < n∧x.cells.length=n,.ptr id 0 0,[(id,.row ⟨false,n,x.cells,[x.cells]⟩)]⟩
 | .alloc n z,[]=>some ⟨0 < n∧z.length=n,.ptr id 0 0,[(id,.row ⟨false,n,z,[z]⟩)]⟩
 | .build z ps,xs=>some ⟨zbn6 z.length ps xs,.agg (laid z ps xs),[]⟩
 | .bslice sz _,xs=>some ⟨0 < sz∧allV xs=true∧zI9 sz (zv3 xs)∧zS3 (zv3 xs)∧xs.length * sz≤16777216,.full (zv3 xs),[]⟩
 | .bown sz z,xs=>some ⟨0 < sz∧allV xs=true∧zI9 sz (zv3 xs)∧xs.length * sz≤16777216,.own id 0 xs.length,[(id,.row ⟨false,sz,z,zv3 xs⟩)]⟩
 | .load n ag,[x] =>
  match x with
  | .ptr y i j=>match m y with
   | .row r=>some ⟨i < r.es.length∧j+n≤r.sz,zab4 ag (sub (r.es.getD i r.z) j n),[]⟩
   | _=>none
  | .rd cs off=>some ⟨off+n≤cs.length,zab4 ag (sub cs off n),[]⟩
  | _=>none
 | .store n,[p,x] =>
  match p with
  | .ptr y i j=>match m y with
   | .row r=>some ⟨r.ro=false∧x.isV=true∧i < r.es.length∧j+n≤r.sz∧x.cells.length=n,.any,
     [(y,.row ⟨r.ro,r.sz,r.z,r.es.set i (upd (r.es.getD i r.z) j x.cells)⟩)]⟩
   | _=>none
  | _=>none
 | .bin op,[x,y]=>(zbB1 op x y).map fun q=>⟨q.1,q.2,[]⟩
 | .eqb neg,[.bool x,.bool y]=>some ⟨True,.bool (if neg then !decide (x=y) else decide (x=y)),[]⟩
 | .eqa neg ks,[.agg xs,.agg ys]=>some ⟨zq1 ks xs=true∧zq1 ks ys=true,.bool (if neg then !eqA xs ys else eqA xs ys),[]⟩
 | .not,[.bool x]=>some ⟨True,.bool (!x),[]⟩
 | .neg,[.int k n]=>some ⟨True,.int k (k.wrap (0 - n)),[]⟩
 | .field off n ag,[.agg cs]=>some ⟨off+n≤cs.length,zab4 ag (sub cs off n),[]⟩
 | .faddr off,[x] =>
  match x with
  | .ptr y i j=>match m y with
   | .row _=>some ⟨True,.ptr y i (j+off),[]⟩
   | _=>none
  | .rd cs o=>some ⟨True,.rd cs (o+off),[]⟩
  | _=>none
 | .iaA n sz,[x,.int _ k] =>
  match x with
  | .ptr y i j=>match m y with
   | .row _=>some ⟨0≤k∧k < n,.ptr y i (j+zG0 k.toNat n * sz),[]⟩
   | _=>none
  | .rd cs o=>some ⟨0≤k∧k < n,.rd cs (o+zG0 k.toNat n * sz),[]⟩
  | _=>none
 | .iaS sz z,[x,.int _ k] =>
  match x with
  | .sl es=>some ⟨0≤k∧k < es.length∧(es.getD k.toNat z).length=sz,.rd (es.getD k.toNat z) 0,[]⟩
  | .full es=>some ⟨0≤k∧k < es.length∧(es.getD k.toNat z).length=sz,.rd (es.getD k.toNat z) 0,[]⟩
  | .own y lo n=>match m y with
   | .row r=>some ⟨0≤k∧k < n∧r.sz=sz,.ptr y (lo+k.toNat) 0,[]⟩
   | _=>none
  | _=>none
 | .idxA n sz ag,[.agg cs,.int _ k]=>some ⟨0≤k∧k < n∧n * sz=cs.length,zab4 ag (sub cs (zG0 k.toNat n * sz) sz),[]⟩
 | .idxS,[.str s,.int _ k]=>some ⟨0≤k∧k < s.size,.int .u8 (s.toList.getD k.toNat 0).toNat,[]⟩
 | .slc sz false false false,[x]=>if x.isStr then none else (zal6 m sz x none none none).map fun q=>⟨q.1,q.2,[]⟩
 | .slc sz true false false,[x,.int _ l]=>if x.isStr then none else (zal6 m sz x (some l) none none).map fun q=>⟨q.1,q.2,[]⟩
 | .slc sz false true false,[x,.int _ h]=>if x.isStr then none else (zal6 m sz x none (some h) none).map fun q=>⟨q.1,q.2,[]⟩
 | .slc sz true true false,[x,.int _ l,.int _ h]=>if x.isStr then none else (zal6 m sz x (some l) (some h) none).map fun q=>⟨q.1,q.2,[]⟩
 | .slc sz false true true,[x,.int _ h,.int _ c]=>if x.isStr then none else (zal6 m sz x none (some h) (some c)).map fun q=>⟨q.1,q.2,[]⟩
 | .slc sz true true true,[x,.int _ l,.int _ h,.int _ c]=>if x.isStr then none else (zal6 m sz x (some l) (some h) (some c)).map fun q=>⟨q.1,q.2,[]⟩
 | .slcS false false,[.str s]=>(zal6 m 0 (.str s) none none none).map fun q=>⟨q.1,q.2,[]⟩
 | .slcS true false,[.str s,.int _ l]=>(zal6 m 0 (.str s) (some l) none none).map fun q=>⟨q.1,q.2,[]⟩
 | .slcS false true,[.str s,.int _ h]=>(zal6 m 0 (.str s) none (some h) none).map fun q=>⟨q.1,q.2,[]⟩
 | .slcS true true,[.str s,.int _ l,.int _ h]=>(zal6 m 0 (.str s) (some l) (some h) none).map fun q=>⟨q.1,q.2,[]⟩
 | .ext i,[.tup vs]=>some ⟨i < vs.length,vs.getD i .any,[]⟩
 | .len,[x] =>
  match x with
  | .sl es=>some ⟨True,.int .i64 es.length,[]⟩
  | .full es=>some ⟨True,.int .i64 es.length,[]⟩
  | .own y _ n=>match m y with
   | .row _=>some ⟨True,.int .i64 n,[]⟩
   | _=>none
  | _=>none
 | .lenS,[.str s]=>some ⟨True,.int .i64 s.size,[]⟩
 | .append sz bytes z,[b,x] =>
  (zat1 m x).bind fun new =>
  match b with
  | .full es=>some ⟨0 < sz∧(es=[]∨new≠[])∧zI9 sz es∧zab5 m x∧zI9 sz new∧(es.length+new.length) * bytes≤140737488355328∧es.length+new.length≤maxLen,.own id 0 (es.length+new.length),[(id,.row ⟨false,sz,z,es++new⟩)]⟩
  | .own y lo n=>match m y with
   | .row r=>some ⟨r.ro=false∧lo=0∧n=r.es.length∧r.sz=sz∧zab5 m x∧zI9 sz new∧(n+new.length) * bytes≤140737488355328∧n+new.length≤maxLen,
     .own id 0 (n+new.length),[(y,.dead),(id,.row ⟨false,sz,r.z,r.es++new⟩)]⟩
   | _=>none
  | _=>none
 | .appc sz bytes,[b,x] =>
  (zat1 m x).bind fun new =>
  match b with
  | .own y lo n=>match m y with
   | .row r=>some ⟨r.ro=false∧lo=0∧n≤r.es.length∧r.sz=sz∧zab5 m x∧zI9 sz new∧(n+new.length) * bytes≤140737488355328∧n+new.length≤maxLen,
     .own id 0 (n+new.length),[(y,.dead),(id,.row ⟨false,sz,r.z,r.es.take n++new⟩)]⟩
   | _=>none
  | _=>none
 | .apl sz bytes,[.full es0,.sl es]=>some ⟨0 < sz∧es0=[]∧zI9 sz es∧es.length * bytes≤140737488355328∧es.length≤maxLen,.sl es,[]⟩
 | .copy sz,[d,x] =>
  (zat1 m x).bind fun new =>
  match d with
  | .own y lo n=>match m y with
   | .row r=>some ⟨r.ro=false∧r.sz=sz∧lo+n≤r.es.length∧zab5 m x∧zI9 sz new,.int .i64 (Nat.min new.length n),
     [(y,.row ⟨false,sz,r.z,r.es.take lo++new.take n++r.es.drop (lo+Nat.min new.length n)⟩)]⟩
   | _=>none
  | _=>none
 | .clear sz z,[d] =>
  match d with
  | .own y lo n=>match m y with
   | .row r=>some ⟨r.ro=false∧r.sz=sz∧lo+n≤r.es.length,.any,[(y,.row ⟨false,sz,r.z,r.es.take lo++List.replicate n z++r.es.drop (lo+n)⟩)]⟩
   | _=>none
  | _=>none
 | .mk sz bytes z,[.int _ l,.int _ c] =>
  some ⟨0 < sz∧z.length=sz∧0≤l∧l≤c∧c * bytes≤140737488355328∧c≤maxLen,.own id 0 l.toNat,[(id,.row ⟨false,sz,z,List.replicate l.toNat z⟩)]⟩
 | .conv k,[.int _ n]=>some ⟨True,.int k (k.wrap n),[]⟩
 | .cvS,[x]=>if x.isStr then none else (zat1 m x).bind fun es=>(u8s es).bind fun l=>some ⟨zab5 m x,.str (zaU2 l),[]⟩
 | .cvB,[.str s]=>some ⟨s.size≤maxLen,.sl (s.toList.map fun b=>[A.int .u8 b.toNat]),[]⟩
 | .min,[.int k x,.int k' y]=>some ⟨k=k',.int k (if y < x then y else x),[]⟩
 | .max,[.int k x,.int k' y]=>some ⟨k=k',.int k (if x < y then y else x),[]⟩
 | .nilck,[x] =>
  match x with
  | .ptr y _ _=>match m y with
   | .row _=>some ⟨True,x,[]⟩
   | _=>none
  | .rd _ _=>some ⟨True,x,[]⟩
  | .clo _ _|.bnd _ _=>some ⟨True,x,[]⟩
  | _=>none
 | .mkb f,[.agg cs]=>some ⟨zbn7 cs=true,.bnd f cs,[]⟩
 | .mkf f,xs=>some ⟨allK xs=true,.clo f xs,[]⟩
 | .mkmap z,[]=>some ⟨True,.mp id,[(id,.row ⟨false,0,z,[]⟩)]⟩
 | .lkp ok ag kz z,[.mp y,k]=>match m y with
  | .row r=>some ⟨r.z=[kz,.bool ag]∧zP0 kz k=true,if ok then .tup [mval ag z (zai5 k r.es),.bool (zai5 k r.es).isSome] else mval ag z (zai5 k r.es),[]⟩
  | _=>none
 | .mupd kz ag n,[.mp y,k,v]=>match m y with
  | .row r=>some ⟨r.ro=false∧r.z=[kz,.bool ag]∧zP0 kz k=true∧v.isV=true∧v.isAg=ag∧v.cells.length=n∧zS3 [v.cells],.any,[(y,.row ⟨false,0,r.z,mins k v.cells r.es⟩)]⟩
  | _=>none
 | .lenM,[.mp y]=>match m y with
  | .row r=>some ⟨r.z≠[],.int .i64 r.es.length,[]⟩
  | _=>none
 | .rng,[.mp y]=>match m y with
  | .row r=>some ⟨r.z≠[],.it id,[(id,.row ⟨false,0,[],[[.mp y,.int .i64 r.es.length]]⟩)]⟩
  | _=>none
 | _,_=>none
structure S where
 fr:Nat→A
 mem:Nat→MS
structure Env where
 w0:World
 Win:Nat→Prop
 Mb:Nat→Prop
 N:Nat
 G:zbg7
 k0:Nat
 μ0:Nat→Loc
structure SatW (E:Env) (s:S) (a:Act) (w:World) (W:Nat→Prop) (μ:Nat→Loc):Prop where
 defers:a.defers=[]
 size:a.tmps.size=E.N
 fr:∀ t,Rep w W μ (a.tmps.getD t undef) (s.fr t)
 mem:zai4 w W μ s.mem
 inj:∀ x y k k',μ x=.at_ k→μ y=.at_ k'→k.b=k'.b→x=y
 keeps:Keeps E.Mb E.w0 w
 winlt:∀ b,E.Win b→b < E.w0.heap.size
 wsub:∀ b,W b→E.Win b∨E.w0.heap.size≤b
 wsup:∀ b,E.Win b→W b∨E.Mb b
 wlt:∀ b,W b→b < w.heap.size
 live:∀ x k,μ x=.at_ k→E.Mb k.b∨E.w0.heap.size≤k.b
 glob:zaL0 w W E.G
 fix:∀ x,x < E.k0→(μ x=E.μ0 x∧μ x≠.fresh)∨μ x=.dead
def Sat (E:Env) (s:S) (a:Act) (w:World):Prop:=∃ W μ,SatW E s a w W μ
def setM (m:Nat→MS):List (Nat×MS)→Nat→MS
 | []=>m
 | q :: r=>setM (fun x=>if x=q.1 then q.2 else m x) r
def setF (f:Nat→A) (d:Option Nat) (a:A):Nat→A:=fun t=>if d=some t then a else f t
structure Step (m m':Nat→MS) (w w':World) (W W':Nat→Prop) (μ μ':Nat→Loc):Prop where
 keeps:Keeps (fun b=>W b∧∃ y k,μ y=.at_ k∧k.b=b) w w'
 hW:∀ b,b < w.heap.size→W' b→W b
 wsup:∀ b,W b→W' b∨∃ y k,μ y=.at_ k∧k.b=b
 wlt0:∀ b,W b→b < w.heap.size
 wlt:∀ b,W' b→b < w'.heap.size
 old:Old μ μ'
 mem:zai4 w' W' μ' m'
 inj:∀ x y k k',μ' x=.at_ k→μ' y=.at_ k'→k.b=k'.b→x=y
 live:∀ x k,μ' x=.at_ k→(∃ y k',μ y=.at_ k'∧k'.b=k.b)∨w.heap.size≤k.b
theorem Rep.step {m m':Nat→MS} {w w':World} {W W':Nat→Prop} {μ μ':Nat→Loc} (h:Step m m' w w' W W' μ μ') {v:Value} {a:A} (hr:Rep w W μ v a):Rep w' W' μ' v a :=
 hr.goes h.keeps (fun _ _ h1 h2=>h1 h2.1) (fun b hb h1 h2=>h1 (h.hW b hb h2)) h.old
theorem RepK.step {m m':Nat→MS} {w w':World} {W W':Nat→Prop} {μ μ':Nat→Loc} (h:Step m m' w w' W W' μ μ') {v:Value} {a:A} (hr:RepK w W μ v a):RepK w' W' μ' v a :=
 hr.goes h.keeps (fun _ _ h1 h2=>h1 h2.1) (fun b hb h1 h2=>h1 (h.hW b hb h2)) h.old
theorem zct3 (a:Act) (d:Option Nat) (v:Value) (t:Nat) (hd:∀ x,d=some x→x < a.tmps.size) :
  (a.put d v).tmps.getD t undef=if d=some t then v else a.tmps.getD t undef:=by
 cases d with
 | none=>simp [Act.put]
 | some x =>
  have hx:=hd x rfl
  simp only [Act.put,cU]
  by_cases h:x=t
  ·subst h; simp [hx]
  ·simp only [bW h,fM,gV h]
theorem SatW.step {E:Env} {s:S} {a:Act} {w w':World} {W W':Nat→Prop} {μ μ':Nat→Loc} (hs:SatW E s a w W μ) {m':Nat→MS} (h:Step s.mem m' w w' W W' μ μ')
  {d:Option Nat} {v:Value} {av:A} (hd:∀ x,d=some x→x < E.N) (hv:Rep w' W' μ' v av):SatW E ⟨setF s.fr d av,m'⟩ (a.put d v) w' W' μ' where
 defers:=by cases d <;> exact hs.defers
 size:=by
  have:=hs.size
  cases d <;> simp [Act.put,this]
 fr:=fun t=>by
  rw [zct3 a d v t (fun x hx=>by rw [hs.size]; exact hd x hx)]
  simp only [setF]
  split
  ·exact hv
  ·exact (hs.fr t).step h
 mem:=h.mem
 inj:=h.inj
 keeps:=hs.keeps.trans h.keeps (fun x hx hh=>by
  obtain ⟨_,y,k,hy,rfl⟩:=hh
  rcases hs.live y k hy with h1|h1
  ·exact h1
  ·omega)
 winlt:=hs.winlt
 wsub:=fun b hb=>by
  by_cases hlt:b < w.heap.size
  ·exact hs.wsub b (h.hW b hlt hb)
  ·have:=hs.keeps.size; exact .inr (by omega)
 wsup:=fun b hb=>by
  rcases hs.wsup b hb with h1|h1
  ·rcases h.wsup b h1 with h2|⟨y,k,hy,rfl⟩
   ·exact .inl h2
   ·rcases hs.live y k hy with h3|h3
    ·exact .inr h3
    ·have:=hs.winlt _ hb; omega
  ·exact .inr h1
 wlt:=h.wlt
 live:=fun x k hx=>by
  rcases h.live x k hx with ⟨y,k',hy,he⟩|h1
  ·rw [← he]; exact hs.live y k' hy
  ·have:=hs.keeps.size; exact .inr (by omega)
 glob:=fun g cs hg=>by
  obtain ⟨h1,h2,h3⟩:=hs.glob g cs hg
  refine ⟨fun hh=>h1 (h.hW g h2 hh),dQ h2 h.keeps.size,fun j a hj=>?_⟩
  obtain ⟨u,hu,hr⟩:=h3 j a hj
  exact ⟨u,(World.cell?_of_block (w:=w) (h.keeps.block g h2 (fun hh=>h1 hh.1))).trans hu,
   hr.keep h.keeps (fun _ _ h1 h2=>h1 h2.1) (fun b hb h1 h2=>h1 (h.hW b hb h2))⟩
 fix:=fun x hx=>by
  rcases hs.fix x hx with ⟨h1,h2⟩|h1
  ·rcases h.old x h2 with e|e
   ·exact .inl ⟨e.trans h1,by rw [e]; exact h2⟩
   ·exact .inr e
  ·rcases h.old x (by rw [h1]; simp) with e|e
   ·exact .inr (e.trans h1)
   ·exact .inr e
section
variable {w w':World} {W W':Nat→Prop} {μ μ':Nat→Loc} {m:Nat→MS}
theorem zaH6.goes {D:Nat→Prop} {r:Row} {k:Blk} (hk:Keeps D w w') (hD:∀ b,b < w.heap.size→¬ W b→¬ D b) (hW:∀ b,b < w.heap.size→¬ W b→¬ W' b) (ho:Old μ μ')
  (hb:¬ D k.b) (hw:W k.b→W' k.b) (h:zaH6 w W μ r k):zaH6 w' W' μ' r k:=by
 obtain ⟨h1,h2,h3,us,rest,e,h4,h5,h6⟩:=h
 refine ⟨fun hr=>hw (h1 hr),h2,h3,us,rest,e,?_,h5,h6.mono fun u a hr=>hr.goes hk hD hW ho⟩
 rw [hk.block k.b (cH.1 h4).1 hb]
 exact h4
theorem RepX.keep {D:Nat→Prop} {ag:Bool} {v:Value} {cs:List A} (hk:Keeps D w w') (hD:∀ b,b < w.heap.size→¬ W b→¬ D b) (hW:∀ b,b < w.heap.size→¬ W b→¬ W' b) (h:RepX w W ag v cs):RepX w' W' ag v cs:=by
 unfold RepX at *
 split
 ·rename_i ha
  rw [bY ha] at h
  obtain ⟨vs,h1,h2,h3⟩:=h
  exact ⟨vs,h1,h2,fun i u a x y=>(h3 i u a x y).keep hk hD hW⟩
 ·rename_i ha
  rw [bW ha] at h
  obtain ⟨a,h1,h2⟩:=h
  exact ⟨a,h1,h2.keep hk hD hW⟩
theorem zav2.keep {D:Nat→Prop} {z:List A} {i:Nat} {e:MapEntry} {c:List A} (hk:Keeps D w w') (hD:∀ b,b < w.heap.size→¬ W b→¬ D b) (hW:∀ b,b < w.heap.size→¬ W b→¬ W' b) (h:zav2 w W z i e c):zav2 w' W' z i e c:=by
 obtain ⟨h0,k,cs,ag,h1,h2,h3,h4,h5⟩:=h
 exact ⟨h0,k,cs,ag,h1,h2,h3,h4.keep hk hD hW,h5.keep hk hD hW⟩
theorem zaY2.goes {D:Nat→Prop} {r:Row} {k:Blk} (hk:Keeps D w w') (hD:∀ b,b < w.heap.size→¬ W b→¬ D b) (hW:∀ b,b < w.heap.size→¬ W b→¬ W' b)
  (hb:¬ D k.b) (hw:W k.b→W' k.b) (h:zaY2 w W r k):zaY2 w' W' r k:=by
 obtain ⟨h1,h2,h3,es,h4,h5,h6⟩:=h
 refine ⟨fun hr=>hw (h1 hr),h2,h3,es,?_,h5,fun i e c x y=>(h6 i e c x y).keep hk hD hW⟩
 rw [hk.block k.b (cH.1 h4).1 hb]
 exact h4
theorem ItOk.goes {D:Nat→Prop} {r:Row} {k:Blk} (hk:Keeps D w w') (hD:∀ b,b < w.heap.size→¬ W b→¬ D b) (hW:∀ b,b < w.heap.size→¬ W b→¬ W' b) (ho:Old μ μ')
  (hb:¬ D k.b) (hw:W k.b→W' k.b) (h:ItOk w W μ r k):ItOk w' W' μ' r k:=by
 obtain ⟨h1,h2,h3,hz,y,b,c,seen,h4,h5,h6⟩:=h
 refine ⟨fun hr=>hw (h1 hr),h2,h3,hz,y,b,c,seen,h4,h5.goes hk hD hW ho,?_⟩
 rw [hk.block k.b (cH.1 h6).1 hb]
 exact h6
theorem zP3.goes {D:Nat→Prop} {r:Row} {k:Blk} (hk:Keeps D w w') (hD:∀ b,b < w.heap.size→¬ W b→¬ D b) (hW:∀ b,b < w.heap.size→¬ W b→¬ W' b) (ho:Old μ μ')
  (hb:¬ D k.b) (hw:W k.b→W' k.b) (h:zP3 w W μ r k):zP3 w' W' μ' r k:=h.imp (zaH6.goes hk hD hW ho hb hw) (.imp (zaY2.goes hk hD hW hb hw) (ItOk.goes hk hD hW ho hb hw))
theorem zP3.lt {r:Row} {k:Blk} (h:zP3 w W μ r k):k.b < w.heap.size:=by
 rcases h with ⟨_,_,_,us,rest,e,h4,_⟩|⟨_,_,_,es,h4,_⟩|⟨_,_,_,_,y,b,c,seen,_,_,h4⟩ <;> exact (cH.1 h4).1
theorem zP3.wr {r:Row} {k:Blk} (h:zP3 w W μ r k):(r.ro=false→W k.b)∧k.sz=r.sz:=by
 rcases h with h|h|h <;> exact ⟨h.1,h.2.1⟩
theorem zae1.goes {D:Nat→Prop} {x:Nat} {q:MS} (hk:Keeps D w w') (hD:∀ b,b < w.heap.size→¬ W b→¬ D b) (hW:∀ b,b < w.heap.size→¬ W b→¬ W' b) (ho:Old μ μ')
  (hx:μ' x=μ x) (hb:∀ k,μ x=.at_ k→¬ D k.b) (hw:∀ b,W b→W' b) (h:zae1 w W μ x q):zae1 w' W' μ' x q:=by
 cases q with
 | fresh=>exact hx.trans h
 | dead=>exact hx.trans h
 | row r =>
  rcases h with ⟨h1,h2⟩|⟨k,h1,h2⟩
  ·exact .inl ⟨hx.trans h1,h2⟩
  ·exact .inr ⟨k,hx.trans h1,h2.goes hk hD hW ho (hb k h1) (hw _)⟩
theorem zai4.at_ (h:zai4 w W μ m) {x:Nat} {k:Blk} (hx:μ x=.at_ k):∃ r,m x=.row r∧zP3 w W μ r k:=by
 have:=h x
 cases hr:m x with
 | fresh=>rw [hr] at this; exact absurd (hx.symm.trans this) (by simp)
 | dead=>rw [hr] at this; exact absurd (hx.symm.trans this) (by simp)
 | row r =>
  rw [hr] at this
  rcases this with ⟨h1,_⟩|⟨k',h1,h2⟩
  ·rw [hx] at h1; cases h1
  ·rw [hx] at h1; cases h1; exact ⟨r,rfl,h2⟩
theorem Step.quiet (hk:Keeps (fun _=>False) w w') (hm:zai4 w W μ m) (hi:∀ x y k k',μ x=.at_ k→μ y=.at_ k'→k.b=k'.b→x=y) (hl:∀ b,W b→b < w.heap.size) :
  Step m m w w' W W μ μ where
 keeps:=hk.mono fun _ _ h=>h.elim
 hW:=fun _ _ h=>h
 wsup:=fun _ h=>.inl h
 wlt:=fun b h=>dQ (hl b h) hk.size
 old:=Old.refl μ
 wlt0:=hl
 mem:=fun x=>(hm x).goes hk (fun _ _ _ h=>h) (fun _ _ h=>h) (Old.refl μ) rfl (fun _ _ h=>h) (fun _ h=>h)
 inj:=hi
 live:=fun x k h=>.inl ⟨x,k,h,rfl⟩
theorem Step.new (hm:zai4 w W μ m) (hi:∀ x y k k',μ x=.at_ k→μ y=.at_ k'→k.b=k'.b→x=y) (hl:∀ b,W b→b < w.heap.size)
  {id:Nat} (hid:m id=.fresh) {r:Row} {us rest:List Value} {e:TypeId} (hz:0 < r.sz) (hk:Keeps (fun _=>False) w w') (hf:Flat (RepK w W μ) r.sz us r.es)
  (hh:w'.heap[w.heap.size]? = some (.cells (us++rest).toArray e (0,0))) :
  Step m (setM m [(id,.row r)]) w w' W (fun b=>W b∨b=w.heap.size) μ (fun x=>if x=id then .at_ ⟨w.heap.size,r.sz,us.length+rest.length⟩ else μ x):=by
 have hfr:μ id=.fresh:=by have:=hm id; rw [hid] at this; exact this
 have hold:Old μ (fun x=>if x=id then .at_ ⟨w.heap.size,r.sz,us.length+rest.length⟩ else μ x):=fun x hx=>by
  by_cases h:x=id
  ·subst h; exact absurd hfr hx
  ·exact .inl (by simp [h])
 have hlt:w.heap.size < w'.heap.size:=(cH.1 hh).1
 refine ⟨hk.mono fun _ _ h=>h.elim,fun b hb h=>?_,fun b h=>.inl (.inl h),hl,fun b h=>?_,hold,fun x=>?_,fun x y k k' hx hy he=>?_,fun x k hx=>?_⟩
 ·rcases h with h|h
  ·exact h
  ·omega
 ·rcases h with h|h
  ·exact dQ (hl b h) hk.size
  ·omega
 ·simp only [setM]
  by_cases h:x=id
  ·subst h
   simp only [bZ]
   exact .inr ⟨⟨w.heap.size,r.sz,us.length+rest.length⟩,by simp,.inl ⟨fun _=>.inr rfl,rfl,hz,us,rest,e,hh,rfl,hf.mono fun u a hr=>hr.goes hk (fun _ _ _ h=>h) (fun b hb h1 h2=>h2.elim h1 (by omega)) hold⟩⟩
  ·simp only [bW h]
   exact (hm x).goes hk (fun _ _ _ h=>h) (fun b hb h1 h2=>h2.elim h1 (by omega)) hold (by simp [h]) (fun _ _ h=>h) (fun _ h=>.inl h)
 ·have big:∀ z kz,μ z=.at_ kz→kz.b < w.heap.size:=fun z kz hz=>by obtain ⟨_,_,h⟩:=hm.at_ hz; exact h.lt
  try simp only at hx hy
  split at hx <;> split at hy
  ·subst_vars; rfl
  ·cases hx; have:=big _ _ hy; simp only at he; omega
  ·cases hy; have:=big _ _ hx; simp only at he; omega
  ·exact hi x y k k' hx hy he
 ·try simp only at hx
  split at hx
  ·cases hx; exact .inr (cS _)
  ·exact .inl ⟨x,k,hx,rfl⟩
theorem Step.newEmpty (hm:zai4 w W μ m) (hi:∀ x y k k',μ x=.at_ k→μ y=.at_ k'→k.b=k'.b→x=y) (hl:∀ b,W b→b < w.heap.size)
  {id:Nat} (hid:m id=.fresh) {r:Row} (hz:0 < r.sz) (he:r.es=[]) (hk:Keeps (fun _=>False) w w') :
  Step m (setM m [(id,.row r)]) w w' W W μ (fun x=>if x=id then .empty else μ x):=by
 have hfr:μ id=.fresh:=by have:=hm id; rw [hid] at this; exact this
 have hold:Old μ (fun x=>if x=id then .empty else μ x):=fun x hx=>by
  by_cases h:x=id
  ·subst h; exact absurd hfr hx
  ·exact .inl (by simp [h])
 refine ⟨hk.mono fun _ _ h=>h.elim,fun b hb h=>h,fun b h=>.inl h,hl,fun b h=>dQ (hl b h) hk.size,hold,fun x=>?_,fun x y k k' hx hy he=>?_,fun x k hx=>?_⟩
 ·simp only [setM]
  by_cases h:x=id
  ·subst h
   simp only [bZ]
   exact .inl ⟨by simp,he,hz⟩
  ·simp only [bW h]
   exact (hm x).goes hk (fun _ _ _ h=>h) (fun _ _ h=>h) hold (by simp [h]) (fun _ _ h=>h) (fun _ h=>h)
 ·try simp only at hx hy
  split at hx <;> split at hy <;> first|(cases hx; done)|(cases hy; done)|exact hi x y k k' hx hy he
 ·try simp only at hx
  split at hx
  ·cases hx
  ·exact .inl ⟨x,k,hx,rfl⟩
theorem Step.write (hm:zai4 w W μ m) (hi:∀ x y k k',μ x=.at_ k→μ y=.at_ k'→k.b=k'.b→x=y) (hl:∀ b,W b→b < w.heap.size)
  {x:Nat} {k:Blk} {r r':Row} (hx:μ x=.at_ k) (hr:m x=.row r) (hro:r.ro=false) (hsz:r'.sz=r.sz)
  {us rest:List Value} {e:TypeId} (hk:Keeps (fun b=>b=k.b) w w') (hf:Flat (RepK w W μ) r'.sz us r'.es)
  (hh:w'.heap[k.b]? = some (.cells (us++rest).toArray e (0,0))) (ht:us.length+rest.length=k.tot) (hpz:0 < r.sz:=by first|assumption|omega|exact zaH6.pos' (by assumption)) :
  Step m (setM m [(x,.row r')]) w w' W W μ μ:=by
 obtain ⟨r0,h0,hrow⟩:=hm.at_ hx
 rw [hr] at h0; cases h0
 have hWk:W k.b:=hrow.wr.1 hro
 have hD:∀ b,b < w.heap.size→¬ W b→¬ b=k.b:=fun b _ h1 h2=>h1 (h2 ▸ hWk)
 refine ⟨hk.mono fun b _ h=>h ▸ ⟨hWk,x,k,hx,rfl⟩,fun _ _ h=>h,fun _ h=>.inl h,hl,fun b h=>dQ (hl b h) hk.size,Old.refl μ,fun y=>?_,hi,fun y k' h=>.inl ⟨y,k',h,rfl⟩⟩
 simp only [setM]
 by_cases h:y=x
 ·subst h
  simp only [bZ]
  exact .inr ⟨k,hx,.inl ⟨fun _=>hWk,hrow.wr.2.trans hsz.symm,hsz ▸ hpz,us,rest,e,hh,ht,hf.mono fun u a hr=>hr.goes hk hD (fun _ _ h=>h) (Old.refl μ)⟩⟩
 ·simp only [bW h]
  exact (hm y).goes hk hD (fun _ _ h=>h) (Old.refl μ) rfl (fun k1 h1 he=>h (hi y x k1 k h1 hx he)) (fun _ h=>h)
theorem Step.newAny (hm:zai4 w W μ m) (hi:∀ x y k k',μ x=.at_ k→μ y=.at_ k'→k.b=k'.b→x=y) (hl:∀ b,W b→b < w.heap.size)
  {id:Nat} (hid:m id=.fresh) {r:Row} (hk:Keeps (fun _=>False) w w') (hlt:w.heap.size < w'.heap.size)
  (hA:zP3 w' (fun b=>W b∨b=w.heap.size) (fun x=>if x=id then .at_ ⟨w.heap.size,0,0⟩ else μ x) r ⟨w.heap.size,0,0⟩) :
  Step m (setM m [(id,.row r)]) w w' W (fun b=>W b∨b=w.heap.size) μ (fun x=>if x=id then .at_ ⟨w.heap.size,0,0⟩ else μ x):=by
 have hfr:μ id=.fresh:=by have:=hm id; rw [hid] at this; exact this
 have hold:Old μ (fun x=>if x=id then .at_ ⟨w.heap.size,0,0⟩ else μ x):=fun x hx=>by
  by_cases h:x=id
  ·subst h; exact absurd hfr hx
  ·exact .inl (by simp [h])
 refine ⟨hk.mono fun _ _ h=>h.elim,fun b hb h=>?_,fun b h=>.inl (.inl h),hl,fun b h=>?_,hold,fun x=>?_,fun x y k k' hx hy he=>?_,fun x k hx=>?_⟩
 ·rcases h with h|h
  ·exact h
  ·omega
 ·rcases h with h|h
  ·exact dQ (hl b h) hk.size
  ·omega
 ·simp only [setM]
  by_cases h:x=id
  ·subst h
   simp only [bZ]
   exact .inr ⟨⟨w.heap.size,0,0⟩,by simp,hA⟩
  ·simp only [bW h]
   exact (hm x).goes hk (fun _ _ _ h=>h) (fun b hb h1 h2=>h2.elim h1 (by omega)) hold (by simp [h]) (fun _ _ h=>h) (fun _ h=>.inl h)
 ·have big:∀ z kz,μ z=.at_ kz→kz.b < w.heap.size:=fun z kz hz=>by obtain ⟨_,_,h⟩:=hm.at_ hz; exact h.lt
  try simp only at hx hy
  split at hx <;> split at hy
  ·subst_vars; rfl
  ·cases hx; have:=big _ _ hy; simp only at he; omega
  ·cases hy; have:=big _ _ hx; simp only at he; omega
  ·exact hi x y k k' hx hy he
 ·try simp only at hx
  split at hx
  ·cases hx; exact .inr (cS _)
  ·exact .inl ⟨x,k,hx,rfl⟩
theorem Step.newMap (hm:zai4 w W μ m) (hi:∀ x y k k',μ x=.at_ k→μ y=.at_ k'→k.b=k'.b→x=y) (hl:∀ b,W b→b < w.heap.size)
  {id:Nat} (hid:m id=.fresh) {z:List A} (hk:Keeps (fun _=>False) w w') (hh:w'.heap[w.heap.size]? = some (.map #[] 0)) :
  Step m (setM m [(id,.row ⟨false,0,z,[]⟩)]) w w' W (fun b=>W b∨b=w.heap.size) μ (fun x=>if x=id then .at_ ⟨w.heap.size,0,0⟩ else μ x) :=
 Step.newAny hm hi hl hid hk (cH.1 hh).1 (.inr (.inl ⟨fun _=>.inr rfl,rfl,rfl,#[],hh,rfl,fun i e c h1 _=>by simp at h1⟩))
theorem Step.writeAny (hm:zai4 w W μ m) (hi:∀ x y k k',μ x=.at_ k→μ y=.at_ k'→k.b=k'.b→x=y) (hl:∀ b,W b→b < w.heap.size)
  {x:Nat} {k:Blk} {r r':Row} (hx:μ x=.at_ k) (hr:m x=.row r) (hro:r.ro=false) (hk:Keeps (fun b=>b=k.b) w w') (hA:zP3 w' W μ r' k) :
  Step m (setM m [(x,.row r')]) w w' W W μ μ:=by
 obtain ⟨r0,h0,hrow⟩:=hm.at_ hx
 rw [hr] at h0; cases h0
 have hWk:W k.b:=hrow.wr.1 hro
 have hD:∀ b,b < w.heap.size→¬ W b→¬ b=k.b:=fun b _ h1 h2=>h1 (h2 ▸ hWk)
 refine ⟨hk.mono fun b _ h=>h ▸ ⟨hWk,x,k,hx,rfl⟩,fun _ _ h=>h,fun _ h=>.inl h,hl,fun b h=>dQ (hl b h) hk.size,Old.refl μ,fun y=>?_,hi,fun y k' h=>.inl ⟨y,k',h,rfl⟩⟩
 simp only [setM]
 by_cases h:y=x
 ·subst h
  simp only [bZ]
  exact .inr ⟨k,hx,hA⟩
 ·simp only [bW h]
  exact (hm y).goes hk hD (fun _ _ h=>h) (Old.refl μ) rfl (fun k1 h1 he=>h (hi y x k1 k h1 hx he)) (fun _ h=>h)
theorem Step.writeMap (hm:zai4 w W μ m) (hi:∀ x y k k',μ x=.at_ k→μ y=.at_ k'→k.b=k'.b→x=y) (hl:∀ b,W b→b < w.heap.size)
  {x:Nat} {k:Blk} {r r':Row} (hx:μ x=.at_ k) (hr:m x=.row r) (hro:r.ro=false) (hsz:r.sz=0) (hsz':r'.sz=0) (hz:r'.z=r.z)
  {es:Array MapEntry} (hk:Keeps (fun b=>b=k.b) w w') (hh:w'.heap[k.b]? = some (.map es es.size)) (hn:es.size=r'.es.length)
  (he:∀ (i:Nat) (e:MapEntry) (c:List A),es[i]? = some e→r'.es[i]? = some c→zav2 w W r.z i e c) :
  Step m (setM m [(x,.row r')]) w w' W W μ μ:=by
 obtain ⟨r0,h0,hrow⟩:=hm.at_ hx
 rw [hr] at h0; cases h0
 have hWk:W k.b:=hrow.wr.1 hro
 exact Step.writeAny hm hi hl hx hr hro hk (.inr (.inl ⟨fun _=>hWk,by rw [hrow.wr.2,hsz,hsz'],hsz',es,hh,hn,fun i e c x1 x2=>by
  rw [hz]; exact (he i e c x1 x2).keep hk (fun b _ h1 h2=>h1 (h2 ▸ hWk)) (fun _ _ h=>h)⟩))
theorem Step.kill (hm:zai4 w W μ m) (hi:∀ x y k k',μ x=.at_ k→μ y=.at_ k'→k.b=k'.b→x=y) (hl:∀ b,W b→b < w.heap.size) {x:Nat} :
  Step m (setM m [(x,.dead)]) w w W W μ (fun y=>if y=x then .dead else μ y):=by
 have hold:Old μ (fun y=>if y=x then .dead else μ y):=fun y hy=>by
  by_cases h:y=x
  ·exact .inr (by simp [h])
  ·exact .inl (by simp [h])
 refine ⟨Keeps.refl _ w,fun _ _ h=>h,fun _ h=>.inl h,hl,hl,hold,fun y=>?_,fun y z k k' hy hz he=>?_,fun y k hy=>?_⟩
 ·simp only [setM]
  by_cases h:y=x
  ·simp only [bY h,zae1]
  ·simp only [bW h]
   exact (hm y).goes (Keeps.refl (fun _=>False) w) (fun _ _ _ h=>h) (fun _ _ h=>h) hold (by simp [h]) (fun _ _ h=>h) (fun _ h=>h)
 ·try simp only at hy hz
  split at hy <;> split at hz <;> first|(cases hy; done)|(cases hz; done)|exact hi y z k k' hy hz he
 ·try simp only at hy
  split at hy
  ·cases hy
  ·exact .inl ⟨y,k,hy,rfl⟩
theorem Step.moved (hm:zai4 w W μ m) (hi:∀ x y k k',μ x=.at_ k→μ y=.at_ k'→k.b=k'.b→x=y) (hl:∀ b,W b→b < w.heap.size)
  {x id:Nat} {k:Blk} {r r':Row} (hx:μ x=.at_ k) (hr:m x=.row r) (hro:r.ro=false) (hsz:r'.sz=r.sz) (hid:m id=.fresh)
  {us rest:List Value} {e:TypeId} (hk:Keeps (fun b=>b=k.b) w w') (hf:Flat (RepK w W μ) r'.sz us r'.es)
  (hh:w'.heap[k.b]? = some (.cells (us++rest).toArray e (0,0))) (ht:us.length+rest.length=k.tot) (hpz:0 < r.sz:=by first|assumption|omega|exact zaH6.pos' (by assumption)) :
  Step m (setM m [(x,.dead),(id,.row r')]) w w' W W μ (fun y=>if y=id then .at_ k else if y=x then .dead else μ y):=by
 obtain ⟨r0,h0,hrow⟩:=hm.at_ hx
 rw [hr] at h0; cases h0
 have hfr:μ id=.fresh:=by have:=hm id; rw [hid] at this; exact this
 have hne:id≠x:=fun e=>by subst e; rw [hid] at hr; cases hr
 have hWk:W k.b:=hrow.wr.1 hro
 have hD:∀ b,b < w.heap.size→¬ W b→¬ b=k.b:=fun b _ h1 h2=>h1 (h2 ▸ hWk)
 have hold:Old μ (fun y=>if y=id then .at_ k else if y=x then .dead else μ y):=fun y hy=>by
  by_cases h:y=id
  ·subst h; exact absurd hfr hy
  ·by_cases h2:y=x
   ·subst h2; exact .inr (by simp [h])
   ·exact .inl (by simp [h,h2])
 refine ⟨hk.mono fun b _ h=>h ▸ ⟨hWk,x,k,hx,rfl⟩,fun _ _ h=>h,fun _ h=>.inl h,hl,fun b h=>dQ (hl b h) hk.size,hold,fun y=>?_,fun y z k1 k2 hy hz he=>?_,fun y k1 hy=>?_⟩
 ·simp only [setM]
  by_cases h:y=id
  ·subst h
   simp only [bZ]
   exact .inr ⟨k,by simp,.inl ⟨fun _=>hWk,hrow.wr.2.trans hsz.symm,hsz ▸ hpz,us,rest,e,hh,ht,hf.mono fun u a hr=>hr.goes hk hD (fun _ _ h=>h) hold⟩⟩
  ·simp only [bW h]
   by_cases h2:y=x
   ·simp only [bY h2,zae1,bW h]
   ·simp only [bW h2]
    exact (hm y).goes hk hD (fun _ _ h=>h) hold (by simp [h,h2]) (fun k1 h1 he=>h2 (hi y x k1 k h1 hx he)) (fun _ h=>h)
 ·try simp only at hy hz
  have ex:∀ y' k',¬ y'=x→μ y'=.at_ k'→k'.b≠k.b:=fun y' k' hn h1 h2=>hn (hi y' x k' k h1 hx h2)
  split at hy <;> split at hz
  ·subst_vars; rfl
  ·cases hy
   split at hz
   ·cases hz
   ·rename_i hn; exact absurd he.symm (ex _ _ hn hz)
  ·cases hz
   split at hy
   ·cases hy
   ·rename_i hn; exact absurd he (ex _ _ hn hy)
  ·split at hy
   ·cases hy
   ·split at hz
    ·cases hz
    ·exact hi y z k1 k2 hy hz he
 ·try simp only at hy
  split at hy
  ·cases hy; exact .inl ⟨x,k,hx,rfl⟩
  ·split at hy
   ·cases hy
   ·exact .inl ⟨y,k1,hy,rfl⟩
theorem Step.trans {w'':World} {W'':Nat→Prop} {μ'':Nat→Loc} {m' m'':Nat→MS} (h:Step m m' w w' W W' μ μ') (k:Step m' m'' w' w'' W' W'' μ' μ''):Step m m'' w w'' W W'' μ μ'' where
 keeps:=h.keeps.trans k.keeps (fun x hx hh=>by
  obtain ⟨h1,y,kk,hy,rfl⟩:=hh
  rcases h.live y kk hy with ⟨z,kz,hz,he⟩|h2
  ·exact ⟨h.hW _ hx h1,z,kz,hz,he⟩
  ·omega)
 hW:=fun b hb h1=>h.hW b hb (k.hW b (dQ hb h.keeps.size) h1)
 wsup:=fun b hb=>by
  rcases h.wsup b hb with h1|h1
  ·rcases k.wsup b h1 with h2|⟨y,kk,hy,rfl⟩
   ·exact .inl h2
   ·rcases h.live y kk hy with ⟨z,kz,hz,he⟩|h3
    ·exact .inr ⟨z,kz,hz,he⟩
    ·have:=h.wlt0 _ hb; omega
  ·exact .inr h1
 wlt0:=h.wlt0
 wlt:=k.wlt
 old:=fun x hx=>by
  rcases h.old x hx with e|e
  ·rcases k.old x (e ▸ hx) with e2|e2
   ·exact .inl (e2.trans e)
   ·exact .inr e2
  ·rcases k.old x (by rw [e]; simp) with e2|e2
   ·exact .inr (e2.trans e)
   ·exact .inr e2
 mem:=k.mem
 inj:=k.inj
 live:=fun x kk hx=>by
  rcases k.live x kk hx with ⟨y,ky,hy,he⟩|h1
  ·rcases h.live y ky hy with ⟨z,kz,hz,he2⟩|h2
   ·exact .inl ⟨z,kz,hz,he2.trans he⟩
   ·exact .inr (he ▸ h2)
  ·have:=h.keeps.size; exact .inr (by omega)
end
def zaY3:Value→A→Bool
 | .bool b,.bool c=>b == c
 | .int k n,.int k' n'=>k == k'&&n == n'
 | .string s,.str t=>s.data.toList == t.data.toList
 | .slice none 0 0,.full []=>true
 | .slice none 0 0,.sl []=>true
 | _,_=>false
def zV7:List Value→List A→Bool
 | [],[]=>true
 | v :: vs,a :: as=>zaY3 v a&&zV7 vs as
 | _,_=>false
def zbG1:Value→A→Bool
 | .agg vs,.agg as=>zV7 vs.toList as
 | v,a=>zaY3 v a
def chkX:Operand→PX→Bool
 | .tmp t,.t n=>t == n
 | .const _,.c .any=>true
 | .const v,.c a=>zbG1 v a
 | .global g,.g g'=>g == g'
 | .func f,.f f'=>f == f'
 | _,_=>false
def glob (G:zbg7) (g:Nat):Option (List A) :=
 match G with
 | []=>none
 | q :: r=>if q.1=g then some q.2 else glob r g
def xv (G:zbg7) (fr:Nat→A):PX→A
 | .t n=>fr n
 | .c a=>a
 | .g g=>match glob G g with
  | some cs=>.rd cs 0
  | none=>.any
 | .f f=>.clo f []
def A.nc:A→A
 | .cnd _ a=>a
 | a=>a
def A.gd:A→Bool
 | .cnd g _=>g
 | _=>true
section
variable {w:World} {W:Nat→Prop} {μ:Nat→Loc}
theorem zbn8 {v:Value} {a:A} (h:zaY3 v a=true):RepC w W v a:=by
 unfold zaY3 at h
 split at h
 ·simp at h; subst h; exact .bool _
 ·simp at h; obtain ⟨rfl,rfl⟩:=h; exact .int _ _
 ·rename_i s t
  simp at h
  have:s=t:=by cases s; cases t; simp only [ByteArray.mk.injEq]; exact Array.toList_inj.1 (by simpa using h)
  subst this; exact .str _
 ·exact .full _ _ _ (.sl0 _ _)
 ·exact .sl0 _ _
 ·cases h
theorem zo3 {v:Value} {a:A} (h:RepC w W v a):RepK w W μ v a:=by
 cases h with
 | bool b=>exact .bool b
 | int k n=>exact .int k n
 | str s=>exact .str s
 | fn f=>exact ⟨[],rfl,rfl,fun i u a h=>by simp at h⟩
 | sl0 a cap=>exact .sl0 a cap
 | sl b off cap sz es us hb hlt hn hcap hsz hlen hc hr=>exact .sl b off cap sz es us hb hlt hn hcap hsz hlen hc hr
 | full a n es h=>exact .full a n es h
 | bnd f us cs hl hr=>exact .bnd f us cs hl hr
theorem zl8 {v:Value} {a:A} (h:RepK w W μ v a):RepV w W μ v a:=by
 cases a with
 | agg cs=>exact (by cases (show RepC w W v (.agg cs) from h))
 | _=>exact h
theorem zm5 {v:Value} {a:A} (h:RepV w W μ v a):Rep w W μ v a:=by
 cases a with
 | any=>trivial
 | tup cs=>exact (by cases (show RepC w W v (.tup cs) from h))
 | cnd g a=>exact (by cases (show RepC w W v (.cnd g a) from h))
 | _=>exact h
theorem zD5 {v:Value} {a:A} (h:RepC w W v a):Rep w W μ v a:=zm5 (zl8 (zo3 h))
theorem zX4:∀ {vs:List Value} {as:List A},zV7 vs as=true→vs.length=as.length∧∀ (i:Nat) (u:Value) (a:A),vs[i]? = some u→as[i]? = some a→RepC w W u a
 | [],[],_=>⟨rfl,by simp⟩
 | v :: vs,a :: as,h=>by
  simp only [zV7,bS] at h
  obtain ⟨h1,h2⟩:=zX4 h.2
  refine ⟨by simp [h1],fun i u b hu hb=>?_⟩
  cases i with
  | zero=>simp at hu hb; subst hu; subst hb; exact zbn8 h.1
  | succ i=>simp at hu hb; exact h2 i u b hu hb
 | [],_ :: _,h=>by simp [zV7] at h
 | _ :: _,[],h=>by simp [zV7] at h
theorem zbX0 {v:Value} {a:A} (h:zbG1 v a=true):RepV w W μ v a:=by
 unfold zbG1 at h
 split at h
 ·rename_i vs as
  obtain ⟨h1,h2⟩:=zX4 (w:=w) (W:=W) h
  exact ⟨vs.toList,by simp,h1,fun i u a hu ha=>zo3 (h2 i u a hu ha)⟩
 ·exact zl8 (zo3 (zbn8 h))
theorem zct4 {G:zbg7} {g:Nat} {cs:List A} (h:glob G g=some cs):(g,cs) ∈ G:=by
 induction G with
 | nil=>simp [glob] at h
 | cons q r ih =>
  unfold glob at h
  split at h
  ·rename_i hg; subst hg; simp at h; subst h; simp
  ·exact List.mem_cons_of_mem _ (ih h)
theorem zbn9 {E:Env} {s:S} {a:Act} (hs:SatW E s a w W μ) {x:Operand} {px:PX} (h:chkX x px=true):Rep w W μ (a.eval x) (xv E.G s.fr px):=by
 unfold chkX at h
 split at h
 ·simp at h; subst h; exact hs.fr _
 ·trivial
 ·exact zm5 (zbX0 h)
 ·rename_i g g'
  simp at h; subst h
  simp only [xv]
  split
  ·rename_i cs hg
   obtain ⟨h1,h2,h3⟩:=hs.glob g cs (zct4 hg)
   exact ⟨g,0,rfl,h1,h2,fun j a hj=>by simpa using h3 j a hj⟩
  ·trivial
 ·simp at h; subst h; exact ⟨[],rfl,rfl,by simp⟩
 ·cases h
theorem zbG2 {v:Value} {a:A} (h:Rep w W μ v a) (hg:a.gd=true):Rep w W μ v a.nc:=by
 cases a with
 | cnd g a=>exact zm5 (h.1 hg)
 | _=>exact h
theorem Rep.toV {v:Value} {a:A} (h:Rep w W μ v a) (ha:a.isV=true):RepV w W μ v a:=by
 cases a <;> first|exact h|(simp [A.isV] at ha)
theorem RepV.toCells {v:Value} {a:A} (h:RepV w W μ v a) (ha:a.isV=true) :
  ∃ us:List Value,v.cells=us.toArray∧us.length=a.cells.length∧(∀ (i:Nat) (u:Value) (b:A),us[i]? = some u→a.cells[i]? = some b→RepK w W μ u b):=by
 have one:RepK w W μ v a→a.cells=[a]→∃ us:List Value,v.cells=us.toArray∧us.length=a.cells.length∧(∀ (i:Nat) (u:Value) (b:A),us[i]? = some u→a.cells[i]? = some b→RepK w W μ u b):=fun hk hc=>by
  have h1:=hk.oneCell
  refine ⟨[v],?_,by simp [hc],fun i u b hu hb=>?_⟩
  ·cases v <;> first|rfl|(simp [Value.oneCell'] at h1)
  ·rw [hc] at hb
   cases i with
   | zero=>simp at hu hb; subst hu; subst hb; exact hk
   | succ i=>simp at hu
 cases a with
 | agg cs=>obtain ⟨vs,rfl,hl,hr⟩:=h; exact ⟨vs,rfl,hl,hr⟩
 | tup cs=>simp [A.isV] at ha
 | cnd g a=>simp [A.isV] at ha
 | any=>simp [A.isV] at ha
 | rd cs o=>simp [A.isV] at ha
 | _=>exact one h rfl
theorem Rep.toCells {v:Value} {a:A} (h:Rep w W μ v a) (ha:a.isV=true) :
  ∃ us:List Value,v.cells=us.toArray∧us.length=a.cells.length∧(∀ (i:Nat) (u:Value) (b:A),us[i]? = some u→a.cells[i]? = some b→RepK w W μ u b):=(h.toV ha).toCells ha
theorem Rep.bool {v:Value} {b:Bool} (h:Rep w W μ v (.bool b)):v=.bool b:=by
 have:RepC w W v (.bool b):=h
 cases this; rfl
theorem Rep.int {v:Value} {k:IntKind} {n:Int} (h:Rep w W μ v (.int k n)):v=.int k n:=by
 have:RepC w W v (.int k n):=h
 cases this; rfl
theorem Rep.str {v:Value} {s:ByteArray} (h:Rep w W μ v (.str s)):v=.string s:=by
 have:RepC w W v (.str s):=h
 cases this; rfl
theorem RepC.bnd_val {v:Value} {f:FuncId} {cs:List A} (h:RepC w W v (.bnd f cs)):∃ us:List Value,v=.func (.func f) #[.agg us.toArray] #[]∧us.length=cs.length∧∀ (i:Nat) (u:Value) (c:A),us[i]? = some u→cs[i]? = some c→RepC w W u c:=by
 cases h with
 | bnd f us cs hl hr=>exact ⟨us,rfl,hl,hr⟩
theorem RepK.toC {v:Value} {a:A} (h:RepK w W μ v a) (hp:a.pure1=true):RepC w W v a:=by
 cases a with
 | clo f cs =>
  cases cs with
  | nil =>
   obtain ⟨vs,rfl,hl,_⟩:=h
   have:vs=[]:=cO hl
   subst this
   exact .fn f
  | cons c cs=>simp [A.pure1] at hp
 | bool b=>exact h
 | int k n=>exact h
 | str s=>exact h
 | sl es=>exact h
 | full es=>exact h
 | bnd f cs=>exact h
 | _=>simp [A.pure1] at hp
theorem RepC.open_sl {v:Value} {es:List (List A)} (h:RepC w W v (.sl es)) :
  (es=[]∧∃ a cap,v=.slice a 0 cap) ∨
  ∃ b off cap sz us,v=.slice (some ⟨b,off,none⟩) es.length cap∧¬ W b∧b < w.heap.size∧0 < es.length∧es.length≤cap∧Flat (RepC w W) sz us es ∧
   (∀ (q:Nat) (u:Value),us[q]? = some u→w.cell? ⟨b,off+q,none⟩=some u):=by
 cases h with
 | sl0 a cap=>exact .inl ⟨rfl,a,cap,rfl⟩
 | sl b off cap sz es us hb hlt hn hcap hsz hlen hc hr =>
  refine .inr ⟨b,off,cap,sz,us,rfl,hb,hlt,hn,hcap,⟨hlen,hsz,fun i c j a h1 h2=>?_⟩,hc⟩
  have hi:=(cC.1 h1).1
  have hj:=(cC.1 h2).1
  rw [hsz i c h1] at hj
  have hq:i * sz+j < us.length:=by
   rw [hlen]
   have:(i+1) * sz≤es.length * sz:=dC _ hi
   rw [dN] at this; omega
  refine ⟨us.getD (i * sz+j) undef,?_,hr i c j a h1 h2⟩
  simp [hq]
theorem RepC.mk_sl {b off cap sz:Nat} {es:List (List A)} {us:List Value} (hb:¬ W b) (hlt:b < w.heap.size) (hcap:es.length≤cap) (hf:Flat (RepC w W) sz us es)
  (hc:∀ (q:Nat) (u:Value),us[q]? = some u→w.cell? ⟨b,off+q,none⟩=some u):RepC w W (.slice (some ⟨b,off,none⟩) es.length cap) (.sl es):=by
 by_cases hn:es=[]
 ·subst hn; exact .sl0 _ _
 ·refine .sl b off cap sz es us hb hlt (fR.2 hn) hcap hf.hs hf.hl hc fun i c j a h1 h2=>?_
  obtain ⟨u,hu,hr⟩:=hf.ha i c j a h1 h2
  simpa [hu] using hr
theorem RepC.of_full {v:Value} {es:List (List A)} (h:RepC w W v (.full es)):RepC w W v (.sl es)∧∃ a,v=.slice a es.length es.length:=by
 cases h with
 | full a n es h =>
  refine ⟨h,?_⟩
  rcases h.open_sl with ⟨rfl,a',cap,hv⟩|⟨b,off,cap,sz,us,hv,_⟩
  ·cases hv; exact ⟨_,rfl⟩
  ·cases hv; exact ⟨_,rfl⟩
end
def zm2 (P:Program) (o:Oper) (a:Act) (w:World) (W:Nat→Prop) (μ:Nat→Loc) (m:Nat→MS) (av:A) (m':Nat→MS):Prop :=
  ∃ r v w' W' μ',(execOp a.eval o).run P w=.ok r w'∧(r=.value v∨r=.skip∧v=undef)∧Rep w' W' μ' v av∧Step m m' w w' W W' μ μ'
theorem SatW.refl {E:Env} {s:S} {a:Act} {w:World} {W:Nat→Prop} {μ:Nat→Loc} (hs:SatW E s a w W μ):Step s.mem s.mem w w W W μ μ :=
  Step.quiet (Keeps.refl _ w) hs.mem hs.inj hs.wlt
section
variable {P:Program} {o:Oper} {a:Act} {E:Env} {s:S} {w:World} {W:Nat→Prop} {μ:Nat→Loc}
theorem SatW.still (hs:SatW E s a w W μ) {v:Value} {av:A} (hr:(execOp a.eval o).run P w=.ok (.value v) w) (hv:Rep w W μ v av):zm2 P o a w W μ s.mem av s.mem :=
  ⟨_,v,w,W,μ,hr,.inl rfl,hv,hs.refl⟩
theorem zct5 (hs:SatW E s a w W μ) {x:Operand} {av:A} (ho:o.op=.move x∨o.op=.assign x) (hx:Rep w W μ (a.eval x) av):zm2 P o a w W μ s.mem av s.mem:=by
  refine hs.still (v:=a.eval x) ?_ hx
  rcases ho with ho|ho <;> simp [execOp,ho]
theorem zcP6 (hs:SatW E s a w W μ) {c x y:Operand} {b p q:Bool} (ho:o.op=.pick c x y) (hc:Rep w W μ (a.eval c) (.bool b)) (hx:b=true→Rep w W μ (a.eval x) (.bool p)) (hy:b=false→Rep w W μ (a.eval y) (.bool q)) :
    zm2 P o a w W μ s.mem (.bool (cond b p q)) s.mem:=by
  refine hs.still (v:=.bool (cond b p q)) ?_ (zD5 (.bool _))
  cases b
  · simp [execOp,ho,hc.bool,asBool,(hy rfl).bool]
  · simp [execOp,ho,hc.bool,asBool,(hx rfl).bool]
theorem zcV5 (hs:SatW E s a w W μ) {t:TypeId} {x:Operand} {b:Bool} (ho:o.op=.unOp .not t x) (hx:Rep w W μ (a.eval x) (.bool b)):zm2 P o a w W μ s.mem (.bool (!b)) s.mem:=by
  refine hs.still (v:=.bool (!b)) ?_ (zD5 (.bool _))
  simp [execOp,ho,hx.bool,Op.unary]
theorem zcV6 (hs:SatW E s a w W μ) {t:TypeId} {x:Operand} {k:IntKind} {n:Int} (ho:o.op=.unOp .neg t x) (hx:Rep w W μ (a.eval x) (.int k n)):zm2 P o a w W μ s.mem (.int k (k.wrap (0 - n))) s.mem:=by
  refine hs.still (v:=.int k (k.wrap (0 - n))) ?_ (zD5 (.int _ _))
  simp [execOp,ho,hx.int,Op.unary,Op.intArith]
theorem zcV7 (hs:SatW E s a w W μ) {op:BinOp} {t t2:TypeId} {x y:Operand} {ax ay av:A} {obl:Prop} (ho:o.op=.binOp op t x y t2) (hx:Rep w W μ (a.eval x) ax) (hy:Rep w W μ (a.eval y) ay)
    (he:zbB1 op ax ay=some (obl,av)) (hobl:obl):zm2 P o a w W μ s.mem av s.mem:=by
  have fin:∀ v,(binOp op t (a.eval x) (a.eval y)).run P w=.ok v w→(∀ i j,eqGuard op t i j (a.eval x) (a.eval y)=pure ())→RepC w W v av→zm2 P o a w W μ s.mem av s.mem:=fun v h1 h2 h3 =>
    hs.still (v:=v) (by simp [execOp,ho,h2,h1]) (zD5 h3)
  cases ax <;> cases ay <;> try (simp [zbB1] at he; done)
  · rename_i k n k' n'
    rw [hx.int,hy.int] at fin
    have hg:∀ i j,eqGuard op t i j (Value.int k n) (Value.int k' n')=pure ():=by intro i j; cases op <;> rfl
    cases op <;> simp only [zbB1] at he <;>
      first
        | (cases he
           refine fin _ ?_ hg (.int _ _)
           simp [binOp,Op.shift,show ¬ n' < 0 by omega]; done)
        | (split at he
           · rename_i hk
             subst hk
             first
               | (cases he
                  refine fin _ ?_ hg (.int _ _)
                  first
                    | (simp [binOp,Op.intArith]; done)
                    | (simp [binOp,Op.intDiv,hobl]; done)
                    | (simp [binOp,Op.intBits,zal5]; done))
               | (cases he
                  refine fin _ ?_ hg (.bool _)
                  first
                    | (simp only [binOp,Op.intCmp,ne_eq,jK,cA,Sem.run_pure,gt_iff_lt,ge_iff_le]; done)
                    | (simp only [binOp,Op.intCmp,ne_eq,jK,cA,Sem.run_pure]; exact cW (fun b=>Result.ok (Value.bool b) w) (by rw [dP]; simp)))
               | (simp at he; done)
           · cases he)
  · rename_i sa sb
    rw [hx.str,hy.str] at fin
    have hg:∀ i j,eqGuard op t i j (Value.string sa) (Value.string sb)=pure ():=by intro i j; cases op <;> rfl
    cases op <;> simp only [zbB1] at he <;>
      first
        | (cases he; done)
        | (cases he
           refine fin _ ?_ hg (by first|exact .str _|exact .bool _)
           first
             | (simp [binOp,Op.stringOp]; done)
             | (have:¬ IntKind.i64.max < ((sa.size+sb.size:Nat):Int):=by omega
                simp only [binOp,Op.stringOp]
                rw [bW (by omega)]; rfl))
theorem zcV8 (hs:SatW E s a w W μ) {x:Operand} {i:Nat} {vs:List A} (ho:o.op=.extract x i) (hx:Rep w W μ (a.eval x) (.tup vs)) (hi:i < vs.length):zm2 P o a w W μ s.mem (vs.getD i .any) s.mem:=by
  obtain ⟨us,hv,hl,hr⟩:=hx
  have hi':i < us.length:=by omega
  refine hs.still (v:=us[i]) ?_ (zm5 (hr i _ _ (by simp [hi']) (by simp [hi])))
  simp [execOp,ho,hv,Instr.extract,hi']
theorem zcP7 (hs:SatW E s a w W μ) {x:Operand} {t:TypeId} {ats:Array TypeId} {b:ByteArray} (ho:o.op=.call { callee:=.builtin .len,args:=#[x],argTypes:=ats }) (hat:ats[0]? = some t)
    (ht:P.underlying t=some .string) (hx:Rep w W μ (a.eval x) (.str b)):zm2 P o a w W μ s.mem (.int .i64 b.size) s.mem:=by
  refine hs.still (v:=goInt b.size) ?_ (zD5 (.int _ _))
  have h1:(Builtin.len_ ats o.type #[a.eval x]).run P w=.ok (goInt b.size) w:=by simp [Builtin.len_,hat,hx.str,run_underlying ht]
  simp [execOp,ho,resolve,invoke,builtin,h1]
theorem zcV9 {id:Nat} (hs:SatW E s a w W μ) {x:Operand} {t:TypeId} {ats:Array TypeId} {av:A} {ef:Ef} (ho:o.op=.call { callee:=.builtin .len,args:=#[x],argTypes:=ats }) (hat:ats[0]? = some t)
    (hsl:∃ e,P.underlying t=some (.slice e)) (hx:Rep w W μ (a.eval x) av) (he:ev id s.mem .len [av]=some ef):zm2 P o a w W μ s.mem ef.v s.mem:=by
  have fin:∀ n:Nat,(Builtin.len_ ats o.type #[a.eval x]).run P w=.ok (goInt n) w→ef.v=.int .i64 n→zm2 P o a w W μ s.mem ef.v s.mem:=fun n h1 h2=>by
    rw [h2]
    refine hs.still (v:=goInt n) ?_ (zD5 (.int _ _))
    simp [execOp,ho,resolve,invoke,builtin,h1]
  have slc:∀ a' n c,a.eval x=.slice a' n c→(Builtin.len_ ats o.type #[a.eval x]).run P w=.ok (goInt n) w:=by
    intro a' n c hv
    obtain ⟨e,he⟩:=hsl
    simp [Builtin.len_,hat,hv,run_underlying he]
  cases av <;> simp only [ev] at he <;> try (cases he; done)
  · rename_i es
    cases he
    have hx':RepC w W (a.eval x) (.sl es):=hx
    rcases hx'.open_sl with ⟨rfl,a',cap,hv⟩|⟨b,off,cap,sz,us,hv,_⟩
    · exact fin 0 (slc _ _ _ hv) rfl
    · exact fin es.length (slc _ _ _ hv) rfl
  · rename_i es
    cases he
    have hx':RepC w W (a.eval x) (.full es):=hx
    obtain ⟨_,a',hv⟩:=hx'.of_full
    exact fin es.length (slc _ _ _ hv) rfl
  · rename_i y lo n
    split at he
    · rename_i r hr
      cases he
      refine fin n ?_ rfl
      obtain ⟨h1,h2⟩:RepK w W μ (a.eval x) (.own y lo n):=hx
      have hm:=hs.mem y
      rw [hr] at hm
      rcases hm with ⟨h3,_⟩|⟨k,h3,_⟩
      · rw [h3] at h2
        obtain ⟨rfl,a',hv⟩:=h2
        exact slc _ _ _ hv
      · rw [h3] at h2
        rcases h2 with ⟨_,⟨rfl,a',hv⟩|⟨cap,hv,_⟩⟩
        · exact slc _ _ _ hv
        · exact slc _ _ _ hv
    · cases he
end
def aggD:TypeDesc→Bool
 | .struct _|.array _ _=>true
 | _=>false
def tyOk (P:Program) (T:TypeId) (ag:Bool) (n:Nat):Bool :=
 (match P.underlying T with|some d=>aggD d == ag|none=>false)&&(match P.info? T with|some i=>i.size == n|none=>false)&&(ag||n == 1)
section
variable {P:Program} {o:Oper} {a:Act} {E:Env} {s:S} {w:World} {W:Nat→Prop} {μ:Nat→Loc}
theorem zag6 {T:TypeId} {d:TypeDesc} (h:P.underlying T=some d) (w:World):(isAgg T).run P w=.ok (aggD d) w:=by
 unfold isAgg
 simp only [Sem.run_bind,run_underlying h,Result.andThen_ok]
 cases d <;> rfl
theorem zJ0 {T:TypeId} {i:TypeInfo} (h:P.info? T=some i) (w:World):(sizeOf T).run P w=.ok i.size w:=by
 simp [sizeOf,typeInfo,h]
theorem zbN2 {T:TypeId} {ag:Bool} {n:Nat} (hT:tyOk P T ag n=true) {b q:Nat} {vs:List Value} (hl:vs.length=n) (hc:∀ (i:Nat) (u:Value),vs[i]? = some u→w.cell? ⟨b,q+i,none⟩=some u) :
  (Instr.loadAt T (.pointer (some ⟨b,q,none⟩))).run P w=.ok (if ag then .agg vs.toArray else vs.headD undef) w:=by
 unfold tyOk at hT
 simp only [bS] at hT
 obtain ⟨⟨h1,h2⟩,h3⟩:=hT
 cases hu:P.underlying T with
 | none=>simp [hu] at h1
 | some d =>
  cases hi:P.info? T with
  | none=>simp [hi] at h2
  | some i =>
   simp [hu] at h1
   simp [hi] at h2
   subst h2
   have hcs:∀ (j:Nat) (v:Value),vs[j]? = some v→w.cell? ((⟨b,q,none⟩:Addr).add j)=some v:=fun j v hj=>by
    rw [Addr.add_lit]; exact hc j v hj
   cases ag with
   | true =>
    have:=run_loadCells_list (P:=P) w ⟨b,q,none⟩ vs hcs
    rw [hl] at this
    simp [Instr.loadAt,Instr.sureAddr,loadVar,zag6 hu,h1,zJ0 hi,this]
   | false =>
    simp at h3
    match vs,hl with
    | [v],_ =>
     have:=hc 0 v rfl
     simp [Instr.loadAt,Instr.sureAddr,loadVar,zag6 hu,h1]
     rw [Nat.add_zero] at this
     simp [this]
    | [],h=>simp [h3] at h
    | _ :: _ :: _,h=>simp [h3] at h
theorem zaL1 {ag:Bool} {n:Nat} {vs:List Value} {cs:List A} (hn:ag=false→n=1) (hl:vs.length=n) (hc:cs.length=n) (hr:∀ (i:Nat) (u:Value) (b:A),vs[i]? = some u→cs[i]? = some b→RepK w W μ u b) :
  Rep w W μ (if ag then .agg vs.toArray else vs.headD undef) (zab4 ag cs):=by
 cases ag with
 | true=>exact ⟨vs,rfl,by omega,hr⟩
 | false =>
  have h1:=hn rfl
  subst h1
  match vs,cs,hl,hc with
  | [v],[c],_,_=>exact zm5 (zl8 (hr 0 v c rfl rfl))
theorem zbo0 {T:TypeId} {ag:Bool} {n:Nat} (h:tyOk P T ag n=true):ag=false→n=1:=by
 intro ha
 unfold tyOk at h
 simp only [bS] at h
 simpa [ha] using h.2
theorem zaF2 {cs:List A} {off n:Nat} (h:off+n≤cs.length):(sub cs off n).length=n:=by
 simp [sub]; omega
theorem getElem?_sub (cs:List A) (off n i:Nat):(sub cs off n)[i]? = if i < n then cs[off+i]? else none:=by
 simp only [sub,dH,dR]
theorem SatW.ptr (hs:SatW E s a w W μ) {v:Value} {y i j:Nat} {r:Row} (hx:Rep w W μ v (.ptr y i j)) (hr:s.mem y=.row r) :
  ∃ k,μ y=.at_ k∧v=.pointer (some ⟨k.b,i * k.sz+j,none⟩)∧zaH6 w W μ r k:=by
 obtain ⟨_,hk⟩:RepK w W μ v (.ptr y i j):=hx
 have hm:=hs.mem y
 rw [hr] at hm
 rcases hm with ⟨h3,_⟩|⟨k,h3,h4⟩
 ·rw [h3] at hk; exact hk.elim
 ·rw [h3] at hk; exact ⟨k,h3,hk.2,h4.ok hk.1⟩
theorem zaH6.pos {r:Row} {k:Blk} (h:zaH6 w W μ r k):0 < k.sz:=by have h1:=h.2.1; have h2:=h.2.2.1; omega
theorem zaY4 {y:Nat} {k:Blk} (h:μ y=.at_ k) (hz:0 < k.sz) (i j:Nat):Rep w W μ (.pointer (some ⟨k.b,i * k.sz+j,none⟩)) (.ptr y i j):=by
 refine (show RepK w W μ _ (.ptr y i j) from ⟨rfl,?_⟩)
 rw [h]
 exact ⟨hz,rfl⟩
theorem SatW.own (hs:SatW E s a w W μ) {v:Value} {y lo n:Nat} {r:Row} (hx:Rep w W μ v (.own y lo n)) (hr:s.mem y=.row r) :
  (n=0∧∃ a,v=.slice a 0 0)∨∃ k cap,μ y=.at_ k∧v=.slice (some ⟨k.b,lo * k.sz,none⟩) n cap∧(lo+cap) * k.sz≤k.tot∧n≤cap∧lo+cap≤maxLen∧zaH6 w W μ r k:=by
 obtain ⟨_,hk⟩:RepK w W μ v (.own y lo n):=hx
 have hm:=hs.mem y
 rw [hr] at hm
 rcases hm with ⟨h3,_⟩|⟨k,h3,h4⟩
 ·rw [h3] at hk; exact .inl hk
 ·rw [h3] at hk
  rcases hk with ⟨hz,hk|⟨cap,h5,h6,h7,h8⟩⟩
  ·exact .inl hk
  ·exact .inr ⟨k,cap,h3,h5,h6,h7,h8,h4.ok hz⟩
theorem SatW.posO (hs:SatW E s a w W μ) {v:Value} {y lo n:Nat} {r:Row} (hx:Rep w W μ v (.own y lo n)) (hr:s.mem y=.row r):0 < r.sz:=by
 obtain ⟨_,hk⟩:RepK w W μ v (.own y lo n):=hx
 have hm:=hs.mem y
 rw [hr] at hm
 rcases hm with ⟨_,_,h3⟩|⟨k,h3,h4⟩
 ·exact h3
 ·rw [h3] at hk; have h5:=hk.1; have h6:=h4.wr.2; omega
theorem zbN3 {id:Nat} (hs:SatW E s a w W μ) {vx:Value} {T:TypeId} {ag:Bool} {n:Nat} {av:A} {ef:Ef} (hT:tyOk P T ag n=true) (hx:Rep w W μ vx av)
  (he:ev id s.mem (.load n ag) [av]=some ef) (hobl:ef.obl):∃ b q u,vx=.pointer (some ⟨b,q,none⟩)∧(loadVar T ⟨b,q,none⟩).run P w=.ok u w∧Rep w W μ u ef.v:=by
 have fin:∀ (b q:Nat) (vs:List Value) (cs:List A),vx=.pointer (some ⟨b,q,none⟩)→vs.length=n→cs.length=n→(∀ (i:Nat) (u:Value),vs[i]? = some u→w.cell? ⟨b,q+i,none⟩=some u) →
   (∀ (i:Nat) (u:Value) (b:A),vs[i]? = some u→cs[i]? = some b→RepK w W μ u b)→ef.v=zab4 ag cs→∃ b q u,vx=.pointer (some ⟨b,q,none⟩)∧(loadVar T ⟨b,q,none⟩).run P w=.ok u w∧Rep w W μ u ef.v:=fun b q vs cs h1 h2 h3 h4 h5 h6=>by
  rw [h6]
  exact ⟨b,q,if ag then .agg vs.toArray else vs.headD undef,h1,zbN2 hT h2 h4,zaL1 (zbo0 hT) h2 h3 h5⟩
 cases av <;> simp only [ev] at he <;> try (cases he; done)
 ·rename_i y i j
  split at he
  ·rename_i r hr
   cases he
   obtain ⟨h1,h2⟩:=hobl
   have hk:RepK w W μ (vx) (.ptr y i j):=hx
   obtain ⟨k,h3,hk,_,h5,h6,us,rest,e,h7,h8,hf⟩:=hs.ptr hx hr
   ·have hc:r.es[i]? = some (r.es.getD i r.z):=by simp [h1]
    have hlen:=hf.hs i _ hc
    have hsp:=hf.split hc
    refine fin k.b (i * k.sz+j) ((((us.drop (i * r.sz)).take r.sz).drop j).take n) _ hk ?_ (zaF2 (by omega)) ?_ ?_ rfl
    ·have:=hsp.hl
     simp only [dL,fK] at this ⊢
     simp at this; omega
    ·intro q u hq
     rw [dH] at hq
     split at hq
     ·rename_i hqn
      rw [dR,dH] at hq
      split at hq
      ·rw [dR] at hq
       simp only [World.cell?,h7,h5]
       have:i * r.sz+j+q=i * r.sz+(j+q):=by omega
       simp only [this,Option.isSome_none,bT,cA,fA]
       rw [dE (cC.1 hq).1,hq]
      ·cases hq
     ·cases hq
    ·intro q u b hq hb
     rw [getElem?_sub] at hb
     split at hb
     ·rename_i hqn
      rw [dH,bY hqn,dR] at hq
      obtain ⟨u',hu',hr'⟩:=hsp.ha 0 _ (j+q) b rfl hb
      simp only [jE,dJ] at hu'
      rw [hq] at hu'
      cases hu'
      exact hr'
     ·cases hb
  ·cases he
 ·rename_i cs off
  cases he
  obtain ⟨b,q,hv,hb,hlt,hc⟩:RepK w W μ (vx) (.rd cs off):=hx
  have hlen:off+n≤cs.length:=hobl
  have:∃ vs:List Value,vs.length=n∧∀ i,i < n→∃ c,cs[off+i]? = some c∧w.cell? ⟨b,q+(off+i),none⟩=some (vs.getD i undef)∧RepC w W (vs.getD i undef) c:=by
   refine ⟨(List.range n).map fun i=>(w.cell? ⟨b,q+(off+i),none⟩).getD undef,by simp,fun i hi=>?_⟩
   have hlt:off+i < cs.length:=by omega
   obtain ⟨u,hu,hr⟩:=hc (off+i) cs[off+i] (by simp [hlt])
   refine ⟨cs[off+i],by simp [hlt],?_,?_⟩
   ·simp [hi,hu]
   ·simpa [hi,hu] using hr
  obtain ⟨vs,hl,hvs⟩:=this
  refine fin b (q+off) vs _ hv hl (zaF2 hlen) ?_ ?_ rfl
  ·intro i u hi
   obtain ⟨c,_,h2,_⟩:=hvs i (by have:=(cC.1 hi).1; omega)
   rw [fN,h2]
   simp [hi]
  ·intro i u c hi hc
   obtain ⟨c',h1,_,h3⟩:=hvs i (by have:=(cC.1 hi).1; omega)
   rw [getElem?_sub] at hc
   split at hc
   ·rw [h1] at hc; cases hc
    simp [hi] at h3
    exact zo3 h3
   ·cases hc
theorem zcP8 {id:Nat} (hs:SatW E s a w W μ) {x:Operand} {T:TypeId} {ag:Bool} {n:Nat} {av:A} {ef:Ef} (ho:o.op=.load T x) (hT:tyOk P T ag n=true) (hx:Rep w W μ (a.eval x) av)
  (he:ev id s.mem (.load n ag) [av]=some ef) (hobl:ef.obl):zm2 P o a w W μ s.mem ef.v s.mem:=by
 obtain ⟨b,q,u,h1,h2,h3⟩:=zbN3 hs hT hx he hobl
 refine hs.still (v:=u) ?_ h3
 simp only [execOp,ho,h1,Sem.run_bind]
 show (((loadVar T ⟨b,q,none⟩).run P w).andThen _)=_
 rw [h2]
 rfl
def zbl6 (P:Program) (T:TypeId) (f off:Nat):Bool :=
 match P.underlying T with
 | some (.struct fs)=>match fs[f]? with
  | some g=>g.offset == off&&(match P.info? g.type with|some i=>i.size != 0|none=>false)
  | none=>false
 | _=>false
theorem zbN4 {T:TypeId} {f off b q:Nat} (h:zbl6 P T f off=true):(Instr.fieldAt T (.pointer (some ⟨b,q,none⟩)) f).run P w=.ok (.pointer (some ⟨b,q+off,none⟩)) w:=by
 unfold zbl6 at h
 split at h
 ·rename_i fs hu
  split at h
  ·rename_i g hg
   simp only [bS] at h
   obtain ⟨h1,h2⟩:=h
   split at h2
   ·rename_i i hi
    simp at h1 h2
    subst h1
    simp [Instr.fieldAt,run_underlying hu,hg,Instr.sureAddr,fieldPlace,zJ0 hi,h2,Addr.add_lit]
   ·cases h2
  ·cases h
 ·cases h
theorem zcJ2 {id:Nat} (hs:SatW E s a w W μ) {x:Operand} {T:TypeId} {f off:Nat} {av:A} {ef:Ef} (ho:o.op=.fieldAddr T x f) (hT:zbl6 P T f off=true) (hx:Rep w W μ (a.eval x) av)
  (he:ev id s.mem (.faddr off) [av]=some ef):zm2 P o a w W μ s.mem ef.v s.mem:=by
 have fin:∀ b q,a.eval x=.pointer (some ⟨b,q,none⟩)→Rep w W μ (.pointer (some ⟨b,q+off,none⟩)) ef.v→zm2 P o a w W μ s.mem ef.v s.mem:=fun b q h1 h2 =>
  hs.still (by simp only [execOp,ho,h1,Sem.run_bind,zbN4 hT,Result.andThen_ok,Sem.run_pure]) h2
 cases av <;> simp only [ev] at he <;> try (cases he; done)
 ·rename_i y i j
  split at he
  ·rename_i r hr
   cases he
   obtain ⟨k,h3,hk,hrow⟩:=hs.ptr hx hr
   exact fin _ _ hk (by rw [fN]; exact zaY4 h3 hrow.pos i (j+off))
  ·cases he
 ·rename_i cs q
  cases he
  obtain ⟨b,q',hv,hb,hlt,hc⟩:RepK w W μ (a.eval x) (.rd cs q):=hx
  exact fin _ _ hv (show RepK w W μ _ (.rd cs (q+off)) from ⟨b,q',by rw [fN],hb,hlt,hc⟩)
end
section
variable {P:Program} {o:Oper} {a:Act} {E:Env} {s:S} {w:World} {W:Nat→Prop} {μ:Nat→Loc}
def szIs (P:Program) (e:TypeId) (sz:Nat):Bool:=match P.info? e with|some i=>i.size == sz|none=>false
theorem zai6 {e:TypeId} {sz:Nat} (h:szIs P e sz=true) (w:World):(sizeOf e).run P w=.ok sz w:=by
 unfold szIs at h
 split at h
 ·rename_i i hi; simp at h; subst h; exact zJ0 hi w
 ·cases h
def zce2 (P:Program) (T:TypeId) (n sz:Nat):Bool:=match P.underlying T with|some (.array m e)=>m == n&&szIs P e sz|_=>false
def zbB2 (P:Program) (T:TypeId) (sz:Nat):Bool:=match P.underlying T with|some (.slice e)=>szIs P e sz|_=>false
theorem zbX1 {T:TypeId} {n sz:Nat} (h:zce2 P T n sz=true):∃ e,P.underlying T=some (.array n e)∧szIs P e sz=true:=by
 unfold zce2 at h
 split at h
 ·rename_i m e hu; simp at h; obtain ⟨rfl,h⟩:=h; exact ⟨e,hu,h⟩
 ·cases h
theorem zbo1 {T:TypeId} {sz:Nat} (h:zbB2 P T sz=true):∃ e,P.underlying T=some (.slice e)∧szIs P e sz=true:=by
 unfold zbB2 at h
 split at h
 ·rename_i e hu; exact ⟨e,hu,h⟩
 ·cases h
theorem zcW0 {id:Nat} (hs:SatW E s a w W μ) {x i:Operand} {T:TypeId} {n sz:Nat} {ax ai:A} {ef:Ef} (ho:o.op=.indexAddr T x i) (hT:zce2 P T n sz=true) (hx:Rep w W μ (a.eval x) ax) (hi:Rep w W μ (a.eval i) ai)
  (he:ev id s.mem (.iaA n sz) [ax,ai]=some ef) (hobl:ef.obl):zm2 P o a w W μ s.mem ef.v s.mem:=by
 obtain ⟨e,hu,hz⟩:=zbX1 hT
 cases ai <;> try (simp only [ev] at he; cases he; done)
 rename_i k q
 have fin:∀ (b p:Nat),a.eval x=.pointer (some ⟨b,p,none⟩)→0≤q→q < n→Rep w W μ (.pointer (some ⟨b,p+q.toNat * sz,none⟩)) ef.v→zm2 P o a w W μ s.mem ef.v s.mem:=fun b p h1 h2 h3 h4 =>
  hs.still (v:=.pointer (some ⟨b,p+q.toNat * sz,none⟩)) (by simp [execOp,ho,h1,hi.int,Instr.indexAt,asIntOf,run_underlying hu,Instr.sureAddr,h2,h3,zai6 hz,Addr.add_lit]) h4
 cases ax <;> simp only [ev] at he <;> try (cases he; done)
 ·rename_i y i j
  split at he
  ·rename_i r hr
   cases he
   have hcl:zG0 q.toNat n=q.toNat:=by unfold zG0; rw [bY (by have:=hobl.1; have:=hobl.2; omega)]
   simp only [hcl] at fin ⊢
   obtain ⟨k',h3,hk,hrow⟩:=hs.ptr hx hr
   exact fin _ _ hk hobl.1 hobl.2 (by rw [fN]; exact zaY4 h3 hrow.pos i _)
  ·cases he
 ·rename_i cs p
  cases he
  have hcl:zG0 q.toNat n=q.toNat:=by unfold zG0; rw [bY (by have:=hobl.1; have:=hobl.2; omega)]
  simp only [hcl] at fin ⊢
  obtain ⟨b,q',hv,hb,hlt,hc⟩:RepK w W μ (a.eval x) (.rd cs p):=hx
  exact fin _ _ hv hobl.1 hobl.2 (show RepK w W μ _ (.rd cs _) from ⟨b,q',by rw [fN],hb,hlt,hc⟩)
theorem zcW1 {id:Nat} (hs:SatW E s a w W μ) {x i:Operand} {T:TypeId} {sz:Nat} {z:List A} {ax ai:A} {ef:Ef} (ho:o.op=.indexAddr T x i) (hT:zbB2 P T sz=true) (hx:Rep w W μ (a.eval x) ax) (hi:Rep w W μ (a.eval i) ai)
  (he:ev id s.mem (.iaS sz z) [ax,ai]=some ef) (hobl:ef.obl):zm2 P o a w W μ s.mem ef.v s.mem:=by
 obtain ⟨e,hu,hz⟩:=zbo1 hT
 cases ai <;> try (simp only [ev] at he; cases he; done)
 rename_i k q
 have fin:∀ (b p n c:Nat),a.eval x=.slice (some ⟨b,p,none⟩) n c→0≤q→q < n→Rep w W μ (.pointer (some ⟨b,p+q.toNat * sz,none⟩)) ef.v→zm2 P o a w W μ s.mem ef.v s.mem:=fun b p n c h1 h2 h3 h4 =>
  hs.still (v:=.pointer (some ⟨b,p+q.toNat * sz,none⟩)) (by simp [execOp,ho,h1,hi.int,Instr.indexAt,asIntOf,run_underlying hu,h2,h3,zai6 hz,Addr.add_lit]) h4
 have plain:∀ es,RepC w W (a.eval x) (.sl es)→(0≤q∧q < es.length∧(es.getD q.toNat z).length=sz)→ef.v=.rd (es.getD q.toNat z) 0→zm2 P o a w W μ s.mem ef.v s.mem:=fun es h1 h2 h3=>by
  obtain ⟨h4,h5,h6⟩:=h2
  rcases h1.open_sl with ⟨rfl,_⟩|⟨b,off,cap,sz',us,hv,hb,hlt,hn,hcap,hf,hc⟩
  ·simp at h5; omega
  ·have hqn:q.toNat < es.length:=by omega
   have hce:es[q.toNat]? = some (es.getD q.toNat z):=by simp [hqn]
   have hsz:sz'=sz:=by rw [← hf.hs _ _ hce,h6]
   subst hsz
   refine fin b off _ _ hv h4 h5 ?_
   rw [h3]
   refine (show RepK w W μ _ (.rd _ 0) from ⟨b,off+q.toNat * sz',by simp,hb,hlt,fun j c hj=>?_⟩)
   obtain ⟨u,hu',hr⟩:=hf.ha _ _ _ _ hce hj
   exact ⟨u,by rw [fN]; exact hc _ _ hu',hr⟩
 cases ax <;> simp only [ev] at he <;> try (cases he; done)
 ·rename_i es
  cases he
  exact plain es hx hobl rfl
 ·rename_i es
  cases he
  exact plain es (RepC.of_full hx).1 hobl rfl
 ·rename_i y lo n
  split at he
  ·rename_i r hr
   cases he
   obtain ⟨h1,h2,h3⟩:=hobl
   rcases hs.own hx hr with ⟨rfl,_⟩|⟨k',cap,h4,h5,h6,h7,h8,hrow⟩
   ·simp at h2; omega
   ·have hsz:k'.sz=sz:=hrow.2.1.trans h3
    refine fin _ _ _ _ h5 h1 h2 ?_
    have:=zaY4 (w:=w) (W:=W) h4 hrow.pos (lo+q.toNat) 0
    rw [Nat.add_zero,dN,hsz] at this
    rw [hsz]
    exact this
  ·cases he
theorem zaB3 {vs:List Value} {i:Nat} (h:i < vs.length):(vs.drop i).take 1=[vs[i]]:=by
 rw [iB h,List.take_succ_cons,List.take_zero]
theorem zcP9 {id:Nat} (hs:SatW E s a w W μ) {x i:Operand} {T:TypeId} {n sz:Nat} {ag:Bool} {ax ai:A} {ef:Ef} (ho:o.op=.index T x i) (hT:(match P.underlying T with|some (.array m e)=>m == n&&tyOk P e ag sz|_=>false)=true) (hx:Rep w W μ (a.eval x) ax) (hi:Rep w W μ (a.eval i) ai)
  (he:ev id s.mem (.idxA n sz ag) [ax,ai]=some ef) (hobl:ef.obl):zm2 P o a w W μ s.mem ef.v s.mem:=by
 cases ax <;> cases ai <;> simp only [ev] at he <;> try (cases he; done)
 rename_i cs k q
 cases he
 obtain ⟨h1,h2,h3⟩:=hobl
 have hcl:zG0 q.toNat n=q.toNat:=by unfold zG0; rw [bY (by omega)]
 simp only [hcl]
 clear hcl
 split at hT
 ·rename_i m e hu
  simp only [bS,cY] at hT
  obtain ⟨rfl,hT⟩:=hT
  obtain ⟨vs,hv,hl,hr⟩:RepV w W μ (a.eval x) (.agg cs):=hx
  have hq:q.toNat < m:=by omega
  have hle:q.toNat * sz+sz≤cs.length:=by
   have:(q.toNat+1) * sz≤m * sz:=dC _ hq
   rw [dN] at this; omega
  have hpart:(part e vs.toArray (q.toNat * sz)).run P w=.ok (if ag then .agg ((vs.drop (q.toNat * sz)).take sz).toArray else ((vs.drop (q.toNat * sz)).take sz).headD undef) w:=by
   have hT':=hT
   unfold tyOk at hT
   simp only [bS] at hT
   obtain ⟨⟨h4,h5⟩,h6⟩:=hT
   cases hu':P.underlying e with
   | none=>simp [hu'] at h4
   | some d =>
    cases hi':P.info? e with
    | none=>simp [hi'] at h5
    | some i' =>
     simp [hu'] at h4
     simp [hi'] at h5
     subst h5
     cases ag with
     | true=>simp [part,zag6 hu',h4,zJ0 hi']
     | false =>
      simp at h6
      have hlt:q.toNat * i'.size < vs.length:=by omega
      simp only [part,Sem.run_bind,zag6 hu',h4,Result.andThen_ok,bT,cA]
      rw [h6] at hlt ⊢
      simp only [fY] at hlt ⊢
      have:=zaB3 hlt
      simp [this,hlt]
  refine hs.still (v:=if ag then .agg ((vs.drop (q.toNat * sz)).take sz).toArray else ((vs.drop (q.toNat * sz)).take sz).headD undef) ?_
   (zaL1 (zbo0 hT) (by simp; omega) (zaF2 hle) fun i u b hi hb=>?_)
  ·have hz:(sizeOf e).run P w=.ok sz w:=by
    unfold tyOk at hT
    simp only [bS] at hT
    cases hi':P.info? e with
    | none=>simp [hi'] at hT
    | some i'=>simp [hi'] at hT; rw [← hT.1.2]; exact zJ0 hi' w
   simp [execOp,ho,hv,hi.int,Instr.index,asIntOf,run_underlying hu,h1,h2,hz,hpart]
  ·rw [getElem?_sub] at hb
   split at hb
   ·rename_i hin
    rw [dH,bY hin,dR] at hi
    exact hr _ u b hi hb
   ·cases hb
 ·cases hT
theorem zcJ3 {id:Nat} (hs:SatW E s a w W μ) {x:Operand} {T:TypeId} {f off n:Nat} {ag:Bool} {ax:A} {ef:Ef} (ho:o.op=.field T x f)
  (hT:(match P.underlying T with|some (.struct fs)=>(match fs[f]? with|some g=>g.offset == off&&tyOk P g.type ag n|none=>false)|_=>false)=true) (hx:Rep w W μ (a.eval x) ax)
  (he:ev id s.mem (.field off n ag) [ax]=some ef) (hobl:ef.obl):zm2 P o a w W μ s.mem ef.v s.mem:=by
 cases ax <;> simp only [ev] at he <;> try (cases he; done)
 rename_i cs
 cases he
 have hle:off+n≤cs.length:=hobl
 split at hT
 ·rename_i fs hu
  split at hT
  ·rename_i g hg
   simp only [bS,cY] at hT
   obtain ⟨rfl,hT⟩:=hT
   obtain ⟨vs,hv,hl,hr⟩:RepV w W μ (a.eval x) (.agg cs):=hx
   have hpart:(part g.type vs.toArray g.offset).run P w=.ok (if ag then .agg ((vs.drop g.offset).take n).toArray else ((vs.drop g.offset).take n).headD undef) w:=by
    have hT':=hT
    unfold tyOk at hT
    simp only [bS] at hT
    obtain ⟨⟨h4,h5⟩,h6⟩:=hT
    cases hu':P.underlying g.type with
    | none=>simp [hu'] at h4
    | some d =>
     cases hi':P.info? g.type with
     | none=>simp [hi'] at h5
     | some i' =>
      simp [hu'] at h4
      simp [hi'] at h5
      subst h5
      cases ag with
      | true=>simp [part,zag6 hu',h4,zJ0 hi']
      | false =>
       simp at h6
       have hlt:g.offset < vs.length:=by omega
       simp only [part,Sem.run_bind,zag6 hu',h4,Result.andThen_ok,bT,cA]
       rw [h6]
       have:=zaB3 hlt
       simp [this,hlt]
   refine hs.still (v:=if ag then .agg ((vs.drop g.offset).take n).toArray else ((vs.drop g.offset).take n).headD undef) ?_
    (zaL1 (zbo0 hT) (by simp; omega) (zaF2 hle) fun i u b hi hb=>?_)
   ·simp [execOp,ho,hv,Instr.field,run_underlying hu,hg,asAgg,hpart]
   ·rw [getElem?_sub] at hb
    split at hb
    ·rename_i hin
     rw [dH,bY hin,dR] at hi
     exact hr _ u b hi hb
    ·cases hb
  ·cases hT
 ·cases hT
theorem zcQ0 (hs:SatW E s a w W μ) {x:Operand} {T T2:TypeId} {k k2:IntKind} {n:Int} (ho:o.op=.convert T T2 x) (hT:(∃ d,P.underlying T=some d)∧P.underlying T2=some (.int k)) (hx:Rep w W μ (a.eval x) (.int k2 n)) :
  zm2 P o a w W μ s.mem (.int k (k.wrap n)) s.mem:=by
 obtain ⟨⟨d,hd⟩,h2⟩:=hT
 refine hs.still (v:=.int k (k.wrap n)) ?_ (zD5 (.int _ _))
 simp only [execOp,ho,hx.int,convert,Sem.run_bind,run_underlying hd,run_underlying h2,Result.andThen_ok]
 cases d <;> simp [Conv.intToInt]
theorem zcW2 (hs:SatW E s a w W μ) {x y:Operand} {ats:Array TypeId} {k:IntKind} {p q:Int} (ho:o.op=.call { callee:=.builtin .min,args:=#[x,y],argTypes:=ats }) (hx:Rep w W μ (a.eval x) (.int k p)) (hy:Rep w W μ (a.eval y) (.int k q)) :
  zm2 P o a w W μ s.mem (.int k (if q < p then q else p)) s.mem:=by
 refine hs.still (v:=.int k (if q < p then q else p)) ?_ (zD5 (.int _ _))
 simp [execOp,ho,resolve,invoke,builtin,Builtin.min_,hx.int,hy.int,Builtin.min2]
theorem zcW3 (hs:SatW E s a w W μ) {x y:Operand} {ats:Array TypeId} {k:IntKind} {p q:Int} (ho:o.op=.call { callee:=.builtin .max,args:=#[x,y],argTypes:=ats }) (hx:Rep w W μ (a.eval x) (.int k p)) (hy:Rep w W μ (a.eval y) (.int k q)) :
  zm2 P o a w W μ s.mem (.int k (if p < q then q else p)) s.mem:=by
 refine hs.still (v:=.int k (if p < q then q else p)) ?_ (zD5 (.int _ _))
 simp [execOp,ho,resolve,invoke,builtin,Builtin.max_,hx.int,hy.int,Builtin.max2]
theorem zcJ4 {id:Nat} (hs:SatW E s a w W μ) {x:Operand} {ax:A} {ef:Ef} (ho:o.op=.nilCheck x) (hx:Rep w W μ (a.eval x) ax) (he:ev id s.mem .nilck [ax]=some ef):zm2 P o a w W μ s.mem ef.v s.mem:=by
 cases ax <;> simp only [ev] at he <;> try (cases he; done)
 ·rename_i y i j
  split at he
  ·rename_i r hr
   cases he
   obtain ⟨k,_,hk,_⟩:=hs.ptr hx hr
   refine hs.still (v:=a.eval x) ?_ hx
   simp [execOp,ho,hk]
  ·cases he
 ·rename_i cs off
  cases he
  have hx':=hx
  obtain ⟨b,q,hv,_⟩:RepK w W μ (a.eval x) (.rd cs off):=hx'
  refine hs.still (v:=a.eval x) ?_ hx
  simp [execOp,ho,hv]
 ·rename_i f cs
  cases he
  have hx':=hx
  obtain ⟨vs,hv,_⟩:RepV w W μ (a.eval x) (.clo f cs):=hx'
  refine hs.still (v:=a.eval x) ?_ hx
  simp [execOp,ho,hv]
 ·rename_i f cs
  cases he
  have hx':RepC w W (a.eval x) (.bnd f cs):=hx
  obtain ⟨us,hv,_⟩:=RepC.bnd_val hx'
  refine hs.still (v:=a.eval x) ?_ hx
  simp [execOp,ho,hv]
theorem zcW4 (hs:SatW E s a w W μ) {x y:Operand} {T T2:TypeId} {neg p q:Bool} (ho:o.op=.binOp (if neg then .neq else .eql) T x y T2) (hT:P.underlying T=some .bool) (hx:Rep w W μ (a.eval x) (.bool p)) (hy:Rep w W μ (a.eval y) (.bool q)) :
  zm2 P o a w W μ s.mem (.bool (if neg then !decide (p=q) else decide (p=q))) s.mem:=by
 refine hs.still (v:=.bool (if neg then !decide (p=q) else decide (p=q))) ?_ (zD5 (.bool _))
 have h:=run_equalIn_bool' (P:=P) w 9999 T p q hT
 cases neg
 ·have ho':o.op=.binOp .eql T x y T2:=ho
  simp [execOp,ho',hx.bool,hy.bool,eqGuard,binOp,Op.equal,Op.maxDepth,h]
  cases p <;> cases q <;> rfl
 ·have ho':o.op=.binOp .neq T x y T2:=ho
  simp [execOp,ho',hx.bool,hy.bool,eqGuard,binOp,Op.equal,Op.maxDepth,h]
  cases p <;> cases q <;> rfl
end
end Ab
end Go.Proofs.YtenebhlnfjcffaaGreatDoor
