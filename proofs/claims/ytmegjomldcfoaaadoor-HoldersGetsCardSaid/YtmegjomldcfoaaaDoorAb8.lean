/-
  What each operation of the program yields, by the readings of its operands: the ones that make memory or write it.
-/
import Derived.Test.YtmegjomldcfoaaaDoorAb7
namespace Go.Proofs.YtmegjomldcfoaaaDoor
namespace Ab

section
variable {P : Program} {o : Oper} {a : Act} {E : Env} {s : S} {w : World} {W : Nat → Prop} {μ : Nat → Loc}

theorem keeps_alloc (w : World) (ob : Obj) : Keeps (fun _ => False) w (w.alloc ob) :=
  ⟨rfl, rfl, rfl, by simp, fun b hb _ => heap_alloc_old w ob hb⟩

theorem keeps_drew_alloc (w : World) (ob : Obj) : Keeps (fun _ => False) w (w.drew.alloc ob) :=
  ⟨rfl, rfl, rfl, by simp, fun b hb _ => heap_alloc_old w.drew ob hb⟩

theorem rep_own {v : Value} {x lo n : Nat} (h : RepK w W μ v (.own x lo n)) : Rep w W μ v (.own x lo n) := h

theorem y_nilown (hs : SatW E s a w W μ) {x : Operand} {sz : Nat} {z : List A} {id : Nat} (ho : o.op = .move x ∨ o.op = .assign x) (hx : x = .const (.slice none 0 0)) (hid : s.mem id = .fresh) (hsz : 0 < sz) :
    Yields P o a w W μ s.mem (.own id 0 0) (setM s.mem [(id, .row ⟨false, sz, z, []⟩)]) := by
  refine ⟨_, .slice none 0 0, w, W, _, ?_, .inl rfl, ?_, Step.newEmpty hs.mem hs.inj hs.wlt hid hsz rfl (Keeps.refl _ w)⟩
  · rcases ho with ho | ho <;> simp [execOp, ho, hx, Act.eval]
  · refine rep_own ⟨rfl, ?_⟩
    simp

theorem y_box (hs : SatW E s a w W μ) {x : Operand} {T : TypeId} {n : Nat} {ax : A} {id : Nat} (ho : o.op = .box T x) (hx : Rep w W μ (a.eval x) ax) (hid : s.mem id = .fresh) (hv : ax.isV = true) (hn : 0 < n) (hl : ax.cells.length = n) :
    Yields P o a w W μ s.mem (.ptr id 0 0) (setM s.mem [(id, .row ⟨false, n, ax.cells, [ax.cells]⟩)]) := by
  obtain ⟨us, hu, hlen, hr⟩ := hx.toCells hv
  subst hl
  have hst := Step.new (w' := w.alloc (.cells us.toArray T)) hs.mem hs.inj hs.wlt hid (r := ⟨false, ax.cells.length, ax.cells, [ax.cells]⟩) (us := us) (rest := []) (e := T) hn (keeps_alloc _ _) (Flat.one hlen hr) (by simpa using heap_alloc_new w _)
  refine ⟨_, .pointer (some ⟨w.heap.size, 0, none⟩), _, _, _, ?_, .inl rfl, ?_, hst⟩
  · simp [execOp, ho, Instr.box, newVar, newRow, newObj, Sem.run, hu]
  · have := rep_ptr (w := w.alloc (.cells us.toArray T)) (W := fun b => W b ∨ b = w.heap.size) (μ := fun x => if x = id then Loc.at_ ⟨w.heap.size, ax.cells.length, us.length + ([] : List Value).length⟩ else μ x) (y := id) (k := ⟨w.heap.size, ax.cells.length, us.length + ([] : List Value).length⟩) (by simp) 0 0
    simpa using this

def zeroOk (P : Program) (T : TypeId) (z : List A) : Bool := match P.info? T with | some i => (match i.zero with | some v => constCells v.cells.toList z | none => false) | none => false

theorem zeroOk_spec {T : TypeId} {z : List A} (h : zeroOk P T z = true) : ∃ v, (∀ w, (zeroValue T).run P w = .ok v w) ∧ (∃ i, P.info? T = some i ∧ i.zero = some v) ∧ v.cells.toList.length = z.length ∧ ∀ (w : World) (W : Nat → Prop) (i : Nat) (u : Value) (b : A), v.cells.toList[i]? = some u → z[i]? = some b → RepC w W u b := by
  unfold zeroOk at h
  split at h
  · rename_i i hi
    split at h
    · rename_i v hv
      refine ⟨v, fun w => by simp [zeroValue, typeInfo, hi, hv], ⟨i, hi, hv⟩, (constCells_at (w := default) (W := fun _ => False) h).1, fun w W i u b h1 h2 => (constCells_at h).2 i u b h1 h2⟩
    · cases h
  · cases h

theorem y_alloc (hs : SatW E s a w W μ) {T : TypeId} {z : List A} {id : Nat} (ho : o.op = .alloc T) (hz : zeroOk P T z = true) (hid : s.mem id = .fresh) (hn : 0 < z.length) :
    Yields P o a w W μ s.mem (.ptr id 0 0) (setM s.mem [(id, .row ⟨false, z.length, z, [z]⟩)]) := by
  obtain ⟨v, hv, _, hl, hr⟩ := zeroOk_spec hz
  have hst := Step.new (w' := w.alloc (.cells v.cells T)) hs.mem hs.inj hs.wlt hid (r := ⟨false, z.length, z, [z]⟩) (us := v.cells.toList) (rest := []) (e := T) hn (keeps_alloc _ _)
    (Flat.one hl fun i u b h1 h2 => repK_of_C (hr w W i u b h1 h2)) (by simpa using heap_alloc_new w _)
  refine ⟨_, .pointer (some ⟨w.heap.size, 0, none⟩), _, _, _, ?_, .inl rfl, ?_, hst⟩
  · simp [execOp, ho, Instr.alloc, hv, newVar, newRow, newObj, Sem.run]
  · have := rep_ptr (w := w.alloc (.cells v.cells T)) (W := fun b => W b ∨ b = w.heap.size) (μ := fun x => if x = id then Loc.at_ ⟨w.heap.size, z.length, v.cells.toList.length + ([] : List Value).length⟩ else μ x) (y := id) (k := ⟨w.heap.size, z.length, v.cells.toList.length + ([] : List Value).length⟩) (by simp) 0 0
    simpa using this

/-! ### Stores -/

theorem run_storeVar {T : TypeId} {n : Nat} (hT : szIs P T n = true) {g off : Nat} {us rest vs : List Value} {e : TypeId} {v : Value} (hv : v.cells = vs.toArray) (hn : vs.length = n) (hg : w.heap[g]? = some (.cells (us ++ rest).toArray e (0, 0)))
    (hfit : off + vs.length ≤ us.length) (h1 : ∀ u ∈ vs, u.oneCell' = true) :
    (Instr.storeAt T (.pointer (some ⟨g, off, none⟩)) v).run P w = .ok () (w.setRow g ((us.take off ++ vs ++ us.drop (off + vs.length)) ++ rest).toArray) := by
  have hst := run_storeCells_at P g off e vs 0 (us ++ rest).toArray w hg (by simp; omega) h1
  simp only [Nat.add_zero] at hst
  have hsz2 : ¬ vs.toArray.size ≠ n := by simpa using hn
  simp only [Instr.storeAt, Instr.sureAddr, storeVar, Sem.run_bind, Sem.run_pure, Result.andThen_ok, run_szIs hT, hv, hsz2, if_false, hst]
  congr 2
  have e1 : (us ++ rest).take off = us.take off := List.take_append_of_le_length (by omega)
  have e2 : (us ++ rest).drop (off + vs.length) = us.drop (off + vs.length) ++ rest := List.drop_append_of_le_length (by omega)
  simp [e1, e2]

theorem keeps_setRow (w : World) (g : Nat) (c : Array Value) : Keeps (fun b => b = g) w (w.setRow g c) :=
  ⟨rfl, rfl, rfl, by simp [World.setRow], fun b _ hb => setRow_other w g b c hb⟩

theorem upd_chunk (us vs : List Value) (i j sz n : Nat) (hi : (i + 1) * sz ≤ us.length) (hj : j + n ≤ sz) (hn : vs.length = n) :
    us.take (i * sz) ++ (((us.drop (i * sz)).take sz).take j ++ vs ++ ((us.drop (i * sz)).take sz).drop (j + vs.length)) ++ us.drop ((i + 1) * sz) = us.take (i * sz + j) ++ vs ++ us.drop (i * sz + j + vs.length) := by
  subst hn
  rw [Nat.add_mul, Nat.one_mul] at hi ⊢
  generalize i * sz = p at *
  have e1 : us.take (p + j) = us.take p ++ ((us.drop p).take sz).take j := by
    rw [List.take_add, List.take_take, Nat.min_eq_left (by omega)]
  have e2 : us.drop (p + j + vs.length) = ((us.drop p).take sz).drop (j + vs.length) ++ us.drop (p + sz) := by
    have h1 : us.drop p = (us.drop p).take sz ++ us.drop (p + sz) := by
      rw [← List.drop_drop, List.take_append_drop]
    have h2 : us.drop (p + j + vs.length) = (us.drop p).drop (j + vs.length) := by rw [List.drop_drop, Nat.add_assoc]
    rw [h2]
    conv => lhs; rw [h1]
    rw [List.drop_append_of_le_length]
    simp only [List.length_take, List.length_drop]; omega
  rw [e1, e2]
  simp only [List.append_assoc]

theorem y_store {id : Nat} (hs : SatW E s a w W μ) {x y : Operand} {T : TypeId} {n : Nat} {ax ay : A} {ef : Ef} (ho : o.op = .store T x y) (hT : szIs P T n = true) (hx : Rep w W μ (a.eval x) ax) (hy : Rep w W μ (a.eval y) ay)
    (he : ev id s.mem (.store n) [ax, ay] = some ef) (hobl : ef.obl) : Yields P o a w W μ s.mem ef.v (setM s.mem ef.mw) := by
  cases ax <;> simp only [ev] at he <;> try (cases he; done)
  rename_i p i j
  split at he
  · rename_i r hr
    cases he
    obtain ⟨hro, hv, hi, hj, hn⟩ := hobl
    obtain ⟨k, hk, hp, hrow⟩ := hs.ptr hx hr
    obtain ⟨us, hcu, hlen, hrep⟩ := hy.toCells hv
    obtain ⟨_, hksz, hpos, us0, rest, e, hheap, htot, hf⟩ := hrow
    have hc : r.es[i]? = some (r.es.getD i r.z) := by simp [hi]
    have hcl := hf.hs i _ hc
    have hsp := hf.split hc
    have hfit : (i + 1) * r.sz ≤ us0.length := by rw [hf.hl]; exact Nat.mul_le_mul_right _ hi
    have hone : ∀ u ∈ us, u.oneCell' = true := fun u hu => by
      obtain ⟨q, hq⟩ := List.getElem?_of_mem hu
      have hq2 : q < ay.cells.length := by rw [← hlen]; exact (List.getElem?_eq_some_iff.1 hq).1
      exact (hrep q u _ hq (List.getElem?_eq_getElem hq2)).oneCell
    have hupd := Flat.upd (R := RepK w W μ) (c := r.es.getD i r.z) (hcl ▸ hsp) hlen hrep j (by omega)
    rw [hcl] at hupd
    have hset := hf.set i hi hupd
    have hfit2 : i * r.sz + j + us.length ≤ us0.length := by rw [Nat.add_mul] at hfit; omega
    have hrun := run_storeVar (w := w) hT (g := k.b) (off := i * r.sz + j) hcu (by omega) hheap hfit2 hone
    rw [upd_chunk us0 us i j r.sz us.length hfit (by omega) rfl] at hset
    refine ⟨.skip, undef, w.setRow k.b ((us0.take (i * r.sz + j) ++ us ++ us0.drop (i * r.sz + j + us.length)) ++ rest).toArray, W, μ, ?_, .inr ⟨rfl, rfl⟩, trivial, Step.write (rest := rest) hs.mem hs.inj hs.wlt hk hr hro (r' := ⟨r.ro, r.sz, r.z, r.es.set i (upd (r.es.getD i r.z) j ay.cells)⟩) rfl (keeps_setRow _ _ _) hset (setRow_heap w k.b _ _ e _ hheap) ?_⟩
    · simp only [execOp, ho, hp, hksz, Sem.run_bind, hrun, Result.andThen_ok, Sem.run_pure]
    · simp only [List.length_append, List.length_take, List.length_drop]
      omega
  · cases he
end
end Ab
end Go.Proofs.YtmegjomldcfoaaaDoor
