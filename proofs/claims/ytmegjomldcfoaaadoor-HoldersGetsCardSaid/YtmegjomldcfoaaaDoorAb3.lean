/-
  Which operation of the program stands behind one of the small machine, and that it yields what is said: the ones that leave memory alone.
-/
import Derived.Test.YtmegjomldcfoaaaDoorAb2
namespace Go.Proofs.YtmegjomldcfoaaaDoor
namespace Ab

/-! ### Operands -/

def constOk1 : Value → A → Bool
  | .bool b, .bool c => b == c
  | .int k n, .int k' n' => k == k' && n == n'
  | .string s, .str t => s.data.toList == t.data.toList
  | .slice none 0 0, .full [] => true
  | .slice none 0 0, .sl [] => true
  | _, _ => false

def constCells : List Value → List A → Bool
  | [], [] => true
  | v :: vs, a :: as => constOk1 v a && constCells vs as
  | _, _ => false

def constOk : Value → A → Bool
  | .agg vs, .agg as => constCells vs.toList as
  | v, a => constOk1 v a

def chkX : Operand → PX → Bool
  | .tmp t, .t n => t == n
  | .const v, .c a => constOk v a
  | .global g, .g g' => g == g'
  | .func f, .f f' => f == f'
  | _, _ => false

def glob (G : Globs) (g : Nat) : Option (List A) :=
  match G with
  | [] => none
  | q :: r => if q.1 = g then some q.2 else glob r g

def xv (G : Globs) (fr : Nat → A) : PX → A
  | .t n => fr n
  | .c a => a
  | .g g => match glob G g with
    | some cs => .rd cs 0
    | none => .any
  | .f f => .clo f []

def A.nc : A → A
  | .cnd _ a => a
  | a => a

def A.gd : A → Bool
  | .cnd g _ => g
  | _ => true

section
variable {w : World} {W : Nat → Prop} {μ : Nat → Loc}

theorem repC_const {v : Value} {a : A} (h : constOk1 v a = true) : RepC w W v a := by
  unfold constOk1 at h
  split at h
  · simp at h; subst h; exact .bool _
  · simp at h; obtain ⟨rfl, rfl⟩ := h; exact .int _ _
  · rename_i s t
    simp at h
    have : s = t := by cases s; cases t; simp only [ByteArray.mk.injEq]; exact Array.toList_inj.1 (by simpa using h)
    subst this; exact .str _
  · exact .full _ _ _ (.sl0 _ _)
  · exact .sl0 _ _
  · cases h

theorem repK_of_C {v : Value} {a : A} (h : RepC w W v a) : RepK w W μ v a := by
  cases h with
  | bool b => exact .bool b
  | int k n => exact .int k n
  | str s => exact .str s
  | fn f => exact ⟨[], rfl, rfl, fun i u a h => by simp at h⟩
  | sl0 a cap => exact .sl0 a cap
  | sl b off cap sz es us hb hlt hn hcap hsz hlen hc hr => exact .sl b off cap sz es us hb hlt hn hcap hsz hlen hc hr
  | full a n es h => exact .full a n es h

theorem repV_of_K {v : Value} {a : A} (h : RepK w W μ v a) : RepV w W μ v a := by
  cases a with
  | agg cs => exact (by cases (show RepC w W v (.agg cs) from h))
  | _ => exact h

theorem rep_of_V {v : Value} {a : A} (h : RepV w W μ v a) : Rep w W μ v a := by
  cases a with
  | any => trivial
  | tup cs => exact (by cases (show RepC w W v (.tup cs) from h))
  | cnd g a => exact (by cases (show RepC w W v (.cnd g a) from h))
  | _ => exact h

theorem rep_of_C {v : Value} {a : A} (h : RepC w W v a) : Rep w W μ v a := rep_of_V (repV_of_K (repK_of_C h))

theorem constCells_at : ∀ {vs : List Value} {as : List A}, constCells vs as = true → vs.length = as.length ∧ ∀ (i : Nat) (u : Value) (a : A), vs[i]? = some u → as[i]? = some a → RepC w W u a
  | [], [], _ => ⟨rfl, by simp⟩
  | v :: vs, a :: as, h => by
    simp only [constCells, Bool.and_eq_true] at h
    obtain ⟨h1, h2⟩ := constCells_at h.2
    refine ⟨by simp [h1], fun i u b hu hb => ?_⟩
    cases i with
    | zero => simp at hu hb; subst hu; subst hb; exact repC_const h.1
    | succ i => simp at hu hb; exact h2 i u b hu hb
  | [], _ :: _, h => by simp [constCells] at h
  | _ :: _, [], h => by simp [constCells] at h

theorem repV_const {v : Value} {a : A} (h : constOk v a = true) : RepV w W μ v a := by
  unfold constOk at h
  split at h
  · rename_i vs as
    obtain ⟨h1, h2⟩ := constCells_at (w := w) (W := W) h
    exact ⟨vs.toList, by simp, h1, fun i u a hu ha => repK_of_C (h2 i u a hu ha)⟩
  · exact repV_of_K (repK_of_C (repC_const h))

theorem glob_mem {G : Globs} {g : Nat} {cs : List A} (h : glob G g = some cs) : (g, cs) ∈ G := by
  induction G with
  | nil => simp [glob] at h
  | cons q r ih =>
    unfold glob at h
    split at h
    · rename_i hg; subst hg; simp at h; subst h; simp
    · exact List.mem_cons_of_mem _ (ih h)

theorem rep_xv {E : Env} {s : S} {a : Act} (hs : SatW E s a w W μ) {x : Operand} {px : PX} (h : chkX x px = true) : Rep w W μ (a.eval x) (xv E.G s.fr px) := by
  unfold chkX at h
  split at h
  · simp at h; subst h; exact hs.fr _
  · exact rep_of_V (repV_const h)
  · rename_i g g'
    simp at h; subst h
    simp only [xv]
    split
    · rename_i cs hg
      obtain ⟨h1, h2, h3⟩ := hs.glob g cs (glob_mem hg)
      exact ⟨g, 0, rfl, h1, h2, fun j a hj => by simpa using h3 j a hj⟩
    · trivial
  · simp at h; subst h; exact ⟨[], rfl, rfl, by simp⟩
  · cases h

theorem rep_nc {v : Value} {a : A} (h : Rep w W μ v a) (hg : a.gd = true) : Rep w W μ v a.nc := by
  cases a with
  | cnd g a => exact rep_of_V (h.1 hg)
  | _ => exact h

/-! What the reading says of a value, by its abstract form. -/

theorem Rep.toV {v : Value} {a : A} (h : Rep w W μ v a) (ha : a.isV = true) : RepV w W μ v a := by
  cases a <;> first | exact h | (simp [A.isV] at ha)

theorem RepV.toCells {v : Value} {a : A} (h : RepV w W μ v a) (ha : a.isV = true) :
    ∃ us : List Value, v.cells = us.toArray ∧ us.length = a.cells.length ∧ (∀ (i : Nat) (u : Value) (b : A), us[i]? = some u → a.cells[i]? = some b → RepK w W μ u b) := by
  have one : RepK w W μ v a → a.cells = [a] → ∃ us : List Value, v.cells = us.toArray ∧ us.length = a.cells.length ∧ (∀ (i : Nat) (u : Value) (b : A), us[i]? = some u → a.cells[i]? = some b → RepK w W μ u b) := fun hk hc => by
    have h1 := hk.oneCell
    refine ⟨[v], ?_, by simp [hc], fun i u b hu hb => ?_⟩
    · cases v <;> first | rfl | (simp [Value.oneCell'] at h1)
    · rw [hc] at hb
      cases i with
      | zero => simp at hu hb; subst hu; subst hb; exact hk
      | succ i => simp at hu
  cases a with
  | agg cs => obtain ⟨vs, rfl, hl, hr⟩ := h; exact ⟨vs, rfl, hl, hr⟩
  | tup cs => simp [A.isV] at ha
  | cnd g a => simp [A.isV] at ha
  | any => simp [A.isV] at ha
  | rd cs o => simp [A.isV] at ha
  | _ => exact one h rfl

theorem Rep.toCells {v : Value} {a : A} (h : Rep w W μ v a) (ha : a.isV = true) :
    ∃ us : List Value, v.cells = us.toArray ∧ us.length = a.cells.length ∧ (∀ (i : Nat) (u : Value) (b : A), us[i]? = some u → a.cells[i]? = some b → RepK w W μ u b) := (h.toV ha).toCells ha

theorem Rep.bool {v : Value} {b : Bool} (h : Rep w W μ v (.bool b)) : v = .bool b := by
  have : RepC w W v (.bool b) := h
  cases this; rfl
theorem Rep.int {v : Value} {k : IntKind} {n : Int} (h : Rep w W μ v (.int k n)) : v = .int k n := by
  have : RepC w W v (.int k n) := h
  cases this; rfl
theorem Rep.str {v : Value} {s : ByteArray} (h : Rep w W μ v (.str s)) : v = .string s := by
  have : RepC w W v (.str s) := h
  cases this; rfl

theorem RepK.toC {v : Value} {a : A} (h : RepK w W μ v a) (hp : a.pure1 = true) : RepC w W v a := by
  cases a with
  | clo f cs =>
    cases cs with
    | nil =>
      obtain ⟨vs, rfl, hl, _⟩ := h
      have : vs = [] := List.eq_nil_of_length_eq_zero hl
      subst this
      exact .fn f
    | cons c cs => simp [A.pure1] at hp
  | bool b => exact h
  | int k n => exact h
  | str s => exact h
  | sl es => exact h
  | full es => exact h
  | _ => simp [A.pure1] at hp

/-- A slice of plain data, opened. -/
theorem RepC.open_sl {v : Value} {es : List (List A)} (h : RepC w W v (.sl es)) :
    (es = [] ∧ ∃ a cap, v = .slice a 0 cap) ∨
    ∃ b off cap sz us, v = .slice (some ⟨b, off, none⟩) es.length cap ∧ ¬ W b ∧ b < w.heap.size ∧ 0 < es.length ∧ es.length ≤ cap ∧ Flat (RepC w W) sz us es ∧
      (∀ (q : Nat) (u : Value), us[q]? = some u → w.cell? ⟨b, off + q, none⟩ = some u) := by
  cases h with
  | sl0 a cap => exact .inl ⟨rfl, a, cap, rfl⟩
  | sl b off cap sz es us hb hlt hn hcap hsz hlen hc hr =>
    refine .inr ⟨b, off, cap, sz, us, rfl, hb, hlt, hn, hcap, ⟨hlen, hsz, fun i c j a h1 h2 => ?_⟩, hc⟩
    have hi := (List.getElem?_eq_some_iff.1 h1).1
    have hj := (List.getElem?_eq_some_iff.1 h2).1
    rw [hsz i c h1] at hj
    have hq : i * sz + j < us.length := by
      rw [hlen]
      have : (i + 1) * sz ≤ es.length * sz := Nat.mul_le_mul_right _ hi
      rw [Nat.add_mul] at this; omega
    refine ⟨us.getD (i * sz + j) undef, ?_, hr i c j a h1 h2⟩
    simp [hq]

theorem RepC.mk_sl {b off cap sz : Nat} {es : List (List A)} {us : List Value} (hb : ¬ W b) (hlt : b < w.heap.size) (hcap : es.length ≤ cap) (hf : Flat (RepC w W) sz us es)
    (hc : ∀ (q : Nat) (u : Value), us[q]? = some u → w.cell? ⟨b, off + q, none⟩ = some u) : RepC w W (.slice (some ⟨b, off, none⟩) es.length cap) (.sl es) := by
  by_cases hn : es = []
  · subst hn; exact .sl0 _ _
  · refine .sl b off cap sz es us hb hlt (List.length_pos_iff.2 hn) hcap hf.hs hf.hl hc fun i c j a h1 h2 => ?_
    obtain ⟨u, hu, hr⟩ := hf.ha i c j a h1 h2
    simpa [hu] using hr

theorem RepC.of_full {v : Value} {es : List (List A)} (h : RepC w W v (.full es)) : RepC w W v (.sl es) ∧ ∃ a, v = .slice a es.length es.length := by
  cases h with
  | full a n es h =>
    refine ⟨h, ?_⟩
    rcases h.open_sl with ⟨rfl, a', cap, hv⟩ | ⟨b, off, cap, sz, us, hv, _⟩
    · cases hv; exact ⟨_, rfl⟩
    · cases hv; exact ⟨_, rfl⟩

end
end Ab
end Go.Proofs.YtmegjomldcfoaaaDoor
