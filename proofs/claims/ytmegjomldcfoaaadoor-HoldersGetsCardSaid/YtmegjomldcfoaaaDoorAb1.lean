/-
  The abstract values of a small machine: data without addresses, and what they mean in a world of the model.
-/
import Derived.WalkKit
import Derived.Laws.AppendOwn
import Derived.Laws.AppendOwnNone
import Derived.Laws.OwnMore
import Derived.Laws.MakeOwn
import Derived.Laws.CopyOwn
import Derived.Orders
namespace Go.Proofs.YtmegjomldcfoaaaDoor
namespace Ab

/-- Abstract values. -/
inductive A where
  | bool (b : Bool)
  | int (k : IntKind) (n : Int)
  | str (s : ByteArray)
  | sl (es : List (List A))
  | full (es : List (List A))
  | own (x lo n : Nat)
  | ptr (x i j : Nat)
  | rd (cs : List A) (off : Nat)
  | agg (cs : List A)
  | tup (vs : List A)
  | clo (f : FuncId) (caps : List A)
  | cnd (g : Bool) (a : A)
  | any

/-- A row of owned memory: may it be written; the cells of an element; an element's zero; the elements. -/
structure Row where
  ro : Bool
  sz : Nat
  z : List A
  es : List (List A)

/-- Where a row lies. -/
structure Blk where
  b : Nat
  sz : Nat
  tot : Nat

/-- What an id stands for: nothing yet; nothing any more; an empty row without a block; a block. -/
inductive Loc where
  | fresh
  | dead
  | empty
  | at_ (k : Blk)

/-- Plain data in one cell: no address of its own. -/
inductive RepC (w : World) (W : Nat → Prop) : Value → A → Prop
  | bool (b : Bool) : RepC w W (.bool b) (.bool b)
  | int (k : IntKind) (n : Int) : RepC w W (.int k n) (.int k n)
  | str (s : ByteArray) : RepC w W (.string s) (.str s)
  | fn (f : FuncId) : RepC w W (.func (.func f) #[] #[]) (.clo f [])
  | sl0 (a : Option Addr) (cap : Nat) : RepC w W (.slice a 0 cap) (.sl [])
  | sl (b off cap sz : Nat) (es : List (List A)) (us : List Value) (hb : ¬ W b) (hlt : b < w.heap.size) (hn : 0 < es.length) (hcap : es.length ≤ cap)
      (hsz : ∀ (i : Nat) (c : List A), es[i]? = some c → c.length = sz) (hlen : us.length = es.length * sz)
      (hc : ∀ (q : Nat) (u : Value), us[q]? = some u → w.cell? ⟨b, off + q, none⟩ = some u)
      (hr : ∀ (i : Nat) (c : List A) (j : Nat) (a : A), es[i]? = some c → c[j]? = some a → RepC w W (us.getD (i * sz + j) undef) a) :
      RepC w W (.slice (some ⟨b, off, none⟩) es.length cap) (.sl es)
  | full (a : Option Addr) (n : Nat) (es : List (List A)) (h : RepC w W (.slice a n n) (.sl es)) : RepC w W (.slice a n n) (.full es)

/-- A value in one cell, but a closure. -/
def RepP (w : World) (W : Nat → Prop) (μ : Nat → Loc) (v : Value) : A → Prop
  | .own x lo n => v.oneCell' = true ∧ match μ x with
      | .fresh => False
      | .dead => True
      | .empty => n = 0 ∧ ∃ a, v = .slice a 0 0
      | .at_ k => (n = 0 ∧ ∃ a, v = .slice a 0 0) ∨ ∃ cap, v = .slice (some ⟨k.b, lo * k.sz, none⟩) n cap ∧ k.tot = (lo + cap) * k.sz ∧ n ≤ cap ∧ lo + cap ≤ maxLen
  | .ptr x i j => v.oneCell' = true ∧ match μ x with
      | .fresh => False
      | .dead => True
      | .empty => False
      | .at_ k => v = .pointer (some ⟨k.b, i * k.sz + j, none⟩)
  | .rd cs off => ∃ b o, v = .pointer (some ⟨b, o + off, none⟩) ∧ ¬ W b ∧ b < w.heap.size ∧ ∀ (j : Nat) (a : A), cs[j]? = some a → ∃ u, w.cell? ⟨b, o + j, none⟩ = some u ∧ RepC w W u a
  | a => RepC w W v a

/-- A value in one cell. -/
def RepK (w : World) (W : Nat → Prop) (μ : Nat → Loc) (v : Value) : A → Prop
  | .clo f caps => ∃ vs : List Value, v = .func (.func f) #[] vs.toArray ∧ vs.length = caps.length ∧ ∀ (i : Nat) (u : Value) (a : A), vs[i]? = some u → caps[i]? = some a → RepP w W μ u a
  | a => RepP w W μ v a

/-- A value of one or several cells. -/
def RepV (w : World) (W : Nat → Prop) (μ : Nat → Loc) (v : Value) : A → Prop
  | .agg cs => ∃ vs : List Value, v = .agg vs.toArray ∧ vs.length = cs.length ∧ ∀ (i : Nat) (u : Value) (a : A), vs[i]? = some u → cs[i]? = some a → RepK w W μ u a
  | a => RepK w W μ v a

/-- What a temporary holds. -/
def Rep (w : World) (W : Nat → Prop) (μ : Nat → Loc) (v : Value) : A → Prop
  | .any => True
  | .tup as => ∃ vs : List Value, v = .tuple vs.toArray ∧ vs.length = as.length ∧ ∀ (i : Nat) (u : Value) (a : A), vs[i]? = some u → as[i]? = some a → RepV w W μ u a
  | .cnd g a => (g = true → RepV w W μ v a) ∧ (g = false → v = undef)
  | a => RepV w W μ v a

/-- A list of cells reads as a list of elements of 'sz' cells each. -/
structure Flat (R : Value → A → Prop) (sz : Nat) (us : List Value) (es : List (List A)) : Prop where
  hl : us.length = es.length * sz
  hs : ∀ (i : Nat) (c : List A), es[i]? = some c → c.length = sz
  ha : ∀ (i : Nat) (c : List A) (j : Nat) (a : A), es[i]? = some c → c[j]? = some a → ∃ u, us[i * sz + j]? = some u ∧ R u a

/-- What the row 'r' says of the block 'k'. -/
def RowOk (w : World) (W : Nat → Prop) (μ : Nat → Loc) (r : Row) (k : Blk) : Prop :=
  (r.ro = false → W k.b) ∧ k.sz = r.sz ∧ 0 < r.sz ∧
    ∃ (us rest : List Value) (e : TypeId), w.heap[k.b]? = some (.cells (us ++ rest).toArray e (0, 0)) ∧ us.length + rest.length = k.tot ∧ Flat (RepK w W μ) r.sz us r.es

/-- What is known of an id. -/
inductive MS where
  | fresh
  | dead
  | row (r : Row)

def MemAt (w : World) (W : Nat → Prop) (μ : Nat → Loc) (x : Nat) : MS → Prop
  | .fresh => μ x = .fresh
  | .dead => μ x = .dead
  | .row r => (μ x = .empty ∧ r.es = [] ∧ 0 < r.sz) ∨ ∃ k, μ x = .at_ k ∧ RowOk w W μ r k

def MemOk (w : World) (W : Nat → Prop) (μ : Nat → Loc) (m : Nat → MS) : Prop := ∀ x, MemAt w W μ x (m x)

/-- Package-level tables: a block and its cells. -/
abbrev Globs := List (Nat × List A)

def GlobOk (w : World) (W : Nat → Prop) (G : Globs) : Prop :=
  ∀ g cs, (g, cs) ∈ G → ¬ W g ∧ g < w.heap.size ∧ ∀ (j : Nat) (a : A), cs[j]? = some a → ∃ u, w.cell? ⟨g, j, none⟩ = some u ∧ RepC w W u a

/-! ### The reading under a change of the world -/

/-- What the step from a world to a later one keeps. -/
structure Keeps (D : Nat → Prop) (w w' : World) : Prop where
  os : w'.os = w.os
  tape : w'.tape = w.tape
  output : w'.output = w.output
  size : w.heap.size ≤ w'.heap.size
  block : ∀ b, b < w.heap.size → ¬ D b → w'.heap[b]? = w.heap[b]?

theorem Keeps.refl (D : Nat → Prop) (w : World) : Keeps D w w := ⟨rfl, rfl, rfl, Nat.le_refl _, fun _ _ _ => rfl⟩

theorem Keeps.trans {D D' : Nat → Prop} {a b c : World} (h : Keeps D a b) (k : Keeps D' b c) (hd : ∀ x, x < a.heap.size → D' x → D x) : Keeps D a c :=
  ⟨k.os.trans h.os, k.tape.trans h.tape, k.output.trans h.output, Nat.le_trans h.size k.size, fun x hx hn =>
    (k.block x (Nat.lt_of_lt_of_le hx h.size) (fun hh => hn (hd x hx hh))).trans (h.block x hx hn)⟩

theorem Keeps.mono {D D' : Nat → Prop} {a b : World} (h : Keeps D a b) (hd : ∀ x, x < a.heap.size → D x → D' x) : Keeps D' a b :=
  ⟨h.os, h.tape, h.output, h.size, fun x hx hn => h.block x hx (fun hh => hn (hd x hx hh))⟩

theorem RepC.keep {D : Nat → Prop} {w w' : World} {W W' : Nat → Prop} (hk : Keeps D w w') (hD : ∀ b, b < w.heap.size → ¬ W b → ¬ D b) (hW : ∀ b, b < w.heap.size → ¬ W b → ¬ W' b)
    {v : Value} {a : A} (h : RepC w W v a) : RepC w' W' v a := by
  induction h with
  | bool b => exact .bool b
  | int k n => exact .int k n
  | str s => exact .str s
  | fn f => exact .fn f
  | sl0 a cap => exact .sl0 a cap
  | sl b off cap sz es us hb hlt hn hcap hsz hlen hc hr ih =>
    refine .sl b off cap sz es us (hW b hlt hb) (Nat.lt_of_lt_of_le hlt hk.size) hn hcap hsz hlen (fun q u h1 => ?_) ih
    rw [World.cell?_of_block (w := w) (hk.block b hlt (hD b hlt hb))]
    exact hc q u h1
  | full a n es h ih => exact .full a n es ih

theorem RepC.oneCell {w : World} {W : Nat → Prop} {v : Value} {a : A} (h : RepC w W v a) : v.oneCell' = true := by
  cases h <;> rfl

theorem RepP.oneCell {w : World} {W : Nat → Prop} {μ : Nat → Loc} {v : Value} {a : A} (h : RepP w W μ v a) : v.oneCell' = true := by
  cases a <;> simp only [RepP] at h <;> first | exact RepC.oneCell h | exact h.1 | (obtain ⟨b, o, rfl, _⟩ := h; rfl)

/-- A cell that is no closure. -/
def A.noClo : A → Bool
  | .clo _ _ => false
  | _ => true

theorem RepK.toP {w : World} {W : Nat → Prop} {μ : Nat → Loc} {v : Value} {a : A} (h : RepK w W μ v a) (hc : a.noClo = true) : RepP w W μ v a := by
  cases a <;> first | exact h | cases hc
theorem RepP.toK {w : World} {W : Nat → Prop} {μ : Nat → Loc} {v : Value} {a : A} (h : RepP w W μ v a) : RepK w W μ v a := by
  cases a with
  | clo f cs =>
    have h2 : RepC w W v (.clo f cs) := h
    cases h2
    exact ⟨[], rfl, rfl, fun i u a h => by simp at h⟩
  | _ => exact h

theorem RepK.oneCell {w : World} {W : Nat → Prop} {μ : Nat → Loc} {v : Value} {a : A} (h : RepK w W μ v a) : v.oneCell' = true := by
  cases a with
  | clo f cs => obtain ⟨vs, rfl, _⟩ := h; rfl
  | _ => exact (h.toP rfl).oneCell

/-- The elder ids mean what they meant, or nothing any more. -/
def Old (μ μ' : Nat → Loc) : Prop := ∀ x, μ x ≠ .fresh → μ' x = μ x ∨ μ' x = .dead

theorem Old.refl (μ : Nat → Loc) : Old μ μ := fun _ _ => .inl rfl

theorem RepP.goes {D : Nat → Prop} {w w' : World} {W W' : Nat → Prop} {μ μ' : Nat → Loc} (hk : Keeps D w w') (hD : ∀ b, b < w.heap.size → ¬ W b → ¬ D b)
    (hW : ∀ b, b < w.heap.size → ¬ W b → ¬ W' b) {v : Value} {a : A} (hid : Old μ μ') (h : RepP w W μ v a) : RepP w' W' μ' v a := by
  cases a with
  | own x lo n =>
    refine ⟨h.1, ?_⟩
    have h2 := h.2
    by_cases hf : μ x = .fresh
    · rw [hf] at h2; exact h2.elim
    · rcases hid x hf with e | e
      · rw [e]; exact h2
      · rw [e]; trivial
  | ptr x i j =>
    refine ⟨h.1, ?_⟩
    have h2 := h.2
    by_cases hf : μ x = .fresh
    · rw [hf] at h2; exact h2.elim
    · rcases hid x hf with e | e
      · rw [e]; exact h2
      · rw [e]; trivial
  | rd cs off =>
    obtain ⟨b, o, hv, hb, hlt, hc⟩ := h
    refine ⟨b, o, hv, hW b hlt hb, Nat.lt_of_lt_of_le hlt hk.size, fun j a hj => ?_⟩
    obtain ⟨u, hu, hr⟩ := hc j a hj
    exact ⟨u, (World.cell?_of_block (w := w) (hk.block b hlt (hD b hlt hb))).trans hu, hr.keep hk hD hW⟩
  | _ => exact RepC.keep hk hD hW h

theorem RepK.goes {D : Nat → Prop} {w w' : World} {W W' : Nat → Prop} {μ μ' : Nat → Loc} (hk : Keeps D w w') (hD : ∀ b, b < w.heap.size → ¬ W b → ¬ D b)
    (hW : ∀ b, b < w.heap.size → ¬ W b → ¬ W' b) {v : Value} {a : A} (hid : Old μ μ') (h : RepK w W μ v a) : RepK w' W' μ' v a := by
  cases a with
  | clo f cs =>
    obtain ⟨vs, hv, hl, hr⟩ := h
    exact ⟨vs, hv, hl, fun i u a h1 h2 => (hr i u a h1 h2).goes hk hD hW hid⟩
  | _ => exact ((h.toP rfl).goes hk hD hW hid).toK

theorem RepV.goes {D : Nat → Prop} {w w' : World} {W W' : Nat → Prop} {μ μ' : Nat → Loc} (hk : Keeps D w w') (hD : ∀ b, b < w.heap.size → ¬ W b → ¬ D b)
    (hW : ∀ b, b < w.heap.size → ¬ W b → ¬ W' b) {v : Value} {a : A} (hid : Old μ μ') (h : RepV w W μ v a) : RepV w' W' μ' v a := by
  cases a with
  | agg cs =>
    obtain ⟨vs, hv, hl, hr⟩ := h
    exact ⟨vs, hv, hl, fun i u a h1 h2 => (hr i u a h1 h2).goes hk hD hW hid⟩
  | clo f cs => exact RepK.goes (a := .clo f cs) hk hD hW hid h
  | bool b => exact RepK.goes (a := .bool b) hk hD hW hid h
  | int k n => exact RepK.goes (a := .int k n) hk hD hW hid h
  | str s => exact RepK.goes (a := .str s) hk hD hW hid h
  | sl es => exact RepK.goes (a := .sl es) hk hD hW hid h
  | full es => exact RepK.goes (a := .full es) hk hD hW hid h
  | own x lo n => exact RepK.goes (a := .own x lo n) hk hD hW hid h
  | ptr x i j => exact RepK.goes (a := .ptr x i j) hk hD hW hid h
  | rd cs off => exact RepK.goes (a := .rd cs off) hk hD hW hid h
  | tup vs => exact RepK.goes (a := .tup vs) hk hD hW hid h
  | cnd g a => exact RepK.goes (a := .cnd g a) hk hD hW hid h
  | any => exact RepK.goes (a := .any) hk hD hW hid h

theorem Rep.goes {D : Nat → Prop} {w w' : World} {W W' : Nat → Prop} {μ μ' : Nat → Loc} (hk : Keeps D w w') (hD : ∀ b, b < w.heap.size → ¬ W b → ¬ D b)
    (hW : ∀ b, b < w.heap.size → ¬ W b → ¬ W' b) {v : Value} {a : A} (hid : Old μ μ') (h : Rep w W μ v a) : Rep w' W' μ' v a := by
  cases a with
  | any => trivial
  | tup as =>
    obtain ⟨vs, hv, hl, hr⟩ := h
    exact ⟨vs, hv, hl, fun i u a h1 h2 => (hr i u a h1 h2).goes hk hD hW hid⟩
  | cnd g a => exact ⟨fun hg => (h.1 hg).goes hk hD hW hid, h.2⟩
  | bool b => exact RepV.goes (a := .bool b) hk hD hW hid h
  | int k n => exact RepV.goes (a := .int k n) hk hD hW hid h
  | str s => exact RepV.goes (a := .str s) hk hD hW hid h
  | sl es => exact RepV.goes (a := .sl es) hk hD hW hid h
  | full es => exact RepV.goes (a := .full es) hk hD hW hid h
  | own x lo n => exact RepV.goes (a := .own x lo n) hk hD hW hid h
  | ptr x i j => exact RepV.goes (a := .ptr x i j) hk hD hW hid h
  | rd cs off => exact RepV.goes (a := .rd cs off) hk hD hW hid h
  | agg cs => exact RepV.goes (a := .agg cs) hk hD hW hid h
  | clo f cs => exact RepV.goes (a := .clo f cs) hk hD hW hid h

/-! ### Flat rows -/

theorem Flat.mono {R R' : Value → A → Prop} {sz : Nat} {us : List Value} {es : List (List A)} (h : Flat R sz us es) (hr : ∀ u a, R u a → R' u a) : Flat R' sz us es :=
  ⟨h.hl, h.hs, fun i c j a h1 h2 => let ⟨u, h3, h4⟩ := h.ha i c j a h1 h2; ⟨u, h3, hr u a h4⟩⟩

theorem Flat.nil (R : Value → A → Prop) (sz : Nat) : Flat R sz [] [] := ⟨by simp, by simp, by simp⟩

theorem Flat.one {R : Value → A → Prop} {us : List Value} {c : List A} (hl : us.length = c.length) (hr : ∀ (i : Nat) (u : Value) (a : A), us[i]? = some u → c[i]? = some a → R u a) :
    Flat R c.length us [c] := by
  refine ⟨by simp [hl], fun i d h => ?_, fun i d j a h h2 => ?_⟩
  · cases i with
    | zero => simp at h; rw [h]
    | succ i => simp at h
  · cases i with
    | zero =>
      simp at h; subst h
      have hj : j < us.length := by rw [hl]; exact (List.getElem?_eq_some_iff.1 h2).1
      exact ⟨us[j], by simp [hj], hr j _ a (by simp [hj]) h2⟩
    | succ i => simp at h

theorem Flat.append {R : Value → A → Prop} {sz : Nat} {us vs : List Value} {es fs : List (List A)} (h : Flat R sz us es) (k : Flat R sz vs fs) : Flat R sz (us ++ vs) (es ++ fs) := by
  refine ⟨by simp [h.hl, k.hl, Nat.add_mul], fun i c hc => ?_, fun i c j a hc ha => ?_⟩
  · rw [List.getElem?_append] at hc
    split at hc
    · exact h.hs i c hc
    · exact k.hs _ c hc
  · rw [List.getElem?_append] at hc
    split at hc
    · rename_i hi
      obtain ⟨u, hu, hr⟩ := h.ha i c j a hc ha
      refine ⟨u, ?_, hr⟩
      rw [List.getElem?_append_left (List.getElem?_eq_some_iff.1 hu).1, hu]
    · rename_i hi
      obtain ⟨u, hu, hr⟩ := k.ha _ c j a hc ha
      refine ⟨u, ?_, hr⟩
      have e : i * sz + j = us.length + ((i - es.length) * sz + j) := by
        rw [h.hl, ← Nat.add_assoc, ← Nat.add_mul]; congr 2; omega
      rw [e, List.getElem?_append_right (by omega)]
      rw [show us.length + ((i - es.length) * sz + j) - us.length = (i - es.length) * sz + j by omega, hu]

theorem Flat.take {R : Value → A → Prop} {sz : Nat} {us : List Value} {es : List (List A)} (h : Flat R sz us es) (n : Nat) : Flat R sz (us.take (n * sz)) (es.take n) := by
  refine ⟨by simp only [List.length_take, h.hl, Nat.mul_min_mul_right], fun i c hc => ?_, fun i c j a hc ha => ?_⟩
  · rw [List.getElem?_take] at hc
    split at hc
    · exact h.hs i c hc
    · cases hc
  · rw [List.getElem?_take] at hc
    split at hc
    · rename_i hi
      obtain ⟨u, hu, hr⟩ := h.ha i c j a hc ha
      refine ⟨u, ?_, hr⟩
      have hj : j < sz := by rw [← h.hs i c hc]; exact (List.getElem?_eq_some_iff.1 ha).1
      have : i * sz + j < n * sz := by
        have : (i + 1) * sz ≤ n * sz := Nat.mul_le_mul_right _ hi
        rw [Nat.add_mul] at this; omega
      rw [List.getElem?_take, if_pos this, hu]
    · cases hc

theorem Flat.drop {R : Value → A → Prop} {sz : Nat} {us : List Value} {es : List (List A)} (h : Flat R sz us es) (n : Nat) : Flat R sz (us.drop (n * sz)) (es.drop n) := by
  refine ⟨by simp only [List.length_drop, h.hl]; rw [Nat.sub_mul], fun i c hc => ?_, fun i c j a hc ha => ?_⟩
  · rw [List.getElem?_drop] at hc
    exact h.hs _ c hc
  · rw [List.getElem?_drop] at hc
    obtain ⟨u, hu, hr⟩ := h.ha _ c j a hc ha
    refine ⟨u, ?_, hr⟩
    rw [List.getElem?_drop, ← hu]
    congr 1
    rw [Nat.add_mul]; omega

theorem Flat.replicate {R : Value → A → Prop} {us : List Value} {c : List A} (n : Nat) (h : Flat R c.length us [c]) : Flat R c.length (List.replicate n us).flatten (List.replicate n c) := by
  induction n with
  | zero => simpa using Flat.nil R c.length
  | succ n ih =>
    have := h.append ih
    simpa [List.replicate_succ] using this

/-- One element's cells are replaced. -/
theorem Flat.set {R : Value → A → Prop} {sz : Nat} {us vs : List Value} {es : List (List A)} {c : List A} (h : Flat R sz us es) (n : Nat) (hn : n < es.length) (k : Flat R sz vs [c]) :
    Flat R sz (us.take (n * sz) ++ vs ++ us.drop ((n + 1) * sz)) (es.set n c) := by
  have h1 := ((h.take n).append k).append (h.drop (n + 1))
  have e : es.set n c = es.take n ++ [c] ++ es.drop (n + 1) := by
    rw [List.set_eq_take_append_cons_drop, if_pos hn]; simp
  rw [e]; exact h1

theorem Flat.split {R : Value → A → Prop} {sz : Nat} {us : List Value} {es : List (List A)} (h : Flat R sz us es) {i : Nat} {c : List A} (hc : es[i]? = some c) :
    Flat R sz ((us.drop (i * sz)).take sz) [c] := by
  have h1 := ((h.drop i).take 1)
  have e : (es.drop i).take 1 = [c] := by
    have hi := (List.getElem?_eq_some_iff.1 hc).1
    rw [List.drop_eq_getElem_cons hi]
    have := (List.getElem?_eq_some_iff.1 hc).2
    simp [this]
  rw [e] at h1
  simpa using h1

/-- Some of an element's cells are replaced. -/
theorem Flat.upd {R : Value → A → Prop} {us vs : List Value} {c d : List A} (h : Flat R c.length us [c]) (hl : vs.length = d.length) (hr : ∀ (i : Nat) (u : Value) (a : A), vs[i]? = some u → d[i]? = some a → R u a)
    (j : Nat) (hj : j + d.length ≤ c.length) : Flat R c.length (us.take j ++ vs ++ us.drop (j + vs.length)) [c.take j ++ d ++ c.drop (j + d.length)] := by
  have hus : us.length = c.length := by simpa using h.hl
  have hc : ∀ (i : Nat) (u : Value) (a : A), us[i]? = some u → c[i]? = some a → R u a := by
    intro i u a hu ha
    obtain ⟨u', hu', hr'⟩ := h.ha 0 c i a (by simp) ha
    simp only [Nat.zero_mul, Nat.zero_add] at hu'
    rw [hu] at hu'
    cases hu'
    exact hr'
  have hlen : (c.take j ++ d ++ c.drop (j + d.length)).length = c.length := by simp; omega
  have := Flat.one (R := R) (us := us.take j ++ vs ++ us.drop (j + vs.length)) (c := c.take j ++ d ++ c.drop (j + d.length)) (by simp [hus, hl]) (by
    intro i u a hu ha
    rw [List.append_assoc, List.getElem?_append] at hu ha
    rw [List.length_take, hus] at hu
    rw [List.length_take] at ha
    split at hu
    · rename_i hi
      rw [if_pos hi] at ha
      rw [List.getElem?_take] at hu ha
      split at hu
      · rename_i hij
        rw [if_pos hij] at ha
        exact hc i u a hu ha
      · cases hu
    · rename_i hi
      rw [if_neg hi] at ha
      rw [List.getElem?_append] at hu ha
      rw [hl] at hu
      split at hu
      · rename_i hi2
        rw [if_pos hi2] at ha
        exact hr _ u a hu ha
      · rename_i hi2
        rw [if_neg hi2] at ha
        rw [List.getElem?_drop] at hu ha
        exact hc _ u a hu ha)
  rwa [hlen] at this
end Ab
end Go.Proofs.YtmegjomldcfoaaaDoor
