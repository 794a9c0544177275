/-
  Processes in ascending order, each once.
-/
import Derived.Test.YtdflfohpemfeiaaGreatDoorHoldG
namespace Go.Proofs.YtdflfohpemfeiaaGreatDoor
namespace Ab
set_option linter.unusedVariables false
set_option linter.unusedSimpArgs false
theorem asc_unique : ∀ {a b : List Proc}, a.Pairwise ltP → b.Pairwise ltP → (∀ x, x ∈ a ↔ x ∈ b) → a = b
 | [], b, _, _, h => by
  cases b with
  | nil => rfl
  | cons y b => exact absurd ((h y).2 (.head _)) (by simp)
 | x :: a, [], _, _, h => absurd ((h x).1 (.head _)) (by simp)
 | x :: a, y :: b, ha, hb, h => by
  rw [List.pairwise_cons] at ha hb
  have hxy : x = y := by
   rcases List.mem_cons.1 ((h x).1 (.head _)) with e | hx
   ·exact e
   ·rcases List.mem_cons.1 ((h y).2 (.head _)) with e | hy
    ·exact e.symm
    ·exact absurd (ltP_trans (ha.1 y hy) (hb.1 x hx)) (ltP_irrefl x)
  subst hxy
  congr 1
  refine asc_unique ha.2 hb.2 fun z => ?_
  have hz := h z
  constructor
  ·intro hm
   rcases List.mem_cons.1 (hz.1 (.tail _ hm)) with e | hm'
   ·subst e; exact absurd (ha.1 z hm) (ltP_irrefl z)
   ·exact hm'
  ·intro hm
   rcases List.mem_cons.1 (hz.2 (.tail _ hm)) with e | hm'
   ·subst e; exact absurd (hb.1 z hm) (ltP_irrefl z)
   ·exact hm'
def insPr (p : Proc) : List Proc → List Proc
 | [] => [p]
 | x :: t => if p = x then x :: t else if ltP p x then p :: x :: t else x :: insPr p t
theorem mem_insPr {p x : Proc} : ∀ {l : List Proc}, x ∈ insPr p l ↔ x = p ∨ x ∈ l
 | [] => by simp [insPr]
 | y :: t => by
  simp only [insPr]
  split
  ·rename_i h; subst h
   simp only [List.mem_cons]
   constructor
   ·intro h; exact .inr h
   ·rintro (rfl | h)
    ·exact .inl rfl
    ·exact h
  ·split
   ·simp only [List.mem_cons]
   ·simp only [List.mem_cons, mem_insPr (l := t)]
    constructor
    ·rintro (h | h | h)
     ·exact .inr (.inl h)
     ·exact .inl h
     ·exact .inr (.inr h)
    ·rintro (h | h | h)
     ·exact .inr (.inl h)
     ·exact .inl h
     ·exact .inr (.inr h)
theorem insPr_asc {p : Proc} : ∀ {l : List Proc}, l.Pairwise ltP → (insPr p l).Pairwise ltP
 | [], _ => by simp [insPr]
 | y :: t, h => by
  simp only [insPr]
  split
  ·exact h
  ·rename_i hne
   rw [List.pairwise_cons] at h
   split
   ·rename_i hlt
    rw [List.pairwise_cons]
    refine ⟨fun x hx => ?_, List.pairwise_cons.2 h⟩
    rcases List.mem_cons.1 hx with rfl | hx
    ·exact hlt
    ·exact ltP_trans hlt (h.1 x hx)
   ·rename_i hlt
    rw [List.pairwise_cons]
    refine ⟨fun x hx => ?_, insPr_asc h.2⟩
    rcases mem_insPr.1 hx with rfl | hx
    ·rcases ltP_total hne with h1 | h1
     ·exact absurd h1 hlt
     ·exact h1
    ·exact h.1 x hx
theorem insPr_self {p : Proc} : ∀ {l : List Proc}, l.Pairwise ltP → p ∈ l → insPr p l = l := fun hl hp =>
 asc_unique (insPr_asc hl) hl fun x => by
  rw [mem_insPr]
  constructor
  ·rintro (rfl | h)
   ·exact hp
   ·exact h
  ·exact .inr
def sortP (l : List Proc) : List Proc := l.foldl (fun s p => insPr p s) []
theorem foldl_insPr : ∀ (l s : List Proc), s.Pairwise ltP → (l.foldl (fun s p => insPr p s) s).Pairwise ltP ∧ ∀ x, x ∈ l.foldl (fun s p => insPr p s) s ↔ x ∈ s ∨ x ∈ l
 | [], s, h => ⟨h, fun x => by simp⟩
 | p :: l, s, h => by
  obtain ⟨h1, h2⟩ := foldl_insPr l (insPr p s) (insPr_asc h)
  refine ⟨h1, fun x => ?_⟩
  rw [List.foldl_cons, h2, mem_insPr, List.mem_cons]
  constructor
  ·rintro ((h | h) | h)
   ·exact .inr (.inl h)
   ·exact .inl h
   ·exact .inr (.inr h)
  ·rintro (h | h | h)
   ·exact .inl (.inr h)
   ·exact .inl (.inl h)
   ·exact .inr h
theorem sortP_asc (l : List Proc) : (sortP l).Pairwise ltP := (foldl_insPr l [] .nil).1
theorem mem_sortP {l : List Proc} {x : Proc} : x ∈ sortP l ↔ x ∈ l := by
 have := (foldl_insPr l [] .nil).2 x
 unfold sortP
 simpa using this
theorem sortP_unique {l s : List Proc} (h : s.Pairwise ltP) (hm : ∀ x, x ∈ s ↔ x ∈ l) : s = sortP l := asc_unique h (sortP_asc l) fun x => by rw [hm, mem_sortP]
theorem sortP_congr {a b : List Proc} (h : ∀ x, x ∈ a ↔ x ∈ b) : sortP a = sortP b := asc_unique (sortP_asc a) (sortP_asc b) fun x => by rw [mem_sortP, mem_sortP, h]
theorem asc_nodup {l : List Proc} (h : l.Pairwise ltP) : l.Nodup := h.imp fun hab e => by subst e; exact ltP_irrefl _ hab
theorem sortP_len (l : List Proc) : (sortP l).length ≤ l.length := List.Nodup.length_le_of_subset (asc_nodup (sortP_asc l)) fun x hx => mem_sortP.1 hx
def dst : List Proc → List Proc
 | [] => []
 | [x] => [x]
 | x :: y :: t => if x = y then dst (y :: t) else x :: dst (y :: t)
theorem mem_dst : ∀ {l : List Proc} {x : Proc}, x ∈ dst l ↔ x ∈ l
 | [], x => by simp [dst]
 | [y], x => by simp [dst]
 | y :: z :: t, x => by
  simp only [dst]
  split
  ·rename_i h; subst h
   rw [mem_dst (l := y :: t)]
   simp
  ·rw [List.mem_cons, mem_dst (l := z :: t), List.mem_cons (b := y)]
theorem dst_head : ∀ (x : Proc) (t : List Proc), ∃ s, dst (x :: t) = x :: s
 | x, [] => ⟨[], rfl⟩
 | x, y :: t => by
  simp only [dst]
  split
  ·rename_i h; subst h; exact dst_head x t
  ·exact ⟨_, rfl⟩
theorem dst_asc : ∀ {l : List Proc}, l.Pairwise (fun x y => ¬ ltP y x) → (dst l).Pairwise ltP
 | [], _ => by simp [dst]
 | [x], _ => by simp [dst]
 | x :: y :: t, h => by
  simp only [dst]
  rw [List.pairwise_cons] at h
  split
  ·exact dst_asc h.2
  ·rename_i hne
   rw [List.pairwise_cons]
   refine ⟨fun z hz => ?_, dst_asc h.2⟩
   have hz := mem_dst.1 hz
   by_cases e : x = z
   ·subst e
    rcases List.mem_cons.1 hz with e | hz'
    ·exact absurd e hne
    ·have h2 := (List.pairwise_cons.1 h.2).1 x hz'
     rcases ltP_total hne with h3 | h3
     ·exact absurd h3 h2
     ·exact absurd h3 (h.1 y (.head _))
   ·rcases ltP_total e with h1 | h1
    ·exact h1
    ·exact absurd h1 (h.1 z hz)
theorem dst_sortP {l s : List Proc} (h : s.Pairwise fun x y => ¬ ltP y x) (hm : ∀ x, x ∈ s ↔ x ∈ l) : dst s = sortP l := sortP_unique (dst_asc h) fun x => by rw [mem_dst, hm]
theorem dst_snoc : ∀ (l : List Proc) (x y : Proc), dst (l ++ [x, y]) = if x = y then dst (l ++ [x]) else dst (l ++ [x]) ++ [y]
 | [], x, y => by
  by_cases h : x = y <;> simp [dst, h]
 | [a], x, y => by
  by_cases h : x = y
  ·subst h; by_cases h2 : a = x <;> simp [dst, h2]
  ·by_cases h2 : a = x
   ·subst h2; simp [dst, h]
   ·simp [dst, h, h2]
 | a :: b :: l, x, y => by
  have ih := dst_snoc (b :: l) x y
  simp only [List.cons_append, dst] at ih ⊢
  rw [ih]
  by_cases h : x = y <;> by_cases h2 : a = b <;> simp [h, h2]
theorem dst_len : ∀ (l : List Proc), (dst l).length ≤ l.length
 | [] => Nat.le_refl _
 | [x] => Nat.le_refl _
 | x :: y :: t => by
  have := dst_len (y :: t)
  simp only [dst]
  split
  ·simp only [List.length_cons] at *; omega
  ·simp only [List.length_cons] at *; omega
theorem ltP_total' (x y : Proc) : ¬ ltP y x ∨ ¬ ltP x y := by
 by_cases h : ltP y x
 ·exact .inr (ltP_asymm h)
 ·exact .inl h
theorem merge_sorted (l : List Proc) : (l.mergeSort fun x y => !decide (ltP y x)).Pairwise fun x y => ¬ ltP y x := by
 have := List.pairwise_mergeSort (le := fun x y => !decide (ltP y x)) (fun a b c h1 h2 => by
  simp only [Bool.not_eq_true', decide_eq_false_iff_not] at h1 h2 ⊢
  intro h3
  by_cases e : b = a
  ·subst e; exact h2 h3
  ·rcases ltP_total e with h4 | h4
   ·exact h1 h4
   ·by_cases e2 : b = c
    ·subst e2; exact h1 h3
    ·rcases ltP_total e2 with h5 | h5
     ·exact ltP_asymm (ltP_trans h3 h4) h5
     ·exact h2 h5) (fun a b => by
  rcases ltP_total' a b with h | h
  ·simp [h]
  ·simp [h]) l
 exact this.imp fun h => by simpa using h
end Ab
end Go.Proofs.YtdflfohpemfeiaaGreatDoor
