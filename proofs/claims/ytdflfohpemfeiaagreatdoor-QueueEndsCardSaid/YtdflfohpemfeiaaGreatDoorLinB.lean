/-
  Valid lines, in parts; what an insertion and a removal keep.
-/
import Derived.Test.YtdflfohpemfeiaaGreatDoorLinA
namespace Go.Proofs.YtdflfohpemfeiaaGreatDoor
namespace Ab
set_option linter.unusedVariables false
set_option linter.unusedSimpArgs false
def optI (o : Option Nat) : Int := match o with
 | some i => (i : Int)
 | none => -1
theorem find1_opt (l : List Wait) (p : Proc) : find1 l p = optI (findI p l 0) := rfl
theorem find1_up (o : Option Nat) : optI (o.map (· + 1)) = if 0 ≤ optI o then optI o + 1 else -1 := by
 cases o with
 | none => rfl
 | some n =>
  have h : (0 : Int) ≤ optI (some n) := Int.natCast_nonneg n
  rw [if_pos h]; exact Int.natCast_succ n
theorem find1_self {l : List Wait} : (∀ i, i < l.length → find1 l (l.getD i Wait.zero).proc = i) ↔ (l.map (·.proc)).Nodup := by
 induction l with
 | nil => simp
 | cons w l ih =>
  rw [List.map_cons, List.nodup_cons]
  have shift : ∀ p i, findI p l (i + 1) = (findI p l i).map (· + 1) := by
   intro p
   clear ih
   induction l with
   | nil => intro i; rfl
   | cons x l ih => intro i; simp only [findI]; split <;> simp [ih]
  have hcons : ∀ i, find1 (w :: l) (l.getD i Wait.zero).proc = if w.proc = (l.getD i Wait.zero).proc then 0 else if 0 ≤ find1 l (l.getD i Wait.zero).proc then find1 l (l.getD i Wait.zero).proc + 1 else -1 := fun i => by
   simp only [find1_opt, findI, shift]
   by_cases h : w.proc = (l.getD i Wait.zero).proc
   ·simp [h, optI]
   ·simp only [h, if_false]
    exact find1_up _
  constructor
  ·intro h
   have h1 : ∀ i, i < l.length → w.proc ≠ (l.getD i Wait.zero).proc ∧ find1 l (l.getD i Wait.zero).proc = i := fun i hi => by
    have := h (i + 1) (by simpa using hi)
    rw [List.getD_cons_succ, hcons] at this
    split at this
    ·omega
    ·rename_i hne
     split at this
     ·exact ⟨hne, by omega⟩
     ·omega
   refine ⟨fun hm => ?_, ih.1 fun i hi => (h1 i hi).2⟩
   obtain ⟨x, hx, he⟩ := List.mem_map.1 hm
   obtain ⟨i, hi, rfl⟩ := List.mem_iff_getElem.1 hx
   have := (h1 i hi).1
   rw [List.getD_eq_getElem?_getD, List.getElem?_eq_getElem hi] at this
   exact this he.symm
  ·rintro ⟨h1, h2⟩ i hi
   have h3 := ih.2 h2
   cases i with
   | zero => simp [find1, findI]
   | succ i =>
    have hi' : i < l.length := by simpa using hi
    have hne : w.proc ≠ (l.getD i Wait.zero).proc := fun e => h1 (List.mem_map.2 ⟨l.getD i Wait.zero, by
     rw [List.getD_eq_getElem?_getD, List.getElem?_eq_getElem hi']; exact List.getElem_mem hi', e.symm⟩)
    rw [List.getD_cons_succ, hcons, if_neg hne, h3 i hi', if_pos (by omega)]
    omega
theorem validL_iff (l : List Wait) : validL l = true ↔ l.length ≤ 8 ∧ (∀ w ∈ l, f_line_ValidWait w = true) ∧ (l.map (·.proc)).Nodup := by
 unfold validL
 simp only [Bool.and_eq_true, decide_eq_true_eq, List.all_eq_true, List.mem_range]
 constructor
 ·rintro ⟨h1, h2⟩
  refine ⟨h1, fun w hw => ?_, find1_self.1 fun i hi => (h2 i hi).2⟩
  obtain ⟨i, hi, rfl⟩ := List.mem_iff_getElem.1 hw
  have := (h2 i hi).1
  rwa [List.getD_eq_getElem?_getD, List.getElem?_eq_getElem hi] at this
 ·rintro ⟨h1, h2, h3⟩
  refine ⟨h1, fun i hi => ⟨h2 _ ?_, find1_self.2 h3 i hi⟩⟩
  rw [List.getD_eq_getElem?_getD, List.getElem?_eq_getElem hi]
  exact List.getElem_mem hi
theorem validL_rm {l : List Wait} (p : Proc) (h : validL l = true) : validL (rmL l p) = true := by
 rw [validL_iff] at h ⊢
 refine ⟨Nat.le_trans (rmL_len l p) h.1, fun w hw => h.2.1 w ((List.mem_filter.1 hw).1), ?_⟩
 exact (h.2.2).sublist ((List.filter_sublist).map _)
theorem placeI_over (l : List Wait) (w : Wait) : ∀ k i, placeI l w k ≤ i → i < k → over w (l.getD i Wait.zero) = true
 | k + 1, i, h1, h2 => by
  unfold placeI at h1
  split at h1
  ·rename_i ho
   by_cases hi : i = k
   ·subst hi; exact ho
   ·exact placeI_over l w k i h1 (by omega)
  ·omega
theorem over_drop {l : List Wait} {w e : Wait} (h : e ∈ l.drop (placeI l w l.length)) : over w e = true := by
 obtain ⟨i, hi, rfl⟩ := List.mem_iff_getElem.1 h
 have := placeI_over l w l.length (placeI l w l.length + i) (by omega) (by simp at hi; omega)
 rw [List.getElem_drop]
 rwa [List.getD_eq_getElem?_getD, List.getElem?_eq_getElem (by simp at hi; omega)] at this
theorem validWait_bump {w e : Wait} (h : f_line_ValidWait e = true) (ho : over w e = true) : f_line_ValidWait (bump e) = true ∧ (bump e).passed = e.passed + 1 := by
 have h1 := validWait_passed h
 have h2 : e.passed < 3 := by unfold over at ho; simp at ho; exact ho.2
 have h3 : (bump e).passed = e.passed + 1 := by unfold bump; simp only; rw [wrap_id (by omega) (by omega)]
 refine ⟨?_, h3⟩
 unfold f_line_ValidWait at h ⊢
 simp only [Bool.and_eq_true, decide_eq_true_eq] at h ⊢
 rw [h3]
 exact ⟨⟨h.1.1, by omega⟩, by omega⟩
theorem map_proc_ins (l : List Wait) (w : Wait) (n : Nat) : (insAt l w n).map (·.proc) = (l.take n).map (·.proc) ++ w.proc :: (l.drop n).map (·.proc) := by
 unfold insAt
 rw [List.map_append, List.map_cons, List.map_map]
 rfl
theorem validL_ins {l : List Wait} {w : Wait} (h : validL l = true) (hw : f_line_ValidWait w = true) (hne : ∀ e ∈ l, e.proc ≠ w.proc) (hl : l.length < 8) : validL (insAt l w (placeI l w l.length)) = true := by
 rw [validL_iff] at h ⊢
 have hn := placeI_le l w l.length
 have ho := fun e => over_drop (l := l) (w := w) (e := e)
 generalize placeI l w l.length = n at hn ho
 refine ⟨by simp [insAt]; omega, fun e he => ?_, ?_⟩
 ·simp only [insAt, List.mem_append, List.mem_cons, List.mem_map] at he
  rcases he with he | rfl | ⟨x, hx, rfl⟩
  ·exact h.2.1 e (List.mem_of_mem_take he)
  ·exact hw
  ·exact (validWait_bump (h.2.1 x (List.mem_of_mem_drop hx)) (ho x hx)).1
 ·rw [map_proc_ins]
  have h3 := h.2.2
  rw [← List.take_append_drop n l, List.map_append] at h3
  have hin : w.proc ∉ (l.take n).map (·.proc) ++ (l.drop n).map (·.proc) := by
   rw [← List.map_append, List.take_append_drop]
   intro hm
   obtain ⟨x, hx, he⟩ := List.mem_map.1 hm
   exact hne x hx he
  exact (List.perm_middle.nodup_iff).2 (List.nodup_cons.2 ⟨hin, h3⟩)
end Ab
end Go.Proofs.YtdflfohpemfeiaaGreatDoor
