/-
  Empty queues of the mill's resources; removals one after the other.
-/
import Derived.Test.YtdflfohpemfeiaaGreatDoorQueS
import Derived.Test.YtdflfohpemfeiaaGreatDoorMillA
import Derived.Test.YtdflfohpemfeiaaGreatDoorQueJ
namespace Go.Proofs.YtdflfohpemfeiaaGreatDoor
namespace Ab
set_option linter.unusedVariables false
set_option linter.unusedSimpArgs false
theorem catL_valid (t : Tape) : ∀ r ∈ catL t, resV r = true := by
 intro r hr
 have w8 := nextV_range 8 (nextN 4 t) (by decide)
 have w3 := nextV_range 3 (nextN 6 t) (by decide)
 have hs := catL_shaped t r hr
 unfold resV
 rw [hs, Bool.true_and]
 have hm : ∀ u : Tape, (decide (0 ≤ nextV 4 u) && decide (nextV 4 u < 4)) = true := fun u => by
  have := nextV_range 4 u (by decide)
  simp; exact this
 unfold catL at hr
 simp only [List.mem_cons, List.not_mem_nil, or_false] at hr
 have n1 : nameOk ⟨#[97]⟩ = true := by decide +kernel
 have n2 : nameOk ⟨#[98]⟩ = true := by decide +kernel
 have n3 : nameOk ⟨#[99]⟩ = true := by decide +kernel
 have n4 : nameOk ⟨#[100]⟩ = true := by decide +kernel
 have n5 : nameOk ⟨#[112]⟩ = true := by decide +kernel
 have n6 : nameOk ⟨#[113]⟩ = true := by decide +kernel
 rcases hr with rfl | rfl | rfl | rfl | rfl | rfl <;> simp only [n1, n2, n3, n4, n5, n6, hm, Bool.and_self]
def emptyQ (r : Resource) : Queue := { Queue.zero with resource := r }
theorem res_shaped {r : Resource} (h : resV r = true) : f_amount_Shaped r = true := by
 unfold resV at h; simp only [Bool.and_eq_true] at h; exact h.2.1
theorem empty_sound {r : Resource} (h : resV r = true) : SoundP (emptyQ r) :=
 ⟨h, validH_nil (res_shaped h), by simp [emptyQ, Queue.zero], .nil, by simp [emptyQ, Queue.zero], by show validL [] = true; decide, by simp [emptyQ, Queue.zero], by simp [emptyQ, Queue.zero], by simp [emptyQ, Queue.zero]⟩
theorem empty_settled {r : Resource} (h : resV r = true) : settledQ (emptyQ r) = true := by
 rw [settled_iff]; exact ⟨empty_sound h, rfl⟩
theorem settled_shaped {q : Queue} (h : settledQ q = true) : f_amount_Shaped q.resource = true := res_shaped ((settled_iff q).1 h).1.res
theorem lightT {l : List Int} (h : f_mill_Light l = true) : l.length ≤ 1000000 := by have := light_len h; omega
theorem take_snoc {α : Type} {l : List α} {i : Nat} {z : α} (h : i < l.length) : l.take (i + 1) = l.take i ++ [l.getD i z] := by
 rw [List.take_succ_eq_append_getElem h, List.getD_eq_getElem?_getD, List.getElem?_eq_getElem h]; rfl
theorem settled_lens {q : Queue} (h : settledQ q = true) : q.holds.length ≤ 8 ∧ q.converts.length ≤ 8 ∧ q.waits.length ≤ 8 ∧ sizeQ q ≤ 16 := ((settled_iff q).1 h).1.lens
theorem same_settled {q : Queue} (h : settledQ q = true) : f_ref12_Same q q = some true := by
 have := settled_lens h
 rw [ref12_Same_eq _ _ (by omega) (by omega) (by omega)]; simp
theorem remN_body (q : Queue) (p : Proc) : (if decide ((removeS q p).2.2 = 0) = true then (removeS q p).1 else q) = remN q p := by
 unfold remN; by_cases h : (removeS q p).2.2 = 0 <;> simp [h]
theorem remS_snoc (q : Queue) (l : List Proc) (p : Proc) : remS q (l ++ [p]) = remN (remS q l) p := by unfold remS; rw [List.foldl_append]; rfl
theorem remove_snoc {q : Queue} (h : settledQ q = true) {p : Proc} (hp : hasQ q p = true) : (removeS q p).2.2 = 0 ∧ (removeS q p).1 = remN q p := by
 have e := remove_can h hp
 have h0 : (removeS q p).2.2 = 0 := by rw [e]; rfl
 refine ⟨h0, ?_⟩
 unfold remN; rw [if_pos h0]
theorem getD_notin_take {l : List Proc} (h : l.Nodup) {i : Nat} (hi : i < l.length) : l.getD i Proc.zero ∉ l.take i := by
 intro hm
 have e : l = l.take i ++ l.drop i := (List.take_append_drop i l).symm
 rw [e, List.nodup_append] at h
 have hd : l.getD i Proc.zero ∈ l.drop i := by rw [getD_drop l i Proc.zero hi]; exact .head _
 exact h.2.2 _ hm _ hd rfl
theorem getD_in {l : List Proc} {i : Nat} (hi : i < l.length) : l.getD i Proc.zero ∈ l := by
 rw [List.getD_eq_getElem?_getD, List.getElem?_eq_getElem hi]; exact List.getElem_mem hi
end Ab
end Go.Proofs.YtdflfohpemfeiaaGreatDoor
