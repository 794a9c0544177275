/-
  The law QueueOrders in plain Lean: the order of removals does not matter, but for Gen.
-/
import Derived.Test.YtdflfohpemfeiaaGreatDoorQueN
import Derived.Test.YtdflfohpemfeiaaGreatDoorFlaw12QueueOrders
namespace Go.Proofs.YtdflfohpemfeiaaGreatDoor
namespace Ab
set_option linter.unusedVariables false
set_option linter.unusedSimpArgs false
theorem noG_same {a b : Queue} (ha : settledQ a = true) (h : noG a = noG b) : f_ref12_Same ({ a with gen := 0 }) ({ b with gen := 0 }) = some true := by
 have hl := settled_lens ha
 have h' : ({ a with gen := 0 } : Queue) = { b with gen := 0 } := h
 rw [ref12_Same_eq _ _ (by simp only; omega) (by simp only; omega) (by simp only; omega), decide_eq_true h']
theorem QueueOrders_true (n : Int) (l drop : List Int) : f_law12_QueueOrders n l drop = some true := by
 unfold f_law12_QueueOrders
 rw [awake12]
 by_cases hL : ((!(f_mill_Light l)) || (decide (8 < (drop.length : Int)))) = true
 ·rw [if_pos hL]; rfl
 ·rw [if_neg hL]
  simp only [Bool.not_eq_true, Bool.or_eq_false_iff, Bool.not_eq_false', decide_eq_false_iff_not] at hL
  have hl := lightT hL.1
  have hq := made_settled n l
  rw [law12_made_eq n l hl, Option.bind_some]
  generalize madeQ n l = q at hq
  obtain ⟨x, hx, hp⟩ := loop_rel (body := f_law12_QueueOrders_l1 drop) (fun g => ∃ i : Nat, i ≤ drop.length ∧ g = ((i : Int), remS q ((drop.take i).map procM), remS q ((drop.reverse.take i).map procM))) (fun g => drop.length - g.1.toNat)
   (fun x => x = (remS q (drop.map procM), remS q (drop.reverse.map procM))) (by
    rintro g ⟨i, hi, rfl⟩
    unfold f_law12_QueueOrders_l1
    by_cases hlt : i < drop.length
    ·left
     have h3 : 0 ≤ (i : Int) ∧ (i : Int) < (drop.length : Int) := by omega
     have w1 : IntKind.i64.wrap ((drop.length : Int) - 1) = (drop.length : Int) - 1 := wrap_id (by omega) (by omega)
     have w2 : IntKind.i64.wrap ((drop.length : Int) - 1 - (i : Int)) = ((drop.length - 1 - i : Nat) : Int) := by rw [wrap_id (by omega) (by omega)]; omega
     have hrev : drop.getD (drop.length - 1 - i) 0 = drop.reverse.getD i 0 := by
      rw [List.getD_eq_getElem?_getD, List.getD_eq_getElem?_getD, List.getElem?_reverse hlt]
     have k2 : ∀ a : Queue, f_law12_QueueOrders_k2 drop ((i : Int), remS q ((drop.take i).map procM), remS q ((drop.reverse.take i).map procM)) a = some (.inl (((i + 1 : Nat) : Int), a, remN (remS q ((drop.reverse.take i).map procM)) (procM (drop.reverse.getD i 0)))) := fun a => by
      unfold f_law12_QueueOrders_k2
      simp only [w1, w2, wrap_succ i (by omega), Int.toNat_natCast]
      rw [gd_pos (by omega), mill_Proc_eq, Option.bind_some, queue_Remove_eq, Option.bind_some, hrev, ← remN_body]
      split <;> rfl
     simp only [h3.1, h3.2, and_self, gd_true, decide_true, if_true, Int.toNat_natCast, mill_Proc_eq, Option.bind_some, queue_Remove_eq, k2]
     refine ⟨(((i + 1 : Nat) : Int), remS q ((drop.take (i + 1)).map procM), remS q ((drop.reverse.take (i + 1)).map procM)), ?_, ⟨i + 1, by omega, rfl⟩, by simp only [Int.toNat_natCast]; omega⟩
     rw [take_snoc (z := 0) hlt, take_snoc (l := drop.reverse) (z := 0) (by rw [List.length_reverse]; exact hlt), List.map_append, List.map_append, List.map_cons, List.map_nil, List.map_cons, List.map_nil, remS_snoc, remS_snoc, ← remN_body (remS q ((drop.take i).map procM))]
     split <;> rfl
    ·right
     have : i = drop.length := by omega
     subst this
     refine ⟨_, by rw [if_neg (by simp)], ?_⟩
     simp only
     rw [List.take_length, List.take_of_length_le (by rw [List.length_reverse]; exact Nat.le_refl _)]) (0, q, q) ⟨0, by omega, by simp [remS]⟩
  rw [hx, Option.bind_some, hp]
  unfold f_law12_QueueOrders_k1
  rw [awake12]
  simp only [Option.bind_some, if_true]
  rw [noG_same (remS_settled _ hq) (remS_perm hq ((List.reverse_perm drop).symm.map procM))]
  rfl
end Ab
end Go.Proofs.YtdflfohpemfeiaaGreatDoor
