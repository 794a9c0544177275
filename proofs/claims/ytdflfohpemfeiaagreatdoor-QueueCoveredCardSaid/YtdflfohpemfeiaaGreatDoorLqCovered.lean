/-
  The law QueueCovered in plain Lean: a claim of what is held changes nothing.
-/
import Derived.Test.YtdflfohpemfeiaaGreatDoorQueN
import Derived.Test.YtdflfohpemfeiaaGreatDoorFlaw12QueueCovered
namespace Go.Proofs.YtdflfohpemfeiaaGreatDoor
namespace Ab
set_option linter.unusedVariables false
set_option linter.unusedSimpArgs false
theorem QueueCovered_true (n : Int) (l : List Int) (who what : Int) : f_law12_QueueCovered n l who what = some true := by
 unfold f_law12_QueueCovered
 rw [awake12]
 cases hL : f_mill_Light l with
 | false => rfl
 | true =>
  have hl := lightT hL
  have hq := made_settled n l
  have hlen := settled_lens hq
  rw [ifNT, law12_made_eq n l hl, Option.bind_some, mill_Proc_eq, Option.bind_some, mill_Amount_eq _ _ (settled_shaped hq), Option.bind_some, ref12_Wanted_eq _ _ (by omega) (by omega), Option.bind_some, ref12_Held_eq _ _ (by omega)]
  have hcv : f_ref04_Covers (madeQ n l).resource (getH (madeQ n l).holds (procM who)) (amtM (madeQ n l).resource what) = covA (madeQ n l).resource (getH (madeQ n l).holds (procM who)) (amtM (madeQ n l).resource what) := rfl
  cases hw : (wantQ (madeQ n l) (procM who)).2 with
  | true => rfl
  | false =>
   simp only [Bool.not_false, if_true, Option.bind_some, Bool.false_or, hcv]
   cases hc : covA (madeQ n l).resource (getH (madeQ n l).holds (procM who)) (amtM (madeQ n l).resource what) with
   | false => rfl
   | true =>
    have e : claimS (madeQ n l) (procM who) (amtM (madeQ n l).resource what) 0 = (madeQ n l, [], 0) := by
     unfold claimS
     have hok : okArg (procM who) 0 = true := by unfold okArg; rw [(procM_mill who).valid]; rfl
     rw [if_neg (by rw [hq]; decide), if_neg (by rw [hok]; decide), if_neg (by rw [amtM_fits _ _ (settled_shaped hq)]; decide), if_neg (by rw [hw]; decide), if_pos hc]
    simp only [Bool.not_true, Bool.false_eq_true, if_false, queue_Claim_eq, e, Option.bind_some, same_settled hq, List.length_nil, Int.natCast_zero, decide_true, Bool.and_self, if_true]
end Ab
end Go.Proofs.YtdflfohpemfeiaaGreatDoor
