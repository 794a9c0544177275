/-
  QueueOvertakes returns true for every input (in any script no waiting claim is overtaken more than MaxPass times by later ones); no condition.
-/
import Derived.Test.YtdflfohpemfeiaaGreatDoorLqOvertakes
import Derived.Test.YtdflfohpemfeiaaGreatDoorDoor
import Derived.Test.YtdflfohpemfeiaaGreatDoorCards
import Derived.Test.YtdflfohpemfeiaaGreatDoorTie
import Derived.Test.YtdflfohpemfeiaaGreatDoorHead
import Derived.Deep.DeepHandedRow
namespace Go.Proofs.YtdflfohpemfeiaaGreatDoor
namespace Ab
open Go.ChangeShapes Go.WideShapes Go.ChangeAt Go.RowKit
set_option linter.unusedVariables false
theorem Tryz.own : ownKnob Tryz.prog.godebug = none := by kernel_rfl
theorem Tryz.laidOut : laidOutB Tryz.prog = true := by kernel_rfl
theorem tab0_num : Tryz.prog.globalNamed "clusterlocks/mode.together" = some 0 := by kernel_rfl
theorem tab0_type : (Tryz.prog.globals[0]?).map (·.type) = some 139 := by kernel_rfl
theorem tab0_lits : Lits Tryz.prog 139 := lits_array (n := 5) (sz := 5) Tryz.underlying139 (by kernel_rfl) (by kernel_rfl) (lits_array (n := 5) (sz := 1) Tryz.underlying138 (by kernel_rfl) (by kernel_rfl) (lits_bool Tryz.underlying4))
theorem tab0_is : lits (Rows.laid_clusterlocks_mode_together (H := Unit)) = some (Arr.enc (Arr.enc eB) glob_0) := by rfl
theorem reads_3 : Reads Tryz.prog 3 (eI .i64) (fun n : Int => IntKind.i64.min ≤ n ∧ n ≤ IntKind.i64.max) := reads_int Tryz.underlying3
theorem reads_42 : Reads Tryz.prog 42 (eL (eI .i64)) (fun l : List Int => l.length ≤ maxLen ∧ ∀ a ∈ l, (fun n : Int => IntKind.i64.min ≤ n ∧ n ≤ IntKind.i64.max) a) := reads_slice Tryz.underlying42 (sz := 1) (by kernel_rfl) (by omega) (fun _ => rfl) reads_3
set_option maxRecDepth 100000 in
theorem QueueOvertakes_contract (H : Type) (enc : TypeId × Value → H) (W : World) (base : Nat) (args : Array Value) (ds gs : List (DataW H)) (before : List MemPlace)
    (hval : ∀ (j : Nat) t v, Tryz.f16.params[j]? = some t → args[j]? = some v → Value.okWide Tryz.prog W .any base t v)
    (hW : DataW.Whole enc Tryz.prog Tryz.f16.params.toList Rows.queueOvertakesSpec.vars false W args.toList ds gs before) (hL : laidMetH Tryz.prog Rows.queueOvertakesRow.laid W) :
    Calls Tryz.prog 16 args W fun e W' => ∃ v, e = .returned v ∧ Rows.queueOvertakesSpec.post enc Tryz.prog Tryz.f16 false true false false W args v W' := by
  have hW' := hW
  obtain ⟨p, q, hA0, hV, rfl, hfz, hnd⟩ := hW
  have hA : DataW.TrodAll enc Tryz.prog W 0 (fun _ => true) true Tryz.f16.params.toList args.toList ds p := hA0
  rw [Tryz.params16] at hA hval
  obtain ⟨v0, vs0, d0, ds0, p0, q0, hargs, rfl, rfl, h0, r0⟩ := trodAll_cons hA
  obtain ⟨v1, vs1, d1, ds1, p1, q1, rfl, rfl, rfl, h1, r1⟩ := trodAll_cons r0
  obtain ⟨rfl, rfl, rfl⟩ := trodAll_nil r1
  obtain rfl : args = #[v0, v1] := by cases args; simp_all
  obtain ⟨rfl, rfl⟩ := trodVars_none hV
  obtain ⟨x0, o0, hv0⟩ := arg_one (f := fun x => .int .i64 x) reads_3 (fun _ => rfl) (one_int Tryz.underlying3 (hval 0 3 v0 rfl rfl)) h0
  obtain ⟨x1, o1, hv1⟩ := arg_one (f := fun x => .sl (x.map (eI .i64))) reads_42 (fun _ => rfl) (one_slice Tryz.underlying42 (hval 1 42 v1 rfl rfl)) h1
  refine law_post Tryz.laidOut (fun t ht => ?_) rfl (by kernel_rfl) Tryz.underlying4 hW' rfl ?_
  · rw [Tryz.params16] at ht
    simp only [List.mem_cons, List.not_mem_nil, or_false] at ht
    rcases ht with rfl | rfl
    all_goals exact ⟨by kernel_rfl, of_decide_eq_true (by kernel_rfl)⟩
  · have hp := law12_QueueOvertakes_ok x0 x1 true (QueueOvertakes_true x0 x1) W (fun _ => False) [v0, v1] (glob_of_laid tab0_num tab0_type tab0_lits tab0_is hL) (fun b h => h.elim) rfl (fun i v a hv ha => ?_)
    · exact hp.mono fun e w' ⟨v, he, hk, hr⟩ => ⟨v, he, hk, hr.bool⟩
    · match i, hv, ha with
      | 0, hv, ha => cases hv; cases ha; exact hv0
      | 1, hv, ha => cases hv; cases ha; exact hv1
      | i + 2, hv, ha => simp at hv
noncomputable def QueueOvertakes_world (os : Os) : World :=
  { World.holding Tryz.prog os ⟨#[], #[], []⟩ with heap := (World.holding Tryz.prog os ⟨#[], #[], []⟩).heap.modify 0 fun
      | .cells _ t frozen => .cells #[.bool true, .bool true, .bool true, .bool true, .bool false, .bool true, .bool true, .bool false, .bool false, .bool false, .bool true, .bool false, .bool true, .bool false, .bool false, .bool true, .bool false, .bool false, .bool false, .bool false, .bool false, .bool false, .bool false, .bool false, .bool false] t frozen
      | o => o }
theorem QueueOvertakes_met (os : Os) : laidMet Tryz.prog Rows.queueOvertakesRow.laid ((QueueOvertakes_world os).forCall (fun _ _ => 0) ⟨#[], #[.int .i64 0, .slice none 0 0], []⟩).memory := laidMet_of_run' 8 (by kernel_rfl) (by kernel_rfl)
theorem QueueOvertakes_reads (os : Os) {H : Type} (enc : TypeId × Value → H) : ∃ x, DataW.whole enc Tryz.prog ((QueueOvertakes_world os).forCall (fun _ _ => 0) ⟨#[], #[.int .i64 0, .slice none 0 0], []⟩).memory Tryz.f16.params.toList Rows.queueOvertakesSpec.vars false (#[.int .i64 0, .slice none 0 0] : Array Value).toList 8 = some x := Option.isSome_iff_exists.1 (by kernel_rfl)
set_option maxRecDepth 100000 in
theorem QueueOvertakes_lifted (os : Os) (started : os.Started) (H : Type) (enc : TypeId × Value → H) (F : Stop.Interp) :
    ReturnsInHanded {} Tryz.checked os 16 .any ((OpenSpec.ofChange Rows.queueOvertakesSpec).preRow enc Tryz.prog Tryz.f16 Rows.queueOvertakesRow.domain false Rows.queueOvertakesRow.laid) (((OpenSpec.ofChange Rows.queueOvertakesSpec).at F).post enc Tryz.prog Tryz.f16 false true false false) := by
  obtain ⟨x, hx⟩ := QueueOvertakes_reads os enc
  refine returnsInHanded_of_row (C := Tryz.checked) (s := OpenSpec.ofChange Rows.queueOvertakesSpec) Tryz.own started (by kernel_rfl) Tryz.func16
    (witness_row_at (enc := enc) (C := Tryz.checked) false (QueueOvertakes_world os) #[.int .i64 0, .slice none 0 0] rfl (by kernel_rfl) (by kernel_rfl) (by kernel_rfl)
      (OpenSpec.preRow_of_cond 8 hx (by kernel_rfl) (fun k hk => by cases hk) (by kernel_rfl) (QueueOvertakes_met os))) ?_
  intro W base args ds gs before hval hW _ _ _ hL _ _
  exact QueueOvertakes_contract H enc W base args ds gs before hval hW hL
set_option maxHeartbeats 8000000 in
theorem QueueOvertakes_said : Rows.QueueOvertakesSaid :=
  OpenClaim.holds_of_cond 16 Tryz.f16 rfl rfl rfl rfl rfl rfl rfl ⟨rfl, rfl, rfl, rfl, rfl⟩ rfl rfl rfl rfl rfl (by as_aux_lemma => kernel_rfl) Tryz.func16 (by
      simp only [joinedFacts, Bool.and_eq_true]
      (repeat' apply And.intro)
      all_goals first | with_reducible exact head_mayEnter' | (rw [head_liftsFinal']; kernel_rfl) | (rw [head_make']; kernel_rfl) | (as_aux_lemma => kernel_rfl))
    (of_decide_eq_true (by kernel_rfl)) (by unfold Func.isWrapper; first | (rw [if_pos (by decide +kernel)]; kernel_rfl) | (rw [if_neg (by decide +kernel)]; exact ⟨rfl, rfl⟩))
    (fun os started H enc _ F => by rw [OpenClaim.pre_eq_preRow]; exact QueueOvertakes_lifted os started H enc F)
theorem QueueOvertakes_plain (f : FuncId) (fn : Func) (hf : Tryz.pinned.checked.prog.funcNamed "clusterlocks/clusterlockslaw12.QueueOvertakes" = some f) (hfn : Tryz.pinned.checked.prog.funcs[f]? = some fn) :
    false = Tryz.pinned.checked.prog.looks [] ∧ ∀ (j : Nat) t, fn.params[j]? = some t → Tryz.pinned.checked.prog.wantsStandIn t = false := by
  obtain rfl : f = 16 := Option.some.inj ((show Tryz.prog.funcNamed "clusterlocks/clusterlockslaw12.QueueOvertakes" = some 16 by kernel_rfl).symm.trans hf) |>.symm
  obtain rfl : fn = Tryz.f16 := (Option.some.inj (Tryz.func16.symm.trans hfn)).symm
  refine ⟨by kernel_rfl, fun j t ht => ?_⟩
  rw [Tryz.params16] at ht
  have hm := Array.mem_of_getElem? ht
  simp at hm
  rcases hm with rfl | rfl
  all_goals first | with_reducible exact (show Tryz.pinned.checked.prog.wantsStandIn 3 = false by kernel_rfl) | with_reducible exact (show Tryz.pinned.checked.prog.wantsStandIn 42 = false by kernel_rfl)
theorem QueueOvertakes_holds : Rows.QueueOvertakesCardSaid :=
  Claim7.holds_tied_plain_at .later [] _ _ _ _ QueueOvertakes_said (fun _ h => by cases h) (by as_aux_lemma => kernel_rfl) (fun _ h => by cases h) queueOvertakes_row_tie rfl ⟨rfl, rfl⟩ (head_mainIs'.trans (by kernel_rfl)) rfl QueueOvertakes_plain (by as_aux_lemma => kernel_rfl)
end Ab
end Go.Proofs.YtdflfohpemfeiaaGreatDoor
