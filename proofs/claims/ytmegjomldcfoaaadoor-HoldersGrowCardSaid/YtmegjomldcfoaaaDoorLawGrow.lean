/-
  HoldersGrow returns true for every input (grants stay valid when each is made only where there is room); no condition.
-/
import Derived.Test.YtmegjomldcfoaaaDoorHoldE
import Derived.Test.YtmegjomldcfoaaaDoorDoor
import Derived.Test.YtmegjomldcfoaaaDoorCards
import Derived.Test.YtmegjomldcfoaaaDoorTie
import Derived.Deep.DeepHandedRow
namespace Go.Proofs.YtmegjomldcfoaaaDoor
namespace Ab
open Go.ChangeShapes Go.WideShapes Go.ChangeAt Go.RowKit
set_option linter.unusedVariables false
theorem Tryd.own : ownKnob Tryd.prog.godebug = none := by kernel_rfl
theorem Tryd.laidOut : laidOutB Tryd.prog = true := by kernel_rfl
theorem tab0_num : Tryd.prog.globalNamed "clusterlocks/mode.together" = some 0 := by kernel_rfl
theorem tab0_type : (Tryd.prog.globals[0]?).map (·.type) = some 76 := by kernel_rfl
theorem tab0_lits : Lits Tryd.prog 76 := lits_array (n := 5) (sz := 5) Tryd.underlying76 (by kernel_rfl) (by kernel_rfl) (lits_array (n := 5) (sz := 1) Tryd.underlying75 (by kernel_rfl) (by kernel_rfl) (lits_bool Tryd.underlying4))
theorem tab0_is : lits (Rows.laid_clusterlocks_mode_together (H := Unit)) = some (Arr.enc (Arr.enc eB) glob_0) := by rfl
theorem reads_3 : Reads Tryd.prog 3 (eI .i64) (fun n : Int => IntKind.i64.min ≤ n ∧ n ≤ IntKind.i64.max) := reads_int Tryd.underlying3
theorem reads_37 : Reads Tryd.prog 37 (eL (eI .i64)) (fun l : List Int => l.length ≤ maxLen ∧ ∀ a ∈ l, (fun n : Int => IntKind.i64.min ≤ n ∧ n ≤ IntKind.i64.max) a) := reads_slice Tryd.underlying37 (sz := 1) (by kernel_rfl) (by omega) (fun _ => rfl) reads_3
theorem HoldersGrow_contract (H : Type) (enc : TypeId × Value → H) (W : World) (base : Nat) (args : Array Value) (ds gs : List (DataW H)) (before : List MemPlace)
    (hval : ∀ (j : Nat) t v, Tryd.f8.params[j]? = some t → args[j]? = some v → Value.okWide Tryd.prog W .any base t v)
    (hW : DataW.Whole enc Tryd.prog Tryd.f8.params.toList Rows.holdersGrowSpec.vars false W args.toList ds gs before) (hL : laidMetH Tryd.prog Rows.holdersGrowRow.laid W) :
    Calls Tryd.prog 8 args W fun e W' => ∃ v, e = .returned v ∧ Rows.holdersGrowSpec.post enc Tryd.prog Tryd.f8 false true false false W args v W' := by
  have hW' := hW
  obtain ⟨p, q, hA0, hV, rfl, hfz, hnd⟩ := hW
  have hA : DataW.TrodAll enc Tryd.prog W 0 (fun _ => true) true Tryd.f8.params.toList args.toList ds p := hA0
  rw [Tryd.params8] at hA hval
  obtain ⟨v0, vs0, d0, ds0, p0, q0, hargs, rfl, rfl, h0, r0⟩ := trodAll_cons hA
  obtain ⟨v1, vs1, d1, ds1, p1, q1, rfl, rfl, rfl, h1, r1⟩ := trodAll_cons r0
  obtain ⟨rfl, rfl, rfl⟩ := trodAll_nil r1
  obtain rfl : args = #[v0, v1] := by cases args; simp_all
  obtain ⟨rfl, rfl⟩ := trodVars_none hV
  obtain ⟨x0, o0, hv0⟩ := arg_one (f := fun x => .int .i64 x) reads_3 (fun _ => rfl) (one_int Tryd.underlying3 (hval 0 3 v0 rfl rfl)) h0
  obtain ⟨x1, o1, hv1⟩ := arg_one (f := fun x => .sl (x.map (eI .i64))) reads_37 (fun _ => rfl) (one_slice Tryd.underlying37 (hval 1 37 v1 rfl rfl)) h1
  refine law_post Tryd.laidOut (fun t ht => ?_) rfl (by kernel_rfl) Tryd.underlying4 hW' rfl ?_
  · rw [Tryd.params8] at ht
    simp only [List.mem_cons, List.not_mem_nil, or_false] at ht
    rcases ht with rfl | rfl
    all_goals exact ⟨by kernel_rfl, of_decide_eq_true (by kernel_rfl)⟩
  · have hp := law10_HoldersGrow_ok x0 x1 true (HoldersGrow_true x0 x1) W (fun _ => False) [v0, v1] (glob_of_laid tab0_num tab0_type tab0_lits tab0_is hL) (fun b h => h.elim) rfl (fun i v a hv ha => ?_)
    · exact hp.mono fun e w' ⟨v, he, hk, hr⟩ => ⟨v, he, hk, hr.bool⟩
    · match i, hv, ha with
      | 0, hv, ha => cases hv; cases ha; exact hv0
      | 1, hv, ha => cases hv; cases ha; exact hv1
      | i + 2, hv, ha => simp at hv
noncomputable def HoldersGrow_world (os : Os) : World :=
  { World.holding Tryd.prog os ⟨#[], #[], []⟩ with heap := (World.holding Tryd.prog os ⟨#[], #[], []⟩).heap.modify 0 fun
      | .cells _ t frozen => .cells #[.bool true, .bool true, .bool true, .bool true, .bool false, .bool true, .bool true, .bool false, .bool false, .bool false, .bool true, .bool false, .bool true, .bool false, .bool false, .bool true, .bool false, .bool false, .bool false, .bool false, .bool false, .bool false, .bool false, .bool false, .bool false] t frozen
      | o => o }
theorem HoldersGrow_met (os : Os) : laidMet Tryd.prog Rows.holdersGrowRow.laid ((HoldersGrow_world os).forCall (fun _ _ => 0) ⟨#[], #[.int .i64 0, .slice none 0 0], []⟩).memory := laidMet_of_run' 8 (by kernel_rfl) (by kernel_rfl)
theorem HoldersGrow_reads (os : Os) {H : Type} (enc : TypeId × Value → H) : ∃ x, DataW.whole enc Tryd.prog ((HoldersGrow_world os).forCall (fun _ _ => 0) ⟨#[], #[.int .i64 0, .slice none 0 0], []⟩).memory Tryd.f8.params.toList Rows.holdersGrowSpec.vars false (#[.int .i64 0, .slice none 0 0] : Array Value).toList 8 = some x := Option.isSome_iff_exists.1 (by kernel_rfl)
set_option maxRecDepth 100000 in
theorem HoldersGrow_lifted (os : Os) (started : os.Started) (H : Type) (enc : TypeId × Value → H) (F : Stop.Interp) :
    ReturnsInHanded {} Tryd.checked os 8 .any ((OpenSpec.ofChange Rows.holdersGrowSpec).preRow enc Tryd.prog Tryd.f8 Rows.holdersGrowRow.domain false Rows.holdersGrowRow.laid) (((OpenSpec.ofChange Rows.holdersGrowSpec).at F).post enc Tryd.prog Tryd.f8 false true false false) := by
  obtain ⟨x, hx⟩ := HoldersGrow_reads os enc
  refine returnsInHanded_of_row (C := Tryd.checked) (s := OpenSpec.ofChange Rows.holdersGrowSpec) Tryd.own started (by kernel_rfl) Tryd.func8
    (witness_row_at (enc := enc) (C := Tryd.checked) false (HoldersGrow_world os) #[.int .i64 0, .slice none 0 0] rfl (by kernel_rfl) (by kernel_rfl) (by kernel_rfl)
      (OpenSpec.preRow_of_cond 8 hx (by kernel_rfl) (fun k hk => by cases hk) (by kernel_rfl) (HoldersGrow_met os))) ?_
  intro W base args ds gs before hval hW _ _ _ hL _ _
  exact HoldersGrow_contract H enc W base args ds gs before hval hW hL
theorem HoldersGrow_said : Rows.HoldersGrowSaid :=
  OpenClaim.holds_of_cond 8 Tryd.f8 rfl rfl rfl rfl rfl rfl rfl ⟨rfl, rfl, rfl, rfl, rfl⟩ rfl rfl rfl rfl rfl (by kernel_rfl) Tryd.func8 (by kernel_rfl)
    (of_decide_eq_true (by kernel_rfl)) (by unfold Func.isWrapper; first | (rw [if_pos (by decide +kernel)]; kernel_rfl) | (rw [if_neg (by decide +kernel)]; exact ⟨rfl, rfl⟩))
    (fun os started H enc _ F => by rw [OpenClaim.pre_eq_preRow]; exact HoldersGrow_lifted os started H enc F)
theorem HoldersGrow_plain (f : FuncId) (fn : Func) (hf : Tryd.pinned.checked.prog.funcNamed "clusterlocks/clusterlockslaw10.HoldersGrow" = some f) (hfn : Tryd.pinned.checked.prog.funcs[f]? = some fn) :
    false = Tryd.pinned.checked.prog.looks [] ∧ ∀ (j : Nat) t, fn.params[j]? = some t → Tryd.pinned.checked.prog.wantsStandIn t = false := by
  obtain rfl : f = 8 := Option.some.inj ((show Tryd.prog.funcNamed "clusterlocks/clusterlockslaw10.HoldersGrow" = some 8 by kernel_rfl).symm.trans hf) |>.symm
  obtain rfl : fn = Tryd.f8 := (Option.some.inj (Tryd.func8.symm.trans hfn)).symm
  refine ⟨by kernel_rfl, fun j t ht => ?_⟩
  rw [Tryd.params8] at ht
  have hm := Array.mem_of_getElem? ht
  simp at hm
  rcases hm with rfl | rfl
  all_goals first | exact (show Tryd.prog.wantsStandIn 3 = false by kernel_rfl) | exact (show Tryd.prog.wantsStandIn 37 = false by kernel_rfl)
theorem HoldersGrow_holds : Rows.HoldersGrowCardSaid :=
  Claim7.holds_tied_plain_at .later [] _ _ _ _ HoldersGrow_said (fun _ h => by cases h) (by kernel_rfl) (fun _ h => by cases h) holdersGrow_row_tie rfl ⟨rfl, rfl⟩ (by kernel_rfl) rfl HoldersGrow_plain (by kernel_rfl)
end Ab
end Go.Proofs.YtmegjomldcfoaaaDoor
