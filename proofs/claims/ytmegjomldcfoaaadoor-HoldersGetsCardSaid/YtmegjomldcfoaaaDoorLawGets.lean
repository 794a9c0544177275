/-
  HoldersGets returns true for every input (Get returns what Set has put, and for all others what it was); no condition.
-/
import Derived.Test.YtmegjomldcfoaaaDoorHoldE
import Derived.Test.YtmegjomldcfoaaaDoorDoor
import Derived.Test.YtmegjomldcfoaaaDoorCards
import Derived.Test.YtmegjomldcfoaaaDoorTie
import Derived.Deep.DeepHandedRow
namespace Go.Proofs.YtmegjomldcfoaaaDoor
namespace Ab
open Go.ChangeShapes Go.WideShapes Go.ChangeAt Go.RowKit
set_option linter.unusedVariables false
theorem Tryd.own : ownKnob Tryd.prog.godebug = none := by kernel_rfl
theorem Tryd.laidOut : laidOutB Tryd.prog = true := by kernel_rfl
theorem tab0_num : Tryd.prog.globalNamed "clusterlocks/mode.together" = some 0 := by kernel_rfl
theorem tab0_type : (Tryd.prog.globals[0]?).map (·.type) = some 76 := by kernel_rfl
theorem tab0_lits : Lits Tryd.prog 76 := lits_array (n := 5) (sz := 5) Tryd.underlying76 (by kernel_rfl) (by kernel_rfl) (lits_array (n := 5) (sz := 1) Tryd.underlying75 (by kernel_rfl) (by kernel_rfl) (lits_bool Tryd.underlying4))
theorem tab0_is : lits (Rows.laid_clusterlocks_mode_together (H := Unit)) = some (Arr.enc (Arr.enc eB) glob_0) := by rfl
theorem reads_3 : Reads Tryd.prog 3 (eI .i64) (fun n : Int => IntKind.i64.min ≤ n ∧ n ≤ IntKind.i64.max) := reads_int Tryd.underlying3
theorem reads_37 : Reads Tryd.prog 37 (eL (eI .i64)) (fun l : List Int => l.length ≤ maxLen ∧ ∀ a ∈ l, (fun n : Int => IntKind.i64.min ≤ n ∧ n ≤ IntKind.i64.max) a) := reads_slice Tryd.underlying37 (sz := 1) (by kernel_rfl) (by omega) (fun _ => rfl) reads_3
theorem HoldersGets_contract (H : Type) (enc : TypeId × Value → H) (W : World) (base : Nat) (args : Array Value) (ds gs : List (DataW H)) (before : List MemPlace)
    (hval : ∀ (j : Nat) t v, Tryd.f9.params[j]? = some t → args[j]? = some v → Value.okWide Tryd.prog W .any base t v)
    (hW : DataW.Whole enc Tryd.prog Tryd.f9.params.toList Rows.holdersGetsSpec.vars false W args.toList ds gs before) (hL : laidMetH Tryd.prog Rows.holdersGetsRow.laid W) :
    Calls Tryd.prog 9 args W fun e W' => ∃ v, e = .returned v ∧ Rows.holdersGetsSpec.post enc Tryd.prog Tryd.f9 false true false false W args v W' := by
  have hW' := hW
  obtain ⟨p, q, hA0, hV, rfl, hfz, hnd⟩ := hW
  have hA : DataW.TrodAll enc Tryd.prog W 0 (fun _ => true) true Tryd.f9.params.toList args.toList ds p := hA0
  rw [Tryd.params9] at hA hval
  obtain ⟨v0, vs0, d0, ds0, p0, q0, hargs, rfl, rfl, h0, r0⟩ := trodAll_cons hA
  obtain ⟨v1, vs1, d1, ds1, p1, q1, rfl, rfl, rfl, h1, r1⟩ := trodAll_cons r0
  obtain ⟨v2, vs2, d2, ds2, p2, q2, rfl, rfl, rfl, h2, r2⟩ := trodAll_cons r1
  obtain ⟨v3, vs3, d3, ds3, p3, q3, rfl, rfl, rfl, h3, r3⟩ := trodAll_cons r2
  obtain ⟨v4, vs4, d4, ds4, p4, q4, rfl, rfl, rfl, h4, r4⟩ := trodAll_cons r3
  obtain ⟨rfl, rfl, rfl⟩ := trodAll_nil r4
  obtain rfl : args = #[v0, v1, v2, v3, v4] := by cases args; simp_all
  obtain ⟨rfl, rfl⟩ := trodVars_none hV
  obtain ⟨x0, o0, hv0⟩ := arg_one (f := fun x => .int .i64 x) reads_3 (fun _ => rfl) (one_int Tryd.underlying3 (hval 0 3 v0 rfl rfl)) h0
  obtain ⟨x1, o1, hv1⟩ := arg_one (f := fun x => .sl (x.map (eI .i64))) reads_37 (fun _ => rfl) (one_slice Tryd.underlying37 (hval 1 37 v1 rfl rfl)) h1
  obtain ⟨x2, o2, hv2⟩ := arg_one (f := fun x => .int .i64 x) reads_3 (fun _ => rfl) (one_int Tryd.underlying3 (hval 2 3 v2 rfl rfl)) h2
  obtain ⟨x3, o3, hv3⟩ := arg_one (f := fun x => .int .i64 x) reads_3 (fun _ => rfl) (one_int Tryd.underlying3 (hval 3 3 v3 rfl rfl)) h3
  obtain ⟨x4, o4, hv4⟩ := arg_one (f := fun x => .int .i64 x) reads_3 (fun _ => rfl) (one_int Tryd.underlying3 (hval 4 3 v4 rfl rfl)) h4
  refine law_post Tryd.laidOut (fun t ht => ?_) rfl (by kernel_rfl) Tryd.underlying4 hW' rfl ?_
  · rw [Tryd.params9] at ht
    simp only [List.mem_cons, List.not_mem_nil, or_false] at ht
    rcases ht with rfl | rfl | rfl | rfl | rfl
    all_goals exact ⟨by kernel_rfl, of_decide_eq_true (by kernel_rfl)⟩
  · have hp := law10_HoldersGets_ok x0 x1 x2 x3 x4 true (HoldersGets_true x0 x1 x2 x3 x4) W (fun _ => False) [v0, v1, v2, v3, v4] (glob_of_laid tab0_num tab0_type tab0_lits tab0_is hL) (fun b h => h.elim) rfl (fun i v a hv ha => ?_)
    · exact hp.mono fun e w' ⟨v, he, hk, hr⟩ => ⟨v, he, hk, hr.bool⟩
    · match i, hv, ha with
      | 0, hv, ha => cases hv; cases ha; exact hv0
      | 1, hv, ha => cases hv; cases ha; exact hv1
      | 2, hv, ha => cases hv; cases ha; exact hv2
      | 3, hv, ha => cases hv; cases ha; exact hv3
      | 4, hv, ha => cases hv; cases ha; exact hv4
      | i + 5, hv, ha => simp at hv
noncomputable def HoldersGets_world (os : Os) : World :=
  { World.holding Tryd.prog os ⟨#[], #[], []⟩ with heap := (World.holding Tryd.prog os ⟨#[], #[], []⟩).heap.modify 0 fun
      | .cells _ t frozen => .cells #[.bool true, .bool true, .bool true, .bool true, .bool false, .bool true, .bool true, .bool false, .bool false, .bool false, .bool true, .bool false, .bool true, .bool false, .bool false, .bool true, .bool false, .bool false, .bool false, .bool false, .bool false, .bool false, .bool false, .bool false, .bool false] t frozen
      | o => o }
theorem HoldersGets_met (os : Os) : laidMet Tryd.prog Rows.holdersGetsRow.laid ((HoldersGets_world os).forCall (fun _ _ => 0) ⟨#[], #[.int .i64 0, .slice none 0 0, .int .i64 0, .int .i64 0, .int .i64 0], []⟩).memory := laidMet_of_run' 8 (by kernel_rfl) (by kernel_rfl)
theorem HoldersGets_reads (os : Os) {H : Type} (enc : TypeId × Value → H) : ∃ x, DataW.whole enc Tryd.prog ((HoldersGets_world os).forCall (fun _ _ => 0) ⟨#[], #[.int .i64 0, .slice none 0 0, .int .i64 0, .int .i64 0, .int .i64 0], []⟩).memory Tryd.f9.params.toList Rows.holdersGetsSpec.vars false (#[.int .i64 0, .slice none 0 0, .int .i64 0, .int .i64 0, .int .i64 0] : Array Value).toList 8 = some x := Option.isSome_iff_exists.1 (by kernel_rfl)
set_option maxRecDepth 100000 in
theorem HoldersGets_lifted (os : Os) (started : os.Started) (H : Type) (enc : TypeId × Value → H) (F : Stop.Interp) :
    ReturnsInHanded {} Tryd.checked os 9 .any ((OpenSpec.ofChange Rows.holdersGetsSpec).preRow enc Tryd.prog Tryd.f9 Rows.holdersGetsRow.domain false Rows.holdersGetsRow.laid) (((OpenSpec.ofChange Rows.holdersGetsSpec).at F).post enc Tryd.prog Tryd.f9 false true false false) := by
  obtain ⟨x, hx⟩ := HoldersGets_reads os enc
  refine returnsInHanded_of_row (C := Tryd.checked) (s := OpenSpec.ofChange Rows.holdersGetsSpec) Tryd.own started (by kernel_rfl) Tryd.func9
    (witness_row_at (enc := enc) (C := Tryd.checked) false (HoldersGets_world os) #[.int .i64 0, .slice none 0 0, .int .i64 0, .int .i64 0, .int .i64 0] rfl (by kernel_rfl) (by kernel_rfl) (by kernel_rfl)
      (OpenSpec.preRow_of_cond 8 hx (by kernel_rfl) (fun k hk => by cases hk) (by kernel_rfl) (HoldersGets_met os))) ?_
  intro W base args ds gs before hval hW _ _ _ hL _ _
  exact HoldersGets_contract H enc W base args ds gs before hval hW hL
theorem HoldersGets_said : Rows.HoldersGetsSaid :=
  OpenClaim.holds_of_cond 9 Tryd.f9 rfl rfl rfl rfl rfl rfl rfl ⟨rfl, rfl, rfl, rfl, rfl⟩ rfl rfl rfl rfl rfl (by kernel_rfl) Tryd.func9 (by kernel_rfl)
    (of_decide_eq_true (by kernel_rfl)) (by unfold Func.isWrapper; first | (rw [if_pos (by decide +kernel)]; kernel_rfl) | (rw [if_neg (by decide +kernel)]; exact ⟨rfl, rfl⟩))
    (fun os started H enc _ F => by rw [OpenClaim.pre_eq_preRow]; exact HoldersGets_lifted os started H enc F)
theorem HoldersGets_plain (f : FuncId) (fn : Func) (hf : Tryd.pinned.checked.prog.funcNamed "clusterlocks/clusterlockslaw10.HoldersGets" = some f) (hfn : Tryd.pinned.checked.prog.funcs[f]? = some fn) :
    false = Tryd.pinned.checked.prog.looks [] ∧ ∀ (j : Nat) t, fn.params[j]? = some t → Tryd.pinned.checked.prog.wantsStandIn t = false := by
  obtain rfl : f = 9 := Option.some.inj ((show Tryd.prog.funcNamed "clusterlocks/clusterlockslaw10.HoldersGets" = some 9 by kernel_rfl).symm.trans hf) |>.symm
  obtain rfl : fn = Tryd.f9 := (Option.some.inj (Tryd.func9.symm.trans hfn)).symm
  refine ⟨by kernel_rfl, fun j t ht => ?_⟩
  rw [Tryd.params9] at ht
  have hm := Array.mem_of_getElem? ht
  simp at hm
  rcases hm with rfl | rfl | rfl | rfl | rfl
  all_goals first | exact (show Tryd.prog.wantsStandIn 3 = false by kernel_rfl) | exact (show Tryd.prog.wantsStandIn 37 = false by kernel_rfl)
theorem HoldersGets_holds : Rows.HoldersGetsCardSaid :=
  Claim7.holds_tied_plain_at .later [] _ _ _ _ HoldersGets_said (fun _ h => by cases h) (by kernel_rfl) (fun _ h => by cases h) holdersGets_row_tie rfl ⟨rfl, rfl⟩ (by kernel_rfl) rfl HoldersGets_plain (by kernel_rfl)
end Ab
end Go.Proofs.YtmegjomldcfoaaaDoor
