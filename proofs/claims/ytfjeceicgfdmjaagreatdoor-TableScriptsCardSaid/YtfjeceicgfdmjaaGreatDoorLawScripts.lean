/-
  TableScripts returns true for every input (what each step of any script returns and leaves of a table, which stays valid); no condition.
-/
import Derived.Test.YtfjeceicgfdmjaaGreatDoorLtScripts
import Derived.Test.YtfjeceicgfdmjaaGreatDoorDoor
import Derived.Test.YtfjeceicgfdmjaaGreatDoorCards
import Derived.Test.YtfjeceicgfdmjaaGreatDoorTie
import Derived.Test.YtfjeceicgfdmjaaGreatDoorHead
import Derived.Deep.DeepHandedRow
namespace Go.Proofs.YtfjeceicgfdmjaaGreatDoor
namespace Ab
open Go.ChangeShapes Go.WideShapes Go.ChangeAt Go.RowKit
set_option linter.unusedVariables false
theorem Tryz.own : ownKnob Tryz.prog.godebug = none := by kernel_rfl
theorem Tryz.laidOut : laidOutB Tryz.prog = true := by kernel_rfl
theorem tab0_num : Tryz.prog.globalNamed "clusterlocks/mode.together" = some 0 := by kernel_rfl
theorem tab0_type : (Tryz.prog.globals[0]?).map (·.type) = some 182 := by kernel_rfl
theorem tab0_lits : Lits Tryz.prog 182 := zar0 (n := 5) (sz := 5) Tryz.underlying182 (by kernel_rfl) (by kernel_rfl) (zar0 (n := 5) (sz := 1) Tryz.underlying181 (by kernel_rfl) (by kernel_rfl) (zbn8 Tryz.underlying4))
theorem tab0_is : lits (Rows.laid_clusterlocks_mode_together (H := Unit)) = some (Arr.enc (Arr.enc eB) zba0) := by rfl
theorem reads_3 : zaS4 Tryz.prog 3 (eI .i64) (fun n : Int => IntKind.i64.min ≤ n ∧ n ≤ IntKind.i64.max) := zbn6 Tryz.underlying3
theorem reads_42 : zaS4 Tryz.prog 42 (eL (eI .i64)) (fun l : List Int => l.length ≤ maxLen ∧ ∀ a ∈ l, (fun n : Int => IntKind.i64.min ≤ n ∧ n ≤ IntKind.i64.max) a) := zaS5 Tryz.underlying42 (sz := 1) (by kernel_rfl) (by omega) (fun _ => rfl) reads_3
set_option maxRecDepth 100000 in
theorem zas8 (H : Type) (enc : TypeId × Value → H) (W : World) (base : Nat) (args : Array Value) (ds gs : List (DataW H)) (before : List MemPlace)
  (hval : ∀ (j : Nat) t v, Tryz.f11.params[j]? = some t → args[j]? = some v → Value.okWide Tryz.prog W .any base t v)
  (hW : DataW.Whole enc Tryz.prog Tryz.f11.params.toList Rows.tableScriptsSpec.vars false W args.toList ds gs before) (hL : laidMetH Tryz.prog Rows.tableScriptsRow.laid W) :
  Calls Tryz.prog 11 args W fun e W' => ∃ v, e = .returned v ∧ Rows.tableScriptsSpec.post enc Tryz.prog Tryz.f11 false true false false W args v W' := by
 have hW' := hW
 obtain ⟨p, q, hA0, hV, rfl, hfz, hnd⟩ := hW
 have hA : DataW.TrodAll enc Tryz.prog W 0 (fun _ => true) true Tryz.f11.params.toList args.toList ds p := hA0
 rw [Tryz.params11] at hA hval
 obtain ⟨v0, vs0, d0, ds0, p0, q0, hargs, rfl, rfl, h0, r0⟩ := trodAll_cons hA
 obtain ⟨rfl, rfl, rfl⟩ := trodAll_nil r0
 obtain rfl : args = #[v0] := by cases args; simp_all
 obtain ⟨rfl, rfl⟩ := trodVars_none hV
 obtain ⟨x0, o0, hv0⟩ := zaz3 (f := fun x => .sl (x.map (eI .i64))) reads_42 (fun _ => rfl) (zbn7 Tryz.underlying42 (hval 0 42 v0 rfl rfl)) h0
 refine zbz8 Tryz.laidOut (fun t ht => ?_) rfl (by kernel_rfl) Tryz.underlying4 hW' rfl ?_
 ·rw [Tryz.params11] at ht
  simp only [List.mem_cons, List.not_mem_nil, or_false] at ht
  rcases ht with rfl
  all_goals exact ⟨by kernel_rfl, of_decide_eq_true (by kernel_rfl)⟩
 ·have hp := zas7 x0 true (zaJ9 x0) W (fun _ => False) [v0] (zaK0 tab0_num tab0_type tab0_lits tab0_is hL) (fun b h => h.elim) rfl (fun i v a hv ha => ?_)
  ·exact hp.mono fun e w' ⟨v, he, hk, hr⟩ => ⟨v, he, hk, hr.bool⟩
  ·match i, hv, ha with
   | 0, hv, ha => cases hv; cases ha; exact hv0
   | i + 1, hv, ha => simp at hv
noncomputable def zS7 (os : Os) : World :=
 { World.holding Tryz.prog os ⟨#[], #[], []⟩ with heap := (World.holding Tryz.prog os ⟨#[], #[], []⟩).heap.modify 0 fun
   | .cells _ t frozen => .cells #[.bool true, .bool true, .bool true, .bool true, .bool false, .bool true, .bool true, .bool false, .bool false, .bool false, .bool true, .bool false, .bool true, .bool false, .bool false, .bool true, .bool false, .bool false, .bool false, .bool false, .bool false, .bool false, .bool false, .bool false, .bool false] t frozen
   | o => o }
theorem zaP6 (os : Os) : laidMet Tryz.prog Rows.tableScriptsRow.laid ((zS7 os).forCall (fun _ _ => 0) ⟨#[], #[.slice none 0 0], []⟩).memory := laidMet_of_run' 8 (by kernel_rfl) (by kernel_rfl)
theorem zaF0 (os : Os) {H : Type} (enc : TypeId × Value → H) : ∃ x, DataW.whole enc Tryz.prog ((zS7 os).forCall (fun _ _ => 0) ⟨#[], #[.slice none 0 0], []⟩).memory Tryz.f11.params.toList Rows.tableScriptsSpec.vars false (#[.slice none 0 0] : Array Value).toList 8 = some x := Option.isSome_iff_exists.1 (by kernel_rfl)
set_option maxRecDepth 100000 in
theorem zaA7 (os : Os) (started : os.Started) (H : Type) (enc : TypeId × Value → H) (F : Stop.Interp) :
  ReturnsInHanded {} Tryz.checked os 11 .any ((OpenSpec.ofChange Rows.tableScriptsSpec).preRow enc Tryz.prog Tryz.f11 Rows.tableScriptsRow.domain false Rows.tableScriptsRow.laid) (((OpenSpec.ofChange Rows.tableScriptsSpec).at F).post enc Tryz.prog Tryz.f11 false true false false) := by
 obtain ⟨x, hx⟩ := zaF0 os enc
 refine returnsInHanded_of_row (C := Tryz.checked) (s := OpenSpec.ofChange Rows.tableScriptsSpec) Tryz.own started (by kernel_rfl) Tryz.func11
  (witness_row_at (enc := enc) (C := Tryz.checked) false (zS7 os) #[.slice none 0 0] rfl (by kernel_rfl) (by kernel_rfl) (by kernel_rfl)
   (OpenSpec.preRow_of_cond 8 hx (by kernel_rfl) (fun k hk => by cases hk) (by kernel_rfl) (zaP6 os))) ?_
 intro W base args ds gs before hval hW _ _ _ hL _ _
 exact zas8 H enc W base args ds gs before hval hW hL
set_option maxHeartbeats 8000000 in
theorem zaK3 : Rows.TableScriptsSaid :=
 OpenClaim.holds_of_cond 11 Tryz.f11 rfl rfl rfl rfl rfl rfl rfl ⟨rfl, rfl, rfl, rfl, rfl⟩ rfl rfl rfl rfl rfl (by as_aux_lemma => kernel_rfl) Tryz.func11 (by
   simp only [joinedFacts, Bool.and_eq_true]
   (repeat' apply And.intro)
   all_goals first | with_reducible exact zax9 | (rw [zao6]; kernel_rfl) | (rw [zbh0]; kernel_rfl) | (as_aux_lemma => kernel_rfl))
  (of_decide_eq_true (by kernel_rfl)) (by unfold Func.isWrapper; first | (rw [if_pos (by decide +kernel)]; kernel_rfl) | (rw [if_neg (by decide +kernel)]; exact ⟨rfl, rfl⟩))
  (fun os started H enc _ F => by rw [OpenClaim.pre_eq_preRow]; exact zaA7 os started H enc F)
theorem zaF1 (f : FuncId) (fn : Func) (hf : Tryz.pinned.checked.prog.funcNamed "clusterlocks/clusterlockslaw13.TableScripts" = some f) (hfn : Tryz.pinned.checked.prog.funcs[f]? = some fn) :
  false = Tryz.pinned.checked.prog.looks [] ∧ ∀ (j : Nat) t, fn.params[j]? = some t → Tryz.pinned.checked.prog.wantsStandIn t = false := by
 obtain rfl : f = 11 := Option.some.inj ((show Tryz.prog.funcNamed "clusterlocks/clusterlockslaw13.TableScripts" = some 11 by kernel_rfl).symm.trans hf) |>.symm
 obtain rfl : fn = Tryz.f11 := (Option.some.inj (Tryz.func11.symm.trans hfn)).symm
 refine ⟨by kernel_rfl, fun j t ht => ?_⟩
 rw [Tryz.params11] at ht
 have hm := Array.mem_of_getElem? ht
 simp at hm
 rcases hm with rfl
 all_goals first | with_reducible exact (show Tryz.pinned.checked.prog.wantsStandIn 42 = false by kernel_rfl)
theorem TableScripts_holds : Rows.TableScriptsCardSaid :=
 Claim7.holds_tied_plain_at .later [] _ _ _ _ zaK3 (fun _ h => by cases h) (by as_aux_lemma => kernel_rfl) (fun _ h => by cases h) tableScripts_row_tie rfl ⟨rfl, rfl⟩ (zaK2.trans (by kernel_rfl)) rfl zaF1 (by as_aux_lemma => kernel_rfl)
end Ab
end Go.Proofs.YtfjeceicgfdmjaaGreatDoor
