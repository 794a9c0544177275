/-
  The events of a removal tell what it did; no condition.
-/
import Derived.Test.YtfjeceicgfdmjaaGreatDoorLtEvents
import Derived.Test.YtfjeceicgfdmjaaGreatDoorDoor
import Derived.Test.YtfjeceicgfdmjaaGreatDoorCards
import Derived.Test.YtfjeceicgfdmjaaGreatDoorTie
import Derived.Test.YtfjeceicgfdmjaaGreatDoorHead
import Derived.Deep.DeepHandedRow
namespace Go.Proofs.YtfjeceicgfdmjaaGreatDoor
namespace Ab
open Go.ChangeShapes Go.WideShapes Go.ChangeAt Go.RowKit
set_option linter.unusedVariables false
theorem Tryz.own : ownKnob Tryz.prog.godebug = none := by kernel_rfl
theorem Tryz.laidOut : laidOutB Tryz.prog = true := by kernel_rfl
theorem zcg8 : Tryz.prog.globalNamed "clusterlocks/mode.together" = some 0 := by kernel_rfl
theorem zbM0 : (Tryz.prog.globals[0]?).map (·.type) = some 182 := by kernel_rfl
theorem zbM1 : Lits Tryz.prog 182 := zbd8 (n := 5) (sz := 5) Tryz.underlying182 (by kernel_rfl) (by kernel_rfl) (zbd8 (n := 5) (sz := 1) Tryz.underlying181 (by kernel_rfl) (by kernel_rfl) (zbL8 Tryz.underlying4))
theorem zcl3 : lits (Rows.laid_clusterlocks_mode_together (H := Unit)) = some (Arr.enc (Arr.enc eB) zbm6) := by rfl
theorem zbG5 : zbk3 Tryz.prog 3 (eI .i64) (fun n : Int => IntKind.i64.min ≤ n ∧ n ≤ IntKind.i64.max) := zbL5 Tryz.underlying3
theorem zcg9 : zbk3 Tryz.prog 42 (eL (eI .i64)) (fun l : List Int => l.length ≤ maxLen ∧ ∀ a ∈ l, (fun n : Int => IntKind.i64.min ≤ n ∧ n ≤ IntKind.i64.max) a) := zby7 Tryz.underlying42 (sz := 1) (by kernel_rfl) (by omega) (fun _ => rfl) zbG5
set_option maxRecDepth 100000 in
theorem zaw8 (H : Type) (enc : TypeId × Value → H) (W : World) (base : Nat) (args : Array Value) (ds gs : List (DataW H)) (before : List MemPlace)
  (hval : ∀ (j : Nat) t v, Tryz.f7.params[j]? = some t → args[j]? = some v → Value.okWide Tryz.prog W .any base t v)
  (hW : DataW.Whole enc Tryz.prog Tryz.f7.params.toList Rows.tableEventsSpec.vars false W args.toList ds gs before) (hL : laidMetH Tryz.prog Rows.tableEventsRow.laid W) :
  Calls Tryz.prog 7 args W fun e W' => ∃ v, e = .returned v ∧ Rows.tableEventsSpec.post enc Tryz.prog Tryz.f7 false true false false W args v W' := by
 have hW' := hW
 obtain ⟨p, q, hA0, hV, rfl, hfz, hnd⟩ := hW
 have hA : DataW.TrodAll enc Tryz.prog W 0 (fun _ => true) true Tryz.f7.params.toList args.toList ds p := hA0
 rw [Tryz.params7] at hA hval
 obtain ⟨v0, vs0, d0, ds0, p0, q0, hargs, rfl, rfl, h0, r0⟩ := trodAll_cons hA
 obtain ⟨v1, vs1, d1, ds1, p1, q1, rfl, rfl, rfl, h1, r1⟩ := trodAll_cons r0
 obtain ⟨rfl, rfl, rfl⟩ := trodAll_nil r1
 obtain rfl : args = #[v0, v1] := by cases args; simp_all
 obtain ⟨rfl, rfl⟩ := trodVars_none hV
 obtain ⟨x0, o0, hv0⟩ := zbG3 (f := fun x => .sl (x.map (eI .i64))) zcg9 (fun _ => rfl) (zbL7 Tryz.underlying42 (hval 0 42 v0 rfl rfl)) h0
 obtain ⟨x1, o1, hv1⟩ := zbG3 (f := fun x => .int .i64 x) zbG5 (fun _ => rfl) (zcl2 Tryz.underlying3 (hval 1 3 v1 rfl rfl)) h1
 refine zcg6 Tryz.laidOut (fun t ht => ?_) rfl (by kernel_rfl) Tryz.underlying4 hW' rfl ?_
 ·rw [Tryz.params7] at ht
  simp only [List.mem_cons, List.not_mem_nil, or_false] at ht
  rcases ht with rfl | rfl
  all_goals exact ⟨by kernel_rfl, of_decide_eq_true (by kernel_rfl)⟩
 ·have hp := zaw6 x0 x1 true (zaN0 x0 x1) W (fun _ => False) [v0, v1] (zbq0 zcg8 zbM0 zbM1 zcl3 hL) (fun b h => h.elim) rfl (fun i v a hv ha => ?_)
  ·exact hp.mono fun e w' ⟨v, he, hk, hr⟩ => ⟨v, he, hk, hr.bool⟩
  ·match i, hv, ha with
   | 0, hv, ha => cases hv; cases ha; exact hv0
   | 1, hv, ha => cases hv; cases ha; exact hv1
   | i + 2, hv, ha => simp at hv
noncomputable def zV5 (os : Os) : World :=
 { World.holding Tryz.prog os ⟨#[], #[], []⟩ with heap := (World.holding Tryz.prog os ⟨#[], #[], []⟩).heap.modify 0 fun
   | .cells _ t frozen => .cells #[.bool true, .bool true, .bool true, .bool true, .bool false, .bool true, .bool true, .bool false, .bool false, .bool false, .bool true, .bool false, .bool true, .bool false, .bool false, .bool true, .bool false, .bool false, .bool false, .bool false, .bool false, .bool false, .bool false, .bool false, .bool false] t frozen
   | o => o }
theorem zaR9 (os : Os) : laidMet Tryz.prog Rows.tableEventsRow.laid ((zV5 os).forCall (fun _ _ => 0) ⟨#[], #[.slice none 0 0, .int .i64 0], []⟩).memory := laidMet_of_run' 8 (by kernel_rfl) (by kernel_rfl)
theorem zaI0 (os : Os) {H : Type} (enc : TypeId × Value → H) : ∃ x, DataW.whole enc Tryz.prog ((zV5 os).forCall (fun _ _ => 0) ⟨#[], #[.slice none 0 0, .int .i64 0], []⟩).memory Tryz.f7.params.toList Rows.tableEventsSpec.vars false (#[.slice none 0 0, .int .i64 0] : Array Value).toList 8 = some x := Option.isSome_iff_exists.1 (by kernel_rfl)
set_option maxRecDepth 100000 in
theorem zaE2 (os : Os) (started : os.Started) (H : Type) (enc : TypeId × Value → H) (F : Stop.Interp) :
  ReturnsInHanded {} Tryz.checked os 7 .any ((OpenSpec.ofChange Rows.tableEventsSpec).preRow enc Tryz.prog Tryz.f7 Rows.tableEventsRow.domain false Rows.tableEventsRow.laid) (((OpenSpec.ofChange Rows.tableEventsSpec).at F).post enc Tryz.prog Tryz.f7 false true false false) := by
 obtain ⟨x, hx⟩ := zaI0 os enc
 refine returnsInHanded_of_row (C := Tryz.checked) (s := OpenSpec.ofChange Rows.tableEventsSpec) Tryz.own started (by kernel_rfl) Tryz.func7
  (witness_row_at (enc := enc) (C := Tryz.checked) false (zV5 os) #[.slice none 0 0, .int .i64 0] rfl (by kernel_rfl) (by kernel_rfl) (by kernel_rfl)
   (OpenSpec.preRow_of_cond 8 hx (by kernel_rfl) (fun k hk => by cases hk) (by kernel_rfl) (zaR9 os))) ?_
 intro W base args ds gs before hval hW _ _ _ hL _ _
 exact zaw8 H enc W base args ds gs before hval hW hL
set_option maxHeartbeats 8000000 in
theorem zaN2 : Rows.TableEventsSaid :=
 OpenClaim.holds_of_cond 7 Tryz.f7 rfl rfl rfl rfl rfl rfl rfl ⟨rfl, rfl, rfl, rfl, rfl⟩ rfl rfl rfl rfl rfl (by as_aux_lemma => kernel_rfl) Tryz.func7 (by
   simp only [joinedFacts, Bool.and_eq_true]
   (repeat' apply And.intro)
   all_goals first | with_reducible exact zbe0 | (rw [zaN1]; kernel_rfl) | (rw [zbD0]; kernel_rfl) | (as_aux_lemma => kernel_rfl))
  (of_decide_eq_true (by kernel_rfl)) (by unfold Func.isWrapper; first | (rw [if_pos (by decide +kernel)]; kernel_rfl) | (rw [if_neg (by decide +kernel)]; exact ⟨rfl, rfl⟩))
  (fun os started H enc _ F => by rw [OpenClaim.pre_eq_preRow]; exact zaE2 os started H enc F)
theorem zaI1 (f : FuncId) (fn : Func) (hf : Tryz.pinned.checked.prog.funcNamed "clusterlocks/clusterlockslaw13.TableEvents" = some f) (hfn : Tryz.pinned.checked.prog.funcs[f]? = some fn) :
  false = Tryz.pinned.checked.prog.looks [] ∧ ∀ (j : Nat) t, fn.params[j]? = some t → Tryz.pinned.checked.prog.wantsStandIn t = false := by
 obtain rfl : f = 7 := Option.some.inj ((show Tryz.prog.funcNamed "clusterlocks/clusterlockslaw13.TableEvents" = some 7 by kernel_rfl).symm.trans hf) |>.symm
 obtain rfl : fn = Tryz.f7 := (Option.some.inj (Tryz.func7.symm.trans hfn)).symm
 refine ⟨by kernel_rfl, fun j t ht => ?_⟩
 rw [Tryz.params7] at ht
 have hm := Array.mem_of_getElem? ht
 simp at hm
 rcases hm with rfl | rfl
 all_goals first | with_reducible exact (show Tryz.pinned.checked.prog.wantsStandIn 3 = false by kernel_rfl) | with_reducible exact (show Tryz.pinned.checked.prog.wantsStandIn 42 = false by kernel_rfl)
theorem TableEvents_holds : Rows.TableEventsCardSaid :=
 Claim7.holds_tied_plain_at .later [] _ _ _ _ zaN2 (fun _ h => by cases h) (by as_aux_lemma => kernel_rfl) (fun _ h => by cases h) tableEvents_row_tie rfl ⟨rfl, rfl⟩ (zbq1.trans (by kernel_rfl)) rfl zaI1 (by as_aux_lemma => kernel_rfl)
end Ab
end Go.Proofs.YtfjeceicgfdmjaaGreatDoor
