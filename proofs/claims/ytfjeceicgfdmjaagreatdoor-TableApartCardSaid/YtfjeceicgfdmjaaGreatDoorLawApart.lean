/-
  TableApart returns true for every input (a claim of one resource changes no other queue); no condition.
-/
import Derived.Test.YtfjeceicgfdmjaaGreatDoorLtApart
import Derived.Test.YtfjeceicgfdmjaaGreatDoorDoor
import Derived.Test.YtfjeceicgfdmjaaGreatDoorCards
import Derived.Test.YtfjeceicgfdmjaaGreatDoorTie
import Derived.Test.YtfjeceicgfdmjaaGreatDoorHead
import Derived.Deep.DeepHandedRow
namespace Go.Proofs.YtfjeceicgfdmjaaGreatDoor
namespace Ab
open Go.ChangeShapes Go.WideShapes Go.ChangeAt Go.RowKit
set_option linter.unusedVariables false
theorem Tryz.own : ownKnob Tryz.prog.godebug = none := by kernel_rfl
theorem Tryz.laidOut : laidOutB Tryz.prog = true := by kernel_rfl
theorem tab0_num : Tryz.prog.globalNamed "clusterlocks/mode.together" = some 0 := by kernel_rfl
theorem tab0_type : (Tryz.prog.globals[0]?).map (·.type) = some 182 := by kernel_rfl
theorem tab0_lits : Lits Tryz.prog 182 := zar0 (n := 5) (sz := 5) Tryz.underlying182 (by kernel_rfl) (by kernel_rfl) (zar0 (n := 5) (sz := 1) Tryz.underlying181 (by kernel_rfl) (by kernel_rfl) (zbn8 Tryz.underlying4))
theorem tab0_is : lits (Rows.laid_clusterlocks_mode_together (H := Unit)) = some (Arr.enc (Arr.enc eB) zba0) := by rfl
theorem reads_3 : zaS4 Tryz.prog 3 (eI .i64) (fun n : Int => IntKind.i64.min ≤ n ∧ n ≤ IntKind.i64.max) := zbn6 Tryz.underlying3
theorem reads_42 : zaS4 Tryz.prog 42 (eL (eI .i64)) (fun l : List Int => l.length ≤ maxLen ∧ ∀ a ∈ l, (fun n : Int => IntKind.i64.min ≤ n ∧ n ≤ IntKind.i64.max) a) := zaS5 Tryz.underlying42 (sz := 1) (by kernel_rfl) (by omega) (fun _ => rfl) reads_3
set_option maxRecDepth 100000 in
theorem zaA9 (H : Type) (enc : TypeId × Value → H) (W : World) (base : Nat) (args : Array Value) (ds gs : List (DataW H)) (before : List MemPlace)
  (hval : ∀ (j : Nat) t v, Tryz.f5.params[j]? = some t → args[j]? = some v → Value.okWide Tryz.prog W .any base t v)
  (hW : DataW.Whole enc Tryz.prog Tryz.f5.params.toList Rows.tableApartSpec.vars false W args.toList ds gs before) (hL : laidMetH Tryz.prog Rows.tableApartRow.laid W) :
  Calls Tryz.prog 5 args W fun e W' => ∃ v, e = .returned v ∧ Rows.tableApartSpec.post enc Tryz.prog Tryz.f5 false true false false W args v W' := by
 have hW' := hW
 obtain ⟨p, q, hA0, hV, rfl, hfz, hnd⟩ := hW
 have hA : DataW.TrodAll enc Tryz.prog W 0 (fun _ => true) true Tryz.f5.params.toList args.toList ds p := hA0
 rw [Tryz.params5] at hA hval
 obtain ⟨v0, vs0, d0, ds0, p0, q0, hargs, rfl, rfl, h0, r0⟩ := trodAll_cons hA
 obtain ⟨v1, vs1, d1, ds1, p1, q1, rfl, rfl, rfl, h1, r1⟩ := trodAll_cons r0
 obtain ⟨v2, vs2, d2, ds2, p2, q2, rfl, rfl, rfl, h2, r2⟩ := trodAll_cons r1
 obtain ⟨v3, vs3, d3, ds3, p3, q3, rfl, rfl, rfl, h3, r3⟩ := trodAll_cons r2
 obtain ⟨v4, vs4, d4, ds4, p4, q4, rfl, rfl, rfl, h4, r4⟩ := trodAll_cons r3
 obtain ⟨rfl, rfl, rfl⟩ := trodAll_nil r4
 obtain rfl : args = #[v0, v1, v2, v3, v4] := by cases args; simp_all
 obtain ⟨rfl, rfl⟩ := trodVars_none hV
 obtain ⟨x0, o0, hv0⟩ := zaz3 (f := fun x => .sl (x.map (eI .i64))) reads_42 (fun _ => rfl) (zbn7 Tryz.underlying42 (hval 0 42 v0 rfl rfl)) h0
 obtain ⟨x1, o1, hv1⟩ := zaz3 (f := fun x => .int .i64 x) reads_3 (fun _ => rfl) (zaW0 Tryz.underlying3 (hval 1 3 v1 rfl rfl)) h1
 obtain ⟨x2, o2, hv2⟩ := zaz3 (f := fun x => .int .i64 x) reads_3 (fun _ => rfl) (zaW0 Tryz.underlying3 (hval 2 3 v2 rfl rfl)) h2
 obtain ⟨x3, o3, hv3⟩ := zaz3 (f := fun x => .int .i64 x) reads_3 (fun _ => rfl) (zaW0 Tryz.underlying3 (hval 3 3 v3 rfl rfl)) h3
 obtain ⟨x4, o4, hv4⟩ := zaz3 (f := fun x => .int .i64 x) reads_3 (fun _ => rfl) (zaW0 Tryz.underlying3 (hval 4 3 v4 rfl rfl)) h4
 refine zbz8 Tryz.laidOut (fun t ht => ?_) rfl (by kernel_rfl) Tryz.underlying4 hW' rfl ?_
 ·rw [Tryz.params5] at ht
  simp only [List.mem_cons, List.not_mem_nil, or_false] at ht
  rcases ht with rfl | rfl | rfl | rfl | rfl
  all_goals exact ⟨by kernel_rfl, of_decide_eq_true (by kernel_rfl)⟩
 ·have hp := zaA8 x0 x1 x2 x3 x4 true (zaU3 x0 x1 x2 x3 x4) W (fun _ => False) [v0, v1, v2, v3, v4] (zaK0 tab0_num tab0_type tab0_lits tab0_is hL) (fun b h => h.elim) rfl (fun i v a hv ha => ?_)
  ·exact hp.mono fun e w' ⟨v, he, hk, hr⟩ => ⟨v, he, hk, hr.bool⟩
  ·match i, hv, ha with
   | 0, hv, ha => cases hv; cases ha; exact hv0
   | 1, hv, ha => cases hv; cases ha; exact hv1
   | 2, hv, ha => cases hv; cases ha; exact hv2
   | 3, hv, ha => cases hv; cases ha; exact hv3
   | 4, hv, ha => cases hv; cases ha; exact hv4
   | i + 5, hv, ha => simp at hv
noncomputable def zZ4 (os : Os) : World :=
 { World.holding Tryz.prog os ⟨#[], #[], []⟩ with heap := (World.holding Tryz.prog os ⟨#[], #[], []⟩).heap.modify 0 fun
   | .cells _ t frozen => .cells #[.bool true, .bool true, .bool true, .bool true, .bool false, .bool true, .bool true, .bool false, .bool false, .bool false, .bool true, .bool false, .bool true, .bool false, .bool false, .bool true, .bool false, .bool false, .bool false, .bool false, .bool false, .bool false, .bool false, .bool false, .bool false] t frozen
   | o => o }
theorem zbh1 (os : Os) : laidMet Tryz.prog Rows.tableApartRow.laid ((zZ4 os).forCall (fun _ _ => 0) ⟨#[], #[.slice none 0 0, .int .i64 0, .int .i64 0, .int .i64 0, .int .i64 0], []⟩).memory := laidMet_of_run' 8 (by kernel_rfl) (by kernel_rfl)
theorem zaP7 (os : Os) {H : Type} (enc : TypeId × Value → H) : ∃ x, DataW.whole enc Tryz.prog ((zZ4 os).forCall (fun _ _ => 0) ⟨#[], #[.slice none 0 0, .int .i64 0, .int .i64 0, .int .i64 0, .int .i64 0], []⟩).memory Tryz.f5.params.toList Rows.tableApartSpec.vars false (#[.slice none 0 0, .int .i64 0, .int .i64 0, .int .i64 0, .int .i64 0] : Array Value).toList 8 = some x := Option.isSome_iff_exists.1 (by kernel_rfl)
set_option maxRecDepth 100000 in
theorem zaK4 (os : Os) (started : os.Started) (H : Type) (enc : TypeId × Value → H) (F : Stop.Interp) :
  ReturnsInHanded {} Tryz.checked os 5 .any ((OpenSpec.ofChange Rows.tableApartSpec).preRow enc Tryz.prog Tryz.f5 Rows.tableApartRow.domain false Rows.tableApartRow.laid) (((OpenSpec.ofChange Rows.tableApartSpec).at F).post enc Tryz.prog Tryz.f5 false true false false) := by
 obtain ⟨x, hx⟩ := zaP7 os enc
 refine returnsInHanded_of_row (C := Tryz.checked) (s := OpenSpec.ofChange Rows.tableApartSpec) Tryz.own started (by kernel_rfl) Tryz.func5
  (witness_row_at (enc := enc) (C := Tryz.checked) false (zZ4 os) #[.slice none 0 0, .int .i64 0, .int .i64 0, .int .i64 0, .int .i64 0] rfl (by kernel_rfl) (by kernel_rfl) (by kernel_rfl)
   (OpenSpec.preRow_of_cond 8 hx (by kernel_rfl) (fun k hk => by cases hk) (by kernel_rfl) (zbh1 os))) ?_
 intro W base args ds gs before hval hW _ _ _ hL _ _
 exact zaA9 H enc W base args ds gs before hval hW hL
set_option maxHeartbeats 8000000 in
theorem zaU4 : Rows.TableApartSaid :=
 OpenClaim.holds_of_cond 5 Tryz.f5 rfl rfl rfl rfl rfl rfl rfl ⟨rfl, rfl, rfl, rfl, rfl⟩ rfl rfl rfl rfl rfl (by as_aux_lemma => kernel_rfl) Tryz.func5 (by
   simp only [joinedFacts, Bool.and_eq_true]
   (repeat' apply And.intro)
   all_goals first | with_reducible exact zax9 | (rw [zao6]; kernel_rfl) | (rw [zbh0]; kernel_rfl) | (as_aux_lemma => kernel_rfl))
  (of_decide_eq_true (by kernel_rfl)) (by unfold Func.isWrapper; first | (rw [if_pos (by decide +kernel)]; kernel_rfl) | (rw [if_neg (by decide +kernel)]; exact ⟨rfl, rfl⟩))
  (fun os started H enc _ F => by rw [OpenClaim.pre_eq_preRow]; exact zaK4 os started H enc F)
theorem zaP8 (f : FuncId) (fn : Func) (hf : Tryz.pinned.checked.prog.funcNamed "clusterlocks/clusterlockslaw13.TableApart" = some f) (hfn : Tryz.pinned.checked.prog.funcs[f]? = some fn) :
  false = Tryz.pinned.checked.prog.looks [] ∧ ∀ (j : Nat) t, fn.params[j]? = some t → Tryz.pinned.checked.prog.wantsStandIn t = false := by
 obtain rfl : f = 5 := Option.some.inj ((show Tryz.prog.funcNamed "clusterlocks/clusterlockslaw13.TableApart" = some 5 by kernel_rfl).symm.trans hf) |>.symm
 obtain rfl : fn = Tryz.f5 := (Option.some.inj (Tryz.func5.symm.trans hfn)).symm
 refine ⟨by kernel_rfl, fun j t ht => ?_⟩
 rw [Tryz.params5] at ht
 have hm := Array.mem_of_getElem? ht
 simp at hm
 rcases hm with rfl | rfl | rfl | rfl | rfl
 all_goals first | with_reducible exact (show Tryz.pinned.checked.prog.wantsStandIn 3 = false by kernel_rfl) | with_reducible exact (show Tryz.pinned.checked.prog.wantsStandIn 42 = false by kernel_rfl)
theorem TableApart_holds : Rows.TableApartCardSaid :=
 Claim7.holds_tied_plain_at .later [] _ _ _ _ zaU4 (fun _ h => by cases h) (by as_aux_lemma => kernel_rfl) (fun _ h => by cases h) tableApart_row_tie rfl ⟨rfl, rfl⟩ (zaK2.trans (by kernel_rfl)) rfl zaP8 (by as_aux_lemma => kernel_rfl)
end Ab
end Go.Proofs.YtfjeceicgfdmjaaGreatDoor
