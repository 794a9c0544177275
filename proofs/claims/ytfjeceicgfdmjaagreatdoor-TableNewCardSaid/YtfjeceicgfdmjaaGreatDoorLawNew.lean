/-
  What New returns; no condition.
-/
import Derived.Test.YtfjeceicgfdmjaaGreatDoorLtNew
import Derived.Test.YtfjeceicgfdmjaaGreatDoorDoor
import Derived.Test.YtfjeceicgfdmjaaGreatDoorCards
import Derived.Test.YtfjeceicgfdmjaaGreatDoorTie
import Derived.Test.YtfjeceicgfdmjaaGreatDoorHead
import Derived.Deep.DeepHandedRow
namespace Go.Proofs.YtfjeceicgfdmjaaGreatDoor
namespace Ab
open Go.ChangeShapes Go.WideShapes Go.ChangeAt Go.RowKit
set_option linter.unusedVariables false
theorem Tryz.own : ownKnob Tryz.prog.godebug = none := by kernel_rfl
theorem Tryz.laidOut : laidOutB Tryz.prog = true := by kernel_rfl
theorem tab0_num : Tryz.prog.globalNamed "clusterlocks/mode.together" = some 0 := by kernel_rfl
theorem tab0_type : (Tryz.prog.globals[0]?).map (·.type) = some 182 := by kernel_rfl
theorem tab0_lits : Lits Tryz.prog 182 := zW4 (n := 5) (sz := 5) Tryz.underlying182 (by kernel_rfl) (by kernel_rfl) (zW4 (n := 5) (sz := 1) Tryz.underlying181 (by kernel_rfl) (by kernel_rfl) (zaK5 Tryz.underlying4))
theorem tab0_is : lits (Rows.laid_clusterlocks_mode_together (H := Unit)) = some (Arr.enc (Arr.enc eB) zaG3) := by rfl
theorem reads_9 : zy0 Tryz.prog 9 eS (fun s : ByteArray => s.size ≤ maxLen) := zaK3 Tryz.underlying9
theorem reads_3 : zy0 Tryz.prog 3 (eI .i64) (fun n : Int => IntKind.i64.min ≤ n ∧ n ≤ IntKind.i64.max) := zaK2 Tryz.underlying3
def ok_Resource (x : Resource) : Prop := (fun s : ByteArray => s.size ≤ maxLen) x.name ∧ (fun n : Int => IntKind.i64.min ≤ n ∧ n ≤ IntKind.i64.max) x.kind ∧ (fun n : Int => IntKind.i64.min ≤ n ∧ n ≤ IntKind.i64.max) x.units ∧ (fun n : Int => IntKind.i64.min ≤ n ∧ n ≤ IntKind.i64.max) x.home
theorem reads_47 : zy0 Tryz.prog 47 Resource.enc ok_Resource := by
 intro H enc w base spare held fuel cs x h
 obtain ⟨xs, n, _, _, hlen, hxl, hf⟩ := DataW.trod_struct Tryz.underlying47 h
 have hlen : cs.length = 4 := hlen.trans (by kernel_rfl)
 obtain ⟨a0, o0, r0⟩ := fld (sz := 1) hf hxl 0 _ rfl (by kernel_rfl) reads_9
 obtain ⟨a1, o1, r1⟩ := fld (sz := 1) hf hxl 1 _ rfl (by kernel_rfl) reads_3
 obtain ⟨a2, o2, r2⟩ := fld (sz := 1) hf hxl 2 _ rfl (by kernel_rfl) reads_3
 obtain ⟨a3, o3, r3⟩ := fld (sz := 1) hf hxl 3 _ rfl (by kernel_rfl) reads_3
 refine ⟨⟨a0, a1, a2, a3⟩, ⟨o0, o1, o2, o3⟩, ?_⟩
 have e : cs = (cs.drop 0).take 1 ++ (cs.drop 1).take 1 ++ (cs.drop 2).take 1 ++ (cs.drop 3).take 1 := by
  rcases cs with _ | ⟨_, _ | ⟨_, _ | ⟨_, _ | ⟨_, _ | ⟨_, _⟩⟩⟩⟩⟩
  all_goals first | rfl | (simp at hlen)
 rw [e]
 exact RCs.append r3 (RCs.append r2 (RCs.append r1 (r0)))
theorem zbT8 : zy0 Tryz.prog 22 (eL Resource.enc) (fun l : List Resource => l.length ≤ maxLen ∧ ∀ a ∈ l, ok_Resource a) := zL4 Tryz.underlying22 (sz := 4) (by kernel_rfl) (by omega) (Resource.len) reads_47
set_option maxRecDepth 100000 in
theorem zaE6 (H : Type) (enc : TypeId × Value → H) (W : World) (base : Nat) (args : Array Value) (ds gs : List (DataW H)) (before : List MemPlace)
  (hval : ∀ (j : Nat) t v, Tryz.f3.params[j]? = some t → args[j]? = some v → Value.okWide Tryz.prog W .any base t v)
  (hW : DataW.Whole enc Tryz.prog Tryz.f3.params.toList Rows.tableNewSpec.vars false W args.toList ds gs before) (hL : laidMetH Tryz.prog Rows.tableNewRow.laid W) :
  Calls Tryz.prog 3 args W fun e W' => ∃ v, e = .returned v ∧ Rows.tableNewSpec.post enc Tryz.prog Tryz.f3 false true false false W args v W' := by
 have hW' := hW
 obtain ⟨p, q, hA0, hV, rfl, hfz, hnd⟩ := hW
 have hA : DataW.TrodAll enc Tryz.prog W 0 (fun _ => true) true Tryz.f3.params.toList args.toList ds p := hA0
 rw [Tryz.params3] at hA hval
 obtain ⟨v0, vs0, d0, ds0, p0, q0, hargs, rfl, rfl, h0, r0⟩ := trodAll_cons hA
 obtain ⟨rfl, rfl, rfl⟩ := trodAll_nil r0
 obtain rfl : args = #[v0] := by cases args; simp_all
 obtain ⟨rfl, rfl⟩ := trodVars_none hV
 obtain ⟨x0, o0, hv0⟩ := zaQ6 (f := fun x => .sl (x.map Resource.enc)) zbT8 (fun _ => rfl) (zaK4 Tryz.underlying22 (hval 0 22 v0 rfl rfl)) h0
 refine zba7 Tryz.laidOut (fun t ht => ?_) rfl (by kernel_rfl) Tryz.underlying4 hW' rfl ?_
 ·rw [Tryz.params3] at ht
  simp only [List.mem_cons, List.not_mem_nil, or_false] at ht
  rcases ht with rfl
  all_goals exact ⟨by kernel_rfl, of_decide_eq_true (by kernel_rfl)⟩
 ·have hp := zaE4 x0 true (zbc9 x0) W (fun _ => False) [v0] (zam8 tab0_num tab0_type tab0_lits tab0_is hL) (fun b h => h.elim) rfl (fun i v a hv ha => ?_)
  ·exact hp.mono fun e w' ⟨v, he, hk, hr⟩ => ⟨v, he, hk, hr.bool⟩
  ·match i, hv, ha with
   | 0, hv, ha => cases hv; cases ha; exact hv0
   | i + 1, hv, ha => simp at hv
noncomputable def zae6 (os : Os) : World :=
 { World.holding Tryz.prog os ⟨#[], #[], []⟩ with heap := (World.holding Tryz.prog os ⟨#[], #[], []⟩).heap.modify 0 fun
   | .cells _ t frozen => .cells #[.bool true, .bool true, .bool true, .bool true, .bool false, .bool true, .bool true, .bool false, .bool false, .bool false, .bool true, .bool false, .bool true, .bool false, .bool false, .bool true, .bool false, .bool false, .bool false, .bool false, .bool false, .bool false, .bool false, .bool false, .bool false] t frozen
   | o => o }
theorem zbl8 (os : Os) : laidMet Tryz.prog Rows.tableNewRow.laid ((zae6 os).forCall (fun _ _ => 0) ⟨#[], #[.slice none 0 0], []⟩).memory := laidMet_of_run' 8 (by kernel_rfl) (by kernel_rfl)
theorem zbb0 (os : Os) {H : Type} (enc : TypeId × Value → H) : ∃ x, DataW.whole enc Tryz.prog ((zae6 os).forCall (fun _ _ => 0) ⟨#[], #[.slice none 0 0], []⟩).memory Tryz.f3.params.toList Rows.tableNewSpec.vars false (#[.slice none 0 0] : Array Value).toList 8 = some x := Option.isSome_iff_exists.1 (by kernel_rfl)
set_option maxRecDepth 100000 in
theorem zaP0 (os : Os) (started : os.Started) (H : Type) (enc : TypeId × Value → H) (F : Stop.Interp) :
  ReturnsInHanded {} Tryz.checked os 3 .any ((OpenSpec.ofChange Rows.tableNewSpec).preRow enc Tryz.prog Tryz.f3 Rows.tableNewRow.domain false Rows.tableNewRow.laid) (((OpenSpec.ofChange Rows.tableNewSpec).at F).post enc Tryz.prog Tryz.f3 false true false false) := by
 obtain ⟨x, hx⟩ := zbb0 os enc
 refine returnsInHanded_of_row (C := Tryz.checked) (s := OpenSpec.ofChange Rows.tableNewSpec) Tryz.own started (by kernel_rfl) Tryz.func3
  (witness_row_at (enc := enc) (C := Tryz.checked) false (zae6 os) #[.slice none 0 0] rfl (by kernel_rfl) (by kernel_rfl) (by kernel_rfl)
   (OpenSpec.preRow_of_cond 8 hx (by kernel_rfl) (fun k hk => by cases hk) (by kernel_rfl) (zbl8 os))) ?_
 intro W base args ds gs before hval hW _ _ _ hL _ _
 exact zaE6 H enc W base args ds gs before hval hW hL
set_option maxHeartbeats 8000000 in
theorem zbd1 : Rows.TableNewSaid :=
 OpenClaim.holds_of_cond 3 Tryz.f3 rfl rfl rfl rfl rfl rfl rfl ⟨rfl, rfl, rfl, rfl, rfl⟩ rfl rfl rfl rfl rfl (by as_aux_lemma => kernel_rfl) Tryz.func3 (by
   simp only [joinedFacts, Bool.and_eq_true]
   (repeat' apply And.intro)
   all_goals first | with_reducible exact zae5 | (rw [zW5]; kernel_rfl) | (rw [zaA4]; kernel_rfl) | (as_aux_lemma => kernel_rfl))
  (of_decide_eq_true (by kernel_rfl)) (by unfold Func.isWrapper; first | (rw [if_pos (by decide +kernel)]; kernel_rfl) | (rw [if_neg (by decide +kernel)]; exact ⟨rfl, rfl⟩))
  (fun os started H enc _ F => by rw [OpenClaim.pre_eq_preRow]; exact zaP0 os started H enc F)
theorem zbb1 (f : FuncId) (fn : Func) (hf : Tryz.pinned.checked.prog.funcNamed "clusterlocks/clusterlockslaw13.TableNew" = some f) (hfn : Tryz.pinned.checked.prog.funcs[f]? = some fn) :
  false = Tryz.pinned.checked.prog.looks [] ∧ ∀ (j : Nat) t, fn.params[j]? = some t → Tryz.pinned.checked.prog.wantsStandIn t = false := by
 obtain rfl : f = 3 := Option.some.inj ((show Tryz.prog.funcNamed "clusterlocks/clusterlockslaw13.TableNew" = some 3 by kernel_rfl).symm.trans hf) |>.symm
 obtain rfl : fn = Tryz.f3 := (Option.some.inj (Tryz.func3.symm.trans hfn)).symm
 refine ⟨by kernel_rfl, fun j t ht => ?_⟩
 rw [Tryz.params3] at ht
 have hm := Array.mem_of_getElem? ht
 simp at hm
 rcases hm with rfl
 all_goals first | with_reducible exact (show Tryz.pinned.checked.prog.wantsStandIn 22 = false by kernel_rfl)
theorem TableNew_holds : Rows.TableNewCardSaid :=
 Claim7.holds_tied_plain_at .later [] _ _ _ _ zbd1 (fun _ h => by cases h) (by as_aux_lemma => kernel_rfl) (fun _ h => by cases h) tableNew_row_tie rfl ⟨rfl, rfl⟩ (zam9.trans (by kernel_rfl)) rfl zbb1 (by as_aux_lemma => kernel_rfl)
end Ab
end Go.Proofs.YtfjeceicgfdmjaaGreatDoor
