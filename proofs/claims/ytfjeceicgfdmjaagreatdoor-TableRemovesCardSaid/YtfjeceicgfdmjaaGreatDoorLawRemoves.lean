/-
  What a removal and a purge leave; no condition.
-/
import Derived.Test.YtfjeceicgfdmjaaGreatDoorLtRemoves
import Derived.Test.YtfjeceicgfdmjaaGreatDoorDoor
import Derived.Test.YtfjeceicgfdmjaaGreatDoorCards
import Derived.Test.YtfjeceicgfdmjaaGreatDoorTie
import Derived.Test.YtfjeceicgfdmjaaGreatDoorHead
import Derived.Deep.DeepHandedRow
namespace Go.Proofs.YtfjeceicgfdmjaaGreatDoor
namespace Ab
open Go.ChangeShapes Go.WideShapes Go.ChangeAt Go.RowKit
set_option linter.unusedVariables false
theorem Tryz.own : ownKnob Tryz.prog.godebug = none := by kernel_rfl
theorem Tryz.laidOut : laidOutB Tryz.prog = true := by kernel_rfl
theorem zbP3 : Tryz.prog.globalNamed "clusterlocks/mode.together" = some 0 := by kernel_rfl
theorem zbz2 : (Tryz.prog.globals[0]?).map (·.type) = some 182 := by kernel_rfl
theorem zbz3 : Lits Tryz.prog 182 := zaV5 (n := 5) (sz := 5) Tryz.underlying182 (by kernel_rfl) (by kernel_rfl) (zaV5 (n := 5) (sz := 1) Tryz.underlying181 (by kernel_rfl) (by kernel_rfl) (zbz0 Tryz.underlying4))
theorem zbU0 : lits (Rows.laid_clusterlocks_mode_together (H := Unit)) = some (Arr.enc (Arr.enc eB) zbd8) := by rfl
theorem zbU1 : zQ8 Tryz.prog 9 eS (fun s : ByteArray => s.size ≤ maxLen) := zby7 Tryz.underlying9
theorem zK3 : zQ8 Tryz.prog 3 (eI .i64) (fun n : Int => IntKind.i64.min ≤ n ∧ n ≤ IntKind.i64.max) := zby6 Tryz.underlying3
def zaH6 (x : Resource) : Prop := (fun s : ByteArray => s.size ≤ maxLen) x.name ∧ (fun n : Int => IntKind.i64.min ≤ n ∧ n ≤ IntKind.i64.max) x.kind ∧ (fun n : Int => IntKind.i64.min ≤ n ∧ n ≤ IntKind.i64.max) x.units ∧ (fun n : Int => IntKind.i64.min ≤ n ∧ n ≤ IntKind.i64.max) x.home
theorem zbP4 : zQ8 Tryz.prog 47 Resource.enc zaH6 := by
 intro H enc w base spare held fuel cs x h
 obtain ⟨xs, n, _, _, hlen, hxl, hf⟩ := DataW.trod_struct Tryz.underlying47 h
 have hlen : cs.length = 4 := hlen.trans (by kernel_rfl)
 obtain ⟨a0, o0, r0⟩ := fld (sz := 1) hf hxl 0 _ rfl (by kernel_rfl) zbU1
 obtain ⟨a1, o1, r1⟩ := fld (sz := 1) hf hxl 1 _ rfl (by kernel_rfl) zK3
 obtain ⟨a2, o2, r2⟩ := fld (sz := 1) hf hxl 2 _ rfl (by kernel_rfl) zK3
 obtain ⟨a3, o3, r3⟩ := fld (sz := 1) hf hxl 3 _ rfl (by kernel_rfl) zK3
 refine ⟨⟨a0, a1, a2, a3⟩, ⟨o0, o1, o2, o3⟩, ?_⟩
 have e : cs = (cs.drop 0).take 1 ++ (cs.drop 1).take 1 ++ (cs.drop 2).take 1 ++ (cs.drop 3).take 1 := by
  rcases cs with _ | ⟨_, _ | ⟨_, _ | ⟨_, _ | ⟨_, _ | ⟨_, _⟩⟩⟩⟩⟩
  all_goals first | rfl | (simp at hlen)
 rw [e]
 exact RCs.append r3 (RCs.append r2 (RCs.append r1 (r0)))
def zbh3 (x : Proc) : Prop := (fun n : Int => IntKind.i64.min ≤ n ∧ n ≤ IntKind.i64.max) x.site ∧ (fun n : Int => IntKind.i64.min ≤ n ∧ n ≤ IntKind.i64.max) x.inc ∧ (fun n : Int => IntKind.i64.min ≤ n ∧ n ≤ IntKind.i64.max) x.num
theorem zaV8 : zQ8 Tryz.prog 31 Proc.enc zbh3 := by
 intro H enc w base spare held fuel cs x h
 obtain ⟨xs, n, _, _, hlen, hxl, hf⟩ := DataW.trod_struct Tryz.underlying31 h
 have hlen : cs.length = 3 := hlen.trans (by kernel_rfl)
 obtain ⟨a0, o0, r0⟩ := fld (sz := 1) hf hxl 0 _ rfl (by kernel_rfl) zK3
 obtain ⟨a1, o1, r1⟩ := fld (sz := 1) hf hxl 1 _ rfl (by kernel_rfl) zK3
 obtain ⟨a2, o2, r2⟩ := fld (sz := 1) hf hxl 2 _ rfl (by kernel_rfl) zK3
 refine ⟨⟨a0, a1, a2⟩, ⟨o0, o1, o2⟩, ?_⟩
 have e : cs = (cs.drop 0).take 1 ++ (cs.drop 1).take 1 ++ (cs.drop 2).take 1 := by
  rcases cs with _ | ⟨_, _ | ⟨_, _ | ⟨_, _ | ⟨_, _⟩⟩⟩⟩
  all_goals first | rfl | (simp at hlen)
 rw [e]
 exact RCs.append r2 (RCs.append r1 (r0))
def zaF2 (x : Amount) : Prop := (fun n : Int => IntKind.i64.min ≤ n ∧ n ≤ IntKind.i64.max) x.mode ∧ (fun n : Int => IntKind.i64.min ≤ n ∧ n ≤ IntKind.i64.max) x.units
theorem zbo0 : zQ8 Tryz.prog 33 Amount.enc zaF2 := by
 intro H enc w base spare held fuel cs x h
 obtain ⟨xs, n, _, _, hlen, hxl, hf⟩ := DataW.trod_struct Tryz.underlying33 h
 have hlen : cs.length = 2 := hlen.trans (by kernel_rfl)
 obtain ⟨a0, o0, r0⟩ := fld (sz := 1) hf hxl 0 _ rfl (by kernel_rfl) zK3
 obtain ⟨a1, o1, r1⟩ := fld (sz := 1) hf hxl 1 _ rfl (by kernel_rfl) zK3
 refine ⟨⟨a0, a1⟩, ⟨o0, o1⟩, ?_⟩
 have e : cs = (cs.drop 0).take 1 ++ (cs.drop 1).take 1 := by
  rcases cs with _ | ⟨_, _ | ⟨_, _ | ⟨_, _⟩⟩⟩
  all_goals first | rfl | (simp at hlen)
 rw [e]
 exact RCs.append r1 (r0)
def zbh4 (x : Hold) : Prop := zbh3 x.proc ∧ zaF2 x.amount
theorem zbP5 : zQ8 Tryz.prog 99 Hold.enc zbh4 := by
 intro H enc w base spare held fuel cs x h
 obtain ⟨xs, n, _, _, hlen, hxl, hf⟩ := DataW.trod_struct Tryz.underlying99 h
 have hlen : cs.length = 5 := hlen.trans (by kernel_rfl)
 obtain ⟨a0, o0, r0⟩ := fld (sz := 3) hf hxl 0 _ rfl (by kernel_rfl) zaV8
 obtain ⟨a1, o1, r1⟩ := fld (sz := 2) hf hxl 1 _ rfl (by kernel_rfl) zbo0
 refine ⟨⟨a0, a1⟩, ⟨o0, o1⟩, ?_⟩
 have e : cs = (cs.drop 0).take 3 ++ (cs.drop 3).take 2 := by
  rcases cs with _ | ⟨_, _ | ⟨_, _ | ⟨_, _ | ⟨_, _ | ⟨_, _ | ⟨_, _⟩⟩⟩⟩⟩⟩
  all_goals first | rfl | (simp at hlen)
 rw [e]
 exact RCs.append r1 (r0)
theorem zbP6 : zQ8 Tryz.prog 48 (eL Hold.enc) (fun l : List Hold => l.length ≤ maxLen ∧ ∀ a ∈ l, zbh4 a) := zao6 Tryz.underlying48 (sz := 5) (by kernel_rfl) (by omega) (Hold.len) zbP5
def zaL2 (x : Wait) : Prop := zbh3 x.proc ∧ zaF2 x.amount ∧ (fun n : Int => IntKind.i64.min ≤ n ∧ n ≤ IntKind.i64.max) x.priority ∧ (fun n : Int => IntKind.i64.min ≤ n ∧ n ≤ IntKind.i64.max) x.passed
theorem zbz4 : zQ8 Tryz.prog 119 Wait.enc zaL2 := by
 intro H enc w base spare held fuel cs x h
 obtain ⟨xs, n, _, _, hlen, hxl, hf⟩ := DataW.trod_struct Tryz.underlying119 h
 have hlen : cs.length = 7 := hlen.trans (by kernel_rfl)
 obtain ⟨a0, o0, r0⟩ := fld (sz := 3) hf hxl 0 _ rfl (by kernel_rfl) zaV8
 obtain ⟨a1, o1, r1⟩ := fld (sz := 2) hf hxl 1 _ rfl (by kernel_rfl) zbo0
 obtain ⟨a2, o2, r2⟩ := fld (sz := 1) hf hxl 2 _ rfl (by kernel_rfl) zK3
 obtain ⟨a3, o3, r3⟩ := fld (sz := 1) hf hxl 3 _ rfl (by kernel_rfl) zK3
 refine ⟨⟨a0, a1, a2, a3⟩, ⟨o0, o1, o2, o3⟩, ?_⟩
 have e : cs = (cs.drop 0).take 3 ++ (cs.drop 3).take 2 ++ (cs.drop 5).take 1 ++ (cs.drop 6).take 1 := by
  rcases cs with _ | ⟨_, _ | ⟨_, _ | ⟨_, _ | ⟨_, _ | ⟨_, _ | ⟨_, _ | ⟨_, _ | ⟨_, _⟩⟩⟩⟩⟩⟩⟩⟩
  all_goals first | rfl | (simp at hlen)
 rw [e]
 exact RCs.append r3 (RCs.append r2 (RCs.append r1 (r0)))
theorem zbo1 : zQ8 Tryz.prog 49 (eL Wait.enc) (fun l : List Wait => l.length ≤ maxLen ∧ ∀ a ∈ l, zaL2 a) := zao6 Tryz.underlying49 (sz := 7) (by kernel_rfl) (by omega) (Wait.len) zbz4
def zbo2 (x : Queue) : Prop := zaH6 x.resource ∧ (fun l : List Hold => l.length ≤ maxLen ∧ ∀ a ∈ l, zbh4 a) x.holds ∧ (fun l : List Wait => l.length ≤ maxLen ∧ ∀ a ∈ l, zaL2 a) x.converts ∧ (fun l : List Wait => l.length ≤ maxLen ∧ ∀ a ∈ l, zaL2 a) x.waits ∧ (fun n : Int => IntKind.i64.min ≤ n ∧ n ≤ IntKind.i64.max) x.gen
theorem zbP7 : zQ8 Tryz.prog 51 Queue.enc zbo2 := by
 intro H enc w base spare held fuel cs x h
 obtain ⟨xs, n, _, _, hlen, hxl, hf⟩ := DataW.trod_struct Tryz.underlying51 h
 have hlen : cs.length = 8 := hlen.trans (by kernel_rfl)
 obtain ⟨a0, o0, r0⟩ := fld (sz := 4) hf hxl 0 _ rfl (by kernel_rfl) zbP4
 obtain ⟨a1, o1, r1⟩ := fld (sz := 1) hf hxl 1 _ rfl (by kernel_rfl) zbP6
 obtain ⟨a2, o2, r2⟩ := fld (sz := 1) hf hxl 2 _ rfl (by kernel_rfl) zbo1
 obtain ⟨a3, o3, r3⟩ := fld (sz := 1) hf hxl 3 _ rfl (by kernel_rfl) zbo1
 obtain ⟨a4, o4, r4⟩ := fld (sz := 1) hf hxl 4 _ rfl (by kernel_rfl) zK3
 refine ⟨⟨a0, a1, a2, a3, a4⟩, ⟨o0, o1, o2, o3, o4⟩, ?_⟩
 have e : cs = (cs.drop 0).take 4 ++ (cs.drop 4).take 1 ++ (cs.drop 5).take 1 ++ (cs.drop 6).take 1 ++ (cs.drop 7).take 1 := by
  rcases cs with _ | ⟨_, _ | ⟨_, _ | ⟨_, _ | ⟨_, _ | ⟨_, _ | ⟨_, _ | ⟨_, _ | ⟨_, _ | ⟨_, _⟩⟩⟩⟩⟩⟩⟩⟩⟩
  all_goals first | rfl | (simp at hlen)
 rw [e]
 exact RCs.append r4 (RCs.append r3 (RCs.append r2 (RCs.append r1 (r0))))
theorem zbP8 : zQ8 Tryz.prog 23 (eL Queue.enc) (fun l : List Queue => l.length ≤ maxLen ∧ ∀ a ∈ l, zbo2 a) := zao6 Tryz.underlying23 (sz := 8) (by kernel_rfl) (by omega) (Queue.len) zbP7
set_option maxRecDepth 100000 in
theorem zak0 (H : Type) (enc : TypeId × Value → H) (W : World) (base : Nat) (args : Array Value) (ds gs : List (DataW H)) (before : List MemPlace)
  (hval : ∀ (j : Nat) t v, Tryz.f8.params[j]? = some t → args[j]? = some v → Value.okWide Tryz.prog W .any base t v)
  (hW : DataW.Whole enc Tryz.prog Tryz.f8.params.toList Rows.tableRemovesSpec.vars false W args.toList ds gs before) (hL : laidMetH Tryz.prog Rows.tableRemovesRow.laid W) :
  Calls Tryz.prog 8 args W fun e W' => ∃ v, e = .returned v ∧ Rows.tableRemovesSpec.post enc Tryz.prog Tryz.f8 false true false false W args v W' := by
 have hW' := hW
 obtain ⟨p, q, hA0, hV, rfl, hfz, hnd⟩ := hW
 have hA : DataW.TrodAll enc Tryz.prog W 0 (fun _ => true) true Tryz.f8.params.toList args.toList ds p := hA0
 rw [Tryz.params8] at hA hval
 obtain ⟨v0, vs0, d0, ds0, p0, q0, hargs, rfl, rfl, h0, r0⟩ := trodAll_cons hA
 obtain ⟨v1, vs1, d1, ds1, p1, q1, rfl, rfl, rfl, h1, r1⟩ := trodAll_cons r0
 obtain ⟨v2, vs2, d2, ds2, p2, q2, rfl, rfl, rfl, h2, r2⟩ := trodAll_cons r1
 obtain ⟨v3, vs3, d3, ds3, p3, q3, rfl, rfl, rfl, h3, r3⟩ := trodAll_cons r2
 obtain ⟨rfl, rfl, rfl⟩ := trodAll_nil r3
 obtain rfl : args = #[v0, v1, v2, v3] := by cases args; simp_all
 obtain ⟨rfl, rfl⟩ := trodVars_none hV
 obtain ⟨x0, o0, hv0⟩ := zbh0 (f := fun x => .sl (x.map Queue.enc)) zbP8 (fun _ => rfl) (zby9 Tryz.underlying23 (hval 0 23 v0 rfl rfl)) h0
 obtain ⟨x1, o1, hv1⟩ := zbT9 zaV8 Tryz.underlying31 (hval 1 31 v1 rfl rfl) h1
 obtain ⟨x2, o2, hv2⟩ := zbh0 (f := fun x => .int .i64 x) zK3 (fun _ => rfl) (zbu4 Tryz.underlying3 (hval 2 3 v2 rfl rfl)) h2
 obtain ⟨x3, o3, hv3⟩ := zbh0 (f := fun x => .int .i64 x) zK3 (fun _ => rfl) (zbu4 Tryz.underlying3 (hval 3 3 v3 rfl rfl)) h3
 refine zbP1 Tryz.laidOut (fun t ht => ?_) rfl (by kernel_rfl) Tryz.underlying4 hW' rfl ?_
 ·rw [Tryz.params8] at ht
  simp only [List.mem_cons, List.not_mem_nil, or_false] at ht
  rcases ht with rfl | rfl | rfl | rfl
  all_goals exact ⟨by kernel_rfl, of_decide_eq_true (by kernel_rfl)⟩
 ·have hp := zaj9 x0 x1 x2 x3 true (zaA2 x0 x1 x2 x3) W (fun _ => False) [v0, v1, v2, v3] (zbh1 zbP3 zbz2 zbz3 zbU0 hL) (fun b h => h.elim) rfl (fun i v a hv ha => ?_)
  ·exact hp.mono fun e w' ⟨v, he, hk, hr⟩ => ⟨v, he, hk, hr.bool⟩
  ·match i, hv, ha with
   | 0, hv, ha => cases hv; cases ha; exact hv0
   | 1, hv, ha => cases hv; cases ha; exact hv1
   | 2, hv, ha => cases hv; cases ha; exact hv2
   | 3, hv, ha => cases hv; cases ha; exact hv3
   | i + 4, hv, ha => simp at hv
noncomputable def zM8 (os : Os) : World :=
 { World.holding Tryz.prog os ⟨#[], #[], []⟩ with heap := (World.holding Tryz.prog os ⟨#[], #[], []⟩).heap.modify 0 fun
   | .cells _ t frozen => .cells #[.bool true, .bool true, .bool true, .bool true, .bool false, .bool true, .bool true, .bool false, .bool false, .bool false, .bool true, .bool false, .bool true, .bool false, .bool false, .bool true, .bool false, .bool false, .bool false, .bool false, .bool false, .bool false, .bool false, .bool false, .bool false] t frozen
   | o => o }
theorem zaF3 (os : Os) : laidMet Tryz.prog Rows.tableRemovesRow.laid ((zM8 os).forCall (fun _ _ => 0) ⟨#[], #[.slice none 0 0, .agg #[.int .i64 0, .int .i64 0, .int .i64 0], .int .i64 0, .int .i64 0], []⟩).memory := laidMet_of_run' 8 (by kernel_rfl) (by kernel_rfl)
theorem zaw4 (os : Os) {H : Type} (enc : TypeId × Value → H) : ∃ x, DataW.whole enc Tryz.prog ((zM8 os).forCall (fun _ _ => 0) ⟨#[], #[.slice none 0 0, .agg #[.int .i64 0, .int .i64 0, .int .i64 0], .int .i64 0, .int .i64 0], []⟩).memory Tryz.f8.params.toList Rows.tableRemovesSpec.vars false (#[.slice none 0 0, .agg #[.int .i64 0, .int .i64 0, .int .i64 0], .int .i64 0, .int .i64 0] : Array Value).toList 8 = some x := Option.isSome_iff_exists.1 (by kernel_rfl)
set_option maxRecDepth 100000 in
theorem zar2 (os : Os) (started : os.Started) (H : Type) (enc : TypeId × Value → H) (F : Stop.Interp) :
  ReturnsInHanded {} Tryz.checked os 8 .any ((OpenSpec.ofChange Rows.tableRemovesSpec).preRow enc Tryz.prog Tryz.f8 Rows.tableRemovesRow.domain false Rows.tableRemovesRow.laid) (((OpenSpec.ofChange Rows.tableRemovesSpec).at F).post enc Tryz.prog Tryz.f8 false true false false) := by
 obtain ⟨x, hx⟩ := zaw4 os enc
 refine returnsInHanded_of_row (C := Tryz.checked) (s := OpenSpec.ofChange Rows.tableRemovesSpec) Tryz.own started (by kernel_rfl) Tryz.func8
  (witness_row_at (enc := enc) (C := Tryz.checked) false (zM8 os) #[.slice none 0 0, .agg #[.int .i64 0, .int .i64 0, .int .i64 0], .int .i64 0, .int .i64 0] rfl (by kernel_rfl) (by kernel_rfl) (by kernel_rfl)
   (OpenSpec.preRow_of_cond 8 hx (by kernel_rfl) (fun k hk => by cases hk) (by kernel_rfl) (zaF3 os))) ?_
 intro W base args ds gs before hval hW _ _ _ hL _ _
 exact zak0 H enc W base args ds gs before hval hW hL
set_option maxHeartbeats 8000000 in
theorem zaA4 : Rows.TableRemovesSaid :=
 OpenClaim.holds_of_cond 8 Tryz.f8 rfl rfl rfl rfl rfl rfl rfl ⟨rfl, rfl, rfl, rfl, rfl⟩ rfl rfl rfl rfl rfl (by as_aux_lemma => kernel_rfl) Tryz.func8 (by
   simp only [joinedFacts, Bool.and_eq_true]
   (repeat' apply And.intro)
   all_goals first | with_reducible exact zaV7 | (rw [zaF1]; kernel_rfl) | (rw [zbr7]; kernel_rfl) | (as_aux_lemma => kernel_rfl))
  (of_decide_eq_true (by kernel_rfl)) (by unfold Func.isWrapper; first | (rw [if_pos (by decide +kernel)]; kernel_rfl) | (rw [if_neg (by decide +kernel)]; exact ⟨rfl, rfl⟩))
  (fun os started H enc _ F => by rw [OpenClaim.pre_eq_preRow]; exact zar2 os started H enc F)
theorem zaw5 (f : FuncId) (fn : Func) (hf : Tryz.pinned.checked.prog.funcNamed "clusterlocks/clusterlockslaw13.TableRemoves" = some f) (hfn : Tryz.pinned.checked.prog.funcs[f]? = some fn) :
  false = Tryz.pinned.checked.prog.looks [] ∧ ∀ (j : Nat) t, fn.params[j]? = some t → Tryz.pinned.checked.prog.wantsStandIn t = false := by
 obtain rfl : f = 8 := Option.some.inj ((show Tryz.prog.funcNamed "clusterlocks/clusterlockslaw13.TableRemoves" = some 8 by kernel_rfl).symm.trans hf) |>.symm
 obtain rfl : fn = Tryz.f8 := (Option.some.inj (Tryz.func8.symm.trans hfn)).symm
 refine ⟨by kernel_rfl, fun j t ht => ?_⟩
 rw [Tryz.params8] at ht
 have hm := Array.mem_of_getElem? ht
 simp at hm
 rcases hm with rfl | rfl | rfl | rfl
 all_goals first | with_reducible exact (show Tryz.pinned.checked.prog.wantsStandIn 3 = false by kernel_rfl) | with_reducible exact (show Tryz.pinned.checked.prog.wantsStandIn 23 = false by kernel_rfl) | with_reducible exact (show Tryz.pinned.checked.prog.wantsStandIn 31 = false by kernel_rfl)
theorem TableRemoves_holds : Rows.TableRemovesCardSaid :=
 Claim7.holds_tied_plain_at .later [] _ _ _ _ zaA4 (fun _ h => by cases h) (by as_aux_lemma => kernel_rfl) (fun _ h => by cases h) tableRemoves_row_tie rfl ⟨rfl, rfl⟩ (zbh2.trans (by kernel_rfl)) rfl zaw5 (by as_aux_lemma => kernel_rfl)
end Ab
end Go.Proofs.YtfjeceicgfdmjaaGreatDoor
