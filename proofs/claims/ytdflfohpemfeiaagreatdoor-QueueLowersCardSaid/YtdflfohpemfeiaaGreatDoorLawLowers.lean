/-
  QueueLowers returns true for every input (what Lower returns and leaves of any queue); no condition.
-/
import Derived.Test.YtdflfohpemfeiaaGreatDoorLqLowers
import Derived.Test.YtdflfohpemfeiaaGreatDoorDoor
import Derived.Test.YtdflfohpemfeiaaGreatDoorCards
import Derived.Test.YtdflfohpemfeiaaGreatDoorTie
import Derived.Test.YtdflfohpemfeiaaGreatDoorHead
import Derived.Deep.DeepHandedRow
namespace Go.Proofs.YtdflfohpemfeiaaGreatDoor
namespace Ab
open Go.ChangeShapes Go.WideShapes Go.ChangeAt Go.RowKit
set_option linter.unusedVariables false
theorem Tryz.own : ownKnob Tryz.prog.godebug = none := by kernel_rfl
theorem Tryz.laidOut : laidOutB Tryz.prog = true := by kernel_rfl
theorem tab0_num : Tryz.prog.globalNamed "clusterlocks/mode.together" = some 0 := by kernel_rfl
theorem tab0_type : (Tryz.prog.globals[0]?).map (·.type) = some 139 := by kernel_rfl
theorem tab0_lits : Lits Tryz.prog 139 := lits_array (n := 5) (sz := 5) Tryz.underlying139 (by kernel_rfl) (by kernel_rfl) (lits_array (n := 5) (sz := 1) Tryz.underlying138 (by kernel_rfl) (by kernel_rfl) (lits_bool Tryz.underlying4))
theorem tab0_is : lits (Rows.laid_clusterlocks_mode_together (H := Unit)) = some (Arr.enc (Arr.enc eB) glob_0) := by rfl
theorem reads_9 : Reads Tryz.prog 9 eS (fun s : ByteArray => s.size ≤ maxLen) := reads_str Tryz.underlying9
theorem reads_3 : Reads Tryz.prog 3 (eI .i64) (fun n : Int => IntKind.i64.min ≤ n ∧ n ≤ IntKind.i64.max) := reads_int Tryz.underlying3
def ok_Resource (x : Resource) : Prop := (fun s : ByteArray => s.size ≤ maxLen) x.name ∧ (fun n : Int => IntKind.i64.min ≤ n ∧ n ≤ IntKind.i64.max) x.kind ∧ (fun n : Int => IntKind.i64.min ≤ n ∧ n ≤ IntKind.i64.max) x.units ∧ (fun n : Int => IntKind.i64.min ≤ n ∧ n ≤ IntKind.i64.max) x.home
theorem reads_23 : Reads Tryz.prog 23 Resource.enc ok_Resource := by
  intro H enc w base spare held fuel cs x h
  obtain ⟨xs, n, _, _, hlen, hxl, hf⟩ := DataW.trod_struct Tryz.underlying23 h
  have hlen : cs.length = 4 := hlen.trans (by kernel_rfl)
  obtain ⟨a0, o0, r0⟩ := fld (sz := 1) hf hxl 0 _ rfl (by kernel_rfl) reads_9
  obtain ⟨a1, o1, r1⟩ := fld (sz := 1) hf hxl 1 _ rfl (by kernel_rfl) reads_3
  obtain ⟨a2, o2, r2⟩ := fld (sz := 1) hf hxl 2 _ rfl (by kernel_rfl) reads_3
  obtain ⟨a3, o3, r3⟩ := fld (sz := 1) hf hxl 3 _ rfl (by kernel_rfl) reads_3
  refine ⟨⟨a0, a1, a2, a3⟩, ⟨o0, o1, o2, o3⟩, ?_⟩
  have e : cs = (cs.drop 0).take 1 ++ (cs.drop 1).take 1 ++ (cs.drop 2).take 1 ++ (cs.drop 3).take 1 := by
    rcases cs with _ | ⟨_, _ | ⟨_, _ | ⟨_, _ | ⟨_, _ | ⟨_, _⟩⟩⟩⟩⟩
    all_goals first | rfl | (simp at hlen)
  rw [e]
  exact RCs.append r3 (RCs.append r2 (RCs.append r1 (r0)))
def ok_Proc (x : Proc) : Prop := (fun n : Int => IntKind.i64.min ≤ n ∧ n ≤ IntKind.i64.max) x.site ∧ (fun n : Int => IntKind.i64.min ≤ n ∧ n ≤ IntKind.i64.max) x.inc ∧ (fun n : Int => IntKind.i64.min ≤ n ∧ n ≤ IntKind.i64.max) x.num
theorem reads_35 : Reads Tryz.prog 35 Proc.enc ok_Proc := by
  intro H enc w base spare held fuel cs x h
  obtain ⟨xs, n, _, _, hlen, hxl, hf⟩ := DataW.trod_struct Tryz.underlying35 h
  have hlen : cs.length = 3 := hlen.trans (by kernel_rfl)
  obtain ⟨a0, o0, r0⟩ := fld (sz := 1) hf hxl 0 _ rfl (by kernel_rfl) reads_3
  obtain ⟨a1, o1, r1⟩ := fld (sz := 1) hf hxl 1 _ rfl (by kernel_rfl) reads_3
  obtain ⟨a2, o2, r2⟩ := fld (sz := 1) hf hxl 2 _ rfl (by kernel_rfl) reads_3
  refine ⟨⟨a0, a1, a2⟩, ⟨o0, o1, o2⟩, ?_⟩
  have e : cs = (cs.drop 0).take 1 ++ (cs.drop 1).take 1 ++ (cs.drop 2).take 1 := by
    rcases cs with _ | ⟨_, _ | ⟨_, _ | ⟨_, _ | ⟨_, _⟩⟩⟩⟩
    all_goals first | rfl | (simp at hlen)
  rw [e]
  exact RCs.append r2 (RCs.append r1 (r0))
def ok_Amount (x : Amount) : Prop := (fun n : Int => IntKind.i64.min ≤ n ∧ n ≤ IntKind.i64.max) x.mode ∧ (fun n : Int => IntKind.i64.min ≤ n ∧ n ≤ IntKind.i64.max) x.units
theorem reads_37 : Reads Tryz.prog 37 Amount.enc ok_Amount := by
  intro H enc w base spare held fuel cs x h
  obtain ⟨xs, n, _, _, hlen, hxl, hf⟩ := DataW.trod_struct Tryz.underlying37 h
  have hlen : cs.length = 2 := hlen.trans (by kernel_rfl)
  obtain ⟨a0, o0, r0⟩ := fld (sz := 1) hf hxl 0 _ rfl (by kernel_rfl) reads_3
  obtain ⟨a1, o1, r1⟩ := fld (sz := 1) hf hxl 1 _ rfl (by kernel_rfl) reads_3
  refine ⟨⟨a0, a1⟩, ⟨o0, o1⟩, ?_⟩
  have e : cs = (cs.drop 0).take 1 ++ (cs.drop 1).take 1 := by
    rcases cs with _ | ⟨_, _ | ⟨_, _ | ⟨_, _⟩⟩⟩
    all_goals first | rfl | (simp at hlen)
  rw [e]
  exact RCs.append r1 (r0)
def ok_Hold (x : Hold) : Prop := ok_Proc x.proc ∧ ok_Amount x.amount
theorem reads_62 : Reads Tryz.prog 62 Hold.enc ok_Hold := by
  intro H enc w base spare held fuel cs x h
  obtain ⟨xs, n, _, _, hlen, hxl, hf⟩ := DataW.trod_struct Tryz.underlying62 h
  have hlen : cs.length = 5 := hlen.trans (by kernel_rfl)
  obtain ⟨a0, o0, r0⟩ := fld (sz := 3) hf hxl 0 _ rfl (by kernel_rfl) reads_35
  obtain ⟨a1, o1, r1⟩ := fld (sz := 2) hf hxl 1 _ rfl (by kernel_rfl) reads_37
  refine ⟨⟨a0, a1⟩, ⟨o0, o1⟩, ?_⟩
  have e : cs = (cs.drop 0).take 3 ++ (cs.drop 3).take 2 := by
    rcases cs with _ | ⟨_, _ | ⟨_, _ | ⟨_, _ | ⟨_, _ | ⟨_, _ | ⟨_, _⟩⟩⟩⟩⟩⟩
    all_goals first | rfl | (simp at hlen)
  rw [e]
  exact RCs.append r1 (r0)
theorem reads_24 : Reads Tryz.prog 24 (eL Hold.enc) (fun l : List Hold => l.length ≤ maxLen ∧ ∀ a ∈ l, ok_Hold a) := reads_slice Tryz.underlying24 (sz := 5) (by kernel_rfl) (by omega) (Hold.len) reads_62
def ok_Wait (x : Wait) : Prop := ok_Proc x.proc ∧ ok_Amount x.amount ∧ (fun n : Int => IntKind.i64.min ≤ n ∧ n ≤ IntKind.i64.max) x.priority ∧ (fun n : Int => IntKind.i64.min ≤ n ∧ n ≤ IntKind.i64.max) x.passed
theorem reads_81 : Reads Tryz.prog 81 Wait.enc ok_Wait := by
  intro H enc w base spare held fuel cs x h
  obtain ⟨xs, n, _, _, hlen, hxl, hf⟩ := DataW.trod_struct Tryz.underlying81 h
  have hlen : cs.length = 7 := hlen.trans (by kernel_rfl)
  obtain ⟨a0, o0, r0⟩ := fld (sz := 3) hf hxl 0 _ rfl (by kernel_rfl) reads_35
  obtain ⟨a1, o1, r1⟩ := fld (sz := 2) hf hxl 1 _ rfl (by kernel_rfl) reads_37
  obtain ⟨a2, o2, r2⟩ := fld (sz := 1) hf hxl 2 _ rfl (by kernel_rfl) reads_3
  obtain ⟨a3, o3, r3⟩ := fld (sz := 1) hf hxl 3 _ rfl (by kernel_rfl) reads_3
  refine ⟨⟨a0, a1, a2, a3⟩, ⟨o0, o1, o2, o3⟩, ?_⟩
  have e : cs = (cs.drop 0).take 3 ++ (cs.drop 3).take 2 ++ (cs.drop 5).take 1 ++ (cs.drop 6).take 1 := by
    rcases cs with _ | ⟨_, _ | ⟨_, _ | ⟨_, _ | ⟨_, _ | ⟨_, _ | ⟨_, _ | ⟨_, _ | ⟨_, _⟩⟩⟩⟩⟩⟩⟩⟩
    all_goals first | rfl | (simp at hlen)
  rw [e]
  exact RCs.append r3 (RCs.append r2 (RCs.append r1 (r0)))
theorem reads_25 : Reads Tryz.prog 25 (eL Wait.enc) (fun l : List Wait => l.length ≤ maxLen ∧ ∀ a ∈ l, ok_Wait a) := reads_slice Tryz.underlying25 (sz := 7) (by kernel_rfl) (by omega) (Wait.len) reads_81
def ok_Queue (x : Queue) : Prop := ok_Resource x.resource ∧ (fun l : List Hold => l.length ≤ maxLen ∧ ∀ a ∈ l, ok_Hold a) x.holds ∧ (fun l : List Wait => l.length ≤ maxLen ∧ ∀ a ∈ l, ok_Wait a) x.converts ∧ (fun l : List Wait => l.length ≤ maxLen ∧ ∀ a ∈ l, ok_Wait a) x.waits ∧ (fun n : Int => IntKind.i64.min ≤ n ∧ n ≤ IntKind.i64.max) x.gen
theorem reads_27 : Reads Tryz.prog 27 Queue.enc ok_Queue := by
  intro H enc w base spare held fuel cs x h
  obtain ⟨xs, n, _, _, hlen, hxl, hf⟩ := DataW.trod_struct Tryz.underlying27 h
  have hlen : cs.length = 8 := hlen.trans (by kernel_rfl)
  obtain ⟨a0, o0, r0⟩ := fld (sz := 4) hf hxl 0 _ rfl (by kernel_rfl) reads_23
  obtain ⟨a1, o1, r1⟩ := fld (sz := 1) hf hxl 1 _ rfl (by kernel_rfl) reads_24
  obtain ⟨a2, o2, r2⟩ := fld (sz := 1) hf hxl 2 _ rfl (by kernel_rfl) reads_25
  obtain ⟨a3, o3, r3⟩ := fld (sz := 1) hf hxl 3 _ rfl (by kernel_rfl) reads_25
  obtain ⟨a4, o4, r4⟩ := fld (sz := 1) hf hxl 4 _ rfl (by kernel_rfl) reads_3
  refine ⟨⟨a0, a1, a2, a3, a4⟩, ⟨o0, o1, o2, o3, o4⟩, ?_⟩
  have e : cs = (cs.drop 0).take 4 ++ (cs.drop 4).take 1 ++ (cs.drop 5).take 1 ++ (cs.drop 6).take 1 ++ (cs.drop 7).take 1 := by
    rcases cs with _ | ⟨_, _ | ⟨_, _ | ⟨_, _ | ⟨_, _ | ⟨_, _ | ⟨_, _ | ⟨_, _ | ⟨_, _ | ⟨_, _⟩⟩⟩⟩⟩⟩⟩⟩⟩
    all_goals first | rfl | (simp at hlen)
  rw [e]
  exact RCs.append r4 (RCs.append r3 (RCs.append r2 (RCs.append r1 (r0))))
set_option maxRecDepth 100000 in
theorem QueueLowers_contract (H : Type) (enc : TypeId × Value → H) (W : World) (base : Nat) (args : Array Value) (ds gs : List (DataW H)) (before : List MemPlace)
    (hval : ∀ (j : Nat) t v, Tryz.f12.params[j]? = some t → args[j]? = some v → Value.okWide Tryz.prog W .any base t v)
    (hW : DataW.Whole enc Tryz.prog Tryz.f12.params.toList Rows.queueLowersSpec.vars false W args.toList ds gs before) (hL : laidMetH Tryz.prog Rows.queueLowersRow.laid W) :
    Calls Tryz.prog 12 args W fun e W' => ∃ v, e = .returned v ∧ Rows.queueLowersSpec.post enc Tryz.prog Tryz.f12 false true false false W args v W' := by
  have hW' := hW
  obtain ⟨p, q, hA0, hV, rfl, hfz, hnd⟩ := hW
  have hA : DataW.TrodAll enc Tryz.prog W 0 (fun _ => true) true Tryz.f12.params.toList args.toList ds p := hA0
  rw [Tryz.params12] at hA hval
  obtain ⟨v0, vs0, d0, ds0, p0, q0, hargs, rfl, rfl, h0, r0⟩ := trodAll_cons hA
  obtain ⟨v1, vs1, d1, ds1, p1, q1, rfl, rfl, rfl, h1, r1⟩ := trodAll_cons r0
  obtain ⟨v2, vs2, d2, ds2, p2, q2, rfl, rfl, rfl, h2, r2⟩ := trodAll_cons r1
  obtain ⟨rfl, rfl, rfl⟩ := trodAll_nil r2
  obtain rfl : args = #[v0, v1, v2] := by cases args; simp_all
  obtain ⟨rfl, rfl⟩ := trodVars_none hV
  obtain ⟨x0, o0, hv0⟩ := arg_agg reads_27 Tryz.underlying27 (hval 0 27 v0 rfl rfl) h0
  obtain ⟨x1, o1, hv1⟩ := arg_agg reads_35 Tryz.underlying35 (hval 1 35 v1 rfl rfl) h1
  obtain ⟨x2, o2, hv2⟩ := arg_agg reads_37 Tryz.underlying37 (hval 2 37 v2 rfl rfl) h2
  refine law_post Tryz.laidOut (fun t ht => ?_) rfl (by kernel_rfl) Tryz.underlying4 hW' rfl ?_
  · rw [Tryz.params12] at ht
    simp only [List.mem_cons, List.not_mem_nil, or_false] at ht
    rcases ht with rfl | rfl | rfl
    all_goals exact ⟨by kernel_rfl, of_decide_eq_true (by kernel_rfl)⟩
  · have hp := law12_QueueLowers_ok x0 x1 x2 true (QueueLowers_true x0 x1 x2) W (fun _ => False) [v0, v1, v2] (glob_of_laid tab0_num tab0_type tab0_lits tab0_is hL) (fun b h => h.elim) rfl (fun i v a hv ha => ?_)
    · exact hp.mono fun e w' ⟨v, he, hk, hr⟩ => ⟨v, he, hk, hr.bool⟩
    · match i, hv, ha with
      | 0, hv, ha => cases hv; cases ha; exact hv0
      | 1, hv, ha => cases hv; cases ha; exact hv1
      | 2, hv, ha => cases hv; cases ha; exact hv2
      | i + 3, hv, ha => simp at hv
noncomputable def QueueLowers_world (os : Os) : World :=
  { World.holding Tryz.prog os ⟨#[], #[], []⟩ with heap := (World.holding Tryz.prog os ⟨#[], #[], []⟩).heap.modify 0 fun
      | .cells _ t frozen => .cells #[.bool true, .bool true, .bool true, .bool true, .bool false, .bool true, .bool true, .bool false, .bool false, .bool false, .bool true, .bool false, .bool true, .bool false, .bool false, .bool true, .bool false, .bool false, .bool false, .bool false, .bool false, .bool false, .bool false, .bool false, .bool false] t frozen
      | o => o }
theorem QueueLowers_met (os : Os) : laidMet Tryz.prog Rows.queueLowersRow.laid ((QueueLowers_world os).forCall (fun _ _ => 0) ⟨#[], #[.agg #[.string ⟨#[]⟩, .int .i64 0, .int .i64 0, .int .i64 0, .slice none 0 0, .slice none 0 0, .slice none 0 0, .int .i64 0], .agg #[.int .i64 0, .int .i64 0, .int .i64 0], .agg #[.int .i64 0, .int .i64 0]], []⟩).memory := laidMet_of_run' 8 (by kernel_rfl) (by kernel_rfl)
theorem QueueLowers_reads (os : Os) {H : Type} (enc : TypeId × Value → H) : ∃ x, DataW.whole enc Tryz.prog ((QueueLowers_world os).forCall (fun _ _ => 0) ⟨#[], #[.agg #[.string ⟨#[]⟩, .int .i64 0, .int .i64 0, .int .i64 0, .slice none 0 0, .slice none 0 0, .slice none 0 0, .int .i64 0], .agg #[.int .i64 0, .int .i64 0, .int .i64 0], .agg #[.int .i64 0, .int .i64 0]], []⟩).memory Tryz.f12.params.toList Rows.queueLowersSpec.vars false (#[.agg #[.string ⟨#[]⟩, .int .i64 0, .int .i64 0, .int .i64 0, .slice none 0 0, .slice none 0 0, .slice none 0 0, .int .i64 0], .agg #[.int .i64 0, .int .i64 0, .int .i64 0], .agg #[.int .i64 0, .int .i64 0]] : Array Value).toList 8 = some x := Option.isSome_iff_exists.1 (by kernel_rfl)
set_option maxRecDepth 100000 in
theorem QueueLowers_lifted (os : Os) (started : os.Started) (H : Type) (enc : TypeId × Value → H) (F : Stop.Interp) :
    ReturnsInHanded {} Tryz.checked os 12 .any ((OpenSpec.ofChange Rows.queueLowersSpec).preRow enc Tryz.prog Tryz.f12 Rows.queueLowersRow.domain false Rows.queueLowersRow.laid) (((OpenSpec.ofChange Rows.queueLowersSpec).at F).post enc Tryz.prog Tryz.f12 false true false false) := by
  obtain ⟨x, hx⟩ := QueueLowers_reads os enc
  refine returnsInHanded_of_row (C := Tryz.checked) (s := OpenSpec.ofChange Rows.queueLowersSpec) Tryz.own started (by kernel_rfl) Tryz.func12
    (witness_row_at (enc := enc) (C := Tryz.checked) false (QueueLowers_world os) #[.agg #[.string ⟨#[]⟩, .int .i64 0, .int .i64 0, .int .i64 0, .slice none 0 0, .slice none 0 0, .slice none 0 0, .int .i64 0], .agg #[.int .i64 0, .int .i64 0, .int .i64 0], .agg #[.int .i64 0, .int .i64 0]] rfl (by kernel_rfl) (by kernel_rfl) (by kernel_rfl)
      (OpenSpec.preRow_of_cond 8 hx (by kernel_rfl) (fun k hk => by cases hk) (by kernel_rfl) (QueueLowers_met os))) ?_
  intro W base args ds gs before hval hW _ _ _ hL _ _
  exact QueueLowers_contract H enc W base args ds gs before hval hW hL
set_option maxHeartbeats 8000000 in
theorem QueueLowers_said : Rows.QueueLowersSaid :=
  OpenClaim.holds_of_cond 12 Tryz.f12 rfl rfl rfl rfl rfl rfl rfl ⟨rfl, rfl, rfl, rfl, rfl⟩ rfl rfl rfl rfl rfl (by as_aux_lemma => kernel_rfl) Tryz.func12 (by
      simp only [joinedFacts, Bool.and_eq_true]
      (repeat' apply And.intro)
      all_goals first | with_reducible exact head_mayEnter' | (rw [head_liftsFinal']; kernel_rfl) | (rw [head_make']; kernel_rfl) | (as_aux_lemma => kernel_rfl))
    (of_decide_eq_true (by kernel_rfl)) (by unfold Func.isWrapper; first | (rw [if_pos (by decide +kernel)]; kernel_rfl) | (rw [if_neg (by decide +kernel)]; exact ⟨rfl, rfl⟩))
    (fun os started H enc _ F => by rw [OpenClaim.pre_eq_preRow]; exact QueueLowers_lifted os started H enc F)
theorem QueueLowers_plain (f : FuncId) (fn : Func) (hf : Tryz.pinned.checked.prog.funcNamed "clusterlocks/clusterlockslaw12.QueueLowers" = some f) (hfn : Tryz.pinned.checked.prog.funcs[f]? = some fn) :
    false = Tryz.pinned.checked.prog.looks [] ∧ ∀ (j : Nat) t, fn.params[j]? = some t → Tryz.pinned.checked.prog.wantsStandIn t = false := by
  obtain rfl : f = 12 := Option.some.inj ((show Tryz.prog.funcNamed "clusterlocks/clusterlockslaw12.QueueLowers" = some 12 by kernel_rfl).symm.trans hf) |>.symm
  obtain rfl : fn = Tryz.f12 := (Option.some.inj (Tryz.func12.symm.trans hfn)).symm
  refine ⟨by kernel_rfl, fun j t ht => ?_⟩
  rw [Tryz.params12] at ht
  have hm := Array.mem_of_getElem? ht
  simp at hm
  rcases hm with rfl | rfl | rfl
  all_goals first | with_reducible exact (show Tryz.pinned.checked.prog.wantsStandIn 27 = false by kernel_rfl) | with_reducible exact (show Tryz.pinned.checked.prog.wantsStandIn 35 = false by kernel_rfl) | with_reducible exact (show Tryz.pinned.checked.prog.wantsStandIn 37 = false by kernel_rfl)
theorem QueueLowers_holds : Rows.QueueLowersCardSaid :=
  Claim7.holds_tied_plain_at .later [] _ _ _ _ QueueLowers_said (fun _ h => by cases h) (by as_aux_lemma => kernel_rfl) (fun _ h => by cases h) queueLowers_row_tie rfl ⟨rfl, rfl⟩ (head_mainIs'.trans (by kernel_rfl)) rfl QueueLowers_plain (by as_aux_lemma => kernel_rfl)
end Ab
end Go.Proofs.YtdflfohpemfeiaaGreatDoor
