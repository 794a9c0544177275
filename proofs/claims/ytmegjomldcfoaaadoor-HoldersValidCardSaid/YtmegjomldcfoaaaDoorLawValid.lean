/-
  HoldersValid returns true for every input (which grants are valid, and what Get and Procs return); no condition.
-/
import Derived.Test.YtmegjomldcfoaaaDoorHoldD
import Derived.Test.YtmegjomldcfoaaaDoorDoor
import Derived.Test.YtmegjomldcfoaaaDoorCards
import Derived.Test.YtmegjomldcfoaaaDoorTie
import Derived.Deep.DeepHandedRow
namespace Go.Proofs.YtmegjomldcfoaaaDoor
namespace Ab
open Go.ChangeShapes Go.WideShapes Go.ChangeAt Go.RowKit
set_option linter.unusedVariables false
theorem Tryd.own : ownKnob Tryd.prog.godebug = none := by kernel_rfl
theorem Tryd.laidOut : laidOutB Tryd.prog = true := by kernel_rfl
theorem tab0_num : Tryd.prog.globalNamed "clusterlocks/mode.together" = some 0 := by kernel_rfl
theorem tab0_type : (Tryd.prog.globals[0]?).map (·.type) = some 76 := by kernel_rfl
theorem tab0_lits : Lits Tryd.prog 76 := lits_array (n := 5) (sz := 5) Tryd.underlying76 (by kernel_rfl) (by kernel_rfl) (lits_array (n := 5) (sz := 1) Tryd.underlying75 (by kernel_rfl) (by kernel_rfl) (lits_bool Tryd.underlying4))
theorem tab0_is : lits (Rows.laid_clusterlocks_mode_together (H := Unit)) = some (Arr.enc (Arr.enc eB) glob_0) := by rfl
theorem reads_9 : Reads Tryd.prog 9 eS (fun s : ByteArray => s.size ≤ maxLen) := reads_str Tryd.underlying9
theorem reads_3 : Reads Tryd.prog 3 (eI .i64) (fun n : Int => IntKind.i64.min ≤ n ∧ n ≤ IntKind.i64.max) := reads_int Tryd.underlying3
def ok_Resource (x : Resource) : Prop := (fun s : ByteArray => s.size ≤ maxLen) x.name ∧ (fun n : Int => IntKind.i64.min ≤ n ∧ n ≤ IntKind.i64.max) x.kind ∧ (fun n : Int => IntKind.i64.min ≤ n ∧ n ≤ IntKind.i64.max) x.units ∧ (fun n : Int => IntKind.i64.min ≤ n ∧ n ≤ IntKind.i64.max) x.home
theorem reads_32 : Reads Tryd.prog 32 Resource.enc ok_Resource := by
  intro H enc w base spare held fuel cs x h
  obtain ⟨xs, n, _, _, hlen, hxl, hf⟩ := DataW.trod_struct Tryd.underlying32 h
  have hlen : cs.length = 4 := hlen.trans (by kernel_rfl)
  obtain ⟨a0, o0, r0⟩ := fld (sz := 1) hf hxl 0 _ rfl (by kernel_rfl) reads_9
  obtain ⟨a1, o1, r1⟩ := fld (sz := 1) hf hxl 1 _ rfl (by kernel_rfl) reads_3
  obtain ⟨a2, o2, r2⟩ := fld (sz := 1) hf hxl 2 _ rfl (by kernel_rfl) reads_3
  obtain ⟨a3, o3, r3⟩ := fld (sz := 1) hf hxl 3 _ rfl (by kernel_rfl) reads_3
  refine ⟨⟨a0, a1, a2, a3⟩, ⟨o0, o1, o2, o3⟩, ?_⟩
  have e : cs = (cs.drop 0).take 1 ++ (cs.drop 1).take 1 ++ (cs.drop 2).take 1 ++ (cs.drop 3).take 1 := by
    rcases cs with _ | ⟨_, _ | ⟨_, _ | ⟨_, _ | ⟨_, _ | ⟨_, _⟩⟩⟩⟩⟩
    all_goals first | rfl | (simp at hlen)
  rw [e]
  exact RCs.append r3 (RCs.append r2 (RCs.append r1 (r0)))
def ok_Proc (x : Proc) : Prop := (fun n : Int => IntKind.i64.min ≤ n ∧ n ≤ IntKind.i64.max) x.site ∧ (fun n : Int => IntKind.i64.min ≤ n ∧ n ≤ IntKind.i64.max) x.inc ∧ (fun n : Int => IntKind.i64.min ≤ n ∧ n ≤ IntKind.i64.max) x.num
theorem reads_24 : Reads Tryd.prog 24 Proc.enc ok_Proc := by
  intro H enc w base spare held fuel cs x h
  obtain ⟨xs, n, _, _, hlen, hxl, hf⟩ := DataW.trod_struct Tryd.underlying24 h
  have hlen : cs.length = 3 := hlen.trans (by kernel_rfl)
  obtain ⟨a0, o0, r0⟩ := fld (sz := 1) hf hxl 0 _ rfl (by kernel_rfl) reads_3
  obtain ⟨a1, o1, r1⟩ := fld (sz := 1) hf hxl 1 _ rfl (by kernel_rfl) reads_3
  obtain ⟨a2, o2, r2⟩ := fld (sz := 1) hf hxl 2 _ rfl (by kernel_rfl) reads_3
  refine ⟨⟨a0, a1, a2⟩, ⟨o0, o1, o2⟩, ?_⟩
  have e : cs = (cs.drop 0).take 1 ++ (cs.drop 1).take 1 ++ (cs.drop 2).take 1 := by
    rcases cs with _ | ⟨_, _ | ⟨_, _ | ⟨_, _ | ⟨_, _⟩⟩⟩⟩
    all_goals first | rfl | (simp at hlen)
  rw [e]
  exact RCs.append r2 (RCs.append r1 (r0))
def ok_Amount (x : Amount) : Prop := (fun n : Int => IntKind.i64.min ≤ n ∧ n ≤ IntKind.i64.max) x.mode ∧ (fun n : Int => IntKind.i64.min ≤ n ∧ n ≤ IntKind.i64.max) x.units
theorem reads_26 : Reads Tryd.prog 26 Amount.enc ok_Amount := by
  intro H enc w base spare held fuel cs x h
  obtain ⟨xs, n, _, _, hlen, hxl, hf⟩ := DataW.trod_struct Tryd.underlying26 h
  have hlen : cs.length = 2 := hlen.trans (by kernel_rfl)
  obtain ⟨a0, o0, r0⟩ := fld (sz := 1) hf hxl 0 _ rfl (by kernel_rfl) reads_3
  obtain ⟨a1, o1, r1⟩ := fld (sz := 1) hf hxl 1 _ rfl (by kernel_rfl) reads_3
  refine ⟨⟨a0, a1⟩, ⟨o0, o1⟩, ?_⟩
  have e : cs = (cs.drop 0).take 1 ++ (cs.drop 1).take 1 := by
    rcases cs with _ | ⟨_, _ | ⟨_, _ | ⟨_, _⟩⟩⟩
    all_goals first | rfl | (simp at hlen)
  rw [e]
  exact RCs.append r1 (r0)
def ok_Hold (x : Hold) : Prop := ok_Proc x.proc ∧ ok_Amount x.amount
theorem reads_53 : Reads Tryd.prog 53 Hold.enc ok_Hold := by
  intro H enc w base spare held fuel cs x h
  obtain ⟨xs, n, _, _, hlen, hxl, hf⟩ := DataW.trod_struct Tryd.underlying53 h
  have hlen : cs.length = 5 := hlen.trans (by kernel_rfl)
  obtain ⟨a0, o0, r0⟩ := fld (sz := 3) hf hxl 0 _ rfl (by kernel_rfl) reads_24
  obtain ⟨a1, o1, r1⟩ := fld (sz := 2) hf hxl 1 _ rfl (by kernel_rfl) reads_26
  refine ⟨⟨a0, a1⟩, ⟨o0, o1⟩, ?_⟩
  have e : cs = (cs.drop 0).take 3 ++ (cs.drop 3).take 2 := by
    rcases cs with _ | ⟨_, _ | ⟨_, _ | ⟨_, _ | ⟨_, _ | ⟨_, _ | ⟨_, _⟩⟩⟩⟩⟩⟩
    all_goals first | rfl | (simp at hlen)
  rw [e]
  exact RCs.append r1 (r0)
theorem reads_22 : Reads Tryd.prog 22 (eL Hold.enc) (fun l : List Hold => l.length ≤ maxLen ∧ ∀ a ∈ l, ok_Hold a) := reads_slice Tryd.underlying22 (sz := 5) (by kernel_rfl) (by omega) (Hold.len) reads_53
theorem HoldersValid_contract (H : Type) (enc : TypeId × Value → H) (W : World) (base : Nat) (args : Array Value) (ds gs : List (DataW H)) (before : List MemPlace)
    (hval : ∀ (j : Nat) t v, Tryd.f10.params[j]? = some t → args[j]? = some v → Value.okWide Tryd.prog W .any base t v)
    (hW : DataW.Whole enc Tryd.prog Tryd.f10.params.toList Rows.holdersValidSpec.vars false W args.toList ds gs before) (hL : laidMetH Tryd.prog Rows.holdersValidRow.laid W) :
    Calls Tryd.prog 10 args W fun e W' => ∃ v, e = .returned v ∧ Rows.holdersValidSpec.post enc Tryd.prog Tryd.f10 false true false false W args v W' := by
  have hW' := hW
  obtain ⟨p, q, hA0, hV, rfl, hfz, hnd⟩ := hW
  have hA : DataW.TrodAll enc Tryd.prog W 0 (fun _ => true) true Tryd.f10.params.toList args.toList ds p := hA0
  rw [Tryd.params10] at hA hval
  obtain ⟨v0, vs0, d0, ds0, p0, q0, hargs, rfl, rfl, h0, r0⟩ := trodAll_cons hA
  obtain ⟨v1, vs1, d1, ds1, p1, q1, rfl, rfl, rfl, h1, r1⟩ := trodAll_cons r0
  obtain ⟨v2, vs2, d2, ds2, p2, q2, rfl, rfl, rfl, h2, r2⟩ := trodAll_cons r1
  obtain ⟨rfl, rfl, rfl⟩ := trodAll_nil r2
  obtain rfl : args = #[v0, v1, v2] := by cases args; simp_all
  obtain ⟨rfl, rfl⟩ := trodVars_none hV
  obtain ⟨x0, o0, hv0⟩ := arg_agg reads_32 Tryd.underlying32 (hval 0 32 v0 rfl rfl) h0
  obtain ⟨x1, o1, hv1⟩ := arg_one (f := fun x => .sl (x.map Hold.enc)) reads_22 (fun _ => rfl) (one_slice Tryd.underlying22 (hval 1 22 v1 rfl rfl)) h1
  obtain ⟨x2, o2, hv2⟩ := arg_agg reads_24 Tryd.underlying24 (hval 2 24 v2 rfl rfl) h2
  refine law_post Tryd.laidOut (fun t ht => ?_) rfl (by kernel_rfl) Tryd.underlying4 hW' rfl ?_
  · rw [Tryd.params10] at ht
    simp only [List.mem_cons, List.not_mem_nil, or_false] at ht
    rcases ht with rfl | rfl | rfl
    all_goals exact ⟨by kernel_rfl, of_decide_eq_true (by kernel_rfl)⟩
  · have hp := law10_HoldersValid_ok x0 x1 x2 true (HoldersValid_true x0 x1 x2) W (fun _ => False) [v0, v1, v2] (glob_of_laid tab0_num tab0_type tab0_lits tab0_is hL) (fun b h => h.elim) rfl (fun i v a hv ha => ?_)
    · exact hp.mono fun e w' ⟨v, he, hk, hr⟩ => ⟨v, he, hk, hr.bool⟩
    · match i, hv, ha with
      | 0, hv, ha => cases hv; cases ha; exact hv0
      | 1, hv, ha => cases hv; cases ha; exact hv1
      | 2, hv, ha => cases hv; cases ha; exact hv2
      | i + 3, hv, ha => simp at hv
noncomputable def HoldersValid_world (os : Os) : World :=
  { World.holding Tryd.prog os ⟨#[], #[], []⟩ with heap := (World.holding Tryd.prog os ⟨#[], #[], []⟩).heap.modify 0 fun
      | .cells _ t frozen => .cells #[.bool true, .bool true, .bool true, .bool true, .bool false, .bool true, .bool true, .bool false, .bool false, .bool false, .bool true, .bool false, .bool true, .bool false, .bool false, .bool true, .bool false, .bool false, .bool false, .bool false, .bool false, .bool false, .bool false, .bool false, .bool false] t frozen
      | o => o }
theorem HoldersValid_met (os : Os) : laidMet Tryd.prog Rows.holdersValidRow.laid ((HoldersValid_world os).forCall (fun _ _ => 0) ⟨#[], #[.agg #[.string ⟨#[]⟩, .int .i64 0, .int .i64 0, .int .i64 0], .slice none 0 0, .agg #[.int .i64 0, .int .i64 0, .int .i64 0]], []⟩).memory := laidMet_of_run' 8 (by kernel_rfl) (by kernel_rfl)
theorem HoldersValid_reads (os : Os) {H : Type} (enc : TypeId × Value → H) : ∃ x, DataW.whole enc Tryd.prog ((HoldersValid_world os).forCall (fun _ _ => 0) ⟨#[], #[.agg #[.string ⟨#[]⟩, .int .i64 0, .int .i64 0, .int .i64 0], .slice none 0 0, .agg #[.int .i64 0, .int .i64 0, .int .i64 0]], []⟩).memory Tryd.f10.params.toList Rows.holdersValidSpec.vars false (#[.agg #[.string ⟨#[]⟩, .int .i64 0, .int .i64 0, .int .i64 0], .slice none 0 0, .agg #[.int .i64 0, .int .i64 0, .int .i64 0]] : Array Value).toList 8 = some x := Option.isSome_iff_exists.1 (by kernel_rfl)
set_option maxRecDepth 100000 in
theorem HoldersValid_lifted (os : Os) (started : os.Started) (H : Type) (enc : TypeId × Value → H) (F : Stop.Interp) :
    ReturnsInHanded {} Tryd.checked os 10 .any ((OpenSpec.ofChange Rows.holdersValidSpec).preRow enc Tryd.prog Tryd.f10 Rows.holdersValidRow.domain false Rows.holdersValidRow.laid) (((OpenSpec.ofChange Rows.holdersValidSpec).at F).post enc Tryd.prog Tryd.f10 false true false false) := by
  obtain ⟨x, hx⟩ := HoldersValid_reads os enc
  refine returnsInHanded_of_row (C := Tryd.checked) (s := OpenSpec.ofChange Rows.holdersValidSpec) Tryd.own started (by kernel_rfl) Tryd.func10
    (witness_row_at (enc := enc) (C := Tryd.checked) false (HoldersValid_world os) #[.agg #[.string ⟨#[]⟩, .int .i64 0, .int .i64 0, .int .i64 0], .slice none 0 0, .agg #[.int .i64 0, .int .i64 0, .int .i64 0]] rfl (by kernel_rfl) (by kernel_rfl) (by kernel_rfl)
      (OpenSpec.preRow_of_cond 8 hx (by kernel_rfl) (fun k hk => by cases hk) (by kernel_rfl) (HoldersValid_met os))) ?_
  intro W base args ds gs before hval hW _ _ _ hL _ _
  exact HoldersValid_contract H enc W base args ds gs before hval hW hL
theorem HoldersValid_said : Rows.HoldersValidSaid :=
  OpenClaim.holds_of_cond 10 Tryd.f10 rfl rfl rfl rfl rfl rfl rfl ⟨rfl, rfl, rfl, rfl, rfl⟩ rfl rfl rfl rfl rfl (by kernel_rfl) Tryd.func10 (by kernel_rfl)
    (of_decide_eq_true (by kernel_rfl)) (by unfold Func.isWrapper; first | (rw [if_pos (by decide +kernel)]; kernel_rfl) | (rw [if_neg (by decide +kernel)]; exact ⟨rfl, rfl⟩))
    (fun os started H enc _ F => by rw [OpenClaim.pre_eq_preRow]; exact HoldersValid_lifted os started H enc F)
theorem HoldersValid_plain (f : FuncId) (fn : Func) (hf : Tryd.pinned.checked.prog.funcNamed "clusterlocks/clusterlockslaw10.HoldersValid" = some f) (hfn : Tryd.pinned.checked.prog.funcs[f]? = some fn) :
    false = Tryd.pinned.checked.prog.looks [] ∧ ∀ (j : Nat) t, fn.params[j]? = some t → Tryd.pinned.checked.prog.wantsStandIn t = false := by
  obtain rfl : f = 10 := Option.some.inj ((show Tryd.prog.funcNamed "clusterlocks/clusterlockslaw10.HoldersValid" = some 10 by kernel_rfl).symm.trans hf) |>.symm
  obtain rfl : fn = Tryd.f10 := (Option.some.inj (Tryd.func10.symm.trans hfn)).symm
  refine ⟨by kernel_rfl, fun j t ht => ?_⟩
  rw [Tryd.params10] at ht
  have hm := Array.mem_of_getElem? ht
  simp at hm
  rcases hm with rfl | rfl | rfl
  all_goals first | exact (show Tryd.prog.wantsStandIn 22 = false by kernel_rfl) | exact (show Tryd.prog.wantsStandIn 24 = false by kernel_rfl) | exact (show Tryd.prog.wantsStandIn 32 = false by kernel_rfl)
theorem HoldersValid_holds : Rows.HoldersValidCardSaid :=
  Claim7.holds_tied_plain_at .later [] _ _ _ _ HoldersValid_said (fun _ h => by cases h) (by kernel_rfl) (fun _ h => by cases h) holdersValid_row_tie rfl ⟨rfl, rfl⟩ (by kernel_rfl) rfl HoldersValid_plain (by kernel_rfl)
end Ab
end Go.Proofs.YtmegjomldcfoaaaDoor
