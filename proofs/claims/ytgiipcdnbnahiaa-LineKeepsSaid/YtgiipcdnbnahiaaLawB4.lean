/-
  What an insertion keeps: the law returns true, whatever the input; no condition.
-/
import Derived.Test.YtgiipcdnbnahiaaLineQ
import Derived.Test.YtgiipcdnbnahiaaTop
namespace Go.Proofs.Ytgiipcdnbnahiaa
namespace Ab
open Go.ChangeShapes Go.WideShapes Go.ChangeAt Go.RowKit
set_option linter.unusedVariables false
theorem Try.own : ownKnob Try.prog.godebug = none := by kernel_rfl
theorem Try.laidOut : laidOutB Try.prog = true := by kernel_rfl
theorem reads_3 : Reads Try.prog 3 (eI .i64) (fun n : Int => IntKind.i64.min ≤ n ∧ n ≤ IntKind.i64.max) := reads_int Try.underlying3
def ok_Proc (x : Proc) : Prop := (fun n : Int => IntKind.i64.min ≤ n ∧ n ≤ IntKind.i64.max) x.site ∧ (fun n : Int => IntKind.i64.min ≤ n ∧ n ≤ IntKind.i64.max) x.inc ∧ (fun n : Int => IntKind.i64.min ≤ n ∧ n ≤ IntKind.i64.max) x.num
theorem reads_24 : Reads Try.prog 24 Proc.enc ok_Proc := by
  intro H enc w base spare held fuel cs x h
  obtain ⟨xs, n, _, _, hlen, hxl, hf⟩ := DataW.trod_struct Try.underlying24 h
  have hlen : cs.length = 3 := hlen.trans (by kernel_rfl)
  obtain ⟨a0, o0, r0⟩ := fld (sz := 1) hf hxl 0 _ rfl (by kernel_rfl) reads_3
  obtain ⟨a1, o1, r1⟩ := fld (sz := 1) hf hxl 1 _ rfl (by kernel_rfl) reads_3
  obtain ⟨a2, o2, r2⟩ := fld (sz := 1) hf hxl 2 _ rfl (by kernel_rfl) reads_3
  refine ⟨⟨a0, a1, a2⟩, ⟨o0, o1, o2⟩, ?_⟩
  have e : cs = (cs.drop 0).take 1 ++ (cs.drop 1).take 1 ++ (cs.drop 2).take 1 := by
    rcases cs with _ | ⟨_, _ | ⟨_, _ | ⟨_, _ | ⟨_, _⟩⟩⟩⟩
    all_goals first | rfl | (simp at hlen)
  rw [e]
  exact RCs.append r2 (RCs.append r1 (r0))
def ok_Amount (x : Amount) : Prop := (fun n : Int => IntKind.i64.min ≤ n ∧ n ≤ IntKind.i64.max) x.mode ∧ (fun n : Int => IntKind.i64.min ≤ n ∧ n ≤ IntKind.i64.max) x.units
theorem reads_26 : Reads Try.prog 26 Amount.enc ok_Amount := by
  intro H enc w base spare held fuel cs x h
  obtain ⟨xs, n, _, _, hlen, hxl, hf⟩ := DataW.trod_struct Try.underlying26 h
  have hlen : cs.length = 2 := hlen.trans (by kernel_rfl)
  obtain ⟨a0, o0, r0⟩ := fld (sz := 1) hf hxl 0 _ rfl (by kernel_rfl) reads_3
  obtain ⟨a1, o1, r1⟩ := fld (sz := 1) hf hxl 1 _ rfl (by kernel_rfl) reads_3
  refine ⟨⟨a0, a1⟩, ⟨o0, o1⟩, ?_⟩
  have e : cs = (cs.drop 0).take 1 ++ (cs.drop 1).take 1 := by
    rcases cs with _ | ⟨_, _ | ⟨_, _ | ⟨_, _⟩⟩⟩
    all_goals first | rfl | (simp at hlen)
  rw [e]
  exact RCs.append r1 (r0)
def ok_Wait (x : Wait) : Prop := ok_Proc x.proc ∧ ok_Amount x.amount ∧ (fun n : Int => IntKind.i64.min ≤ n ∧ n ≤ IntKind.i64.max) x.priority ∧ (fun n : Int => IntKind.i64.min ≤ n ∧ n ≤ IntKind.i64.max) x.passed
theorem reads_28 : Reads Try.prog 28 Wait.enc ok_Wait := by
  intro H enc w base spare held fuel cs x h
  obtain ⟨xs, n, _, _, hlen, hxl, hf⟩ := DataW.trod_struct Try.underlying28 h
  have hlen : cs.length = 7 := hlen.trans (by kernel_rfl)
  obtain ⟨a0, o0, r0⟩ := fld (sz := 3) hf hxl 0 _ rfl (by kernel_rfl) reads_24
  obtain ⟨a1, o1, r1⟩ := fld (sz := 2) hf hxl 1 _ rfl (by kernel_rfl) reads_26
  obtain ⟨a2, o2, r2⟩ := fld (sz := 1) hf hxl 2 _ rfl (by kernel_rfl) reads_3
  obtain ⟨a3, o3, r3⟩ := fld (sz := 1) hf hxl 3 _ rfl (by kernel_rfl) reads_3
  refine ⟨⟨a0, a1, a2, a3⟩, ⟨o0, o1, o2, o3⟩, ?_⟩
  have e : cs = (cs.drop 0).take 3 ++ (cs.drop 3).take 2 ++ (cs.drop 5).take 1 ++ (cs.drop 6).take 1 := by
    rcases cs with _ | ⟨_, _ | ⟨_, _ | ⟨_, _ | ⟨_, _ | ⟨_, _ | ⟨_, _ | ⟨_, _ | ⟨_, _⟩⟩⟩⟩⟩⟩⟩⟩
    all_goals first | rfl | (simp at hlen)
  rw [e]
  exact RCs.append r3 (RCs.append r2 (RCs.append r1 (r0)))
theorem reads_22 : Reads Try.prog 22 (eL Wait.enc) (fun l : List Wait => l.length ≤ maxLen ∧ ∀ a ∈ l, ok_Wait a) := reads_slice Try.underlying22 (sz := 7) (by kernel_rfl) (by omega) (Wait.len) reads_28
theorem LineKeeps_contract (H : Type) (enc : TypeId × Value → H) (W : World) (base : Nat) (args : Array Value) (ds gs : List (DataW H)) (before : List MemPlace)
    (hval : ∀ (j : Nat) t v, Try.f7.params[j]? = some t → args[j]? = some v → Value.okWide Try.prog W .any base t v)
    (hW : DataW.Whole enc Try.prog Try.f7.params.toList Rows.lineKeepsSpec.vars false W args.toList ds gs before) :
    Calls Try.prog 7 args W fun e W' => ∃ v, e = .returned v ∧ Rows.lineKeepsSpec.post enc Try.prog Try.f7 false true false false W args v W' := by
  have hW' := hW
  obtain ⟨p, q, hA0, hV, rfl, hfz, hnd⟩ := hW
  have hA : DataW.TrodAll enc Try.prog W 0 (fun _ => true) true Try.f7.params.toList args.toList ds p := hA0
  rw [Try.params7] at hA hval
  obtain ⟨v0, vs0, d0, ds0, p0, q0, hargs, rfl, rfl, h0, r0⟩ := trodAll_cons hA
  obtain ⟨v1, vs1, d1, ds1, p1, q1, rfl, rfl, rfl, h1, r1⟩ := trodAll_cons r0
  obtain ⟨rfl, rfl, rfl⟩ := trodAll_nil r1
  obtain rfl : args = #[v0, v1] := by cases args; simp_all
  obtain ⟨rfl, rfl⟩ := trodVars_none hV
  obtain ⟨x0, o0, hv0⟩ := arg_one (f := fun x => .sl (x.map Wait.enc)) reads_22 (fun _ => rfl) (one_slice Try.underlying22 (hval 0 22 v0 rfl rfl)) h0
  obtain ⟨x1, o1, hv1⟩ := arg_agg reads_28 Try.underlying28 (hval 1 28 v1 rfl rfl) h1
  refine law_post Try.laidOut (fun t ht => ?_) rfl (by kernel_rfl) Try.underlying4 hW' rfl ?_
  · rw [Try.params7] at ht
    simp only [List.mem_cons, List.not_mem_nil, or_false] at ht
    rcases ht with rfl | rfl
    all_goals exact ⟨by kernel_rfl, of_decide_eq_true (by kernel_rfl)⟩
  · have hp := law11_LineKeeps_ok x0 x1 true (LineKeeps_true x0 x1) W (fun _ => False) [v0, v1] (fun g cs h => by cases h) (fun b h => h.elim) rfl (fun i v a hv ha => ?_)
    · exact hp.mono fun e w' ⟨v, he, hk, hr⟩ => ⟨v, he, hk, hr.bool⟩
    · match i, hv, ha with
      | 0, hv, ha => cases hv; cases ha; exact hv0
      | 1, hv, ha => cases hv; cases ha; exact hv1
      | i + 2, hv, ha => simp at hv
set_option maxRecDepth 100000 in
theorem LineKeeps_lifted (os : Os) (started : os.Started) (H : Type) (enc : TypeId × Value → H) :
    ReturnsInHanded {} Try.checked os 7 .any (Rows.lineKeepsSpec.pre6 enc Try.prog Try.f7 Rows.lineKeepsRow.domain false) (Rows.lineKeepsSpec.post enc Try.prog Try.f7 false true false false) := by
  refine returnsInHanded_of_change (C := Try.checked) (s := Rows.lineKeepsSpec) Try.own started (by kernel_rfl) Try.func7
    (ChangeSpec.witness6 (enc := enc) (C := Try.checked) (s := Rows.lineKeepsSpec) false ⟨#[], #[.slice none 0 0, .agg #[.int .i64 0, .int .i64 0, .int .i64 0, .int .i64 0, .int .i64 0, .int .i64 0, .int .i64 0]], []⟩ 8 (by kernel_rfl) (by kernel_rfl) (by kernel_rfl) (by kernel_rfl) rfl) ?_
  intro W base args ds gs before hval hW _ _
  exact LineKeeps_contract H enc W base args ds gs before hval hW
theorem LineKeeps_holds : Rows.LineKeepsSaid :=
  OpenClaim.holds_of_wide 7 Try.f7 rfl rfl rfl rfl rfl rfl rfl ⟨rfl, rfl, rfl, rfl, rfl⟩ rfl rfl rfl rfl rfl (by kernel_rfl) Try.func7 (by kernel_rfl)
    (of_decide_eq_true (by kernel_rfl)) (by unfold Func.isWrapper; first | (rw [if_pos (by decide +kernel)]; kernel_rfl) | (rw [if_neg (by decide +kernel)]; exact ⟨rfl, rfl⟩))
    (fun os started H enc _ => LineKeeps_lifted os started H enc)
end Ab
end Go.Proofs.Ytgiipcdnbnahiaa
