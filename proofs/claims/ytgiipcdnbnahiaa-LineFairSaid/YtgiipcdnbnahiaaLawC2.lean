/-
  How often a waiting claim is overtaken: the law returns true, whatever the script; no condition.
-/
import Derived.Test.YtgiipcdnbnahiaaLineT
import Derived.Test.YtgiipcdnbnahiaaTop
namespace Go.Proofs.Ytgiipcdnbnahiaa
namespace Ab
open Go.ChangeShapes Go.WideShapes Go.ChangeAt Go.RowKit
set_option linter.unusedVariables false
theorem Try.own : ownKnob Try.prog.godebug = none := by kernel_rfl
theorem Try.laidOut : laidOutB Try.prog = true := by kernel_rfl
theorem reads_3 : Reads Try.prog 3 (eI .i64) (fun n : Int => IntKind.i64.min ≤ n ∧ n ≤ IntKind.i64.max) := reads_int Try.underlying3
theorem reads_46 : Reads Try.prog 46 (eL (eI .i64)) (fun l : List Int => l.length ≤ maxLen ∧ ∀ a ∈ l, (fun n : Int => IntKind.i64.min ≤ n ∧ n ≤ IntKind.i64.max) a) := reads_slice Try.underlying46 (sz := 1) (by kernel_rfl) (by omega) (fun _ => rfl) reads_3
theorem LineFair_contract (H : Type) (enc : TypeId × Value → H) (W : World) (base : Nat) (args : Array Value) (ds gs : List (DataW H)) (before : List MemPlace)
    (hval : ∀ (j : Nat) t v, Try.f8.params[j]? = some t → args[j]? = some v → Value.okWide Try.prog W .any base t v)
    (hW : DataW.Whole enc Try.prog Try.f8.params.toList Rows.lineFairSpec.vars false W args.toList ds gs before) :
    Calls Try.prog 8 args W fun e W' => ∃ v, e = .returned v ∧ Rows.lineFairSpec.post enc Try.prog Try.f8 false true false false W args v W' := by
  have hW' := hW
  obtain ⟨p, q, hA0, hV, rfl, hfz, hnd⟩ := hW
  have hA : DataW.TrodAll enc Try.prog W 0 (fun _ => true) true Try.f8.params.toList args.toList ds p := hA0
  rw [Try.params8] at hA hval
  obtain ⟨v0, vs0, d0, ds0, p0, q0, hargs, rfl, rfl, h0, r0⟩ := trodAll_cons hA
  obtain ⟨rfl, rfl, rfl⟩ := trodAll_nil r0
  obtain rfl : args = #[v0] := by cases args; simp_all
  obtain ⟨rfl, rfl⟩ := trodVars_none hV
  obtain ⟨x0, o0, hv0⟩ := arg_one (f := fun x => .sl (x.map (eI .i64))) reads_46 (fun _ => rfl) (one_slice Try.underlying46 (hval 0 46 v0 rfl rfl)) h0
  refine law_post Try.laidOut (fun t ht => ?_) rfl (by kernel_rfl) Try.underlying4 hW' rfl ?_
  · rw [Try.params8] at ht
    simp only [List.mem_cons, List.not_mem_nil, or_false] at ht
    rcases ht with rfl
    all_goals exact ⟨by kernel_rfl, of_decide_eq_true (by kernel_rfl)⟩
  · have hp := law11_LineFair_ok x0 true (LineFair_true x0) W (fun _ => False) [v0] (fun g cs h => by cases h) (fun b h => h.elim) rfl (fun i v a hv ha => ?_)
    · exact hp.mono fun e w' ⟨v, he, hk, hr⟩ => ⟨v, he, hk, hr.bool⟩
    · match i, hv, ha with
      | 0, hv, ha => cases hv; cases ha; exact hv0
      | i + 1, hv, ha => simp at hv
set_option maxRecDepth 100000 in
theorem LineFair_lifted (os : Os) (started : os.Started) (H : Type) (enc : TypeId × Value → H) :
    ReturnsInHanded {} Try.checked os 8 .any (Rows.lineFairSpec.pre6 enc Try.prog Try.f8 Rows.lineFairRow.domain false) (Rows.lineFairSpec.post enc Try.prog Try.f8 false true false false) := by
  refine returnsInHanded_of_change (C := Try.checked) (s := Rows.lineFairSpec) Try.own started (by kernel_rfl) Try.func8
    (ChangeSpec.witness6 (enc := enc) (C := Try.checked) (s := Rows.lineFairSpec) false ⟨#[], #[.slice none 0 0], []⟩ 8 (by kernel_rfl) (by kernel_rfl) (by kernel_rfl) (by kernel_rfl) rfl) ?_
  intro W base args ds gs before hval hW _ _
  exact LineFair_contract H enc W base args ds gs before hval hW
theorem LineFair_holds : Rows.LineFairSaid :=
  OpenClaim.holds_of_wide 8 Try.f8 rfl rfl rfl rfl rfl rfl rfl ⟨rfl, rfl, rfl, rfl, rfl⟩ rfl rfl rfl rfl rfl (by kernel_rfl) Try.func8 (by kernel_rfl)
    (of_decide_eq_true (by kernel_rfl)) (by unfold Func.isWrapper; first | (rw [if_pos (by decide +kernel)]; kernel_rfl) | (rw [if_neg (by decide +kernel)]; exact ⟨rfl, rfl⟩))
    (fun os started H enc _ => LineFair_lifted os started H enc)
end Ab
end Go.Proofs.Ytgiipcdnbnahiaa
