/-
  Functions of the program, as Lean functions; what the program's code computes is what they say.
-/
import Derived.Test.YtgiipcdnbnahiaaCode
namespace Go.Proofs.Ytgiipcdnbnahiaa
namespace Ab
set_option linter.unusedSimpArgs false
set_option linter.unusedVariables false
set_option maxRecDepth 100000
set_option maxHeartbeats 1000000

noncomputable def f_mill_Mod (a0 : Int) (a1 : Int) : Option (Int) :=
  (if (decide (a1 < 1)) = true then
    some 0
  else
    gd (a1 ≠ 0) <|
    (if (decide ((a0.tmod a1) < 0)) = true then
      some (IntKind.i64.wrap ((a0.tmod a1) + a1))
    else
      some (a0.tmod a1)))
theorem mill_Mod_ok (a0 : Int) (a1 : Int) (r : Int) (h : f_mill_Mod a0 a1 = some r) : PFn C 27 [.int .i64 a0, .int .i64 a1] (.int .i64 r) := by
  refine pfn_intro chk_mill_Mod rfl fun E hG hN hK => ?_
  unfold pc_mill_Mod
  unfold f_mill_Mod at h
  refine s_seq ?_
  refine aw_reg hG ?_
  simp only [r_mill_Mod_0, go_sem, ↓reduceIte, reduceCtorEq, Nat.reduceEqDiff, Nat.reduceAdd, Nat.reduceSub, Nat.reduceMul, Nat.reduceLeDiff, Nat.reduceLT, Int.reduceLE, Int.reduceLT, Int.reduceToNat, Int.reduceNeg]
  repeat refine And.intro (by first | assumption | omega | rfl | (simp; done) | (simp; omega) | (intros; simp_all; done) | grind) ?_
  refine s_seq ?_
  refine s_seq ?_
  refine aw_reg hG ?_
  simp only [r_mill_Mod_1, go_sem, ↓reduceIte, reduceCtorEq, Nat.reduceEqDiff, Nat.reduceAdd, Nat.reduceSub, Nat.reduceMul, Nat.reduceLeDiff, Nat.reduceLT, Int.reduceLE, Int.reduceLT, Int.reduceToNat, Int.reduceNeg]
  repeat refine And.intro (by first | assumption | omega | rfl | (simp; done) | (simp; omega) | (intros; simp_all; done) | grind) ?_
  refine aw_cond rfl hG ?_ ?_
  · intro hc1
    replace h := ite_t (by first | exact hc1 | simpa using hc1) h
    refine s_seq ?_
    refine aw_reg hG ?_
    simp only [r_mill_Mod_2, go_sem, ↓reduceIte, reduceCtorEq, Nat.reduceEqDiff, Nat.reduceAdd, Nat.reduceSub, Nat.reduceMul, Nat.reduceLeDiff, Nat.reduceLT, Int.reduceLE, Int.reduceLT, Int.reduceToNat, Int.reduceNeg]
    repeat refine And.intro (by first | assumption | omega | rfl | (simp; done) | (simp; omega) | (intros; simp_all; done) | grind) ?_
    refine aw_ret ?_
    simp only [go_sem, ↓reduceIte, reduceCtorEq, Nat.reduceEqDiff, Nat.reduceAdd, Nat.reduceSub, Nat.reduceMul, Nat.reduceLeDiff, Nat.reduceLT, Int.reduceLE, Int.reduceLT, Int.reduceToNat, Int.reduceNeg]
    obtain rfl := Option.some.inj h
    first | done | rfl | (simp; done) | (repeat' (first | rfl | trivial | omega | (simp; done) | apply And.intro))
  · intro hc1
    replace h := ite_f (by first | exact hc1 | simpa using hc1) h
    refine aw_skip ?_
    simp only [go_sem, ↓reduceIte, reduceCtorEq, Nat.reduceEqDiff, Nat.reduceAdd, Nat.reduceSub, Nat.reduceMul, Nat.reduceLeDiff, Nat.reduceLT, Int.reduceLE, Int.reduceLT, Int.reduceToNat, Int.reduceNeg]
    refine s_seq ?_
    obtain ⟨hb1, h⟩ := gd_some h
    refine aw_reg hG ?_
    simp only [r_mill_Mod_3, go_sem, ↓reduceIte, reduceCtorEq, Nat.reduceEqDiff, Nat.reduceAdd, Nat.reduceSub, Nat.reduceMul, Nat.reduceLeDiff, Nat.reduceLT, Int.reduceLE, Int.reduceLT, Int.reduceToNat, Int.reduceNeg, hb1]
    repeat refine And.intro (by first | assumption | omega | rfl | (simp; done) | (simp; omega) | (intros; simp_all; done) | grind) ?_
    refine s_seq ?_
    refine s_seq ?_
    refine aw_reg hG ?_
    simp only [r_mill_Mod_4, go_sem, ↓reduceIte, reduceCtorEq, Nat.reduceEqDiff, Nat.reduceAdd, Nat.reduceSub, Nat.reduceMul, Nat.reduceLeDiff, Nat.reduceLT, Int.reduceLE, Int.reduceLT, Int.reduceToNat, Int.reduceNeg]
    repeat refine And.intro (by first | assumption | omega | rfl | (simp; done) | (simp; omega) | (intros; simp_all; done) | grind) ?_
    refine aw_cond rfl hG ?_ ?_
    · intro hc2
      replace h := ite_t (by first | exact hc2 | simpa using hc2) h
      refine aw_reg hG ?_
      simp only [r_mill_Mod_5, go_sem, ↓reduceIte, reduceCtorEq, Nat.reduceEqDiff, Nat.reduceAdd, Nat.reduceSub, Nat.reduceMul, Nat.reduceLeDiff, Nat.reduceLT, Int.reduceLE, Int.reduceLT, Int.reduceToNat, Int.reduceNeg]
      repeat refine And.intro (by first | assumption | omega | rfl | (simp; done) | (simp; omega) | (intros; simp_all; done) | grind) ?_
      refine s_seq ?_
      refine aw_reg hG ?_
      simp only [r_mill_Mod_6, go_sem, ↓reduceIte, reduceCtorEq, Nat.reduceEqDiff, Nat.reduceAdd, Nat.reduceSub, Nat.reduceMul, Nat.reduceLeDiff, Nat.reduceLT, Int.reduceLE, Int.reduceLT, Int.reduceToNat, Int.reduceNeg]
      repeat refine And.intro (by first | assumption | omega | rfl | (simp; done) | (simp; omega) | (intros; simp_all; done) | grind) ?_
      refine aw_ret ?_
      simp only [go_sem, ↓reduceIte, reduceCtorEq, Nat.reduceEqDiff, Nat.reduceAdd, Nat.reduceSub, Nat.reduceMul, Nat.reduceLeDiff, Nat.reduceLT, Int.reduceLE, Int.reduceLT, Int.reduceToNat, Int.reduceNeg]
      obtain rfl := Option.some.inj h
      first | done | rfl | (simp; done) | (repeat' (first | rfl | trivial | omega | (simp; done) | apply And.intro))
    · intro hc2
      replace h := ite_f (by first | exact hc2 | simpa using hc2) h
      refine aw_skip ?_
      simp only [go_sem, ↓reduceIte, reduceCtorEq, Nat.reduceEqDiff, Nat.reduceAdd, Nat.reduceSub, Nat.reduceMul, Nat.reduceLeDiff, Nat.reduceLT, Int.reduceLE, Int.reduceLT, Int.reduceToNat, Int.reduceNeg]
      refine s_seq ?_
      refine aw_reg hG ?_
      simp only [r_mill_Mod_6, go_sem, ↓reduceIte, reduceCtorEq, Nat.reduceEqDiff, Nat.reduceAdd, Nat.reduceSub, Nat.reduceMul, Nat.reduceLeDiff, Nat.reduceLT, Int.reduceLE, Int.reduceLT, Int.reduceToNat, Int.reduceNeg]
      repeat refine And.intro (by first | assumption | omega | rfl | (simp; done) | (simp; omega) | (intros; simp_all; done) | grind) ?_
      refine aw_ret ?_
      simp only [go_sem, ↓reduceIte, reduceCtorEq, Nat.reduceEqDiff, Nat.reduceAdd, Nat.reduceSub, Nat.reduceMul, Nat.reduceLeDiff, Nat.reduceLT, Int.reduceLE, Int.reduceLT, Int.reduceToNat, Int.reduceNeg]
      obtain rfl := Option.some.inj h
      first | done | rfl | (simp; done) | (repeat' (first | rfl | trivial | omega | (simp; done) | apply And.intro))

noncomputable def f_mill_Proc (a0 : Int) : Option (Proc) :=
  (f_mill_Mod a0 8).bind fun v1 =>
  some (⟨(v1.tmod 4), 1, (IntKind.i64.wrap (1 + (IntKind.i64.wrap (v1.tdiv 4))))⟩ : Proc)
theorem mill_Proc_ok (a0 : Int) (r : Proc) (h : f_mill_Proc a0 = some r) : PFn C 29 [.int .i64 a0] (.agg (Proc.enc r)) := by
  refine pfn_intro chk_mill_Proc rfl fun E hG hN hK => ?_
  unfold pc_mill_Proc
  unfold f_mill_Proc at h
  refine s_seq ?_
  refine aw_reg hG ?_
  simp only [r_mill_Proc_0, go_sem, ↓reduceIte, reduceCtorEq, Nat.reduceEqDiff, Nat.reduceAdd, Nat.reduceSub, Nat.reduceMul, Nat.reduceLeDiff, Nat.reduceLT, Int.reduceLE, Int.reduceLT, Int.reduceToNat, Int.reduceNeg]
  repeat refine And.intro (by first | assumption | omega | rfl | (simp; done) | (simp; omega) | (intros; simp_all; done) | grind) ?_
  refine s_seq ?_
  refine aw_reg hG ?_
  simp only [r_mill_Proc_1, go_sem, ↓reduceIte, reduceCtorEq, Nat.reduceEqDiff, Nat.reduceAdd, Nat.reduceSub, Nat.reduceMul, Nat.reduceLeDiff, Nat.reduceLT, Int.reduceLE, Int.reduceLT, Int.reduceToNat, Int.reduceNeg]
  repeat refine And.intro (by first | assumption | omega | rfl | (simp; done) | (simp; omega) | (intros; simp_all; done) | grind) ?_
  obtain ⟨v1, hv1, h⟩ := bind_of h
  refine acall_of (fun hg => mill_Mod_ok a0 8 _ (hv1)) ?_
  simp only [go_sem, ↓reduceIte, reduceCtorEq, Nat.reduceEqDiff, Nat.reduceAdd, Nat.reduceSub, Nat.reduceMul, Nat.reduceLeDiff, Nat.reduceLT, Int.reduceLE, Int.reduceLT, Int.reduceToNat, Int.reduceNeg]
  repeat refine And.intro (by first | assumption | omega | rfl | (simp; done) | (simp; omega) | (intros; simp_all; done) | grind) ?_
  refine s_seq ?_
  refine aw_reg hG ?_
  simp only [r_mill_Proc_2, go_sem, ↓reduceIte, reduceCtorEq, Nat.reduceEqDiff, Nat.reduceAdd, Nat.reduceSub, Nat.reduceMul, Nat.reduceLeDiff, Nat.reduceLT, Int.reduceLE, Int.reduceLT, Int.reduceToNat, Int.reduceNeg]
  repeat refine And.intro (by first | assumption | omega | rfl | (simp; done) | (simp; omega) | (intros; simp_all; done) | grind) ?_
  refine aw_ret ?_
  simp only [go_sem, ↓reduceIte, reduceCtorEq, Nat.reduceEqDiff, Nat.reduceAdd, Nat.reduceSub, Nat.reduceMul, Nat.reduceLeDiff, Nat.reduceLT, Int.reduceLE, Int.reduceLT, Int.reduceToNat, Int.reduceNeg]
  obtain rfl := Option.some.inj h
  first | done | rfl | (simp; done) | (repeat' (first | rfl | trivial | omega | (simp; done) | apply And.intro))

noncomputable def f_law11_claim (a0 : Int) (a1 : Int) : Option (Wait) :=
  (f_mill_Proc a0).bind fun v1 =>
  some ({ Wait.zero with proc := v1, amount := { Amount.zero with mode := 5 }, priority := a1 })
theorem law11_claim_ok (a0 : Int) (a1 : Int) (r : Wait) (h : f_law11_claim a0 a1 = some r) : PFn C 18 [.int .i64 a0, .int .i64 a1] (.agg (Wait.enc r)) := by
  refine pfn_intro chk_law11_claim rfl fun E hG hN hK => ?_
  unfold pc_law11_claim
  unfold f_law11_claim at h
  refine s_seq ?_
  refine aw_reg hG ?_
  simp only [r_law11_claim_0, go_sem, ↓reduceIte, reduceCtorEq, Nat.reduceEqDiff, Nat.reduceAdd, Nat.reduceSub, Nat.reduceMul, Nat.reduceLeDiff, Nat.reduceLT, Int.reduceLE, Int.reduceLT, Int.reduceToNat, Int.reduceNeg]
  repeat refine And.intro (by first | assumption | omega | rfl | (simp; done) | (simp; omega) | (intros; simp_all; done) | grind) ?_
  refine s_seq ?_
  refine aw_reg hG ?_
  simp only [r_law11_claim_1, go_sem, ↓reduceIte, reduceCtorEq, Nat.reduceEqDiff, Nat.reduceAdd, Nat.reduceSub, Nat.reduceMul, Nat.reduceLeDiff, Nat.reduceLT, Int.reduceLE, Int.reduceLT, Int.reduceToNat, Int.reduceNeg]
  repeat refine And.intro (by first | assumption | omega | rfl | (simp; done) | (simp; omega) | (intros; simp_all; done) | grind) ?_
  obtain ⟨v1, hv1, h⟩ := bind_of h
  refine acall_of (fun hg => mill_Proc_ok a0 _ (hv1)) ?_
  simp only [go_sem, ↓reduceIte, reduceCtorEq, Nat.reduceEqDiff, Nat.reduceAdd, Nat.reduceSub, Nat.reduceMul, Nat.reduceLeDiff, Nat.reduceLT, Int.reduceLE, Int.reduceLT, Int.reduceToNat, Int.reduceNeg]
  repeat refine And.intro (by first | assumption | omega | rfl | (simp; done) | (simp; omega) | (intros; simp_all; done) | grind) ?_
  refine aw_ret ?_
  simp only [go_sem, ↓reduceIte, reduceCtorEq, Nat.reduceEqDiff, Nat.reduceAdd, Nat.reduceSub, Nat.reduceMul, Nat.reduceLeDiff, Nat.reduceLT, Int.reduceLE, Int.reduceLT, Int.reduceToNat, Int.reduceNeg]
  obtain rfl := Option.some.inj h
  first | done | rfl | (simp; done) | (repeat' (first | rfl | trivial | omega | (simp; done) | apply And.intro))

def f_ident_between (a0 : Int) (a1 : Int) (a2 : Int) : Bool :=
  ((decide (a1 ≤ a0)) && (decide (a0 ≤ a2)))
theorem ident_between_ok (a0 : Int) (a1 : Int) (a2 : Int) : PFn C 36 [.int .i64 a0, .int .i64 a1, .int .i64 a2] (.bool (f_ident_between a0 a1 a2)) := by
  generalize h : f_ident_between a0 a1 a2 = r
  refine pfn_intro chk_ident_between rfl fun E hG hN hK => ?_
  unfold pc_ident_between
  unfold f_ident_between at h
  refine s_seq ?_
  refine aw_reg hG ?_
  simp only [r_ident_between_0, go_sem, ↓reduceIte, reduceCtorEq, Nat.reduceEqDiff, Nat.reduceAdd, Nat.reduceSub, Nat.reduceMul, Nat.reduceLeDiff, Nat.reduceLT, Int.reduceLE, Int.reduceLT, Int.reduceToNat, Int.reduceNeg]
  repeat refine And.intro (by first | assumption | omega | rfl | (simp; done) | (simp; omega) | (intros; simp_all; done) | grind) ?_
  refine s_seq ?_
  refine aw_reg hG ?_
  simp only [r_ident_between_1, go_sem, ↓reduceIte, reduceCtorEq, Nat.reduceEqDiff, Nat.reduceAdd, Nat.reduceSub, Nat.reduceMul, Nat.reduceLeDiff, Nat.reduceLT, Int.reduceLE, Int.reduceLT, Int.reduceToNat, Int.reduceNeg]
  repeat refine And.intro (by first | assumption | omega | rfl | (simp; done) | (simp; omega) | (intros; simp_all; done) | grind) ?_
  refine aw_ret ?_
  simp only [go_sem, ↓reduceIte, reduceCtorEq, Nat.reduceEqDiff, Nat.reduceAdd, Nat.reduceSub, Nat.reduceMul, Nat.reduceLeDiff, Nat.reduceLT, Int.reduceLE, Int.reduceLT, Int.reduceToNat, Int.reduceNeg]
  subst h
  first | done | rfl | (simp; done) | (repeat' (first | rfl | trivial | omega | (simp; done) | apply And.intro))

def f_ident_ValidProc (a0 : Proc) : Bool :=
  (((f_ident_between a0.site 0 3) && (f_ident_between a0.inc 1 99)) && (f_ident_between a0.num 1 999))
theorem ident_ValidProc_ok (a0 : Proc) : PFn C 31 [.agg (Proc.enc a0)] (.bool (f_ident_ValidProc a0)) := by
  generalize h : f_ident_ValidProc a0 = r
  refine pfn_intro chk_ident_ValidProc rfl fun E hG hN hK => ?_
  unfold pc_ident_ValidProc
  unfold f_ident_ValidProc at h
  refine s_seq ?_
  refine aw_reg hG ?_
  simp only [r_ident_ValidProc_0, go_sem, ↓reduceIte, reduceCtorEq, Nat.reduceEqDiff, Nat.reduceAdd, Nat.reduceSub, Nat.reduceMul, Nat.reduceLeDiff, Nat.reduceLT, Int.reduceLE, Int.reduceLT, Int.reduceToNat, Int.reduceNeg]
  repeat refine And.intro (by first | assumption | omega | rfl | (simp; done) | (simp; omega) | (intros; simp_all; done) | grind) ?_
  refine s_seq ?_
  refine aw_reg hG ?_
  simp only [r_ident_ValidProc_1, go_sem, ↓reduceIte, reduceCtorEq, Nat.reduceEqDiff, Nat.reduceAdd, Nat.reduceSub, Nat.reduceMul, Nat.reduceLeDiff, Nat.reduceLT, Int.reduceLE, Int.reduceLT, Int.reduceToNat, Int.reduceNeg]
  repeat refine And.intro (by first | assumption | omega | rfl | (simp; done) | (simp; omega) | (intros; simp_all; done) | grind) ?_
  refine acall_of (fun hg => ident_between_ok a0.site 0 3) ?_
  simp only [go_sem, ↓reduceIte, reduceCtorEq, Nat.reduceEqDiff, Nat.reduceAdd, Nat.reduceSub, Nat.reduceMul, Nat.reduceLeDiff, Nat.reduceLT, Int.reduceLE, Int.reduceLT, Int.reduceToNat, Int.reduceNeg]
  repeat refine And.intro (by first | assumption | omega | rfl | (simp; done) | (simp; omega) | (intros; simp_all; done) | grind) ?_
  refine acall_of (fun hg => ident_between_ok a0.inc 1 99) ?_
  simp only [go_sem, ↓reduceIte, reduceCtorEq, Nat.reduceEqDiff, Nat.reduceAdd, Nat.reduceSub, Nat.reduceMul, Nat.reduceLeDiff, Nat.reduceLT, Int.reduceLE, Int.reduceLT, Int.reduceToNat, Int.reduceNeg]
  repeat refine And.intro (by first | assumption | omega | rfl | (simp; done) | (simp; omega) | (intros; simp_all; done) | grind) ?_
  refine acall_of (fun hg => ident_between_ok a0.num 1 999) ?_
  simp only [go_sem, ↓reduceIte, reduceCtorEq, Nat.reduceEqDiff, Nat.reduceAdd, Nat.reduceSub, Nat.reduceMul, Nat.reduceLeDiff, Nat.reduceLT, Int.reduceLE, Int.reduceLT, Int.reduceToNat, Int.reduceNeg]
  repeat refine And.intro (by first | assumption | omega | rfl | (simp; done) | (simp; omega) | (intros; simp_all; done) | grind) ?_
  refine aw_ret ?_
  simp only [go_sem, ↓reduceIte, reduceCtorEq, Nat.reduceEqDiff, Nat.reduceAdd, Nat.reduceSub, Nat.reduceMul, Nat.reduceLeDiff, Nat.reduceLT, Int.reduceLE, Int.reduceLT, Int.reduceToNat, Int.reduceNeg]
  subst h
  first | done | rfl | (simp; done) | (repeat' (first | rfl | trivial | omega | (simp; done) | apply And.intro))

def f_amount_Shaped (a0 : Resource) : Bool :=
  (if (decide (a0.kind = 1)) = true then
    (decide (a0.units = 1))
  else
    (if (decide (a0.kind = 2)) = true then
      ((decide (1 ≤ a0.units)) && (decide (a0.units ≤ 8)))
    else
      false))
theorem amount_Shaped_ok (a0 : Resource) : PFn C 37 [.agg (Resource.enc a0)] (.bool (f_amount_Shaped a0)) := by
  generalize h : f_amount_Shaped a0 = r
  refine pfn_intro chk_amount_Shaped rfl fun E hG hN hK => ?_
  unfold pc_amount_Shaped
  unfold f_amount_Shaped at h
  refine s_seq ?_
  refine aw_reg hG ?_
  simp only [r_amount_Shaped_0, go_sem, ↓reduceIte, reduceCtorEq, Nat.reduceEqDiff, Nat.reduceAdd, Nat.reduceSub, Nat.reduceMul, Nat.reduceLeDiff, Nat.reduceLT, Int.reduceLE, Int.reduceLT, Int.reduceToNat, Int.reduceNeg]
  repeat refine And.intro (by first | assumption | omega | rfl | (simp; done) | (simp; omega) | (intros; simp_all; done) | grind) ?_
  refine s_seq ?_
  refine s_seq ?_
  refine aw_reg hG ?_
  simp only [r_amount_Shaped_1, go_sem, ↓reduceIte, reduceCtorEq, Nat.reduceEqDiff, Nat.reduceAdd, Nat.reduceSub, Nat.reduceMul, Nat.reduceLeDiff, Nat.reduceLT, Int.reduceLE, Int.reduceLT, Int.reduceToNat, Int.reduceNeg]
  repeat refine And.intro (by first | assumption | omega | rfl | (simp; done) | (simp; omega) | (intros; simp_all; done) | grind) ?_
  refine s_block ?_
  refine s_seq ?_
  refine aw_reg hG ?_
  simp only [r_amount_Shaped_2, go_sem, ↓reduceIte, reduceCtorEq, Nat.reduceEqDiff, Nat.reduceAdd, Nat.reduceSub, Nat.reduceMul, Nat.reduceLeDiff, Nat.reduceLT, Int.reduceLE, Int.reduceLT, Int.reduceToNat, Int.reduceNeg]
  repeat refine And.intro (by first | assumption | omega | rfl | (simp; done) | (simp; omega) | (intros; simp_all; done) | grind) ?_
  refine aw_cond rfl hG ?_ ?_
  · intro hc1
    replace h := ite_t (by first | exact hc1 | simpa using hc1) h
    refine s_seq ?_
    refine aw_reg hG ?_
    simp only [r_amount_Shaped_3, go_sem, ↓reduceIte, reduceCtorEq, Nat.reduceEqDiff, Nat.reduceAdd, Nat.reduceSub, Nat.reduceMul, Nat.reduceLeDiff, Nat.reduceLT, Int.reduceLE, Int.reduceLT, Int.reduceToNat, Int.reduceNeg]
    repeat refine And.intro (by first | assumption | omega | rfl | (simp; done) | (simp; omega) | (intros; simp_all; done) | grind) ?_
    refine aw_ret ?_
    simp only [go_sem, ↓reduceIte, reduceCtorEq, Nat.reduceEqDiff, Nat.reduceAdd, Nat.reduceSub, Nat.reduceMul, Nat.reduceLeDiff, Nat.reduceLT, Int.reduceLE, Int.reduceLT, Int.reduceToNat, Int.reduceNeg]
    subst h
    first | done | rfl | (simp; done) | (repeat' (first | rfl | trivial | omega | (simp; done) | apply And.intro))
  · intro hc1
    replace h := ite_f (by first | exact hc1 | simpa using hc1) h
    refine s_seq ?_
    refine aw_reg hG ?_
    simp only [r_amount_Shaped_4, go_sem, ↓reduceIte, reduceCtorEq, Nat.reduceEqDiff, Nat.reduceAdd, Nat.reduceSub, Nat.reduceMul, Nat.reduceLeDiff, Nat.reduceLT, Int.reduceLE, Int.reduceLT, Int.reduceToNat, Int.reduceNeg]
    repeat refine And.intro (by first | assumption | omega | rfl | (simp; done) | (simp; omega) | (intros; simp_all; done) | grind) ?_
    refine aw_cond rfl hG ?_ ?_
    · intro hc2
      replace h := ite_t (by first | exact hc2 | simpa using hc2) h
      refine s_seq ?_
      refine aw_reg hG ?_
      simp only [r_amount_Shaped_5, go_sem, ↓reduceIte, reduceCtorEq, Nat.reduceEqDiff, Nat.reduceAdd, Nat.reduceSub, Nat.reduceMul, Nat.reduceLeDiff, Nat.reduceLT, Int.reduceLE, Int.reduceLT, Int.reduceToNat, Int.reduceNeg]
      repeat refine And.intro (by first | assumption | omega | rfl | (simp; done) | (simp; omega) | (intros; simp_all; done) | grind) ?_
      refine aw_ret ?_
      simp only [go_sem, ↓reduceIte, reduceCtorEq, Nat.reduceEqDiff, Nat.reduceAdd, Nat.reduceSub, Nat.reduceMul, Nat.reduceLeDiff, Nat.reduceLT, Int.reduceLE, Int.reduceLT, Int.reduceToNat, Int.reduceNeg]
      subst h
      first | done | rfl | (simp; done) | (repeat' (first | rfl | trivial | omega | (simp; done) | apply And.intro))
    · intro hc2
      replace h := ite_f (by first | exact hc2 | simpa using hc2) h
      refine aw_skip ?_
      simp only [go_sem, ↓reduceIte, reduceCtorEq, Nat.reduceEqDiff, Nat.reduceAdd, Nat.reduceSub, Nat.reduceMul, Nat.reduceLeDiff, Nat.reduceLT, Int.reduceLE, Int.reduceLT, Int.reduceToNat, Int.reduceNeg]
      refine s_seq ?_
      refine aw_reg hG ?_
      simp only [r_amount_Shaped_6, go_sem, ↓reduceIte, reduceCtorEq, Nat.reduceEqDiff, Nat.reduceAdd, Nat.reduceSub, Nat.reduceMul, Nat.reduceLeDiff, Nat.reduceLT, Int.reduceLE, Int.reduceLT, Int.reduceToNat, Int.reduceNeg]
      repeat refine And.intro (by first | assumption | omega | rfl | (simp; done) | (simp; omega) | (intros; simp_all; done) | grind) ?_
      refine aw_ret ?_
      simp only [go_sem, ↓reduceIte, reduceCtorEq, Nat.reduceEqDiff, Nat.reduceAdd, Nat.reduceSub, Nat.reduceMul, Nat.reduceLeDiff, Nat.reduceLT, Int.reduceLE, Int.reduceLT, Int.reduceToNat, Int.reduceNeg]
      subst h
      first | done | rfl | (simp; done) | (repeat' (first | rfl | trivial | omega | (simp; done) | apply And.intro))

def f_mode_Valid (a0 : Int) : Bool :=
  ((decide (1 ≤ a0)) && (decide (a0 ≤ 5)))
theorem mode_Valid_ok (a0 : Int) : PFn C 38 [.int .i64 a0] (.bool (f_mode_Valid a0)) := by
  generalize h : f_mode_Valid a0 = r
  refine pfn_intro chk_mode_Valid rfl fun E hG hN hK => ?_
  unfold pc_mode_Valid
  unfold f_mode_Valid at h
  refine s_seq ?_
  refine aw_reg hG ?_
  simp only [r_mode_Valid_0, go_sem, ↓reduceIte, reduceCtorEq, Nat.reduceEqDiff, Nat.reduceAdd, Nat.reduceSub, Nat.reduceMul, Nat.reduceLeDiff, Nat.reduceLT, Int.reduceLE, Int.reduceLT, Int.reduceToNat, Int.reduceNeg]
  repeat refine And.intro (by first | assumption | omega | rfl | (simp; done) | (simp; omega) | (intros; simp_all; done) | grind) ?_
  refine s_seq ?_
  refine aw_reg hG ?_
  simp only [r_mode_Valid_1, go_sem, ↓reduceIte, reduceCtorEq, Nat.reduceEqDiff, Nat.reduceAdd, Nat.reduceSub, Nat.reduceMul, Nat.reduceLeDiff, Nat.reduceLT, Int.reduceLE, Int.reduceLT, Int.reduceToNat, Int.reduceNeg]
  repeat refine And.intro (by first | assumption | omega | rfl | (simp; done) | (simp; omega) | (intros; simp_all; done) | grind) ?_
  refine aw_ret ?_
  simp only [go_sem, ↓reduceIte, reduceCtorEq, Nat.reduceEqDiff, Nat.reduceAdd, Nat.reduceSub, Nat.reduceMul, Nat.reduceLeDiff, Nat.reduceLT, Int.reduceLE, Int.reduceLT, Int.reduceToNat, Int.reduceNeg]
  subst h
  first | done | rfl | (simp; done) | (repeat' (first | rfl | trivial | omega | (simp; done) | apply And.intro))

def f_amount_Fits (a0 : Resource) (a1 : Amount) : Bool :=
  (if (!(f_amount_Shaped a0)) = true then
    false
  else
    (if (decide (a0.kind = 1)) = true then
      ((f_mode_Valid a1.mode) && (decide (a1.units = 0)))
    else
      (((decide (a1.mode = 0)) && (decide (1 ≤ a1.units))) && (decide (a1.units ≤ a0.units)))))
theorem amount_Fits_ok (a0 : Resource) (a1 : Amount) : PFn C 32 [.agg (Resource.enc a0), .agg (Amount.enc a1)] (.bool (f_amount_Fits a0 a1)) := by
  generalize h : f_amount_Fits a0 a1 = r
  refine pfn_intro chk_amount_Fits rfl fun E hG hN hK => ?_
  unfold pc_amount_Fits
  unfold f_amount_Fits at h
  refine s_seq ?_
  refine aw_reg hG ?_
  simp only [r_amount_Fits_0, go_sem, ↓reduceIte, reduceCtorEq, Nat.reduceEqDiff, Nat.reduceAdd, Nat.reduceSub, Nat.reduceMul, Nat.reduceLeDiff, Nat.reduceLT, Int.reduceLE, Int.reduceLT, Int.reduceToNat, Int.reduceNeg]
  repeat refine And.intro (by first | assumption | omega | rfl | (simp; done) | (simp; omega) | (intros; simp_all; done) | grind) ?_
  refine s_seq ?_
  refine s_seq ?_
  refine aw_reg hG ?_
  simp only [r_amount_Fits_1, go_sem, ↓reduceIte, reduceCtorEq, Nat.reduceEqDiff, Nat.reduceAdd, Nat.reduceSub, Nat.reduceMul, Nat.reduceLeDiff, Nat.reduceLT, Int.reduceLE, Int.reduceLT, Int.reduceToNat, Int.reduceNeg]
  repeat refine And.intro (by first | assumption | omega | rfl | (simp; done) | (simp; omega) | (intros; simp_all; done) | grind) ?_
  refine acall_of (fun hg => amount_Shaped_ok a0) ?_
  simp only [go_sem, ↓reduceIte, reduceCtorEq, Nat.reduceEqDiff, Nat.reduceAdd, Nat.reduceSub, Nat.reduceMul, Nat.reduceLeDiff, Nat.reduceLT, Int.reduceLE, Int.reduceLT, Int.reduceToNat, Int.reduceNeg]
  repeat refine And.intro (by first | assumption | omega | rfl | (simp; done) | (simp; omega) | (intros; simp_all; done) | grind) ?_
  refine aw_cond rfl hG ?_ ?_
  · intro hc1
    replace h := ite_t (by first | exact hc1 | simpa using hc1) h
    refine s_seq ?_
    refine aw_reg hG ?_
    simp only [r_amount_Fits_2, go_sem, ↓reduceIte, reduceCtorEq, Nat.reduceEqDiff, Nat.reduceAdd, Nat.reduceSub, Nat.reduceMul, Nat.reduceLeDiff, Nat.reduceLT, Int.reduceLE, Int.reduceLT, Int.reduceToNat, Int.reduceNeg]
    repeat refine And.intro (by first | assumption | omega | rfl | (simp; done) | (simp; omega) | (intros; simp_all; done) | grind) ?_
    refine aw_ret ?_
    simp only [go_sem, ↓reduceIte, reduceCtorEq, Nat.reduceEqDiff, Nat.reduceAdd, Nat.reduceSub, Nat.reduceMul, Nat.reduceLeDiff, Nat.reduceLT, Int.reduceLE, Int.reduceLT, Int.reduceToNat, Int.reduceNeg]
    subst h
    first | done | rfl | (simp; done) | (repeat' (first | rfl | trivial | omega | (simp; done) | apply And.intro))
  · intro hc1
    replace h := ite_f (by first | exact hc1 | simpa using hc1) h
    refine aw_skip ?_
    simp only [go_sem, ↓reduceIte, reduceCtorEq, Nat.reduceEqDiff, Nat.reduceAdd, Nat.reduceSub, Nat.reduceMul, Nat.reduceLeDiff, Nat.reduceLT, Int.reduceLE, Int.reduceLT, Int.reduceToNat, Int.reduceNeg]
    refine s_seq ?_
    refine s_seq ?_
    refine aw_reg hG ?_
    simp only [r_amount_Fits_3, go_sem, ↓reduceIte, reduceCtorEq, Nat.reduceEqDiff, Nat.reduceAdd, Nat.reduceSub, Nat.reduceMul, Nat.reduceLeDiff, Nat.reduceLT, Int.reduceLE, Int.reduceLT, Int.reduceToNat, Int.reduceNeg]
    repeat refine And.intro (by first | assumption | omega | rfl | (simp; done) | (simp; omega) | (intros; simp_all; done) | grind) ?_
    refine aw_cond rfl hG ?_ ?_
    · intro hc2
      replace h := ite_t (by first | exact hc2 | simpa using hc2) h
      refine s_seq ?_
      refine aw_reg hG ?_
      simp only [r_amount_Fits_4, go_sem, ↓reduceIte, reduceCtorEq, Nat.reduceEqDiff, Nat.reduceAdd, Nat.reduceSub, Nat.reduceMul, Nat.reduceLeDiff, Nat.reduceLT, Int.reduceLE, Int.reduceLT, Int.reduceToNat, Int.reduceNeg]
      repeat refine And.intro (by first | assumption | omega | rfl | (simp; done) | (simp; omega) | (intros; simp_all; done) | grind) ?_
      refine acall_of (fun hg => mode_Valid_ok a1.mode) ?_
      simp only [go_sem, ↓reduceIte, reduceCtorEq, Nat.reduceEqDiff, Nat.reduceAdd, Nat.reduceSub, Nat.reduceMul, Nat.reduceLeDiff, Nat.reduceLT, Int.reduceLE, Int.reduceLT, Int.reduceToNat, Int.reduceNeg]
      repeat refine And.intro (by first | assumption | omega | rfl | (simp; done) | (simp; omega) | (intros; simp_all; done) | grind) ?_
      refine aw_ret ?_
      simp only [go_sem, ↓reduceIte, reduceCtorEq, Nat.reduceEqDiff, Nat.reduceAdd, Nat.reduceSub, Nat.reduceMul, Nat.reduceLeDiff, Nat.reduceLT, Int.reduceLE, Int.reduceLT, Int.reduceToNat, Int.reduceNeg]
      subst h
      first | done | rfl | (simp; done) | (repeat' (first | rfl | trivial | omega | (simp; done) | apply And.intro))
    · intro hc2
      replace h := ite_f (by first | exact hc2 | simpa using hc2) h
      refine aw_skip ?_
      simp only [go_sem, ↓reduceIte, reduceCtorEq, Nat.reduceEqDiff, Nat.reduceAdd, Nat.reduceSub, Nat.reduceMul, Nat.reduceLeDiff, Nat.reduceLT, Int.reduceLE, Int.reduceLT, Int.reduceToNat, Int.reduceNeg]
      refine s_seq ?_
      refine aw_reg hG ?_
      simp only [r_amount_Fits_5, go_sem, ↓reduceIte, reduceCtorEq, Nat.reduceEqDiff, Nat.reduceAdd, Nat.reduceSub, Nat.reduceMul, Nat.reduceLeDiff, Nat.reduceLT, Int.reduceLE, Int.reduceLT, Int.reduceToNat, Int.reduceNeg]
      repeat refine And.intro (by first | assumption | omega | rfl | (simp; done) | (simp; omega) | (intros; simp_all; done) | grind) ?_
      refine aw_ret ?_
      simp only [go_sem, ↓reduceIte, reduceCtorEq, Nat.reduceEqDiff, Nat.reduceAdd, Nat.reduceSub, Nat.reduceMul, Nat.reduceLeDiff, Nat.reduceLT, Int.reduceLE, Int.reduceLT, Int.reduceToNat, Int.reduceNeg]
      subst h
      first | done | rfl | (simp; done) | (repeat' (first | rfl | trivial | omega | (simp; done) | apply And.intro))

def f_line_ValidWait (a0 : Wait) : Bool :=
  ((((((f_ident_ValidProc a0.proc) && ((f_amount_Fits ({ Resource.zero with kind := 1, units := 1 }) a0.amount) || (f_amount_Fits ({ Resource.zero with kind := 2, units := 8 }) a0.amount))) && (decide (0 ≤ a0.priority))) && (decide (a0.priority ≤ 7))) && (decide (0 ≤ a0.passed))) && (decide (a0.passed ≤ 3)))
theorem line_ValidWait_ok (a0 : Wait) : PFn C 11 [.agg (Wait.enc a0)] (.bool (f_line_ValidWait a0)) := by
  generalize h : f_line_ValidWait a0 = r
  refine pfn_intro chk_line_ValidWait rfl fun E hG hN hK => ?_
  unfold pc_line_ValidWait
  unfold f_line_ValidWait at h
  refine s_seq ?_
  refine aw_reg hG ?_
  simp only [r_line_ValidWait_0, go_sem, ↓reduceIte, reduceCtorEq, Nat.reduceEqDiff, Nat.reduceAdd, Nat.reduceSub, Nat.reduceMul, Nat.reduceLeDiff, Nat.reduceLT, Int.reduceLE, Int.reduceLT, Int.reduceToNat, Int.reduceNeg]
  repeat refine And.intro (by first | assumption | omega | rfl | (simp; done) | (simp; omega) | (intros; simp_all; done) | grind) ?_
  refine s_seq ?_
  refine aw_reg hG ?_
  simp only [r_line_ValidWait_1, go_sem, ↓reduceIte, reduceCtorEq, Nat.reduceEqDiff, Nat.reduceAdd, Nat.reduceSub, Nat.reduceMul, Nat.reduceLeDiff, Nat.reduceLT, Int.reduceLE, Int.reduceLT, Int.reduceToNat, Int.reduceNeg]
  repeat refine And.intro (by first | assumption | omega | rfl | (simp; done) | (simp; omega) | (intros; simp_all; done) | grind) ?_
  refine s_seq ?_
  refine aw_reg hG ?_
  simp only [r_line_ValidWait_2, go_sem, ↓reduceIte, reduceCtorEq, Nat.reduceEqDiff, Nat.reduceAdd, Nat.reduceSub, Nat.reduceMul, Nat.reduceLeDiff, Nat.reduceLT, Int.reduceLE, Int.reduceLT, Int.reduceToNat, Int.reduceNeg]
  repeat refine And.intro (by first | assumption | omega | rfl | (simp; done) | (simp; omega) | (intros; simp_all; done) | grind) ?_
  refine s_seq ?_
  refine aw_reg hG ?_
  simp only [r_line_ValidWait_3, go_sem, ↓reduceIte, reduceCtorEq, Nat.reduceEqDiff, Nat.reduceAdd, Nat.reduceSub, Nat.reduceMul, Nat.reduceLeDiff, Nat.reduceLT, Int.reduceLE, Int.reduceLT, Int.reduceToNat, Int.reduceNeg]
  repeat refine And.intro (by first | assumption | omega | rfl | (simp; done) | (simp; omega) | (intros; simp_all; done) | grind) ?_
  refine acall_of (fun hg => ident_ValidProc_ok a0.proc) ?_
  simp only [go_sem, ↓reduceIte, reduceCtorEq, Nat.reduceEqDiff, Nat.reduceAdd, Nat.reduceSub, Nat.reduceMul, Nat.reduceLeDiff, Nat.reduceLT, Int.reduceLE, Int.reduceLT, Int.reduceToNat, Int.reduceNeg]
  repeat refine And.intro (by first | assumption | omega | rfl | (simp; done) | (simp; omega) | (intros; simp_all; done) | grind) ?_
  refine acall_of (fun hg => amount_Fits_ok ({ Resource.zero with kind := 1, units := 1 }) a0.amount) ?_
  simp only [go_sem, ↓reduceIte, reduceCtorEq, Nat.reduceEqDiff, Nat.reduceAdd, Nat.reduceSub, Nat.reduceMul, Nat.reduceLeDiff, Nat.reduceLT, Int.reduceLE, Int.reduceLT, Int.reduceToNat, Int.reduceNeg]
  repeat refine And.intro (by first | assumption | omega | rfl | (simp; done) | (simp; omega) | (intros; simp_all; done) | grind) ?_
  refine acall_of (fun hg => amount_Fits_ok ({ Resource.zero with kind := 2, units := 8 }) a0.amount) ?_
  simp only [go_sem, ↓reduceIte, reduceCtorEq, Nat.reduceEqDiff, Nat.reduceAdd, Nat.reduceSub, Nat.reduceMul, Nat.reduceLeDiff, Nat.reduceLT, Int.reduceLE, Int.reduceLT, Int.reduceToNat, Int.reduceNeg]
  repeat refine And.intro (by first | assumption | omega | rfl | (simp; done) | (simp; omega) | (intros; simp_all; done) | grind) ?_
  refine aw_ret ?_
  simp only [go_sem, ↓reduceIte, reduceCtorEq, Nat.reduceEqDiff, Nat.reduceAdd, Nat.reduceSub, Nat.reduceMul, Nat.reduceLeDiff, Nat.reduceLT, Int.reduceLE, Int.reduceLT, Int.reduceToNat, Int.reduceNeg]
  subst h
  first | done | rfl | (simp; done) | (repeat' (first | rfl | trivial | omega | (simp; done) | apply And.intro))

noncomputable def f_line_Find_k1  (j1 : Unit) : Option (Int) :=
  some (-1)
def J_line_Find_k1  (j1 : Unit) : St := ⟨[], [], 0⟩
noncomputable def f_line_Find_l1 (a0 : List Wait) (a1 : Proc) (g1 : Int) : Option ((Int) ⊕ ((Unit) ⊕ (Int))) :=
  (if (decide (g1 < (a0.length : Int))) = true then
    gd (0 ≤ g1 ∧ g1 < (a0.length : Int)) <|
    (if (decide ((a0.getD g1.toNat Wait.zero).proc = a1)) = true then
      some (.inr (.inr g1))
    else
      some (.inl (IntKind.i64.wrap (g1 + 1))))
  else
    some (.inr (.inl ())))
def I_line_Find_l1 (a0 : List Wait) (a1 : Proc) (g1 : Int) : St := ⟨[(3, .ptr 0 0 0), (7, .sl (a0.map Wait.enc)), (8, .int .i64 (a0.length : Int)), (9, .int .i64 g1)], [(0, ⟨false, 3, (Proc.enc a1), [Proc.enc a1]⟩)], 1⟩
noncomputable def f_line_Find (a0 : List Wait) (a1 : Proc) : Option (Int) :=
  (loopO (f_line_Find_l1 a0 a1) 0).bind (fun | .inl z => f_line_Find_k1 z | .inr z => some z)
theorem line_Find_ok (a0 : List Wait) (a1 : Proc) (r : Int) (h : f_line_Find a0 a1 = some r) : PFn C 21 [.sl (a0.map Wait.enc), .agg (Proc.enc a1)] (.int .i64 r) := by
  refine pfn_intro chk_line_Find rfl fun E hG hN hK => ?_
  unfold pc_line_Find
  unfold f_line_Find at h
  refine s_seq ?_
  refine aw_reg hG ?_
  simp only [r_line_Find_0, go_sem, ↓reduceIte, reduceCtorEq, Nat.reduceEqDiff, Nat.reduceAdd, Nat.reduceSub, Nat.reduceMul, Nat.reduceLeDiff, Nat.reduceLT, Int.reduceLE, Int.reduceLT, Int.reduceToNat, Int.reduceNeg]
  repeat refine And.intro (by first | assumption | omega | rfl | (simp; done) | (simp; omega) | (intros; simp_all; done) | grind) ?_
  refine s_seq ?_
  refine s_seq ?_
  refine aw_reg hG ?_
  simp only [r_line_Find_1, go_sem, ↓reduceIte, reduceCtorEq, Nat.reduceEqDiff, Nat.reduceAdd, Nat.reduceSub, Nat.reduceMul, Nat.reduceLeDiff, Nat.reduceLT, Int.reduceLE, Int.reduceLT, Int.reduceToNat, Int.reduceNeg]
  repeat refine And.intro (by first | assumption | omega | rfl | (simp; done) | (simp; omega) | (intros; simp_all; done) | grind) ?_
  refine s_blockJ (J_line_Find_k1) (fun v => f_line_Find_k1 v = some r) ?_ ?_
  · intro j1 h
    unfold f_line_Find_k1 at h
    simp only [J_line_Find_k1, go_sem, ↓reduceIte, reduceCtorEq, Nat.reduceEqDiff, Nat.reduceAdd, Nat.reduceSub, Nat.reduceMul, Nat.reduceLeDiff, Nat.reduceLT, Int.reduceLE, Int.reduceLT, Int.reduceToNat, Int.reduceNeg]
    refine s_seq ?_
    refine aw_reg hG ?_
    simp only [r_line_Find_7, go_sem, ↓reduceIte, reduceCtorEq, Nat.reduceEqDiff, Nat.reduceAdd, Nat.reduceSub, Nat.reduceMul, Nat.reduceLeDiff, Nat.reduceLT, Int.reduceLE, Int.reduceLT, Int.reduceToNat, Int.reduceNeg]
    repeat refine And.intro (by first | assumption | omega | rfl | (simp; done) | (simp; omega) | (intros; simp_all; done) | grind) ?_
    refine aw_ret ?_
    simp only [go_sem, ↓reduceIte, reduceCtorEq, Nat.reduceEqDiff, Nat.reduceAdd, Nat.reduceSub, Nat.reduceMul, Nat.reduceLeDiff, Nat.reduceLT, Int.reduceLE, Int.reduceLT, Int.reduceToNat, Int.reduceNeg]
    obtain rfl := Option.some.inj h
    first | done | rfl | (simp; done) | (repeat' (first | rfl | trivial | omega | (simp; done) | apply And.intro))
  obtain ⟨x_l1, hl_l1, h⟩ := bind_of h
  refine s_loopO (I_line_Find_l1 a0 a1) hK [(0, 0)] hl_l1 ?_ ?_
  · simp only [I_line_Find_l1, go_sem, ↓reduceIte, reduceCtorEq, Nat.reduceEqDiff, Nat.reduceAdd, Nat.reduceSub, Nat.reduceMul, Nat.reduceLeDiff, Nat.reduceLT, Int.reduceLE, Int.reduceLT, Int.reduceToNat, Int.reduceNeg]
    first | (done) | trivial | (simp; done) | (repeat' (first | rfl | trivial | omega | (simp; done) | (simp; omega) | (congr 1; simp only [List.length_append, List.length_take, List.length_drop, List.length_replicate]; omega) | apply And.intro))
  · clear hl_l1
    intro g1 y_l1 h_l1 hx_l1
    unfold f_line_Find_l1 at h_l1
    simp only [I_line_Find_l1, go_sem, ↓reduceIte, reduceCtorEq, Nat.reduceEqDiff, Nat.reduceAdd, Nat.reduceSub, Nat.reduceMul, Nat.reduceLeDiff, Nat.reduceLT, Int.reduceLE, Int.reduceLT, Int.reduceToNat, Int.reduceNeg]
    refine s_seq ?_
    refine aw_reg hG ?_
    simp only [r_line_Find_2, go_sem, ↓reduceIte, reduceCtorEq, Nat.reduceEqDiff, Nat.reduceAdd, Nat.reduceSub, Nat.reduceMul, Nat.reduceLeDiff, Nat.reduceLT, Int.reduceLE, Int.reduceLT, Int.reduceToNat, Int.reduceNeg]
    repeat refine And.intro (by first | assumption | omega | rfl | (simp; done) | (simp; omega) | (intros; simp_all; done) | grind) ?_
    refine s_seq ?_
    refine aw_cond rfl hG ?_ ?_
    · intro hc1
      replace h_l1 := ite_t (by first | exact hc1 | simpa using hc1) h_l1
      refine aw_skip ?_
      simp only [go_sem, ↓reduceIte, reduceCtorEq, Nat.reduceEqDiff, Nat.reduceAdd, Nat.reduceSub, Nat.reduceMul, Nat.reduceLeDiff, Nat.reduceLT, Int.reduceLE, Int.reduceLT, Int.reduceToNat, Int.reduceNeg]
      refine s_seq ?_
      refine s_block ?_
      refine s_seq ?_
      obtain ⟨hb1, h_l1⟩ := gd_some h_l1
      refine aw_reg hG ?_
      simp only [r_line_Find_3, go_sem, ↓reduceIte, reduceCtorEq, Nat.reduceEqDiff, Nat.reduceAdd, Nat.reduceSub, Nat.reduceMul, Nat.reduceLeDiff, Nat.reduceLT, Int.reduceLE, Int.reduceLT, Int.reduceToNat, Int.reduceNeg, hb1]
      repeat refine And.intro (by first | assumption | omega | rfl | (simp; done) | (simp; omega) | (intros; simp_all; done) | grind) ?_
      refine s_seq ?_
      refine aw_reg hG ?_
      simp only [r_line_Find_4, go_sem, ↓reduceIte, reduceCtorEq, Nat.reduceEqDiff, Nat.reduceAdd, Nat.reduceSub, Nat.reduceMul, Nat.reduceLeDiff, Nat.reduceLT, Int.reduceLE, Int.reduceLT, Int.reduceToNat, Int.reduceNeg]
      repeat refine And.intro (by first | assumption | omega | rfl | (simp; done) | (simp; omega) | (intros; simp_all; done) | grind) ?_
      refine aw_cond rfl hG ?_ ?_
      · intro hc2
        replace h_l1 := ite_t (by first | exact hc2 | simpa using hc2) h_l1
        refine s_seq ?_
        refine aw_reg hG ?_
        simp only [r_line_Find_5, go_sem, ↓reduceIte, reduceCtorEq, Nat.reduceEqDiff, Nat.reduceAdd, Nat.reduceSub, Nat.reduceMul, Nat.reduceLeDiff, Nat.reduceLT, Int.reduceLE, Int.reduceLT, Int.reduceToNat, Int.reduceNeg]
        repeat refine And.intro (by first | assumption | omega | rfl | (simp; done) | (simp; omega) | (intros; simp_all; done) | grind) ?_
        refine aw_ret ?_
        simp only [go_sem, ↓reduceIte, reduceCtorEq, Nat.reduceEqDiff, Nat.reduceAdd, Nat.reduceSub, Nat.reduceMul, Nat.reduceLeDiff, Nat.reduceLT, Int.reduceLE, Int.reduceLT, Int.reduceToNat, Int.reduceNeg]
        obtain rfl := Option.some.inj h_l1
        have hx := hx_l1 _ rfl
        subst hx
        try dsimp only at h
        obtain rfl := Option.some.inj h
        first | done | rfl | (simp; done) | (repeat' (first | rfl | trivial | omega | (simp; done) | apply And.intro))
      · intro hc2
        replace h_l1 := ite_f (by first | exact hc2 | simpa using hc2) h_l1
        refine aw_skip ?_
        simp only [go_sem, ↓reduceIte, reduceCtorEq, Nat.reduceEqDiff, Nat.reduceAdd, Nat.reduceSub, Nat.reduceMul, Nat.reduceLeDiff, Nat.reduceLT, Int.reduceLE, Int.reduceLT, Int.reduceToNat, Int.reduceNeg]
        refine aw_reg hG ?_
        simp only [r_line_Find_6, go_sem, ↓reduceIte, reduceCtorEq, Nat.reduceEqDiff, Nat.reduceAdd, Nat.reduceSub, Nat.reduceMul, Nat.reduceLeDiff, Nat.reduceLT, Int.reduceLE, Int.reduceLT, Int.reduceToNat, Int.reduceNeg]
        repeat refine And.intro (by first | assumption | omega | rfl | (simp; done) | (simp; omega) | (intros; simp_all; done) | grind) ?_
        obtain rfl := Option.some.inj h_l1
        refine loopN_of hK [(0, 0)] ?_
        simp only [I_line_Find_l1, go_sem, ↓reduceIte, reduceCtorEq, Nat.reduceEqDiff, Nat.reduceAdd, Nat.reduceSub, Nat.reduceMul, Nat.reduceLeDiff, Nat.reduceLT, Int.reduceLE, Int.reduceLT, Int.reduceToNat, Int.reduceNeg]
        first | (done) | trivial | (simp; done) | (repeat' (first | rfl | trivial | omega | (simp; done) | (simp; omega) | (congr 1; simp only [List.length_append, List.length_take, List.length_drop, List.length_replicate]; omega) | apply And.intro))
    · intro hc1
      replace h_l1 := ite_f (by first | exact hc1 | simpa using hc1) h_l1
      refine aw_exit ?_
      simp only [go_sem, ↓reduceIte, reduceCtorEq, Nat.reduceEqDiff, Nat.reduceAdd, Nat.reduceSub, Nat.reduceMul, Nat.reduceLeDiff, Nat.reduceLT, Int.reduceLE, Int.reduceLT, Int.reduceToNat, Int.reduceNeg]
      obtain rfl := Option.some.inj h_l1
      have hx := hx_l1 _ rfl
      subst hx
      try dsimp only at h
      refine joinG_of hK () (by exact h) [] ?_
      simp only [J_line_Find_k1, go_sem, ↓reduceIte, reduceCtorEq, Nat.reduceEqDiff, Nat.reduceAdd, Nat.reduceSub, Nat.reduceMul, Nat.reduceLeDiff, Nat.reduceLT, Int.reduceLE, Int.reduceLT, Int.reduceToNat, Int.reduceNeg]
      first | (done) | trivial | (simp; done) | (repeat' (first | rfl | trivial | omega | (simp; done) | (simp; omega) | (congr 1; simp only [List.length_append, List.length_take, List.length_drop, List.length_replicate]; omega) | apply And.intro))

noncomputable def f_line_Valid_k1  (j1 : Unit) : Option (Bool) :=
  some true
def J_line_Valid_k1  (j1 : Unit) : St := ⟨[], [], 0⟩
noncomputable def f_line_Valid_l1 (a0 : List Wait) (g1 : Int) : Option ((Int) ⊕ ((Unit) ⊕ (Bool))) :=
  (if (decide (g1 < (a0.length : Int))) = true then
    gd (0 ≤ g1 ∧ g1 < (a0.length : Int)) <|
    ((if (f_line_ValidWait (a0.getD g1.toNat Wait.zero)) = true then f_line_Find a0 ((a0.getD g1.toNat Wait.zero).proc) else some (0))).bind fun v1 =>
    (if ((!(f_line_ValidWait (a0.getD g1.toNat Wait.zero))) || (!decide (v1 = g1))) = true then
      some (.inr (.inr false))
    else
      some (.inl (IntKind.i64.wrap (g1 + 1))))
  else
    some (.inr (.inl ())))
def I_line_Valid_l1 (a0 : List Wait) (g1 : Int) : St := ⟨[(0, .sl (a0.map Wait.enc)), (8, .sl (a0.map Wait.enc)), (9, .int .i64 (a0.length : Int)), (10, .int .i64 g1)], [], 0⟩
noncomputable def f_line_Valid (a0 : List Wait) : Option (Bool) :=
  (if (decide (8 < (a0.length : Int))) = true then
    some false
  else
    (loopO (f_line_Valid_l1 a0) 0).bind (fun | .inl z => f_line_Valid_k1 z | .inr z => some z))
theorem line_Valid_ok (a0 : List Wait) (r : Bool) (h : f_line_Valid a0 = some r) : PFn C 13 [.sl (a0.map Wait.enc)] (.bool r) := by
  refine pfn_intro chk_line_Valid rfl fun E hG hN hK => ?_
  unfold pc_line_Valid
  unfold f_line_Valid at h
  refine s_seq ?_
  refine aw_reg hG ?_
  simp only [r_line_Valid_0, go_sem, ↓reduceIte, reduceCtorEq, Nat.reduceEqDiff, Nat.reduceAdd, Nat.reduceSub, Nat.reduceMul, Nat.reduceLeDiff, Nat.reduceLT, Int.reduceLE, Int.reduceLT, Int.reduceToNat, Int.reduceNeg]
  repeat refine And.intro (by first | assumption | omega | rfl | (simp; done) | (simp; omega) | (intros; simp_all; done) | grind) ?_
  refine s_seq ?_
  refine s_seq ?_
  refine aw_reg hG ?_
  simp only [r_line_Valid_1, go_sem, ↓reduceIte, reduceCtorEq, Nat.reduceEqDiff, Nat.reduceAdd, Nat.reduceSub, Nat.reduceMul, Nat.reduceLeDiff, Nat.reduceLT, Int.reduceLE, Int.reduceLT, Int.reduceToNat, Int.reduceNeg]
  repeat refine And.intro (by first | assumption | omega | rfl | (simp; done) | (simp; omega) | (intros; simp_all; done) | grind) ?_
  refine aw_cond rfl hG ?_ ?_
  · intro hc1
    replace h := ite_t (by first | exact hc1 | simpa using hc1) h
    refine s_seq ?_
    refine aw_reg hG ?_
    simp only [r_line_Valid_2, go_sem, ↓reduceIte, reduceCtorEq, Nat.reduceEqDiff, Nat.reduceAdd, Nat.reduceSub, Nat.reduceMul, Nat.reduceLeDiff, Nat.reduceLT, Int.reduceLE, Int.reduceLT, Int.reduceToNat, Int.reduceNeg]
    repeat refine And.intro (by first | assumption | omega | rfl | (simp; done) | (simp; omega) | (intros; simp_all; done) | grind) ?_
    refine aw_ret ?_
    simp only [go_sem, ↓reduceIte, reduceCtorEq, Nat.reduceEqDiff, Nat.reduceAdd, Nat.reduceSub, Nat.reduceMul, Nat.reduceLeDiff, Nat.reduceLT, Int.reduceLE, Int.reduceLT, Int.reduceToNat, Int.reduceNeg]
    obtain rfl := Option.some.inj h
    first | done | rfl | (simp; done) | (repeat' (first | rfl | trivial | omega | (simp; done) | apply And.intro))
  · intro hc1
    replace h := ite_f (by first | exact hc1 | simpa using hc1) h
    refine aw_skip ?_
    simp only [go_sem, ↓reduceIte, reduceCtorEq, Nat.reduceEqDiff, Nat.reduceAdd, Nat.reduceSub, Nat.reduceMul, Nat.reduceLeDiff, Nat.reduceLT, Int.reduceLE, Int.reduceLT, Int.reduceToNat, Int.reduceNeg]
    refine s_seq ?_
    refine s_seq ?_
    refine aw_reg hG ?_
    simp only [r_line_Valid_3, go_sem, ↓reduceIte, reduceCtorEq, Nat.reduceEqDiff, Nat.reduceAdd, Nat.reduceSub, Nat.reduceMul, Nat.reduceLeDiff, Nat.reduceLT, Int.reduceLE, Int.reduceLT, Int.reduceToNat, Int.reduceNeg]
    repeat refine And.intro (by first | assumption | omega | rfl | (simp; done) | (simp; omega) | (intros; simp_all; done) | grind) ?_
    refine s_blockJ (J_line_Valid_k1) (fun v => f_line_Valid_k1 v = some r) ?_ ?_
    · intro j1 h
      unfold f_line_Valid_k1 at h
      simp only [J_line_Valid_k1, go_sem, ↓reduceIte, reduceCtorEq, Nat.reduceEqDiff, Nat.reduceAdd, Nat.reduceSub, Nat.reduceMul, Nat.reduceLeDiff, Nat.reduceLT, Int.reduceLE, Int.reduceLT, Int.reduceToNat, Int.reduceNeg]
      refine s_seq ?_
      refine aw_reg hG ?_
      simp only [r_line_Valid_9, go_sem, ↓reduceIte, reduceCtorEq, Nat.reduceEqDiff, Nat.reduceAdd, Nat.reduceSub, Nat.reduceMul, Nat.reduceLeDiff, Nat.reduceLT, Int.reduceLE, Int.reduceLT, Int.reduceToNat, Int.reduceNeg]
      repeat refine And.intro (by first | assumption | omega | rfl | (simp; done) | (simp; omega) | (intros; simp_all; done) | grind) ?_
      refine aw_ret ?_
      simp only [go_sem, ↓reduceIte, reduceCtorEq, Nat.reduceEqDiff, Nat.reduceAdd, Nat.reduceSub, Nat.reduceMul, Nat.reduceLeDiff, Nat.reduceLT, Int.reduceLE, Int.reduceLT, Int.reduceToNat, Int.reduceNeg]
      obtain rfl := Option.some.inj h
      first | done | rfl | (simp; done) | (repeat' (first | rfl | trivial | omega | (simp; done) | apply And.intro))
    obtain ⟨x_l1, hl_l1, h⟩ := bind_of h
    refine s_loopO (I_line_Valid_l1 a0) hK [] hl_l1 ?_ ?_
    · simp only [I_line_Valid_l1, go_sem, ↓reduceIte, reduceCtorEq, Nat.reduceEqDiff, Nat.reduceAdd, Nat.reduceSub, Nat.reduceMul, Nat.reduceLeDiff, Nat.reduceLT, Int.reduceLE, Int.reduceLT, Int.reduceToNat, Int.reduceNeg]
      first | (done) | trivial | (simp; done) | (repeat' (first | rfl | trivial | omega | (simp; done) | (simp; omega) | (congr 1; simp only [List.length_append, List.length_take, List.length_drop, List.length_replicate]; omega) | apply And.intro))
    · clear hl_l1
      intro g1 y_l1 h_l1 hx_l1
      unfold f_line_Valid_l1 at h_l1
      simp only [I_line_Valid_l1, go_sem, ↓reduceIte, reduceCtorEq, Nat.reduceEqDiff, Nat.reduceAdd, Nat.reduceSub, Nat.reduceMul, Nat.reduceLeDiff, Nat.reduceLT, Int.reduceLE, Int.reduceLT, Int.reduceToNat, Int.reduceNeg]
      refine s_seq ?_
      refine aw_reg hG ?_
      simp only [r_line_Valid_4, go_sem, ↓reduceIte, reduceCtorEq, Nat.reduceEqDiff, Nat.reduceAdd, Nat.reduceSub, Nat.reduceMul, Nat.reduceLeDiff, Nat.reduceLT, Int.reduceLE, Int.reduceLT, Int.reduceToNat, Int.reduceNeg]
      repeat refine And.intro (by first | assumption | omega | rfl | (simp; done) | (simp; omega) | (intros; simp_all; done) | grind) ?_
      refine s_seq ?_
      refine aw_cond rfl hG ?_ ?_
      · intro hc2
        replace h_l1 := ite_t (by first | exact hc2 | simpa using hc2) h_l1
        refine aw_skip ?_
        simp only [go_sem, ↓reduceIte, reduceCtorEq, Nat.reduceEqDiff, Nat.reduceAdd, Nat.reduceSub, Nat.reduceMul, Nat.reduceLeDiff, Nat.reduceLT, Int.reduceLE, Int.reduceLT, Int.reduceToNat, Int.reduceNeg]
        refine s_seq ?_
        refine s_block ?_
        refine s_seq ?_
        obtain ⟨hb1, h_l1⟩ := gd_some h_l1
        refine aw_reg hG ?_
        simp only [r_line_Valid_5, go_sem, ↓reduceIte, reduceCtorEq, Nat.reduceEqDiff, Nat.reduceAdd, Nat.reduceSub, Nat.reduceMul, Nat.reduceLeDiff, Nat.reduceLT, Int.reduceLE, Int.reduceLT, Int.reduceToNat, Int.reduceNeg, hb1]
        repeat refine And.intro (by first | assumption | omega | rfl | (simp; done) | (simp; omega) | (intros; simp_all; done) | grind) ?_
        refine s_seq ?_
        refine aw_reg hG ?_
        simp only [r_line_Valid_6, go_sem, ↓reduceIte, reduceCtorEq, Nat.reduceEqDiff, Nat.reduceAdd, Nat.reduceSub, Nat.reduceMul, Nat.reduceLeDiff, Nat.reduceLT, Int.reduceLE, Int.reduceLT, Int.reduceToNat, Int.reduceNeg]
        repeat refine And.intro (by first | assumption | omega | rfl | (simp; done) | (simp; omega) | (intros; simp_all; done) | grind) ?_
        refine acall_of (fun hg => line_ValidWait_ok (a0.getD g1.toNat Wait.zero)) ?_
        simp only [go_sem, ↓reduceIte, reduceCtorEq, Nat.reduceEqDiff, Nat.reduceAdd, Nat.reduceSub, Nat.reduceMul, Nat.reduceLeDiff, Nat.reduceLT, Int.reduceLE, Int.reduceLT, Int.reduceToNat, Int.reduceNeg]
        repeat refine And.intro (by first | assumption | omega | rfl | (simp; done) | (simp; omega) | (intros; simp_all; done) | grind) ?_
        obtain ⟨v1, hv1, h_l1⟩ := bind_of h_l1
        refine acall_of (fun hg => line_Find_ok a0 ((a0.getD g1.toNat Wait.zero).proc) _ (ite_t hg hv1)) ?_
        simp only [go_sem, ↓reduceIte, reduceCtorEq, Nat.reduceEqDiff, Nat.reduceAdd, Nat.reduceSub, Nat.reduceMul, Nat.reduceLeDiff, Nat.reduceLT, Int.reduceLE, Int.reduceLT, Int.reduceToNat, Int.reduceNeg]
        repeat refine And.intro (by first | assumption | omega | rfl | (simp; done) | (simp; omega) | (intros; simp_all; done) | grind) ?_
        refine aw_cond rfl hG ?_ ?_
        · intro hc3
          replace h_l1 := ite_t (by first | exact hc3 | simpa using hc3) h_l1
          refine s_seq ?_
          refine aw_reg hG ?_
          simp only [r_line_Valid_7, go_sem, ↓reduceIte, reduceCtorEq, Nat.reduceEqDiff, Nat.reduceAdd, Nat.reduceSub, Nat.reduceMul, Nat.reduceLeDiff, Nat.reduceLT, Int.reduceLE, Int.reduceLT, Int.reduceToNat, Int.reduceNeg]
          repeat refine And.intro (by first | assumption | omega | rfl | (simp; done) | (simp; omega) | (intros; simp_all; done) | grind) ?_
          refine aw_ret ?_
          simp only [go_sem, ↓reduceIte, reduceCtorEq, Nat.reduceEqDiff, Nat.reduceAdd, Nat.reduceSub, Nat.reduceMul, Nat.reduceLeDiff, Nat.reduceLT, Int.reduceLE, Int.reduceLT, Int.reduceToNat, Int.reduceNeg]
          obtain rfl := Option.some.inj h_l1
          have hx := hx_l1 _ rfl
          subst hx
          try dsimp only at h
          obtain rfl := Option.some.inj h
          first | done | rfl | (simp; done) | (repeat' (first | rfl | trivial | omega | (simp; done) | apply And.intro))
        · intro hc3
          replace h_l1 := ite_f (by first | exact hc3 | simpa using hc3) h_l1
          refine aw_skip ?_
          simp only [go_sem, ↓reduceIte, reduceCtorEq, Nat.reduceEqDiff, Nat.reduceAdd, Nat.reduceSub, Nat.reduceMul, Nat.reduceLeDiff, Nat.reduceLT, Int.reduceLE, Int.reduceLT, Int.reduceToNat, Int.reduceNeg]
          refine aw_reg hG ?_
          simp only [r_line_Valid_8, go_sem, ↓reduceIte, reduceCtorEq, Nat.reduceEqDiff, Nat.reduceAdd, Nat.reduceSub, Nat.reduceMul, Nat.reduceLeDiff, Nat.reduceLT, Int.reduceLE, Int.reduceLT, Int.reduceToNat, Int.reduceNeg]
          repeat refine And.intro (by first | assumption | omega | rfl | (simp; done) | (simp; omega) | (intros; simp_all; done) | grind) ?_
          obtain rfl := Option.some.inj h_l1
          refine loopN_of hK [] ?_
          simp only [I_line_Valid_l1, go_sem, ↓reduceIte, reduceCtorEq, Nat.reduceEqDiff, Nat.reduceAdd, Nat.reduceSub, Nat.reduceMul, Nat.reduceLeDiff, Nat.reduceLT, Int.reduceLE, Int.reduceLT, Int.reduceToNat, Int.reduceNeg]
          first | (done) | trivial | (simp; done) | (repeat' (first | rfl | trivial | omega | (simp; done) | (simp; omega) | (congr 1; simp only [List.length_append, List.length_take, List.length_drop, List.length_replicate]; omega) | apply And.intro))
      · intro hc2
        replace h_l1 := ite_f (by first | exact hc2 | simpa using hc2) h_l1
        refine aw_exit ?_
        simp only [go_sem, ↓reduceIte, reduceCtorEq, Nat.reduceEqDiff, Nat.reduceAdd, Nat.reduceSub, Nat.reduceMul, Nat.reduceLeDiff, Nat.reduceLT, Int.reduceLE, Int.reduceLT, Int.reduceToNat, Int.reduceNeg]
        obtain rfl := Option.some.inj h_l1
        have hx := hx_l1 _ rfl
        subst hx
        try dsimp only at h
        refine joinG_of hK () (by exact h) [] ?_
        simp only [J_line_Valid_k1, go_sem, ↓reduceIte, reduceCtorEq, Nat.reduceEqDiff, Nat.reduceAdd, Nat.reduceSub, Nat.reduceMul, Nat.reduceLeDiff, Nat.reduceLT, Int.reduceLE, Int.reduceLT, Int.reduceToNat, Int.reduceNeg]
        first | (done) | trivial | (simp; done) | (repeat' (first | rfl | trivial | omega | (simp; done) | (simp; omega) | (congr 1; simp only [List.length_append, List.length_take, List.length_drop, List.length_replicate]; omega) | apply And.intro))

def f_line_meet (a0 : Wait) (a1 : Wait) : Int :=
  (if ((decide (a1.priority < a0.priority)) && (decide (a1.passed < 3))) = true then
    1
  else
    0)
theorem line_meet_ok (a0 : Wait) (a1 : Wait) : PFn C 35 [.agg (Wait.enc a0), .agg (Wait.enc a1)] (.int .i64 (f_line_meet a0 a1)) := by
  generalize h : f_line_meet a0 a1 = r
  refine pfn_intro chk_line_meet rfl fun E hG hN hK => ?_
  unfold pc_line_meet
  unfold f_line_meet at h
  refine s_seq ?_
  refine aw_reg hG ?_
  simp only [r_line_meet_0, go_sem, ↓reduceIte, reduceCtorEq, Nat.reduceEqDiff, Nat.reduceAdd, Nat.reduceSub, Nat.reduceMul, Nat.reduceLeDiff, Nat.reduceLT, Int.reduceLE, Int.reduceLT, Int.reduceToNat, Int.reduceNeg]
  repeat refine And.intro (by first | assumption | omega | rfl | (simp; done) | (simp; omega) | (intros; simp_all; done) | grind) ?_
  refine s_seq ?_
  refine s_seq ?_
  refine aw_reg hG ?_
  simp only [r_line_meet_1, go_sem, ↓reduceIte, reduceCtorEq, Nat.reduceEqDiff, Nat.reduceAdd, Nat.reduceSub, Nat.reduceMul, Nat.reduceLeDiff, Nat.reduceLT, Int.reduceLE, Int.reduceLT, Int.reduceToNat, Int.reduceNeg]
  repeat refine And.intro (by first | assumption | omega | rfl | (simp; done) | (simp; omega) | (intros; simp_all; done) | grind) ?_
  refine aw_cond rfl hG ?_ ?_
  · intro hc1
    replace h := ite_t (by first | exact hc1 | simpa using hc1) h
    refine s_seq ?_
    refine aw_reg hG ?_
    simp only [r_line_meet_2, go_sem, ↓reduceIte, reduceCtorEq, Nat.reduceEqDiff, Nat.reduceAdd, Nat.reduceSub, Nat.reduceMul, Nat.reduceLeDiff, Nat.reduceLT, Int.reduceLE, Int.reduceLT, Int.reduceToNat, Int.reduceNeg]
    repeat refine And.intro (by first | assumption | omega | rfl | (simp; done) | (simp; omega) | (intros; simp_all; done) | grind) ?_
    refine aw_ret ?_
    simp only [go_sem, ↓reduceIte, reduceCtorEq, Nat.reduceEqDiff, Nat.reduceAdd, Nat.reduceSub, Nat.reduceMul, Nat.reduceLeDiff, Nat.reduceLT, Int.reduceLE, Int.reduceLT, Int.reduceToNat, Int.reduceNeg]
    subst h
    first | done | rfl | (simp; done) | (repeat' (first | rfl | trivial | omega | (simp; done) | apply And.intro))
  · intro hc1
    replace h := ite_f (by first | exact hc1 | simpa using hc1) h
    refine aw_skip ?_
    simp only [go_sem, ↓reduceIte, reduceCtorEq, Nat.reduceEqDiff, Nat.reduceAdd, Nat.reduceSub, Nat.reduceMul, Nat.reduceLeDiff, Nat.reduceLT, Int.reduceLE, Int.reduceLT, Int.reduceToNat, Int.reduceNeg]
    refine s_seq ?_
    refine aw_reg hG ?_
    simp only [r_line_meet_3, go_sem, ↓reduceIte, reduceCtorEq, Nat.reduceEqDiff, Nat.reduceAdd, Nat.reduceSub, Nat.reduceMul, Nat.reduceLeDiff, Nat.reduceLT, Int.reduceLE, Int.reduceLT, Int.reduceToNat, Int.reduceNeg]
    repeat refine And.intro (by first | assumption | omega | rfl | (simp; done) | (simp; omega) | (intros; simp_all; done) | grind) ?_
    refine aw_ret ?_
    simp only [go_sem, ↓reduceIte, reduceCtorEq, Nat.reduceEqDiff, Nat.reduceAdd, Nat.reduceSub, Nat.reduceMul, Nat.reduceLeDiff, Nat.reduceLT, Int.reduceLE, Int.reduceLT, Int.reduceToNat, Int.reduceNeg]
    subst h
    first | done | rfl | (simp; done) | (repeat' (first | rfl | trivial | omega | (simp; done) | apply And.intro))

noncomputable def f_line_Insert_k1 (a1 : Wait) (j1 : Int × (List Wait)) : Option ((List Wait) × Int × Int) :=
  gd (0 ≤ j1.1 ∧ j1.1 < ((j1.2.length : Nat) : Int)) <|
  some ((j1.2.set j1.1.toNat a1), j1.1, 0)
def J_line_Insert_k1 (a1 : Wait) (j1 : Int × (List Wait)) : St := ⟨[(3, .ptr 0 0 0), (7, .own 1 0 j1.2.length), (8, .int .i64 j1.1)], [(0, ⟨false, 7, (Wait.enc a1), [Wait.enc a1]⟩), (1, ⟨false, 7, (Wait.enc Wait.zero), j1.2.map Wait.enc⟩)], 2⟩
noncomputable def f_line_Insert_l1 (a1 : Wait) (g1 : Int × (List Wait)) : Option ((Int × (List Wait)) ⊕ ((Int × (List Wait)))) :=
  gd ((decide (0 < g1.1)) = true → 0 ≤ (IntKind.i64.wrap (g1.1 - 1)) ∧ (IntKind.i64.wrap (g1.1 - 1)) < ((g1.2.length : Nat) : Int)) <|
  (if ((decide (0 < g1.1)) && (decide ((f_line_meet a1 (g1.2.getD ((IntKind.i64.wrap (g1.1 - 1)).toNat) Wait.zero)) = 1))) = true then
    gd (0 ≤ (IntKind.i64.wrap (g1.1 - 1)) ∧ (IntKind.i64.wrap (g1.1 - 1)) < ((g1.2.length : Nat) : Int)) <|
    gd (0 ≤ g1.1 ∧ g1.1 < ((g1.2.length : Nat) : Int)) <|
    gd (0 ≤ g1.1 ∧ g1.1 < ((g1.2.length : Nat) : Int)) <|
    gd (0 ≤ g1.1 ∧ g1.1 < ((g1.2.length : Nat) : Int)) <|
    some (.inl ((IntKind.i64.wrap (g1.1 - 1)), ((g1.2.set g1.1.toNat (g1.2.getD ((IntKind.i64.wrap (g1.1 - 1)).toNat) Wait.zero)).set g1.1.toNat ({ ((g1.2.set g1.1.toNat (g1.2.getD ((IntKind.i64.wrap (g1.1 - 1)).toNat) Wait.zero)).getD g1.1.toNat Wait.zero) with passed := (IntKind.i64.wrap (((g1.2.set g1.1.toNat (g1.2.getD ((IntKind.i64.wrap (g1.1 - 1)).toNat) Wait.zero)).getD g1.1.toNat Wait.zero).passed + 1)) }))))
  else
    some (.inr (g1.1, g1.2)))
def I_line_Insert_l1 (a1 : Wait) (g1 : Int × (List Wait)) : St := ⟨[(3, .ptr 0 0 0), (7, .own 1 0 g1.2.length), (8, .int .i64 g1.1)], [(0, ⟨false, 7, (Wait.enc a1), [Wait.enc a1]⟩), (1, ⟨false, 7, (Wait.enc Wait.zero), g1.2.map Wait.enc⟩)], 2⟩
noncomputable def f_line_Insert (a0 : List Wait) (a1 : Wait) : Option ((List Wait) × Int × Int) :=
  (f_line_Valid a0).bind fun v1 =>
  (if (!v1) = true then
    some ([], 0, 2)
  else
    (if ((!(f_line_ValidWait a1)) || (!decide (a1.passed = 0))) = true then
      some ([], 0, 1)
    else
      (f_line_Find a0 a1.proc).bind fun v2 =>
      (if (decide (0 ≤ v2)) = true then
        some ([], 0, 11)
      else
        (if (decide ((a0.length : Int) = 8)) = true then
          some ([], 0, 4)
        else
          gd (0 ≤ (IntKind.i64.wrap ((a0.length : Int) + 1)) ∧ (IntKind.i64.wrap ((a0.length : Int) + 1)) ≤ (IntKind.i64.wrap ((a0.length : Int) + 1)) ∧ (IntKind.i64.wrap ((a0.length : Int) + 1)) ≤ 4294967296) <|
          (loopO (f_line_Insert_l1 a1) ((a0.length : Int), ((List.replicate ((IntKind.i64.wrap ((a0.length : Int) + 1)).toNat) Wait.zero).take 0 ++ a0.take ((IntKind.i64.wrap ((a0.length : Int) + 1)).toNat) ++ (List.replicate ((IntKind.i64.wrap ((a0.length : Int) + 1)).toNat) Wait.zero).drop (0 + min a0.length ((IntKind.i64.wrap ((a0.length : Int) + 1)).toNat))))).bind (fun z => f_line_Insert_k1 a1 z)))))
theorem line_Insert_ok (a0 : List Wait) (a1 : Wait) (r : (List Wait) × Int × Int) (h : f_line_Insert a0 a1 = some r) : PFn C 15 [.sl (a0.map Wait.enc), .agg (Wait.enc a1)] (.tup [.sl (r.1.map Wait.enc), .int .i64 r.2.1, .int .i64 r.2.2]) := by
  refine pfn_intro chk_line_Insert rfl fun E hG hN hK => ?_
  unfold pc_line_Insert
  unfold f_line_Insert at h
  refine s_seq ?_
  refine aw_reg hG ?_
  simp only [r_line_Insert_0, go_sem, ↓reduceIte, reduceCtorEq, Nat.reduceEqDiff, Nat.reduceAdd, Nat.reduceSub, Nat.reduceMul, Nat.reduceLeDiff, Nat.reduceLT, Int.reduceLE, Int.reduceLT, Int.reduceToNat, Int.reduceNeg]
  repeat refine And.intro (by first | assumption | omega | rfl | (simp; done) | (simp; omega) | (intros; simp_all; done) | grind) ?_
  refine s_seq ?_
  refine s_block ?_
  refine s_seq ?_
  refine aw_reg hG ?_
  simp only [r_line_Insert_1, go_sem, ↓reduceIte, reduceCtorEq, Nat.reduceEqDiff, Nat.reduceAdd, Nat.reduceSub, Nat.reduceMul, Nat.reduceLeDiff, Nat.reduceLT, Int.reduceLE, Int.reduceLT, Int.reduceToNat, Int.reduceNeg]
  repeat refine And.intro (by first | assumption | omega | rfl | (simp; done) | (simp; omega) | (intros; simp_all; done) | grind) ?_
  obtain ⟨v1, hv1, h⟩ := bind_of h
  refine acall_of (fun hg => line_Valid_ok a0 _ (hv1)) ?_
  simp only [go_sem, ↓reduceIte, reduceCtorEq, Nat.reduceEqDiff, Nat.reduceAdd, Nat.reduceSub, Nat.reduceMul, Nat.reduceLeDiff, Nat.reduceLT, Int.reduceLE, Int.reduceLT, Int.reduceToNat, Int.reduceNeg]
  repeat refine And.intro (by first | assumption | omega | rfl | (simp; done) | (simp; omega) | (intros; simp_all; done) | grind) ?_
  refine aw_cond rfl hG ?_ ?_
  · intro hc1
    replace h := ite_t (by first | exact hc1 | simpa using hc1) h
    refine s_seq ?_
    refine aw_reg hG ?_
    simp only [r_line_Insert_2, go_sem, ↓reduceIte, reduceCtorEq, Nat.reduceEqDiff, Nat.reduceAdd, Nat.reduceSub, Nat.reduceMul, Nat.reduceLeDiff, Nat.reduceLT, Int.reduceLE, Int.reduceLT, Int.reduceToNat, Int.reduceNeg]
    repeat refine And.intro (by first | assumption | omega | rfl | (simp; done) | (simp; omega) | (intros; simp_all; done) | grind) ?_
    refine aw_ret ?_
    simp only [go_sem, ↓reduceIte, reduceCtorEq, Nat.reduceEqDiff, Nat.reduceAdd, Nat.reduceSub, Nat.reduceMul, Nat.reduceLeDiff, Nat.reduceLT, Int.reduceLE, Int.reduceLT, Int.reduceToNat, Int.reduceNeg]
    obtain rfl := Option.some.inj h
    first | done | rfl | (simp; done) | (repeat' (first | rfl | trivial | omega | (simp; done) | apply And.intro))
  · intro hc1
    replace h := ite_f (by first | exact hc1 | simpa using hc1) h
    refine s_seq ?_
    refine aw_reg hG ?_
    simp only [r_line_Insert_3, go_sem, ↓reduceIte, reduceCtorEq, Nat.reduceEqDiff, Nat.reduceAdd, Nat.reduceSub, Nat.reduceMul, Nat.reduceLeDiff, Nat.reduceLT, Int.reduceLE, Int.reduceLT, Int.reduceToNat, Int.reduceNeg]
    repeat refine And.intro (by first | assumption | omega | rfl | (simp; done) | (simp; omega) | (intros; simp_all; done) | grind) ?_
    refine acall_of (fun hg => line_ValidWait_ok a1) ?_
    simp only [go_sem, ↓reduceIte, reduceCtorEq, Nat.reduceEqDiff, Nat.reduceAdd, Nat.reduceSub, Nat.reduceMul, Nat.reduceLeDiff, Nat.reduceLT, Int.reduceLE, Int.reduceLT, Int.reduceToNat, Int.reduceNeg]
    repeat refine And.intro (by first | assumption | omega | rfl | (simp; done) | (simp; omega) | (intros; simp_all; done) | grind) ?_
    refine aw_cond rfl hG ?_ ?_
    · intro hc2
      replace h := ite_t (by first | exact hc2 | simpa using hc2) h
      refine s_seq ?_
      refine aw_reg hG ?_
      simp only [r_line_Insert_4, go_sem, ↓reduceIte, reduceCtorEq, Nat.reduceEqDiff, Nat.reduceAdd, Nat.reduceSub, Nat.reduceMul, Nat.reduceLeDiff, Nat.reduceLT, Int.reduceLE, Int.reduceLT, Int.reduceToNat, Int.reduceNeg]
      repeat refine And.intro (by first | assumption | omega | rfl | (simp; done) | (simp; omega) | (intros; simp_all; done) | grind) ?_
      refine aw_ret ?_
      simp only [go_sem, ↓reduceIte, reduceCtorEq, Nat.reduceEqDiff, Nat.reduceAdd, Nat.reduceSub, Nat.reduceMul, Nat.reduceLeDiff, Nat.reduceLT, Int.reduceLE, Int.reduceLT, Int.reduceToNat, Int.reduceNeg]
      obtain rfl := Option.some.inj h
      first | done | rfl | (simp; done) | (repeat' (first | rfl | trivial | omega | (simp; done) | apply And.intro))
    · intro hc2
      replace h := ite_f (by first | exact hc2 | simpa using hc2) h
      refine s_seq ?_
      refine aw_reg hG ?_
      simp only [r_line_Insert_5, go_sem, ↓reduceIte, reduceCtorEq, Nat.reduceEqDiff, Nat.reduceAdd, Nat.reduceSub, Nat.reduceMul, Nat.reduceLeDiff, Nat.reduceLT, Int.reduceLE, Int.reduceLT, Int.reduceToNat, Int.reduceNeg]
      repeat refine And.intro (by first | assumption | omega | rfl | (simp; done) | (simp; omega) | (intros; simp_all; done) | grind) ?_
      obtain ⟨v2, hv2, h⟩ := bind_of h
      refine acall_of (fun hg => line_Find_ok a0 a1.proc _ (hv2)) ?_
      simp only [go_sem, ↓reduceIte, reduceCtorEq, Nat.reduceEqDiff, Nat.reduceAdd, Nat.reduceSub, Nat.reduceMul, Nat.reduceLeDiff, Nat.reduceLT, Int.reduceLE, Int.reduceLT, Int.reduceToNat, Int.reduceNeg]
      repeat refine And.intro (by first | assumption | omega | rfl | (simp; done) | (simp; omega) | (intros; simp_all; done) | grind) ?_
      refine aw_cond rfl hG ?_ ?_
      · intro hc3
        replace h := ite_t (by first | exact hc3 | simpa using hc3) h
        refine s_seq ?_
        refine aw_reg hG ?_
        simp only [r_line_Insert_6, go_sem, ↓reduceIte, reduceCtorEq, Nat.reduceEqDiff, Nat.reduceAdd, Nat.reduceSub, Nat.reduceMul, Nat.reduceLeDiff, Nat.reduceLT, Int.reduceLE, Int.reduceLT, Int.reduceToNat, Int.reduceNeg]
        repeat refine And.intro (by first | assumption | omega | rfl | (simp; done) | (simp; omega) | (intros; simp_all; done) | grind) ?_
        refine aw_ret ?_
        simp only [go_sem, ↓reduceIte, reduceCtorEq, Nat.reduceEqDiff, Nat.reduceAdd, Nat.reduceSub, Nat.reduceMul, Nat.reduceLeDiff, Nat.reduceLT, Int.reduceLE, Int.reduceLT, Int.reduceToNat, Int.reduceNeg]
        obtain rfl := Option.some.inj h
        first | done | rfl | (simp; done) | (repeat' (first | rfl | trivial | omega | (simp; done) | apply And.intro))
      · intro hc3
        replace h := ite_f (by first | exact hc3 | simpa using hc3) h
        refine s_seq ?_
        refine aw_reg hG ?_
        simp only [r_line_Insert_7, go_sem, ↓reduceIte, reduceCtorEq, Nat.reduceEqDiff, Nat.reduceAdd, Nat.reduceSub, Nat.reduceMul, Nat.reduceLeDiff, Nat.reduceLT, Int.reduceLE, Int.reduceLT, Int.reduceToNat, Int.reduceNeg]
        repeat refine And.intro (by first | assumption | omega | rfl | (simp; done) | (simp; omega) | (intros; simp_all; done) | grind) ?_
        refine aw_cond rfl hG ?_ ?_
        · intro hc4
          replace h := ite_t (by first | exact hc4 | simpa using hc4) h
          refine s_seq ?_
          refine aw_reg hG ?_
          simp only [r_line_Insert_8, go_sem, ↓reduceIte, reduceCtorEq, Nat.reduceEqDiff, Nat.reduceAdd, Nat.reduceSub, Nat.reduceMul, Nat.reduceLeDiff, Nat.reduceLT, Int.reduceLE, Int.reduceLT, Int.reduceToNat, Int.reduceNeg]
          repeat refine And.intro (by first | assumption | omega | rfl | (simp; done) | (simp; omega) | (intros; simp_all; done) | grind) ?_
          refine aw_ret ?_
          simp only [go_sem, ↓reduceIte, reduceCtorEq, Nat.reduceEqDiff, Nat.reduceAdd, Nat.reduceSub, Nat.reduceMul, Nat.reduceLeDiff, Nat.reduceLT, Int.reduceLE, Int.reduceLT, Int.reduceToNat, Int.reduceNeg]
          obtain rfl := Option.some.inj h
          first | done | rfl | (simp; done) | (repeat' (first | rfl | trivial | omega | (simp; done) | apply And.intro))
        · intro hc4
          replace h := ite_f (by first | exact hc4 | simpa using hc4) h
          refine aw_skip ?_
          simp only [go_sem, ↓reduceIte, reduceCtorEq, Nat.reduceEqDiff, Nat.reduceAdd, Nat.reduceSub, Nat.reduceMul, Nat.reduceLeDiff, Nat.reduceLT, Int.reduceLE, Int.reduceLT, Int.reduceToNat, Int.reduceNeg]
          refine s_seq ?_
          obtain ⟨hb7, h⟩ := gd_some h
          refine aw_reg hG ?_
          simp only [r_line_Insert_9, go_sem, ↓reduceIte, reduceCtorEq, Nat.reduceEqDiff, Nat.reduceAdd, Nat.reduceSub, Nat.reduceMul, Nat.reduceLeDiff, Nat.reduceLT, Int.reduceLE, Int.reduceLT, Int.reduceToNat, Int.reduceNeg, hb7]
          repeat refine And.intro (by first | assumption | omega | rfl | (simp; done) | (simp; omega) | (intros; simp_all; done) | grind) ?_
          refine s_seq ?_
          refine aw_reg hG ?_
          simp only [r_line_Insert_10, go_sem, ↓reduceIte, reduceCtorEq, Nat.reduceEqDiff, Nat.reduceAdd, Nat.reduceSub, Nat.reduceMul, Nat.reduceLeDiff, Nat.reduceLT, Int.reduceLE, Int.reduceLT, Int.reduceToNat, Int.reduceNeg]
          repeat refine And.intro (by first | assumption | omega | rfl | (simp; done) | (simp; omega) | (intros; simp_all; done) | grind) ?_
          refine s_seq ?_
          refine aw_reg hG ?_
          simp only [r_line_Insert_11, go_sem, ↓reduceIte, reduceCtorEq, Nat.reduceEqDiff, Nat.reduceAdd, Nat.reduceSub, Nat.reduceMul, Nat.reduceLeDiff, Nat.reduceLT, Int.reduceLE, Int.reduceLT, Int.reduceToNat, Int.reduceNeg]
          repeat refine And.intro (by first | assumption | omega | rfl | (simp; done) | (simp; omega) | (intros; simp_all; done) | grind) ?_
          refine s_seq ?_
          refine s_blockJ (J_line_Insert_k1 a1) (fun v => f_line_Insert_k1 a1 v = some r) ?_ ?_
          · intro j1 h
            unfold f_line_Insert_k1 at h
            simp only [J_line_Insert_k1, go_sem, ↓reduceIte, reduceCtorEq, Nat.reduceEqDiff, Nat.reduceAdd, Nat.reduceSub, Nat.reduceMul, Nat.reduceLeDiff, Nat.reduceLT, Int.reduceLE, Int.reduceLT, Int.reduceToNat, Int.reduceNeg]
            refine s_seq ?_
            obtain ⟨hb1, h⟩ := gd_some h
            refine aw_reg hG ?_
            simp only [r_line_Insert_16, go_sem, ↓reduceIte, reduceCtorEq, Nat.reduceEqDiff, Nat.reduceAdd, Nat.reduceSub, Nat.reduceMul, Nat.reduceLeDiff, Nat.reduceLT, Int.reduceLE, Int.reduceLT, Int.reduceToNat, Int.reduceNeg, hb1]
            repeat refine And.intro (by first | assumption | omega | rfl | (simp; done) | (simp; omega) | (intros; simp_all; done) | grind) ?_
            refine s_seq ?_
            refine aw_reg hG ?_
            simp only [r_line_Insert_17, go_sem, ↓reduceIte, reduceCtorEq, Nat.reduceEqDiff, Nat.reduceAdd, Nat.reduceSub, Nat.reduceMul, Nat.reduceLeDiff, Nat.reduceLT, Int.reduceLE, Int.reduceLT, Int.reduceToNat, Int.reduceNeg]
            repeat refine And.intro (by first | assumption | omega | rfl | (simp; done) | (simp; omega) | (intros; simp_all; done) | grind) ?_
            refine aw_ret ?_
            simp only [go_sem, ↓reduceIte, reduceCtorEq, Nat.reduceEqDiff, Nat.reduceAdd, Nat.reduceSub, Nat.reduceMul, Nat.reduceLeDiff, Nat.reduceLT, Int.reduceLE, Int.reduceLT, Int.reduceToNat, Int.reduceNeg]
            obtain rfl := Option.some.inj h
            first | done | rfl | (simp; done) | (repeat' (first | rfl | trivial | omega | (simp; done) | apply And.intro))
          obtain ⟨x_l1, hl_l1, h⟩ := bind_of h
          refine s_loopO (I_line_Insert_l1 a1) hK [(0, 0), (1, 1)] hl_l1 ?_ ?_
          · simp only [I_line_Insert_l1, go_sem, ↓reduceIte, reduceCtorEq, Nat.reduceEqDiff, Nat.reduceAdd, Nat.reduceSub, Nat.reduceMul, Nat.reduceLeDiff, Nat.reduceLT, Int.reduceLE, Int.reduceLT, Int.reduceToNat, Int.reduceNeg]
            first | (done) | trivial | (simp; done) | (repeat' (first | rfl | trivial | omega | (simp; done) | (simp; omega) | (congr 1; simp only [List.length_append, List.length_take, List.length_drop, List.length_replicate]; omega) | apply And.intro))
          · clear hl_l1
            intro g1 y_l1 h_l1 hx_l1
            unfold f_line_Insert_l1 at h_l1
            simp only [I_line_Insert_l1, go_sem, ↓reduceIte, reduceCtorEq, Nat.reduceEqDiff, Nat.reduceAdd, Nat.reduceSub, Nat.reduceMul, Nat.reduceLeDiff, Nat.reduceLT, Int.reduceLE, Int.reduceLT, Int.reduceToNat, Int.reduceNeg]
            refine s_seq ?_
            refine s_seq ?_
            obtain ⟨hb6, h_l1⟩ := gd_some h_l1
            refine aw_regd C_mixed hG ?_
            simp only [r_line_Insert_12, go_sem, ↓reduceIte, reduceCtorEq, Nat.reduceEqDiff, Nat.reduceAdd, Nat.reduceSub, Nat.reduceMul, Nat.reduceLeDiff, Nat.reduceLT, Int.reduceLE, Int.reduceLT, Int.reduceToNat, Int.reduceNeg, hb6]
            repeat refine And.intro (by first | assumption | omega | rfl | (simp; done) | (simp; omega) | (intros; simp_all; done) | grind) ?_
            refine acalld_of (fun hg => line_meet_ok a1 (g1.2.getD ((IntKind.i64.wrap (g1.1 - 1)).toNat) Wait.zero)) ?_
            simp only [go_sem, ↓reduceIte, reduceCtorEq, Nat.reduceEqDiff, Nat.reduceAdd, Nat.reduceSub, Nat.reduceMul, Nat.reduceLeDiff, Nat.reduceLT, Int.reduceLE, Int.reduceLT, Int.reduceToNat, Int.reduceNeg, hb6]
            repeat refine And.intro (by first | assumption | omega | rfl | (simp; done) | (simp; omega) | (intros; simp_all; done) | grind) ?_
            refine aw_cond rfl hG ?_ ?_
            · intro hc5
              replace h_l1 := ite_t (by first | exact hc5 | simpa using hc5) h_l1
              refine aw_skip ?_
              simp only [go_sem, ↓reduceIte, reduceCtorEq, Nat.reduceEqDiff, Nat.reduceAdd, Nat.reduceSub, Nat.reduceMul, Nat.reduceLeDiff, Nat.reduceLT, Int.reduceLE, Int.reduceLT, Int.reduceToNat, Int.reduceNeg]
              refine s_block ?_
              refine s_seq ?_
              obtain ⟨hb4, h_l1⟩ := gd_some h_l1
              obtain ⟨hb5, h_l1⟩ := gd_some h_l1
              refine aw_reg hG ?_
              simp only [r_line_Insert_13, go_sem, ↓reduceIte, reduceCtorEq, Nat.reduceEqDiff, Nat.reduceAdd, Nat.reduceSub, Nat.reduceMul, Nat.reduceLeDiff, Nat.reduceLT, Int.reduceLE, Int.reduceLT, Int.reduceToNat, Int.reduceNeg, hb4, hb5]
              repeat refine And.intro (by first | assumption | omega | rfl | (simp; done) | (simp; omega) | (intros; simp_all; done) | grind) ?_
              refine s_seq ?_
              obtain ⟨hb2, h_l1⟩ := gd_some h_l1
              obtain ⟨hb3, h_l1⟩ := gd_some h_l1
              refine aw_reg hG ?_
              simp only [r_line_Insert_14, go_sem, ↓reduceIte, reduceCtorEq, Nat.reduceEqDiff, Nat.reduceAdd, Nat.reduceSub, Nat.reduceMul, Nat.reduceLeDiff, Nat.reduceLT, Int.reduceLE, Int.reduceLT, Int.reduceToNat, Int.reduceNeg, hb2, hb3]
              repeat refine And.intro (by first | assumption | omega | rfl | (simp; done) | (simp; omega) | (intros; simp_all; done) | grind) ?_
              refine aw_reg hG ?_
              simp only [r_line_Insert_15, go_sem, ↓reduceIte, reduceCtorEq, Nat.reduceEqDiff, Nat.reduceAdd, Nat.reduceSub, Nat.reduceMul, Nat.reduceLeDiff, Nat.reduceLT, Int.reduceLE, Int.reduceLT, Int.reduceToNat, Int.reduceNeg]
              repeat refine And.intro (by first | assumption | omega | rfl | (simp; done) | (simp; omega) | (intros; simp_all; done) | grind) ?_
              obtain rfl := Option.some.inj h_l1
              refine loopN_of hK [(0, 0), (1, 1)] ?_
              simp only [I_line_Insert_l1, go_sem, ↓reduceIte, reduceCtorEq, Nat.reduceEqDiff, Nat.reduceAdd, Nat.reduceSub, Nat.reduceMul, Nat.reduceLeDiff, Nat.reduceLT, Int.reduceLE, Int.reduceLT, Int.reduceToNat, Int.reduceNeg]
              first | (done) | trivial | (simp; done) | (repeat' (first | rfl | trivial | omega | (simp; done) | (simp; omega) | (congr 1; simp only [List.length_append, List.length_take, List.length_drop, List.length_replicate]; omega) | apply And.intro))
            · intro hc5
              replace h_l1 := ite_f (by first | exact hc5 | simpa using hc5) h_l1
              refine aw_exit ?_
              simp only [go_sem, ↓reduceIte, reduceCtorEq, Nat.reduceEqDiff, Nat.reduceAdd, Nat.reduceSub, Nat.reduceMul, Nat.reduceLeDiff, Nat.reduceLT, Int.reduceLE, Int.reduceLT, Int.reduceToNat, Int.reduceNeg]
              obtain rfl := Option.some.inj h_l1
              have hx := hx_l1 _ rfl
              subst hx
              try dsimp only at h
              refine joinG_of hK (g1.1, g1.2) (by exact h) [(0, 0), (1, 1)] ?_
              simp only [J_line_Insert_k1, go_sem, ↓reduceIte, reduceCtorEq, Nat.reduceEqDiff, Nat.reduceAdd, Nat.reduceSub, Nat.reduceMul, Nat.reduceLeDiff, Nat.reduceLT, Int.reduceLE, Int.reduceLT, Int.reduceToNat, Int.reduceNeg]
              first | (done) | trivial | (simp; done) | (repeat' (first | rfl | trivial | omega | (simp; done) | (simp; omega) | (congr 1; simp only [List.length_append, List.length_take, List.length_drop, List.length_replicate]; omega) | apply And.intro))

noncomputable def f_line_Ahead_k1  (j1 : (List Proc)) : Option ((List Proc)) :=
  some j1
def J_line_Ahead_k1  (j1 : (List Proc)) : St := ⟨[(5, .own 0 0 j1.length)], [(0, ⟨false, 3, (Proc.enc Proc.zero), j1.map Proc.enc⟩)], 1⟩
noncomputable def f_line_Ahead_l1 (a0 : List Wait) (v1 : Int) (g1 : Int × (List Proc)) : Option ((Int × (List Proc)) ⊕ (((List Proc)))) :=
  (if (decide (g1.1 < v1)) = true then
    gd (0 ≤ g1.1 ∧ g1.1 < (a0.length : Int)) <|
    gd (g1.2.length + 1 ≤ 4294967296) <|
    some (.inl ((IntKind.i64.wrap (g1.1 + 1)), (g1.2 ++ [(a0.getD g1.1.toNat Wait.zero).proc])))
  else
    some (.inr g1.2))
def I_line_Ahead_l1 (a0 : List Wait) (v1 : Int) (g1 : Int × (List Proc)) : St := ⟨[(0, .sl (a0.map Wait.enc)), (5, .own 0 0 g1.2.length), (9, .int .i64 v1), (10, .int .i64 g1.1)], [(0, ⟨false, 3, (Proc.enc Proc.zero), g1.2.map Proc.enc⟩)], 1⟩
noncomputable def f_line_Ahead (a0 : List Wait) (a1 : Proc) : Option ((List Proc)) :=
  (f_line_Find a0 a1).bind fun v1 =>
  (loopO (f_line_Ahead_l1 a0 v1) (0, [])).bind (fun z => f_line_Ahead_k1 z)
theorem line_Ahead_ok (a0 : List Wait) (a1 : Proc) (r : (List Proc)) (h : f_line_Ahead a0 a1 = some r) : PFn C 24 [.sl (a0.map Wait.enc), .agg (Proc.enc a1)] (.sl (r.map Proc.enc)) := by
  refine pfn_intro chk_line_Ahead rfl fun E hG hN hK => ?_
  unfold pc_line_Ahead
  unfold f_line_Ahead at h
  refine s_seq ?_
  refine aw_reg hG ?_
  simp only [r_line_Ahead_0, go_sem, ↓reduceIte, reduceCtorEq, Nat.reduceEqDiff, Nat.reduceAdd, Nat.reduceSub, Nat.reduceMul, Nat.reduceLeDiff, Nat.reduceLT, Int.reduceLE, Int.reduceLT, Int.reduceToNat, Int.reduceNeg]
  repeat refine And.intro (by first | assumption | omega | rfl | (simp; done) | (simp; omega) | (intros; simp_all; done) | grind) ?_
  refine s_seq ?_
  refine aw_reg hG ?_
  simp only [r_line_Ahead_1, go_sem, ↓reduceIte, reduceCtorEq, Nat.reduceEqDiff, Nat.reduceAdd, Nat.reduceSub, Nat.reduceMul, Nat.reduceLeDiff, Nat.reduceLT, Int.reduceLE, Int.reduceLT, Int.reduceToNat, Int.reduceNeg]
  repeat refine And.intro (by first | assumption | omega | rfl | (simp; done) | (simp; omega) | (intros; simp_all; done) | grind) ?_
  refine s_seq ?_
  refine s_seq ?_
  refine aw_reg hG ?_
  simp only [r_line_Ahead_2, go_sem, ↓reduceIte, reduceCtorEq, Nat.reduceEqDiff, Nat.reduceAdd, Nat.reduceSub, Nat.reduceMul, Nat.reduceLeDiff, Nat.reduceLT, Int.reduceLE, Int.reduceLT, Int.reduceToNat, Int.reduceNeg]
  repeat refine And.intro (by first | assumption | omega | rfl | (simp; done) | (simp; omega) | (intros; simp_all; done) | grind) ?_
  obtain ⟨v1, hv1, h⟩ := bind_of h
  refine acall_of (fun hg => line_Find_ok a0 a1 _ (hv1)) ?_
  simp only [go_sem, ↓reduceIte, reduceCtorEq, Nat.reduceEqDiff, Nat.reduceAdd, Nat.reduceSub, Nat.reduceMul, Nat.reduceLeDiff, Nat.reduceLT, Int.reduceLE, Int.reduceLT, Int.reduceToNat, Int.reduceNeg]
  repeat refine And.intro (by first | assumption | omega | rfl | (simp; done) | (simp; omega) | (intros; simp_all; done) | grind) ?_
  refine s_blockJ (J_line_Ahead_k1) (fun v => f_line_Ahead_k1 v = some r) ?_ ?_
  · intro j1 h
    unfold f_line_Ahead_k1 at h
    simp only [J_line_Ahead_k1, go_sem, ↓reduceIte, reduceCtorEq, Nat.reduceEqDiff, Nat.reduceAdd, Nat.reduceSub, Nat.reduceMul, Nat.reduceLeDiff, Nat.reduceLT, Int.reduceLE, Int.reduceLT, Int.reduceToNat, Int.reduceNeg]
    refine s_seq ?_
    refine aw_reg hG ?_
    simp only [r_line_Ahead_7, go_sem, ↓reduceIte, reduceCtorEq, Nat.reduceEqDiff, Nat.reduceAdd, Nat.reduceSub, Nat.reduceMul, Nat.reduceLeDiff, Nat.reduceLT, Int.reduceLE, Int.reduceLT, Int.reduceToNat, Int.reduceNeg]
    repeat refine And.intro (by first | assumption | omega | rfl | (simp; done) | (simp; omega) | (intros; simp_all; done) | grind) ?_
    refine aw_ret ?_
    simp only [go_sem, ↓reduceIte, reduceCtorEq, Nat.reduceEqDiff, Nat.reduceAdd, Nat.reduceSub, Nat.reduceMul, Nat.reduceLeDiff, Nat.reduceLT, Int.reduceLE, Int.reduceLT, Int.reduceToNat, Int.reduceNeg]
    obtain rfl := Option.some.inj h
    first | done | rfl | (simp; done) | (repeat' (first | rfl | trivial | omega | (simp; done) | apply And.intro))
  obtain ⟨x_l1, hl_l1, h⟩ := bind_of h
  refine s_loopO (I_line_Ahead_l1 a0 v1) hK [(0, 1)] hl_l1 ?_ ?_
  · simp only [I_line_Ahead_l1, go_sem, ↓reduceIte, reduceCtorEq, Nat.reduceEqDiff, Nat.reduceAdd, Nat.reduceSub, Nat.reduceMul, Nat.reduceLeDiff, Nat.reduceLT, Int.reduceLE, Int.reduceLT, Int.reduceToNat, Int.reduceNeg]
    first | (done) | trivial | (simp; done) | (repeat' (first | rfl | trivial | omega | (simp; done) | (simp; omega) | (congr 1; simp only [List.length_append, List.length_take, List.length_drop, List.length_replicate]; omega) | apply And.intro))
  · clear hl_l1
    intro g1 y_l1 h_l1 hx_l1
    unfold f_line_Ahead_l1 at h_l1
    simp only [I_line_Ahead_l1, go_sem, ↓reduceIte, reduceCtorEq, Nat.reduceEqDiff, Nat.reduceAdd, Nat.reduceSub, Nat.reduceMul, Nat.reduceLeDiff, Nat.reduceLT, Int.reduceLE, Int.reduceLT, Int.reduceToNat, Int.reduceNeg]
    refine s_seq ?_
    refine aw_reg hG ?_
    simp only [r_line_Ahead_3, go_sem, ↓reduceIte, reduceCtorEq, Nat.reduceEqDiff, Nat.reduceAdd, Nat.reduceSub, Nat.reduceMul, Nat.reduceLeDiff, Nat.reduceLT, Int.reduceLE, Int.reduceLT, Int.reduceToNat, Int.reduceNeg]
    repeat refine And.intro (by first | assumption | omega | rfl | (simp; done) | (simp; omega) | (intros; simp_all; done) | grind) ?_
    refine s_seq ?_
    refine aw_cond rfl hG ?_ ?_
    · intro hc1
      replace h_l1 := ite_t (by first | exact hc1 | simpa using hc1) h_l1
      refine aw_skip ?_
      simp only [go_sem, ↓reduceIte, reduceCtorEq, Nat.reduceEqDiff, Nat.reduceAdd, Nat.reduceSub, Nat.reduceMul, Nat.reduceLeDiff, Nat.reduceLT, Int.reduceLE, Int.reduceLT, Int.reduceToNat, Int.reduceNeg]
      refine s_seq ?_
      refine s_block ?_
      refine s_seq ?_
      refine aw_reg hG ?_
      simp only [r_line_Ahead_4, go_sem, ↓reduceIte, reduceCtorEq, Nat.reduceEqDiff, Nat.reduceAdd, Nat.reduceSub, Nat.reduceMul, Nat.reduceLeDiff, Nat.reduceLT, Int.reduceLE, Int.reduceLT, Int.reduceToNat, Int.reduceNeg]
      repeat refine And.intro (by first | assumption | omega | rfl | (simp; done) | (simp; omega) | (intros; simp_all; done) | grind) ?_
      obtain ⟨hb1, h_l1⟩ := gd_some h_l1
      obtain ⟨hb2, h_l1⟩ := gd_some h_l1
      refine aw_reg hG ?_
      simp only [r_line_Ahead_5, go_sem, ↓reduceIte, reduceCtorEq, Nat.reduceEqDiff, Nat.reduceAdd, Nat.reduceSub, Nat.reduceMul, Nat.reduceLeDiff, Nat.reduceLT, Int.reduceLE, Int.reduceLT, Int.reduceToNat, Int.reduceNeg, hb1, hb2]
      repeat refine And.intro (by first | assumption | omega | rfl | (simp; done) | (simp; omega) | (intros; simp_all; done) | grind) ?_
      refine aw_reg hG ?_
      simp only [r_line_Ahead_6, go_sem, ↓reduceIte, reduceCtorEq, Nat.reduceEqDiff, Nat.reduceAdd, Nat.reduceSub, Nat.reduceMul, Nat.reduceLeDiff, Nat.reduceLT, Int.reduceLE, Int.reduceLT, Int.reduceToNat, Int.reduceNeg]
      repeat refine And.intro (by first | assumption | omega | rfl | (simp; done) | (simp; omega) | (intros; simp_all; done) | grind) ?_
      obtain rfl := Option.some.inj h_l1
      refine loopN_of hK [(0, 1)] ?_
      simp only [I_line_Ahead_l1, go_sem, ↓reduceIte, reduceCtorEq, Nat.reduceEqDiff, Nat.reduceAdd, Nat.reduceSub, Nat.reduceMul, Nat.reduceLeDiff, Nat.reduceLT, Int.reduceLE, Int.reduceLT, Int.reduceToNat, Int.reduceNeg]
      first | (done) | trivial | (simp; done) | (repeat' (first | rfl | trivial | omega | (simp; done) | (simp; omega) | (congr 1; simp only [List.length_append, List.length_take, List.length_drop, List.length_replicate]; omega) | apply And.intro))
    · intro hc1
      replace h_l1 := ite_f (by first | exact hc1 | simpa using hc1) h_l1
      refine aw_exit ?_
      simp only [go_sem, ↓reduceIte, reduceCtorEq, Nat.reduceEqDiff, Nat.reduceAdd, Nat.reduceSub, Nat.reduceMul, Nat.reduceLeDiff, Nat.reduceLT, Int.reduceLE, Int.reduceLT, Int.reduceToNat, Int.reduceNeg]
      obtain rfl := Option.some.inj h_l1
      have hx := hx_l1 _ rfl
      subst hx
      try dsimp only at h
      refine joinG_of hK g1.2 (by exact h) [(0, 0)] ?_
      simp only [J_line_Ahead_k1, go_sem, ↓reduceIte, reduceCtorEq, Nat.reduceEqDiff, Nat.reduceAdd, Nat.reduceSub, Nat.reduceMul, Nat.reduceLeDiff, Nat.reduceLT, Int.reduceLE, Int.reduceLT, Int.reduceToNat, Int.reduceNeg]
      first | (done) | trivial | (simp; done) | (repeat' (first | rfl | trivial | omega | (simp; done) | (simp; omega) | (congr 1; simp only [List.length_append, List.length_take, List.length_drop, List.length_replicate]; omega) | apply And.intro))

noncomputable def f_law11_awake  : Option (Bool) :=
  (f_law11_claim 0 2).bind fun v1 =>
  (f_law11_claim 1 0).bind fun v2 =>
  (f_law11_claim 2 0).bind fun v3 =>
  (f_law11_claim 3 1).bind fun v4 =>
  (f_line_Insert [v1, v2, v3] v4).bind fun v5 =>
  gd ((((decide (v5.2.2 = 0)) && (decide (v5.2.1 = 1))) && (decide ((v5.1.length : Int) = 4))) = true → 0 ≤ 2 ∧ 2 < (v5.1.length : Int)) <|
  gd (((((decide (v5.2.2 = 0)) && (decide (v5.2.1 = 1))) && (decide ((v5.1.length : Int) = 4))) && (decide ((v5.1.getD 2 Wait.zero).passed = 1))) = true → 0 ≤ 3 ∧ 3 < (v5.1.length : Int)) <|
  gd ((((((decide (v5.2.2 = 0)) && (decide (v5.2.1 = 1))) && (decide ((v5.1.length : Int) = 4))) && (decide ((v5.1.getD 2 Wait.zero).passed = 1))) && (decide ((v5.1.getD 3 Wait.zero).passed = 1))) = true → 0 ≤ 0 ∧ 0 < (v5.1.length : Int)) <|
  ((if ((((((decide (v5.2.2 = 0)) && (decide (v5.2.1 = 1))) && (decide ((v5.1.length : Int) = 4))) && (decide ((v5.1.getD 2 Wait.zero).passed = 1))) && (decide ((v5.1.getD 3 Wait.zero).passed = 1))) && (decide ((v5.1.getD 0 Wait.zero).passed = 0))) = true then f_mill_Proc 3 else some (Proc.zero))).bind fun v6 =>
  ((if ((((((decide (v5.2.2 = 0)) && (decide (v5.2.1 = 1))) && (decide ((v5.1.length : Int) = 4))) && (decide ((v5.1.getD 2 Wait.zero).passed = 1))) && (decide ((v5.1.getD 3 Wait.zero).passed = 1))) && (decide ((v5.1.getD 0 Wait.zero).passed = 0))) = true then f_line_Find v5.1 v6 else some (0))).bind fun v7 =>
  ((if (((((((decide (v5.2.2 = 0)) && (decide (v5.2.1 = 1))) && (decide ((v5.1.length : Int) = 4))) && (decide ((v5.1.getD 2 Wait.zero).passed = 1))) && (decide ((v5.1.getD 3 Wait.zero).passed = 1))) && (decide ((v5.1.getD 0 Wait.zero).passed = 0))) && (decide (v7 = 1))) = true then f_mill_Proc 2 else some (Proc.zero))).bind fun v8 =>
  ((if (((((((decide (v5.2.2 = 0)) && (decide (v5.2.1 = 1))) && (decide ((v5.1.length : Int) = 4))) && (decide ((v5.1.getD 2 Wait.zero).passed = 1))) && (decide ((v5.1.getD 3 Wait.zero).passed = 1))) && (decide ((v5.1.getD 0 Wait.zero).passed = 0))) && (decide (v7 = 1))) = true then f_line_Ahead v5.1 v8 else some ([]))).bind fun v9 =>
  some ((((((((decide (v5.2.2 = 0)) && (decide (v5.2.1 = 1))) && (decide ((v5.1.length : Int) = 4))) && (decide ((v5.1.getD 2 Wait.zero).passed = 1))) && (decide ((v5.1.getD 3 Wait.zero).passed = 1))) && (decide ((v5.1.getD 0 Wait.zero).passed = 0))) && (decide (v7 = 1))) && (decide ((v9.length : Int) = 3)))
theorem law11_awake_ok  (r : Bool) (h : f_law11_awake = some r) : PFn C 10 [] (.bool r) := by
  refine pfn_intro chk_law11_awake rfl fun E hG hN hK => ?_
  unfold pc_law11_awake
  unfold f_law11_awake at h
  refine s_seq ?_
  refine aw_reg hG ?_
  simp only [r_law11_awake_0, go_sem, ↓reduceIte, reduceCtorEq, Nat.reduceEqDiff, Nat.reduceAdd, Nat.reduceSub, Nat.reduceMul, Nat.reduceLeDiff, Nat.reduceLT, Int.reduceLE, Int.reduceLT, Int.reduceToNat, Int.reduceNeg]
  repeat refine And.intro (by first | assumption | omega | rfl | (simp; done) | (simp; omega) | (intros; simp_all; done) | grind) ?_
  refine s_seq ?_
  refine aw_reg hG ?_
  simp only [r_law11_awake_1, go_sem, ↓reduceIte, reduceCtorEq, Nat.reduceEqDiff, Nat.reduceAdd, Nat.reduceSub, Nat.reduceMul, Nat.reduceLeDiff, Nat.reduceLT, Int.reduceLE, Int.reduceLT, Int.reduceToNat, Int.reduceNeg]
  repeat refine And.intro (by first | assumption | omega | rfl | (simp; done) | (simp; omega) | (intros; simp_all; done) | grind) ?_
  obtain ⟨v1, hv1, h⟩ := bind_of h
  refine acall_of (fun hg => law11_claim_ok 0 2 _ (hv1)) ?_
  simp only [go_sem, ↓reduceIte, reduceCtorEq, Nat.reduceEqDiff, Nat.reduceAdd, Nat.reduceSub, Nat.reduceMul, Nat.reduceLeDiff, Nat.reduceLT, Int.reduceLE, Int.reduceLT, Int.reduceToNat, Int.reduceNeg]
  repeat refine And.intro (by first | assumption | omega | rfl | (simp; done) | (simp; omega) | (intros; simp_all; done) | grind) ?_
  obtain ⟨v2, hv2, h⟩ := bind_of h
  refine acall_of (fun hg => law11_claim_ok 1 0 _ (hv2)) ?_
  simp only [go_sem, ↓reduceIte, reduceCtorEq, Nat.reduceEqDiff, Nat.reduceAdd, Nat.reduceSub, Nat.reduceMul, Nat.reduceLeDiff, Nat.reduceLT, Int.reduceLE, Int.reduceLT, Int.reduceToNat, Int.reduceNeg]
  repeat refine And.intro (by first | assumption | omega | rfl | (simp; done) | (simp; omega) | (intros; simp_all; done) | grind) ?_
  obtain ⟨v3, hv3, h⟩ := bind_of h
  refine acall_of (fun hg => law11_claim_ok 2 0 _ (hv3)) ?_
  simp only [go_sem, ↓reduceIte, reduceCtorEq, Nat.reduceEqDiff, Nat.reduceAdd, Nat.reduceSub, Nat.reduceMul, Nat.reduceLeDiff, Nat.reduceLT, Int.reduceLE, Int.reduceLT, Int.reduceToNat, Int.reduceNeg]
  repeat refine And.intro (by first | assumption | omega | rfl | (simp; done) | (simp; omega) | (intros; simp_all; done) | grind) ?_
  refine s_seq ?_
  refine aw_reg hG ?_
  simp only [r_law11_awake_2, go_sem, ↓reduceIte, reduceCtorEq, Nat.reduceEqDiff, Nat.reduceAdd, Nat.reduceSub, Nat.reduceMul, Nat.reduceLeDiff, Nat.reduceLT, Int.reduceLE, Int.reduceLT, Int.reduceToNat, Int.reduceNeg]
  repeat refine And.intro (by first | assumption | omega | rfl | (simp; done) | (simp; omega) | (intros; simp_all; done) | grind) ?_
  obtain ⟨v4, hv4, h⟩ := bind_of h
  refine acall_of (fun hg => law11_claim_ok 3 1 _ (hv4)) ?_
  simp only [go_sem, ↓reduceIte, reduceCtorEq, Nat.reduceEqDiff, Nat.reduceAdd, Nat.reduceSub, Nat.reduceMul, Nat.reduceLeDiff, Nat.reduceLT, Int.reduceLE, Int.reduceLT, Int.reduceToNat, Int.reduceNeg]
  repeat refine And.intro (by first | assumption | omega | rfl | (simp; done) | (simp; omega) | (intros; simp_all; done) | grind) ?_
  obtain ⟨v5, hv5, h⟩ := bind_of h
  refine acall_of (fun hg => PFn.unfull (line_Insert_ok [v1, v2, v3] v4 _ (hv5))) ?_
  simp only [go_sem, ↓reduceIte, reduceCtorEq, Nat.reduceEqDiff, Nat.reduceAdd, Nat.reduceSub, Nat.reduceMul, Nat.reduceLeDiff, Nat.reduceLT, Int.reduceLE, Int.reduceLT, Int.reduceToNat, Int.reduceNeg]
  repeat refine And.intro (by first | assumption | omega | rfl | (simp; done) | (simp; omega) | (intros; simp_all; done) | grind) ?_
  refine s_seq ?_
  obtain ⟨hb1, h⟩ := gd_some h
  obtain ⟨hb2, h⟩ := gd_some h
  obtain ⟨hb3, h⟩ := gd_some h
  refine aw_reg hG ?_
  simp only [r_law11_awake_3, go_sem, ↓reduceIte, reduceCtorEq, Nat.reduceEqDiff, Nat.reduceAdd, Nat.reduceSub, Nat.reduceMul, Nat.reduceLeDiff, Nat.reduceLT, Int.reduceLE, Int.reduceLT, Int.reduceToNat, Int.reduceNeg, hb1, hb2, hb3]
  repeat refine And.intro (by first | assumption | omega | rfl | (simp; done) | (simp; omega) | (intros; simp_all; done) | grind) ?_
  obtain ⟨v6, hv6, h⟩ := bind_of h
  refine acall_of (fun hg => mill_Proc_ok 3 _ (ite_t hg hv6)) ?_
  simp only [go_sem, ↓reduceIte, reduceCtorEq, Nat.reduceEqDiff, Nat.reduceAdd, Nat.reduceSub, Nat.reduceMul, Nat.reduceLeDiff, Nat.reduceLT, Int.reduceLE, Int.reduceLT, Int.reduceToNat, Int.reduceNeg, hb1, hb2, hb3]
  repeat refine And.intro (by first | assumption | omega | rfl | (simp; done) | (simp; omega) | (intros; simp_all; done) | grind) ?_
  obtain ⟨v7, hv7, h⟩ := bind_of h
  refine acall_of (fun hg => line_Find_ok v5.1 v6 _ (ite_t hg hv7)) ?_
  simp only [go_sem, ↓reduceIte, reduceCtorEq, Nat.reduceEqDiff, Nat.reduceAdd, Nat.reduceSub, Nat.reduceMul, Nat.reduceLeDiff, Nat.reduceLT, Int.reduceLE, Int.reduceLT, Int.reduceToNat, Int.reduceNeg, hb1, hb2, hb3]
  repeat refine And.intro (by first | assumption | omega | rfl | (simp; done) | (simp; omega) | (intros; simp_all; done) | grind) ?_
  obtain ⟨v8, hv8, h⟩ := bind_of h
  refine acall_of (fun hg => mill_Proc_ok 2 _ (ite_t hg hv8)) ?_
  simp only [go_sem, ↓reduceIte, reduceCtorEq, Nat.reduceEqDiff, Nat.reduceAdd, Nat.reduceSub, Nat.reduceMul, Nat.reduceLeDiff, Nat.reduceLT, Int.reduceLE, Int.reduceLT, Int.reduceToNat, Int.reduceNeg, hb1, hb2, hb3]
  repeat refine And.intro (by first | assumption | omega | rfl | (simp; done) | (simp; omega) | (intros; simp_all; done) | grind) ?_
  obtain ⟨v9, hv9, h⟩ := bind_of h
  refine acall_of (fun hg => line_Ahead_ok v5.1 v8 _ (ite_t hg hv9)) ?_
  simp only [go_sem, ↓reduceIte, reduceCtorEq, Nat.reduceEqDiff, Nat.reduceAdd, Nat.reduceSub, Nat.reduceMul, Nat.reduceLeDiff, Nat.reduceLT, Int.reduceLE, Int.reduceLT, Int.reduceToNat, Int.reduceNeg, hb1, hb2, hb3]
  repeat refine And.intro (by first | assumption | omega | rfl | (simp; done) | (simp; omega) | (intros; simp_all; done) | grind) ?_
  refine aw_ret ?_
  simp only [go_sem, ↓reduceIte, reduceCtorEq, Nat.reduceEqDiff, Nat.reduceAdd, Nat.reduceSub, Nat.reduceMul, Nat.reduceLeDiff, Nat.reduceLT, Int.reduceLE, Int.reduceLT, Int.reduceToNat, Int.reduceNeg]
  obtain rfl := Option.some.inj h
  first | done | rfl | (simp; done) | (repeat' (first | rfl | trivial | omega | (simp; done) | apply And.intro))

def f_ref02_ValidProc (a0 : Proc) : Bool :=
  ((((((decide (0 ≤ a0.site)) && (decide (a0.site < 4))) && (decide (1 ≤ a0.inc))) && (decide (a0.inc ≤ 99))) && (decide (1 ≤ a0.num))) && (decide (a0.num ≤ 999)))
theorem ref02_ValidProc_ok (a0 : Proc) : PFn C 33 [.agg (Proc.enc a0)] (.bool (f_ref02_ValidProc a0)) := by
  generalize h : f_ref02_ValidProc a0 = r
  refine pfn_intro chk_ref02_ValidProc rfl fun E hG hN hK => ?_
  unfold pc_ref02_ValidProc
  unfold f_ref02_ValidProc at h
  refine s_seq ?_
  refine aw_reg hG ?_
  simp only [r_ref02_ValidProc_0, go_sem, ↓reduceIte, reduceCtorEq, Nat.reduceEqDiff, Nat.reduceAdd, Nat.reduceSub, Nat.reduceMul, Nat.reduceLeDiff, Nat.reduceLT, Int.reduceLE, Int.reduceLT, Int.reduceToNat, Int.reduceNeg]
  repeat refine And.intro (by first | assumption | omega | rfl | (simp; done) | (simp; omega) | (intros; simp_all; done) | grind) ?_
  refine s_seq ?_
  refine aw_reg hG ?_
  simp only [r_ref02_ValidProc_1, go_sem, ↓reduceIte, reduceCtorEq, Nat.reduceEqDiff, Nat.reduceAdd, Nat.reduceSub, Nat.reduceMul, Nat.reduceLeDiff, Nat.reduceLT, Int.reduceLE, Int.reduceLT, Int.reduceToNat, Int.reduceNeg]
  repeat refine And.intro (by first | assumption | omega | rfl | (simp; done) | (simp; omega) | (intros; simp_all; done) | grind) ?_
  refine aw_ret ?_
  simp only [go_sem, ↓reduceIte, reduceCtorEq, Nat.reduceEqDiff, Nat.reduceAdd, Nat.reduceSub, Nat.reduceMul, Nat.reduceLeDiff, Nat.reduceLT, Int.reduceLE, Int.reduceLT, Int.reduceToNat, Int.reduceNeg]
  subst h
  first | done | rfl | (simp; done) | (repeat' (first | rfl | trivial | omega | (simp; done) | apply And.intro))

def f_ref03_Valid (a0 : Int) : Bool :=
  ((decide (1 ≤ a0)) && (decide (a0 ≤ 5)))
theorem ref03_Valid_ok (a0 : Int) : PFn C 39 [.int .i64 a0] (.bool (f_ref03_Valid a0)) := by
  generalize h : f_ref03_Valid a0 = r
  refine pfn_intro chk_ref03_Valid rfl fun E hG hN hK => ?_
  unfold pc_ref03_Valid
  unfold f_ref03_Valid at h
  refine s_seq ?_
  refine aw_reg hG ?_
  simp only [r_ref03_Valid_0, go_sem, ↓reduceIte, reduceCtorEq, Nat.reduceEqDiff, Nat.reduceAdd, Nat.reduceSub, Nat.reduceMul, Nat.reduceLeDiff, Nat.reduceLT, Int.reduceLE, Int.reduceLT, Int.reduceToNat, Int.reduceNeg]
  repeat refine And.intro (by first | assumption | omega | rfl | (simp; done) | (simp; omega) | (intros; simp_all; done) | grind) ?_
  refine s_seq ?_
  refine aw_reg hG ?_
  simp only [r_ref03_Valid_1, go_sem, ↓reduceIte, reduceCtorEq, Nat.reduceEqDiff, Nat.reduceAdd, Nat.reduceSub, Nat.reduceMul, Nat.reduceLeDiff, Nat.reduceLT, Int.reduceLE, Int.reduceLT, Int.reduceToNat, Int.reduceNeg]
  repeat refine And.intro (by first | assumption | omega | rfl | (simp; done) | (simp; omega) | (intros; simp_all; done) | grind) ?_
  refine aw_ret ?_
  simp only [go_sem, ↓reduceIte, reduceCtorEq, Nat.reduceEqDiff, Nat.reduceAdd, Nat.reduceSub, Nat.reduceMul, Nat.reduceLeDiff, Nat.reduceLT, Int.reduceLE, Int.reduceLT, Int.reduceToNat, Int.reduceNeg]
  subst h
  first | done | rfl | (simp; done) | (repeat' (first | rfl | trivial | omega | (simp; done) | apply And.intro))

def f_ref07_Usable (a0 : Amount) : Bool :=
  (((f_ref03_Valid a0.mode) && (decide (a0.units = 0))) || (((decide (a0.mode = 0)) && (decide (1 ≤ a0.units))) && (decide (a0.units ≤ 8))))
theorem ref07_Usable_ok (a0 : Amount) : PFn C 34 [.agg (Amount.enc a0)] (.bool (f_ref07_Usable a0)) := by
  generalize h : f_ref07_Usable a0 = r
  refine pfn_intro chk_ref07_Usable rfl fun E hG hN hK => ?_
  unfold pc_ref07_Usable
  unfold f_ref07_Usable at h
  refine s_seq ?_
  refine aw_reg hG ?_
  simp only [r_ref07_Usable_0, go_sem, ↓reduceIte, reduceCtorEq, Nat.reduceEqDiff, Nat.reduceAdd, Nat.reduceSub, Nat.reduceMul, Nat.reduceLeDiff, Nat.reduceLT, Int.reduceLE, Int.reduceLT, Int.reduceToNat, Int.reduceNeg]
  repeat refine And.intro (by first | assumption | omega | rfl | (simp; done) | (simp; omega) | (intros; simp_all; done) | grind) ?_
  refine s_seq ?_
  refine aw_reg hG ?_
  simp only [r_ref07_Usable_1, go_sem, ↓reduceIte, reduceCtorEq, Nat.reduceEqDiff, Nat.reduceAdd, Nat.reduceSub, Nat.reduceMul, Nat.reduceLeDiff, Nat.reduceLT, Int.reduceLE, Int.reduceLT, Int.reduceToNat, Int.reduceNeg]
  repeat refine And.intro (by first | assumption | omega | rfl | (simp; done) | (simp; omega) | (intros; simp_all; done) | grind) ?_
  refine acall_of (fun hg => ref03_Valid_ok a0.mode) ?_
  simp only [go_sem, ↓reduceIte, reduceCtorEq, Nat.reduceEqDiff, Nat.reduceAdd, Nat.reduceSub, Nat.reduceMul, Nat.reduceLeDiff, Nat.reduceLT, Int.reduceLE, Int.reduceLT, Int.reduceToNat, Int.reduceNeg]
  repeat refine And.intro (by first | assumption | omega | rfl | (simp; done) | (simp; omega) | (intros; simp_all; done) | grind) ?_
  refine aw_ret ?_
  simp only [go_sem, ↓reduceIte, reduceCtorEq, Nat.reduceEqDiff, Nat.reduceAdd, Nat.reduceSub, Nat.reduceMul, Nat.reduceLeDiff, Nat.reduceLT, Int.reduceLE, Int.reduceLT, Int.reduceToNat, Int.reduceNeg]
  subst h
  first | done | rfl | (simp; done) | (repeat' (first | rfl | trivial | omega | (simp; done) | apply And.intro))

def f_ref11_ValidWait (a0 : Wait) : Bool :=
  ((((((f_ref02_ValidProc a0.proc) && (f_ref07_Usable a0.amount)) && (decide (0 ≤ a0.priority))) && (decide (a0.priority ≤ 7))) && (decide (0 ≤ a0.passed))) && (decide (a0.passed ≤ 3)))
theorem ref11_ValidWait_ok (a0 : Wait) : PFn C 12 [.agg (Wait.enc a0)] (.bool (f_ref11_ValidWait a0)) := by
  generalize h : f_ref11_ValidWait a0 = r
  refine pfn_intro chk_ref11_ValidWait rfl fun E hG hN hK => ?_
  unfold pc_ref11_ValidWait
  unfold f_ref11_ValidWait at h
  refine s_seq ?_
  refine aw_reg hG ?_
  simp only [r_ref11_ValidWait_0, go_sem, ↓reduceIte, reduceCtorEq, Nat.reduceEqDiff, Nat.reduceAdd, Nat.reduceSub, Nat.reduceMul, Nat.reduceLeDiff, Nat.reduceLT, Int.reduceLE, Int.reduceLT, Int.reduceToNat, Int.reduceNeg]
  repeat refine And.intro (by first | assumption | omega | rfl | (simp; done) | (simp; omega) | (intros; simp_all; done) | grind) ?_
  refine s_seq ?_
  refine aw_reg hG ?_
  simp only [r_ref11_ValidWait_1, go_sem, ↓reduceIte, reduceCtorEq, Nat.reduceEqDiff, Nat.reduceAdd, Nat.reduceSub, Nat.reduceMul, Nat.reduceLeDiff, Nat.reduceLT, Int.reduceLE, Int.reduceLT, Int.reduceToNat, Int.reduceNeg]
  repeat refine And.intro (by first | assumption | omega | rfl | (simp; done) | (simp; omega) | (intros; simp_all; done) | grind) ?_
  refine acall_of (fun hg => ref02_ValidProc_ok a0.proc) ?_
  simp only [go_sem, ↓reduceIte, reduceCtorEq, Nat.reduceEqDiff, Nat.reduceAdd, Nat.reduceSub, Nat.reduceMul, Nat.reduceLeDiff, Nat.reduceLT, Int.reduceLE, Int.reduceLT, Int.reduceToNat, Int.reduceNeg]
  repeat refine And.intro (by first | assumption | omega | rfl | (simp; done) | (simp; omega) | (intros; simp_all; done) | grind) ?_
  refine acall_of (fun hg => ref07_Usable_ok a0.amount) ?_
  simp only [go_sem, ↓reduceIte, reduceCtorEq, Nat.reduceEqDiff, Nat.reduceAdd, Nat.reduceSub, Nat.reduceMul, Nat.reduceLeDiff, Nat.reduceLT, Int.reduceLE, Int.reduceLT, Int.reduceToNat, Int.reduceNeg]
  repeat refine And.intro (by first | assumption | omega | rfl | (simp; done) | (simp; omega) | (intros; simp_all; done) | grind) ?_
  refine aw_ret ?_
  simp only [go_sem, ↓reduceIte, reduceCtorEq, Nat.reduceEqDiff, Nat.reduceAdd, Nat.reduceSub, Nat.reduceMul, Nat.reduceLeDiff, Nat.reduceLT, Int.reduceLE, Int.reduceLT, Int.reduceToNat, Int.reduceNeg]
  subst h
  first | done | rfl | (simp; done) | (repeat' (first | rfl | trivial | omega | (simp; done) | apply And.intro))

noncomputable def f_ref11_Find_k1  (j1 : Unit) : Option (Int) :=
  some (-1)
def J_ref11_Find_k1  (j1 : Unit) : St := ⟨[], [], 0⟩
noncomputable def f_ref11_Find_l1 (a0 : List Wait) (a1 : Proc) (g1 : Int) : Option ((Int) ⊕ ((Unit) ⊕ (Int))) :=
  (if (decide (g1 < (a0.length : Int))) = true then
    gd (0 ≤ g1 ∧ g1 < (a0.length : Int)) <|
    (if (decide ((a0.getD g1.toNat Wait.zero).proc = a1)) = true then
      some (.inr (.inr g1))
    else
      some (.inl (IntKind.i64.wrap (g1 + 1))))
  else
    some (.inr (.inl ())))
def I_ref11_Find_l1 (a0 : List Wait) (a1 : Proc) (g1 : Int) : St := ⟨[(0, .sl (a0.map Wait.enc)), (3, .ptr 0 0 0), (5, .int .i64 g1)], [(0, ⟨false, 3, (Proc.enc a1), [Proc.enc a1]⟩)], 1⟩
noncomputable def f_ref11_Find (a0 : List Wait) (a1 : Proc) : Option (Int) :=
  (loopO (f_ref11_Find_l1 a0 a1) 0).bind (fun | .inl z => f_ref11_Find_k1 z | .inr z => some z)
theorem ref11_Find_ok (a0 : List Wait) (a1 : Proc) (r : Int) (h : f_ref11_Find a0 a1 = some r) : PFn C 22 [.sl (a0.map Wait.enc), .agg (Proc.enc a1)] (.int .i64 r) := by
  refine pfn_intro chk_ref11_Find rfl fun E hG hN hK => ?_
  unfold pc_ref11_Find
  unfold f_ref11_Find at h
  refine s_seq ?_
  refine aw_reg hG ?_
  simp only [r_ref11_Find_0, go_sem, ↓reduceIte, reduceCtorEq, Nat.reduceEqDiff, Nat.reduceAdd, Nat.reduceSub, Nat.reduceMul, Nat.reduceLeDiff, Nat.reduceLT, Int.reduceLE, Int.reduceLT, Int.reduceToNat, Int.reduceNeg]
  repeat refine And.intro (by first | assumption | omega | rfl | (simp; done) | (simp; omega) | (intros; simp_all; done) | grind) ?_
  refine s_seq ?_
  refine s_seq ?_
  refine aw_reg hG ?_
  simp only [r_ref11_Find_1, go_sem, ↓reduceIte, reduceCtorEq, Nat.reduceEqDiff, Nat.reduceAdd, Nat.reduceSub, Nat.reduceMul, Nat.reduceLeDiff, Nat.reduceLT, Int.reduceLE, Int.reduceLT, Int.reduceToNat, Int.reduceNeg]
  repeat refine And.intro (by first | assumption | omega | rfl | (simp; done) | (simp; omega) | (intros; simp_all; done) | grind) ?_
  refine s_blockJ (J_ref11_Find_k1) (fun v => f_ref11_Find_k1 v = some r) ?_ ?_
  · intro j1 h
    unfold f_ref11_Find_k1 at h
    simp only [J_ref11_Find_k1, go_sem, ↓reduceIte, reduceCtorEq, Nat.reduceEqDiff, Nat.reduceAdd, Nat.reduceSub, Nat.reduceMul, Nat.reduceLeDiff, Nat.reduceLT, Int.reduceLE, Int.reduceLT, Int.reduceToNat, Int.reduceNeg]
    refine s_seq ?_
    refine aw_reg hG ?_
    simp only [r_ref11_Find_6, go_sem, ↓reduceIte, reduceCtorEq, Nat.reduceEqDiff, Nat.reduceAdd, Nat.reduceSub, Nat.reduceMul, Nat.reduceLeDiff, Nat.reduceLT, Int.reduceLE, Int.reduceLT, Int.reduceToNat, Int.reduceNeg]
    repeat refine And.intro (by first | assumption | omega | rfl | (simp; done) | (simp; omega) | (intros; simp_all; done) | grind) ?_
    refine aw_ret ?_
    simp only [go_sem, ↓reduceIte, reduceCtorEq, Nat.reduceEqDiff, Nat.reduceAdd, Nat.reduceSub, Nat.reduceMul, Nat.reduceLeDiff, Nat.reduceLT, Int.reduceLE, Int.reduceLT, Int.reduceToNat, Int.reduceNeg]
    obtain rfl := Option.some.inj h
    first | done | rfl | (simp; done) | (repeat' (first | rfl | trivial | omega | (simp; done) | apply And.intro))
  obtain ⟨x_l1, hl_l1, h⟩ := bind_of h
  refine s_loopO (I_ref11_Find_l1 a0 a1) hK [(0, 0)] hl_l1 ?_ ?_
  · simp only [I_ref11_Find_l1, go_sem, ↓reduceIte, reduceCtorEq, Nat.reduceEqDiff, Nat.reduceAdd, Nat.reduceSub, Nat.reduceMul, Nat.reduceLeDiff, Nat.reduceLT, Int.reduceLE, Int.reduceLT, Int.reduceToNat, Int.reduceNeg]
    first | (done) | trivial | (simp; done) | (repeat' (first | rfl | trivial | omega | (simp; done) | (simp; omega) | (congr 1; simp only [List.length_append, List.length_take, List.length_drop, List.length_replicate]; omega) | apply And.intro))
  · clear hl_l1
    intro g1 y_l1 h_l1 hx_l1
    unfold f_ref11_Find_l1 at h_l1
    simp only [I_ref11_Find_l1, go_sem, ↓reduceIte, reduceCtorEq, Nat.reduceEqDiff, Nat.reduceAdd, Nat.reduceSub, Nat.reduceMul, Nat.reduceLeDiff, Nat.reduceLT, Int.reduceLE, Int.reduceLT, Int.reduceToNat, Int.reduceNeg]
    refine s_seq ?_
    refine s_seq ?_
    refine aw_reg hG ?_
    simp only [r_ref11_Find_2, go_sem, ↓reduceIte, reduceCtorEq, Nat.reduceEqDiff, Nat.reduceAdd, Nat.reduceSub, Nat.reduceMul, Nat.reduceLeDiff, Nat.reduceLT, Int.reduceLE, Int.reduceLT, Int.reduceToNat, Int.reduceNeg]
    repeat refine And.intro (by first | assumption | omega | rfl | (simp; done) | (simp; omega) | (intros; simp_all; done) | grind) ?_
    refine aw_cond rfl hG ?_ ?_
    · intro hc1
      replace h_l1 := ite_t (by first | exact hc1 | simpa using hc1) h_l1
      refine aw_skip ?_
      simp only [go_sem, ↓reduceIte, reduceCtorEq, Nat.reduceEqDiff, Nat.reduceAdd, Nat.reduceSub, Nat.reduceMul, Nat.reduceLeDiff, Nat.reduceLT, Int.reduceLE, Int.reduceLT, Int.reduceToNat, Int.reduceNeg]
      refine s_seq ?_
      refine s_block ?_
      refine s_seq ?_
      obtain ⟨hb1, h_l1⟩ := gd_some h_l1
      refine aw_regd C_mixed hG ?_
      simp only [r_ref11_Find_4, go_sem, ↓reduceIte, reduceCtorEq, Nat.reduceEqDiff, Nat.reduceAdd, Nat.reduceSub, Nat.reduceMul, Nat.reduceLeDiff, Nat.reduceLT, Int.reduceLE, Int.reduceLT, Int.reduceToNat, Int.reduceNeg, hb1]
      repeat refine And.intro (by first | assumption | omega | rfl | (simp; done) | (simp; omega) | (intros; simp_all; done) | grind) ?_
      refine aw_cond rfl hG ?_ ?_
      · intro hc2
        replace h_l1 := ite_t (by first | exact hc2 | simpa using hc2) h_l1
        refine s_seq ?_
        refine aw_reg hG ?_
        simp only [r_ref11_Find_5, go_sem, ↓reduceIte, reduceCtorEq, Nat.reduceEqDiff, Nat.reduceAdd, Nat.reduceSub, Nat.reduceMul, Nat.reduceLeDiff, Nat.reduceLT, Int.reduceLE, Int.reduceLT, Int.reduceToNat, Int.reduceNeg]
        repeat refine And.intro (by first | assumption | omega | rfl | (simp; done) | (simp; omega) | (intros; simp_all; done) | grind) ?_
        refine aw_ret ?_
        simp only [go_sem, ↓reduceIte, reduceCtorEq, Nat.reduceEqDiff, Nat.reduceAdd, Nat.reduceSub, Nat.reduceMul, Nat.reduceLeDiff, Nat.reduceLT, Int.reduceLE, Int.reduceLT, Int.reduceToNat, Int.reduceNeg]
        obtain rfl := Option.some.inj h_l1
        have hx := hx_l1 _ rfl
        subst hx
        try dsimp only at h
        obtain rfl := Option.some.inj h
        first | done | rfl | (simp; done) | (repeat' (first | rfl | trivial | omega | (simp; done) | apply And.intro))
      · intro hc2
        replace h_l1 := ite_f (by first | exact hc2 | simpa using hc2) h_l1
        refine aw_skip ?_
        simp only [go_sem, ↓reduceIte, reduceCtorEq, Nat.reduceEqDiff, Nat.reduceAdd, Nat.reduceSub, Nat.reduceMul, Nat.reduceLeDiff, Nat.reduceLT, Int.reduceLE, Int.reduceLT, Int.reduceToNat, Int.reduceNeg]
        refine aw_reg hG ?_
        simp only [r_ref11_Find_3, go_sem, ↓reduceIte, reduceCtorEq, Nat.reduceEqDiff, Nat.reduceAdd, Nat.reduceSub, Nat.reduceMul, Nat.reduceLeDiff, Nat.reduceLT, Int.reduceLE, Int.reduceLT, Int.reduceToNat, Int.reduceNeg]
        repeat refine And.intro (by first | assumption | omega | rfl | (simp; done) | (simp; omega) | (intros; simp_all; done) | grind) ?_
        obtain rfl := Option.some.inj h_l1
        refine loopN_of hK [(0, 0)] ?_
        simp only [I_ref11_Find_l1, go_sem, ↓reduceIte, reduceCtorEq, Nat.reduceEqDiff, Nat.reduceAdd, Nat.reduceSub, Nat.reduceMul, Nat.reduceLeDiff, Nat.reduceLT, Int.reduceLE, Int.reduceLT, Int.reduceToNat, Int.reduceNeg]
        first | (done) | trivial | (simp; done) | (repeat' (first | rfl | trivial | omega | (simp; done) | (simp; omega) | (congr 1; simp only [List.length_append, List.length_take, List.length_drop, List.length_replicate]; omega) | apply And.intro))
    · intro hc1
      replace h_l1 := ite_f (by first | exact hc1 | simpa using hc1) h_l1
      refine aw_exit ?_
      simp only [go_sem, ↓reduceIte, reduceCtorEq, Nat.reduceEqDiff, Nat.reduceAdd, Nat.reduceSub, Nat.reduceMul, Nat.reduceLeDiff, Nat.reduceLT, Int.reduceLE, Int.reduceLT, Int.reduceToNat, Int.reduceNeg]
      obtain rfl := Option.some.inj h_l1
      have hx := hx_l1 _ rfl
      subst hx
      try dsimp only at h
      refine joinG_of hK () (by exact h) [] ?_
      simp only [J_ref11_Find_k1, go_sem, ↓reduceIte, reduceCtorEq, Nat.reduceEqDiff, Nat.reduceAdd, Nat.reduceSub, Nat.reduceMul, Nat.reduceLeDiff, Nat.reduceLT, Int.reduceLE, Int.reduceLT, Int.reduceToNat, Int.reduceNeg]
      first | (done) | trivial | (simp; done) | (repeat' (first | rfl | trivial | omega | (simp; done) | (simp; omega) | (congr 1; simp only [List.length_append, List.length_take, List.length_drop, List.length_replicate]; omega) | apply And.intro))

noncomputable def f_ref11_Valid_k1  (j1 : Unit) : Option (Bool) :=
  some true
def J_ref11_Valid_k1  (j1 : Unit) : St := ⟨[], [], 0⟩
noncomputable def f_ref11_Valid_l1 (a0 : List Wait) (g1 : Int) : Option ((Int) ⊕ ((Unit) ⊕ (Bool))) :=
  (if (decide (g1 < (a0.length : Int))) = true then
    gd (0 ≤ g1 ∧ g1 < (a0.length : Int)) <|
    gd ((f_ref11_ValidWait (a0.getD g1.toNat Wait.zero)) = true → 0 ≤ g1 ∧ g1 < (a0.length : Int)) <|
    ((if (f_ref11_ValidWait (a0.getD g1.toNat Wait.zero)) = true then f_ref11_Find a0 ((a0.getD g1.toNat Wait.zero).proc) else some (0))).bind fun v1 =>
    (if ((!(f_ref11_ValidWait (a0.getD g1.toNat Wait.zero))) || (!decide (v1 = g1))) = true then
      some (.inr (.inr false))
    else
      some (.inl (IntKind.i64.wrap (g1 + 1))))
  else
    some (.inr (.inl ())))
def I_ref11_Valid_l1 (a0 : List Wait) (g1 : Int) : St := ⟨[(0, .sl (a0.map Wait.enc)), (3, .int .i64 g1)], [], 0⟩
noncomputable def f_ref11_Valid (a0 : List Wait) : Option (Bool) :=
  (if (decide (8 < (a0.length : Int))) = true then
    some false
  else
    (loopO (f_ref11_Valid_l1 a0) 0).bind (fun | .inl z => f_ref11_Valid_k1 z | .inr z => some z))
theorem ref11_Valid_ok (a0 : List Wait) (r : Bool) (h : f_ref11_Valid a0 = some r) : PFn C 14 [.sl (a0.map Wait.enc)] (.bool r) := by
  refine pfn_intro chk_ref11_Valid rfl fun E hG hN hK => ?_
  unfold pc_ref11_Valid
  unfold f_ref11_Valid at h
  refine s_seq ?_
  refine aw_reg hG ?_
  simp only [r_ref11_Valid_0, go_sem, ↓reduceIte, reduceCtorEq, Nat.reduceEqDiff, Nat.reduceAdd, Nat.reduceSub, Nat.reduceMul, Nat.reduceLeDiff, Nat.reduceLT, Int.reduceLE, Int.reduceLT, Int.reduceToNat, Int.reduceNeg]
  repeat refine And.intro (by first | assumption | omega | rfl | (simp; done) | (simp; omega) | (intros; simp_all; done) | grind) ?_
  refine s_seq ?_
  refine s_seq ?_
  refine aw_reg hG ?_
  simp only [r_ref11_Valid_1, go_sem, ↓reduceIte, reduceCtorEq, Nat.reduceEqDiff, Nat.reduceAdd, Nat.reduceSub, Nat.reduceMul, Nat.reduceLeDiff, Nat.reduceLT, Int.reduceLE, Int.reduceLT, Int.reduceToNat, Int.reduceNeg]
  repeat refine And.intro (by first | assumption | omega | rfl | (simp; done) | (simp; omega) | (intros; simp_all; done) | grind) ?_
  refine aw_cond rfl hG ?_ ?_
  · intro hc1
    replace h := ite_t (by first | exact hc1 | simpa using hc1) h
    refine s_seq ?_
    refine aw_reg hG ?_
    simp only [r_ref11_Valid_2, go_sem, ↓reduceIte, reduceCtorEq, Nat.reduceEqDiff, Nat.reduceAdd, Nat.reduceSub, Nat.reduceMul, Nat.reduceLeDiff, Nat.reduceLT, Int.reduceLE, Int.reduceLT, Int.reduceToNat, Int.reduceNeg]
    repeat refine And.intro (by first | assumption | omega | rfl | (simp; done) | (simp; omega) | (intros; simp_all; done) | grind) ?_
    refine aw_ret ?_
    simp only [go_sem, ↓reduceIte, reduceCtorEq, Nat.reduceEqDiff, Nat.reduceAdd, Nat.reduceSub, Nat.reduceMul, Nat.reduceLeDiff, Nat.reduceLT, Int.reduceLE, Int.reduceLT, Int.reduceToNat, Int.reduceNeg]
    obtain rfl := Option.some.inj h
    first | done | rfl | (simp; done) | (repeat' (first | rfl | trivial | omega | (simp; done) | apply And.intro))
  · intro hc1
    replace h := ite_f (by first | exact hc1 | simpa using hc1) h
    refine aw_skip ?_
    simp only [go_sem, ↓reduceIte, reduceCtorEq, Nat.reduceEqDiff, Nat.reduceAdd, Nat.reduceSub, Nat.reduceMul, Nat.reduceLeDiff, Nat.reduceLT, Int.reduceLE, Int.reduceLT, Int.reduceToNat, Int.reduceNeg]
    refine s_seq ?_
    refine s_seq ?_
    refine aw_reg hG ?_
    simp only [r_ref11_Valid_3, go_sem, ↓reduceIte, reduceCtorEq, Nat.reduceEqDiff, Nat.reduceAdd, Nat.reduceSub, Nat.reduceMul, Nat.reduceLeDiff, Nat.reduceLT, Int.reduceLE, Int.reduceLT, Int.reduceToNat, Int.reduceNeg]
    repeat refine And.intro (by first | assumption | omega | rfl | (simp; done) | (simp; omega) | (intros; simp_all; done) | grind) ?_
    refine s_blockJ (J_ref11_Valid_k1) (fun v => f_ref11_Valid_k1 v = some r) ?_ ?_
    · intro j1 h
      unfold f_ref11_Valid_k1 at h
      simp only [J_ref11_Valid_k1, go_sem, ↓reduceIte, reduceCtorEq, Nat.reduceEqDiff, Nat.reduceAdd, Nat.reduceSub, Nat.reduceMul, Nat.reduceLeDiff, Nat.reduceLT, Int.reduceLE, Int.reduceLT, Int.reduceToNat, Int.reduceNeg]
      refine s_seq ?_
      refine aw_reg hG ?_
      simp only [r_ref11_Valid_8, go_sem, ↓reduceIte, reduceCtorEq, Nat.reduceEqDiff, Nat.reduceAdd, Nat.reduceSub, Nat.reduceMul, Nat.reduceLeDiff, Nat.reduceLT, Int.reduceLE, Int.reduceLT, Int.reduceToNat, Int.reduceNeg]
      repeat refine And.intro (by first | assumption | omega | rfl | (simp; done) | (simp; omega) | (intros; simp_all; done) | grind) ?_
      refine aw_ret ?_
      simp only [go_sem, ↓reduceIte, reduceCtorEq, Nat.reduceEqDiff, Nat.reduceAdd, Nat.reduceSub, Nat.reduceMul, Nat.reduceLeDiff, Nat.reduceLT, Int.reduceLE, Int.reduceLT, Int.reduceToNat, Int.reduceNeg]
      obtain rfl := Option.some.inj h
      first | done | rfl | (simp; done) | (repeat' (first | rfl | trivial | omega | (simp; done) | apply And.intro))
    obtain ⟨x_l1, hl_l1, h⟩ := bind_of h
    refine s_loopO (I_ref11_Valid_l1 a0) hK [] hl_l1 ?_ ?_
    · simp only [I_ref11_Valid_l1, go_sem, ↓reduceIte, reduceCtorEq, Nat.reduceEqDiff, Nat.reduceAdd, Nat.reduceSub, Nat.reduceMul, Nat.reduceLeDiff, Nat.reduceLT, Int.reduceLE, Int.reduceLT, Int.reduceToNat, Int.reduceNeg]
      first | (done) | trivial | (simp; done) | (repeat' (first | rfl | trivial | omega | (simp; done) | (simp; omega) | (congr 1; simp only [List.length_append, List.length_take, List.length_drop, List.length_replicate]; omega) | apply And.intro))
    · clear hl_l1
      intro g1 y_l1 h_l1 hx_l1
      unfold f_ref11_Valid_l1 at h_l1
      simp only [I_ref11_Valid_l1, go_sem, ↓reduceIte, reduceCtorEq, Nat.reduceEqDiff, Nat.reduceAdd, Nat.reduceSub, Nat.reduceMul, Nat.reduceLeDiff, Nat.reduceLT, Int.reduceLE, Int.reduceLT, Int.reduceToNat, Int.reduceNeg]
      refine s_seq ?_
      refine s_seq ?_
      refine aw_reg hG ?_
      simp only [r_ref11_Valid_4, go_sem, ↓reduceIte, reduceCtorEq, Nat.reduceEqDiff, Nat.reduceAdd, Nat.reduceSub, Nat.reduceMul, Nat.reduceLeDiff, Nat.reduceLT, Int.reduceLE, Int.reduceLT, Int.reduceToNat, Int.reduceNeg]
      repeat refine And.intro (by first | assumption | omega | rfl | (simp; done) | (simp; omega) | (intros; simp_all; done) | grind) ?_
      refine aw_cond rfl hG ?_ ?_
      · intro hc2
        replace h_l1 := ite_t (by first | exact hc2 | simpa using hc2) h_l1
        refine aw_skip ?_
        simp only [go_sem, ↓reduceIte, reduceCtorEq, Nat.reduceEqDiff, Nat.reduceAdd, Nat.reduceSub, Nat.reduceMul, Nat.reduceLeDiff, Nat.reduceLT, Int.reduceLE, Int.reduceLT, Int.reduceToNat, Int.reduceNeg]
        refine s_seq ?_
        refine s_block ?_
        refine s_seq ?_
        obtain ⟨hb1, h_l1⟩ := gd_some h_l1
        refine aw_reg hG ?_
        simp only [r_ref11_Valid_6, go_sem, ↓reduceIte, reduceCtorEq, Nat.reduceEqDiff, Nat.reduceAdd, Nat.reduceSub, Nat.reduceMul, Nat.reduceLeDiff, Nat.reduceLT, Int.reduceLE, Int.reduceLT, Int.reduceToNat, Int.reduceNeg, hb1]
        repeat refine And.intro (by first | assumption | omega | rfl | (simp; done) | (simp; omega) | (intros; simp_all; done) | grind) ?_
        refine acall_of (fun hg => ref11_ValidWait_ok (a0.getD g1.toNat Wait.zero)) ?_
        obtain ⟨hb2, h_l1⟩ := gd_some h_l1
        simp only [go_sem, ↓reduceIte, reduceCtorEq, Nat.reduceEqDiff, Nat.reduceAdd, Nat.reduceSub, Nat.reduceMul, Nat.reduceLeDiff, Nat.reduceLT, Int.reduceLE, Int.reduceLT, Int.reduceToNat, Int.reduceNeg, hb1, hb2]
        repeat refine And.intro (by first | assumption | omega | rfl | (simp; done) | (simp; omega) | (intros; simp_all; done) | grind) ?_
        obtain ⟨v1, hv1, h_l1⟩ := bind_of h_l1
        refine acall_of (fun hg => ref11_Find_ok a0 ((a0.getD g1.toNat Wait.zero).proc) _ (ite_t hg hv1)) ?_
        simp only [go_sem, ↓reduceIte, reduceCtorEq, Nat.reduceEqDiff, Nat.reduceAdd, Nat.reduceSub, Nat.reduceMul, Nat.reduceLeDiff, Nat.reduceLT, Int.reduceLE, Int.reduceLT, Int.reduceToNat, Int.reduceNeg, hb1, hb2]
        repeat refine And.intro (by first | assumption | omega | rfl | (simp; done) | (simp; omega) | (intros; simp_all; done) | grind) ?_
        refine aw_cond rfl hG ?_ ?_
        · intro hc3
          replace h_l1 := ite_t (by first | exact hc3 | simpa using hc3) h_l1
          refine s_seq ?_
          refine aw_reg hG ?_
          simp only [r_ref11_Valid_7, go_sem, ↓reduceIte, reduceCtorEq, Nat.reduceEqDiff, Nat.reduceAdd, Nat.reduceSub, Nat.reduceMul, Nat.reduceLeDiff, Nat.reduceLT, Int.reduceLE, Int.reduceLT, Int.reduceToNat, Int.reduceNeg]
          repeat refine And.intro (by first | assumption | omega | rfl | (simp; done) | (simp; omega) | (intros; simp_all; done) | grind) ?_
          refine aw_ret ?_
          simp only [go_sem, ↓reduceIte, reduceCtorEq, Nat.reduceEqDiff, Nat.reduceAdd, Nat.reduceSub, Nat.reduceMul, Nat.reduceLeDiff, Nat.reduceLT, Int.reduceLE, Int.reduceLT, Int.reduceToNat, Int.reduceNeg]
          obtain rfl := Option.some.inj h_l1
          have hx := hx_l1 _ rfl
          subst hx
          try dsimp only at h
          obtain rfl := Option.some.inj h
          first | done | rfl | (simp; done) | (repeat' (first | rfl | trivial | omega | (simp; done) | apply And.intro))
        · intro hc3
          replace h_l1 := ite_f (by first | exact hc3 | simpa using hc3) h_l1
          refine aw_skip ?_
          simp only [go_sem, ↓reduceIte, reduceCtorEq, Nat.reduceEqDiff, Nat.reduceAdd, Nat.reduceSub, Nat.reduceMul, Nat.reduceLeDiff, Nat.reduceLT, Int.reduceLE, Int.reduceLT, Int.reduceToNat, Int.reduceNeg]
          refine aw_reg hG ?_
          simp only [r_ref11_Valid_5, go_sem, ↓reduceIte, reduceCtorEq, Nat.reduceEqDiff, Nat.reduceAdd, Nat.reduceSub, Nat.reduceMul, Nat.reduceLeDiff, Nat.reduceLT, Int.reduceLE, Int.reduceLT, Int.reduceToNat, Int.reduceNeg]
          repeat refine And.intro (by first | assumption | omega | rfl | (simp; done) | (simp; omega) | (intros; simp_all; done) | grind) ?_
          obtain rfl := Option.some.inj h_l1
          refine loopN_of hK [] ?_
          simp only [I_ref11_Valid_l1, go_sem, ↓reduceIte, reduceCtorEq, Nat.reduceEqDiff, Nat.reduceAdd, Nat.reduceSub, Nat.reduceMul, Nat.reduceLeDiff, Nat.reduceLT, Int.reduceLE, Int.reduceLT, Int.reduceToNat, Int.reduceNeg]
          first | (done) | trivial | (simp; done) | (repeat' (first | rfl | trivial | omega | (simp; done) | (simp; omega) | (congr 1; simp only [List.length_append, List.length_take, List.length_drop, List.length_replicate]; omega) | apply And.intro))
      · intro hc2
        replace h_l1 := ite_f (by first | exact hc2 | simpa using hc2) h_l1
        refine aw_exit ?_
        simp only [go_sem, ↓reduceIte, reduceCtorEq, Nat.reduceEqDiff, Nat.reduceAdd, Nat.reduceSub, Nat.reduceMul, Nat.reduceLeDiff, Nat.reduceLT, Int.reduceLE, Int.reduceLT, Int.reduceToNat, Int.reduceNeg]
        obtain rfl := Option.some.inj h_l1
        have hx := hx_l1 _ rfl
        subst hx
        try dsimp only at h
        refine joinG_of hK () (by exact h) [] ?_
        simp only [J_ref11_Valid_k1, go_sem, ↓reduceIte, reduceCtorEq, Nat.reduceEqDiff, Nat.reduceAdd, Nat.reduceSub, Nat.reduceMul, Nat.reduceLeDiff, Nat.reduceLT, Int.reduceLE, Int.reduceLT, Int.reduceToNat, Int.reduceNeg]
        first | (done) | trivial | (simp; done) | (repeat' (first | rfl | trivial | omega | (simp; done) | (simp; omega) | (congr 1; simp only [List.length_append, List.length_take, List.length_drop, List.length_replicate]; omega) | apply And.intro))

noncomputable def f_law11_LineValid (a0 : List Wait) (a1 : Wait) : Option (Bool) :=
  (if (decide (100 < (a0.length : Int))) = true then
    (f_law11_awake).bind fun v1 =>
    some v1
  else
    (f_law11_awake).bind fun v2 =>
    ((if (v2 && (decide ((f_line_ValidWait a1) = (f_ref11_ValidWait a1)))) = true then f_line_Valid a0 else some (false))).bind fun v3 =>
    ((if (v2 && (decide ((f_line_ValidWait a1) = (f_ref11_ValidWait a1)))) = true then f_ref11_Valid a0 else some (false))).bind fun v4 =>
    some ((v2 && (decide ((f_line_ValidWait a1) = (f_ref11_ValidWait a1)))) && (decide (v3 = v4))))
theorem law11_LineValid_ok (a0 : List Wait) (a1 : Wait) (r : Bool) (h : f_law11_LineValid a0 a1 = some r) : PFn C 3 [.sl (a0.map Wait.enc), .agg (Wait.enc a1)] (.bool r) := by
  refine pfn_intro chk_law11_LineValid rfl fun E hG hN hK => ?_
  unfold pc_law11_LineValid
  unfold f_law11_LineValid at h
  refine s_seq ?_
  refine aw_reg hG ?_
  simp only [r_law11_LineValid_0, go_sem, ↓reduceIte, reduceCtorEq, Nat.reduceEqDiff, Nat.reduceAdd, Nat.reduceSub, Nat.reduceMul, Nat.reduceLeDiff, Nat.reduceLT, Int.reduceLE, Int.reduceLT, Int.reduceToNat, Int.reduceNeg]
  repeat refine And.intro (by first | assumption | omega | rfl | (simp; done) | (simp; omega) | (intros; simp_all; done) | grind) ?_
  refine s_seq ?_
  refine s_seq ?_
  refine aw_reg hG ?_
  simp only [r_law11_LineValid_1, go_sem, ↓reduceIte, reduceCtorEq, Nat.reduceEqDiff, Nat.reduceAdd, Nat.reduceSub, Nat.reduceMul, Nat.reduceLeDiff, Nat.reduceLT, Int.reduceLE, Int.reduceLT, Int.reduceToNat, Int.reduceNeg]
  repeat refine And.intro (by first | assumption | omega | rfl | (simp; done) | (simp; omega) | (intros; simp_all; done) | grind) ?_
  refine aw_cond rfl hG ?_ ?_
  · intro hc1
    replace h := ite_t (by first | exact hc1 | simpa using hc1) h
    refine s_seq ?_
    refine aw_reg hG ?_
    simp only [r_law11_LineValid_2, go_sem, ↓reduceIte, reduceCtorEq, Nat.reduceEqDiff, Nat.reduceAdd, Nat.reduceSub, Nat.reduceMul, Nat.reduceLeDiff, Nat.reduceLT, Int.reduceLE, Int.reduceLT, Int.reduceToNat, Int.reduceNeg]
    repeat refine And.intro (by first | assumption | omega | rfl | (simp; done) | (simp; omega) | (intros; simp_all; done) | grind) ?_
    obtain ⟨v1, hv1, h⟩ := bind_of h
    refine acall_of (fun hg => law11_awake_ok  _ (hv1)) ?_
    simp only [go_sem, ↓reduceIte, reduceCtorEq, Nat.reduceEqDiff, Nat.reduceAdd, Nat.reduceSub, Nat.reduceMul, Nat.reduceLeDiff, Nat.reduceLT, Int.reduceLE, Int.reduceLT, Int.reduceToNat, Int.reduceNeg]
    repeat refine And.intro (by first | assumption | omega | rfl | (simp; done) | (simp; omega) | (intros; simp_all; done) | grind) ?_
    refine aw_ret ?_
    simp only [go_sem, ↓reduceIte, reduceCtorEq, Nat.reduceEqDiff, Nat.reduceAdd, Nat.reduceSub, Nat.reduceMul, Nat.reduceLeDiff, Nat.reduceLT, Int.reduceLE, Int.reduceLT, Int.reduceToNat, Int.reduceNeg]
    obtain rfl := Option.some.inj h
    first | done | rfl | (simp; done) | (repeat' (first | rfl | trivial | omega | (simp; done) | apply And.intro))
  · intro hc1
    replace h := ite_f (by first | exact hc1 | simpa using hc1) h
    refine aw_skip ?_
    simp only [go_sem, ↓reduceIte, reduceCtorEq, Nat.reduceEqDiff, Nat.reduceAdd, Nat.reduceSub, Nat.reduceMul, Nat.reduceLeDiff, Nat.reduceLT, Int.reduceLE, Int.reduceLT, Int.reduceToNat, Int.reduceNeg]
    refine s_seq ?_
    refine aw_regd C_mixed hG ?_
    simp only [r_law11_LineValid_3, go_sem, ↓reduceIte, reduceCtorEq, Nat.reduceEqDiff, Nat.reduceAdd, Nat.reduceSub, Nat.reduceMul, Nat.reduceLeDiff, Nat.reduceLT, Int.reduceLE, Int.reduceLT, Int.reduceToNat, Int.reduceNeg]
    repeat refine And.intro (by first | assumption | omega | rfl | (simp; done) | (simp; omega) | (intros; simp_all; done) | grind) ?_
    obtain ⟨v2, hv2, h⟩ := bind_of h
    refine acalld_of (fun hg => law11_awake_ok  _ (hv2)) ?_
    simp only [go_sem, ↓reduceIte, reduceCtorEq, Nat.reduceEqDiff, Nat.reduceAdd, Nat.reduceSub, Nat.reduceMul, Nat.reduceLeDiff, Nat.reduceLT, Int.reduceLE, Int.reduceLT, Int.reduceToNat, Int.reduceNeg]
    repeat refine And.intro (by first | assumption | omega | rfl | (simp; done) | (simp; omega) | (intros; simp_all; done) | grind) ?_
    refine acalld_of (fun hg => line_ValidWait_ok a1) ?_
    simp only [go_sem, ↓reduceIte, reduceCtorEq, Nat.reduceEqDiff, Nat.reduceAdd, Nat.reduceSub, Nat.reduceMul, Nat.reduceLeDiff, Nat.reduceLT, Int.reduceLE, Int.reduceLT, Int.reduceToNat, Int.reduceNeg]
    repeat refine And.intro (by first | assumption | omega | rfl | (simp; done) | (simp; omega) | (intros; simp_all; done) | grind) ?_
    refine acalld_of (fun hg => ref11_ValidWait_ok a1) ?_
    simp only [go_sem, ↓reduceIte, reduceCtorEq, Nat.reduceEqDiff, Nat.reduceAdd, Nat.reduceSub, Nat.reduceMul, Nat.reduceLeDiff, Nat.reduceLT, Int.reduceLE, Int.reduceLT, Int.reduceToNat, Int.reduceNeg]
    repeat refine And.intro (by first | assumption | omega | rfl | (simp; done) | (simp; omega) | (intros; simp_all; done) | grind) ?_
    obtain ⟨v3, hv3, h⟩ := bind_of h
    refine acalld_of (fun hg => line_Valid_ok a0 _ (ite_t hg hv3)) ?_
    simp only [go_sem, ↓reduceIte, reduceCtorEq, Nat.reduceEqDiff, Nat.reduceAdd, Nat.reduceSub, Nat.reduceMul, Nat.reduceLeDiff, Nat.reduceLT, Int.reduceLE, Int.reduceLT, Int.reduceToNat, Int.reduceNeg]
    repeat refine And.intro (by first | assumption | omega | rfl | (simp; done) | (simp; omega) | (intros; simp_all; done) | grind) ?_
    obtain ⟨v4, hv4, h⟩ := bind_of h
    refine acalld_of (fun hg => ref11_Valid_ok a0 _ (ite_t hg hv4)) ?_
    simp only [go_sem, ↓reduceIte, reduceCtorEq, Nat.reduceEqDiff, Nat.reduceAdd, Nat.reduceSub, Nat.reduceMul, Nat.reduceLeDiff, Nat.reduceLT, Int.reduceLE, Int.reduceLT, Int.reduceToNat, Int.reduceNeg]
    repeat refine And.intro (by first | assumption | omega | rfl | (simp; done) | (simp; omega) | (intros; simp_all; done) | grind) ?_
    refine aw_ret ?_
    simp only [go_sem, ↓reduceIte, reduceCtorEq, Nat.reduceEqDiff, Nat.reduceAdd, Nat.reduceSub, Nat.reduceMul, Nat.reduceLeDiff, Nat.reduceLT, Int.reduceLE, Int.reduceLT, Int.reduceToNat, Int.reduceNeg]
    obtain rfl := Option.some.inj h
    first | done | rfl | (simp; done) | (repeat' (first | rfl | trivial | omega | (simp; done) | apply And.intro))

noncomputable def f_ref11_Insert_k2 (j1 : Int) (j2 : (List Wait)) : Option ((List Wait) × Int × Int) :=
  some (j2, j1, 0)
def J_ref11_Insert_k2 (j1 : Int) (j2 : (List Wait)) : St := ⟨[(7, .int .i64 j1), (8, .own 0 0 j2.length)], [(0, ⟨false, 7, (Wait.enc Wait.zero), j2.map Wait.enc⟩)], 1⟩
noncomputable def f_ref11_Insert_l1 (a0 : List Wait) (g1 : Int × (List Wait)) : Option ((Int × (List Wait)) ⊕ (((List Wait)))) :=
  (if (decide (g1.1 < (a0.length : Int))) = true then
    gd (0 ≤ g1.1 ∧ g1.1 < (a0.length : Int)) <|
    gd (g1.2.length + 1 ≤ 4294967296) <|
    some (.inl ((IntKind.i64.wrap (g1.1 + 1)), (g1.2 ++ [{ (a0.getD g1.1.toNat Wait.zero) with passed := (IntKind.i64.wrap ((a0.getD g1.1.toNat Wait.zero).passed + 1)) }])))
  else
    some (.inr g1.2))
def I_ref11_Insert_l1 (a0 : List Wait) (j1 : Int) (g1 : Int × (List Wait)) : St := ⟨[(0, .sl (a0.map Wait.enc)), (7, .int .i64 j1), (8, .own 0 0 g1.2.length), (9, .int .i64 g1.1)], [(0, ⟨false, 7, (Wait.enc Wait.zero), g1.2.map Wait.enc⟩)], 1⟩
noncomputable def f_ref11_Insert_k1 (a0 : List Wait) (a1 : Wait) (j1 : Int) : Option ((List Wait) × Int × Int) :=
  gd (0 ≤ 0 ∧ 0 ≤ j1 ∧ j1 ≤ (a0.length : Int)) <|
  gd ((a0.take j1.toNat).length ≤ 4294967296) <|
  gd ((a0.take j1.toNat).length + 1 ≤ 4294967296) <|
  (loopO (f_ref11_Insert_l1 a0) (j1, ((a0.take j1.toNat) ++ [a1]))).bind (fun z => f_ref11_Insert_k2 j1 z)
def J_ref11_Insert_k1 (a0 : List Wait) (a1 : Wait) (j1 : Int) : St := ⟨[(0, .sl (a0.map Wait.enc)), (3, .ptr 0 0 0), (7, .int .i64 j1)], [(0, ⟨false, 7, (Wait.enc a1), [Wait.enc a1]⟩)], 1⟩
noncomputable def f_ref11_Insert_l2 (a0 : List Wait) (a1 : Wait) (g2 : Int) : Option ((Int) ⊕ ((Int))) :=
  gd ((decide (0 < g2)) = true → 0 ≤ (IntKind.i64.wrap (g2 - 1)) ∧ (IntKind.i64.wrap (g2 - 1)) < (a0.length : Int)) <|
  gd (((decide (0 < g2)) && (decide ((a0.getD ((IntKind.i64.wrap (g2 - 1)).toNat) Wait.zero).priority < a1.priority))) = true → 0 ≤ (IntKind.i64.wrap (g2 - 1)) ∧ (IntKind.i64.wrap (g2 - 1)) < (a0.length : Int)) <|
  (if (((decide (0 < g2)) && (decide ((a0.getD ((IntKind.i64.wrap (g2 - 1)).toNat) Wait.zero).priority < a1.priority))) && (decide ((a0.getD ((IntKind.i64.wrap (g2 - 1)).toNat) Wait.zero).passed < 3))) = true then
    some (.inl (IntKind.i64.wrap (g2 - 1)))
  else
    some (.inr g2))
def I_ref11_Insert_l2 (a0 : List Wait) (a1 : Wait) (g2 : Int) : St := ⟨[(0, .sl (a0.map Wait.enc)), (3, .ptr 0 0 0), (7, .int .i64 g2)], [(0, ⟨false, 7, (Wait.enc a1), [Wait.enc a1]⟩)], 1⟩
noncomputable def f_ref11_Insert (a0 : List Wait) (a1 : Wait) : Option ((List Wait) × Int × Int) :=
  (f_ref11_Valid a0).bind fun v1 =>
  (if (!v1) = true then
    some ([], 0, 2)
  else
    (if ((!(f_ref11_ValidWait a1)) || (!decide (a1.passed = 0))) = true then
      some ([], 0, 1)
    else
      (f_ref11_Find a0 a1.proc).bind fun v2 =>
      (if (decide (0 ≤ v2)) = true then
        some ([], 0, 11)
      else
        (if (decide ((a0.length : Int) = 8)) = true then
          some ([], 0, 4)
        else
          (loopO (f_ref11_Insert_l2 a0 a1) (a0.length : Int)).bind (fun z => f_ref11_Insert_k1 a0 a1 z)))))
theorem ref11_Insert_ok (a0 : List Wait) (a1 : Wait) (r : (List Wait) × Int × Int) (h : f_ref11_Insert a0 a1 = some r) : PFn C 16 [.sl (a0.map Wait.enc), .agg (Wait.enc a1)] (.tup [.sl (r.1.map Wait.enc), .int .i64 r.2.1, .int .i64 r.2.2]) := by
  refine pfn_intro chk_ref11_Insert rfl fun E hG hN hK => ?_
  unfold pc_ref11_Insert
  unfold f_ref11_Insert at h
  refine s_seq ?_
  refine aw_reg hG ?_
  simp only [r_ref11_Insert_0, go_sem, ↓reduceIte, reduceCtorEq, Nat.reduceEqDiff, Nat.reduceAdd, Nat.reduceSub, Nat.reduceMul, Nat.reduceLeDiff, Nat.reduceLT, Int.reduceLE, Int.reduceLT, Int.reduceToNat, Int.reduceNeg]
  repeat refine And.intro (by first | assumption | omega | rfl | (simp; done) | (simp; omega) | (intros; simp_all; done) | grind) ?_
  refine s_seq ?_
  refine s_seq ?_
  refine aw_reg hG ?_
  simp only [r_ref11_Insert_1, go_sem, ↓reduceIte, reduceCtorEq, Nat.reduceEqDiff, Nat.reduceAdd, Nat.reduceSub, Nat.reduceMul, Nat.reduceLeDiff, Nat.reduceLT, Int.reduceLE, Int.reduceLT, Int.reduceToNat, Int.reduceNeg]
  repeat refine And.intro (by first | assumption | omega | rfl | (simp; done) | (simp; omega) | (intros; simp_all; done) | grind) ?_
  obtain ⟨v1, hv1, h⟩ := bind_of h
  refine acall_of (fun hg => ref11_Valid_ok a0 _ (hv1)) ?_
  simp only [go_sem, ↓reduceIte, reduceCtorEq, Nat.reduceEqDiff, Nat.reduceAdd, Nat.reduceSub, Nat.reduceMul, Nat.reduceLeDiff, Nat.reduceLT, Int.reduceLE, Int.reduceLT, Int.reduceToNat, Int.reduceNeg]
  repeat refine And.intro (by first | assumption | omega | rfl | (simp; done) | (simp; omega) | (intros; simp_all; done) | grind) ?_
  refine aw_cond rfl hG ?_ ?_
  · intro hc1
    replace h := ite_t (by first | exact hc1 | simpa using hc1) h
    refine s_seq ?_
    refine aw_reg hG ?_
    simp only [r_ref11_Insert_2, go_sem, ↓reduceIte, reduceCtorEq, Nat.reduceEqDiff, Nat.reduceAdd, Nat.reduceSub, Nat.reduceMul, Nat.reduceLeDiff, Nat.reduceLT, Int.reduceLE, Int.reduceLT, Int.reduceToNat, Int.reduceNeg]
    repeat refine And.intro (by first | assumption | omega | rfl | (simp; done) | (simp; omega) | (intros; simp_all; done) | grind) ?_
    refine aw_ret ?_
    simp only [go_sem, ↓reduceIte, reduceCtorEq, Nat.reduceEqDiff, Nat.reduceAdd, Nat.reduceSub, Nat.reduceMul, Nat.reduceLeDiff, Nat.reduceLT, Int.reduceLE, Int.reduceLT, Int.reduceToNat, Int.reduceNeg]
    obtain rfl := Option.some.inj h
    first | done | rfl | (simp; done) | (repeat' (first | rfl | trivial | omega | (simp; done) | apply And.intro))
  · intro hc1
    replace h := ite_f (by first | exact hc1 | simpa using hc1) h
    refine aw_skip ?_
    simp only [go_sem, ↓reduceIte, reduceCtorEq, Nat.reduceEqDiff, Nat.reduceAdd, Nat.reduceSub, Nat.reduceMul, Nat.reduceLeDiff, Nat.reduceLT, Int.reduceLE, Int.reduceLT, Int.reduceToNat, Int.reduceNeg]
    refine s_seq ?_
    refine s_seq ?_
    refine aw_reg hG ?_
    simp only [r_ref11_Insert_3, go_sem, ↓reduceIte, reduceCtorEq, Nat.reduceEqDiff, Nat.reduceAdd, Nat.reduceSub, Nat.reduceMul, Nat.reduceLeDiff, Nat.reduceLT, Int.reduceLE, Int.reduceLT, Int.reduceToNat, Int.reduceNeg]
    repeat refine And.intro (by first | assumption | omega | rfl | (simp; done) | (simp; omega) | (intros; simp_all; done) | grind) ?_
    refine acall_of (fun hg => ref11_ValidWait_ok a1) ?_
    simp only [go_sem, ↓reduceIte, reduceCtorEq, Nat.reduceEqDiff, Nat.reduceAdd, Nat.reduceSub, Nat.reduceMul, Nat.reduceLeDiff, Nat.reduceLT, Int.reduceLE, Int.reduceLT, Int.reduceToNat, Int.reduceNeg]
    repeat refine And.intro (by first | assumption | omega | rfl | (simp; done) | (simp; omega) | (intros; simp_all; done) | grind) ?_
    refine aw_cond rfl hG ?_ ?_
    · intro hc2
      replace h := ite_t (by first | exact hc2 | simpa using hc2) h
      refine s_seq ?_
      refine aw_reg hG ?_
      simp only [r_ref11_Insert_4, go_sem, ↓reduceIte, reduceCtorEq, Nat.reduceEqDiff, Nat.reduceAdd, Nat.reduceSub, Nat.reduceMul, Nat.reduceLeDiff, Nat.reduceLT, Int.reduceLE, Int.reduceLT, Int.reduceToNat, Int.reduceNeg]
      repeat refine And.intro (by first | assumption | omega | rfl | (simp; done) | (simp; omega) | (intros; simp_all; done) | grind) ?_
      refine aw_ret ?_
      simp only [go_sem, ↓reduceIte, reduceCtorEq, Nat.reduceEqDiff, Nat.reduceAdd, Nat.reduceSub, Nat.reduceMul, Nat.reduceLeDiff, Nat.reduceLT, Int.reduceLE, Int.reduceLT, Int.reduceToNat, Int.reduceNeg]
      obtain rfl := Option.some.inj h
      first | done | rfl | (simp; done) | (repeat' (first | rfl | trivial | omega | (simp; done) | apply And.intro))
    · intro hc2
      replace h := ite_f (by first | exact hc2 | simpa using hc2) h
      refine aw_skip ?_
      simp only [go_sem, ↓reduceIte, reduceCtorEq, Nat.reduceEqDiff, Nat.reduceAdd, Nat.reduceSub, Nat.reduceMul, Nat.reduceLeDiff, Nat.reduceLT, Int.reduceLE, Int.reduceLT, Int.reduceToNat, Int.reduceNeg]
      refine s_seq ?_
      refine s_seq ?_
      refine aw_reg hG ?_
      simp only [r_ref11_Insert_5, go_sem, ↓reduceIte, reduceCtorEq, Nat.reduceEqDiff, Nat.reduceAdd, Nat.reduceSub, Nat.reduceMul, Nat.reduceLeDiff, Nat.reduceLT, Int.reduceLE, Int.reduceLT, Int.reduceToNat, Int.reduceNeg]
      repeat refine And.intro (by first | assumption | omega | rfl | (simp; done) | (simp; omega) | (intros; simp_all; done) | grind) ?_
      obtain ⟨v2, hv2, h⟩ := bind_of h
      refine acall_of (fun hg => ref11_Find_ok a0 a1.proc _ (hv2)) ?_
      simp only [go_sem, ↓reduceIte, reduceCtorEq, Nat.reduceEqDiff, Nat.reduceAdd, Nat.reduceSub, Nat.reduceMul, Nat.reduceLeDiff, Nat.reduceLT, Int.reduceLE, Int.reduceLT, Int.reduceToNat, Int.reduceNeg]
      repeat refine And.intro (by first | assumption | omega | rfl | (simp; done) | (simp; omega) | (intros; simp_all; done) | grind) ?_
      refine aw_cond rfl hG ?_ ?_
      · intro hc3
        replace h := ite_t (by first | exact hc3 | simpa using hc3) h
        refine s_seq ?_
        refine aw_reg hG ?_
        simp only [r_ref11_Insert_6, go_sem, ↓reduceIte, reduceCtorEq, Nat.reduceEqDiff, Nat.reduceAdd, Nat.reduceSub, Nat.reduceMul, Nat.reduceLeDiff, Nat.reduceLT, Int.reduceLE, Int.reduceLT, Int.reduceToNat, Int.reduceNeg]
        repeat refine And.intro (by first | assumption | omega | rfl | (simp; done) | (simp; omega) | (intros; simp_all; done) | grind) ?_
        refine aw_ret ?_
        simp only [go_sem, ↓reduceIte, reduceCtorEq, Nat.reduceEqDiff, Nat.reduceAdd, Nat.reduceSub, Nat.reduceMul, Nat.reduceLeDiff, Nat.reduceLT, Int.reduceLE, Int.reduceLT, Int.reduceToNat, Int.reduceNeg]
        obtain rfl := Option.some.inj h
        first | done | rfl | (simp; done) | (repeat' (first | rfl | trivial | omega | (simp; done) | apply And.intro))
      · intro hc3
        replace h := ite_f (by first | exact hc3 | simpa using hc3) h
        refine aw_skip ?_
        simp only [go_sem, ↓reduceIte, reduceCtorEq, Nat.reduceEqDiff, Nat.reduceAdd, Nat.reduceSub, Nat.reduceMul, Nat.reduceLeDiff, Nat.reduceLT, Int.reduceLE, Int.reduceLT, Int.reduceToNat, Int.reduceNeg]
        refine s_seq ?_
        refine s_seq ?_
        refine aw_reg hG ?_
        simp only [r_ref11_Insert_7, go_sem, ↓reduceIte, reduceCtorEq, Nat.reduceEqDiff, Nat.reduceAdd, Nat.reduceSub, Nat.reduceMul, Nat.reduceLeDiff, Nat.reduceLT, Int.reduceLE, Int.reduceLT, Int.reduceToNat, Int.reduceNeg]
        repeat refine And.intro (by first | assumption | omega | rfl | (simp; done) | (simp; omega) | (intros; simp_all; done) | grind) ?_
        refine aw_cond rfl hG ?_ ?_
        · intro hc4
          replace h := ite_t (by first | exact hc4 | simpa using hc4) h
          refine s_seq ?_
          refine aw_reg hG ?_
          simp only [r_ref11_Insert_8, go_sem, ↓reduceIte, reduceCtorEq, Nat.reduceEqDiff, Nat.reduceAdd, Nat.reduceSub, Nat.reduceMul, Nat.reduceLeDiff, Nat.reduceLT, Int.reduceLE, Int.reduceLT, Int.reduceToNat, Int.reduceNeg]
          repeat refine And.intro (by first | assumption | omega | rfl | (simp; done) | (simp; omega) | (intros; simp_all; done) | grind) ?_
          refine aw_ret ?_
          simp only [go_sem, ↓reduceIte, reduceCtorEq, Nat.reduceEqDiff, Nat.reduceAdd, Nat.reduceSub, Nat.reduceMul, Nat.reduceLeDiff, Nat.reduceLT, Int.reduceLE, Int.reduceLT, Int.reduceToNat, Int.reduceNeg]
          obtain rfl := Option.some.inj h
          first | done | rfl | (simp; done) | (repeat' (first | rfl | trivial | omega | (simp; done) | apply And.intro))
        · intro hc4
          replace h := ite_f (by first | exact hc4 | simpa using hc4) h
          refine aw_skip ?_
          simp only [go_sem, ↓reduceIte, reduceCtorEq, Nat.reduceEqDiff, Nat.reduceAdd, Nat.reduceSub, Nat.reduceMul, Nat.reduceLeDiff, Nat.reduceLT, Int.reduceLE, Int.reduceLT, Int.reduceToNat, Int.reduceNeg]
          refine s_seq ?_
          refine aw_reg hG ?_
          simp only [r_ref11_Insert_9, go_sem, ↓reduceIte, reduceCtorEq, Nat.reduceEqDiff, Nat.reduceAdd, Nat.reduceSub, Nat.reduceMul, Nat.reduceLeDiff, Nat.reduceLT, Int.reduceLE, Int.reduceLT, Int.reduceToNat, Int.reduceNeg]
          repeat refine And.intro (by first | assumption | omega | rfl | (simp; done) | (simp; omega) | (intros; simp_all; done) | grind) ?_
          refine s_seq ?_
          refine s_blockJ (J_ref11_Insert_k1 a0 a1) (fun v => f_ref11_Insert_k1 a0 a1 v = some r) ?_ ?_
          · intro j1 h
            unfold f_ref11_Insert_k1 at h
            simp only [J_ref11_Insert_k1, go_sem, ↓reduceIte, reduceCtorEq, Nat.reduceEqDiff, Nat.reduceAdd, Nat.reduceSub, Nat.reduceMul, Nat.reduceLeDiff, Nat.reduceLT, Int.reduceLE, Int.reduceLT, Int.reduceToNat, Int.reduceNeg]
            refine s_seq ?_
            obtain ⟨hb3, h⟩ := gd_some h
            obtain ⟨hb4, h⟩ := gd_some h
            obtain ⟨hb5, h⟩ := gd_some h
            refine aw_regm C_mixed hG ?_
            simp only [r_ref11_Insert_12, go_sem, ↓reduceIte, reduceCtorEq, Nat.reduceEqDiff, Nat.reduceAdd, Nat.reduceSub, Nat.reduceMul, Nat.reduceLeDiff, Nat.reduceLT, Int.reduceLE, Int.reduceLT, Int.reduceToNat, Int.reduceNeg, hb3, hb4, hb5]
            repeat refine And.intro (by first | assumption | omega | rfl | (simp; done) | (simp; omega) | (intros; simp_all; done) | grind) ?_
            refine s_seq ?_
            refine s_seq ?_
            refine aw_reg hG ?_
            simp only [r_ref11_Insert_13, go_sem, ↓reduceIte, reduceCtorEq, Nat.reduceEqDiff, Nat.reduceAdd, Nat.reduceSub, Nat.reduceMul, Nat.reduceLeDiff, Nat.reduceLT, Int.reduceLE, Int.reduceLT, Int.reduceToNat, Int.reduceNeg]
            repeat refine And.intro (by first | assumption | omega | rfl | (simp; done) | (simp; omega) | (intros; simp_all; done) | grind) ?_
            refine s_blockJ (J_ref11_Insert_k2 j1) (fun v => f_ref11_Insert_k2 j1 v = some r) ?_ ?_
            · intro j2 h
              unfold f_ref11_Insert_k2 at h
              simp only [J_ref11_Insert_k2, go_sem, ↓reduceIte, reduceCtorEq, Nat.reduceEqDiff, Nat.reduceAdd, Nat.reduceSub, Nat.reduceMul, Nat.reduceLeDiff, Nat.reduceLT, Int.reduceLE, Int.reduceLT, Int.reduceToNat, Int.reduceNeg]
              refine s_seq ?_
              refine aw_reg hG ?_
              simp only [r_ref11_Insert_19, go_sem, ↓reduceIte, reduceCtorEq, Nat.reduceEqDiff, Nat.reduceAdd, Nat.reduceSub, Nat.reduceMul, Nat.reduceLeDiff, Nat.reduceLT, Int.reduceLE, Int.reduceLT, Int.reduceToNat, Int.reduceNeg]
              repeat refine And.intro (by first | assumption | omega | rfl | (simp; done) | (simp; omega) | (intros; simp_all; done) | grind) ?_
              refine aw_ret ?_
              simp only [go_sem, ↓reduceIte, reduceCtorEq, Nat.reduceEqDiff, Nat.reduceAdd, Nat.reduceSub, Nat.reduceMul, Nat.reduceLeDiff, Nat.reduceLT, Int.reduceLE, Int.reduceLT, Int.reduceToNat, Int.reduceNeg]
              obtain rfl := Option.some.inj h
              first | done | rfl | (simp; done) | (repeat' (first | rfl | trivial | omega | (simp; done) | apply And.intro))
            obtain ⟨x_l1, hl_l1, h⟩ := bind_of h
            refine s_loopO (I_ref11_Insert_l1 a0 j1) hK [(0, 3)] hl_l1 ?_ ?_
            · simp only [I_ref11_Insert_l1, go_sem, ↓reduceIte, reduceCtorEq, Nat.reduceEqDiff, Nat.reduceAdd, Nat.reduceSub, Nat.reduceMul, Nat.reduceLeDiff, Nat.reduceLT, Int.reduceLE, Int.reduceLT, Int.reduceToNat, Int.reduceNeg]
              first | (done) | trivial | (simp; done) | (repeat' (first | rfl | trivial | omega | (simp; done) | (simp; omega) | (congr 1; simp only [List.length_append, List.length_take, List.length_drop, List.length_replicate]; omega) | apply And.intro))
            · clear hl_l1
              intro g1 y_l1 h_l1 hx_l1
              unfold f_ref11_Insert_l1 at h_l1
              simp only [I_ref11_Insert_l1, go_sem, ↓reduceIte, reduceCtorEq, Nat.reduceEqDiff, Nat.reduceAdd, Nat.reduceSub, Nat.reduceMul, Nat.reduceLeDiff, Nat.reduceLT, Int.reduceLE, Int.reduceLT, Int.reduceToNat, Int.reduceNeg]
              refine s_seq ?_
              refine s_seq ?_
              refine aw_reg hG ?_
              simp only [r_ref11_Insert_14, go_sem, ↓reduceIte, reduceCtorEq, Nat.reduceEqDiff, Nat.reduceAdd, Nat.reduceSub, Nat.reduceMul, Nat.reduceLeDiff, Nat.reduceLT, Int.reduceLE, Int.reduceLT, Int.reduceToNat, Int.reduceNeg]
              repeat refine And.intro (by first | assumption | omega | rfl | (simp; done) | (simp; omega) | (intros; simp_all; done) | grind) ?_
              refine aw_cond rfl hG ?_ ?_
              · intro hc5
                replace h_l1 := ite_t (by first | exact hc5 | simpa using hc5) h_l1
                refine aw_skip ?_
                simp only [go_sem, ↓reduceIte, reduceCtorEq, Nat.reduceEqDiff, Nat.reduceAdd, Nat.reduceSub, Nat.reduceMul, Nat.reduceLeDiff, Nat.reduceLT, Int.reduceLE, Int.reduceLT, Int.reduceToNat, Int.reduceNeg]
                refine s_seq ?_
                refine s_block ?_
                refine s_seq ?_
                obtain ⟨hb2, h_l1⟩ := gd_some h_l1
                refine aw_reg hG ?_
                simp only [r_ref11_Insert_16, go_sem, ↓reduceIte, reduceCtorEq, Nat.reduceEqDiff, Nat.reduceAdd, Nat.reduceSub, Nat.reduceMul, Nat.reduceLeDiff, Nat.reduceLT, Int.reduceLE, Int.reduceLT, Int.reduceToNat, Int.reduceNeg, hb2]
                repeat refine And.intro (by first | assumption | omega | rfl | (simp; done) | (simp; omega) | (intros; simp_all; done) | grind) ?_
                refine s_seq ?_
                refine aw_reg hG ?_
                simp only [r_ref11_Insert_17, go_sem, ↓reduceIte, reduceCtorEq, Nat.reduceEqDiff, Nat.reduceAdd, Nat.reduceSub, Nat.reduceMul, Nat.reduceLeDiff, Nat.reduceLT, Int.reduceLE, Int.reduceLT, Int.reduceToNat, Int.reduceNeg]
                repeat refine And.intro (by first | assumption | omega | rfl | (simp; done) | (simp; omega) | (intros; simp_all; done) | grind) ?_
                obtain ⟨hb1, h_l1⟩ := gd_some h_l1
                refine aw_reg hG ?_
                simp only [r_ref11_Insert_18, go_sem, ↓reduceIte, reduceCtorEq, Nat.reduceEqDiff, Nat.reduceAdd, Nat.reduceSub, Nat.reduceMul, Nat.reduceLeDiff, Nat.reduceLT, Int.reduceLE, Int.reduceLT, Int.reduceToNat, Int.reduceNeg, hb1]
                repeat refine And.intro (by first | assumption | omega | rfl | (simp; done) | (simp; omega) | (intros; simp_all; done) | grind) ?_
                refine aw_reg hG ?_
                simp only [r_ref11_Insert_15, go_sem, ↓reduceIte, reduceCtorEq, Nat.reduceEqDiff, Nat.reduceAdd, Nat.reduceSub, Nat.reduceMul, Nat.reduceLeDiff, Nat.reduceLT, Int.reduceLE, Int.reduceLT, Int.reduceToNat, Int.reduceNeg]
                repeat refine And.intro (by first | assumption | omega | rfl | (simp; done) | (simp; omega) | (intros; simp_all; done) | grind) ?_
                obtain rfl := Option.some.inj h_l1
                refine loopN_of hK [(0, 2)] ?_
                simp only [I_ref11_Insert_l1, go_sem, ↓reduceIte, reduceCtorEq, Nat.reduceEqDiff, Nat.reduceAdd, Nat.reduceSub, Nat.reduceMul, Nat.reduceLeDiff, Nat.reduceLT, Int.reduceLE, Int.reduceLT, Int.reduceToNat, Int.reduceNeg]
                first | (done) | trivial | (simp; done) | (repeat' (first | rfl | trivial | omega | (simp; done) | (simp; omega) | (congr 1; simp only [List.length_append, List.length_take, List.length_drop, List.length_replicate]; omega) | apply And.intro))
              · intro hc5
                replace h_l1 := ite_f (by first | exact hc5 | simpa using hc5) h_l1
                refine aw_exit ?_
                simp only [go_sem, ↓reduceIte, reduceCtorEq, Nat.reduceEqDiff, Nat.reduceAdd, Nat.reduceSub, Nat.reduceMul, Nat.reduceLeDiff, Nat.reduceLT, Int.reduceLE, Int.reduceLT, Int.reduceToNat, Int.reduceNeg]
                obtain rfl := Option.some.inj h_l1
                have hx := hx_l1 _ rfl
                subst hx
                try dsimp only at h
                refine joinG_of hK g1.2 (by exact h) [(0, 0)] ?_
                simp only [J_ref11_Insert_k2, go_sem, ↓reduceIte, reduceCtorEq, Nat.reduceEqDiff, Nat.reduceAdd, Nat.reduceSub, Nat.reduceMul, Nat.reduceLeDiff, Nat.reduceLT, Int.reduceLE, Int.reduceLT, Int.reduceToNat, Int.reduceNeg]
                first | (done) | trivial | (simp; done) | (repeat' (first | rfl | trivial | omega | (simp; done) | (simp; omega) | (congr 1; simp only [List.length_append, List.length_take, List.length_drop, List.length_replicate]; omega) | apply And.intro))
          obtain ⟨x_l2, hl_l2, h⟩ := bind_of h
          refine s_loopO (I_ref11_Insert_l2 a0 a1) hK [(0, 0)] hl_l2 ?_ ?_
          · simp only [I_ref11_Insert_l2, go_sem, ↓reduceIte, reduceCtorEq, Nat.reduceEqDiff, Nat.reduceAdd, Nat.reduceSub, Nat.reduceMul, Nat.reduceLeDiff, Nat.reduceLT, Int.reduceLE, Int.reduceLT, Int.reduceToNat, Int.reduceNeg]
            first | (done) | trivial | (simp; done) | (repeat' (first | rfl | trivial | omega | (simp; done) | (simp; omega) | (congr 1; simp only [List.length_append, List.length_take, List.length_drop, List.length_replicate]; omega) | apply And.intro))
          · clear hl_l2
            intro g2 y_l2 h_l2 hx_l2
            unfold f_ref11_Insert_l2 at h_l2
            simp only [I_ref11_Insert_l2, go_sem, ↓reduceIte, reduceCtorEq, Nat.reduceEqDiff, Nat.reduceAdd, Nat.reduceSub, Nat.reduceMul, Nat.reduceLeDiff, Nat.reduceLT, Int.reduceLE, Int.reduceLT, Int.reduceToNat, Int.reduceNeg]
            refine s_seq ?_
            refine s_seq ?_
            obtain ⟨hb6, h_l2⟩ := gd_some h_l2
            obtain ⟨hb7, h_l2⟩ := gd_some h_l2
            refine aw_regd C_mixed hG ?_
            simp only [r_ref11_Insert_10, go_sem, ↓reduceIte, reduceCtorEq, Nat.reduceEqDiff, Nat.reduceAdd, Nat.reduceSub, Nat.reduceMul, Nat.reduceLeDiff, Nat.reduceLT, Int.reduceLE, Int.reduceLT, Int.reduceToNat, Int.reduceNeg, hb6, hb7]
            repeat refine And.intro (by first | assumption | omega | rfl | (simp; done) | (simp; omega) | (intros; simp_all; done) | grind) ?_
            refine aw_cond rfl hG ?_ ?_
            · intro hc6
              replace h_l2 := ite_t (by first | exact hc6 | simpa using hc6) h_l2
              refine aw_skip ?_
              simp only [go_sem, ↓reduceIte, reduceCtorEq, Nat.reduceEqDiff, Nat.reduceAdd, Nat.reduceSub, Nat.reduceMul, Nat.reduceLeDiff, Nat.reduceLT, Int.reduceLE, Int.reduceLT, Int.reduceToNat, Int.reduceNeg]
              refine s_block ?_
              refine aw_reg hG ?_
              simp only [r_ref11_Insert_11, go_sem, ↓reduceIte, reduceCtorEq, Nat.reduceEqDiff, Nat.reduceAdd, Nat.reduceSub, Nat.reduceMul, Nat.reduceLeDiff, Nat.reduceLT, Int.reduceLE, Int.reduceLT, Int.reduceToNat, Int.reduceNeg]
              repeat refine And.intro (by first | assumption | omega | rfl | (simp; done) | (simp; omega) | (intros; simp_all; done) | grind) ?_
              obtain rfl := Option.some.inj h_l2
              refine loopN_of hK [(0, 0)] ?_
              simp only [I_ref11_Insert_l2, go_sem, ↓reduceIte, reduceCtorEq, Nat.reduceEqDiff, Nat.reduceAdd, Nat.reduceSub, Nat.reduceMul, Nat.reduceLeDiff, Nat.reduceLT, Int.reduceLE, Int.reduceLT, Int.reduceToNat, Int.reduceNeg]
              first | (done) | trivial | (simp; done) | (repeat' (first | rfl | trivial | omega | (simp; done) | (simp; omega) | (congr 1; simp only [List.length_append, List.length_take, List.length_drop, List.length_replicate]; omega) | apply And.intro))
            · intro hc6
              replace h_l2 := ite_f (by first | exact hc6 | simpa using hc6) h_l2
              refine aw_exit ?_
              simp only [go_sem, ↓reduceIte, reduceCtorEq, Nat.reduceEqDiff, Nat.reduceAdd, Nat.reduceSub, Nat.reduceMul, Nat.reduceLeDiff, Nat.reduceLT, Int.reduceLE, Int.reduceLT, Int.reduceToNat, Int.reduceNeg]
              obtain rfl := Option.some.inj h_l2
              have hx := hx_l2 _ rfl
              subst hx
              try dsimp only at h
              refine joinG_of hK g2 (by exact h) [(0, 0)] ?_
              simp only [J_ref11_Insert_k1, go_sem, ↓reduceIte, reduceCtorEq, Nat.reduceEqDiff, Nat.reduceAdd, Nat.reduceSub, Nat.reduceMul, Nat.reduceLeDiff, Nat.reduceLT, Int.reduceLE, Int.reduceLT, Int.reduceToNat, Int.reduceNeg]
              first | (done) | trivial | (simp; done) | (repeat' (first | rfl | trivial | omega | (simp; done) | (simp; omega) | (congr 1; simp only [List.length_append, List.length_take, List.length_drop, List.length_replicate]; omega) | apply And.intro))

noncomputable def f_ref11_SameWaits_k1  (j1 : Unit) : Option (Bool) :=
  some true
def J_ref11_SameWaits_k1  (j1 : Unit) : St := ⟨[], [], 0⟩
noncomputable def f_ref11_SameWaits_l1 (a0 : List Wait) (a1 : List Wait) (g1 : Int) : Option ((Int) ⊕ ((Unit) ⊕ (Bool))) :=
  (if (decide (g1 < (a0.length : Int))) = true then
    gd (0 ≤ g1 ∧ g1 < (a0.length : Int)) <|
    gd (0 ≤ g1 ∧ g1 < (a1.length : Int)) <|
    (if (!decide ((a0.getD g1.toNat Wait.zero) = (a1.getD g1.toNat Wait.zero))) = true then
      some (.inr (.inr false))
    else
      some (.inl (IntKind.i64.wrap (g1 + 1))))
  else
    some (.inr (.inl ())))
def I_ref11_SameWaits_l1 (a0 : List Wait) (a1 : List Wait) (g1 : Int) : St := ⟨[(0, .sl (a0.map Wait.enc)), (1, .sl (a1.map Wait.enc)), (5, .int .i64 g1)], [], 0⟩
noncomputable def f_ref11_SameWaits (a0 : List Wait) (a1 : List Wait) : Option (Bool) :=
  (if (!decide ((a0.length : Int) = (a1.length : Int))) = true then
    some false
  else
    (loopO (f_ref11_SameWaits_l1 a0 a1) 0).bind (fun | .inl z => f_ref11_SameWaits_k1 z | .inr z => some z))
theorem ref11_SameWaits_ok (a0 : List Wait) (a1 : List Wait) (r : Bool) (h : f_ref11_SameWaits a0 a1 = some r) : PFn C 17 [.sl (a0.map Wait.enc), .sl (a1.map Wait.enc)] (.bool r) := by
  refine pfn_intro chk_ref11_SameWaits rfl fun E hG hN hK => ?_
  unfold pc_ref11_SameWaits
  unfold f_ref11_SameWaits at h
  refine s_seq ?_
  refine aw_reg hG ?_
  simp only [r_ref11_SameWaits_0, go_sem, ↓reduceIte, reduceCtorEq, Nat.reduceEqDiff, Nat.reduceAdd, Nat.reduceSub, Nat.reduceMul, Nat.reduceLeDiff, Nat.reduceLT, Int.reduceLE, Int.reduceLT, Int.reduceToNat, Int.reduceNeg]
  repeat refine And.intro (by first | assumption | omega | rfl | (simp; done) | (simp; omega) | (intros; simp_all; done) | grind) ?_
  refine s_seq ?_
  refine s_seq ?_
  refine aw_reg hG ?_
  simp only [r_ref11_SameWaits_1, go_sem, ↓reduceIte, reduceCtorEq, Nat.reduceEqDiff, Nat.reduceAdd, Nat.reduceSub, Nat.reduceMul, Nat.reduceLeDiff, Nat.reduceLT, Int.reduceLE, Int.reduceLT, Int.reduceToNat, Int.reduceNeg]
  repeat refine And.intro (by first | assumption | omega | rfl | (simp; done) | (simp; omega) | (intros; simp_all; done) | grind) ?_
  refine aw_cond rfl hG ?_ ?_
  · intro hc1
    replace h := ite_t (by first | exact hc1 | simpa using hc1) h
    refine s_seq ?_
    refine aw_reg hG ?_
    simp only [r_ref11_SameWaits_2, go_sem, ↓reduceIte, reduceCtorEq, Nat.reduceEqDiff, Nat.reduceAdd, Nat.reduceSub, Nat.reduceMul, Nat.reduceLeDiff, Nat.reduceLT, Int.reduceLE, Int.reduceLT, Int.reduceToNat, Int.reduceNeg]
    repeat refine And.intro (by first | assumption | omega | rfl | (simp; done) | (simp; omega) | (intros; simp_all; done) | grind) ?_
    refine aw_ret ?_
    simp only [go_sem, ↓reduceIte, reduceCtorEq, Nat.reduceEqDiff, Nat.reduceAdd, Nat.reduceSub, Nat.reduceMul, Nat.reduceLeDiff, Nat.reduceLT, Int.reduceLE, Int.reduceLT, Int.reduceToNat, Int.reduceNeg]
    obtain rfl := Option.some.inj h
    first | done | rfl | (simp; done) | (repeat' (first | rfl | trivial | omega | (simp; done) | apply And.intro))
  · intro hc1
    replace h := ite_f (by first | exact hc1 | simpa using hc1) h
    refine aw_skip ?_
    simp only [go_sem, ↓reduceIte, reduceCtorEq, Nat.reduceEqDiff, Nat.reduceAdd, Nat.reduceSub, Nat.reduceMul, Nat.reduceLeDiff, Nat.reduceLT, Int.reduceLE, Int.reduceLT, Int.reduceToNat, Int.reduceNeg]
    refine s_seq ?_
    refine s_seq ?_
    refine aw_reg hG ?_
    simp only [r_ref11_SameWaits_3, go_sem, ↓reduceIte, reduceCtorEq, Nat.reduceEqDiff, Nat.reduceAdd, Nat.reduceSub, Nat.reduceMul, Nat.reduceLeDiff, Nat.reduceLT, Int.reduceLE, Int.reduceLT, Int.reduceToNat, Int.reduceNeg]
    repeat refine And.intro (by first | assumption | omega | rfl | (simp; done) | (simp; omega) | (intros; simp_all; done) | grind) ?_
    refine s_blockJ (J_ref11_SameWaits_k1) (fun v => f_ref11_SameWaits_k1 v = some r) ?_ ?_
    · intro j1 h
      unfold f_ref11_SameWaits_k1 at h
      simp only [J_ref11_SameWaits_k1, go_sem, ↓reduceIte, reduceCtorEq, Nat.reduceEqDiff, Nat.reduceAdd, Nat.reduceSub, Nat.reduceMul, Nat.reduceLeDiff, Nat.reduceLT, Int.reduceLE, Int.reduceLT, Int.reduceToNat, Int.reduceNeg]
      refine s_seq ?_
      refine aw_reg hG ?_
      simp only [r_ref11_SameWaits_8, go_sem, ↓reduceIte, reduceCtorEq, Nat.reduceEqDiff, Nat.reduceAdd, Nat.reduceSub, Nat.reduceMul, Nat.reduceLeDiff, Nat.reduceLT, Int.reduceLE, Int.reduceLT, Int.reduceToNat, Int.reduceNeg]
      repeat refine And.intro (by first | assumption | omega | rfl | (simp; done) | (simp; omega) | (intros; simp_all; done) | grind) ?_
      refine aw_ret ?_
      simp only [go_sem, ↓reduceIte, reduceCtorEq, Nat.reduceEqDiff, Nat.reduceAdd, Nat.reduceSub, Nat.reduceMul, Nat.reduceLeDiff, Nat.reduceLT, Int.reduceLE, Int.reduceLT, Int.reduceToNat, Int.reduceNeg]
      obtain rfl := Option.some.inj h
      first | done | rfl | (simp; done) | (repeat' (first | rfl | trivial | omega | (simp; done) | apply And.intro))
    obtain ⟨x_l1, hl_l1, h⟩ := bind_of h
    refine s_loopO (I_ref11_SameWaits_l1 a0 a1) hK [] hl_l1 ?_ ?_
    · simp only [I_ref11_SameWaits_l1, go_sem, ↓reduceIte, reduceCtorEq, Nat.reduceEqDiff, Nat.reduceAdd, Nat.reduceSub, Nat.reduceMul, Nat.reduceLeDiff, Nat.reduceLT, Int.reduceLE, Int.reduceLT, Int.reduceToNat, Int.reduceNeg]
      first | (done) | trivial | (simp; done) | (repeat' (first | rfl | trivial | omega | (simp; done) | (simp; omega) | (congr 1; simp only [List.length_append, List.length_take, List.length_drop, List.length_replicate]; omega) | apply And.intro))
    · clear hl_l1
      intro g1 y_l1 h_l1 hx_l1
      unfold f_ref11_SameWaits_l1 at h_l1
      simp only [I_ref11_SameWaits_l1, go_sem, ↓reduceIte, reduceCtorEq, Nat.reduceEqDiff, Nat.reduceAdd, Nat.reduceSub, Nat.reduceMul, Nat.reduceLeDiff, Nat.reduceLT, Int.reduceLE, Int.reduceLT, Int.reduceToNat, Int.reduceNeg]
      refine s_seq ?_
      refine s_seq ?_
      refine aw_reg hG ?_
      simp only [r_ref11_SameWaits_4, go_sem, ↓reduceIte, reduceCtorEq, Nat.reduceEqDiff, Nat.reduceAdd, Nat.reduceSub, Nat.reduceMul, Nat.reduceLeDiff, Nat.reduceLT, Int.reduceLE, Int.reduceLT, Int.reduceToNat, Int.reduceNeg]
      repeat refine And.intro (by first | assumption | omega | rfl | (simp; done) | (simp; omega) | (intros; simp_all; done) | grind) ?_
      refine aw_cond rfl hG ?_ ?_
      · intro hc2
        replace h_l1 := ite_t (by first | exact hc2 | simpa using hc2) h_l1
        refine aw_skip ?_
        simp only [go_sem, ↓reduceIte, reduceCtorEq, Nat.reduceEqDiff, Nat.reduceAdd, Nat.reduceSub, Nat.reduceMul, Nat.reduceLeDiff, Nat.reduceLT, Int.reduceLE, Int.reduceLT, Int.reduceToNat, Int.reduceNeg]
        refine s_seq ?_
        refine s_block ?_
        refine s_seq ?_
        obtain ⟨hb1, h_l1⟩ := gd_some h_l1
        obtain ⟨hb2, h_l1⟩ := gd_some h_l1
        refine aw_regd C_mixed hG ?_
        simp only [r_ref11_SameWaits_6, go_sem, ↓reduceIte, reduceCtorEq, Nat.reduceEqDiff, Nat.reduceAdd, Nat.reduceSub, Nat.reduceMul, Nat.reduceLeDiff, Nat.reduceLT, Int.reduceLE, Int.reduceLT, Int.reduceToNat, Int.reduceNeg, hb1, hb2]
        repeat refine And.intro (by first | assumption | omega | rfl | (simp; done) | (simp; omega) | (intros; simp_all; done) | grind) ?_
        refine aw_cond rfl hG ?_ ?_
        · intro hc3
          replace h_l1 := ite_t (by first | exact hc3 | simpa using hc3) h_l1
          refine s_seq ?_
          refine aw_reg hG ?_
          simp only [r_ref11_SameWaits_7, go_sem, ↓reduceIte, reduceCtorEq, Nat.reduceEqDiff, Nat.reduceAdd, Nat.reduceSub, Nat.reduceMul, Nat.reduceLeDiff, Nat.reduceLT, Int.reduceLE, Int.reduceLT, Int.reduceToNat, Int.reduceNeg]
          repeat refine And.intro (by first | assumption | omega | rfl | (simp; done) | (simp; omega) | (intros; simp_all; done) | grind) ?_
          refine aw_ret ?_
          simp only [go_sem, ↓reduceIte, reduceCtorEq, Nat.reduceEqDiff, Nat.reduceAdd, Nat.reduceSub, Nat.reduceMul, Nat.reduceLeDiff, Nat.reduceLT, Int.reduceLE, Int.reduceLT, Int.reduceToNat, Int.reduceNeg]
          obtain rfl := Option.some.inj h_l1
          have hx := hx_l1 _ rfl
          subst hx
          try dsimp only at h
          obtain rfl := Option.some.inj h
          first | done | rfl | (simp; done) | (repeat' (first | rfl | trivial | omega | (simp; done) | apply And.intro))
        · intro hc3
          replace h_l1 := ite_f (by first | exact hc3 | simpa using hc3) h_l1
          refine aw_skip ?_
          simp only [go_sem, ↓reduceIte, reduceCtorEq, Nat.reduceEqDiff, Nat.reduceAdd, Nat.reduceSub, Nat.reduceMul, Nat.reduceLeDiff, Nat.reduceLT, Int.reduceLE, Int.reduceLT, Int.reduceToNat, Int.reduceNeg]
          refine aw_reg hG ?_
          simp only [r_ref11_SameWaits_5, go_sem, ↓reduceIte, reduceCtorEq, Nat.reduceEqDiff, Nat.reduceAdd, Nat.reduceSub, Nat.reduceMul, Nat.reduceLeDiff, Nat.reduceLT, Int.reduceLE, Int.reduceLT, Int.reduceToNat, Int.reduceNeg]
          repeat refine And.intro (by first | assumption | omega | rfl | (simp; done) | (simp; omega) | (intros; simp_all; done) | grind) ?_
          obtain rfl := Option.some.inj h_l1
          refine loopN_of hK [] ?_
          simp only [I_ref11_SameWaits_l1, go_sem, ↓reduceIte, reduceCtorEq, Nat.reduceEqDiff, Nat.reduceAdd, Nat.reduceSub, Nat.reduceMul, Nat.reduceLeDiff, Nat.reduceLT, Int.reduceLE, Int.reduceLT, Int.reduceToNat, Int.reduceNeg]
          first | (done) | trivial | (simp; done) | (repeat' (first | rfl | trivial | omega | (simp; done) | (simp; omega) | (congr 1; simp only [List.length_append, List.length_take, List.length_drop, List.length_replicate]; omega) | apply And.intro))
      · intro hc2
        replace h_l1 := ite_f (by first | exact hc2 | simpa using hc2) h_l1
        refine aw_exit ?_
        simp only [go_sem, ↓reduceIte, reduceCtorEq, Nat.reduceEqDiff, Nat.reduceAdd, Nat.reduceSub, Nat.reduceMul, Nat.reduceLeDiff, Nat.reduceLT, Int.reduceLE, Int.reduceLT, Int.reduceToNat, Int.reduceNeg]
        obtain rfl := Option.some.inj h_l1
        have hx := hx_l1 _ rfl
        subst hx
        try dsimp only at h
        refine joinG_of hK () (by exact h) [] ?_
        simp only [J_ref11_SameWaits_k1, go_sem, ↓reduceIte, reduceCtorEq, Nat.reduceEqDiff, Nat.reduceAdd, Nat.reduceSub, Nat.reduceMul, Nat.reduceLeDiff, Nat.reduceLT, Int.reduceLE, Int.reduceLT, Int.reduceToNat, Int.reduceNeg]
        first | (done) | trivial | (simp; done) | (repeat' (first | rfl | trivial | omega | (simp; done) | (simp; omega) | (congr 1; simp only [List.length_append, List.length_take, List.length_drop, List.length_replicate]; omega) | apply And.intro))

noncomputable def f_law11_LineInserts (a0 : List Wait) (a1 : Wait) : Option (Bool) :=
  (if (decide (100 < (a0.length : Int))) = true then
    (f_law11_awake).bind fun v1 =>
    some v1
  else
    (f_line_Insert a0 a1).bind fun v2 =>
    (f_ref11_Insert a0 a1).bind fun v3 =>
    (f_law11_awake).bind fun v4 =>
    ((if ((v4 && (decide (v2.2.2 = v3.2.2))) && (decide (v2.2.1 = v3.2.1))) = true then f_ref11_SameWaits v2.1 v3.1 else some (false))).bind fun v5 =>
    some (((v4 && (decide (v2.2.2 = v3.2.2))) && (decide (v2.2.1 = v3.2.1))) && v5))
theorem law11_LineInserts_ok (a0 : List Wait) (a1 : Wait) (r : Bool) (h : f_law11_LineInserts a0 a1 = some r) : PFn C 4 [.sl (a0.map Wait.enc), .agg (Wait.enc a1)] (.bool r) := by
  refine pfn_intro chk_law11_LineInserts rfl fun E hG hN hK => ?_
  unfold pc_law11_LineInserts
  unfold f_law11_LineInserts at h
  refine s_seq ?_
  refine aw_reg hG ?_
  simp only [r_law11_LineInserts_0, go_sem, ↓reduceIte, reduceCtorEq, Nat.reduceEqDiff, Nat.reduceAdd, Nat.reduceSub, Nat.reduceMul, Nat.reduceLeDiff, Nat.reduceLT, Int.reduceLE, Int.reduceLT, Int.reduceToNat, Int.reduceNeg]
  repeat refine And.intro (by first | assumption | omega | rfl | (simp; done) | (simp; omega) | (intros; simp_all; done) | grind) ?_
  refine s_seq ?_
  refine s_seq ?_
  refine aw_reg hG ?_
  simp only [r_law11_LineInserts_1, go_sem, ↓reduceIte, reduceCtorEq, Nat.reduceEqDiff, Nat.reduceAdd, Nat.reduceSub, Nat.reduceMul, Nat.reduceLeDiff, Nat.reduceLT, Int.reduceLE, Int.reduceLT, Int.reduceToNat, Int.reduceNeg]
  repeat refine And.intro (by first | assumption | omega | rfl | (simp; done) | (simp; omega) | (intros; simp_all; done) | grind) ?_
  refine aw_cond rfl hG ?_ ?_
  · intro hc1
    replace h := ite_t (by first | exact hc1 | simpa using hc1) h
    refine s_seq ?_
    refine aw_reg hG ?_
    simp only [r_law11_LineInserts_2, go_sem, ↓reduceIte, reduceCtorEq, Nat.reduceEqDiff, Nat.reduceAdd, Nat.reduceSub, Nat.reduceMul, Nat.reduceLeDiff, Nat.reduceLT, Int.reduceLE, Int.reduceLT, Int.reduceToNat, Int.reduceNeg]
    repeat refine And.intro (by first | assumption | omega | rfl | (simp; done) | (simp; omega) | (intros; simp_all; done) | grind) ?_
    obtain ⟨v1, hv1, h⟩ := bind_of h
    refine acall_of (fun hg => law11_awake_ok  _ (hv1)) ?_
    simp only [go_sem, ↓reduceIte, reduceCtorEq, Nat.reduceEqDiff, Nat.reduceAdd, Nat.reduceSub, Nat.reduceMul, Nat.reduceLeDiff, Nat.reduceLT, Int.reduceLE, Int.reduceLT, Int.reduceToNat, Int.reduceNeg]
    repeat refine And.intro (by first | assumption | omega | rfl | (simp; done) | (simp; omega) | (intros; simp_all; done) | grind) ?_
    refine aw_ret ?_
    simp only [go_sem, ↓reduceIte, reduceCtorEq, Nat.reduceEqDiff, Nat.reduceAdd, Nat.reduceSub, Nat.reduceMul, Nat.reduceLeDiff, Nat.reduceLT, Int.reduceLE, Int.reduceLT, Int.reduceToNat, Int.reduceNeg]
    obtain rfl := Option.some.inj h
    first | done | rfl | (simp; done) | (repeat' (first | rfl | trivial | omega | (simp; done) | apply And.intro))
  · intro hc1
    replace h := ite_f (by first | exact hc1 | simpa using hc1) h
    refine aw_skip ?_
    simp only [go_sem, ↓reduceIte, reduceCtorEq, Nat.reduceEqDiff, Nat.reduceAdd, Nat.reduceSub, Nat.reduceMul, Nat.reduceLeDiff, Nat.reduceLT, Int.reduceLE, Int.reduceLT, Int.reduceToNat, Int.reduceNeg]
    refine s_seq ?_
    refine aw_reg hG ?_
    simp only [r_law11_LineInserts_3, go_sem, ↓reduceIte, reduceCtorEq, Nat.reduceEqDiff, Nat.reduceAdd, Nat.reduceSub, Nat.reduceMul, Nat.reduceLeDiff, Nat.reduceLT, Int.reduceLE, Int.reduceLT, Int.reduceToNat, Int.reduceNeg]
    repeat refine And.intro (by first | assumption | omega | rfl | (simp; done) | (simp; omega) | (intros; simp_all; done) | grind) ?_
    obtain ⟨v2, hv2, h⟩ := bind_of h
    refine acall_of (fun hg => line_Insert_ok a0 a1 _ (hv2)) ?_
    simp only [go_sem, ↓reduceIte, reduceCtorEq, Nat.reduceEqDiff, Nat.reduceAdd, Nat.reduceSub, Nat.reduceMul, Nat.reduceLeDiff, Nat.reduceLT, Int.reduceLE, Int.reduceLT, Int.reduceToNat, Int.reduceNeg]
    repeat refine And.intro (by first | assumption | omega | rfl | (simp; done) | (simp; omega) | (intros; simp_all; done) | grind) ?_
    refine s_seq ?_
    refine aw_reg hG ?_
    simp only [r_law11_LineInserts_4, go_sem, ↓reduceIte, reduceCtorEq, Nat.reduceEqDiff, Nat.reduceAdd, Nat.reduceSub, Nat.reduceMul, Nat.reduceLeDiff, Nat.reduceLT, Int.reduceLE, Int.reduceLT, Int.reduceToNat, Int.reduceNeg]
    repeat refine And.intro (by first | assumption | omega | rfl | (simp; done) | (simp; omega) | (intros; simp_all; done) | grind) ?_
    obtain ⟨v3, hv3, h⟩ := bind_of h
    refine acall_of (fun hg => ref11_Insert_ok a0 a1 _ (hv3)) ?_
    simp only [go_sem, ↓reduceIte, reduceCtorEq, Nat.reduceEqDiff, Nat.reduceAdd, Nat.reduceSub, Nat.reduceMul, Nat.reduceLeDiff, Nat.reduceLT, Int.reduceLE, Int.reduceLT, Int.reduceToNat, Int.reduceNeg]
    repeat refine And.intro (by first | assumption | omega | rfl | (simp; done) | (simp; omega) | (intros; simp_all; done) | grind) ?_
    refine s_seq ?_
    refine aw_reg hG ?_
    simp only [r_law11_LineInserts_5, go_sem, ↓reduceIte, reduceCtorEq, Nat.reduceEqDiff, Nat.reduceAdd, Nat.reduceSub, Nat.reduceMul, Nat.reduceLeDiff, Nat.reduceLT, Int.reduceLE, Int.reduceLT, Int.reduceToNat, Int.reduceNeg]
    repeat refine And.intro (by first | assumption | omega | rfl | (simp; done) | (simp; omega) | (intros; simp_all; done) | grind) ?_
    obtain ⟨v4, hv4, h⟩ := bind_of h
    refine acall_of (fun hg => law11_awake_ok  _ (hv4)) ?_
    simp only [go_sem, ↓reduceIte, reduceCtorEq, Nat.reduceEqDiff, Nat.reduceAdd, Nat.reduceSub, Nat.reduceMul, Nat.reduceLeDiff, Nat.reduceLT, Int.reduceLE, Int.reduceLT, Int.reduceToNat, Int.reduceNeg]
    repeat refine And.intro (by first | assumption | omega | rfl | (simp; done) | (simp; omega) | (intros; simp_all; done) | grind) ?_
    obtain ⟨v5, hv5, h⟩ := bind_of h
    refine acall_of (fun hg => ref11_SameWaits_ok v2.1 v3.1 _ (ite_t hg hv5)) ?_
    simp only [go_sem, ↓reduceIte, reduceCtorEq, Nat.reduceEqDiff, Nat.reduceAdd, Nat.reduceSub, Nat.reduceMul, Nat.reduceLeDiff, Nat.reduceLT, Int.reduceLE, Int.reduceLT, Int.reduceToNat, Int.reduceNeg]
    repeat refine And.intro (by first | assumption | omega | rfl | (simp; done) | (simp; omega) | (intros; simp_all; done) | grind) ?_
    refine aw_ret ?_
    simp only [go_sem, ↓reduceIte, reduceCtorEq, Nat.reduceEqDiff, Nat.reduceAdd, Nat.reduceSub, Nat.reduceMul, Nat.reduceLeDiff, Nat.reduceLT, Int.reduceLE, Int.reduceLT, Int.reduceToNat, Int.reduceNeg]
    obtain rfl := Option.some.inj h
    first | done | rfl | (simp; done) | (repeat' (first | rfl | trivial | omega | (simp; done) | apply And.intro))

noncomputable def f_law11_LineEqual_k1 (a0 : Int) (a1 : Int) (j1 : (List Wait)) : Option (Bool) :=
  (f_law11_claim a0 a1).bind fun v2 =>
  (f_line_Insert j1 v2).bind fun v3 =>
  (f_law11_awake).bind fun v4 =>
  some ((v4 && (decide ((j1.length : Int) = a0))) && (decide ((decide (a0 < 8)) = (decide (v3.2.2 = 0)))))
def J_law11_LineEqual_k1 (a0 : Int) (a1 : Int) (j1 : (List Wait)) : St := ⟨[(0, .int .i64 a0), (1, .int .i64 a1), (5, .sl (j1.map Wait.enc))], [], 0⟩
noncomputable def f_law11_LineEqual_l1 (a0 : Int) (a1 : Int) (g1 : (List Wait) × Int) : Option (((List Wait) × Int) ⊕ (((List Wait)) ⊕ (Bool))) :=
  (if (decide (g1.2 < a0)) = true then
    (f_law11_claim g1.2 a1).bind fun v5 =>
    (f_line_Insert g1.1 v5).bind fun v6 =>
    (if ((!decide (v6.2.2 = 0)) || (!decide (v6.2.1 = g1.2))) = true then
      some (.inr (.inr false))
    else
      some (.inl (v6.1, (IntKind.i64.wrap (g1.2 + 1)))))
  else
    some (.inr (.inl g1.1)))
def I_law11_LineEqual_l1 (a0 : Int) (a1 : Int) (g1 : (List Wait) × Int) : St := ⟨[(0, .int .i64 a0), (1, .int .i64 a1), (5, .sl (g1.1.map Wait.enc)), (6, .int .i64 g1.2)], [], 0⟩
noncomputable def f_law11_LineEqual (a0 : Int) (a1 : Int) : Option (Bool) :=
  (if ((((decide (a0 < 0)) || (decide (8 < a0))) || (decide (a1 < 0))) || (decide (7 < a1))) = true then
    (f_law11_awake).bind fun v1 =>
    some v1
  else
    (loopO (f_law11_LineEqual_l1 a0 a1) ([], 0)).bind (fun | .inl z => f_law11_LineEqual_k1 a0 a1 z | .inr z => some z))
theorem law11_LineEqual_ok (a0 : Int) (a1 : Int) (r : Bool) (h : f_law11_LineEqual a0 a1 = some r) : PFn C 5 [.int .i64 a0, .int .i64 a1] (.bool r) := by
  refine pfn_intro chk_law11_LineEqual rfl fun E hG hN hK => ?_
  unfold pc_law11_LineEqual
  unfold f_law11_LineEqual at h
  refine s_seq ?_
  refine aw_reg hG ?_
  simp only [r_law11_LineEqual_0, go_sem, ↓reduceIte, reduceCtorEq, Nat.reduceEqDiff, Nat.reduceAdd, Nat.reduceSub, Nat.reduceMul, Nat.reduceLeDiff, Nat.reduceLT, Int.reduceLE, Int.reduceLT, Int.reduceToNat, Int.reduceNeg]
  repeat refine And.intro (by first | assumption | omega | rfl | (simp; done) | (simp; omega) | (intros; simp_all; done) | grind) ?_
  refine s_seq ?_
  refine s_seq ?_
  refine aw_reg hG ?_
  simp only [r_law11_LineEqual_1, go_sem, ↓reduceIte, reduceCtorEq, Nat.reduceEqDiff, Nat.reduceAdd, Nat.reduceSub, Nat.reduceMul, Nat.reduceLeDiff, Nat.reduceLT, Int.reduceLE, Int.reduceLT, Int.reduceToNat, Int.reduceNeg]
  repeat refine And.intro (by first | assumption | omega | rfl | (simp; done) | (simp; omega) | (intros; simp_all; done) | grind) ?_
  refine aw_cond rfl hG ?_ ?_
  · intro hc1
    replace h := ite_t (by first | exact hc1 | simpa using hc1) h
    refine s_seq ?_
    refine aw_reg hG ?_
    simp only [r_law11_LineEqual_2, go_sem, ↓reduceIte, reduceCtorEq, Nat.reduceEqDiff, Nat.reduceAdd, Nat.reduceSub, Nat.reduceMul, Nat.reduceLeDiff, Nat.reduceLT, Int.reduceLE, Int.reduceLT, Int.reduceToNat, Int.reduceNeg]
    repeat refine And.intro (by first | assumption | omega | rfl | (simp; done) | (simp; omega) | (intros; simp_all; done) | grind) ?_
    obtain ⟨v1, hv1, h⟩ := bind_of h
    refine acall_of (fun hg => law11_awake_ok  _ (hv1)) ?_
    simp only [go_sem, ↓reduceIte, reduceCtorEq, Nat.reduceEqDiff, Nat.reduceAdd, Nat.reduceSub, Nat.reduceMul, Nat.reduceLeDiff, Nat.reduceLT, Int.reduceLE, Int.reduceLT, Int.reduceToNat, Int.reduceNeg]
    repeat refine And.intro (by first | assumption | omega | rfl | (simp; done) | (simp; omega) | (intros; simp_all; done) | grind) ?_
    refine aw_ret ?_
    simp only [go_sem, ↓reduceIte, reduceCtorEq, Nat.reduceEqDiff, Nat.reduceAdd, Nat.reduceSub, Nat.reduceMul, Nat.reduceLeDiff, Nat.reduceLT, Int.reduceLE, Int.reduceLT, Int.reduceToNat, Int.reduceNeg]
    obtain rfl := Option.some.inj h
    first | done | rfl | (simp; done) | (repeat' (first | rfl | trivial | omega | (simp; done) | apply And.intro))
  · intro hc1
    replace h := ite_f (by first | exact hc1 | simpa using hc1) h
    refine aw_skip ?_
    simp only [go_sem, ↓reduceIte, reduceCtorEq, Nat.reduceEqDiff, Nat.reduceAdd, Nat.reduceSub, Nat.reduceMul, Nat.reduceLeDiff, Nat.reduceLT, Int.reduceLE, Int.reduceLT, Int.reduceToNat, Int.reduceNeg]
    refine s_seq ?_
    refine aw_reg hG ?_
    simp only [r_law11_LineEqual_3, go_sem, ↓reduceIte, reduceCtorEq, Nat.reduceEqDiff, Nat.reduceAdd, Nat.reduceSub, Nat.reduceMul, Nat.reduceLeDiff, Nat.reduceLT, Int.reduceLE, Int.reduceLT, Int.reduceToNat, Int.reduceNeg]
    repeat refine And.intro (by first | assumption | omega | rfl | (simp; done) | (simp; omega) | (intros; simp_all; done) | grind) ?_
    refine s_seq ?_
    refine s_seq ?_
    refine aw_reg hG ?_
    simp only [r_law11_LineEqual_4, go_sem, ↓reduceIte, reduceCtorEq, Nat.reduceEqDiff, Nat.reduceAdd, Nat.reduceSub, Nat.reduceMul, Nat.reduceLeDiff, Nat.reduceLT, Int.reduceLE, Int.reduceLT, Int.reduceToNat, Int.reduceNeg]
    repeat refine And.intro (by first | assumption | omega | rfl | (simp; done) | (simp; omega) | (intros; simp_all; done) | grind) ?_
    refine s_blockJ (J_law11_LineEqual_k1 a0 a1) (fun v => f_law11_LineEqual_k1 a0 a1 v = some r) ?_ ?_
    · intro j1 h
      unfold f_law11_LineEqual_k1 at h
      simp only [J_law11_LineEqual_k1, go_sem, ↓reduceIte, reduceCtorEq, Nat.reduceEqDiff, Nat.reduceAdd, Nat.reduceSub, Nat.reduceMul, Nat.reduceLeDiff, Nat.reduceLT, Int.reduceLE, Int.reduceLT, Int.reduceToNat, Int.reduceNeg]
      refine s_seq ?_
      refine aw_reg hG ?_
      simp only [r_law11_LineEqual_11, go_sem, ↓reduceIte, reduceCtorEq, Nat.reduceEqDiff, Nat.reduceAdd, Nat.reduceSub, Nat.reduceMul, Nat.reduceLeDiff, Nat.reduceLT, Int.reduceLE, Int.reduceLT, Int.reduceToNat, Int.reduceNeg]
      repeat refine And.intro (by first | assumption | omega | rfl | (simp; done) | (simp; omega) | (intros; simp_all; done) | grind) ?_
      obtain ⟨v2, hv2, h⟩ := bind_of h
      refine acall_of (fun hg => law11_claim_ok a0 a1 _ (hv2)) ?_
      simp only [go_sem, ↓reduceIte, reduceCtorEq, Nat.reduceEqDiff, Nat.reduceAdd, Nat.reduceSub, Nat.reduceMul, Nat.reduceLeDiff, Nat.reduceLT, Int.reduceLE, Int.reduceLT, Int.reduceToNat, Int.reduceNeg]
      repeat refine And.intro (by first | assumption | omega | rfl | (simp; done) | (simp; omega) | (intros; simp_all; done) | grind) ?_
      obtain ⟨v3, hv3, h⟩ := bind_of h
      refine acall_of (fun hg => line_Insert_ok j1 v2 _ (hv3)) ?_
      simp only [go_sem, ↓reduceIte, reduceCtorEq, Nat.reduceEqDiff, Nat.reduceAdd, Nat.reduceSub, Nat.reduceMul, Nat.reduceLeDiff, Nat.reduceLT, Int.reduceLE, Int.reduceLT, Int.reduceToNat, Int.reduceNeg]
      repeat refine And.intro (by first | assumption | omega | rfl | (simp; done) | (simp; omega) | (intros; simp_all; done) | grind) ?_
      refine s_seq ?_
      refine aw_reg hG ?_
      simp only [r_law11_LineEqual_12, go_sem, ↓reduceIte, reduceCtorEq, Nat.reduceEqDiff, Nat.reduceAdd, Nat.reduceSub, Nat.reduceMul, Nat.reduceLeDiff, Nat.reduceLT, Int.reduceLE, Int.reduceLT, Int.reduceToNat, Int.reduceNeg]
      repeat refine And.intro (by first | assumption | omega | rfl | (simp; done) | (simp; omega) | (intros; simp_all; done) | grind) ?_
      obtain ⟨v4, hv4, h⟩ := bind_of h
      refine acall_of (fun hg => law11_awake_ok  _ (hv4)) ?_
      simp only [go_sem, ↓reduceIte, reduceCtorEq, Nat.reduceEqDiff, Nat.reduceAdd, Nat.reduceSub, Nat.reduceMul, Nat.reduceLeDiff, Nat.reduceLT, Int.reduceLE, Int.reduceLT, Int.reduceToNat, Int.reduceNeg]
      repeat refine And.intro (by first | assumption | omega | rfl | (simp; done) | (simp; omega) | (intros; simp_all; done) | grind) ?_
      refine aw_ret ?_
      simp only [go_sem, ↓reduceIte, reduceCtorEq, Nat.reduceEqDiff, Nat.reduceAdd, Nat.reduceSub, Nat.reduceMul, Nat.reduceLeDiff, Nat.reduceLT, Int.reduceLE, Int.reduceLT, Int.reduceToNat, Int.reduceNeg]
      obtain rfl := Option.some.inj h
      first | done | rfl | (simp; done) | (repeat' (first | rfl | trivial | omega | (simp; done) | apply And.intro))
    obtain ⟨x_l1, hl_l1, h⟩ := bind_of h
    refine s_loopO (I_law11_LineEqual_l1 a0 a1) hK [] hl_l1 ?_ ?_
    · simp only [I_law11_LineEqual_l1, go_sem, ↓reduceIte, reduceCtorEq, Nat.reduceEqDiff, Nat.reduceAdd, Nat.reduceSub, Nat.reduceMul, Nat.reduceLeDiff, Nat.reduceLT, Int.reduceLE, Int.reduceLT, Int.reduceToNat, Int.reduceNeg]
      first | (done) | trivial | (simp; done) | (repeat' (first | rfl | trivial | omega | (simp; done) | (simp; omega) | (congr 1; simp only [List.length_append, List.length_take, List.length_drop, List.length_replicate]; omega) | apply And.intro))
    · clear hl_l1
      intro g1 y_l1 h_l1 hx_l1
      unfold f_law11_LineEqual_l1 at h_l1
      simp only [I_law11_LineEqual_l1, go_sem, ↓reduceIte, reduceCtorEq, Nat.reduceEqDiff, Nat.reduceAdd, Nat.reduceSub, Nat.reduceMul, Nat.reduceLeDiff, Nat.reduceLT, Int.reduceLE, Int.reduceLT, Int.reduceToNat, Int.reduceNeg]
      refine s_seq ?_
      refine s_seq ?_
      refine aw_reg hG ?_
      simp only [r_law11_LineEqual_5, go_sem, ↓reduceIte, reduceCtorEq, Nat.reduceEqDiff, Nat.reduceAdd, Nat.reduceSub, Nat.reduceMul, Nat.reduceLeDiff, Nat.reduceLT, Int.reduceLE, Int.reduceLT, Int.reduceToNat, Int.reduceNeg]
      repeat refine And.intro (by first | assumption | omega | rfl | (simp; done) | (simp; omega) | (intros; simp_all; done) | grind) ?_
      refine aw_cond rfl hG ?_ ?_
      · intro hc2
        replace h_l1 := ite_t (by first | exact hc2 | simpa using hc2) h_l1
        refine aw_skip ?_
        simp only [go_sem, ↓reduceIte, reduceCtorEq, Nat.reduceEqDiff, Nat.reduceAdd, Nat.reduceSub, Nat.reduceMul, Nat.reduceLeDiff, Nat.reduceLT, Int.reduceLE, Int.reduceLT, Int.reduceToNat, Int.reduceNeg]
        refine s_seq ?_
        refine s_block ?_
        refine s_seq ?_
        refine aw_reg hG ?_
        simp only [r_law11_LineEqual_7, go_sem, ↓reduceIte, reduceCtorEq, Nat.reduceEqDiff, Nat.reduceAdd, Nat.reduceSub, Nat.reduceMul, Nat.reduceLeDiff, Nat.reduceLT, Int.reduceLE, Int.reduceLT, Int.reduceToNat, Int.reduceNeg]
        repeat refine And.intro (by first | assumption | omega | rfl | (simp; done) | (simp; omega) | (intros; simp_all; done) | grind) ?_
        obtain ⟨v5, hv5, h_l1⟩ := bind_of h_l1
        refine acall_of (fun hg => law11_claim_ok g1.2 a1 _ (hv5)) ?_
        simp only [go_sem, ↓reduceIte, reduceCtorEq, Nat.reduceEqDiff, Nat.reduceAdd, Nat.reduceSub, Nat.reduceMul, Nat.reduceLeDiff, Nat.reduceLT, Int.reduceLE, Int.reduceLT, Int.reduceToNat, Int.reduceNeg]
        repeat refine And.intro (by first | assumption | omega | rfl | (simp; done) | (simp; omega) | (intros; simp_all; done) | grind) ?_
        obtain ⟨v6, hv6, h_l1⟩ := bind_of h_l1
        refine acall_of (fun hg => line_Insert_ok g1.1 v5 _ (hv6)) ?_
        simp only [go_sem, ↓reduceIte, reduceCtorEq, Nat.reduceEqDiff, Nat.reduceAdd, Nat.reduceSub, Nat.reduceMul, Nat.reduceLeDiff, Nat.reduceLT, Int.reduceLE, Int.reduceLT, Int.reduceToNat, Int.reduceNeg]
        repeat refine And.intro (by first | assumption | omega | rfl | (simp; done) | (simp; omega) | (intros; simp_all; done) | grind) ?_
        refine s_seq ?_
        refine s_seq ?_
        refine aw_reg hG ?_
        simp only [r_law11_LineEqual_8, go_sem, ↓reduceIte, reduceCtorEq, Nat.reduceEqDiff, Nat.reduceAdd, Nat.reduceSub, Nat.reduceMul, Nat.reduceLeDiff, Nat.reduceLT, Int.reduceLE, Int.reduceLT, Int.reduceToNat, Int.reduceNeg]
        repeat refine And.intro (by first | assumption | omega | rfl | (simp; done) | (simp; omega) | (intros; simp_all; done) | grind) ?_
        refine aw_cond rfl hG ?_ ?_
        · intro hc3
          replace h_l1 := ite_t (by first | exact hc3 | simpa using hc3) h_l1
          refine s_seq ?_
          refine aw_reg hG ?_
          simp only [r_law11_LineEqual_9, go_sem, ↓reduceIte, reduceCtorEq, Nat.reduceEqDiff, Nat.reduceAdd, Nat.reduceSub, Nat.reduceMul, Nat.reduceLeDiff, Nat.reduceLT, Int.reduceLE, Int.reduceLT, Int.reduceToNat, Int.reduceNeg]
          repeat refine And.intro (by first | assumption | omega | rfl | (simp; done) | (simp; omega) | (intros; simp_all; done) | grind) ?_
          refine aw_ret ?_
          simp only [go_sem, ↓reduceIte, reduceCtorEq, Nat.reduceEqDiff, Nat.reduceAdd, Nat.reduceSub, Nat.reduceMul, Nat.reduceLeDiff, Nat.reduceLT, Int.reduceLE, Int.reduceLT, Int.reduceToNat, Int.reduceNeg]
          obtain rfl := Option.some.inj h_l1
          have hx := hx_l1 _ rfl
          subst hx
          try dsimp only at h
          obtain rfl := Option.some.inj h
          first | done | rfl | (simp; done) | (repeat' (first | rfl | trivial | omega | (simp; done) | apply And.intro))
        · intro hc3
          replace h_l1 := ite_f (by first | exact hc3 | simpa using hc3) h_l1
          refine aw_skip ?_
          simp only [go_sem, ↓reduceIte, reduceCtorEq, Nat.reduceEqDiff, Nat.reduceAdd, Nat.reduceSub, Nat.reduceMul, Nat.reduceLeDiff, Nat.reduceLT, Int.reduceLE, Int.reduceLT, Int.reduceToNat, Int.reduceNeg]
          refine aw_reg hG ?_
          simp only [r_law11_LineEqual_10, go_sem, ↓reduceIte, reduceCtorEq, Nat.reduceEqDiff, Nat.reduceAdd, Nat.reduceSub, Nat.reduceMul, Nat.reduceLeDiff, Nat.reduceLT, Int.reduceLE, Int.reduceLT, Int.reduceToNat, Int.reduceNeg]
          repeat refine And.intro (by first | assumption | omega | rfl | (simp; done) | (simp; omega) | (intros; simp_all; done) | grind) ?_
          refine aw_reg hG ?_
          simp only [r_law11_LineEqual_6, go_sem, ↓reduceIte, reduceCtorEq, Nat.reduceEqDiff, Nat.reduceAdd, Nat.reduceSub, Nat.reduceMul, Nat.reduceLeDiff, Nat.reduceLT, Int.reduceLE, Int.reduceLT, Int.reduceToNat, Int.reduceNeg]
          repeat refine And.intro (by first | assumption | omega | rfl | (simp; done) | (simp; omega) | (intros; simp_all; done) | grind) ?_
          obtain rfl := Option.some.inj h_l1
          refine loopN_of hK [] ?_
          simp only [I_law11_LineEqual_l1, go_sem, ↓reduceIte, reduceCtorEq, Nat.reduceEqDiff, Nat.reduceAdd, Nat.reduceSub, Nat.reduceMul, Nat.reduceLeDiff, Nat.reduceLT, Int.reduceLE, Int.reduceLT, Int.reduceToNat, Int.reduceNeg]
          first | (done) | trivial | (simp; done) | (repeat' (first | rfl | trivial | omega | (simp; done) | (simp; omega) | (congr 1; simp only [List.length_append, List.length_take, List.length_drop, List.length_replicate]; omega) | apply And.intro))
      · intro hc2
        replace h_l1 := ite_f (by first | exact hc2 | simpa using hc2) h_l1
        refine aw_exit ?_
        simp only [go_sem, ↓reduceIte, reduceCtorEq, Nat.reduceEqDiff, Nat.reduceAdd, Nat.reduceSub, Nat.reduceMul, Nat.reduceLeDiff, Nat.reduceLT, Int.reduceLE, Int.reduceLT, Int.reduceToNat, Int.reduceNeg]
        obtain rfl := Option.some.inj h_l1
        have hx := hx_l1 _ rfl
        subst hx
        try dsimp only at h
        refine joinG_of hK g1.1 (by exact h) [] ?_
        simp only [J_law11_LineEqual_k1, go_sem, ↓reduceIte, reduceCtorEq, Nat.reduceEqDiff, Nat.reduceAdd, Nat.reduceSub, Nat.reduceMul, Nat.reduceLeDiff, Nat.reduceLT, Int.reduceLE, Int.reduceLT, Int.reduceToNat, Int.reduceNeg]
        first | (done) | trivial | (simp; done) | (repeat' (first | rfl | trivial | omega | (simp; done) | (simp; omega) | (congr 1; simp only [List.length_append, List.length_take, List.length_drop, List.length_replicate]; omega) | apply And.intro))

noncomputable def f_line_Remove_k1 (a0 : List Wait) (j1 : (List Wait)) : Option ((List Wait) × Bool) :=
  some (j1, (decide (((j1.length : Nat) : Int) < (a0.length : Int))))
def J_line_Remove_k1 (a0 : List Wait) (j1 : (List Wait)) : St := ⟨[(0, .sl (a0.map Wait.enc)), (6, .own 0 0 j1.length)], [(0, ⟨false, 7, (Wait.enc Wait.zero), j1.map Wait.enc⟩)], 1⟩
noncomputable def f_line_Remove_l1 (a0 : List Wait) (a1 : Proc) (g1 : Int × (List Wait)) : Option ((Int × (List Wait)) ⊕ (((List Wait)))) :=
  (if (decide (g1.1 < (a0.length : Int))) = true then
    gd (0 ≤ g1.1 ∧ g1.1 < (a0.length : Int)) <|
    (if (!decide ((a0.getD g1.1.toNat Wait.zero).proc = a1)) = true then
      gd (g1.2.length + 1 ≤ 4294967296) <|
      some (.inl ((IntKind.i64.wrap (g1.1 + 1)), (g1.2 ++ [(a0.getD g1.1.toNat Wait.zero)])))
    else
      some (.inl ((IntKind.i64.wrap (g1.1 + 1)), g1.2)))
  else
    some (.inr g1.2))
def I_line_Remove_l1 (a0 : List Wait) (a1 : Proc) (g1 : Int × (List Wait)) : St := ⟨[(0, .sl (a0.map Wait.enc)), (3, .ptr 0 0 0), (6, .own 1 0 g1.2.length), (9, .sl (a0.map Wait.enc)), (10, .int .i64 (a0.length : Int)), (11, .int .i64 g1.1)], [(0, ⟨false, 3, (Proc.enc a1), [Proc.enc a1]⟩), (1, ⟨false, 7, (Wait.enc Wait.zero), g1.2.map Wait.enc⟩)], 2⟩
noncomputable def f_line_Remove (a0 : List Wait) (a1 : Proc) : Option ((List Wait) × Bool) :=
  (loopO (f_line_Remove_l1 a0 a1) (0, [])).bind (fun z => f_line_Remove_k1 a0 z)
theorem line_Remove_ok (a0 : List Wait) (a1 : Proc) (r : (List Wait) × Bool) (h : f_line_Remove a0 a1 = some r) : PFn C 19 [.sl (a0.map Wait.enc), .agg (Proc.enc a1)] (.tup [.sl (r.1.map Wait.enc), .bool r.2]) := by
  refine pfn_intro chk_line_Remove rfl fun E hG hN hK => ?_
  unfold pc_line_Remove
  unfold f_line_Remove at h
  refine s_seq ?_
  refine aw_reg hG ?_
  simp only [r_line_Remove_0, go_sem, ↓reduceIte, reduceCtorEq, Nat.reduceEqDiff, Nat.reduceAdd, Nat.reduceSub, Nat.reduceMul, Nat.reduceLeDiff, Nat.reduceLT, Int.reduceLE, Int.reduceLT, Int.reduceToNat, Int.reduceNeg]
  repeat refine And.intro (by first | assumption | omega | rfl | (simp; done) | (simp; omega) | (intros; simp_all; done) | grind) ?_
  refine s_seq ?_
  refine aw_reg hG ?_
  simp only [r_line_Remove_1, go_sem, ↓reduceIte, reduceCtorEq, Nat.reduceEqDiff, Nat.reduceAdd, Nat.reduceSub, Nat.reduceMul, Nat.reduceLeDiff, Nat.reduceLT, Int.reduceLE, Int.reduceLT, Int.reduceToNat, Int.reduceNeg]
  repeat refine And.intro (by first | assumption | omega | rfl | (simp; done) | (simp; omega) | (intros; simp_all; done) | grind) ?_
  refine s_seq ?_
  refine s_seq ?_
  refine aw_reg hG ?_
  simp only [r_line_Remove_2, go_sem, ↓reduceIte, reduceCtorEq, Nat.reduceEqDiff, Nat.reduceAdd, Nat.reduceSub, Nat.reduceMul, Nat.reduceLeDiff, Nat.reduceLT, Int.reduceLE, Int.reduceLT, Int.reduceToNat, Int.reduceNeg]
  repeat refine And.intro (by first | assumption | omega | rfl | (simp; done) | (simp; omega) | (intros; simp_all; done) | grind) ?_
  refine s_blockJ (J_line_Remove_k1 a0) (fun v => f_line_Remove_k1 a0 v = some r) ?_ ?_
  · intro j1 h
    unfold f_line_Remove_k1 at h
    simp only [J_line_Remove_k1, go_sem, ↓reduceIte, reduceCtorEq, Nat.reduceEqDiff, Nat.reduceAdd, Nat.reduceSub, Nat.reduceMul, Nat.reduceLeDiff, Nat.reduceLT, Int.reduceLE, Int.reduceLT, Int.reduceToNat, Int.reduceNeg]
    refine s_seq ?_
    refine aw_reg hG ?_
    simp only [r_line_Remove_8, go_sem, ↓reduceIte, reduceCtorEq, Nat.reduceEqDiff, Nat.reduceAdd, Nat.reduceSub, Nat.reduceMul, Nat.reduceLeDiff, Nat.reduceLT, Int.reduceLE, Int.reduceLT, Int.reduceToNat, Int.reduceNeg]
    repeat refine And.intro (by first | assumption | omega | rfl | (simp; done) | (simp; omega) | (intros; simp_all; done) | grind) ?_
    refine aw_ret ?_
    simp only [go_sem, ↓reduceIte, reduceCtorEq, Nat.reduceEqDiff, Nat.reduceAdd, Nat.reduceSub, Nat.reduceMul, Nat.reduceLeDiff, Nat.reduceLT, Int.reduceLE, Int.reduceLT, Int.reduceToNat, Int.reduceNeg]
    obtain rfl := Option.some.inj h
    first | done | rfl | (simp; done) | (repeat' (first | rfl | trivial | omega | (simp; done) | apply And.intro))
  obtain ⟨x_l1, hl_l1, h⟩ := bind_of h
  refine s_loopO (I_line_Remove_l1 a0 a1) hK [(0, 0), (1, 1)] hl_l1 ?_ ?_
  · simp only [I_line_Remove_l1, go_sem, ↓reduceIte, reduceCtorEq, Nat.reduceEqDiff, Nat.reduceAdd, Nat.reduceSub, Nat.reduceMul, Nat.reduceLeDiff, Nat.reduceLT, Int.reduceLE, Int.reduceLT, Int.reduceToNat, Int.reduceNeg]
    first | (done) | trivial | (simp; done) | (repeat' (first | rfl | trivial | omega | (simp; done) | (simp; omega) | (congr 1; simp only [List.length_append, List.length_take, List.length_drop, List.length_replicate]; omega) | apply And.intro))
  · clear hl_l1
    intro g1 y_l1 h_l1 hx_l1
    unfold f_line_Remove_l1 at h_l1
    simp only [I_line_Remove_l1, go_sem, ↓reduceIte, reduceCtorEq, Nat.reduceEqDiff, Nat.reduceAdd, Nat.reduceSub, Nat.reduceMul, Nat.reduceLeDiff, Nat.reduceLT, Int.reduceLE, Int.reduceLT, Int.reduceToNat, Int.reduceNeg]
    refine s_seq ?_
    refine aw_reg hG ?_
    simp only [r_line_Remove_3, go_sem, ↓reduceIte, reduceCtorEq, Nat.reduceEqDiff, Nat.reduceAdd, Nat.reduceSub, Nat.reduceMul, Nat.reduceLeDiff, Nat.reduceLT, Int.reduceLE, Int.reduceLT, Int.reduceToNat, Int.reduceNeg]
    repeat refine And.intro (by first | assumption | omega | rfl | (simp; done) | (simp; omega) | (intros; simp_all; done) | grind) ?_
    refine s_seq ?_
    refine aw_cond rfl hG ?_ ?_
    · intro hc1
      replace h_l1 := ite_t (by first | exact hc1 | simpa using hc1) h_l1
      refine aw_skip ?_
      simp only [go_sem, ↓reduceIte, reduceCtorEq, Nat.reduceEqDiff, Nat.reduceAdd, Nat.reduceSub, Nat.reduceMul, Nat.reduceLeDiff, Nat.reduceLT, Int.reduceLE, Int.reduceLT, Int.reduceToNat, Int.reduceNeg]
      refine s_seq ?_
      refine s_block ?_
      refine s_seq ?_
      obtain ⟨hb2, h_l1⟩ := gd_some h_l1
      refine aw_reg hG ?_
      simp only [r_line_Remove_4, go_sem, ↓reduceIte, reduceCtorEq, Nat.reduceEqDiff, Nat.reduceAdd, Nat.reduceSub, Nat.reduceMul, Nat.reduceLeDiff, Nat.reduceLT, Int.reduceLE, Int.reduceLT, Int.reduceToNat, Int.reduceNeg, hb2]
      repeat refine And.intro (by first | assumption | omega | rfl | (simp; done) | (simp; omega) | (intros; simp_all; done) | grind) ?_
      refine s_seq ?_
      refine aw_reg hG ?_
      simp only [r_line_Remove_5, go_sem, ↓reduceIte, reduceCtorEq, Nat.reduceEqDiff, Nat.reduceAdd, Nat.reduceSub, Nat.reduceMul, Nat.reduceLeDiff, Nat.reduceLT, Int.reduceLE, Int.reduceLT, Int.reduceToNat, Int.reduceNeg]
      repeat refine And.intro (by first | assumption | omega | rfl | (simp; done) | (simp; omega) | (intros; simp_all; done) | grind) ?_
      refine aw_cond rfl hG ?_ ?_
      · intro hc2
        replace h_l1 := ite_t (by first | exact hc2 | simpa using hc2) h_l1
        obtain ⟨hb1, h_l1⟩ := gd_some h_l1
        refine aw_reg hG ?_
        simp only [r_line_Remove_6, go_sem, ↓reduceIte, reduceCtorEq, Nat.reduceEqDiff, Nat.reduceAdd, Nat.reduceSub, Nat.reduceMul, Nat.reduceLeDiff, Nat.reduceLT, Int.reduceLE, Int.reduceLT, Int.reduceToNat, Int.reduceNeg, hb1]
        repeat refine And.intro (by first | assumption | omega | rfl | (simp; done) | (simp; omega) | (intros; simp_all; done) | grind) ?_
        refine aw_reg hG ?_
        simp only [r_line_Remove_7, go_sem, ↓reduceIte, reduceCtorEq, Nat.reduceEqDiff, Nat.reduceAdd, Nat.reduceSub, Nat.reduceMul, Nat.reduceLeDiff, Nat.reduceLT, Int.reduceLE, Int.reduceLT, Int.reduceToNat, Int.reduceNeg]
        repeat refine And.intro (by first | assumption | omega | rfl | (simp; done) | (simp; omega) | (intros; simp_all; done) | grind) ?_
        obtain rfl := Option.some.inj h_l1
        refine loopN_of hK [(0, 0), (1, 3)] ?_
        simp only [I_line_Remove_l1, go_sem, ↓reduceIte, reduceCtorEq, Nat.reduceEqDiff, Nat.reduceAdd, Nat.reduceSub, Nat.reduceMul, Nat.reduceLeDiff, Nat.reduceLT, Int.reduceLE, Int.reduceLT, Int.reduceToNat, Int.reduceNeg]
        first | (done) | trivial | (simp; done) | (repeat' (first | rfl | trivial | omega | (simp; done) | (simp; omega) | (congr 1; simp only [List.length_append, List.length_take, List.length_drop, List.length_replicate]; omega) | apply And.intro))
      · intro hc2
        replace h_l1 := ite_f (by first | exact hc2 | simpa using hc2) h_l1
        refine aw_skip ?_
        simp only [go_sem, ↓reduceIte, reduceCtorEq, Nat.reduceEqDiff, Nat.reduceAdd, Nat.reduceSub, Nat.reduceMul, Nat.reduceLeDiff, Nat.reduceLT, Int.reduceLE, Int.reduceLT, Int.reduceToNat, Int.reduceNeg]
        refine aw_reg hG ?_
        simp only [r_line_Remove_7, go_sem, ↓reduceIte, reduceCtorEq, Nat.reduceEqDiff, Nat.reduceAdd, Nat.reduceSub, Nat.reduceMul, Nat.reduceLeDiff, Nat.reduceLT, Int.reduceLE, Int.reduceLT, Int.reduceToNat, Int.reduceNeg]
        repeat refine And.intro (by first | assumption | omega | rfl | (simp; done) | (simp; omega) | (intros; simp_all; done) | grind) ?_
        obtain rfl := Option.some.inj h_l1
        refine loopN_of hK [(0, 0), (1, 1)] ?_
        simp only [I_line_Remove_l1, go_sem, ↓reduceIte, reduceCtorEq, Nat.reduceEqDiff, Nat.reduceAdd, Nat.reduceSub, Nat.reduceMul, Nat.reduceLeDiff, Nat.reduceLT, Int.reduceLE, Int.reduceLT, Int.reduceToNat, Int.reduceNeg]
        first | (done) | trivial | (simp; done) | (repeat' (first | rfl | trivial | omega | (simp; done) | (simp; omega) | (congr 1; simp only [List.length_append, List.length_take, List.length_drop, List.length_replicate]; omega) | apply And.intro))
    · intro hc1
      replace h_l1 := ite_f (by first | exact hc1 | simpa using hc1) h_l1
      refine aw_exit ?_
      simp only [go_sem, ↓reduceIte, reduceCtorEq, Nat.reduceEqDiff, Nat.reduceAdd, Nat.reduceSub, Nat.reduceMul, Nat.reduceLeDiff, Nat.reduceLT, Int.reduceLE, Int.reduceLT, Int.reduceToNat, Int.reduceNeg]
      obtain rfl := Option.some.inj h_l1
      have hx := hx_l1 _ rfl
      subst hx
      try dsimp only at h
      refine joinG_of hK g1.2 (by exact h) [(0, 1)] ?_
      simp only [J_line_Remove_k1, go_sem, ↓reduceIte, reduceCtorEq, Nat.reduceEqDiff, Nat.reduceAdd, Nat.reduceSub, Nat.reduceMul, Nat.reduceLeDiff, Nat.reduceLT, Int.reduceLE, Int.reduceLT, Int.reduceToNat, Int.reduceNeg]
      first | (done) | trivial | (simp; done) | (repeat' (first | rfl | trivial | omega | (simp; done) | (simp; omega) | (congr 1; simp only [List.length_append, List.length_take, List.length_drop, List.length_replicate]; omega) | apply And.intro))

noncomputable def f_ref11_Remove_k1 (a0 : List Wait) (j1 : (List Wait)) : Option ((List Wait) × Bool) :=
  some (j1, (decide (((j1.length : Nat) : Int) < (a0.length : Int))))
def J_ref11_Remove_k1 (a0 : List Wait) (j1 : (List Wait)) : St := ⟨[(0, .sl (a0.map Wait.enc)), (6, .own 0 0 j1.length)], [(0, ⟨false, 7, (Wait.enc Wait.zero), j1.map Wait.enc⟩)], 1⟩
noncomputable def f_ref11_Remove_l1 (a0 : List Wait) (a1 : Proc) (g1 : Int × (List Wait)) : Option ((Int × (List Wait)) ⊕ (((List Wait)))) :=
  (if (decide (g1.1 < (a0.length : Int))) = true then
    gd (0 ≤ g1.1 ∧ g1.1 < (a0.length : Int)) <|
    (if (!decide ((a0.getD g1.1.toNat Wait.zero).proc = a1)) = true then
      gd (0 ≤ g1.1 ∧ g1.1 < (a0.length : Int)) <|
      gd (g1.2.length + 1 ≤ 4294967296) <|
      some (.inl ((IntKind.i64.wrap (g1.1 + 1)), (g1.2 ++ [(a0.getD g1.1.toNat Wait.zero)])))
    else
      some (.inl ((IntKind.i64.wrap (g1.1 + 1)), g1.2)))
  else
    some (.inr g1.2))
def I_ref11_Remove_l1 (a0 : List Wait) (a1 : Proc) (g1 : Int × (List Wait)) : St := ⟨[(0, .sl (a0.map Wait.enc)), (3, .ptr 0 0 0), (6, .own 1 0 g1.2.length), (7, .int .i64 g1.1)], [(0, ⟨false, 3, (Proc.enc a1), [Proc.enc a1]⟩), (1, ⟨false, 7, (Wait.enc Wait.zero), g1.2.map Wait.enc⟩)], 2⟩
noncomputable def f_ref11_Remove (a0 : List Wait) (a1 : Proc) : Option ((List Wait) × Bool) :=
  (loopO (f_ref11_Remove_l1 a0 a1) (0, [])).bind (fun z => f_ref11_Remove_k1 a0 z)
theorem ref11_Remove_ok (a0 : List Wait) (a1 : Proc) (r : (List Wait) × Bool) (h : f_ref11_Remove a0 a1 = some r) : PFn C 20 [.sl (a0.map Wait.enc), .agg (Proc.enc a1)] (.tup [.sl (r.1.map Wait.enc), .bool r.2]) := by
  refine pfn_intro chk_ref11_Remove rfl fun E hG hN hK => ?_
  unfold pc_ref11_Remove
  unfold f_ref11_Remove at h
  refine s_seq ?_
  refine aw_reg hG ?_
  simp only [r_ref11_Remove_0, go_sem, ↓reduceIte, reduceCtorEq, Nat.reduceEqDiff, Nat.reduceAdd, Nat.reduceSub, Nat.reduceMul, Nat.reduceLeDiff, Nat.reduceLT, Int.reduceLE, Int.reduceLT, Int.reduceToNat, Int.reduceNeg]
  repeat refine And.intro (by first | assumption | omega | rfl | (simp; done) | (simp; omega) | (intros; simp_all; done) | grind) ?_
  refine s_seq ?_
  refine aw_reg hG ?_
  simp only [r_ref11_Remove_1, go_sem, ↓reduceIte, reduceCtorEq, Nat.reduceEqDiff, Nat.reduceAdd, Nat.reduceSub, Nat.reduceMul, Nat.reduceLeDiff, Nat.reduceLT, Int.reduceLE, Int.reduceLT, Int.reduceToNat, Int.reduceNeg]
  repeat refine And.intro (by first | assumption | omega | rfl | (simp; done) | (simp; omega) | (intros; simp_all; done) | grind) ?_
  refine s_seq ?_
  refine s_seq ?_
  refine aw_reg hG ?_
  simp only [r_ref11_Remove_2, go_sem, ↓reduceIte, reduceCtorEq, Nat.reduceEqDiff, Nat.reduceAdd, Nat.reduceSub, Nat.reduceMul, Nat.reduceLeDiff, Nat.reduceLT, Int.reduceLE, Int.reduceLT, Int.reduceToNat, Int.reduceNeg]
  repeat refine And.intro (by first | assumption | omega | rfl | (simp; done) | (simp; omega) | (intros; simp_all; done) | grind) ?_
  refine s_blockJ (J_ref11_Remove_k1 a0) (fun v => f_ref11_Remove_k1 a0 v = some r) ?_ ?_
  · intro j1 h
    unfold f_ref11_Remove_k1 at h
    simp only [J_ref11_Remove_k1, go_sem, ↓reduceIte, reduceCtorEq, Nat.reduceEqDiff, Nat.reduceAdd, Nat.reduceSub, Nat.reduceMul, Nat.reduceLeDiff, Nat.reduceLT, Int.reduceLE, Int.reduceLT, Int.reduceToNat, Int.reduceNeg]
    refine s_seq ?_
    refine aw_reg hG ?_
    simp only [r_ref11_Remove_7, go_sem, ↓reduceIte, reduceCtorEq, Nat.reduceEqDiff, Nat.reduceAdd, Nat.reduceSub, Nat.reduceMul, Nat.reduceLeDiff, Nat.reduceLT, Int.reduceLE, Int.reduceLT, Int.reduceToNat, Int.reduceNeg]
    repeat refine And.intro (by first | assumption | omega | rfl | (simp; done) | (simp; omega) | (intros; simp_all; done) | grind) ?_
    refine aw_ret ?_
    simp only [go_sem, ↓reduceIte, reduceCtorEq, Nat.reduceEqDiff, Nat.reduceAdd, Nat.reduceSub, Nat.reduceMul, Nat.reduceLeDiff, Nat.reduceLT, Int.reduceLE, Int.reduceLT, Int.reduceToNat, Int.reduceNeg]
    obtain rfl := Option.some.inj h
    first | done | rfl | (simp; done) | (repeat' (first | rfl | trivial | omega | (simp; done) | apply And.intro))
  obtain ⟨x_l1, hl_l1, h⟩ := bind_of h
  refine s_loopO (I_ref11_Remove_l1 a0 a1) hK [(0, 0), (1, 1)] hl_l1 ?_ ?_
  · simp only [I_ref11_Remove_l1, go_sem, ↓reduceIte, reduceCtorEq, Nat.reduceEqDiff, Nat.reduceAdd, Nat.reduceSub, Nat.reduceMul, Nat.reduceLeDiff, Nat.reduceLT, Int.reduceLE, Int.reduceLT, Int.reduceToNat, Int.reduceNeg]
    first | (done) | trivial | (simp; done) | (repeat' (first | rfl | trivial | omega | (simp; done) | (simp; omega) | (congr 1; simp only [List.length_append, List.length_take, List.length_drop, List.length_replicate]; omega) | apply And.intro))
  · clear hl_l1
    intro g1 y_l1 h_l1 hx_l1
    unfold f_ref11_Remove_l1 at h_l1
    simp only [I_ref11_Remove_l1, go_sem, ↓reduceIte, reduceCtorEq, Nat.reduceEqDiff, Nat.reduceAdd, Nat.reduceSub, Nat.reduceMul, Nat.reduceLeDiff, Nat.reduceLT, Int.reduceLE, Int.reduceLT, Int.reduceToNat, Int.reduceNeg]
    refine s_seq ?_
    refine s_seq ?_
    refine aw_reg hG ?_
    simp only [r_ref11_Remove_3, go_sem, ↓reduceIte, reduceCtorEq, Nat.reduceEqDiff, Nat.reduceAdd, Nat.reduceSub, Nat.reduceMul, Nat.reduceLeDiff, Nat.reduceLT, Int.reduceLE, Int.reduceLT, Int.reduceToNat, Int.reduceNeg]
    repeat refine And.intro (by first | assumption | omega | rfl | (simp; done) | (simp; omega) | (intros; simp_all; done) | grind) ?_
    refine aw_cond rfl hG ?_ ?_
    · intro hc1
      replace h_l1 := ite_t (by first | exact hc1 | simpa using hc1) h_l1
      refine aw_skip ?_
      simp only [go_sem, ↓reduceIte, reduceCtorEq, Nat.reduceEqDiff, Nat.reduceAdd, Nat.reduceSub, Nat.reduceMul, Nat.reduceLeDiff, Nat.reduceLT, Int.reduceLE, Int.reduceLT, Int.reduceToNat, Int.reduceNeg]
      refine s_seq ?_
      refine s_block ?_
      refine s_seq ?_
      obtain ⟨hb3, h_l1⟩ := gd_some h_l1
      refine aw_regd C_mixed hG ?_
      simp only [r_ref11_Remove_5, go_sem, ↓reduceIte, reduceCtorEq, Nat.reduceEqDiff, Nat.reduceAdd, Nat.reduceSub, Nat.reduceMul, Nat.reduceLeDiff, Nat.reduceLT, Int.reduceLE, Int.reduceLT, Int.reduceToNat, Int.reduceNeg, hb3]
      repeat refine And.intro (by first | assumption | omega | rfl | (simp; done) | (simp; omega) | (intros; simp_all; done) | grind) ?_
      refine aw_cond rfl hG ?_ ?_
      · intro hc2
        replace h_l1 := ite_t (by first | exact hc2 | simpa using hc2) h_l1
        obtain ⟨hb1, h_l1⟩ := gd_some h_l1
        obtain ⟨hb2, h_l1⟩ := gd_some h_l1
        refine aw_reg hG ?_
        simp only [r_ref11_Remove_6, go_sem, ↓reduceIte, reduceCtorEq, Nat.reduceEqDiff, Nat.reduceAdd, Nat.reduceSub, Nat.reduceMul, Nat.reduceLeDiff, Nat.reduceLT, Int.reduceLE, Int.reduceLT, Int.reduceToNat, Int.reduceNeg, hb1, hb2]
        repeat refine And.intro (by first | assumption | omega | rfl | (simp; done) | (simp; omega) | (intros; simp_all; done) | grind) ?_
        refine aw_reg hG ?_
        simp only [r_ref11_Remove_4, go_sem, ↓reduceIte, reduceCtorEq, Nat.reduceEqDiff, Nat.reduceAdd, Nat.reduceSub, Nat.reduceMul, Nat.reduceLeDiff, Nat.reduceLT, Int.reduceLE, Int.reduceLT, Int.reduceToNat, Int.reduceNeg]
        repeat refine And.intro (by first | assumption | omega | rfl | (simp; done) | (simp; omega) | (intros; simp_all; done) | grind) ?_
        obtain rfl := Option.some.inj h_l1
        refine loopN_of hK [(0, 0), (1, 2)] ?_
        simp only [I_ref11_Remove_l1, go_sem, ↓reduceIte, reduceCtorEq, Nat.reduceEqDiff, Nat.reduceAdd, Nat.reduceSub, Nat.reduceMul, Nat.reduceLeDiff, Nat.reduceLT, Int.reduceLE, Int.reduceLT, Int.reduceToNat, Int.reduceNeg]
        first | (done) | trivial | (simp; done) | (repeat' (first | rfl | trivial | omega | (simp; done) | (simp; omega) | (congr 1; simp only [List.length_append, List.length_take, List.length_drop, List.length_replicate]; omega) | apply And.intro))
      · intro hc2
        replace h_l1 := ite_f (by first | exact hc2 | simpa using hc2) h_l1
        refine aw_skip ?_
        simp only [go_sem, ↓reduceIte, reduceCtorEq, Nat.reduceEqDiff, Nat.reduceAdd, Nat.reduceSub, Nat.reduceMul, Nat.reduceLeDiff, Nat.reduceLT, Int.reduceLE, Int.reduceLT, Int.reduceToNat, Int.reduceNeg]
        refine aw_reg hG ?_
        simp only [r_ref11_Remove_4, go_sem, ↓reduceIte, reduceCtorEq, Nat.reduceEqDiff, Nat.reduceAdd, Nat.reduceSub, Nat.reduceMul, Nat.reduceLeDiff, Nat.reduceLT, Int.reduceLE, Int.reduceLT, Int.reduceToNat, Int.reduceNeg]
        repeat refine And.intro (by first | assumption | omega | rfl | (simp; done) | (simp; omega) | (intros; simp_all; done) | grind) ?_
        obtain rfl := Option.some.inj h_l1
        refine loopN_of hK [(0, 0), (1, 1)] ?_
        simp only [I_ref11_Remove_l1, go_sem, ↓reduceIte, reduceCtorEq, Nat.reduceEqDiff, Nat.reduceAdd, Nat.reduceSub, Nat.reduceMul, Nat.reduceLeDiff, Nat.reduceLT, Int.reduceLE, Int.reduceLT, Int.reduceToNat, Int.reduceNeg]
        first | (done) | trivial | (simp; done) | (repeat' (first | rfl | trivial | omega | (simp; done) | (simp; omega) | (congr 1; simp only [List.length_append, List.length_take, List.length_drop, List.length_replicate]; omega) | apply And.intro))
    · intro hc1
      replace h_l1 := ite_f (by first | exact hc1 | simpa using hc1) h_l1
      refine aw_exit ?_
      simp only [go_sem, ↓reduceIte, reduceCtorEq, Nat.reduceEqDiff, Nat.reduceAdd, Nat.reduceSub, Nat.reduceMul, Nat.reduceLeDiff, Nat.reduceLT, Int.reduceLE, Int.reduceLT, Int.reduceToNat, Int.reduceNeg]
      obtain rfl := Option.some.inj h_l1
      have hx := hx_l1 _ rfl
      subst hx
      try dsimp only at h
      refine joinG_of hK g1.2 (by exact h) [(0, 1)] ?_
      simp only [J_ref11_Remove_k1, go_sem, ↓reduceIte, reduceCtorEq, Nat.reduceEqDiff, Nat.reduceAdd, Nat.reduceSub, Nat.reduceMul, Nat.reduceLeDiff, Nat.reduceLT, Int.reduceLE, Int.reduceLT, Int.reduceToNat, Int.reduceNeg]
      first | (done) | trivial | (simp; done) | (repeat' (first | rfl | trivial | omega | (simp; done) | (simp; omega) | (congr 1; simp only [List.length_append, List.length_take, List.length_drop, List.length_replicate]; omega) | apply And.intro))

noncomputable def f_ref11_Ahead_k1  (j1 : (List Proc)) : Option ((List Proc)) :=
  some j1
def J_ref11_Ahead_k1  (j1 : (List Proc)) : St := ⟨[(5, .own 0 0 j1.length)], [(0, ⟨false, 3, (Proc.enc Proc.zero), j1.map Proc.enc⟩)], 1⟩
noncomputable def f_ref11_Ahead_l1 (a0 : List Wait) (v1 : Int) (g1 : Int × (List Proc)) : Option ((Int × (List Proc)) ⊕ (((List Proc)))) :=
  (if (decide (g1.1 < v1)) = true then
    gd (0 ≤ g1.1 ∧ g1.1 < (a0.length : Int)) <|
    gd (g1.2.length + 1 ≤ 4294967296) <|
    some (.inl ((IntKind.i64.wrap (g1.1 + 1)), (g1.2 ++ [(a0.getD g1.1.toNat Wait.zero).proc])))
  else
    some (.inr g1.2))
def I_ref11_Ahead_l1 (a0 : List Wait) (v1 : Int) (g1 : Int × (List Proc)) : St := ⟨[(0, .sl (a0.map Wait.enc)), (5, .own 0 0 g1.2.length), (6, .int .i64 v1), (7, .int .i64 g1.1)], [(0, ⟨false, 3, (Proc.enc Proc.zero), g1.2.map Proc.enc⟩)], 1⟩
noncomputable def f_ref11_Ahead (a0 : List Wait) (a1 : Proc) : Option ((List Proc)) :=
  (f_ref11_Find a0 a1).bind fun v1 =>
  (loopO (f_ref11_Ahead_l1 a0 v1) (0, [])).bind (fun z => f_ref11_Ahead_k1 z)
theorem ref11_Ahead_ok (a0 : List Wait) (a1 : Proc) (r : (List Proc)) (h : f_ref11_Ahead a0 a1 = some r) : PFn C 25 [.sl (a0.map Wait.enc), .agg (Proc.enc a1)] (.sl (r.map Proc.enc)) := by
  refine pfn_intro chk_ref11_Ahead rfl fun E hG hN hK => ?_
  unfold pc_ref11_Ahead
  unfold f_ref11_Ahead at h
  refine s_seq ?_
  refine aw_reg hG ?_
  simp only [r_ref11_Ahead_0, go_sem, ↓reduceIte, reduceCtorEq, Nat.reduceEqDiff, Nat.reduceAdd, Nat.reduceSub, Nat.reduceMul, Nat.reduceLeDiff, Nat.reduceLT, Int.reduceLE, Int.reduceLT, Int.reduceToNat, Int.reduceNeg]
  repeat refine And.intro (by first | assumption | omega | rfl | (simp; done) | (simp; omega) | (intros; simp_all; done) | grind) ?_
  refine s_seq ?_
  refine aw_reg hG ?_
  simp only [r_ref11_Ahead_1, go_sem, ↓reduceIte, reduceCtorEq, Nat.reduceEqDiff, Nat.reduceAdd, Nat.reduceSub, Nat.reduceMul, Nat.reduceLeDiff, Nat.reduceLT, Int.reduceLE, Int.reduceLT, Int.reduceToNat, Int.reduceNeg]
  repeat refine And.intro (by first | assumption | omega | rfl | (simp; done) | (simp; omega) | (intros; simp_all; done) | grind) ?_
  refine s_seq ?_
  refine aw_reg hG ?_
  simp only [r_ref11_Ahead_2, go_sem, ↓reduceIte, reduceCtorEq, Nat.reduceEqDiff, Nat.reduceAdd, Nat.reduceSub, Nat.reduceMul, Nat.reduceLeDiff, Nat.reduceLT, Int.reduceLE, Int.reduceLT, Int.reduceToNat, Int.reduceNeg]
  repeat refine And.intro (by first | assumption | omega | rfl | (simp; done) | (simp; omega) | (intros; simp_all; done) | grind) ?_
  obtain ⟨v1, hv1, h⟩ := bind_of h
  refine acall_of (fun hg => ref11_Find_ok a0 a1 _ (hv1)) ?_
  simp only [go_sem, ↓reduceIte, reduceCtorEq, Nat.reduceEqDiff, Nat.reduceAdd, Nat.reduceSub, Nat.reduceMul, Nat.reduceLeDiff, Nat.reduceLT, Int.reduceLE, Int.reduceLT, Int.reduceToNat, Int.reduceNeg]
  repeat refine And.intro (by first | assumption | omega | rfl | (simp; done) | (simp; omega) | (intros; simp_all; done) | grind) ?_
  refine s_seq ?_
  refine s_seq ?_
  refine aw_reg hG ?_
  simp only [r_ref11_Ahead_3, go_sem, ↓reduceIte, reduceCtorEq, Nat.reduceEqDiff, Nat.reduceAdd, Nat.reduceSub, Nat.reduceMul, Nat.reduceLeDiff, Nat.reduceLT, Int.reduceLE, Int.reduceLT, Int.reduceToNat, Int.reduceNeg]
  repeat refine And.intro (by first | assumption | omega | rfl | (simp; done) | (simp; omega) | (intros; simp_all; done) | grind) ?_
  refine s_blockJ (J_ref11_Ahead_k1) (fun v => f_ref11_Ahead_k1 v = some r) ?_ ?_
  · intro j1 h
    unfold f_ref11_Ahead_k1 at h
    simp only [J_ref11_Ahead_k1, go_sem, ↓reduceIte, reduceCtorEq, Nat.reduceEqDiff, Nat.reduceAdd, Nat.reduceSub, Nat.reduceMul, Nat.reduceLeDiff, Nat.reduceLT, Int.reduceLE, Int.reduceLT, Int.reduceToNat, Int.reduceNeg]
    refine s_seq ?_
    refine aw_reg hG ?_
    simp only [r_ref11_Ahead_7, go_sem, ↓reduceIte, reduceCtorEq, Nat.reduceEqDiff, Nat.reduceAdd, Nat.reduceSub, Nat.reduceMul, Nat.reduceLeDiff, Nat.reduceLT, Int.reduceLE, Int.reduceLT, Int.reduceToNat, Int.reduceNeg]
    repeat refine And.intro (by first | assumption | omega | rfl | (simp; done) | (simp; omega) | (intros; simp_all; done) | grind) ?_
    refine aw_ret ?_
    simp only [go_sem, ↓reduceIte, reduceCtorEq, Nat.reduceEqDiff, Nat.reduceAdd, Nat.reduceSub, Nat.reduceMul, Nat.reduceLeDiff, Nat.reduceLT, Int.reduceLE, Int.reduceLT, Int.reduceToNat, Int.reduceNeg]
    obtain rfl := Option.some.inj h
    first | done | rfl | (simp; done) | (repeat' (first | rfl | trivial | omega | (simp; done) | apply And.intro))
  obtain ⟨x_l1, hl_l1, h⟩ := bind_of h
  refine s_loopO (I_ref11_Ahead_l1 a0 v1) hK [(0, 1)] hl_l1 ?_ ?_
  · simp only [I_ref11_Ahead_l1, go_sem, ↓reduceIte, reduceCtorEq, Nat.reduceEqDiff, Nat.reduceAdd, Nat.reduceSub, Nat.reduceMul, Nat.reduceLeDiff, Nat.reduceLT, Int.reduceLE, Int.reduceLT, Int.reduceToNat, Int.reduceNeg]
    first | (done) | trivial | (simp; done) | (repeat' (first | rfl | trivial | omega | (simp; done) | (simp; omega) | (congr 1; simp only [List.length_append, List.length_take, List.length_drop, List.length_replicate]; omega) | apply And.intro))
  · clear hl_l1
    intro g1 y_l1 h_l1 hx_l1
    unfold f_ref11_Ahead_l1 at h_l1
    simp only [I_ref11_Ahead_l1, go_sem, ↓reduceIte, reduceCtorEq, Nat.reduceEqDiff, Nat.reduceAdd, Nat.reduceSub, Nat.reduceMul, Nat.reduceLeDiff, Nat.reduceLT, Int.reduceLE, Int.reduceLT, Int.reduceToNat, Int.reduceNeg]
    refine s_seq ?_
    refine s_seq ?_
    refine aw_reg hG ?_
    simp only [r_ref11_Ahead_4, go_sem, ↓reduceIte, reduceCtorEq, Nat.reduceEqDiff, Nat.reduceAdd, Nat.reduceSub, Nat.reduceMul, Nat.reduceLeDiff, Nat.reduceLT, Int.reduceLE, Int.reduceLT, Int.reduceToNat, Int.reduceNeg]
    repeat refine And.intro (by first | assumption | omega | rfl | (simp; done) | (simp; omega) | (intros; simp_all; done) | grind) ?_
    refine aw_cond rfl hG ?_ ?_
    · intro hc1
      replace h_l1 := ite_t (by first | exact hc1 | simpa using hc1) h_l1
      refine aw_skip ?_
      simp only [go_sem, ↓reduceIte, reduceCtorEq, Nat.reduceEqDiff, Nat.reduceAdd, Nat.reduceSub, Nat.reduceMul, Nat.reduceLeDiff, Nat.reduceLT, Int.reduceLE, Int.reduceLT, Int.reduceToNat, Int.reduceNeg]
      refine s_seq ?_
      refine s_block ?_
      obtain ⟨hb1, h_l1⟩ := gd_some h_l1
      obtain ⟨hb2, h_l1⟩ := gd_some h_l1
      refine aw_reg hG ?_
      simp only [r_ref11_Ahead_6, go_sem, ↓reduceIte, reduceCtorEq, Nat.reduceEqDiff, Nat.reduceAdd, Nat.reduceSub, Nat.reduceMul, Nat.reduceLeDiff, Nat.reduceLT, Int.reduceLE, Int.reduceLT, Int.reduceToNat, Int.reduceNeg, hb1, hb2]
      repeat refine And.intro (by first | assumption | omega | rfl | (simp; done) | (simp; omega) | (intros; simp_all; done) | grind) ?_
      refine aw_reg hG ?_
      simp only [r_ref11_Ahead_5, go_sem, ↓reduceIte, reduceCtorEq, Nat.reduceEqDiff, Nat.reduceAdd, Nat.reduceSub, Nat.reduceMul, Nat.reduceLeDiff, Nat.reduceLT, Int.reduceLE, Int.reduceLT, Int.reduceToNat, Int.reduceNeg]
      repeat refine And.intro (by first | assumption | omega | rfl | (simp; done) | (simp; omega) | (intros; simp_all; done) | grind) ?_
      obtain rfl := Option.some.inj h_l1
      refine loopN_of hK [(0, 1)] ?_
      simp only [I_ref11_Ahead_l1, go_sem, ↓reduceIte, reduceCtorEq, Nat.reduceEqDiff, Nat.reduceAdd, Nat.reduceSub, Nat.reduceMul, Nat.reduceLeDiff, Nat.reduceLT, Int.reduceLE, Int.reduceLT, Int.reduceToNat, Int.reduceNeg]
      first | (done) | trivial | (simp; done) | (repeat' (first | rfl | trivial | omega | (simp; done) | (simp; omega) | (congr 1; simp only [List.length_append, List.length_take, List.length_drop, List.length_replicate]; omega) | apply And.intro))
    · intro hc1
      replace h_l1 := ite_f (by first | exact hc1 | simpa using hc1) h_l1
      refine aw_exit ?_
      simp only [go_sem, ↓reduceIte, reduceCtorEq, Nat.reduceEqDiff, Nat.reduceAdd, Nat.reduceSub, Nat.reduceMul, Nat.reduceLeDiff, Nat.reduceLT, Int.reduceLE, Int.reduceLT, Int.reduceToNat, Int.reduceNeg]
      obtain rfl := Option.some.inj h_l1
      have hx := hx_l1 _ rfl
      subst hx
      try dsimp only at h
      refine joinG_of hK g1.2 (by exact h) [(0, 0)] ?_
      simp only [J_ref11_Ahead_k1, go_sem, ↓reduceIte, reduceCtorEq, Nat.reduceEqDiff, Nat.reduceAdd, Nat.reduceSub, Nat.reduceMul, Nat.reduceLeDiff, Nat.reduceLT, Int.reduceLE, Int.reduceLT, Int.reduceToNat, Int.reduceNeg]
      first | (done) | trivial | (simp; done) | (repeat' (first | rfl | trivial | omega | (simp; done) | (simp; omega) | (congr 1; simp only [List.length_append, List.length_take, List.length_drop, List.length_replicate]; omega) | apply And.intro))

noncomputable def f_ref02_SameProcs_k1  (j1 : Unit) : Option (Bool) :=
  some true
def J_ref02_SameProcs_k1  (j1 : Unit) : St := ⟨[], [], 0⟩
noncomputable def f_ref02_SameProcs_l1 (a0 : List Proc) (a1 : List Proc) (g1 : Int) : Option ((Int) ⊕ ((Unit) ⊕ (Bool))) :=
  (if (decide (g1 < (a0.length : Int))) = true then
    gd (0 ≤ g1 ∧ g1 < (a0.length : Int)) <|
    gd (0 ≤ g1 ∧ g1 < (a1.length : Int)) <|
    (if (!decide ((a0.getD g1.toNat Proc.zero) = (a1.getD g1.toNat Proc.zero))) = true then
      some (.inr (.inr false))
    else
      some (.inl (IntKind.i64.wrap (g1 + 1))))
  else
    some (.inr (.inl ())))
def I_ref02_SameProcs_l1 (a0 : List Proc) (a1 : List Proc) (g1 : Int) : St := ⟨[(0, .sl (a0.map Proc.enc)), (1, .sl (a1.map Proc.enc)), (5, .int .i64 g1)], [], 0⟩
noncomputable def f_ref02_SameProcs (a0 : List Proc) (a1 : List Proc) : Option (Bool) :=
  (if (!decide ((a0.length : Int) = (a1.length : Int))) = true then
    some false
  else
    (loopO (f_ref02_SameProcs_l1 a0 a1) 0).bind (fun | .inl z => f_ref02_SameProcs_k1 z | .inr z => some z))
theorem ref02_SameProcs_ok (a0 : List Proc) (a1 : List Proc) (r : Bool) (h : f_ref02_SameProcs a0 a1 = some r) : PFn C 23 [.sl (a0.map Proc.enc), .sl (a1.map Proc.enc)] (.bool r) := by
  refine pfn_intro chk_ref02_SameProcs rfl fun E hG hN hK => ?_
  unfold pc_ref02_SameProcs
  unfold f_ref02_SameProcs at h
  refine s_seq ?_
  refine aw_reg hG ?_
  simp only [r_ref02_SameProcs_0, go_sem, ↓reduceIte, reduceCtorEq, Nat.reduceEqDiff, Nat.reduceAdd, Nat.reduceSub, Nat.reduceMul, Nat.reduceLeDiff, Nat.reduceLT, Int.reduceLE, Int.reduceLT, Int.reduceToNat, Int.reduceNeg]
  repeat refine And.intro (by first | assumption | omega | rfl | (simp; done) | (simp; omega) | (intros; simp_all; done) | grind) ?_
  refine s_seq ?_
  refine s_seq ?_
  refine aw_reg hG ?_
  simp only [r_ref02_SameProcs_1, go_sem, ↓reduceIte, reduceCtorEq, Nat.reduceEqDiff, Nat.reduceAdd, Nat.reduceSub, Nat.reduceMul, Nat.reduceLeDiff, Nat.reduceLT, Int.reduceLE, Int.reduceLT, Int.reduceToNat, Int.reduceNeg]
  repeat refine And.intro (by first | assumption | omega | rfl | (simp; done) | (simp; omega) | (intros; simp_all; done) | grind) ?_
  refine aw_cond rfl hG ?_ ?_
  · intro hc1
    replace h := ite_t (by first | exact hc1 | simpa using hc1) h
    refine s_seq ?_
    refine aw_reg hG ?_
    simp only [r_ref02_SameProcs_2, go_sem, ↓reduceIte, reduceCtorEq, Nat.reduceEqDiff, Nat.reduceAdd, Nat.reduceSub, Nat.reduceMul, Nat.reduceLeDiff, Nat.reduceLT, Int.reduceLE, Int.reduceLT, Int.reduceToNat, Int.reduceNeg]
    repeat refine And.intro (by first | assumption | omega | rfl | (simp; done) | (simp; omega) | (intros; simp_all; done) | grind) ?_
    refine aw_ret ?_
    simp only [go_sem, ↓reduceIte, reduceCtorEq, Nat.reduceEqDiff, Nat.reduceAdd, Nat.reduceSub, Nat.reduceMul, Nat.reduceLeDiff, Nat.reduceLT, Int.reduceLE, Int.reduceLT, Int.reduceToNat, Int.reduceNeg]
    obtain rfl := Option.some.inj h
    first | done | rfl | (simp; done) | (repeat' (first | rfl | trivial | omega | (simp; done) | apply And.intro))
  · intro hc1
    replace h := ite_f (by first | exact hc1 | simpa using hc1) h
    refine aw_skip ?_
    simp only [go_sem, ↓reduceIte, reduceCtorEq, Nat.reduceEqDiff, Nat.reduceAdd, Nat.reduceSub, Nat.reduceMul, Nat.reduceLeDiff, Nat.reduceLT, Int.reduceLE, Int.reduceLT, Int.reduceToNat, Int.reduceNeg]
    refine s_seq ?_
    refine s_seq ?_
    refine aw_reg hG ?_
    simp only [r_ref02_SameProcs_3, go_sem, ↓reduceIte, reduceCtorEq, Nat.reduceEqDiff, Nat.reduceAdd, Nat.reduceSub, Nat.reduceMul, Nat.reduceLeDiff, Nat.reduceLT, Int.reduceLE, Int.reduceLT, Int.reduceToNat, Int.reduceNeg]
    repeat refine And.intro (by first | assumption | omega | rfl | (simp; done) | (simp; omega) | (intros; simp_all; done) | grind) ?_
    refine s_blockJ (J_ref02_SameProcs_k1) (fun v => f_ref02_SameProcs_k1 v = some r) ?_ ?_
    · intro j1 h
      unfold f_ref02_SameProcs_k1 at h
      simp only [J_ref02_SameProcs_k1, go_sem, ↓reduceIte, reduceCtorEq, Nat.reduceEqDiff, Nat.reduceAdd, Nat.reduceSub, Nat.reduceMul, Nat.reduceLeDiff, Nat.reduceLT, Int.reduceLE, Int.reduceLT, Int.reduceToNat, Int.reduceNeg]
      refine s_seq ?_
      refine aw_reg hG ?_
      simp only [r_ref02_SameProcs_8, go_sem, ↓reduceIte, reduceCtorEq, Nat.reduceEqDiff, Nat.reduceAdd, Nat.reduceSub, Nat.reduceMul, Nat.reduceLeDiff, Nat.reduceLT, Int.reduceLE, Int.reduceLT, Int.reduceToNat, Int.reduceNeg]
      repeat refine And.intro (by first | assumption | omega | rfl | (simp; done) | (simp; omega) | (intros; simp_all; done) | grind) ?_
      refine aw_ret ?_
      simp only [go_sem, ↓reduceIte, reduceCtorEq, Nat.reduceEqDiff, Nat.reduceAdd, Nat.reduceSub, Nat.reduceMul, Nat.reduceLeDiff, Nat.reduceLT, Int.reduceLE, Int.reduceLT, Int.reduceToNat, Int.reduceNeg]
      obtain rfl := Option.some.inj h
      first | done | rfl | (simp; done) | (repeat' (first | rfl | trivial | omega | (simp; done) | apply And.intro))
    obtain ⟨x_l1, hl_l1, h⟩ := bind_of h
    refine s_loopO (I_ref02_SameProcs_l1 a0 a1) hK [] hl_l1 ?_ ?_
    · simp only [I_ref02_SameProcs_l1, go_sem, ↓reduceIte, reduceCtorEq, Nat.reduceEqDiff, Nat.reduceAdd, Nat.reduceSub, Nat.reduceMul, Nat.reduceLeDiff, Nat.reduceLT, Int.reduceLE, Int.reduceLT, Int.reduceToNat, Int.reduceNeg]
      first | (done) | trivial | (simp; done) | (repeat' (first | rfl | trivial | omega | (simp; done) | (simp; omega) | (congr 1; simp only [List.length_append, List.length_take, List.length_drop, List.length_replicate]; omega) | apply And.intro))
    · clear hl_l1
      intro g1 y_l1 h_l1 hx_l1
      unfold f_ref02_SameProcs_l1 at h_l1
      simp only [I_ref02_SameProcs_l1, go_sem, ↓reduceIte, reduceCtorEq, Nat.reduceEqDiff, Nat.reduceAdd, Nat.reduceSub, Nat.reduceMul, Nat.reduceLeDiff, Nat.reduceLT, Int.reduceLE, Int.reduceLT, Int.reduceToNat, Int.reduceNeg]
      refine s_seq ?_
      refine s_seq ?_
      refine aw_reg hG ?_
      simp only [r_ref02_SameProcs_4, go_sem, ↓reduceIte, reduceCtorEq, Nat.reduceEqDiff, Nat.reduceAdd, Nat.reduceSub, Nat.reduceMul, Nat.reduceLeDiff, Nat.reduceLT, Int.reduceLE, Int.reduceLT, Int.reduceToNat, Int.reduceNeg]
      repeat refine And.intro (by first | assumption | omega | rfl | (simp; done) | (simp; omega) | (intros; simp_all; done) | grind) ?_
      refine aw_cond rfl hG ?_ ?_
      · intro hc2
        replace h_l1 := ite_t (by first | exact hc2 | simpa using hc2) h_l1
        refine aw_skip ?_
        simp only [go_sem, ↓reduceIte, reduceCtorEq, Nat.reduceEqDiff, Nat.reduceAdd, Nat.reduceSub, Nat.reduceMul, Nat.reduceLeDiff, Nat.reduceLT, Int.reduceLE, Int.reduceLT, Int.reduceToNat, Int.reduceNeg]
        refine s_seq ?_
        refine s_block ?_
        refine s_seq ?_
        obtain ⟨hb1, h_l1⟩ := gd_some h_l1
        obtain ⟨hb2, h_l1⟩ := gd_some h_l1
        refine aw_regd C_mixed hG ?_
        simp only [r_ref02_SameProcs_6, go_sem, ↓reduceIte, reduceCtorEq, Nat.reduceEqDiff, Nat.reduceAdd, Nat.reduceSub, Nat.reduceMul, Nat.reduceLeDiff, Nat.reduceLT, Int.reduceLE, Int.reduceLT, Int.reduceToNat, Int.reduceNeg, hb1, hb2]
        repeat refine And.intro (by first | assumption | omega | rfl | (simp; done) | (simp; omega) | (intros; simp_all; done) | grind) ?_
        refine aw_cond rfl hG ?_ ?_
        · intro hc3
          replace h_l1 := ite_t (by first | exact hc3 | simpa using hc3) h_l1
          refine s_seq ?_
          refine aw_reg hG ?_
          simp only [r_ref02_SameProcs_7, go_sem, ↓reduceIte, reduceCtorEq, Nat.reduceEqDiff, Nat.reduceAdd, Nat.reduceSub, Nat.reduceMul, Nat.reduceLeDiff, Nat.reduceLT, Int.reduceLE, Int.reduceLT, Int.reduceToNat, Int.reduceNeg]
          repeat refine And.intro (by first | assumption | omega | rfl | (simp; done) | (simp; omega) | (intros; simp_all; done) | grind) ?_
          refine aw_ret ?_
          simp only [go_sem, ↓reduceIte, reduceCtorEq, Nat.reduceEqDiff, Nat.reduceAdd, Nat.reduceSub, Nat.reduceMul, Nat.reduceLeDiff, Nat.reduceLT, Int.reduceLE, Int.reduceLT, Int.reduceToNat, Int.reduceNeg]
          obtain rfl := Option.some.inj h_l1
          have hx := hx_l1 _ rfl
          subst hx
          try dsimp only at h
          obtain rfl := Option.some.inj h
          first | done | rfl | (simp; done) | (repeat' (first | rfl | trivial | omega | (simp; done) | apply And.intro))
        · intro hc3
          replace h_l1 := ite_f (by first | exact hc3 | simpa using hc3) h_l1
          refine aw_skip ?_
          simp only [go_sem, ↓reduceIte, reduceCtorEq, Nat.reduceEqDiff, Nat.reduceAdd, Nat.reduceSub, Nat.reduceMul, Nat.reduceLeDiff, Nat.reduceLT, Int.reduceLE, Int.reduceLT, Int.reduceToNat, Int.reduceNeg]
          refine aw_reg hG ?_
          simp only [r_ref02_SameProcs_5, go_sem, ↓reduceIte, reduceCtorEq, Nat.reduceEqDiff, Nat.reduceAdd, Nat.reduceSub, Nat.reduceMul, Nat.reduceLeDiff, Nat.reduceLT, Int.reduceLE, Int.reduceLT, Int.reduceToNat, Int.reduceNeg]
          repeat refine And.intro (by first | assumption | omega | rfl | (simp; done) | (simp; omega) | (intros; simp_all; done) | grind) ?_
          obtain rfl := Option.some.inj h_l1
          refine loopN_of hK [] ?_
          simp only [I_ref02_SameProcs_l1, go_sem, ↓reduceIte, reduceCtorEq, Nat.reduceEqDiff, Nat.reduceAdd, Nat.reduceSub, Nat.reduceMul, Nat.reduceLeDiff, Nat.reduceLT, Int.reduceLE, Int.reduceLT, Int.reduceToNat, Int.reduceNeg]
          first | (done) | trivial | (simp; done) | (repeat' (first | rfl | trivial | omega | (simp; done) | (simp; omega) | (congr 1; simp only [List.length_append, List.length_take, List.length_drop, List.length_replicate]; omega) | apply And.intro))
      · intro hc2
        replace h_l1 := ite_f (by first | exact hc2 | simpa using hc2) h_l1
        refine aw_exit ?_
        simp only [go_sem, ↓reduceIte, reduceCtorEq, Nat.reduceEqDiff, Nat.reduceAdd, Nat.reduceSub, Nat.reduceMul, Nat.reduceLeDiff, Nat.reduceLT, Int.reduceLE, Int.reduceLT, Int.reduceToNat, Int.reduceNeg]
        obtain rfl := Option.some.inj h_l1
        have hx := hx_l1 _ rfl
        subst hx
        try dsimp only at h
        refine joinG_of hK () (by exact h) [] ?_
        simp only [J_ref02_SameProcs_k1, go_sem, ↓reduceIte, reduceCtorEq, Nat.reduceEqDiff, Nat.reduceAdd, Nat.reduceSub, Nat.reduceMul, Nat.reduceLeDiff, Nat.reduceLT, Int.reduceLE, Int.reduceLT, Int.reduceToNat, Int.reduceNeg]
        first | (done) | trivial | (simp; done) | (repeat' (first | rfl | trivial | omega | (simp; done) | (simp; omega) | (congr 1; simp only [List.length_append, List.length_take, List.length_drop, List.length_replicate]; omega) | apply And.intro))

noncomputable def f_law11_LineLooks (a0 : List Wait) (a1 : Proc) : Option (Bool) :=
  (if (decide (100 < (a0.length : Int))) = true then
    (f_law11_awake).bind fun v1 =>
    some v1
  else
    (f_line_Remove a0 a1).bind fun v2 =>
    (f_ref11_Remove a0 a1).bind fun v3 =>
    (f_law11_awake).bind fun v4 =>
    ((if v4 = true then f_line_Find a0 a1 else some (0))).bind fun v5 =>
    ((if v4 = true then f_ref11_Find a0 a1 else some (0))).bind fun v6 =>
    ((if (v4 && (decide (v5 = v6))) = true then f_line_Ahead a0 a1 else some ([]))).bind fun v7 =>
    ((if (v4 && (decide (v5 = v6))) = true then f_ref11_Ahead a0 a1 else some ([]))).bind fun v8 =>
    ((if (v4 && (decide (v5 = v6))) = true then f_ref02_SameProcs v7 v8 else some (false))).bind fun v9 =>
    ((if (((v4 && (decide (v5 = v6))) && v9) && (decide (v2.2 = v3.2))) = true then f_ref11_SameWaits v2.1 v3.1 else some (false))).bind fun v10 =>
    some ((((v4 && (decide (v5 = v6))) && v9) && (decide (v2.2 = v3.2))) && v10))
theorem law11_LineLooks_ok (a0 : List Wait) (a1 : Proc) (r : Bool) (h : f_law11_LineLooks a0 a1 = some r) : PFn C 6 [.sl (a0.map Wait.enc), .agg (Proc.enc a1)] (.bool r) := by
  refine pfn_intro chk_law11_LineLooks rfl fun E hG hN hK => ?_
  unfold pc_law11_LineLooks
  unfold f_law11_LineLooks at h
  refine s_seq ?_
  refine aw_reg hG ?_
  simp only [r_law11_LineLooks_0, go_sem, ↓reduceIte, reduceCtorEq, Nat.reduceEqDiff, Nat.reduceAdd, Nat.reduceSub, Nat.reduceMul, Nat.reduceLeDiff, Nat.reduceLT, Int.reduceLE, Int.reduceLT, Int.reduceToNat, Int.reduceNeg]
  repeat refine And.intro (by first | assumption | omega | rfl | (simp; done) | (simp; omega) | (intros; simp_all; done) | grind) ?_
  refine s_seq ?_
  refine s_seq ?_
  refine aw_reg hG ?_
  simp only [r_law11_LineLooks_1, go_sem, ↓reduceIte, reduceCtorEq, Nat.reduceEqDiff, Nat.reduceAdd, Nat.reduceSub, Nat.reduceMul, Nat.reduceLeDiff, Nat.reduceLT, Int.reduceLE, Int.reduceLT, Int.reduceToNat, Int.reduceNeg]
  repeat refine And.intro (by first | assumption | omega | rfl | (simp; done) | (simp; omega) | (intros; simp_all; done) | grind) ?_
  refine aw_cond rfl hG ?_ ?_
  · intro hc1
    replace h := ite_t (by first | exact hc1 | simpa using hc1) h
    refine s_seq ?_
    refine aw_reg hG ?_
    simp only [r_law11_LineLooks_2, go_sem, ↓reduceIte, reduceCtorEq, Nat.reduceEqDiff, Nat.reduceAdd, Nat.reduceSub, Nat.reduceMul, Nat.reduceLeDiff, Nat.reduceLT, Int.reduceLE, Int.reduceLT, Int.reduceToNat, Int.reduceNeg]
    repeat refine And.intro (by first | assumption | omega | rfl | (simp; done) | (simp; omega) | (intros; simp_all; done) | grind) ?_
    obtain ⟨v1, hv1, h⟩ := bind_of h
    refine acall_of (fun hg => law11_awake_ok  _ (hv1)) ?_
    simp only [go_sem, ↓reduceIte, reduceCtorEq, Nat.reduceEqDiff, Nat.reduceAdd, Nat.reduceSub, Nat.reduceMul, Nat.reduceLeDiff, Nat.reduceLT, Int.reduceLE, Int.reduceLT, Int.reduceToNat, Int.reduceNeg]
    repeat refine And.intro (by first | assumption | omega | rfl | (simp; done) | (simp; omega) | (intros; simp_all; done) | grind) ?_
    refine aw_ret ?_
    simp only [go_sem, ↓reduceIte, reduceCtorEq, Nat.reduceEqDiff, Nat.reduceAdd, Nat.reduceSub, Nat.reduceMul, Nat.reduceLeDiff, Nat.reduceLT, Int.reduceLE, Int.reduceLT, Int.reduceToNat, Int.reduceNeg]
    obtain rfl := Option.some.inj h
    first | done | rfl | (simp; done) | (repeat' (first | rfl | trivial | omega | (simp; done) | apply And.intro))
  · intro hc1
    replace h := ite_f (by first | exact hc1 | simpa using hc1) h
    refine aw_skip ?_
    simp only [go_sem, ↓reduceIte, reduceCtorEq, Nat.reduceEqDiff, Nat.reduceAdd, Nat.reduceSub, Nat.reduceMul, Nat.reduceLeDiff, Nat.reduceLT, Int.reduceLE, Int.reduceLT, Int.reduceToNat, Int.reduceNeg]
    refine s_seq ?_
    refine aw_reg hG ?_
    simp only [r_law11_LineLooks_3, go_sem, ↓reduceIte, reduceCtorEq, Nat.reduceEqDiff, Nat.reduceAdd, Nat.reduceSub, Nat.reduceMul, Nat.reduceLeDiff, Nat.reduceLT, Int.reduceLE, Int.reduceLT, Int.reduceToNat, Int.reduceNeg]
    repeat refine And.intro (by first | assumption | omega | rfl | (simp; done) | (simp; omega) | (intros; simp_all; done) | grind) ?_
    obtain ⟨v2, hv2, h⟩ := bind_of h
    refine acall_of (fun hg => line_Remove_ok a0 a1 _ (hv2)) ?_
    simp only [go_sem, ↓reduceIte, reduceCtorEq, Nat.reduceEqDiff, Nat.reduceAdd, Nat.reduceSub, Nat.reduceMul, Nat.reduceLeDiff, Nat.reduceLT, Int.reduceLE, Int.reduceLT, Int.reduceToNat, Int.reduceNeg]
    repeat refine And.intro (by first | assumption | omega | rfl | (simp; done) | (simp; omega) | (intros; simp_all; done) | grind) ?_
    refine s_seq ?_
    refine aw_reg hG ?_
    simp only [r_law11_LineLooks_4, go_sem, ↓reduceIte, reduceCtorEq, Nat.reduceEqDiff, Nat.reduceAdd, Nat.reduceSub, Nat.reduceMul, Nat.reduceLeDiff, Nat.reduceLT, Int.reduceLE, Int.reduceLT, Int.reduceToNat, Int.reduceNeg]
    repeat refine And.intro (by first | assumption | omega | rfl | (simp; done) | (simp; omega) | (intros; simp_all; done) | grind) ?_
    obtain ⟨v3, hv3, h⟩ := bind_of h
    refine acall_of (fun hg => ref11_Remove_ok a0 a1 _ (hv3)) ?_
    simp only [go_sem, ↓reduceIte, reduceCtorEq, Nat.reduceEqDiff, Nat.reduceAdd, Nat.reduceSub, Nat.reduceMul, Nat.reduceLeDiff, Nat.reduceLT, Int.reduceLE, Int.reduceLT, Int.reduceToNat, Int.reduceNeg]
    repeat refine And.intro (by first | assumption | omega | rfl | (simp; done) | (simp; omega) | (intros; simp_all; done) | grind) ?_
    refine s_seq ?_
    refine aw_regd C_mixed hG ?_
    simp only [r_law11_LineLooks_5, go_sem, ↓reduceIte, reduceCtorEq, Nat.reduceEqDiff, Nat.reduceAdd, Nat.reduceSub, Nat.reduceMul, Nat.reduceLeDiff, Nat.reduceLT, Int.reduceLE, Int.reduceLT, Int.reduceToNat, Int.reduceNeg]
    repeat refine And.intro (by first | assumption | omega | rfl | (simp; done) | (simp; omega) | (intros; simp_all; done) | grind) ?_
    obtain ⟨v4, hv4, h⟩ := bind_of h
    refine acalld_of (fun hg => law11_awake_ok  _ (hv4)) ?_
    simp only [go_sem, ↓reduceIte, reduceCtorEq, Nat.reduceEqDiff, Nat.reduceAdd, Nat.reduceSub, Nat.reduceMul, Nat.reduceLeDiff, Nat.reduceLT, Int.reduceLE, Int.reduceLT, Int.reduceToNat, Int.reduceNeg]
    repeat refine And.intro (by first | assumption | omega | rfl | (simp; done) | (simp; omega) | (intros; simp_all; done) | grind) ?_
    obtain ⟨v5, hv5, h⟩ := bind_of h
    refine acalld_of (fun hg => line_Find_ok a0 a1 _ (ite_t hg hv5)) ?_
    simp only [go_sem, ↓reduceIte, reduceCtorEq, Nat.reduceEqDiff, Nat.reduceAdd, Nat.reduceSub, Nat.reduceMul, Nat.reduceLeDiff, Nat.reduceLT, Int.reduceLE, Int.reduceLT, Int.reduceToNat, Int.reduceNeg]
    repeat refine And.intro (by first | assumption | omega | rfl | (simp; done) | (simp; omega) | (intros; simp_all; done) | grind) ?_
    obtain ⟨v6, hv6, h⟩ := bind_of h
    refine acalld_of (fun hg => ref11_Find_ok a0 a1 _ (ite_t hg hv6)) ?_
    simp only [go_sem, ↓reduceIte, reduceCtorEq, Nat.reduceEqDiff, Nat.reduceAdd, Nat.reduceSub, Nat.reduceMul, Nat.reduceLeDiff, Nat.reduceLT, Int.reduceLE, Int.reduceLT, Int.reduceToNat, Int.reduceNeg]
    repeat refine And.intro (by first | assumption | omega | rfl | (simp; done) | (simp; omega) | (intros; simp_all; done) | grind) ?_
    obtain ⟨v7, hv7, h⟩ := bind_of h
    refine acalld_of (fun hg => line_Ahead_ok a0 a1 _ (ite_t hg hv7)) ?_
    simp only [go_sem, ↓reduceIte, reduceCtorEq, Nat.reduceEqDiff, Nat.reduceAdd, Nat.reduceSub, Nat.reduceMul, Nat.reduceLeDiff, Nat.reduceLT, Int.reduceLE, Int.reduceLT, Int.reduceToNat, Int.reduceNeg]
    repeat refine And.intro (by first | assumption | omega | rfl | (simp; done) | (simp; omega) | (intros; simp_all; done) | grind) ?_
    obtain ⟨v8, hv8, h⟩ := bind_of h
    refine acalld_of (fun hg => ref11_Ahead_ok a0 a1 _ (ite_t hg hv8)) ?_
    simp only [go_sem, ↓reduceIte, reduceCtorEq, Nat.reduceEqDiff, Nat.reduceAdd, Nat.reduceSub, Nat.reduceMul, Nat.reduceLeDiff, Nat.reduceLT, Int.reduceLE, Int.reduceLT, Int.reduceToNat, Int.reduceNeg]
    repeat refine And.intro (by first | assumption | omega | rfl | (simp; done) | (simp; omega) | (intros; simp_all; done) | grind) ?_
    obtain ⟨v9, hv9, h⟩ := bind_of h
    refine acalld_of (fun hg => ref02_SameProcs_ok v7 v8 _ (ite_t hg hv9)) ?_
    simp only [go_sem, ↓reduceIte, reduceCtorEq, Nat.reduceEqDiff, Nat.reduceAdd, Nat.reduceSub, Nat.reduceMul, Nat.reduceLeDiff, Nat.reduceLT, Int.reduceLE, Int.reduceLT, Int.reduceToNat, Int.reduceNeg]
    repeat refine And.intro (by first | assumption | omega | rfl | (simp; done) | (simp; omega) | (intros; simp_all; done) | grind) ?_
    obtain ⟨v10, hv10, h⟩ := bind_of h
    refine acalld_of (fun hg => ref11_SameWaits_ok v2.1 v3.1 _ (ite_t hg hv10)) ?_
    simp only [go_sem, ↓reduceIte, reduceCtorEq, Nat.reduceEqDiff, Nat.reduceAdd, Nat.reduceSub, Nat.reduceMul, Nat.reduceLeDiff, Nat.reduceLT, Int.reduceLE, Int.reduceLT, Int.reduceToNat, Int.reduceNeg]
    repeat refine And.intro (by first | assumption | omega | rfl | (simp; done) | (simp; omega) | (intros; simp_all; done) | grind) ?_
    refine aw_ret ?_
    simp only [go_sem, ↓reduceIte, reduceCtorEq, Nat.reduceEqDiff, Nat.reduceAdd, Nat.reduceSub, Nat.reduceMul, Nat.reduceLeDiff, Nat.reduceLT, Int.reduceLE, Int.reduceLT, Int.reduceToNat, Int.reduceNeg]
    obtain rfl := Option.some.inj h
    first | done | rfl | (simp; done) | (repeat' (first | rfl | trivial | omega | (simp; done) | apply And.intro))

noncomputable def f_law11_LineKeeps_k1  (j1 : Unit) : Option (Bool) :=
  some true
def J_law11_LineKeeps_k1  (j1 : Unit) : St := ⟨[], [], 0⟩
noncomputable def f_law11_LineKeeps_l1 (a0 : List Wait) (v1 : (List Wait) × Int × Int) (v3 : (List Wait) × Bool) (g1 : Int) : Option ((Int) ⊕ ((Unit) ⊕ (Bool))) :=
  (if (decide (g1 < (a0.length : Int))) = true then
    gd (0 ≤ g1 ∧ g1 < (v3.1.length : Int)) <|
    gd (0 ≤ g1 ∧ g1 < (a0.length : Int)) <|
    gd (0 ≤ g1 ∧ g1 < (a0.length : Int)) <|
    gd ((decide ({ (v3.1.getD g1.toNat Wait.zero) with passed := (a0.getD g1.toNat Wait.zero).passed } = (a0.getD g1.toNat Wait.zero))) = true → 0 ≤ g1 ∧ g1 < (v3.1.length : Int)) <|
    gd ((decide ({ (v3.1.getD g1.toNat Wait.zero) with passed := (a0.getD g1.toNat Wait.zero).passed } = (a0.getD g1.toNat Wait.zero))) = true → 0 ≤ g1 ∧ g1 < (a0.length : Int)) <|
    gd (((decide ({ (v3.1.getD g1.toNat Wait.zero) with passed := (a0.getD g1.toNat Wait.zero).passed } = (a0.getD g1.toNat Wait.zero))) && (!decide ((v3.1.getD g1.toNat Wait.zero).passed = (a0.getD g1.toNat Wait.zero).passed))) = true → 0 ≤ g1 ∧ g1 < (v3.1.length : Int)) <|
    gd (((decide ({ (v3.1.getD g1.toNat Wait.zero) with passed := (a0.getD g1.toNat Wait.zero).passed } = (a0.getD g1.toNat Wait.zero))) && (!decide ((v3.1.getD g1.toNat Wait.zero).passed = (a0.getD g1.toNat Wait.zero).passed))) = true → 0 ≤ g1 ∧ g1 < (a0.length : Int)) <|
    gd ((!((!decide ({ (v3.1.getD g1.toNat Wait.zero) with passed := (a0.getD g1.toNat Wait.zero).passed } = (a0.getD g1.toNat Wait.zero))) || ((!decide ((v3.1.getD g1.toNat Wait.zero).passed = (a0.getD g1.toNat Wait.zero).passed)) && (!decide ((v3.1.getD g1.toNat Wait.zero).passed = (IntKind.i64.wrap ((a0.getD g1.toNat Wait.zero).passed + 1))))))) = true → 0 ≤ g1 ∧ g1 < (v3.1.length : Int)) <|
    gd ((!((!decide ({ (v3.1.getD g1.toNat Wait.zero) with passed := (a0.getD g1.toNat Wait.zero).passed } = (a0.getD g1.toNat Wait.zero))) || ((!decide ((v3.1.getD g1.toNat Wait.zero).passed = (a0.getD g1.toNat Wait.zero).passed)) && (!decide ((v3.1.getD g1.toNat Wait.zero).passed = (IntKind.i64.wrap ((a0.getD g1.toNat Wait.zero).passed + 1))))))) = true → 0 ≤ g1 ∧ g1 < (a0.length : Int)) <|
    (if (((!decide ({ (v3.1.getD g1.toNat Wait.zero) with passed := (a0.getD g1.toNat Wait.zero).passed } = (a0.getD g1.toNat Wait.zero))) || ((!decide ((v3.1.getD g1.toNat Wait.zero).passed = (a0.getD g1.toNat Wait.zero).passed)) && (!decide ((v3.1.getD g1.toNat Wait.zero).passed = (IntKind.i64.wrap ((a0.getD g1.toNat Wait.zero).passed + 1)))))) || (!decide ((decide ((a0.getD g1.toNat Wait.zero).passed < (v3.1.getD g1.toNat Wait.zero).passed)) = (decide (v1.2.1 ≤ g1))))) = true then
      some (.inr (.inr false))
    else
      some (.inl (IntKind.i64.wrap (g1 + 1))))
  else
    some (.inr (.inl ())))
def I_law11_LineKeeps_l1 (a0 : List Wait) (v1 : (List Wait) × Int × Int) (v3 : (List Wait) × Bool) (g1 : Int) : St := ⟨[(0, .sl (a0.map Wait.enc)), (6, .int .i64 v1.2.1), (8, .sl (v3.1.map Wait.enc)), (10, .int .i64 g1)], [], 0⟩
noncomputable def f_law11_LineKeeps (a0 : List Wait) (a1 : Wait) : Option (Bool) :=
  (f_line_Insert a0 a1).bind fun v1 =>
  (if (!decide (v1.2.2 = 0)) = true then
    (f_law11_awake).bind fun v2 =>
    some ((v2 && (decide ((v1.1.length : Int) = 0))) && (decide (v1.2.1 = 0)))
  else
    (f_line_Remove v1.1 a1.proc).bind fun v3 =>
    (f_law11_awake).bind fun v4 =>
    ((if (!(((!v4) || (!v3.2)) || (!decide ((v3.1.length : Int) = (a0.length : Int))))) = true then f_line_Find v1.1 a1.proc else some (0))).bind fun v5 =>
    (if ((((!v4) || (!v3.2)) || (!decide ((v3.1.length : Int) = (a0.length : Int)))) || (!decide (v5 = v1.2.1))) = true then
      some false
    else
      (loopO (f_law11_LineKeeps_l1 a0 v1 v3) 0).bind (fun | .inl z => f_law11_LineKeeps_k1 z | .inr z => some z)))
theorem law11_LineKeeps_ok (a0 : List Wait) (a1 : Wait) (r : Bool) (h : f_law11_LineKeeps a0 a1 = some r) : PFn C 7 [.sl (a0.map Wait.enc), .agg (Wait.enc a1)] (.bool r) := by
  refine pfn_intro chk_law11_LineKeeps rfl fun E hG hN hK => ?_
  unfold pc_law11_LineKeeps
  unfold f_law11_LineKeeps at h
  refine s_seq ?_
  refine aw_reg hG ?_
  simp only [r_law11_LineKeeps_0, go_sem, ↓reduceIte, reduceCtorEq, Nat.reduceEqDiff, Nat.reduceAdd, Nat.reduceSub, Nat.reduceMul, Nat.reduceLeDiff, Nat.reduceLT, Int.reduceLE, Int.reduceLT, Int.reduceToNat, Int.reduceNeg]
  repeat refine And.intro (by first | assumption | omega | rfl | (simp; done) | (simp; omega) | (intros; simp_all; done) | grind) ?_
  refine s_seq ?_
  refine aw_reg hG ?_
  simp only [r_law11_LineKeeps_1, go_sem, ↓reduceIte, reduceCtorEq, Nat.reduceEqDiff, Nat.reduceAdd, Nat.reduceSub, Nat.reduceMul, Nat.reduceLeDiff, Nat.reduceLT, Int.reduceLE, Int.reduceLT, Int.reduceToNat, Int.reduceNeg]
  repeat refine And.intro (by first | assumption | omega | rfl | (simp; done) | (simp; omega) | (intros; simp_all; done) | grind) ?_
  obtain ⟨v1, hv1, h⟩ := bind_of h
  refine acall_of (fun hg => line_Insert_ok a0 a1 _ (hv1)) ?_
  simp only [go_sem, ↓reduceIte, reduceCtorEq, Nat.reduceEqDiff, Nat.reduceAdd, Nat.reduceSub, Nat.reduceMul, Nat.reduceLeDiff, Nat.reduceLT, Int.reduceLE, Int.reduceLT, Int.reduceToNat, Int.reduceNeg]
  repeat refine And.intro (by first | assumption | omega | rfl | (simp; done) | (simp; omega) | (intros; simp_all; done) | grind) ?_
  refine s_seq ?_
  refine s_seq ?_
  refine aw_reg hG ?_
  simp only [r_law11_LineKeeps_2, go_sem, ↓reduceIte, reduceCtorEq, Nat.reduceEqDiff, Nat.reduceAdd, Nat.reduceSub, Nat.reduceMul, Nat.reduceLeDiff, Nat.reduceLT, Int.reduceLE, Int.reduceLT, Int.reduceToNat, Int.reduceNeg]
  repeat refine And.intro (by first | assumption | omega | rfl | (simp; done) | (simp; omega) | (intros; simp_all; done) | grind) ?_
  refine aw_cond rfl hG ?_ ?_
  · intro hc1
    replace h := ite_t (by first | exact hc1 | simpa using hc1) h
    refine s_seq ?_
    refine aw_reg hG ?_
    simp only [r_law11_LineKeeps_3, go_sem, ↓reduceIte, reduceCtorEq, Nat.reduceEqDiff, Nat.reduceAdd, Nat.reduceSub, Nat.reduceMul, Nat.reduceLeDiff, Nat.reduceLT, Int.reduceLE, Int.reduceLT, Int.reduceToNat, Int.reduceNeg]
    repeat refine And.intro (by first | assumption | omega | rfl | (simp; done) | (simp; omega) | (intros; simp_all; done) | grind) ?_
    obtain ⟨v2, hv2, h⟩ := bind_of h
    refine acall_of (fun hg => law11_awake_ok  _ (hv2)) ?_
    simp only [go_sem, ↓reduceIte, reduceCtorEq, Nat.reduceEqDiff, Nat.reduceAdd, Nat.reduceSub, Nat.reduceMul, Nat.reduceLeDiff, Nat.reduceLT, Int.reduceLE, Int.reduceLT, Int.reduceToNat, Int.reduceNeg]
    repeat refine And.intro (by first | assumption | omega | rfl | (simp; done) | (simp; omega) | (intros; simp_all; done) | grind) ?_
    refine aw_ret ?_
    simp only [go_sem, ↓reduceIte, reduceCtorEq, Nat.reduceEqDiff, Nat.reduceAdd, Nat.reduceSub, Nat.reduceMul, Nat.reduceLeDiff, Nat.reduceLT, Int.reduceLE, Int.reduceLT, Int.reduceToNat, Int.reduceNeg]
    obtain rfl := Option.some.inj h
    first | done | rfl | (simp; done) | (repeat' (first | rfl | trivial | omega | (simp; done) | apply And.intro))
  · intro hc1
    replace h := ite_f (by first | exact hc1 | simpa using hc1) h
    refine aw_skip ?_
    simp only [go_sem, ↓reduceIte, reduceCtorEq, Nat.reduceEqDiff, Nat.reduceAdd, Nat.reduceSub, Nat.reduceMul, Nat.reduceLeDiff, Nat.reduceLT, Int.reduceLE, Int.reduceLT, Int.reduceToNat, Int.reduceNeg]
    refine s_seq ?_
    refine aw_reg hG ?_
    simp only [r_law11_LineKeeps_4, go_sem, ↓reduceIte, reduceCtorEq, Nat.reduceEqDiff, Nat.reduceAdd, Nat.reduceSub, Nat.reduceMul, Nat.reduceLeDiff, Nat.reduceLT, Int.reduceLE, Int.reduceLT, Int.reduceToNat, Int.reduceNeg]
    repeat refine And.intro (by first | assumption | omega | rfl | (simp; done) | (simp; omega) | (intros; simp_all; done) | grind) ?_
    obtain ⟨v3, hv3, h⟩ := bind_of h
    refine acall_of (fun hg => line_Remove_ok v1.1 a1.proc _ (hv3)) ?_
    simp only [go_sem, ↓reduceIte, reduceCtorEq, Nat.reduceEqDiff, Nat.reduceAdd, Nat.reduceSub, Nat.reduceMul, Nat.reduceLeDiff, Nat.reduceLT, Int.reduceLE, Int.reduceLT, Int.reduceToNat, Int.reduceNeg]
    repeat refine And.intro (by first | assumption | omega | rfl | (simp; done) | (simp; omega) | (intros; simp_all; done) | grind) ?_
    refine s_seq ?_
    refine s_seq ?_
    refine aw_reg hG ?_
    simp only [r_law11_LineKeeps_5, go_sem, ↓reduceIte, reduceCtorEq, Nat.reduceEqDiff, Nat.reduceAdd, Nat.reduceSub, Nat.reduceMul, Nat.reduceLeDiff, Nat.reduceLT, Int.reduceLE, Int.reduceLT, Int.reduceToNat, Int.reduceNeg]
    repeat refine And.intro (by first | assumption | omega | rfl | (simp; done) | (simp; omega) | (intros; simp_all; done) | grind) ?_
    obtain ⟨v4, hv4, h⟩ := bind_of h
    refine acall_of (fun hg => law11_awake_ok  _ (hv4)) ?_
    simp only [go_sem, ↓reduceIte, reduceCtorEq, Nat.reduceEqDiff, Nat.reduceAdd, Nat.reduceSub, Nat.reduceMul, Nat.reduceLeDiff, Nat.reduceLT, Int.reduceLE, Int.reduceLT, Int.reduceToNat, Int.reduceNeg]
    repeat refine And.intro (by first | assumption | omega | rfl | (simp; done) | (simp; omega) | (intros; simp_all; done) | grind) ?_
    obtain ⟨v5, hv5, h⟩ := bind_of h
    refine acall_of (fun hg => line_Find_ok v1.1 a1.proc _ (ite_t hg hv5)) ?_
    simp only [go_sem, ↓reduceIte, reduceCtorEq, Nat.reduceEqDiff, Nat.reduceAdd, Nat.reduceSub, Nat.reduceMul, Nat.reduceLeDiff, Nat.reduceLT, Int.reduceLE, Int.reduceLT, Int.reduceToNat, Int.reduceNeg]
    repeat refine And.intro (by first | assumption | omega | rfl | (simp; done) | (simp; omega) | (intros; simp_all; done) | grind) ?_
    refine aw_cond rfl hG ?_ ?_
    · intro hc2
      replace h := ite_t (by first | exact hc2 | simpa using hc2) h
      refine s_seq ?_
      refine aw_reg hG ?_
      simp only [r_law11_LineKeeps_6, go_sem, ↓reduceIte, reduceCtorEq, Nat.reduceEqDiff, Nat.reduceAdd, Nat.reduceSub, Nat.reduceMul, Nat.reduceLeDiff, Nat.reduceLT, Int.reduceLE, Int.reduceLT, Int.reduceToNat, Int.reduceNeg]
      repeat refine And.intro (by first | assumption | omega | rfl | (simp; done) | (simp; omega) | (intros; simp_all; done) | grind) ?_
      refine aw_ret ?_
      simp only [go_sem, ↓reduceIte, reduceCtorEq, Nat.reduceEqDiff, Nat.reduceAdd, Nat.reduceSub, Nat.reduceMul, Nat.reduceLeDiff, Nat.reduceLT, Int.reduceLE, Int.reduceLT, Int.reduceToNat, Int.reduceNeg]
      obtain rfl := Option.some.inj h
      first | done | rfl | (simp; done) | (repeat' (first | rfl | trivial | omega | (simp; done) | apply And.intro))
    · intro hc2
      replace h := ite_f (by first | exact hc2 | simpa using hc2) h
      refine aw_skip ?_
      simp only [go_sem, ↓reduceIte, reduceCtorEq, Nat.reduceEqDiff, Nat.reduceAdd, Nat.reduceSub, Nat.reduceMul, Nat.reduceLeDiff, Nat.reduceLT, Int.reduceLE, Int.reduceLT, Int.reduceToNat, Int.reduceNeg]
      refine s_seq ?_
      refine s_seq ?_
      refine aw_reg hG ?_
      simp only [r_law11_LineKeeps_7, go_sem, ↓reduceIte, reduceCtorEq, Nat.reduceEqDiff, Nat.reduceAdd, Nat.reduceSub, Nat.reduceMul, Nat.reduceLeDiff, Nat.reduceLT, Int.reduceLE, Int.reduceLT, Int.reduceToNat, Int.reduceNeg]
      repeat refine And.intro (by first | assumption | omega | rfl | (simp; done) | (simp; omega) | (intros; simp_all; done) | grind) ?_
      refine s_blockJ (J_law11_LineKeeps_k1) (fun v => f_law11_LineKeeps_k1 v = some r) ?_ ?_
      · intro j1 h
        unfold f_law11_LineKeeps_k1 at h
        simp only [J_law11_LineKeeps_k1, go_sem, ↓reduceIte, reduceCtorEq, Nat.reduceEqDiff, Nat.reduceAdd, Nat.reduceSub, Nat.reduceMul, Nat.reduceLeDiff, Nat.reduceLT, Int.reduceLE, Int.reduceLT, Int.reduceToNat, Int.reduceNeg]
        refine s_seq ?_
        refine aw_reg hG ?_
        simp only [r_law11_LineKeeps_14, go_sem, ↓reduceIte, reduceCtorEq, Nat.reduceEqDiff, Nat.reduceAdd, Nat.reduceSub, Nat.reduceMul, Nat.reduceLeDiff, Nat.reduceLT, Int.reduceLE, Int.reduceLT, Int.reduceToNat, Int.reduceNeg]
        repeat refine And.intro (by first | assumption | omega | rfl | (simp; done) | (simp; omega) | (intros; simp_all; done) | grind) ?_
        refine aw_ret ?_
        simp only [go_sem, ↓reduceIte, reduceCtorEq, Nat.reduceEqDiff, Nat.reduceAdd, Nat.reduceSub, Nat.reduceMul, Nat.reduceLeDiff, Nat.reduceLT, Int.reduceLE, Int.reduceLT, Int.reduceToNat, Int.reduceNeg]
        obtain rfl := Option.some.inj h
        first | done | rfl | (simp; done) | (repeat' (first | rfl | trivial | omega | (simp; done) | apply And.intro))
      obtain ⟨x_l1, hl_l1, h⟩ := bind_of h
      refine s_loopO (I_law11_LineKeeps_l1 a0 v1 v3) hK [] hl_l1 ?_ ?_
      · simp only [I_law11_LineKeeps_l1, go_sem, ↓reduceIte, reduceCtorEq, Nat.reduceEqDiff, Nat.reduceAdd, Nat.reduceSub, Nat.reduceMul, Nat.reduceLeDiff, Nat.reduceLT, Int.reduceLE, Int.reduceLT, Int.reduceToNat, Int.reduceNeg]
        first | (done) | trivial | (simp; done) | (repeat' (first | rfl | trivial | omega | (simp; done) | (simp; omega) | (congr 1; simp only [List.length_append, List.length_take, List.length_drop, List.length_replicate]; omega) | apply And.intro))
      · clear hl_l1
        intro g1 y_l1 h_l1 hx_l1
        unfold f_law11_LineKeeps_l1 at h_l1
        simp only [I_law11_LineKeeps_l1, go_sem, ↓reduceIte, reduceCtorEq, Nat.reduceEqDiff, Nat.reduceAdd, Nat.reduceSub, Nat.reduceMul, Nat.reduceLeDiff, Nat.reduceLT, Int.reduceLE, Int.reduceLT, Int.reduceToNat, Int.reduceNeg]
        refine s_seq ?_
        refine s_seq ?_
        refine aw_reg hG ?_
        simp only [r_law11_LineKeeps_8, go_sem, ↓reduceIte, reduceCtorEq, Nat.reduceEqDiff, Nat.reduceAdd, Nat.reduceSub, Nat.reduceMul, Nat.reduceLeDiff, Nat.reduceLT, Int.reduceLE, Int.reduceLT, Int.reduceToNat, Int.reduceNeg]
        repeat refine And.intro (by first | assumption | omega | rfl | (simp; done) | (simp; omega) | (intros; simp_all; done) | grind) ?_
        refine aw_cond rfl hG ?_ ?_
        · intro hc3
          replace h_l1 := ite_t (by first | exact hc3 | simpa using hc3) h_l1
          refine aw_skip ?_
          simp only [go_sem, ↓reduceIte, reduceCtorEq, Nat.reduceEqDiff, Nat.reduceAdd, Nat.reduceSub, Nat.reduceMul, Nat.reduceLeDiff, Nat.reduceLT, Int.reduceLE, Int.reduceLT, Int.reduceToNat, Int.reduceNeg]
          refine s_seq ?_
          refine s_block ?_
          refine s_seq ?_
          obtain ⟨hb9, h_l1⟩ := gd_some h_l1
          refine aw_reg hG ?_
          simp only [r_law11_LineKeeps_10, go_sem, ↓reduceIte, reduceCtorEq, Nat.reduceEqDiff, Nat.reduceAdd, Nat.reduceSub, Nat.reduceMul, Nat.reduceLeDiff, Nat.reduceLT, Int.reduceLE, Int.reduceLT, Int.reduceToNat, Int.reduceNeg, hb9]
          repeat refine And.intro (by first | assumption | omega | rfl | (simp; done) | (simp; omega) | (intros; simp_all; done) | grind) ?_
          refine s_seq ?_
          obtain ⟨hb8, h_l1⟩ := gd_some h_l1
          refine aw_reg hG ?_
          simp only [r_law11_LineKeeps_11, go_sem, ↓reduceIte, reduceCtorEq, Nat.reduceEqDiff, Nat.reduceAdd, Nat.reduceSub, Nat.reduceMul, Nat.reduceLeDiff, Nat.reduceLT, Int.reduceLE, Int.reduceLT, Int.reduceToNat, Int.reduceNeg, hb8]
          repeat refine And.intro (by first | assumption | omega | rfl | (simp; done) | (simp; omega) | (intros; simp_all; done) | grind) ?_
          refine s_seq ?_
          obtain ⟨hb1, h_l1⟩ := gd_some h_l1
          obtain ⟨hb2, h_l1⟩ := gd_some h_l1
          obtain ⟨hb3, h_l1⟩ := gd_some h_l1
          obtain ⟨hb4, h_l1⟩ := gd_some h_l1
          obtain ⟨hb5, h_l1⟩ := gd_some h_l1
          obtain ⟨hb6, h_l1⟩ := gd_some h_l1
          obtain ⟨hb7, h_l1⟩ := gd_some h_l1
          refine aw_regd C_mixed hG ?_
          simp only [r_law11_LineKeeps_12, go_sem, ↓reduceIte, reduceCtorEq, Nat.reduceEqDiff, Nat.reduceAdd, Nat.reduceSub, Nat.reduceMul, Nat.reduceLeDiff, Nat.reduceLT, Int.reduceLE, Int.reduceLT, Int.reduceToNat, Int.reduceNeg, hb1, hb2, hb3, hb4, hb5, hb6, hb7]
          repeat refine And.intro (by first | assumption | omega | rfl | (simp; done) | (simp; omega) | (intros; simp_all; done) | grind) ?_
          refine aw_cond rfl hG ?_ ?_
          · intro hc4
            replace h_l1 := ite_t (by first | exact hc4 | simpa using hc4) h_l1
            refine s_seq ?_
            refine aw_reg hG ?_
            simp only [r_law11_LineKeeps_13, go_sem, ↓reduceIte, reduceCtorEq, Nat.reduceEqDiff, Nat.reduceAdd, Nat.reduceSub, Nat.reduceMul, Nat.reduceLeDiff, Nat.reduceLT, Int.reduceLE, Int.reduceLT, Int.reduceToNat, Int.reduceNeg]
            repeat refine And.intro (by first | assumption | omega | rfl | (simp; done) | (simp; omega) | (intros; simp_all; done) | grind) ?_
            refine aw_ret ?_
            simp only [go_sem, ↓reduceIte, reduceCtorEq, Nat.reduceEqDiff, Nat.reduceAdd, Nat.reduceSub, Nat.reduceMul, Nat.reduceLeDiff, Nat.reduceLT, Int.reduceLE, Int.reduceLT, Int.reduceToNat, Int.reduceNeg]
            obtain rfl := Option.some.inj h_l1
            have hx := hx_l1 _ rfl
            subst hx
            try dsimp only at h
            obtain rfl := Option.some.inj h
            first | done | rfl | (simp; done) | (repeat' (first | rfl | trivial | omega | (simp; done) | apply And.intro))
          · intro hc4
            replace h_l1 := ite_f (by first | exact hc4 | simpa using hc4) h_l1
            refine aw_skip ?_
            simp only [go_sem, ↓reduceIte, reduceCtorEq, Nat.reduceEqDiff, Nat.reduceAdd, Nat.reduceSub, Nat.reduceMul, Nat.reduceLeDiff, Nat.reduceLT, Int.reduceLE, Int.reduceLT, Int.reduceToNat, Int.reduceNeg]
            refine aw_reg hG ?_
            simp only [r_law11_LineKeeps_9, go_sem, ↓reduceIte, reduceCtorEq, Nat.reduceEqDiff, Nat.reduceAdd, Nat.reduceSub, Nat.reduceMul, Nat.reduceLeDiff, Nat.reduceLT, Int.reduceLE, Int.reduceLT, Int.reduceToNat, Int.reduceNeg]
            repeat refine And.intro (by first | assumption | omega | rfl | (simp; done) | (simp; omega) | (intros; simp_all; done) | grind) ?_
            obtain rfl := Option.some.inj h_l1
            refine loopN_of hK [] ?_
            simp only [I_law11_LineKeeps_l1, go_sem, ↓reduceIte, reduceCtorEq, Nat.reduceEqDiff, Nat.reduceAdd, Nat.reduceSub, Nat.reduceMul, Nat.reduceLeDiff, Nat.reduceLT, Int.reduceLE, Int.reduceLT, Int.reduceToNat, Int.reduceNeg]
            first | (done) | trivial | (simp; done) | (repeat' (first | rfl | trivial | omega | (simp; done) | (simp; omega) | (congr 1; simp only [List.length_append, List.length_take, List.length_drop, List.length_replicate]; omega) | apply And.intro))
        · intro hc3
          replace h_l1 := ite_f (by first | exact hc3 | simpa using hc3) h_l1
          refine aw_exit ?_
          simp only [go_sem, ↓reduceIte, reduceCtorEq, Nat.reduceEqDiff, Nat.reduceAdd, Nat.reduceSub, Nat.reduceMul, Nat.reduceLeDiff, Nat.reduceLT, Int.reduceLE, Int.reduceLT, Int.reduceToNat, Int.reduceNeg]
          obtain rfl := Option.some.inj h_l1
          have hx := hx_l1 _ rfl
          subst hx
          try dsimp only at h
          refine joinG_of hK () (by exact h) [] ?_
          simp only [J_law11_LineKeeps_k1, go_sem, ↓reduceIte, reduceCtorEq, Nat.reduceEqDiff, Nat.reduceAdd, Nat.reduceSub, Nat.reduceMul, Nat.reduceLeDiff, Nat.reduceLT, Int.reduceLE, Int.reduceLT, Int.reduceToNat, Int.reduceNeg]
          first | (done) | trivial | (simp; done) | (repeat' (first | rfl | trivial | omega | (simp; done) | (simp; omega) | (congr 1; simp only [List.length_append, List.length_take, List.length_drop, List.length_replicate]; omega) | apply And.intro))

def f_mill_Light (a0 : List Int) : Bool :=
  (decide ((a0.length : Int) ≤ 300))
theorem mill_Light_ok (a0 : List Int) : PFn C 26 [.sl (a0.map (eI .i64))] (.bool (f_mill_Light a0)) := by
  generalize h : f_mill_Light a0 = r
  refine pfn_intro chk_mill_Light rfl fun E hG hN hK => ?_
  unfold pc_mill_Light
  unfold f_mill_Light at h
  refine s_seq ?_
  refine aw_reg hG ?_
  simp only [r_mill_Light_0, go_sem, ↓reduceIte, reduceCtorEq, Nat.reduceEqDiff, Nat.reduceAdd, Nat.reduceSub, Nat.reduceMul, Nat.reduceLeDiff, Nat.reduceLT, Int.reduceLE, Int.reduceLT, Int.reduceToNat, Int.reduceNeg]
  repeat refine And.intro (by first | assumption | omega | rfl | (simp; done) | (simp; omega) | (intros; simp_all; done) | grind) ?_
  refine s_seq ?_
  refine aw_reg hG ?_
  simp only [r_mill_Light_1, go_sem, ↓reduceIte, reduceCtorEq, Nat.reduceEqDiff, Nat.reduceAdd, Nat.reduceSub, Nat.reduceMul, Nat.reduceLeDiff, Nat.reduceLT, Int.reduceLE, Int.reduceLT, Int.reduceToNat, Int.reduceNeg]
  repeat refine And.intro (by first | assumption | omega | rfl | (simp; done) | (simp; omega) | (intros; simp_all; done) | grind) ?_
  refine aw_ret ?_
  simp only [go_sem, ↓reduceIte, reduceCtorEq, Nat.reduceEqDiff, Nat.reduceAdd, Nat.reduceSub, Nat.reduceMul, Nat.reduceLeDiff, Nat.reduceLT, Int.reduceLE, Int.reduceLT, Int.reduceToNat, Int.reduceNeg]
  subst h
  first | done | rfl | (simp; done) | (repeat' (first | rfl | trivial | omega | (simp; done) | apply And.intro))

noncomputable def f_law11_step (a0 : List Wait) (a1 : Int) : Option ((List Wait) × Bool × Bool) :=
  (if (decide ((a1.tmod 5) = 0)) = true then
    (f_mill_Proc (IntKind.i64.wrap (a1.tdiv 5))).bind fun v1 =>
    (f_line_Remove a0 v1).bind fun v2 =>
    some (v2.1, false, true)
  else
    (f_mill_Mod a1 8).bind fun v3 =>
    (f_law11_claim (IntKind.i64.wrap (a1.tdiv 5)) v3).bind fun v4 =>
    (f_line_Insert a0 v4).bind fun v5 =>
    (if (!decide (v5.2.2 = 0)) = true then
      some (a0, false, ((decide (v5.2.2 = 11)) || (decide (v5.2.2 = 4))))
    else
      some (v5.1, true, true)))
theorem law11_step_ok (a0 : List Wait) (a1 : Int) (r : (List Wait) × Bool × Bool) (h : f_law11_step a0 a1 = some r) : PFn C 28 [.sl (a0.map Wait.enc), .int .i64 a1] (.tup [.sl (r.1.map Wait.enc), .bool r.2.1, .bool r.2.2]) := by
  refine pfn_intro chk_law11_step rfl fun E hG hN hK => ?_
  unfold pc_law11_step
  unfold f_law11_step at h
  refine s_seq ?_
  refine aw_reg hG ?_
  simp only [r_law11_step_0, go_sem, ↓reduceIte, reduceCtorEq, Nat.reduceEqDiff, Nat.reduceAdd, Nat.reduceSub, Nat.reduceMul, Nat.reduceLeDiff, Nat.reduceLT, Int.reduceLE, Int.reduceLT, Int.reduceToNat, Int.reduceNeg]
  repeat refine And.intro (by first | assumption | omega | rfl | (simp; done) | (simp; omega) | (intros; simp_all; done) | grind) ?_
  refine s_seq ?_
  refine s_seq ?_
  refine aw_reg hG ?_
  simp only [r_law11_step_1, go_sem, ↓reduceIte, reduceCtorEq, Nat.reduceEqDiff, Nat.reduceAdd, Nat.reduceSub, Nat.reduceMul, Nat.reduceLeDiff, Nat.reduceLT, Int.reduceLE, Int.reduceLT, Int.reduceToNat, Int.reduceNeg]
  repeat refine And.intro (by first | assumption | omega | rfl | (simp; done) | (simp; omega) | (intros; simp_all; done) | grind) ?_
  refine aw_cond rfl hG ?_ ?_
  · intro hc1
    replace h := ite_t (by first | exact hc1 | simpa using hc1) h
    refine s_seq ?_
    refine aw_reg hG ?_
    simp only [r_law11_step_2, go_sem, ↓reduceIte, reduceCtorEq, Nat.reduceEqDiff, Nat.reduceAdd, Nat.reduceSub, Nat.reduceMul, Nat.reduceLeDiff, Nat.reduceLT, Int.reduceLE, Int.reduceLT, Int.reduceToNat, Int.reduceNeg]
    repeat refine And.intro (by first | assumption | omega | rfl | (simp; done) | (simp; omega) | (intros; simp_all; done) | grind) ?_
    obtain ⟨v1, hv1, h⟩ := bind_of h
    refine acall_of (fun hg => mill_Proc_ok (IntKind.i64.wrap (a1.tdiv 5)) _ (hv1)) ?_
    simp only [go_sem, ↓reduceIte, reduceCtorEq, Nat.reduceEqDiff, Nat.reduceAdd, Nat.reduceSub, Nat.reduceMul, Nat.reduceLeDiff, Nat.reduceLT, Int.reduceLE, Int.reduceLT, Int.reduceToNat, Int.reduceNeg]
    repeat refine And.intro (by first | assumption | omega | rfl | (simp; done) | (simp; omega) | (intros; simp_all; done) | grind) ?_
    obtain ⟨v2, hv2, h⟩ := bind_of h
    refine acall_of (fun hg => line_Remove_ok a0 v1 _ (hv2)) ?_
    simp only [go_sem, ↓reduceIte, reduceCtorEq, Nat.reduceEqDiff, Nat.reduceAdd, Nat.reduceSub, Nat.reduceMul, Nat.reduceLeDiff, Nat.reduceLT, Int.reduceLE, Int.reduceLT, Int.reduceToNat, Int.reduceNeg]
    repeat refine And.intro (by first | assumption | omega | rfl | (simp; done) | (simp; omega) | (intros; simp_all; done) | grind) ?_
    refine s_seq ?_
    refine aw_reg hG ?_
    simp only [r_law11_step_3, go_sem, ↓reduceIte, reduceCtorEq, Nat.reduceEqDiff, Nat.reduceAdd, Nat.reduceSub, Nat.reduceMul, Nat.reduceLeDiff, Nat.reduceLT, Int.reduceLE, Int.reduceLT, Int.reduceToNat, Int.reduceNeg]
    repeat refine And.intro (by first | assumption | omega | rfl | (simp; done) | (simp; omega) | (intros; simp_all; done) | grind) ?_
    refine aw_ret ?_
    simp only [go_sem, ↓reduceIte, reduceCtorEq, Nat.reduceEqDiff, Nat.reduceAdd, Nat.reduceSub, Nat.reduceMul, Nat.reduceLeDiff, Nat.reduceLT, Int.reduceLE, Int.reduceLT, Int.reduceToNat, Int.reduceNeg]
    obtain rfl := Option.some.inj h
    first | done | rfl | (simp; done) | (repeat' (first | rfl | trivial | omega | (simp; done) | apply And.intro))
  · intro hc1
    replace h := ite_f (by first | exact hc1 | simpa using hc1) h
    refine aw_skip ?_
    simp only [go_sem, ↓reduceIte, reduceCtorEq, Nat.reduceEqDiff, Nat.reduceAdd, Nat.reduceSub, Nat.reduceMul, Nat.reduceLeDiff, Nat.reduceLT, Int.reduceLE, Int.reduceLT, Int.reduceToNat, Int.reduceNeg]
    refine s_seq ?_
    refine aw_reg hG ?_
    simp only [r_law11_step_4, go_sem, ↓reduceIte, reduceCtorEq, Nat.reduceEqDiff, Nat.reduceAdd, Nat.reduceSub, Nat.reduceMul, Nat.reduceLeDiff, Nat.reduceLT, Int.reduceLE, Int.reduceLT, Int.reduceToNat, Int.reduceNeg]
    repeat refine And.intro (by first | assumption | omega | rfl | (simp; done) | (simp; omega) | (intros; simp_all; done) | grind) ?_
    obtain ⟨v3, hv3, h⟩ := bind_of h
    refine acall_of (fun hg => mill_Mod_ok a1 8 _ (hv3)) ?_
    simp only [go_sem, ↓reduceIte, reduceCtorEq, Nat.reduceEqDiff, Nat.reduceAdd, Nat.reduceSub, Nat.reduceMul, Nat.reduceLeDiff, Nat.reduceLT, Int.reduceLE, Int.reduceLT, Int.reduceToNat, Int.reduceNeg]
    repeat refine And.intro (by first | assumption | omega | rfl | (simp; done) | (simp; omega) | (intros; simp_all; done) | grind) ?_
    obtain ⟨v4, hv4, h⟩ := bind_of h
    refine acall_of (fun hg => law11_claim_ok (IntKind.i64.wrap (a1.tdiv 5)) v3 _ (hv4)) ?_
    simp only [go_sem, ↓reduceIte, reduceCtorEq, Nat.reduceEqDiff, Nat.reduceAdd, Nat.reduceSub, Nat.reduceMul, Nat.reduceLeDiff, Nat.reduceLT, Int.reduceLE, Int.reduceLT, Int.reduceToNat, Int.reduceNeg]
    repeat refine And.intro (by first | assumption | omega | rfl | (simp; done) | (simp; omega) | (intros; simp_all; done) | grind) ?_
    obtain ⟨v5, hv5, h⟩ := bind_of h
    refine acall_of (fun hg => line_Insert_ok a0 v4 _ (hv5)) ?_
    simp only [go_sem, ↓reduceIte, reduceCtorEq, Nat.reduceEqDiff, Nat.reduceAdd, Nat.reduceSub, Nat.reduceMul, Nat.reduceLeDiff, Nat.reduceLT, Int.reduceLE, Int.reduceLT, Int.reduceToNat, Int.reduceNeg]
    repeat refine And.intro (by first | assumption | omega | rfl | (simp; done) | (simp; omega) | (intros; simp_all; done) | grind) ?_
    refine s_seq ?_
    refine s_seq ?_
    refine aw_reg hG ?_
    simp only [r_law11_step_5, go_sem, ↓reduceIte, reduceCtorEq, Nat.reduceEqDiff, Nat.reduceAdd, Nat.reduceSub, Nat.reduceMul, Nat.reduceLeDiff, Nat.reduceLT, Int.reduceLE, Int.reduceLT, Int.reduceToNat, Int.reduceNeg]
    repeat refine And.intro (by first | assumption | omega | rfl | (simp; done) | (simp; omega) | (intros; simp_all; done) | grind) ?_
    refine aw_cond rfl hG ?_ ?_
    · intro hc2
      replace h := ite_t (by first | exact hc2 | simpa using hc2) h
      refine s_seq ?_
      refine aw_reg hG ?_
      simp only [r_law11_step_6, go_sem, ↓reduceIte, reduceCtorEq, Nat.reduceEqDiff, Nat.reduceAdd, Nat.reduceSub, Nat.reduceMul, Nat.reduceLeDiff, Nat.reduceLT, Int.reduceLE, Int.reduceLT, Int.reduceToNat, Int.reduceNeg]
      repeat refine And.intro (by first | assumption | omega | rfl | (simp; done) | (simp; omega) | (intros; simp_all; done) | grind) ?_
      refine aw_ret ?_
      simp only [go_sem, ↓reduceIte, reduceCtorEq, Nat.reduceEqDiff, Nat.reduceAdd, Nat.reduceSub, Nat.reduceMul, Nat.reduceLeDiff, Nat.reduceLT, Int.reduceLE, Int.reduceLT, Int.reduceToNat, Int.reduceNeg]
      obtain rfl := Option.some.inj h
      first | done | rfl | (simp; done) | (repeat' (first | rfl | trivial | omega | (simp; done) | apply And.intro))
    · intro hc2
      replace h := ite_f (by first | exact hc2 | simpa using hc2) h
      refine aw_skip ?_
      simp only [go_sem, ↓reduceIte, reduceCtorEq, Nat.reduceEqDiff, Nat.reduceAdd, Nat.reduceSub, Nat.reduceMul, Nat.reduceLeDiff, Nat.reduceLT, Int.reduceLE, Int.reduceLT, Int.reduceToNat, Int.reduceNeg]
      refine s_seq ?_
      refine aw_reg hG ?_
      simp only [r_law11_step_7, go_sem, ↓reduceIte, reduceCtorEq, Nat.reduceEqDiff, Nat.reduceAdd, Nat.reduceSub, Nat.reduceMul, Nat.reduceLeDiff, Nat.reduceLT, Int.reduceLE, Int.reduceLT, Int.reduceToNat, Int.reduceNeg]
      repeat refine And.intro (by first | assumption | omega | rfl | (simp; done) | (simp; omega) | (intros; simp_all; done) | grind) ?_
      refine aw_ret ?_
      simp only [go_sem, ↓reduceIte, reduceCtorEq, Nat.reduceEqDiff, Nat.reduceAdd, Nat.reduceSub, Nat.reduceMul, Nat.reduceLeDiff, Nat.reduceLT, Int.reduceLE, Int.reduceLT, Int.reduceToNat, Int.reduceNeg]
      obtain rfl := Option.some.inj h
      first | done | rfl | (simp; done) | (repeat' (first | rfl | trivial | omega | (simp; done) | apply And.intro))
end Ab
end Go.Proofs.Ytgiipcdnbnahiaa
