/-
  Functions of the program, as Lean functions; what the program's code computes is what they say.
-/
import Derived.Test.YtgiipcdnbnahiaaFn1
namespace Go.Proofs.Ytgiipcdnbnahiaa
namespace Ab
set_option linter.unusedSimpArgs false
set_option linter.unusedVariables false
set_option maxRecDepth 100000
set_option maxHeartbeats 1000000

noncomputable def f_law11_LineFair_k1  (j1 : (List Wait)) : Option (Bool) :=
  (f_law11_awake).bind fun v2 =>
  ((if v2 = true then f_ref11_Valid j1 else some (false))).bind fun v3 =>
  some (v2 && v3)
def J_law11_LineFair_k1  (j1 : (List Wait)) : St := ⟨[(3, .sl (j1.map Wait.enc))], [], 0⟩
noncomputable def f_law11_LineFair_k3 (g1 : (List Wait) × Int × (Arr Int 8)) (v5 : (List Wait) × Bool × Bool) (j2 : (Arr Int 8)) (j3 : Unit) : Option (((List Wait) × Int × (Arr Int 8)) ⊕ (((List Wait)) ⊕ (Bool))) :=
  some (.inl (v5.1, (IntKind.i64.wrap (g1.2.1 + 1)), j2))
def J_law11_LineFair_k3 (a0 : List Int) (g1 : (List Wait) × Int × (Arr Int 8)) (v5 : (List Wait) × Bool × Bool) (j2 : (Arr Int 8)) (j3 : Unit) : St := ⟨[(0, .sl (a0.map (eI .i64))), (3, .sl (v5.1.map Wait.enc)), (4, .ptr 0 0 0), (5, .int .i64 g1.2.1)], [(0, ⟨false, 8, (Arr.enc (eI .i64) (Arr.rep 8 0)), [Arr.enc (eI .i64) j2]⟩)], 1⟩
noncomputable def f_law11_LineFair_k4 (g2 : Int) (j4 : Unit) : Option ((Int) ⊕ ((Unit) ⊕ (Bool))) :=
  some (.inl (IntKind.i64.wrap (g2 + 1)))
def J_law11_LineFair_k4 (a0 : List Int) (g1 : (List Wait) × Int × (Arr Int 8)) (v5 : (List Wait) × Bool × Bool) (j2 : (Arr Int 8)) (g2 : Int) (j4 : Unit) : St := ⟨[(0, .sl (a0.map (eI .i64))), (3, .sl (v5.1.map Wait.enc)), (4, .ptr 0 0 0), (5, .int .i64 g1.2.1), (15, .int .i64 g2)], [(0, ⟨false, 8, (Arr.enc (eI .i64) (Arr.rep 8 0)), [Arr.enc (eI .i64) j2]⟩)], 1⟩
noncomputable def f_law11_LineFair_l3 (v5 : (List Wait) × Bool × Bool) (j2 : (Arr Int 8)) (g2 : Int) (g3 : Int) : Option ((Int) ⊕ ((Unit) ⊕ (Bool))) :=
  (if (decide (g3 < 8)) = true then
    gd (0 ≤ g2 ∧ g2 < (v5.1.length : Int)) <|
    (f_mill_Proc g3).bind fun v7 =>
    gd ((decide ((v5.1.getD g2.toNat Wait.zero).proc = v7)) = true → 0 ≤ g2 ∧ g2 < (v5.1.length : Int)) <|
    gd ((decide ((v5.1.getD g2.toNat Wait.zero).proc = v7)) = true → 0 ≤ g3 ∧ g3 < 8) <|
    gd (((decide ((v5.1.getD g2.toNat Wait.zero).proc = v7)) && (decide ((v5.1.getD g2.toNat Wait.zero).passed = (Arr.get j2 g3.toNat 0)))) = true → 0 ≤ g3 ∧ g3 < 8) <|
    (if ((decide ((v5.1.getD g2.toNat Wait.zero).proc = v7)) && ((!decide ((v5.1.getD g2.toNat Wait.zero).passed = (Arr.get j2 g3.toNat 0))) || (decide (3 < (Arr.get j2 g3.toNat 0))))) = true then
      some (.inr (.inr false))
    else
      some (.inl (IntKind.i64.wrap (g3 + 1))))
  else
    some (.inr (.inl ())))
def I_law11_LineFair_l3 (a0 : List Int) (g1 : (List Wait) × Int × (Arr Int 8)) (v5 : (List Wait) × Bool × Bool) (j2 : (Arr Int 8)) (g2 : Int) (g3 : Int) : St := ⟨[(0, .sl (a0.map (eI .i64))), (3, .sl (v5.1.map Wait.enc)), (4, .ptr 0 0 0), (5, .int .i64 g1.2.1), (15, .int .i64 g2), (16, .int .i64 g3)], [(0, ⟨false, 8, (Arr.enc (eI .i64) (Arr.rep 8 0)), [Arr.enc (eI .i64) j2]⟩)], 1⟩
noncomputable def f_law11_LineFair_l2 (v5 : (List Wait) × Bool × Bool) (j2 : (Arr Int 8)) (g2 : Int) : Option ((Int) ⊕ ((Unit) ⊕ (Bool))) :=
  (if (decide (g2 < (v5.1.length : Int))) = true then
    (loopO (f_law11_LineFair_l3 v5 j2 g2) 0).bind (fun | .inl z => f_law11_LineFair_k4 g2 z | .inr z => some (.inr (.inr z)))
  else
    some (.inr (.inl ())))
def I_law11_LineFair_l2 (a0 : List Int) (g1 : (List Wait) × Int × (Arr Int 8)) (v5 : (List Wait) × Bool × Bool) (j2 : (Arr Int 8)) (g2 : Int) : St := ⟨[(0, .sl (a0.map (eI .i64))), (3, .sl (v5.1.map Wait.enc)), (4, .ptr 0 0 0), (5, .int .i64 g1.2.1), (15, .int .i64 g2)], [(0, ⟨false, 8, (Arr.enc (eI .i64) (Arr.rep 8 0)), [Arr.enc (eI .i64) j2]⟩)], 1⟩
noncomputable def f_law11_LineFair_k2 (g1 : (List Wait) × Int × (Arr Int 8)) (v5 : (List Wait) × Bool × Bool) (j2 : (Arr Int 8)) : Option (((List Wait) × Int × (Arr Int 8)) ⊕ (((List Wait)) ⊕ (Bool))) :=
  (loopO (f_law11_LineFair_l2 v5 j2) 0).bind (fun | .inl z => f_law11_LineFair_k3 g1 v5 j2 z | .inr z => some (.inr (.inr z)))
def J_law11_LineFair_k2 (a0 : List Int) (g1 : (List Wait) × Int × (Arr Int 8)) (v5 : (List Wait) × Bool × Bool) (j2 : (Arr Int 8)) : St := ⟨[(0, .sl (a0.map (eI .i64))), (4, .ptr 0 0 0), (5, .int .i64 g1.2.1), (7, .sl (v5.1.map Wait.enc))], [(0, ⟨false, 8, (Arr.enc (eI .i64) (Arr.rep 8 0)), [Arr.enc (eI .i64) j2]⟩)], 1⟩
noncomputable def f_law11_LineFair_l4 (g1 : (List Wait) × Int × (Arr Int 8)) (v5 : (List Wait) × Bool × Bool) (v6 : Proc) (g4 : Int × (Arr Int 8)) : Option ((Int × (Arr Int 8)) ⊕ (((Arr Int 8)))) :=
  (if ((decide (g4.1 < 8)) && v5.2.1) = true then
    (f_mill_Proc g4.1).bind fun v8 =>
    (if (decide (v8 = v6)) = true then
      gd (0 ≤ g4.1 ∧ g4.1 < 8) <|
      some (.inl ((IntKind.i64.wrap (g4.1 + 1)), (Arr.put g4.2 g4.1.toNat 0)))
    else
      (f_ref11_Find v5.1 v8).bind fun v9 =>
      (f_ref11_Find v5.1 v6).bind fun v10 =>
      ((if (decide (v10 < v9)) = true then f_ref11_Find g1.1 v8 else some (0))).bind fun v11 =>
      (if ((decide (v10 < v9)) && (decide (0 ≤ v11))) = true then
        gd (0 ≤ g4.1 ∧ g4.1 < 8) <|
        gd (0 ≤ g4.1 ∧ g4.1 < 8) <|
        some (.inl ((IntKind.i64.wrap (g4.1 + 1)), (Arr.put g4.2 g4.1.toNat (IntKind.i64.wrap ((Arr.get g4.2 g4.1.toNat 0) + 1)))))
      else
        some (.inl ((IntKind.i64.wrap (g4.1 + 1)), g4.2))))
  else
    some (.inr g4.2))
def I_law11_LineFair_l4 (a0 : List Int) (g1 : (List Wait) × Int × (Arr Int 8)) (v5 : (List Wait) × Bool × Bool) (v6 : Proc) (g4 : Int × (Arr Int 8)) : St := ⟨[(0, .sl (a0.map (eI .i64))), (3, .sl (g1.1.map Wait.enc)), (4, .ptr 0 0 0), (5, .int .i64 g1.2.1), (7, .sl (v5.1.map Wait.enc)), (8, .bool v5.2.1), (10, .ptr 1 0 0), (11, .int .i64 g4.1)], [(0, ⟨false, 8, (Arr.enc (eI .i64) (Arr.rep 8 0)), [Arr.enc (eI .i64) g4.2]⟩), (1, ⟨false, 3, (Proc.enc Proc.zero), [Proc.enc v6]⟩)], 2⟩
noncomputable def f_law11_LineFair_l1 (a0 : List Int) (g1 : (List Wait) × Int × (Arr Int 8)) : Option (((List Wait) × Int × (Arr Int 8)) ⊕ (((List Wait)) ⊕ (Bool))) :=
  (if (decide (g1.2.1 < (a0.length : Int))) = true then
    gd (0 ≤ g1.2.1 ∧ g1.2.1 < (a0.length : Int)) <|
    (f_mill_Mod (a0.getD g1.2.1.toNat 0) 400).bind fun v4 =>
    (f_law11_step g1.1 v4).bind fun v5 =>
    (if (!v5.2.2) = true then
      some (.inr (.inr false))
    else
      (f_mill_Proc (IntKind.i64.wrap (v4.tdiv 5))).bind fun v6 =>
      (loopO (f_law11_LineFair_l4 g1 v5 v6) (0, g1.2.2)).bind (fun z => f_law11_LineFair_k2 g1 v5 z))
  else
    some (.inr (.inl g1.1)))
def I_law11_LineFair_l1 (a0 : List Int) (g1 : (List Wait) × Int × (Arr Int 8)) : St := ⟨[(0, .sl (a0.map (eI .i64))), (3, .sl (g1.1.map Wait.enc)), (4, .ptr 0 0 0), (5, .int .i64 g1.2.1)], [(0, ⟨false, 8, (Arr.enc (eI .i64) (Arr.rep 8 0)), [Arr.enc (eI .i64) g1.2.2]⟩)], 1⟩
noncomputable def f_law11_LineFair (a0 : List Int) : Option (Bool) :=
  (if (!(f_mill_Light a0)) = true then
    (f_law11_awake).bind fun v1 =>
    some v1
  else
    (loopO (f_law11_LineFair_l1 a0) ([], 0, (Arr.rep 8 0))).bind (fun | .inl z => f_law11_LineFair_k1 z | .inr z => some z))
theorem law11_LineFair_ok (a0 : List Int) (r : Bool) (h : f_law11_LineFair a0 = some r) : PFn C 8 [.sl (a0.map (eI .i64))] (.bool r) := by
  refine pfn_intro chk_law11_LineFair rfl fun E hG hN hK => ?_
  unfold pc_law11_LineFair
  unfold f_law11_LineFair at h
  refine s_seq ?_
  refine aw_reg hG ?_
  simp only [r_law11_LineFair_0, go_sem, ↓reduceIte, reduceCtorEq, Nat.reduceEqDiff, Nat.reduceAdd, Nat.reduceSub, Nat.reduceMul, Nat.reduceLeDiff, Nat.reduceLT, Int.reduceLE, Int.reduceLT, Int.reduceToNat, Int.reduceNeg]
  repeat refine And.intro (by first | assumption | omega | rfl | (simp; done) | (simp; omega) | (intros; simp_all; done) | grind) ?_
  refine s_seq ?_
  refine s_seq ?_
  refine aw_reg hG ?_
  simp only [r_law11_LineFair_1, go_sem, ↓reduceIte, reduceCtorEq, Nat.reduceEqDiff, Nat.reduceAdd, Nat.reduceSub, Nat.reduceMul, Nat.reduceLeDiff, Nat.reduceLT, Int.reduceLE, Int.reduceLT, Int.reduceToNat, Int.reduceNeg]
  repeat refine And.intro (by first | assumption | omega | rfl | (simp; done) | (simp; omega) | (intros; simp_all; done) | grind) ?_
  refine acall_of (fun hg => mill_Light_ok a0) ?_
  simp only [go_sem, ↓reduceIte, reduceCtorEq, Nat.reduceEqDiff, Nat.reduceAdd, Nat.reduceSub, Nat.reduceMul, Nat.reduceLeDiff, Nat.reduceLT, Int.reduceLE, Int.reduceLT, Int.reduceToNat, Int.reduceNeg]
  repeat refine And.intro (by first | assumption | omega | rfl | (simp; done) | (simp; omega) | (intros; simp_all; done) | grind) ?_
  refine aw_cond rfl hG ?_ ?_
  · intro hc1
    replace h := ite_t (by first | exact hc1 | simpa using hc1) h
    refine s_seq ?_
    refine aw_reg hG ?_
    simp only [r_law11_LineFair_2, go_sem, ↓reduceIte, reduceCtorEq, Nat.reduceEqDiff, Nat.reduceAdd, Nat.reduceSub, Nat.reduceMul, Nat.reduceLeDiff, Nat.reduceLT, Int.reduceLE, Int.reduceLT, Int.reduceToNat, Int.reduceNeg]
    repeat refine And.intro (by first | assumption | omega | rfl | (simp; done) | (simp; omega) | (intros; simp_all; done) | grind) ?_
    obtain ⟨v1, hv1, h⟩ := bind_of h
    refine acall_of (fun hg => law11_awake_ok  _ (hv1)) ?_
    simp only [go_sem, ↓reduceIte, reduceCtorEq, Nat.reduceEqDiff, Nat.reduceAdd, Nat.reduceSub, Nat.reduceMul, Nat.reduceLeDiff, Nat.reduceLT, Int.reduceLE, Int.reduceLT, Int.reduceToNat, Int.reduceNeg]
    repeat refine And.intro (by first | assumption | omega | rfl | (simp; done) | (simp; omega) | (intros; simp_all; done) | grind) ?_
    refine aw_ret ?_
    simp only [go_sem, ↓reduceIte, reduceCtorEq, Nat.reduceEqDiff, Nat.reduceAdd, Nat.reduceSub, Nat.reduceMul, Nat.reduceLeDiff, Nat.reduceLT, Int.reduceLE, Int.reduceLT, Int.reduceToNat, Int.reduceNeg]
    obtain rfl := Option.some.inj h
    first | done | rfl | (simp; done) | (repeat' (first | rfl | trivial | omega | (simp; done) | apply And.intro))
  · intro hc1
    replace h := ite_f (by first | exact hc1 | simpa using hc1) h
    refine aw_skip ?_
    simp only [go_sem, ↓reduceIte, reduceCtorEq, Nat.reduceEqDiff, Nat.reduceAdd, Nat.reduceSub, Nat.reduceMul, Nat.reduceLeDiff, Nat.reduceLT, Int.reduceLE, Int.reduceLT, Int.reduceToNat, Int.reduceNeg]
    refine s_seq ?_
    refine aw_reg hG ?_
    simp only [r_law11_LineFair_3, go_sem, ↓reduceIte, reduceCtorEq, Nat.reduceEqDiff, Nat.reduceAdd, Nat.reduceSub, Nat.reduceMul, Nat.reduceLeDiff, Nat.reduceLT, Int.reduceLE, Int.reduceLT, Int.reduceToNat, Int.reduceNeg]
    repeat refine And.intro (by first | assumption | omega | rfl | (simp; done) | (simp; omega) | (intros; simp_all; done) | grind) ?_
    refine s_seq ?_
    refine aw_reg hG ?_
    simp only [r_law11_LineFair_4, go_sem, ↓reduceIte, reduceCtorEq, Nat.reduceEqDiff, Nat.reduceAdd, Nat.reduceSub, Nat.reduceMul, Nat.reduceLeDiff, Nat.reduceLT, Int.reduceLE, Int.reduceLT, Int.reduceToNat, Int.reduceNeg]
    repeat refine And.intro (by first | assumption | omega | rfl | (simp; done) | (simp; omega) | (intros; simp_all; done) | grind) ?_
    refine s_seq ?_
    refine s_seq ?_
    refine aw_reg hG ?_
    simp only [r_law11_LineFair_5, go_sem, ↓reduceIte, reduceCtorEq, Nat.reduceEqDiff, Nat.reduceAdd, Nat.reduceSub, Nat.reduceMul, Nat.reduceLeDiff, Nat.reduceLT, Int.reduceLE, Int.reduceLT, Int.reduceToNat, Int.reduceNeg]
    repeat refine And.intro (by first | assumption | omega | rfl | (simp; done) | (simp; omega) | (intros; simp_all; done) | grind) ?_
    refine s_blockJ (J_law11_LineFair_k1) (fun v => f_law11_LineFair_k1 v = some r) ?_ ?_
    · intro j1 h
      unfold f_law11_LineFair_k1 at h
      simp only [J_law11_LineFair_k1, go_sem, ↓reduceIte, reduceCtorEq, Nat.reduceEqDiff, Nat.reduceAdd, Nat.reduceSub, Nat.reduceMul, Nat.reduceLeDiff, Nat.reduceLT, Int.reduceLE, Int.reduceLT, Int.reduceToNat, Int.reduceNeg]
      refine s_seq ?_
      refine aw_reg hG ?_
      simp only [r_law11_LineFair_31, go_sem, ↓reduceIte, reduceCtorEq, Nat.reduceEqDiff, Nat.reduceAdd, Nat.reduceSub, Nat.reduceMul, Nat.reduceLeDiff, Nat.reduceLT, Int.reduceLE, Int.reduceLT, Int.reduceToNat, Int.reduceNeg]
      repeat refine And.intro (by first | assumption | omega | rfl | (simp; done) | (simp; omega) | (intros; simp_all; done) | grind) ?_
      obtain ⟨v2, hv2, h⟩ := bind_of h
      refine acall_of (fun hg => law11_awake_ok  _ (hv2)) ?_
      simp only [go_sem, ↓reduceIte, reduceCtorEq, Nat.reduceEqDiff, Nat.reduceAdd, Nat.reduceSub, Nat.reduceMul, Nat.reduceLeDiff, Nat.reduceLT, Int.reduceLE, Int.reduceLT, Int.reduceToNat, Int.reduceNeg]
      repeat refine And.intro (by first | assumption | omega | rfl | (simp; done) | (simp; omega) | (intros; simp_all; done) | grind) ?_
      obtain ⟨v3, hv3, h⟩ := bind_of h
      refine acall_of (fun hg => ref11_Valid_ok j1 _ (ite_t hg hv3)) ?_
      simp only [go_sem, ↓reduceIte, reduceCtorEq, Nat.reduceEqDiff, Nat.reduceAdd, Nat.reduceSub, Nat.reduceMul, Nat.reduceLeDiff, Nat.reduceLT, Int.reduceLE, Int.reduceLT, Int.reduceToNat, Int.reduceNeg]
      repeat refine And.intro (by first | assumption | omega | rfl | (simp; done) | (simp; omega) | (intros; simp_all; done) | grind) ?_
      refine aw_ret ?_
      simp only [go_sem, ↓reduceIte, reduceCtorEq, Nat.reduceEqDiff, Nat.reduceAdd, Nat.reduceSub, Nat.reduceMul, Nat.reduceLeDiff, Nat.reduceLT, Int.reduceLE, Int.reduceLT, Int.reduceToNat, Int.reduceNeg]
      obtain rfl := Option.some.inj h
      first | done | rfl | (simp; done) | (repeat' (first | rfl | trivial | omega | (simp; done) | apply And.intro))
    obtain ⟨x_l1, hl_l1, h⟩ := bind_of h
    refine s_loopO (I_law11_LineFair_l1 a0) hK [(0, 0)] hl_l1 ?_ ?_
    · simp only [I_law11_LineFair_l1, go_sem, ↓reduceIte, reduceCtorEq, Nat.reduceEqDiff, Nat.reduceAdd, Nat.reduceSub, Nat.reduceMul, Nat.reduceLeDiff, Nat.reduceLT, Int.reduceLE, Int.reduceLT, Int.reduceToNat, Int.reduceNeg]
      first | (done) | trivial | (simp; done) | (repeat' (first | rfl | trivial | omega | (simp; done) | (simp; omega) | (congr 1; simp only [List.length_append, List.length_take, List.length_drop, List.length_replicate]; omega) | apply And.intro))
    · clear hl_l1
      intro g1 y_l1 h_l1 hx_l1
      unfold f_law11_LineFair_l1 at h_l1
      simp only [I_law11_LineFair_l1, go_sem, ↓reduceIte, reduceCtorEq, Nat.reduceEqDiff, Nat.reduceAdd, Nat.reduceSub, Nat.reduceMul, Nat.reduceLeDiff, Nat.reduceLT, Int.reduceLE, Int.reduceLT, Int.reduceToNat, Int.reduceNeg]
      refine s_seq ?_
      refine s_seq ?_
      refine aw_reg hG ?_
      simp only [r_law11_LineFair_6, go_sem, ↓reduceIte, reduceCtorEq, Nat.reduceEqDiff, Nat.reduceAdd, Nat.reduceSub, Nat.reduceMul, Nat.reduceLeDiff, Nat.reduceLT, Int.reduceLE, Int.reduceLT, Int.reduceToNat, Int.reduceNeg]
      repeat refine And.intro (by first | assumption | omega | rfl | (simp; done) | (simp; omega) | (intros; simp_all; done) | grind) ?_
      refine aw_cond rfl hG ?_ ?_
      · intro hc2
        replace h_l1 := ite_t (by first | exact hc2 | simpa using hc2) h_l1
        refine aw_skip ?_
        simp only [go_sem, ↓reduceIte, reduceCtorEq, Nat.reduceEqDiff, Nat.reduceAdd, Nat.reduceSub, Nat.reduceMul, Nat.reduceLeDiff, Nat.reduceLT, Int.reduceLE, Int.reduceLT, Int.reduceToNat, Int.reduceNeg]
        refine s_seq ?_
        refine s_block ?_
        refine s_seq ?_
        obtain ⟨hb8, h_l1⟩ := gd_some h_l1
        refine aw_reg hG ?_
        simp only [r_law11_LineFair_8, go_sem, ↓reduceIte, reduceCtorEq, Nat.reduceEqDiff, Nat.reduceAdd, Nat.reduceSub, Nat.reduceMul, Nat.reduceLeDiff, Nat.reduceLT, Int.reduceLE, Int.reduceLT, Int.reduceToNat, Int.reduceNeg, hb8]
        repeat refine And.intro (by first | assumption | omega | rfl | (simp; done) | (simp; omega) | (intros; simp_all; done) | grind) ?_
        obtain ⟨v4, hv4, h_l1⟩ := bind_of h_l1
        refine acall_of (fun hg => mill_Mod_ok (a0.getD g1.2.1.toNat 0) 400 _ (hv4)) ?_
        simp only [go_sem, ↓reduceIte, reduceCtorEq, Nat.reduceEqDiff, Nat.reduceAdd, Nat.reduceSub, Nat.reduceMul, Nat.reduceLeDiff, Nat.reduceLT, Int.reduceLE, Int.reduceLT, Int.reduceToNat, Int.reduceNeg, hb8]
        repeat refine And.intro (by first | assumption | omega | rfl | (simp; done) | (simp; omega) | (intros; simp_all; done) | grind) ?_
        refine s_seq ?_
        refine aw_reg hG ?_
        simp only [r_law11_LineFair_9, go_sem, ↓reduceIte, reduceCtorEq, Nat.reduceEqDiff, Nat.reduceAdd, Nat.reduceSub, Nat.reduceMul, Nat.reduceLeDiff, Nat.reduceLT, Int.reduceLE, Int.reduceLT, Int.reduceToNat, Int.reduceNeg]
        repeat refine And.intro (by first | assumption | omega | rfl | (simp; done) | (simp; omega) | (intros; simp_all; done) | grind) ?_
        obtain ⟨v5, hv5, h_l1⟩ := bind_of h_l1
        refine acall_of (fun hg => law11_step_ok g1.1 v4 _ (hv5)) ?_
        simp only [go_sem, ↓reduceIte, reduceCtorEq, Nat.reduceEqDiff, Nat.reduceAdd, Nat.reduceSub, Nat.reduceMul, Nat.reduceLeDiff, Nat.reduceLT, Int.reduceLE, Int.reduceLT, Int.reduceToNat, Int.reduceNeg]
        repeat refine And.intro (by first | assumption | omega | rfl | (simp; done) | (simp; omega) | (intros; simp_all; done) | grind) ?_
        refine s_seq ?_
        refine s_seq ?_
        refine aw_reg hG ?_
        simp only [r_law11_LineFair_10, go_sem, ↓reduceIte, reduceCtorEq, Nat.reduceEqDiff, Nat.reduceAdd, Nat.reduceSub, Nat.reduceMul, Nat.reduceLeDiff, Nat.reduceLT, Int.reduceLE, Int.reduceLT, Int.reduceToNat, Int.reduceNeg]
        repeat refine And.intro (by first | assumption | omega | rfl | (simp; done) | (simp; omega) | (intros; simp_all; done) | grind) ?_
        refine aw_cond rfl hG ?_ ?_
        · intro hc3
          replace h_l1 := ite_t (by first | exact hc3 | simpa using hc3) h_l1
          refine s_seq ?_
          refine aw_reg hG ?_
          simp only [r_law11_LineFair_11, go_sem, ↓reduceIte, reduceCtorEq, Nat.reduceEqDiff, Nat.reduceAdd, Nat.reduceSub, Nat.reduceMul, Nat.reduceLeDiff, Nat.reduceLT, Int.reduceLE, Int.reduceLT, Int.reduceToNat, Int.reduceNeg]
          repeat refine And.intro (by first | assumption | omega | rfl | (simp; done) | (simp; omega) | (intros; simp_all; done) | grind) ?_
          refine aw_ret ?_
          simp only [go_sem, ↓reduceIte, reduceCtorEq, Nat.reduceEqDiff, Nat.reduceAdd, Nat.reduceSub, Nat.reduceMul, Nat.reduceLeDiff, Nat.reduceLT, Int.reduceLE, Int.reduceLT, Int.reduceToNat, Int.reduceNeg]
          obtain rfl := Option.some.inj h_l1
          have hx := hx_l1 _ rfl
          subst hx
          try dsimp only at h
          obtain rfl := Option.some.inj h
          first | done | rfl | (simp; done) | (repeat' (first | rfl | trivial | omega | (simp; done) | apply And.intro))
        · intro hc3
          replace h_l1 := ite_f (by first | exact hc3 | simpa using hc3) h_l1
          refine aw_skip ?_
          simp only [go_sem, ↓reduceIte, reduceCtorEq, Nat.reduceEqDiff, Nat.reduceAdd, Nat.reduceSub, Nat.reduceMul, Nat.reduceLeDiff, Nat.reduceLT, Int.reduceLE, Int.reduceLT, Int.reduceToNat, Int.reduceNeg]
          refine s_seq ?_
          refine aw_reg hG ?_
          simp only [r_law11_LineFair_12, go_sem, ↓reduceIte, reduceCtorEq, Nat.reduceEqDiff, Nat.reduceAdd, Nat.reduceSub, Nat.reduceMul, Nat.reduceLeDiff, Nat.reduceLT, Int.reduceLE, Int.reduceLT, Int.reduceToNat, Int.reduceNeg]
          repeat refine And.intro (by first | assumption | omega | rfl | (simp; done) | (simp; omega) | (intros; simp_all; done) | grind) ?_
          obtain ⟨v6, hv6, h_l1⟩ := bind_of h_l1
          refine acall_of (fun hg => mill_Proc_ok (IntKind.i64.wrap (v4.tdiv 5)) _ (hv6)) ?_
          simp only [go_sem, ↓reduceIte, reduceCtorEq, Nat.reduceEqDiff, Nat.reduceAdd, Nat.reduceSub, Nat.reduceMul, Nat.reduceLeDiff, Nat.reduceLT, Int.reduceLE, Int.reduceLT, Int.reduceToNat, Int.reduceNeg]
          repeat refine And.intro (by first | assumption | omega | rfl | (simp; done) | (simp; omega) | (intros; simp_all; done) | grind) ?_
          refine s_seq ?_
          refine s_seq ?_
          refine aw_reg hG ?_
          simp only [r_law11_LineFair_13, go_sem, ↓reduceIte, reduceCtorEq, Nat.reduceEqDiff, Nat.reduceAdd, Nat.reduceSub, Nat.reduceMul, Nat.reduceLeDiff, Nat.reduceLT, Int.reduceLE, Int.reduceLT, Int.reduceToNat, Int.reduceNeg]
          repeat refine And.intro (by first | assumption | omega | rfl | (simp; done) | (simp; omega) | (intros; simp_all; done) | grind) ?_
          refine s_blockJ (J_law11_LineFair_k2 a0 g1 v5) (fun v => f_law11_LineFair_k2 g1 v5 v = some y_l1) ?_ ?_
          · intro j2 h_l1
            unfold f_law11_LineFair_k2 at h_l1
            simp only [J_law11_LineFair_k2, go_sem, ↓reduceIte, reduceCtorEq, Nat.reduceEqDiff, Nat.reduceAdd, Nat.reduceSub, Nat.reduceMul, Nat.reduceLeDiff, Nat.reduceLT, Int.reduceLE, Int.reduceLT, Int.reduceToNat, Int.reduceNeg]
            refine s_seq ?_
            refine aw_reg hG ?_
            simp only [r_law11_LineFair_22, go_sem, ↓reduceIte, reduceCtorEq, Nat.reduceEqDiff, Nat.reduceAdd, Nat.reduceSub, Nat.reduceMul, Nat.reduceLeDiff, Nat.reduceLT, Int.reduceLE, Int.reduceLT, Int.reduceToNat, Int.reduceNeg]
            repeat refine And.intro (by first | assumption | omega | rfl | (simp; done) | (simp; omega) | (intros; simp_all; done) | grind) ?_
            refine s_seq ?_
            refine aw_reg hG ?_
            simp only [r_law11_LineFair_23, go_sem, ↓reduceIte, reduceCtorEq, Nat.reduceEqDiff, Nat.reduceAdd, Nat.reduceSub, Nat.reduceMul, Nat.reduceLeDiff, Nat.reduceLT, Int.reduceLE, Int.reduceLT, Int.reduceToNat, Int.reduceNeg]
            repeat refine And.intro (by first | assumption | omega | rfl | (simp; done) | (simp; omega) | (intros; simp_all; done) | grind) ?_
            refine s_blockJ (J_law11_LineFair_k3 a0 g1 v5 j2) (fun v => f_law11_LineFair_k3 g1 v5 j2 v = some y_l1) ?_ ?_
            · intro j3 h_l1
              unfold f_law11_LineFair_k3 at h_l1
              simp only [J_law11_LineFair_k3, go_sem, ↓reduceIte, reduceCtorEq, Nat.reduceEqDiff, Nat.reduceAdd, Nat.reduceSub, Nat.reduceMul, Nat.reduceLeDiff, Nat.reduceLT, Int.reduceLE, Int.reduceLT, Int.reduceToNat, Int.reduceNeg]
              refine aw_reg hG ?_
              simp only [r_law11_LineFair_7, go_sem, ↓reduceIte, reduceCtorEq, Nat.reduceEqDiff, Nat.reduceAdd, Nat.reduceSub, Nat.reduceMul, Nat.reduceLeDiff, Nat.reduceLT, Int.reduceLE, Int.reduceLT, Int.reduceToNat, Int.reduceNeg]
              repeat refine And.intro (by first | assumption | omega | rfl | (simp; done) | (simp; omega) | (intros; simp_all; done) | grind) ?_
              obtain rfl := Option.some.inj h_l1
              refine loopN_of hK [(0, 0)] ?_
              simp only [I_law11_LineFair_l1, go_sem, ↓reduceIte, reduceCtorEq, Nat.reduceEqDiff, Nat.reduceAdd, Nat.reduceSub, Nat.reduceMul, Nat.reduceLeDiff, Nat.reduceLT, Int.reduceLE, Int.reduceLT, Int.reduceToNat, Int.reduceNeg]
              first | (done) | trivial | (simp; done) | (repeat' (first | rfl | trivial | omega | (simp; done) | (simp; omega) | (congr 1; simp only [List.length_append, List.length_take, List.length_drop, List.length_replicate]; omega) | apply And.intro))
            obtain ⟨x_l2, hl_l2, h_l1⟩ := bind_of h_l1
            refine s_loopO (I_law11_LineFair_l2 a0 g1 v5 j2) hK [(0, 0)] hl_l2 ?_ ?_
            · simp only [I_law11_LineFair_l2, go_sem, ↓reduceIte, reduceCtorEq, Nat.reduceEqDiff, Nat.reduceAdd, Nat.reduceSub, Nat.reduceMul, Nat.reduceLeDiff, Nat.reduceLT, Int.reduceLE, Int.reduceLT, Int.reduceToNat, Int.reduceNeg]
              first | (done) | trivial | (simp; done) | (repeat' (first | rfl | trivial | omega | (simp; done) | (simp; omega) | (congr 1; simp only [List.length_append, List.length_take, List.length_drop, List.length_replicate]; omega) | apply And.intro))
            · clear hl_l2
              intro g2 y_l2 h_l2 hx_l2
              unfold f_law11_LineFair_l2 at h_l2
              simp only [I_law11_LineFair_l2, go_sem, ↓reduceIte, reduceCtorEq, Nat.reduceEqDiff, Nat.reduceAdd, Nat.reduceSub, Nat.reduceMul, Nat.reduceLeDiff, Nat.reduceLT, Int.reduceLE, Int.reduceLT, Int.reduceToNat, Int.reduceNeg]
              refine s_seq ?_
              refine s_seq ?_
              refine aw_reg hG ?_
              simp only [r_law11_LineFair_24, go_sem, ↓reduceIte, reduceCtorEq, Nat.reduceEqDiff, Nat.reduceAdd, Nat.reduceSub, Nat.reduceMul, Nat.reduceLeDiff, Nat.reduceLT, Int.reduceLE, Int.reduceLT, Int.reduceToNat, Int.reduceNeg]
              repeat refine And.intro (by first | assumption | omega | rfl | (simp; done) | (simp; omega) | (intros; simp_all; done) | grind) ?_
              refine aw_cond rfl hG ?_ ?_
              · intro hc4
                replace h_l2 := ite_t (by first | exact hc4 | simpa using hc4) h_l2
                refine aw_skip ?_
                simp only [go_sem, ↓reduceIte, reduceCtorEq, Nat.reduceEqDiff, Nat.reduceAdd, Nat.reduceSub, Nat.reduceMul, Nat.reduceLeDiff, Nat.reduceLT, Int.reduceLE, Int.reduceLT, Int.reduceToNat, Int.reduceNeg]
                refine s_seq ?_
                refine s_block ?_
                refine s_seq ?_
                refine aw_reg hG ?_
                simp only [r_law11_LineFair_26, go_sem, ↓reduceIte, reduceCtorEq, Nat.reduceEqDiff, Nat.reduceAdd, Nat.reduceSub, Nat.reduceMul, Nat.reduceLeDiff, Nat.reduceLT, Int.reduceLE, Int.reduceLT, Int.reduceToNat, Int.reduceNeg]
                repeat refine And.intro (by first | assumption | omega | rfl | (simp; done) | (simp; omega) | (intros; simp_all; done) | grind) ?_
                refine s_blockJ (J_law11_LineFair_k4 a0 g1 v5 j2 g2) (fun v => f_law11_LineFair_k4 g2 v = some y_l2) ?_ ?_
                · intro j4 h_l2
                  unfold f_law11_LineFair_k4 at h_l2
                  simp only [J_law11_LineFair_k4, go_sem, ↓reduceIte, reduceCtorEq, Nat.reduceEqDiff, Nat.reduceAdd, Nat.reduceSub, Nat.reduceMul, Nat.reduceLeDiff, Nat.reduceLT, Int.reduceLE, Int.reduceLT, Int.reduceToNat, Int.reduceNeg]
                  refine aw_reg hG ?_
                  simp only [r_law11_LineFair_25, go_sem, ↓reduceIte, reduceCtorEq, Nat.reduceEqDiff, Nat.reduceAdd, Nat.reduceSub, Nat.reduceMul, Nat.reduceLeDiff, Nat.reduceLT, Int.reduceLE, Int.reduceLT, Int.reduceToNat, Int.reduceNeg]
                  repeat refine And.intro (by first | assumption | omega | rfl | (simp; done) | (simp; omega) | (intros; simp_all; done) | grind) ?_
                  obtain rfl := Option.some.inj h_l2
                  refine loopN_of hK [(0, 0)] ?_
                  simp only [I_law11_LineFair_l2, go_sem, ↓reduceIte, reduceCtorEq, Nat.reduceEqDiff, Nat.reduceAdd, Nat.reduceSub, Nat.reduceMul, Nat.reduceLeDiff, Nat.reduceLT, Int.reduceLE, Int.reduceLT, Int.reduceToNat, Int.reduceNeg]
                  first | (done) | trivial | (simp; done) | (repeat' (first | rfl | trivial | omega | (simp; done) | (simp; omega) | (congr 1; simp only [List.length_append, List.length_take, List.length_drop, List.length_replicate]; omega) | apply And.intro))
                obtain ⟨x_l3, hl_l3, h_l2⟩ := bind_of h_l2
                refine s_loopO (I_law11_LineFair_l3 a0 g1 v5 j2 g2) hK [(0, 0)] hl_l3 ?_ ?_
                · simp only [I_law11_LineFair_l3, go_sem, ↓reduceIte, reduceCtorEq, Nat.reduceEqDiff, Nat.reduceAdd, Nat.reduceSub, Nat.reduceMul, Nat.reduceLeDiff, Nat.reduceLT, Int.reduceLE, Int.reduceLT, Int.reduceToNat, Int.reduceNeg]
                  first | (done) | trivial | (simp; done) | (repeat' (first | rfl | trivial | omega | (simp; done) | (simp; omega) | (congr 1; simp only [List.length_append, List.length_take, List.length_drop, List.length_replicate]; omega) | apply And.intro))
                · clear hl_l3
                  intro g3 y_l3 h_l3 hx_l3
                  unfold f_law11_LineFair_l3 at h_l3
                  simp only [I_law11_LineFair_l3, go_sem, ↓reduceIte, reduceCtorEq, Nat.reduceEqDiff, Nat.reduceAdd, Nat.reduceSub, Nat.reduceMul, Nat.reduceLeDiff, Nat.reduceLT, Int.reduceLE, Int.reduceLT, Int.reduceToNat, Int.reduceNeg]
                  refine s_seq ?_
                  refine s_seq ?_
                  refine aw_reg hG ?_
                  simp only [r_law11_LineFair_27, go_sem, ↓reduceIte, reduceCtorEq, Nat.reduceEqDiff, Nat.reduceAdd, Nat.reduceSub, Nat.reduceMul, Nat.reduceLeDiff, Nat.reduceLT, Int.reduceLE, Int.reduceLT, Int.reduceToNat, Int.reduceNeg]
                  repeat refine And.intro (by first | assumption | omega | rfl | (simp; done) | (simp; omega) | (intros; simp_all; done) | grind) ?_
                  refine aw_cond rfl hG ?_ ?_
                  · intro hc5
                    replace h_l3 := ite_t (by first | exact hc5 | simpa using hc5) h_l3
                    refine aw_skip ?_
                    simp only [go_sem, ↓reduceIte, reduceCtorEq, Nat.reduceEqDiff, Nat.reduceAdd, Nat.reduceSub, Nat.reduceMul, Nat.reduceLeDiff, Nat.reduceLT, Int.reduceLE, Int.reduceLT, Int.reduceToNat, Int.reduceNeg]
                    refine s_seq ?_
                    refine s_block ?_
                    refine s_seq ?_
                    obtain ⟨hb1, h_l3⟩ := gd_some h_l3
                    refine aw_regd C_mixed hG ?_
                    simp only [r_law11_LineFair_29, go_sem, ↓reduceIte, reduceCtorEq, Nat.reduceEqDiff, Nat.reduceAdd, Nat.reduceSub, Nat.reduceMul, Nat.reduceLeDiff, Nat.reduceLT, Int.reduceLE, Int.reduceLT, Int.reduceToNat, Int.reduceNeg, hb1]
                    repeat refine And.intro (by first | assumption | omega | rfl | (simp; done) | (simp; omega) | (intros; simp_all; done) | grind) ?_
                    obtain ⟨v7, hv7, h_l3⟩ := bind_of h_l3
                    refine acalld_of (fun hg => mill_Proc_ok g3 _ (hv7)) ?_
                    obtain ⟨hb2, h_l3⟩ := gd_some h_l3
                    obtain ⟨hb3, h_l3⟩ := gd_some h_l3
                    obtain ⟨hb4, h_l3⟩ := gd_some h_l3
                    simp only [go_sem, ↓reduceIte, reduceCtorEq, Nat.reduceEqDiff, Nat.reduceAdd, Nat.reduceSub, Nat.reduceMul, Nat.reduceLeDiff, Nat.reduceLT, Int.reduceLE, Int.reduceLT, Int.reduceToNat, Int.reduceNeg, hb1, hb2, hb3, hb4]
                    repeat refine And.intro (by first | assumption | omega | rfl | (simp; done) | (simp; omega) | (intros; simp_all; done) | grind) ?_
                    refine aw_cond rfl hG ?_ ?_
                    · intro hc6
                      replace h_l3 := ite_t (by first | exact hc6 | simpa using hc6) h_l3
                      refine s_seq ?_
                      refine aw_reg hG ?_
                      simp only [r_law11_LineFair_30, go_sem, ↓reduceIte, reduceCtorEq, Nat.reduceEqDiff, Nat.reduceAdd, Nat.reduceSub, Nat.reduceMul, Nat.reduceLeDiff, Nat.reduceLT, Int.reduceLE, Int.reduceLT, Int.reduceToNat, Int.reduceNeg]
                      repeat refine And.intro (by first | assumption | omega | rfl | (simp; done) | (simp; omega) | (intros; simp_all; done) | grind) ?_
                      refine aw_ret ?_
                      simp only [go_sem, ↓reduceIte, reduceCtorEq, Nat.reduceEqDiff, Nat.reduceAdd, Nat.reduceSub, Nat.reduceMul, Nat.reduceLeDiff, Nat.reduceLT, Int.reduceLE, Int.reduceLT, Int.reduceToNat, Int.reduceNeg]
                      obtain rfl := Option.some.inj h_l3
                      have hx := hx_l3 _ rfl
                      subst hx
                      try dsimp only at h_l2
                      obtain rfl := Option.some.inj h_l2
                      have hx := hx_l2 _ rfl
                      subst hx
                      try dsimp only at h_l1
                      obtain rfl := Option.some.inj h_l1
                      have hx := hx_l1 _ rfl
                      subst hx
                      try dsimp only at h
                      obtain rfl := Option.some.inj h
                      first | done | rfl | (simp; done) | (repeat' (first | rfl | trivial | omega | (simp; done) | apply And.intro))
                    · intro hc6
                      replace h_l3 := ite_f (by first | exact hc6 | simpa using hc6) h_l3
                      refine aw_skip ?_
                      simp only [go_sem, ↓reduceIte, reduceCtorEq, Nat.reduceEqDiff, Nat.reduceAdd, Nat.reduceSub, Nat.reduceMul, Nat.reduceLeDiff, Nat.reduceLT, Int.reduceLE, Int.reduceLT, Int.reduceToNat, Int.reduceNeg]
                      refine aw_reg hG ?_
                      simp only [r_law11_LineFair_28, go_sem, ↓reduceIte, reduceCtorEq, Nat.reduceEqDiff, Nat.reduceAdd, Nat.reduceSub, Nat.reduceMul, Nat.reduceLeDiff, Nat.reduceLT, Int.reduceLE, Int.reduceLT, Int.reduceToNat, Int.reduceNeg]
                      repeat refine And.intro (by first | assumption | omega | rfl | (simp; done) | (simp; omega) | (intros; simp_all; done) | grind) ?_
                      obtain rfl := Option.some.inj h_l3
                      refine loopN_of hK [(0, 0)] ?_
                      simp only [I_law11_LineFair_l3, go_sem, ↓reduceIte, reduceCtorEq, Nat.reduceEqDiff, Nat.reduceAdd, Nat.reduceSub, Nat.reduceMul, Nat.reduceLeDiff, Nat.reduceLT, Int.reduceLE, Int.reduceLT, Int.reduceToNat, Int.reduceNeg]
                      first | (done) | trivial | (simp; done) | (repeat' (first | rfl | trivial | omega | (simp; done) | (simp; omega) | (congr 1; simp only [List.length_append, List.length_take, List.length_drop, List.length_replicate]; omega) | apply And.intro))
                  · intro hc5
                    replace h_l3 := ite_f (by first | exact hc5 | simpa using hc5) h_l3
                    refine aw_exit ?_
                    simp only [go_sem, ↓reduceIte, reduceCtorEq, Nat.reduceEqDiff, Nat.reduceAdd, Nat.reduceSub, Nat.reduceMul, Nat.reduceLeDiff, Nat.reduceLT, Int.reduceLE, Int.reduceLT, Int.reduceToNat, Int.reduceNeg]
                    obtain rfl := Option.some.inj h_l3
                    have hx := hx_l3 _ rfl
                    subst hx
                    try dsimp only at h_l2
                    refine joinG_of hK () (by exact h_l2) [(0, 0)] ?_
                    simp only [J_law11_LineFair_k4, go_sem, ↓reduceIte, reduceCtorEq, Nat.reduceEqDiff, Nat.reduceAdd, Nat.reduceSub, Nat.reduceMul, Nat.reduceLeDiff, Nat.reduceLT, Int.reduceLE, Int.reduceLT, Int.reduceToNat, Int.reduceNeg]
                    first | (done) | trivial | (simp; done) | (repeat' (first | rfl | trivial | omega | (simp; done) | (simp; omega) | (congr 1; simp only [List.length_append, List.length_take, List.length_drop, List.length_replicate]; omega) | apply And.intro))
              · intro hc4
                replace h_l2 := ite_f (by first | exact hc4 | simpa using hc4) h_l2
                refine aw_exit ?_
                simp only [go_sem, ↓reduceIte, reduceCtorEq, Nat.reduceEqDiff, Nat.reduceAdd, Nat.reduceSub, Nat.reduceMul, Nat.reduceLeDiff, Nat.reduceLT, Int.reduceLE, Int.reduceLT, Int.reduceToNat, Int.reduceNeg]
                obtain rfl := Option.some.inj h_l2
                have hx := hx_l2 _ rfl
                subst hx
                try dsimp only at h_l1
                refine joinG_of hK () (by exact h_l1) [(0, 0)] ?_
                simp only [J_law11_LineFair_k3, go_sem, ↓reduceIte, reduceCtorEq, Nat.reduceEqDiff, Nat.reduceAdd, Nat.reduceSub, Nat.reduceMul, Nat.reduceLeDiff, Nat.reduceLT, Int.reduceLE, Int.reduceLT, Int.reduceToNat, Int.reduceNeg]
                first | (done) | trivial | (simp; done) | (repeat' (first | rfl | trivial | omega | (simp; done) | (simp; omega) | (congr 1; simp only [List.length_append, List.length_take, List.length_drop, List.length_replicate]; omega) | apply And.intro))
          obtain ⟨x_l4, hl_l4, h_l1⟩ := bind_of h_l1
          refine s_loopO (I_law11_LineFair_l4 a0 g1 v5 v6) hK [(0, 0), (1, 1)] hl_l4 ?_ ?_
          · simp only [I_law11_LineFair_l4, go_sem, ↓reduceIte, reduceCtorEq, Nat.reduceEqDiff, Nat.reduceAdd, Nat.reduceSub, Nat.reduceMul, Nat.reduceLeDiff, Nat.reduceLT, Int.reduceLE, Int.reduceLT, Int.reduceToNat, Int.reduceNeg]
            first | (done) | trivial | (simp; done) | (repeat' (first | rfl | trivial | omega | (simp; done) | (simp; omega) | (congr 1; simp only [List.length_append, List.length_take, List.length_drop, List.length_replicate]; omega) | apply And.intro))
          · clear hl_l4
            intro g4 y_l4 h_l4 hx_l4
            unfold f_law11_LineFair_l4 at h_l4
            simp only [I_law11_LineFair_l4, go_sem, ↓reduceIte, reduceCtorEq, Nat.reduceEqDiff, Nat.reduceAdd, Nat.reduceSub, Nat.reduceMul, Nat.reduceLeDiff, Nat.reduceLT, Int.reduceLE, Int.reduceLT, Int.reduceToNat, Int.reduceNeg]
            refine s_seq ?_
            refine s_seq ?_
            refine aw_reg hG ?_
            simp only [r_law11_LineFair_14, go_sem, ↓reduceIte, reduceCtorEq, Nat.reduceEqDiff, Nat.reduceAdd, Nat.reduceSub, Nat.reduceMul, Nat.reduceLeDiff, Nat.reduceLT, Int.reduceLE, Int.reduceLT, Int.reduceToNat, Int.reduceNeg]
            repeat refine And.intro (by first | assumption | omega | rfl | (simp; done) | (simp; omega) | (intros; simp_all; done) | grind) ?_
            refine aw_cond rfl hG ?_ ?_
            · intro hc7
              replace h_l4 := ite_t (by first | exact hc7 | simpa using hc7) h_l4
              refine aw_skip ?_
              simp only [go_sem, ↓reduceIte, reduceCtorEq, Nat.reduceEqDiff, Nat.reduceAdd, Nat.reduceSub, Nat.reduceMul, Nat.reduceLeDiff, Nat.reduceLT, Int.reduceLE, Int.reduceLT, Int.reduceToNat, Int.reduceNeg]
              refine s_seq ?_
              refine s_block ?_
              refine s_seq ?_
              refine aw_reg hG ?_
              simp only [r_law11_LineFair_16, go_sem, ↓reduceIte, reduceCtorEq, Nat.reduceEqDiff, Nat.reduceAdd, Nat.reduceSub, Nat.reduceMul, Nat.reduceLeDiff, Nat.reduceLT, Int.reduceLE, Int.reduceLT, Int.reduceToNat, Int.reduceNeg]
              repeat refine And.intro (by first | assumption | omega | rfl | (simp; done) | (simp; omega) | (intros; simp_all; done) | grind) ?_
              obtain ⟨v8, hv8, h_l4⟩ := bind_of h_l4
              refine acall_of (fun hg => mill_Proc_ok g4.1 _ (hv8)) ?_
              simp only [go_sem, ↓reduceIte, reduceCtorEq, Nat.reduceEqDiff, Nat.reduceAdd, Nat.reduceSub, Nat.reduceMul, Nat.reduceLeDiff, Nat.reduceLT, Int.reduceLE, Int.reduceLT, Int.reduceToNat, Int.reduceNeg]
              repeat refine And.intro (by first | assumption | omega | rfl | (simp; done) | (simp; omega) | (intros; simp_all; done) | grind) ?_
              refine s_seq ?_
              refine aw_reg hG ?_
              simp only [r_law11_LineFair_17, go_sem, ↓reduceIte, reduceCtorEq, Nat.reduceEqDiff, Nat.reduceAdd, Nat.reduceSub, Nat.reduceMul, Nat.reduceLeDiff, Nat.reduceLT, Int.reduceLE, Int.reduceLT, Int.reduceToNat, Int.reduceNeg]
              repeat refine And.intro (by first | assumption | omega | rfl | (simp; done) | (simp; omega) | (intros; simp_all; done) | grind) ?_
              refine aw_cond rfl hG ?_ ?_
              · intro hc8
                replace h_l4 := ite_t (by first | exact hc8 | simpa using hc8) h_l4
                obtain ⟨hb5, h_l4⟩ := gd_some h_l4
                refine aw_reg hG ?_
                simp only [r_law11_LineFair_18, go_sem, ↓reduceIte, reduceCtorEq, Nat.reduceEqDiff, Nat.reduceAdd, Nat.reduceSub, Nat.reduceMul, Nat.reduceLeDiff, Nat.reduceLT, Int.reduceLE, Int.reduceLT, Int.reduceToNat, Int.reduceNeg, hb5]
                repeat refine And.intro (by first | assumption | omega | rfl | (simp; done) | (simp; omega) | (intros; simp_all; done) | grind) ?_
                refine aw_reg hG ?_
                simp only [r_law11_LineFair_15, go_sem, ↓reduceIte, reduceCtorEq, Nat.reduceEqDiff, Nat.reduceAdd, Nat.reduceSub, Nat.reduceMul, Nat.reduceLeDiff, Nat.reduceLT, Int.reduceLE, Int.reduceLT, Int.reduceToNat, Int.reduceNeg]
                repeat refine And.intro (by first | assumption | omega | rfl | (simp; done) | (simp; omega) | (intros; simp_all; done) | grind) ?_
                obtain rfl := Option.some.inj h_l4
                refine loopN_of hK [(0, 0), (1, 1)] ?_
                simp only [I_law11_LineFair_l4, go_sem, ↓reduceIte, reduceCtorEq, Nat.reduceEqDiff, Nat.reduceAdd, Nat.reduceSub, Nat.reduceMul, Nat.reduceLeDiff, Nat.reduceLT, Int.reduceLE, Int.reduceLT, Int.reduceToNat, Int.reduceNeg]
                first | (done) | trivial | (simp; done) | (repeat' (first | rfl | trivial | omega | (simp; done) | (simp; omega) | (congr 1; simp only [List.length_append, List.length_take, List.length_drop, List.length_replicate]; omega) | apply And.intro))
              · intro hc8
                replace h_l4 := ite_f (by first | exact hc8 | simpa using hc8) h_l4
                refine s_seq ?_
                refine aw_regd C_mixed hG ?_
                simp only [r_law11_LineFair_19, go_sem, ↓reduceIte, reduceCtorEq, Nat.reduceEqDiff, Nat.reduceAdd, Nat.reduceSub, Nat.reduceMul, Nat.reduceLeDiff, Nat.reduceLT, Int.reduceLE, Int.reduceLT, Int.reduceToNat, Int.reduceNeg]
                repeat refine And.intro (by first | assumption | omega | rfl | (simp; done) | (simp; omega) | (intros; simp_all; done) | grind) ?_
                obtain ⟨v9, hv9, h_l4⟩ := bind_of h_l4
                refine acalld_of (fun hg => ref11_Find_ok v5.1 v8 _ (hv9)) ?_
                simp only [go_sem, ↓reduceIte, reduceCtorEq, Nat.reduceEqDiff, Nat.reduceAdd, Nat.reduceSub, Nat.reduceMul, Nat.reduceLeDiff, Nat.reduceLT, Int.reduceLE, Int.reduceLT, Int.reduceToNat, Int.reduceNeg]
                repeat refine And.intro (by first | assumption | omega | rfl | (simp; done) | (simp; omega) | (intros; simp_all; done) | grind) ?_
                obtain ⟨v10, hv10, h_l4⟩ := bind_of h_l4
                refine acalld_of (fun hg => ref11_Find_ok v5.1 v6 _ (hv10)) ?_
                simp only [go_sem, ↓reduceIte, reduceCtorEq, Nat.reduceEqDiff, Nat.reduceAdd, Nat.reduceSub, Nat.reduceMul, Nat.reduceLeDiff, Nat.reduceLT, Int.reduceLE, Int.reduceLT, Int.reduceToNat, Int.reduceNeg]
                repeat refine And.intro (by first | assumption | omega | rfl | (simp; done) | (simp; omega) | (intros; simp_all; done) | grind) ?_
                refine s_seq ?_
                refine aw_reg hG ?_
                simp only [r_law11_LineFair_20, go_sem, ↓reduceIte, reduceCtorEq, Nat.reduceEqDiff, Nat.reduceAdd, Nat.reduceSub, Nat.reduceMul, Nat.reduceLeDiff, Nat.reduceLT, Int.reduceLE, Int.reduceLT, Int.reduceToNat, Int.reduceNeg]
                repeat refine And.intro (by first | assumption | omega | rfl | (simp; done) | (simp; omega) | (intros; simp_all; done) | grind) ?_
                obtain ⟨v11, hv11, h_l4⟩ := bind_of h_l4
                refine acall_of (fun hg => ref11_Find_ok g1.1 v8 _ (ite_t hg hv11)) ?_
                simp only [go_sem, ↓reduceIte, reduceCtorEq, Nat.reduceEqDiff, Nat.reduceAdd, Nat.reduceSub, Nat.reduceMul, Nat.reduceLeDiff, Nat.reduceLT, Int.reduceLE, Int.reduceLT, Int.reduceToNat, Int.reduceNeg]
                repeat refine And.intro (by first | assumption | omega | rfl | (simp; done) | (simp; omega) | (intros; simp_all; done) | grind) ?_
                refine aw_cond rfl hG ?_ ?_
                · intro hc9
                  replace h_l4 := ite_t (by first | exact hc9 | simpa using hc9) h_l4
                  obtain ⟨hb6, h_l4⟩ := gd_some h_l4
                  obtain ⟨hb7, h_l4⟩ := gd_some h_l4
                  refine aw_reg hG ?_
                  simp only [r_law11_LineFair_21, go_sem, ↓reduceIte, reduceCtorEq, Nat.reduceEqDiff, Nat.reduceAdd, Nat.reduceSub, Nat.reduceMul, Nat.reduceLeDiff, Nat.reduceLT, Int.reduceLE, Int.reduceLT, Int.reduceToNat, Int.reduceNeg, hb6, hb7]
                  repeat refine And.intro (by first | assumption | omega | rfl | (simp; done) | (simp; omega) | (intros; simp_all; done) | grind) ?_
                  refine aw_reg hG ?_
                  simp only [r_law11_LineFair_15, go_sem, ↓reduceIte, reduceCtorEq, Nat.reduceEqDiff, Nat.reduceAdd, Nat.reduceSub, Nat.reduceMul, Nat.reduceLeDiff, Nat.reduceLT, Int.reduceLE, Int.reduceLT, Int.reduceToNat, Int.reduceNeg]
                  repeat refine And.intro (by first | assumption | omega | rfl | (simp; done) | (simp; omega) | (intros; simp_all; done) | grind) ?_
                  obtain rfl := Option.some.inj h_l4
                  refine loopN_of hK [(0, 0), (1, 1)] ?_
                  simp only [I_law11_LineFair_l4, go_sem, ↓reduceIte, reduceCtorEq, Nat.reduceEqDiff, Nat.reduceAdd, Nat.reduceSub, Nat.reduceMul, Nat.reduceLeDiff, Nat.reduceLT, Int.reduceLE, Int.reduceLT, Int.reduceToNat, Int.reduceNeg]
                  first | (done) | trivial | (simp; done) | (repeat' (first | rfl | trivial | omega | (simp; done) | (simp; omega) | (congr 1; simp only [List.length_append, List.length_take, List.length_drop, List.length_replicate]; omega) | apply And.intro))
                · intro hc9
                  replace h_l4 := ite_f (by first | exact hc9 | simpa using hc9) h_l4
                  refine aw_skip ?_
                  simp only [go_sem, ↓reduceIte, reduceCtorEq, Nat.reduceEqDiff, Nat.reduceAdd, Nat.reduceSub, Nat.reduceMul, Nat.reduceLeDiff, Nat.reduceLT, Int.reduceLE, Int.reduceLT, Int.reduceToNat, Int.reduceNeg]
                  refine aw_reg hG ?_
                  simp only [r_law11_LineFair_15, go_sem, ↓reduceIte, reduceCtorEq, Nat.reduceEqDiff, Nat.reduceAdd, Nat.reduceSub, Nat.reduceMul, Nat.reduceLeDiff, Nat.reduceLT, Int.reduceLE, Int.reduceLT, Int.reduceToNat, Int.reduceNeg]
                  repeat refine And.intro (by first | assumption | omega | rfl | (simp; done) | (simp; omega) | (intros; simp_all; done) | grind) ?_
                  obtain rfl := Option.some.inj h_l4
                  refine loopN_of hK [(0, 0), (1, 1)] ?_
                  simp only [I_law11_LineFair_l4, go_sem, ↓reduceIte, reduceCtorEq, Nat.reduceEqDiff, Nat.reduceAdd, Nat.reduceSub, Nat.reduceMul, Nat.reduceLeDiff, Nat.reduceLT, Int.reduceLE, Int.reduceLT, Int.reduceToNat, Int.reduceNeg]
                  first | (done) | trivial | (simp; done) | (repeat' (first | rfl | trivial | omega | (simp; done) | (simp; omega) | (congr 1; simp only [List.length_append, List.length_take, List.length_drop, List.length_replicate]; omega) | apply And.intro))
            · intro hc7
              replace h_l4 := ite_f (by first | exact hc7 | simpa using hc7) h_l4
              refine aw_exit ?_
              simp only [go_sem, ↓reduceIte, reduceCtorEq, Nat.reduceEqDiff, Nat.reduceAdd, Nat.reduceSub, Nat.reduceMul, Nat.reduceLeDiff, Nat.reduceLT, Int.reduceLE, Int.reduceLT, Int.reduceToNat, Int.reduceNeg]
              obtain rfl := Option.some.inj h_l4
              have hx := hx_l4 _ rfl
              subst hx
              try dsimp only at h_l1
              refine joinG_of hK g4.2 (by exact h_l1) [(0, 0)] ?_
              simp only [J_law11_LineFair_k2, go_sem, ↓reduceIte, reduceCtorEq, Nat.reduceEqDiff, Nat.reduceAdd, Nat.reduceSub, Nat.reduceMul, Nat.reduceLeDiff, Nat.reduceLT, Int.reduceLE, Int.reduceLT, Int.reduceToNat, Int.reduceNeg]
              first | (done) | trivial | (simp; done) | (repeat' (first | rfl | trivial | omega | (simp; done) | (simp; omega) | (congr 1; simp only [List.length_append, List.length_take, List.length_drop, List.length_replicate]; omega) | apply And.intro))
      · intro hc2
        replace h_l1 := ite_f (by first | exact hc2 | simpa using hc2) h_l1
        refine aw_exit ?_
        simp only [go_sem, ↓reduceIte, reduceCtorEq, Nat.reduceEqDiff, Nat.reduceAdd, Nat.reduceSub, Nat.reduceMul, Nat.reduceLeDiff, Nat.reduceLT, Int.reduceLE, Int.reduceLT, Int.reduceToNat, Int.reduceNeg]
        obtain rfl := Option.some.inj h_l1
        have hx := hx_l1 _ rfl
        subst hx
        try dsimp only at h
        refine joinG_of hK g1.1 (by exact h) [] ?_
        simp only [J_law11_LineFair_k1, go_sem, ↓reduceIte, reduceCtorEq, Nat.reduceEqDiff, Nat.reduceAdd, Nat.reduceSub, Nat.reduceMul, Nat.reduceLeDiff, Nat.reduceLT, Int.reduceLE, Int.reduceLT, Int.reduceToNat, Int.reduceNeg]
        first | (done) | trivial | (simp; done) | (repeat' (first | rfl | trivial | omega | (simp; done) | (simp; omega) | (congr 1; simp only [List.length_append, List.length_take, List.length_drop, List.length_replicate]; omega) | apply And.intro))

noncomputable def f_law11_number (a0 : Proc) : Option (Int) :=
  (f_mill_Mod (IntKind.i64.wrap ((IntKind.i64.wrap ((IntKind.i64.wrap (a0.num - 1)) * 4)) + a0.site)) 8).bind fun v1 =>
  some v1
theorem law11_number_ok (a0 : Proc) (r : Int) (h : f_law11_number a0 = some r) : PFn C 30 [.agg (Proc.enc a0)] (.int .i64 r) := by
  refine pfn_intro chk_law11_number rfl fun E hG hN hK => ?_
  unfold pc_law11_number
  unfold f_law11_number at h
  refine s_seq ?_
  refine aw_reg hG ?_
  simp only [r_law11_number_0, go_sem, ↓reduceIte, reduceCtorEq, Nat.reduceEqDiff, Nat.reduceAdd, Nat.reduceSub, Nat.reduceMul, Nat.reduceLeDiff, Nat.reduceLT, Int.reduceLE, Int.reduceLT, Int.reduceToNat, Int.reduceNeg]
  repeat refine And.intro (by first | assumption | omega | rfl | (simp; done) | (simp; omega) | (intros; simp_all; done) | grind) ?_
  refine s_seq ?_
  refine aw_reg hG ?_
  simp only [r_law11_number_1, go_sem, ↓reduceIte, reduceCtorEq, Nat.reduceEqDiff, Nat.reduceAdd, Nat.reduceSub, Nat.reduceMul, Nat.reduceLeDiff, Nat.reduceLT, Int.reduceLE, Int.reduceLT, Int.reduceToNat, Int.reduceNeg]
  repeat refine And.intro (by first | assumption | omega | rfl | (simp; done) | (simp; omega) | (intros; simp_all; done) | grind) ?_
  obtain ⟨v1, hv1, h⟩ := bind_of h
  refine acall_of (fun hg => mill_Mod_ok (IntKind.i64.wrap ((IntKind.i64.wrap ((IntKind.i64.wrap (a0.num - 1)) * 4)) + a0.site)) 8 _ (hv1)) ?_
  simp only [go_sem, ↓reduceIte, reduceCtorEq, Nat.reduceEqDiff, Nat.reduceAdd, Nat.reduceSub, Nat.reduceMul, Nat.reduceLeDiff, Nat.reduceLT, Int.reduceLE, Int.reduceLT, Int.reduceToNat, Int.reduceNeg]
  repeat refine And.intro (by first | assumption | omega | rfl | (simp; done) | (simp; omega) | (intros; simp_all; done) | grind) ?_
  refine aw_ret ?_
  simp only [go_sem, ↓reduceIte, reduceCtorEq, Nat.reduceEqDiff, Nat.reduceAdd, Nat.reduceSub, Nat.reduceMul, Nat.reduceLeDiff, Nat.reduceLT, Int.reduceLE, Int.reduceLT, Int.reduceToNat, Int.reduceNeg]
  obtain rfl := Option.some.inj h
  first | done | rfl | (simp; done) | (repeat' (first | rfl | trivial | omega | (simp; done) | apply And.intro))

noncomputable def f_law11_LineFirst_k1  (j1 : Unit) : Option (Bool) :=
  (f_law11_awake).bind fun v2 =>
  some v2
def J_law11_LineFirst_k1  (j1 : Unit) : St := ⟨[], [], 0⟩
noncomputable def f_law11_LineFirst_k3 (g1 : (List Wait) × Int × (Arr Int 8)) (v4 : (List Wait) × Bool × Bool) (j2 : (Arr Int 8)) (j3 : Unit) : Option (((List Wait) × Int × (Arr Int 8)) ⊕ ((Unit) ⊕ (Bool))) :=
  some (.inl (v4.1, (IntKind.i64.wrap (g1.2.1 + 1)), j2))
def J_law11_LineFirst_k3 (a0 : List Int) (g1 : (List Wait) × Int × (Arr Int 8)) (v4 : (List Wait) × Bool × Bool) (j2 : (Arr Int 8)) (j3 : Unit) : St := ⟨[(0, .sl (a0.map (eI .i64))), (3, .sl (v4.1.map Wait.enc)), (4, .ptr 0 0 0), (5, .int .i64 g1.2.1)], [(0, ⟨false, 8, (Arr.enc (eI .i64) (Arr.rep 8 0)), [Arr.enc (eI .i64) j2]⟩)], 1⟩
noncomputable def f_law11_LineFirst_k4 (g2 : Int) (j4 : Unit) : Option ((Int) ⊕ ((Unit) ⊕ (Bool))) :=
  some (.inl (IntKind.i64.wrap (g2 + 1)))
def J_law11_LineFirst_k4 (a0 : List Int) (g1 : (List Wait) × Int × (Arr Int 8)) (v4 : (List Wait) × Bool × Bool) (j2 : (Arr Int 8)) (g2 : Int) (j4 : Unit) : St := ⟨[(0, .sl (a0.map (eI .i64))), (3, .sl (v4.1.map Wait.enc)), (4, .ptr 0 0 0), (5, .int .i64 g1.2.1), (10, .int .i64 g2)], [(0, ⟨false, 8, (Arr.enc (eI .i64) (Arr.rep 8 0)), [Arr.enc (eI .i64) j2]⟩)], 1⟩
noncomputable def f_law11_LineFirst_l3 (v4 : (List Wait) × Bool × Bool) (j2 : (Arr Int 8)) (g2 : Int) (g3 : Int) : Option ((Int) ⊕ ((Unit) ⊕ (Bool))) :=
  (if (decide (g3 < (v4.1.length : Int))) = true then
    gd (0 ≤ g2 ∧ g2 < (v4.1.length : Int)) <|
    gd (0 ≤ g3 ∧ g3 < (v4.1.length : Int)) <|
    gd ((decide ((v4.1.getD g2.toNat Wait.zero).priority = (v4.1.getD g3.toNat Wait.zero).priority)) = true → 0 ≤ g2 ∧ g2 < (v4.1.length : Int)) <|
    ((if (decide ((v4.1.getD g2.toNat Wait.zero).priority = (v4.1.getD g3.toNat Wait.zero).priority)) = true then f_law11_number ((v4.1.getD g2.toNat Wait.zero).proc) else some (0))).bind fun v5 =>
    gd ((decide ((v4.1.getD g2.toNat Wait.zero).priority = (v4.1.getD g3.toNat Wait.zero).priority)) = true → 0 ≤ v5 ∧ v5 < 8) <|
    gd ((decide ((v4.1.getD g2.toNat Wait.zero).priority = (v4.1.getD g3.toNat Wait.zero).priority)) = true → 0 ≤ g3 ∧ g3 < (v4.1.length : Int)) <|
    ((if (decide ((v4.1.getD g2.toNat Wait.zero).priority = (v4.1.getD g3.toNat Wait.zero).priority)) = true then f_law11_number ((v4.1.getD g3.toNat Wait.zero).proc) else some (0))).bind fun v6 =>
    gd ((decide ((v4.1.getD g2.toNat Wait.zero).priority = (v4.1.getD g3.toNat Wait.zero).priority)) = true → 0 ≤ v6 ∧ v6 < 8) <|
    (if ((decide ((v4.1.getD g2.toNat Wait.zero).priority = (v4.1.getD g3.toNat Wait.zero).priority)) && (decide ((Arr.get j2 v6.toNat 0) < (Arr.get j2 v5.toNat 0)))) = true then
      some (.inr (.inr false))
    else
      some (.inl (IntKind.i64.wrap (g3 + 1))))
  else
    some (.inr (.inl ())))
def I_law11_LineFirst_l3 (a0 : List Int) (g1 : (List Wait) × Int × (Arr Int 8)) (v4 : (List Wait) × Bool × Bool) (j2 : (Arr Int 8)) (g2 : Int) (g3 : Int) : St := ⟨[(0, .sl (a0.map (eI .i64))), (3, .sl (v4.1.map Wait.enc)), (4, .ptr 0 0 0), (5, .int .i64 g1.2.1), (10, .int .i64 g2), (11, .int .i64 g3)], [(0, ⟨false, 8, (Arr.enc (eI .i64) (Arr.rep 8 0)), [Arr.enc (eI .i64) j2]⟩)], 1⟩
noncomputable def f_law11_LineFirst_l2 (v4 : (List Wait) × Bool × Bool) (j2 : (Arr Int 8)) (g2 : Int) : Option ((Int) ⊕ ((Unit) ⊕ (Bool))) :=
  (if (decide (g2 < (v4.1.length : Int))) = true then
    (loopO (f_law11_LineFirst_l3 v4 j2 g2) (IntKind.i64.wrap (g2 + 1))).bind (fun | .inl z => f_law11_LineFirst_k4 g2 z | .inr z => some (.inr (.inr z)))
  else
    some (.inr (.inl ())))
def I_law11_LineFirst_l2 (a0 : List Int) (g1 : (List Wait) × Int × (Arr Int 8)) (v4 : (List Wait) × Bool × Bool) (j2 : (Arr Int 8)) (g2 : Int) : St := ⟨[(0, .sl (a0.map (eI .i64))), (3, .sl (v4.1.map Wait.enc)), (4, .ptr 0 0 0), (5, .int .i64 g1.2.1), (10, .int .i64 g2)], [(0, ⟨false, 8, (Arr.enc (eI .i64) (Arr.rep 8 0)), [Arr.enc (eI .i64) j2]⟩)], 1⟩
noncomputable def f_law11_LineFirst_k2 (g1 : (List Wait) × Int × (Arr Int 8)) (v4 : (List Wait) × Bool × Bool) (j2 : (Arr Int 8)) : Option (((List Wait) × Int × (Arr Int 8)) ⊕ ((Unit) ⊕ (Bool))) :=
  (loopO (f_law11_LineFirst_l2 v4 j2) 0).bind (fun | .inl z => f_law11_LineFirst_k3 g1 v4 j2 z | .inr z => some (.inr (.inr z)))
def J_law11_LineFirst_k2 (a0 : List Int) (g1 : (List Wait) × Int × (Arr Int 8)) (v4 : (List Wait) × Bool × Bool) (j2 : (Arr Int 8)) : St := ⟨[(0, .sl (a0.map (eI .i64))), (4, .ptr 0 0 0), (5, .int .i64 g1.2.1), (7, .sl (v4.1.map Wait.enc))], [(0, ⟨false, 8, (Arr.enc (eI .i64) (Arr.rep 8 0)), [Arr.enc (eI .i64) j2]⟩)], 1⟩
noncomputable def f_law11_LineFirst_l1 (a0 : List Int) (g1 : (List Wait) × Int × (Arr Int 8)) : Option (((List Wait) × Int × (Arr Int 8)) ⊕ ((Unit) ⊕ (Bool))) :=
  (if (decide (g1.2.1 < (a0.length : Int))) = true then
    gd (0 ≤ g1.2.1 ∧ g1.2.1 < (a0.length : Int)) <|
    (f_mill_Mod (a0.getD g1.2.1.toNat 0) 400).bind fun v3 =>
    (f_law11_step g1.1 v3).bind fun v4 =>
    (if (!v4.2.2) = true then
      some (.inr (.inr false))
    else
      (if v4.2.1 = true then
        (f_mill_Mod (IntKind.i64.wrap (v3.tdiv 5)) 8).bind fun v7 =>
        gd (0 ≤ v7 ∧ v7 < 8) <|
        f_law11_LineFirst_k2 g1 v4 (Arr.put g1.2.2 v7.toNat g1.2.1)
      else
        f_law11_LineFirst_k2 g1 v4 g1.2.2))
  else
    some (.inr (.inl ())))
def I_law11_LineFirst_l1 (a0 : List Int) (g1 : (List Wait) × Int × (Arr Int 8)) : St := ⟨[(0, .sl (a0.map (eI .i64))), (3, .sl (g1.1.map Wait.enc)), (4, .ptr 0 0 0), (5, .int .i64 g1.2.1)], [(0, ⟨false, 8, (Arr.enc (eI .i64) (Arr.rep 8 0)), [Arr.enc (eI .i64) g1.2.2]⟩)], 1⟩
noncomputable def f_law11_LineFirst (a0 : List Int) : Option (Bool) :=
  (if (!(f_mill_Light a0)) = true then
    (f_law11_awake).bind fun v1 =>
    some v1
  else
    (loopO (f_law11_LineFirst_l1 a0) ([], 0, (Arr.rep 8 0))).bind (fun | .inl z => f_law11_LineFirst_k1 z | .inr z => some z))
theorem law11_LineFirst_ok (a0 : List Int) (r : Bool) (h : f_law11_LineFirst a0 = some r) : PFn C 9 [.sl (a0.map (eI .i64))] (.bool r) := by
  refine pfn_intro chk_law11_LineFirst rfl fun E hG hN hK => ?_
  unfold pc_law11_LineFirst
  unfold f_law11_LineFirst at h
  refine s_seq ?_
  refine aw_reg hG ?_
  simp only [r_law11_LineFirst_0, go_sem, ↓reduceIte, reduceCtorEq, Nat.reduceEqDiff, Nat.reduceAdd, Nat.reduceSub, Nat.reduceMul, Nat.reduceLeDiff, Nat.reduceLT, Int.reduceLE, Int.reduceLT, Int.reduceToNat, Int.reduceNeg]
  repeat refine And.intro (by first | assumption | omega | rfl | (simp; done) | (simp; omega) | (intros; simp_all; done) | grind) ?_
  refine s_seq ?_
  refine s_seq ?_
  refine aw_reg hG ?_
  simp only [r_law11_LineFirst_1, go_sem, ↓reduceIte, reduceCtorEq, Nat.reduceEqDiff, Nat.reduceAdd, Nat.reduceSub, Nat.reduceMul, Nat.reduceLeDiff, Nat.reduceLT, Int.reduceLE, Int.reduceLT, Int.reduceToNat, Int.reduceNeg]
  repeat refine And.intro (by first | assumption | omega | rfl | (simp; done) | (simp; omega) | (intros; simp_all; done) | grind) ?_
  refine acall_of (fun hg => mill_Light_ok a0) ?_
  simp only [go_sem, ↓reduceIte, reduceCtorEq, Nat.reduceEqDiff, Nat.reduceAdd, Nat.reduceSub, Nat.reduceMul, Nat.reduceLeDiff, Nat.reduceLT, Int.reduceLE, Int.reduceLT, Int.reduceToNat, Int.reduceNeg]
  repeat refine And.intro (by first | assumption | omega | rfl | (simp; done) | (simp; omega) | (intros; simp_all; done) | grind) ?_
  refine aw_cond rfl hG ?_ ?_
  · intro hc1
    replace h := ite_t (by first | exact hc1 | simpa using hc1) h
    refine s_seq ?_
    refine aw_reg hG ?_
    simp only [r_law11_LineFirst_2, go_sem, ↓reduceIte, reduceCtorEq, Nat.reduceEqDiff, Nat.reduceAdd, Nat.reduceSub, Nat.reduceMul, Nat.reduceLeDiff, Nat.reduceLT, Int.reduceLE, Int.reduceLT, Int.reduceToNat, Int.reduceNeg]
    repeat refine And.intro (by first | assumption | omega | rfl | (simp; done) | (simp; omega) | (intros; simp_all; done) | grind) ?_
    obtain ⟨v1, hv1, h⟩ := bind_of h
    refine acall_of (fun hg => law11_awake_ok  _ (hv1)) ?_
    simp only [go_sem, ↓reduceIte, reduceCtorEq, Nat.reduceEqDiff, Nat.reduceAdd, Nat.reduceSub, Nat.reduceMul, Nat.reduceLeDiff, Nat.reduceLT, Int.reduceLE, Int.reduceLT, Int.reduceToNat, Int.reduceNeg]
    repeat refine And.intro (by first | assumption | omega | rfl | (simp; done) | (simp; omega) | (intros; simp_all; done) | grind) ?_
    refine aw_ret ?_
    simp only [go_sem, ↓reduceIte, reduceCtorEq, Nat.reduceEqDiff, Nat.reduceAdd, Nat.reduceSub, Nat.reduceMul, Nat.reduceLeDiff, Nat.reduceLT, Int.reduceLE, Int.reduceLT, Int.reduceToNat, Int.reduceNeg]
    obtain rfl := Option.some.inj h
    first | done | rfl | (simp; done) | (repeat' (first | rfl | trivial | omega | (simp; done) | apply And.intro))
  · intro hc1
    replace h := ite_f (by first | exact hc1 | simpa using hc1) h
    refine aw_skip ?_
    simp only [go_sem, ↓reduceIte, reduceCtorEq, Nat.reduceEqDiff, Nat.reduceAdd, Nat.reduceSub, Nat.reduceMul, Nat.reduceLeDiff, Nat.reduceLT, Int.reduceLE, Int.reduceLT, Int.reduceToNat, Int.reduceNeg]
    refine s_seq ?_
    refine aw_reg hG ?_
    simp only [r_law11_LineFirst_3, go_sem, ↓reduceIte, reduceCtorEq, Nat.reduceEqDiff, Nat.reduceAdd, Nat.reduceSub, Nat.reduceMul, Nat.reduceLeDiff, Nat.reduceLT, Int.reduceLE, Int.reduceLT, Int.reduceToNat, Int.reduceNeg]
    repeat refine And.intro (by first | assumption | omega | rfl | (simp; done) | (simp; omega) | (intros; simp_all; done) | grind) ?_
    refine s_seq ?_
    refine aw_reg hG ?_
    simp only [r_law11_LineFirst_4, go_sem, ↓reduceIte, reduceCtorEq, Nat.reduceEqDiff, Nat.reduceAdd, Nat.reduceSub, Nat.reduceMul, Nat.reduceLeDiff, Nat.reduceLT, Int.reduceLE, Int.reduceLT, Int.reduceToNat, Int.reduceNeg]
    repeat refine And.intro (by first | assumption | omega | rfl | (simp; done) | (simp; omega) | (intros; simp_all; done) | grind) ?_
    refine s_seq ?_
    refine s_seq ?_
    refine aw_reg hG ?_
    simp only [r_law11_LineFirst_5, go_sem, ↓reduceIte, reduceCtorEq, Nat.reduceEqDiff, Nat.reduceAdd, Nat.reduceSub, Nat.reduceMul, Nat.reduceLeDiff, Nat.reduceLT, Int.reduceLE, Int.reduceLT, Int.reduceToNat, Int.reduceNeg]
    repeat refine And.intro (by first | assumption | omega | rfl | (simp; done) | (simp; omega) | (intros; simp_all; done) | grind) ?_
    refine s_blockJ (J_law11_LineFirst_k1) (fun v => f_law11_LineFirst_k1 v = some r) ?_ ?_
    · intro j1 h
      unfold f_law11_LineFirst_k1 at h
      simp only [J_law11_LineFirst_k1, go_sem, ↓reduceIte, reduceCtorEq, Nat.reduceEqDiff, Nat.reduceAdd, Nat.reduceSub, Nat.reduceMul, Nat.reduceLeDiff, Nat.reduceLT, Int.reduceLE, Int.reduceLT, Int.reduceToNat, Int.reduceNeg]
      refine s_seq ?_
      refine aw_reg hG ?_
      simp only [r_law11_LineFirst_23, go_sem, ↓reduceIte, reduceCtorEq, Nat.reduceEqDiff, Nat.reduceAdd, Nat.reduceSub, Nat.reduceMul, Nat.reduceLeDiff, Nat.reduceLT, Int.reduceLE, Int.reduceLT, Int.reduceToNat, Int.reduceNeg]
      repeat refine And.intro (by first | assumption | omega | rfl | (simp; done) | (simp; omega) | (intros; simp_all; done) | grind) ?_
      obtain ⟨v2, hv2, h⟩ := bind_of h
      refine acall_of (fun hg => law11_awake_ok  _ (hv2)) ?_
      simp only [go_sem, ↓reduceIte, reduceCtorEq, Nat.reduceEqDiff, Nat.reduceAdd, Nat.reduceSub, Nat.reduceMul, Nat.reduceLeDiff, Nat.reduceLT, Int.reduceLE, Int.reduceLT, Int.reduceToNat, Int.reduceNeg]
      repeat refine And.intro (by first | assumption | omega | rfl | (simp; done) | (simp; omega) | (intros; simp_all; done) | grind) ?_
      refine aw_ret ?_
      simp only [go_sem, ↓reduceIte, reduceCtorEq, Nat.reduceEqDiff, Nat.reduceAdd, Nat.reduceSub, Nat.reduceMul, Nat.reduceLeDiff, Nat.reduceLT, Int.reduceLE, Int.reduceLT, Int.reduceToNat, Int.reduceNeg]
      obtain rfl := Option.some.inj h
      first | done | rfl | (simp; done) | (repeat' (first | rfl | trivial | omega | (simp; done) | apply And.intro))
    obtain ⟨x_l1, hl_l1, h⟩ := bind_of h
    refine s_loopO (I_law11_LineFirst_l1 a0) hK [(0, 0)] hl_l1 ?_ ?_
    · simp only [I_law11_LineFirst_l1, go_sem, ↓reduceIte, reduceCtorEq, Nat.reduceEqDiff, Nat.reduceAdd, Nat.reduceSub, Nat.reduceMul, Nat.reduceLeDiff, Nat.reduceLT, Int.reduceLE, Int.reduceLT, Int.reduceToNat, Int.reduceNeg]
      first | (done) | trivial | (simp; done) | (repeat' (first | rfl | trivial | omega | (simp; done) | (simp; omega) | (congr 1; simp only [List.length_append, List.length_take, List.length_drop, List.length_replicate]; omega) | apply And.intro))
    · clear hl_l1
      intro g1 y_l1 h_l1 hx_l1
      unfold f_law11_LineFirst_l1 at h_l1
      simp only [I_law11_LineFirst_l1, go_sem, ↓reduceIte, reduceCtorEq, Nat.reduceEqDiff, Nat.reduceAdd, Nat.reduceSub, Nat.reduceMul, Nat.reduceLeDiff, Nat.reduceLT, Int.reduceLE, Int.reduceLT, Int.reduceToNat, Int.reduceNeg]
      refine s_seq ?_
      refine s_seq ?_
      refine aw_reg hG ?_
      simp only [r_law11_LineFirst_6, go_sem, ↓reduceIte, reduceCtorEq, Nat.reduceEqDiff, Nat.reduceAdd, Nat.reduceSub, Nat.reduceMul, Nat.reduceLeDiff, Nat.reduceLT, Int.reduceLE, Int.reduceLT, Int.reduceToNat, Int.reduceNeg]
      repeat refine And.intro (by first | assumption | omega | rfl | (simp; done) | (simp; omega) | (intros; simp_all; done) | grind) ?_
      refine aw_cond rfl hG ?_ ?_
      · intro hc2
        replace h_l1 := ite_t (by first | exact hc2 | simpa using hc2) h_l1
        refine aw_skip ?_
        simp only [go_sem, ↓reduceIte, reduceCtorEq, Nat.reduceEqDiff, Nat.reduceAdd, Nat.reduceSub, Nat.reduceMul, Nat.reduceLeDiff, Nat.reduceLT, Int.reduceLE, Int.reduceLT, Int.reduceToNat, Int.reduceNeg]
        refine s_seq ?_
        refine s_block ?_
        refine s_seq ?_
        obtain ⟨hb8, h_l1⟩ := gd_some h_l1
        refine aw_reg hG ?_
        simp only [r_law11_LineFirst_8, go_sem, ↓reduceIte, reduceCtorEq, Nat.reduceEqDiff, Nat.reduceAdd, Nat.reduceSub, Nat.reduceMul, Nat.reduceLeDiff, Nat.reduceLT, Int.reduceLE, Int.reduceLT, Int.reduceToNat, Int.reduceNeg, hb8]
        repeat refine And.intro (by first | assumption | omega | rfl | (simp; done) | (simp; omega) | (intros; simp_all; done) | grind) ?_
        obtain ⟨v3, hv3, h_l1⟩ := bind_of h_l1
        refine acall_of (fun hg => mill_Mod_ok (a0.getD g1.2.1.toNat 0) 400 _ (hv3)) ?_
        simp only [go_sem, ↓reduceIte, reduceCtorEq, Nat.reduceEqDiff, Nat.reduceAdd, Nat.reduceSub, Nat.reduceMul, Nat.reduceLeDiff, Nat.reduceLT, Int.reduceLE, Int.reduceLT, Int.reduceToNat, Int.reduceNeg, hb8]
        repeat refine And.intro (by first | assumption | omega | rfl | (simp; done) | (simp; omega) | (intros; simp_all; done) | grind) ?_
        refine s_seq ?_
        refine aw_reg hG ?_
        simp only [r_law11_LineFirst_9, go_sem, ↓reduceIte, reduceCtorEq, Nat.reduceEqDiff, Nat.reduceAdd, Nat.reduceSub, Nat.reduceMul, Nat.reduceLeDiff, Nat.reduceLT, Int.reduceLE, Int.reduceLT, Int.reduceToNat, Int.reduceNeg]
        repeat refine And.intro (by first | assumption | omega | rfl | (simp; done) | (simp; omega) | (intros; simp_all; done) | grind) ?_
        obtain ⟨v4, hv4, h_l1⟩ := bind_of h_l1
        refine acall_of (fun hg => law11_step_ok g1.1 v3 _ (hv4)) ?_
        simp only [go_sem, ↓reduceIte, reduceCtorEq, Nat.reduceEqDiff, Nat.reduceAdd, Nat.reduceSub, Nat.reduceMul, Nat.reduceLeDiff, Nat.reduceLT, Int.reduceLE, Int.reduceLT, Int.reduceToNat, Int.reduceNeg]
        repeat refine And.intro (by first | assumption | omega | rfl | (simp; done) | (simp; omega) | (intros; simp_all; done) | grind) ?_
        refine s_seq ?_
        refine s_seq ?_
        refine aw_reg hG ?_
        simp only [r_law11_LineFirst_10, go_sem, ↓reduceIte, reduceCtorEq, Nat.reduceEqDiff, Nat.reduceAdd, Nat.reduceSub, Nat.reduceMul, Nat.reduceLeDiff, Nat.reduceLT, Int.reduceLE, Int.reduceLT, Int.reduceToNat, Int.reduceNeg]
        repeat refine And.intro (by first | assumption | omega | rfl | (simp; done) | (simp; omega) | (intros; simp_all; done) | grind) ?_
        refine aw_cond rfl hG ?_ ?_
        · intro hc3
          replace h_l1 := ite_t (by first | exact hc3 | simpa using hc3) h_l1
          refine s_seq ?_
          refine aw_reg hG ?_
          simp only [r_law11_LineFirst_11, go_sem, ↓reduceIte, reduceCtorEq, Nat.reduceEqDiff, Nat.reduceAdd, Nat.reduceSub, Nat.reduceMul, Nat.reduceLeDiff, Nat.reduceLT, Int.reduceLE, Int.reduceLT, Int.reduceToNat, Int.reduceNeg]
          repeat refine And.intro (by first | assumption | omega | rfl | (simp; done) | (simp; omega) | (intros; simp_all; done) | grind) ?_
          refine aw_ret ?_
          simp only [go_sem, ↓reduceIte, reduceCtorEq, Nat.reduceEqDiff, Nat.reduceAdd, Nat.reduceSub, Nat.reduceMul, Nat.reduceLeDiff, Nat.reduceLT, Int.reduceLE, Int.reduceLT, Int.reduceToNat, Int.reduceNeg]
          obtain rfl := Option.some.inj h_l1
          have hx := hx_l1 _ rfl
          subst hx
          try dsimp only at h
          obtain rfl := Option.some.inj h
          first | done | rfl | (simp; done) | (repeat' (first | rfl | trivial | omega | (simp; done) | apply And.intro))
        · intro hc3
          replace h_l1 := ite_f (by first | exact hc3 | simpa using hc3) h_l1
          refine aw_skip ?_
          simp only [go_sem, ↓reduceIte, reduceCtorEq, Nat.reduceEqDiff, Nat.reduceAdd, Nat.reduceSub, Nat.reduceMul, Nat.reduceLeDiff, Nat.reduceLT, Int.reduceLE, Int.reduceLT, Int.reduceToNat, Int.reduceNeg]
          refine s_seq ?_
          refine s_seq ?_
          refine aw_reg hG ?_
          simp only [r_law11_LineFirst_12, go_sem, ↓reduceIte, reduceCtorEq, Nat.reduceEqDiff, Nat.reduceAdd, Nat.reduceSub, Nat.reduceMul, Nat.reduceLeDiff, Nat.reduceLT, Int.reduceLE, Int.reduceLT, Int.reduceToNat, Int.reduceNeg]
          repeat refine And.intro (by first | assumption | omega | rfl | (simp; done) | (simp; omega) | (intros; simp_all; done) | grind) ?_
          refine s_condJ (J_law11_LineFirst_k2 a0 g1 v4) (fun v => f_law11_LineFirst_k2 g1 v4 v = some y_l1) rfl hG ?_ ?_ ?_
          · intro j2 h_l1
            unfold f_law11_LineFirst_k2 at h_l1
            simp only [J_law11_LineFirst_k2, go_sem, ↓reduceIte, reduceCtorEq, Nat.reduceEqDiff, Nat.reduceAdd, Nat.reduceSub, Nat.reduceMul, Nat.reduceLeDiff, Nat.reduceLT, Int.reduceLE, Int.reduceLT, Int.reduceToNat, Int.reduceNeg]
            refine s_seq ?_
            refine aw_reg hG ?_
            simp only [r_law11_LineFirst_14, go_sem, ↓reduceIte, reduceCtorEq, Nat.reduceEqDiff, Nat.reduceAdd, Nat.reduceSub, Nat.reduceMul, Nat.reduceLeDiff, Nat.reduceLT, Int.reduceLE, Int.reduceLT, Int.reduceToNat, Int.reduceNeg]
            repeat refine And.intro (by first | assumption | omega | rfl | (simp; done) | (simp; omega) | (intros; simp_all; done) | grind) ?_
            refine s_seq ?_
            refine aw_reg hG ?_
            simp only [r_law11_LineFirst_15, go_sem, ↓reduceIte, reduceCtorEq, Nat.reduceEqDiff, Nat.reduceAdd, Nat.reduceSub, Nat.reduceMul, Nat.reduceLeDiff, Nat.reduceLT, Int.reduceLE, Int.reduceLT, Int.reduceToNat, Int.reduceNeg]
            repeat refine And.intro (by first | assumption | omega | rfl | (simp; done) | (simp; omega) | (intros; simp_all; done) | grind) ?_
            refine s_blockJ (J_law11_LineFirst_k3 a0 g1 v4 j2) (fun v => f_law11_LineFirst_k3 g1 v4 j2 v = some y_l1) ?_ ?_
            · intro j3 h_l1
              unfold f_law11_LineFirst_k3 at h_l1
              simp only [J_law11_LineFirst_k3, go_sem, ↓reduceIte, reduceCtorEq, Nat.reduceEqDiff, Nat.reduceAdd, Nat.reduceSub, Nat.reduceMul, Nat.reduceLeDiff, Nat.reduceLT, Int.reduceLE, Int.reduceLT, Int.reduceToNat, Int.reduceNeg]
              refine aw_reg hG ?_
              simp only [r_law11_LineFirst_7, go_sem, ↓reduceIte, reduceCtorEq, Nat.reduceEqDiff, Nat.reduceAdd, Nat.reduceSub, Nat.reduceMul, Nat.reduceLeDiff, Nat.reduceLT, Int.reduceLE, Int.reduceLT, Int.reduceToNat, Int.reduceNeg]
              repeat refine And.intro (by first | assumption | omega | rfl | (simp; done) | (simp; omega) | (intros; simp_all; done) | grind) ?_
              obtain rfl := Option.some.inj h_l1
              refine loopN_of hK [(0, 0)] ?_
              simp only [I_law11_LineFirst_l1, go_sem, ↓reduceIte, reduceCtorEq, Nat.reduceEqDiff, Nat.reduceAdd, Nat.reduceSub, Nat.reduceMul, Nat.reduceLeDiff, Nat.reduceLT, Int.reduceLE, Int.reduceLT, Int.reduceToNat, Int.reduceNeg]
              first | (done) | trivial | (simp; done) | (repeat' (first | rfl | trivial | omega | (simp; done) | (simp; omega) | (congr 1; simp only [List.length_append, List.length_take, List.length_drop, List.length_replicate]; omega) | apply And.intro))
            obtain ⟨x_l2, hl_l2, h_l1⟩ := bind_of h_l1
            refine s_loopO (I_law11_LineFirst_l2 a0 g1 v4 j2) hK [(0, 0)] hl_l2 ?_ ?_
            · simp only [I_law11_LineFirst_l2, go_sem, ↓reduceIte, reduceCtorEq, Nat.reduceEqDiff, Nat.reduceAdd, Nat.reduceSub, Nat.reduceMul, Nat.reduceLeDiff, Nat.reduceLT, Int.reduceLE, Int.reduceLT, Int.reduceToNat, Int.reduceNeg]
              first | (done) | trivial | (simp; done) | (repeat' (first | rfl | trivial | omega | (simp; done) | (simp; omega) | (congr 1; simp only [List.length_append, List.length_take, List.length_drop, List.length_replicate]; omega) | apply And.intro))
            · clear hl_l2
              intro g2 y_l2 h_l2 hx_l2
              unfold f_law11_LineFirst_l2 at h_l2
              simp only [I_law11_LineFirst_l2, go_sem, ↓reduceIte, reduceCtorEq, Nat.reduceEqDiff, Nat.reduceAdd, Nat.reduceSub, Nat.reduceMul, Nat.reduceLeDiff, Nat.reduceLT, Int.reduceLE, Int.reduceLT, Int.reduceToNat, Int.reduceNeg]
              refine s_seq ?_
              refine s_seq ?_
              refine aw_reg hG ?_
              simp only [r_law11_LineFirst_16, go_sem, ↓reduceIte, reduceCtorEq, Nat.reduceEqDiff, Nat.reduceAdd, Nat.reduceSub, Nat.reduceMul, Nat.reduceLeDiff, Nat.reduceLT, Int.reduceLE, Int.reduceLT, Int.reduceToNat, Int.reduceNeg]
              repeat refine And.intro (by first | assumption | omega | rfl | (simp; done) | (simp; omega) | (intros; simp_all; done) | grind) ?_
              refine aw_cond rfl hG ?_ ?_
              · intro hc4
                replace h_l2 := ite_t (by first | exact hc4 | simpa using hc4) h_l2
                refine aw_skip ?_
                simp only [go_sem, ↓reduceIte, reduceCtorEq, Nat.reduceEqDiff, Nat.reduceAdd, Nat.reduceSub, Nat.reduceMul, Nat.reduceLeDiff, Nat.reduceLT, Int.reduceLE, Int.reduceLT, Int.reduceToNat, Int.reduceNeg]
                refine s_seq ?_
                refine s_block ?_
                refine s_seq ?_
                refine aw_reg hG ?_
                simp only [r_law11_LineFirst_18, go_sem, ↓reduceIte, reduceCtorEq, Nat.reduceEqDiff, Nat.reduceAdd, Nat.reduceSub, Nat.reduceMul, Nat.reduceLeDiff, Nat.reduceLT, Int.reduceLE, Int.reduceLT, Int.reduceToNat, Int.reduceNeg]
                repeat refine And.intro (by first | assumption | omega | rfl | (simp; done) | (simp; omega) | (intros; simp_all; done) | grind) ?_
                refine s_blockJ (J_law11_LineFirst_k4 a0 g1 v4 j2 g2) (fun v => f_law11_LineFirst_k4 g2 v = some y_l2) ?_ ?_
                · intro j4 h_l2
                  unfold f_law11_LineFirst_k4 at h_l2
                  simp only [J_law11_LineFirst_k4, go_sem, ↓reduceIte, reduceCtorEq, Nat.reduceEqDiff, Nat.reduceAdd, Nat.reduceSub, Nat.reduceMul, Nat.reduceLeDiff, Nat.reduceLT, Int.reduceLE, Int.reduceLT, Int.reduceToNat, Int.reduceNeg]
                  refine aw_reg hG ?_
                  simp only [r_law11_LineFirst_17, go_sem, ↓reduceIte, reduceCtorEq, Nat.reduceEqDiff, Nat.reduceAdd, Nat.reduceSub, Nat.reduceMul, Nat.reduceLeDiff, Nat.reduceLT, Int.reduceLE, Int.reduceLT, Int.reduceToNat, Int.reduceNeg]
                  repeat refine And.intro (by first | assumption | omega | rfl | (simp; done) | (simp; omega) | (intros; simp_all; done) | grind) ?_
                  obtain rfl := Option.some.inj h_l2
                  refine loopN_of hK [(0, 0)] ?_
                  simp only [I_law11_LineFirst_l2, go_sem, ↓reduceIte, reduceCtorEq, Nat.reduceEqDiff, Nat.reduceAdd, Nat.reduceSub, Nat.reduceMul, Nat.reduceLeDiff, Nat.reduceLT, Int.reduceLE, Int.reduceLT, Int.reduceToNat, Int.reduceNeg]
                  first | (done) | trivial | (simp; done) | (repeat' (first | rfl | trivial | omega | (simp; done) | (simp; omega) | (congr 1; simp only [List.length_append, List.length_take, List.length_drop, List.length_replicate]; omega) | apply And.intro))
                obtain ⟨x_l3, hl_l3, h_l2⟩ := bind_of h_l2
                refine s_loopO (I_law11_LineFirst_l3 a0 g1 v4 j2 g2) hK [(0, 0)] hl_l3 ?_ ?_
                · simp only [I_law11_LineFirst_l3, go_sem, ↓reduceIte, reduceCtorEq, Nat.reduceEqDiff, Nat.reduceAdd, Nat.reduceSub, Nat.reduceMul, Nat.reduceLeDiff, Nat.reduceLT, Int.reduceLE, Int.reduceLT, Int.reduceToNat, Int.reduceNeg]
                  first | (done) | trivial | (simp; done) | (repeat' (first | rfl | trivial | omega | (simp; done) | (simp; omega) | (congr 1; simp only [List.length_append, List.length_take, List.length_drop, List.length_replicate]; omega) | apply And.intro))
                · clear hl_l3
                  intro g3 y_l3 h_l3 hx_l3
                  unfold f_law11_LineFirst_l3 at h_l3
                  simp only [I_law11_LineFirst_l3, go_sem, ↓reduceIte, reduceCtorEq, Nat.reduceEqDiff, Nat.reduceAdd, Nat.reduceSub, Nat.reduceMul, Nat.reduceLeDiff, Nat.reduceLT, Int.reduceLE, Int.reduceLT, Int.reduceToNat, Int.reduceNeg]
                  refine s_seq ?_
                  refine s_seq ?_
                  refine aw_reg hG ?_
                  simp only [r_law11_LineFirst_19, go_sem, ↓reduceIte, reduceCtorEq, Nat.reduceEqDiff, Nat.reduceAdd, Nat.reduceSub, Nat.reduceMul, Nat.reduceLeDiff, Nat.reduceLT, Int.reduceLE, Int.reduceLT, Int.reduceToNat, Int.reduceNeg]
                  repeat refine And.intro (by first | assumption | omega | rfl | (simp; done) | (simp; omega) | (intros; simp_all; done) | grind) ?_
                  refine aw_cond rfl hG ?_ ?_
                  · intro hc5
                    replace h_l3 := ite_t (by first | exact hc5 | simpa using hc5) h_l3
                    refine aw_skip ?_
                    simp only [go_sem, ↓reduceIte, reduceCtorEq, Nat.reduceEqDiff, Nat.reduceAdd, Nat.reduceSub, Nat.reduceMul, Nat.reduceLeDiff, Nat.reduceLT, Int.reduceLE, Int.reduceLT, Int.reduceToNat, Int.reduceNeg]
                    refine s_seq ?_
                    refine s_block ?_
                    refine s_seq ?_
                    obtain ⟨hb1, h_l3⟩ := gd_some h_l3
                    obtain ⟨hb2, h_l3⟩ := gd_some h_l3
                    obtain ⟨hb3, h_l3⟩ := gd_some h_l3
                    refine aw_regd C_mixed hG ?_
                    simp only [r_law11_LineFirst_21, go_sem, ↓reduceIte, reduceCtorEq, Nat.reduceEqDiff, Nat.reduceAdd, Nat.reduceSub, Nat.reduceMul, Nat.reduceLeDiff, Nat.reduceLT, Int.reduceLE, Int.reduceLT, Int.reduceToNat, Int.reduceNeg, hb1, hb2, hb3]
                    repeat refine And.intro (by first | assumption | omega | rfl | (simp; done) | (simp; omega) | (intros; simp_all; done) | grind) ?_
                    obtain ⟨v5, hv5, h_l3⟩ := bind_of h_l3
                    refine acalld_of (fun hg => law11_number_ok ((v4.1.getD g2.toNat Wait.zero).proc) _ (ite_t hg hv5)) ?_
                    obtain ⟨hb4, h_l3⟩ := gd_some h_l3
                    obtain ⟨hb5, h_l3⟩ := gd_some h_l3
                    simp only [go_sem, ↓reduceIte, reduceCtorEq, Nat.reduceEqDiff, Nat.reduceAdd, Nat.reduceSub, Nat.reduceMul, Nat.reduceLeDiff, Nat.reduceLT, Int.reduceLE, Int.reduceLT, Int.reduceToNat, Int.reduceNeg, hb1, hb2, hb3, hb4, hb5]
                    repeat refine And.intro (by first | assumption | omega | rfl | (simp; done) | (simp; omega) | (intros; simp_all; done) | grind) ?_
                    obtain ⟨v6, hv6, h_l3⟩ := bind_of h_l3
                    refine acalld_of (fun hg => law11_number_ok ((v4.1.getD g3.toNat Wait.zero).proc) _ (ite_t hg hv6)) ?_
                    obtain ⟨hb6, h_l3⟩ := gd_some h_l3
                    simp only [go_sem, ↓reduceIte, reduceCtorEq, Nat.reduceEqDiff, Nat.reduceAdd, Nat.reduceSub, Nat.reduceMul, Nat.reduceLeDiff, Nat.reduceLT, Int.reduceLE, Int.reduceLT, Int.reduceToNat, Int.reduceNeg, hb1, hb2, hb3, hb4, hb5, hb6]
                    repeat refine And.intro (by first | assumption | omega | rfl | (simp; done) | (simp; omega) | (intros; simp_all; done) | grind) ?_
                    refine aw_cond rfl hG ?_ ?_
                    · intro hc6
                      replace h_l3 := ite_t (by first | exact hc6 | simpa using hc6) h_l3
                      refine s_seq ?_
                      refine aw_reg hG ?_
                      simp only [r_law11_LineFirst_22, go_sem, ↓reduceIte, reduceCtorEq, Nat.reduceEqDiff, Nat.reduceAdd, Nat.reduceSub, Nat.reduceMul, Nat.reduceLeDiff, Nat.reduceLT, Int.reduceLE, Int.reduceLT, Int.reduceToNat, Int.reduceNeg]
                      repeat refine And.intro (by first | assumption | omega | rfl | (simp; done) | (simp; omega) | (intros; simp_all; done) | grind) ?_
                      refine aw_ret ?_
                      simp only [go_sem, ↓reduceIte, reduceCtorEq, Nat.reduceEqDiff, Nat.reduceAdd, Nat.reduceSub, Nat.reduceMul, Nat.reduceLeDiff, Nat.reduceLT, Int.reduceLE, Int.reduceLT, Int.reduceToNat, Int.reduceNeg]
                      obtain rfl := Option.some.inj h_l3
                      have hx := hx_l3 _ rfl
                      subst hx
                      try dsimp only at h_l2
                      obtain rfl := Option.some.inj h_l2
                      have hx := hx_l2 _ rfl
                      subst hx
                      try dsimp only at h_l1
                      obtain rfl := Option.some.inj h_l1
                      have hx := hx_l1 _ rfl
                      subst hx
                      try dsimp only at h
                      obtain rfl := Option.some.inj h
                      first | done | rfl | (simp; done) | (repeat' (first | rfl | trivial | omega | (simp; done) | apply And.intro))
                    · intro hc6
                      replace h_l3 := ite_f (by first | exact hc6 | simpa using hc6) h_l3
                      refine aw_skip ?_
                      simp only [go_sem, ↓reduceIte, reduceCtorEq, Nat.reduceEqDiff, Nat.reduceAdd, Nat.reduceSub, Nat.reduceMul, Nat.reduceLeDiff, Nat.reduceLT, Int.reduceLE, Int.reduceLT, Int.reduceToNat, Int.reduceNeg]
                      refine aw_reg hG ?_
                      simp only [r_law11_LineFirst_20, go_sem, ↓reduceIte, reduceCtorEq, Nat.reduceEqDiff, Nat.reduceAdd, Nat.reduceSub, Nat.reduceMul, Nat.reduceLeDiff, Nat.reduceLT, Int.reduceLE, Int.reduceLT, Int.reduceToNat, Int.reduceNeg]
                      repeat refine And.intro (by first | assumption | omega | rfl | (simp; done) | (simp; omega) | (intros; simp_all; done) | grind) ?_
                      obtain rfl := Option.some.inj h_l3
                      refine loopN_of hK [(0, 0)] ?_
                      simp only [I_law11_LineFirst_l3, go_sem, ↓reduceIte, reduceCtorEq, Nat.reduceEqDiff, Nat.reduceAdd, Nat.reduceSub, Nat.reduceMul, Nat.reduceLeDiff, Nat.reduceLT, Int.reduceLE, Int.reduceLT, Int.reduceToNat, Int.reduceNeg]
                      first | (done) | trivial | (simp; done) | (repeat' (first | rfl | trivial | omega | (simp; done) | (simp; omega) | (congr 1; simp only [List.length_append, List.length_take, List.length_drop, List.length_replicate]; omega) | apply And.intro))
                  · intro hc5
                    replace h_l3 := ite_f (by first | exact hc5 | simpa using hc5) h_l3
                    refine aw_exit ?_
                    simp only [go_sem, ↓reduceIte, reduceCtorEq, Nat.reduceEqDiff, Nat.reduceAdd, Nat.reduceSub, Nat.reduceMul, Nat.reduceLeDiff, Nat.reduceLT, Int.reduceLE, Int.reduceLT, Int.reduceToNat, Int.reduceNeg]
                    obtain rfl := Option.some.inj h_l3
                    have hx := hx_l3 _ rfl
                    subst hx
                    try dsimp only at h_l2
                    refine joinG_of hK () (by exact h_l2) [(0, 0)] ?_
                    simp only [J_law11_LineFirst_k4, go_sem, ↓reduceIte, reduceCtorEq, Nat.reduceEqDiff, Nat.reduceAdd, Nat.reduceSub, Nat.reduceMul, Nat.reduceLeDiff, Nat.reduceLT, Int.reduceLE, Int.reduceLT, Int.reduceToNat, Int.reduceNeg]
                    first | (done) | trivial | (simp; done) | (repeat' (first | rfl | trivial | omega | (simp; done) | (simp; omega) | (congr 1; simp only [List.length_append, List.length_take, List.length_drop, List.length_replicate]; omega) | apply And.intro))
              · intro hc4
                replace h_l2 := ite_f (by first | exact hc4 | simpa using hc4) h_l2
                refine aw_exit ?_
                simp only [go_sem, ↓reduceIte, reduceCtorEq, Nat.reduceEqDiff, Nat.reduceAdd, Nat.reduceSub, Nat.reduceMul, Nat.reduceLeDiff, Nat.reduceLT, Int.reduceLE, Int.reduceLT, Int.reduceToNat, Int.reduceNeg]
                obtain rfl := Option.some.inj h_l2
                have hx := hx_l2 _ rfl
                subst hx
                try dsimp only at h_l1
                refine joinG_of hK () (by exact h_l1) [(0, 0)] ?_
                simp only [J_law11_LineFirst_k3, go_sem, ↓reduceIte, reduceCtorEq, Nat.reduceEqDiff, Nat.reduceAdd, Nat.reduceSub, Nat.reduceMul, Nat.reduceLeDiff, Nat.reduceLT, Int.reduceLE, Int.reduceLT, Int.reduceToNat, Int.reduceNeg]
                first | (done) | trivial | (simp; done) | (repeat' (first | rfl | trivial | omega | (simp; done) | (simp; omega) | (congr 1; simp only [List.length_append, List.length_take, List.length_drop, List.length_replicate]; omega) | apply And.intro))
          · intro hc7
            replace h_l1 := ite_t (by first | exact hc7 | simpa using hc7) h_l1
            refine aw_reg hG ?_
            simp only [r_law11_LineFirst_13, go_sem, ↓reduceIte, reduceCtorEq, Nat.reduceEqDiff, Nat.reduceAdd, Nat.reduceSub, Nat.reduceMul, Nat.reduceLeDiff, Nat.reduceLT, Int.reduceLE, Int.reduceLT, Int.reduceToNat, Int.reduceNeg]
            repeat refine And.intro (by first | assumption | omega | rfl | (simp; done) | (simp; omega) | (intros; simp_all; done) | grind) ?_
            obtain ⟨v7, hv7, h_l1⟩ := bind_of h_l1
            refine acall_of (fun hg => mill_Mod_ok (IntKind.i64.wrap (v3.tdiv 5)) 8 _ (hv7)) ?_
            obtain ⟨hb7, h_l1⟩ := gd_some h_l1
            simp only [go_sem, ↓reduceIte, reduceCtorEq, Nat.reduceEqDiff, Nat.reduceAdd, Nat.reduceSub, Nat.reduceMul, Nat.reduceLeDiff, Nat.reduceLT, Int.reduceLE, Int.reduceLT, Int.reduceToNat, Int.reduceNeg, hb7]
            repeat refine And.intro (by first | assumption | omega | rfl | (simp; done) | (simp; omega) | (intros; simp_all; done) | grind) ?_
            refine joinG_of hK (Arr.put g1.2.2 v7.toNat g1.2.1) (by exact h_l1) [(0, 0)] ?_
            simp only [J_law11_LineFirst_k2, go_sem, ↓reduceIte, reduceCtorEq, Nat.reduceEqDiff, Nat.reduceAdd, Nat.reduceSub, Nat.reduceMul, Nat.reduceLeDiff, Nat.reduceLT, Int.reduceLE, Int.reduceLT, Int.reduceToNat, Int.reduceNeg]
            first | (done) | trivial | (simp; done) | (repeat' (first | rfl | trivial | omega | (simp; done) | (simp; omega) | (congr 1; simp only [List.length_append, List.length_take, List.length_drop, List.length_replicate]; omega) | apply And.intro))
          · intro hc7
            replace h_l1 := ite_f (by first | exact hc7 | simpa using hc7) h_l1
            refine aw_skip ?_
            simp only [go_sem, ↓reduceIte, reduceCtorEq, Nat.reduceEqDiff, Nat.reduceAdd, Nat.reduceSub, Nat.reduceMul, Nat.reduceLeDiff, Nat.reduceLT, Int.reduceLE, Int.reduceLT, Int.reduceToNat, Int.reduceNeg]
            refine joinG_of hK g1.2.2 (by exact h_l1) [(0, 0)] ?_
            simp only [J_law11_LineFirst_k2, go_sem, ↓reduceIte, reduceCtorEq, Nat.reduceEqDiff, Nat.reduceAdd, Nat.reduceSub, Nat.reduceMul, Nat.reduceLeDiff, Nat.reduceLT, Int.reduceLE, Int.reduceLT, Int.reduceToNat, Int.reduceNeg]
            first | (done) | trivial | (simp; done) | (repeat' (first | rfl | trivial | omega | (simp; done) | (simp; omega) | (congr 1; simp only [List.length_append, List.length_take, List.length_drop, List.length_replicate]; omega) | apply And.intro))
      · intro hc2
        replace h_l1 := ite_f (by first | exact hc2 | simpa using hc2) h_l1
        refine aw_exit ?_
        simp only [go_sem, ↓reduceIte, reduceCtorEq, Nat.reduceEqDiff, Nat.reduceAdd, Nat.reduceSub, Nat.reduceMul, Nat.reduceLeDiff, Nat.reduceLT, Int.reduceLE, Int.reduceLT, Int.reduceToNat, Int.reduceNeg]
        obtain rfl := Option.some.inj h_l1
        have hx := hx_l1 _ rfl
        subst hx
        try dsimp only at h
        refine joinG_of hK () (by exact h) [] ?_
        simp only [J_law11_LineFirst_k1, go_sem, ↓reduceIte, reduceCtorEq, Nat.reduceEqDiff, Nat.reduceAdd, Nat.reduceSub, Nat.reduceMul, Nat.reduceLeDiff, Nat.reduceLT, Int.reduceLE, Int.reduceLT, Int.reduceToNat, Int.reduceNeg]
        first | (done) | trivial | (simp; done) | (repeat' (first | rfl | trivial | omega | (simp; done) | (simp; omega) | (congr 1; simp only [List.length_append, List.length_take, List.length_drop, List.length_replicate]; omega) | apply And.intro))
end Ab
end Go.Proofs.Ytgiipcdnbnahiaa
