/-
  Functions of the program, as Lean functions; what the program's code computes is what they say.
-/
import Derived.Test.YtdflfohpemfeiaaGreatDoorFn1
namespace Go.Proofs.YtdflfohpemfeiaaGreatDoor
namespace Ab
set_option linter.unusedSimpArgs false
set_option linter.unusedVariables false
set_option maxRecDepth 100000
set_option maxHeartbeats 1000000

attribute [local irreducible] f_mill_Mod f_mill_Proc f_catalog_ValidName f_catalog_ValidResource f_queue_New f_ident_compare f_ident_CompareProc f_mode_Compatible f_amount_Compatible f_holders_Valid f_holders_Get f_queue_Held f_line_Find f_mode_Covers f_amount_Covers f_queue_soundConverts f_line_Valid f_queue_soundWaits f_queue_Sound f_queue_head f_holders_proper f_holders_Set f_holders_Room f_queue_Settled f_queue_Valid f_slices_Grow_api_Wait_api_Wait_m f_slices_Concat_api_Wait_api_Wait f_queue_order f_queue_Wanted f_queue_clone_m f_mode_Sup f_amount_Join f_queue_Claim_1_m

noncomputable def f_queue_advance_m_k1  (j1 : Queue × (List Hold)) : Option ((List Hold) × Queue) :=
 some (j1.2, j1.1)
@[go_sem] def J17_k1  (j1 : Queue × (List Hold)) : St := ⟨[(3, .own 1 0 j1.2.length)], [(0, ⟨false, 8, (Queue.enc Queue.zero), [Queue.enc j1.1]⟩), (1, ⟨false, 5, (Hold.enc Hold.zero), j1.2.map Hold.enc⟩)], 2⟩
noncomputable def f_queue_advance_m_k2 (g1 : Queue × (List Hold)) (v1 : Wait × Bool) (j2 : Queue) : Option ((Queue × (List Hold)) ⊕ ((Queue × (List Hold)))) :=
 (f_holders_Set j2.holds v1.1.proc v1.1.amount).bind fun v2 =>
 gd (g1.2.length + 1 ≤ 4294967296) <|
 some (.inl ({ j2 with holds := v2 }, (g1.2 ++ [(⟨v1.1.proc, v1.1.amount⟩ : Hold)])))
@[go_sem] def J17_k2 (g1 : Queue × (List Hold)) (v1 : Wait × Bool) (j2 : Queue) : St := ⟨[(0, .ptr 0 0 0), (3, .own 1 0 g1.2.length), (4, .ptr 2 0 0)], [(0, ⟨false, 8, (Queue.enc Queue.zero), [Queue.enc j2]⟩), (1, ⟨false, 5, (Hold.enc Hold.zero), g1.2.map Hold.enc⟩), (2, ⟨false, 7, (Wait.enc Wait.zero), [Wait.enc v1.1]⟩)], 3⟩
noncomputable def f_queue_advance_m_l1  (g1 : Queue × (List Hold)) : Option ((Queue × (List Hold)) ⊕ ((Queue × (List Hold)))) :=
 (f_queue_head g1.1).bind fun v1 =>
 ((if v1.2 = true then f_holders_Room g1.1.resource g1.1.holds v1.1.proc v1.1.amount else some (false))).bind fun v3 =>
 (if ((!v1.2) || (!v3)) = true then
  some (.inr (g1.1, g1.2))
 else
  (if (decide (0 < (g1.1.converts.length : Int))) = true then
   gd (0 ≤ 1 ∧ 1 ≤ (g1.1.converts.length : Int) ∧ (g1.1.converts.length : Int) ≤ (g1.1.converts.length : Int)) <|
   f_queue_advance_m_k2 g1 v1 ({ g1.1 with converts := (g1.1.converts.drop 1) })
  else
   gd (0 ≤ 1 ∧ 1 ≤ (g1.1.waits.length : Int) ∧ (g1.1.waits.length : Int) ≤ (g1.1.waits.length : Int)) <|
   f_queue_advance_m_k2 g1 v1 ({ g1.1 with waits := (g1.1.waits.drop 1) })))
@[go_sem] def I17_l1  (g1 : Queue × (List Hold)) : St := ⟨[(0, .ptr 0 0 0), (3, .own 1 0 g1.2.length)], [(0, ⟨false, 8, (Queue.enc Queue.zero), [Queue.enc g1.1]⟩), (1, ⟨false, 5, (Hold.enc Hold.zero), g1.2.map Hold.enc⟩)], 2⟩
noncomputable def f_queue_advance_m (a0 : Queue) : Option ((List Hold) × Queue) :=
 (loopO (f_queue_advance_m_l1) (a0, [])).bind (fun z => f_queue_advance_m_k1 z)
theorem queue_advance_m_okm (a0 : Queue) (r : (List Hold) × Queue) (h : f_queue_advance_m a0 = some r) : MFn C 103 [.ptr 0 0 0] [(0, ⟨false, 8, (Queue.enc Queue.zero), [Queue.enc a0]⟩)] 1 (.sl (r.1.map Hold.enc)) [(0, ⟨false, 8, (Queue.enc Queue.zero), [Queue.enc r.2]⟩)] 1 := by
 refine mfn_intro (rl := [.sl (r.1.map Hold.enc)]) ck_17 rfl rfl rfl rfl fun E hG hN hK => ?_
 unfold pc_17
 unfold f_queue_advance_m at h
 refine s_seq (g_reg hG ?_)
 refine aw_scope ?_
 refine s_seq (g_reg hG ?_)
 refine s_seq ?_
 refine g_label ?_
 refine s_seq ?_
 refine s_blockJ (J17_k1) (fun v => f_queue_advance_m_k1 v = some r) ?_ ?_
 · intro j1 h
   unfold f_queue_advance_m_k1 at h
   refine g_st ?_
   refine s_seq (g_reg hG ?_)
   refine g_gh (.fz [1]) ?_
   refine g_ret ?_
   exact g_retm [(0, 0)] h
 refine g_loop (I17_l1) hK [(0, 0), (1, 1)] h (fun x_l1 h g1 y_l1 h_l1 hx_l1 => ?_)
 unfold f_queue_advance_m_l1 at h_l1
 refine g_st ?_
 refine s_block (s_seq (g_reg hG ?_))
 obtain ⟨v1, hv1, h_l1⟩ := bind_of h_l1
 refine g_call (fun hg => queue_head_ok g1.1 _ (hv1)) ?_
 refine s_seq ?_
 refine s_blockJ (J17_k2 g1 v1) (fun v => f_queue_advance_m_k2 g1 v1 v = some y_l1) ?_ ?_
 · intro j2 h_l1
   unfold f_queue_advance_m_k2 at h_l1
   refine g_st ?_
   refine s_seq (g_regm C_mixed hG ?_)
   obtain ⟨v2, hv2, h_l1⟩ := bind_of h_l1
   refine g_callM (fun hg => holders_Set_ok j2.holds v1.1.proc v1.1.amount _ (hv2)) ?_
   obtain ⟨hb1, h_l1⟩ := gd_some h_l1
   refine g_reg hG ?_
   exact g_next hK [(0, 0), (1, 3)] h_l1
 refine s_seq (g_regd C_mixed hG ?_)
 obtain ⟨v3, hv3, h_l1⟩ := bind_of h_l1
 refine g_calld (fun hg => holders_Room_ok g1.1.resource g1.1.holds v1.1.proc v1.1.amount _ (ite_t hg hv3)) ?_
 refine g_cond rfl hG h_l1 (fun _ h_l1 => ?_) (fun _ h_l1 => ?_)
 · refine g_exit ?_
   obtain rfl := Option.some.inj h_l1
   have hx := hx_l1 _ rfl
   subst hx
   try dsimp only at h
   exact g_join hK [(0, 0), (1, 1)] (g1.1, g1.2) (by exact h)
 refine s_seq (g_reg hG ?_)
 refine g_cond rfl hG h_l1 (fun _ h_l1 => ?_) (fun _ h_l1 => ?_)
 · obtain ⟨hb2, h_l1⟩ := gd_some h_l1
   refine g_reg hG ?_
   exact g_join hK [(0, 0), (1, 1), (2, 2)] ({ g1.1 with converts := (g1.1.converts.drop 1) }) (by exact h_l1)
 obtain ⟨hb3, h_l1⟩ := gd_some h_l1
 refine g_reg hG ?_
 exact g_join hK [(0, 0), (1, 1), (2, 2)] ({ g1.1 with waits := (g1.1.waits.drop 1) }) (by exact h_l1)
attribute [local irreducible] f_queue_advance_m

def f_ident_Next (a0 : Int) : Int :=
 (if ((decide (a0 < 0)) || (decide (1073741824 ≤ a0))) = true then
  1
 else
  (IntKind.i64.wrap (a0 + 1)))
theorem ident_Next_ok (a0 : Int) : PFn C 130 [.int .i64 a0] (.int .i64 (f_ident_Next a0)) := by
 generalize h : f_ident_Next a0 = r
 refine pfn_intro ck_18 rfl fun E hG hN hK => ?_
 unfold pc_18
 unfold f_ident_Next at h
 refine s_seq (g_reg hG ?_)
 refine s_seq (s_seq (g_reg hG ?_))
 refine g_cond rfl hG h (fun _ h => ?_) (fun _ h => ?_)
 · refine s_seq (g_reg hG ?_)
   refine g_ret ?_
   exact g_endT h
 refine g_skip ?_
 refine s_seq (g_reg hG ?_)
 refine g_ret ?_
 exact g_endT h

noncomputable def f_queue_finish_m_k1  (j1 : ByteArray × Int × Int × Int × Int × (List Hold) × (List Wait) × Amount × Amount × Proc × (List Wait)) : Option (Queue × (List Hold) × Int × Queue × (List Hold) × (List Wait) × Amount × Amount × Proc) :=
 (f_queue_advance_m (⟨(⟨j1.1, j1.2.1, j1.2.2.1, j1.2.2.2.1⟩ : Resource), j1.2.2.2.2.2.1, j1.2.2.2.2.2.2.2.2.2.2, j1.2.2.2.2.2.2.1, j1.2.2.2.2.1⟩ : Queue)).bind fun v1 =>
 some ({ v1.2 with gen := (f_ident_Next v1.2.gen) }, v1.1, 0, { v1.2 with gen := (f_ident_Next v1.2.gen) }, j1.2.2.2.2.2.1, j1.2.2.2.2.2.2.1, j1.2.2.2.2.2.2.2.1, j1.2.2.2.2.2.2.2.2.1, j1.2.2.2.2.2.2.2.2.2.1)
@[go_sem] def J19_k1  (j1 : ByteArray × Int × Int × Int × Int × (List Hold) × (List Wait) × Amount × Amount × Proc × (List Wait)) : St := ⟨[(0, .ptr 0 0 0), (4, .ptr 8 0 0)], [(0, ⟨false, 8, (Queue.enc Queue.zero), [[.str j1.1, .int .i64 j1.2.1, .int .i64 j1.2.2.1, .int .i64 j1.2.2.2.1, .own 2 0 j1.2.2.2.2.2.1.length, .own 9 0 j1.2.2.2.2.2.2.2.2.2.2.length, .own 4 0 j1.2.2.2.2.2.2.1.length, .int .i64 j1.2.2.2.2.1]]⟩), (1, ⟨false, 1, [A.any], [[.clo 81 [.ptr 0 0 0, .ptr 5 0 0, .ptr 6 0 0, .ptr 7 0 0]]]⟩), (2, ⟨false, 5, (Hold.enc Hold.zero), j1.2.2.2.2.2.1.map Hold.enc⟩), (4, ⟨false, 7, (Wait.enc Wait.zero), j1.2.2.2.2.2.2.1.map Wait.enc⟩), (5, ⟨false, 2, (Amount.enc Amount.zero), [Amount.enc j1.2.2.2.2.2.2.2.1]⟩), (6, ⟨false, 2, (Amount.enc Amount.zero), [Amount.enc j1.2.2.2.2.2.2.2.2.1]⟩), (7, ⟨false, 3, (Proc.enc Proc.zero), [Proc.enc j1.2.2.2.2.2.2.2.2.2.1]⟩), (8, ⟨false, 8, (Queue.enc Queue.zero), [Queue.enc Queue.zero]⟩), (9, ⟨false, 7, (Wait.enc Wait.zero), j1.2.2.2.2.2.2.2.2.2.2.map Wait.enc⟩)], 10⟩
noncomputable def f_queue_finish_m (a0 : Queue) (a1 : Amount) (a2 : Amount) (a3 : Proc) : Option (Queue × (List Hold) × Int × Queue × (List Hold) × (List Wait) × Amount × Amount × Proc) :=
 gd (0 ≤ 0 ∧ 0 < (1 : Int)) <|
 (f_queue_Claim_1_m a0 a1 a2 a3).bind fun v2 =>
 f_queue_finish_m_k1 (v2.1, v2.2.1, v2.2.2.1, v2.2.2.2.1, v2.2.2.2.2.1, v2.2.2.2.2.2.2.2.2.1, v2.2.2.2.2.2.2.2.2.2.1, v2.2.2.2.2.2.1, v2.2.2.2.2.2.2.1, v2.2.2.2.2.2.2.2.1, v2.2.2.2.2.2.2.2.2.2.2)
theorem queue_finish_m_okm (a0 : Queue) (a1 : Amount) (a2 : Amount) (a3 : Proc) (r : Queue × (List Hold) × Int × Queue × (List Hold) × (List Wait) × Amount × Amount × Proc) (h : f_queue_finish_m a0 a1 a2 a3 = some r) : MFn C 80 [.ptr 0 0 0, .own 1 0 1] [(0, ⟨false, 8, (Queue.enc Queue.zero), [[.str a0.resource.name, .int .i64 a0.resource.kind, .int .i64 a0.resource.units, .int .i64 a0.resource.home, .own 2 0 a0.holds.length, .own 3 0 a0.converts.length, .own 4 0 a0.waits.length, .int .i64 a0.gen]]⟩), (1, ⟨false, 1, [A.any], [[.clo 81 [.ptr 0 0 0, .ptr 5 0 0, .ptr 6 0 0, .ptr 7 0 0]]]⟩), (2, ⟨false, 5, (Hold.enc Hold.zero), a0.holds.map Hold.enc⟩), (3, ⟨false, 7, (Wait.enc Wait.zero), a0.converts.map Wait.enc⟩), (4, ⟨false, 7, (Wait.enc Wait.zero), a0.waits.map Wait.enc⟩), (5, ⟨false, 2, (Amount.enc Amount.zero), [Amount.enc a1]⟩), (6, ⟨false, 2, (Amount.enc Amount.zero), [Amount.enc a2]⟩), (7, ⟨false, 3, (Proc.enc Proc.zero), [Proc.enc a3]⟩)] 8 (.tup [.agg (Queue.enc r.1), .sl (r.2.1.map Hold.enc), .int .i64 r.2.2.1]) [(0, ⟨false, 8, (Queue.enc Queue.zero), [Queue.enc r.2.2.2.1]⟩), (1, ⟨false, 1, [A.any], [[.clo 81 [.ptr 0 0 0, .ptr 5 0 0, .ptr 6 0 0, .ptr 7 0 0]]]⟩), (2, ⟨true, 5, (Hold.enc Hold.zero), r.2.2.2.2.1.map Hold.enc⟩), (4, ⟨true, 7, (Wait.enc Wait.zero), r.2.2.2.2.2.1.map Wait.enc⟩), (5, ⟨false, 2, (Amount.enc Amount.zero), [Amount.enc r.2.2.2.2.2.2.1]⟩), (6, ⟨false, 2, (Amount.enc Amount.zero), [Amount.enc r.2.2.2.2.2.2.2.1]⟩), (7, ⟨false, 3, (Proc.enc Proc.zero), [Proc.enc r.2.2.2.2.2.2.2.2]⟩)] 8 := by
 refine mfn_intro (rl := [.agg (Queue.enc r.1), .sl (r.2.1.map Hold.enc), .int .i64 r.2.2.1]) ck_19 rfl rfl rfl rfl fun E hG hN hK => ?_
 unfold pc_19
 unfold f_queue_finish_m at h
 refine s_seq (g_reg hG ?_)
 refine s_seq (s_seq (g_reg hG ?_))
 refine s_blockJ (J19_k1) (fun v => f_queue_finish_m_k1 v = some r) ?_ ?_
 · intro j1 h
   unfold f_queue_finish_m_k1 at h
   refine g_st ?_
   refine s_seq ?_
   refine g_gh (.fz [2, 4, 9]) ?_
   refine g_reg hG ?_
   obtain ⟨v1, hv1, h⟩ := bind_of h
   refine g_callm [(0, 0)] [] [0] (queue_advance_m_okm (⟨(⟨j1.1, j1.2.1, j1.2.2.1, j1.2.2.2.1⟩ : Resource), j1.2.2.2.2.2.1, j1.2.2.2.2.2.2.2.2.2.2, j1.2.2.2.2.2.2.1, j1.2.2.2.2.1⟩ : Queue) _ hv1) rfl rfl ?_
   refine s_seq (g_reg hG ?_)
   refine g_call (fun hg => ident_Next_ok v1.2.gen) ?_
   refine s_seq (g_reg hG ?_)
   refine g_ret ?_
   exact g_retm [(0, 0), (1, 1), (2, 2), (3, 3), (4, 4), (5, 5), (6, 6), (7, 7)] h
 refine aw_unroll 3 ?_
 refine ul_succ ?_
 refine s_seq (g_reg hG ?_)
 refine s_seq ?_
 refine g_cond1 rfl hG ?_
 refine g_skip ?_
 refine s_seq (s_block (s_seq ?_))
 obtain ⟨hb1, h⟩ := gd_some h
 refine g_reg hG ?_
 refine g_reg hG ?_
 obtain ⟨v2, hv2, h⟩ := bind_of h
 refine g_callm [(0, 0), (1, 5), (2, 6), (3, 7), (4, 2), (5, 3), (6, 4)] [(7, 9)] [0, 1, 2, 3, 4, 5, 6, 7] (queue_Claim_1_m_okm a0 a1 a2 a3 _ hv2) rfl rfl ?_
 refine g_reg hG ?_
 refine ul_succ ?_
 refine s_seq (g_reg hG ?_)
 refine s_seq ?_
 refine g_cond0 rfl hG ?_
 refine g_exit ?_
 exact g_join hK [(0, 0), (1, 1), (2, 2), (3, 3), (4, 4), (5, 5), (6, 6), (7, 7), (8, 8), (9, 9)] (v2.1, v2.2.1, v2.2.2.1, v2.2.2.2.1, v2.2.2.2.2.1, v2.2.2.2.2.2.2.2.2.1, v2.2.2.2.2.2.2.2.2.2.1, v2.2.2.2.2.2.1, v2.2.2.2.2.2.2.1, v2.2.2.2.2.2.2.2.1, v2.2.2.2.2.2.2.2.2.2.2) (by exact h)
attribute [local irreducible] f_queue_finish_m

def f_line_meet (a0 : Wait) (a1 : Wait) : Int :=
 (if ((decide (a1.priority < a0.priority)) && (decide (a1.passed < 3))) = true then
  1
 else
  0)
theorem line_meet_ok (a0 : Wait) (a1 : Wait) : PFn C 133 [.agg (Wait.enc a0), .agg (Wait.enc a1)] (.int .i64 (f_line_meet a0 a1)) := by
 generalize h : f_line_meet a0 a1 = r
 refine pfn_intro ck_1a rfl fun E hG hN hK => ?_
 unfold pc_1a
 unfold f_line_meet at h
 refine s_seq (g_reg hG ?_)
 refine s_seq (s_seq (g_reg hG ?_))
 refine g_cond rfl hG h (fun _ h => ?_) (fun _ h => ?_)
 · refine s_seq (g_reg hG ?_)
   refine g_ret ?_
   exact g_endT h
 refine g_skip ?_
 refine s_seq (g_reg hG ?_)
 refine g_ret ?_
 exact g_endT h

noncomputable def f_line_Insert_k1 (a1 : Wait) (j1 : Int × (List Wait)) : Option ((List Wait) × Int × Int) :=
 gd (0 ≤ j1.1 ∧ j1.1 < ((j1.2.length : Nat) : Int)) <|
 some ((j1.2.set j1.1.toNat a1), j1.1, 0)
@[go_sem] def J1b_k1 (a1 : Wait) (j1 : Int × (List Wait)) : St := ⟨[(3, .ptr 0 0 0), (7, .own 1 0 j1.2.length), (8, .int .i64 j1.1)], [(0, ⟨false, 7, (Wait.enc Wait.zero), [Wait.enc a1]⟩), (1, ⟨false, 7, (Wait.enc Wait.zero), j1.2.map Wait.enc⟩)], 2⟩
noncomputable def f_line_Insert_l1 (a1 : Wait) (g1 : Int × (List Wait)) : Option ((Int × (List Wait)) ⊕ ((Int × (List Wait)))) :=
 gd ((decide (0 < g1.1)) = true → 0 ≤ (IntKind.i64.wrap (g1.1 - 1)) ∧ (IntKind.i64.wrap (g1.1 - 1)) < ((g1.2.length : Nat) : Int)) <|
 (if ((decide (0 < g1.1)) && (decide ((f_line_meet a1 (g1.2.getD ((IntKind.i64.wrap (g1.1 - 1)).toNat) Wait.zero)) = 1))) = true then
  gd (0 ≤ (IntKind.i64.wrap (g1.1 - 1)) ∧ (IntKind.i64.wrap (g1.1 - 1)) < ((g1.2.length : Nat) : Int)) <|
  gd (0 ≤ g1.1 ∧ g1.1 < ((g1.2.length : Nat) : Int)) <|
  gd (0 ≤ g1.1 ∧ g1.1 < ((g1.2.length : Nat) : Int)) <|
  gd (0 ≤ g1.1 ∧ g1.1 < ((g1.2.length : Nat) : Int)) <|
  some (.inl ((IntKind.i64.wrap (g1.1 - 1)), ((g1.2.set g1.1.toNat (g1.2.getD ((IntKind.i64.wrap (g1.1 - 1)).toNat) Wait.zero)).set g1.1.toNat ({ ((g1.2.set g1.1.toNat (g1.2.getD ((IntKind.i64.wrap (g1.1 - 1)).toNat) Wait.zero)).getD g1.1.toNat Wait.zero) with passed := (IntKind.i64.wrap (((g1.2.set g1.1.toNat (g1.2.getD ((IntKind.i64.wrap (g1.1 - 1)).toNat) Wait.zero)).getD g1.1.toNat Wait.zero).passed + 1)) }))))
 else
  some (.inr (g1.1, g1.2)))
@[go_sem] def I1b_l1 (a1 : Wait) (g1 : Int × (List Wait)) : St := ⟨[(3, .ptr 0 0 0), (7, .own 1 0 g1.2.length), (8, .int .i64 g1.1)], [(0, ⟨false, 7, (Wait.enc Wait.zero), [Wait.enc a1]⟩), (1, ⟨false, 7, (Wait.enc Wait.zero), g1.2.map Wait.enc⟩)], 2⟩
noncomputable def f_line_Insert (a0 : List Wait) (a1 : Wait) : Option ((List Wait) × Int × Int) :=
 (f_line_Valid a0).bind fun v1 =>
 (if (!v1) = true then
  some ([], 0, 2)
 else
  (if ((!(f_line_ValidWait a1)) || (!decide (a1.passed = 0))) = true then
   some ([], 0, 1)
  else
   (f_line_Find a0 a1.proc).bind fun v2 =>
   (if (decide (0 ≤ v2)) = true then
    some ([], 0, 11)
   else
    (if (decide ((a0.length : Int) = 8)) = true then
     some ([], 0, 4)
    else
     gd (0 ≤ (IntKind.i64.wrap ((a0.length : Int) + 1)) ∧ (IntKind.i64.wrap ((a0.length : Int) + 1)) ≤ (IntKind.i64.wrap ((a0.length : Int) + 1)) ∧ (IntKind.i64.wrap ((a0.length : Int) + 1)) ≤ 4294967296) <|
     (loopO (f_line_Insert_l1 a1) ((a0.length : Int), ((List.replicate ((IntKind.i64.wrap ((a0.length : Int) + 1)).toNat) Wait.zero).take 0 ++ a0.take ((IntKind.i64.wrap ((a0.length : Int) + 1)).toNat) ++ (List.replicate ((IntKind.i64.wrap ((a0.length : Int) + 1)).toNat) Wait.zero).drop (0 + min a0.length ((IntKind.i64.wrap ((a0.length : Int) + 1)).toNat))))).bind (fun z => f_line_Insert_k1 a1 z)))))
theorem line_Insert_ok (a0 : List Wait) (a1 : Wait) (r : (List Wait) × Int × Int) (h : f_line_Insert a0 a1 = some r) : PFn C 83 [.sl (a0.map Wait.enc), .agg (Wait.enc a1)] (.tup [.sl (r.1.map Wait.enc), .int .i64 r.2.1, .int .i64 r.2.2]) := by
 refine pfn_intro ck_1b rfl fun E hG hN hK => ?_
 unfold pc_1b
 unfold f_line_Insert at h
 refine s_seq (g_reg hG ?_)
 refine s_seq (s_block (s_seq (g_reg hG ?_)))
 obtain ⟨v1, hv1, h⟩ := bind_of h
 refine g_call (fun hg => line_Valid_ok a0 _ (hv1)) ?_
 refine g_cond rfl hG h (fun _ h => ?_) (fun _ h => ?_)
 · refine s_seq (g_reg hG ?_)
   refine g_ret ?_
   exact g_end h
 refine s_seq (g_reg hG ?_)
 refine g_call (fun hg => line_ValidWait_ok a1) ?_
 refine g_cond rfl hG h (fun _ h => ?_) (fun _ h => ?_)
 · refine s_seq (g_reg hG ?_)
   refine g_ret ?_
   exact g_end h
 refine s_seq (g_reg hG ?_)
 obtain ⟨v2, hv2, h⟩ := bind_of h
 refine g_call (fun hg => line_Find_ok a0 a1.proc _ (hv2)) ?_
 refine g_cond rfl hG h (fun _ h => ?_) (fun _ h => ?_)
 · refine s_seq (g_reg hG ?_)
   refine g_ret ?_
   exact g_end h
 refine s_seq (g_reg hG ?_)
 refine g_cond rfl hG h (fun _ h => ?_) (fun _ h => ?_)
 · refine s_seq (g_reg hG ?_)
   refine g_ret ?_
   exact g_end h
 refine g_skip ?_
 refine s_seq ?_
 obtain ⟨hb7, h⟩ := gd_some h
 refine g_reg hG ?_
 refine s_seq (g_reg hG ?_)
 refine s_seq (g_reg hG ?_)
 refine s_seq ?_
 refine s_blockJ (J1b_k1 a1) (fun v => f_line_Insert_k1 a1 v = some r) ?_ ?_
 · intro j1 h
   unfold f_line_Insert_k1 at h
   refine g_st ?_
   refine s_seq ?_
   obtain ⟨hb1, h⟩ := gd_some h
   refine g_reg hG ?_
   refine s_seq (g_reg hG ?_)
   refine g_ret ?_
   exact g_end h
 refine g_loop (I1b_l1 a1) hK [(0, 0), (1, 1)] h (fun x_l1 h g1 y_l1 h_l1 hx_l1 => ?_)
 unfold f_line_Insert_l1 at h_l1
 refine g_st ?_
 refine s_seq (s_seq ?_)
 obtain ⟨hb6, h_l1⟩ := gd_some h_l1
 refine g_regd C_mixed hG ?_
 refine g_calld (fun hg => line_meet_ok a1 (g1.2.getD ((IntKind.i64.wrap (g1.1 - 1)).toNat) Wait.zero)) ?_
 refine g_cond rfl hG h_l1 (fun _ h_l1 => ?_) (fun _ h_l1 => ?_)
 · refine g_skip ?_
   refine s_block (s_seq ?_)
   obtain ⟨hb4, h_l1⟩ := gd_some h_l1
   obtain ⟨hb5, h_l1⟩ := gd_some h_l1
   refine g_reg hG ?_
   refine s_seq ?_
   obtain ⟨hb2, h_l1⟩ := gd_some h_l1
   obtain ⟨hb3, h_l1⟩ := gd_some h_l1
   refine g_reg hG ?_
   refine g_reg hG ?_
   exact g_next hK [(0, 0), (1, 1)] h_l1
 refine g_exit ?_
 obtain rfl := Option.some.inj h_l1
 have hx := hx_l1 _ rfl
 subst hx
 try dsimp only at h
 exact g_join hK [(0, 0), (1, 1)] (g1.1, g1.2) (by exact h)
attribute [local irreducible] f_line_Insert

noncomputable def f_queue_Claim_2_m (a0 : List Wait) (a1 : Queue) : Option ((List Wait) × ByteArray × Int × Int × Int × (List Wait) × Int × (List Hold) × (List Wait) × (List Wait)) :=
 some (a0, a1.resource.name, a1.resource.kind, a1.resource.units, a1.resource.home, a0, a1.gen, a1.holds, a1.converts, a1.waits)
theorem queue_Claim_2_m_okm (a0 : List Wait) (a1 : Queue) (r : (List Wait) × ByteArray × Int × Int × Int × (List Wait) × Int × (List Hold) × (List Wait) × (List Wait)) (h : f_queue_Claim_2_m a0 a1 = some r) : MFn C 84 [.ptr 0 0 0, .ptr 1 0 0] [(0, ⟨false, 1, [A.sl ([].map Wait.enc)], [[A.sl (a0.map Wait.enc)]]⟩), (1, ⟨false, 8, (Queue.enc Queue.zero), [[.str a1.resource.name, .int .i64 a1.resource.kind, .int .i64 a1.resource.units, .int .i64 a1.resource.home, .own 2 0 a1.holds.length, .own 3 0 a1.converts.length, .own 4 0 a1.waits.length, .int .i64 a1.gen]]⟩), (2, ⟨false, 5, (Hold.enc Hold.zero), a1.holds.map Hold.enc⟩), (3, ⟨false, 7, (Wait.enc Wait.zero), a1.converts.map Wait.enc⟩), (4, ⟨false, 7, (Wait.enc Wait.zero), a1.waits.map Wait.enc⟩)] 5 (.tup []) [(0, ⟨false, 1, [A.sl ([].map Wait.enc)], [[A.sl (r.1.map Wait.enc)]]⟩), (1, ⟨false, 8, (Queue.enc Queue.zero), [[.str r.2.1, .int .i64 r.2.2.1, .int .i64 r.2.2.2.1, .int .i64 r.2.2.2.2.1, .own 2 0 r.2.2.2.2.2.2.2.1.length, .own 3 0 r.2.2.2.2.2.2.2.2.1.length, .sl (r.2.2.2.2.2.1.map Wait.enc), .int .i64 r.2.2.2.2.2.2.1]]⟩), (2, ⟨false, 5, (Hold.enc Hold.zero), r.2.2.2.2.2.2.2.1.map Hold.enc⟩), (3, ⟨false, 7, (Wait.enc Wait.zero), r.2.2.2.2.2.2.2.2.1.map Wait.enc⟩), (4, ⟨false, 7, (Wait.enc Wait.zero), r.2.2.2.2.2.2.2.2.2.map Wait.enc⟩)] 5 := by
 refine mfn_intro (rl := []) ck_1c rfl rfl rfl rfl fun E hG hN hK => ?_
 unfold pc_1c
 unfold f_queue_Claim_2_m at h
 refine g_reg hG ?_
 exact g_retm [(0, 0), (1, 1), (2, 2), (3, 3), (4, 4)] h
attribute [local irreducible] f_queue_Claim_2_m

noncomputable def f_queue_finish_m1_k1  (j1 : ByteArray × Int × Int × Int × (List Wait) × Int × (List Hold) × (List Wait) × (List Wait) × (List Wait)) : Option (Queue × (List Hold) × Int × Queue × (List Hold) × (List Wait) × (List Wait) × (List Wait)) :=
 (f_queue_advance_m (⟨(⟨j1.1, j1.2.1, j1.2.2.1, j1.2.2.2.1⟩ : Resource), j1.2.2.2.2.2.2.1, j1.2.2.2.2.2.2.2.1, j1.2.2.2.2.1, j1.2.2.2.2.2.1⟩ : Queue)).bind fun v1 =>
 some ({ v1.2 with gen := (f_ident_Next v1.2.gen) }, v1.1, 0, { v1.2 with gen := (f_ident_Next v1.2.gen) }, j1.2.2.2.2.2.2.1, j1.2.2.2.2.2.2.2.1, j1.2.2.2.2.2.2.2.2.1, j1.2.2.2.2.2.2.2.2.2)
@[go_sem] def J1d_k1  (j1 : ByteArray × Int × Int × Int × (List Wait) × Int × (List Hold) × (List Wait) × (List Wait) × (List Wait)) : St := ⟨[(0, .ptr 0 0 0), (4, .ptr 6 0 0)], [(0, ⟨false, 8, (Queue.enc Queue.zero), [[.str j1.1, .int .i64 j1.2.1, .int .i64 j1.2.2.1, .int .i64 j1.2.2.2.1, .own 2 0 j1.2.2.2.2.2.2.1.length, .own 3 0 j1.2.2.2.2.2.2.2.1.length, .sl (j1.2.2.2.2.1.map Wait.enc), .int .i64 j1.2.2.2.2.2.1]]⟩), (1, ⟨false, 1, [A.any], [[.clo 84 [.ptr 5 0 0, .ptr 0 0 0]]]⟩), (2, ⟨false, 5, (Hold.enc Hold.zero), j1.2.2.2.2.2.2.1.map Hold.enc⟩), (3, ⟨false, 7, (Wait.enc Wait.zero), j1.2.2.2.2.2.2.2.1.map Wait.enc⟩), (4, ⟨false, 7, (Wait.enc Wait.zero), j1.2.2.2.2.2.2.2.2.1.map Wait.enc⟩), (5, ⟨false, 1, [A.sl ([].map Wait.enc)], [[A.sl (j1.2.2.2.2.2.2.2.2.2.map Wait.enc)]]⟩), (6, ⟨false, 8, (Queue.enc Queue.zero), [Queue.enc Queue.zero]⟩)], 7⟩
noncomputable def f_queue_finish_m1 (a0 : Queue) (a1 : List Wait) : Option (Queue × (List Hold) × Int × Queue × (List Hold) × (List Wait) × (List Wait) × (List Wait)) :=
 gd (0 ≤ 0 ∧ 0 < (1 : Int)) <|
 (f_queue_Claim_2_m a1 a0).bind fun v2 =>
 f_queue_finish_m1_k1 (v2.2.1, v2.2.2.1, v2.2.2.2.1, v2.2.2.2.2.1, v2.2.2.2.2.2.1, v2.2.2.2.2.2.2.1, v2.2.2.2.2.2.2.2.1, v2.2.2.2.2.2.2.2.2.1, v2.2.2.2.2.2.2.2.2.2, v2.1)
theorem queue_finish_m1_okm (a0 : Queue) (a1 : List Wait) (r : Queue × (List Hold) × Int × Queue × (List Hold) × (List Wait) × (List Wait) × (List Wait)) (h : f_queue_finish_m1 a0 a1 = some r) : MFn C 80 [.ptr 0 0 0, .own 1 0 1] [(0, ⟨false, 8, (Queue.enc Queue.zero), [[.str a0.resource.name, .int .i64 a0.resource.kind, .int .i64 a0.resource.units, .int .i64 a0.resource.home, .own 2 0 a0.holds.length, .own 3 0 a0.converts.length, .own 4 0 a0.waits.length, .int .i64 a0.gen]]⟩), (1, ⟨false, 1, [A.any], [[.clo 84 [.ptr 5 0 0, .ptr 0 0 0]]]⟩), (2, ⟨false, 5, (Hold.enc Hold.zero), a0.holds.map Hold.enc⟩), (3, ⟨false, 7, (Wait.enc Wait.zero), a0.converts.map Wait.enc⟩), (4, ⟨false, 7, (Wait.enc Wait.zero), a0.waits.map Wait.enc⟩), (5, ⟨false, 1, [A.sl ([].map Wait.enc)], [[A.sl (a1.map Wait.enc)]]⟩)] 6 (.tup [.agg (Queue.enc r.1), .sl (r.2.1.map Hold.enc), .int .i64 r.2.2.1]) [(0, ⟨false, 8, (Queue.enc Queue.zero), [Queue.enc r.2.2.2.1]⟩), (1, ⟨false, 1, [A.any], [[.clo 84 [.ptr 5 0 0, .ptr 0 0 0]]]⟩), (2, ⟨true, 5, (Hold.enc Hold.zero), r.2.2.2.2.1.map Hold.enc⟩), (3, ⟨true, 7, (Wait.enc Wait.zero), r.2.2.2.2.2.1.map Wait.enc⟩), (4, ⟨false, 7, (Wait.enc Wait.zero), r.2.2.2.2.2.2.1.map Wait.enc⟩), (5, ⟨false, 1, [A.sl ([].map Wait.enc)], [[A.sl (r.2.2.2.2.2.2.2.map Wait.enc)]]⟩)] 6 := by
 refine mfn_intro (rl := [.agg (Queue.enc r.1), .sl (r.2.1.map Hold.enc), .int .i64 r.2.2.1]) ck_1d rfl rfl rfl rfl fun E hG hN hK => ?_
 unfold pc_1d
 unfold f_queue_finish_m1 at h
 refine s_seq (g_reg hG ?_)
 refine s_seq (s_seq (g_reg hG ?_))
 refine s_blockJ (J1d_k1) (fun v => f_queue_finish_m1_k1 v = some r) ?_ ?_
 · intro j1 h
   unfold f_queue_finish_m1_k1 at h
   refine g_st ?_
   refine s_seq ?_
   refine g_gh (.fz [2, 3]) ?_
   refine g_reg hG ?_
   obtain ⟨v1, hv1, h⟩ := bind_of h
   refine g_callm [(0, 0)] [] [0] (queue_advance_m_okm (⟨(⟨j1.1, j1.2.1, j1.2.2.1, j1.2.2.2.1⟩ : Resource), j1.2.2.2.2.2.2.1, j1.2.2.2.2.2.2.2.1, j1.2.2.2.2.1, j1.2.2.2.2.2.1⟩ : Queue) _ hv1) rfl rfl ?_
   refine s_seq (g_reg hG ?_)
   refine g_call (fun hg => ident_Next_ok v1.2.gen) ?_
   refine s_seq (g_reg hG ?_)
   refine g_ret ?_
   exact g_retm [(0, 0), (1, 1), (2, 2), (3, 3), (4, 4), (5, 5)] h
 refine aw_unroll 3 ?_
 refine ul_succ ?_
 refine s_seq (g_reg hG ?_)
 refine s_seq ?_
 refine g_cond1 rfl hG ?_
 refine g_skip ?_
 refine s_seq (s_block (s_seq ?_))
 obtain ⟨hb1, h⟩ := gd_some h
 refine g_reg hG ?_
 refine g_reg hG ?_
 obtain ⟨v2, hv2, h⟩ := bind_of h
 refine g_callm [(0, 5), (1, 0), (2, 2), (3, 3), (4, 4)] [] [0, 1, 2, 3, 4] (queue_Claim_2_m_okm a1 a0 _ hv2) rfl rfl ?_
 refine g_reg hG ?_
 refine ul_succ ?_
 refine s_seq (g_reg hG ?_)
 refine s_seq ?_
 refine g_cond0 rfl hG ?_
 refine g_exit ?_
 exact g_join hK [(0, 0), (1, 1), (2, 2), (3, 3), (4, 4), (5, 5), (6, 6)] (v2.2.1, v2.2.2.1, v2.2.2.2.1, v2.2.2.2.2.1, v2.2.2.2.2.2.1, v2.2.2.2.2.2.2.1, v2.2.2.2.2.2.2.2.1, v2.2.2.2.2.2.2.2.2.1, v2.2.2.2.2.2.2.2.2.2, v2.1) (by exact h)
attribute [local irreducible] f_queue_finish_m1

noncomputable def f_queue_Claim (a0 : Queue) (a1 : Proc) (a2 : Amount) (a3 : Int) : Option (Queue × (List Hold) × Int) :=
 (f_queue_Valid a0).bind fun v1 =>
 (if (!v1) = true then
  some ({ Queue.zero with  }, [], 2)
 else
  (if (((!(f_ident_ValidProc a1)) || (decide (a3 < 0))) || (decide (7 < a3))) = true then
   some ({ Queue.zero with  }, [], 1)
  else
   (if (!(f_amount_Fits a0.resource a2)) = true then
    some ({ Queue.zero with  }, [], 12)
   else
    (f_queue_Wanted a0 a1).bind fun v2 =>
    (if v2.2 = true then
     some ({ Queue.zero with  }, [], 14)
    else
     (f_queue_clone_m a0).bind fun v3 =>
     (f_queue_Held a0 a1).bind fun v4 =>
     (f_amount_Covers a0.resource v4 a2).bind fun v5 =>
     (if v5 = true then
      some (v3, [], 0)
     else
      (if (!(f_amount_Zero v4)) = true then
       (f_queue_finish_m v3 v4 a2 a1).bind fun v6 =>
       some (v6.1, v6.2.1, v6.2.2.1)
      else
       (if (decide (8 ≤ (IntKind.i64.wrap ((a0.holds.length : Int) + (a0.waits.length : Int))))) = true then
        some ({ Queue.zero with  }, [], 4)
       else
        (f_line_Insert a0.waits ({ Wait.zero with proc := a1, amount := a2, priority := a3 })).bind fun v7 =>
        (if (!decide (v7.2.2 = 0)) = true then
         some ({ Queue.zero with  }, [], v7.2.2)
        else
         (f_queue_finish_m1 v3 v7.1).bind fun v8 =>
         some (v8.1, v8.2.1, v8.2.2.1)))))))))
theorem queue_Claim_ok (a0 : Queue) (a1 : Proc) (a2 : Amount) (a3 : Int) (r : Queue × (List Hold) × Int) (h : f_queue_Claim a0 a1 a2 a3 = some r) : PFn C 28 [.agg (Queue.enc a0), .agg (Proc.enc a1), .agg (Amount.enc a2), .int .i64 a3] (.tup [.agg (Queue.enc r.1), .sl (r.2.1.map Hold.enc), .int .i64 r.2.2]) := by
 refine pfn_intro ck_1e rfl fun E hG hN hK => ?_
 unfold pc_1e
 unfold f_queue_Claim at h
 refine s_seq (g_reg hG ?_)
 refine s_seq (s_seq (g_reg hG ?_))
 obtain ⟨v1, hv1, h⟩ := bind_of h
 refine g_call (fun hg => queue_Valid_ok a0 _ (hv1)) ?_
 refine g_cond rfl hG h (fun _ h => ?_) (fun _ h => ?_)
 · refine s_seq (g_reg hG ?_)
   refine g_ret ?_
   exact g_end h
 refine g_skip ?_
 refine s_seq (s_seq (g_reg hG ?_))
 refine g_call (fun hg => ident_ValidProc_ok a1) ?_
 refine g_cond rfl hG h (fun _ h => ?_) (fun _ h => ?_)
 · refine s_seq (g_reg hG ?_)
   refine g_ret ?_
   exact g_end h
 refine g_skip ?_
 refine s_seq (s_seq (g_reg hG ?_))
 refine g_call (fun hg => amount_Fits_ok a0.resource a2) ?_
 refine g_cond rfl hG h (fun _ h => ?_) (fun _ h => ?_)
 · refine s_seq (g_reg hG ?_)
   refine g_ret ?_
   exact g_end h
 refine g_skip ?_
 refine s_seq (s_seq (g_reg hG ?_))
 obtain ⟨v2, hv2, h⟩ := bind_of h
 refine g_call (fun hg => queue_Wanted_ok a0 a1 _ (hv2)) ?_
 refine s_seq (g_reg hG ?_)
 refine g_cond rfl hG h (fun _ h => ?_) (fun _ h => ?_)
 · refine s_seq (g_reg hG ?_)
   refine g_ret ?_
   exact g_end h
 refine g_skip ?_
 refine s_seq (g_regm C_mixed hG ?_)
 obtain ⟨v3, hv3, h⟩ := bind_of h
 refine g_callmM [] [(0, 5), (1, 6), (2, 7)] [0, 1, 2] (queue_clone_m_okm a0 _ hv3) rfl rfl ?_
 obtain ⟨v4, hv4, h⟩ := bind_of h
 refine g_callM (fun hg => queue_Held_ok a0 a1 _ (hv4)) ?_
 refine s_seq (s_seq (g_reg hG ?_))
 obtain ⟨v5, hv5, h⟩ := bind_of h
 refine g_call (fun hg => amount_Covers_ok a0.resource v4 a2 _ (hv5)) ?_
 refine g_cond rfl hG h (fun _ h => ?_) (fun _ h => ?_)
 · refine s_seq (g_reg hG ?_)
   refine g_ret ?_
   exact g_end h
 refine g_skip ?_
 refine s_seq (s_seq (g_reg hG ?_))
 refine g_call (fun hg => amount_Zero_ok v4) ?_
 refine g_cond rfl hG h (fun _ h => ?_) (fun _ h => ?_)
 · refine s_seq (g_reg hG ?_)
   obtain ⟨v6, hv6, h⟩ := bind_of h
   refine g_callm [(0, 8), (1, 10), (2, 5), (3, 6), (4, 7), (5, 9), (6, 2), (7, 1)] [] [0, 1, 2, 3, 4, 5, 6, 7] (queue_finish_m_okm v3 v4 a2 a1 _ hv6) rfl rfl ?_
   refine g_ret ?_
   exact g_end h
 refine g_skip ?_
 refine s_seq (s_seq (g_reg hG ?_))
 refine g_cond rfl hG h (fun _ h => ?_) (fun _ h => ?_)
 · refine s_seq (g_reg hG ?_)
   refine g_ret ?_
   exact g_end h
 refine g_skip ?_
 refine s_seq (g_reg hG ?_)
 obtain ⟨v7, hv7, h⟩ := bind_of h
 refine g_call (fun hg => line_Insert_ok a0.waits ({ Wait.zero with proc := a1, amount := a2, priority := a3 }) _ (hv7)) ?_
 refine s_seq (s_seq (g_reg hG ?_))
 refine g_cond rfl hG h (fun _ h => ?_) (fun _ h => ?_)
 · refine s_seq (g_reg hG ?_)
   refine g_ret ?_
   exact g_end h
 refine g_skip ?_
 refine s_seq (g_reg hG ?_)
 obtain ⟨v8, hv8, h⟩ := bind_of h
 refine g_callm [(0, 8), (1, 11), (2, 5), (3, 6), (4, 7), (5, 10)] [] [0, 1, 2, 3, 4, 5] (queue_finish_m1_okm v3 v7.1 _ hv8) rfl rfl ?_
 refine g_ret ?_
 exact g_end h
attribute [local irreducible] f_queue_Claim

noncomputable def f_queue_Order_k1  (j1 : (List Proc)) : Option ((List Proc)) :=
 some j1
@[go_sem] def J1f_k1  (j1 : (List Proc)) : St := ⟨[(3, .own 0 0 j1.length)], [(0, ⟨false, 3, (Proc.enc Proc.zero), j1.map Proc.enc⟩)], 1⟩
noncomputable def f_queue_Order_l1 (v1 : (List Wait)) (g1 : Int × (List Proc)) : Option ((Int × (List Proc)) ⊕ (((List Proc)))) :=
 (if (decide (g1.1 < (v1.length : Int))) = true then
  gd (0 ≤ g1.1 ∧ g1.1 < (v1.length : Int)) <|
  gd (g1.2.length + 1 ≤ 4294967296) <|
  some (.inl ((IntKind.i64.wrap (g1.1 + 1)), (g1.2 ++ [(v1.getD g1.1.toNat Wait.zero).proc])))
 else
  some (.inr g1.2))
@[go_sem] def I1f_l1 (v1 : (List Wait)) (g1 : Int × (List Proc)) : St := ⟨[(3, .own 0 0 g1.2.length), (7, .sl (v1.map Wait.enc)), (8, .int .i64 (v1.length : Int)), (9, .int .i64 g1.1)], [(0, ⟨false, 3, (Proc.enc Proc.zero), g1.2.map Proc.enc⟩)], 1⟩
noncomputable def f_queue_Order (a0 : Queue) : Option ((List Proc)) :=
 (f_queue_order a0).bind fun v1 =>
 (loopO (f_queue_Order_l1 v1) (0, [])).bind (fun z => f_queue_Order_k1 z)
theorem queue_Order_ok (a0 : Queue) (r : (List Proc)) (h : f_queue_Order a0 = some r) : PFn C 41 [.agg (Queue.enc a0)] (.sl (r.map Proc.enc)) := by
 refine pfn_intro ck_1f rfl fun E hG hN hK => ?_
 unfold pc_1f
 unfold f_queue_Order at h
 refine s_seq (g_reg hG ?_)
 refine s_seq (g_reg hG ?_)
 refine s_seq (s_seq (g_reg hG ?_))
 obtain ⟨v1, hv1, h⟩ := bind_of h
 refine g_call (fun hg => queue_order_ok a0 _ (hv1)) ?_
 refine s_blockJ (J1f_k1) (fun v => f_queue_Order_k1 v = some r) ?_ ?_
 · intro j1 h
   unfold f_queue_Order_k1 at h
   refine g_st ?_
   refine s_seq (g_reg hG ?_)
   refine g_ret ?_
   exact g_end h
 refine g_loop (I1f_l1 v1) hK [(0, 1)] h (fun x_l1 h g1 y_l1 h_l1 hx_l1 => ?_)
 unfold f_queue_Order_l1 at h_l1
 refine g_st ?_
 refine s_seq (g_reg hG ?_)
 refine s_seq ?_
 refine g_cond rfl hG h_l1 (fun _ h_l1 => ?_) (fun _ h_l1 => ?_)
 · refine g_skip ?_
   refine s_seq (s_block (s_seq ?_))
   obtain ⟨hb2, h_l1⟩ := gd_some h_l1
   refine g_reg hG ?_
   obtain ⟨hb1, h_l1⟩ := gd_some h_l1
   refine g_reg hG ?_
   refine g_reg hG ?_
   exact g_next hK [(0, 2)] h_l1
 refine g_exit ?_
 obtain rfl := Option.some.inj h_l1
 have hx := hx_l1 _ rfl
 subst hx
 try dsimp only at h
 exact g_join hK [(0, 0)] g1.2 (by exact h)
attribute [local irreducible] f_queue_Order

noncomputable def f_holders_Procs_m_k1  (j1 : (List Proc)) : Option ((List Proc)) :=
 some j1
@[go_sem] def J1g_k1  (j1 : (List Proc)) : St := ⟨[(3, .own 0 0 j1.length)], [(0, ⟨false, 3, (Proc.enc Proc.zero), j1.map Proc.enc⟩)], 1⟩
noncomputable def f_holders_Procs_m_l1 (a0 : List Hold) (g1 : Int × (List Proc)) : Option ((Int × (List Proc)) ⊕ (((List Proc)))) :=
 (if (decide (g1.1 < (a0.length : Int))) = true then
  gd (0 ≤ g1.1 ∧ g1.1 < (a0.length : Int)) <|
  gd (g1.2.length + 1 ≤ 4294967296) <|
  some (.inl ((IntKind.i64.wrap (g1.1 + 1)), (g1.2 ++ [(a0.getD g1.1.toNat Hold.zero).proc])))
 else
  some (.inr g1.2))
@[go_sem] def I1g_l1 (a0 : List Hold) (g1 : Int × (List Proc)) : St := ⟨[(3, .own 0 0 g1.2.length), (6, .sl (a0.map Hold.enc)), (7, .int .i64 (a0.length : Int)), (8, .int .i64 g1.1)], [(0, ⟨false, 3, (Proc.enc Proc.zero), g1.2.map Proc.enc⟩)], 1⟩
noncomputable def f_holders_Procs_m (a0 : List Hold) : Option ((List Proc)) :=
 (loopO (f_holders_Procs_m_l1 a0) (0, [])).bind (fun z => f_holders_Procs_m_k1 z)
theorem holders_Procs_m_okm (a0 : List Hold) (r : (List Proc)) (h : f_holders_Procs_m a0 = some r) : MFn C 102 [.sl (a0.map Hold.enc)] [] 0 (.own 0 0 r.length) [(0, ⟨false, 3, (Proc.enc Proc.zero), r.map Proc.enc⟩)] 1 := by
 refine mfn_intro (rl := [.own 0 0 r.length]) ck_1g rfl rfl rfl rfl fun E hG hN hK => ?_
 unfold pc_1g
 unfold f_holders_Procs_m at h
 refine s_seq (g_reg hG ?_)
 refine s_seq (g_reg hG ?_)
 refine s_seq (s_seq (g_reg hG ?_))
 refine s_blockJ (J1g_k1) (fun v => f_holders_Procs_m_k1 v = some r) ?_ ?_
 · intro j1 h
   unfold f_holders_Procs_m_k1 at h
   refine g_st ?_
   refine s_seq (g_reg hG ?_)
   refine g_ret ?_
   exact g_retm [(0, 0)] h
 refine g_loop (I1g_l1 a0) hK [(0, 1)] h (fun x_l1 h g1 y_l1 h_l1 hx_l1 => ?_)
 unfold f_holders_Procs_m_l1 at h_l1
 refine g_st ?_
 refine s_seq (g_reg hG ?_)
 refine s_seq ?_
 refine g_cond rfl hG h_l1 (fun _ h_l1 => ?_) (fun _ h_l1 => ?_)
 · refine g_skip ?_
   refine s_seq (s_block (s_seq ?_))
   obtain ⟨hb2, h_l1⟩ := gd_some h_l1
   refine g_reg hG ?_
   obtain ⟨hb1, h_l1⟩ := gd_some h_l1
   refine g_reg hG ?_
   refine g_reg hG ?_
   exact g_next hK [(0, 2)] h_l1
 refine g_exit ?_
 obtain rfl := Option.some.inj h_l1
 have hx := hx_l1 _ rfl
 subst hx
 try dsimp only at h
 exact g_join hK [(0, 0)] g1.2 (by exact h)
attribute [local irreducible] f_holders_Procs_m

def ltS (x y : Proc) : Prop := x.site < y.site ∨ x.site = y.site ∧ (x.inc < y.inc ∨ x.inc = y.inc ∧ x.num < y.num)
instance (x y : Proc) : Decidable (ltS x y) := by unfold ltS; infer_instance
def cmpS (x y : Proc) : Int := if ltS x y then -1 else if ltS y x then 1 else 0
theorem ltOf_cmpS (x y : Proc) : ltOf cmpS x y = decide (ltS x y) := by
 unfold ltOf cmpS
 by_cases h : ltS x y
 · simp [h]
 · by_cases h2 : ltS y x <;> simp [h, h2]
theorem cmpS_swo : Go.Sort.SWO (ltOf cmpS) where
 irrefl x := by rw [ltOf_cmpS]; simp [ltS]
 trans x y z h1 h2 := by
  rw [ltOf_cmpS, decide_eq_true_eq] at *; unfold ltS at *; omega
 ntrans x y z h1 h2 := by
  rw [ltOf_cmpS, decide_eq_false_iff_not] at *; unfold ltS at *; omega
theorem cmpS_total (x y : Proc) (h1 : ltOf cmpS x y = false) (h2 : ltOf cmpS y x = false) : x = y := by
 rw [ltOf_cmpS, decide_eq_false_iff_not] at *; unfold ltS at *; rw [Proc.ext_iff]; omega
theorem cmpS_eq (p q : Proc) : f_ident_CompareProc p q = some (cmpS p q) := by
 unfold f_ident_CompareProc f_ident_compare
 have e : ∀ (x y z : Int) (i : Nat) (h : [x, y, z].length = 3), Arr.get (⟨[x, y, z], h⟩ : Arr Int 3) i 0 = match i with | 0 => x | 1 => y | _ => z := by
  intro x y z i h
  match i with
  | 0 => rfl
  | 1 => rfl
  | 2 => rfl
  | n + 3 => have : ¬ (n + 3 < 3) := by omega
             simp [Arr.get, clampN, this]
 have w1 : IntKind.i64.wrap (0 + 1) = 1 := by decide
 have w2 : IntKind.i64.wrap (1 + 1) = 2 := by decide
 have w3 : IntKind.i64.wrap (2 + 1) = 3 := by decide
 have s3 : f_ident_compare_l1 ⟨[p.site, p.inc, p.num], rfl⟩ ⟨[q.site, q.inc, q.num], rfl⟩ 3 = some (.inr (.inl ())) := by unfold f_ident_compare_l1; simp
 have s2 : f_ident_compare_l1 ⟨[p.site, p.inc, p.num], rfl⟩ ⟨[q.site, q.inc, q.num], rfl⟩ 2 = some (if p.num < q.num then .inr (.inr (-1)) else if q.num < p.num then .inr (.inr 1) else .inl 3) := by
  unfold f_ident_compare_l1
  rw [if_pos (by decide), gd_pos (by decide), gd_pos (by decide), gd_pos (by decide)]
  simp only [e, show (2 : Int).toNat = 2 from rfl, decide_eq_true_eq, w3]
  by_cases h : p.num < q.num
  · simp [h]
  · by_cases h2 : q.num < p.num <;> simp [h, h2]
 have s1 : f_ident_compare_l1 ⟨[p.site, p.inc, p.num], rfl⟩ ⟨[q.site, q.inc, q.num], rfl⟩ 1 = some (if p.inc < q.inc then .inr (.inr (-1)) else if q.inc < p.inc then .inr (.inr 1) else .inl 2) := by
  unfold f_ident_compare_l1
  rw [if_pos (by decide), gd_pos (by decide), gd_pos (by decide), gd_pos (by decide)]
  simp only [e, show (1 : Int).toNat = 1 from rfl, decide_eq_true_eq, w2]
  by_cases h : p.inc < q.inc
  · simp [h]
  · by_cases h2 : q.inc < p.inc <;> simp [h, h2]
 have s0 : f_ident_compare_l1 ⟨[p.site, p.inc, p.num], rfl⟩ ⟨[q.site, q.inc, q.num], rfl⟩ 0 = some (if p.site < q.site then .inr (.inr (-1)) else if q.site < p.site then .inr (.inr 1) else .inl 1) := by
  unfold f_ident_compare_l1
  rw [if_pos (by decide), gd_pos (by decide), gd_pos (by decide), gd_pos (by decide)]
  simp only [e, show (0 : Int).toNat = 0 from rfl, decide_eq_true_eq, w1]
  by_cases h : p.site < q.site
  · simp [h]
  · by_cases h2 : q.site < p.site <;> simp [h, h2]
 unfold cmpS ltS
 by_cases a1 : p.site < q.site
 · rw [loopO_eq, s0]; simp [a1]
 · by_cases a2 : q.site < p.site
   · rw [loopO_eq, s0]
     have : ¬ p.site = q.site := by omega
     simp [a1, a2, this]
   · have h1 : p.site = q.site := by omega
     by_cases b1 : p.inc < q.inc
     · rw [loopO_eq, s0]; simp only [a1, a2, if_false]; rw [loopO_eq, s1]; simp [b1, h1]
     · by_cases b2 : q.inc < p.inc
       · have : ¬ p.inc = q.inc := by omega
         rw [loopO_eq, s0]; simp only [a1, a2, if_false]; rw [loopO_eq, s1]; simp [b1, b2, h1, this]
       · have h2 : p.inc = q.inc := by omega
         rw [loopO_eq, s0]; simp only [a1, a2, if_false]; rw [loopO_eq, s1]; simp only [b1, b2, if_false]; rw [loopO_eq, s2]
         by_cases c1 : p.num < q.num
         · simp [c1, h1, h2]
         · by_cases c2 : q.num < p.num
           · simp [c1, c2, h1, h2]
           · simp only [c1, c2, if_false]; rw [loopO_eq, s3]; simp [h1, h2, f_ident_compare_k1]
theorem slices_SortFunc_api_Proc_api_Proc_lays : SlLaysF0.n6 C.P ⟨fun | 6 => 138 | 15 => 153 | 14 => 152 | 28 => 162 | 29 => 163 | 20 => 154 | 21 => 155 | 22 => 156 | 23 => 157 | 24 => 158 | 25 => 159 | 26 => 160 | 27 => 161 | 46 => 164 | 47 => 165 | 48 => 166 | 49 => 167 | 50 => 168 | 57 => 169 | n => n, fun | 22 => 48 | 24 => 35 | 25 => 118 | 39 => 100 | 53 => 149 | 55 => 151 | 46 => 142 | 45 => 141 | 50 => 146 | 66 => 152 | 70 => 156 | 76 => 158 | 77 => 159 | n => n, fun n => n⟩ where
 mixed := C_mixed
 f6 := ⟨ "slices.SortFunc[[]clusterlocks/api.Proc,clusterlocks/api.Proc]", by decide, Tryz.func138.trans (congrArg some (by kernel_rfl))⟩
 f14 := ⟨ "slices.pdqsortCmpFunc[clusterlocks/api.Proc]", by decide, Tryz.func152.trans (congrArg some (by kernel_rfl))⟩
 f15 := Tryz.func153.trans (congrArg some (by kernel_rfl))
 f20 := ⟨ "slices.insertionSortCmpFunc[clusterlocks/api.Proc]", by decide, Tryz.func154.trans (congrArg some (by kernel_rfl))⟩
 f21 := ⟨ "slices.heapSortCmpFunc[clusterlocks/api.Proc]", by decide, Tryz.func155.trans (congrArg some (by kernel_rfl))⟩
 f22 := ⟨ "slices.breakPatternsCmpFunc[clusterlocks/api.Proc]", by decide, Tryz.func156.trans (congrArg some (by kernel_rfl))⟩
 f23 := ⟨ "slices.choosePivotCmpFunc[clusterlocks/api.Proc]", by decide, Tryz.func157.trans (congrArg some (by kernel_rfl))⟩
 f24 := ⟨ "slices.reverseRangeCmpFunc[clusterlocks/api.Proc]", by decide, Tryz.func158.trans (congrArg some (by kernel_rfl))⟩
 f25 := ⟨ "slices.partialInsertionSortCmpFunc[clusterlocks/api.Proc]", by decide, Tryz.func159.trans (congrArg some (by kernel_rfl))⟩
 f26 := ⟨ "slices.partitionEqualCmpFunc[clusterlocks/api.Proc]", by decide, Tryz.func160.trans (congrArg some (by kernel_rfl))⟩
 f27 := ⟨ "slices.partitionCmpFunc[clusterlocks/api.Proc]", by decide, Tryz.func161.trans (congrArg some (by kernel_rfl))⟩
 f28 := Tryz.func162.trans (congrArg some (by kernel_rfl))
 f29 := Tryz.func163.trans (congrArg some (by kernel_rfl))
 f46 := ⟨ "slices.siftDownCmpFunc[clusterlocks/api.Proc]", by decide, Tryz.func164.trans (congrArg some (by kernel_rfl))⟩
 f47 := Tryz.func165.trans (congrArg some (by kernel_rfl))
 f48 := Tryz.func166.trans (congrArg some (by kernel_rfl))
 f49 := ⟨ "slices.medianAdjacentCmpFunc[clusterlocks/api.Proc]", by decide, Tryz.func167.trans (congrArg some (by kernel_rfl))⟩
 f50 := ⟨ "slices.medianCmpFunc[clusterlocks/api.Proc]", by decide, Tryz.func168.trans (congrArg some (by kernel_rfl))⟩
 f57 := ⟨ "slices.order2CmpFunc[clusterlocks/api.Proc]", by decide, Tryz.func169.trans (congrArg some (by kernel_rfl))⟩
 t0 := Tryz.underlying0
 a0 := Tryz.isAgg0
 z0 := Tryz.sizeOf0
 v0 := Tryz.zeroValue0
 t3 := Tryz.underlying3
 a3 := Tryz.isAgg3
 z3 := Tryz.sizeOf3
 v3 := Tryz.zeroValue3
 t4 := Tryz.underlying4
 a4 := Tryz.isAgg4
 z4 := Tryz.sizeOf4
 v4 := Tryz.zeroValue4
 t5 := Tryz.underlying5
 a5 := Tryz.isAgg5
 z5 := Tryz.sizeOf5
 v5 := Tryz.zeroValue5
 t9 := Tryz.underlying9
 a9 := Tryz.isAgg9
 z9 := Tryz.sizeOf9
 v9 := Tryz.zeroValue9
 t22 := Tryz.underlying48
 a22 := Tryz.isAgg48
 z22 := Tryz.sizeOf48
 v22 := Tryz.zeroValue48
 t25 := Tryz.underlying118
 a25 := Tryz.isAgg118
 z25 := Tryz.sizeOf118
 v25 := Tryz.zeroValue118
 t39 := Tryz.underlying100
 a39 := Tryz.isAgg100
 z39 := Tryz.sizeOf100
 v39 := Tryz.zeroValue100
 t45 := Tryz.underlying141
 a45 := Tryz.isAgg141
 z45 := Tryz.sizeOf141
 v45 := Tryz.zeroValue141
 t46 := Tryz.underlying142
 a46 := Tryz.isAgg142
 z46 := Tryz.sizeOf142
 v46 := Tryz.zeroValue142
 t50 := Tryz.underlying146
 a50 := Tryz.isAgg146
 z50 := Tryz.sizeOf146
 v50 := Tryz.zeroValue146
 t53 := Tryz.underlying149
 a53 := Tryz.isAgg149
 z53 := Tryz.sizeOf149
 v53 := Tryz.zeroValue149
 t55 := Tryz.underlying151
 a55 := Tryz.isAgg151
 z55 := Tryz.sizeOf151
 v55 := Tryz.zeroValue151
 t66 := Tryz.underlying152
 a66 := Tryz.isAgg152
 z66 := Tryz.sizeOf152
 v66 := Tryz.zeroValue152
 t70 := Tryz.underlying156
 a70 := Tryz.isAgg156
 z70 := Tryz.sizeOf156
 v70 := Tryz.zeroValue156
 t76 := Tryz.underlying158
 a76 := Tryz.isAgg158
 z76 := Tryz.sizeOf158
 v76 := Tryz.zeroValue158
 t77 := Tryz.underlying159
 a77 := Tryz.isAgg159
 z77 := Tryz.sizeOf159
 v77 := Tryz.zeroValue159
def f_slices_SortFunc_api_Proc_api_Proc_m (a0 : List Proc) : Option (List Proc) := gd (a0.length ≤ 4294967296) (some (a0.mergeSort fun x y => !decide (y.site < x.site ∨ y.site = x.site ∧ (y.inc < x.inc ∨ y.inc = x.inc ∧ y.num < x.num))))
theorem slices_SortFunc_api_Proc_api_Proc_m_len (a0 r : List Proc) (h : f_slices_SortFunc_api_Proc_api_Proc_m a0 = some r) : r.length = a0.length := by
 obtain ⟨_, h⟩ := gd_some h
 obtain rfl := Option.some.inj h
 exact List.length_mergeSort _
theorem slices_SortFunc_api_Proc_api_Proc_m_okm (a0 : List Proc) (r : List Proc) (h : f_slices_SortFunc_api_Proc_api_Proc_m a0 = some r) : MFn C 138 [.own 0 0 a0.length, .clo 119 []] [(0, ⟨false, 3, (Proc.enc Proc.zero), a0.map Proc.enc⟩)] 1 (.tup []) [(0, ⟨false, 3, (Proc.enc Proc.zero), r.map Proc.enc⟩)] 1 := by
 obtain ⟨hl, h⟩ := gd_some h
 obtain rfl := Option.some.inj h
 haveI : Inhabited Proc := ⟨Proc.zero⟩
 have e : (fun x y : Proc => !decide (y.site < x.site ∨ y.site = x.site ∧ (y.inc < x.inc ∨ y.inc = x.inc ∧ y.num < x.num))) = fun x y => !(ltOf cmpS) y x := by
  funext x y
  rw [ltOf_cmpS]
  exact congrArg not (decide_eq_decide.2 Iff.rfl)
 rw [e]
 exact sort_own slices_SortFunc_api_Proc_api_Proc_lays Proc.enc 3 Proc.len (by decide) Proc.scal Tryz.isAgg35 Tryz.sizeOf35 cmpS cmpS_swo cmpS_total 119 (fun x y => ident_CompareProc_ok x y _ (cmpS_eq x y)) (enters_of Tryz.func119 (by kernel_rfl) rfl) rfl _ a0 hl
attribute [local irreducible] f_slices_SortFunc_api_Proc_api_Proc_m

noncomputable def f_slices_Compact_api_Proc_api_Proc_m_k1 (a0 : List Proc) (j1 : Unit) : Option ((List Proc) × (List Proc)) :=
 some (a0, a0)
@[go_sem] def J1h_k1 (a0 : List Proc) (j1 : Unit) : St := ⟨[(0, .own 0 0 a0.length)], [(0, ⟨false, 3, (Proc.enc Proc.zero), a0.map Proc.enc⟩)], 1⟩
noncomputable def f_slices_Compact_api_Proc_api_Proc_m_k2  (j2 : Int × (List Proc)) : Option ((Int) ⊕ ((Unit) ⊕ ((List Proc) × (List Proc)))) :=
 gd (0 ≤ j2.1 ∧ j2.1 ≤ ((j2.2.length : Nat) : Int) ∧ ((j2.2.length : Nat) : Int) ≤ ((j2.2.length : Nat) : Int)) <|
 gd (0 ≤ 0 ∧ 0 ≤ j2.1 ∧ j2.1 ≤ ((j2.2.length : Nat) : Int)) <|
 some (.inr (.inr ((((j2.2.take j2.1.toNat ++ List.replicate (j2.2.length - j2.1.toNat) Proc.zero ++ j2.2.drop (j2.1.toNat + (j2.2.length - j2.1.toNat))).drop 0).take j2.1.toNat), (j2.2.take j2.1.toNat ++ List.replicate (j2.2.length - j2.1.toNat) Proc.zero ++ j2.2.drop (j2.1.toNat + (j2.2.length - j2.1.toNat))))))
@[go_sem] def J1h_k2  (j2 : Int × (List Proc)) : St := ⟨[(0, .own 0 0 j2.2.length), (3, .int .i64 j2.1)], [(0, ⟨false, 3, (Proc.enc Proc.zero), j2.2.map Proc.enc⟩)], 1⟩
noncomputable def f_slices_Compact_api_Proc_api_Proc_m_l2 (a0 : List Proc) (g1 : Int) (g2 : Int × Int × (List Proc)) : Option ((Int × Int × (List Proc)) ⊕ ((Int × (List Proc)))) :=
 (if (decide (g2.2.1 < (((a0.length - g1.toNat) : Nat) : Int))) = true then
  gd (0 ≤ g2.2.1 ∧ g2.2.1 < (((a0.length - g1.toNat) : Nat) : Int) ∧ g1.toNat + (a0.length - g1.toNat) ≤ g2.2.2.length) <|
  gd (0 ≤ (IntKind.i64.wrap (g2.2.1 - 1)) ∧ (IntKind.i64.wrap (g2.2.1 - 1)) < (((a0.length - g1.toNat) : Nat) : Int) ∧ g1.toNat + (a0.length - g1.toNat) ≤ g2.2.2.length) <|
  (if (!decide ((g2.2.2.getD (g1.toNat + g2.2.1.toNat) Proc.zero) = (g2.2.2.getD (g1.toNat + (IntKind.i64.wrap (g2.2.1 - 1)).toNat) Proc.zero))) = true then
   gd (0 ≤ g2.2.1 ∧ g2.2.1 < (((a0.length - g1.toNat) : Nat) : Int) ∧ g1.toNat + (a0.length - g1.toNat) ≤ g2.2.2.length) <|
   gd (0 ≤ g2.1 ∧ g2.1 < ((g2.2.2.length : Nat) : Int)) <|
   some (.inl ((IntKind.i64.wrap (g2.1 + 1)), (IntKind.i64.wrap (g2.2.1 + 1)), (g2.2.2.set g2.1.toNat (g2.2.2.getD (g1.toNat + g2.2.1.toNat) Proc.zero))))
  else
   some (.inl (g2.1, (IntKind.i64.wrap (g2.2.1 + 1)), g2.2.2)))
 else
  some (.inr (g2.1, g2.2.2)))
@[go_sem] def I1h_l2 (a0 : List Proc) (g1 : Int) (g2 : Int × Int × (List Proc)) : St := ⟨[(0, .own 0 0 g2.2.2.length), (3, .int .i64 g2.1), (4, .own 0 g1.toNat (a0.length - g1.toNat)), (5, .int .i64 g2.2.1)], [(0, ⟨false, 3, (Proc.enc Proc.zero), g2.2.2.map Proc.enc⟩)], 1⟩
noncomputable def f_slices_Compact_api_Proc_api_Proc_m_l1 (a0 : List Proc) (g1 : Int) : Option ((Int) ⊕ ((Unit) ⊕ ((List Proc) × (List Proc)))) :=
 (if (decide (g1 < ((a0.length : Nat) : Int))) = true then
  gd (0 ≤ g1 ∧ g1 < ((a0.length : Nat) : Int)) <|
  gd (0 ≤ (IntKind.i64.wrap (g1 - 1)) ∧ (IntKind.i64.wrap (g1 - 1)) < ((a0.length : Nat) : Int)) <|
  (if (decide ((a0.getD g1.toNat Proc.zero) = (a0.getD ((IntKind.i64.wrap (g1 - 1)).toNat) Proc.zero))) = true then
   gd (0 ≤ g1 ∧ g1 ≤ ((a0.length : Nat) : Int) ∧ ((a0.length : Nat) : Int) ≤ ((a0.length : Nat) : Int)) <|
   (loopO (f_slices_Compact_api_Proc_api_Proc_m_l2 a0 g1) (g1, 1, a0)).bind (fun z => f_slices_Compact_api_Proc_api_Proc_m_k2 z)
  else
   some (.inl (IntKind.i64.wrap (g1 + 1))))
 else
  some (.inr (.inl ())))
@[go_sem] def I1h_l1 (a0 : List Proc) (g1 : Int) : St := ⟨[(0, .own 0 0 a0.length), (3, .int .i64 g1)], [(0, ⟨false, 3, (Proc.enc Proc.zero), a0.map Proc.enc⟩)], 1⟩
noncomputable def f_slices_Compact_api_Proc_api_Proc_m (a0 : List Proc) : Option ((List Proc) × (List Proc)) :=
 (if (decide (((a0.length : Nat) : Int) < 2)) = true then
  some (a0, a0)
 else
  (loopO (f_slices_Compact_api_Proc_api_Proc_m_l1 a0) 1).bind (fun | .inl z => f_slices_Compact_api_Proc_api_Proc_m_k1 a0 z | .inr z => some z))
theorem slices_Compact_api_Proc_api_Proc_m_okm (a0 : List Proc) (r : (List Proc) × (List Proc)) (h : f_slices_Compact_api_Proc_api_Proc_m a0 = some r) : MFn C 139 [.own 0 0 a0.length] [(0, ⟨false, 3, (Proc.enc Proc.zero), a0.map Proc.enc⟩)] 1 (.sl (r.1.map Proc.enc)) [(0, ⟨true, 3, (Proc.enc Proc.zero), r.2.map Proc.enc⟩)] 1 := by
 refine mfn_intro (rl := [.sl (r.1.map Proc.enc)]) ck_1h rfl rfl rfl rfl fun E hG hN hK => ?_
 unfold pc_1h
 unfold f_slices_Compact_api_Proc_api_Proc_m at h
 refine s_seq (g_reg hG ?_)
 refine s_seq (s_seq (g_reg hG ?_))
 refine g_cond rfl hG h (fun _ h => ?_) (fun _ h => ?_)
 · refine s_seq (g_reg hG ?_)
   refine g_gh (.fz [0]) ?_
   refine g_ret ?_
   exact g_retm [(0, 0)] h
 refine g_skip ?_
 refine s_seq (s_seq (g_reg hG ?_))
 refine s_blockJ (J1h_k1 a0) (fun v => f_slices_Compact_api_Proc_api_Proc_m_k1 a0 v = some r) ?_ ?_
 · intro j1 h
   unfold f_slices_Compact_api_Proc_api_Proc_m_k1 at h
   refine g_st ?_
   refine s_seq (g_reg hG ?_)
   refine g_gh (.fz [0]) ?_
   refine g_ret ?_
   exact g_retm [(0, 0)] h
 refine g_loop (I1h_l1 a0) hK [(0, 0)] h (fun x_l1 h g1 y_l1 h_l1 hx_l1 => ?_)
 unfold f_slices_Compact_api_Proc_api_Proc_m_l1 at h_l1
 refine g_st ?_
 refine s_seq (s_seq (g_reg hG ?_))
 refine g_cond rfl hG h_l1 (fun _ h_l1 => ?_) (fun _ h_l1 => ?_)
 · refine g_skip ?_
   refine s_seq (s_block (s_seq ?_))
   obtain ⟨hb8, h_l1⟩ := gd_some h_l1
   obtain ⟨hb9, h_l1⟩ := gd_some h_l1
   refine g_regd C_mixed hG ?_
   refine g_cond rfl hG h_l1 (fun _ h_l1 => ?_) (fun _ h_l1 => ?_)
   · refine s_seq ?_
     obtain ⟨hb7, h_l1⟩ := gd_some h_l1
     refine g_reg hG ?_
     refine s_seq (s_seq (g_reg hG ?_))
     refine s_blockJ (J1h_k2) (fun v => f_slices_Compact_api_Proc_api_Proc_m_k2 v = some y_l1) ?_ ?_
     · intro j2 h_l1
       unfold f_slices_Compact_api_Proc_api_Proc_m_k2 at h_l1
       refine g_st ?_
       refine s_seq ?_
       obtain ⟨hb2, h_l1⟩ := gd_some h_l1
       refine g_reg hG ?_
       refine s_seq ?_
       obtain ⟨hb1, h_l1⟩ := gd_some h_l1
       refine g_reg hG ?_
       refine g_gh (.fz [0]) ?_
       refine g_ret ?_
       obtain rfl := Option.some.inj h_l1
       have hx := hx_l1 _ rfl
       subst hx
       try dsimp only at h
       exact g_retm [(0, 0)] h
     refine g_loop (I1h_l2 a0 g1) hK [(0, 0)] h_l1 (fun x_l2 h_l1 g2 y_l2 h_l2 hx_l2 => ?_)
     unfold f_slices_Compact_api_Proc_api_Proc_m_l2 at h_l2
     refine g_st ?_
     refine s_seq (s_seq (g_reg hG ?_))
     refine g_cond rfl hG h_l2 (fun _ h_l2 => ?_) (fun _ h_l2 => ?_)
     · refine g_skip ?_
       refine s_seq (s_block (s_seq ?_))
       obtain ⟨hb5, h_l2⟩ := gd_some h_l2
       obtain ⟨hb6, h_l2⟩ := gd_some h_l2
       refine g_regd C_mixed hG ?_
       refine g_cond rfl hG h_l2 (fun _ h_l2 => ?_) (fun _ h_l2 => ?_)
       · refine s_seq ?_
         obtain ⟨hb3, h_l2⟩ := gd_some h_l2
         obtain ⟨hb4, h_l2⟩ := gd_some h_l2
         refine g_reg hG ?_
         refine g_reg hG ?_
         refine g_reg hG ?_
         exact g_next hK [(0, 0)] h_l2
       refine g_skip ?_
       refine g_reg hG ?_
       exact g_next hK [(0, 0)] h_l2
     refine g_exit ?_
     obtain rfl := Option.some.inj h_l2
     have hx := hx_l2 _ rfl
     subst hx
     try dsimp only at h_l1
     exact g_join hK [(0, 0)] (g2.1, g2.2.2) (by exact h_l1)
   refine g_skip ?_
   refine g_reg hG ?_
   exact g_next hK [(0, 0)] h_l1
 refine g_exit ?_
 obtain rfl := Option.some.inj h_l1
 have hx := hx_l1 _ rfl
 subst hx
 try dsimp only at h
 exact g_join hK [(0, 0)] () (by exact h)
attribute [local irreducible] f_slices_Compact_api_Proc_api_Proc_m

noncomputable def f_ident_SortProcs (a0 : List Proc) : Option ((List Proc)) :=
 gd (a0.length ≤ 4294967296) <|
 (f_slices_SortFunc_api_Proc_api_Proc_m a0).bind fun v1 =>
 (f_slices_Compact_api_Proc_api_Proc_m v1).bind fun v2 =>
 some v2.1
theorem ident_SortProcs_ok (a0 : List Proc) (r : (List Proc)) (h : f_ident_SortProcs a0 = some r) : PFn C 101 [.sl (a0.map Proc.enc)] (.sl (r.map Proc.enc)) := by
 refine pfn_intro ck_1i rfl fun E hG hN hK => ?_
 unfold pc_1i
 unfold f_ident_SortProcs at h
 refine s_seq (g_reg hG ?_)
 refine s_seq ?_
 obtain ⟨hb1, h⟩ := gd_some h
 refine g_reg hG ?_
 refine s_seq (g_reg hG ?_)
 obtain ⟨v1, hv1, h⟩ := bind_of h
 have hl_v1 := slices_SortFunc_api_Proc_api_Proc_m_len a0 _ hv1
 refine g_callm [(0, 0)] [] [0] (slices_SortFunc_api_Proc_api_Proc_m_okm a0 _ hv1) rfl rfl ?_
 refine s_seq (g_reg hG ?_)
 obtain ⟨v2, hv2, h⟩ := bind_of h
 refine g_callm [(0, 0)] [] [0] (slices_Compact_api_Proc_api_Proc_m_okm v1 _ hv2) rfl rfl ?_
 refine g_ret ?_
 exact g_end h
attribute [local irreducible] f_ident_SortProcs

noncomputable def f_queue_Procs (a0 : Queue) : Option ((List Proc)) :=
 (f_holders_Procs_m a0.holds).bind fun v1 =>
 (f_queue_Order a0).bind fun v2 =>
 gd (v1.length + v2.length ≤ 4294967296) <|
 (f_ident_SortProcs (v1 ++ v2)).bind fun v3 =>
 some v3
theorem queue_Procs_ok (a0 : Queue) (r : (List Proc)) (h : f_queue_Procs a0 = some r) : PFn C 44 [.agg (Queue.enc a0)] (.sl (r.map Proc.enc)) := by
 refine pfn_intro ck_1j rfl fun E hG hN hK => ?_
 unfold pc_1j
 unfold f_queue_Procs at h
 refine s_seq (g_reg hG ?_)
 refine s_seq (g_regm C_mixed hG ?_)
 obtain ⟨v1, hv1, h⟩ := bind_of h
 refine g_callmM [] [(0, 1)] [0] (holders_Procs_m_okm a0.holds _ hv1) rfl rfl ?_
 obtain ⟨v2, hv2, h⟩ := bind_of h
 obtain ⟨hb1, h⟩ := gd_some h
 refine g_callM (fun hg => queue_Order_ok a0 _ (hv2)) ?_
 obtain ⟨v3, hv3, h⟩ := bind_of h
 refine g_callM (fun hg => ident_SortProcs_ok (v1 ++ v2) _ (hv3)) ?_
 refine g_ret ?_
 exact g_end h
attribute [local irreducible] f_queue_Procs

noncomputable def f_slices_Index_api_Proc_api_Proc_k1  (j1 : Unit) : Option (Int) :=
 some (-1)
@[go_sem] def J1k_k1  (j1 : Unit) : St := ⟨[], [], 0⟩
noncomputable def f_slices_Index_api_Proc_api_Proc_l1 (a0 : List Proc) (a1 : Proc) (g1 : Int) : Option ((Int) ⊕ ((Unit) ⊕ (Int))) :=
 (if (decide (g1 < (a0.length : Int))) = true then
  gd (0 ≤ g1 ∧ g1 < (a0.length : Int)) <|
  (if (decide (a1 = (a0.getD g1.toNat Proc.zero))) = true then
   some (.inr (.inr g1))
  else
   some (.inl (IntKind.i64.wrap (g1 + 1))))
 else
  some (.inr (.inl ())))
@[go_sem] def I1k_l1 (a0 : List Proc) (a1 : Proc) (g1 : Int) : St := ⟨[(0, .sl (a0.map Proc.enc)), (3, .ptr 0 0 0), (7, .int .i64 (a0.length : Int)), (8, .int .i64 g1)], [(0, ⟨false, 3, (Proc.enc Proc.zero), [Proc.enc a1]⟩)], 1⟩
noncomputable def f_slices_Index_api_Proc_api_Proc (a0 : List Proc) (a1 : Proc) : Option (Int) :=
 (loopO (f_slices_Index_api_Proc_api_Proc_l1 a0 a1) 0).bind (fun | .inl z => f_slices_Index_api_Proc_api_Proc_k1 z | .inr z => some z)
theorem slices_Index_api_Proc_api_Proc_ok (a0 : List Proc) (a1 : Proc) (r : Int) (h : f_slices_Index_api_Proc_api_Proc a0 a1 = some r) : PFn C 150 [.sl (a0.map Proc.enc), .agg (Proc.enc a1)] (.int .i64 r) := by
 refine pfn_intro ck_1k rfl fun E hG hN hK => ?_
 unfold pc_1k
 unfold f_slices_Index_api_Proc_api_Proc at h
 refine s_seq (g_reg hG ?_)
 refine s_seq (s_seq (g_reg hG ?_))
 refine s_blockJ (J1k_k1) (fun v => f_slices_Index_api_Proc_api_Proc_k1 v = some r) ?_ ?_
 · intro j1 h
   unfold f_slices_Index_api_Proc_api_Proc_k1 at h
   refine g_st ?_
   refine s_seq (g_reg hG ?_)
   refine g_ret ?_
   exact g_end h
 refine g_loop (I1k_l1 a0 a1) hK [(0, 0)] h (fun x_l1 h g1 y_l1 h_l1 hx_l1 => ?_)
 unfold f_slices_Index_api_Proc_api_Proc_l1 at h_l1
 refine g_st ?_
 refine s_seq (g_reg hG ?_)
 refine s_seq ?_
 refine g_cond rfl hG h_l1 (fun _ h_l1 => ?_) (fun _ h_l1 => ?_)
 · refine g_skip ?_
   refine s_seq (s_block (s_seq (g_reg hG ?_)))
   refine s_seq ?_
   obtain ⟨hb1, h_l1⟩ := gd_some h_l1
   refine g_regd C_mixed hG ?_
   refine g_cond rfl hG h_l1 (fun _ h_l1 => ?_) (fun _ h_l1 => ?_)
   · refine s_seq (g_reg hG ?_)
     refine g_ret ?_
     obtain rfl := Option.some.inj h_l1
     have hx := hx_l1 _ rfl
     subst hx
     try dsimp only at h
     exact g_end h
   refine g_skip ?_
   refine g_reg hG ?_
   exact g_next hK [(0, 0)] h_l1
 refine g_exit ?_
 obtain rfl := Option.some.inj h_l1
 have hx := hx_l1 _ rfl
 subst hx
 try dsimp only at h
 exact g_join hK [] () (by exact h)
attribute [local irreducible] f_slices_Index_api_Proc_api_Proc

noncomputable def f_slices_Contains_api_Proc_api_Proc (a0 : List Proc) (a1 : Proc) : Option (Bool) :=
 (f_slices_Index_api_Proc_api_Proc a0 a1).bind fun v1 =>
 some (decide (0 ≤ v1))
theorem slices_Contains_api_Proc_api_Proc_ok (a0 : List Proc) (a1 : Proc) (r : Bool) (h : f_slices_Contains_api_Proc_api_Proc a0 a1 = some r) : PFn C 136 [.sl (a0.map Proc.enc), .agg (Proc.enc a1)] (.bool r) := by
 refine pfn_intro ck_1l rfl fun E hG hN hK => ?_
 unfold pc_1l
 unfold f_slices_Contains_api_Proc_api_Proc at h
 refine s_seq (g_reg hG ?_)
 refine s_seq (g_reg hG ?_)
 obtain ⟨v1, hv1, h⟩ := bind_of h
 refine g_call (fun hg => slices_Index_api_Proc_api_Proc_ok a0 a1 _ (hv1)) ?_
 refine g_ret ?_
 exact g_end h
attribute [local irreducible] f_slices_Contains_api_Proc_api_Proc

noncomputable def f_ident_HasProc (a0 : List Proc) (a1 : Proc) : Option (Bool) :=
 (f_slices_Contains_api_Proc_api_Proc a0 a1).bind fun v1 =>
 some v1
theorem ident_HasProc_ok (a0 : List Proc) (a1 : Proc) (r : Bool) (h : f_ident_HasProc a0 a1 = some r) : PFn C 90 [.sl (a0.map Proc.enc), .agg (Proc.enc a1)] (.bool r) := by
 refine pfn_intro ck_1m rfl fun E hG hN hK => ?_
 unfold pc_1m
 unfold f_ident_HasProc at h
 refine s_seq (g_reg hG ?_)
 refine s_seq (g_reg hG ?_)
 obtain ⟨v1, hv1, h⟩ := bind_of h
 refine g_call (fun hg => slices_Contains_api_Proc_api_Proc_ok a0 a1 _ (hv1)) ?_
 refine g_ret ?_
 exact g_end h
attribute [local irreducible] f_ident_HasProc

noncomputable def f_queue_clone (a0 : Queue) : Option (Queue) :=
 gd (a0.holds.length ≤ 4294967296) <|
 gd (a0.converts.length ≤ 4294967296) <|
 gd (a0.waits.length ≤ 4294967296) <|
 some a0
theorem queue_clone_ok (a0 : Queue) (r : Queue) (h : f_queue_clone a0 = some r) : PFn C 77 [.agg (Queue.enc a0)] (.agg (Queue.enc r)) := by
 refine pfn_intro ck_1n rfl fun E hG hN hK => ?_
 unfold pc_1n
 unfold f_queue_clone at h
 refine s_seq (g_reg hG ?_)
 refine s_seq ?_
 obtain ⟨hb3, h⟩ := gd_some h
 refine g_reg hG ?_
 refine s_seq ?_
 obtain ⟨hb2, h⟩ := gd_some h
 refine g_reg hG ?_
 refine s_seq ?_
 obtain ⟨hb1, h⟩ := gd_some h
 refine g_reg hG ?_
 refine s_seq (g_reg hG ?_)
 refine g_ret ?_
 exact g_end h
attribute [local irreducible] f_queue_clone

noncomputable def f_queue_Remove_1_m (a0 : Queue) (a1 : Proc) : Option (Queue × Proc) :=
 (f_holders_Set a0.holds a1 ({ Amount.zero with  })).bind fun v1 =>
 some ({ a0 with holds := v1 }, a1)
theorem queue_Remove_1_m_okm (a0 : Queue) (a1 : Proc) (r : Queue × Proc) (h : f_queue_Remove_1_m a0 a1 = some r) : MFn C 91 [.ptr 0 0 0, .ptr 1 0 0] [(0, ⟨false, 8, (Queue.enc Queue.zero), [Queue.enc a0]⟩), (1, ⟨false, 3, (Proc.enc Proc.zero), [Proc.enc a1]⟩)] 2 (.tup []) [(0, ⟨false, 8, (Queue.enc Queue.zero), [Queue.enc r.1]⟩), (1, ⟨false, 3, (Proc.enc Proc.zero), [Proc.enc r.2]⟩)] 2 := by
 refine mfn_intro (rl := []) ck_1o rfl rfl rfl rfl fun E hG hN hK => ?_
 unfold pc_1o
 unfold f_queue_Remove_1_m at h
 refine g_reg hG ?_
 obtain ⟨v1, hv1, h⟩ := bind_of h
 refine g_call (fun hg => holders_Set_ok a0.holds a1 ({ Amount.zero with  }) _ (hv1)) ?_
 exact g_retm [(0, 0), (1, 1)] h
attribute [local irreducible] f_queue_Remove_1_m

noncomputable def f_line_Remove_k1 (a0 : List Wait) (j1 : (List Wait)) : Option ((List Wait) × Bool) :=
 some (j1, (decide (((j1.length : Nat) : Int) < (a0.length : Int))))
@[go_sem] def J1p_k1 (a0 : List Wait) (j1 : (List Wait)) : St := ⟨[(0, .sl (a0.map Wait.enc)), (6, .own 0 0 j1.length)], [(0, ⟨false, 7, (Wait.enc Wait.zero), j1.map Wait.enc⟩)], 1⟩
noncomputable def f_line_Remove_l1 (a0 : List Wait) (a1 : Proc) (g1 : Int × (List Wait)) : Option ((Int × (List Wait)) ⊕ (((List Wait)))) :=
 (if (decide (g1.1 < (a0.length : Int))) = true then
  gd (0 ≤ g1.1 ∧ g1.1 < (a0.length : Int)) <|
  (if (!decide ((a0.getD g1.1.toNat Wait.zero).proc = a1)) = true then
   gd (g1.2.length + 1 ≤ 4294967296) <|
   some (.inl ((IntKind.i64.wrap (g1.1 + 1)), (g1.2 ++ [(a0.getD g1.1.toNat Wait.zero)])))
  else
   some (.inl ((IntKind.i64.wrap (g1.1 + 1)), g1.2)))
 else
  some (.inr g1.2))
@[go_sem] def I1p_l1 (a0 : List Wait) (a1 : Proc) (g1 : Int × (List Wait)) : St := ⟨[(0, .sl (a0.map Wait.enc)), (3, .ptr 0 0 0), (6, .own 1 0 g1.2.length), (9, .sl (a0.map Wait.enc)), (10, .int .i64 (a0.length : Int)), (11, .int .i64 g1.1)], [(0, ⟨false, 3, (Proc.enc Proc.zero), [Proc.enc a1]⟩), (1, ⟨false, 7, (Wait.enc Wait.zero), g1.2.map Wait.enc⟩)], 2⟩
noncomputable def f_line_Remove (a0 : List Wait) (a1 : Proc) : Option ((List Wait) × Bool) :=
 (loopO (f_line_Remove_l1 a0 a1) (0, [])).bind (fun z => f_line_Remove_k1 a0 z)
theorem line_Remove_ok (a0 : List Wait) (a1 : Proc) (r : (List Wait) × Bool) (h : f_line_Remove a0 a1 = some r) : PFn C 94 [.sl (a0.map Wait.enc), .agg (Proc.enc a1)] (.tup [.sl (r.1.map Wait.enc), .bool r.2]) := by
 refine pfn_intro ck_1p rfl fun E hG hN hK => ?_
 unfold pc_1p
 unfold f_line_Remove at h
 refine s_seq (g_reg hG ?_)
 refine s_seq (g_reg hG ?_)
 refine s_seq (s_seq (g_reg hG ?_))
 refine s_blockJ (J1p_k1 a0) (fun v => f_line_Remove_k1 a0 v = some r) ?_ ?_
 · intro j1 h
   unfold f_line_Remove_k1 at h
   refine g_st ?_
   refine s_seq (g_reg hG ?_)
   refine g_ret ?_
   exact g_end h
 refine g_loop (I1p_l1 a0 a1) hK [(0, 0), (1, 1)] h (fun x_l1 h g1 y_l1 h_l1 hx_l1 => ?_)
 unfold f_line_Remove_l1 at h_l1
 refine g_st ?_
 refine s_seq (g_reg hG ?_)
 refine s_seq ?_
 refine g_cond rfl hG h_l1 (fun _ h_l1 => ?_) (fun _ h_l1 => ?_)
 · refine g_skip ?_
   refine s_seq (s_block (s_seq ?_))
   obtain ⟨hb2, h_l1⟩ := gd_some h_l1
   refine g_reg hG ?_
   refine s_seq (g_reg hG ?_)
   refine g_cond rfl hG h_l1 (fun _ h_l1 => ?_) (fun _ h_l1 => ?_)
   · obtain ⟨hb1, h_l1⟩ := gd_some h_l1
     refine g_reg hG ?_
     refine g_reg hG ?_
     exact g_next hK [(0, 0), (1, 3)] h_l1
   refine g_skip ?_
   refine g_reg hG ?_
   exact g_next hK [(0, 0), (1, 1)] h_l1
 refine g_exit ?_
 obtain rfl := Option.some.inj h_l1
 have hx := hx_l1 _ rfl
 subst hx
 try dsimp only at h
 exact g_join hK [(0, 1)] g1.2 (by exact h)
attribute [local irreducible] f_line_Remove

noncomputable def f_queue_Remove_2_m (a0 : Queue) (a1 : Proc) : Option (Queue × Proc) :=
 (f_line_Remove a0.converts a1).bind fun v1 =>
 some ({ a0 with converts := v1.1 }, a1)
theorem queue_Remove_2_m_okm (a0 : Queue) (a1 : Proc) (r : Queue × Proc) (h : f_queue_Remove_2_m a0 a1 = some r) : MFn C 93 [.ptr 0 0 0, .ptr 1 0 0] [(0, ⟨false, 8, (Queue.enc Queue.zero), [Queue.enc a0]⟩), (1, ⟨false, 3, (Proc.enc Proc.zero), [Proc.enc a1]⟩)] 2 (.tup []) [(0, ⟨false, 8, (Queue.enc Queue.zero), [Queue.enc r.1]⟩), (1, ⟨false, 3, (Proc.enc Proc.zero), [Proc.enc r.2]⟩)] 2 := by
 refine mfn_intro (rl := []) ck_1q rfl rfl rfl rfl fun E hG hN hK => ?_
 unfold pc_1q
 unfold f_queue_Remove_2_m at h
 refine g_reg hG ?_
 obtain ⟨v1, hv1, h⟩ := bind_of h
 refine g_call (fun hg => line_Remove_ok a0.converts a1 _ (hv1)) ?_
 exact g_retm [(0, 0), (1, 1)] h
attribute [local irreducible] f_queue_Remove_2_m

noncomputable def f_queue_Remove_3_m (a0 : Queue) (a1 : Proc) : Option (Queue × Proc) :=
 (f_line_Remove a0.waits a1).bind fun v1 =>
 some ({ a0 with waits := v1.1 }, a1)
theorem queue_Remove_3_m_okm (a0 : Queue) (a1 : Proc) (r : Queue × Proc) (h : f_queue_Remove_3_m a0 a1 = some r) : MFn C 95 [.ptr 0 0 0, .ptr 1 0 0] [(0, ⟨false, 8, (Queue.enc Queue.zero), [Queue.enc a0]⟩), (1, ⟨false, 3, (Proc.enc Proc.zero), [Proc.enc a1]⟩)] 2 (.tup []) [(0, ⟨false, 8, (Queue.enc Queue.zero), [Queue.enc r.1]⟩), (1, ⟨false, 3, (Proc.enc Proc.zero), [Proc.enc r.2]⟩)] 2 := by
 refine mfn_intro (rl := []) ck_1r rfl rfl rfl rfl fun E hG hN hK => ?_
 unfold pc_1r
 unfold f_queue_Remove_3_m at h
 refine g_reg hG ?_
 obtain ⟨v1, hv1, h⟩ := bind_of h
 refine g_call (fun hg => line_Remove_ok a0.waits a1 _ (hv1)) ?_
 exact g_retm [(0, 0), (1, 1)] h
attribute [local irreducible] f_queue_Remove_3_m

noncomputable def f_queue_finish_m2_k1  (j1 : Queue × Proc) : Option (Queue × (List Hold) × Int × Queue × Proc) :=
 (f_queue_advance_m j1.1).bind fun v1 =>
 some ({ v1.2 with gen := (f_ident_Next v1.2.gen) }, v1.1, 0, { v1.2 with gen := (f_ident_Next v1.2.gen) }, j1.2)
@[go_sem] def J1s_k1  (j1 : Queue × Proc) : St := ⟨[(0, .ptr 0 0 0), (4, .ptr 3 0 0)], [(0, ⟨false, 8, (Queue.enc Queue.zero), [Queue.enc j1.1]⟩), (1, ⟨false, 1, [A.any], [[.clo 91 [.ptr 0 0 0, .ptr 2 0 0]], [.clo 93 [.ptr 0 0 0, .ptr 2 0 0]], [.clo 95 [.ptr 0 0 0, .ptr 2 0 0]]]⟩), (2, ⟨false, 3, (Proc.enc Proc.zero), [Proc.enc j1.2]⟩), (3, ⟨false, 8, (Queue.enc Queue.zero), [Queue.enc Queue.zero]⟩)], 4⟩
noncomputable def f_queue_finish_m2 (a0 : Queue) (a1 : Proc) : Option (Queue × (List Hold) × Int × Queue × Proc) :=
 gd (0 ≤ 0 ∧ 0 < (3 : Int)) <|
 (f_queue_Remove_1_m a0 a1).bind fun v2 =>
 gd (0 ≤ 1 ∧ 1 < (3 : Int)) <|
 (f_queue_Remove_2_m v2.1 v2.2).bind fun v3 =>
 gd (0 ≤ 2 ∧ 2 < (3 : Int)) <|
 (f_queue_Remove_3_m v3.1 v3.2).bind fun v4 =>
 f_queue_finish_m2_k1 (v4.1, v4.2)
theorem queue_finish_m2_okm (a0 : Queue) (a1 : Proc) (r : Queue × (List Hold) × Int × Queue × Proc) (h : f_queue_finish_m2 a0 a1 = some r) : MFn C 80 [.ptr 0 0 0, .own 1 0 3] [(0, ⟨false, 8, (Queue.enc Queue.zero), [Queue.enc a0]⟩), (1, ⟨false, 1, [A.any], [[.clo 91 [.ptr 0 0 0, .ptr 2 0 0]], [.clo 93 [.ptr 0 0 0, .ptr 2 0 0]], [.clo 95 [.ptr 0 0 0, .ptr 2 0 0]]]⟩), (2, ⟨false, 3, (Proc.enc Proc.zero), [Proc.enc a1]⟩)] 3 (.tup [.agg (Queue.enc r.1), .sl (r.2.1.map Hold.enc), .int .i64 r.2.2.1]) [(0, ⟨false, 8, (Queue.enc Queue.zero), [Queue.enc r.2.2.2.1]⟩), (1, ⟨false, 1, [A.any], [[.clo 91 [.ptr 0 0 0, .ptr 2 0 0]], [.clo 93 [.ptr 0 0 0, .ptr 2 0 0]], [.clo 95 [.ptr 0 0 0, .ptr 2 0 0]]]⟩), (2, ⟨false, 3, (Proc.enc Proc.zero), [Proc.enc r.2.2.2.2]⟩)] 3 := by
 refine mfn_intro (rl := [.agg (Queue.enc r.1), .sl (r.2.1.map Hold.enc), .int .i64 r.2.2.1]) ck_1s rfl rfl rfl rfl fun E hG hN hK => ?_
 unfold pc_1s
 unfold f_queue_finish_m2 at h
 refine s_seq (g_reg hG ?_)
 refine s_seq (s_seq (g_reg hG ?_))
 refine s_blockJ (J1s_k1) (fun v => f_queue_finish_m2_k1 v = some r) ?_ ?_
 · intro j1 h
   unfold f_queue_finish_m2_k1 at h
   refine g_st ?_
   refine s_seq (g_reg hG ?_)
   obtain ⟨v1, hv1, h⟩ := bind_of h
   refine g_callm [(0, 0)] [] [0] (queue_advance_m_okm j1.1 _ hv1) rfl rfl ?_
   refine s_seq (g_reg hG ?_)
   refine g_call (fun hg => ident_Next_ok v1.2.gen) ?_
   refine s_seq (g_reg hG ?_)
   refine g_ret ?_
   exact g_retm [(0, 0), (1, 1), (2, 2)] h
 refine aw_unroll 5 ?_
 refine ul_succ ?_
 refine s_seq (g_reg hG ?_)
 refine s_seq ?_
 refine g_cond1 rfl hG ?_
 refine g_skip ?_
 refine s_seq (s_block (s_seq ?_))
 obtain ⟨hb3, h⟩ := gd_some h
 refine g_reg hG ?_
 refine g_reg hG ?_
 obtain ⟨v2, hv2, h⟩ := bind_of h
 refine g_callm [(0, 0), (1, 2)] [] [0, 1] (queue_Remove_1_m_okm a0 a1 _ hv2) rfl rfl ?_
 refine g_reg hG ?_
 refine ul_succ ?_
 refine s_seq (g_reg hG ?_)
 refine s_seq ?_
 refine g_cond1 rfl hG ?_
 refine g_skip ?_
 refine s_seq (s_block (s_seq ?_))
 obtain ⟨hb2, h⟩ := gd_some h
 refine g_reg hG ?_
 refine g_reg hG ?_
 obtain ⟨v3, hv3, h⟩ := bind_of h
 refine g_callm [(0, 0), (1, 2)] [] [0, 1] (queue_Remove_2_m_okm v2.1 v2.2 _ hv3) rfl rfl ?_
 refine g_reg hG ?_
 refine ul_succ ?_
 refine s_seq (g_reg hG ?_)
 refine s_seq ?_
 refine g_cond1 rfl hG ?_
 refine g_skip ?_
 refine s_seq (s_block (s_seq ?_))
 obtain ⟨hb1, h⟩ := gd_some h
 refine g_reg hG ?_
 refine g_reg hG ?_
 obtain ⟨v4, hv4, h⟩ := bind_of h
 refine g_callm [(0, 0), (1, 2)] [] [0, 1] (queue_Remove_3_m_okm v3.1 v3.2 _ hv4) rfl rfl ?_
 refine g_reg hG ?_
 refine ul_succ ?_
 refine s_seq (g_reg hG ?_)
 refine s_seq ?_
 refine g_cond0 rfl hG ?_
 refine g_exit ?_
 exact g_join hK [(0, 0), (1, 1), (2, 2), (3, 3)] (v4.1, v4.2) (by exact h)
attribute [local irreducible] f_queue_finish_m2

noncomputable def f_queue_Remove (a0 : Queue) (a1 : Proc) : Option (Queue × (List Hold) × Int) :=
 (f_queue_Valid a0).bind fun v1 =>
 (if (!v1) = true then
  some ({ Queue.zero with  }, [], 2)
 else
  (f_queue_Procs a0).bind fun v2 =>
  (f_ident_HasProc v2 a1).bind fun v3 =>
  (if (!v3) = true then
   some ({ Queue.zero with  }, [], 10)
  else
   (f_queue_clone a0).bind fun v4 =>
   (f_queue_finish_m2 v4 a1).bind fun v5 =>
   some (v5.1, v5.2.1, v5.2.2.1)))
theorem queue_Remove_ok (a0 : Queue) (a1 : Proc) (r : Queue × (List Hold) × Int) (h : f_queue_Remove a0 a1 = some r) : PFn C 33 [.agg (Queue.enc a0), .agg (Proc.enc a1)] (.tup [.agg (Queue.enc r.1), .sl (r.2.1.map Hold.enc), .int .i64 r.2.2]) := by
 refine pfn_intro ck_1t rfl fun E hG hN hK => ?_
 unfold pc_1t
 unfold f_queue_Remove at h
 refine s_seq (g_reg hG ?_)
 refine s_seq (s_seq (g_reg hG ?_))
 obtain ⟨v1, hv1, h⟩ := bind_of h
 refine g_call (fun hg => queue_Valid_ok a0 _ (hv1)) ?_
 refine g_cond rfl hG h (fun _ h => ?_) (fun _ h => ?_)
 · refine s_seq (g_reg hG ?_)
   refine g_ret ?_
   exact g_end h
 refine g_skip ?_
 refine s_seq (s_seq (g_regd C_mixed hG ?_))
 obtain ⟨v2, hv2, h⟩ := bind_of h
 refine g_calld (fun hg => queue_Procs_ok a0 _ (hv2)) ?_
 obtain ⟨v3, hv3, h⟩ := bind_of h
 refine g_calld (fun hg => ident_HasProc_ok v2 a1 _ (hv3)) ?_
 refine g_cond rfl hG h (fun _ h => ?_) (fun _ h => ?_)
 · refine s_seq (g_reg hG ?_)
   refine g_ret ?_
   exact g_end h
 refine g_skip ?_
 refine s_seq (g_reg hG ?_)
 obtain ⟨v4, hv4, h⟩ := bind_of h
 refine g_call (fun hg => queue_clone_ok a0 _ (hv4)) ?_
 refine s_seq (g_reg hG ?_)
 obtain ⟨v5, hv5, h⟩ := bind_of h
 refine g_callm [(0, 3), (1, 4), (2, 1)] [] [0, 1, 2] (queue_finish_m2_okm v4 a1 _ hv5) rfl rfl ?_
 refine g_ret ?_
 exact g_end h
attribute [local irreducible] f_queue_Remove

noncomputable def f_law12_awake  : Option (Bool) :=
 (f_mill_Proc 0).bind fun v1 =>
 (f_mill_Proc 1).bind fun v2 =>
 (f_mill_Proc 2).bind fun v3 =>
 (f_queue_New ({ Resource.zero with name := (⟨#[97]⟩ : ByteArray), kind := 1, units := 1 })).bind fun v4 =>
 (f_queue_Claim v4.1 v1 ({ Amount.zero with mode := 3 }) 0).bind fun v5 =>
 (f_queue_Claim v5.1 v2 ({ Amount.zero with mode := 3 }) 0).bind fun v6 =>
 (f_queue_Claim v6.1 v3 ({ Amount.zero with mode := 5 }) 0).bind fun v7 =>
 (f_queue_Claim v7.1 v1 ({ Amount.zero with mode := 5 }) 0).bind fun v8 =>
 (f_queue_Order v8.1).bind fun v9 =>
 (f_queue_Remove v8.1 v2).bind fun v10 =>
 gd (((((((((((decide (v4.2 = 0)) && (decide (v5.2.2 = 0))) && (decide (v6.2.2 = 0))) && (decide (v7.2.2 = 0))) && (decide (v8.2.2 = 0))) && (decide (v10.2.2 = 0))) && (decide ((v5.2.1.length : Int) = 1))) && (decide ((v6.2.1.length : Int) = 1))) && (decide ((v7.2.1.length : Int) = 0))) && (decide ((v9.length : Int) = 2))) = true → 0 ≤ 0 ∧ 0 < (v9.length : Int)) <|
 gd (((((((((((((decide (v4.2 = 0)) && (decide (v5.2.2 = 0))) && (decide (v6.2.2 = 0))) && (decide (v7.2.2 = 0))) && (decide (v8.2.2 = 0))) && (decide (v10.2.2 = 0))) && (decide ((v5.2.1.length : Int) = 1))) && (decide ((v6.2.1.length : Int) = 1))) && (decide ((v7.2.1.length : Int) = 0))) && (decide ((v9.length : Int) = 2))) && (decide ((v9.getD 0 Proc.zero) = v1))) && (decide ((v10.2.1.length : Int) = 1))) = true → 0 ≤ 0 ∧ 0 < (v10.2.1.length : Int)) <|
 ((if (((((((((((((decide (v4.2 = 0)) && (decide (v5.2.2 = 0))) && (decide (v6.2.2 = 0))) && (decide (v7.2.2 = 0))) && (decide (v8.2.2 = 0))) && (decide (v10.2.2 = 0))) && (decide ((v5.2.1.length : Int) = 1))) && (decide ((v6.2.1.length : Int) = 1))) && (decide ((v7.2.1.length : Int) = 0))) && (decide ((v9.length : Int) = 2))) && (decide ((v9.getD 0 Proc.zero) = v1))) && (decide ((v10.2.1.length : Int) = 1))) && (decide ((v10.2.1.getD 0 Hold.zero).proc = v1))) = true then f_queue_Held v10.1 v1 else some (Amount.zero))).bind fun v11 =>
 ((if ((((((((((((((decide (v4.2 = 0)) && (decide (v5.2.2 = 0))) && (decide (v6.2.2 = 0))) && (decide (v7.2.2 = 0))) && (decide (v8.2.2 = 0))) && (decide (v10.2.2 = 0))) && (decide ((v5.2.1.length : Int) = 1))) && (decide ((v6.2.1.length : Int) = 1))) && (decide ((v7.2.1.length : Int) = 0))) && (decide ((v9.length : Int) = 2))) && (decide ((v9.getD 0 Proc.zero) = v1))) && (decide ((v10.2.1.length : Int) = 1))) && (decide ((v10.2.1.getD 0 Hold.zero).proc = v1))) && (decide (v11.mode = 5))) = true then f_queue_Valid v10.1 else some (false))).bind fun v12 =>
 some (((((((((((((((decide (v4.2 = 0)) && (decide (v5.2.2 = 0))) && (decide (v6.2.2 = 0))) && (decide (v7.2.2 = 0))) && (decide (v8.2.2 = 0))) && (decide (v10.2.2 = 0))) && (decide ((v5.2.1.length : Int) = 1))) && (decide ((v6.2.1.length : Int) = 1))) && (decide ((v7.2.1.length : Int) = 0))) && (decide ((v9.length : Int) = 2))) && (decide ((v9.getD 0 Proc.zero) = v1))) && (decide ((v10.2.1.length : Int) = 1))) && (decide ((v10.2.1.getD 0 Hold.zero).proc = v1))) && (decide (v11.mode = 5))) && v12)
theorem law12_awake_ok  (r : Bool) (h : f_law12_awake = some r) : PFn C 18 [] (.bool r) := by
 refine pfn_intro ck_1u rfl fun E hG hN hK => ?_
 unfold pc_1u
 unfold f_law12_awake at h
 refine s_seq (g_reg hG ?_)
 refine s_seq (g_reg hG ?_)
 refine s_seq (g_reg hG ?_)
 obtain ⟨v1, hv1, h⟩ := bind_of h
 refine g_call (fun hg => mill_Proc_ok 0 _ (hv1)) ?_
 obtain ⟨v2, hv2, h⟩ := bind_of h
 refine g_call (fun hg => mill_Proc_ok 1 _ (hv2)) ?_
 obtain ⟨v3, hv3, h⟩ := bind_of h
 refine g_call (fun hg => mill_Proc_ok 2 _ (hv3)) ?_
 refine s_seq (g_reg hG ?_)
 obtain ⟨v4, hv4, h⟩ := bind_of h
 refine g_call (fun hg => queue_New_ok ({ Resource.zero with name := (⟨#[97]⟩ : ByteArray), kind := 1, units := 1 }) _ (hv4)) ?_
 refine s_seq (g_reg hG ?_)
 obtain ⟨v5, hv5, h⟩ := bind_of h
 refine g_call (fun hg => queue_Claim_ok v4.1 v1 ({ Amount.zero with mode := 3 }) 0 _ (hv5)) ?_
 refine s_seq (g_reg hG ?_)
 obtain ⟨v6, hv6, h⟩ := bind_of h
 refine g_call (fun hg => queue_Claim_ok v5.1 v2 ({ Amount.zero with mode := 3 }) 0 _ (hv6)) ?_
 refine s_seq (g_reg hG ?_)
 obtain ⟨v7, hv7, h⟩ := bind_of h
 refine g_call (fun hg => queue_Claim_ok v6.1 v3 ({ Amount.zero with mode := 5 }) 0 _ (hv7)) ?_
 refine s_seq (g_reg hG ?_)
 obtain ⟨v8, hv8, h⟩ := bind_of h
 refine g_call (fun hg => queue_Claim_ok v7.1 v1 ({ Amount.zero with mode := 5 }) 0 _ (hv8)) ?_
 refine s_seq (g_reg hG ?_)
 obtain ⟨v9, hv9, h⟩ := bind_of h
 refine g_call (fun hg => queue_Order_ok v8.1 _ (hv9)) ?_
 refine s_seq (g_reg hG ?_)
 obtain ⟨v10, hv10, h⟩ := bind_of h
 refine g_call (fun hg => queue_Remove_ok v8.1 v2 _ (hv10)) ?_
 refine s_seq ?_
 obtain ⟨hb1, h⟩ := gd_some h
 obtain ⟨hb2, h⟩ := gd_some h
 refine g_regd C_mixed hG ?_
 obtain ⟨v11, hv11, h⟩ := bind_of h
 refine g_calld (fun hg => queue_Held_ok v10.1 v1 _ (ite_t hg hv11)) ?_
 obtain ⟨v12, hv12, h⟩ := bind_of h
 refine g_calld (fun hg => queue_Valid_ok v10.1 _ (ite_t hg hv12)) ?_
 refine g_ret ?_
 exact g_end h
attribute [local irreducible] f_law12_awake

def f_ref05_Letter (a0 : Int) : Bool :=
 ((decide (97 ≤ a0)) && (decide (a0 ≤ 122)))
theorem ref05_Letter_ok (a0 : Int) : PFn C 142 [.int .u8 a0] (.bool (f_ref05_Letter a0)) := by
 generalize h : f_ref05_Letter a0 = r
 refine pfn_intro ck_1v rfl fun E hG hN hK => ?_
 unfold pc_1v
 unfold f_ref05_Letter at h
 refine s_seq (g_reg hG ?_)
 refine s_seq (g_reg hG ?_)
 refine g_ret ?_
 exact g_endT h

def f_ref05_Reserved (a0 : ByteArray) : Bool :=
 (((((a0.toList == (⟨#[97, 108, 108]⟩ : ByteArray).toList) || (a0.toList == (⟨#[97, 110, 121]⟩ : ByteArray).toList)) || (a0.toList == (⟨#[111, 102]⟩ : ByteArray).toList)) || (a0.toList == (⟨#[112, 114, 105, 111]⟩ : ByteArray).toList)) || (a0.toList == (⟨#[108, 105, 109, 105, 116]⟩ : ByteArray).toList))
theorem ref05_Reserved_ok (a0 : ByteArray) : PFn C 143 [.str a0] (.bool (f_ref05_Reserved a0)) := by
 generalize h : f_ref05_Reserved a0 = r
 refine pfn_intro ck_1w rfl fun E hG hN hK => ?_
 unfold pc_1w
 unfold f_ref05_Reserved at h
 refine s_seq (g_reg hG ?_)
 refine s_seq (g_reg hG ?_)
 refine g_ret ?_
 exact g_endT h

def f_ref05_Part (a0 : Int) : Bool :=
 ((((f_ref05_Letter a0) || ((decide (48 ≤ a0)) && (decide (a0 ≤ 57)))) || (decide (a0 = 95))) || (decide (a0 = 45)))
theorem ref05_Part_ok (a0 : Int) : PFn C 144 [.int .u8 a0] (.bool (f_ref05_Part a0)) := by
 generalize h : f_ref05_Part a0 = r
 refine pfn_intro ck_1x rfl fun E hG hN hK => ?_
 unfold pc_1x
 unfold f_ref05_Part at h
 refine s_seq (g_reg hG ?_)
 refine s_seq (g_reg hG ?_)
 refine g_call (fun hg => ref05_Letter_ok a0) ?_
 refine g_ret ?_
 exact g_endT h

noncomputable def f_ref05_ValidName_k1  (j1 : Unit) : Option (Bool) :=
 some true
@[go_sem] def J1y_k1  (j1 : Unit) : St := ⟨[], [], 0⟩
noncomputable def f_ref05_ValidName_l1 (a0 : ByteArray) (g1 : Int) : Option ((Int) ⊕ ((Unit) ⊕ (Bool))) :=
 (if (decide (g1 < (a0.size : Int))) = true then
  gd (0 ≤ g1 ∧ g1 < (a0.size : Int)) <|
  (if (!(f_ref05_Part ((a0.toList.getD g1.toNat 0).toNat : Int))) = true then
   some (.inr (.inr false))
  else
   some (.inl (IntKind.i64.wrap (g1 + 1))))
 else
  some (.inr (.inl ())))
@[go_sem] def I1y_l1 (a0 : ByteArray) (g1 : Int) : St := ⟨[(0, .str a0), (3, .int .i64 g1)], [], 0⟩
noncomputable def f_ref05_ValidName (a0 : ByteArray) : Option (Bool) :=
 gd ((!((decide ((a0.size : Int) < 1)) || (decide (12 < (a0.size : Int))))) = true → 0 ≤ 0 ∧ 0 < (a0.size : Int)) <|
 (if ((((decide ((a0.size : Int) < 1)) || (decide (12 < (a0.size : Int)))) || (!(f_ref05_Letter ((a0.toList.getD 0 0).toNat : Int)))) || (f_ref05_Reserved a0)) = true then
  some false
 else
  (loopO (f_ref05_ValidName_l1 a0) 0).bind (fun | .inl z => f_ref05_ValidName_k1 z | .inr z => some z))
theorem ref05_ValidName_ok (a0 : ByteArray) (r : Bool) (h : f_ref05_ValidName a0 = some r) : PFn C 118 [.str a0] (.bool r) := by
 refine pfn_intro ck_1y rfl fun E hG hN hK => ?_
 unfold pc_1y
 unfold f_ref05_ValidName at h
 refine s_seq (g_reg hG ?_)
 refine s_seq (s_seq ?_)
 obtain ⟨hb2, h⟩ := gd_some h
 refine g_reg hG ?_
 refine g_call (fun hg => ref05_Letter_ok ((a0.toList.getD 0 0).toNat : Int)) ?_
 refine g_call (fun hg => ref05_Reserved_ok a0) ?_
 refine g_cond rfl hG h (fun _ h => ?_) (fun _ h => ?_)
 · refine s_seq (g_reg hG ?_)
   refine g_ret ?_
   exact g_end h
 refine g_skip ?_
 refine s_seq (s_seq (g_reg hG ?_))
 refine s_blockJ (J1y_k1) (fun v => f_ref05_ValidName_k1 v = some r) ?_ ?_
 · intro j1 h
   unfold f_ref05_ValidName_k1 at h
   refine g_st ?_
   refine s_seq (g_reg hG ?_)
   refine g_ret ?_
   exact g_end h
 refine g_loop (I1y_l1 a0) hK [] h (fun x_l1 h g1 y_l1 h_l1 hx_l1 => ?_)
 unfold f_ref05_ValidName_l1 at h_l1
 refine g_st ?_
 refine s_seq (s_seq (g_reg hG ?_))
 refine g_cond rfl hG h_l1 (fun _ h_l1 => ?_) (fun _ h_l1 => ?_)
 · refine g_skip ?_
   refine s_seq (s_block (s_seq ?_))
   obtain ⟨hb1, h_l1⟩ := gd_some h_l1
   refine g_reg hG ?_
   refine g_call (fun hg => ref05_Part_ok ((a0.toList.getD g1.toNat 0).toNat : Int)) ?_
   refine g_cond rfl hG h_l1 (fun _ h_l1 => ?_) (fun _ h_l1 => ?_)
   · refine s_seq (g_reg hG ?_)
     refine g_ret ?_
     obtain rfl := Option.some.inj h_l1
     have hx := hx_l1 _ rfl
     subst hx
     try dsimp only at h
     exact g_end h
   refine g_skip ?_
   refine g_reg hG ?_
   exact g_next hK [] h_l1
 refine g_exit ?_
 obtain rfl := Option.some.inj h_l1
 have hx := hx_l1 _ rfl
 subst hx
 try dsimp only at h
 exact g_join hK [] () (by exact h)
attribute [local irreducible] f_ref05_ValidName

def f_ref04_Shaped (a0 : Resource) : Bool :=
 (((decide (a0.kind = 1)) && (decide (a0.units = 1))) || (((decide (a0.kind = 2)) && (decide (1 ≤ a0.units))) && (decide (a0.units ≤ 8))))
theorem ref04_Shaped_ok (a0 : Resource) : PFn C 112 [.agg (Resource.enc a0)] (.bool (f_ref04_Shaped a0)) := by
 generalize h : f_ref04_Shaped a0 = r
 refine pfn_intro ck_1z rfl fun E hG hN hK => ?_
 unfold pc_1z
 unfold f_ref04_Shaped at h
 refine s_seq (g_reg hG ?_)
 refine s_seq (g_reg hG ?_)
 refine g_ret ?_
 exact g_endT h

noncomputable def f_ref05_ValidResource (a0 : Resource) : Option (Bool) :=
 (f_ref05_ValidName a0.name).bind fun v1 =>
 some (((v1 && (f_ref04_Shaped a0)) && (decide (0 ≤ a0.home))) && (decide (a0.home < 4)))
theorem ref05_ValidResource_ok (a0 : Resource) (r : Bool) (h : f_ref05_ValidResource a0 = some r) : PFn C 61 [.agg (Resource.enc a0)] (.bool r) := by
 refine pfn_intro ck_20 rfl fun E hG hN hK => ?_
 unfold pc_20
 unfold f_ref05_ValidResource at h
 refine s_seq (g_reg hG ?_)
 refine s_seq (g_reg hG ?_)
 obtain ⟨v1, hv1, h⟩ := bind_of h
 refine g_call (fun hg => ref05_ValidName_ok a0.name _ (hv1)) ?_
 refine g_call (fun hg => ref04_Shaped_ok a0) ?_
 refine g_ret ?_
 exact g_end h
attribute [local irreducible] f_ref05_ValidResource

noncomputable def f_ref12_New (a0 : Resource) : Option (Queue × Int) :=
 (f_ref05_ValidResource a0).bind fun v1 =>
 (if (!v1) = true then
  some ({ Queue.zero with  }, 1)
 else
  some ({ Queue.zero with resource := a0 }, 0))
theorem ref12_New_ok (a0 : Resource) (r : Queue × Int) (h : f_ref12_New a0 = some r) : PFn C 20 [.agg (Resource.enc a0)] (.tup [.agg (Queue.enc r.1), .int .i64 r.2]) := by
 refine pfn_intro ck_21 rfl fun E hG hN hK => ?_
 unfold pc_21
 unfold f_ref12_New at h
 refine s_seq (g_reg hG ?_)
 refine s_seq (s_seq (g_reg hG ?_))
 obtain ⟨v1, hv1, h⟩ := bind_of h
 refine g_call (fun hg => ref05_ValidResource_ok a0 _ (hv1)) ?_
 refine g_cond rfl hG h (fun _ h => ?_) (fun _ h => ?_)
 · refine s_seq (g_reg hG ?_)
   refine g_ret ?_
   exact g_end h
 refine g_skip ?_
 refine s_seq (g_reg hG ?_)
 refine g_ret ?_
 exact g_end h
attribute [local irreducible] f_ref12_New

def f_ref02_ValidProc (a0 : Proc) : Bool :=
 ((((((decide (0 ≤ a0.site)) && (decide (a0.site < 4))) && (decide (1 ≤ a0.inc))) && (decide (a0.inc ≤ 99))) && (decide (1 ≤ a0.num))) && (decide (a0.num ≤ 999)))
theorem ref02_ValidProc_ok (a0 : Proc) : PFn C 85 [.agg (Proc.enc a0)] (.bool (f_ref02_ValidProc a0)) := by
 generalize h : f_ref02_ValidProc a0 = r
 refine pfn_intro ck_22 rfl fun E hG hN hK => ?_
 unfold pc_22
 unfold f_ref02_ValidProc at h
 refine s_seq (g_reg hG ?_)
 refine s_seq (g_reg hG ?_)
 refine g_ret ?_
 exact g_endT h

def f_ref03_Valid (a0 : Int) : Bool :=
 ((decide (1 ≤ a0)) && (decide (a0 ≤ 5)))
theorem ref03_Valid_ok (a0 : Int) : PFn C 124 [.int .i64 a0] (.bool (f_ref03_Valid a0)) := by
 generalize h : f_ref03_Valid a0 = r
 refine pfn_intro ck_23 rfl fun E hG hN hK => ?_
 unfold pc_23
 unfold f_ref03_Valid at h
 refine s_seq (g_reg hG ?_)
 refine s_seq (g_reg hG ?_)
 refine g_ret ?_
 exact g_endT h

def f_ref04_Fits (a0 : Resource) (a1 : Amount) : Bool :=
 (if (!(f_ref04_Shaped a0)) = true then
  false
 else
  (if (decide (a0.kind = 1)) = true then
   ((f_ref03_Valid a1.mode) && (decide (a1.units = 0)))
  else
   (((decide (a1.mode = 0)) && (decide (1 ≤ a1.units))) && (decide (a1.units ≤ a0.units)))))
theorem ref04_Fits_ok (a0 : Resource) (a1 : Amount) : PFn C 69 [.agg (Resource.enc a0), .agg (Amount.enc a1)] (.bool (f_ref04_Fits a0 a1)) := by
 generalize h : f_ref04_Fits a0 a1 = r
 refine pfn_intro ck_24 rfl fun E hG hN hK => ?_
 unfold pc_24
 unfold f_ref04_Fits at h
 refine s_seq (g_reg hG ?_)
 refine s_seq (s_seq (g_reg hG ?_))
 refine g_call (fun hg => ref04_Shaped_ok a0) ?_
 refine g_cond rfl hG h (fun _ h => ?_) (fun _ h => ?_)
 · refine s_seq (g_reg hG ?_)
   refine g_ret ?_
   exact g_endT h
 refine g_skip ?_
 refine s_seq (s_seq (g_reg hG ?_))
 refine g_cond rfl hG h (fun _ h => ?_) (fun _ h => ?_)
 · refine s_seq (g_reg hG ?_)
   refine g_call (fun hg => ref03_Valid_ok a1.mode) ?_
   refine g_ret ?_
   exact g_endT h
 refine g_skip ?_
 refine s_seq (g_reg hG ?_)
 refine g_ret ?_
 exact g_endT h

def f_ref02_Order (a0 : Int) (a1 : Int) : Int :=
 (if (decide (a0 < a1)) = true then
  (-1)
 else
  (if (decide (a1 < a0)) = true then
   1
  else
   0))
theorem ref02_Order_ok (a0 : Int) (a1 : Int) : PFn C 147 [.int .i64 a0, .int .i64 a1] (.int .i64 (f_ref02_Order a0 a1)) := by
 generalize h : f_ref02_Order a0 a1 = r
 refine pfn_intro ck_25 rfl fun E hG hN hK => ?_
 unfold pc_25
 unfold f_ref02_Order at h
 refine s_seq (g_reg hG ?_)
 refine s_seq (s_seq (g_reg hG ?_))
 refine g_cond rfl hG h (fun _ h => ?_) (fun _ h => ?_)
 · refine s_seq (g_reg hG ?_)
   refine g_ret ?_
   exact g_endT h
 refine g_skip ?_
 refine s_seq (s_seq (g_reg hG ?_))
 refine g_cond rfl hG h (fun _ h => ?_) (fun _ h => ?_)
 · refine s_seq (g_reg hG ?_)
   refine g_ret ?_
   exact g_endT h
 refine g_skip ?_
 refine s_seq (g_reg hG ?_)
 refine g_ret ?_
 exact g_endT h

def f_ref02_CompareProc (a0 : Proc) (a1 : Proc) : Int :=
 (if (!decide ((f_ref02_Order a0.site a1.site) = 0)) = true then
  (f_ref02_Order a0.site a1.site)
 else
  (if (!decide ((f_ref02_Order a0.inc a1.inc) = 0)) = true then
   (f_ref02_Order a0.inc a1.inc)
  else
   (f_ref02_Order a0.num a1.num)))
theorem ref02_CompareProc_ok (a0 : Proc) (a1 : Proc) : PFn C 122 [.agg (Proc.enc a0), .agg (Proc.enc a1)] (.int .i64 (f_ref02_CompareProc a0 a1)) := by
 generalize h : f_ref02_CompareProc a0 a1 = r
 refine pfn_intro ck_26 rfl fun E hG hN hK => ?_
 unfold pc_26
 unfold f_ref02_CompareProc at h
 refine s_seq (g_reg hG ?_)
 refine s_seq (s_seq (g_reg hG ?_))
 refine g_call (fun hg => ref02_Order_ok a0.site a1.site) ?_
 refine s_seq (g_reg hG ?_)
 refine g_cond rfl hG h (fun _ h => ?_) (fun _ h => ?_)
 · refine s_seq (g_reg hG ?_)
   refine g_ret ?_
   exact g_endT h
 refine g_skip ?_
 refine s_seq (s_seq (g_reg hG ?_))
 refine g_call (fun hg => ref02_Order_ok a0.inc a1.inc) ?_
 refine s_seq (g_reg hG ?_)
 refine g_cond rfl hG h (fun _ h => ?_) (fun _ h => ?_)
 · refine s_seq (g_reg hG ?_)
   refine g_ret ?_
   exact g_endT h
 refine g_skip ?_
 refine s_seq (g_reg hG ?_)
 refine g_call (fun hg => ref02_Order_ok a0.num a1.num) ?_
 refine g_ret ?_
 exact g_endT h

noncomputable def f_ref10_Amounts_k1  (j1 : (List Amount)) : Option ((List Amount)) :=
 some j1
@[go_sem] def J27_k1  (j1 : (List Amount)) : St := ⟨[(3, .own 0 0 j1.length)], [(0, ⟨false, 2, (Amount.enc Amount.zero), j1.map Amount.enc⟩)], 1⟩
noncomputable def f_ref10_Amounts_l1 (a0 : List Hold) (g1 : Int × (List Amount)) : Option ((Int × (List Amount)) ⊕ (((List Amount)))) :=
 (if (decide (g1.1 < (a0.length : Int))) = true then
  gd (0 ≤ g1.1 ∧ g1.1 < (a0.length : Int)) <|
  gd (g1.2.length + 1 ≤ 4294967296) <|
  some (.inl ((IntKind.i64.wrap (g1.1 + 1)), (g1.2 ++ [(a0.getD g1.1.toNat Hold.zero).amount])))
 else
  some (.inr g1.2))
@[go_sem] def I27_l1 (a0 : List Hold) (g1 : Int × (List Amount)) : St := ⟨[(0, .sl (a0.map Hold.enc)), (3, .own 0 0 g1.2.length), (4, .int .i64 g1.1)], [(0, ⟨false, 2, (Amount.enc Amount.zero), g1.2.map Amount.enc⟩)], 1⟩
noncomputable def f_ref10_Amounts (a0 : List Hold) : Option ((List Amount)) :=
 (loopO (f_ref10_Amounts_l1 a0) (0, [])).bind (fun z => f_ref10_Amounts_k1 z)
theorem ref10_Amounts_ok (a0 : List Hold) (r : (List Amount)) (h : f_ref10_Amounts a0 = some r) : PFn C 56 [.sl (a0.map Hold.enc)] (.sl (r.map Amount.enc)) := by
 refine pfn_intro ck_27 rfl fun E hG hN hK => ?_
 unfold pc_27
 unfold f_ref10_Amounts at h
 refine s_seq (g_reg hG ?_)
 refine s_seq (g_reg hG ?_)
 refine s_seq (s_seq (g_reg hG ?_))
 refine s_blockJ (J27_k1) (fun v => f_ref10_Amounts_k1 v = some r) ?_ ?_
 · intro j1 h
   unfold f_ref10_Amounts_k1 at h
   refine g_st ?_
   refine s_seq (g_reg hG ?_)
   refine g_ret ?_
   exact g_end h
 refine g_loop (I27_l1 a0) hK [(0, 0)] h (fun x_l1 h g1 y_l1 h_l1 hx_l1 => ?_)
 unfold f_ref10_Amounts_l1 at h_l1
 refine g_st ?_
 refine s_seq (s_seq (g_reg hG ?_))
 refine g_cond rfl hG h_l1 (fun _ h_l1 => ?_) (fun _ h_l1 => ?_)
 · refine g_skip ?_
   refine s_seq (s_block ?_)
   obtain ⟨hb1, h_l1⟩ := gd_some h_l1
   obtain ⟨hb2, h_l1⟩ := gd_some h_l1
   refine g_reg hG ?_
   refine g_reg hG ?_
   exact g_next hK [(0, 1)] h_l1
 refine g_exit ?_
 obtain rfl := Option.some.inj h_l1
 have hx := hx_l1 _ rfl
 subst hx
 try dsimp only at h
 exact g_join hK [(0, 0)] g1.2 (by exact h)
attribute [local irreducible] f_ref10_Amounts

def f_ref04_Zero (a0 : Amount) : Bool :=
 (decide (a0 = { Amount.zero with  }))
theorem ref04_Zero_ok (a0 : Amount) : PFn C 68 [.agg (Amount.enc a0)] (.bool (f_ref04_Zero a0)) := by
 generalize h : f_ref04_Zero a0 = r
 refine pfn_intro ck_28 rfl fun E hG hN hK => ?_
 unfold pc_28
 unfold f_ref04_Zero at h
 refine s_seq (g_reg hG ?_)
 refine s_seq (g_reg hG ?_)
 refine g_ret ?_
 exact g_endT h

def f_ref04_Permitted (a0 : Resource) (a1 : Amount) : Bool :=
 ((f_ref04_Shaped a0) && ((f_ref04_Zero a1) || (f_ref04_Fits a0 a1)))
theorem ref04_Permitted_ok (a0 : Resource) (a1 : Amount) : PFn C 96 [.agg (Resource.enc a0), .agg (Amount.enc a1)] (.bool (f_ref04_Permitted a0 a1)) := by
 generalize h : f_ref04_Permitted a0 a1 = r
 refine pfn_intro ck_29 rfl fun E hG hN hK => ?_
 unfold pc_29
 unfold f_ref04_Permitted at h
 refine s_seq (g_reg hG ?_)
 refine s_seq (g_reg hG ?_)
 refine g_call (fun hg => ref04_Shaped_ok a0) ?_
 refine g_call (fun hg => ref04_Zero_ok a1) ?_
 refine g_call (fun hg => ref04_Fits_ok a0 a1) ?_
 refine g_ret ?_
 exact g_endT h

def f_ref03_Compatible (a0 : Int) (a1 : Int) : Bool :=
 (if ((((!(f_ref03_Valid a0)) || (!(f_ref03_Valid a1))) || (decide (a0 = 5))) || (decide (a1 = 5))) = true then
  false
 else
  (((decide (a0 = 1)) || (decide (a1 = 1))) || ((decide (a0 = a1)) && (!decide (a0 = 4)))))
theorem ref03_Compatible_ok (a0 : Int) (a1 : Int) : PFn C 113 [.int .i64 a0, .int .i64 a1] (.bool (f_ref03_Compatible a0 a1)) := by
 generalize h : f_ref03_Compatible a0 a1 = r
 refine pfn_intro ck_2a rfl fun E hG hN hK => ?_
 unfold pc_2a
 unfold f_ref03_Compatible at h
 refine s_seq (g_reg hG ?_)
 refine s_seq (s_seq (g_reg hG ?_))
 refine g_call (fun hg => ref03_Valid_ok a0) ?_
 refine g_call (fun hg => ref03_Valid_ok a1) ?_
 refine g_cond rfl hG h (fun _ h => ?_) (fun _ h => ?_)
 · refine s_seq (g_reg hG ?_)
   refine g_ret ?_
   exact g_endT h
 refine g_skip ?_
 refine s_seq (g_reg hG ?_)
 refine g_ret ?_
 exact g_endT h
end Ab
end Go.Proofs.YtdflfohpemfeiaaGreatDoor
