/-
  Functions of the program, as Lean functions; what the program's code computes is what they say.
-/
import Derived.Test.YtdflfohpemfeiaaGreatDoorFn2
namespace Go.Proofs.YtdflfohpemfeiaaGreatDoor
namespace Ab
set_option linter.unusedSimpArgs false
set_option linter.unusedVariables false
set_option maxRecDepth 100000
set_option maxHeartbeats 1000000

attribute [local irreducible] f_mill_Mod f_mill_Proc f_catalog_ValidName f_catalog_ValidResource f_queue_New f_ident_compare f_ident_CompareProc f_mode_Compatible f_amount_Compatible f_holders_Valid f_holders_Get f_queue_Held f_line_Find f_mode_Covers f_amount_Covers f_queue_soundConverts f_line_Valid f_queue_soundWaits f_queue_Sound f_queue_head f_holders_proper f_holders_Set f_holders_Room f_queue_Settled f_queue_Valid f_slices_Grow_api_Wait_api_Wait_m f_slices_Concat_api_Wait_api_Wait f_queue_order f_queue_Wanted f_queue_clone_m f_mode_Sup f_amount_Join f_queue_Claim_1_m f_queue_advance_m f_queue_finish_m f_line_Insert f_queue_Claim_2_m f_queue_finish_m1 f_queue_Claim f_queue_Order f_holders_Procs_m f_slices_SortFunc_api_Proc_api_Proc_m f_slices_Compact_api_Proc_api_Proc_m f_ident_SortProcs f_queue_Procs f_slices_Index_api_Proc_api_Proc f_slices_Contains_api_Proc_api_Proc f_ident_HasProc f_queue_clone f_queue_Remove_1_m f_line_Remove f_queue_Remove_2_m f_queue_Remove_3_m f_queue_finish_m2 f_queue_Remove f_law12_awake f_ref05_ValidName f_ref05_ValidResource f_ref12_New f_ref10_Amounts

noncomputable def f_ref04_Compatible_k1  (j1 : Unit) : Option (Bool) :=
 some true
@[go_sem] def J2b_k1  (j1 : Unit) : St := ⟨[], [], 0⟩
noncomputable def f_ref04_Compatible_k2 (g1 : Int × Int) (j2 : Unit) : Option ((Int × Int) ⊕ ((Unit) ⊕ (Bool))) :=
 some (.inl (g1.1, (IntKind.i64.wrap (g1.2 + 1))))
@[go_sem] def J2b_k2 (a0 : Resource) (a1 : List Amount) (g1 : Int × Int) (j2 : Unit) : St := ⟨[(1, .sl (a1.map Amount.enc)), (2, .ptr 0 0 0), (5, .int .i64 g1.1), (6, .int .i64 g1.2)], [(0, ⟨false, 4, (Resource.enc Resource.zero), [Resource.enc a0]⟩)], 1⟩
noncomputable def f_ref04_Compatible_l2 (a1 : List Amount) (g1 : Int × Int) (g2 : Int) : Option ((Int) ⊕ ((Unit) ⊕ (Bool))) :=
 (if (decide (g2 < g1.2)) = true then
  gd (0 ≤ g1.2 ∧ g1.2 < (a1.length : Int)) <|
  gd ((!(f_ref04_Zero (a1.getD g1.2.toNat Amount.zero))) = true → 0 ≤ g2 ∧ g2 < (a1.length : Int)) <|
  gd (((!(f_ref04_Zero (a1.getD g1.2.toNat Amount.zero))) && (!(f_ref04_Zero (a1.getD g2.toNat Amount.zero)))) = true → 0 ≤ g1.2 ∧ g1.2 < (a1.length : Int)) <|
  gd (((!(f_ref04_Zero (a1.getD g1.2.toNat Amount.zero))) && (!(f_ref04_Zero (a1.getD g2.toNat Amount.zero)))) = true → 0 ≤ g2 ∧ g2 < (a1.length : Int)) <|
  (if (((!(f_ref04_Zero (a1.getD g1.2.toNat Amount.zero))) && (!(f_ref04_Zero (a1.getD g2.toNat Amount.zero)))) && (!(f_ref03_Compatible ((a1.getD g1.2.toNat Amount.zero).mode) ((a1.getD g2.toNat Amount.zero).mode)))) = true then
   some (.inr (.inr false))
  else
   some (.inl (IntKind.i64.wrap (g2 + 1))))
 else
  some (.inr (.inl ())))
@[go_sem] def I2b_l2 (a0 : Resource) (a1 : List Amount) (g1 : Int × Int) (g2 : Int) : St := ⟨[(1, .sl (a1.map Amount.enc)), (2, .ptr 0 0 0), (5, .int .i64 g1.1), (6, .int .i64 g1.2), (7, .int .i64 g2)], [(0, ⟨false, 4, (Resource.enc Resource.zero), [Resource.enc a0]⟩)], 1⟩
noncomputable def f_ref04_Compatible_l1 (a0 : Resource) (a1 : List Amount) (g1 : Int × Int) : Option ((Int × Int) ⊕ ((Unit) ⊕ (Bool))) :=
 (if (decide (g1.2 < (a1.length : Int))) = true then
  gd (0 ≤ g1.2 ∧ g1.2 < (a1.length : Int)) <|
  (if (!(f_ref04_Permitted a0 (a1.getD g1.2.toNat Amount.zero))) = true then
   some (.inr (.inr false))
  else
   (if (decide (a0.kind = 2)) = true then
    gd (0 ≤ g1.2 ∧ g1.2 < (a1.length : Int)) <|
    (if (decide (a0.units < (IntKind.i64.wrap (g1.1 + (a1.getD g1.2.toNat Amount.zero).units)))) = true then
     some (.inr (.inr false))
    else
     some (.inl ((IntKind.i64.wrap (g1.1 + (a1.getD g1.2.toNat Amount.zero).units)), (IntKind.i64.wrap (g1.2 + 1)))))
   else
    (loopO (f_ref04_Compatible_l2 a1 g1) 0).bind (fun | .inl z => f_ref04_Compatible_k2 g1 z | .inr z => some (.inr (.inr z)))))
 else
  some (.inr (.inl ())))
@[go_sem] def I2b_l1 (a0 : Resource) (a1 : List Amount) (g1 : Int × Int) : St := ⟨[(1, .sl (a1.map Amount.enc)), (2, .ptr 0 0 0), (5, .int .i64 g1.1), (6, .int .i64 g1.2)], [(0, ⟨false, 4, (Resource.enc Resource.zero), [Resource.enc a0]⟩)], 1⟩
noncomputable def f_ref04_Compatible (a0 : Resource) (a1 : List Amount) : Option (Bool) :=
 (if (!(f_ref04_Shaped a0)) = true then
  some false
 else
  (loopO (f_ref04_Compatible_l1 a0 a1) (0, 0)).bind (fun | .inl z => f_ref04_Compatible_k1 z | .inr z => some z))
theorem ref04_Compatible_ok (a0 : Resource) (a1 : List Amount) (r : Bool) (h : f_ref04_Compatible a0 a1 = some r) : PFn C 55 [.agg (Resource.enc a0), .sl (a1.map Amount.enc)] (.bool r) := by
 refine pfn_intro ck_2b rfl fun E hG hN hK => ?_
 unfold pc_2b
 unfold f_ref04_Compatible at h
 refine s_seq (g_reg hG ?_)
 refine s_seq (s_seq (g_reg hG ?_))
 refine g_call (fun hg => ref04_Shaped_ok a0) ?_
 refine g_cond rfl hG h (fun _ h => ?_) (fun _ h => ?_)
 · refine s_seq (g_reg hG ?_)
   refine g_ret ?_
   exact g_end h
 refine g_skip ?_
 refine s_seq (g_reg hG ?_)
 refine s_seq (s_seq (g_reg hG ?_))
 refine s_blockJ (J2b_k1) (fun v => f_ref04_Compatible_k1 v = some r) ?_ ?_
 · intro j1 h
   unfold f_ref04_Compatible_k1 at h
   refine g_st ?_
   refine s_seq (g_reg hG ?_)
   refine g_ret ?_
   exact g_end h
 refine g_loop (I2b_l1 a0 a1) hK [(0, 0)] h (fun x_l1 h g1 y_l1 h_l1 hx_l1 => ?_)
 unfold f_ref04_Compatible_l1 at h_l1
 refine g_st ?_
 refine s_seq (s_seq (g_reg hG ?_))
 refine g_cond rfl hG h_l1 (fun _ h_l1 => ?_) (fun _ h_l1 => ?_)
 · refine g_skip ?_
   refine s_seq (s_block (s_seq (s_seq ?_)))
   obtain ⟨hb6, h_l1⟩ := gd_some h_l1
   refine g_regd C_mixed hG ?_
   refine g_calld (fun hg => ref04_Permitted_ok a0 (a1.getD g1.2.toNat Amount.zero)) ?_
   refine g_cond rfl hG h_l1 (fun _ h_l1 => ?_) (fun _ h_l1 => ?_)
   · refine s_seq (g_reg hG ?_)
     refine g_ret ?_
     obtain rfl := Option.some.inj h_l1
     have hx := hx_l1 _ rfl
     subst hx
     try dsimp only at h
     exact g_end h
   refine g_skip ?_
   refine s_seq (s_seq (g_reg hG ?_))
   refine g_cond rfl hG h_l1 (fun _ h_l1 => ?_) (fun _ h_l1 => ?_)
   · refine s_seq ?_
     obtain ⟨hb1, h_l1⟩ := gd_some h_l1
     refine g_reg hG ?_
     refine s_seq (s_seq (g_reg hG ?_))
     refine g_cond rfl hG h_l1 (fun _ h_l1 => ?_) (fun _ h_l1 => ?_)
     · refine s_seq (g_reg hG ?_)
       refine g_ret ?_
       obtain rfl := Option.some.inj h_l1
       have hx := hx_l1 _ rfl
       subst hx
       try dsimp only at h
       exact g_end h
     refine g_skip ?_
     refine g_exit ?_
     refine g_reg hG ?_
     exact g_next hK [(0, 0)] h_l1
   refine g_skip ?_
   refine s_seq (g_reg hG ?_)
   refine s_blockJ (J2b_k2 a0 a1 g1) (fun v => f_ref04_Compatible_k2 g1 v = some y_l1) ?_ ?_
   · intro j2 h_l1
     unfold f_ref04_Compatible_k2 at h_l1
     refine g_st ?_
     refine g_reg hG ?_
     exact g_next hK [(0, 0)] h_l1
   refine g_loop (I2b_l2 a0 a1 g1) hK [(0, 0)] h_l1 (fun x_l2 h_l1 g2 y_l2 h_l2 hx_l2 => ?_)
   unfold f_ref04_Compatible_l2 at h_l2
   refine g_st ?_
   refine s_seq (s_seq (g_reg hG ?_))
   refine g_cond rfl hG h_l2 (fun _ h_l2 => ?_) (fun _ h_l2 => ?_)
   · refine g_skip ?_
     refine s_seq (s_block (s_seq ?_))
     obtain ⟨hb2, h_l2⟩ := gd_some h_l2
     refine g_regd C_mixed hG ?_
     obtain ⟨hb3, h_l2⟩ := gd_some h_l2
     refine g_calld (fun hg => ref04_Zero_ok (a1.getD g1.2.toNat Amount.zero)) ?_
     obtain ⟨hb4, h_l2⟩ := gd_some h_l2
     obtain ⟨hb5, h_l2⟩ := gd_some h_l2
     refine g_calld (fun hg => ref04_Zero_ok (a1.getD g2.toNat Amount.zero)) ?_
     refine g_calld (fun hg => ref03_Compatible_ok ((a1.getD g1.2.toNat Amount.zero).mode) ((a1.getD g2.toNat Amount.zero).mode)) ?_
     refine g_cond rfl hG h_l2 (fun _ h_l2 => ?_) (fun _ h_l2 => ?_)
     · refine s_seq (g_reg hG ?_)
       refine g_ret ?_
       obtain rfl := Option.some.inj h_l2
       have hx := hx_l2 _ rfl
       subst hx
       try dsimp only at h_l1
       obtain rfl := Option.some.inj h_l1
       have hx := hx_l1 _ rfl
       subst hx
       try dsimp only at h
       exact g_end h
     refine g_skip ?_
     refine g_reg hG ?_
     exact g_next hK [(0, 0)] h_l2
   refine g_exit ?_
   obtain rfl := Option.some.inj h_l2
   have hx := hx_l2 _ rfl
   subst hx
   try dsimp only at h_l1
   exact g_join hK [(0, 0)] () (by exact h_l1)
 refine g_exit ?_
 obtain rfl := Option.some.inj h_l1
 have hx := hx_l1 _ rfl
 subst hx
 try dsimp only at h
 exact g_join hK [] () (by exact h)
attribute [local irreducible] f_ref04_Compatible

noncomputable def f_ref10_Valid_k1 (a0 : Resource) (a1 : List Hold) (j1 : Unit) : Option (Bool) :=
 (f_ref10_Amounts a1).bind fun v1 =>
 (f_ref04_Compatible a0 v1).bind fun v2 =>
 some v2
@[go_sem] def J2c_k1 (a0 : Resource) (a1 : List Hold) (j1 : Unit) : St := ⟨[(1, .sl (a1.map Hold.enc)), (2, .ptr 0 0 0)], [(0, ⟨false, 4, (Resource.enc Resource.zero), [Resource.enc a0]⟩)], 1⟩
noncomputable def f_ref10_Valid_l1 (a0 : Resource) (a1 : List Hold) (g1 : Int) : Option ((Int) ⊕ ((Unit) ⊕ (Bool))) :=
 (if (decide (g1 < (a1.length : Int))) = true then
  gd (0 ≤ g1 ∧ g1 < (a1.length : Int)) <|
  gd ((f_ref02_ValidProc ((a1.getD g1.toNat Hold.zero).proc)) = true → 0 ≤ g1 ∧ g1 < (a1.length : Int)) <|
  gd (((!((!(f_ref02_ValidProc ((a1.getD g1.toNat Hold.zero).proc))) || (!(f_ref04_Fits a0 ((a1.getD g1.toNat Hold.zero).amount))))) && (decide (0 < g1))) = true → 0 ≤ (IntKind.i64.wrap (g1 - 1)) ∧ (IntKind.i64.wrap (g1 - 1)) < (a1.length : Int)) <|
  gd (((!((!(f_ref02_ValidProc ((a1.getD g1.toNat Hold.zero).proc))) || (!(f_ref04_Fits a0 ((a1.getD g1.toNat Hold.zero).amount))))) && (decide (0 < g1))) = true → 0 ≤ g1 ∧ g1 < (a1.length : Int)) <|
  (if (((!(f_ref02_ValidProc ((a1.getD g1.toNat Hold.zero).proc))) || (!(f_ref04_Fits a0 ((a1.getD g1.toNat Hold.zero).amount)))) || ((decide (0 < g1)) && (decide (0 ≤ (f_ref02_CompareProc ((a1.getD ((IntKind.i64.wrap (g1 - 1)).toNat) Hold.zero).proc) ((a1.getD g1.toNat Hold.zero).proc)))))) = true then
   some (.inr (.inr false))
  else
   some (.inl (IntKind.i64.wrap (g1 + 1))))
 else
  some (.inr (.inl ())))
@[go_sem] def I2c_l1 (a0 : Resource) (a1 : List Hold) (g1 : Int) : St := ⟨[(1, .sl (a1.map Hold.enc)), (2, .ptr 0 0 0), (5, .int .i64 g1)], [(0, ⟨false, 4, (Resource.enc Resource.zero), [Resource.enc a0]⟩)], 1⟩
noncomputable def f_ref10_Valid (a0 : Resource) (a1 : List Hold) : Option (Bool) :=
 (if ((!(f_ref04_Shaped a0)) || (decide (8 < (a1.length : Int)))) = true then
  some false
 else
  (loopO (f_ref10_Valid_l1 a0 a1) 0).bind (fun | .inl z => f_ref10_Valid_k1 a0 a1 z | .inr z => some z))
theorem ref10_Valid_ok (a0 : Resource) (a1 : List Hold) (r : Bool) (h : f_ref10_Valid a0 a1 = some r) : PFn C 65 [.agg (Resource.enc a0), .sl (a1.map Hold.enc)] (.bool r) := by
 refine pfn_intro ck_2c rfl fun E hG hN hK => ?_
 unfold pc_2c
 unfold f_ref10_Valid at h
 refine s_seq (g_reg hG ?_)
 refine s_seq (s_seq (g_reg hG ?_))
 refine g_call (fun hg => ref04_Shaped_ok a0) ?_
 refine g_cond rfl hG h (fun _ h => ?_) (fun _ h => ?_)
 · refine s_seq (g_reg hG ?_)
   refine g_ret ?_
   exact g_end h
 refine g_skip ?_
 refine s_seq (s_seq (g_reg hG ?_))
 refine s_blockJ (J2c_k1 a0 a1) (fun v => f_ref10_Valid_k1 a0 a1 v = some r) ?_ ?_
 · intro j1 h
   unfold f_ref10_Valid_k1 at h
   refine g_st ?_
   refine s_seq (g_regd C_mixed hG ?_)
   obtain ⟨v1, hv1, h⟩ := bind_of h
   refine g_calld (fun hg => ref10_Amounts_ok a1 _ (hv1)) ?_
   obtain ⟨v2, hv2, h⟩ := bind_of h
   refine g_calld (fun hg => ref04_Compatible_ok a0 v1 _ (hv2)) ?_
   refine g_ret ?_
   exact g_end h
 refine g_loop (I2c_l1 a0 a1) hK [(0, 0)] h (fun x_l1 h g1 y_l1 h_l1 hx_l1 => ?_)
 unfold f_ref10_Valid_l1 at h_l1
 refine g_st ?_
 refine s_seq (s_seq (g_reg hG ?_))
 refine g_cond rfl hG h_l1 (fun _ h_l1 => ?_) (fun _ h_l1 => ?_)
 · refine g_skip ?_
   refine s_seq (s_block (s_seq ?_))
   obtain ⟨hb1, h_l1⟩ := gd_some h_l1
   refine g_regd C_mixed hG ?_
   obtain ⟨hb2, h_l1⟩ := gd_some h_l1
   refine g_calld (fun hg => ref02_ValidProc_ok ((a1.getD g1.toNat Hold.zero).proc)) ?_
   obtain ⟨hb3, h_l1⟩ := gd_some h_l1
   obtain ⟨hb4, h_l1⟩ := gd_some h_l1
   refine g_calld (fun hg => ref04_Fits_ok a0 ((a1.getD g1.toNat Hold.zero).amount)) ?_
   refine g_calld (fun hg => ref02_CompareProc_ok ((a1.getD ((IntKind.i64.wrap (g1 - 1)).toNat) Hold.zero).proc) ((a1.getD g1.toNat Hold.zero).proc)) ?_
   refine g_cond rfl hG h_l1 (fun _ h_l1 => ?_) (fun _ h_l1 => ?_)
   · refine s_seq (g_reg hG ?_)
     refine g_ret ?_
     obtain rfl := Option.some.inj h_l1
     have hx := hx_l1 _ rfl
     subst hx
     try dsimp only at h
     exact g_end h
   refine g_skip ?_
   refine g_reg hG ?_
   exact g_next hK [(0, 0)] h_l1
 refine g_exit ?_
 obtain rfl := Option.some.inj h_l1
 have hx := hx_l1 _ rfl
 subst hx
 try dsimp only at h
 exact g_join hK [(0, 0)] () (by exact h)
attribute [local irreducible] f_ref10_Valid

def f_ref07_Usable (a0 : Amount) : Bool :=
 (((f_ref03_Valid a0.mode) && (decide (a0.units = 0))) || (((decide (a0.mode = 0)) && (decide (1 ≤ a0.units))) && (decide (a0.units ≤ 8))))
theorem ref07_Usable_ok (a0 : Amount) : PFn C 148 [.agg (Amount.enc a0)] (.bool (f_ref07_Usable a0)) := by
 generalize h : f_ref07_Usable a0 = r
 refine pfn_intro ck_2d rfl fun E hG hN hK => ?_
 unfold pc_2d
 unfold f_ref07_Usable at h
 refine s_seq (g_reg hG ?_)
 refine s_seq (g_reg hG ?_)
 refine g_call (fun hg => ref03_Valid_ok a0.mode) ?_
 refine g_ret ?_
 exact g_endT h

def f_ref11_ValidWait (a0 : Wait) : Bool :=
 ((((((f_ref02_ValidProc a0.proc) && (f_ref07_Usable a0.amount)) && (decide (0 ≤ a0.priority))) && (decide (a0.priority ≤ 7))) && (decide (0 ≤ a0.passed))) && (decide (a0.passed ≤ 3)))
theorem ref11_ValidWait_ok (a0 : Wait) : PFn C 123 [.agg (Wait.enc a0)] (.bool (f_ref11_ValidWait a0)) := by
 generalize h : f_ref11_ValidWait a0 = r
 refine pfn_intro ck_2e rfl fun E hG hN hK => ?_
 unfold pc_2e
 unfold f_ref11_ValidWait at h
 refine s_seq (g_reg hG ?_)
 refine s_seq (g_reg hG ?_)
 refine g_call (fun hg => ref02_ValidProc_ok a0.proc) ?_
 refine g_call (fun hg => ref07_Usable_ok a0.amount) ?_
 refine g_ret ?_
 exact g_endT h

noncomputable def f_ref11_Find_k1  (j1 : Unit) : Option (Int) :=
 some (-1)
@[go_sem] def J2f_k1  (j1 : Unit) : St := ⟨[], [], 0⟩
noncomputable def f_ref11_Find_l1 (a0 : List Wait) (a1 : Proc) (g1 : Int) : Option ((Int) ⊕ ((Unit) ⊕ (Int))) :=
 (if (decide (g1 < (a0.length : Int))) = true then
  gd (0 ≤ g1 ∧ g1 < (a0.length : Int)) <|
  (if (decide ((a0.getD g1.toNat Wait.zero).proc = a1)) = true then
   some (.inr (.inr g1))
  else
   some (.inl (IntKind.i64.wrap (g1 + 1))))
 else
  some (.inr (.inl ())))
@[go_sem] def I2f_l1 (a0 : List Wait) (a1 : Proc) (g1 : Int) : St := ⟨[(0, .sl (a0.map Wait.enc)), (3, .ptr 0 0 0), (5, .int .i64 g1)], [(0, ⟨false, 3, (Proc.enc Proc.zero), [Proc.enc a1]⟩)], 1⟩
noncomputable def f_ref11_Find (a0 : List Wait) (a1 : Proc) : Option (Int) :=
 (loopO (f_ref11_Find_l1 a0 a1) 0).bind (fun | .inl z => f_ref11_Find_k1 z | .inr z => some z)
theorem ref11_Find_ok (a0 : List Wait) (a1 : Proc) (r : Int) (h : f_ref11_Find a0 a1 = some r) : PFn C 59 [.sl (a0.map Wait.enc), .agg (Proc.enc a1)] (.int .i64 r) := by
 refine pfn_intro ck_2f rfl fun E hG hN hK => ?_
 unfold pc_2f
 unfold f_ref11_Find at h
 refine s_seq (g_reg hG ?_)
 refine s_seq (s_seq (g_reg hG ?_))
 refine s_blockJ (J2f_k1) (fun v => f_ref11_Find_k1 v = some r) ?_ ?_
 · intro j1 h
   unfold f_ref11_Find_k1 at h
   refine g_st ?_
   refine s_seq (g_reg hG ?_)
   refine g_ret ?_
   exact g_end h
 refine g_loop (I2f_l1 a0 a1) hK [(0, 0)] h (fun x_l1 h g1 y_l1 h_l1 hx_l1 => ?_)
 unfold f_ref11_Find_l1 at h_l1
 refine g_st ?_
 refine s_seq (s_seq (g_reg hG ?_))
 refine g_cond rfl hG h_l1 (fun _ h_l1 => ?_) (fun _ h_l1 => ?_)
 · refine g_skip ?_
   refine s_seq (s_block (s_seq ?_))
   obtain ⟨hb1, h_l1⟩ := gd_some h_l1
   refine g_regd C_mixed hG ?_
   refine g_cond rfl hG h_l1 (fun _ h_l1 => ?_) (fun _ h_l1 => ?_)
   · refine s_seq (g_reg hG ?_)
     refine g_ret ?_
     obtain rfl := Option.some.inj h_l1
     have hx := hx_l1 _ rfl
     subst hx
     try dsimp only at h
     exact g_end h
   refine g_skip ?_
   refine g_reg hG ?_
   exact g_next hK [(0, 0)] h_l1
 refine g_exit ?_
 obtain rfl := Option.some.inj h_l1
 have hx := hx_l1 _ rfl
 subst hx
 try dsimp only at h
 exact g_join hK [] () (by exact h)
attribute [local irreducible] f_ref11_Find

noncomputable def f_ref11_Valid_k1  (j1 : Unit) : Option (Bool) :=
 some true
@[go_sem] def J2g_k1  (j1 : Unit) : St := ⟨[], [], 0⟩
noncomputable def f_ref11_Valid_l1 (a0 : List Wait) (g1 : Int) : Option ((Int) ⊕ ((Unit) ⊕ (Bool))) :=
 (if (decide (g1 < (a0.length : Int))) = true then
  gd (0 ≤ g1 ∧ g1 < (a0.length : Int)) <|
  gd ((f_ref11_ValidWait (a0.getD g1.toNat Wait.zero)) = true → 0 ≤ g1 ∧ g1 < (a0.length : Int)) <|
  ((if (f_ref11_ValidWait (a0.getD g1.toNat Wait.zero)) = true then f_ref11_Find a0 ((a0.getD g1.toNat Wait.zero).proc) else some (0))).bind fun v1 =>
  (if ((!(f_ref11_ValidWait (a0.getD g1.toNat Wait.zero))) || (!decide (v1 = g1))) = true then
   some (.inr (.inr false))
  else
   some (.inl (IntKind.i64.wrap (g1 + 1))))
 else
  some (.inr (.inl ())))
@[go_sem] def I2g_l1 (a0 : List Wait) (g1 : Int) : St := ⟨[(0, .sl (a0.map Wait.enc)), (3, .int .i64 g1)], [], 0⟩
noncomputable def f_ref11_Valid (a0 : List Wait) : Option (Bool) :=
 (if (decide (8 < (a0.length : Int))) = true then
  some false
 else
  (loopO (f_ref11_Valid_l1 a0) 0).bind (fun | .inl z => f_ref11_Valid_k1 z | .inr z => some z))
theorem ref11_Valid_ok (a0 : List Wait) (r : Bool) (h : f_ref11_Valid a0 = some r) : PFn C 66 [.sl (a0.map Wait.enc)] (.bool r) := by
 refine pfn_intro ck_2g rfl fun E hG hN hK => ?_
 unfold pc_2g
 unfold f_ref11_Valid at h
 refine s_seq (g_reg hG ?_)
 refine s_seq (s_seq (g_reg hG ?_))
 refine g_cond rfl hG h (fun _ h => ?_) (fun _ h => ?_)
 · refine s_seq (g_reg hG ?_)
   refine g_ret ?_
   exact g_end h
 refine g_skip ?_
 refine s_seq (s_seq (g_reg hG ?_))
 refine s_blockJ (J2g_k1) (fun v => f_ref11_Valid_k1 v = some r) ?_ ?_
 · intro j1 h
   unfold f_ref11_Valid_k1 at h
   refine g_st ?_
   refine s_seq (g_reg hG ?_)
   refine g_ret ?_
   exact g_end h
 refine g_loop (I2g_l1 a0) hK [] h (fun x_l1 h g1 y_l1 h_l1 hx_l1 => ?_)
 unfold f_ref11_Valid_l1 at h_l1
 refine g_st ?_
 refine s_seq (s_seq (g_reg hG ?_))
 refine g_cond rfl hG h_l1 (fun _ h_l1 => ?_) (fun _ h_l1 => ?_)
 · refine g_skip ?_
   refine s_seq (s_block (s_seq ?_))
   obtain ⟨hb1, h_l1⟩ := gd_some h_l1
   refine g_reg hG ?_
   obtain ⟨hb2, h_l1⟩ := gd_some h_l1
   refine g_call (fun hg => ref11_ValidWait_ok (a0.getD g1.toNat Wait.zero)) ?_
   obtain ⟨v1, hv1, h_l1⟩ := bind_of h_l1
   refine g_call (fun hg => ref11_Find_ok a0 ((a0.getD g1.toNat Wait.zero).proc) _ (ite_t hg hv1)) ?_
   refine g_cond rfl hG h_l1 (fun _ h_l1 => ?_) (fun _ h_l1 => ?_)
   · refine s_seq (g_reg hG ?_)
     refine g_ret ?_
     obtain rfl := Option.some.inj h_l1
     have hx := hx_l1 _ rfl
     subst hx
     try dsimp only at h
     exact g_end h
   refine g_skip ?_
   refine g_reg hG ?_
   exact g_next hK [] h_l1
 refine g_exit ?_
 obtain rfl := Option.some.inj h_l1
 have hx := hx_l1 _ rfl
 subst hx
 try dsimp only at h
 exact g_join hK [] () (by exact h)
attribute [local irreducible] f_ref11_Valid

noncomputable def f_ref10_Get_k1  (j1 : Unit) : Option (Amount) :=
 some ({ Amount.zero with  })
@[go_sem] def J2h_k1  (j1 : Unit) : St := ⟨[(4, .ptr 0 0 0)], [(0, ⟨false, 2, (Amount.enc Amount.zero), [Amount.enc Amount.zero]⟩)], 1⟩
noncomputable def f_ref10_Get_l1 (a0 : List Hold) (a1 : Proc) (g1 : Int) : Option ((Int) ⊕ ((Unit) ⊕ (Amount))) :=
 (if (decide (g1 < (a0.length : Int))) = true then
  gd (0 ≤ g1 ∧ g1 < (a0.length : Int)) <|
  (if (decide ((a0.getD g1.toNat Hold.zero).proc = a1)) = true then
   gd (0 ≤ g1 ∧ g1 < (a0.length : Int)) <|
   some (.inr (.inr ((a0.getD g1.toNat Hold.zero).amount)))
  else
   some (.inl (IntKind.i64.wrap (g1 + 1))))
 else
  some (.inr (.inl ())))
@[go_sem] def I2h_l1 (a0 : List Hold) (a1 : Proc) (g1 : Int) : St := ⟨[(0, .sl (a0.map Hold.enc)), (3, .ptr 0 0 0), (4, .ptr 1 0 0), (5, .int .i64 g1)], [(0, ⟨false, 3, (Proc.enc Proc.zero), [Proc.enc a1]⟩), (1, ⟨false, 2, (Amount.enc Amount.zero), [Amount.enc Amount.zero]⟩)], 2⟩
noncomputable def f_ref10_Get (a0 : List Hold) (a1 : Proc) : Option (Amount) :=
 (loopO (f_ref10_Get_l1 a0 a1) 0).bind (fun | .inl z => f_ref10_Get_k1 z | .inr z => some z)
theorem ref10_Get_ok (a0 : List Hold) (a1 : Proc) (r : Amount) (h : f_ref10_Get a0 a1 = some r) : PFn C 67 [.sl (a0.map Hold.enc), .agg (Proc.enc a1)] (.agg (Amount.enc r)) := by
 refine pfn_intro ck_2h rfl fun E hG hN hK => ?_
 unfold pc_2h
 unfold f_ref10_Get at h
 refine s_seq (g_reg hG ?_)
 refine s_seq (s_seq (g_reg hG ?_))
 refine s_blockJ (J2h_k1) (fun v => f_ref10_Get_k1 v = some r) ?_ ?_
 · intro j1 h
   unfold f_ref10_Get_k1 at h
   refine g_st ?_
   refine s_seq (g_reg hG ?_)
   refine g_ret ?_
   exact g_end h
 refine g_loop (I2h_l1 a0 a1) hK [(0, 0), (1, 1)] h (fun x_l1 h g1 y_l1 h_l1 hx_l1 => ?_)
 unfold f_ref10_Get_l1 at h_l1
 refine g_st ?_
 refine s_seq (s_seq (g_reg hG ?_))
 refine g_cond rfl hG h_l1 (fun _ h_l1 => ?_) (fun _ h_l1 => ?_)
 · refine g_skip ?_
   refine s_seq (s_block (s_seq ?_))
   obtain ⟨hb2, h_l1⟩ := gd_some h_l1
   refine g_regd C_mixed hG ?_
   refine g_cond rfl hG h_l1 (fun _ h_l1 => ?_) (fun _ h_l1 => ?_)
   · refine s_seq ?_
     obtain ⟨hb1, h_l1⟩ := gd_some h_l1
     refine g_reg hG ?_
     refine g_ret ?_
     obtain rfl := Option.some.inj h_l1
     have hx := hx_l1 _ rfl
     subst hx
     try dsimp only at h
     exact g_end h
   refine g_skip ?_
   refine g_reg hG ?_
   exact g_next hK [(0, 0), (1, 1)] h_l1
 refine g_exit ?_
 obtain rfl := Option.some.inj h_l1
 have hx := hx_l1 _ rfl
 subst hx
 try dsimp only at h
 exact g_join hK [(0, 1)] () (by exact h)
attribute [local irreducible] f_ref10_Get

def f_ref03_Covers (a0 : Int) (a1 : Int) : Bool :=
 (if ((!(f_ref03_Valid a0)) || (!(f_ref03_Valid a1))) = true then
  false
 else
  ((((decide (a0 = a1)) || (decide (a0 = 5))) || (decide (a1 = 1))) || ((decide (a0 = 4)) && (!decide (a1 = 5)))))
theorem ref03_Covers_ok (a0 : Int) (a1 : Int) : PFn C 97 [.int .i64 a0, .int .i64 a1] (.bool (f_ref03_Covers a0 a1)) := by
 generalize h : f_ref03_Covers a0 a1 = r
 refine pfn_intro ck_2i rfl fun E hG hN hK => ?_
 unfold pc_2i
 unfold f_ref03_Covers at h
 refine s_seq (g_reg hG ?_)
 refine s_seq (s_seq (g_reg hG ?_))
 refine g_call (fun hg => ref03_Valid_ok a0) ?_
 refine g_call (fun hg => ref03_Valid_ok a1) ?_
 refine g_cond rfl hG h (fun _ h => ?_) (fun _ h => ?_)
 · refine s_seq (g_reg hG ?_)
   refine g_ret ?_
   exact g_endT h
 refine g_skip ?_
 refine s_seq (g_reg hG ?_)
 refine g_ret ?_
 exact g_endT h

def f_ref04_Covers (a0 : Resource) (a1 : Amount) (a2 : Amount) : Bool :=
 (if ((!(f_ref04_Permitted a0 a1)) || (!(f_ref04_Permitted a0 a2))) = true then
  false
 else
  (if (f_ref04_Zero a2) = true then
   true
  else
   (if (f_ref04_Zero a1) = true then
    false
   else
    (if (decide (a0.kind = 1)) = true then
     (f_ref03_Covers a1.mode a2.mode)
    else
     (decide (a2.units ≤ a1.units))))))
theorem ref04_Covers_ok (a0 : Resource) (a1 : Amount) (a2 : Amount) : PFn C 36 [.agg (Resource.enc a0), .agg (Amount.enc a1), .agg (Amount.enc a2)] (.bool (f_ref04_Covers a0 a1 a2)) := by
 generalize h : f_ref04_Covers a0 a1 a2 = r
 refine pfn_intro ck_2j rfl fun E hG hN hK => ?_
 unfold pc_2j
 unfold f_ref04_Covers at h
 refine s_seq (g_reg hG ?_)
 refine s_seq (s_seq (g_reg hG ?_))
 refine g_call (fun hg => ref04_Permitted_ok a0 a1) ?_
 refine g_call (fun hg => ref04_Permitted_ok a0 a2) ?_
 refine g_cond rfl hG h (fun _ h => ?_) (fun _ h => ?_)
 · refine s_seq (g_reg hG ?_)
   refine g_ret ?_
   exact g_endT h
 refine g_skip ?_
 refine s_seq (s_seq (g_reg hG ?_))
 refine g_call (fun hg => ref04_Zero_ok a2) ?_
 refine g_cond rfl hG h (fun _ h => ?_) (fun _ h => ?_)
 · refine s_seq (g_reg hG ?_)
   refine g_ret ?_
   exact g_endT h
 refine g_skip ?_
 refine s_seq (s_seq (g_reg hG ?_))
 refine g_call (fun hg => ref04_Zero_ok a1) ?_
 refine g_cond rfl hG h (fun _ h => ?_) (fun _ h => ?_)
 · refine s_seq (g_reg hG ?_)
   refine g_ret ?_
   exact g_endT h
 refine g_skip ?_
 refine s_seq (s_seq (g_reg hG ?_))
 refine g_cond rfl hG h (fun _ h => ?_) (fun _ h => ?_)
 · refine s_seq (g_reg hG ?_)
   refine g_call (fun hg => ref03_Covers_ok a1.mode a2.mode) ?_
   refine g_ret ?_
   exact g_endT h
 refine g_skip ?_
 refine s_seq (g_reg hG ?_)
 refine g_ret ?_
 exact g_endT h

noncomputable def f_ref12_Sound_k2  (j2 : Unit) : Option (Bool) :=
 some true
@[go_sem] def J2k_k2  (j2 : Unit) : St := ⟨[], [], 0⟩
noncomputable def f_ref12_Sound_l1 (a0 : Queue) (g1 : Int) : Option ((Int) ⊕ ((Unit) ⊕ (Bool))) :=
 (if (decide (g1 < (a0.waits.length : Int))) = true then
  gd (0 ≤ g1 ∧ g1 < (a0.waits.length : Int)) <|
  gd ((f_ref04_Fits a0.resource ((a0.waits.getD g1.toNat Wait.zero).amount)) = true → 0 ≤ g1 ∧ g1 < (a0.waits.length : Int)) <|
  ((if (f_ref04_Fits a0.resource ((a0.waits.getD g1.toNat Wait.zero).amount)) = true then f_ref10_Get a0.holds ((a0.waits.getD g1.toNat Wait.zero).proc) else some (Amount.zero))).bind fun v4 =>
  (if ((!(f_ref04_Fits a0.resource ((a0.waits.getD g1.toNat Wait.zero).amount))) || (!(f_ref04_Zero v4))) = true then
   some (.inr (.inr false))
  else
   some (.inl (IntKind.i64.wrap (g1 + 1))))
 else
  some (.inr (.inl ())))
@[go_sem] def I2k_l1 (a0 : Queue) (g1 : Int) : St := ⟨[(1, .ptr 0 0 0), (3, .ptr 1 0 0), (7, .int .i64 g1)], [(0, ⟨false, 8, (Queue.enc Queue.zero), [Queue.enc a0]⟩), (1, ⟨false, 4, (Resource.enc Resource.zero), [Resource.enc a0.resource]⟩)], 2⟩
noncomputable def f_ref12_Sound_k1 (a0 : Queue) (j1 : Unit) : Option (Bool) :=
 (loopO (f_ref12_Sound_l1 a0) 0).bind (fun | .inl z => f_ref12_Sound_k2 z | .inr z => some z)
@[go_sem] def J2k_k1 (a0 : Queue) (j1 : Unit) : St := ⟨[(1, .ptr 0 0 0), (3, .ptr 1 0 0)], [(0, ⟨false, 8, (Queue.enc Queue.zero), [Queue.enc a0]⟩), (1, ⟨false, 4, (Resource.enc Resource.zero), [Resource.enc a0.resource]⟩)], 2⟩
noncomputable def f_ref12_Sound_l2 (a0 : Queue) (g2 : Int) : Option ((Int) ⊕ ((Unit) ⊕ (Bool))) :=
 (if (decide (g2 < (a0.converts.length : Int))) = true then
  gd (0 ≤ g2 ∧ g2 < (a0.converts.length : Int)) <|
  (f_ref10_Get a0.holds ((a0.converts.getD g2.toNat Wait.zero).proc)).bind fun v5 =>
  ((if (!((((((f_ref04_Zero v5) || (!(f_ref04_Fits a0.resource ((a0.converts.getD g2.toNat Wait.zero).amount)))) || (!(f_ref04_Covers a0.resource ((a0.converts.getD g2.toNat Wait.zero).amount) v5))) || (decide ((a0.converts.getD g2.toNat Wait.zero).amount = v5))) || (!decide ((a0.converts.getD g2.toNat Wait.zero).priority = 0))) || (!decide ((a0.converts.getD g2.toNat Wait.zero).passed = 0)))) = true then f_ref11_Find a0.converts ((a0.converts.getD g2.toNat Wait.zero).proc) else some (0))).bind fun v6 =>
  (if (((((((f_ref04_Zero v5) || (!(f_ref04_Fits a0.resource ((a0.converts.getD g2.toNat Wait.zero).amount)))) || (!(f_ref04_Covers a0.resource ((a0.converts.getD g2.toNat Wait.zero).amount) v5))) || (decide ((a0.converts.getD g2.toNat Wait.zero).amount = v5))) || (!decide ((a0.converts.getD g2.toNat Wait.zero).priority = 0))) || (!decide ((a0.converts.getD g2.toNat Wait.zero).passed = 0))) || (!decide (v6 = g2))) = true then
   some (.inr (.inr false))
  else
   some (.inl (IntKind.i64.wrap (g2 + 1))))
 else
  some (.inr (.inl ())))
@[go_sem] def I2k_l2 (a0 : Queue) (g2 : Int) : St := ⟨[(1, .ptr 0 0 0), (3, .ptr 1 0 0), (4, .int .i64 g2)], [(0, ⟨false, 8, (Queue.enc Queue.zero), [Queue.enc a0]⟩), (1, ⟨false, 4, (Resource.enc Resource.zero), [Resource.enc a0.resource]⟩)], 2⟩
noncomputable def f_ref12_Sound (a0 : Queue) : Option (Bool) :=
 (f_ref05_ValidResource a0.resource).bind fun v1 =>
 ((if v1 = true then f_ref10_Valid a0.resource a0.holds else some (false))).bind fun v2 =>
 ((if (!(((!v1) || (!v2)) || (decide (8 < (a0.converts.length : Int))))) = true then f_ref11_Valid a0.waits else some (false))).bind fun v3 =>
 (if (((((((!v1) || (!v2)) || (decide (8 < (a0.converts.length : Int)))) || (!v3)) || (decide (8 < (IntKind.i64.wrap ((a0.holds.length : Int) + (a0.waits.length : Int)))))) || (decide (a0.gen < 0))) || (decide (1073741824 < a0.gen))) = true then
  some false
 else
  (loopO (f_ref12_Sound_l2 a0) 0).bind (fun | .inl z => f_ref12_Sound_k1 a0 z | .inr z => some z))
theorem ref12_Sound_ok (a0 : Queue) (r : Bool) (h : f_ref12_Sound a0 = some r) : PFn C 22 [.agg (Queue.enc a0)] (.bool r) := by
 refine pfn_intro ck_2k rfl fun E hG hN hK => ?_
 unfold pc_2k
 unfold f_ref12_Sound at h
 refine s_seq (g_reg hG ?_)
 refine s_seq (g_reg hG ?_)
 refine s_seq (s_seq (g_reg hG ?_))
 obtain ⟨v1, hv1, h⟩ := bind_of h
 refine g_call (fun hg => ref05_ValidResource_ok a0.resource _ (hv1)) ?_
 obtain ⟨v2, hv2, h⟩ := bind_of h
 refine g_call (fun hg => ref10_Valid_ok a0.resource a0.holds _ (ite_t hg hv2)) ?_
 obtain ⟨v3, hv3, h⟩ := bind_of h
 refine g_call (fun hg => ref11_Valid_ok a0.waits _ (ite_t hg hv3)) ?_
 refine g_cond rfl hG h (fun _ h => ?_) (fun _ h => ?_)
 · refine s_seq (g_reg hG ?_)
   refine g_ret ?_
   exact g_end h
 refine g_skip ?_
 refine s_seq (s_seq (g_reg hG ?_))
 refine s_blockJ (J2k_k1 a0) (fun v => f_ref12_Sound_k1 a0 v = some r) ?_ ?_
 · intro j1 h
   unfold f_ref12_Sound_k1 at h
   refine g_st ?_
   refine s_seq (s_seq (g_reg hG ?_))
   refine s_blockJ (J2k_k2) (fun v => f_ref12_Sound_k2 v = some r) ?_ ?_
   · intro j2 h
     unfold f_ref12_Sound_k2 at h
     refine g_st ?_
     refine s_seq (g_reg hG ?_)
     refine g_ret ?_
     exact g_end h
   refine g_loop (I2k_l1 a0) hK [(0, 0), (1, 1)] h (fun x_l1 h g1 y_l1 h_l1 hx_l1 => ?_)
   unfold f_ref12_Sound_l1 at h_l1
   refine g_st ?_
   refine s_seq (s_seq (g_reg hG ?_))
   refine g_cond rfl hG h_l1 (fun _ h_l1 => ?_) (fun _ h_l1 => ?_)
   · refine g_skip ?_
     refine s_seq (s_block (s_seq ?_))
     obtain ⟨hb1, h_l1⟩ := gd_some h_l1
     refine g_regd C_mixed hG ?_
     obtain ⟨hb2, h_l1⟩ := gd_some h_l1
     refine g_calld (fun hg => ref04_Fits_ok a0.resource ((a0.waits.getD g1.toNat Wait.zero).amount)) ?_
     obtain ⟨v4, hv4, h_l1⟩ := bind_of h_l1
     refine g_calld (fun hg => ref10_Get_ok a0.holds ((a0.waits.getD g1.toNat Wait.zero).proc) _ (ite_t hg hv4)) ?_
     refine g_calld (fun hg => ref04_Zero_ok v4) ?_
     refine g_cond rfl hG h_l1 (fun _ h_l1 => ?_) (fun _ h_l1 => ?_)
     · refine s_seq (g_reg hG ?_)
       refine g_ret ?_
       obtain rfl := Option.some.inj h_l1
       have hx := hx_l1 _ rfl
       subst hx
       try dsimp only at h
       exact g_end h
     refine g_skip ?_
     refine g_reg hG ?_
     exact g_next hK [(0, 0), (1, 1)] h_l1
   refine g_exit ?_
   obtain rfl := Option.some.inj h_l1
   have hx := hx_l1 _ rfl
   subst hx
   try dsimp only at h
   exact g_join hK [] () (by exact h)
 refine g_loop (I2k_l2 a0) hK [(0, 0), (1, 1)] h (fun x_l2 h g2 y_l2 h_l2 hx_l2 => ?_)
 unfold f_ref12_Sound_l2 at h_l2
 refine g_st ?_
 refine s_seq (s_seq (g_reg hG ?_))
 refine g_cond rfl hG h_l2 (fun _ h_l2 => ?_) (fun _ h_l2 => ?_)
 · refine g_skip ?_
   refine s_seq (s_block (s_seq ?_))
   obtain ⟨hb3, h_l2⟩ := gd_some h_l2
   refine g_reg hG ?_
   refine s_seq (g_reg hG ?_)
   obtain ⟨v5, hv5, h_l2⟩ := bind_of h_l2
   refine g_call (fun hg => ref10_Get_ok a0.holds ((a0.converts.getD g2.toNat Wait.zero).proc) _ (hv5)) ?_
   refine s_seq (g_reg hG ?_)
   refine g_call (fun hg => ref04_Zero_ok v5) ?_
   refine g_call (fun hg => ref04_Fits_ok a0.resource ((a0.converts.getD g2.toNat Wait.zero).amount)) ?_
   refine g_call (fun hg => ref04_Covers_ok a0.resource ((a0.converts.getD g2.toNat Wait.zero).amount) v5) ?_
   obtain ⟨v6, hv6, h_l2⟩ := bind_of h_l2
   refine g_call (fun hg => ref11_Find_ok a0.converts ((a0.converts.getD g2.toNat Wait.zero).proc) _ (ite_t hg hv6)) ?_
   refine g_cond rfl hG h_l2 (fun _ h_l2 => ?_) (fun _ h_l2 => ?_)
   · refine s_seq (g_reg hG ?_)
     refine g_ret ?_
     obtain rfl := Option.some.inj h_l2
     have hx := hx_l2 _ rfl
     subst hx
     try dsimp only at h
     exact g_end h
   refine g_skip ?_
   refine g_reg hG ?_
   exact g_next hK [(0, 0), (1, 1)] h_l2
 refine g_exit ?_
 obtain rfl := Option.some.inj h_l2
 have hx := hx_l2 _ rfl
 subst hx
 try dsimp only at h
 exact g_join hK [(0, 0), (1, 1)] () (by exact h)
attribute [local irreducible] f_ref12_Sound

noncomputable def f_ref12_Head (a0 : Queue) : Option (Wait × Bool) :=
 (if (decide (0 < (a0.converts.length : Int))) = true then
  gd (0 ≤ 0 ∧ 0 < (a0.converts.length : Int)) <|
  some ((a0.converts.getD 0 Wait.zero), true)
 else
  (if (decide (0 < (a0.waits.length : Int))) = true then
   gd (0 ≤ 0 ∧ 0 < (a0.waits.length : Int)) <|
   some ((a0.waits.getD 0 Wait.zero), true)
  else
   some ({ Wait.zero with  }, false)))
theorem ref12_Head_ok (a0 : Queue) (r : Wait × Bool) (h : f_ref12_Head a0 = some r) : PFn C 72 [.agg (Queue.enc a0)] (.tup [.agg (Wait.enc r.1), .bool r.2]) := by
 refine pfn_intro ck_2l rfl fun E hG hN hK => ?_
 unfold pc_2l
 unfold f_ref12_Head at h
 refine s_seq (g_reg hG ?_)
 refine s_seq (s_seq (g_reg hG ?_))
 refine g_cond rfl hG h (fun _ h => ?_) (fun _ h => ?_)
 · refine s_seq ?_
   obtain ⟨hb1, h⟩ := gd_some h
   refine g_reg hG ?_
   refine g_ret ?_
   exact g_end h
 refine g_skip ?_
 refine s_seq (s_seq (g_reg hG ?_))
 refine g_cond rfl hG h (fun _ h => ?_) (fun _ h => ?_)
 · refine s_seq ?_
   obtain ⟨hb2, h⟩ := gd_some h
   refine g_reg hG ?_
   refine g_ret ?_
   exact g_end h
 refine g_skip ?_
 refine s_seq (g_reg hG ?_)
 refine g_ret ?_
 exact g_end h
attribute [local irreducible] f_ref12_Head

noncomputable def f_ref10_Set_k1 (a1 : Proc) (a2 : Amount) (j1 : Bool × (List Hold)) : Option ((List Hold)) :=
 (if (!j1.1) = true then
  gd (j1.2.length + 1 ≤ 4294967296) <|
  some (j1.2 ++ [(⟨a1, a2⟩ : Hold)])
 else
  some j1.2)
@[go_sem] def J2m_k1 (a1 : Proc) (a2 : Amount) (j1 : Bool × (List Hold)) : St := ⟨[(4, .ptr 0 0 0), (5, .ptr 1 0 0), (7, .own 2 0 j1.2.length), (8, .bool j1.1)], [(0, ⟨false, 3, (Proc.enc Proc.zero), [Proc.enc a1]⟩), (1, ⟨false, 2, (Amount.enc Amount.zero), [Amount.enc a2]⟩), (2, ⟨false, 5, (Hold.enc Hold.zero), j1.2.map Hold.enc⟩)], 3⟩
noncomputable def f_ref10_Set_l1 (a0 : List Hold) (a1 : Proc) (a2 : Amount) (g1 : Bool × Int × (List Hold)) : Option ((Bool × Int × (List Hold)) ⊕ ((Bool × (List Hold)))) :=
 (if (decide (g1.2.1 < (a0.length : Int))) = true then
  gd (0 ≤ g1.2.1 ∧ g1.2.1 < (a0.length : Int)) <|
  (if (decide ((a0.getD g1.2.1.toNat Hold.zero).proc = a1)) = true then
   some (.inl (g1.1, (IntKind.i64.wrap (g1.2.1 + 1)), g1.2.2))
  else
   gd ((!g1.1) = true → 0 ≤ g1.2.1 ∧ g1.2.1 < (a0.length : Int)) <|
   (if ((!g1.1) && (decide (0 < (f_ref02_CompareProc ((a0.getD g1.2.1.toNat Hold.zero).proc) a1)))) = true then
    gd (g1.2.2.length + 1 ≤ 4294967296) <|
    gd (0 ≤ g1.2.1 ∧ g1.2.1 < (a0.length : Int)) <|
    gd (g1.2.2.length + 1 + 1 ≤ 4294967296) <|
    some (.inl (true, (IntKind.i64.wrap (g1.2.1 + 1)), ((g1.2.2 ++ [(⟨a1, a2⟩ : Hold)]) ++ [(a0.getD g1.2.1.toNat Hold.zero)])))
   else
    gd (0 ≤ g1.2.1 ∧ g1.2.1 < (a0.length : Int)) <|
    gd (g1.2.2.length + 1 ≤ 4294967296) <|
    some (.inl (g1.1, (IntKind.i64.wrap (g1.2.1 + 1)), (g1.2.2 ++ [(a0.getD g1.2.1.toNat Hold.zero)])))))
 else
  some (.inr (g1.1, g1.2.2)))
@[go_sem] def I2m_l1 (a0 : List Hold) (a1 : Proc) (a2 : Amount) (g1 : Bool × Int × (List Hold)) : St := ⟨[(0, .sl (a0.map Hold.enc)), (4, .ptr 0 0 0), (5, .ptr 1 0 0), (7, .own 2 0 g1.2.2.length), (8, .bool g1.1), (9, .int .i64 g1.2.1)], [(0, ⟨false, 3, (Proc.enc Proc.zero), [Proc.enc a1]⟩), (1, ⟨false, 2, (Amount.enc Amount.zero), [Amount.enc a2]⟩), (2, ⟨false, 5, (Hold.enc Hold.zero), g1.2.2.map Hold.enc⟩)], 3⟩
noncomputable def f_ref10_Set (a0 : List Hold) (a1 : Proc) (a2 : Amount) : Option ((List Hold)) :=
 (loopO (f_ref10_Set_l1 a0 a1 a2) ((f_ref04_Zero a2), 0, [])).bind (fun z => f_ref10_Set_k1 a1 a2 z)
theorem ref10_Set_ok (a0 : List Hold) (a1 : Proc) (a2 : Amount) (r : (List Hold)) (h : f_ref10_Set a0 a1 a2 = some r) : PFn C 104 [.sl (a0.map Hold.enc), .agg (Proc.enc a1), .agg (Amount.enc a2)] (.sl (r.map Hold.enc)) := by
 refine pfn_intro ck_2m rfl fun E hG hN hK => ?_
 unfold pc_2m
 unfold f_ref10_Set at h
 refine s_seq (g_reg hG ?_)
 refine s_seq (g_reg hG ?_)
 refine s_seq (g_reg hG ?_)
 refine g_call (fun hg => ref04_Zero_ok a2) ?_
 refine s_seq (s_seq (g_reg hG ?_))
 refine s_blockJ (J2m_k1 a1 a2) (fun v => f_ref10_Set_k1 a1 a2 v = some r) ?_ ?_
 · intro j1 h
   unfold f_ref10_Set_k1 at h
   refine g_st ?_
   refine s_seq (s_seq (g_reg hG ?_))
   refine g_cond rfl hG h (fun _ h => ?_) (fun _ h => ?_)
   · obtain ⟨hb1, h⟩ := gd_some h
     refine g_reg hG ?_
     refine s_seq (g_reg hG ?_)
     refine g_ret ?_
     exact g_end h
   refine g_skip ?_
   refine s_seq (g_reg hG ?_)
   refine g_ret ?_
   exact g_end h
 refine g_loop (I2m_l1 a0 a1 a2) hK [(0, 0), (1, 1), (2, 2)] h (fun x_l1 h g1 y_l1 h_l1 hx_l1 => ?_)
 unfold f_ref10_Set_l1 at h_l1
 refine g_st ?_
 refine s_seq (s_seq (g_reg hG ?_))
 refine g_cond rfl hG h_l1 (fun _ h_l1 => ?_) (fun _ h_l1 => ?_)
 · refine g_skip ?_
   refine s_seq (s_block (s_seq (s_seq ?_)))
   obtain ⟨hb8, h_l1⟩ := gd_some h_l1
   refine g_regd C_mixed hG ?_
   refine g_cond rfl hG h_l1 (fun _ h_l1 => ?_) (fun _ h_l1 => ?_)
   · refine g_exit ?_
     refine g_reg hG ?_
     exact g_next hK [(0, 0), (1, 1), (2, 2)] h_l1
   refine g_skip ?_
   refine s_seq (s_seq ?_)
   obtain ⟨hb7, h_l1⟩ := gd_some h_l1
   refine g_regd C_mixed hG ?_
   refine g_calld (fun hg => ref02_CompareProc_ok ((a0.getD g1.2.1.toNat Hold.zero).proc) a1) ?_
   refine g_cond rfl hG h_l1 (fun _ h_l1 => ?_) (fun _ h_l1 => ?_)
   · refine s_seq ?_
     obtain ⟨hb4, h_l1⟩ := gd_some h_l1
     refine g_reg hG ?_
     refine g_reg hG ?_
     obtain ⟨hb2, h_l1⟩ := gd_some h_l1
     obtain ⟨hb3, h_l1⟩ := gd_some h_l1
     refine g_reg hG ?_
     refine g_reg hG ?_
     exact g_next hK [(0, 0), (1, 1), (2, 4)] h_l1
   refine g_skip ?_
   obtain ⟨hb5, h_l1⟩ := gd_some h_l1
   obtain ⟨hb6, h_l1⟩ := gd_some h_l1
   refine g_reg hG ?_
   refine g_reg hG ?_
   exact g_next hK [(0, 0), (1, 1), (2, 3)] h_l1
 refine g_exit ?_
 obtain rfl := Option.some.inj h_l1
 have hx := hx_l1 _ rfl
 subst hx
 try dsimp only at h
 exact g_join hK [(0, 0), (1, 1), (2, 2)] (g1.1, g1.2.2) (by exact h)
attribute [local irreducible] f_ref10_Set

noncomputable def f_ref10_Room (a0 : Resource) (a1 : List Hold) (a2 : Proc) (a3 : Amount) : Option (Bool) :=
 (f_ref10_Valid a0 a1).bind fun v1 =>
 ((if ((v1 && (f_ref02_ValidProc a2)) && (f_ref04_Fits a0 a3)) = true then f_ref10_Set a1 a2 a3 else some ([]))).bind fun v2 =>
 ((if ((v1 && (f_ref02_ValidProc a2)) && (f_ref04_Fits a0 a3)) = true then f_ref10_Valid a0 v2 else some (false))).bind fun v3 =>
 some (((v1 && (f_ref02_ValidProc a2)) && (f_ref04_Fits a0 a3)) && v3)
theorem ref10_Room_ok (a0 : Resource) (a1 : List Hold) (a2 : Proc) (a3 : Amount) (r : Bool) (h : f_ref10_Room a0 a1 a2 a3 = some r) : PFn C 73 [.agg (Resource.enc a0), .sl (a1.map Hold.enc), .agg (Proc.enc a2), .agg (Amount.enc a3)] (.bool r) := by
 refine pfn_intro ck_2n rfl fun E hG hN hK => ?_
 unfold pc_2n
 unfold f_ref10_Room at h
 refine s_seq (g_reg hG ?_)
 refine s_seq (g_regd C_mixed hG ?_)
 obtain ⟨v1, hv1, h⟩ := bind_of h
 refine g_calld (fun hg => ref10_Valid_ok a0 a1 _ (hv1)) ?_
 refine g_calld (fun hg => ref02_ValidProc_ok a2) ?_
 refine g_calld (fun hg => ref04_Fits_ok a0 a3) ?_
 obtain ⟨v2, hv2, h⟩ := bind_of h
 refine g_calld (fun hg => ref10_Set_ok a1 a2 a3 _ (ite_t hg hv2)) ?_
 obtain ⟨v3, hv3, h⟩ := bind_of h
 refine g_calld (fun hg => ref10_Valid_ok a0 v2 _ (ite_t hg hv3)) ?_
 refine g_ret ?_
 exact g_end h
attribute [local irreducible] f_ref10_Room

noncomputable def f_ref12_Settled (a0 : Queue) : Option (Bool) :=
 (f_ref12_Sound a0).bind fun v1 =>
 (if (!v1) = true then
  some false
 else
  (f_ref12_Head a0).bind fun v2 =>
  ((if v2.2 = true then f_ref10_Room a0.resource a0.holds v2.1.proc v2.1.amount else some (false))).bind fun v3 =>
  some ((!v2.2) || (!v3)))
theorem ref12_Settled_ok (a0 : Queue) (r : Bool) (h : f_ref12_Settled a0 = some r) : PFn C 24 [.agg (Queue.enc a0)] (.bool r) := by
 refine pfn_intro ck_2o rfl fun E hG hN hK => ?_
 unfold pc_2o
 unfold f_ref12_Settled at h
 refine s_seq (g_reg hG ?_)
 refine s_seq (s_seq (g_reg hG ?_))
 obtain ⟨v1, hv1, h⟩ := bind_of h
 refine g_call (fun hg => ref12_Sound_ok a0 _ (hv1)) ?_
 refine g_cond rfl hG h (fun _ h => ?_) (fun _ h => ?_)
 · refine s_seq (g_reg hG ?_)
   refine g_ret ?_
   exact g_end h
 refine g_skip ?_
 refine s_seq (g_reg hG ?_)
 obtain ⟨v2, hv2, h⟩ := bind_of h
 refine g_call (fun hg => ref12_Head_ok a0 _ (hv2)) ?_
 refine s_seq (g_reg hG ?_)
 obtain ⟨v3, hv3, h⟩ := bind_of h
 refine g_call (fun hg => ref10_Room_ok a0.resource a0.holds v2.1.proc v2.1.amount _ (ite_t hg hv3)) ?_
 refine g_ret ?_
 exact g_end h
attribute [local irreducible] f_ref12_Settled

noncomputable def f_ref12_Valid (a0 : Queue) : Option (Bool) :=
 (f_ref12_Sound a0).bind fun v1 =>
 ((if v1 = true then f_ref12_Settled a0 else some (false))).bind fun v2 =>
 some (v1 && v2)
theorem ref12_Valid_ok (a0 : Queue) (r : Bool) (h : f_ref12_Valid a0 = some r) : PFn C 26 [.agg (Queue.enc a0)] (.bool r) := by
 refine pfn_intro ck_2p rfl fun E hG hN hK => ?_
 unfold pc_2p
 unfold f_ref12_Valid at h
 refine s_seq (g_reg hG ?_)
 refine s_seq (g_reg hG ?_)
 obtain ⟨v1, hv1, h⟩ := bind_of h
 refine g_call (fun hg => ref12_Sound_ok a0 _ (hv1)) ?_
 obtain ⟨v2, hv2, h⟩ := bind_of h
 refine g_call (fun hg => ref12_Settled_ok a0 _ (ite_t hg hv2)) ?_
 refine g_ret ?_
 exact g_end h
attribute [local irreducible] f_ref12_Valid

noncomputable def f_ref10_SameHolds_k1  (j1 : Unit) : Option (Bool) :=
 some true
@[go_sem] def J2q_k1  (j1 : Unit) : St := ⟨[], [], 0⟩
noncomputable def f_ref10_SameHolds_l1 (a0 : List Hold) (a1 : List Hold) (g1 : Int) : Option ((Int) ⊕ ((Unit) ⊕ (Bool))) :=
 (if (decide (g1 < (a0.length : Int))) = true then
  gd (0 ≤ g1 ∧ g1 < (a0.length : Int)) <|
  gd (0 ≤ g1 ∧ g1 < (a1.length : Int)) <|
  (if (!decide ((a0.getD g1.toNat Hold.zero) = (a1.getD g1.toNat Hold.zero))) = true then
   some (.inr (.inr false))
  else
   some (.inl (IntKind.i64.wrap (g1 + 1))))
 else
  some (.inr (.inl ())))
@[go_sem] def I2q_l1 (a0 : List Hold) (a1 : List Hold) (g1 : Int) : St := ⟨[(0, .sl (a0.map Hold.enc)), (1, .sl (a1.map Hold.enc)), (5, .int .i64 g1)], [], 0⟩
noncomputable def f_ref10_SameHolds (a0 : List Hold) (a1 : List Hold) : Option (Bool) :=
 (if (!decide ((a0.length : Int) = (a1.length : Int))) = true then
  some false
 else
  (loopO (f_ref10_SameHolds_l1 a0 a1) 0).bind (fun | .inl z => f_ref10_SameHolds_k1 z | .inr z => some z))
theorem ref10_SameHolds_ok (a0 : List Hold) (a1 : List Hold) (r : Bool) (h : f_ref10_SameHolds a0 a1 = some r) : PFn C 47 [.sl (a0.map Hold.enc), .sl (a1.map Hold.enc)] (.bool r) := by
 refine pfn_intro ck_2q rfl fun E hG hN hK => ?_
 unfold pc_2q
 unfold f_ref10_SameHolds at h
 refine s_seq (g_reg hG ?_)
 refine s_seq (s_seq (g_reg hG ?_))
 refine g_cond rfl hG h (fun _ h => ?_) (fun _ h => ?_)
 · refine s_seq (g_reg hG ?_)
   refine g_ret ?_
   exact g_end h
 refine g_skip ?_
 refine s_seq (s_seq (g_reg hG ?_))
 refine s_blockJ (J2q_k1) (fun v => f_ref10_SameHolds_k1 v = some r) ?_ ?_
 · intro j1 h
   unfold f_ref10_SameHolds_k1 at h
   refine g_st ?_
   refine s_seq (g_reg hG ?_)
   refine g_ret ?_
   exact g_end h
 refine g_loop (I2q_l1 a0 a1) hK [] h (fun x_l1 h g1 y_l1 h_l1 hx_l1 => ?_)
 unfold f_ref10_SameHolds_l1 at h_l1
 refine g_st ?_
 refine s_seq (s_seq (g_reg hG ?_))
 refine g_cond rfl hG h_l1 (fun _ h_l1 => ?_) (fun _ h_l1 => ?_)
 · refine g_skip ?_
   refine s_seq (s_block (s_seq ?_))
   obtain ⟨hb1, h_l1⟩ := gd_some h_l1
   obtain ⟨hb2, h_l1⟩ := gd_some h_l1
   refine g_regd C_mixed hG ?_
   refine g_cond rfl hG h_l1 (fun _ h_l1 => ?_) (fun _ h_l1 => ?_)
   · refine s_seq (g_reg hG ?_)
     refine g_ret ?_
     obtain rfl := Option.some.inj h_l1
     have hx := hx_l1 _ rfl
     subst hx
     try dsimp only at h
     exact g_end h
   refine g_skip ?_
   refine g_reg hG ?_
   exact g_next hK [] h_l1
 refine g_exit ?_
 obtain rfl := Option.some.inj h_l1
 have hx := hx_l1 _ rfl
 subst hx
 try dsimp only at h
 exact g_join hK [] () (by exact h)
attribute [local irreducible] f_ref10_SameHolds

noncomputable def f_ref11_SameWaits_k1  (j1 : Unit) : Option (Bool) :=
 some true
@[go_sem] def J2r_k1  (j1 : Unit) : St := ⟨[], [], 0⟩
noncomputable def f_ref11_SameWaits_l1 (a0 : List Wait) (a1 : List Wait) (g1 : Int) : Option ((Int) ⊕ ((Unit) ⊕ (Bool))) :=
 (if (decide (g1 < (a0.length : Int))) = true then
  gd (0 ≤ g1 ∧ g1 < (a0.length : Int)) <|
  gd (0 ≤ g1 ∧ g1 < (a1.length : Int)) <|
  (if (!decide ((a0.getD g1.toNat Wait.zero) = (a1.getD g1.toNat Wait.zero))) = true then
   some (.inr (.inr false))
  else
   some (.inl (IntKind.i64.wrap (g1 + 1))))
 else
  some (.inr (.inl ())))
@[go_sem] def I2r_l1 (a0 : List Wait) (a1 : List Wait) (g1 : Int) : St := ⟨[(0, .sl (a0.map Wait.enc)), (1, .sl (a1.map Wait.enc)), (5, .int .i64 g1)], [], 0⟩
noncomputable def f_ref11_SameWaits (a0 : List Wait) (a1 : List Wait) : Option (Bool) :=
 (if (!decide ((a0.length : Int) = (a1.length : Int))) = true then
  some false
 else
  (loopO (f_ref11_SameWaits_l1 a0 a1) 0).bind (fun | .inl z => f_ref11_SameWaits_k1 z | .inr z => some z))
theorem ref11_SameWaits_ok (a0 : List Wait) (a1 : List Wait) (r : Bool) (h : f_ref11_SameWaits a0 a1 = some r) : PFn C 74 [.sl (a0.map Wait.enc), .sl (a1.map Wait.enc)] (.bool r) := by
 refine pfn_intro ck_2r rfl fun E hG hN hK => ?_
 unfold pc_2r
 unfold f_ref11_SameWaits at h
 refine s_seq (g_reg hG ?_)
 refine s_seq (s_seq (g_reg hG ?_))
 refine g_cond rfl hG h (fun _ h => ?_) (fun _ h => ?_)
 · refine s_seq (g_reg hG ?_)
   refine g_ret ?_
   exact g_end h
 refine g_skip ?_
 refine s_seq (s_seq (g_reg hG ?_))
 refine s_blockJ (J2r_k1) (fun v => f_ref11_SameWaits_k1 v = some r) ?_ ?_
 · intro j1 h
   unfold f_ref11_SameWaits_k1 at h
   refine g_st ?_
   refine s_seq (g_reg hG ?_)
   refine g_ret ?_
   exact g_end h
 refine g_loop (I2r_l1 a0 a1) hK [] h (fun x_l1 h g1 y_l1 h_l1 hx_l1 => ?_)
 unfold f_ref11_SameWaits_l1 at h_l1
 refine g_st ?_
 refine s_seq (s_seq (g_reg hG ?_))
 refine g_cond rfl hG h_l1 (fun _ h_l1 => ?_) (fun _ h_l1 => ?_)
 · refine g_skip ?_
   refine s_seq (s_block (s_seq ?_))
   obtain ⟨hb1, h_l1⟩ := gd_some h_l1
   obtain ⟨hb2, h_l1⟩ := gd_some h_l1
   refine g_regd C_mixed hG ?_
   refine g_cond rfl hG h_l1 (fun _ h_l1 => ?_) (fun _ h_l1 => ?_)
   · refine s_seq (g_reg hG ?_)
     refine g_ret ?_
     obtain rfl := Option.some.inj h_l1
     have hx := hx_l1 _ rfl
     subst hx
     try dsimp only at h
     exact g_end h
   refine g_skip ?_
   refine g_reg hG ?_
   exact g_next hK [] h_l1
 refine g_exit ?_
 obtain rfl := Option.some.inj h_l1
 have hx := hx_l1 _ rfl
 subst hx
 try dsimp only at h
 exact g_join hK [] () (by exact h)
attribute [local irreducible] f_ref11_SameWaits

noncomputable def f_ref12_Same (a0 : Queue) (a1 : Queue) : Option (Bool) :=
 ((if ((decide (a0.resource = a1.resource)) && (decide (a0.gen = a1.gen))) = true then f_ref10_SameHolds a0.holds a1.holds else some (false))).bind fun v1 =>
 ((if (((decide (a0.resource = a1.resource)) && (decide (a0.gen = a1.gen))) && v1) = true then f_ref11_SameWaits a0.converts a1.converts else some (false))).bind fun v2 =>
 ((if ((((decide (a0.resource = a1.resource)) && (decide (a0.gen = a1.gen))) && v1) && v2) = true then f_ref11_SameWaits a0.waits a1.waits else some (false))).bind fun v3 =>
 some (((((decide (a0.resource = a1.resource)) && (decide (a0.gen = a1.gen))) && v1) && v2) && v3)
theorem ref12_Same_ok (a0 : Queue) (a1 : Queue) (r : Bool) (h : f_ref12_Same a0 a1 = some r) : PFn C 27 [.agg (Queue.enc a0), .agg (Queue.enc a1)] (.bool r) := by
 refine pfn_intro ck_2s rfl fun E hG hN hK => ?_
 unfold pc_2s
 unfold f_ref12_Same at h
 refine s_seq (g_reg hG ?_)
 refine s_seq (g_reg hG ?_)
 obtain ⟨v1, hv1, h⟩ := bind_of h
 refine g_call (fun hg => ref10_SameHolds_ok a0.holds a1.holds _ (ite_t hg hv1)) ?_
 obtain ⟨v2, hv2, h⟩ := bind_of h
 refine g_call (fun hg => ref11_SameWaits_ok a0.converts a1.converts _ (ite_t hg hv2)) ?_
 obtain ⟨v3, hv3, h⟩ := bind_of h
 refine g_call (fun hg => ref11_SameWaits_ok a0.waits a1.waits _ (ite_t hg hv3)) ?_
 refine g_ret ?_
 exact g_end h
attribute [local irreducible] f_ref12_Same

noncomputable def f_ref12_Wanted (a0 : Queue) (a1 : Proc) : Option (Amount × Bool) :=
 (f_ref11_Find a0.converts a1).bind fun v1 =>
 (if (decide (0 ≤ v1)) = true then
  gd (0 ≤ v1 ∧ v1 < (a0.converts.length : Int)) <|
  some ((a0.converts.getD v1.toNat Wait.zero).amount, true)
 else
  (f_ref11_Find a0.waits a1).bind fun v2 =>
  (if (decide (0 ≤ v2)) = true then
   gd (0 ≤ v2 ∧ v2 < (a0.waits.length : Int)) <|
   some ((a0.waits.getD v2.toNat Wait.zero).amount, true)
  else
   some ({ Amount.zero with  }, false)))
theorem ref12_Wanted_ok (a0 : Queue) (a1 : Proc) (r : Amount × Bool) (h : f_ref12_Wanted a0 a1 = some r) : PFn C 40 [.agg (Queue.enc a0), .agg (Proc.enc a1)] (.tup [.agg (Amount.enc r.1), .bool r.2]) := by
 refine pfn_intro ck_2u rfl fun E hG hN hK => ?_
 unfold pc_2u
 unfold f_ref12_Wanted at h
 refine s_seq (g_reg hG ?_)
 refine s_seq (s_seq (g_reg hG ?_))
 obtain ⟨v1, hv1, h⟩ := bind_of h
 refine g_call (fun hg => ref11_Find_ok a0.converts a1 _ (hv1)) ?_
 refine s_seq (g_reg hG ?_)
 refine g_cond rfl hG h (fun _ h => ?_) (fun _ h => ?_)
 · refine s_seq ?_
   obtain ⟨hb1, h⟩ := gd_some h
   refine g_reg hG ?_
   refine g_ret ?_
   exact g_end h
 refine g_skip ?_
 refine s_seq (s_seq (g_reg hG ?_))
 obtain ⟨v2, hv2, h⟩ := bind_of h
 refine g_call (fun hg => ref11_Find_ok a0.waits a1 _ (hv2)) ?_
 refine s_seq (g_reg hG ?_)
 refine g_cond rfl hG h (fun _ h => ?_) (fun _ h => ?_)
 · refine s_seq ?_
   obtain ⟨hb2, h⟩ := gd_some h
   refine g_reg hG ?_
   refine g_ret ?_
   exact g_end h
 refine g_skip ?_
 refine s_seq (g_reg hG ?_)
 refine g_ret ?_
 exact g_end h
attribute [local irreducible] f_ref12_Wanted

noncomputable def f_ref12_Copy_m (a0 : Queue) : Option (Queue) :=
 gd (a0.holds.length ≤ 4294967296) <|
 gd (a0.converts.length ≤ 4294967296) <|
 gd (a0.waits.length ≤ 4294967296) <|
 some a0
theorem ref12_Copy_m_okm (a0 : Queue) (r : Queue) (h : f_ref12_Copy_m a0 = some r) : MFn C 86 [.agg (Queue.enc a0)] [] 0 (.agg [.str r.resource.name, .int .i64 r.resource.kind, .int .i64 r.resource.units, .int .i64 r.resource.home, .own 0 0 r.holds.length, .own 1 0 r.converts.length, .own 2 0 r.waits.length, .int .i64 r.gen]) [(0, ⟨false, 5, (Hold.enc Hold.zero), r.holds.map Hold.enc⟩), (1, ⟨false, 7, (Wait.enc Wait.zero), r.converts.map Wait.enc⟩), (2, ⟨false, 7, (Wait.enc Wait.zero), r.waits.map Wait.enc⟩)] 3 := by
 refine mfn_intro (rl := [.agg [.str r.resource.name, .int .i64 r.resource.kind, .int .i64 r.resource.units, .int .i64 r.resource.home, .own 0 0 r.holds.length, .own 1 0 r.converts.length, .own 2 0 r.waits.length, .int .i64 r.gen]]) ck_2v rfl rfl rfl rfl fun E hG hN hK => ?_
 unfold pc_2v
 unfold f_ref12_Copy_m at h
 refine s_seq (g_reg hG ?_)
 refine s_seq ?_
 obtain ⟨hb3, h⟩ := gd_some h
 refine g_reg hG ?_
 refine s_seq ?_
 obtain ⟨hb2, h⟩ := gd_some h
 refine g_reg hG ?_
 refine s_seq ?_
 obtain ⟨hb1, h⟩ := gd_some h
 refine g_reg hG ?_
 refine s_seq (g_reg hG ?_)
 refine g_ret ?_
 exact g_retm [(0, 3), (1, 5), (2, 7)] h
attribute [local irreducible] f_ref12_Copy_m

noncomputable def f_ref12_Held (a0 : Queue) (a1 : Proc) : Option (Amount) :=
 (f_ref10_Get a0.holds a1).bind fun v1 =>
 some v1
theorem ref12_Held_ok (a0 : Queue) (a1 : Proc) (r : Amount) (h : f_ref12_Held a0 a1 = some r) : PFn C 43 [.agg (Queue.enc a0), .agg (Proc.enc a1)] (.agg (Amount.enc r)) := by
 refine pfn_intro ck_2w rfl fun E hG hN hK => ?_
 unfold pc_2w
 unfold f_ref12_Held at h
 refine s_seq (g_reg hG ?_)
 refine s_seq (g_reg hG ?_)
 obtain ⟨v1, hv1, h⟩ := bind_of h
 refine g_call (fun hg => ref10_Get_ok a0.holds a1 _ (hv1)) ?_
 refine g_ret ?_
 exact g_end h
attribute [local irreducible] f_ref12_Held

noncomputable def f_ref03_Sup_k1  (j1 : Unit) : Option (Int) :=
 some 0
@[go_sem] def J2x_k1  (j1 : Unit) : St := ⟨[], [], 0⟩
noncomputable def f_ref03_Sup_l1 (a0 : Int) (a1 : Int) (g1 : Int) : Option ((Int) ⊕ ((Unit) ⊕ (Int))) :=
 (if (decide (g1 ≤ 5)) = true then
  (if ((f_ref03_Covers g1 a0) && (f_ref03_Covers g1 a1)) = true then
   some (.inr (.inr g1))
  else
   some (.inl (IntKind.i64.wrap (g1 + 1))))
 else
  some (.inr (.inl ())))
@[go_sem] def I2x_l1 (a0 : Int) (a1 : Int) (g1 : Int) : St := ⟨[(0, .int .i64 a0), (1, .int .i64 a1), (5, .int .i64 g1)], [], 0⟩
noncomputable def f_ref03_Sup (a0 : Int) (a1 : Int) : Option (Int) :=
 (loopO (f_ref03_Sup_l1 a0 a1) 1).bind (fun | .inl z => f_ref03_Sup_k1 z | .inr z => some z)
theorem ref03_Sup_ok (a0 : Int) (a1 : Int) (r : Int) (h : f_ref03_Sup a0 a1 = some r) : PFn C 134 [.int .i64 a0, .int .i64 a1] (.int .i64 r) := by
 refine pfn_intro ck_2x rfl fun E hG hN hK => ?_
 unfold pc_2x
 unfold f_ref03_Sup at h
 refine s_seq (g_reg hG ?_)
 refine s_seq (s_seq (g_reg hG ?_))
 refine s_blockJ (J2x_k1) (fun v => f_ref03_Sup_k1 v = some r) ?_ ?_
 · intro j1 h
   unfold f_ref03_Sup_k1 at h
   refine g_st ?_
   refine s_seq (g_reg hG ?_)
   refine g_ret ?_
   exact g_end h
 refine g_loop (I2x_l1 a0 a1) hK [] h (fun x_l1 h g1 y_l1 h_l1 hx_l1 => ?_)
 unfold f_ref03_Sup_l1 at h_l1
 refine g_st ?_
 refine s_seq (s_seq (g_reg hG ?_))
 refine g_cond rfl hG h_l1 (fun _ h_l1 => ?_) (fun _ h_l1 => ?_)
 · refine g_skip ?_
   refine s_seq (s_block (s_seq (g_reg hG ?_)))
   refine g_call (fun hg => ref03_Covers_ok g1 a0) ?_
   refine g_call (fun hg => ref03_Covers_ok g1 a1) ?_
   refine g_cond rfl hG h_l1 (fun _ h_l1 => ?_) (fun _ h_l1 => ?_)
   · refine s_seq (g_reg hG ?_)
     refine g_ret ?_
     obtain rfl := Option.some.inj h_l1
     have hx := hx_l1 _ rfl
     subst hx
     try dsimp only at h
     exact g_end h
   refine g_skip ?_
   refine g_reg hG ?_
   exact g_next hK [] h_l1
 refine g_exit ?_
 obtain rfl := Option.some.inj h_l1
 have hx := hx_l1 _ rfl
 subst hx
 try dsimp only at h
 exact g_join hK [] () (by exact h)
attribute [local irreducible] f_ref03_Sup

noncomputable def f_ref04_Join (a0 : Resource) (a1 : Amount) (a2 : Amount) : Option (Amount) :=
 (if ((!(f_ref04_Permitted a0 a1)) || (!(f_ref04_Permitted a0 a2))) = true then
  some ({ Amount.zero with  })
 else
  (if (f_ref04_Covers a0 a1 a2) = true then
   some a1
  else
   (if (f_ref04_Covers a0 a2 a1) = true then
    some a2
   else
    (f_ref03_Sup a1.mode a2.mode).bind fun v1 =>
    some ({ Amount.zero with mode := v1 }))))
theorem ref04_Join_ok (a0 : Resource) (a1 : Amount) (a2 : Amount) (r : Amount) (h : f_ref04_Join a0 a1 a2 = some r) : PFn C 87 [.agg (Resource.enc a0), .agg (Amount.enc a1), .agg (Amount.enc a2)] (.agg (Amount.enc r)) := by
 refine pfn_intro ck_2y rfl fun E hG hN hK => ?_
 unfold pc_2y
 unfold f_ref04_Join at h
 refine s_seq (g_reg hG ?_)
 refine s_seq (s_seq (g_reg hG ?_))
 refine g_call (fun hg => ref04_Permitted_ok a0 a1) ?_
 refine g_call (fun hg => ref04_Permitted_ok a0 a2) ?_
 refine g_cond rfl hG h (fun _ h => ?_) (fun _ h => ?_)
 · refine s_seq (g_reg hG ?_)
   refine g_ret ?_
   exact g_end h
 refine g_skip ?_
 refine s_seq (s_seq (g_reg hG ?_))
 refine g_call (fun hg => ref04_Covers_ok a0 a1 a2) ?_
 refine g_cond rfl hG h (fun _ h => ?_) (fun _ h => ?_)
 · refine s_seq (g_reg hG ?_)
   refine g_ret ?_
   exact g_end h
 refine g_skip ?_
 refine s_seq (s_seq (g_reg hG ?_))
 refine g_call (fun hg => ref04_Covers_ok a0 a2 a1) ?_
 refine g_cond rfl hG h (fun _ h => ?_) (fun _ h => ?_)
 · refine s_seq (g_reg hG ?_)
   refine g_ret ?_
   exact g_end h
 refine g_skip ?_
 refine s_seq (g_reg hG ?_)
 obtain ⟨v1, hv1, h⟩ := bind_of h
 refine g_call (fun hg => ref03_Sup_ok a1.mode a2.mode _ (hv1)) ?_
 refine g_ret ?_
 exact g_end h
attribute [local irreducible] f_ref04_Join

noncomputable def f_ref12_Copy (a0 : Queue) : Option (Queue) :=
 gd (a0.holds.length ≤ 4294967296) <|
 gd (a0.converts.length ≤ 4294967296) <|
 gd (a0.waits.length ≤ 4294967296) <|
 some a0
theorem ref12_Copy_ok (a0 : Queue) (r : Queue) (h : f_ref12_Copy a0 = some r) : PFn C 86 [.agg (Queue.enc a0)] (.agg (Queue.enc r)) := by
 refine pfn_intro ck_2z rfl fun E hG hN hK => ?_
 unfold pc_2z
 unfold f_ref12_Copy at h
 refine s_seq (g_reg hG ?_)
 refine s_seq ?_
 obtain ⟨hb3, h⟩ := gd_some h
 refine g_reg hG ?_
 refine s_seq ?_
 obtain ⟨hb2, h⟩ := gd_some h
 refine g_reg hG ?_
 refine s_seq ?_
 obtain ⟨hb1, h⟩ := gd_some h
 refine g_reg hG ?_
 refine s_seq (g_reg hG ?_)
 refine g_ret ?_
 exact g_end h
attribute [local irreducible] f_ref12_Copy

noncomputable def f_ref12_Advance_k1  (j1 : Queue × (List Hold)) : Option (Queue × (List Hold)) :=
 some (j1.1, j1.2)
@[go_sem] def J30_k1  (j1 : Queue × (List Hold)) : St := ⟨[(1, .ptr 0 0 0), (2, .ptr 1 0 0), (4, .own 2 0 j1.2.length)], [(0, ⟨false, 8, (Queue.enc Queue.zero), [Queue.enc j1.1]⟩), (1, ⟨false, 8, (Queue.enc Queue.zero), [Queue.enc Queue.zero]⟩), (2, ⟨false, 5, (Hold.enc Hold.zero), j1.2.map Hold.enc⟩)], 3⟩
noncomputable def f_ref12_Advance_k2 (g1 : Queue × (List Hold)) (v4 : Wait × Bool) (j2 : Queue) : Option ((Queue × (List Hold)) ⊕ ((Queue × (List Hold)))) :=
 (f_ref10_Set j2.holds v4.1.proc v4.1.amount).bind fun v5 =>
 gd (g1.2.length + 1 ≤ 4294967296) <|
 some (.inl ({ j2 with holds := v5 }, (g1.2 ++ [(⟨v4.1.proc, v4.1.amount⟩ : Hold)])))
@[go_sem] def J30_k2 (g1 : Queue × (List Hold)) (v4 : Wait × Bool) (j2 : Queue) : St := ⟨[(1, .ptr 0 0 0), (2, .ptr 1 0 0), (4, .own 2 0 g1.2.length), (5, .ptr 3 0 0)], [(0, ⟨false, 8, (Queue.enc Queue.zero), [Queue.enc j2]⟩), (1, ⟨false, 8, (Queue.enc Queue.zero), [Queue.enc Queue.zero]⟩), (2, ⟨false, 5, (Hold.enc Hold.zero), g1.2.map Hold.enc⟩), (3, ⟨false, 7, (Wait.enc Wait.zero), [Wait.enc v4.1]⟩)], 4⟩
noncomputable def f_ref12_Advance_l1  (g1 : Queue × (List Hold)) : Option ((Queue × (List Hold)) ⊕ ((Queue × (List Hold)))) :=
 (f_ref12_Settled g1.1).bind fun v3 =>
 (if (!v3) = true then
  (f_ref12_Head g1.1).bind fun v4 =>
  (if (decide (0 < (g1.1.converts.length : Int))) = true then
   gd (0 ≤ 1 ∧ 1 ≤ (g1.1.converts.length : Int) ∧ (g1.1.converts.length : Int) ≤ (g1.1.converts.length : Int)) <|
   f_ref12_Advance_k2 g1 v4 ({ g1.1 with converts := (g1.1.converts.drop 1) })
  else
   gd (0 ≤ 1 ∧ 1 ≤ (g1.1.waits.length : Int) ∧ (g1.1.waits.length : Int) ≤ (g1.1.waits.length : Int)) <|
   f_ref12_Advance_k2 g1 v4 ({ g1.1 with waits := (g1.1.waits.drop 1) }))
 else
  some (.inr (g1.1, g1.2)))
@[go_sem] def I30_l1  (g1 : Queue × (List Hold)) : St := ⟨[(1, .ptr 0 0 0), (2, .ptr 1 0 0), (4, .own 2 0 g1.2.length)], [(0, ⟨false, 8, (Queue.enc Queue.zero), [Queue.enc g1.1]⟩), (1, ⟨false, 8, (Queue.enc Queue.zero), [Queue.enc Queue.zero]⟩), (2, ⟨false, 5, (Hold.enc Hold.zero), g1.2.map Hold.enc⟩)], 3⟩
noncomputable def f_ref12_Advance (a0 : Queue) : Option (Queue × (List Hold)) :=
 (f_ref12_Sound a0).bind fun v1 =>
 (if (!v1) = true then
  some ({ Queue.zero with  }, [])
 else
  (f_ref12_Copy a0).bind fun v2 =>
  (loopO (f_ref12_Advance_l1) (v2, [])).bind (fun z => f_ref12_Advance_k1 z))
theorem ref12_Advance_ok (a0 : Queue) (r : Queue × (List Hold)) (h : f_ref12_Advance a0 = some r) : PFn C 46 [.agg (Queue.enc a0)] (.tup [.agg (Queue.enc r.1), .sl (r.2.map Hold.enc)]) := by
 refine pfn_intro ck_30 rfl fun E hG hN hK => ?_
 unfold pc_30
 unfold f_ref12_Advance at h
 refine s_seq (g_reg hG ?_)
 refine s_seq (s_seq (g_reg hG ?_))
 obtain ⟨v1, hv1, h⟩ := bind_of h
 refine g_call (fun hg => ref12_Sound_ok a0 _ (hv1)) ?_
 refine g_cond rfl hG h (fun _ h => ?_) (fun _ h => ?_)
 · refine s_seq (g_reg hG ?_)
   refine g_ret ?_
   exact g_end h
 refine g_skip ?_
 refine s_seq (g_reg hG ?_)
 obtain ⟨v2, hv2, h⟩ := bind_of h
 refine g_call (fun hg => ref12_Copy_ok a0 _ (hv2)) ?_
 refine s_seq (g_reg hG ?_)
 refine s_seq ?_
 refine s_blockJ (J30_k1) (fun v => f_ref12_Advance_k1 v = some r) ?_ ?_
 · intro j1 h
   unfold f_ref12_Advance_k1 at h
   refine g_st ?_
   refine s_seq (g_reg hG ?_)
   refine g_ret ?_
   exact g_end h
 refine g_loop (I30_l1) hK [(0, 0), (1, 1), (2, 2)] h (fun x_l1 h g1 y_l1 h_l1 hx_l1 => ?_)
 unfold f_ref12_Advance_l1 at h_l1
 refine g_st ?_
 refine s_seq (s_seq (g_reg hG ?_))
 obtain ⟨v3, hv3, h_l1⟩ := bind_of h_l1
 refine g_call (fun hg => ref12_Settled_ok g1.1 _ (hv3)) ?_
 refine g_cond rfl hG h_l1 (fun _ h_l1 => ?_) (fun _ h_l1 => ?_)
 · refine g_skip ?_
   refine s_block (s_seq (g_reg hG ?_))
   obtain ⟨v4, hv4, h_l1⟩ := bind_of h_l1
   refine g_call (fun hg => ref12_Head_ok g1.1 _ (hv4)) ?_
   refine s_seq (s_seq (g_reg hG ?_))
   refine g_condJ (J30_k2 g1 v4) (fun v => f_ref12_Advance_k2 g1 v4 v = some y_l1) rfl hG h_l1 ?_ (fun _ h_l1 => ?_) (fun _ h_l1 => ?_)
   · intro j2 h_l1
     unfold f_ref12_Advance_k2 at h_l1
     refine g_st ?_
     refine s_seq (g_reg hG ?_)
     obtain ⟨v5, hv5, h_l1⟩ := bind_of h_l1
     refine g_call (fun hg => ref10_Set_ok j2.holds v4.1.proc v4.1.amount _ (hv5)) ?_
     obtain ⟨hb1, h_l1⟩ := gd_some h_l1
     refine g_reg hG ?_
     exact g_next hK [(0, 0), (1, 1), (2, 4)] h_l1
   · obtain ⟨hb2, h_l1⟩ := gd_some h_l1
     refine g_reg hG ?_
     exact g_join hK [(0, 0), (1, 1), (2, 2), (3, 3)] ({ g1.1 with converts := (g1.1.converts.drop 1) }) (by exact h_l1)
   obtain ⟨hb3, h_l1⟩ := gd_some h_l1
   refine g_reg hG ?_
   exact g_join hK [(0, 0), (1, 1), (2, 2), (3, 3)] ({ g1.1 with waits := (g1.1.waits.drop 1) }) (by exact h_l1)
 refine g_exit ?_
 obtain rfl := Option.some.inj h_l1
 have hx := hx_l1 _ rfl
 subst hx
 try dsimp only at h
 exact g_join hK [(0, 0), (1, 1), (2, 2)] (g1.1, g1.2) (by exact h)
attribute [local irreducible] f_ref12_Advance

def f_ref02_Next (a0 : Int) : Int :=
 (if ((decide (a0 < 0)) || (decide (1073741824 ≤ a0))) = true then
  1
 else
  (IntKind.i64.wrap (a0 + 1)))
theorem ref02_Next_ok (a0 : Int) : PFn C 135 [.int .i64 a0] (.int .i64 (f_ref02_Next a0)) := by
 generalize h : f_ref02_Next a0 = r
 refine pfn_intro ck_31 rfl fun E hG hN hK => ?_
 unfold pc_31
 unfold f_ref02_Next at h
 refine s_seq (g_reg hG ?_)
 refine s_seq (s_seq (g_reg hG ?_))
 refine g_cond rfl hG h (fun _ h => ?_) (fun _ h => ?_)
 · refine s_seq (g_reg hG ?_)
   refine g_ret ?_
   exact g_endT h
 refine g_skip ?_
 refine s_seq (g_reg hG ?_)
 refine g_ret ?_
 exact g_endT h

noncomputable def f_ref12_changed (a0 : Queue) : Option (Queue × (List Hold) × Int) :=
 (f_ref12_Advance a0).bind fun v1 =>
 some ({ v1.1 with gen := (f_ref02_Next a0.gen) }, v1.2, 0)
theorem ref12_changed_ok (a0 : Queue) (r : Queue × (List Hold) × Int) (h : f_ref12_changed a0 = some r) : PFn C 88 [.agg (Queue.enc a0)] (.tup [.agg (Queue.enc r.1), .sl (r.2.1.map Hold.enc), .int .i64 r.2.2]) := by
 refine pfn_intro ck_32 rfl fun E hG hN hK => ?_
 unfold pc_32
 unfold f_ref12_changed at h
 refine s_seq (g_reg hG ?_)
 refine s_seq (g_reg hG ?_)
 obtain ⟨v1, hv1, h⟩ := bind_of h
 refine g_call (fun hg => ref12_Advance_ok a0 _ (hv1)) ?_
 refine s_seq (g_reg hG ?_)
 refine g_call (fun hg => ref02_Next_ok a0.gen) ?_
 refine s_seq (g_reg hG ?_)
 refine g_ret ?_
 exact g_end h
attribute [local irreducible] f_ref12_changed

noncomputable def f_ref11_Insert_k2 (j1 : Int) (j2 : (List Wait)) : Option ((List Wait) × Int × Int) :=
 some (j2, j1, 0)
@[go_sem] def J33_k2 (j1 : Int) (j2 : (List Wait)) : St := ⟨[(7, .int .i64 j1), (8, .own 0 0 j2.length)], [(0, ⟨false, 7, (Wait.enc Wait.zero), j2.map Wait.enc⟩)], 1⟩
noncomputable def f_ref11_Insert_l1 (a0 : List Wait) (g1 : Int × (List Wait)) : Option ((Int × (List Wait)) ⊕ (((List Wait)))) :=
 (if (decide (g1.1 < (a0.length : Int))) = true then
  gd (0 ≤ g1.1 ∧ g1.1 < (a0.length : Int)) <|
  gd (g1.2.length + 1 ≤ 4294967296) <|
  some (.inl ((IntKind.i64.wrap (g1.1 + 1)), (g1.2 ++ [{ (a0.getD g1.1.toNat Wait.zero) with passed := (IntKind.i64.wrap ((a0.getD g1.1.toNat Wait.zero).passed + 1)) }])))
 else
  some (.inr g1.2))
@[go_sem] def I33_l1 (a0 : List Wait) (j1 : Int) (g1 : Int × (List Wait)) : St := ⟨[(0, .sl (a0.map Wait.enc)), (7, .int .i64 j1), (8, .own 0 0 g1.2.length), (9, .int .i64 g1.1)], [(0, ⟨false, 7, (Wait.enc Wait.zero), g1.2.map Wait.enc⟩)], 1⟩
noncomputable def f_ref11_Insert_k1 (a0 : List Wait) (a1 : Wait) (j1 : Int) : Option ((List Wait) × Int × Int) :=
 gd (0 ≤ 0 ∧ 0 ≤ j1 ∧ j1 ≤ (a0.length : Int)) <|
 gd ((a0.take j1.toNat).length ≤ 4294967296) <|
 gd ((a0.take j1.toNat).length + 1 ≤ 4294967296) <|
 (loopO (f_ref11_Insert_l1 a0) (j1, ((a0.take j1.toNat) ++ [a1]))).bind (fun z => f_ref11_Insert_k2 j1 z)
@[go_sem] def J33_k1 (a0 : List Wait) (a1 : Wait) (j1 : Int) : St := ⟨[(0, .sl (a0.map Wait.enc)), (3, .ptr 0 0 0), (7, .int .i64 j1)], [(0, ⟨false, 7, (Wait.enc Wait.zero), [Wait.enc a1]⟩)], 1⟩
noncomputable def f_ref11_Insert_l2 (a0 : List Wait) (a1 : Wait) (g2 : Int) : Option ((Int) ⊕ ((Int))) :=
 gd ((decide (0 < g2)) = true → 0 ≤ (IntKind.i64.wrap (g2 - 1)) ∧ (IntKind.i64.wrap (g2 - 1)) < (a0.length : Int)) <|
 gd (((decide (0 < g2)) && (decide ((a0.getD ((IntKind.i64.wrap (g2 - 1)).toNat) Wait.zero).priority < a1.priority))) = true → 0 ≤ (IntKind.i64.wrap (g2 - 1)) ∧ (IntKind.i64.wrap (g2 - 1)) < (a0.length : Int)) <|
 (if (((decide (0 < g2)) && (decide ((a0.getD ((IntKind.i64.wrap (g2 - 1)).toNat) Wait.zero).priority < a1.priority))) && (decide ((a0.getD ((IntKind.i64.wrap (g2 - 1)).toNat) Wait.zero).passed < 3))) = true then
  some (.inl (IntKind.i64.wrap (g2 - 1)))
 else
  some (.inr g2))
@[go_sem] def I33_l2 (a0 : List Wait) (a1 : Wait) (g2 : Int) : St := ⟨[(0, .sl (a0.map Wait.enc)), (3, .ptr 0 0 0), (7, .int .i64 g2)], [(0, ⟨false, 7, (Wait.enc Wait.zero), [Wait.enc a1]⟩)], 1⟩
noncomputable def f_ref11_Insert (a0 : List Wait) (a1 : Wait) : Option ((List Wait) × Int × Int) :=
 (f_ref11_Valid a0).bind fun v1 =>
 (if (!v1) = true then
  some ([], 0, 2)
 else
  (if ((!(f_ref11_ValidWait a1)) || (!decide (a1.passed = 0))) = true then
   some ([], 0, 1)
  else
   (f_ref11_Find a0 a1.proc).bind fun v2 =>
   (if (decide (0 ≤ v2)) = true then
    some ([], 0, 11)
   else
    (if (decide ((a0.length : Int) = 8)) = true then
     some ([], 0, 4)
    else
     (loopO (f_ref11_Insert_l2 a0 a1) (a0.length : Int)).bind (fun z => f_ref11_Insert_k1 a0 a1 z)))))
theorem ref11_Insert_ok (a0 : List Wait) (a1 : Wait) (r : (List Wait) × Int × Int) (h : f_ref11_Insert a0 a1 = some r) : PFn C 89 [.sl (a0.map Wait.enc), .agg (Wait.enc a1)] (.tup [.sl (r.1.map Wait.enc), .int .i64 r.2.1, .int .i64 r.2.2]) := by
 refine pfn_intro ck_33 rfl fun E hG hN hK => ?_
 unfold pc_33
 unfold f_ref11_Insert at h
 refine s_seq (g_reg hG ?_)
 refine s_seq (s_seq (g_reg hG ?_))
 obtain ⟨v1, hv1, h⟩ := bind_of h
 refine g_call (fun hg => ref11_Valid_ok a0 _ (hv1)) ?_
 refine g_cond rfl hG h (fun _ h => ?_) (fun _ h => ?_)
 · refine s_seq (g_reg hG ?_)
   refine g_ret ?_
   exact g_end h
 refine g_skip ?_
 refine s_seq (s_seq (g_reg hG ?_))
 refine g_call (fun hg => ref11_ValidWait_ok a1) ?_
 refine g_cond rfl hG h (fun _ h => ?_) (fun _ h => ?_)
 · refine s_seq (g_reg hG ?_)
   refine g_ret ?_
   exact g_end h
 refine g_skip ?_
 refine s_seq (s_seq (g_reg hG ?_))
 obtain ⟨v2, hv2, h⟩ := bind_of h
 refine g_call (fun hg => ref11_Find_ok a0 a1.proc _ (hv2)) ?_
 refine g_cond rfl hG h (fun _ h => ?_) (fun _ h => ?_)
 · refine s_seq (g_reg hG ?_)
   refine g_ret ?_
   exact g_end h
 refine g_skip ?_
 refine s_seq (s_seq (g_reg hG ?_))
 refine g_cond rfl hG h (fun _ h => ?_) (fun _ h => ?_)
 · refine s_seq (g_reg hG ?_)
   refine g_ret ?_
   exact g_end h
 refine g_skip ?_
 refine s_seq (g_reg hG ?_)
 refine s_seq ?_
 refine s_blockJ (J33_k1 a0 a1) (fun v => f_ref11_Insert_k1 a0 a1 v = some r) ?_ ?_
 · intro j1 h
   unfold f_ref11_Insert_k1 at h
   refine g_st ?_
   refine s_seq ?_
   obtain ⟨hb3, h⟩ := gd_some h
   obtain ⟨hb4, h⟩ := gd_some h
   obtain ⟨hb5, h⟩ := gd_some h
   refine g_regm C_mixed hG ?_
   refine s_seq (s_seq (g_reg hG ?_))
   refine s_blockJ (J33_k2 j1) (fun v => f_ref11_Insert_k2 j1 v = some r) ?_ ?_
   · intro j2 h
     unfold f_ref11_Insert_k2 at h
     refine g_st ?_
     refine s_seq (g_reg hG ?_)
     refine g_ret ?_
     exact g_end h
   refine g_loop (I33_l1 a0 j1) hK [(0, 3)] h (fun x_l1 h g1 y_l1 h_l1 hx_l1 => ?_)
   unfold f_ref11_Insert_l1 at h_l1
   refine g_st ?_
   refine s_seq (s_seq (g_reg hG ?_))
   refine g_cond rfl hG h_l1 (fun _ h_l1 => ?_) (fun _ h_l1 => ?_)
   · refine g_skip ?_
     refine s_seq (s_block (s_seq ?_))
     obtain ⟨hb2, h_l1⟩ := gd_some h_l1
     refine g_reg hG ?_
     refine s_seq (g_reg hG ?_)
     obtain ⟨hb1, h_l1⟩ := gd_some h_l1
     refine g_reg hG ?_
     refine g_reg hG ?_
     exact g_next hK [(0, 2)] h_l1
   refine g_exit ?_
   obtain rfl := Option.some.inj h_l1
   have hx := hx_l1 _ rfl
   subst hx
   try dsimp only at h
   exact g_join hK [(0, 0)] g1.2 (by exact h)
 refine g_loop (I33_l2 a0 a1) hK [(0, 0)] h (fun x_l2 h g2 y_l2 h_l2 hx_l2 => ?_)
 unfold f_ref11_Insert_l2 at h_l2
 refine g_st ?_
 refine s_seq (s_seq ?_)
 obtain ⟨hb6, h_l2⟩ := gd_some h_l2
 obtain ⟨hb7, h_l2⟩ := gd_some h_l2
 refine g_regd C_mixed hG ?_
 refine g_cond rfl hG h_l2 (fun _ h_l2 => ?_) (fun _ h_l2 => ?_)
 · refine g_skip ?_
   refine s_block (g_reg hG ?_)
   exact g_next hK [(0, 0)] h_l2
 refine g_exit ?_
 obtain rfl := Option.some.inj h_l2
 have hx := hx_l2 _ rfl
 subst hx
 try dsimp only at h
 exact g_join hK [(0, 0)] g2 (by exact h)
attribute [local irreducible] f_ref11_Insert

noncomputable def f_ref12_Claim (a0 : Queue) (a1 : Proc) (a2 : Amount) (a3 : Int) : Option (Queue × (List Hold) × Int) :=
 (f_ref12_Valid a0).bind fun v1 =>
 (if (!v1) = true then
  some ({ Queue.zero with  }, [], 2)
 else
  (if (((!(f_ref02_ValidProc a1)) || (decide (a3 < 0))) || (decide (7 < a3))) = true then
   some ({ Queue.zero with  }, [], 1)
  else
   (if (!(f_ref04_Fits a0.resource a2)) = true then
    some ({ Queue.zero with  }, [], 12)
   else
    (f_ref12_Wanted a0 a1).bind fun v2 =>
    (if v2.2 = true then
     some ({ Queue.zero with  }, [], 14)
    else
     (f_ref12_Copy_m a0).bind fun v3 =>
     (f_ref12_Held v3 a1).bind fun v4 =>
     (if (f_ref04_Covers v3.resource v4 a2) = true then
      some (v3, [], 0)
     else
      (if (!(f_ref04_Zero v4)) = true then
       (f_ref04_Join v3.resource v4 a2).bind fun v5 =>
       gd (v3.converts.length + 1 ≤ 4294967296) <|
       (f_ref12_changed (⟨(⟨v3.resource.name, v3.resource.kind, v3.resource.units, v3.resource.home⟩ : Resource), v3.holds, (v3.converts ++ [{ Wait.zero with proc := a1, amount := v5 }]), v3.waits, v3.gen⟩ : Queue)).bind fun v6 =>
       some (v6.1, v6.2.1, v6.2.2)
      else
       (if (decide (8 ≤ (IntKind.i64.wrap (((v3.holds.length : Nat) : Int) + ((v3.waits.length : Nat) : Int))))) = true then
        some ({ Queue.zero with  }, [], 4)
       else
        (f_ref11_Insert v3.waits ({ Wait.zero with proc := a1, amount := a2, priority := a3 })).bind fun v7 =>
        (if (!decide (v7.2.2 = 0)) = true then
         some ({ Queue.zero with  }, [], v7.2.2)
        else
         (f_ref12_changed (⟨(⟨v3.resource.name, v3.resource.kind, v3.resource.units, v3.resource.home⟩ : Resource), v3.holds, v3.converts, v7.1, v3.gen⟩ : Queue)).bind fun v8 =>
         some (v8.1, v8.2.1, v8.2.2)))))))))
theorem ref12_Claim_ok (a0 : Queue) (a1 : Proc) (a2 : Amount) (a3 : Int) (r : Queue × (List Hold) × Int) (h : f_ref12_Claim a0 a1 a2 a3 = some r) : PFn C 29 [.agg (Queue.enc a0), .agg (Proc.enc a1), .agg (Amount.enc a2), .int .i64 a3] (.tup [.agg (Queue.enc r.1), .sl (r.2.1.map Hold.enc), .int .i64 r.2.2]) := by
 refine pfn_intro ck_34 rfl fun E hG hN hK => ?_
 unfold pc_34
 unfold f_ref12_Claim at h
 refine s_seq (g_reg hG ?_)
 refine s_seq (s_seq (g_reg hG ?_))
 obtain ⟨v1, hv1, h⟩ := bind_of h
 refine g_call (fun hg => ref12_Valid_ok a0 _ (hv1)) ?_
 refine g_cond rfl hG h (fun _ h => ?_) (fun _ h => ?_)
 · refine s_seq (g_reg hG ?_)
   refine g_ret ?_
   exact g_end h
 refine g_skip ?_
 refine s_seq (s_seq (g_reg hG ?_))
 refine g_call (fun hg => ref02_ValidProc_ok a1) ?_
 refine g_cond rfl hG h (fun _ h => ?_) (fun _ h => ?_)
 · refine s_seq (g_reg hG ?_)
   refine g_ret ?_
   exact g_end h
 refine g_skip ?_
 refine s_seq (s_seq (g_reg hG ?_))
 refine g_call (fun hg => ref04_Fits_ok a0.resource a2) ?_
 refine g_cond rfl hG h (fun _ h => ?_) (fun _ h => ?_)
 · refine s_seq (g_reg hG ?_)
   refine g_ret ?_
   exact g_end h
 refine g_skip ?_
 refine s_seq (s_seq (g_reg hG ?_))
 obtain ⟨v2, hv2, h⟩ := bind_of h
 refine g_call (fun hg => ref12_Wanted_ok a0 a1 _ (hv2)) ?_
 refine s_seq (g_reg hG ?_)
 refine g_cond rfl hG h (fun _ h => ?_) (fun _ h => ?_)
 · refine s_seq (g_reg hG ?_)
   refine g_ret ?_
   exact g_end h
 refine g_skip ?_
 refine s_seq (g_reg hG ?_)
 obtain ⟨v3, hv3, h⟩ := bind_of h
 refine g_callm [] [(0, 5), (1, 6), (2, 7)] [0, 1, 2] (ref12_Copy_m_okm a0 _ hv3) rfl rfl ?_
 refine s_seq (g_reg hG ?_)
 obtain ⟨v4, hv4, h⟩ := bind_of h
 refine g_call (fun hg => ref12_Held_ok v3 a1 _ (hv4)) ?_
 refine s_seq (s_seq (g_reg hG ?_))
 refine g_call (fun hg => ref04_Covers_ok v3.resource v4 a2) ?_
 refine g_cond rfl hG h (fun _ h => ?_) (fun _ h => ?_)
 · refine s_seq (g_reg hG ?_)
   refine g_ret ?_
   exact g_end h
 refine g_skip ?_
 refine s_seq (s_seq (g_reg hG ?_))
 refine g_call (fun hg => ref04_Zero_ok v4) ?_
 refine g_cond rfl hG h (fun _ h => ?_) (fun _ h => ?_)
 · refine s_seq (g_regm C_mixed hG ?_)
   obtain ⟨v5, hv5, h⟩ := bind_of h
   obtain ⟨hb1, h⟩ := gd_some h
   refine g_callM (fun hg => ref04_Join_ok v3.resource v4 a2 _ (hv5)) ?_
   refine s_seq (g_reg hG ?_)
   obtain ⟨v6, hv6, h⟩ := bind_of h
   have hc_v6 := ref12_changed_ok (⟨(⟨v3.resource.name, v3.resource.kind, v3.resource.units, v3.resource.home⟩ : Resource), v3.holds, (v3.converts ++ [{ Wait.zero with proc := a1, amount := v5 }]), v3.waits, v3.gen⟩ : Queue) _ (hv6)
   have el_v6 : ∀ x : Queue, Queue.enc x = [A.str x.resource.name, A.int .i64 x.resource.kind, A.int .i64 x.resource.units, A.int .i64 x.resource.home, A.sl (x.holds.map Hold.enc), A.sl (x.converts.map Wait.enc), A.sl (x.waits.map Wait.enc), A.int .i64 x.gen] := fun x => rfl
   rw [el_v6] at hc_v6
   dsimp only at hc_v6
   refine g_call (fun hg => by exact hc_v6) ?_
   refine g_ret ?_
   exact g_end h
 refine g_skip ?_
 refine s_seq (s_seq (g_reg hG ?_))
 refine g_cond rfl hG h (fun _ h => ?_) (fun _ h => ?_)
 · refine s_seq (g_reg hG ?_)
   refine g_ret ?_
   exact g_end h
 refine g_skip ?_
 refine s_seq (g_reg hG ?_)
 obtain ⟨v7, hv7, h⟩ := bind_of h
 refine g_call (fun hg => ref11_Insert_ok v3.waits ({ Wait.zero with proc := a1, amount := a2, priority := a3 }) _ (hv7)) ?_
 refine s_seq (s_seq (g_reg hG ?_))
 refine g_cond rfl hG h (fun _ h => ?_) (fun _ h => ?_)
 · refine s_seq (g_reg hG ?_)
   refine g_ret ?_
   exact g_end h
 refine g_skip ?_
 refine s_seq (g_reg hG ?_)
 refine s_seq (g_reg hG ?_)
 obtain ⟨v8, hv8, h⟩ := bind_of h
 have hc_v8 := ref12_changed_ok (⟨(⟨v3.resource.name, v3.resource.kind, v3.resource.units, v3.resource.home⟩ : Resource), v3.holds, v3.converts, v7.1, v3.gen⟩ : Queue) _ (hv8)
 have el_v8 : ∀ x : Queue, Queue.enc x = [A.str x.resource.name, A.int .i64 x.resource.kind, A.int .i64 x.resource.units, A.int .i64 x.resource.home, A.sl (x.holds.map Hold.enc), A.sl (x.converts.map Wait.enc), A.sl (x.waits.map Wait.enc), A.int .i64 x.gen] := fun x => rfl
 rw [el_v8] at hc_v8
 dsimp only at hc_v8
 refine g_call (fun hg => by exact hc_v8) ?_
 refine g_ret ?_
 exact g_end h
attribute [local irreducible] f_ref12_Claim

noncomputable def f_law12_same (a0 : Queue) (a1 : List Hold) (a2 : Int) (a3 : Queue) (a4 : List Hold) (a5 : Int) : Option (Bool) :=
 ((if (decide (a2 = a5)) = true then f_ref12_Same a0 a3 else some (false))).bind fun v1 =>
 ((if ((decide (a2 = a5)) && v1) = true then f_ref10_SameHolds a1 a4 else some (false))).bind fun v2 =>
 some (((decide (a2 = a5)) && v1) && v2)
theorem law12_same_ok (a0 : Queue) (a1 : List Hold) (a2 : Int) (a3 : Queue) (a4 : List Hold) (a5 : Int) (r : Bool) (h : f_law12_same a0 a1 a2 a3 a4 a5 = some r) : PFn C 30 [.agg (Queue.enc a0), .sl (a1.map Hold.enc), .int .i64 a2, .agg (Queue.enc a3), .sl (a4.map Hold.enc), .int .i64 a5] (.bool r) := by
 refine pfn_intro ck_35 rfl fun E hG hN hK => ?_
 unfold pc_35
 unfold f_law12_same at h
 refine s_seq (g_reg hG ?_)
 refine s_seq (g_reg hG ?_)
 obtain ⟨v1, hv1, h⟩ := bind_of h
 refine g_call (fun hg => ref12_Same_ok a0 a3 _ (ite_t hg hv1)) ?_
 obtain ⟨v2, hv2, h⟩ := bind_of h
 refine g_call (fun hg => ref10_SameHolds_ok a1 a4 _ (ite_t hg hv2)) ?_
 refine g_ret ?_
 exact g_end h
attribute [local irreducible] f_law12_same

def f_mill_Light (a0 : List Int) : Bool :=
 (decide ((a0.length : Int) ≤ 300))
theorem mill_Light_ok (a0 : List Int) : PFn C 31 [.sl (a0.map (eI .i64))] (.bool (f_mill_Light a0)) := by
 generalize h : f_mill_Light a0 = r
 refine pfn_intro ck_37 rfl fun E hG hN hK => ?_
 unfold pc_37
 unfold f_mill_Light at h
 refine s_seq (g_reg hG ?_)
 refine s_seq (g_reg hG ?_)
 refine g_ret ?_
 exact g_endT h

noncomputable def f_mill_Tape_Next_m (a0 : Int) (a1 : Tape) : Option (Int × Tape) :=
 (if (decide ((a1.l.length : Int) ≤ a1.at_)) = true then
  some (0, a1)
 else
  gd (0 ≤ (IntKind.i64.wrap (({ a1 with at_ := (IntKind.i64.wrap (a1.at_ + 1)) }).at_ - 1)) ∧ (IntKind.i64.wrap (({ a1 with at_ := (IntKind.i64.wrap (a1.at_ + 1)) }).at_ - 1)) < ((({ a1 with at_ := (IntKind.i64.wrap (a1.at_ + 1)) }).l).length : Int)) <|
  (f_mill_Mod ((({ a1 with at_ := (IntKind.i64.wrap (a1.at_ + 1)) }).l).getD ((IntKind.i64.wrap (({ a1 with at_ := (IntKind.i64.wrap (a1.at_ + 1)) }).at_ - 1)).toNat) 0) a0).bind fun v1 =>
  some (v1, { a1 with at_ := (IntKind.i64.wrap (a1.at_ + 1)) }))
theorem mill_Tape_Next_m_okm (a0 : Int) (a1 : Tape) (r : Int × Tape) (h : f_mill_Tape_Next_m a0 a1 = some r) : MFn C 140 [.ptr 0 0 0, .int .i64 a0] [(0, ⟨false, 2, (Tape.enc Tape.zero), [Tape.enc a1]⟩)] 1 (.int .i64 r.1) [(0, ⟨false, 2, (Tape.enc Tape.zero), [Tape.enc r.2]⟩)] 1 := by
 refine mfn_intro (rl := [.int .i64 r.1]) ck_38 rfl rfl rfl rfl fun E hG hN hK => ?_
 unfold pc_38
 unfold f_mill_Tape_Next_m at h
 refine s_seq (g_reg hG ?_)
 refine s_seq (s_seq (g_regd C_mixed hG ?_))
 refine g_cond rfl hG h (fun _ h => ?_) (fun _ h => ?_)
 · refine s_seq (g_reg hG ?_)
   refine g_ret ?_
   exact g_retm [(0, 0)] h
 refine g_skip ?_
 refine s_seq (g_reg hG ?_)
 refine s_seq ?_
 obtain ⟨hb1, h⟩ := gd_some h
 refine g_regd C_mixed hG ?_
 obtain ⟨v1, hv1, h⟩ := bind_of h
 refine g_calld (fun hg => mill_Mod_ok ((({ a1 with at_ := (IntKind.i64.wrap (a1.at_ + 1)) }).l).getD ((IntKind.i64.wrap (({ a1 with at_ := (IntKind.i64.wrap (a1.at_ + 1)) }).at_ - 1)).toNat) 0) a0 _ (hv1)) ?_
 refine g_ret ?_
 exact g_retm [(0, 0)] h
attribute [local irreducible] f_mill_Tape_Next_m

def lit_mill_Catalog_m_1  : List ByteArray := [(⟨#[97]⟩ : ByteArray), (⟨#[98]⟩ : ByteArray), (⟨#[99]⟩ : ByteArray), (⟨#[100]⟩ : ByteArray)]
noncomputable def f_mill_Catalog_m_k1  (j1 : Tape × (List Resource)) : Option ((List Resource) × Tape) :=
 (f_mill_Tape_Next_m 8 j1.1).bind fun v1 =>
 (f_mill_Tape_Next_m 4 v1.2).bind fun v2 =>
 gd (j1.2.length + 1 ≤ 4294967296) <|
 (f_mill_Tape_Next_m 3 v2.2).bind fun v3 =>
 (f_mill_Tape_Next_m 4 v3.2).bind fun v4 =>
 gd (j1.2.length + 1 + 1 ≤ 4294967296) <|
 some (((j1.2 ++ [(⟨(⟨#[112]⟩ : ByteArray), 2, (IntKind.i64.wrap (1 + v1.1)), v2.1⟩ : Resource)]) ++ [(⟨(⟨#[113]⟩ : ByteArray), 2, (IntKind.i64.wrap (1 + v3.1)), v4.1⟩ : Resource)]), v4.2)
@[go_sem] def J39_k1  (j1 : Tape × (List Resource)) : St := ⟨[(0, .ptr 0 0 0), (3, .own 1 0 j1.2.length)], [(0, ⟨false, 2, (Tape.enc Tape.zero), [Tape.enc j1.1]⟩), (1, ⟨false, 4, (Resource.enc Resource.zero), j1.2.map Resource.enc⟩)], 2⟩
noncomputable def f_mill_Catalog_m_l1  (g1 : Int × Tape × (List Resource)) : Option ((Int × Tape × (List Resource)) ⊕ ((Tape × (List Resource)))) :=
 (if (decide (g1.1 < (lit_mill_Catalog_m_1.length : Int))) = true then
  gd (0 ≤ g1.1 ∧ g1.1 < (lit_mill_Catalog_m_1.length : Int)) <|
  (f_mill_Tape_Next_m 4 g1.2.1).bind fun v5 =>
  gd (g1.2.2.length + 1 ≤ 4294967296) <|
  some (.inl ((IntKind.i64.wrap (g1.1 + 1)), v5.2, (g1.2.2 ++ [(⟨(lit_mill_Catalog_m_1.getD g1.1.toNat (⟨#[]⟩)), 1, 1, v5.1⟩ : Resource)])))
 else
  some (.inr (g1.2.1, g1.2.2)))
@[go_sem] def I39_l1  (g1 : Int × Tape × (List Resource)) : St := ⟨[(0, .ptr 0 0 0), (3, .own 1 0 g1.2.2.length), (4, .full (lit_mill_Catalog_m_1.map eS)), (5, .int .i64 g1.1)], [(0, ⟨false, 2, (Tape.enc Tape.zero), [Tape.enc g1.2.1]⟩), (1, ⟨false, 4, (Resource.enc Resource.zero), g1.2.2.map Resource.enc⟩)], 2⟩
noncomputable def f_mill_Catalog_m (a0 : Tape) : Option ((List Resource) × Tape) :=
 (loopO (f_mill_Catalog_m_l1) (0, a0, [])).bind (fun z => f_mill_Catalog_m_k1 z)
theorem mill_Catalog_m_okm (a0 : Tape) (r : (List Resource) × Tape) (h : f_mill_Catalog_m a0 = some r) : MFn C 111 [.ptr 0 0 0] [(0, ⟨false, 2, (Tape.enc Tape.zero), [Tape.enc a0]⟩)] 1 (.sl (r.1.map Resource.enc)) [(0, ⟨false, 2, (Tape.enc Tape.zero), [Tape.enc r.2]⟩)] 1 := by
 refine mfn_intro (rl := [.sl (r.1.map Resource.enc)]) ck_39 rfl rfl rfl rfl fun E hG hN hK => ?_
 unfold pc_39
 unfold f_mill_Catalog_m at h
 refine s_seq (g_reg hG ?_)
 refine s_seq (g_reg hG ?_)
 refine s_seq (g_reg hG ?_)
 refine g_gh (.cast 4 (.full (lit_mill_Catalog_m_1.map eS))) ?_
 refine s_seq (s_seq (g_reg hG ?_))
 refine s_blockJ (J39_k1) (fun v => f_mill_Catalog_m_k1 v = some r) ?_ ?_
 · intro j1 h
   unfold f_mill_Catalog_m_k1 at h
   refine g_st ?_
   refine s_seq (g_reg hG ?_)
   obtain ⟨v1, hv1, h⟩ := bind_of h
   refine g_callm [(0, 0)] [] [0] (mill_Tape_Next_m_okm 8 j1.1 _ hv1) rfl rfl ?_
   obtain ⟨v2, hv2, h⟩ := bind_of h
   obtain ⟨hb2, h⟩ := gd_some h
   refine g_callm [(0, 0)] [] [0] (mill_Tape_Next_m_okm 4 v1.2 _ hv2) rfl rfl ?_
   refine s_seq (g_reg hG ?_)
   obtain ⟨v3, hv3, h⟩ := bind_of h
   refine g_callm [(0, 0)] [] [0] (mill_Tape_Next_m_okm 3 v2.2 _ hv3) rfl rfl ?_
   obtain ⟨v4, hv4, h⟩ := bind_of h
   obtain ⟨hb1, h⟩ := gd_some h
   refine g_callm [(0, 0)] [] [0] (mill_Tape_Next_m_okm 4 v3.2 _ hv4) rfl rfl ?_
   refine g_gh (.fz [3]) ?_
   refine g_ret ?_
   exact g_retm [(0, 0)] h
 refine g_loop (I39_l1) hK [(0, 0), (1, 1)] h (fun x_l1 h g1 y_l1 h_l1 hx_l1 => ?_)
 unfold f_mill_Catalog_m_l1 at h_l1
 refine g_st ?_
 refine s_seq (s_seq (g_reg hG ?_))
 refine g_cond rfl hG h_l1 (fun _ h_l1 => ?_) (fun _ h_l1 => ?_)
 · refine g_skip ?_
   refine s_seq (s_block ?_)
   obtain ⟨hb3, h_l1⟩ := gd_some h_l1
   refine g_regm C_mixed hG ?_
   obtain ⟨v5, hv5, h_l1⟩ := bind_of h_l1
   obtain ⟨hb4, h_l1⟩ := gd_some h_l1
   refine g_callmM [(0, 0)] [] [0] (mill_Tape_Next_m_okm 4 g1.2.1 _ hv5) rfl rfl ?_
   refine g_reg hG ?_
   exact g_next hK [(0, 0), (1, 2)] h_l1
 refine g_exit ?_
 obtain rfl := Option.some.inj h_l1
 have hx := hx_l1 _ rfl
 subst hx
 try dsimp only at h
 exact g_join hK [(0, 0), (1, 1)] (g1.2.1, g1.2.2) (by exact h)
attribute [local irreducible] f_mill_Catalog_m

noncomputable def f_mill_Resource (a0 : Int) : Option (Resource) :=
 (f_mill_Catalog_m (⟨[a0, (a0.fdiv (2 ^ 2)), (a0.fdiv (2 ^ 4)), (a0.fdiv (2 ^ 6)), (a0.fdiv (2 ^ 8)), (a0.fdiv (2 ^ 10)), (a0.fdiv (2 ^ 12)), (a0.fdiv (2 ^ 14))], 0⟩ : Tape)).bind fun v1 =>
 (f_mill_Mod a0 (v1.1.length : Int)).bind fun v2 =>
 gd (0 ≤ v2 ∧ v2 < (v1.1.length : Int)) <|
 some (v1.1.getD v2.toNat Resource.zero)
theorem mill_Resource_ok (a0 : Int) (r : Resource) (h : f_mill_Resource a0 = some r) : PFn C 53 [.int .i64 a0] (.agg (Resource.enc r)) := by
 refine pfn_intro ck_3a rfl fun E hG hN hK => ?_
 unfold pc_3a
 unfold f_mill_Resource at h
 refine s_seq (g_reg hG ?_)
 refine s_seq (g_reg hG ?_)
 refine s_seq ?_
 refine g_gh .unf ?_
 refine g_reg hG ?_
 obtain ⟨v1, hv1, h⟩ := bind_of h
 refine g_callm [(0, 1)] [] [0] (mill_Catalog_m_okm (⟨[a0, (a0.fdiv (2 ^ 2)), (a0.fdiv (2 ^ 4)), (a0.fdiv (2 ^ 6)), (a0.fdiv (2 ^ 8)), (a0.fdiv (2 ^ 10)), (a0.fdiv (2 ^ 12)), (a0.fdiv (2 ^ 14))], 0⟩ : Tape) _ hv1) rfl rfl ?_
 refine s_seq (g_reg hG ?_)
 obtain ⟨v2, hv2, h⟩ := bind_of h
 obtain ⟨hb1, h⟩ := gd_some h
 refine g_call (fun hg => mill_Mod_ok a0 (v1.1.length : Int) _ (hv2)) ?_
 refine g_ret ?_
 exact g_end h
attribute [local irreducible] f_mill_Resource

def lit_mill_Mode_1  : List Int := [5, 5, 3, 4, 2, 1, 3, 5]
noncomputable def f_mill_Mode (a0 : Int) : Option (Int) :=
 (f_mill_Mod a0 (lit_mill_Mode_1.length : Int)).bind fun v1 =>
 gd (0 ≤ v1 ∧ v1 < (lit_mill_Mode_1.length : Int)) <|
 some (lit_mill_Mode_1.getD v1.toNat 0)
theorem mill_Mode_ok (a0 : Int) (r : Int) (h : f_mill_Mode a0 = some r) : PFn C 99 [.int .i64 a0] (.int .i64 r) := by
 refine pfn_intro ck_3b rfl fun E hG hN hK => ?_
 unfold pc_3b
 unfold f_mill_Mode at h
 refine s_seq (g_reg hG ?_)
 refine s_seq (g_reg hG ?_)
 refine g_gh (.cast 3 (.full (lit_mill_Mode_1.map (eI .i64)))) ?_
 refine s_seq (g_reg hG ?_)
 obtain ⟨v1, hv1, h⟩ := bind_of h
 obtain ⟨hb1, h⟩ := gd_some h
 refine g_call (fun hg => mill_Mod_ok a0 (lit_mill_Mode_1.length : Int) _ (hv1)) ?_
 refine g_ret ?_
 exact g_end h
attribute [local irreducible] f_mill_Mode

noncomputable def f_mill_Amount (a0 : Resource) (a1 : Int) : Option (Amount) :=
 (if (decide (a0.kind = 1)) = true then
  (f_mill_Mode a1).bind fun v1 =>
  some ({ Amount.zero with mode := v1 })
 else
  (f_mill_Mod a1 a0.units).bind fun v2 =>
  some ({ Amount.zero with units := (IntKind.i64.wrap (1 + v2)) }))
theorem mill_Amount_ok (a0 : Resource) (a1 : Int) (r : Amount) (h : f_mill_Amount a0 a1 = some r) : PFn C 38 [.agg (Resource.enc a0), .int .i64 a1] (.agg (Amount.enc r)) := by
 refine pfn_intro ck_3c rfl fun E hG hN hK => ?_
 unfold pc_3c
 unfold f_mill_Amount at h
 refine s_seq (g_reg hG ?_)
 refine s_seq (s_seq (g_reg hG ?_))
 refine g_cond rfl hG h (fun _ h => ?_) (fun _ h => ?_)
 · refine s_seq (g_reg hG ?_)
   obtain ⟨v1, hv1, h⟩ := bind_of h
   refine g_call (fun hg => mill_Mode_ok a1 _ (hv1)) ?_
   refine g_ret ?_
   exact g_end h
 refine g_skip ?_
 refine s_seq (g_reg hG ?_)
 obtain ⟨v2, hv2, h⟩ := bind_of h
 refine g_call (fun hg => mill_Mod_ok a1 a0.units _ (hv2)) ?_
 refine g_ret ?_
 exact g_end h
attribute [local irreducible] f_mill_Amount

noncomputable def f_ref11_Remove_k1 (a0 : List Wait) (j1 : (List Wait)) : Option ((List Wait) × Bool) :=
 some (j1, (decide (((j1.length : Nat) : Int) < (a0.length : Int))))
@[go_sem] def J3d_k1 (a0 : List Wait) (j1 : (List Wait)) : St := ⟨[(0, .sl (a0.map Wait.enc)), (6, .own 0 0 j1.length)], [(0, ⟨false, 7, (Wait.enc Wait.zero), j1.map Wait.enc⟩)], 1⟩
noncomputable def f_ref11_Remove_l1 (a0 : List Wait) (a1 : Proc) (g1 : Int × (List Wait)) : Option ((Int × (List Wait)) ⊕ (((List Wait)))) :=
 (if (decide (g1.1 < (a0.length : Int))) = true then
  gd (0 ≤ g1.1 ∧ g1.1 < (a0.length : Int)) <|
  (if (!decide ((a0.getD g1.1.toNat Wait.zero).proc = a1)) = true then
   gd (0 ≤ g1.1 ∧ g1.1 < (a0.length : Int)) <|
   gd (g1.2.length + 1 ≤ 4294967296) <|
   some (.inl ((IntKind.i64.wrap (g1.1 + 1)), (g1.2 ++ [(a0.getD g1.1.toNat Wait.zero)])))
  else
   some (.inl ((IntKind.i64.wrap (g1.1 + 1)), g1.2)))
 else
  some (.inr g1.2))
@[go_sem] def I3d_l1 (a0 : List Wait) (a1 : Proc) (g1 : Int × (List Wait)) : St := ⟨[(0, .sl (a0.map Wait.enc)), (3, .ptr 0 0 0), (6, .own 1 0 g1.2.length), (7, .int .i64 g1.1)], [(0, ⟨false, 3, (Proc.enc Proc.zero), [Proc.enc a1]⟩), (1, ⟨false, 7, (Wait.enc Wait.zero), g1.2.map Wait.enc⟩)], 2⟩
noncomputable def f_ref11_Remove (a0 : List Wait) (a1 : Proc) : Option ((List Wait) × Bool) :=
 (loopO (f_ref11_Remove_l1 a0 a1) (0, [])).bind (fun z => f_ref11_Remove_k1 a0 z)
theorem ref11_Remove_ok (a0 : List Wait) (a1 : Proc) (r : (List Wait) × Bool) (h : f_ref11_Remove a0 a1 = some r) : PFn C 107 [.sl (a0.map Wait.enc), .agg (Proc.enc a1)] (.tup [.sl (r.1.map Wait.enc), .bool r.2]) := by
 refine pfn_intro ck_3d rfl fun E hG hN hK => ?_
 unfold pc_3d
 unfold f_ref11_Remove at h
 refine s_seq (g_reg hG ?_)
 refine s_seq (g_reg hG ?_)
 refine s_seq (s_seq (g_reg hG ?_))
 refine s_blockJ (J3d_k1 a0) (fun v => f_ref11_Remove_k1 a0 v = some r) ?_ ?_
 · intro j1 h
   unfold f_ref11_Remove_k1 at h
   refine g_st ?_
   refine s_seq (g_reg hG ?_)
   refine g_ret ?_
   exact g_end h
 refine g_loop (I3d_l1 a0 a1) hK [(0, 0), (1, 1)] h (fun x_l1 h g1 y_l1 h_l1 hx_l1 => ?_)
 unfold f_ref11_Remove_l1 at h_l1
 refine g_st ?_
 refine s_seq (s_seq (g_reg hG ?_))
 refine g_cond rfl hG h_l1 (fun _ h_l1 => ?_) (fun _ h_l1 => ?_)
 · refine g_skip ?_
   refine s_seq (s_block (s_seq ?_))
   obtain ⟨hb3, h_l1⟩ := gd_some h_l1
   refine g_regd C_mixed hG ?_
   refine g_cond rfl hG h_l1 (fun _ h_l1 => ?_) (fun _ h_l1 => ?_)
   · obtain ⟨hb1, h_l1⟩ := gd_some h_l1
     obtain ⟨hb2, h_l1⟩ := gd_some h_l1
     refine g_reg hG ?_
     refine g_reg hG ?_
     exact g_next hK [(0, 0), (1, 2)] h_l1
   refine g_skip ?_
   refine g_reg hG ?_
   exact g_next hK [(0, 0), (1, 1)] h_l1
 refine g_exit ?_
 obtain rfl := Option.some.inj h_l1
 have hx := hx_l1 _ rfl
 subst hx
 try dsimp only at h
 exact g_join hK [(0, 1)] g1.2 (by exact h)
attribute [local irreducible] f_ref11_Remove
end Ab
end Go.Proofs.YtdflfohpemfeiaaGreatDoor
