/-
  Functions of the program, as Lean functions; what the program's code computes is what they say.
-/
import Derived.Test.YtdflfohpemfeiaaGreatDoorFn3
namespace Go.Proofs.YtdflfohpemfeiaaGreatDoor
namespace Ab
set_option linter.unusedSimpArgs false
set_option linter.unusedVariables false
set_option maxRecDepth 100000
set_option maxHeartbeats 1000000

attribute [local irreducible] f_mill_Mod f_mill_Proc f_catalog_ValidName f_catalog_ValidResource f_queue_New f_ident_compare f_ident_CompareProc f_mode_Compatible f_amount_Compatible f_holders_Valid f_holders_Get f_queue_Held f_line_Find f_mode_Covers f_amount_Covers f_queue_soundConverts f_line_Valid f_queue_soundWaits f_queue_Sound f_queue_head f_holders_proper f_holders_Set f_holders_Room f_queue_Settled f_queue_Valid f_slices_Grow_api_Wait_api_Wait_m f_slices_Concat_api_Wait_api_Wait f_queue_order f_queue_Wanted f_queue_clone_m f_mode_Sup f_amount_Join f_queue_Claim_1_m f_queue_advance_m f_queue_finish_m f_line_Insert f_queue_Claim_2_m f_queue_finish_m1 f_queue_Claim f_queue_Order f_holders_Procs_m f_slices_SortFunc_api_Proc_api_Proc_m f_slices_Compact_api_Proc_api_Proc_m f_ident_SortProcs f_queue_Procs f_slices_Index_api_Proc_api_Proc f_slices_Contains_api_Proc_api_Proc f_ident_HasProc f_queue_clone f_queue_Remove_1_m f_line_Remove f_queue_Remove_2_m f_queue_Remove_3_m f_queue_finish_m2 f_queue_Remove f_law12_awake f_ref05_ValidName f_ref05_ValidResource f_ref12_New f_ref10_Amounts f_ref04_Compatible f_ref10_Valid f_ref11_Find f_ref11_Valid f_ref10_Get f_ref12_Sound f_ref12_Head f_ref10_Set f_ref10_Room f_ref12_Settled f_ref12_Valid f_ref10_SameHolds f_ref11_SameWaits f_ref12_Same f_ref12_Wanted f_ref12_Copy_m f_ref12_Held f_ref03_Sup f_ref04_Join f_ref12_Copy f_ref12_Advance f_ref12_changed f_ref11_Insert f_ref12_Claim f_law12_same f_mill_Tape_Next_m f_mill_Catalog_m f_mill_Resource f_mill_Mode f_mill_Amount f_ref11_Remove

noncomputable def f_ref12_Cancel (a0 : Queue) (a1 : Proc) : Option (Queue × (List Hold) × Int) :=
 (f_ref12_Valid a0).bind fun v1 =>
 (if (!v1) = true then
  some ({ Queue.zero with  }, [], 2)
 else
  (f_ref12_Wanted a0 a1).bind fun v2 =>
  (if (!v2.2) = true then
   some ({ Queue.zero with  }, [], 10)
  else
   (f_ref12_Copy a0).bind fun v3 =>
   (f_ref11_Remove v3.converts a1).bind fun v4 =>
   (f_ref11_Remove (({ v3 with converts := v4.1 }).waits) a1).bind fun v5 =>
   (f_ref12_changed ({ { v3 with converts := v4.1 } with waits := v5.1 })).bind fun v6 =>
   some (v6.1, v6.2.1, v6.2.2)))
theorem ref12_Cancel_ok (a0 : Queue) (a1 : Proc) (r : Queue × (List Hold) × Int) (h : f_ref12_Cancel a0 a1 = some r) : PFn C 49 [.agg (Queue.enc a0), .agg (Proc.enc a1)] (.tup [.agg (Queue.enc r.1), .sl (r.2.1.map Hold.enc), .int .i64 r.2.2]) := by
 refine pfn_intro ck_3e rfl fun E hG hN hK => ?_
 unfold pc_3e
 unfold f_ref12_Cancel at h
 refine s_seq (g_reg hG ?_)
 refine s_seq (s_seq (g_reg hG ?_))
 obtain ⟨v1, hv1, h⟩ := bind_of h
 refine g_call (fun hg => ref12_Valid_ok a0 _ (hv1)) ?_
 refine g_cond rfl hG h (fun _ h => ?_) (fun _ h => ?_)
 · refine s_seq (g_reg hG ?_)
   refine g_ret ?_
   exact g_end h
 refine g_skip ?_
 refine s_seq (s_seq (g_reg hG ?_))
 obtain ⟨v2, hv2, h⟩ := bind_of h
 refine g_call (fun hg => ref12_Wanted_ok a0 a1 _ (hv2)) ?_
 refine s_seq (g_reg hG ?_)
 refine g_cond rfl hG h (fun _ h => ?_) (fun _ h => ?_)
 · refine s_seq (g_reg hG ?_)
   refine g_ret ?_
   exact g_end h
 refine g_skip ?_
 refine s_seq (g_reg hG ?_)
 obtain ⟨v3, hv3, h⟩ := bind_of h
 refine g_call (fun hg => ref12_Copy_ok a0 _ (hv3)) ?_
 refine s_seq (g_reg hG ?_)
 obtain ⟨v4, hv4, h⟩ := bind_of h
 refine g_call (fun hg => ref11_Remove_ok v3.converts a1 _ (hv4)) ?_
 refine s_seq (g_reg hG ?_)
 obtain ⟨v5, hv5, h⟩ := bind_of h
 refine g_call (fun hg => ref11_Remove_ok (({ v3 with converts := v4.1 }).waits) a1 _ (hv5)) ?_
 refine s_seq (g_reg hG ?_)
 obtain ⟨v6, hv6, h⟩ := bind_of h
 refine g_call (fun hg => ref12_changed_ok ({ { v3 with converts := v4.1 } with waits := v5.1 }) _ (hv6)) ?_
 refine g_ret ?_
 exact g_end h
attribute [local irreducible] f_ref12_Cancel

noncomputable def f_ref12_Lower (a0 : Queue) (a1 : Proc) (a2 : Amount) : Option (Queue × (List Hold) × Int) :=
 (f_ref12_Valid a0).bind fun v1 =>
 (if (!v1) = true then
  some ({ Queue.zero with  }, [], 2)
 else
  (f_ref12_Held a0 a1).bind fun v2 =>
  (if (f_ref04_Zero v2) = true then
   some ({ Queue.zero with  }, [], 10)
  else
   (f_ref12_Wanted a0 a1).bind fun v3 =>
   (if v3.2 = true then
    some ({ Queue.zero with  }, [], 14)
   else
    (if (!(f_ref04_Covers a0.resource v2 a2)) = true then
     some ({ Queue.zero with  }, [], 12)
    else
     (f_ref12_Copy a0).bind fun v4 =>
     (if (decide (v2 = a2)) = true then
      some (v4, [], 0)
     else
      (f_ref10_Set v4.holds a1 a2).bind fun v5 =>
      (f_ref12_changed ({ v4 with holds := v5 })).bind fun v6 =>
      some (v6.1, v6.2.1, v6.2.2))))))
theorem ref12_Lower_ok (a0 : Queue) (a1 : Proc) (a2 : Amount) (r : Queue × (List Hold) × Int) (h : f_ref12_Lower a0 a1 a2 = some r) : PFn C 52 [.agg (Queue.enc a0), .agg (Proc.enc a1), .agg (Amount.enc a2)] (.tup [.agg (Queue.enc r.1), .sl (r.2.1.map Hold.enc), .int .i64 r.2.2]) := by
 refine pfn_intro ck_3f rfl fun E hG hN hK => ?_
 unfold pc_3f
 unfold f_ref12_Lower at h
 refine s_seq (g_reg hG ?_)
 refine s_seq (s_seq (g_reg hG ?_))
 obtain ⟨v1, hv1, h⟩ := bind_of h
 refine g_call (fun hg => ref12_Valid_ok a0 _ (hv1)) ?_
 refine g_cond rfl hG h (fun _ h => ?_) (fun _ h => ?_)
 · refine s_seq (g_reg hG ?_)
   refine g_ret ?_
   exact g_end h
 refine g_skip ?_
 refine s_seq (g_reg hG ?_)
 obtain ⟨v2, hv2, h⟩ := bind_of h
 refine g_call (fun hg => ref12_Held_ok a0 a1 _ (hv2)) ?_
 refine s_seq (s_seq (g_reg hG ?_))
 refine g_call (fun hg => ref04_Zero_ok v2) ?_
 refine g_cond rfl hG h (fun _ h => ?_) (fun _ h => ?_)
 · refine s_seq (g_reg hG ?_)
   refine g_ret ?_
   exact g_end h
 refine g_skip ?_
 refine s_seq (s_seq (g_reg hG ?_))
 obtain ⟨v3, hv3, h⟩ := bind_of h
 refine g_call (fun hg => ref12_Wanted_ok a0 a1 _ (hv3)) ?_
 refine s_seq (g_reg hG ?_)
 refine g_cond rfl hG h (fun _ h => ?_) (fun _ h => ?_)
 · refine s_seq (g_reg hG ?_)
   refine g_ret ?_
   exact g_end h
 refine g_skip ?_
 refine s_seq (s_seq (g_reg hG ?_))
 refine g_call (fun hg => ref04_Covers_ok a0.resource v2 a2) ?_
 refine g_cond rfl hG h (fun _ h => ?_) (fun _ h => ?_)
 · refine s_seq (g_reg hG ?_)
   refine g_ret ?_
   exact g_end h
 refine g_skip ?_
 refine s_seq (g_reg hG ?_)
 obtain ⟨v4, hv4, h⟩ := bind_of h
 refine g_call (fun hg => ref12_Copy_ok a0 _ (hv4)) ?_
 refine s_seq (s_seq (g_reg hG ?_))
 refine g_cond rfl hG h (fun _ h => ?_) (fun _ h => ?_)
 · refine s_seq (g_reg hG ?_)
   refine g_ret ?_
   exact g_end h
 refine g_skip ?_
 refine s_seq (g_reg hG ?_)
 obtain ⟨v5, hv5, h⟩ := bind_of h
 refine g_call (fun hg => ref10_Set_ok v4.holds a1 a2 _ (hv5)) ?_
 refine s_seq (g_reg hG ?_)
 obtain ⟨v6, hv6, h⟩ := bind_of h
 refine g_call (fun hg => ref12_changed_ok ({ v4 with holds := v5 }) _ (hv6)) ?_
 refine g_ret ?_
 exact g_end h
attribute [local irreducible] f_ref12_Lower

noncomputable def f_ref12_Has (a0 : Queue) (a1 : Proc) : Option (Bool) :=
 (f_ref12_Wanted a0 a1).bind fun v1 =>
 ((if (!v1.2) = true then f_ref12_Held a0 a1 else some (Amount.zero))).bind fun v2 =>
 some (v1.2 || (!(f_ref04_Zero v2)))
theorem ref12_Has_ok (a0 : Queue) (a1 : Proc) (r : Bool) (h : f_ref12_Has a0 a1 = some r) : PFn C 108 [.agg (Queue.enc a0), .agg (Proc.enc a1)] (.bool r) := by
 refine pfn_intro ck_3g rfl fun E hG hN hK => ?_
 unfold pc_3g
 unfold f_ref12_Has at h
 refine s_seq (g_reg hG ?_)
 refine s_seq (g_reg hG ?_)
 obtain ⟨v1, hv1, h⟩ := bind_of h
 refine g_call (fun hg => ref12_Wanted_ok a0 a1 _ (hv1)) ?_
 refine s_seq (g_reg hG ?_)
 obtain ⟨v2, hv2, h⟩ := bind_of h
 refine g_call (fun hg => ref12_Held_ok a0 a1 _ (ite_t hg hv2)) ?_
 refine g_call (fun hg => ref04_Zero_ok v2) ?_
 refine g_ret ?_
 exact g_end h
attribute [local irreducible] f_ref12_Has

noncomputable def f_ref12_Remove (a0 : Queue) (a1 : Proc) : Option (Queue × (List Hold) × Int) :=
 (f_ref12_Valid a0).bind fun v1 =>
 (if (!v1) = true then
  some ({ Queue.zero with  }, [], 2)
 else
  (f_ref12_Has a0 a1).bind fun v2 =>
  (if (!v2) = true then
   some ({ Queue.zero with  }, [], 10)
  else
   (f_ref12_Copy a0).bind fun v3 =>
   (f_ref10_Set v3.holds a1 ({ Amount.zero with  })).bind fun v4 =>
   (f_ref11_Remove (({ v3 with holds := v4 }).converts) a1).bind fun v5 =>
   (f_ref11_Remove (({ { v3 with holds := v4 } with converts := v5.1 }).waits) a1).bind fun v6 =>
   (f_ref12_changed ({ { { v3 with holds := v4 } with converts := v5.1 } with waits := v6.1 })).bind fun v7 =>
   some (v7.1, v7.2.1, v7.2.2)))
theorem ref12_Remove_ok (a0 : Queue) (a1 : Proc) (r : Queue × (List Hold) × Int) (h : f_ref12_Remove a0 a1 = some r) : PFn C 50 [.agg (Queue.enc a0), .agg (Proc.enc a1)] (.tup [.agg (Queue.enc r.1), .sl (r.2.1.map Hold.enc), .int .i64 r.2.2]) := by
 refine pfn_intro ck_3h rfl fun E hG hN hK => ?_
 unfold pc_3h
 unfold f_ref12_Remove at h
 refine s_seq (g_reg hG ?_)
 refine s_seq (s_seq (g_reg hG ?_))
 obtain ⟨v1, hv1, h⟩ := bind_of h
 refine g_call (fun hg => ref12_Valid_ok a0 _ (hv1)) ?_
 refine g_cond rfl hG h (fun _ h => ?_) (fun _ h => ?_)
 · refine s_seq (g_reg hG ?_)
   refine g_ret ?_
   exact g_end h
 refine g_skip ?_
 refine s_seq (s_seq (g_reg hG ?_))
 obtain ⟨v2, hv2, h⟩ := bind_of h
 refine g_call (fun hg => ref12_Has_ok a0 a1 _ (hv2)) ?_
 refine g_cond rfl hG h (fun _ h => ?_) (fun _ h => ?_)
 · refine s_seq (g_reg hG ?_)
   refine g_ret ?_
   exact g_end h
 refine g_skip ?_
 refine s_seq (g_reg hG ?_)
 obtain ⟨v3, hv3, h⟩ := bind_of h
 refine g_call (fun hg => ref12_Copy_ok a0 _ (hv3)) ?_
 refine s_seq (g_reg hG ?_)
 obtain ⟨v4, hv4, h⟩ := bind_of h
 refine g_call (fun hg => ref10_Set_ok v3.holds a1 ({ Amount.zero with  }) _ (hv4)) ?_
 refine s_seq (g_reg hG ?_)
 obtain ⟨v5, hv5, h⟩ := bind_of h
 refine g_call (fun hg => ref11_Remove_ok (({ v3 with holds := v4 }).converts) a1 _ (hv5)) ?_
 refine s_seq (g_reg hG ?_)
 obtain ⟨v6, hv6, h⟩ := bind_of h
 refine g_call (fun hg => ref11_Remove_ok (({ { v3 with holds := v4 } with converts := v5.1 }).waits) a1 _ (hv6)) ?_
 refine s_seq (g_reg hG ?_)
 obtain ⟨v7, hv7, h⟩ := bind_of h
 refine g_call (fun hg => ref12_changed_ok ({ { { v3 with holds := v4 } with converts := v5.1 } with waits := v6.1 }) _ (hv7)) ?_
 refine g_ret ?_
 exact g_end h
attribute [local irreducible] f_ref12_Remove

noncomputable def f_law12_made_k1  (j1 : Queue) : Option (Queue) :=
 some j1
@[go_sem] def J3i_k1  (j1 : Queue) : St := ⟨[(4, .ptr 0 0 0), (5, .ptr 1 0 0)], [(0, ⟨false, 8, (Queue.enc Queue.zero), [Queue.enc Queue.zero]⟩), (1, ⟨false, 8, (Queue.enc Queue.zero), [Queue.enc j1]⟩)], 2⟩
noncomputable def f_law12_made_k2 (g1 : Int × Queue) (j2 : Int × Queue) : Option ((Int × Queue) ⊕ ((Queue))) :=
 (if (decide (j2.1 = 0)) = true then
  some (.inl ((IntKind.i64.wrap (g1.1 + 1)), j2.2))
 else
  some (.inl ((IntKind.i64.wrap (g1.1 + 1)), g1.2)))
@[go_sem] def J3i_k2 (a1 : List Int) (g1 : Int × Queue) (j2 : Int × Queue) : St := ⟨[(1, .sl (a1.map (eI .i64))), (4, .ptr 0 0 0), (5, .ptr 1 0 0), (6, .int .i64 g1.1), (10, .ptr 2 0 0), (11, .int .i64 j2.1)], [(0, ⟨false, 8, (Queue.enc Queue.zero), [Queue.enc Queue.zero]⟩), (1, ⟨false, 8, (Queue.enc Queue.zero), [Queue.enc g1.2]⟩), (2, ⟨false, 8, (Queue.enc Queue.zero), [Queue.enc j2.2]⟩)], 3⟩
noncomputable def f_law12_made_l1 (a1 : List Int) (g1 : Int × Queue) : Option ((Int × Queue) ⊕ ((Queue))) :=
 (if (decide (g1.1 < (a1.length : Int))) = true then
  gd (0 ≤ g1.1 ∧ g1.1 < (a1.length : Int)) <|
  (f_mill_Proc ((a1.getD g1.1.toNat 0).fdiv (2 ^ 3))).bind fun v2 =>
  (f_mill_Amount g1.2.resource ((a1.getD g1.1.toNat 0).fdiv (2 ^ 6))).bind fun v3 =>
  (f_mill_Mod (a1.getD g1.1.toNat 0) 8).bind fun v4 =>
  (if (decide (v4 = 0)) = true then
   (f_ref12_Cancel g1.2 v2).bind fun v5 =>
   f_law12_made_k2 g1 (v5.2.2, v5.1)
  else
   (if (decide (v4 = 1)) = true then
    (f_ref12_Lower g1.2 v2 v3).bind fun v6 =>
    f_law12_made_k2 g1 (v6.2.2, v6.1)
   else
    (if (decide (v4 = 2)) = true then
     (f_ref12_Remove g1.2 v2).bind fun v7 =>
     f_law12_made_k2 g1 (v7.2.2, v7.1)
    else
     (f_mill_Mod ((a1.getD g1.1.toNat 0).fdiv (2 ^ 9)) 8).bind fun v8 =>
     (f_ref12_Claim g1.2 v2 v3 v8).bind fun v9 =>
     f_law12_made_k2 g1 (v9.2.2, v9.1))))
 else
  some (.inr g1.2))
@[go_sem] def I3i_l1 (a1 : List Int) (g1 : Int × Queue) : St := ⟨[(1, .sl (a1.map (eI .i64))), (4, .ptr 0 0 0), (5, .ptr 1 0 0), (6, .int .i64 g1.1)], [(0, ⟨false, 8, (Queue.enc Queue.zero), [Queue.enc Queue.zero]⟩), (1, ⟨false, 8, (Queue.enc Queue.zero), [Queue.enc g1.2]⟩)], 2⟩
noncomputable def f_law12_made (a0 : Int) (a1 : List Int) : Option (Queue) :=
 (f_mill_Resource a0).bind fun v1 =>
 (loopO (f_law12_made_l1 a1) (0, { Queue.zero with resource := v1 })).bind (fun z => f_law12_made_k1 z)
theorem law12_made_ok (a0 : Int) (a1 : List Int) (r : Queue) (h : f_law12_made a0 a1 = some r) : PFn C 32 [.int .i64 a0, .sl (a1.map (eI .i64))] (.agg (Queue.enc r)) := by
 refine pfn_intro ck_3i rfl fun E hG hN hK => ?_
 unfold pc_3i
 unfold f_law12_made at h
 refine s_seq (g_reg hG ?_)
 refine s_seq (g_reg hG ?_)
 obtain ⟨v1, hv1, h⟩ := bind_of h
 refine g_call (fun hg => mill_Resource_ok a0 _ (hv1)) ?_
 refine s_seq (s_seq (g_reg hG ?_))
 refine s_blockJ (J3i_k1) (fun v => f_law12_made_k1 v = some r) ?_ ?_
 · intro j1 h
   unfold f_law12_made_k1 at h
   refine g_st ?_
   refine s_seq (g_reg hG ?_)
   refine g_ret ?_
   exact g_end h
 refine g_loop (I3i_l1 a1) hK [(0, 0), (1, 1)] h (fun x_l1 h g1 y_l1 h_l1 hx_l1 => ?_)
 unfold f_law12_made_l1 at h_l1
 refine g_st ?_
 refine s_seq (s_seq (g_reg hG ?_))
 refine g_cond rfl hG h_l1 (fun _ h_l1 => ?_) (fun _ h_l1 => ?_)
 · refine g_skip ?_
   refine s_seq (s_block (s_seq ?_))
   obtain ⟨hb1, h_l1⟩ := gd_some h_l1
   refine g_reg hG ?_
   refine s_seq (g_regm C_mixed hG ?_)
   obtain ⟨v2, hv2, h_l1⟩ := bind_of h_l1
   refine g_callM (fun hg => mill_Proc_ok ((a1.getD g1.1.toNat 0).fdiv (2 ^ 3)) _ (hv2)) ?_
   obtain ⟨v3, hv3, h_l1⟩ := bind_of h_l1
   refine g_callM (fun hg => mill_Amount_ok g1.2.resource ((a1.getD g1.1.toNat 0).fdiv (2 ^ 6)) _ (hv3)) ?_
   refine s_seq (g_reg hG ?_)
   refine s_seq (g_reg hG ?_)
   refine s_seq (s_seq (g_reg hG ?_))
   obtain ⟨v4, hv4, h_l1⟩ := bind_of h_l1
   refine g_call (fun hg => mill_Mod_ok (a1.getD g1.1.toNat 0) 8 _ (hv4)) ?_
   refine s_blockJ (J3i_k2 a1 g1) (fun v => f_law12_made_k2 g1 v = some y_l1) ?_ ?_
   · intro j2 h_l1
     unfold f_law12_made_k2 at h_l1
     refine g_st ?_
     refine s_seq (g_reg hG ?_)
     refine g_cond rfl hG h_l1 (fun _ h_l1 => ?_) (fun _ h_l1 => ?_)
     · refine g_reg hG ?_
       refine g_reg hG ?_
       exact g_next hK [(0, 0), (1, 1)] h_l1
     refine g_skip ?_
     refine g_reg hG ?_
     exact g_next hK [(0, 0), (1, 1)] h_l1
   refine s_seq (g_reg hG ?_)
   refine g_cond rfl hG h_l1 (fun _ h_l1 => ?_) (fun _ h_l1 => ?_)
   · refine g_reg hG ?_
     obtain ⟨v5, hv5, h_l1⟩ := bind_of h_l1
     refine g_call (fun hg => ref12_Cancel_ok g1.2 v2 _ (hv5)) ?_
     exact g_join hK [(0, 0), (1, 1), (2, 4)] (v5.2.2, v5.1) (by exact h_l1)
   refine s_seq (g_reg hG ?_)
   refine g_cond rfl hG h_l1 (fun _ h_l1 => ?_) (fun _ h_l1 => ?_)
   · refine g_reg hG ?_
     obtain ⟨v6, hv6, h_l1⟩ := bind_of h_l1
     refine g_call (fun hg => ref12_Lower_ok g1.2 v2 v3 _ (hv6)) ?_
     exact g_join hK [(0, 0), (1, 1), (2, 4)] (v6.2.2, v6.1) (by exact h_l1)
   refine s_seq (g_reg hG ?_)
   refine g_cond rfl hG h_l1 (fun _ h_l1 => ?_) (fun _ h_l1 => ?_)
   · refine g_reg hG ?_
     obtain ⟨v7, hv7, h_l1⟩ := bind_of h_l1
     refine g_call (fun hg => ref12_Remove_ok g1.2 v2 _ (hv7)) ?_
     exact g_join hK [(0, 0), (1, 1), (2, 4)] (v7.2.2, v7.1) (by exact h_l1)
   refine g_regm C_mixed hG ?_
   obtain ⟨v8, hv8, h_l1⟩ := bind_of h_l1
   refine g_callM (fun hg => mill_Mod_ok ((a1.getD g1.1.toNat 0).fdiv (2 ^ 9)) 8 _ (hv8)) ?_
   obtain ⟨v9, hv9, h_l1⟩ := bind_of h_l1
   refine g_callM (fun hg => ref12_Claim_ok g1.2 v2 v3 v8 _ (hv9)) ?_
   exact g_join hK [(0, 0), (1, 1), (2, 4)] (v9.2.2, v9.1) (by exact h_l1)
 refine g_exit ?_
 obtain rfl := Option.some.inj h_l1
 have hx := hx_l1 _ rfl
 subst hx
 try dsimp only at h
 exact g_join hK [(0, 0), (1, 1)] g1.2 (by exact h)
attribute [local irreducible] f_law12_made

noncomputable def f_ref02_HasProc_k1  (j1 : Unit) : Option (Bool) :=
 some false
@[go_sem] def J3k_k1  (j1 : Unit) : St := ⟨[], [], 0⟩
noncomputable def f_ref02_HasProc_l1 (a0 : List Proc) (a1 : Proc) (g1 : Int) : Option ((Int) ⊕ ((Unit) ⊕ (Bool))) :=
 (if (decide (g1 < (a0.length : Int))) = true then
  gd (0 ≤ g1 ∧ g1 < (a0.length : Int)) <|
  (if (decide ((a0.getD g1.toNat Proc.zero) = a1)) = true then
   some (.inr (.inr true))
  else
   some (.inl (IntKind.i64.wrap (g1 + 1))))
 else
  some (.inr (.inl ())))
@[go_sem] def I3k_l1 (a0 : List Proc) (a1 : Proc) (g1 : Int) : St := ⟨[(0, .sl (a0.map Proc.enc)), (3, .ptr 0 0 0), (5, .int .i64 g1)], [(0, ⟨false, 3, (Proc.enc Proc.zero), [Proc.enc a1]⟩)], 1⟩
noncomputable def f_ref02_HasProc (a0 : List Proc) (a1 : Proc) : Option (Bool) :=
 (loopO (f_ref02_HasProc_l1 a0 a1) 0).bind (fun | .inl z => f_ref02_HasProc_k1 z | .inr z => some z)
theorem ref02_HasProc_ok (a0 : List Proc) (a1 : Proc) (r : Bool) (h : f_ref02_HasProc a0 a1 = some r) : PFn C 35 [.sl (a0.map Proc.enc), .agg (Proc.enc a1)] (.bool r) := by
 refine pfn_intro ck_3k rfl fun E hG hN hK => ?_
 unfold pc_3k
 unfold f_ref02_HasProc at h
 refine s_seq (g_reg hG ?_)
 refine s_seq (s_seq (g_reg hG ?_))
 refine s_blockJ (J3k_k1) (fun v => f_ref02_HasProc_k1 v = some r) ?_ ?_
 · intro j1 h
   unfold f_ref02_HasProc_k1 at h
   refine g_st ?_
   refine s_seq (g_reg hG ?_)
   refine g_ret ?_
   exact g_end h
 refine g_loop (I3k_l1 a0 a1) hK [(0, 0)] h (fun x_l1 h g1 y_l1 h_l1 hx_l1 => ?_)
 unfold f_ref02_HasProc_l1 at h_l1
 refine g_st ?_
 refine s_seq (s_seq (g_reg hG ?_))
 refine g_cond rfl hG h_l1 (fun _ h_l1 => ?_) (fun _ h_l1 => ?_)
 · refine g_skip ?_
   refine s_seq (s_block (s_seq ?_))
   obtain ⟨hb1, h_l1⟩ := gd_some h_l1
   refine g_regd C_mixed hG ?_
   refine g_cond rfl hG h_l1 (fun _ h_l1 => ?_) (fun _ h_l1 => ?_)
   · refine s_seq (g_reg hG ?_)
     refine g_ret ?_
     obtain rfl := Option.some.inj h_l1
     have hx := hx_l1 _ rfl
     subst hx
     try dsimp only at h
     exact g_end h
   refine g_skip ?_
   refine g_reg hG ?_
   exact g_next hK [(0, 0)] h_l1
 refine g_exit ?_
 obtain rfl := Option.some.inj h_l1
 have hx := hx_l1 _ rfl
 subst hx
 try dsimp only at h
 exact g_join hK [] () (by exact h)
attribute [local irreducible] f_ref02_HasProc

noncomputable def f_ref02_SameProcs_k1  (j1 : Unit) : Option (Bool) :=
 some true
@[go_sem] def J3m_k1  (j1 : Unit) : St := ⟨[], [], 0⟩
noncomputable def f_ref02_SameProcs_l1 (a0 : List Proc) (a1 : List Proc) (g1 : Int) : Option ((Int) ⊕ ((Unit) ⊕ (Bool))) :=
 (if (decide (g1 < (a0.length : Int))) = true then
  gd (0 ≤ g1 ∧ g1 < (a0.length : Int)) <|
  gd (0 ≤ g1 ∧ g1 < (a1.length : Int)) <|
  (if (!decide ((a0.getD g1.toNat Proc.zero) = (a1.getD g1.toNat Proc.zero))) = true then
   some (.inr (.inr false))
  else
   some (.inl (IntKind.i64.wrap (g1 + 1))))
 else
  some (.inr (.inl ())))
@[go_sem] def I3m_l1 (a0 : List Proc) (a1 : List Proc) (g1 : Int) : St := ⟨[(0, .sl (a0.map Proc.enc)), (1, .sl (a1.map Proc.enc)), (5, .int .i64 g1)], [], 0⟩
noncomputable def f_ref02_SameProcs (a0 : List Proc) (a1 : List Proc) : Option (Bool) :=
 (if (!decide ((a0.length : Int) = (a1.length : Int))) = true then
  some false
 else
  (loopO (f_ref02_SameProcs_l1 a0 a1) 0).bind (fun | .inl z => f_ref02_SameProcs_k1 z | .inr z => some z))
theorem ref02_SameProcs_ok (a0 : List Proc) (a1 : List Proc) (r : Bool) (h : f_ref02_SameProcs a0 a1 = some r) : PFn C 42 [.sl (a0.map Proc.enc), .sl (a1.map Proc.enc)] (.bool r) := by
 refine pfn_intro ck_3m rfl fun E hG hN hK => ?_
 unfold pc_3m
 unfold f_ref02_SameProcs at h
 refine s_seq (g_reg hG ?_)
 refine s_seq (s_seq (g_reg hG ?_))
 refine g_cond rfl hG h (fun _ h => ?_) (fun _ h => ?_)
 · refine s_seq (g_reg hG ?_)
   refine g_ret ?_
   exact g_end h
 refine g_skip ?_
 refine s_seq (s_seq (g_reg hG ?_))
 refine s_blockJ (J3m_k1) (fun v => f_ref02_SameProcs_k1 v = some r) ?_ ?_
 · intro j1 h
   unfold f_ref02_SameProcs_k1 at h
   refine g_st ?_
   refine s_seq (g_reg hG ?_)
   refine g_ret ?_
   exact g_end h
 refine g_loop (I3m_l1 a0 a1) hK [] h (fun x_l1 h g1 y_l1 h_l1 hx_l1 => ?_)
 unfold f_ref02_SameProcs_l1 at h_l1
 refine g_st ?_
 refine s_seq (s_seq (g_reg hG ?_))
 refine g_cond rfl hG h_l1 (fun _ h_l1 => ?_) (fun _ h_l1 => ?_)
 · refine g_skip ?_
   refine s_seq (s_block (s_seq ?_))
   obtain ⟨hb1, h_l1⟩ := gd_some h_l1
   obtain ⟨hb2, h_l1⟩ := gd_some h_l1
   refine g_regd C_mixed hG ?_
   refine g_cond rfl hG h_l1 (fun _ h_l1 => ?_) (fun _ h_l1 => ?_)
   · refine s_seq (g_reg hG ?_)
     refine g_ret ?_
     obtain rfl := Option.some.inj h_l1
     have hx := hx_l1 _ rfl
     subst hx
     try dsimp only at h
     exact g_end h
   refine g_skip ?_
   refine g_reg hG ?_
   exact g_next hK [] h_l1
 refine g_exit ?_
 obtain rfl := Option.some.inj h_l1
 have hx := hx_l1 _ rfl
 subst hx
 try dsimp only at h
 exact g_join hK [] () (by exact h)
attribute [local irreducible] f_ref02_SameProcs

noncomputable def f_queue_Advance (a0 : Queue) : Option (Queue × (List Hold)) :=
 (f_queue_Sound a0).bind fun v1 =>
 (if (!v1) = true then
  some ({ Queue.zero with  }, [])
 else
  (f_queue_clone a0).bind fun v2 =>
  (f_queue_advance_m v2).bind fun v3 =>
  some (v3.2, v3.1))
theorem queue_Advance_ok (a0 : Queue) (r : Queue × (List Hold)) (h : f_queue_Advance a0 = some r) : PFn C 45 [.agg (Queue.enc a0)] (.tup [.agg (Queue.enc r.1), .sl (r.2.map Hold.enc)]) := by
 refine pfn_intro ck_3q rfl fun E hG hN hK => ?_
 unfold pc_3q
 unfold f_queue_Advance at h
 refine s_seq (g_reg hG ?_)
 refine s_seq (s_seq (g_reg hG ?_))
 obtain ⟨v1, hv1, h⟩ := bind_of h
 refine g_call (fun hg => queue_Sound_ok a0 _ (hv1)) ?_
 refine g_cond rfl hG h (fun _ h => ?_) (fun _ h => ?_)
 · refine s_seq (g_reg hG ?_)
   refine g_ret ?_
   exact g_end h
 refine g_skip ?_
 refine s_seq (g_reg hG ?_)
 obtain ⟨v2, hv2, h⟩ := bind_of h
 refine g_call (fun hg => queue_clone_ok a0 _ (hv2)) ?_
 refine s_seq (g_reg hG ?_)
 obtain ⟨v3, hv3, h⟩ := bind_of h
 refine g_callm [(0, 2)] [] [0] (queue_advance_m_okm v2 _ hv3) rfl rfl ?_
 refine s_seq (g_reg hG ?_)
 refine g_ret ?_
 exact g_end h
attribute [local irreducible] f_queue_Advance

noncomputable def f_queue_Cancel_1_m (a0 : Queue) (a1 : Proc) : Option (Queue × Proc) :=
 (f_line_Remove a0.converts a1).bind fun v1 =>
 some ({ a0 with converts := v1.1 }, a1)
theorem queue_Cancel_1_m_okm (a0 : Queue) (a1 : Proc) (r : Queue × Proc) (h : f_queue_Cancel_1_m a0 a1 = some r) : MFn C 105 [.ptr 0 0 0, .ptr 1 0 0] [(0, ⟨false, 8, (Queue.enc Queue.zero), [Queue.enc a0]⟩), (1, ⟨false, 3, (Proc.enc Proc.zero), [Proc.enc a1]⟩)] 2 (.tup []) [(0, ⟨false, 8, (Queue.enc Queue.zero), [Queue.enc r.1]⟩), (1, ⟨false, 3, (Proc.enc Proc.zero), [Proc.enc r.2]⟩)] 2 := by
 refine mfn_intro (rl := []) ck_3s rfl rfl rfl rfl fun E hG hN hK => ?_
 unfold pc_3s
 unfold f_queue_Cancel_1_m at h
 refine g_reg hG ?_
 obtain ⟨v1, hv1, h⟩ := bind_of h
 refine g_call (fun hg => line_Remove_ok a0.converts a1 _ (hv1)) ?_
 exact g_retm [(0, 0), (1, 1)] h
attribute [local irreducible] f_queue_Cancel_1_m

noncomputable def f_queue_Cancel_2_m (a0 : Queue) (a1 : Proc) : Option (Queue × Proc) :=
 (f_line_Remove a0.waits a1).bind fun v1 =>
 some ({ a0 with waits := v1.1 }, a1)
theorem queue_Cancel_2_m_okm (a0 : Queue) (a1 : Proc) (r : Queue × Proc) (h : f_queue_Cancel_2_m a0 a1 = some r) : MFn C 106 [.ptr 0 0 0, .ptr 1 0 0] [(0, ⟨false, 8, (Queue.enc Queue.zero), [Queue.enc a0]⟩), (1, ⟨false, 3, (Proc.enc Proc.zero), [Proc.enc a1]⟩)] 2 (.tup []) [(0, ⟨false, 8, (Queue.enc Queue.zero), [Queue.enc r.1]⟩), (1, ⟨false, 3, (Proc.enc Proc.zero), [Proc.enc r.2]⟩)] 2 := by
 refine mfn_intro (rl := []) ck_3t rfl rfl rfl rfl fun E hG hN hK => ?_
 unfold pc_3t
 unfold f_queue_Cancel_2_m at h
 refine g_reg hG ?_
 obtain ⟨v1, hv1, h⟩ := bind_of h
 refine g_call (fun hg => line_Remove_ok a0.waits a1 _ (hv1)) ?_
 exact g_retm [(0, 0), (1, 1)] h
attribute [local irreducible] f_queue_Cancel_2_m

noncomputable def f_queue_finish_m3_k1  (j1 : Queue × Proc) : Option (Queue × (List Hold) × Int × Queue × Proc) :=
 (f_queue_advance_m j1.1).bind fun v1 =>
 some ({ v1.2 with gen := (f_ident_Next v1.2.gen) }, v1.1, 0, { v1.2 with gen := (f_ident_Next v1.2.gen) }, j1.2)
@[go_sem] def J3u_k1  (j1 : Queue × Proc) : St := ⟨[(0, .ptr 0 0 0), (4, .ptr 3 0 0)], [(0, ⟨false, 8, (Queue.enc Queue.zero), [Queue.enc j1.1]⟩), (1, ⟨false, 1, [A.any], [[.clo 105 [.ptr 0 0 0, .ptr 2 0 0]], [.clo 106 [.ptr 0 0 0, .ptr 2 0 0]]]⟩), (2, ⟨false, 3, (Proc.enc Proc.zero), [Proc.enc j1.2]⟩), (3, ⟨false, 8, (Queue.enc Queue.zero), [Queue.enc Queue.zero]⟩)], 4⟩
noncomputable def f_queue_finish_m3 (a0 : Queue) (a1 : Proc) : Option (Queue × (List Hold) × Int × Queue × Proc) :=
 gd (0 ≤ 0 ∧ 0 < (2 : Int)) <|
 (f_queue_Cancel_1_m a0 a1).bind fun v2 =>
 gd (0 ≤ 1 ∧ 1 < (2 : Int)) <|
 (f_queue_Cancel_2_m v2.1 v2.2).bind fun v3 =>
 f_queue_finish_m3_k1 (v3.1, v3.2)
theorem queue_finish_m3_okm (a0 : Queue) (a1 : Proc) (r : Queue × (List Hold) × Int × Queue × Proc) (h : f_queue_finish_m3 a0 a1 = some r) : MFn C 80 [.ptr 0 0 0, .own 1 0 2] [(0, ⟨false, 8, (Queue.enc Queue.zero), [Queue.enc a0]⟩), (1, ⟨false, 1, [A.any], [[.clo 105 [.ptr 0 0 0, .ptr 2 0 0]], [.clo 106 [.ptr 0 0 0, .ptr 2 0 0]]]⟩), (2, ⟨false, 3, (Proc.enc Proc.zero), [Proc.enc a1]⟩)] 3 (.tup [.agg (Queue.enc r.1), .sl (r.2.1.map Hold.enc), .int .i64 r.2.2.1]) [(0, ⟨false, 8, (Queue.enc Queue.zero), [Queue.enc r.2.2.2.1]⟩), (1, ⟨false, 1, [A.any], [[.clo 105 [.ptr 0 0 0, .ptr 2 0 0]], [.clo 106 [.ptr 0 0 0, .ptr 2 0 0]]]⟩), (2, ⟨false, 3, (Proc.enc Proc.zero), [Proc.enc r.2.2.2.2]⟩)] 3 := by
 refine mfn_intro (rl := [.agg (Queue.enc r.1), .sl (r.2.1.map Hold.enc), .int .i64 r.2.2.1]) ck_3u rfl rfl rfl rfl fun E hG hN hK => ?_
 unfold pc_3u
 unfold f_queue_finish_m3 at h
 refine s_seq (g_reg hG ?_)
 refine s_seq (s_seq (g_reg hG ?_))
 refine s_blockJ (J3u_k1) (fun v => f_queue_finish_m3_k1 v = some r) ?_ ?_
 · intro j1 h
   unfold f_queue_finish_m3_k1 at h
   refine g_st ?_
   refine s_seq (g_reg hG ?_)
   obtain ⟨v1, hv1, h⟩ := bind_of h
   refine g_callm [(0, 0)] [] [0] (queue_advance_m_okm j1.1 _ hv1) rfl rfl ?_
   refine s_seq (g_reg hG ?_)
   refine g_call (fun hg => ident_Next_ok v1.2.gen) ?_
   refine s_seq (g_reg hG ?_)
   refine g_ret ?_
   exact g_retm [(0, 0), (1, 1), (2, 2)] h
 refine aw_unroll 4 ?_
 refine ul_succ ?_
 refine s_seq (g_reg hG ?_)
 refine s_seq ?_
 refine g_cond1 rfl hG ?_
 refine g_skip ?_
 refine s_seq (s_block (s_seq ?_))
 obtain ⟨hb2, h⟩ := gd_some h
 refine g_reg hG ?_
 refine g_reg hG ?_
 obtain ⟨v2, hv2, h⟩ := bind_of h
 refine g_callm [(0, 0), (1, 2)] [] [0, 1] (queue_Cancel_1_m_okm a0 a1 _ hv2) rfl rfl ?_
 refine g_reg hG ?_
 refine ul_succ ?_
 refine s_seq (g_reg hG ?_)
 refine s_seq ?_
 refine g_cond1 rfl hG ?_
 refine g_skip ?_
 refine s_seq (s_block (s_seq ?_))
 obtain ⟨hb1, h⟩ := gd_some h
 refine g_reg hG ?_
 refine g_reg hG ?_
 obtain ⟨v3, hv3, h⟩ := bind_of h
 refine g_callm [(0, 0), (1, 2)] [] [0, 1] (queue_Cancel_2_m_okm v2.1 v2.2 _ hv3) rfl rfl ?_
 refine g_reg hG ?_
 refine ul_succ ?_
 refine s_seq (g_reg hG ?_)
 refine s_seq ?_
 refine g_cond0 rfl hG ?_
 refine g_exit ?_
 exact g_join hK [(0, 0), (1, 1), (2, 2), (3, 3)] (v3.1, v3.2) (by exact h)
attribute [local irreducible] f_queue_finish_m3

noncomputable def f_queue_Cancel (a0 : Queue) (a1 : Proc) : Option (Queue × (List Hold) × Int) :=
 (f_queue_Valid a0).bind fun v1 =>
 (if (!v1) = true then
  some ({ Queue.zero with  }, [], 2)
 else
  (f_queue_Wanted a0 a1).bind fun v2 =>
  (if (!v2.2) = true then
   some ({ Queue.zero with  }, [], 10)
  else
   (f_queue_clone a0).bind fun v3 =>
   (f_queue_finish_m3 v3 a1).bind fun v4 =>
   some (v4.1, v4.2.1, v4.2.2.1)))
theorem queue_Cancel_ok (a0 : Queue) (a1 : Proc) (r : Queue × (List Hold) × Int) (h : f_queue_Cancel a0 a1 = some r) : PFn C 48 [.agg (Queue.enc a0), .agg (Proc.enc a1)] (.tup [.agg (Queue.enc r.1), .sl (r.2.1.map Hold.enc), .int .i64 r.2.2]) := by
 refine pfn_intro ck_3v rfl fun E hG hN hK => ?_
 unfold pc_3v
 unfold f_queue_Cancel at h
 refine s_seq (g_reg hG ?_)
 refine s_seq (s_seq (g_reg hG ?_))
 obtain ⟨v1, hv1, h⟩ := bind_of h
 refine g_call (fun hg => queue_Valid_ok a0 _ (hv1)) ?_
 refine g_cond rfl hG h (fun _ h => ?_) (fun _ h => ?_)
 · refine s_seq (g_reg hG ?_)
   refine g_ret ?_
   exact g_end h
 refine g_skip ?_
 refine s_seq (s_seq (g_reg hG ?_))
 obtain ⟨v2, hv2, h⟩ := bind_of h
 refine g_call (fun hg => queue_Wanted_ok a0 a1 _ (hv2)) ?_
 refine s_seq (g_reg hG ?_)
 refine g_cond rfl hG h (fun _ h => ?_) (fun _ h => ?_)
 · refine s_seq (g_reg hG ?_)
   refine g_ret ?_
   exact g_end h
 refine g_skip ?_
 refine s_seq (g_reg hG ?_)
 obtain ⟨v3, hv3, h⟩ := bind_of h
 refine g_call (fun hg => queue_clone_ok a0 _ (hv3)) ?_
 refine s_seq (g_reg hG ?_)
 obtain ⟨v4, hv4, h⟩ := bind_of h
 refine g_callm [(0, 4), (1, 5), (2, 1)] [] [0, 1, 2] (queue_finish_m3_okm v3 a1 _ hv4) rfl rfl ?_
 refine g_ret ?_
 exact g_end h
attribute [local irreducible] f_queue_Cancel

noncomputable def f_queue_Lower_1_m (a0 : Queue) (a1 : Proc) (a2 : Amount) : Option (Queue × Proc × Amount) :=
 (f_holders_Set a0.holds a1 a2).bind fun v1 =>
 some ({ a0 with holds := v1 }, a1, a2)
theorem queue_Lower_1_m_okm (a0 : Queue) (a1 : Proc) (a2 : Amount) (r : Queue × Proc × Amount) (h : f_queue_Lower_1_m a0 a1 a2 = some r) : MFn C 110 [.ptr 0 0 0, .ptr 1 0 0, .ptr 2 0 0] [(0, ⟨false, 8, (Queue.enc Queue.zero), [Queue.enc a0]⟩), (1, ⟨false, 3, (Proc.enc Proc.zero), [Proc.enc a1]⟩), (2, ⟨false, 2, (Amount.enc Amount.zero), [Amount.enc a2]⟩)] 3 (.tup []) [(0, ⟨false, 8, (Queue.enc Queue.zero), [Queue.enc r.1]⟩), (1, ⟨false, 3, (Proc.enc Proc.zero), [Proc.enc r.2.1]⟩), (2, ⟨false, 2, (Amount.enc Amount.zero), [Amount.enc r.2.2]⟩)] 3 := by
 refine mfn_intro (rl := []) ck_3x rfl rfl rfl rfl fun E hG hN hK => ?_
 unfold pc_3x
 unfold f_queue_Lower_1_m at h
 refine g_reg hG ?_
 obtain ⟨v1, hv1, h⟩ := bind_of h
 refine g_call (fun hg => holders_Set_ok a0.holds a1 a2 _ (hv1)) ?_
 exact g_retm [(0, 0), (1, 1), (2, 2)] h
attribute [local irreducible] f_queue_Lower_1_m

noncomputable def f_queue_finish_m4_k1  (j1 : Queue × Proc × Amount) : Option (Queue × (List Hold) × Int × Queue × Proc × Amount) :=
 (f_queue_advance_m j1.1).bind fun v1 =>
 some ({ v1.2 with gen := (f_ident_Next v1.2.gen) }, v1.1, 0, { v1.2 with gen := (f_ident_Next v1.2.gen) }, j1.2.1, j1.2.2)
@[go_sem] def J3y_k1  (j1 : Queue × Proc × Amount) : St := ⟨[(0, .ptr 0 0 0), (4, .ptr 4 0 0)], [(0, ⟨false, 8, (Queue.enc Queue.zero), [Queue.enc j1.1]⟩), (1, ⟨false, 1, [A.any], [[.clo 110 [.ptr 0 0 0, .ptr 2 0 0, .ptr 3 0 0]]]⟩), (2, ⟨false, 3, (Proc.enc Proc.zero), [Proc.enc j1.2.1]⟩), (3, ⟨false, 2, (Amount.enc Amount.zero), [Amount.enc j1.2.2]⟩), (4, ⟨false, 8, (Queue.enc Queue.zero), [Queue.enc Queue.zero]⟩)], 5⟩
noncomputable def f_queue_finish_m4 (a0 : Queue) (a1 : Proc) (a2 : Amount) : Option (Queue × (List Hold) × Int × Queue × Proc × Amount) :=
 gd (0 ≤ 0 ∧ 0 < (1 : Int)) <|
 (f_queue_Lower_1_m a0 a1 a2).bind fun v2 =>
 f_queue_finish_m4_k1 (v2.1, v2.2.1, v2.2.2)
theorem queue_finish_m4_okm (a0 : Queue) (a1 : Proc) (a2 : Amount) (r : Queue × (List Hold) × Int × Queue × Proc × Amount) (h : f_queue_finish_m4 a0 a1 a2 = some r) : MFn C 80 [.ptr 0 0 0, .own 1 0 1] [(0, ⟨false, 8, (Queue.enc Queue.zero), [Queue.enc a0]⟩), (1, ⟨false, 1, [A.any], [[.clo 110 [.ptr 0 0 0, .ptr 2 0 0, .ptr 3 0 0]]]⟩), (2, ⟨false, 3, (Proc.enc Proc.zero), [Proc.enc a1]⟩), (3, ⟨false, 2, (Amount.enc Amount.zero), [Amount.enc a2]⟩)] 4 (.tup [.agg (Queue.enc r.1), .sl (r.2.1.map Hold.enc), .int .i64 r.2.2.1]) [(0, ⟨false, 8, (Queue.enc Queue.zero), [Queue.enc r.2.2.2.1]⟩), (1, ⟨false, 1, [A.any], [[.clo 110 [.ptr 0 0 0, .ptr 2 0 0, .ptr 3 0 0]]]⟩), (2, ⟨false, 3, (Proc.enc Proc.zero), [Proc.enc r.2.2.2.2.1]⟩), (3, ⟨false, 2, (Amount.enc Amount.zero), [Amount.enc r.2.2.2.2.2]⟩)] 4 := by
 refine mfn_intro (rl := [.agg (Queue.enc r.1), .sl (r.2.1.map Hold.enc), .int .i64 r.2.2.1]) ck_3y rfl rfl rfl rfl fun E hG hN hK => ?_
 unfold pc_3y
 unfold f_queue_finish_m4 at h
 refine s_seq (g_reg hG ?_)
 refine s_seq (s_seq (g_reg hG ?_))
 refine s_blockJ (J3y_k1) (fun v => f_queue_finish_m4_k1 v = some r) ?_ ?_
 · intro j1 h
   unfold f_queue_finish_m4_k1 at h
   refine g_st ?_
   refine s_seq (g_reg hG ?_)
   obtain ⟨v1, hv1, h⟩ := bind_of h
   refine g_callm [(0, 0)] [] [0] (queue_advance_m_okm j1.1 _ hv1) rfl rfl ?_
   refine s_seq (g_reg hG ?_)
   refine g_call (fun hg => ident_Next_ok v1.2.gen) ?_
   refine s_seq (g_reg hG ?_)
   refine g_ret ?_
   exact g_retm [(0, 0), (1, 1), (2, 2), (3, 3)] h
 refine aw_unroll 3 ?_
 refine ul_succ ?_
 refine s_seq (g_reg hG ?_)
 refine s_seq ?_
 refine g_cond1 rfl hG ?_
 refine g_skip ?_
 refine s_seq (s_block (s_seq ?_))
 obtain ⟨hb1, h⟩ := gd_some h
 refine g_reg hG ?_
 refine g_reg hG ?_
 obtain ⟨v2, hv2, h⟩ := bind_of h
 refine g_callm [(0, 0), (1, 2), (2, 3)] [] [0, 1, 2] (queue_Lower_1_m_okm a0 a1 a2 _ hv2) rfl rfl ?_
 refine g_reg hG ?_
 refine ul_succ ?_
 refine s_seq (g_reg hG ?_)
 refine s_seq ?_
 refine g_cond0 rfl hG ?_
 refine g_exit ?_
 exact g_join hK [(0, 0), (1, 1), (2, 2), (3, 3), (4, 4)] (v2.1, v2.2.1, v2.2.2) (by exact h)
attribute [local irreducible] f_queue_finish_m4

noncomputable def f_queue_Lower (a0 : Queue) (a1 : Proc) (a2 : Amount) : Option (Queue × (List Hold) × Int) :=
 (f_queue_Valid a0).bind fun v1 =>
 (if (!v1) = true then
  some ({ Queue.zero with  }, [], 2)
 else
  (f_queue_Held a0 a1).bind fun v2 =>
  (if (f_amount_Zero v2) = true then
   some ({ Queue.zero with  }, [], 10)
  else
   (f_line_Find a0.converts a1).bind fun v3 =>
   (if (decide (0 ≤ v3)) = true then
    some ({ Queue.zero with  }, [], 14)
   else
    (f_amount_Covers a0.resource v2 a2).bind fun v4 =>
    (if (!v4) = true then
     some ({ Queue.zero with  }, [], 12)
    else
     (f_queue_clone a0).bind fun v5 =>
     (if (decide (a2 = v2)) = true then
      some (v5, [], 0)
     else
      (f_queue_finish_m4 v5 a1 a2).bind fun v6 =>
      some (v6.1, v6.2.1, v6.2.2.1))))))
theorem queue_Lower_ok (a0 : Queue) (a1 : Proc) (a2 : Amount) (r : Queue × (List Hold) × Int) (h : f_queue_Lower a0 a1 a2 = some r) : PFn C 51 [.agg (Queue.enc a0), .agg (Proc.enc a1), .agg (Amount.enc a2)] (.tup [.agg (Queue.enc r.1), .sl (r.2.1.map Hold.enc), .int .i64 r.2.2]) := by
 refine pfn_intro ck_3z rfl fun E hG hN hK => ?_
 unfold pc_3z
 unfold f_queue_Lower at h
 refine s_seq (g_reg hG ?_)
 refine s_seq (s_seq (g_reg hG ?_))
 obtain ⟨v1, hv1, h⟩ := bind_of h
 refine g_call (fun hg => queue_Valid_ok a0 _ (hv1)) ?_
 refine g_cond rfl hG h (fun _ h => ?_) (fun _ h => ?_)
 · refine s_seq (g_reg hG ?_)
   refine g_ret ?_
   exact g_end h
 refine g_skip ?_
 refine s_seq (g_reg hG ?_)
 obtain ⟨v2, hv2, h⟩ := bind_of h
 refine g_call (fun hg => queue_Held_ok a0 a1 _ (hv2)) ?_
 refine s_seq (s_seq (g_reg hG ?_))
 refine g_call (fun hg => amount_Zero_ok v2) ?_
 refine g_cond rfl hG h (fun _ h => ?_) (fun _ h => ?_)
 · refine s_seq (g_reg hG ?_)
   refine g_ret ?_
   exact g_end h
 refine g_skip ?_
 refine s_seq (s_seq (g_reg hG ?_))
 obtain ⟨v3, hv3, h⟩ := bind_of h
 refine g_call (fun hg => line_Find_ok a0.converts a1 _ (hv3)) ?_
 refine g_cond rfl hG h (fun _ h => ?_) (fun _ h => ?_)
 · refine s_seq (g_reg hG ?_)
   refine g_ret ?_
   exact g_end h
 refine g_skip ?_
 refine s_seq (s_seq (g_reg hG ?_))
 obtain ⟨v4, hv4, h⟩ := bind_of h
 refine g_call (fun hg => amount_Covers_ok a0.resource v2 a2 _ (hv4)) ?_
 refine g_cond rfl hG h (fun _ h => ?_) (fun _ h => ?_)
 · refine s_seq (g_reg hG ?_)
   refine g_ret ?_
   exact g_end h
 refine g_skip ?_
 refine s_seq (g_reg hG ?_)
 obtain ⟨v5, hv5, h⟩ := bind_of h
 refine g_call (fun hg => queue_clone_ok a0 _ (hv5)) ?_
 refine s_seq (s_seq (g_reg hG ?_))
 refine g_cond rfl hG h (fun _ h => ?_) (fun _ h => ?_)
 · refine s_seq (g_reg hG ?_)
   refine g_ret ?_
   exact g_end h
 refine g_skip ?_
 refine s_seq (g_reg hG ?_)
 obtain ⟨v6, hv6, h⟩ := bind_of h
 refine g_callm [(0, 5), (1, 6), (2, 1), (3, 2)] [] [0, 1, 2, 3] (queue_finish_m4_okm v5 a1 a2 _ hv6) rfl rfl ?_
 refine g_ret ?_
 exact g_end h
attribute [local irreducible] f_queue_Lower

noncomputable def f_law12_step_k1 (a0 : Queue) (j1 : (List Hold) × (List Hold) × Int × Int × Queue × Queue) : Option (Queue × (List Hold) × Bool) :=
 (f_law12_same j1.2.2.2.2.1 j1.1 j1.2.2.1 j1.2.2.2.2.2 j1.2.1 j1.2.2.2.1).bind fun v4 =>
 (if (!v4) = true then
  some (a0, [], false)
 else
  (if (!decide (j1.2.2.1 = 0)) = true then
   some (a0, [], true)
  else
   some (j1.2.2.2.2.1, j1.1, true)))
@[go_sem] def J41_k1 (a0 : Queue) (j1 : (List Hold) × (List Hold) × Int × Int × Queue × Queue) : St := ⟨[(2, .ptr 0 0 0), (4, .ptr 1 0 0), (9, .ptr 2 0 0), (10, .ptr 3 0 0), (11, .sl (j1.1.map Hold.enc)), (12, .sl (j1.2.1.map Hold.enc)), (13, .int .i64 j1.2.2.1), (14, .int .i64 j1.2.2.2.1)], [(0, ⟨false, 8, (Queue.enc Queue.zero), [Queue.enc a0]⟩), (1, ⟨false, 8, (Queue.enc Queue.zero), [Queue.enc Queue.zero]⟩), (2, ⟨false, 8, (Queue.enc Queue.zero), [Queue.enc j1.2.2.2.2.1]⟩), (3, ⟨false, 8, (Queue.enc Queue.zero), [Queue.enc j1.2.2.2.2.2]⟩)], 4⟩
noncomputable def f_law12_step (a0 : Queue) (a1 : Int) : Option (Queue × (List Hold) × Bool) :=
 (f_mill_Proc (a1.fdiv (2 ^ 3))).bind fun v1 =>
 (f_mill_Amount a0.resource (a1.fdiv (2 ^ 6))).bind fun v2 =>
 (f_mill_Mod a1 8).bind fun v3 =>
 (if (decide (v3 = 0)) = true then
  (f_queue_Cancel a0 v1).bind fun v5 =>
  (f_ref12_Cancel a0 v1).bind fun v6 =>
  f_law12_step_k1 a0 (v5.2.1, v6.2.1, v5.2.2, v6.2.2, v5.1, v6.1)
 else
  (if (decide (v3 = 1)) = true then
   (f_queue_Lower a0 v1 v2).bind fun v7 =>
   (f_ref12_Lower a0 v1 v2).bind fun v8 =>
   f_law12_step_k1 a0 (v7.2.1, v8.2.1, v7.2.2, v8.2.2, v7.1, v8.1)
  else
   (if (decide (v3 = 2)) = true then
    (f_queue_Remove a0 v1).bind fun v9 =>
    (f_ref12_Remove a0 v1).bind fun v10 =>
    f_law12_step_k1 a0 (v9.2.1, v10.2.1, v9.2.2, v10.2.2, v9.1, v10.1)
   else
    (f_mill_Mod (a1.fdiv (2 ^ 9)) 8).bind fun v11 =>
    (f_queue_Claim a0 v1 v2 v11).bind fun v12 =>
    (f_mill_Mod (a1.fdiv (2 ^ 9)) 8).bind fun v13 =>
    (f_ref12_Claim a0 v1 v2 v13).bind fun v14 =>
    f_law12_step_k1 a0 (v12.2.1, v14.2.1, v12.2.2, v14.2.2, v12.1, v14.1))))
theorem law12_step_ok (a0 : Queue) (a1 : Int) (r : Queue × (List Hold) × Bool) (h : f_law12_step a0 a1 = some r) : PFn C 54 [.agg (Queue.enc a0), .int .i64 a1] (.tup [.agg (Queue.enc r.1), .sl (r.2.1.map Hold.enc), .bool r.2.2]) := by
 refine pfn_intro ck_41 rfl fun E hG hN hK => ?_
 unfold pc_41
 unfold f_law12_step at h
 refine s_seq (g_reg hG ?_)
 refine s_seq (g_reg hG ?_)
 obtain ⟨v1, hv1, h⟩ := bind_of h
 refine g_call (fun hg => mill_Proc_ok (a1.fdiv (2 ^ 3)) _ (hv1)) ?_
 refine s_seq (g_reg hG ?_)
 obtain ⟨v2, hv2, h⟩ := bind_of h
 refine g_call (fun hg => mill_Amount_ok a0.resource (a1.fdiv (2 ^ 6)) _ (hv2)) ?_
 refine s_seq (g_reg hG ?_)
 refine s_seq (g_reg hG ?_)
 refine s_seq (g_reg hG ?_)
 refine s_seq (s_seq (g_reg hG ?_))
 obtain ⟨v3, hv3, h⟩ := bind_of h
 refine g_call (fun hg => mill_Mod_ok a1 8 _ (hv3)) ?_
 refine s_blockJ (J41_k1 a0) (fun v => f_law12_step_k1 a0 v = some r) ?_ ?_
 · intro j1 h
   unfold f_law12_step_k1 at h
   refine g_st ?_
   refine s_seq (s_seq (g_reg hG ?_))
   obtain ⟨v4, hv4, h⟩ := bind_of h
   refine g_call (fun hg => law12_same_ok j1.2.2.2.2.1 j1.1 j1.2.2.1 j1.2.2.2.2.2 j1.2.1 j1.2.2.2.1 _ (hv4)) ?_
   refine g_cond rfl hG h (fun _ h => ?_) (fun _ h => ?_)
   · refine s_seq (g_reg hG ?_)
     refine g_ret ?_
     exact g_end h
   refine g_skip ?_
   refine s_seq (s_seq (g_reg hG ?_))
   refine g_cond rfl hG h (fun _ h => ?_) (fun _ h => ?_)
   · refine s_seq (g_reg hG ?_)
     refine g_ret ?_
     exact g_end h
   refine g_skip ?_
   refine s_seq (g_reg hG ?_)
   refine g_ret ?_
   exact g_end h
 refine s_seq (g_reg hG ?_)
 refine g_cond rfl hG h (fun _ h => ?_) (fun _ h => ?_)
 · refine s_seq (g_reg hG ?_)
   obtain ⟨v5, hv5, h⟩ := bind_of h
   refine g_call (fun hg => queue_Cancel_ok a0 v1 _ (hv5)) ?_
   refine g_reg hG ?_
   obtain ⟨v6, hv6, h⟩ := bind_of h
   refine g_call (fun hg => ref12_Cancel_ok a0 v1 _ (hv6)) ?_
   exact g_join hK [(0, 0), (1, 1), (2, 4), (3, 5)] (v5.2.1, v6.2.1, v5.2.2, v6.2.2, v5.1, v6.1) (by exact h)
 refine s_seq (g_reg hG ?_)
 refine g_cond rfl hG h (fun _ h => ?_) (fun _ h => ?_)
 · refine s_seq (g_reg hG ?_)
   obtain ⟨v7, hv7, h⟩ := bind_of h
   refine g_call (fun hg => queue_Lower_ok a0 v1 v2 _ (hv7)) ?_
   refine g_reg hG ?_
   obtain ⟨v8, hv8, h⟩ := bind_of h
   refine g_call (fun hg => ref12_Lower_ok a0 v1 v2 _ (hv8)) ?_
   exact g_join hK [(0, 0), (1, 1), (2, 4), (3, 5)] (v7.2.1, v8.2.1, v7.2.2, v8.2.2, v7.1, v8.1) (by exact h)
 refine s_seq (g_reg hG ?_)
 refine g_cond rfl hG h (fun _ h => ?_) (fun _ h => ?_)
 · refine s_seq (g_reg hG ?_)
   obtain ⟨v9, hv9, h⟩ := bind_of h
   refine g_call (fun hg => queue_Remove_ok a0 v1 _ (hv9)) ?_
   refine g_reg hG ?_
   obtain ⟨v10, hv10, h⟩ := bind_of h
   refine g_call (fun hg => ref12_Remove_ok a0 v1 _ (hv10)) ?_
   exact g_join hK [(0, 0), (1, 1), (2, 4), (3, 5)] (v9.2.1, v10.2.1, v9.2.2, v10.2.2, v9.1, v10.1) (by exact h)
 refine s_seq (g_regm C_mixed hG ?_)
 obtain ⟨v11, hv11, h⟩ := bind_of h
 refine g_callM (fun hg => mill_Mod_ok (a1.fdiv (2 ^ 9)) 8 _ (hv11)) ?_
 obtain ⟨v12, hv12, h⟩ := bind_of h
 refine g_callM (fun hg => queue_Claim_ok a0 v1 v2 v11 _ (hv12)) ?_
 refine g_regm C_mixed hG ?_
 obtain ⟨v13, hv13, h⟩ := bind_of h
 refine g_callM (fun hg => mill_Mod_ok (a1.fdiv (2 ^ 9)) 8 _ (hv13)) ?_
 obtain ⟨v14, hv14, h⟩ := bind_of h
 refine g_callM (fun hg => ref12_Claim_ok a0 v1 v2 v13 _ (hv14)) ?_
 exact g_join hK [(0, 0), (1, 1), (2, 4), (3, 5)] (v12.2.1, v14.2.1, v12.2.2, v14.2.2, v12.1, v14.1) (by exact h)
attribute [local irreducible] f_law12_step

noncomputable def f_line_Ahead_m_k1  (j1 : (List Proc)) : Option ((List Proc)) :=
 some j1
@[go_sem] def J44_k1  (j1 : (List Proc)) : St := ⟨[(5, .own 0 0 j1.length)], [(0, ⟨false, 3, (Proc.enc Proc.zero), j1.map Proc.enc⟩)], 1⟩
noncomputable def f_line_Ahead_m_l1 (a0 : List Wait) (v1 : Int) (g1 : Int × (List Proc)) : Option ((Int × (List Proc)) ⊕ (((List Proc)))) :=
 (if (decide (g1.1 < v1)) = true then
  gd (0 ≤ g1.1 ∧ g1.1 < (a0.length : Int)) <|
  gd (g1.2.length + 1 ≤ 4294967296) <|
  some (.inl ((IntKind.i64.wrap (g1.1 + 1)), (g1.2 ++ [(a0.getD g1.1.toNat Wait.zero).proc])))
 else
  some (.inr g1.2))
@[go_sem] def I44_l1 (a0 : List Wait) (v1 : Int) (g1 : Int × (List Proc)) : St := ⟨[(0, .sl (a0.map Wait.enc)), (5, .own 0 0 g1.2.length), (9, .int .i64 v1), (10, .int .i64 g1.1)], [(0, ⟨false, 3, (Proc.enc Proc.zero), g1.2.map Proc.enc⟩)], 1⟩
noncomputable def f_line_Ahead_m (a0 : List Wait) (a1 : Proc) : Option ((List Proc)) :=
 (f_line_Find a0 a1).bind fun v1 =>
 (loopO (f_line_Ahead_m_l1 a0 v1) (0, [])).bind (fun z => f_line_Ahead_m_k1 z)
theorem line_Ahead_m_okm (a0 : List Wait) (a1 : Proc) (r : (List Proc)) (h : f_line_Ahead_m a0 a1 = some r) : MFn C 114 [.sl (a0.map Wait.enc), .agg (Proc.enc a1)] [] 0 (.own 0 0 r.length) [(0, ⟨false, 3, (Proc.enc Proc.zero), r.map Proc.enc⟩)] 1 := by
 refine mfn_intro (rl := [.own 0 0 r.length]) ck_44 rfl rfl rfl rfl fun E hG hN hK => ?_
 unfold pc_44
 unfold f_line_Ahead_m at h
 refine s_seq (g_reg hG ?_)
 refine s_seq (g_reg hG ?_)
 refine s_seq (s_seq (g_reg hG ?_))
 obtain ⟨v1, hv1, h⟩ := bind_of h
 refine g_call (fun hg => line_Find_ok a0 a1 _ (hv1)) ?_
 refine s_blockJ (J44_k1) (fun v => f_line_Ahead_m_k1 v = some r) ?_ ?_
 · intro j1 h
   unfold f_line_Ahead_m_k1 at h
   refine g_st ?_
   refine s_seq (g_reg hG ?_)
   refine g_ret ?_
   exact g_retm [(0, 0)] h
 refine g_loop (I44_l1 a0 v1) hK [(0, 2)] h (fun x_l1 h g1 y_l1 h_l1 hx_l1 => ?_)
 unfold f_line_Ahead_m_l1 at h_l1
 refine g_st ?_
 refine s_seq (g_reg hG ?_)
 refine s_seq ?_
 refine g_cond rfl hG h_l1 (fun _ h_l1 => ?_) (fun _ h_l1 => ?_)
 · refine g_skip ?_
   refine s_seq (s_block (s_seq (g_reg hG ?_)))
   obtain ⟨hb1, h_l1⟩ := gd_some h_l1
   obtain ⟨hb2, h_l1⟩ := gd_some h_l1
   refine g_reg hG ?_
   refine g_reg hG ?_
   exact g_next hK [(0, 1)] h_l1
 refine g_exit ?_
 obtain rfl := Option.some.inj h_l1
 have hx := hx_l1 _ rfl
 subst hx
 try dsimp only at h
 exact g_join hK [(0, 0)] g1.2 (by exact h)
attribute [local irreducible] f_line_Ahead_m

noncomputable def f_holders_Against_k1  (j1 : (List Proc)) : Option ((List Proc)) :=
 some j1
@[go_sem] def J45_k1  (j1 : (List Proc)) : St := ⟨[(9, .own 0 0 j1.length)], [(0, ⟨false, 3, (Proc.enc Proc.zero), j1.map Proc.enc⟩)], 1⟩
noncomputable def f_holders_Against_l1 (a0 : Resource) (a1 : List Hold) (a2 : Proc) (a3 : Amount) (g1 : Int × (List Proc)) : Option ((Int × (List Proc)) ⊕ (((List Proc)))) :=
 (if (decide (g1.1 < (a1.length : Int))) = true then
  gd (0 ≤ g1.1 ∧ g1.1 < (a1.length : Int)) <|
  (if (decide ((a1.getD g1.1.toNat Hold.zero).proc = a2)) = true then
   some (.inl ((IntKind.i64.wrap (g1.1 + 1)), g1.2))
  else
   ((if (decide (a0.kind = 1)) = true then f_amount_Compatible a0 [(a1.getD g1.1.toNat Hold.zero).amount, a3] else some (false))).bind fun v3 =>
   (if ((decide (a0.kind = 1)) && v3) = true then
    some (.inl ((IntKind.i64.wrap (g1.1 + 1)), g1.2))
   else
    gd (g1.2.length + 1 ≤ 4294967296) <|
    some (.inl ((IntKind.i64.wrap (g1.1 + 1)), (g1.2 ++ [(a1.getD g1.1.toNat Hold.zero).proc])))))
 else
  some (.inr g1.2))
@[go_sem] def I45_l1 (a0 : Resource) (a1 : List Hold) (a2 : Proc) (a3 : Amount) (g1 : Int × (List Proc)) : St := ⟨[(4, .ptr 0 0 0), (6, .ptr 1 0 0), (7, .ptr 2 0 0), (9, .own 3 0 g1.2.length), (25, .sl (a1.map Hold.enc)), (26, .int .i64 (a1.length : Int)), (27, .int .i64 g1.1)], [(0, ⟨false, 4, (Resource.enc Resource.zero), [Resource.enc a0]⟩), (1, ⟨false, 3, (Proc.enc Proc.zero), [Proc.enc a2]⟩), (2, ⟨false, 2, (Amount.enc Amount.zero), [Amount.enc a3]⟩), (3, ⟨false, 3, (Proc.enc Proc.zero), g1.2.map Proc.enc⟩)], 4⟩
noncomputable def f_holders_Against (a0 : Resource) (a1 : List Hold) (a2 : Proc) (a3 : Amount) : Option ((List Proc)) :=
 (f_holders_proper a0 a1 a2 a3).bind fun v1 =>
 ((if v1 = true then f_holders_Room a0 a1 a2 a3 else some (false))).bind fun v2 =>
 (if ((!v1) || v2) = true then
  some []
 else
  (loopO (f_holders_Against_l1 a0 a1 a2 a3) (0, [])).bind (fun z => f_holders_Against_k1 z))
theorem holders_Against_ok (a0 : Resource) (a1 : List Hold) (a2 : Proc) (a3 : Amount) (r : (List Proc)) (h : f_holders_Against a0 a1 a2 a3 = some r) : PFn C 115 [.agg (Resource.enc a0), .sl (a1.map Hold.enc), .agg (Proc.enc a2), .agg (Amount.enc a3)] (.sl (r.map Proc.enc)) := by
 refine pfn_intro ck_45 rfl fun E hG hN hK => ?_
 unfold pc_45
 unfold f_holders_Against at h
 refine s_seq (g_reg hG ?_)
 refine s_seq (s_seq (g_reg hG ?_))
 obtain ⟨v1, hv1, h⟩ := bind_of h
 refine g_call (fun hg => holders_proper_ok a0 a1 a2 a3 _ (hv1)) ?_
 obtain ⟨v2, hv2, h⟩ := bind_of h
 refine g_call (fun hg => holders_Room_ok a0 a1 a2 a3 _ (ite_t hg hv2)) ?_
 refine g_cond rfl hG h (fun _ h => ?_) (fun _ h => ?_)
 · refine s_seq (g_reg hG ?_)
   refine g_ret ?_
   exact g_end h
 refine g_skip ?_
 refine s_seq (g_reg hG ?_)
 refine s_seq (s_seq (g_reg hG ?_))
 refine s_blockJ (J45_k1) (fun v => f_holders_Against_k1 v = some r) ?_ ?_
 · intro j1 h
   unfold f_holders_Against_k1 at h
   refine g_st ?_
   refine s_seq (g_reg hG ?_)
   refine g_ret ?_
   exact g_end h
 refine g_loop (I45_l1 a0 a1 a2 a3) hK [(0, 0), (1, 1), (2, 2), (3, 3)] h (fun x_l1 h g1 y_l1 h_l1 hx_l1 => ?_)
 unfold f_holders_Against_l1 at h_l1
 refine g_st ?_
 refine s_seq (g_reg hG ?_)
 refine s_seq ?_
 refine g_cond rfl hG h_l1 (fun _ h_l1 => ?_) (fun _ h_l1 => ?_)
 · refine g_skip ?_
   refine s_seq (s_block (s_seq ?_))
   obtain ⟨hb2, h_l1⟩ := gd_some h_l1
   refine g_reg hG ?_
   refine s_seq (s_seq (g_reg hG ?_))
   refine g_cond rfl hG h_l1 (fun _ h_l1 => ?_) (fun _ h_l1 => ?_)
   · refine g_exit ?_
     refine g_reg hG ?_
     exact g_next hK [(0, 0), (1, 1), (2, 2), (3, 3)] h_l1
   refine g_skip ?_
   refine s_seq (s_seq (g_reg hG ?_))
   obtain ⟨v3, hv3, h_l1⟩ := bind_of h_l1
   refine g_call (fun hg => PFn.unfull (amount_Compatible_ok a0 [(a1.getD g1.1.toNat Hold.zero).amount, a3] _ (ite_t hg hv3))) ?_
   refine g_cond rfl hG h_l1 (fun _ h_l1 => ?_) (fun _ h_l1 => ?_)
   · refine g_exit ?_
     refine g_reg hG ?_
     exact g_next hK [(0, 0), (1, 1), (2, 2), (3, 3)] h_l1
   refine g_skip ?_
   obtain ⟨hb1, h_l1⟩ := gd_some h_l1
   refine g_reg hG ?_
   refine g_reg hG ?_
   exact g_next hK [(0, 0), (1, 1), (2, 2), (3, 5)] h_l1
 refine g_exit ?_
 obtain rfl := Option.some.inj h_l1
 have hx := hx_l1 _ rfl
 subst hx
 try dsimp only at h
 exact g_join hK [(0, 3)] g1.2 (by exact h)
attribute [local irreducible] f_holders_Against

noncomputable def f_queue_Blockers (a0 : Queue) (a1 : Proc) : Option ((List Proc)) :=
 (f_queue_Wanted a0 a1).bind fun v1 =>
 ((if v1.2 = true then f_queue_Valid a0 else some (false))).bind fun v2 =>
 (if ((!v1.2) || (!v2)) = true then
  some []
 else
  (f_queue_order a0).bind fun v3 =>
  (f_line_Ahead_m v3 a1).bind fun v4 =>
  (f_holders_Against a0.resource a0.holds a1 v1.1).bind fun v5 =>
  gd (v4.length + v5.length ≤ 4294967296) <|
  (f_ident_SortProcs (v4 ++ v5)).bind fun v6 =>
  some v6)
theorem queue_Blockers_ok (a0 : Queue) (a1 : Proc) (r : (List Proc)) (h : f_queue_Blockers a0 a1 = some r) : PFn C 58 [.agg (Queue.enc a0), .agg (Proc.enc a1)] (.sl (r.map Proc.enc)) := by
 refine pfn_intro ck_46 rfl fun E hG hN hK => ?_
 unfold pc_46
 unfold f_queue_Blockers at h
 refine s_seq (g_reg hG ?_)
 refine s_seq (g_reg hG ?_)
 obtain ⟨v1, hv1, h⟩ := bind_of h
 refine g_call (fun hg => queue_Wanted_ok a0 a1 _ (hv1)) ?_
 refine s_seq (s_seq (g_reg hG ?_))
 obtain ⟨v2, hv2, h⟩ := bind_of h
 refine g_call (fun hg => queue_Valid_ok a0 _ (ite_t hg hv2)) ?_
 refine g_cond rfl hG h (fun _ h => ?_) (fun _ h => ?_)
 · refine s_seq (g_reg hG ?_)
   refine g_ret ?_
   exact g_end h
 refine g_skip ?_
 refine s_seq (g_regm C_mixed hG ?_)
 obtain ⟨v3, hv3, h⟩ := bind_of h
 refine g_callM (fun hg => queue_order_ok a0 _ (hv3)) ?_
 obtain ⟨v4, hv4, h⟩ := bind_of h
 refine g_callmM [] [(0, 3)] [0] (line_Ahead_m_okm v3 a1 _ hv4) rfl rfl ?_
 refine s_seq (g_reg hG ?_)
 obtain ⟨v5, hv5, h⟩ := bind_of h
 obtain ⟨hb1, h⟩ := gd_some h
 refine g_call (fun hg => holders_Against_ok a0.resource a0.holds a1 v1.1 _ (hv5)) ?_
 refine s_seq (g_reg hG ?_)
 obtain ⟨v6, hv6, h⟩ := bind_of h
 refine g_call (fun hg => ident_SortProcs_ok (v4 ++ v5) _ (hv6)) ?_
 refine g_ret ?_
 exact g_end h
attribute [local irreducible] f_queue_Blockers

noncomputable def f_holders_Procs_k1  (j1 : (List Proc)) : Option ((List Proc)) :=
 some j1
@[go_sem] def J49_k1  (j1 : (List Proc)) : St := ⟨[(3, .own 0 0 j1.length)], [(0, ⟨false, 3, (Proc.enc Proc.zero), j1.map Proc.enc⟩)], 1⟩
noncomputable def f_holders_Procs_l1 (a0 : List Hold) (g1 : Int × (List Proc)) : Option ((Int × (List Proc)) ⊕ (((List Proc)))) :=
 (if (decide (g1.1 < (a0.length : Int))) = true then
  gd (0 ≤ g1.1 ∧ g1.1 < (a0.length : Int)) <|
  gd (g1.2.length + 1 ≤ 4294967296) <|
  some (.inl ((IntKind.i64.wrap (g1.1 + 1)), (g1.2 ++ [(a0.getD g1.1.toNat Hold.zero).proc])))
 else
  some (.inr g1.2))
@[go_sem] def I49_l1 (a0 : List Hold) (g1 : Int × (List Proc)) : St := ⟨[(3, .own 0 0 g1.2.length), (6, .sl (a0.map Hold.enc)), (7, .int .i64 (a0.length : Int)), (8, .int .i64 g1.1)], [(0, ⟨false, 3, (Proc.enc Proc.zero), g1.2.map Proc.enc⟩)], 1⟩
noncomputable def f_holders_Procs (a0 : List Hold) : Option ((List Proc)) :=
 (loopO (f_holders_Procs_l1 a0) (0, [])).bind (fun z => f_holders_Procs_k1 z)
theorem holders_Procs_ok (a0 : List Hold) (r : (List Proc)) (h : f_holders_Procs a0 = some r) : PFn C 102 [.sl (a0.map Hold.enc)] (.sl (r.map Proc.enc)) := by
 refine pfn_intro ck_49 rfl fun E hG hN hK => ?_
 unfold pc_49
 unfold f_holders_Procs at h
 refine s_seq (g_reg hG ?_)
 refine s_seq (g_reg hG ?_)
 refine s_seq (s_seq (g_reg hG ?_))
 refine s_blockJ (J49_k1) (fun v => f_holders_Procs_k1 v = some r) ?_ ?_
 · intro j1 h
   unfold f_holders_Procs_k1 at h
   refine g_st ?_
   refine s_seq (g_reg hG ?_)
   refine g_ret ?_
   exact g_end h
 refine g_loop (I49_l1 a0) hK [(0, 0)] h (fun x_l1 h g1 y_l1 h_l1 hx_l1 => ?_)
 unfold f_holders_Procs_l1 at h_l1
 refine g_st ?_
 refine s_seq (g_reg hG ?_)
 refine s_seq ?_
 refine g_cond rfl hG h_l1 (fun _ h_l1 => ?_) (fun _ h_l1 => ?_)
 · refine g_skip ?_
   refine s_seq (s_block (s_seq ?_))
   obtain ⟨hb2, h_l1⟩ := gd_some h_l1
   refine g_reg hG ?_
   obtain ⟨hb1, h_l1⟩ := gd_some h_l1
   refine g_reg hG ?_
   refine g_reg hG ?_
   exact g_next hK [(0, 2)] h_l1
 refine g_exit ?_
 obtain rfl := Option.some.inj h_l1
 have hx := hx_l1 _ rfl
 subst hx
 try dsimp only at h
 exact g_join hK [(0, 0)] g1.2 (by exact h)
attribute [local irreducible] f_holders_Procs

noncomputable def f_line_Ahead_k1  (j1 : (List Proc)) : Option ((List Proc)) :=
 some j1
@[go_sem] def J4a_k1  (j1 : (List Proc)) : St := ⟨[(5, .own 0 0 j1.length)], [(0, ⟨false, 3, (Proc.enc Proc.zero), j1.map Proc.enc⟩)], 1⟩
noncomputable def f_line_Ahead_l1 (a0 : List Wait) (v1 : Int) (g1 : Int × (List Proc)) : Option ((Int × (List Proc)) ⊕ (((List Proc)))) :=
 (if (decide (g1.1 < v1)) = true then
  gd (0 ≤ g1.1 ∧ g1.1 < (a0.length : Int)) <|
  gd (g1.2.length + 1 ≤ 4294967296) <|
  some (.inl ((IntKind.i64.wrap (g1.1 + 1)), (g1.2 ++ [(a0.getD g1.1.toNat Wait.zero).proc])))
 else
  some (.inr g1.2))
@[go_sem] def I4a_l1 (a0 : List Wait) (v1 : Int) (g1 : Int × (List Proc)) : St := ⟨[(0, .sl (a0.map Wait.enc)), (5, .own 0 0 g1.2.length), (9, .int .i64 v1), (10, .int .i64 g1.1)], [(0, ⟨false, 3, (Proc.enc Proc.zero), g1.2.map Proc.enc⟩)], 1⟩
noncomputable def f_line_Ahead (a0 : List Wait) (a1 : Proc) : Option ((List Proc)) :=
 (f_line_Find a0 a1).bind fun v1 =>
 (loopO (f_line_Ahead_l1 a0 v1) (0, [])).bind (fun z => f_line_Ahead_k1 z)
theorem line_Ahead_ok (a0 : List Wait) (a1 : Proc) (r : (List Proc)) (h : f_line_Ahead a0 a1 = some r) : PFn C 114 [.sl (a0.map Wait.enc), .agg (Proc.enc a1)] (.sl (r.map Proc.enc)) := by
 refine pfn_intro ck_4a rfl fun E hG hN hK => ?_
 unfold pc_4a
 unfold f_line_Ahead at h
 refine s_seq (g_reg hG ?_)
 refine s_seq (g_reg hG ?_)
 refine s_seq (s_seq (g_reg hG ?_))
 obtain ⟨v1, hv1, h⟩ := bind_of h
 refine g_call (fun hg => line_Find_ok a0 a1 _ (hv1)) ?_
 refine s_blockJ (J4a_k1) (fun v => f_line_Ahead_k1 v = some r) ?_ ?_
 · intro j1 h
   unfold f_line_Ahead_k1 at h
   refine g_st ?_
   refine s_seq (g_reg hG ?_)
   refine g_ret ?_
   exact g_end h
 refine g_loop (I4a_l1 a0 v1) hK [(0, 1)] h (fun x_l1 h g1 y_l1 h_l1 hx_l1 => ?_)
 unfold f_line_Ahead_l1 at h_l1
 refine g_st ?_
 refine s_seq (g_reg hG ?_)
 refine s_seq ?_
 refine g_cond rfl hG h_l1 (fun _ h_l1 => ?_) (fun _ h_l1 => ?_)
 · refine g_skip ?_
   refine s_seq (s_block (s_seq (g_reg hG ?_)))
   obtain ⟨hb1, h_l1⟩ := gd_some h_l1
   obtain ⟨hb2, h_l1⟩ := gd_some h_l1
   refine g_reg hG ?_
   refine g_reg hG ?_
   exact g_next hK [(0, 1)] h_l1
 refine g_exit ?_
 obtain rfl := Option.some.inj h_l1
 have hx := hx_l1 _ rfl
 subst hx
 try dsimp only at h
 exact g_join hK [(0, 0)] g1.2 (by exact h)
attribute [local irreducible] f_line_Ahead
end Ab
end Go.Proofs.YtdflfohpemfeiaaGreatDoor
