/-
  A law's own code and what it computes.
-/
import Derived.Test.YtdflfohpemfeiaaGreatDoorFn
namespace Go.Proofs.YtdflfohpemfeiaaGreatDoor
namespace Ab
set_option linter.unusedSimpArgs false
set_option linter.unusedVariables false
set_option maxRecDepth 100000
set_option maxHeartbeats 1000000

attribute [local irreducible] f_mill_Mod f_mill_Proc f_catalog_ValidName f_catalog_ValidResource f_queue_New f_ident_compare f_ident_CompareProc f_mode_Compatible f_amount_Compatible f_holders_Valid f_holders_Get f_queue_Held f_line_Find f_mode_Covers f_amount_Covers f_queue_soundConverts f_line_Valid f_queue_soundWaits f_queue_Sound f_queue_head f_holders_proper f_holders_Set f_holders_Room f_queue_Settled f_queue_Valid f_slices_Grow_api_Wait_api_Wait_m f_slices_Concat_api_Wait_api_Wait f_queue_order f_queue_Wanted f_queue_clone_m f_mode_Sup f_amount_Join f_queue_Claim_1_m f_queue_advance_m f_queue_finish_m f_line_Insert f_queue_Claim_2_m f_queue_finish_m1 f_queue_Claim f_queue_Order f_holders_Procs_m f_slices_SortFunc_api_Proc_api_Proc_m f_slices_Compact_api_Proc_api_Proc_m f_ident_SortProcs f_queue_Procs f_slices_Index_api_Proc_api_Proc f_slices_Contains_api_Proc_api_Proc f_ident_HasProc f_queue_clone f_queue_Remove_1_m f_line_Remove f_queue_Remove_2_m f_queue_Remove_3_m f_queue_finish_m2 f_queue_Remove f_law12_awake f_ref05_ValidName f_ref05_ValidResource f_ref12_New f_ref10_Amounts f_ref04_Compatible f_ref10_Valid f_ref11_Find f_ref11_Valid f_ref10_Get f_ref12_Sound f_ref12_Head f_ref10_Set f_ref10_Room f_ref12_Settled f_ref12_Valid f_ref10_SameHolds f_ref11_SameWaits f_ref12_Same f_ref12_Wanted f_ref12_Copy_m f_ref12_Held f_ref03_Sup f_ref04_Join f_ref12_Copy f_ref12_Advance f_ref12_changed f_ref11_Insert f_ref12_Claim f_law12_same f_mill_Tape_Next_m f_mill_Catalog_m f_mill_Resource f_mill_Mode f_mill_Amount f_ref11_Remove f_ref12_Cancel f_ref12_Lower f_ref12_Has f_ref12_Remove f_law12_made f_ref02_HasProc f_ref02_SameProcs f_queue_Advance f_queue_Cancel_1_m f_queue_Cancel_2_m f_queue_finish_m3 f_queue_Cancel f_queue_Lower_1_m f_queue_finish_m4 f_queue_Lower f_law12_step f_line_Ahead_m f_holders_Against f_queue_Blockers f_holders_Procs f_line_Ahead
def r42_0 := [mo 4 .mv [oFa]]
def r42_1 := [oV 11 1,oC 12 31 [.t 11],mo 13 .not [.t 12]]
def r42_2 := [oC 14 18 [],oV 4 14]
def r42_3 := [oV 16 0,oC 17 53 [.t 16],oC 18 19 [.t 17],oV 15 18,oE 19 0 15,oE 20 1 15,mo 5 (.alloc 8 (Queue.enc Queue.zero)) [],oS 8 5 19,oV 6 20]
def r42_4 := [oV 21 6,oP 22 .neq [.t 21, oK 0]]
def r42_5 := [mo 4 .mv [oFa]]
def r42_6 := [oI 7 0]
def r42_7 := [oV 23 7,oV 24 1,mo 25 .len [.t 24],oP 26 .lss [.t 23, .t 25]]
def r42_9 := [oL 30 8 5,oV 31 1,oV 32 7,mo 33 (.iaS 1 [A.int .i64 0]) [.t 31, .t 32],oM 34 1 33,oC 35 54 [.t 30, .t 34],oV 29 35,oE 36 0 29,oE 37 1 29,oE 38 2 29,mo 8 (.alloc 8 (Queue.enc Queue.zero)) [],oS 8 8 36,oV 9 37,oV 10 38]
def r42_10 := [oV 39 10,mo 40 .not [.t 39]]
def r42_11 := [mo 4 .mv [oFa]]
def r42_12 := [oL 41 8 8,oS 8 5 41]
def r42_8 := [oV 27 7,oP 28 .add [.t 27, oK 1],oV 7 28]
def r42_13 := [oC 42 18 [],oV 43 42,oG 44 43 true (.load 8 true) [.t 5],oG 45 43 true .mv [.t 0],oG 46 43 true .mv [.t 1],oG 47 43 true (.call 32) [.t 45, .t 46],oG 48 43 true (.call 27) [.t 44, .t 47],mo 49 .pick [.t 43, .t 48, oFa],oV 4 49]
def pc_42 : PC := (.seq (.reg [] r42_0) (.seq (.seq (.reg [11, 12] r42_1) (.cond (.t 13) (.seq (.reg [14] r42_2) .ret) .skip)) (.seq (.reg [15, 16, 17, 18, 19, 20] r42_3) (.seq (.seq (.reg [21] r42_4) (.cond (.t 22) (.seq (.reg [] r42_5) .ret) .skip)) (.seq (.seq (.reg [] r42_6) (.block 0 (.loop (.seq (.seq (.reg [23, 24, 25] r42_7) (.cond (.t 26) .skip (.exit 0))) (.seq (.block 1 (.seq (.regm [9, 29, 30, 31, 32, 33, 34, 35, 36, 37, 38] [[], [], [], [1, 2], [3, 1, 2], [0, 4, 3, 1, 2], [5, 0, 4, 3, 1, 2], [6, 5, 0, 4, 3, 1, 2], [6, 5, 0, 4, 3, 1, 2], [6, 5, 0, 4, 3, 1, 2], [], [10, 7, 5, 0, 1, 2, 3, 4, 5, 6, 7, 10, 6, 5, 0, 4, 3, 1, 2, 0, 4, 3, 1, 2, 1, 2, 3, 1, 2, 0, 4, 3, 1, 2, 5, 0, 4, 3, 1, 2, 6, 5, 0, 4, 3, 1, 2], [8, 11, 0, 1, 2, 3, 4, 5, 6, 7, 8, 10, 11, 6, 5, 0, 4, 3, 1, 2, 10, 7, 5, 0, 1, 2, 3, 4, 5, 6, 7, 10, 6, 5, 0, 4, 3, 1, 2, 0, 4, 3, 1, 2, 1, 2, 3, 1, 2, 0, 4, 3, 1, 2, 5, 0, 4, 3, 1, 2, 6, 5, 0, 4, 3, 1, 2, 1, 2, 3, 1, 2, 0, 4, 3, 1, 2, 5, 0, 4, 3, 1, 2, 6, 5, 0, 4, 3, 1, 2, 6, 5, 0, 4, 3, 1, 2, 10, 7, 5, 0, 1, 2, 3, 4, 5, 6, 7, 10, 6, 5, 0, 4, 3, 1, 2, 0, 4, 3, 1, 2, 1, 2, 3, 1, 2, 0, 4, 3, 1, 2, 5, 0, 4, 3, 1, 2, 6, 5, 0, 4, 3, 1, 2], [9, 12, 0, 1, 2, 3, 4, 5, 6, 7, 8, 9, 10, 11, 12, 6, 5, 0, 4, 3, 1, 2, 8, 11, 0, 1, 2, 3, 4, 5, 6, 7, 8, 10, 11, 6, 5, 0, 4, 3, 1, 2, 10, 7, 5, 0, 1, 2, 3, 4, 5, 6, 7, 10, 6, 5, 0, 4, 3, 1, 2, 0, 4, 3, 1, 2, 1, 2, 3, 1, 2, 0, 4, 3, 1, 2, 5, 0, 4, 3, 1, 2, 6, 5, 0, 4, 3, 1, 2, 1, 2, 3, 1, 2, 0, 4, 3, 1, 2, 5, 0, 4, 3, 1, 2, 6, 5, 0, 4, 3, 1, 2, 6, 5, 0, 4, 3, 1, 2, 10, 7, 5, 0, 1, 2, 3, 4, 5, 6, 7, 10, 6, 5, 0, 4, 3, 1, 2, 0, 4, 3, 1, 2, 1, 2, 3, 1, 2, 0, 4, 3, 1, 2, 5, 0, 4, 3, 1, 2, 6, 5, 0, 4, 3, 1, 2, 1, 2, 3, 1, 2, 0, 4, 3, 1, 2, 5, 0, 4, 3, 1, 2, 6, 5, 0, 4, 3, 1, 2, 6, 5, 0, 4, 3, 1, 2, 6, 5, 0, 4, 3, 1, 2, 10, 7, 5, 0, 1, 2, 3, 4, 5, 6, 7, 10, 6, 5, 0, 4, 3, 1, 2, 0, 4, 3, 1, 2, 1, 2, 3, 1, 2, 0, 4, 3, 1, 2, 5, 0, 4, 3, 1, 2, 6, 5, 0, 4, 3, 1, 2, 8, 11, 0, 1, 2, 3, 4, 5, 6, 7, 8, 10, 11, 6, 5, 0, 4, 3, 1, 2, 10, 7, 5, 0, 1, 2, 3, 4, 5, 6, 7, 10, 6, 5, 0, 4, 3, 1, 2, 0, 4, 3, 1, 2, 1, 2, 3, 1, 2, 0, 4, 3, 1, 2, 5, 0, 4, 3, 1, 2, 6, 5, 0, 4, 3, 1, 2, 1, 2, 3, 1, 2, 0, 4, 3, 1, 2, 5, 0, 4, 3, 1, 2, 6, 5, 0, 4, 3, 1, 2, 6, 5, 0, 4, 3, 1, 2, 10, 7, 5, 0, 1, 2, 3, 4, 5, 6, 7, 10, 6, 5, 0, 4, 3, 1, 2, 0, 4, 3, 1, 2, 1, 2, 3, 1, 2, 0, 4, 3, 1, 2, 5, 0, 4, 3, 1, 2, 6, 5, 0, 4, 3, 1, 2]] r42_9) (.seq (.seq (.reg [39] r42_10) (.cond (.t 40) (.seq (.reg [] r42_11) .ret) .skip)) (.reg [41] r42_12)))) (.reg [27, 28] r42_8)))))) (.seq (.regd [42, 43, 44, 45, 46, 47, 48, 49] r42_13) .ret))))))
theorem ck_42 : chkF C.P 13 pc_42 50 [.t 4] 2 = true := by kernel_rfl
attribute [go_sem] r42_0 r42_1 r42_2 r42_3 r42_4 r42_5 r42_6 r42_7 r42_9 r42_10 r42_11 r42_12 r42_8 r42_13

noncomputable def f_law12_QueueScripts_k1 (a0 : Int) (a1 : List Int) (j1 : Queue) : Option (Bool) :=
 (f_law12_awake).bind fun v4 =>
 ((if v4 = true then f_law12_made a0 a1 else some (Queue.zero))).bind fun v5 =>
 ((if v4 = true then f_ref12_Same j1 v5 else some (false))).bind fun v6 =>
 some (v4 && v6)
@[go_sem] def J42_k1 (a0 : Int) (a1 : List Int) (j1 : Queue) : St := ⟨[(0, .int .i64 a0), (1, .sl (a1.map (eI .i64))), (5, .ptr 0 0 0)], [(0, ⟨false, 8, (Queue.enc Queue.zero), [Queue.enc j1]⟩)], 1⟩
noncomputable def f_law12_QueueScripts_l1 (a1 : List Int) (g1 : Int × Queue) : Option ((Int × Queue) ⊕ ((Queue) ⊕ (Bool))) :=
 (if (decide (g1.1 < (a1.length : Int))) = true then
  gd (0 ≤ g1.1 ∧ g1.1 < (a1.length : Int)) <|
  (f_law12_step g1.2 (a1.getD g1.1.toNat 0)).bind fun v7 =>
  (if (!v7.2.2) = true then
   some (.inr (.inr false))
  else
   some (.inl ((IntKind.i64.wrap (g1.1 + 1)), v7.1)))
 else
  some (.inr (.inl g1.2)))
@[go_sem] def I42_l1 (a0 : Int) (a1 : List Int) (g1 : Int × Queue) : St := ⟨[(0, .int .i64 a0), (1, .sl (a1.map (eI .i64))), (5, .ptr 0 0 0), (7, .int .i64 g1.1)], [(0, ⟨false, 8, (Queue.enc Queue.zero), [Queue.enc g1.2]⟩)], 1⟩
noncomputable def f_law12_QueueScripts (a0 : Int) (a1 : List Int) : Option (Bool) :=
 (if (!(f_mill_Light a1)) = true then
  (f_law12_awake).bind fun v1 =>
  some v1
 else
  (f_mill_Resource a0).bind fun v2 =>
  (f_queue_New v2).bind fun v3 =>
  (if (!decide (v3.2 = 0)) = true then
   some false
  else
   (loopO (f_law12_QueueScripts_l1 a1) (0, v3.1)).bind (fun | .inl z => f_law12_QueueScripts_k1 a0 a1 z | .inr z => some z)))
theorem law12_QueueScripts_ok (a0 : Int) (a1 : List Int) (r : Bool) (h : f_law12_QueueScripts a0 a1 = some r) : PFn C 13 [.int .i64 a0, .sl (a1.map (eI .i64))] (.bool r) := by
 refine pfn_intro ck_42 rfl fun E hG hN hK => ?_
 unfold pc_42
 unfold f_law12_QueueScripts at h
 refine s_seq (g_reg hG ?_)
 refine s_seq (s_seq (g_reg hG ?_))
 refine g_call (fun hg => mill_Light_ok a1) ?_
 refine g_cond rfl hG h (fun _ h => ?_) (fun _ h => ?_)
 · refine s_seq (g_reg hG ?_)
   obtain ⟨v1, hv1, h⟩ := bind_of h
   refine g_call (fun hg => law12_awake_ok  _ (hv1)) ?_
   refine g_ret ?_
   exact g_end h
 refine g_skip ?_
 refine s_seq (g_reg hG ?_)
 obtain ⟨v2, hv2, h⟩ := bind_of h
 refine g_call (fun hg => mill_Resource_ok a0 _ (hv2)) ?_
 obtain ⟨v3, hv3, h⟩ := bind_of h
 refine g_call (fun hg => queue_New_ok v2 _ (hv3)) ?_
 refine s_seq (s_seq (g_reg hG ?_))
 refine g_cond rfl hG h (fun _ h => ?_) (fun _ h => ?_)
 · refine s_seq (g_reg hG ?_)
   refine g_ret ?_
   exact g_end h
 refine g_skip ?_
 refine s_seq (s_seq (g_reg hG ?_))
 refine s_blockJ (J42_k1 a0 a1) (fun v => f_law12_QueueScripts_k1 a0 a1 v = some r) ?_ ?_
 · intro j1 h
   unfold f_law12_QueueScripts_k1 at h
   refine g_st ?_
   refine s_seq (g_regd C_mixed hG ?_)
   obtain ⟨v4, hv4, h⟩ := bind_of h
   refine g_calld (fun hg => law12_awake_ok  _ (hv4)) ?_
   obtain ⟨v5, hv5, h⟩ := bind_of h
   refine g_calld (fun hg => law12_made_ok a0 a1 _ (ite_t hg hv5)) ?_
   obtain ⟨v6, hv6, h⟩ := bind_of h
   refine g_calld (fun hg => ref12_Same_ok j1 v5 _ (ite_t hg hv6)) ?_
   refine g_ret ?_
   exact g_end h
 refine g_loop (I42_l1 a0 a1) hK [(0, 0)] h (fun x_l1 h g1 y_l1 h_l1 hx_l1 => ?_)
 unfold f_law12_QueueScripts_l1 at h_l1
 refine g_st ?_
 refine s_seq (s_seq (g_reg hG ?_))
 refine g_cond rfl hG h_l1 (fun _ h_l1 => ?_) (fun _ h_l1 => ?_)
 · refine g_skip ?_
   refine s_seq (s_block (s_seq ?_))
   obtain ⟨hb1, h_l1⟩ := gd_some h_l1
   refine g_regm C_mixed hG ?_
   obtain ⟨v7, hv7, h_l1⟩ := bind_of h_l1
   refine g_callM (fun hg => law12_step_ok g1.2 (a1.getD g1.1.toNat 0) _ (hv7)) ?_
   refine s_seq (s_seq (g_reg hG ?_))
   refine g_cond rfl hG h_l1 (fun _ h_l1 => ?_) (fun _ h_l1 => ?_)
   · refine s_seq (g_reg hG ?_)
     refine g_ret ?_
     obtain rfl := Option.some.inj h_l1
     have hx := hx_l1 _ rfl
     subst hx
     try dsimp only at h
     exact g_end h
   refine g_skip ?_
   refine g_reg hG ?_
   refine g_reg hG ?_
   exact g_next hK [(0, 0)] h_l1
 refine g_exit ?_
 obtain rfl := Option.some.inj h_l1
 have hx := hx_l1 _ rfl
 subst hx
 try dsimp only at h
 exact g_join hK [(0, 0)] g1.2 (by exact h)
attribute [local irreducible] f_law12_QueueScripts
end Ab
end Go.Proofs.YtdflfohpemfeiaaGreatDoor
