/-
  A law's own code and what it computes.
-/
import Derived.Test.YtdflfohpemfeiaaGreatDoorFn
namespace Go.Proofs.YtdflfohpemfeiaaGreatDoor
namespace Ab
set_option linter.unusedSimpArgs false
set_option linter.unusedVariables false
set_option maxRecDepth 100000
set_option maxHeartbeats 1000000

attribute [local irreducible] f_mill_Mod f_mill_Proc f_catalog_ValidName f_catalog_ValidResource f_queue_New f_ident_compare f_ident_CompareProc f_mode_Compatible f_amount_Compatible f_holders_Valid f_holders_Get f_queue_Held f_line_Find f_mode_Covers f_amount_Covers f_queue_soundConverts f_line_Valid f_queue_soundWaits f_queue_Sound f_queue_head f_holders_proper f_holders_Set f_holders_Room f_queue_Settled f_queue_Valid f_slices_Grow_api_Wait_api_Wait_m f_slices_Concat_api_Wait_api_Wait f_queue_order f_queue_Wanted f_queue_clone_m f_mode_Sup f_amount_Join f_queue_Claim_1_m f_queue_advance_m f_queue_finish_m f_line_Insert f_queue_Claim_2_m f_queue_finish_m1 f_queue_Claim f_queue_Order f_holders_Procs_m f_slices_SortFunc_api_Proc_api_Proc_m f_slices_Compact_api_Proc_api_Proc_m f_ident_SortProcs f_queue_Procs f_slices_Index_api_Proc_api_Proc f_slices_Contains_api_Proc_api_Proc f_ident_HasProc f_queue_clone f_queue_Remove_1_m f_line_Remove f_queue_Remove_2_m f_queue_Remove_3_m f_queue_finish_m2 f_queue_Remove f_law12_awake f_ref05_ValidName f_ref05_ValidResource f_ref12_New f_ref10_Amounts f_ref04_Compatible f_ref10_Valid f_ref11_Find f_ref11_Valid f_ref10_Get f_ref12_Sound f_ref12_Head f_ref10_Set f_ref10_Room f_ref12_Settled f_ref12_Valid f_ref10_SameHolds f_ref11_SameWaits f_ref12_Same f_ref12_Wanted f_ref12_Copy_m f_ref12_Held f_ref03_Sup f_ref04_Join f_ref12_Copy f_ref12_Advance f_ref12_changed f_ref11_Insert f_ref12_Claim f_law12_same f_mill_Tape_Next_m f_mill_Catalog_m f_mill_Resource f_mill_Mode f_mill_Amount f_ref11_Remove f_ref12_Cancel f_ref12_Lower f_ref12_Has f_ref12_Remove f_law12_made f_ref02_HasProc f_ref02_SameProcs f_queue_Advance f_queue_Cancel_1_m f_queue_Cancel_2_m f_queue_finish_m3 f_queue_Cancel f_queue_Lower_1_m f_queue_finish_m4 f_queue_Lower f_law12_step f_line_Ahead_m f_holders_Against f_queue_Blockers f_holders_Procs f_line_Ahead
def r3r_0 := [oB 1 8 0,mo 2 .mv [oFa]]
def r3r_1 := [oL 7 8 1,oC 8 17 [.t 7],mo 9 .not [.t 8]]
def r3r_2 := [oC 10 18 [],oV 2 10]
def r3r_3 := [oL 12 8 1,oC 13 45 [.t 12],oV 11 13,oE 14 0 11,oE 15 1 11,mo 3 (.alloc 8 (Queue.enc Queue.zero)) [],oS 8 3 14,oV 4 15]
def r3r_4 := [oL 17 8 1,oC 18 46 [.t 17],oV 16 18,oE 19 0 16,oE 20 1 16,mo 5 (.alloc 8 (Queue.enc Queue.zero)) [],oS 8 5 19,oV 6 20]
def r3r_5 := [oC 21 18 [],oV 22 21,oG 23 22 true (.load 8 true) [.t 3],oG 24 22 true (.load 8 true) [.t 5],oG 25 22 true (.call 27) [.t 23, .t 24],mo 26 .pick [.t 22, .t 25, oFa],oV 27 26,oG 28 27 true .mv [.t 4],oG 29 27 true .mv [.t 6],oG 30 27 true (.call 47) [.t 28, .t 29],mo 31 .pick [.t 27, .t 30, oFa],
 oV 32 31,oG 33 32 true (.load 8 true) [.t 3],oG 34 32 true (.call 25) [.t 33],oG 35 32 true (.load 8 true) [.t 1],oG 36 32 true (.call 22) [.t 35],oG 37 32 true (.eqb false) [.t 34, .t 36],mo 38 .pick [.t 32, .t 37, oFa],oV 2 38]
def pc_3r : PC := (.seq (.reg [] r3r_0) (.seq (.seq (.reg [7, 8] r3r_1) (.cond (.t 9) (.seq (.reg [10] r3r_2) .ret) .skip)) (.seq (.reg [11, 12, 13, 14, 15] r3r_3) (.seq (.reg [16, 17, 18, 19, 20] r3r_4) (.seq (.regd [21, 22, 23, 24, 25, 26, 27, 28, 29, 30, 31, 32, 33, 34, 35, 36, 37, 38] r3r_5) .ret)))))
theorem ck_3r : chkF C.P 10 pc_3r 39 [.t 2] 1 = true := by kernel_rfl
attribute [go_sem] r3r_0 r3r_1 r3r_2 r3r_3 r3r_4 r3r_5

noncomputable def f_law12_QueueAdvances (a0 : Queue) : Option (Bool) :=
 (if (!(f_law12_small a0)) = true then
  (f_law12_awake).bind fun v1 =>
  some v1
 else
  (f_queue_Advance a0).bind fun v2 =>
  (f_ref12_Advance a0).bind fun v3 =>
  (f_law12_awake).bind fun v4 =>
  ((if v4 = true then f_ref12_Same v2.1 v3.1 else some (false))).bind fun v5 =>
  ((if (v4 && v5) = true then f_ref10_SameHolds v2.2 v3.2 else some (false))).bind fun v6 =>
  ((if ((v4 && v5) && v6) = true then f_queue_Valid v2.1 else some (false))).bind fun v7 =>
  ((if ((v4 && v5) && v6) = true then f_ref12_Sound a0 else some (false))).bind fun v8 =>
  some (((v4 && v5) && v6) && (decide (v7 = v8))))
theorem law12_QueueAdvances_ok (a0 : Queue) (r : Bool) (h : f_law12_QueueAdvances a0 = some r) : PFn C 10 [.agg (Queue.enc a0)] (.bool r) := by
 refine pfn_intro ck_3r rfl fun E hG hN hK => ?_
 unfold pc_3r
 unfold f_law12_QueueAdvances at h
 refine s_seq (g_reg hG ?_)
 refine s_seq (s_seq (g_reg hG ?_))
 refine g_call (fun hg => law12_small_ok a0) ?_
 refine g_cond rfl hG h (fun _ h => ?_) (fun _ h => ?_)
 · refine s_seq (g_reg hG ?_)
   obtain ⟨v1, hv1, h⟩ := bind_of h
   refine g_call (fun hg => law12_awake_ok  _ (hv1)) ?_
   refine g_ret ?_
   exact g_end h
 refine g_skip ?_
 refine s_seq (g_reg hG ?_)
 obtain ⟨v2, hv2, h⟩ := bind_of h
 refine g_call (fun hg => queue_Advance_ok a0 _ (hv2)) ?_
 refine s_seq (g_reg hG ?_)
 obtain ⟨v3, hv3, h⟩ := bind_of h
 refine g_call (fun hg => ref12_Advance_ok a0 _ (hv3)) ?_
 refine s_seq (g_regd C_mixed hG ?_)
 obtain ⟨v4, hv4, h⟩ := bind_of h
 refine g_calld (fun hg => law12_awake_ok  _ (hv4)) ?_
 obtain ⟨v5, hv5, h⟩ := bind_of h
 refine g_calld (fun hg => ref12_Same_ok v2.1 v3.1 _ (ite_t hg hv5)) ?_
 obtain ⟨v6, hv6, h⟩ := bind_of h
 refine g_calld (fun hg => ref10_SameHolds_ok v2.2 v3.2 _ (ite_t hg hv6)) ?_
 obtain ⟨v7, hv7, h⟩ := bind_of h
 refine g_calld (fun hg => queue_Valid_ok v2.1 _ (ite_t hg hv7)) ?_
 obtain ⟨v8, hv8, h⟩ := bind_of h
 refine g_calld (fun hg => ref12_Sound_ok a0 _ (ite_t hg hv8)) ?_
 refine g_ret ?_
 exact g_end h
attribute [local irreducible] f_law12_QueueAdvances
end Ab
end Go.Proofs.YtdflfohpemfeiaaGreatDoor
