/-
  A law's own code and what it computes.
-/
import Derived.Test.YtdflfohpemfeiaaGreatDoorFn
namespace Go.Proofs.YtdflfohpemfeiaaGreatDoor
namespace Ab
set_option linter.unusedSimpArgs false
set_option linter.unusedVariables false
set_option maxRecDepth 100000
set_option maxHeartbeats 1000000

attribute [local irreducible] f_mill_Mod f_mill_Proc f_catalog_ValidName f_catalog_ValidResource f_queue_New f_ident_compare f_ident_CompareProc f_mode_Compatible f_amount_Compatible f_holders_Valid f_holders_Get f_queue_Held f_line_Find f_mode_Covers f_amount_Covers f_queue_soundConverts f_line_Valid f_queue_soundWaits f_queue_Sound f_queue_head f_holders_proper f_holders_Set f_holders_Room f_queue_Settled f_queue_Valid f_slices_Grow_api_Wait_api_Wait_m f_slices_Concat_api_Wait_api_Wait f_queue_order f_queue_Wanted f_queue_clone_m f_mode_Sup f_amount_Join f_queue_Claim_1_m f_queue_advance_m f_queue_finish_m f_line_Insert f_queue_Claim_2_m f_queue_finish_m1 f_queue_Claim f_queue_Order f_holders_Procs_m f_slices_SortFunc_api_Proc_api_Proc_m f_slices_Compact_api_Proc_api_Proc_m f_ident_SortProcs f_queue_Procs f_slices_Index_api_Proc_api_Proc f_slices_Contains_api_Proc_api_Proc f_ident_HasProc f_queue_clone f_queue_Remove_1_m f_line_Remove f_queue_Remove_2_m f_queue_Remove_3_m f_queue_finish_m2 f_queue_Remove f_law12_awake f_ref05_ValidName f_ref05_ValidResource f_ref12_New f_ref10_Amounts f_ref04_Compatible f_ref10_Valid f_ref11_Find f_ref11_Valid f_ref10_Get f_ref12_Sound f_ref12_Head f_ref10_Set f_ref10_Room f_ref12_Settled f_ref12_Valid f_ref10_SameHolds f_ref11_SameWaits f_ref12_Same f_ref12_Wanted f_ref12_Copy_m f_ref12_Held f_ref03_Sup f_ref04_Join f_ref12_Copy f_ref12_Advance f_ref12_changed f_ref11_Insert f_ref12_Claim f_law12_same f_mill_Tape_Next_m f_mill_Catalog_m f_mill_Resource f_mill_Mode f_mill_Amount f_ref11_Remove f_ref12_Cancel f_ref12_Lower f_ref12_Has f_ref12_Remove f_law12_made f_ref02_HasProc f_ref02_SameProcs f_queue_Advance f_queue_Cancel_1_m f_queue_Cancel_2_m f_queue_finish_m3 f_queue_Cancel f_queue_Lower_1_m f_queue_finish_m4 f_queue_Lower f_law12_step f_line_Ahead_m f_holders_Against f_queue_Blockers f_holders_Procs f_line_Ahead
def r40_0 := [oB 3 8 0,oB 4 3 1,oB 5 2 2,mo 6 .mv [oFa]]
def r40_1 := [oL 13 8 3,oC 14 17 [.t 13],mo 15 .not [.t 14]]
def r40_2 := [oC 16 18 [],oV 6 16]
def r40_3 := [oL 18 8 3,oL 19 3 4,oL 20 2 5,oC 21 51 [.t 18, .t 19, .t 20],oV 17 21,oE 22 0 17,oE 23 1 17,oE 24 2 17,mo 7 (.alloc 8 (Queue.enc Queue.zero)) [],oS 8 7 22,oV 8 23,oV 9 24]
def r40_4 := [oL 26 8 3,oL 27 3 4,oL 28 2 5,oC 29 52 [.t 26, .t 27, .t 28],oV 25 29,oE 30 0 25,oE 31 1 25,oE 32 2 25,mo 10 (.alloc 8 (Queue.enc Queue.zero)) [],oS 8 10 30,oV 11 31,oV 12 32]
def r40_5 := [oC 33 18 [],oV 34 33,oG 35 34 true (.load 8 true) [.t 7],oG 36 34 true .mv [.t 8],oG 37 34 true .mv [.t 9],oG 38 34 true (.load 8 true) [.t 10],oG 39 34 true .mv [.t 11],oG 40 34 true .mv [.t 12],oG 41 34 true (.call 30) [.t 35, .t 36, .t 37, .t 38, .t 39, .t 40],mo 42 .pick [.t 34, .t 41, oFa],
 oV 6 42]
def pc_40 : PC := (.seq (.reg [] r40_0) (.seq (.seq (.reg [13, 14] r40_1) (.cond (.t 15) (.seq (.reg [16] r40_2) .ret) .skip)) (.seq (.reg [17, 18, 19, 20, 21, 22, 23, 24] r40_3) (.seq (.reg [25, 26, 27, 28, 29, 30, 31, 32] r40_4) (.seq (.reg [33, 34, 35, 36, 37, 38, 39, 40, 41, 42] r40_5) .ret)))))
theorem ck_40 : chkF C.P 12 pc_40 43 [.t 6] 3 = true := by kernel_rfl
attribute [go_sem] r40_0 r40_1 r40_2 r40_3 r40_4 r40_5

noncomputable def f_law12_QueueLowers (a0 : Queue) (a1 : Proc) (a2 : Amount) : Option (Bool) :=
 (if (!(f_law12_small a0)) = true then
  (f_law12_awake).bind fun v1 =>
  some v1
 else
  (f_queue_Lower a0 a1 a2).bind fun v2 =>
  (f_ref12_Lower a0 a1 a2).bind fun v3 =>
  (f_law12_awake).bind fun v4 =>
  ((if v4 = true then f_law12_same v2.1 v2.2.1 v2.2.2 v3.1 v3.2.1 v3.2.2 else some (false))).bind fun v5 =>
  some (v4 && v5))
theorem law12_QueueLowers_ok (a0 : Queue) (a1 : Proc) (a2 : Amount) (r : Bool) (h : f_law12_QueueLowers a0 a1 a2 = some r) : PFn C 12 [.agg (Queue.enc a0), .agg (Proc.enc a1), .agg (Amount.enc a2)] (.bool r) := by
 refine pfn_intro ck_40 rfl fun E hG hN hK => ?_
 unfold pc_40
 unfold f_law12_QueueLowers at h
 refine s_seq (g_reg hG ?_)
 refine s_seq (s_seq (g_reg hG ?_))
 refine g_call (fun hg => law12_small_ok a0) ?_
 refine g_cond rfl hG h (fun _ h => ?_) (fun _ h => ?_)
 · refine s_seq (g_reg hG ?_)
   obtain ⟨v1, hv1, h⟩ := bind_of h
   refine g_call (fun hg => law12_awake_ok  _ (hv1)) ?_
   refine g_ret ?_
   exact g_end h
 refine g_skip ?_
 refine s_seq (g_reg hG ?_)
 obtain ⟨v2, hv2, h⟩ := bind_of h
 refine g_call (fun hg => queue_Lower_ok a0 a1 a2 _ (hv2)) ?_
 refine s_seq (g_reg hG ?_)
 obtain ⟨v3, hv3, h⟩ := bind_of h
 refine g_call (fun hg => ref12_Lower_ok a0 a1 a2 _ (hv3)) ?_
 refine s_seq (g_reg hG ?_)
 obtain ⟨v4, hv4, h⟩ := bind_of h
 refine g_call (fun hg => law12_awake_ok  _ (hv4)) ?_
 obtain ⟨v5, hv5, h⟩ := bind_of h
 refine g_call (fun hg => law12_same_ok v2.1 v2.2.1 v2.2.2 v3.1 v3.2.1 v3.2.2 _ (ite_t hg hv5)) ?_
 refine g_ret ?_
 exact g_end h
attribute [local irreducible] f_law12_QueueLowers
end Ab
end Go.Proofs.YtdflfohpemfeiaaGreatDoor
