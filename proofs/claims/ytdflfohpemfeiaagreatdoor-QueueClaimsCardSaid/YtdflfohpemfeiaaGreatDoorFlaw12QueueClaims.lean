/-
  A law's own code and what it computes.
-/
import Derived.Test.YtdflfohpemfeiaaGreatDoorFn
namespace Go.Proofs.YtdflfohpemfeiaaGreatDoor
namespace Ab
set_option linter.unusedSimpArgs false
set_option linter.unusedVariables false
set_option maxRecDepth 100000
set_option maxHeartbeats 1000000

attribute [local irreducible] f_mill_Mod f_mill_Proc f_catalog_ValidName f_catalog_ValidResource f_queue_New f_ident_compare f_ident_CompareProc f_mode_Compatible f_amount_Compatible f_holders_Valid f_holders_Get f_queue_Held f_line_Find f_mode_Covers f_amount_Covers f_queue_soundConverts f_line_Valid f_queue_soundWaits f_queue_Sound f_queue_head f_holders_proper f_holders_Set f_holders_Room f_queue_Settled f_queue_Valid f_slices_Grow_api_Wait_api_Wait_m f_slices_Concat_api_Wait_api_Wait f_queue_order f_queue_Wanted f_queue_clone_m f_mode_Sup f_amount_Join f_queue_Claim_1_m f_queue_advance_m f_queue_finish_m f_line_Insert f_queue_Claim_2_m f_queue_finish_m1 f_queue_Claim f_queue_Order f_holders_Procs_m f_slices_SortFunc_api_Proc_api_Proc_m f_slices_Compact_api_Proc_api_Proc_m f_ident_SortProcs f_queue_Procs f_slices_Index_api_Proc_api_Proc f_slices_Contains_api_Proc_api_Proc f_ident_HasProc f_queue_clone f_queue_Remove_1_m f_line_Remove f_queue_Remove_2_m f_queue_Remove_3_m f_queue_finish_m2 f_queue_Remove f_law12_awake f_ref05_ValidName f_ref05_ValidResource f_ref12_New f_ref10_Amounts f_ref04_Compatible f_ref10_Valid f_ref11_Find f_ref11_Valid f_ref10_Get f_ref12_Sound f_ref12_Head f_ref10_Set f_ref10_Room f_ref12_Settled f_ref12_Valid f_ref10_SameHolds f_ref11_SameWaits f_ref12_Same f_ref12_Wanted f_ref12_Copy_m f_ref12_Held f_ref03_Sup f_ref04_Join f_ref12_Copy f_ref12_Advance f_ref12_changed f_ref11_Insert f_ref12_Claim f_law12_same f_mill_Tape_Next_m f_mill_Catalog_m f_mill_Resource f_mill_Mode f_mill_Amount f_ref11_Remove f_ref12_Cancel f_ref12_Lower f_ref12_Has f_ref12_Remove f_law12_made f_ref02_HasProc f_ref02_SameProcs f_queue_Advance f_queue_Cancel_1_m f_queue_Cancel_2_m f_queue_finish_m3 f_queue_Cancel f_queue_Lower_1_m f_queue_finish_m4 f_queue_Lower f_law12_step f_line_Ahead_m f_holders_Against f_queue_Blockers f_holders_Procs f_line_Ahead
def r36_0 := [oB 4 8 0,oB 5 3 1,oB 6 2 2,mo 8 .mv [oFa]]
def r36_1 := [oL 15 8 4,oC 16 17 [.t 15],mo 17 .not [.t 16]]
def r36_2 := [oC 18 18 [],oV 8 18]
def r36_3 := [oL 20 8 4,oL 21 3 5,oL 22 2 6,oV 23 3,oC 24 28 [.t 20, .t 21, .t 22, .t 23],oV 19 24,oE 25 0 19,oE 26 1 19,oE 27 2 19,mo 9 (.alloc 8 (Queue.enc Queue.zero)) [],oS 8 9 25,oV 10 26,oV 11 27]
def r36_4 := [oL 29 8 4,oL 30 3 5,oL 31 2 6,oV 32 3,oC 33 29 [.t 29, .t 30, .t 31, .t 32],oV 28 33,oE 34 0 28,oE 35 1 28,oE 36 2 28,mo 12 (.alloc 8 (Queue.enc Queue.zero)) [],oS 8 12 34,oV 13 35,oV 14 36]
def r36_5 := [oC 37 18 [],oV 38 37,oG 39 38 true (.load 8 true) [.t 9],oG 40 38 true .mv [.t 10],oG 41 38 true .mv [.t 11],oG 42 38 true (.load 8 true) [.t 12],oG 43 38 true .mv [.t 13],oG 44 38 true .mv [.t 14],oG 45 38 true (.call 30) [.t 39, .t 40, .t 41, .t 42, .t 43, .t 44],mo 46 .pick [.t 38, .t 45, oFa],
 oV 8 46]
def pc_36 : PC := (.seq (.reg [] r36_0) (.seq (.seq (.reg [15, 16] r36_1) (.cond (.t 17) (.seq (.reg [18] r36_2) .ret) .skip)) (.seq (.reg [19, 20, 21, 22, 23, 24, 25, 26, 27] r36_3) (.seq (.reg [28, 29, 30, 31, 32, 33, 34, 35, 36] r36_4) (.seq (.reg [37, 38, 39, 40, 41, 42, 43, 44, 45, 46] r36_5) .ret)))))
theorem ck_36 : chkF C.P 4 pc_36 47 [.t 8] 4 = true := by kernel_rfl
attribute [go_sem] r36_0 r36_1 r36_2 r36_3 r36_4 r36_5

noncomputable def f_law12_QueueClaims (a0 : Queue) (a1 : Proc) (a2 : Amount) (a3 : Int) : Option (Bool) :=
 (if (!(f_law12_small a0)) = true then
  (f_law12_awake).bind fun v1 =>
  some v1
 else
  (f_queue_Claim a0 a1 a2 a3).bind fun v2 =>
  (f_ref12_Claim a0 a1 a2 a3).bind fun v3 =>
  (f_law12_awake).bind fun v4 =>
  ((if v4 = true then f_law12_same v2.1 v2.2.1 v2.2.2 v3.1 v3.2.1 v3.2.2 else some (false))).bind fun v5 =>
  some (v4 && v5))
theorem law12_QueueClaims_ok (a0 : Queue) (a1 : Proc) (a2 : Amount) (a3 : Int) (r : Bool) (h : f_law12_QueueClaims a0 a1 a2 a3 = some r) : PFn C 4 [.agg (Queue.enc a0), .agg (Proc.enc a1), .agg (Amount.enc a2), .int .i64 a3] (.bool r) := by
 refine pfn_intro ck_36 rfl fun E hG hN hK => ?_
 unfold pc_36
 unfold f_law12_QueueClaims at h
 refine s_seq (g_reg hG ?_)
 refine s_seq (s_seq (g_reg hG ?_))
 refine g_call (fun hg => law12_small_ok a0) ?_
 refine g_cond rfl hG h (fun _ h => ?_) (fun _ h => ?_)
 · refine s_seq (g_reg hG ?_)
   obtain ⟨v1, hv1, h⟩ := bind_of h
   refine g_call (fun hg => law12_awake_ok  _ (hv1)) ?_
   refine g_ret ?_
   exact g_end h
 refine g_skip ?_
 refine s_seq (g_reg hG ?_)
 obtain ⟨v2, hv2, h⟩ := bind_of h
 refine g_call (fun hg => queue_Claim_ok a0 a1 a2 a3 _ (hv2)) ?_
 refine s_seq (g_reg hG ?_)
 obtain ⟨v3, hv3, h⟩ := bind_of h
 refine g_call (fun hg => ref12_Claim_ok a0 a1 a2 a3 _ (hv3)) ?_
 refine s_seq (g_reg hG ?_)
 obtain ⟨v4, hv4, h⟩ := bind_of h
 refine g_call (fun hg => law12_awake_ok  _ (hv4)) ?_
 obtain ⟨v5, hv5, h⟩ := bind_of h
 refine g_call (fun hg => law12_same_ok v2.1 v2.2.1 v2.2.2 v3.1 v3.2.1 v3.2.2 _ (ite_t hg hv5)) ?_
 refine g_ret ?_
 exact g_end h
attribute [local irreducible] f_law12_QueueClaims
end Ab
end Go.Proofs.YtdflfohpemfeiaaGreatDoor
