/-
  A law's own code and what it computes.
-/
import Derived.Test.YtdflfohpemfeiaaGreatDoorFn
namespace Go.Proofs.YtdflfohpemfeiaaGreatDoor
namespace Ab
set_option linter.unusedSimpArgs false
set_option linter.unusedVariables false
set_option maxRecDepth 100000
set_option maxHeartbeats 1000000

attribute [local irreducible] f_mill_Mod f_mill_Proc f_catalog_ValidName f_catalog_ValidResource f_queue_New f_ident_compare f_ident_CompareProc f_mode_Compatible f_amount_Compatible f_holders_Valid f_holders_Get f_queue_Held f_line_Find f_mode_Covers f_amount_Covers f_queue_soundConverts f_line_Valid f_queue_soundWaits f_queue_Sound f_queue_head f_holders_proper f_holders_Set f_holders_Room f_queue_Settled f_queue_Valid f_slices_Grow_api_Wait_api_Wait_m f_slices_Concat_api_Wait_api_Wait f_queue_order f_queue_Wanted f_queue_clone_m f_mode_Sup f_amount_Join f_queue_Claim_1_m f_queue_advance_m f_queue_finish_m f_line_Insert f_queue_Claim_2_m f_queue_finish_m1 f_queue_Claim f_queue_Order f_holders_Procs_m f_slices_SortFunc_api_Proc_api_Proc_m f_slices_Compact_api_Proc_api_Proc_m f_ident_SortProcs f_queue_Procs f_slices_Index_api_Proc_api_Proc f_slices_Contains_api_Proc_api_Proc f_ident_HasProc f_queue_clone f_queue_Remove_1_m f_line_Remove f_queue_Remove_2_m f_queue_Remove_3_m f_queue_finish_m2 f_queue_Remove f_law12_awake f_ref05_ValidName f_ref05_ValidResource f_ref12_New f_ref10_Amounts f_ref04_Compatible f_ref10_Valid f_ref11_Find f_ref11_Valid f_ref10_Get f_ref12_Sound f_ref12_Head f_ref10_Set f_ref10_Room f_ref12_Settled f_ref12_Valid f_ref10_SameHolds f_ref11_SameWaits f_ref12_Same f_ref12_Wanted f_ref12_Copy_m f_ref12_Held f_ref03_Sup f_ref04_Join f_ref12_Copy f_ref12_Advance f_ref12_changed f_ref11_Insert f_ref12_Claim f_law12_same f_mill_Tape_Next_m f_mill_Catalog_m f_mill_Resource f_mill_Mode f_mill_Amount f_ref11_Remove f_ref12_Cancel f_ref12_Lower f_ref12_Has f_ref12_Remove f_law12_made f_ref02_HasProc f_ref02_SameProcs f_queue_Advance f_queue_Cancel_1_m f_queue_Cancel_2_m f_queue_finish_m3 f_queue_Cancel f_queue_Lower_1_m f_queue_finish_m4 f_queue_Lower f_law12_step f_line_Ahead_m f_holders_Against f_queue_Blockers f_holders_Procs f_line_Ahead
def r3w_0 := [oB 2 8 0,oB 3 3 1,mo 4 .mv [oFa]]
def r3w_1 := [oL 17 8 2,oC 18 17 [.t 17],mo 19 .not [.t 18]]
def r3w_2 := [oC 20 18 [],oV 4 20]
def r3w_3 := [oL 22 8 2,oL 23 3 3,oC 24 48 [.t 22, .t 23],oV 21 24,oE 25 0 21,oE 26 1 21,oE 27 2 21,mo 5 (.alloc 8 (Queue.enc Queue.zero)) [],oS 8 5 25,oV 6 26,oV 7 27]
def r3w_4 := [oL 29 8 2,oL 30 3 3,oC 31 49 [.t 29, .t 30],oV 28 31,oE 32 0 28,oE 33 1 28,oE 34 2 28,mo 8 (.alloc 8 (Queue.enc Queue.zero)) [],oS 8 8 32,oV 9 33,oV 10 34]
def r3w_5 := [oL 36 8 2,oL 37 3 3,oC 38 33 [.t 36, .t 37],oV 35 38,oE 39 0 35,oE 40 1 35,oE 41 2 35,mo 11 (.alloc 8 (Queue.enc Queue.zero)) [],oS 8 11 39,oV 12 40,oV 13 41]
def r3w_6 := [oL 43 8 2,oL 44 3 3,oC 45 50 [.t 43, .t 44],oV 42 45,oE 46 0 42,oE 47 1 42,oE 48 2 42,mo 14 (.alloc 8 (Queue.enc Queue.zero)) [],oS 8 14 46,oV 15 47,oV 16 48]
def r3w_7 := [oC 49 18 [],oV 50 49,oG 51 50 true (.load 8 true) [.t 5],oG 52 50 true .mv [.t 6],oG 53 50 true .mv [.t 7],oG 54 50 true (.load 8 true) [.t 8],oG 55 50 true .mv [.t 9],oG 56 50 true .mv [.t 10],oG 57 50 true (.call 30) [.t 51, .t 52, .t 53, .t 54, .t 55, .t 56],mo 58 .pick [.t 50, .t 57, oFa],
 oV 59 58,oG 60 59 true (.load 8 true) [.t 11],oG 61 59 true .mv [.t 12],oG 62 59 true .mv [.t 13],oG 63 59 true (.load 8 true) [.t 14],oG 64 59 true .mv [.t 15],oG 65 59 true .mv [.t 16],oG 66 59 true (.call 30) [.t 60, .t 61, .t 62, .t 63, .t 64, .t 65],mo 67 .pick [.t 59, .t 66, oFa],oV 4 67]
def pc_3w : PC := (.seq (.reg [] r3w_0) (.seq (.seq (.reg [17, 18] r3w_1) (.cond (.t 19) (.seq (.reg [20] r3w_2) .ret) .skip)) (.seq (.reg [21, 22, 23, 24, 25, 26, 27] r3w_3) (.seq (.reg [28, 29, 30, 31, 32, 33, 34] r3w_4) (.seq (.reg [35, 36, 37, 38, 39, 40, 41] r3w_5) (.seq (.reg [42, 43, 44, 45, 46, 47, 48] r3w_6) (.seq (.reg [49, 50, 51, 52, 53, 54, 55, 56, 57, 58, 59, 60, 61, 62, 63, 64, 65, 66, 67] r3w_7) .ret)))))))
theorem ck_3w : chkF C.P 11 pc_3w 68 [.t 4] 2 = true := by kernel_rfl
attribute [go_sem] r3w_0 r3w_1 r3w_2 r3w_3 r3w_4 r3w_5 r3w_6 r3w_7

noncomputable def f_law12_QueueCancels (a0 : Queue) (a1 : Proc) : Option (Bool) :=
 (if (!(f_law12_small a0)) = true then
  (f_law12_awake).bind fun v1 =>
  some v1
 else
  (f_queue_Cancel a0 a1).bind fun v2 =>
  (f_ref12_Cancel a0 a1).bind fun v3 =>
  (f_queue_Remove a0 a1).bind fun v4 =>
  (f_ref12_Remove a0 a1).bind fun v5 =>
  (f_law12_awake).bind fun v6 =>
  ((if v6 = true then f_law12_same v2.1 v2.2.1 v2.2.2 v3.1 v3.2.1 v3.2.2 else some (false))).bind fun v7 =>
  ((if (v6 && v7) = true then f_law12_same v4.1 v4.2.1 v4.2.2 v5.1 v5.2.1 v5.2.2 else some (false))).bind fun v8 =>
  some ((v6 && v7) && v8))
theorem law12_QueueCancels_ok (a0 : Queue) (a1 : Proc) (r : Bool) (h : f_law12_QueueCancels a0 a1 = some r) : PFn C 11 [.agg (Queue.enc a0), .agg (Proc.enc a1)] (.bool r) := by
 refine pfn_intro ck_3w rfl fun E hG hN hK => ?_
 unfold pc_3w
 unfold f_law12_QueueCancels at h
 refine s_seq (g_reg hG ?_)
 refine s_seq (s_seq (g_reg hG ?_))
 refine g_call (fun hg => law12_small_ok a0) ?_
 refine g_cond rfl hG h (fun _ h => ?_) (fun _ h => ?_)
 · refine s_seq (g_reg hG ?_)
   obtain ⟨v1, hv1, h⟩ := bind_of h
   refine g_call (fun hg => law12_awake_ok  _ (hv1)) ?_
   refine g_ret ?_
   exact g_end h
 refine g_skip ?_
 refine s_seq (g_reg hG ?_)
 obtain ⟨v2, hv2, h⟩ := bind_of h
 refine g_call (fun hg => queue_Cancel_ok a0 a1 _ (hv2)) ?_
 refine s_seq (g_reg hG ?_)
 obtain ⟨v3, hv3, h⟩ := bind_of h
 refine g_call (fun hg => ref12_Cancel_ok a0 a1 _ (hv3)) ?_
 refine s_seq (g_reg hG ?_)
 obtain ⟨v4, hv4, h⟩ := bind_of h
 refine g_call (fun hg => queue_Remove_ok a0 a1 _ (hv4)) ?_
 refine s_seq (g_reg hG ?_)
 obtain ⟨v5, hv5, h⟩ := bind_of h
 refine g_call (fun hg => ref12_Remove_ok a0 a1 _ (hv5)) ?_
 refine s_seq (g_reg hG ?_)
 obtain ⟨v6, hv6, h⟩ := bind_of h
 refine g_call (fun hg => law12_awake_ok  _ (hv6)) ?_
 obtain ⟨v7, hv7, h⟩ := bind_of h
 refine g_call (fun hg => law12_same_ok v2.1 v2.2.1 v2.2.2 v3.1 v3.2.1 v3.2.2 _ (ite_t hg hv7)) ?_
 obtain ⟨v8, hv8, h⟩ := bind_of h
 refine g_call (fun hg => law12_same_ok v4.1 v4.2.1 v4.2.2 v5.1 v5.2.1 v5.2.2 _ (ite_t hg hv8)) ?_
 refine g_ret ?_
 exact g_end h
attribute [local irreducible] f_law12_QueueCancels
end Ab
end Go.Proofs.YtdflfohpemfeiaaGreatDoor
