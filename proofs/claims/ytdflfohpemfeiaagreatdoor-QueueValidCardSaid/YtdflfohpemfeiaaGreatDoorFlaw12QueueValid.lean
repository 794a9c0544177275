/-
  A law's own code and what it computes.
-/
import Derived.Test.YtdflfohpemfeiaaGreatDoorFn
namespace Go.Proofs.YtdflfohpemfeiaaGreatDoor
namespace Ab
set_option linter.unusedSimpArgs false
set_option linter.unusedVariables false
set_option maxRecDepth 100000
set_option maxHeartbeats 1000000

attribute [local irreducible] f_mill_Mod f_mill_Proc f_catalog_ValidName f_catalog_ValidResource f_queue_New f_ident_compare f_ident_CompareProc f_mode_Compatible f_amount_Compatible f_holders_Valid f_holders_Get f_queue_Held f_line_Find f_mode_Covers f_amount_Covers f_queue_soundConverts f_line_Valid f_queue_soundWaits f_queue_Sound f_queue_head f_holders_proper f_holders_Set f_holders_Room f_queue_Settled f_queue_Valid f_slices_Grow_api_Wait_api_Wait_m f_slices_Concat_api_Wait_api_Wait f_queue_order f_queue_Wanted f_queue_clone_m f_mode_Sup f_amount_Join f_queue_Claim_1_m f_queue_advance_m f_queue_finish_m f_line_Insert f_queue_Claim_2_m f_queue_finish_m1 f_queue_Claim f_queue_Order f_holders_Procs_m f_slices_SortFunc_api_Proc_api_Proc_m f_slices_Compact_api_Proc_api_Proc_m f_ident_SortProcs f_queue_Procs f_slices_Index_api_Proc_api_Proc f_slices_Contains_api_Proc_api_Proc f_ident_HasProc f_queue_clone f_queue_Remove_1_m f_line_Remove f_queue_Remove_2_m f_queue_Remove_3_m f_queue_finish_m2 f_queue_Remove f_law12_awake f_ref05_ValidName f_ref05_ValidResource f_ref12_New f_ref10_Amounts f_ref04_Compatible f_ref10_Valid f_ref11_Find f_ref11_Valid f_ref10_Get f_ref12_Sound f_ref12_Head f_ref10_Set f_ref10_Room f_ref12_Settled f_ref12_Valid f_ref10_SameHolds f_ref11_SameWaits f_ref12_Same f_ref12_Wanted f_ref12_Copy_m f_ref12_Held f_ref03_Sup f_ref04_Join f_ref12_Copy f_ref12_Advance f_ref12_changed f_ref11_Insert f_ref12_Claim f_law12_same f_mill_Tape_Next_m f_mill_Catalog_m f_mill_Resource f_mill_Mode f_mill_Amount f_ref11_Remove f_ref12_Cancel f_ref12_Lower f_ref12_Has f_ref12_Remove f_law12_made f_ref02_HasProc f_ref02_SameProcs f_queue_Advance f_queue_Cancel_1_m f_queue_Cancel_2_m f_queue_finish_m3 f_queue_Cancel f_queue_Lower_1_m f_queue_finish_m4 f_queue_Lower f_law12_step f_line_Ahead_m f_holders_Against f_queue_Blockers f_holders_Procs f_line_Ahead
def r2t_0 := [oB 1 8 0,mo 2 .mv [oFa]]
def r2t_1 := [oL 7 8 1,oC 8 17 [.t 7],mo 9 .not [.t 8]]
def r2t_2 := [oC 10 18 [],oV 2 10]
def r2t_3 := [oA 12 0 1,oL 13 4 12,oC 14 19 [.t 13],oV 11 14,oE 15 0 11,oE 16 1 11,mo 3 (.alloc 8 (Queue.enc Queue.zero)) [],oS 8 3 15,oV 4 16]
def r2t_4 := [oA 18 0 1,oL 19 4 18,oC 20 20 [.t 19],oV 17 20,oE 21 0 17,oE 22 1 17,mo 5 (.alloc 8 (Queue.enc Queue.zero)) [],oS 8 5 21,oV 6 22]
def r2t_5 := [oC 23 18 [],oV 24 23,oG 25 24 true (.load 8 true) [.t 1],oG 26 24 true (.call 21) [.t 25],oG 27 24 true (.load 8 true) [.t 1],oG 28 24 true (.call 22) [.t 27],oG 29 24 true (.eqb false) [.t 26, .t 28],mo 30 .pick [.t 24, .t 29, oFa],oV 31 30,oG 32 31 true (.load 8 true) [.t 1],oG 33 31 true (.call 23) [.t 32],
 oG 34 31 true (.load 8 true) [.t 1],oG 35 31 true (.call 24) [.t 34],oG 36 31 true (.eqb false) [.t 33, .t 35],mo 37 .pick [.t 31, .t 36, oFa],oV 38 37,oG 39 38 true (.load 8 true) [.t 1],oG 40 38 true (.call 25) [.t 39],oG 41 38 true (.load 8 true) [.t 1],oG 42 38 true (.call 26) [.t 41],oG 43 38 true (.eqb false) [.t 40, .t 42],
 mo 44 .pick [.t 38, .t 43, oFa],oV 45 44,oG 46 45 true .mv [.t 4],oG 47 45 true .mv [.t 6],oG 48 45 true (.bin .eql) [.t 46, .t 47],mo 49 .pick [.t 45, .t 48, oFa],oV 50 49,oG 51 50 true (.load 8 true) [.t 3],oG 52 50 true (.load 8 true) [.t 5],oG 53 50 true (.call 27) [.t 51, .t 52],mo 54 .pick [.t 50, .t 53, oFa],
 oV 2 54]
def pc_2t : PC := (.seq (.reg [] r2t_0) (.seq (.seq (.reg [7, 8] r2t_1) (.cond (.t 9) (.seq (.reg [10] r2t_2) .ret) .skip)) (.seq (.reg [11, 12, 13, 14, 15, 16] r2t_3) (.seq (.reg [17, 18, 19, 20, 21, 22] r2t_4) (.seq (.regd [23, 24, 25, 26, 27, 28, 29, 30, 31, 32, 33, 34, 35, 36, 37, 38, 39, 40, 41, 42, 43, 44, 45, 46, 47, 48, 49, 50, 51, 52, 53, 54] r2t_5) .ret)))))
theorem ck_2t : chkF C.P 3 pc_2t 55 [.t 2] 1 = true := by kernel_rfl
attribute [go_sem] r2t_0 r2t_1 r2t_2 r2t_3 r2t_4 r2t_5

noncomputable def f_law12_QueueValid (a0 : Queue) : Option (Bool) :=
 (if (!(f_law12_small a0)) = true then
  (f_law12_awake).bind fun v1 =>
  some v1
 else
  (f_queue_New a0.resource).bind fun v2 =>
  (f_ref12_New a0.resource).bind fun v3 =>
  (f_law12_awake).bind fun v4 =>
  ((if v4 = true then f_queue_Sound a0 else some (false))).bind fun v5 =>
  ((if v4 = true then f_ref12_Sound a0 else some (false))).bind fun v6 =>
  ((if (v4 && (decide (v5 = v6))) = true then f_queue_Settled a0 else some (false))).bind fun v7 =>
  ((if (v4 && (decide (v5 = v6))) = true then f_ref12_Settled a0 else some (false))).bind fun v8 =>
  ((if ((v4 && (decide (v5 = v6))) && (decide (v7 = v8))) = true then f_queue_Valid a0 else some (false))).bind fun v9 =>
  ((if ((v4 && (decide (v5 = v6))) && (decide (v7 = v8))) = true then f_ref12_Valid a0 else some (false))).bind fun v10 =>
  ((if ((((v4 && (decide (v5 = v6))) && (decide (v7 = v8))) && (decide (v9 = v10))) && (decide (v2.2 = v3.2))) = true then f_ref12_Same v2.1 v3.1 else some (false))).bind fun v11 =>
  some (((((v4 && (decide (v5 = v6))) && (decide (v7 = v8))) && (decide (v9 = v10))) && (decide (v2.2 = v3.2))) && v11))
theorem law12_QueueValid_ok (a0 : Queue) (r : Bool) (h : f_law12_QueueValid a0 = some r) : PFn C 3 [.agg (Queue.enc a0)] (.bool r) := by
 refine pfn_intro ck_2t rfl fun E hG hN hK => ?_
 unfold pc_2t
 unfold f_law12_QueueValid at h
 refine s_seq (g_reg hG ?_)
 refine s_seq (s_seq (g_reg hG ?_))
 refine g_call (fun hg => law12_small_ok a0) ?_
 refine g_cond rfl hG h (fun _ h => ?_) (fun _ h => ?_)
 · refine s_seq (g_reg hG ?_)
   obtain ⟨v1, hv1, h⟩ := bind_of h
   refine g_call (fun hg => law12_awake_ok  _ (hv1)) ?_
   refine g_ret ?_
   exact g_end h
 refine g_skip ?_
 refine s_seq (g_reg hG ?_)
 obtain ⟨v2, hv2, h⟩ := bind_of h
 refine g_call (fun hg => queue_New_ok a0.resource _ (hv2)) ?_
 refine s_seq (g_reg hG ?_)
 obtain ⟨v3, hv3, h⟩ := bind_of h
 refine g_call (fun hg => ref12_New_ok a0.resource _ (hv3)) ?_
 refine s_seq (g_regd C_mixed hG ?_)
 obtain ⟨v4, hv4, h⟩ := bind_of h
 refine g_calld (fun hg => law12_awake_ok  _ (hv4)) ?_
 obtain ⟨v5, hv5, h⟩ := bind_of h
 refine g_calld (fun hg => queue_Sound_ok a0 _ (ite_t hg hv5)) ?_
 obtain ⟨v6, hv6, h⟩ := bind_of h
 refine g_calld (fun hg => ref12_Sound_ok a0 _ (ite_t hg hv6)) ?_
 obtain ⟨v7, hv7, h⟩ := bind_of h
 refine g_calld (fun hg => queue_Settled_ok a0 _ (ite_t hg hv7)) ?_
 obtain ⟨v8, hv8, h⟩ := bind_of h
 refine g_calld (fun hg => ref12_Settled_ok a0 _ (ite_t hg hv8)) ?_
 obtain ⟨v9, hv9, h⟩ := bind_of h
 refine g_calld (fun hg => queue_Valid_ok a0 _ (ite_t hg hv9)) ?_
 obtain ⟨v10, hv10, h⟩ := bind_of h
 refine g_calld (fun hg => ref12_Valid_ok a0 _ (ite_t hg hv10)) ?_
 obtain ⟨v11, hv11, h⟩ := bind_of h
 refine g_calld (fun hg => ref12_Same_ok v2.1 v3.1 _ (ite_t hg hv11)) ?_
 refine g_ret ?_
 exact g_end h
attribute [local irreducible] f_law12_QueueValid
end Ab
end Go.Proofs.YtdflfohpemfeiaaGreatDoor
