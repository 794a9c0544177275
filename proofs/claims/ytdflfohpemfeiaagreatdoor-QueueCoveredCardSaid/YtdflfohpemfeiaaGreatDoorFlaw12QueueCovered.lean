/-
  A law's own code and what it computes.
-/
import Derived.Test.YtdflfohpemfeiaaGreatDoorFn
namespace Go.Proofs.YtdflfohpemfeiaaGreatDoor
namespace Ab
set_option linter.unusedSimpArgs false
set_option linter.unusedVariables false
set_option maxRecDepth 100000
set_option maxHeartbeats 1000000

attribute [local irreducible] f_mill_Mod f_mill_Proc f_catalog_ValidName f_catalog_ValidResource f_queue_New f_ident_compare f_ident_CompareProc f_mode_Compatible f_amount_Compatible f_holders_Valid f_holders_Get f_queue_Held f_line_Find f_mode_Covers f_amount_Covers f_queue_soundConverts f_line_Valid f_queue_soundWaits f_queue_Sound f_queue_head f_holders_proper f_holders_Set f_holders_Room f_queue_Settled f_queue_Valid f_slices_Grow_api_Wait_api_Wait_m f_slices_Concat_api_Wait_api_Wait f_queue_order f_queue_Wanted f_queue_clone_m f_mode_Sup f_amount_Join f_queue_Claim_1_m f_queue_advance_m f_queue_finish_m f_line_Insert f_queue_Claim_2_m f_queue_finish_m1 f_queue_Claim f_queue_Order f_holders_Procs_m f_slices_SortFunc_api_Proc_api_Proc_m f_slices_Compact_api_Proc_api_Proc_m f_ident_SortProcs f_queue_Procs f_slices_Index_api_Proc_api_Proc f_slices_Contains_api_Proc_api_Proc f_ident_HasProc f_queue_clone f_queue_Remove_1_m f_line_Remove f_queue_Remove_2_m f_queue_Remove_3_m f_queue_finish_m2 f_queue_Remove f_law12_awake f_ref05_ValidName f_ref05_ValidResource f_ref12_New f_ref10_Amounts f_ref04_Compatible f_ref10_Valid f_ref11_Find f_ref11_Valid f_ref10_Get f_ref12_Sound f_ref12_Head f_ref10_Set f_ref10_Room f_ref12_Settled f_ref12_Valid f_ref10_SameHolds f_ref11_SameWaits f_ref12_Same f_ref12_Wanted f_ref12_Copy_m f_ref12_Held f_ref03_Sup f_ref04_Join f_ref12_Copy f_ref12_Advance f_ref12_changed f_ref11_Insert f_ref12_Claim f_law12_same f_mill_Tape_Next_m f_mill_Catalog_m f_mill_Resource f_mill_Mode f_mill_Amount f_ref11_Remove f_ref12_Cancel f_ref12_Lower f_ref12_Has f_ref12_Remove f_law12_made f_ref02_HasProc f_ref02_SameProcs f_queue_Advance f_queue_Cancel_1_m f_queue_Cancel_2_m f_queue_finish_m3 f_queue_Cancel f_queue_Lower_1_m f_queue_finish_m4 f_queue_Lower f_law12_step f_line_Ahead_m f_holders_Against f_queue_Blockers f_holders_Procs f_line_Ahead
def r3o_0 := [mo 8 .mv [oFa]]
def r3o_1 := [oV 17 1,oC 18 31 [.t 17],mo 19 .not [.t 18]]
def r3o_2 := [oC 20 18 [],oV 8 20]
def r3o_3 := [oV 21 0,oV 22 1,oC 23 32 [.t 21, .t 22],mo 9 (.alloc 8 (Queue.enc Queue.zero)) [],oS 8 9 23]
def r3o_4 := [oV 24 2,oC 25 34 [.t 24],oA 26 0 9,oL 27 4 26,oV 28 3,oC 29 38 [.t 27, .t 28],mo 10 (.alloc 3 (Proc.enc Proc.zero)) [],mo 11 (.alloc 2 (Amount.enc Amount.zero)) [],oS 3 10 25,oS 2 11 29]
def r3o_5 := [oL 31 8 9,oL 32 3 10,oC 33 40 [.t 31, .t 32],oV 30 33,oE 34 0 30,oE 35 1 30,mo 12 (.alloc 2 (Amount.enc Amount.zero)) [],oS 2 12 34,oV 13 35]
def r3o_6 := [oV 36 13,oV 37 36,oG 38 37 false (.faddr 0) [.t 9],oG 39 37 false (.load 4 true) [.t 38],oG 40 37 false (.load 8 true) [.t 9],oG 41 37 false (.load 3 true) [.t 10],oG 42 37 false (.call 43) [.t 40, .t 41],oG 43 37 false (.load 2 true) [.t 11],oG 44 37 false (.call 36) [.t 39, .t 42, .t 43],
 oG 45 37 false .not [.t 44],mo 46 .pick [.t 37, oTr, .t 45]]
def r3o_7 := [oC 47 18 [],oV 8 47]
def r3o_8 := [oL 49 8 9,oL 50 3 10,oL 51 2 11,oC 52 28 [.t 49, .t 50, .t 51, oK 0],oV 48 52,oE 53 0 48,oE 54 1 48,oE 55 2 48,mo 14 (.alloc 8 (Queue.enc Queue.zero)) [],oS 8 14 53,oV 15 54,oV 16 55]
def r3o_9 := [oC 56 18 [],oV 57 56,oG 58 57 true .mv [.t 16],oG 59 57 true (.bin .eql) [.t 58, oK 0],mo 60 .pick [.t 57, .t 59, oFa],oV 61 60,oG 62 61 true .mv [.t 15],oG 63 61 true .len [.t 62],oG 64 61 true (.bin .eql) [.t 63, oK 0],mo 65 .pick [.t 61, .t 64, oFa],oV 66 65,oG 67 66 true (.load 8 true) [.t 14],
 oG 68 66 true (.load 8 true) [.t 9],oG 69 66 true (.call 27) [.t 67, .t 68],mo 70 .pick [.t 66, .t 69, oFa],oV 8 70]
def pc_3o : PC := (.seq (.reg [] r3o_0) (.seq (.seq (.reg [17, 18] r3o_1) (.cond (.t 19) (.seq (.reg [20] r3o_2) .ret) .skip)) (.seq (.reg [21, 22, 23] r3o_3) (.seq (.regm [24, 25, 26, 27, 28, 29] [[], [0], [], [2], [], [3, 4, 1, 2, 0], [], [], [6, 1, 5, 0, 1, 6, 7, 0, 3, 4, 1, 2, 0, 0], [7, 5, 8, 0, 1, 2, 3, 4, 5, 6, 7, 8, 3, 4, 1, 2, 0, 6, 1, 5, 0, 1, 6, 7, 0, 3, 4, 1, 2, 0, 0, 0, 2, 3, 4, 1, 2, 0, 6, 1, 5, 0, 1, 6, 7, 0, 3, 4, 1, 2, 0, 0]] r3o_4) (.seq (.seq (.reg [12, 30, 31, 32, 33, 34, 35] r3o_5) (.seq (.regd [36, 37, 38, 39, 40, 41, 42, 43, 44, 45] r3o_6) (.cond (.t 46) (.seq (.reg [47] r3o_7) .ret) .skip))) (.seq (.reg [48, 49, 50, 51, 52, 53, 54, 55] r3o_8) (.seq (.reg [56, 57, 58, 59, 60, 61, 62, 63, 64, 65, 66, 67, 68, 69, 70] r3o_9) .ret)))))))
theorem ck_3o : chkF C.P 8 pc_3o 71 [.t 8] 4 = true := by kernel_rfl
attribute [go_sem] r3o_0 r3o_1 r3o_2 r3o_3 r3o_4 r3o_5 r3o_6 r3o_7 r3o_8 r3o_9

noncomputable def f_law12_QueueCovered (a0 : Int) (a1 : List Int) (a2 : Int) (a3 : Int) : Option (Bool) :=
 (if (!(f_mill_Light a1)) = true then
  (f_law12_awake).bind fun v1 =>
  some v1
 else
  (f_law12_made a0 a1).bind fun v2 =>
  (f_mill_Proc a2).bind fun v3 =>
  (f_mill_Amount v2.resource a3).bind fun v4 =>
  (f_ref12_Wanted v2 v3).bind fun v5 =>
  ((if (!v5.2) = true then f_ref12_Held v2 v3 else some (Amount.zero))).bind fun v6 =>
  (if (v5.2 || (!(f_ref04_Covers v2.resource v6 v4))) = true then
   (f_law12_awake).bind fun v7 =>
   some v7
  else
   (f_queue_Claim v2 v3 v4 0).bind fun v8 =>
   (f_law12_awake).bind fun v9 =>
   ((if ((v9 && (decide (v8.2.2 = 0))) && (decide ((v8.2.1.length : Int) = 0))) = true then f_ref12_Same v8.1 v2 else some (false))).bind fun v10 =>
   some (((v9 && (decide (v8.2.2 = 0))) && (decide ((v8.2.1.length : Int) = 0))) && v10)))
theorem law12_QueueCovered_ok (a0 : Int) (a1 : List Int) (a2 : Int) (a3 : Int) (r : Bool) (h : f_law12_QueueCovered a0 a1 a2 a3 = some r) : PFn C 8 [.int .i64 a0, .sl (a1.map (eI .i64)), .int .i64 a2, .int .i64 a3] (.bool r) := by
 refine pfn_intro ck_3o rfl fun E hG hN hK => ?_
 unfold pc_3o
 unfold f_law12_QueueCovered at h
 refine s_seq (g_reg hG ?_)
 refine s_seq (s_seq (g_reg hG ?_))
 refine g_call (fun hg => mill_Light_ok a1) ?_
 refine g_cond rfl hG h (fun _ h => ?_) (fun _ h => ?_)
 · refine s_seq (g_reg hG ?_)
   obtain ⟨v1, hv1, h⟩ := bind_of h
   refine g_call (fun hg => law12_awake_ok  _ (hv1)) ?_
   refine g_ret ?_
   exact g_end h
 refine g_skip ?_
 refine s_seq (g_reg hG ?_)
 obtain ⟨v2, hv2, h⟩ := bind_of h
 refine g_call (fun hg => law12_made_ok a0 a1 _ (hv2)) ?_
 refine s_seq (g_regm C_mixed hG ?_)
 obtain ⟨v3, hv3, h⟩ := bind_of h
 refine g_callM (fun hg => mill_Proc_ok a2 _ (hv3)) ?_
 obtain ⟨v4, hv4, h⟩ := bind_of h
 refine g_callM (fun hg => mill_Amount_ok v2.resource a3 _ (hv4)) ?_
 refine s_seq (s_seq (g_reg hG ?_))
 obtain ⟨v5, hv5, h⟩ := bind_of h
 refine g_call (fun hg => ref12_Wanted_ok v2 v3 _ (hv5)) ?_
 refine s_seq (g_regd C_mixed hG ?_)
 obtain ⟨v6, hv6, h⟩ := bind_of h
 refine g_calld (fun hg => ref12_Held_ok v2 v3 _ (ite_t hg hv6)) ?_
 refine g_calld (fun hg => ref04_Covers_ok v2.resource v6 v4) ?_
 refine g_cond rfl hG h (fun _ h => ?_) (fun _ h => ?_)
 · refine s_seq (g_reg hG ?_)
   obtain ⟨v7, hv7, h⟩ := bind_of h
   refine g_call (fun hg => law12_awake_ok  _ (hv7)) ?_
   refine g_ret ?_
   exact g_end h
 refine g_skip ?_
 refine s_seq (g_reg hG ?_)
 obtain ⟨v8, hv8, h⟩ := bind_of h
 refine g_call (fun hg => queue_Claim_ok v2 v3 v4 0 _ (hv8)) ?_
 refine s_seq (g_reg hG ?_)
 obtain ⟨v9, hv9, h⟩ := bind_of h
 refine g_call (fun hg => law12_awake_ok  _ (hv9)) ?_
 obtain ⟨v10, hv10, h⟩ := bind_of h
 refine g_call (fun hg => ref12_Same_ok v8.1 v2 _ (ite_t hg hv10)) ?_
 refine g_ret ?_
 exact g_end h
attribute [local irreducible] f_law12_QueueCovered
end Ab
end Go.Proofs.YtdflfohpemfeiaaGreatDoor
