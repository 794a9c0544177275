/-
  A law's own code and what it computes.
-/
import Derived.Test.YtdflfohpemfeiaaGreatDoorFn
namespace Go.Proofs.YtdflfohpemfeiaaGreatDoor
namespace Ab
set_option linter.unusedSimpArgs false
set_option linter.unusedVariables false
set_option maxRecDepth 100000
set_option maxHeartbeats 1000000

attribute [local irreducible] f_mill_Mod f_mill_Proc f_catalog_ValidName f_catalog_ValidResource f_queue_New f_ident_compare f_ident_CompareProc f_mode_Compatible f_amount_Compatible f_holders_Valid f_holders_Get f_queue_Held f_line_Find f_mode_Covers f_amount_Covers f_queue_soundConverts f_line_Valid f_queue_soundWaits f_queue_Sound f_queue_head f_holders_proper f_holders_Set f_holders_Room f_queue_Settled f_queue_Valid f_slices_Grow_api_Wait_api_Wait_m f_slices_Concat_api_Wait_api_Wait f_queue_order f_queue_Wanted f_queue_clone_m f_mode_Sup f_amount_Join f_queue_Claim_1_m f_queue_advance_m f_queue_finish_m f_line_Insert f_queue_Claim_2_m f_queue_finish_m1 f_queue_Claim f_queue_Order f_holders_Procs_m f_slices_SortFunc_api_Proc_api_Proc_m f_slices_Compact_api_Proc_api_Proc_m f_ident_SortProcs f_queue_Procs f_slices_Index_api_Proc_api_Proc f_slices_Contains_api_Proc_api_Proc f_ident_HasProc f_queue_clone f_queue_Remove_1_m f_line_Remove f_queue_Remove_2_m f_queue_Remove_3_m f_queue_finish_m2 f_queue_Remove f_law12_awake f_ref05_ValidName f_ref05_ValidResource f_ref12_New f_ref10_Amounts f_ref04_Compatible f_ref10_Valid f_ref11_Find f_ref11_Valid f_ref10_Get f_ref12_Sound f_ref12_Head f_ref10_Set f_ref10_Room f_ref12_Settled f_ref12_Valid f_ref10_SameHolds f_ref11_SameWaits f_ref12_Same f_ref12_Wanted f_ref12_Copy_m f_ref12_Held f_ref03_Sup f_ref04_Join f_ref12_Copy f_ref12_Advance f_ref12_changed f_ref11_Insert f_ref12_Claim f_law12_same f_mill_Tape_Next_m f_mill_Catalog_m f_mill_Resource f_mill_Mode f_mill_Amount f_ref11_Remove f_ref12_Cancel f_ref12_Lower f_ref12_Has f_ref12_Remove f_law12_made f_ref02_HasProc f_ref02_SameProcs f_queue_Advance f_queue_Cancel_1_m f_queue_Cancel_2_m f_queue_finish_m3 f_queue_Cancel f_queue_Lower_1_m f_queue_finish_m4 f_queue_Lower f_law12_step f_line_Ahead_m f_holders_Against f_queue_Blockers f_holders_Procs f_line_Ahead
def r43_0 := [mo 4 .mv [oFa]]
def r43_1 := [oV 14 1,oC 15 31 [.t 14],mo 16 .not [.t 15]]
def r43_2 := [oC 17 18 [],oV 4 17]
def r43_3 := [oV 19 0,oC 20 53 [.t 19],oC 21 19 [.t 20],oV 18 21,oE 22 0 18,oE 23 1 18,mo 5 (.alloc 8 (Queue.enc Queue.zero)) [],oS 8 5 22,oV 6 23]
def r43_4 := [oI 7 0]
def r43_5 := [oV 24 7,oV 25 1,mo 26 .len [.t 25],oP 27 .lss [.t 24, .t 26]]
def r43_7 := [oL 31 8 5,oV 32 1,oV 33 7,mo 34 (.iaS 1 [A.int .i64 0]) [.t 32, .t 33],oM 35 1 34,oC 36 54 [.t 31, .t 35],oV 30 36,oE 37 0 30,oE 38 1 30,oE 39 2 30,mo 8 (.alloc 8 (Queue.enc Queue.zero)) [],oS 8 8 37,oV 9 38,oV 10 39]
def r43_8 := [oV 40 10,mo 41 .not [.t 40]]
def r43_9 := [mo 4 .mv [oFa]]
def r43_10 := [oL 42 8 8,oS 8 5 42]
def r43_11 := [oA 43 0 5,oL 44 4 43,oA 45 4 5,oM 46 1 45,oC 47 56 [.t 46],oC 48 55 [.t 44, .t 47],mo 49 .not [.t 48],oV 50 49,oG 51 50 false (.load 8 true) [.t 5],oG 52 50 false (.call 25) [.t 51],oG 53 50 false .not [.t 52],mo 54 .pick [.t 50, oTr, .t 53]]
def r43_12 := [mo 4 .mv [oFa]]
def r43_13 := [oI 11 0]
def r43_14 := [oV 55 11,oV 56 9,mo 57 .len [.t 56],oP 58 .lss [.t 55, .t 57]]
def r43_16 := [oL 61 8 5,oV 62 9,oV 63 11,mo 64 (.iaS 5 (Hold.enc Hold.zero)) [.t 62, .t 63],oA 65 0 64,oL 66 3 65,oC 67 37 [.t 61, .t 66],oV 68 9,oV 69 11,mo 70 (.iaS 5 (Hold.enc Hold.zero)) [.t 68, .t 69],oA 71 3 70,oL 72 2 71,mo 73 (.eqa true [.i .i64, .i .i64]) [.t 67, .t 72]]
def r43_17 := [mo 4 .mv [oFa]]
def r43_18 := [oL 75 8 5,oV 76 9,oV 77 11,mo 78 (.iaS 5 (Hold.enc Hold.zero)) [.t 76, .t 77],oA 79 0 78,oL 80 3 79,oC 81 57 [.t 75, .t 80],oV 74 81,oE 82 0 74,oE 83 1 74,mo 12 (.alloc 2 (Amount.enc Amount.zero)) [],oS 2 12 82,oV 13 83]
def r43_19 := [oV 84 13]
def r43_20 := [mo 4 .mv [oFa]]
def r43_15 := [oV 59 11,oP 60 .add [.t 59, oK 1],oV 11 60]
def r43_6 := [oV 28 7,oP 29 .add [.t 28, oK 1],oV 7 29]
def r43_21 := [oC 85 18 [],oV 4 85]
def pc_43 : PC := (.seq (.reg [] r43_0) (.seq (.seq (.reg [14, 15] r43_1) (.cond (.t 16) (.seq (.reg [17] r43_2) .ret) .skip)) (.seq (.reg [6, 18, 19, 20, 21, 22, 23] r43_3) (.seq (.seq (.reg [] r43_4) (.block 0 (.loop (.seq (.seq (.reg [24, 25, 26] r43_5) (.cond (.t 27) .skip (.exit 0))) (.seq (.block 1 (.seq (.regm [30, 31, 32, 33, 34, 35, 36, 37, 38, 39] [[], [], [], [1, 2], [3, 1, 2], [0, 4, 3, 1, 2], [5, 0, 4, 3, 1, 2], [6, 5, 0, 4, 3, 1, 2], [6, 5, 0, 4, 3, 1, 2], [6, 5, 0, 4, 3, 1, 2], [], [10, 7, 5, 0, 1, 2, 3, 4, 5, 6, 7, 10, 6, 5, 0, 4, 3, 1, 2, 0, 4, 3, 1, 2, 1, 2, 3, 1, 2, 0, 4, 3, 1, 2, 5, 0, 4, 3, 1, 2, 6, 5, 0, 4, 3, 1, 2], [8, 11, 0, 1, 2, 3, 4, 5, 6, 7, 8, 10, 11, 6, 5, 0, 4, 3, 1, 2, 10, 7, 5, 0, 1, 2, 3, 4, 5, 6, 7, 10, 6, 5, 0, 4, 3, 1, 2, 0, 4, 3, 1, 2, 1, 2, 3, 1, 2, 0, 4, 3, 1, 2, 5, 0, 4, 3, 1, 2, 6, 5, 0, 4, 3, 1, 2, 1, 2, 3, 1, 2, 0, 4, 3, 1, 2, 5, 0, 4, 3, 1, 2, 6, 5, 0, 4, 3, 1, 2, 6, 5, 0, 4, 3, 1, 2, 10, 7, 5, 0, 1, 2, 3, 4, 5, 6, 7, 10, 6, 5, 0, 4, 3, 1, 2, 0, 4, 3, 1, 2, 1, 2, 3, 1, 2, 0, 4, 3, 1, 2, 5, 0, 4, 3, 1, 2, 6, 5, 0, 4, 3, 1, 2], [9, 12, 0, 1, 2, 3, 4, 5, 6, 7, 8, 9, 10, 11, 12, 6, 5, 0, 4, 3, 1, 2, 8, 11, 0, 1, 2, 3, 4, 5, 6, 7, 8, 10, 11, 6, 5, 0, 4, 3, 1, 2, 10, 7, 5, 0, 1, 2, 3, 4, 5, 6, 7, 10, 6, 5, 0, 4, 3, 1, 2, 0, 4, 3, 1, 2, 1, 2, 3, 1, 2, 0, 4, 3, 1, 2, 5, 0, 4, 3, 1, 2, 6, 5, 0, 4, 3, 1, 2, 1, 2, 3, 1, 2, 0, 4, 3, 1, 2, 5, 0, 4, 3, 1, 2, 6, 5, 0, 4, 3, 1, 2, 6, 5, 0, 4, 3, 1, 2, 10, 7, 5, 0, 1, 2, 3, 4, 5, 6, 7, 10, 6, 5, 0, 4, 3, 1, 2, 0, 4, 3, 1, 2, 1, 2, 3, 1, 2, 0, 4, 3, 1, 2, 5, 0, 4, 3, 1, 2, 6, 5, 0, 4, 3, 1, 2, 1, 2, 3, 1, 2, 0, 4, 3, 1, 2, 5, 0, 4, 3, 1, 2, 6, 5, 0, 4, 3, 1, 2, 6, 5, 0, 4, 3, 1, 2, 6, 5, 0, 4, 3, 1, 2, 10, 7, 5, 0, 1, 2, 3, 4, 5, 6, 7, 10, 6, 5, 0, 4, 3, 1, 2, 0, 4, 3, 1, 2, 1, 2, 3, 1, 2, 0, 4, 3, 1, 2, 5, 0, 4, 3, 1, 2, 6, 5, 0, 4, 3, 1, 2, 8, 11, 0, 1, 2, 3, 4, 5, 6, 7, 8, 10, 11, 6, 5, 0, 4, 3, 1, 2, 10, 7, 5, 0, 1, 2, 3, 4, 5, 6, 7, 10, 6, 5, 0, 4, 3, 1, 2, 0, 4, 3, 1, 2, 1, 2, 3, 1, 2, 0, 4, 3, 1, 2, 5, 0, 4, 3, 1, 2, 6, 5, 0, 4, 3, 1, 2, 1, 2, 3, 1, 2, 0, 4, 3, 1, 2, 5, 0, 4, 3, 1, 2, 6, 5, 0, 4, 3, 1, 2, 6, 5, 0, 4, 3, 1, 2, 10, 7, 5, 0, 1, 2, 3, 4, 5, 6, 7, 10, 6, 5, 0, 4, 3, 1, 2, 0, 4, 3, 1, 2, 1, 2, 3, 1, 2, 0, 4, 3, 1, 2, 5, 0, 4, 3, 1, 2, 6, 5, 0, 4, 3, 1, 2]] r43_7) (.seq (.seq (.reg [40] r43_8) (.cond (.t 41) (.seq (.reg [] r43_9) .ret) .skip)) (.seq (.reg [42] r43_10) (.seq (.seq (.regd [43, 44, 45, 46, 47, 48, 49, 50, 51, 52, 53] r43_11) (.cond (.t 54) (.seq (.reg [] r43_12) .ret) .skip)) (.seq (.reg [] r43_13) (.block 2 (.loop (.seq (.seq (.reg [55, 56, 57] r43_14) (.cond (.t 58) .skip (.exit 2))) (.seq (.block 3 (.seq (.seq (.regd [61, 62, 63, 64, 65, 66, 67, 68, 69, 70, 71, 72] r43_16) (.cond (.t 73) (.seq (.reg [] r43_17) .ret) .skip)) (.seq (.regm [12, 74, 75, 76, 77, 78, 79, 80, 81, 82, 83] [[], [], [], [1, 2], [3, 1, 2], [4, 3, 1, 2], [0, 5, 4, 3, 1, 2], [6, 0, 5, 4, 3, 1, 2], [7, 6, 0, 5, 4, 3, 1, 2], [7, 6, 0, 5, 4, 3, 1, 2], [], [10, 8, 6, 0, 1, 2, 3, 4, 5, 6, 7, 8, 10, 7, 6, 0, 5, 4, 3, 1, 2, 0, 5, 4, 3, 1, 2, 1, 2, 3, 1, 2, 4, 3, 1, 2, 0, 5, 4, 3, 1, 2, 6, 0, 5, 4, 3, 1, 2, 7, 6, 0, 5, 4, 3, 1, 2], [9, 11, 0, 1, 2, 3, 4, 5, 6, 7, 8, 9, 10, 11, 7, 6, 0, 5, 4, 3, 1, 2, 10, 8, 6, 0, 1, 2, 3, 4, 5, 6, 7, 8, 10, 7, 6, 0, 5, 4, 3, 1, 2, 0, 5, 4, 3, 1, 2, 1, 2, 3, 1, 2, 4, 3, 1, 2, 0, 5, 4, 3, 1, 2, 6, 0, 5, 4, 3, 1, 2, 7, 6, 0, 5, 4, 3, 1, 2, 1, 2, 3, 1, 2, 4, 3, 1, 2, 0, 5, 4, 3, 1, 2, 6, 0, 5, 4, 3, 1, 2, 7, 6, 0, 5, 4, 3, 1, 2, 7, 6, 0, 5, 4, 3, 1, 2, 10, 8, 6, 0, 1, 2, 3, 4, 5, 6, 7, 8, 10, 7, 6, 0, 5, 4, 3, 1, 2, 0, 5, 4, 3, 1, 2, 1, 2, 3, 1, 2, 4, 3, 1, 2, 0, 5, 4, 3, 1, 2, 6, 0, 5, 4, 3, 1, 2, 7, 6, 0, 5, 4, 3, 1, 2]] r43_18) (.seq (.reg [] r43_19) (.cond (.t 84) (.seq (.reg [] r43_20) .ret) .skip))))) (.reg [59, 60] r43_15))))))))))) (.reg [28, 29] r43_6)))))) (.seq (.reg [85] r43_21) .ret)))))
theorem ck_43 : chkF C.P 14 pc_43 86 [.t 4] 2 = true := by kernel_rfl
attribute [go_sem] r43_0 r43_1 r43_2 r43_3 r43_4 r43_5 r43_7 r43_8 r43_9 r43_10 r43_11 r43_12 r43_13 r43_14 r43_16 r43_17 r43_18 r43_19 r43_20 r43_15 r43_6 r43_21

noncomputable def f_law12_QueueSafe_k1  (j1 : Unit) : Option (Bool) :=
 (f_law12_awake).bind fun v4 =>
 some v4
@[go_sem] def J43_k1  (j1 : Unit) : St := ⟨[], [], 0⟩
noncomputable def f_law12_QueueSafe_k2 (g1 : Int × Queue) (v5 : Queue × (List Hold) × Bool) (j2 : Unit) : Option ((Int × Queue) ⊕ ((Unit) ⊕ (Bool))) :=
 some (.inl ((IntKind.i64.wrap (g1.1 + 1)), v5.1))
@[go_sem] def J43_k2 (a1 : List Int) (g1 : Int × Queue) (v5 : Queue × (List Hold) × Bool) (j2 : Unit) : St := ⟨[(1, .sl (a1.map (eI .i64))), (5, .ptr 0 0 0), (7, .int .i64 g1.1)], [(0, ⟨false, 8, (Queue.enc Queue.zero), [Queue.enc v5.1]⟩)], 1⟩
noncomputable def f_law12_QueueSafe_l2 (v5 : Queue × (List Hold) × Bool) (g2 : Int) : Option ((Int) ⊕ ((Unit) ⊕ (Bool))) :=
 (if (decide (g2 < (v5.2.1.length : Int))) = true then
  gd (0 ≤ g2 ∧ g2 < (v5.2.1.length : Int)) <|
  (f_queue_Held v5.1 ((v5.2.1.getD g2.toNat Hold.zero).proc)).bind fun v9 =>
  gd (0 ≤ g2 ∧ g2 < (v5.2.1.length : Int)) <|
  (if (!decide (v9 = (v5.2.1.getD g2.toNat Hold.zero).amount)) = true then
   some (.inr (.inr false))
  else
   gd (0 ≤ g2 ∧ g2 < (v5.2.1.length : Int)) <|
   (f_queue_Wanted v5.1 ((v5.2.1.getD g2.toNat Hold.zero).proc)).bind fun v10 =>
   (if v10.2 = true then
    some (.inr (.inr false))
   else
    some (.inl (IntKind.i64.wrap (g2 + 1)))))
 else
  some (.inr (.inl ())))
@[go_sem] def I43_l2 (a1 : List Int) (g1 : Int × Queue) (v5 : Queue × (List Hold) × Bool) (g2 : Int) : St := ⟨[(1, .sl (a1.map (eI .i64))), (5, .ptr 0 0 0), (7, .int .i64 g1.1), (9, .sl (v5.2.1.map Hold.enc)), (11, .int .i64 g2)], [(0, ⟨false, 8, (Queue.enc Queue.zero), [Queue.enc v5.1]⟩)], 1⟩
noncomputable def f_law12_QueueSafe_l1 (a1 : List Int) (g1 : Int × Queue) : Option ((Int × Queue) ⊕ ((Unit) ⊕ (Bool))) :=
 (if (decide (g1.1 < (a1.length : Int))) = true then
  gd (0 ≤ g1.1 ∧ g1.1 < (a1.length : Int)) <|
  (f_law12_step g1.2 (a1.getD g1.1.toNat 0)).bind fun v5 =>
  (if (!v5.2.2) = true then
   some (.inr (.inr false))
  else
   (f_ref10_Amounts v5.1.holds).bind fun v6 =>
   (f_ref04_Compatible v5.1.resource v6).bind fun v7 =>
   ((if v7 = true then f_queue_Valid v5.1 else some (false))).bind fun v8 =>
   (if ((!v7) || (!v8)) = true then
    some (.inr (.inr false))
   else
    (loopO (f_law12_QueueSafe_l2 v5) 0).bind (fun | .inl z => f_law12_QueueSafe_k2 g1 v5 z | .inr z => some (.inr (.inr z)))))
 else
  some (.inr (.inl ())))
@[go_sem] def I43_l1 (a1 : List Int) (g1 : Int × Queue) : St := ⟨[(1, .sl (a1.map (eI .i64))), (5, .ptr 0 0 0), (7, .int .i64 g1.1)], [(0, ⟨false, 8, (Queue.enc Queue.zero), [Queue.enc g1.2]⟩)], 1⟩
noncomputable def f_law12_QueueSafe (a0 : Int) (a1 : List Int) : Option (Bool) :=
 (if (!(f_mill_Light a1)) = true then
  (f_law12_awake).bind fun v1 =>
  some v1
 else
  (f_mill_Resource a0).bind fun v2 =>
  (f_queue_New v2).bind fun v3 =>
  (loopO (f_law12_QueueSafe_l1 a1) (0, v3.1)).bind (fun | .inl z => f_law12_QueueSafe_k1 z | .inr z => some z))
theorem law12_QueueSafe_ok (a0 : Int) (a1 : List Int) (r : Bool) (h : f_law12_QueueSafe a0 a1 = some r) : PFn C 14 [.int .i64 a0, .sl (a1.map (eI .i64))] (.bool r) := by
 refine pfn_intro ck_43 rfl fun E hG hN hK => ?_
 unfold pc_43
 unfold f_law12_QueueSafe at h
 refine s_seq (g_reg hG ?_)
 refine s_seq (s_seq (g_reg hG ?_))
 refine g_call (fun hg => mill_Light_ok a1) ?_
 refine g_cond rfl hG h (fun _ h => ?_) (fun _ h => ?_)
 · refine s_seq (g_reg hG ?_)
   obtain ⟨v1, hv1, h⟩ := bind_of h
   refine g_call (fun hg => law12_awake_ok  _ (hv1)) ?_
   refine g_ret ?_
   exact g_end h
 refine g_skip ?_
 refine s_seq (g_reg hG ?_)
 obtain ⟨v2, hv2, h⟩ := bind_of h
 refine g_call (fun hg => mill_Resource_ok a0 _ (hv2)) ?_
 obtain ⟨v3, hv3, h⟩ := bind_of h
 refine g_call (fun hg => queue_New_ok v2 _ (hv3)) ?_
 refine s_seq (s_seq (g_reg hG ?_))
 refine s_blockJ (J43_k1) (fun v => f_law12_QueueSafe_k1 v = some r) ?_ ?_
 · intro j1 h
   unfold f_law12_QueueSafe_k1 at h
   refine g_st ?_
   refine s_seq (g_reg hG ?_)
   obtain ⟨v4, hv4, h⟩ := bind_of h
   refine g_call (fun hg => law12_awake_ok  _ (hv4)) ?_
   refine g_ret ?_
   exact g_end h
 refine g_loop (I43_l1 a1) hK [(0, 0)] h (fun x_l1 h g1 y_l1 h_l1 hx_l1 => ?_)
 unfold f_law12_QueueSafe_l1 at h_l1
 refine g_st ?_
 refine s_seq (s_seq (g_reg hG ?_))
 refine g_cond rfl hG h_l1 (fun _ h_l1 => ?_) (fun _ h_l1 => ?_)
 · refine g_skip ?_
   refine s_seq (s_block (s_seq ?_))
   obtain ⟨hb4, h_l1⟩ := gd_some h_l1
   refine g_regm C_mixed hG ?_
   obtain ⟨v5, hv5, h_l1⟩ := bind_of h_l1
   refine g_callM (fun hg => law12_step_ok g1.2 (a1.getD g1.1.toNat 0) _ (hv5)) ?_
   refine s_seq (s_seq (g_reg hG ?_))
   refine g_cond rfl hG h_l1 (fun _ h_l1 => ?_) (fun _ h_l1 => ?_)
   · refine s_seq (g_reg hG ?_)
     refine g_ret ?_
     obtain rfl := Option.some.inj h_l1
     have hx := hx_l1 _ rfl
     subst hx
     try dsimp only at h
     exact g_end h
   refine g_skip ?_
   refine s_seq (g_reg hG ?_)
   refine s_seq (s_seq (g_regd C_mixed hG ?_))
   obtain ⟨v6, hv6, h_l1⟩ := bind_of h_l1
   refine g_calld (fun hg => ref10_Amounts_ok v5.1.holds _ (hv6)) ?_
   obtain ⟨v7, hv7, h_l1⟩ := bind_of h_l1
   refine g_calld (fun hg => ref04_Compatible_ok v5.1.resource v6 _ (hv7)) ?_
   obtain ⟨v8, hv8, h_l1⟩ := bind_of h_l1
   refine g_calld (fun hg => queue_Valid_ok v5.1 _ (ite_t hg hv8)) ?_
   refine g_cond rfl hG h_l1 (fun _ h_l1 => ?_) (fun _ h_l1 => ?_)
   · refine s_seq (g_reg hG ?_)
     refine g_ret ?_
     obtain rfl := Option.some.inj h_l1
     have hx := hx_l1 _ rfl
     subst hx
     try dsimp only at h
     exact g_end h
   refine g_skip ?_
   refine s_seq (g_reg hG ?_)
   refine s_blockJ (J43_k2 a1 g1 v5) (fun v => f_law12_QueueSafe_k2 g1 v5 v = some y_l1) ?_ ?_
   · intro j2 h_l1
     unfold f_law12_QueueSafe_k2 at h_l1
     refine g_st ?_
     refine g_reg hG ?_
     exact g_next hK [(0, 0)] h_l1
   refine g_loop (I43_l2 a1 g1 v5) hK [(0, 0)] h_l1 (fun x_l2 h_l1 g2 y_l2 h_l2 hx_l2 => ?_)
   unfold f_law12_QueueSafe_l2 at h_l2
   refine g_st ?_
   refine s_seq (s_seq (g_reg hG ?_))
   refine g_cond rfl hG h_l2 (fun _ h_l2 => ?_) (fun _ h_l2 => ?_)
   · refine g_skip ?_
     refine s_seq (s_block (s_seq (s_seq ?_)))
     obtain ⟨hb2, h_l2⟩ := gd_some h_l2
     refine g_regd C_mixed hG ?_
     obtain ⟨v9, hv9, h_l2⟩ := bind_of h_l2
     obtain ⟨hb3, h_l2⟩ := gd_some h_l2
     refine g_calld (fun hg => queue_Held_ok v5.1 ((v5.2.1.getD g2.toNat Hold.zero).proc) _ (hv9)) ?_
     refine g_cond rfl hG h_l2 (fun _ h_l2 => ?_) (fun _ h_l2 => ?_)
     · refine s_seq (g_reg hG ?_)
       refine g_ret ?_
       obtain rfl := Option.some.inj h_l2
       have hx := hx_l2 _ rfl
       subst hx
       try dsimp only at h_l1
       obtain rfl := Option.some.inj h_l1
       have hx := hx_l1 _ rfl
       subst hx
       try dsimp only at h
       exact g_end h
     refine g_skip ?_
     refine s_seq ?_
     obtain ⟨hb1, h_l2⟩ := gd_some h_l2
     refine g_regm C_mixed hG ?_
     obtain ⟨v10, hv10, h_l2⟩ := bind_of h_l2
     refine g_callM (fun hg => queue_Wanted_ok v5.1 ((v5.2.1.getD g2.toNat Hold.zero).proc) _ (hv10)) ?_
     refine s_seq (g_reg hG ?_)
     refine g_cond rfl hG h_l2 (fun _ h_l2 => ?_) (fun _ h_l2 => ?_)
     · refine s_seq (g_reg hG ?_)
       refine g_ret ?_
       obtain rfl := Option.some.inj h_l2
       have hx := hx_l2 _ rfl
       subst hx
       try dsimp only at h_l1
       obtain rfl := Option.some.inj h_l1
       have hx := hx_l1 _ rfl
       subst hx
       try dsimp only at h
       exact g_end h
     refine g_skip ?_
     refine g_reg hG ?_
     exact g_next hK [(0, 0)] h_l2
   refine g_exit ?_
   obtain rfl := Option.some.inj h_l2
   have hx := hx_l2 _ rfl
   subst hx
   try dsimp only at h_l1
   exact g_join hK [(0, 0)] () (by exact h_l1)
 refine g_exit ?_
 obtain rfl := Option.some.inj h_l1
 have hx := hx_l1 _ rfl
 subst hx
 try dsimp only at h
 exact g_join hK [] () (by exact h)
attribute [local irreducible] f_law12_QueueSafe
end Ab
end Go.Proofs.YtdflfohpemfeiaaGreatDoor
