/-
  A law's own code and what it computes.
-/
import Derived.Test.YtdflfohpemfeiaaGreatDoorFn
namespace Go.Proofs.YtdflfohpemfeiaaGreatDoor
namespace Ab
set_option linter.unusedSimpArgs false
set_option linter.unusedVariables false
set_option maxRecDepth 100000
set_option maxHeartbeats 1000000

attribute [local irreducible] f_mill_Mod f_mill_Proc f_catalog_ValidName f_catalog_ValidResource f_queue_New f_ident_compare f_ident_CompareProc f_mode_Compatible f_amount_Compatible f_holders_Valid f_holders_Get f_queue_Held f_line_Find f_mode_Covers f_amount_Covers f_queue_soundConverts f_line_Valid f_queue_soundWaits f_queue_Sound f_queue_head f_holders_proper f_holders_Set f_holders_Room f_queue_Settled f_queue_Valid f_slices_Grow_api_Wait_api_Wait_m f_slices_Concat_api_Wait_api_Wait f_queue_order f_queue_Wanted f_queue_clone_m f_mode_Sup f_amount_Join f_queue_Claim_1_m f_queue_advance_m f_queue_finish_m f_line_Insert f_queue_Claim_2_m f_queue_finish_m1 f_queue_Claim f_queue_Order f_holders_Procs_m f_slices_SortFunc_api_Proc_api_Proc_m f_slices_Compact_api_Proc_api_Proc_m f_ident_SortProcs f_queue_Procs f_slices_Index_api_Proc_api_Proc f_slices_Contains_api_Proc_api_Proc f_ident_HasProc f_queue_clone f_queue_Remove_1_m f_line_Remove f_queue_Remove_2_m f_queue_Remove_3_m f_queue_finish_m2 f_queue_Remove f_law12_awake f_ref05_ValidName f_ref05_ValidResource f_ref12_New f_ref10_Amounts f_ref04_Compatible f_ref10_Valid f_ref11_Find f_ref11_Valid f_ref10_Get f_ref12_Sound f_ref12_Head f_ref10_Set f_ref10_Room f_ref12_Settled f_ref12_Valid f_ref10_SameHolds f_ref11_SameWaits f_ref12_Same f_ref12_Wanted f_ref12_Copy_m f_ref12_Held f_ref03_Sup f_ref04_Join f_ref12_Copy f_ref12_Advance f_ref12_changed f_ref11_Insert f_ref12_Claim f_law12_same f_mill_Tape_Next_m f_mill_Catalog_m f_mill_Resource f_mill_Mode f_mill_Amount f_ref11_Remove f_ref12_Cancel f_ref12_Lower f_ref12_Has f_ref12_Remove f_law12_made f_ref02_HasProc f_ref02_SameProcs f_queue_Advance f_queue_Cancel_1_m f_queue_Cancel_2_m f_queue_finish_m3 f_queue_Cancel f_queue_Lower_1_m f_queue_finish_m4 f_queue_Lower f_law12_step f_line_Ahead_m f_holders_Against f_queue_Blockers f_holders_Procs f_line_Ahead
def r3p_0 := [mo 4 .mv [oFa]]
def r3p_1 := [oV 12 1,oC 13 31 [.t 12],mo 14 .not [.t 13]]
def r3p_2 := [oC 15 18 [],oV 4 15]
def r3p_3 := [oV 16 0,oV 17 1,oC 18 32 [.t 16, .t 17],mo 5 (.alloc 8 (Queue.enc Queue.zero)) [],oS 8 5 18]
def r3p_4 := [oL 19 8 5,oC 20 44 [.t 19],oV 6 20]
def r3p_5 := [oI 7 0]
def r3p_6 := [oV 21 7,oV 22 6,mo 23 .len [.t 22],oP 24 .lss [.t 21, .t 23]]
def r3p_8 := [oL 28 8 5,oV 29 6,oV 30 7,mo 31 (.iaS 3 (Proc.enc Proc.zero)) [.t 29, .t 30],oL 32 3 31,oC 33 33 [.t 28, .t 32],oV 27 33,oE 34 0 27,oE 35 1 27,oE 36 2 27,mo 8 (.alloc 8 (Queue.enc Queue.zero)) [],oS 8 8 34,oV 9 35,oV 10 36]
def r3p_9 := [oV 37 10,oP 38 .neq [.t 37, oK 0],oV 39 38,oG 40 39 false (.load 8 true) [.t 8],oG 41 39 false (.call 44) [.t 40],oG 42 39 false .mv [.t 6],oG 43 39 false .mv [.t 7],oG 44 39 false (.iaS 3 (Proc.enc Proc.zero)) [.t 42, .t 43],oG 45 39 false (.load 3 true) [.t 44],oG 46 39 false (.call 35) [.t 41, .t 45],
 mo 47 .pick [.t 39, oTr, .t 46]]
def r3p_10 := [mo 4 .mv [oFa]]
def r3p_11 := [oI 11 0]
def r3p_12 := [oV 48 11,oV 49 9,mo 50 .len [.t 49],oP 51 .lss [.t 48, .t 50]]
def r3p_14 := [oL 54 8 8,oV 55 9,oV 56 11,mo 57 (.iaS 5 (Hold.enc Hold.zero)) [.t 55, .t 56],oA 58 0 57,oL 59 3 58,oC 60 37 [.t 54, .t 59],oV 61 9,oV 62 11,mo 63 (.iaS 5 (Hold.enc Hold.zero)) [.t 61, .t 62],oA 64 3 63,oL 65 2 64,mo 66 (.eqa true [.i .i64, .i .i64]) [.t 60, .t 65]]
def r3p_15 := [mo 4 .mv [oFa]]
def r3p_13 := [oV 52 11,oP 53 .add [.t 52, oK 1],oV 11 53]
def r3p_16 := [oL 67 8 8,oS 8 5 67]
def r3p_7 := [oV 25 7,oP 26 .add [.t 25, oK 1],oV 7 26]
def r3p_17 := [oC 68 18 [],oV 69 68,oG 70 69 true (.faddr 4) [.t 5],oG 71 69 true (.load 1 false) [.t 70],oG 72 69 true .len [.t 71],oG 73 69 true (.faddr 5) [.t 5],oG 74 69 true (.load 1 false) [.t 73],oG 75 69 true .len [.t 74],oG 76 69 true (.bin .add) [.t 72, .t 75],oG 77 69 true (.faddr 6) [.t 5],
 oG 78 69 true (.load 1 false) [.t 77],oG 79 69 true .len [.t 78],oG 80 69 true (.bin .add) [.t 76, .t 79],oG 81 69 true (.bin .eql) [.t 80, oK 0],mo 82 .pick [.t 69, .t 81, oFa],oV 4 82]
def pc_3p : PC := (.seq (.reg [] r3p_0) (.seq (.seq (.reg [12, 13] r3p_1) (.cond (.t 14) (.seq (.reg [15] r3p_2) .ret) .skip)) (.seq (.reg [16, 17, 18] r3p_3) (.seq (.reg [19, 20] r3p_4) (.seq (.seq (.reg [] r3p_5) (.block 0 (.loop (.seq (.seq (.reg [21, 22, 23] r3p_6) (.cond (.t 24) .skip (.exit 0))) (.seq (.block 1 (.seq (.regm [27, 28, 29, 30, 31, 32, 33, 34, 35, 36] [[], [], [], [1, 2], [3, 1, 2], [0, 4, 3, 1, 2], [5, 0, 4, 3, 1, 2], [6, 5, 0, 4, 3, 1, 2], [6, 5, 0, 4, 3, 1, 2], [6, 5, 0, 4, 3, 1, 2], [], [10, 7, 5, 0, 1, 2, 3, 4, 5, 6, 7, 10, 6, 5, 0, 4, 3, 1, 2, 0, 4, 3, 1, 2, 1, 2, 3, 1, 2, 0, 4, 3, 1, 2, 5, 0, 4, 3, 1, 2, 6, 5, 0, 4, 3, 1, 2], [8, 11, 0, 1, 2, 3, 4, 5, 6, 7, 8, 10, 11, 6, 5, 0, 4, 3, 1, 2, 10, 7, 5, 0, 1, 2, 3, 4, 5, 6, 7, 10, 6, 5, 0, 4, 3, 1, 2, 0, 4, 3, 1, 2, 1, 2, 3, 1, 2, 0, 4, 3, 1, 2, 5, 0, 4, 3, 1, 2, 6, 5, 0, 4, 3, 1, 2, 1, 2, 3, 1, 2, 0, 4, 3, 1, 2, 5, 0, 4, 3, 1, 2, 6, 5, 0, 4, 3, 1, 2, 6, 5, 0, 4, 3, 1, 2, 10, 7, 5, 0, 1, 2, 3, 4, 5, 6, 7, 10, 6, 5, 0, 4, 3, 1, 2, 0, 4, 3, 1, 2, 1, 2, 3, 1, 2, 0, 4, 3, 1, 2, 5, 0, 4, 3, 1, 2, 6, 5, 0, 4, 3, 1, 2], [9, 12, 0, 1, 2, 3, 4, 5, 6, 7, 8, 9, 10, 11, 12, 6, 5, 0, 4, 3, 1, 2, 8, 11, 0, 1, 2, 3, 4, 5, 6, 7, 8, 10, 11, 6, 5, 0, 4, 3, 1, 2, 10, 7, 5, 0, 1, 2, 3, 4, 5, 6, 7, 10, 6, 5, 0, 4, 3, 1, 2, 0, 4, 3, 1, 2, 1, 2, 3, 1, 2, 0, 4, 3, 1, 2, 5, 0, 4, 3, 1, 2, 6, 5, 0, 4, 3, 1, 2, 1, 2, 3, 1, 2, 0, 4, 3, 1, 2, 5, 0, 4, 3, 1, 2, 6, 5, 0, 4, 3, 1, 2, 6, 5, 0, 4, 3, 1, 2, 10, 7, 5, 0, 1, 2, 3, 4, 5, 6, 7, 10, 6, 5, 0, 4, 3, 1, 2, 0, 4, 3, 1, 2, 1, 2, 3, 1, 2, 0, 4, 3, 1, 2, 5, 0, 4, 3, 1, 2, 6, 5, 0, 4, 3, 1, 2, 1, 2, 3, 1, 2, 0, 4, 3, 1, 2, 5, 0, 4, 3, 1, 2, 6, 5, 0, 4, 3, 1, 2, 6, 5, 0, 4, 3, 1, 2, 6, 5, 0, 4, 3, 1, 2, 10, 7, 5, 0, 1, 2, 3, 4, 5, 6, 7, 10, 6, 5, 0, 4, 3, 1, 2, 0, 4, 3, 1, 2, 1, 2, 3, 1, 2, 0, 4, 3, 1, 2, 5, 0, 4, 3, 1, 2, 6, 5, 0, 4, 3, 1, 2, 8, 11, 0, 1, 2, 3, 4, 5, 6, 7, 8, 10, 11, 6, 5, 0, 4, 3, 1, 2, 10, 7, 5, 0, 1, 2, 3, 4, 5, 6, 7, 10, 6, 5, 0, 4, 3, 1, 2, 0, 4, 3, 1, 2, 1, 2, 3, 1, 2, 0, 4, 3, 1, 2, 5, 0, 4, 3, 1, 2, 6, 5, 0, 4, 3, 1, 2, 1, 2, 3, 1, 2, 0, 4, 3, 1, 2, 5, 0, 4, 3, 1, 2, 6, 5, 0, 4, 3, 1, 2, 6, 5, 0, 4, 3, 1, 2, 10, 7, 5, 0, 1, 2, 3, 4, 5, 6, 7, 10, 6, 5, 0, 4, 3, 1, 2, 0, 4, 3, 1, 2, 1, 2, 3, 1, 2, 0, 4, 3, 1, 2, 5, 0, 4, 3, 1, 2, 6, 5, 0, 4, 3, 1, 2]] r3p_8) (.seq (.seq (.regd [37, 38, 39, 40, 41, 42, 43, 44, 45, 46] r3p_9) (.cond (.t 47) (.seq (.reg [] r3p_10) .ret) .skip)) (.seq (.seq (.reg [] r3p_11) (.block 2 (.loop (.seq (.seq (.reg [48, 49, 50] r3p_12) (.cond (.t 51) .skip (.exit 2))) (.seq (.block 3 (.seq (.regd [54, 55, 56, 57, 58, 59, 60, 61, 62, 63, 64, 65] r3p_14) (.cond (.t 66) (.seq (.reg [] r3p_15) .ret) .skip))) (.reg [52, 53] r3p_13)))))) (.reg [67] r3p_16))))) (.reg [25, 26] r3p_7)))))) (.seq (.reg [68, 69, 70, 71, 72, 73, 74, 75, 76, 77, 78, 79, 80, 81, 82] r3p_17) .ret))))))
theorem ck_3p : chkF C.P 9 pc_3p 83 [.t 4] 2 = true := by kernel_rfl
attribute [go_sem] r3p_0 r3p_1 r3p_2 r3p_3 r3p_4 r3p_5 r3p_6 r3p_8 r3p_9 r3p_10 r3p_11 r3p_12 r3p_14 r3p_15 r3p_13 r3p_16 r3p_7 r3p_17

noncomputable def f_law12_QueueEnds_k1  (j1 : Queue) : Option (Bool) :=
 (f_law12_awake).bind fun v4 =>
 some (v4 && (decide ((IntKind.i64.wrap ((IntKind.i64.wrap ((j1.holds.length : Int) + (j1.converts.length : Int))) + (j1.waits.length : Int))) = 0)))
@[go_sem] def J3p_k1  (j1 : Queue) : St := ⟨[(5, .ptr 0 0 0)], [(0, ⟨false, 8, (Queue.enc Queue.zero), [Queue.enc j1]⟩)], 1⟩
noncomputable def f_law12_QueueEnds_k2 (g1 : Int × Queue) (v5 : Queue × (List Hold) × Int) (j2 : Unit) : Option ((Int × Queue) ⊕ ((Queue) ⊕ (Bool))) :=
 some (.inl ((IntKind.i64.wrap (g1.1 + 1)), v5.1))
@[go_sem] def J3p_k2 (v3 : (List Proc)) (g1 : Int × Queue) (v5 : Queue × (List Hold) × Int) (j2 : Unit) : St := ⟨[(5, .ptr 0 0 0), (6, .sl (v3.map Proc.enc)), (7, .int .i64 g1.1), (8, .ptr 1 0 0)], [(0, ⟨false, 8, (Queue.enc Queue.zero), [Queue.enc g1.2]⟩), (1, ⟨false, 8, (Queue.enc Queue.zero), [Queue.enc v5.1]⟩)], 2⟩
noncomputable def f_law12_QueueEnds_l2 (v5 : Queue × (List Hold) × Int) (g2 : Int) : Option ((Int) ⊕ ((Unit) ⊕ (Bool))) :=
 (if (decide (g2 < (v5.2.1.length : Int))) = true then
  gd (0 ≤ g2 ∧ g2 < (v5.2.1.length : Int)) <|
  (f_queue_Held v5.1 ((v5.2.1.getD g2.toNat Hold.zero).proc)).bind fun v8 =>
  gd (0 ≤ g2 ∧ g2 < (v5.2.1.length : Int)) <|
  (if (!decide (v8 = (v5.2.1.getD g2.toNat Hold.zero).amount)) = true then
   some (.inr (.inr false))
  else
   some (.inl (IntKind.i64.wrap (g2 + 1))))
 else
  some (.inr (.inl ())))
@[go_sem] def I3p_l2 (v3 : (List Proc)) (g1 : Int × Queue) (v5 : Queue × (List Hold) × Int) (g2 : Int) : St := ⟨[(5, .ptr 0 0 0), (6, .sl (v3.map Proc.enc)), (7, .int .i64 g1.1), (8, .ptr 1 0 0), (9, .sl (v5.2.1.map Hold.enc)), (11, .int .i64 g2)], [(0, ⟨false, 8, (Queue.enc Queue.zero), [Queue.enc g1.2]⟩), (1, ⟨false, 8, (Queue.enc Queue.zero), [Queue.enc v5.1]⟩)], 2⟩
noncomputable def f_law12_QueueEnds_l1 (v3 : (List Proc)) (g1 : Int × Queue) : Option ((Int × Queue) ⊕ ((Queue) ⊕ (Bool))) :=
 (if (decide (g1.1 < (v3.length : Int))) = true then
  gd (0 ≤ g1.1 ∧ g1.1 < (v3.length : Int)) <|
  (f_queue_Remove g1.2 (v3.getD g1.1.toNat Proc.zero)).bind fun v5 =>
  ((if (decide (v5.2.2 = 0)) = true then f_queue_Procs v5.1 else some ([]))).bind fun v6 =>
  gd ((decide (v5.2.2 = 0)) = true → 0 ≤ g1.1 ∧ g1.1 < (v3.length : Int)) <|
  ((if (decide (v5.2.2 = 0)) = true then f_ref02_HasProc v6 (v3.getD g1.1.toNat Proc.zero) else some (false))).bind fun v7 =>
  (if ((!decide (v5.2.2 = 0)) || v7) = true then
   some (.inr (.inr false))
  else
   (loopO (f_law12_QueueEnds_l2 v5) 0).bind (fun | .inl z => f_law12_QueueEnds_k2 g1 v5 z | .inr z => some (.inr (.inr z))))
 else
  some (.inr (.inl g1.2)))
@[go_sem] def I3p_l1 (v3 : (List Proc)) (g1 : Int × Queue) : St := ⟨[(5, .ptr 0 0 0), (6, .sl (v3.map Proc.enc)), (7, .int .i64 g1.1)], [(0, ⟨false, 8, (Queue.enc Queue.zero), [Queue.enc g1.2]⟩)], 1⟩
noncomputable def f_law12_QueueEnds (a0 : Int) (a1 : List Int) : Option (Bool) :=
 (if (!(f_mill_Light a1)) = true then
  (f_law12_awake).bind fun v1 =>
  some v1
 else
  (f_law12_made a0 a1).bind fun v2 =>
  (f_queue_Procs v2).bind fun v3 =>
  (loopO (f_law12_QueueEnds_l1 v3) (0, v2)).bind (fun | .inl z => f_law12_QueueEnds_k1 z | .inr z => some z))
theorem law12_QueueEnds_ok (a0 : Int) (a1 : List Int) (r : Bool) (h : f_law12_QueueEnds a0 a1 = some r) : PFn C 9 [.int .i64 a0, .sl (a1.map (eI .i64))] (.bool r) := by
 refine pfn_intro ck_3p rfl fun E hG hN hK => ?_
 unfold pc_3p
 unfold f_law12_QueueEnds at h
 refine s_seq (g_reg hG ?_)
 refine s_seq (s_seq (g_reg hG ?_))
 refine g_call (fun hg => mill_Light_ok a1) ?_
 refine g_cond rfl hG h (fun _ h => ?_) (fun _ h => ?_)
 · refine s_seq (g_reg hG ?_)
   obtain ⟨v1, hv1, h⟩ := bind_of h
   refine g_call (fun hg => law12_awake_ok  _ (hv1)) ?_
   refine g_ret ?_
   exact g_end h
 refine g_skip ?_
 refine s_seq (g_reg hG ?_)
 obtain ⟨v2, hv2, h⟩ := bind_of h
 refine g_call (fun hg => law12_made_ok a0 a1 _ (hv2)) ?_
 refine s_seq (g_reg hG ?_)
 obtain ⟨v3, hv3, h⟩ := bind_of h
 refine g_call (fun hg => queue_Procs_ok v2 _ (hv3)) ?_
 refine s_seq (s_seq (g_reg hG ?_))
 refine s_blockJ (J3p_k1) (fun v => f_law12_QueueEnds_k1 v = some r) ?_ ?_
 · intro j1 h
   unfold f_law12_QueueEnds_k1 at h
   refine g_st ?_
   refine s_seq (g_reg hG ?_)
   obtain ⟨v4, hv4, h⟩ := bind_of h
   refine g_call (fun hg => law12_awake_ok  _ (hv4)) ?_
   refine g_ret ?_
   exact g_end h
 refine g_loop (I3p_l1 v3) hK [(0, 0)] h (fun x_l1 h g1 y_l1 h_l1 hx_l1 => ?_)
 unfold f_law12_QueueEnds_l1 at h_l1
 refine g_st ?_
 refine s_seq (s_seq (g_reg hG ?_))
 refine g_cond rfl hG h_l1 (fun _ h_l1 => ?_) (fun _ h_l1 => ?_)
 · refine g_skip ?_
   refine s_seq (s_block (s_seq ?_))
   obtain ⟨hb4, h_l1⟩ := gd_some h_l1
   refine g_regm C_mixed hG ?_
   obtain ⟨v5, hv5, h_l1⟩ := bind_of h_l1
   refine g_callM (fun hg => queue_Remove_ok g1.2 (v3.getD g1.1.toNat Proc.zero) _ (hv5)) ?_
   refine s_seq (s_seq (g_regd C_mixed hG ?_))
   obtain ⟨v6, hv6, h_l1⟩ := bind_of h_l1
   obtain ⟨hb3, h_l1⟩ := gd_some h_l1
   refine g_calld (fun hg => queue_Procs_ok v5.1 _ (ite_t hg hv6)) ?_
   obtain ⟨v7, hv7, h_l1⟩ := bind_of h_l1
   refine g_calld (fun hg => ref02_HasProc_ok v6 (v3.getD g1.1.toNat Proc.zero) _ (ite_t hg hv7)) ?_
   refine g_cond rfl hG h_l1 (fun _ h_l1 => ?_) (fun _ h_l1 => ?_)
   · refine s_seq (g_reg hG ?_)
     refine g_ret ?_
     obtain rfl := Option.some.inj h_l1
     have hx := hx_l1 _ rfl
     subst hx
     try dsimp only at h
     exact g_end h
   refine g_skip ?_
   refine s_seq (s_seq (g_reg hG ?_))
   refine s_blockJ (J3p_k2 v3 g1 v5) (fun v => f_law12_QueueEnds_k2 g1 v5 v = some y_l1) ?_ ?_
   · intro j2 h_l1
     unfold f_law12_QueueEnds_k2 at h_l1
     refine g_st ?_
     refine g_reg hG ?_
     refine g_reg hG ?_
     exact g_next hK [(0, 0)] h_l1
   refine g_loop (I3p_l2 v3 g1 v5) hK [(0, 0), (1, 1)] h_l1 (fun x_l2 h_l1 g2 y_l2 h_l2 hx_l2 => ?_)
   unfold f_law12_QueueEnds_l2 at h_l2
   refine g_st ?_
   refine s_seq (s_seq (g_reg hG ?_))
   refine g_cond rfl hG h_l2 (fun _ h_l2 => ?_) (fun _ h_l2 => ?_)
   · refine g_skip ?_
     refine s_seq (s_block (s_seq ?_))
     obtain ⟨hb1, h_l2⟩ := gd_some h_l2
     refine g_regd C_mixed hG ?_
     obtain ⟨v8, hv8, h_l2⟩ := bind_of h_l2
     obtain ⟨hb2, h_l2⟩ := gd_some h_l2
     refine g_calld (fun hg => queue_Held_ok v5.1 ((v5.2.1.getD g2.toNat Hold.zero).proc) _ (hv8)) ?_
     refine g_cond rfl hG h_l2 (fun _ h_l2 => ?_) (fun _ h_l2 => ?_)
     · refine s_seq (g_reg hG ?_)
       refine g_ret ?_
       obtain rfl := Option.some.inj h_l2
       have hx := hx_l2 _ rfl
       subst hx
       try dsimp only at h_l1
       obtain rfl := Option.some.inj h_l1
       have hx := hx_l1 _ rfl
       subst hx
       try dsimp only at h
       exact g_end h
     refine g_skip ?_
     refine g_reg hG ?_
     exact g_next hK [(0, 0), (1, 1)] h_l2
   refine g_exit ?_
   obtain rfl := Option.some.inj h_l2
   have hx := hx_l2 _ rfl
   subst hx
   try dsimp only at h_l1
   exact g_join hK [(0, 0), (1, 1)] () (by exact h_l1)
 refine g_exit ?_
 obtain rfl := Option.some.inj h_l1
 have hx := hx_l1 _ rfl
 subst hx
 try dsimp only at h
 exact g_join hK [(0, 0)] g1.2 (by exact h)
attribute [local irreducible] f_law12_QueueEnds
end Ab
end Go.Proofs.YtdflfohpemfeiaaGreatDoor
