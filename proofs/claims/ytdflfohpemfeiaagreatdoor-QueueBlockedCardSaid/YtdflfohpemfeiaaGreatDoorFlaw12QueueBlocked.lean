/-
  A law's own code and what it computes.
-/
import Derived.Test.YtdflfohpemfeiaaGreatDoorFn
namespace Go.Proofs.YtdflfohpemfeiaaGreatDoor
namespace Ab
set_option linter.unusedSimpArgs false
set_option linter.unusedVariables false
set_option maxRecDepth 100000
set_option maxHeartbeats 1000000

attribute [local irreducible] f_mill_Mod f_mill_Proc f_catalog_ValidName f_catalog_ValidResource f_queue_New f_ident_compare f_ident_CompareProc f_mode_Compatible f_amount_Compatible f_holders_Valid f_holders_Get f_queue_Held f_line_Find f_mode_Covers f_amount_Covers f_queue_soundConverts f_line_Valid f_queue_soundWaits f_queue_Sound f_queue_head f_holders_proper f_holders_Set f_holders_Room f_queue_Settled f_queue_Valid f_slices_Grow_api_Wait_api_Wait_m f_slices_Concat_api_Wait_api_Wait f_queue_order f_queue_Wanted f_queue_clone_m f_mode_Sup f_amount_Join f_queue_Claim_1_m f_queue_advance_m f_queue_finish_m f_line_Insert f_queue_Claim_2_m f_queue_finish_m1 f_queue_Claim f_queue_Order f_holders_Procs_m f_slices_SortFunc_api_Proc_api_Proc_m f_slices_Compact_api_Proc_api_Proc_m f_ident_SortProcs f_queue_Procs f_slices_Index_api_Proc_api_Proc f_slices_Contains_api_Proc_api_Proc f_ident_HasProc f_queue_clone f_queue_Remove_1_m f_line_Remove f_queue_Remove_2_m f_queue_Remove_3_m f_queue_finish_m2 f_queue_Remove f_law12_awake f_ref05_ValidName f_ref05_ValidResource f_ref12_New f_ref10_Amounts f_ref04_Compatible f_ref10_Valid f_ref11_Find f_ref11_Valid f_ref10_Get f_ref12_Sound f_ref12_Head f_ref10_Set f_ref10_Room f_ref12_Settled f_ref12_Valid f_ref10_SameHolds f_ref11_SameWaits f_ref12_Same f_ref12_Wanted f_ref12_Copy_m f_ref12_Held f_ref03_Sup f_ref04_Join f_ref12_Copy f_ref12_Advance f_ref12_changed f_ref11_Insert f_ref12_Claim f_law12_same f_mill_Tape_Next_m f_mill_Catalog_m f_mill_Resource f_mill_Mode f_mill_Amount f_ref11_Remove f_ref12_Cancel f_ref12_Lower f_ref12_Has f_ref12_Remove f_law12_made f_ref02_HasProc f_ref02_SameProcs f_queue_Advance f_queue_Cancel_1_m f_queue_Cancel_2_m f_queue_finish_m3 f_queue_Cancel f_queue_Lower_1_m f_queue_finish_m4 f_queue_Lower f_law12_step f_line_Ahead_m f_holders_Against f_queue_Blockers f_holders_Procs f_line_Ahead
def r47_0 := [mo 6 .mv [oFa]]
def r47_1 := [oV 16 1,oC 17 31 [.t 16],mo 18 .not [.t 17]]
def r47_2 := [oC 19 18 [],oV 6 19]
def r47_3 := [oV 20 0,oV 21 1,oC 22 32 [.t 20, .t 21],mo 7 (.alloc 8 (Queue.enc Queue.zero)) [],oS 8 7 22]
def r47_4 := [oV 23 2,oC 24 34 [.t 23],mo 8 (.alloc 3 (Proc.enc Proc.zero)) [],oS 3 8 24]
def r47_5 := [oL 26 8 7,oL 27 3 8,oC 28 57 [.t 26, .t 27],oV 25 28,oE 29 0 25,oE 30 1 25,mo 9 (.alloc 2 (Amount.enc Amount.zero)) [],oS 2 9 29,oV 10 30]
def r47_6 := [oL 31 8 7,oL 32 3 8,oC 33 58 [.t 31, .t 32],oV 11 33]
def r47_7 := [oC 34 18 [],mo 35 .not [.t 34],oV 36 35,oG 37 36 false .mv [.t 10],oG 38 36 false .mv [.t 11],oG 39 36 false .len [.t 38],oG 40 36 false (.bin .gtr) [.t 39, oK 0],oG 41 36 false (.eqb true) [.t 37, .t 40],mo 42 .pick [.t 36, oTr, .t 41]]
def r47_8 := [mo 6 .mv [oFa]]
def r47_9 := [oI 12 0]
def r47_10 := [oV 43 12,oV 44 11,mo 45 .len [.t 44],oP 46 .lss [.t 43, .t 45]]
def r47_12 := [oL 50 8 7,oV 51 11,oV 52 12,mo 53 (.iaS 3 (Proc.enc Proc.zero)) [.t 51, .t 52],oL 54 3 53,oC 55 33 [.t 50, .t 54],oV 49 55,oE 56 0 49,oE 57 1 49,oE 58 2 49,mo 13 (.alloc 8 (Queue.enc Queue.zero)) [],oS 8 13 56,oV 14 57,oV 15 58]
def r47_13 := [oV 59 15,oP 60 .neq [.t 59, oK 0]]
def r47_14 := [mo 6 .mv [oFa]]
def r47_15 := [oL 61 8 13,oS 8 7 61]
def r47_11 := [oV 47 12,oP 48 .add [.t 47, oK 1],oV 12 48]
def r47_16 := [oV 62 10,mo 63 .not [.t 62],oV 64 63,oG 65 64 false (.load 8 true) [.t 7],oG 66 64 false (.load 3 true) [.t 8],oG 67 64 false (.call 37) [.t 65, .t 66],oG 68 64 false (.load 2 true) [.t 9],oG 69 64 false (.eqa false [.i .i64, .i .i64]) [.t 67, .t 68],mo 70 .pick [.t 64, oTr, .t 69],oV 6 70]
def pc_47 : PC := (.seq (.reg [] r47_0) (.seq (.seq (.reg [16, 17] r47_1) (.cond (.t 18) (.seq (.reg [19] r47_2) .ret) .skip)) (.seq (.reg [20, 21, 22] r47_3) (.seq (.reg [23, 24] r47_4) (.seq (.reg [25, 26, 27, 28, 29, 30] r47_5) (.seq (.reg [31, 32, 33] r47_6) (.seq (.seq (.reg [34, 35, 36, 37, 38, 39, 40, 41] r47_7) (.cond (.t 42) (.seq (.reg [] r47_8) .ret) .skip)) (.seq (.seq (.reg [] r47_9) (.block 0 (.loop (.seq (.seq (.reg [43, 44, 45] r47_10) (.cond (.t 46) .skip (.exit 0))) (.seq (.block 1 (.seq (.regm [14, 49, 50, 51, 52, 53, 54, 55, 56, 57, 58] [[], [], [], [1, 2], [3, 1, 2], [0, 4, 3, 1, 2], [5, 0, 4, 3, 1, 2], [6, 5, 0, 4, 3, 1, 2], [6, 5, 0, 4, 3, 1, 2], [6, 5, 0, 4, 3, 1, 2], [], [10, 7, 5, 0, 1, 2, 3, 4, 5, 6, 7, 10, 6, 5, 0, 4, 3, 1, 2, 0, 4, 3, 1, 2, 1, 2, 3, 1, 2, 0, 4, 3, 1, 2, 5, 0, 4, 3, 1, 2, 6, 5, 0, 4, 3, 1, 2], [8, 11, 0, 1, 2, 3, 4, 5, 6, 7, 8, 10, 11, 6, 5, 0, 4, 3, 1, 2, 10, 7, 5, 0, 1, 2, 3, 4, 5, 6, 7, 10, 6, 5, 0, 4, 3, 1, 2, 0, 4, 3, 1, 2, 1, 2, 3, 1, 2, 0, 4, 3, 1, 2, 5, 0, 4, 3, 1, 2, 6, 5, 0, 4, 3, 1, 2, 1, 2, 3, 1, 2, 0, 4, 3, 1, 2, 5, 0, 4, 3, 1, 2, 6, 5, 0, 4, 3, 1, 2, 6, 5, 0, 4, 3, 1, 2, 10, 7, 5, 0, 1, 2, 3, 4, 5, 6, 7, 10, 6, 5, 0, 4, 3, 1, 2, 0, 4, 3, 1, 2, 1, 2, 3, 1, 2, 0, 4, 3, 1, 2, 5, 0, 4, 3, 1, 2, 6, 5, 0, 4, 3, 1, 2], [9, 12, 0, 1, 2, 3, 4, 5, 6, 7, 8, 9, 10, 11, 12, 6, 5, 0, 4, 3, 1, 2, 8, 11, 0, 1, 2, 3, 4, 5, 6, 7, 8, 10, 11, 6, 5, 0, 4, 3, 1, 2, 10, 7, 5, 0, 1, 2, 3, 4, 5, 6, 7, 10, 6, 5, 0, 4, 3, 1, 2, 0, 4, 3, 1, 2, 1, 2, 3, 1, 2, 0, 4, 3, 1, 2, 5, 0, 4, 3, 1, 2, 6, 5, 0, 4, 3, 1, 2, 1, 2, 3, 1, 2, 0, 4, 3, 1, 2, 5, 0, 4, 3, 1, 2, 6, 5, 0, 4, 3, 1, 2, 6, 5, 0, 4, 3, 1, 2, 10, 7, 5, 0, 1, 2, 3, 4, 5, 6, 7, 10, 6, 5, 0, 4, 3, 1, 2, 0, 4, 3, 1, 2, 1, 2, 3, 1, 2, 0, 4, 3, 1, 2, 5, 0, 4, 3, 1, 2, 6, 5, 0, 4, 3, 1, 2, 1, 2, 3, 1, 2, 0, 4, 3, 1, 2, 5, 0, 4, 3, 1, 2, 6, 5, 0, 4, 3, 1, 2, 6, 5, 0, 4, 3, 1, 2, 6, 5, 0, 4, 3, 1, 2, 10, 7, 5, 0, 1, 2, 3, 4, 5, 6, 7, 10, 6, 5, 0, 4, 3, 1, 2, 0, 4, 3, 1, 2, 1, 2, 3, 1, 2, 0, 4, 3, 1, 2, 5, 0, 4, 3, 1, 2, 6, 5, 0, 4, 3, 1, 2, 8, 11, 0, 1, 2, 3, 4, 5, 6, 7, 8, 10, 11, 6, 5, 0, 4, 3, 1, 2, 10, 7, 5, 0, 1, 2, 3, 4, 5, 6, 7, 10, 6, 5, 0, 4, 3, 1, 2, 0, 4, 3, 1, 2, 1, 2, 3, 1, 2, 0, 4, 3, 1, 2, 5, 0, 4, 3, 1, 2, 6, 5, 0, 4, 3, 1, 2, 1, 2, 3, 1, 2, 0, 4, 3, 1, 2, 5, 0, 4, 3, 1, 2, 6, 5, 0, 4, 3, 1, 2, 6, 5, 0, 4, 3, 1, 2, 10, 7, 5, 0, 1, 2, 3, 4, 5, 6, 7, 10, 6, 5, 0, 4, 3, 1, 2, 0, 4, 3, 1, 2, 1, 2, 3, 1, 2, 0, 4, 3, 1, 2, 5, 0, 4, 3, 1, 2, 6, 5, 0, 4, 3, 1, 2]] r47_12) (.seq (.seq (.reg [59] r47_13) (.cond (.t 60) (.seq (.reg [] r47_14) .ret) .skip)) (.reg [61] r47_15)))) (.reg [47, 48] r47_11)))))) (.seq (.regd [62, 63, 64, 65, 66, 67, 68, 69, 70] r47_16) .ret)))))))))
theorem ck_47 : chkF C.P 15 pc_47 71 [.t 6] 3 = true := by kernel_rfl
attribute [go_sem] r47_0 r47_1 r47_2 r47_3 r47_4 r47_5 r47_6 r47_7 r47_8 r47_9 r47_10 r47_12 r47_13 r47_14 r47_15 r47_11 r47_16

noncomputable def f_law12_QueueBlocked_k1 (v3 : Proc) (v4 : Amount × Bool) (j1 : Queue) : Option (Bool) :=
 ((if v4.2 = true then f_queue_Held j1 v3 else some (Amount.zero))).bind fun v7 =>
 some ((!v4.2) || (decide (v7 = v4.1)))
@[go_sem] def J47_k1 (v3 : Proc) (v4 : Amount × Bool) (j1 : Queue) : St := ⟨[(7, .ptr 0 0 0), (8, .ptr 1 0 0), (9, .ptr 2 0 0), (10, .bool v4.2)], [(0, ⟨false, 8, (Queue.enc Queue.zero), [Queue.enc j1]⟩), (1, ⟨false, 3, (Proc.enc Proc.zero), [Proc.enc v3]⟩), (2, ⟨false, 2, (Amount.enc Amount.zero), [Amount.enc v4.1]⟩)], 3⟩
noncomputable def f_law12_QueueBlocked_l1 (v5 : (List Proc)) (g1 : Int × Queue) : Option ((Int × Queue) ⊕ ((Queue) ⊕ (Bool))) :=
 (if (decide (g1.1 < (v5.length : Int))) = true then
  gd (0 ≤ g1.1 ∧ g1.1 < (v5.length : Int)) <|
  (f_queue_Remove g1.2 (v5.getD g1.1.toNat Proc.zero)).bind fun v8 =>
  (if (!decide (v8.2.2 = 0)) = true then
   some (.inr (.inr false))
  else
   some (.inl ((IntKind.i64.wrap (g1.1 + 1)), v8.1)))
 else
  some (.inr (.inl g1.2)))
@[go_sem] def I47_l1 (v3 : Proc) (v4 : Amount × Bool) (v5 : (List Proc)) (g1 : Int × Queue) : St := ⟨[(7, .ptr 0 0 0), (8, .ptr 1 0 0), (9, .ptr 2 0 0), (10, .bool v4.2), (11, .sl (v5.map Proc.enc)), (12, .int .i64 g1.1)], [(0, ⟨false, 8, (Queue.enc Queue.zero), [Queue.enc g1.2]⟩), (1, ⟨false, 3, (Proc.enc Proc.zero), [Proc.enc v3]⟩), (2, ⟨false, 2, (Amount.enc Amount.zero), [Amount.enc v4.1]⟩)], 3⟩
noncomputable def f_law12_QueueBlocked (a0 : Int) (a1 : List Int) (a2 : Int) : Option (Bool) :=
 (if (!(f_mill_Light a1)) = true then
  (f_law12_awake).bind fun v1 =>
  some v1
 else
  (f_law12_made a0 a1).bind fun v2 =>
  (f_mill_Proc a2).bind fun v3 =>
  (f_queue_Wanted v2 v3).bind fun v4 =>
  (f_queue_Blockers v2 v3).bind fun v5 =>
  (f_law12_awake).bind fun v6 =>
  (if ((!v6) || (!decide (v4.2 = (decide (0 < (v5.length : Int)))))) = true then
   some false
  else
   (loopO (f_law12_QueueBlocked_l1 v5) (0, v2)).bind (fun | .inl z => f_law12_QueueBlocked_k1 v3 v4 z | .inr z => some z)))
theorem law12_QueueBlocked_ok (a0 : Int) (a1 : List Int) (a2 : Int) (r : Bool) (h : f_law12_QueueBlocked a0 a1 a2 = some r) : PFn C 15 [.int .i64 a0, .sl (a1.map (eI .i64)), .int .i64 a2] (.bool r) := by
 refine pfn_intro ck_47 rfl fun E hG hN hK => ?_
 unfold pc_47
 unfold f_law12_QueueBlocked at h
 refine s_seq (g_reg hG ?_)
 refine s_seq (s_seq (g_reg hG ?_))
 refine g_call (fun hg => mill_Light_ok a1) ?_
 refine g_cond rfl hG h (fun _ h => ?_) (fun _ h => ?_)
 · refine s_seq (g_reg hG ?_)
   obtain ⟨v1, hv1, h⟩ := bind_of h
   refine g_call (fun hg => law12_awake_ok  _ (hv1)) ?_
   refine g_ret ?_
   exact g_end h
 refine g_skip ?_
 refine s_seq (g_reg hG ?_)
 obtain ⟨v2, hv2, h⟩ := bind_of h
 refine g_call (fun hg => law12_made_ok a0 a1 _ (hv2)) ?_
 refine s_seq (g_reg hG ?_)
 obtain ⟨v3, hv3, h⟩ := bind_of h
 refine g_call (fun hg => mill_Proc_ok a2 _ (hv3)) ?_
 refine s_seq (g_reg hG ?_)
 obtain ⟨v4, hv4, h⟩ := bind_of h
 refine g_call (fun hg => queue_Wanted_ok v2 v3 _ (hv4)) ?_
 refine s_seq (g_reg hG ?_)
 obtain ⟨v5, hv5, h⟩ := bind_of h
 refine g_call (fun hg => queue_Blockers_ok v2 v3 _ (hv5)) ?_
 refine s_seq (s_seq (g_reg hG ?_))
 obtain ⟨v6, hv6, h⟩ := bind_of h
 refine g_call (fun hg => law12_awake_ok  _ (hv6)) ?_
 refine g_cond rfl hG h (fun _ h => ?_) (fun _ h => ?_)
 · refine s_seq (g_reg hG ?_)
   refine g_ret ?_
   exact g_end h
 refine g_skip ?_
 refine s_seq (s_seq (g_reg hG ?_))
 refine s_blockJ (J47_k1 v3 v4) (fun v => f_law12_QueueBlocked_k1 v3 v4 v = some r) ?_ ?_
 · intro j1 h
   unfold f_law12_QueueBlocked_k1 at h
   refine g_st ?_
   refine s_seq (g_regd C_mixed hG ?_)
   obtain ⟨v7, hv7, h⟩ := bind_of h
   refine g_calld (fun hg => queue_Held_ok j1 v3 _ (ite_t hg hv7)) ?_
   refine g_ret ?_
   exact g_end h
 refine g_loop (I47_l1 v3 v4 v5) hK [(0, 0), (1, 1), (2, 2)] h (fun x_l1 h g1 y_l1 h_l1 hx_l1 => ?_)
 unfold f_law12_QueueBlocked_l1 at h_l1
 refine g_st ?_
 refine s_seq (s_seq (g_reg hG ?_))
 refine g_cond rfl hG h_l1 (fun _ h_l1 => ?_) (fun _ h_l1 => ?_)
 · refine g_skip ?_
   refine s_seq (s_block (s_seq ?_))
   obtain ⟨hb1, h_l1⟩ := gd_some h_l1
   refine g_regm C_mixed hG ?_
   obtain ⟨v8, hv8, h_l1⟩ := bind_of h_l1
   refine g_callM (fun hg => queue_Remove_ok g1.2 (v5.getD g1.1.toNat Proc.zero) _ (hv8)) ?_
   refine s_seq (s_seq (g_reg hG ?_))
   refine g_cond rfl hG h_l1 (fun _ h_l1 => ?_) (fun _ h_l1 => ?_)
   · refine s_seq (g_reg hG ?_)
     refine g_ret ?_
     obtain rfl := Option.some.inj h_l1
     have hx := hx_l1 _ rfl
     subst hx
     try dsimp only at h
     exact g_end h
   refine g_skip ?_
   refine g_reg hG ?_
   refine g_reg hG ?_
   exact g_next hK [(0, 0), (1, 1), (2, 2)] h_l1
 refine g_exit ?_
 obtain rfl := Option.some.inj h_l1
 have hx := hx_l1 _ rfl
 subst hx
 try dsimp only at h
 exact g_join hK [(0, 0), (1, 1), (2, 2)] g1.2 (by exact h)
attribute [local irreducible] f_law12_QueueBlocked
end Ab
end Go.Proofs.YtdflfohpemfeiaaGreatDoor
