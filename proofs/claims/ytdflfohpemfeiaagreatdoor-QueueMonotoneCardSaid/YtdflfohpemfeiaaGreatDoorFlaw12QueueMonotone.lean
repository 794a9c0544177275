/-
  A law's own code and what it computes.
-/
import Derived.Test.YtdflfohpemfeiaaGreatDoorFn
namespace Go.Proofs.YtdflfohpemfeiaaGreatDoor
namespace Ab
set_option linter.unusedSimpArgs false
set_option linter.unusedVariables false
set_option maxRecDepth 100000
set_option maxHeartbeats 1000000

attribute [local irreducible] f_mill_Mod f_mill_Proc f_catalog_ValidName f_catalog_ValidResource f_queue_New f_ident_compare f_ident_CompareProc f_mode_Compatible f_amount_Compatible f_holders_Valid f_holders_Get f_queue_Held f_line_Find f_mode_Covers f_amount_Covers f_queue_soundConverts f_line_Valid f_queue_soundWaits f_queue_Sound f_queue_head f_holders_proper f_holders_Set f_holders_Room f_queue_Settled f_queue_Valid f_slices_Grow_api_Wait_api_Wait_m f_slices_Concat_api_Wait_api_Wait f_queue_order f_queue_Wanted f_queue_clone_m f_mode_Sup f_amount_Join f_queue_Claim_1_m f_queue_advance_m f_queue_finish_m f_line_Insert f_queue_Claim_2_m f_queue_finish_m1 f_queue_Claim f_queue_Order f_holders_Procs_m f_slices_SortFunc_api_Proc_api_Proc_m f_slices_Compact_api_Proc_api_Proc_m f_ident_SortProcs f_queue_Procs f_slices_Index_api_Proc_api_Proc f_slices_Contains_api_Proc_api_Proc f_ident_HasProc f_queue_clone f_queue_Remove_1_m f_line_Remove f_queue_Remove_2_m f_queue_Remove_3_m f_queue_finish_m2 f_queue_Remove f_law12_awake f_ref05_ValidName f_ref05_ValidResource f_ref12_New f_ref10_Amounts f_ref04_Compatible f_ref10_Valid f_ref11_Find f_ref11_Valid f_ref10_Get f_ref12_Sound f_ref12_Head f_ref10_Set f_ref10_Room f_ref12_Settled f_ref12_Valid f_ref10_SameHolds f_ref11_SameWaits f_ref12_Same f_ref12_Wanted f_ref12_Copy_m f_ref12_Held f_ref03_Sup f_ref04_Join f_ref12_Copy f_ref12_Advance f_ref12_changed f_ref11_Insert f_ref12_Claim f_law12_same f_mill_Tape_Next_m f_mill_Catalog_m f_mill_Resource f_mill_Mode f_mill_Amount f_ref11_Remove f_ref12_Cancel f_ref12_Lower f_ref12_Has f_ref12_Remove f_law12_made f_ref02_HasProc f_ref02_SameProcs f_queue_Advance f_queue_Cancel_1_m f_queue_Cancel_2_m f_queue_finish_m3 f_queue_Cancel f_queue_Lower_1_m f_queue_finish_m4 f_queue_Lower f_law12_step f_line_Ahead_m f_holders_Against f_queue_Blockers f_holders_Procs f_line_Ahead
def r3l_0 := [mo 8 .mv [oFa]]
def r3l_1 := [oV 23 1,oC 24 31 [.t 23],mo 25 .not [.t 24],oV 26 25,oG 27 26 false .mv [.t 2],oG 28 26 false .len [.t 27],oG 29 26 false (.bin .gtr) [.t 28, oK 8],mo 30 .pick [.t 26, oTr, .t 29],oV 31 30,oG 32 31 false .mv [.t 3],oG 33 31 false .len [.t 32],oG 34 31 false (.bin .gtr) [.t 33, oK 8],mo 35 .pick [.t 31, oTr, .t 34]]
def r3l_2 := [oC 36 18 [],oV 8 36]
def r3l_3 := [oV 37 0,oV 38 1,oC 39 32 [.t 37, .t 38],mo 9 (.alloc 8 (Queue.enc Queue.zero)) [],oS 8 9 39]
def r3l_4 := [mo 10 (.nilown 3 (Proc.enc Proc.zero)) [.c (A.full [])]]
def r3l_5 := [oI 11 0]
def r3l_6 := [oV 40 11,oV 41 2,mo 42 .len [.t 41],oP 43 .lss [.t 40, .t 42]]
def r3l_8 := [oL 47 8 9,oV 48 2,oV 49 11,mo 50 (.iaS 1 [A.int .i64 0]) [.t 48, .t 49],oM 51 1 50,oC 52 34 [.t 51],oC 53 33 [.t 47, .t 52],oV 46 53,oE 54 0 46,oE 55 1 46,oE 56 2 46,mo 12 (.alloc 8 (Queue.enc Queue.zero)) [],oS 8 12 54,oV 13 55,oV 14 56]
def r3l_9 := [oV 57 14,oP 58 .eql [.t 57, oK 0]]
def r3l_10 := [oL 59 8 12,oS 8 9 59]
def r3l_7 := [oV 44 11,oP 45 .add [.t 44, oK 1],oV 11 45]
def r3l_11 := [oL 60 8 9,mo 15 (.alloc 8 (Queue.enc Queue.zero)) [],oS 8 15 60]
def r3l_12 := [oI 16 0]
def r3l_13 := [oV 61 16,oV 62 3,mo 63 .len [.t 62],oP 64 .lss [.t 61, .t 63]]
def r3l_15 := [oV 67 3,oV 68 16,mo 69 (.iaS 1 [A.int .i64 0]) [.t 67, .t 68],oM 70 1 69,oC 71 34 [.t 70],mo 17 (.alloc 3 (Proc.enc Proc.zero)) [],oS 3 17 71]
def r3l_16 := [oV 72 10,oL 73 3 17,mo 74 (.bslice 3 (Proc.enc Proc.zero)) [.t 73],mo 75 (.append 3 24 (Proc.enc Proc.zero)) [.t 72, .t 74],oV 10 75]
def r3l_17 := [oL 77 8 15,oL 78 3 17,oC 79 33 [.t 77, .t 78],oV 76 79,oE 80 0 76,oE 81 1 76,oE 82 2 76,mo 18 (.alloc 8 (Queue.enc Queue.zero)) [],oS 8 18 80,oV 19 81,oV 20 82]
def r3l_18 := [oV 83 20,oP 84 .eql [.t 83, oK 0]]
def r3l_19 := [oL 85 8 18,oS 8 15 85]
def r3l_14 := [oV 65 16,oP 66 .add [.t 65, oK 1],oV 16 66]
def r3l_20 := [oI 21 0]
def r3l_21 := [oV 86 21,oP 87 .lss [.t 86, oK 8]]
def r3l_23 := [oV 90 21,oC 91 34 [.t 90],mo 22 (.alloc 3 (Proc.enc Proc.zero)) [],oS 3 22 91]
def r3l_24 := [oV 92 10,oL 93 3 22,oC 94 35 [.t 92, .t 93],mo 95 .not [.t 94],oV 96 95,oG 97 96 true (.faddr 0) [.t 9],oG 98 96 true (.load 4 true) [.t 97],oG 99 96 true (.load 8 true) [.t 15],oG 100 96 true (.load 3 true) [.t 22],oG 101 96 true (.call 37) [.t 99, .t 100],oG 102 96 true (.load 8 true) [.t 9],
 oG 103 96 true (.load 3 true) [.t 22],oG 104 96 true (.call 37) [.t 102, .t 103],oG 105 96 true (.call 36) [.t 98, .t 101, .t 104],oG 106 96 true .not [.t 105],mo 107 .pick [.t 96, .t 106, oFa]]
def r3l_25 := [mo 8 .mv [oFa]]
def r3l_22 := [oV 88 21,oP 89 .add [.t 88, oK 1],oV 21 89]
def r3l_26 := [oC 108 18 [],oV 8 108]
def pc_3l : PC := (.seq (.reg [] r3l_0) (.seq (.seq (.reg [23, 24, 25, 26, 27, 28, 29, 30, 31, 32, 33, 34] r3l_1) (.cond (.t 35) (.seq (.reg [36] r3l_2) .ret) .skip)) (.seq (.reg [37, 38, 39] r3l_3) (.seq (.reg [] r3l_4) (.seq (.seq (.reg [] r3l_5) (.block 0 (.loop (.seq (.seq (.reg [40, 41, 42] r3l_6) (.cond (.t 43) .skip (.exit 0))) (.seq (.block 1 (.seq (.regm [13, 46, 47, 48, 49, 50, 51, 52, 53, 54, 55, 56] [[], [], [], [1, 2], [3, 1, 2], [4, 3, 1, 2], [0, 5, 5, 4, 3, 1, 2, 4, 3, 1, 2], [6, 0, 5, 5, 4, 3, 1, 2, 4, 3, 1, 2], [7, 6, 0, 5, 5, 4, 3, 1, 2, 4, 3, 1, 2], [7, 6, 0, 5, 5, 4, 3, 1, 2, 4, 3, 1, 2], [7, 6, 0, 5, 5, 4, 3, 1, 2, 4, 3, 1, 2], [], [11, 8, 6, 0, 1, 2, 3, 4, 5, 6, 7, 8, 11, 7, 6, 0, 5, 5, 4, 3, 1, 2, 4, 3, 1, 2, 0, 5, 5, 4, 3, 1, 2, 4, 3, 1, 2, 1, 2, 3, 1, 2, 4, 3, 1, 2, 0, 5, 5, 4, 3, 1, 2, 4, 3, 1, 2, 6, 0, 5, 5, 4, 3, 1, 2, 4, 3, 1, 2, 7, 6, 0, 5, 5, 4, 3, 1, 2, 4, 3, 1, 2], [9, 12, 0, 1, 2, 3, 4, 5, 6, 7, 8, 9, 11, 12, 7, 6, 0, 5, 5, 4, 3, 1, 2, 4, 3, 1, 2, 11, 8, 6, 0, 1, 2, 3, 4, 5, 6, 7, 8, 11, 7, 6, 0, 5, 5, 4, 3, 1, 2, 4, 3, 1, 2, 0, 5, 5, 4, 3, 1, 2, 4, 3, 1, 2, 1, 2, 3, 1, 2, 4, 3, 1, 2, 0, 5, 5, 4, 3, 1, 2, 4, 3, 1, 2, 6, 0, 5, 5, 4, 3, 1, 2, 4, 3, 1, 2, 7, 6, 0, 5, 5, 4, 3, 1, 2, 4, 3, 1, 2, 1, 2, 3, 1, 2, 4, 3, 1, 2, 0, 5, 5, 4, 3, 1, 2, 4, 3, 1, 2, 6, 0, 5, 5, 4, 3, 1, 2, 4, 3, 1, 2, 7, 6, 0, 5, 5, 4, 3, 1, 2, 4, 3, 1, 2, 7, 6, 0, 5, 5, 4, 3, 1, 2, 4, 3, 1, 2, 11, 8, 6, 0, 1, 2, 3, 4, 5, 6, 7, 8, 11, 7, 6, 0, 5, 5, 4, 3, 1, 2, 4, 3, 1, 2, 0, 5, 5, 4, 3, 1, 2, 4, 3, 1, 2, 1, 2, 3, 1, 2, 4, 3, 1, 2, 0, 5, 5, 4, 3, 1, 2, 4, 3, 1, 2, 6, 0, 5, 5, 4, 3, 1, 2, 4, 3, 1, 2, 7, 6, 0, 5, 5, 4, 3, 1, 2, 4, 3, 1, 2], [10, 13, 0, 1, 2, 3, 4, 5, 6, 7, 8, 9, 10, 11, 12, 13, 7, 6, 0, 5, 5, 4, 3, 1, 2, 4, 3, 1, 2, 9, 12, 0, 1, 2, 3, 4, 5, 6, 7, 8, 9, 11, 12, 7, 6, 0, 5, 5, 4, 3, 1, 2, 4, 3, 1, 2, 11, 8, 6, 0, 1, 2, 3, 4, 5, 6, 7, 8, 11, 7, 6, 0, 5, 5, 4, 3, 1, 2, 4, 3, 1, 2, 0, 5, 5, 4, 3, 1, 2, 4, 3, 1, 2, 1, 2, 3, 1, 2, 4, 3, 1, 2, 0, 5, 5, 4, 3, 1, 2, 4, 3, 1, 2, 6, 0, 5, 5, 4, 3, 1, 2, 4, 3, 1, 2, 7, 6, 0, 5, 5, 4, 3, 1, 2, 4, 3, 1, 2, 1, 2, 3, 1, 2, 4, 3, 1, 2, 0, 5, 5, 4, 3, 1, 2, 4, 3, 1, 2, 6, 0, 5, 5, 4, 3, 1, 2, 4, 3, 1, 2, 7, 6, 0, 5, 5, 4, 3, 1, 2, 4, 3, 1, 2, 7, 6, 0, 5, 5, 4, 3, 1, 2, 4, 3, 1, 2, 11, 8, 6, 0, 1, 2, 3, 4, 5, 6, 7, 8, 11, 7, 6, 0, 5, 5, 4, 3, 1, 2, 4, 3, 1, 2, 0, 5, 5, 4, 3, 1, 2, 4, 3, 1, 2, 1, 2, 3, 1, 2, 4, 3, 1, 2, 0, 5, 5, 4, 3, 1, 2, 4, 3, 1, 2, 6, 0, 5, 5, 4, 3, 1, 2, 4, 3, 1, 2, 7, 6, 0, 5, 5, 4, 3, 1, 2, 4, 3, 1, 2, 1, 2, 3, 1, 2, 4, 3, 1, 2, 0, 5, 5, 4, 3, 1, 2, 4, 3, 1, 2, 6, 0, 5, 5, 4, 3, 1, 2, 4, 3, 1, 2, 7, 6, 0, 5, 5, 4, 3, 1, 2, 4, 3, 1, 2, 7, 6, 0, 5, 5, 4, 3, 1, 2, 4, 3, 1, 2, 7, 6, 0, 5, 5, 4, 3, 1, 2, 4, 3, 1, 2, 11, 8, 6, 0, 1, 2, 3, 4, 5, 6, 7, 8, 11, 7, 6, 0, 5, 5, 4, 3, 1, 2, 4, 3, 1, 2, 0, 5, 5, 4, 3, 1, 2, 4, 3, 1, 2, 1, 2, 3, 1, 2, 4, 3, 1, 2, 0, 5, 5, 4, 3, 1, 2, 4, 3, 1, 2, 6, 0, 5, 5, 4, 3, 1, 2, 4, 3, 1, 2, 7, 6, 0, 5, 5, 4, 3, 1, 2, 4, 3, 1, 2, 9, 12, 0, 1, 2, 3, 4, 5, 6, 7, 8, 9, 11, 12, 7, 6, 0, 5, 5, 4, 3, 1, 2, 4, 3, 1, 2, 11, 8, 6, 0, 1, 2, 3, 4, 5, 6, 7, 8, 11, 7, 6, 0, 5, 5, 4, 3, 1, 2, 4, 3, 1, 2, 0, 5, 5, 4, 3, 1, 2, 4, 3, 1, 2, 1, 2, 3, 1, 2, 4, 3, 1, 2, 0, 5, 5, 4, 3, 1, 2, 4, 3, 1, 2, 6, 0, 5, 5, 4, 3, 1, 2, 4, 3, 1, 2, 7, 6, 0, 5, 5, 4, 3, 1, 2, 4, 3, 1, 2, 1, 2, 3, 1, 2, 4, 3, 1, 2, 0, 5, 5, 4, 3, 1, 2, 4, 3, 1, 2, 6, 0, 5, 5, 4, 3, 1, 2, 4, 3, 1, 2, 7, 6, 0, 5, 5, 4, 3, 1, 2, 4, 3, 1, 2, 7, 6, 0, 5, 5, 4, 3, 1, 2, 4, 3, 1, 2, 11, 8, 6, 0, 1, 2, 3, 4, 5, 6, 7, 8, 11, 7, 6, 0, 5, 5, 4, 3, 1, 2, 4, 3, 1, 2, 0, 5, 5, 4, 3, 1, 2, 4, 3, 1, 2, 1, 2, 3, 1, 2, 4, 3, 1, 2, 0, 5, 5, 4, 3, 1, 2, 4, 3, 1, 2, 6, 0, 5, 5, 4, 3, 1, 2, 4, 3, 1, 2, 7, 6, 0, 5, 5, 4, 3, 1, 2, 4, 3, 1, 2]] r3l_8) (.seq (.reg [57] r3l_9) (.cond (.t 58) (.reg [59] r3l_10) .skip)))) (.reg [44, 45] r3l_7)))))) (.seq (.reg [60] r3l_11) (.seq (.seq (.reg [] r3l_12) (.block 2 (.loop (.seq (.seq (.reg [61, 62, 63] r3l_13) (.cond (.t 64) .skip (.exit 2))) (.seq (.block 3 (.seq (.reg [67, 68, 69, 70, 71] r3l_15) (.seq (.reg [72, 73, 74, 75] r3l_16) (.seq (.reg [19, 76, 77, 78, 79, 80, 81, 82] r3l_17) (.seq (.reg [83] r3l_18) (.cond (.t 84) (.reg [85] r3l_19) .skip)))))) (.reg [65, 66] r3l_14)))))) (.seq (.seq (.reg [] r3l_20) (.block 4 (.loop (.seq (.seq (.reg [86] r3l_21) (.cond (.t 87) .skip (.exit 4))) (.seq (.block 5 (.seq (.reg [90, 91] r3l_23) (.seq (.regd [92, 93, 94, 95, 96, 97, 98, 99, 100, 101, 102, 103, 104, 105, 106] r3l_24) (.cond (.t 107) (.seq (.reg [] r3l_25) .ret) .skip)))) (.reg [88, 89] r3l_22)))))) (.seq (.reg [108] r3l_26) .ret)))))))))
theorem ck_3l : chkF C.P 6 pc_3l 109 [.t 8] 4 = true := by kernel_rfl
attribute [go_sem] r3l_0 r3l_1 r3l_2 r3l_3 r3l_4 r3l_5 r3l_6 r3l_8 r3l_9 r3l_10 r3l_7 r3l_11 r3l_12 r3l_13 r3l_15 r3l_16 r3l_17 r3l_18 r3l_19 r3l_14 r3l_20 r3l_21 r3l_23 r3l_24 r3l_25 r3l_22 r3l_26

noncomputable def f_law12_QueueMonotone_k3  (j3 : Unit) : Option (Bool) :=
 (f_law12_awake).bind fun v3 =>
 some v3
@[go_sem] def J3l_k3  (j3 : Unit) : St := ⟨[], [], 0⟩
noncomputable def f_law12_QueueMonotone_l1 (j1 : Queue) (j2 : (List Proc) × Queue) (g1 : Int) : Option ((Int) ⊕ ((Unit) ⊕ (Bool))) :=
 (if (decide (g1 < 8)) = true then
  (f_mill_Proc g1).bind fun v4 =>
  (f_ref02_HasProc j2.1 v4).bind fun v5 =>
  ((if (!v5) = true then f_queue_Held j2.2 v4 else some (Amount.zero))).bind fun v6 =>
  ((if (!v5) = true then f_queue_Held j1 v4 else some (Amount.zero))).bind fun v7 =>
  (if ((!v5) && (!(f_ref04_Covers j1.resource v6 v7))) = true then
   some (.inr (.inr false))
  else
   some (.inl (IntKind.i64.wrap (g1 + 1))))
 else
  some (.inr (.inl ())))
@[go_sem] def I3l_l1 (j1 : Queue) (j2 : (List Proc) × Queue) (g1 : Int) : St := ⟨[(9, .ptr 0 0 0), (10, .own 1 0 j2.1.length), (15, .ptr 2 0 0), (21, .int .i64 g1)], [(0, ⟨false, 8, (Queue.enc Queue.zero), [Queue.enc j1]⟩), (1, ⟨false, 3, (Proc.enc Proc.zero), j2.1.map Proc.enc⟩), (2, ⟨false, 8, (Queue.enc Queue.zero), [Queue.enc j2.2]⟩)], 3⟩
noncomputable def f_law12_QueueMonotone_k2 (j1 : Queue) (j2 : (List Proc) × Queue) : Option (Bool) :=
 (loopO (f_law12_QueueMonotone_l1 j1 j2) 0).bind (fun | .inl z => f_law12_QueueMonotone_k3 z | .inr z => some z)
@[go_sem] def J3l_k2 (j1 : Queue) (j2 : (List Proc) × Queue) : St := ⟨[(9, .ptr 0 0 0), (10, .own 1 0 j2.1.length), (15, .ptr 2 0 0)], [(0, ⟨false, 8, (Queue.enc Queue.zero), [Queue.enc j1]⟩), (1, ⟨false, 3, (Proc.enc Proc.zero), j2.1.map Proc.enc⟩), (2, ⟨false, 8, (Queue.enc Queue.zero), [Queue.enc j2.2]⟩)], 3⟩
noncomputable def f_law12_QueueMonotone_l2 (a3 : List Int) (g2 : Int × (List Proc) × Queue) : Option ((Int × (List Proc) × Queue) ⊕ (((List Proc) × Queue))) :=
 (if (decide (g2.1 < (a3.length : Int))) = true then
  gd (0 ≤ g2.1 ∧ g2.1 < (a3.length : Int)) <|
  (f_mill_Proc (a3.getD g2.1.toNat 0)).bind fun v8 =>
  gd (g2.2.1.length + 1 ≤ 4294967296) <|
  (f_queue_Remove g2.2.2 v8).bind fun v9 =>
  (if (decide (v9.2.2 = 0)) = true then
   some (.inl ((IntKind.i64.wrap (g2.1 + 1)), (g2.2.1 ++ [v8]), v9.1))
  else
   some (.inl ((IntKind.i64.wrap (g2.1 + 1)), (g2.2.1 ++ [v8]), g2.2.2)))
 else
  some (.inr (g2.2.1, g2.2.2)))
@[go_sem] def I3l_l2 (a3 : List Int) (j1 : Queue) (g2 : Int × (List Proc) × Queue) : St := ⟨[(3, .sl (a3.map (eI .i64))), (9, .ptr 0 0 0), (10, .own 1 0 g2.2.1.length), (15, .ptr 2 0 0), (16, .int .i64 g2.1)], [(0, ⟨false, 8, (Queue.enc Queue.zero), [Queue.enc j1]⟩), (1, ⟨false, 3, (Proc.enc Proc.zero), g2.2.1.map Proc.enc⟩), (2, ⟨false, 8, (Queue.enc Queue.zero), [Queue.enc g2.2.2]⟩)], 3⟩
noncomputable def f_law12_QueueMonotone_k1 (a3 : List Int) (j1 : Queue) : Option (Bool) :=
 (loopO (f_law12_QueueMonotone_l2 a3) (0, [], j1)).bind (fun z => f_law12_QueueMonotone_k2 j1 z)
@[go_sem] def J3l_k1 (a3 : List Int) (j1 : Queue) : St := ⟨[(3, .sl (a3.map (eI .i64))), (9, .ptr 0 0 0), (10, .own 1 0 0)], [(0, ⟨false, 8, (Queue.enc Queue.zero), [Queue.enc j1]⟩), (1, ⟨false, 3, (Proc.enc Proc.zero), [].map Proc.enc⟩)], 2⟩
noncomputable def f_law12_QueueMonotone_l3 (a2 : List Int) (g3 : Int × Queue) : Option ((Int × Queue) ⊕ ((Queue))) :=
 (if (decide (g3.1 < (a2.length : Int))) = true then
  gd (0 ≤ g3.1 ∧ g3.1 < (a2.length : Int)) <|
  (f_mill_Proc (a2.getD g3.1.toNat 0)).bind fun v10 =>
  (f_queue_Remove g3.2 v10).bind fun v11 =>
  (if (decide (v11.2.2 = 0)) = true then
   some (.inl ((IntKind.i64.wrap (g3.1 + 1)), v11.1))
  else
   some (.inl ((IntKind.i64.wrap (g3.1 + 1)), g3.2)))
 else
  some (.inr g3.2))
@[go_sem] def I3l_l3 (a2 : List Int) (a3 : List Int) (g3 : Int × Queue) : St := ⟨[(2, .sl (a2.map (eI .i64))), (3, .sl (a3.map (eI .i64))), (9, .ptr 0 0 0), (10, .own 1 0 0), (11, .int .i64 g3.1)], [(0, ⟨false, 8, (Queue.enc Queue.zero), [Queue.enc g3.2]⟩), (1, ⟨false, 3, (Proc.enc Proc.zero), [].map Proc.enc⟩)], 2⟩
noncomputable def f_law12_QueueMonotone (a0 : Int) (a1 : List Int) (a2 : List Int) (a3 : List Int) : Option (Bool) :=
 (if (((!(f_mill_Light a1)) || (decide (8 < (a2.length : Int)))) || (decide (8 < (a3.length : Int)))) = true then
  (f_law12_awake).bind fun v1 =>
  some v1
 else
  (f_law12_made a0 a1).bind fun v2 =>
  (loopO (f_law12_QueueMonotone_l3 a2) (0, v2)).bind (fun z => f_law12_QueueMonotone_k1 a3 z))
theorem law12_QueueMonotone_ok (a0 : Int) (a1 : List Int) (a2 : List Int) (a3 : List Int) (r : Bool) (h : f_law12_QueueMonotone a0 a1 a2 a3 = some r) : PFn C 6 [.int .i64 a0, .sl (a1.map (eI .i64)), .sl (a2.map (eI .i64)), .sl (a3.map (eI .i64))] (.bool r) := by
 refine pfn_intro ck_3l rfl fun E hG hN hK => ?_
 unfold pc_3l
 unfold f_law12_QueueMonotone at h
 refine s_seq (g_reg hG ?_)
 refine s_seq (s_seq (g_reg hG ?_))
 refine g_call (fun hg => mill_Light_ok a1) ?_
 refine g_cond rfl hG h (fun _ h => ?_) (fun _ h => ?_)
 · refine s_seq (g_reg hG ?_)
   obtain ⟨v1, hv1, h⟩ := bind_of h
   refine g_call (fun hg => law12_awake_ok  _ (hv1)) ?_
   refine g_ret ?_
   exact g_end h
 refine g_skip ?_
 refine s_seq (g_reg hG ?_)
 obtain ⟨v2, hv2, h⟩ := bind_of h
 refine g_call (fun hg => law12_made_ok a0 a1 _ (hv2)) ?_
 refine s_seq (g_reg hG ?_)
 refine s_seq (s_seq (g_reg hG ?_))
 refine s_blockJ (J3l_k1 a3) (fun v => f_law12_QueueMonotone_k1 a3 v = some r) ?_ ?_
 · intro j1 h
   unfold f_law12_QueueMonotone_k1 at h
   refine g_st ?_
   refine s_seq (g_reg hG ?_)
   refine s_seq (s_seq (g_reg hG ?_))
   refine s_blockJ (J3l_k2 j1) (fun v => f_law12_QueueMonotone_k2 j1 v = some r) ?_ ?_
   · intro j2 h
     unfold f_law12_QueueMonotone_k2 at h
     refine g_st ?_
     refine s_seq (s_seq (g_reg hG ?_))
     refine s_blockJ (J3l_k3) (fun v => f_law12_QueueMonotone_k3 v = some r) ?_ ?_
     · intro j3 h
       unfold f_law12_QueueMonotone_k3 at h
       refine g_st ?_
       refine s_seq (g_reg hG ?_)
       obtain ⟨v3, hv3, h⟩ := bind_of h
       refine g_call (fun hg => law12_awake_ok  _ (hv3)) ?_
       refine g_ret ?_
       exact g_end h
     refine g_loop (I3l_l1 j1 j2) hK [(0, 0), (1, 1), (2, 2)] h (fun x_l1 h g1 y_l1 h_l1 hx_l1 => ?_)
     unfold f_law12_QueueMonotone_l1 at h_l1
     refine g_st ?_
     refine s_seq (s_seq (g_reg hG ?_))
     refine g_cond rfl hG h_l1 (fun _ h_l1 => ?_) (fun _ h_l1 => ?_)
     · refine g_skip ?_
       refine s_seq (s_block (s_seq (g_reg hG ?_)))
       obtain ⟨v4, hv4, h_l1⟩ := bind_of h_l1
       refine g_call (fun hg => mill_Proc_ok g1 _ (hv4)) ?_
       refine s_seq (g_regd C_mixed hG ?_)
       obtain ⟨v5, hv5, h_l1⟩ := bind_of h_l1
       refine g_calld (fun hg => ref02_HasProc_ok j2.1 v4 _ (hv5)) ?_
       obtain ⟨v6, hv6, h_l1⟩ := bind_of h_l1
       refine g_calld (fun hg => queue_Held_ok j2.2 v4 _ (ite_t hg hv6)) ?_
       obtain ⟨v7, hv7, h_l1⟩ := bind_of h_l1
       refine g_calld (fun hg => queue_Held_ok j1 v4 _ (ite_t hg hv7)) ?_
       refine g_calld (fun hg => ref04_Covers_ok j1.resource v6 v7) ?_
       refine g_cond rfl hG h_l1 (fun _ h_l1 => ?_) (fun _ h_l1 => ?_)
       · refine s_seq (g_reg hG ?_)
         refine g_ret ?_
         obtain rfl := Option.some.inj h_l1
         have hx := hx_l1 _ rfl
         subst hx
         try dsimp only at h
         exact g_end h
       refine g_skip ?_
       refine g_reg hG ?_
       exact g_next hK [(0, 0), (1, 1), (2, 2)] h_l1
     refine g_exit ?_
     obtain rfl := Option.some.inj h_l1
     have hx := hx_l1 _ rfl
     subst hx
     try dsimp only at h
     exact g_join hK [] () (by exact h)
   refine g_loop (I3l_l2 a3 j1) hK [(0, 0), (1, 1), (2, 2)] h (fun x_l2 h g2 y_l2 h_l2 hx_l2 => ?_)
   unfold f_law12_QueueMonotone_l2 at h_l2
   refine g_st ?_
   refine s_seq (s_seq (g_reg hG ?_))
   refine g_cond rfl hG h_l2 (fun _ h_l2 => ?_) (fun _ h_l2 => ?_)
   · refine g_skip ?_
     refine s_seq (s_block (s_seq ?_))
     obtain ⟨hb2, h_l2⟩ := gd_some h_l2
     refine g_reg hG ?_
     obtain ⟨v8, hv8, h_l2⟩ := bind_of h_l2
     refine g_call (fun hg => mill_Proc_ok (a3.getD g2.1.toNat 0) _ (hv8)) ?_
     refine s_seq ?_
     obtain ⟨hb1, h_l2⟩ := gd_some h_l2
     refine g_reg hG ?_
     refine s_seq (g_reg hG ?_)
     obtain ⟨v9, hv9, h_l2⟩ := bind_of h_l2
     refine g_call (fun hg => queue_Remove_ok g2.2.2 v8 _ (hv9)) ?_
     refine s_seq (g_reg hG ?_)
     refine g_cond rfl hG h_l2 (fun _ h_l2 => ?_) (fun _ h_l2 => ?_)
     · refine g_reg hG ?_
       refine g_reg hG ?_
       exact g_next hK [(0, 0), (1, 4), (2, 2)] h_l2
     refine g_skip ?_
     refine g_reg hG ?_
     exact g_next hK [(0, 0), (1, 4), (2, 2)] h_l2
   refine g_exit ?_
   obtain rfl := Option.some.inj h_l2
   have hx := hx_l2 _ rfl
   subst hx
   try dsimp only at h
   exact g_join hK [(0, 0), (1, 1), (2, 2)] (g2.2.1, g2.2.2) (by exact h)
 refine g_loop (I3l_l3 a2 a3) hK [(0, 0), (1, 1)] h (fun x_l3 h g3 y_l3 h_l3 hx_l3 => ?_)
 unfold f_law12_QueueMonotone_l3 at h_l3
 refine g_st ?_
 refine s_seq (s_seq (g_reg hG ?_))
 refine g_cond rfl hG h_l3 (fun _ h_l3 => ?_) (fun _ h_l3 => ?_)
 · refine g_skip ?_
   refine s_seq (s_block (s_seq ?_))
   obtain ⟨hb3, h_l3⟩ := gd_some h_l3
   refine g_regm C_mixed hG ?_
   obtain ⟨v10, hv10, h_l3⟩ := bind_of h_l3
   refine g_callM (fun hg => mill_Proc_ok (a2.getD g3.1.toNat 0) _ (hv10)) ?_
   obtain ⟨v11, hv11, h_l3⟩ := bind_of h_l3
   refine g_callM (fun hg => queue_Remove_ok g3.2 v10 _ (hv11)) ?_
   refine s_seq (g_reg hG ?_)
   refine g_cond rfl hG h_l3 (fun _ h_l3 => ?_) (fun _ h_l3 => ?_)
   · refine g_reg hG ?_
     refine g_reg hG ?_
     exact g_next hK [(0, 0), (1, 1)] h_l3
   refine g_skip ?_
   refine g_reg hG ?_
   exact g_next hK [(0, 0), (1, 1)] h_l3
 refine g_exit ?_
 obtain rfl := Option.some.inj h_l3
 have hx := hx_l3 _ rfl
 subst hx
 try dsimp only at h
 exact g_join hK [(0, 0), (1, 1)] g3.2 (by exact h)
attribute [local irreducible] f_law12_QueueMonotone
end Ab
end Go.Proofs.YtdflfohpemfeiaaGreatDoor
