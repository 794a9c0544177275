/-
  A law's own code and what it computes.
-/
import Derived.Test.YtdflfohpemfeiaaGreatDoorFn
namespace Go.Proofs.YtdflfohpemfeiaaGreatDoor
namespace Ab
set_option linter.unusedSimpArgs false
set_option linter.unusedVariables false
set_option maxRecDepth 100000
set_option maxHeartbeats 1000000

attribute [local irreducible] f_mill_Mod f_mill_Proc f_catalog_ValidName f_catalog_ValidResource f_queue_New f_ident_compare f_ident_CompareProc f_mode_Compatible f_amount_Compatible f_holders_Valid f_holders_Get f_queue_Held f_line_Find f_mode_Covers f_amount_Covers f_queue_soundConverts f_line_Valid f_queue_soundWaits f_queue_Sound f_queue_head f_holders_proper f_holders_Set f_holders_Room f_queue_Settled f_queue_Valid f_slices_Grow_api_Wait_api_Wait_m f_slices_Concat_api_Wait_api_Wait f_queue_order f_queue_Wanted f_queue_clone_m f_mode_Sup f_amount_Join f_queue_Claim_1_m f_queue_advance_m f_queue_finish_m f_line_Insert f_queue_Claim_2_m f_queue_finish_m1 f_queue_Claim f_queue_Order f_holders_Procs_m f_slices_SortFunc_api_Proc_api_Proc_m f_slices_Compact_api_Proc_api_Proc_m f_ident_SortProcs f_queue_Procs f_slices_Index_api_Proc_api_Proc f_slices_Contains_api_Proc_api_Proc f_ident_HasProc f_queue_clone f_queue_Remove_1_m f_line_Remove f_queue_Remove_2_m f_queue_Remove_3_m f_queue_finish_m2 f_queue_Remove f_law12_awake f_ref05_ValidName f_ref05_ValidResource f_ref12_New f_ref10_Amounts f_ref04_Compatible f_ref10_Valid f_ref11_Find f_ref11_Valid f_ref10_Get f_ref12_Sound f_ref12_Head f_ref10_Set f_ref10_Room f_ref12_Settled f_ref12_Valid f_ref10_SameHolds f_ref11_SameWaits f_ref12_Same f_ref12_Wanted f_ref12_Copy_m f_ref12_Held f_ref03_Sup f_ref04_Join f_ref12_Copy f_ref12_Advance f_ref12_changed f_ref11_Insert f_ref12_Claim f_law12_same f_mill_Tape_Next_m f_mill_Catalog_m f_mill_Resource f_mill_Mode f_mill_Amount f_ref11_Remove f_ref12_Cancel f_ref12_Lower f_ref12_Has f_ref12_Remove f_law12_made f_ref02_HasProc f_ref02_SameProcs f_queue_Advance f_queue_Cancel_1_m f_queue_Cancel_2_m f_queue_finish_m3 f_queue_Cancel f_queue_Lower_1_m f_queue_finish_m4 f_queue_Lower f_law12_step f_line_Ahead_m f_holders_Against f_queue_Blockers f_holders_Procs f_line_Ahead
def r3n_0 := [mo 10 .mv [oFa]]
def r3n_1 := [oV 23 1,oC 24 31 [.t 23],mo 25 .not [.t 24]]
def r3n_2 := [oC 26 18 [],oV 10 26]
def r3n_3 := [oV 27 0,oV 28 1,oC 29 32 [.t 27, .t 28],mo 11 (.alloc 8 (Queue.enc Queue.zero)) [],oS 8 11 29]
def r3n_4 := [oV 30 2,oC 31 34 [.t 30],mo 12 (.alloc 3 (Proc.enc Proc.zero)) [],oS 3 12 31]
def r3n_5 := [oL 33 8 11,oL 34 3 12,oA 35 0 11,oL 36 4 35,oV 37 3,oC 38 38 [.t 36, .t 37],oV 39 4,oC 40 39 [.t 39, oK 8],oC 41 28 [.t 33, .t 34, .t 38, .t 40],oV 32 41,oE 42 0 32,oE 43 1 32,oE 44 2 32,mo 13 (.alloc 8 (Queue.enc Queue.zero)) [],oS 8 13 42,oV 14 43,oV 15 44]
def r3n_6 := [oV 45 15,oP 46 .neq [.t 45, oK 0]]
def r3n_7 := [oL 48 8 11,oL 49 3 12,oC 50 40 [.t 48, .t 49],oV 47 50,oE 51 0 47,oE 52 1 47,mo 16 (.alloc 2 (Amount.enc Amount.zero)) [],oS 2 16 51,oV 17 52]
def r3n_8 := [oC 53 18 [],oV 54 53,oG 55 54 true .mv [.t 17],mo 56 .pick [.t 54, .t 55, oFa],oV 57 56,oG 58 57 true .mv [.t 15],oG 59 57 true (.bin .eql) [.t 58, oK 14],mo 60 .pick [.t 57, .t 59, oFa],oV 61 60,oG 62 61 false (.call 18) [],oG 63 61 false .mv [.t 62],oG 64 63 true .mv [.t 15],oG 65 63 true (.bin .eql) [.t 64, oK 4],
 oG 66 61 false .pick [.t 63, .t 65, oFa],mo 67 .pick [.t 61, oTr, .t 66],oV 10 67]
def r3n_9 := [oI 18 0]
def r3n_10 := [oV 68 18,oP 69 .lss [.t 68, oK 8]]
def r3n_12 := [oV 72 18,oC 73 34 [.t 72],mo 19 (.alloc 3 (Proc.enc Proc.zero)) [],oS 3 19 73]
def r3n_13 := [oL 74 3 19,oL 75 3 12,mo 76 (.eqa true [.i .i64, .i .i64, .i .i64]) [.t 74, .t 75],oV 77 76,oG 78 77 true (.load 8 true) [.t 13],oG 79 77 true (.load 3 true) [.t 19],oG 80 77 true (.call 37) [.t 78, .t 79],oG 81 77 true (.load 8 true) [.t 11],oG 82 77 true (.load 3 true) [.t 19],oG 83 77 true (.call 37) [.t 81, .t 82],
 oG 84 77 true (.eqa true [.i .i64, .i .i64]) [.t 80, .t 83],mo 85 .pick [.t 77, .t 84, oFa]]
def r3n_14 := [mo 10 .mv [oFa]]
def r3n_11 := [oV 70 18,oP 71 .add [.t 70, oK 1],oV 18 71]
def r3n_15 := [mo 20 (.nilown 3 (Proc.enc Proc.zero)) [.c (A.full [])]]
def r3n_16 := [oL 86 8 13,oC 87 41 [.t 86],oV 21 87]
def r3n_17 := [oI 22 0]
def r3n_18 := [oV 88 22,oV 89 21,mo 90 .len [.t 89],oP 91 .lss [.t 88, .t 90]]
def r3n_20 := [oV 94 21,oV 95 22,mo 96 (.iaS 3 (Proc.enc Proc.zero)) [.t 94, .t 95],oL 97 3 96,oL 98 3 12,mo 99 (.eqa true [.i .i64, .i .i64, .i .i64]) [.t 97, .t 98]]
def r3n_21 := [oV 100 20,oV 101 21,oV 102 22,mo 103 (.iaS 3 (Proc.enc Proc.zero)) [.t 101, .t 102],oL 104 3 103,mo 105 (.bslice 3 (Proc.enc Proc.zero)) [.t 104],mo 106 (.append 3 24 (Proc.enc Proc.zero)) [.t 100, .t 105],oV 20 106]
def r3n_19 := [oV 92 22,oP 93 .add [.t 92, oK 1],oV 22 93]
def r3n_22 := [oC 107 18 [],oV 108 107,oG 109 108 true .mv [.t 14],oG 110 108 true .len [.t 109],oG 111 108 true (.bin .leq) [.t 110, oK 1],mo 112 .pick [.t 108, .t 111, oFa],oV 113 112,oG 114 113 true .mv [.t 20],oG 115 113 true (.load 8 true) [.t 11],oG 116 113 true (.call 41) [.t 115],oG 117 113 true (.call 42) [.t 114, .t 116],
 mo 118 .pick [.t 113, .t 117, oFa],oV 10 118]
def pc_3n : PC := (.seq (.reg [] r3n_0) (.seq (.seq (.reg [23, 24] r3n_1) (.cond (.t 25) (.seq (.reg [26] r3n_2) .ret) .skip)) (.seq (.reg [27, 28, 29] r3n_3) (.seq (.reg [30, 31] r3n_4) (.seq (.regm [32, 33, 34, 35, 36, 37, 38, 39, 40, 41, 42, 43, 44] [[], [], [], [2], [], [3, 4, 2], [], [6, 5, 3, 4, 2], [0, 1, 5, 7, 7, 3, 4, 2, 6, 5, 3, 4, 2, 6, 5, 3, 4, 2], [8, 0, 1, 5, 7, 7, 3, 4, 2, 6, 5, 3, 4, 2, 6, 5, 3, 4, 2], [9, 8, 0, 1, 5, 7, 7, 3, 4, 2, 6, 5, 3, 4, 2, 6, 5, 3, 4, 2], [9, 8, 0, 1, 5, 7, 7, 3, 4, 2, 6, 5, 3, 4, 2, 6, 5, 3, 4, 2], [9, 8, 0, 1, 5, 7, 7, 3, 4, 2, 6, 5, 3, 4, 2, 6, 5, 3, 4, 2], [], [13, 10, 8, 0, 1, 2, 3, 4, 5, 6, 7, 8, 9, 10, 13, 9, 8, 0, 1, 5, 7, 7, 3, 4, 2, 6, 5, 3, 4, 2, 6, 5, 3, 4, 2, 0, 1, 5, 7, 7, 3, 4, 2, 6, 5, 3, 4, 2, 6, 5, 3, 4, 2, 2, 3, 4, 2, 6, 5, 3, 4, 2, 0, 1, 5, 7, 7, 3, 4, 2, 6, 5, 3, 4, 2, 6, 5, 3, 4, 2, 8, 0, 1, 5, 7, 7, 3, 4, 2, 6, 5, 3, 4, 2, 6, 5, 3, 4, 2, 9, 8, 0, 1, 5, 7, 7, 3, 4, 2, 6, 5, 3, 4, 2, 6, 5, 3, 4, 2], [11, 14, 0, 1, 2, 3, 4, 5, 6, 7, 8, 9, 10, 11, 13, 14, 9, 8, 0, 1, 5, 7, 7, 3, 4, 2, 6, 5, 3, 4, 2, 6, 5, 3, 4, 2, 13, 10, 8, 0, 1, 2, 3, 4, 5, 6, 7, 8, 9, 10, 13, 9, 8, 0, 1, 5, 7, 7, 3, 4, 2, 6, 5, 3, 4, 2, 6, 5, 3, 4, 2, 0, 1, 5, 7, 7, 3, 4, 2, 6, 5, 3, 4, 2, 6, 5, 3, 4, 2, 2, 3, 4, 2, 6, 5, 3, 4, 2, 0, 1, 5, 7, 7, 3, 4, 2, 6, 5, 3, 4, 2, 6, 5, 3, 4, 2, 8, 0, 1, 5, 7, 7, 3, 4, 2, 6, 5, 3, 4, 2, 6, 5, 3, 4, 2, 9, 8, 0, 1, 5, 7, 7, 3, 4, 2, 6, 5, 3, 4, 2, 6, 5, 3, 4, 2, 2, 3, 4, 2, 6, 5, 3, 4, 2, 0, 1, 5, 7, 7, 3, 4, 2, 6, 5, 3, 4, 2, 6, 5, 3, 4, 2, 8, 0, 1, 5, 7, 7, 3, 4, 2, 6, 5, 3, 4, 2, 6, 5, 3, 4, 2, 9, 8, 0, 1, 5, 7, 7, 3, 4, 2, 6, 5, 3, 4, 2, 6, 5, 3, 4, 2, 9, 8, 0, 1, 5, 7, 7, 3, 4, 2, 6, 5, 3, 4, 2, 6, 5, 3, 4, 2, 13, 10, 8, 0, 1, 2, 3, 4, 5, 6, 7, 8, 9, 10, 13, 9, 8, 0, 1, 5, 7, 7, 3, 4, 2, 6, 5, 3, 4, 2, 6, 5, 3, 4, 2, 0, 1, 5, 7, 7, 3, 4, 2, 6, 5, 3, 4, 2, 6, 5, 3, 4, 2, 2, 3, 4, 2, 6, 5, 3, 4, 2, 0, 1, 5, 7, 7, 3, 4, 2, 6, 5, 3, 4, 2, 6, 5, 3, 4, 2, 8, 0, 1, 5, 7, 7, 3, 4, 2, 6, 5, 3, 4, 2, 6, 5, 3, 4, 2, 9, 8, 0, 1, 5, 7, 7, 3, 4, 2, 6, 5, 3, 4, 2, 6, 5, 3, 4, 2], [12, 15, 0, 1, 2, 3, 4, 5, 6, 7, 8, 9, 10, 11, 12, 13, 14, 15, 9, 8, 0, 1, 5, 7, 7, 3, 4, 2, 6, 5, 3, 4, 2, 6, 5, 3, 4, 2, 11, 14, 0, 1, 2, 3, 4, 5, 6, 7, 8, 9, 10, 11, 13, 14, 9, 8, 0, 1, 5, 7, 7, 3, 4, 2, 6, 5, 3, 4, 2, 6, 5, 3, 4, 2, 13, 10, 8, 0, 1, 2, 3, 4, 5, 6, 7, 8, 9, 10, 13, 9, 8, 0, 1, 5, 7, 7, 3, 4, 2, 6, 5, 3, 4, 2, 6, 5, 3, 4, 2, 0, 1, 5, 7, 7, 3, 4, 2, 6, 5, 3, 4, 2, 6, 5, 3, 4, 2, 2, 3, 4, 2, 6, 5, 3, 4, 2, 0, 1, 5, 7, 7, 3, 4, 2, 6, 5, 3, 4, 2, 6, 5, 3, 4, 2, 8, 0, 1, 5, 7, 7, 3, 4, 2, 6, 5, 3, 4, 2, 6, 5, 3, 4, 2, 9, 8, 0, 1, 5, 7, 7, 3, 4, 2, 6, 5, 3, 4, 2, 6, 5, 3, 4, 2, 2, 3, 4, 2, 6, 5, 3, 4, 2, 0, 1, 5, 7, 7, 3, 4, 2, 6, 5, 3, 4, 2, 6, 5, 3, 4, 2, 8, 0, 1, 5, 7, 7, 3, 4, 2, 6, 5, 3, 4, 2, 6, 5, 3, 4, 2, 9, 8, 0, 1, 5, 7, 7, 3, 4, 2, 6, 5, 3, 4, 2, 6, 5, 3, 4, 2, 9, 8, 0, 1, 5, 7, 7, 3, 4, 2, 6, 5, 3, 4, 2, 6, 5, 3, 4, 2, 13, 10, 8, 0, 1, 2, 3, 4, 5, 6, 7, 8, 9, 10, 13, 9, 8, 0, 1, 5, 7, 7, 3, 4, 2, 6, 5, 3, 4, 2, 6, 5, 3, 4, 2, 0, 1, 5, 7, 7, 3, 4, 2, 6, 5, 3, 4, 2, 6, 5, 3, 4, 2, 2, 3, 4, 2, 6, 5, 3, 4, 2, 0, 1, 5, 7, 7, 3, 4, 2, 6, 5, 3, 4, 2, 6, 5, 3, 4, 2, 8, 0, 1, 5, 7, 7, 3, 4, 2, 6, 5, 3, 4, 2, 6, 5, 3, 4, 2, 9, 8, 0, 1, 5, 7, 7, 3, 4, 2, 6, 5, 3, 4, 2, 6, 5, 3, 4, 2, 2, 3, 4, 2, 6, 5, 3, 4, 2, 0, 1, 5, 7, 7, 3, 4, 2, 6, 5, 3, 4, 2, 6, 5, 3, 4, 2, 8, 0, 1, 5, 7, 7, 3, 4, 2, 6, 5, 3, 4, 2, 6, 5, 3, 4, 2, 9, 8, 0, 1, 5, 7, 7, 3, 4, 2, 6, 5, 3, 4, 2, 6, 5, 3, 4, 2, 9, 8, 0, 1, 5, 7, 7, 3, 4, 2, 6, 5, 3, 4, 2, 6, 5, 3, 4, 2, 9, 8, 0, 1, 5, 7, 7, 3, 4, 2, 6, 5, 3, 4, 2, 6, 5, 3, 4, 2, 13, 10, 8, 0, 1, 2, 3, 4, 5, 6, 7, 8, 9, 10, 13, 9, 8, 0, 1, 5, 7, 7, 3, 4, 2, 6, 5, 3, 4, 2, 6, 5, 3, 4, 2, 0, 1, 5, 7, 7, 3, 4, 2, 6, 5, 3, 4, 2, 6, 5, 3, 4, 2, 2, 3, 4, 2, 6, 5, 3, 4, 2, 0, 1, 5, 7, 7, 3, 4, 2, 6, 5, 3, 4, 2, 6, 5, 3, 4, 2, 8, 0, 1, 5, 7, 7, 3, 4, 2, 6, 5, 3, 4, 2, 6, 5, 3, 4, 2, 9, 8, 0, 1, 5, 7, 7, 3, 4, 2, 6, 5, 3, 4, 2, 6, 5, 3, 4, 2, 11, 14, 0, 1, 2, 3, 4, 5, 6, 7, 8, 9, 10, 11, 13, 14, 9, 8, 0, 1, 5, 7, 7, 3, 4, 2, 6, 5, 3, 4, 2, 6, 5, 3, 4, 2, 13, 10, 8, 0, 1, 2, 3, 4, 5, 6, 7, 8, 9, 10, 13, 9, 8, 0, 1, 5, 7, 7, 3, 4, 2, 6, 5, 3, 4, 2, 6, 5, 3, 4, 2, 0, 1, 5, 7, 7, 3, 4, 2, 6, 5, 3, 4, 2, 6, 5, 3, 4, 2, 2, 3, 4, 2, 6, 5, 3, 4, 2, 0, 1, 5, 7, 7, 3, 4, 2, 6, 5, 3, 4, 2, 6, 5, 3, 4, 2, 8, 0, 1, 5, 7, 7, 3, 4, 2, 6, 5, 3, 4, 2, 6, 5, 3, 4, 2, 9, 8, 0, 1, 5, 7, 7, 3, 4, 2, 6, 5, 3, 4, 2, 6, 5, 3, 4, 2, 2, 3, 4, 2, 6, 5, 3, 4, 2, 0, 1, 5, 7, 7, 3, 4, 2, 6, 5, 3, 4, 2, 6, 5, 3, 4, 2, 8, 0, 1, 5, 7, 7, 3, 4, 2, 6, 5, 3, 4, 2, 6, 5, 3, 4, 2, 9, 8, 0, 1, 5, 7, 7, 3, 4, 2, 6, 5, 3, 4, 2, 6, 5, 3, 4, 2, 9, 8, 0, 1, 5, 7, 7, 3, 4, 2, 6, 5, 3, 4, 2, 6, 5, 3, 4, 2, 13, 10, 8, 0, 1, 2, 3, 4, 5, 6, 7, 8, 9, 10, 13, 9, 8, 0, 1, 5, 7, 7, 3, 4, 2, 6, 5, 3, 4, 2, 6, 5, 3, 4, 2, 0, 1, 5, 7, 7, 3, 4, 2, 6, 5, 3, 4, 2, 6, 5, 3, 4, 2, 2, 3, 4, 2, 6, 5, 3, 4, 2, 0, 1, 5, 7, 7, 3, 4, 2, 6, 5, 3, 4, 2, 6, 5, 3, 4, 2, 8, 0, 1, 5, 7, 7, 3, 4, 2, 6, 5, 3, 4, 2, 6, 5, 3, 4, 2, 9, 8, 0, 1, 5, 7, 7, 3, 4, 2, 6, 5, 3, 4, 2, 6, 5, 3, 4, 2]] r3n_5) (.seq (.seq (.reg [45] r3n_6) (.cond (.t 46) (.seq (.reg [16, 47, 48, 49, 50, 51, 52] r3n_7) (.seq (.reg [53, 54, 55, 56, 57, 58, 59, 60, 61, 62, 63, 64, 65, 66, 67] r3n_8) .ret)) .skip)) (.seq (.seq (.reg [] r3n_9) (.block 0 (.loop (.seq (.seq (.reg [68] r3n_10) (.cond (.t 69) .skip (.exit 0))) (.seq (.block 1 (.seq (.reg [72, 73] r3n_12) (.seq (.regd [74, 75, 76, 77, 78, 79, 80, 81, 82, 83, 84] r3n_13) (.cond (.t 85) (.seq (.reg [] r3n_14) .ret) .skip)))) (.reg [70, 71] r3n_11)))))) (.seq (.reg [] r3n_15) (.seq (.reg [86, 87] r3n_16) (.seq (.seq (.reg [] r3n_17) (.block 2 (.loop (.seq (.seq (.reg [88, 89, 90] r3n_18) (.cond (.t 91) .skip (.exit 2))) (.seq (.block 3 (.seq (.regd [94, 95, 96, 97, 98] r3n_20) (.cond (.t 99) (.reg [100, 101, 102, 103, 104, 105, 106] r3n_21) .skip))) (.reg [92, 93] r3n_19)))))) (.seq (.reg [107, 108, 109, 110, 111, 112, 113, 114, 115, 116, 117, 118] r3n_22) .ret)))))))))))
theorem ck_3n : chkF C.P 7 pc_3n 119 [.t 10] 5 = true := by kernel_rfl
attribute [go_sem] r3n_0 r3n_1 r3n_2 r3n_3 r3n_4 r3n_5 r3n_6 r3n_7 r3n_8 r3n_9 r3n_10 r3n_12 r3n_13 r3n_14 r3n_11 r3n_15 r3n_16 r3n_17 r3n_18 r3n_20 r3n_21 r3n_19 r3n_22

noncomputable def f_law12_QueueLater_k2 (v2 : Queue) (v6 : Queue × (List Hold) × Int) (j2 : (List Proc)) : Option (Bool) :=
 (f_law12_awake).bind fun v11 =>
 ((if (v11 && (decide ((v6.2.1.length : Int) ≤ 1))) = true then f_queue_Order v2 else some ([]))).bind fun v12 =>
 ((if (v11 && (decide ((v6.2.1.length : Int) ≤ 1))) = true then f_ref02_SameProcs j2 v12 else some (false))).bind fun v13 =>
 some ((v11 && (decide ((v6.2.1.length : Int) ≤ 1))) && v13)
@[go_sem] def J3n_k2 (v2 : Queue) (v6 : Queue × (List Hold) × Int) (j2 : (List Proc)) : St := ⟨[(11, .ptr 0 0 0), (14, .sl (v6.2.1.map Hold.enc)), (20, .own 1 0 j2.length)], [(0, ⟨false, 8, (Queue.enc Queue.zero), [Queue.enc v2]⟩), (1, ⟨false, 3, (Proc.enc Proc.zero), j2.map Proc.enc⟩)], 2⟩
noncomputable def f_law12_QueueLater_l1 (v3 : Proc) (v10 : (List Proc)) (g1 : Int × (List Proc)) : Option ((Int × (List Proc)) ⊕ (((List Proc)))) :=
 (if (decide (g1.1 < (v10.length : Int))) = true then
  gd (0 ≤ g1.1 ∧ g1.1 < (v10.length : Int)) <|
  (if (!decide ((v10.getD g1.1.toNat Proc.zero) = v3)) = true then
   gd (0 ≤ g1.1 ∧ g1.1 < (v10.length : Int)) <|
   gd (g1.2.length + 1 ≤ 4294967296) <|
   some (.inl ((IntKind.i64.wrap (g1.1 + 1)), (g1.2 ++ [(v10.getD g1.1.toNat Proc.zero)])))
  else
   some (.inl ((IntKind.i64.wrap (g1.1 + 1)), g1.2)))
 else
  some (.inr g1.2))
@[go_sem] def I3n_l1 (v2 : Queue) (v3 : Proc) (v6 : Queue × (List Hold) × Int) (v10 : (List Proc)) (g1 : Int × (List Proc)) : St := ⟨[(11, .ptr 0 0 0), (12, .ptr 1 0 0), (14, .sl (v6.2.1.map Hold.enc)), (20, .own 2 0 g1.2.length), (21, .sl (v10.map Proc.enc)), (22, .int .i64 g1.1)], [(0, ⟨false, 8, (Queue.enc Queue.zero), [Queue.enc v2]⟩), (1, ⟨false, 3, (Proc.enc Proc.zero), [Proc.enc v3]⟩), (2, ⟨false, 3, (Proc.enc Proc.zero), g1.2.map Proc.enc⟩)], 3⟩
noncomputable def f_law12_QueueLater_k1 (v2 : Queue) (v3 : Proc) (v6 : Queue × (List Hold) × Int) (j1 : Unit) : Option (Bool) :=
 (f_queue_Order v6.1).bind fun v10 =>
 (loopO (f_law12_QueueLater_l1 v3 v10) (0, [])).bind (fun z => f_law12_QueueLater_k2 v2 v6 z)
@[go_sem] def J3n_k1 (v2 : Queue) (v3 : Proc) (v6 : Queue × (List Hold) × Int) (j1 : Unit) : St := ⟨[(11, .ptr 0 0 0), (12, .ptr 1 0 0), (13, .ptr 2 0 0), (14, .sl (v6.2.1.map Hold.enc))], [(0, ⟨false, 8, (Queue.enc Queue.zero), [Queue.enc v2]⟩), (1, ⟨false, 3, (Proc.enc Proc.zero), [Proc.enc v3]⟩), (2, ⟨false, 8, (Queue.enc Queue.zero), [Queue.enc v6.1]⟩)], 3⟩
noncomputable def f_law12_QueueLater_l2 (v2 : Queue) (v3 : Proc) (v6 : Queue × (List Hold) × Int) (g2 : Int) : Option ((Int) ⊕ ((Unit) ⊕ (Bool))) :=
 (if (decide (g2 < 8)) = true then
  (f_mill_Proc g2).bind fun v14 =>
  ((if (!decide (v14 = v3)) = true then f_queue_Held v6.1 v14 else some (Amount.zero))).bind fun v15 =>
  ((if (!decide (v14 = v3)) = true then f_queue_Held v2 v14 else some (Amount.zero))).bind fun v16 =>
  (if ((!decide (v14 = v3)) && (!decide (v15 = v16))) = true then
   some (.inr (.inr false))
  else
   some (.inl (IntKind.i64.wrap (g2 + 1))))
 else
  some (.inr (.inl ())))
@[go_sem] def I3n_l2 (v2 : Queue) (v3 : Proc) (v6 : Queue × (List Hold) × Int) (g2 : Int) : St := ⟨[(11, .ptr 0 0 0), (12, .ptr 1 0 0), (13, .ptr 2 0 0), (14, .sl (v6.2.1.map Hold.enc)), (18, .int .i64 g2)], [(0, ⟨false, 8, (Queue.enc Queue.zero), [Queue.enc v2]⟩), (1, ⟨false, 3, (Proc.enc Proc.zero), [Proc.enc v3]⟩), (2, ⟨false, 8, (Queue.enc Queue.zero), [Queue.enc v6.1]⟩)], 3⟩
noncomputable def f_law12_QueueLater (a0 : Int) (a1 : List Int) (a2 : Int) (a3 : Int) (a4 : Int) : Option (Bool) :=
 (if (!(f_mill_Light a1)) = true then
  (f_law12_awake).bind fun v1 =>
  some v1
 else
  (f_law12_made a0 a1).bind fun v2 =>
  (f_mill_Proc a2).bind fun v3 =>
  (f_mill_Amount v2.resource a3).bind fun v4 =>
  (f_mill_Mod a4 8).bind fun v5 =>
  (f_queue_Claim v2 v3 v4 v5).bind fun v6 =>
  (if (!decide (v6.2.2 = 0)) = true then
   (f_ref12_Wanted v2 v3).bind fun v7 =>
   (f_law12_awake).bind fun v8 =>
   ((if (!((v8 && v7.2) && (decide (v6.2.2 = 14)))) = true then f_law12_awake else some (false))).bind fun v9 =>
   some (((v8 && v7.2) && (decide (v6.2.2 = 14))) || (v9 && (decide (v6.2.2 = 4))))
  else
   (loopO (f_law12_QueueLater_l2 v2 v3 v6) 0).bind (fun | .inl z => f_law12_QueueLater_k1 v2 v3 v6 z | .inr z => some z)))
theorem law12_QueueLater_ok (a0 : Int) (a1 : List Int) (a2 : Int) (a3 : Int) (a4 : Int) (r : Bool) (h : f_law12_QueueLater a0 a1 a2 a3 a4 = some r) : PFn C 7 [.int .i64 a0, .sl (a1.map (eI .i64)), .int .i64 a2, .int .i64 a3, .int .i64 a4] (.bool r) := by
 refine pfn_intro ck_3n rfl fun E hG hN hK => ?_
 unfold pc_3n
 unfold f_law12_QueueLater at h
 refine s_seq (g_reg hG ?_)
 refine s_seq (s_seq (g_reg hG ?_))
 refine g_call (fun hg => mill_Light_ok a1) ?_
 refine g_cond rfl hG h (fun _ h => ?_) (fun _ h => ?_)
 · refine s_seq (g_reg hG ?_)
   obtain ⟨v1, hv1, h⟩ := bind_of h
   refine g_call (fun hg => law12_awake_ok  _ (hv1)) ?_
   refine g_ret ?_
   exact g_end h
 refine g_skip ?_
 refine s_seq (g_reg hG ?_)
 obtain ⟨v2, hv2, h⟩ := bind_of h
 refine g_call (fun hg => law12_made_ok a0 a1 _ (hv2)) ?_
 refine s_seq (g_reg hG ?_)
 obtain ⟨v3, hv3, h⟩ := bind_of h
 refine g_call (fun hg => mill_Proc_ok a2 _ (hv3)) ?_
 refine s_seq (g_regm C_mixed hG ?_)
 obtain ⟨v4, hv4, h⟩ := bind_of h
 refine g_callM (fun hg => mill_Amount_ok v2.resource a3 _ (hv4)) ?_
 obtain ⟨v5, hv5, h⟩ := bind_of h
 refine g_callM (fun hg => mill_Mod_ok a4 8 _ (hv5)) ?_
 obtain ⟨v6, hv6, h⟩ := bind_of h
 refine g_callM (fun hg => queue_Claim_ok v2 v3 v4 v5 _ (hv6)) ?_
 refine s_seq (s_seq (g_reg hG ?_))
 refine g_cond rfl hG h (fun _ h => ?_) (fun _ h => ?_)
 · refine s_seq (g_reg hG ?_)
   obtain ⟨v7, hv7, h⟩ := bind_of h
   refine g_call (fun hg => ref12_Wanted_ok v2 v3 _ (hv7)) ?_
   refine s_seq (g_reg hG ?_)
   obtain ⟨v8, hv8, h⟩ := bind_of h
   refine g_call (fun hg => law12_awake_ok  _ (hv8)) ?_
   obtain ⟨v9, hv9, h⟩ := bind_of h
   refine g_call (fun hg => law12_awake_ok  _ (ite_t hg hv9)) ?_
   refine g_ret ?_
   exact g_end h
 refine g_skip ?_
 refine s_seq (s_seq (g_reg hG ?_))
 refine s_blockJ (J3n_k1 v2 v3 v6) (fun v => f_law12_QueueLater_k1 v2 v3 v6 v = some r) ?_ ?_
 · intro j1 h
   unfold f_law12_QueueLater_k1 at h
   refine g_st ?_
   refine s_seq (g_reg hG ?_)
   refine s_seq (g_reg hG ?_)
   obtain ⟨v10, hv10, h⟩ := bind_of h
   refine g_call (fun hg => queue_Order_ok v6.1 _ (hv10)) ?_
   refine s_seq (s_seq (g_reg hG ?_))
   refine s_blockJ (J3n_k2 v2 v6) (fun v => f_law12_QueueLater_k2 v2 v6 v = some r) ?_ ?_
   · intro j2 h
     unfold f_law12_QueueLater_k2 at h
     refine g_st ?_
     refine s_seq (g_reg hG ?_)
     obtain ⟨v11, hv11, h⟩ := bind_of h
     refine g_call (fun hg => law12_awake_ok  _ (hv11)) ?_
     obtain ⟨v12, hv12, h⟩ := bind_of h
     refine g_call (fun hg => queue_Order_ok v2 _ (ite_t hg hv12)) ?_
     obtain ⟨v13, hv13, h⟩ := bind_of h
     refine g_call (fun hg => ref02_SameProcs_ok j2 v12 _ (ite_t hg hv13)) ?_
     refine g_ret ?_
     exact g_end h
   refine g_loop (I3n_l1 v2 v3 v6 v10) hK [(0, 0), (1, 1), (2, 3)] h (fun x_l1 h g1 y_l1 h_l1 hx_l1 => ?_)
   unfold f_law12_QueueLater_l1 at h_l1
   refine g_st ?_
   refine s_seq (s_seq (g_reg hG ?_))
   refine g_cond rfl hG h_l1 (fun _ h_l1 => ?_) (fun _ h_l1 => ?_)
   · refine g_skip ?_
     refine s_seq (s_block (s_seq ?_))
     obtain ⟨hb3, h_l1⟩ := gd_some h_l1
     refine g_regd C_mixed hG ?_
     refine g_cond rfl hG h_l1 (fun _ h_l1 => ?_) (fun _ h_l1 => ?_)
     · obtain ⟨hb1, h_l1⟩ := gd_some h_l1
       obtain ⟨hb2, h_l1⟩ := gd_some h_l1
       refine g_reg hG ?_
       refine g_reg hG ?_
       exact g_next hK [(0, 0), (1, 1), (2, 3)] h_l1
     refine g_skip ?_
     refine g_reg hG ?_
     exact g_next hK [(0, 0), (1, 1), (2, 2)] h_l1
   refine g_exit ?_
   obtain rfl := Option.some.inj h_l1
   have hx := hx_l1 _ rfl
   subst hx
   try dsimp only at h
   exact g_join hK [(0, 0), (1, 2)] g1.2 (by exact h)
 refine g_loop (I3n_l2 v2 v3 v6) hK [(0, 0), (1, 1), (2, 2)] h (fun x_l2 h g2 y_l2 h_l2 hx_l2 => ?_)
 unfold f_law12_QueueLater_l2 at h_l2
 refine g_st ?_
 refine s_seq (s_seq (g_reg hG ?_))
 refine g_cond rfl hG h_l2 (fun _ h_l2 => ?_) (fun _ h_l2 => ?_)
 · refine g_skip ?_
   refine s_seq (s_block (s_seq (g_reg hG ?_)))
   obtain ⟨v14, hv14, h_l2⟩ := bind_of h_l2
   refine g_call (fun hg => mill_Proc_ok g2 _ (hv14)) ?_
   refine s_seq (g_regd C_mixed hG ?_)
   obtain ⟨v15, hv15, h_l2⟩ := bind_of h_l2
   refine g_calld (fun hg => queue_Held_ok v6.1 v14 _ (ite_t hg hv15)) ?_
   obtain ⟨v16, hv16, h_l2⟩ := bind_of h_l2
   refine g_calld (fun hg => queue_Held_ok v2 v14 _ (ite_t hg hv16)) ?_
   refine g_cond rfl hG h_l2 (fun _ h_l2 => ?_) (fun _ h_l2 => ?_)
   · refine s_seq (g_reg hG ?_)
     refine g_ret ?_
     obtain rfl := Option.some.inj h_l2
     have hx := hx_l2 _ rfl
     subst hx
     try dsimp only at h
     exact g_end h
   refine g_skip ?_
   refine g_reg hG ?_
   exact g_next hK [(0, 0), (1, 1), (2, 2)] h_l2
 refine g_exit ?_
 obtain rfl := Option.some.inj h_l2
 have hx := hx_l2 _ rfl
 subst hx
 try dsimp only at h
 exact g_join hK [(0, 0), (1, 1), (2, 2)] () (by exact h)
attribute [local irreducible] f_law12_QueueLater
end Ab
end Go.Proofs.YtdflfohpemfeiaaGreatDoor
