/-
  A law's own code and what it computes.
-/
import Derived.Test.YtdflfohpemfeiaaGreatDoorFn
namespace Go.Proofs.YtdflfohpemfeiaaGreatDoor
namespace Ab
set_option linter.unusedSimpArgs false
set_option linter.unusedVariables false
set_option maxRecDepth 100000
set_option maxHeartbeats 1000000

attribute [local irreducible] f_mill_Mod f_mill_Proc f_catalog_ValidName f_catalog_ValidResource f_queue_New f_ident_compare f_ident_CompareProc f_mode_Compatible f_amount_Compatible f_holders_Valid f_holders_Get f_queue_Held f_line_Find f_mode_Covers f_amount_Covers f_queue_soundConverts f_line_Valid f_queue_soundWaits f_queue_Sound f_queue_head f_holders_proper f_holders_Set f_holders_Room f_queue_Settled f_queue_Valid f_slices_Grow_api_Wait_api_Wait_m f_slices_Concat_api_Wait_api_Wait f_queue_order f_queue_Wanted f_queue_clone_m f_mode_Sup f_amount_Join f_queue_Claim_1_m f_queue_advance_m f_queue_finish_m f_line_Insert f_queue_Claim_2_m f_queue_finish_m1 f_queue_Claim f_queue_Order f_holders_Procs_m f_slices_SortFunc_api_Proc_api_Proc_m f_slices_Compact_api_Proc_api_Proc_m f_ident_SortProcs f_queue_Procs f_slices_Index_api_Proc_api_Proc f_slices_Contains_api_Proc_api_Proc f_ident_HasProc f_queue_clone f_queue_Remove_1_m f_line_Remove f_queue_Remove_2_m f_queue_Remove_3_m f_queue_finish_m2 f_queue_Remove f_law12_awake f_ref05_ValidName f_ref05_ValidResource f_ref12_New f_ref10_Amounts f_ref04_Compatible f_ref10_Valid f_ref11_Find f_ref11_Valid f_ref10_Get f_ref12_Sound f_ref12_Head f_ref10_Set f_ref10_Room f_ref12_Settled f_ref12_Valid f_ref10_SameHolds f_ref11_SameWaits f_ref12_Same f_ref12_Wanted f_ref12_Copy_m f_ref12_Held f_ref03_Sup f_ref04_Join f_ref12_Copy f_ref12_Advance f_ref12_changed f_ref11_Insert f_ref12_Claim f_law12_same f_mill_Tape_Next_m f_mill_Catalog_m f_mill_Resource f_mill_Mode f_mill_Amount f_ref11_Remove f_ref12_Cancel f_ref12_Lower f_ref12_Has f_ref12_Remove f_law12_made f_ref02_HasProc f_ref02_SameProcs f_queue_Advance f_queue_Cancel_1_m f_queue_Cancel_2_m f_queue_finish_m3 f_queue_Cancel f_queue_Lower_1_m f_queue_finish_m4 f_queue_Lower f_law12_step f_line_Ahead_m f_holders_Against f_queue_Blockers f_holders_Procs f_line_Ahead
def r3j_0 := [mo 6 .mv [oFa]]
def r3j_1 := [oV 17 1,oC 18 31 [.t 17],mo 19 .not [.t 18],oV 20 19,oG 21 20 false .mv [.t 2],oG 22 20 false .len [.t 21],oG 23 20 false (.bin .gtr) [.t 22, oK 8],mo 24 .pick [.t 20, oTr, .t 23]]
def r3j_2 := [oC 25 18 [],oV 6 25]
def r3j_3 := [oV 26 0,oV 27 1,oC 28 32 [.t 26, .t 27],mo 7 (.alloc 8 (Queue.enc Queue.zero)) [],oS 8 7 28]
def r3j_4 := [oL 29 8 7,oL 30 8 7,mo 8 (.alloc 8 (Queue.enc Queue.zero)) [],mo 9 (.alloc 8 (Queue.enc Queue.zero)) [],oS 8 8 29,oS 8 9 30]
def r3j_5 := [oI 10 0]
def r3j_6 := [oV 31 10,oV 32 2,mo 33 .len [.t 32],oP 34 .lss [.t 31, .t 33]]
def r3j_8 := [oL 38 8 8,oV 39 2,oV 40 10,mo 41 (.iaS 1 [A.int .i64 0]) [.t 39, .t 40],oM 42 1 41,oC 43 34 [.t 42],oC 44 33 [.t 38, .t 43],oV 37 44,oE 45 0 37,oE 46 1 37,oE 47 2 37,mo 11 (.alloc 8 (Queue.enc Queue.zero)) [],oS 8 11 45,oV 12 46,oV 13 47]
def r3j_9 := [oV 48 13,oP 49 .eql [.t 48, oK 0]]
def r3j_10 := [oL 50 8 11,oS 8 8 50]
def r3j_11 := [oL 52 8 9,oV 53 2,oV 54 2,mo 55 .len [.t 54],oP 56 .sub [.t 55, oK 1],oV 57 10,oP 58 .sub [.t 56, .t 57],mo 59 (.iaS 1 [A.int .i64 0]) [.t 53, .t 58],oM 60 1 59,oC 61 34 [.t 60],oC 62 33 [.t 52, .t 61],oV 51 62,oE 63 0 51,oE 64 1 51,oE 65 2 51,mo 14 (.alloc 8 (Queue.enc Queue.zero)) [],
 oS 8 14 63,oV 15 64,oV 16 65]
def r3j_12 := [oV 66 16,oP 67 .eql [.t 66, oK 0]]
def r3j_13 := [oL 68 8 14,oS 8 9 68]
def r3j_7 := [oV 35 10,oP 36 .add [.t 35, oK 1],oV 10 36]
def r3j_14 := [oA 69 7 8,mz (.store 1) [.t 69, oK 0],oA 70 7 9,mz (.store 1) [.t 70, oK 0]]
def r3j_15 := [oC 71 18 [],oV 72 71,oG 73 72 true (.load 8 true) [.t 8],oG 74 72 true (.load 8 true) [.t 9],oG 75 72 true (.call 27) [.t 73, .t 74],mo 76 .pick [.t 72, .t 75, oFa],oV 6 76]
def pc_3j : PC := (.seq (.reg [] r3j_0) (.seq (.seq (.reg [17, 18, 19, 20, 21, 22, 23] r3j_1) (.cond (.t 24) (.seq (.reg [25] r3j_2) .ret) .skip)) (.seq (.reg [26, 27, 28] r3j_3) (.seq (.regm [29, 30] [[], [], [], [], [2, 0, 0, 2, 3], [3, 1, 4, 0, 1, 2, 3, 4, 2, 0, 0, 2, 3, 2, 0, 0, 2, 3]] r3j_4) (.seq (.seq (.reg [] r3j_5) (.block 0 (.loop (.seq (.seq (.reg [31, 32, 33] r3j_6) (.cond (.t 34) .skip (.exit 0))) (.seq (.block 1 (.seq (.seq (.regm [12, 37, 38, 39, 40, 41, 42, 43, 44, 45, 46, 47] [[], [], [], [1, 2], [3, 1, 2], [4, 3, 1, 2], [0, 5, 5, 4, 3, 1, 2, 4, 3, 1, 2], [6, 0, 5, 5, 4, 3, 1, 2, 4, 3, 1, 2], [7, 6, 0, 5, 5, 4, 3, 1, 2, 4, 3, 1, 2], [7, 6, 0, 5, 5, 4, 3, 1, 2, 4, 3, 1, 2], [7, 6, 0, 5, 5, 4, 3, 1, 2, 4, 3, 1, 2], [], [11, 8, 6, 0, 1, 2, 3, 4, 5, 6, 7, 8, 11, 7, 6, 0, 5, 5, 4, 3, 1, 2, 4, 3, 1, 2, 0, 5, 5, 4, 3, 1, 2, 4, 3, 1, 2, 1, 2, 3, 1, 2, 4, 3, 1, 2, 0, 5, 5, 4, 3, 1, 2, 4, 3, 1, 2, 6, 0, 5, 5, 4, 3, 1, 2, 4, 3, 1, 2, 7, 6, 0, 5, 5, 4, 3, 1, 2, 4, 3, 1, 2], [9, 12, 0, 1, 2, 3, 4, 5, 6, 7, 8, 9, 11, 12, 7, 6, 0, 5, 5, 4, 3, 1, 2, 4, 3, 1, 2, 11, 8, 6, 0, 1, 2, 3, 4, 5, 6, 7, 8, 11, 7, 6, 0, 5, 5, 4, 3, 1, 2, 4, 3, 1, 2, 0, 5, 5, 4, 3, 1, 2, 4, 3, 1, 2, 1, 2, 3, 1, 2, 4, 3, 1, 2, 0, 5, 5, 4, 3, 1, 2, 4, 3, 1, 2, 6, 0, 5, 5, 4, 3, 1, 2, 4, 3, 1, 2, 7, 6, 0, 5, 5, 4, 3, 1, 2, 4, 3, 1, 2, 1, 2, 3, 1, 2, 4, 3, 1, 2, 0, 5, 5, 4, 3, 1, 2, 4, 3, 1, 2, 6, 0, 5, 5, 4, 3, 1, 2, 4, 3, 1, 2, 7, 6, 0, 5, 5, 4, 3, 1, 2, 4, 3, 1, 2, 7, 6, 0, 5, 5, 4, 3, 1, 2, 4, 3, 1, 2, 11, 8, 6, 0, 1, 2, 3, 4, 5, 6, 7, 8, 11, 7, 6, 0, 5, 5, 4, 3, 1, 2, 4, 3, 1, 2, 0, 5, 5, 4, 3, 1, 2, 4, 3, 1, 2, 1, 2, 3, 1, 2, 4, 3, 1, 2, 0, 5, 5, 4, 3, 1, 2, 4, 3, 1, 2, 6, 0, 5, 5, 4, 3, 1, 2, 4, 3, 1, 2, 7, 6, 0, 5, 5, 4, 3, 1, 2, 4, 3, 1, 2], [10, 13, 0, 1, 2, 3, 4, 5, 6, 7, 8, 9, 10, 11, 12, 13, 7, 6, 0, 5, 5, 4, 3, 1, 2, 4, 3, 1, 2, 9, 12, 0, 1, 2, 3, 4, 5, 6, 7, 8, 9, 11, 12, 7, 6, 0, 5, 5, 4, 3, 1, 2, 4, 3, 1, 2, 11, 8, 6, 0, 1, 2, 3, 4, 5, 6, 7, 8, 11, 7, 6, 0, 5, 5, 4, 3, 1, 2, 4, 3, 1, 2, 0, 5, 5, 4, 3, 1, 2, 4, 3, 1, 2, 1, 2, 3, 1, 2, 4, 3, 1, 2, 0, 5, 5, 4, 3, 1, 2, 4, 3, 1, 2, 6, 0, 5, 5, 4, 3, 1, 2, 4, 3, 1, 2, 7, 6, 0, 5, 5, 4, 3, 1, 2, 4, 3, 1, 2, 1, 2, 3, 1, 2, 4, 3, 1, 2, 0, 5, 5, 4, 3, 1, 2, 4, 3, 1, 2, 6, 0, 5, 5, 4, 3, 1, 2, 4, 3, 1, 2, 7, 6, 0, 5, 5, 4, 3, 1, 2, 4, 3, 1, 2, 7, 6, 0, 5, 5, 4, 3, 1, 2, 4, 3, 1, 2, 11, 8, 6, 0, 1, 2, 3, 4, 5, 6, 7, 8, 11, 7, 6, 0, 5, 5, 4, 3, 1, 2, 4, 3, 1, 2, 0, 5, 5, 4, 3, 1, 2, 4, 3, 1, 2, 1, 2, 3, 1, 2, 4, 3, 1, 2, 0, 5, 5, 4, 3, 1, 2, 4, 3, 1, 2, 6, 0, 5, 5, 4, 3, 1, 2, 4, 3, 1, 2, 7, 6, 0, 5, 5, 4, 3, 1, 2, 4, 3, 1, 2, 1, 2, 3, 1, 2, 4, 3, 1, 2, 0, 5, 5, 4, 3, 1, 2, 4, 3, 1, 2, 6, 0, 5, 5, 4, 3, 1, 2, 4, 3, 1, 2, 7, 6, 0, 5, 5, 4, 3, 1, 2, 4, 3, 1, 2, 7, 6, 0, 5, 5, 4, 3, 1, 2, 4, 3, 1, 2, 7, 6, 0, 5, 5, 4, 3, 1, 2, 4, 3, 1, 2, 11, 8, 6, 0, 1, 2, 3, 4, 5, 6, 7, 8, 11, 7, 6, 0, 5, 5, 4, 3, 1, 2, 4, 3, 1, 2, 0, 5, 5, 4, 3, 1, 2, 4, 3, 1, 2, 1, 2, 3, 1, 2, 4, 3, 1, 2, 0, 5, 5, 4, 3, 1, 2, 4, 3, 1, 2, 6, 0, 5, 5, 4, 3, 1, 2, 4, 3, 1, 2, 7, 6, 0, 5, 5, 4, 3, 1, 2, 4, 3, 1, 2, 9, 12, 0, 1, 2, 3, 4, 5, 6, 7, 8, 9, 11, 12, 7, 6, 0, 5, 5, 4, 3, 1, 2, 4, 3, 1, 2, 11, 8, 6, 0, 1, 2, 3, 4, 5, 6, 7, 8, 11, 7, 6, 0, 5, 5, 4, 3, 1, 2, 4, 3, 1, 2, 0, 5, 5, 4, 3, 1, 2, 4, 3, 1, 2, 1, 2, 3, 1, 2, 4, 3, 1, 2, 0, 5, 5, 4, 3, 1, 2, 4, 3, 1, 2, 6, 0, 5, 5, 4, 3, 1, 2, 4, 3, 1, 2, 7, 6, 0, 5, 5, 4, 3, 1, 2, 4, 3, 1, 2, 1, 2, 3, 1, 2, 4, 3, 1, 2, 0, 5, 5, 4, 3, 1, 2, 4, 3, 1, 2, 6, 0, 5, 5, 4, 3, 1, 2, 4, 3, 1, 2, 7, 6, 0, 5, 5, 4, 3, 1, 2, 4, 3, 1, 2, 7, 6, 0, 5, 5, 4, 3, 1, 2, 4, 3, 1, 2, 11, 8, 6, 0, 1, 2, 3, 4, 5, 6, 7, 8, 11, 7, 6, 0, 5, 5, 4, 3, 1, 2, 4, 3, 1, 2, 0, 5, 5, 4, 3, 1, 2, 4, 3, 1, 2, 1, 2, 3, 1, 2, 4, 3, 1, 2, 0, 5, 5, 4, 3, 1, 2, 4, 3, 1, 2, 6, 0, 5, 5, 4, 3, 1, 2, 4, 3, 1, 2, 7, 6, 0, 5, 5, 4, 3, 1, 2, 4, 3, 1, 2]] r3j_8) (.seq (.reg [48] r3j_9) (.cond (.t 49) (.reg [50] r3j_10) .skip))) (.seq (.regm [15, 51, 52, 53, 54, 55, 56, 57, 58, 59, 60, 61, 62, 63, 64, 65] [[], [], [], [2], [3, 2], [], [4, 5, 3, 2], [1, 6, 4, 5, 3, 2], [7, 1, 6, 4, 5, 3, 2], [8, 7, 1, 6, 4, 5, 3, 2], [0, 9, 9, 8, 7, 1, 6, 4, 5, 3, 2, 8, 7, 1, 6, 4, 5, 3, 2], [10, 0, 9, 9, 8, 7, 1, 6, 4, 5, 3, 2, 8, 7, 1, 6, 4, 5, 3, 2], [11, 10, 0, 9, 9, 8, 7, 1, 6, 4, 5, 3, 2, 8, 7, 1, 6, 4, 5, 3, 2], [11, 10, 0, 9, 9, 8, 7, 1, 6, 4, 5, 3, 2, 8, 7, 1, 6, 4, 5, 3, 2], [11, 10, 0, 9, 9, 8, 7, 1, 6, 4, 5, 3, 2, 8, 7, 1, 6, 4, 5, 3, 2], [], [15, 12, 10, 0, 1, 2, 3, 4, 5, 6, 7, 8, 9, 10, 11, 12, 15, 11, 10, 0, 9, 9, 8, 7, 1, 6, 4, 5, 3, 2, 8, 7, 1, 6, 4, 5, 3, 2, 0, 9, 9, 8, 7, 1, 6, 4, 5, 3, 2, 8, 7, 1, 6, 4, 5, 3, 2, 2, 3, 2, 4, 5, 3, 2, 1, 6, 4, 5, 3, 2, 7, 1, 6, 4, 5, 3, 2, 8, 7, 1, 6, 4, 5, 3, 2, 0, 9, 9, 8, 7, 1, 6, 4, 5, 3, 2, 8, 7, 1, 6, 4, 5, 3, 2, 10, 0, 9, 9, 8, 7, 1, 6, 4, 5, 3, 2, 8, 7, 1, 6, 4, 5, 3, 2, 11, 10, 0, 9, 9, 8, 7, 1, 6, 4, 5, 3, 2, 8, 7, 1, 6, 4, 5, 3, 2], [13, 16, 0, 1, 2, 3, 4, 5, 6, 7, 8, 9, 10, 11, 12, 13, 15, 16, 11, 10, 0, 9, 9, 8, 7, 1, 6, 4, 5, 3, 2, 8, 7, 1, 6, 4, 5, 3, 2, 15, 12, 10, 0, 1, 2, 3, 4, 5, 6, 7, 8, 9, 10, 11, 12, 15, 11, 10, 0, 9, 9, 8, 7, 1, 6, 4, 5, 3, 2, 8, 7, 1, 6, 4, 5, 3, 2, 0, 9, 9, 8, 7, 1, 6, 4, 5, 3, 2, 8, 7, 1, 6, 4, 5, 3, 2, 2, 3, 2, 4, 5, 3, 2, 1, 6, 4, 5, 3, 2, 7, 1, 6, 4, 5, 3, 2, 8, 7, 1, 6, 4, 5, 3, 2, 0, 9, 9, 8, 7, 1, 6, 4, 5, 3, 2, 8, 7, 1, 6, 4, 5, 3, 2, 10, 0, 9, 9, 8, 7, 1, 6, 4, 5, 3, 2, 8, 7, 1, 6, 4, 5, 3, 2, 11, 10, 0, 9, 9, 8, 7, 1, 6, 4, 5, 3, 2, 8, 7, 1, 6, 4, 5, 3, 2, 2, 3, 2, 4, 5, 3, 2, 1, 6, 4, 5, 3, 2, 7, 1, 6, 4, 5, 3, 2, 8, 7, 1, 6, 4, 5, 3, 2, 0, 9, 9, 8, 7, 1, 6, 4, 5, 3, 2, 8, 7, 1, 6, 4, 5, 3, 2, 10, 0, 9, 9, 8, 7, 1, 6, 4, 5, 3, 2, 8, 7, 1, 6, 4, 5, 3, 2, 11, 10, 0, 9, 9, 8, 7, 1, 6, 4, 5, 3, 2, 8, 7, 1, 6, 4, 5, 3, 2, 11, 10, 0, 9, 9, 8, 7, 1, 6, 4, 5, 3, 2, 8, 7, 1, 6, 4, 5, 3, 2, 15, 12, 10, 0, 1, 2, 3, 4, 5, 6, 7, 8, 9, 10, 11, 12, 15, 11, 10, 0, 9, 9, 8, 7, 1, 6, 4, 5, 3, 2, 8, 7, 1, 6, 4, 5, 3, 2, 0, 9, 9, 8, 7, 1, 6, 4, 5, 3, 2, 8, 7, 1, 6, 4, 5, 3, 2, 2, 3, 2, 4, 5, 3, 2, 1, 6, 4, 5, 3, 2, 7, 1, 6, 4, 5, 3, 2, 8, 7, 1, 6, 4, 5, 3, 2, 0, 9, 9, 8, 7, 1, 6, 4, 5, 3, 2, 8, 7, 1, 6, 4, 5, 3, 2, 10, 0, 9, 9, 8, 7, 1, 6, 4, 5, 3, 2, 8, 7, 1, 6, 4, 5, 3, 2, 11, 10, 0, 9, 9, 8, 7, 1, 6, 4, 5, 3, 2, 8, 7, 1, 6, 4, 5, 3, 2], [14, 17, 0, 1, 2, 3, 4, 5, 6, 7, 8, 9, 10, 11, 12, 13, 14, 15, 16, 17, 11, 10, 0, 9, 9, 8, 7, 1, 6, 4, 5, 3, 2, 8, 7, 1, 6, 4, 5, 3, 2, 13, 16, 0, 1, 2, 3, 4, 5, 6, 7, 8, 9, 10, 11, 12, 13, 15, 16, 11, 10, 0, 9, 9, 8, 7, 1, 6, 4, 5, 3, 2, 8, 7, 1, 6, 4, 5, 3, 2, 15, 12, 10, 0, 1, 2, 3, 4, 5, 6, 7, 8, 9, 10, 11, 12, 15, 11, 10, 0, 9, 9, 8, 7, 1, 6, 4, 5, 3, 2, 8, 7, 1, 6, 4, 5, 3, 2, 0, 9, 9, 8, 7, 1, 6, 4, 5, 3, 2, 8, 7, 1, 6, 4, 5, 3, 2, 2, 3, 2, 4, 5, 3, 2, 1, 6, 4, 5, 3, 2, 7, 1, 6, 4, 5, 3, 2, 8, 7, 1, 6, 4, 5, 3, 2, 0, 9, 9, 8, 7, 1, 6, 4, 5, 3, 2, 8, 7, 1, 6, 4, 5, 3, 2, 10, 0, 9, 9, 8, 7, 1, 6, 4, 5, 3, 2, 8, 7, 1, 6, 4, 5, 3, 2, 11, 10, 0, 9, 9, 8, 7, 1, 6, 4, 5, 3, 2, 8, 7, 1, 6, 4, 5, 3, 2, 2, 3, 2, 4, 5, 3, 2, 1, 6, 4, 5, 3, 2, 7, 1, 6, 4, 5, 3, 2, 8, 7, 1, 6, 4, 5, 3, 2, 0, 9, 9, 8, 7, 1, 6, 4, 5, 3, 2, 8, 7, 1, 6, 4, 5, 3, 2, 10, 0, 9, 9, 8, 7, 1, 6, 4, 5, 3, 2, 8, 7, 1, 6, 4, 5, 3, 2, 11, 10, 0, 9, 9, 8, 7, 1, 6, 4, 5, 3, 2, 8, 7, 1, 6, 4, 5, 3, 2, 11, 10, 0, 9, 9, 8, 7, 1, 6, 4, 5, 3, 2, 8, 7, 1, 6, 4, 5, 3, 2, 15, 12, 10, 0, 1, 2, 3, 4, 5, 6, 7, 8, 9, 10, 11, 12, 15, 11, 10, 0, 9, 9, 8, 7, 1, 6, 4, 5, 3, 2, 8, 7, 1, 6, 4, 5, 3, 2, 0, 9, 9, 8, 7, 1, 6, 4, 5, 3, 2, 8, 7, 1, 6, 4, 5, 3, 2, 2, 3, 2, 4, 5, 3, 2, 1, 6, 4, 5, 3, 2, 7, 1, 6, 4, 5, 3, 2, 8, 7, 1, 6, 4, 5, 3, 2, 0, 9, 9, 8, 7, 1, 6, 4, 5, 3, 2, 8, 7, 1, 6, 4, 5, 3, 2, 10, 0, 9, 9, 8, 7, 1, 6, 4, 5, 3, 2, 8, 7, 1, 6, 4, 5, 3, 2, 11, 10, 0, 9, 9, 8, 7, 1, 6, 4, 5, 3, 2, 8, 7, 1, 6, 4, 5, 3, 2, 2, 3, 2, 4, 5, 3, 2, 1, 6, 4, 5, 3, 2, 7, 1, 6, 4, 5, 3, 2, 8, 7, 1, 6, 4, 5, 3, 2, 0, 9, 9, 8, 7, 1, 6, 4, 5, 3, 2, 8, 7, 1, 6, 4, 5, 3, 2, 10, 0, 9, 9, 8, 7, 1, 6, 4, 5, 3, 2, 8, 7, 1, 6, 4, 5, 3, 2, 11, 10, 0, 9, 9, 8, 7, 1, 6, 4, 5, 3, 2, 8, 7, 1, 6, 4, 5, 3, 2, 11, 10, 0, 9, 9, 8, 7, 1, 6, 4, 5, 3, 2, 8, 7, 1, 6, 4, 5, 3, 2, 11, 10, 0, 9, 9, 8, 7, 1, 6, 4, 5, 3, 2, 8, 7, 1, 6, 4, 5, 3, 2, 15, 12, 10, 0, 1, 2, 3, 4, 5, 6, 7, 8, 9, 10, 11, 12, 15, 11, 10, 0, 9, 9, 8, 7, 1, 6, 4, 5, 3, 2, 8, 7, 1, 6, 4, 5, 3, 2, 0, 9, 9, 8, 7, 1, 6, 4, 5, 3, 2, 8, 7, 1, 6, 4, 5, 3, 2, 2, 3, 2, 4, 5, 3, 2, 1, 6, 4, 5, 3, 2, 7, 1, 6, 4, 5, 3, 2, 8, 7, 1, 6, 4, 5, 3, 2, 0, 9, 9, 8, 7, 1, 6, 4, 5, 3, 2, 8, 7, 1, 6, 4, 5, 3, 2, 10, 0, 9, 9, 8, 7, 1, 6, 4, 5, 3, 2, 8, 7, 1, 6, 4, 5, 3, 2, 11, 10, 0, 9, 9, 8, 7, 1, 6, 4, 5, 3, 2, 8, 7, 1, 6, 4, 5, 3, 2, 13, 16, 0, 1, 2, 3, 4, 5, 6, 7, 8, 9, 10, 11, 12, 13, 15, 16, 11, 10, 0, 9, 9, 8, 7, 1, 6, 4, 5, 3, 2, 8, 7, 1, 6, 4, 5, 3, 2, 15, 12, 10, 0, 1, 2, 3, 4, 5, 6, 7, 8, 9, 10, 11, 12, 15, 11, 10, 0, 9, 9, 8, 7, 1, 6, 4, 5, 3, 2, 8, 7, 1, 6, 4, 5, 3, 2, 0, 9, 9, 8, 7, 1, 6, 4, 5, 3, 2, 8, 7, 1, 6, 4, 5, 3, 2, 2, 3, 2, 4, 5, 3, 2, 1, 6, 4, 5, 3, 2, 7, 1, 6, 4, 5, 3, 2, 8, 7, 1, 6, 4, 5, 3, 2, 0, 9, 9, 8, 7, 1, 6, 4, 5, 3, 2, 8, 7, 1, 6, 4, 5, 3, 2, 10, 0, 9, 9, 8, 7, 1, 6, 4, 5, 3, 2, 8, 7, 1, 6, 4, 5, 3, 2, 11, 10, 0, 9, 9, 8, 7, 1, 6, 4, 5, 3, 2, 8, 7, 1, 6, 4, 5, 3, 2, 2, 3, 2, 4, 5, 3, 2, 1, 6, 4, 5, 3, 2, 7, 1, 6, 4, 5, 3, 2, 8, 7, 1, 6, 4, 5, 3, 2, 0, 9, 9, 8, 7, 1, 6, 4, 5, 3, 2, 8, 7, 1, 6, 4, 5, 3, 2, 10, 0, 9, 9, 8, 7, 1, 6, 4, 5, 3, 2, 8, 7, 1, 6, 4, 5, 3, 2, 11, 10, 0, 9, 9, 8, 7, 1, 6, 4, 5, 3, 2, 8, 7, 1, 6, 4, 5, 3, 2, 11, 10, 0, 9, 9, 8, 7, 1, 6, 4, 5, 3, 2, 8, 7, 1, 6, 4, 5, 3, 2, 15, 12, 10, 0, 1, 2, 3, 4, 5, 6, 7, 8, 9, 10, 11, 12, 15, 11, 10, 0, 9, 9, 8, 7, 1, 6, 4, 5, 3, 2, 8, 7, 1, 6, 4, 5, 3, 2, 0, 9, 9, 8, 7, 1, 6, 4, 5, 3, 2, 8, 7, 1, 6, 4, 5, 3, 2, 2, 3, 2, 4, 5, 3, 2, 1, 6, 4, 5, 3, 2, 7, 1, 6, 4, 5, 3, 2, 8, 7, 1, 6, 4, 5, 3, 2, 0, 9, 9, 8, 7, 1, 6, 4, 5, 3, 2, 8, 7, 1, 6, 4, 5, 3, 2, 10, 0, 9, 9, 8, 7, 1, 6, 4, 5, 3, 2, 8, 7, 1, 6, 4, 5, 3, 2, 11, 10, 0, 9, 9, 8, 7, 1, 6, 4, 5, 3, 2, 8, 7, 1, 6, 4, 5, 3, 2]] r3j_11) (.seq (.reg [66] r3j_12) (.cond (.t 67) (.reg [68] r3j_13) .skip))))) (.reg [35, 36] r3j_7)))))) (.seq (.reg [69, 70] r3j_14) (.seq (.reg [71, 72, 73, 74, 75, 76] r3j_15) .ret)))))))
theorem ck_3j : chkF C.P 5 pc_3j 77 [.t 6] 3 = true := by kernel_rfl
attribute [go_sem] r3j_0 r3j_1 r3j_2 r3j_3 r3j_4 r3j_5 r3j_6 r3j_8 r3j_9 r3j_10 r3j_11 r3j_12 r3j_13 r3j_7 r3j_14 r3j_15

noncomputable def f_law12_QueueOrders_k1  (j1 : Queue × Queue) : Option (Bool) :=
 (f_law12_awake).bind fun v3 =>
 ((if v3 = true then f_ref12_Same ({ j1.1 with gen := 0 }) ({ j1.2 with gen := 0 }) else some (false))).bind fun v4 =>
 some (v3 && v4)
@[go_sem] def J3j_k1  (j1 : Queue × Queue) : St := ⟨[(8, .ptr 0 0 0), (9, .ptr 1 0 0)], [(0, ⟨false, 8, (Queue.enc Queue.zero), [Queue.enc j1.1]⟩), (1, ⟨false, 8, (Queue.enc Queue.zero), [Queue.enc j1.2]⟩)], 2⟩
noncomputable def f_law12_QueueOrders_k2 (a2 : List Int) (g1 : Int × Queue × Queue) (j2 : Queue) : Option ((Int × Queue × Queue) ⊕ ((Queue × Queue))) :=
 gd (0 ≤ (IntKind.i64.wrap ((IntKind.i64.wrap ((a2.length : Int) - 1)) - g1.1)) ∧ (IntKind.i64.wrap ((IntKind.i64.wrap ((a2.length : Int) - 1)) - g1.1)) < (a2.length : Int)) <|
 (f_mill_Proc (a2.getD ((IntKind.i64.wrap ((IntKind.i64.wrap ((a2.length : Int) - 1)) - g1.1)).toNat) 0)).bind fun v7 =>
 (f_queue_Remove g1.2.2 v7).bind fun v8 =>
 (if (decide (v8.2.2 = 0)) = true then
  some (.inl ((IntKind.i64.wrap (g1.1 + 1)), j2, v8.1))
 else
  some (.inl ((IntKind.i64.wrap (g1.1 + 1)), j2, g1.2.2)))
@[go_sem] def J3j_k2 (a2 : List Int) (g1 : Int × Queue × Queue) (j2 : Queue) : St := ⟨[(2, .sl (a2.map (eI .i64))), (8, .ptr 0 0 0), (9, .ptr 1 0 0), (10, .int .i64 g1.1)], [(0, ⟨false, 8, (Queue.enc Queue.zero), [Queue.enc j2]⟩), (1, ⟨false, 8, (Queue.enc Queue.zero), [Queue.enc g1.2.2]⟩)], 2⟩
noncomputable def f_law12_QueueOrders_l1 (a2 : List Int) (g1 : Int × Queue × Queue) : Option ((Int × Queue × Queue) ⊕ ((Queue × Queue))) :=
 (if (decide (g1.1 < (a2.length : Int))) = true then
  gd (0 ≤ g1.1 ∧ g1.1 < (a2.length : Int)) <|
  (f_mill_Proc (a2.getD g1.1.toNat 0)).bind fun v5 =>
  (f_queue_Remove g1.2.1 v5).bind fun v6 =>
  (if (decide (v6.2.2 = 0)) = true then
   f_law12_QueueOrders_k2 a2 g1 v6.1
  else
   f_law12_QueueOrders_k2 a2 g1 g1.2.1)
 else
  some (.inr (g1.2.1, g1.2.2)))
@[go_sem] def I3j_l1 (a2 : List Int) (g1 : Int × Queue × Queue) : St := ⟨[(2, .sl (a2.map (eI .i64))), (8, .ptr 0 0 0), (9, .ptr 1 0 0), (10, .int .i64 g1.1)], [(0, ⟨false, 8, (Queue.enc Queue.zero), [Queue.enc g1.2.1]⟩), (1, ⟨false, 8, (Queue.enc Queue.zero), [Queue.enc g1.2.2]⟩)], 2⟩
noncomputable def f_law12_QueueOrders (a0 : Int) (a1 : List Int) (a2 : List Int) : Option (Bool) :=
 (if ((!(f_mill_Light a1)) || (decide (8 < (a2.length : Int)))) = true then
  (f_law12_awake).bind fun v1 =>
  some v1
 else
  (f_law12_made a0 a1).bind fun v2 =>
  (loopO (f_law12_QueueOrders_l1 a2) (0, v2, v2)).bind (fun z => f_law12_QueueOrders_k1 z))
theorem law12_QueueOrders_ok (a0 : Int) (a1 : List Int) (a2 : List Int) (r : Bool) (h : f_law12_QueueOrders a0 a1 a2 = some r) : PFn C 5 [.int .i64 a0, .sl (a1.map (eI .i64)), .sl (a2.map (eI .i64))] (.bool r) := by
 refine pfn_intro ck_3j rfl fun E hG hN hK => ?_
 unfold pc_3j
 unfold f_law12_QueueOrders at h
 refine s_seq (g_reg hG ?_)
 refine s_seq (s_seq (g_reg hG ?_))
 refine g_call (fun hg => mill_Light_ok a1) ?_
 refine g_cond rfl hG h (fun _ h => ?_) (fun _ h => ?_)
 · refine s_seq (g_reg hG ?_)
   obtain ⟨v1, hv1, h⟩ := bind_of h
   refine g_call (fun hg => law12_awake_ok  _ (hv1)) ?_
   refine g_ret ?_
   exact g_end h
 refine g_skip ?_
 refine s_seq (g_reg hG ?_)
 obtain ⟨v2, hv2, h⟩ := bind_of h
 refine g_call (fun hg => law12_made_ok a0 a1 _ (hv2)) ?_
 refine s_seq (g_regm C_mixed hG ?_)
 refine s_seq (s_seq (g_reg hG ?_))
 refine s_blockJ (J3j_k1) (fun v => f_law12_QueueOrders_k1 v = some r) ?_ ?_
 · intro j1 h
   unfold f_law12_QueueOrders_k1 at h
   refine g_st ?_
   refine s_seq (g_reg hG ?_)
   refine s_seq (g_reg hG ?_)
   obtain ⟨v3, hv3, h⟩ := bind_of h
   refine g_call (fun hg => law12_awake_ok  _ (hv3)) ?_
   obtain ⟨v4, hv4, h⟩ := bind_of h
   refine g_call (fun hg => ref12_Same_ok ({ j1.1 with gen := 0 }) ({ j1.2 with gen := 0 }) _ (ite_t hg hv4)) ?_
   refine g_ret ?_
   exact g_end h
 refine g_loop (I3j_l1 a2) hK [(0, 1), (1, 2)] h (fun x_l1 h g1 y_l1 h_l1 hx_l1 => ?_)
 unfold f_law12_QueueOrders_l1 at h_l1
 refine g_st ?_
 refine s_seq (s_seq (g_reg hG ?_))
 refine g_cond rfl hG h_l1 (fun _ h_l1 => ?_) (fun _ h_l1 => ?_)
 · refine g_skip ?_
   refine s_seq (s_block (s_seq (s_seq ?_)))
   obtain ⟨hb2, h_l1⟩ := gd_some h_l1
   refine g_regm C_mixed hG ?_
   obtain ⟨v5, hv5, h_l1⟩ := bind_of h_l1
   refine g_callM (fun hg => mill_Proc_ok (a2.getD g1.1.toNat 0) _ (hv5)) ?_
   obtain ⟨v6, hv6, h_l1⟩ := bind_of h_l1
   refine g_callM (fun hg => queue_Remove_ok g1.2.1 v5 _ (hv6)) ?_
   refine s_seq (g_reg hG ?_)
   refine g_condJ (J3j_k2 a2 g1) (fun v => f_law12_QueueOrders_k2 a2 g1 v = some y_l1) rfl hG h_l1 ?_ (fun _ h_l1 => ?_) (fun _ h_l1 => ?_)
   · intro j2 h_l1
     unfold f_law12_QueueOrders_k2 at h_l1
     refine g_st ?_
     refine s_seq ?_
     obtain ⟨hb1, h_l1⟩ := gd_some h_l1
     refine g_regm C_mixed hG ?_
     obtain ⟨v7, hv7, h_l1⟩ := bind_of h_l1
     refine g_callM (fun hg => mill_Proc_ok (a2.getD ((IntKind.i64.wrap ((IntKind.i64.wrap ((a2.length : Int) - 1)) - g1.1)).toNat) 0) _ (hv7)) ?_
     obtain ⟨v8, hv8, h_l1⟩ := bind_of h_l1
     refine g_callM (fun hg => queue_Remove_ok g1.2.2 v7 _ (hv8)) ?_
     refine s_seq (g_reg hG ?_)
     refine g_cond rfl hG h_l1 (fun _ h_l1 => ?_) (fun _ h_l1 => ?_)
     · refine g_reg hG ?_
       refine g_reg hG ?_
       exact g_next hK [(0, 0), (1, 1)] h_l1
     refine g_skip ?_
     refine g_reg hG ?_
     exact g_next hK [(0, 0), (1, 1)] h_l1
   · refine g_reg hG ?_
     exact g_join hK [(0, 0), (1, 1)] v6.1 (by exact h_l1)
   refine g_skip ?_
   exact g_join hK [(0, 0), (1, 1)] g1.2.1 (by exact h_l1)
 refine g_exit ?_
 obtain rfl := Option.some.inj h_l1
 have hx := hx_l1 _ rfl
 subst hx
 try dsimp only at h
 exact g_join hK [(0, 0), (1, 1)] (g1.2.1, g1.2.2) (by exact h)
attribute [local irreducible] f_law12_QueueOrders
end Ab
end Go.Proofs.YtdflfohpemfeiaaGreatDoor
