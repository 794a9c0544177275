/-
  Functions of the program, as code of the small machine.
-/
import Derived.Test.YtmegjomldcfoaaaDoorDec
import Derived.Test.YtmegjomldcfoaaaDoorProg
import Derived.KernelRfl
namespace Go.Proofs.YtmegjomldcfoaaaDoor
namespace Ab
def glob_0 : Arr (Arr Bool 5) 5 := ⟨[⟨[true, true, true, true, false], rfl⟩, ⟨[true, true, false, false, false], rfl⟩, ⟨[true, false, true, false, false], rfl⟩, ⟨[true, false, false, false, false], rfl⟩, ⟨[false, false, false, false, false], rfl⟩], rfl⟩
noncomputable def C : Cx := ⟨Tryd.prog, [(0, Arr.enc (Arr.enc eB) glob_0)]⟩
@[go_sem] theorem C_G : C.G = [(0, Arr.enc (Arr.enc eB) glob_0)] := rfl
theorem C_mixed : C.P.follows .mixedOrders = true := by kernel_rfl

@[go_sem] def r_ident_compare_0 : List POp := [⟨some 2, none, .box 3, [.t 0]⟩,
 ⟨some 3, none, .box 3, [.t 1]⟩,
 ⟨some 4, none, .mv, [.c (A.int .i64 0)]⟩]
@[go_sem] def r_ident_compare_1 : List POp := [⟨some 7, none, .load 3 true, [.t 2]⟩,
 ⟨some 8, none, .mv, [.c (A.int .i64 0)]⟩]
@[go_sem] def r_ident_compare_2 : List POp := [⟨some 9, none, .bin .lss, [.t 8, .c (A.int .i64 3)]⟩]
@[go_sem] def r_ident_compare_3 : List POp := [⟨some 10, none, .mv, [.t 8]⟩,
 ⟨some 11, none, .idxA 3 1 false, [.t 7, .t 8]⟩,
 ⟨some 5, none, .mv, [.t 10]⟩,
 ⟨some 6, none, .mv, [.t 11]⟩]
@[go_sem] def r_ident_compare_4 : List POp := [⟨some 12, none, .mv, [.t 6]⟩,
 ⟨some 13, none, .mv, [.t 5]⟩,
 ⟨some 14, none, .iaA 3 1, [.t 3, .t 13]⟩,
 ⟨some 15, none, .load 1 false, [.t 14]⟩,
 ⟨some 16, none, .bin .lss, [.t 12, .t 15]⟩]
@[go_sem] def r_ident_compare_5 : List POp := [⟨some 4, none, .mv, [.c (A.int .i64 (-1))]⟩]
@[go_sem] def r_ident_compare_6 : List POp := [⟨some 17, none, .mv, [.t 6]⟩,
 ⟨some 18, none, .mv, [.t 5]⟩,
 ⟨some 19, none, .iaA 3 1, [.t 3, .t 18]⟩,
 ⟨some 20, none, .load 1 false, [.t 19]⟩,
 ⟨some 21, none, .bin .gtr, [.t 17, .t 20]⟩]
@[go_sem] def r_ident_compare_7 : List POp := [⟨some 4, none, .mv, [.c (A.int .i64 1)]⟩]
@[go_sem] def r_ident_compare_8 : List POp := [⟨some 22, none, .bin .add, [.t 8, .c (A.int .i64 1)]⟩,
 ⟨some 8, none, .mv, [.t 22]⟩]
@[go_sem] def r_ident_compare_9 : List POp := [⟨some 4, none, .mv, [.c (A.int .i64 0)]⟩]
def pc_ident_compare : PC := (.seq (.reg [] r_ident_compare_0) (.seq (.seq (.reg [] r_ident_compare_1) (.block 0 (.loop (.seq (.reg [] r_ident_compare_2) (.seq (.cond (.t 9) .skip (.exit 0)) (.seq (.block 1 (.seq (.reg [10, 11] r_ident_compare_3) (.seq (.seq (.reg [12, 13, 14, 15] r_ident_compare_4) (.cond (.t 16) (.seq (.reg [] r_ident_compare_5) .ret) .skip)) (.seq (.reg [17, 18, 19, 20] r_ident_compare_6) (.cond (.t 21) (.seq (.reg [] r_ident_compare_7) .ret) .skip))))) (.reg [22] r_ident_compare_8))))))) (.seq (.reg [] r_ident_compare_9) .ret)))
theorem chk_ident_compare : chkF C.P 48 pc_ident_compare 23 [.t 4] 2 = true := by kernel_rfl

@[go_sem] def r_ident_CompareProc_0 : List POp := [⟨some 2, none, .box 3, [.t 0]⟩,
 ⟨some 3, none, .box 3, [.t 1]⟩,
 ⟨some 4, none, .mv, [.c (A.int .i64 0)]⟩]
@[go_sem] def r_ident_CompareProc_1 : List POp := [⟨some 5, none, .faddr 0, [.t 2]⟩,
 ⟨some 6, none, .load 1 false, [.t 5]⟩,
 ⟨some 7, none, .faddr 1, [.t 2]⟩,
 ⟨some 8, none, .load 1 false, [.t 7]⟩,
 ⟨some 9, none, .faddr 2, [.t 2]⟩,
 ⟨some 10, none, .load 1 false, [.t 9]⟩,
 ⟨some 11, none, .build (Arr.enc (eI .i64) (Arr.rep 3 0)) [(0, 1), (1, 1), (2, 1)], [.t 6, .t 8, .t 10]⟩,
 ⟨some 12, none, .faddr 0, [.t 3]⟩,
 ⟨some 13, none, .load 1 false, [.t 12]⟩,
 ⟨some 14, none, .faddr 1, [.t 3]⟩,
 ⟨some 15, none, .load 1 false, [.t 14]⟩,
 ⟨some 16, none, .faddr 2, [.t 3]⟩,
 ⟨some 17, none, .load 1 false, [.t 16]⟩,
 ⟨some 18, none, .build (Arr.enc (eI .i64) (Arr.rep 3 0)) [(0, 1), (1, 1), (2, 1)], [.t 13, .t 15, .t 17]⟩,
 ⟨some 19, none, .call 48, [.t 11, .t 18]⟩,
 ⟨some 4, none, .mv, [.t 19]⟩]
def pc_ident_CompareProc : PC := (.seq (.reg [] r_ident_CompareProc_0) (.seq (.reg [5, 6, 7, 8, 9, 10, 11, 12, 13, 14, 15, 16, 17, 18, 19] r_ident_CompareProc_1) .ret))
theorem chk_ident_CompareProc : chkF C.P 32 pc_ident_CompareProc 20 [.t 4] 2 = true := by kernel_rfl

@[go_sem] def r_amount_Zero_0 : List POp := [⟨some 1, none, .box 2, [.t 0]⟩,
 ⟨some 2, none, .mv, [.c (A.bool false)]⟩]
@[go_sem] def r_amount_Zero_1 : List POp := [⟨some 3, none, .load 2 true, [.t 1]⟩,
 ⟨some 4, none, .build (Amount.enc Amount.zero) [], []⟩,
 ⟨some 5, none, .eqa false [.i .i64, .i .i64], [.t 3, .t 4]⟩,
 ⟨some 2, none, .mv, [.t 5]⟩]
def pc_amount_Zero : PC := (.seq (.reg [] r_amount_Zero_0) (.seq (.reg [3, 4, 5] r_amount_Zero_1) .ret))
theorem chk_amount_Zero : chkF C.P 33 pc_amount_Zero 6 [.t 2] 1 = true := by kernel_rfl

@[go_sem] def r_holders_Set_0 : List POp := [⟨some 4, none, .box 3, [.t 1]⟩,
 ⟨some 5, none, .box 2, [.t 2]⟩,
 ⟨some 6, none, .mv, [.c (A.sl [])]⟩]
@[go_sem] def r_holders_Set_1 : List POp := [⟨some 11, none, .mv, [.t 0]⟩,
 ⟨some 12, none, .len, [.t 11]⟩,
 ⟨some 13, none, .bin .add, [.t 12, .c (A.int .i64 1)]⟩,
 ⟨some 14, none, .mk 5 40 (Hold.enc Hold.zero), [.c (A.int .i64 0), .t 13]⟩,
 ⟨some 7, none, .mv, [.t 14]⟩]
@[go_sem] def r_holders_Set_2 : List POp := [⟨some 8, none, .mv, [.c (A.int .i64 (-1))]⟩]
@[go_sem] def r_holders_Set_3 : List POp := [⟨some 15, none, .mv, [.t 0]⟩,
 ⟨some 16, none, .len, [.t 15]⟩,
 ⟨some 17, none, .mv, [.c (A.int .i64 0)]⟩]
@[go_sem] def r_holders_Set_4 : List POp := [⟨some 18, none, .bin .lss, [.t 17, .t 16]⟩]
@[go_sem] def r_holders_Set_5 : List POp := [⟨some 19, none, .iaS 5 (Hold.enc Hold.zero), [.t 15, .t 17]⟩,
 ⟨some 20, none, .load 5 true, [.t 19]⟩,
 ⟨some 10, none, .alloc 5 (Hold.enc Hold.zero), []⟩,
 ⟨none, none, .store 5, [.t 10, .t 20]⟩]
@[go_sem] def r_holders_Set_6 : List POp := [⟨some 21, none, .faddr 0, [.t 10]⟩,
 ⟨some 22, none, .load 3 true, [.t 21]⟩,
 ⟨some 23, none, .load 3 true, [.t 4]⟩,
 ⟨some 24, none, .eqa false [.i .i64, .i .i64, .i .i64], [.t 22, .t 23]⟩]
@[go_sem] def r_holders_Set_7 : List POp := [⟨some 25, none, .mv, [.t 8]⟩,
 ⟨some 26, none, .bin .lss, [.t 25, .c (A.int .i64 0)]⟩,
 ⟨some 27, none, .mv, [.t 26]⟩,
 ⟨some 28, some (27, true), .faddr 0, [.t 10]⟩,
 ⟨some 29, some (27, true), .load 3 true, [.t 28]⟩,
 ⟨some 30, some (27, true), .load 3 true, [.t 4]⟩,
 ⟨some 31, some (27, true), .call 32, [.t 29, .t 30]⟩,
 ⟨some 32, some (27, true), .bin .gtr, [.t 31, .c (A.int .i64 0)]⟩,
 ⟨some 33, none, .pick, [.t 27, .t 32, .c (A.bool false)]⟩]
@[go_sem] def r_holders_Set_8 : List POp := [⟨some 34, none, .mv, [.t 7]⟩,
 ⟨some 35, none, .len, [.t 34]⟩,
 ⟨some 8, none, .mv, [.t 35]⟩]
@[go_sem] def r_holders_Set_9 : List POp := [⟨some 36, none, .mv, [.t 7]⟩,
 ⟨some 37, none, .load 5 true, [.t 10]⟩,
 ⟨some 38, none, .bslice 5 (Hold.enc Hold.zero), [.t 37]⟩,
 ⟨some 39, none, .append 5 40 (Hold.enc Hold.zero), [.t 36, .t 38]⟩,
 ⟨some 7, none, .mv, [.t 39]⟩]
@[go_sem] def r_holders_Set_10 : List POp := [⟨some 40, none, .bin .add, [.t 17, .c (A.int .i64 1)]⟩,
 ⟨some 17, none, .mv, [.t 40]⟩]
@[go_sem] def r_holders_Set_11 : List POp := [⟨some 41, none, .load 2 true, [.t 5]⟩,
 ⟨some 42, none, .call 33, [.t 41]⟩]
@[go_sem] def r_holders_Set_12 : List POp := [⟨some 43, none, .mv, [.t 7]⟩,
 ⟨some 6, none, .mv, [.t 43]⟩]
@[go_sem] def r_holders_Set_13 : List POp := [⟨some 44, none, .mv, [.t 8]⟩,
 ⟨some 45, none, .bin .lss, [.t 44, .c (A.int .i64 0)]⟩]
@[go_sem] def r_holders_Set_14 : List POp := [⟨some 46, none, .mv, [.t 7]⟩,
 ⟨some 47, none, .len, [.t 46]⟩,
 ⟨some 8, none, .mv, [.t 47]⟩]
@[go_sem] def r_holders_Set_15 : List POp := [⟨some 48, none, .mv, [.t 7]⟩,
 ⟨some 49, none, .build (Hold.enc Hold.zero) [], []⟩,
 ⟨some 50, none, .bslice 5 (Hold.enc Hold.zero), [.t 49]⟩,
 ⟨some 51, none, .append 5 40 (Hold.enc Hold.zero), [.t 48, .t 50]⟩,
 ⟨some 7, none, .mv, [.t 51]⟩]
@[go_sem] def r_holders_Set_16 : List POp := [⟨some 52, none, .mv, [.t 7]⟩,
 ⟨some 53, none, .mv, [.t 8]⟩,
 ⟨some 54, none, .bin .add, [.t 53, .c (A.int .i64 1)]⟩,
 ⟨some 55, none, .slc 5 true false false, [.t 52, .t 54]⟩,
 ⟨some 56, none, .mv, [.t 7]⟩,
 ⟨some 57, none, .mv, [.t 8]⟩,
 ⟨some 58, none, .slc 5 true false false, [.t 56, .t 57]⟩,
 ⟨some 59, none, .copy 5, [.t 55, .t 58]⟩]
@[go_sem] def r_holders_Set_17 : List POp := [⟨some 60, none, .mv, [.t 7]⟩,
 ⟨some 61, none, .mv, [.t 8]⟩,
 ⟨some 62, none, .load 3 true, [.t 4]⟩,
 ⟨some 63, none, .load 2 true, [.t 5]⟩,
 ⟨some 64, none, .build (Hold.enc Hold.zero) [(0, 3), (3, 2)], [.t 62, .t 63]⟩,
 ⟨some 65, none, .iaS 5 (Hold.enc Hold.zero), [.t 60, .t 61]⟩,
 ⟨none, none, .store 5, [.t 65, .t 64]⟩]
@[go_sem] def r_holders_Set_18 : List POp := [⟨some 66, none, .mv, [.t 7]⟩,
 ⟨some 6, none, .mv, [.t 66]⟩]
def pc_holders_Set : PC := (.seq (.reg [] r_holders_Set_0) (.seq (.reg [11, 12, 13, 14] r_holders_Set_1) (.seq (.reg [] r_holders_Set_2) (.seq (.seq (.reg [] r_holders_Set_3) (.block 0 (.loop (.seq (.reg [] r_holders_Set_4) (.seq (.cond (.t 18) .skip (.exit 0)) (.seq (.block 1 (.seq (.reg [19, 20] r_holders_Set_5) (.seq (.seq (.reg [21, 22, 23] r_holders_Set_6) (.cond (.t 24) (.exit 1) .skip)) (.seq (.seq (.reg [25, 26, 27, 28, 29, 30, 31, 32] r_holders_Set_7) (.cond (.t 33) (.reg [34, 35] r_holders_Set_8) .skip)) (.reg [36, 37, 38, 39] r_holders_Set_9))))) (.reg [40] r_holders_Set_10))))))) (.seq (.seq (.reg [41] r_holders_Set_11) (.cond (.t 42) (.seq (.reg [43] r_holders_Set_12) .ret) .skip)) (.seq (.seq (.reg [44] r_holders_Set_13) (.cond (.t 45) (.reg [46, 47] r_holders_Set_14) .skip)) (.seq (.reg [48, 49, 50, 51] r_holders_Set_15) (.seq (.regm [52, 53, 54, 55, 56, 57, 58, 59] [[], [], [1], [0, 2, 1], [], [], [4, 5], [3, 6, 0, 2, 1, 4, 5]] r_holders_Set_16) (.seq (.reg [60, 61, 62, 63, 64, 65] r_holders_Set_17) (.seq (.reg [66] r_holders_Set_18) .ret))))))))))
theorem chk_holders_Set : chkF C.P 13 pc_holders_Set 67 [.t 6] 3 = true := by kernel_rfl

@[go_sem] def r_amount_Shaped_0 : List POp := [⟨some 1, none, .box 4, [.t 0]⟩,
 ⟨some 2, none, .mv, [.c (A.bool false)]⟩]
@[go_sem] def r_amount_Shaped_1 : List POp := [⟨some 3, none, .faddr 1, [.t 1]⟩,
 ⟨some 4, none, .load 1 false, [.t 3]⟩]
@[go_sem] def r_amount_Shaped_2 : List POp := [⟨some 6, none, .bin .eql, [.t 4, .c (A.int .i64 1)]⟩,
 ⟨some 5, none, .mv, [.t 6]⟩]
@[go_sem] def r_amount_Shaped_3 : List POp := [⟨some 7, none, .faddr 2, [.t 1]⟩,
 ⟨some 8, none, .load 1 false, [.t 7]⟩,
 ⟨some 9, none, .bin .eql, [.t 8, .c (A.int .i64 1)]⟩,
 ⟨some 2, none, .mv, [.t 9]⟩]
@[go_sem] def r_amount_Shaped_4 : List POp := [⟨some 11, none, .bin .eql, [.t 4, .c (A.int .i64 2)]⟩,
 ⟨some 10, none, .mv, [.t 11]⟩]
@[go_sem] def r_amount_Shaped_5 : List POp := [⟨some 12, none, .faddr 2, [.t 1]⟩,
 ⟨some 13, none, .load 1 false, [.t 12]⟩,
 ⟨some 14, none, .bin .geq, [.t 13, .c (A.int .i64 1)]⟩,
 ⟨some 15, none, .mv, [.t 14]⟩,
 ⟨some 16, some (15, true), .faddr 2, [.t 1]⟩,
 ⟨some 17, some (15, true), .load 1 false, [.t 16]⟩,
 ⟨some 18, some (15, true), .bin .leq, [.t 17, .c (A.int .i64 8)]⟩,
 ⟨some 19, none, .pick, [.t 15, .t 18, .c (A.bool false)]⟩,
 ⟨some 2, none, .mv, [.t 19]⟩]
@[go_sem] def r_amount_Shaped_6 : List POp := [⟨some 2, none, .mv, [.c (A.bool false)]⟩]
def pc_amount_Shaped : PC := (.seq (.reg [] r_amount_Shaped_0) (.seq (.seq (.reg [3] r_amount_Shaped_1) (.block 0 (.seq (.reg [6] r_amount_Shaped_2) (.cond (.t 5) (.seq (.reg [7, 8, 9] r_amount_Shaped_3) .ret) (.seq (.reg [11] r_amount_Shaped_4) (.cond (.t 10) (.seq (.reg [12, 13, 14, 15, 16, 17, 18, 19] r_amount_Shaped_5) .ret) .skip)))))) (.seq (.reg [] r_amount_Shaped_6) .ret)))
theorem chk_amount_Shaped : chkF C.P 43 pc_amount_Shaped 20 [.t 2] 1 = true := by kernel_rfl

@[go_sem] def r_ident_between_0 : List POp := [⟨some 6, none, .mv, [.c (A.bool false)]⟩]
@[go_sem] def r_ident_between_1 : List POp := [⟨some 7, none, .mv, [.t 0]⟩,
 ⟨some 8, none, .mv, [.t 1]⟩,
 ⟨some 9, none, .bin .geq, [.t 7, .t 8]⟩,
 ⟨some 10, none, .mv, [.t 9]⟩,
 ⟨some 11, some (10, true), .mv, [.t 0]⟩,
 ⟨some 12, some (10, true), .mv, [.t 2]⟩,
 ⟨some 13, some (10, true), .bin .leq, [.t 11, .t 12]⟩,
 ⟨some 14, none, .pick, [.t 10, .t 13, .c (A.bool false)]⟩,
 ⟨some 6, none, .mv, [.t 14]⟩]
def pc_ident_between : PC := (.seq (.reg [] r_ident_between_0) (.seq (.reg [7, 8, 9, 10, 11, 12, 13, 14] r_ident_between_1) .ret))
theorem chk_ident_between : chkF C.P 56 pc_ident_between 15 [.t 6] 3 = true := by kernel_rfl

@[go_sem] def r_ident_ValidProc_0 : List POp := [⟨some 1, none, .box 3, [.t 0]⟩,
 ⟨some 2, none, .mv, [.c (A.bool false)]⟩]
@[go_sem] def r_ident_ValidProc_1 : List POp := [⟨some 3, none, .faddr 0, [.t 1]⟩,
 ⟨some 4, none, .load 1 false, [.t 3]⟩,
 ⟨some 5, none, .call 56, [.t 4, .c (A.int .i64 0), .c (A.int .i64 3)]⟩,
 ⟨some 6, none, .mv, [.t 5]⟩,
 ⟨some 7, some (6, true), .faddr 1, [.t 1]⟩,
 ⟨some 8, some (6, true), .load 1 false, [.t 7]⟩,
 ⟨some 9, some (6, true), .call 56, [.t 8, .c (A.int .i64 1), .c (A.int .i64 99)]⟩,
 ⟨some 10, none, .pick, [.t 6, .t 9, .c (A.bool false)]⟩,
 ⟨some 11, none, .mv, [.t 10]⟩,
 ⟨some 12, some (11, true), .faddr 2, [.t 1]⟩,
 ⟨some 13, some (11, true), .load 1 false, [.t 12]⟩,
 ⟨some 14, some (11, true), .call 56, [.t 13, .c (A.int .i64 1), .c (A.int .i64 999)]⟩,
 ⟨some 15, none, .pick, [.t 11, .t 14, .c (A.bool false)]⟩,
 ⟨some 2, none, .mv, [.t 15]⟩]
def pc_ident_ValidProc : PC := (.seq (.reg [] r_ident_ValidProc_0) (.seq (.reg [3, 4, 5, 6, 7, 8, 9, 10, 11, 12, 13, 14, 15] r_ident_ValidProc_1) .ret))
theorem chk_ident_ValidProc : chkF C.P 44 pc_ident_ValidProc 16 [.t 2] 1 = true := by kernel_rfl

@[go_sem] def r_mode_Valid_0 : List POp := [⟨some 2, none, .mv, [.c (A.bool false)]⟩]
@[go_sem] def r_mode_Valid_1 : List POp := [⟨some 3, none, .mv, [.t 0]⟩,
 ⟨some 4, none, .bin .geq, [.t 3, .c (A.int .i64 1)]⟩,
 ⟨some 5, none, .mv, [.t 4]⟩,
 ⟨some 6, some (5, true), .mv, [.t 0]⟩,
 ⟨some 7, some (5, true), .bin .leq, [.t 6, .c (A.int .i64 5)]⟩,
 ⟨some 8, none, .pick, [.t 5, .t 7, .c (A.bool false)]⟩,
 ⟨some 2, none, .mv, [.t 8]⟩]
def pc_mode_Valid : PC := (.seq (.reg [] r_mode_Valid_0) (.seq (.reg [3, 4, 5, 6, 7, 8] r_mode_Valid_1) .ret))
theorem chk_mode_Valid : chkF C.P 57 pc_mode_Valid 9 [.t 2] 1 = true := by kernel_rfl

@[go_sem] def r_amount_Fits_0 : List POp := [⟨some 2, none, .box 4, [.t 0]⟩,
 ⟨some 3, none, .box 2, [.t 1]⟩,
 ⟨some 4, none, .mv, [.c (A.bool false)]⟩]
@[go_sem] def r_amount_Fits_1 : List POp := [⟨some 5, none, .load 4 true, [.t 2]⟩,
 ⟨some 6, none, .call 43, [.t 5]⟩,
 ⟨some 7, none, .not, [.t 6]⟩]
@[go_sem] def r_amount_Fits_2 : List POp := [⟨some 4, none, .mv, [.c (A.bool false)]⟩]
@[go_sem] def r_amount_Fits_3 : List POp := [⟨some 8, none, .faddr 1, [.t 2]⟩,
 ⟨some 9, none, .load 1 false, [.t 8]⟩,
 ⟨some 10, none, .bin .eql, [.t 9, .c (A.int .i64 1)]⟩]
@[go_sem] def r_amount_Fits_4 : List POp := [⟨some 11, none, .faddr 0, [.t 3]⟩,
 ⟨some 12, none, .load 1 false, [.t 11]⟩,
 ⟨some 13, none, .call 57, [.t 12]⟩,
 ⟨some 14, none, .mv, [.t 13]⟩,
 ⟨some 15, some (14, true), .faddr 1, [.t 3]⟩,
 ⟨some 16, some (14, true), .load 1 false, [.t 15]⟩,
 ⟨some 17, some (14, true), .bin .eql, [.t 16, .c (A.int .i64 0)]⟩,
 ⟨some 18, none, .pick, [.t 14, .t 17, .c (A.bool false)]⟩,
 ⟨some 4, none, .mv, [.t 18]⟩]
@[go_sem] def r_amount_Fits_5 : List POp := [⟨some 19, none, .faddr 0, [.t 3]⟩,
 ⟨some 20, none, .load 1 false, [.t 19]⟩,
 ⟨some 21, none, .bin .eql, [.t 20, .c (A.int .i64 0)]⟩,
 ⟨some 22, none, .mv, [.t 21]⟩,
 ⟨some 23, some (22, true), .faddr 1, [.t 3]⟩,
 ⟨some 24, some (22, true), .load 1 false, [.t 23]⟩,
 ⟨some 25, some (22, true), .bin .geq, [.t 24, .c (A.int .i64 1)]⟩,
 ⟨some 26, none, .pick, [.t 22, .t 25, .c (A.bool false)]⟩,
 ⟨some 27, none, .mv, [.t 26]⟩,
 ⟨some 28, some (27, true), .faddr 1, [.t 3]⟩,
 ⟨some 29, some (27, true), .load 1 false, [.t 28]⟩,
 ⟨some 30, some (27, true), .faddr 2, [.t 2]⟩,
 ⟨some 31, some (27, true), .load 1 false, [.t 30]⟩,
 ⟨some 32, some (27, true), .bin .leq, [.t 29, .t 31]⟩,
 ⟨some 33, none, .pick, [.t 27, .t 32, .c (A.bool false)]⟩,
 ⟨some 4, none, .mv, [.t 33]⟩]
def pc_amount_Fits : PC := (.seq (.reg [] r_amount_Fits_0) (.seq (.seq (.reg [5, 6] r_amount_Fits_1) (.cond (.t 7) (.seq (.reg [] r_amount_Fits_2) .ret) .skip)) (.seq (.seq (.reg [8, 9] r_amount_Fits_3) (.cond (.t 10) (.seq (.reg [11, 12, 13, 14, 15, 16, 17, 18] r_amount_Fits_4) .ret) .skip)) (.seq (.reg [19, 20, 21, 22, 23, 24, 25, 26, 27, 28, 29, 30, 31, 32, 33] r_amount_Fits_5) .ret))))
theorem chk_amount_Fits : chkF C.P 45 pc_amount_Fits 34 [.t 4] 2 = true := by kernel_rfl

@[go_sem] def r_amount_permitted_0 : List POp := [⟨some 2, none, .box 4, [.t 0]⟩,
 ⟨some 3, none, .box 2, [.t 1]⟩,
 ⟨some 4, none, .mv, [.c (A.bool false)]⟩]
@[go_sem] def r_amount_permitted_1 : List POp := [⟨some 5, none, .load 4 true, [.t 2]⟩,
 ⟨some 6, none, .call 43, [.t 5]⟩,
 ⟨some 7, none, .mv, [.t 6]⟩,
 ⟨some 8, some (7, true), .load 2 true, [.t 3]⟩,
 ⟨some 9, some (7, true), .call 33, [.t 8]⟩,
 ⟨some 10, some (7, true), .mv, [.t 9]⟩,
 ⟨some 11, some (10, false), .load 4 true, [.t 2]⟩,
 ⟨some 12, some (10, false), .load 2 true, [.t 3]⟩,
 ⟨some 13, some (10, false), .call 45, [.t 11, .t 12]⟩,
 ⟨some 14, some (7, true), .pick, [.t 10, .c (A.bool true), .t 13]⟩,
 ⟨some 15, none, .pick, [.t 7, .t 14, .c (A.bool false)]⟩,
 ⟨some 4, none, .mv, [.t 15]⟩]
def pc_amount_permitted : PC := (.seq (.reg [] r_amount_permitted_0) (.seq (.reg [5, 6, 7, 8, 9, 10, 11, 12, 13, 14, 15] r_amount_permitted_1) .ret))
theorem chk_amount_permitted : chkF C.P 51 pc_amount_permitted 16 [.t 4] 2 = true := by kernel_rfl

@[go_sem] def r_mode_Compatible_0 : List POp := [⟨some 4, none, .mv, [.c (A.bool false)]⟩]
@[go_sem] def r_mode_Compatible_1 : List POp := [⟨some 5, none, .mv, [.t 0]⟩,
 ⟨some 6, none, .call 57, [.t 5]⟩,
 ⟨some 7, none, .mv, [.t 6]⟩,
 ⟨some 8, some (7, true), .mv, [.t 1]⟩,
 ⟨some 9, some (7, true), .call 57, [.t 8]⟩,
 ⟨some 10, none, .pick, [.t 7, .t 9, .c (A.bool false)]⟩,
 ⟨some 11, none, .mv, [.t 10]⟩,
 ⟨some 12, some (11, true), .mv, [.t 0]⟩,
 ⟨some 13, some (11, true), .bin .sub, [.t 12, .c (A.int .i64 1)]⟩,
 ⟨some 14, some (11, true), .mv, [.t 1]⟩,
 ⟨some 15, some (11, true), .bin .sub, [.t 14, .c (A.int .i64 1)]⟩,
 ⟨some 16, some (11, true), .iaA 5 5, [.g 0, .t 13]⟩,
 ⟨some 17, some (11, true), .iaA 5 1, [.t 16, .t 15]⟩,
 ⟨some 18, some (11, true), .load 1 false, [.t 17]⟩,
 ⟨some 19, none, .pick, [.t 11, .t 18, .c (A.bool false)]⟩,
 ⟨some 4, none, .mv, [.t 19]⟩]
def pc_mode_Compatible : PC := (.seq (.reg [] r_mode_Compatible_0) (.seq (.reg [5, 6, 7, 8, 9, 10, 11, 12, 13, 14, 15, 16, 17, 18, 19] r_mode_Compatible_1) .ret))
theorem chk_mode_Compatible : chkF C.P 52 pc_mode_Compatible 20 [.t 4] 2 = true := by kernel_rfl

@[go_sem] def r_amount_Compatible_0 : List POp := [⟨some 2, none, .box 4, [.t 0]⟩,
 ⟨some 4, none, .mv, [.c (A.bool false)]⟩]
@[go_sem] def r_amount_Compatible_1 : List POp := [⟨some 12, none, .load 4 true, [.t 2]⟩,
 ⟨some 13, none, .call 43, [.t 12]⟩,
 ⟨some 14, none, .not, [.t 13]⟩]
@[go_sem] def r_amount_Compatible_2 : List POp := [⟨some 4, none, .mv, [.c (A.bool false)]⟩]
@[go_sem] def r_amount_Compatible_3 : List POp := [⟨some 5, none, .mv, [.c (A.bool true)]⟩]
@[go_sem] def r_amount_Compatible_4 : List POp := [⟨some 6, none, .alloc 6 (Arr.enc eB (Arr.rep 6 false)), []⟩]
@[go_sem] def r_amount_Compatible_5 : List POp := [⟨some 7, none, .mv, [.c (A.int .i64 0)]⟩]
@[go_sem] def r_amount_Compatible_6 : List POp := [⟨some 15, none, .mv, [.t 1]⟩,
 ⟨some 16, none, .len, [.t 15]⟩,
 ⟨some 17, none, .mv, [.c (A.int .i64 0)]⟩]
@[go_sem] def r_amount_Compatible_7 : List POp := [⟨some 18, none, .bin .lss, [.t 17, .t 16]⟩]
@[go_sem] def r_amount_Compatible_8 : List POp := [⟨some 19, none, .iaS 2 (Amount.enc Amount.zero), [.t 15, .t 17]⟩,
 ⟨some 20, none, .load 2 true, [.t 19]⟩,
 ⟨some 9, none, .alloc 2 (Amount.enc Amount.zero), []⟩,
 ⟨none, none, .store 2, [.t 9, .t 20]⟩]
@[go_sem] def r_amount_Compatible_9 : List POp := [⟨some 21, none, .load 4 true, [.t 2]⟩,
 ⟨some 22, none, .load 2 true, [.t 9]⟩,
 ⟨some 23, none, .call 51, [.t 21, .t 22]⟩,
 ⟨some 24, none, .not, [.t 23]⟩,
 ⟨some 25, none, .mv, [.t 24]⟩,
 ⟨some 26, some (25, false), .mv, [.t 7]⟩,
 ⟨some 27, some (25, false), .faddr 1, [.t 9]⟩,
 ⟨some 28, some (25, false), .load 1 false, [.t 27]⟩,
 ⟨some 29, some (25, false), .bin .add, [.t 26, .t 28]⟩,
 ⟨some 30, some (25, false), .faddr 2, [.t 2]⟩,
 ⟨some 31, some (25, false), .load 1 false, [.t 30]⟩,
 ⟨some 32, some (25, false), .bin .gtr, [.t 29, .t 31]⟩,
 ⟨some 33, none, .pick, [.t 25, .c (A.bool true), .t 32]⟩]
@[go_sem] def r_amount_Compatible_10 : List POp := [⟨some 5, none, .mv, [.c (A.bool false)]⟩]
@[go_sem] def r_amount_Compatible_11 : List POp := [⟨some 34, none, .mv, [.t 7]⟩,
 ⟨some 35, none, .faddr 1, [.t 9]⟩,
 ⟨some 36, none, .load 1 false, [.t 35]⟩,
 ⟨some 37, none, .bin .add, [.t 34, .t 36]⟩,
 ⟨some 7, none, .mv, [.t 37]⟩]
@[go_sem] def r_amount_Compatible_12 : List POp := [⟨some 38, none, .faddr 0, [.t 9]⟩,
 ⟨some 39, none, .load 1 false, [.t 38]⟩,
 ⟨some 40, none, .bin .eql, [.t 39, .c (A.int .i64 0)]⟩]
@[go_sem] def r_amount_Compatible_13 : List POp := [⟨some 41, none, .load 6 true, [.t 6]⟩,
 ⟨some 42, none, .mv, [.c (A.int .i64 0)]⟩]
@[go_sem] def r_amount_Compatible_14 : List POp := [⟨some 43, none, .bin .lss, [.t 42, .c (A.int .i64 6)]⟩]
@[go_sem] def r_amount_Compatible_15 : List POp := [⟨some 44, none, .mv, [.t 42]⟩,
 ⟨some 45, none, .idxA 6 1 false, [.t 41, .t 42]⟩,
 ⟨some 10, none, .mv, [.t 44]⟩,
 ⟨some 11, none, .mv, [.t 45]⟩]
@[go_sem] def r_amount_Compatible_16 : List POp := [⟨some 46, none, .mv, [.t 11]⟩,
 ⟨some 47, none, .mv, [.t 46]⟩,
 ⟨some 48, some (47, true), .mv, [.t 10]⟩,
 ⟨some 49, some (47, true), .faddr 0, [.t 9]⟩,
 ⟨some 50, some (47, true), .load 1 false, [.t 49]⟩,
 ⟨some 51, some (47, true), .call 52, [.t 48, .t 50]⟩,
 ⟨some 52, some (47, true), .not, [.t 51]⟩,
 ⟨some 53, none, .pick, [.t 47, .t 52, .c (A.bool false)]⟩]
@[go_sem] def r_amount_Compatible_17 : List POp := [⟨some 5, none, .mv, [.c (A.bool false)]⟩]
@[go_sem] def r_amount_Compatible_18 : List POp := [⟨some 54, none, .bin .add, [.t 42, .c (A.int .i64 1)]⟩,
 ⟨some 42, none, .mv, [.t 54]⟩]
@[go_sem] def r_amount_Compatible_19 : List POp := [⟨some 55, none, .faddr 0, [.t 9]⟩,
 ⟨some 56, none, .load 1 false, [.t 55]⟩,
 ⟨some 57, none, .iaA 6 1, [.t 6, .t 56]⟩,
 ⟨none, none, .store 1, [.t 57, .c (A.bool true)]⟩]
@[go_sem] def r_amount_Compatible_20 : List POp := [⟨some 58, none, .bin .add, [.t 17, .c (A.int .i64 1)]⟩,
 ⟨some 17, none, .mv, [.t 58]⟩]
@[go_sem] def r_amount_Compatible_21 : List POp := [⟨some 59, none, .mv, [.t 5]⟩,
 ⟨some 4, none, .mv, [.t 59]⟩]
def pc_amount_Compatible : PC := (.seq (.reg [] r_amount_Compatible_0) (.scope (.seq (.seq (.reg [12, 13] r_amount_Compatible_1) (.cond (.t 14) (.seq (.reg [] r_amount_Compatible_2) .ret) .skip)) (.seq (.reg [] r_amount_Compatible_3) (.seq (.reg [] r_amount_Compatible_4) (.seq (.reg [] r_amount_Compatible_5) (.seq .label (.seq (.seq (.reg [] r_amount_Compatible_6) (.block 0 (.loop (.seq (.reg [] r_amount_Compatible_7) (.seq (.cond (.t 18) .skip (.exit 0)) (.seq (.block 1 (.seq (.reg [19, 20] r_amount_Compatible_8) (.seq (.seq (.reg [21, 22, 23, 24, 25, 26, 27, 28, 29, 30, 31, 32] r_amount_Compatible_9) (.cond (.t 33) (.seq (.reg [] r_amount_Compatible_10) (.exit 0)) .skip)) (.seq (.reg [34, 35, 36, 37] r_amount_Compatible_11) (.seq (.seq (.reg [38, 39] r_amount_Compatible_12) (.cond (.t 40) (.exit 1) .skip)) (.seq (.seq (.reg [] r_amount_Compatible_13) (.block 2 (.loop (.seq (.reg [] r_amount_Compatible_14) (.seq (.cond (.t 43) .skip (.exit 2)) (.seq (.block 3 (.seq (.reg [44, 45] r_amount_Compatible_15) (.seq (.reg [46, 47, 48, 49, 50, 51, 52] r_amount_Compatible_16) (.cond (.t 53) (.seq (.reg [] r_amount_Compatible_17) (.exit 0)) .skip)))) (.reg [54] r_amount_Compatible_18))))))) (.reg [55, 56, 57] r_amount_Compatible_19))))))) (.reg [58] r_amount_Compatible_20))))))) (.seq (.reg [59] r_amount_Compatible_21) .ret)))))))))
theorem chk_amount_Compatible : chkF C.P 38 pc_amount_Compatible 60 [.t 4] 2 = true := by kernel_rfl

@[go_sem] def r_holders_Valid_0 : List POp := [⟨some 2, none, .box 4, [.t 0]⟩,
 ⟨some 4, none, .mv, [.c (A.bool false)]⟩]
@[go_sem] def r_holders_Valid_1 : List POp := [⟨some 8, none, .load 4 true, [.t 2]⟩,
 ⟨some 9, none, .call 43, [.t 8]⟩,
 ⟨some 10, none, .not, [.t 9]⟩,
 ⟨some 11, none, .mv, [.t 10]⟩,
 ⟨some 12, some (11, false), .mv, [.t 1]⟩,
 ⟨some 13, some (11, false), .len, [.t 12]⟩,
 ⟨some 14, some (11, false), .bin .gtr, [.t 13, .c (A.int .i64 8)]⟩,
 ⟨some 15, none, .pick, [.t 11, .c (A.bool true), .t 14]⟩]
@[go_sem] def r_holders_Valid_2 : List POp := [⟨some 4, none, .mv, [.c (A.bool false)]⟩]
@[go_sem] def r_holders_Valid_3 : List POp := [⟨some 5, none, .nilown 2 (Amount.enc Amount.zero), [.c (A.full [])]⟩]
@[go_sem] def r_holders_Valid_4 : List POp := [⟨some 16, none, .mv, [.t 1]⟩,
 ⟨some 17, none, .len, [.t 16]⟩,
 ⟨some 18, none, .mv, [.c (A.int .i64 0)]⟩]
@[go_sem] def r_holders_Valid_5 : List POp := [⟨some 19, none, .bin .lss, [.t 18, .t 17]⟩]
@[go_sem] def r_holders_Valid_6 : List POp := [⟨some 20, none, .mv, [.t 18]⟩,
 ⟨some 21, none, .iaS 5 (Hold.enc Hold.zero), [.t 16, .t 18]⟩,
 ⟨some 22, none, .load 5 true, [.t 21]⟩,
 ⟨some 7, none, .alloc 5 (Hold.enc Hold.zero), []⟩,
 ⟨some 6, none, .mv, [.t 20]⟩,
 ⟨none, none, .store 5, [.t 7, .t 22]⟩]
@[go_sem] def r_holders_Valid_7 : List POp := [⟨some 23, none, .faddr 0, [.t 7]⟩,
 ⟨some 24, none, .load 3 true, [.t 23]⟩,
 ⟨some 25, none, .call 44, [.t 24]⟩,
 ⟨some 26, none, .not, [.t 25]⟩,
 ⟨some 27, none, .mv, [.t 26]⟩,
 ⟨some 28, some (27, false), .load 4 true, [.t 2]⟩,
 ⟨some 29, some (27, false), .faddr 3, [.t 7]⟩,
 ⟨some 30, some (27, false), .load 2 true, [.t 29]⟩,
 ⟨some 31, some (27, false), .call 45, [.t 28, .t 30]⟩,
 ⟨some 32, some (27, false), .not, [.t 31]⟩,
 ⟨some 33, none, .pick, [.t 27, .c (A.bool true), .t 32]⟩]
@[go_sem] def r_holders_Valid_8 : List POp := [⟨some 4, none, .mv, [.c (A.bool false)]⟩]
@[go_sem] def r_holders_Valid_9 : List POp := [⟨some 34, none, .mv, [.t 6]⟩,
 ⟨some 35, none, .bin .gtr, [.t 34, .c (A.int .i64 0)]⟩,
 ⟨some 36, none, .mv, [.t 35]⟩,
 ⟨some 37, some (36, true), .mv, [.t 1]⟩,
 ⟨some 38, some (36, true), .mv, [.t 6]⟩,
 ⟨some 39, some (36, true), .bin .sub, [.t 38, .c (A.int .i64 1)]⟩,
 ⟨some 40, some (36, true), .iaS 5 (Hold.enc Hold.zero), [.t 37, .t 39]⟩,
 ⟨some 41, some (36, true), .faddr 0, [.t 40]⟩,
 ⟨some 42, some (36, true), .load 3 true, [.t 41]⟩,
 ⟨some 43, some (36, true), .faddr 0, [.t 7]⟩,
 ⟨some 44, some (36, true), .load 3 true, [.t 43]⟩,
 ⟨some 45, some (36, true), .call 32, [.t 42, .t 44]⟩,
 ⟨some 46, some (36, true), .bin .geq, [.t 45, .c (A.int .i64 0)]⟩,
 ⟨some 47, none, .pick, [.t 36, .t 46, .c (A.bool false)]⟩]
@[go_sem] def r_holders_Valid_10 : List POp := [⟨some 4, none, .mv, [.c (A.bool false)]⟩]
@[go_sem] def r_holders_Valid_11 : List POp := [⟨some 48, none, .mv, [.t 5]⟩,
 ⟨some 49, none, .faddr 3, [.t 7]⟩,
 ⟨some 50, none, .load 2 true, [.t 49]⟩,
 ⟨some 51, none, .bslice 2 (Amount.enc Amount.zero), [.t 50]⟩,
 ⟨some 52, none, .append 2 16 (Amount.enc Amount.zero), [.t 48, .t 51]⟩,
 ⟨some 5, none, .mv, [.t 52]⟩]
@[go_sem] def r_holders_Valid_12 : List POp := [⟨some 53, none, .bin .add, [.t 18, .c (A.int .i64 1)]⟩,
 ⟨some 18, none, .mv, [.t 53]⟩]
@[go_sem] def r_holders_Valid_13 : List POp := [⟨some 54, none, .load 4 true, [.t 2]⟩,
 ⟨some 55, none, .mv, [.t 5]⟩,
 ⟨some 56, none, .call 38, [.t 54, .t 55]⟩,
 ⟨some 4, none, .mv, [.t 56]⟩]
def pc_holders_Valid : PC := (.seq (.reg [] r_holders_Valid_0) (.seq (.seq (.reg [8, 9, 10, 11, 12, 13, 14] r_holders_Valid_1) (.cond (.t 15) (.seq (.reg [] r_holders_Valid_2) .ret) .skip)) (.seq (.reg [] r_holders_Valid_3) (.seq (.seq (.reg [] r_holders_Valid_4) (.block 0 (.loop (.seq (.reg [] r_holders_Valid_5) (.seq (.cond (.t 19) .skip (.exit 0)) (.seq (.block 1 (.seq (.reg [20, 21, 22] r_holders_Valid_6) (.seq (.seq (.reg [23, 24, 25, 26, 27, 28, 29, 30, 31, 32] r_holders_Valid_7) (.cond (.t 33) (.seq (.reg [] r_holders_Valid_8) .ret) .skip)) (.seq (.seq (.regd [34, 35, 36, 37, 38, 39, 40, 41, 42, 43, 44, 45, 46] r_holders_Valid_9) (.cond (.t 47) (.seq (.reg [] r_holders_Valid_10) .ret) .skip)) (.reg [48, 49, 50, 51, 52] r_holders_Valid_11))))) (.reg [53] r_holders_Valid_12))))))) (.seq (.reg [54, 55, 56] r_holders_Valid_13) .ret)))))
theorem chk_holders_Valid : chkF C.P 25 pc_holders_Valid 57 [.t 4] 2 = true := by kernel_rfl

@[go_sem] def r_holders_proper_0 : List POp := [⟨some 4, none, .box 4, [.t 0]⟩,
 ⟨some 6, none, .box 3, [.t 2]⟩,
 ⟨some 7, none, .box 2, [.t 3]⟩,
 ⟨some 8, none, .mv, [.c (A.bool false)]⟩]
@[go_sem] def r_holders_proper_1 : List POp := [⟨some 9, none, .load 4 true, [.t 4]⟩,
 ⟨some 10, none, .mv, [.t 1]⟩,
 ⟨some 11, none, .call 25, [.t 9, .t 10]⟩,
 ⟨some 12, none, .mv, [.t 11]⟩,
 ⟨some 13, some (12, true), .load 3 true, [.t 6]⟩,
 ⟨some 14, some (12, true), .call 44, [.t 13]⟩,
 ⟨some 15, none, .pick, [.t 12, .t 14, .c (A.bool false)]⟩,
 ⟨some 16, none, .mv, [.t 15]⟩,
 ⟨some 17, some (16, true), .load 4 true, [.t 4]⟩,
 ⟨some 18, some (16, true), .load 2 true, [.t 7]⟩,
 ⟨some 19, some (16, true), .call 45, [.t 17, .t 18]⟩,
 ⟨some 20, none, .pick, [.t 16, .t 19, .c (A.bool false)]⟩,
 ⟨some 8, none, .mv, [.t 20]⟩]
def pc_holders_proper : PC := (.seq (.reg [] r_holders_proper_0) (.seq (.reg [9, 10, 11, 12, 13, 14, 15, 16, 17, 18, 19, 20] r_holders_proper_1) .ret))
theorem chk_holders_proper : chkF C.P 35 pc_holders_proper 21 [.t 8] 4 = true := by kernel_rfl

@[go_sem] def r_holders_Room_0 : List POp := [⟨some 4, none, .box 4, [.t 0]⟩,
 ⟨some 6, none, .box 3, [.t 2]⟩,
 ⟨some 7, none, .box 2, [.t 3]⟩,
 ⟨some 8, none, .mv, [.c (A.bool false)]⟩]
@[go_sem] def r_holders_Room_1 : List POp := [⟨some 9, none, .load 4 true, [.t 4]⟩,
 ⟨some 10, none, .mv, [.t 1]⟩,
 ⟨some 11, none, .load 3 true, [.t 6]⟩,
 ⟨some 12, none, .load 2 true, [.t 7]⟩,
 ⟨some 13, none, .call 35, [.t 9, .t 10, .t 11, .t 12]⟩,
 ⟨some 14, none, .mv, [.t 13]⟩,
 ⟨some 15, some (14, true), .load 4 true, [.t 4]⟩,
 ⟨some 16, some (14, true), .mv, [.t 1]⟩,
 ⟨some 17, some (14, true), .load 3 true, [.t 6]⟩,
 ⟨some 18, some (14, true), .load 2 true, [.t 7]⟩,
 ⟨some 19, some (14, true), .call 13, [.t 16, .t 17, .t 18]⟩,
 ⟨some 20, some (14, true), .call 25, [.t 15, .t 19]⟩,
 ⟨some 21, none, .pick, [.t 14, .t 20, .c (A.bool false)]⟩,
 ⟨some 8, none, .mv, [.t 21]⟩]
def pc_holders_Room : PC := (.seq (.reg [] r_holders_Room_0) (.seq (.regd [9, 10, 11, 12, 13, 14, 15, 16, 17, 18, 19, 20, 21] r_holders_Room_1) .ret))
theorem chk_holders_Room : chkF C.P 15 pc_holders_Room 22 [.t 8] 4 = true := by kernel_rfl

@[go_sem] def r_holders_Against_0 : List POp := [⟨some 4, none, .box 4, [.t 0]⟩,
 ⟨some 6, none, .box 3, [.t 2]⟩,
 ⟨some 7, none, .box 2, [.t 3]⟩,
 ⟨some 8, none, .mv, [.c (A.sl [])]⟩]
@[go_sem] def r_holders_Against_1 : List POp := [⟨some 12, none, .load 4 true, [.t 4]⟩,
 ⟨some 13, none, .mv, [.t 1]⟩,
 ⟨some 14, none, .load 3 true, [.t 6]⟩,
 ⟨some 15, none, .load 2 true, [.t 7]⟩,
 ⟨some 16, none, .call 35, [.t 12, .t 13, .t 14, .t 15]⟩,
 ⟨some 17, none, .not, [.t 16]⟩,
 ⟨some 18, none, .mv, [.t 17]⟩,
 ⟨some 19, some (18, false), .load 4 true, [.t 4]⟩,
 ⟨some 20, some (18, false), .mv, [.t 1]⟩,
 ⟨some 21, some (18, false), .load 3 true, [.t 6]⟩,
 ⟨some 22, some (18, false), .load 2 true, [.t 7]⟩,
 ⟨some 23, some (18, false), .call 15, [.t 19, .t 20, .t 21, .t 22]⟩,
 ⟨some 24, none, .pick, [.t 18, .c (A.bool true), .t 23]⟩]
@[go_sem] def r_holders_Against_2 : List POp := [⟨some 8, none, .mv, [.c (A.sl [])]⟩]
@[go_sem] def r_holders_Against_3 : List POp := [⟨some 9, none, .nilown 3 (Proc.enc Proc.zero), [.c (A.full [])]⟩]
@[go_sem] def r_holders_Against_4 : List POp := [⟨some 25, none, .mv, [.t 1]⟩,
 ⟨some 26, none, .len, [.t 25]⟩,
 ⟨some 27, none, .mv, [.c (A.int .i64 0)]⟩]
@[go_sem] def r_holders_Against_5 : List POp := [⟨some 28, none, .bin .lss, [.t 27, .t 26]⟩]
@[go_sem] def r_holders_Against_6 : List POp := [⟨some 29, none, .iaS 5 (Hold.enc Hold.zero), [.t 25, .t 27]⟩,
 ⟨some 30, none, .load 5 true, [.t 29]⟩,
 ⟨some 11, none, .alloc 5 (Hold.enc Hold.zero), []⟩,
 ⟨none, none, .store 5, [.t 11, .t 30]⟩]
@[go_sem] def r_holders_Against_7 : List POp := [⟨some 31, none, .faddr 0, [.t 11]⟩,
 ⟨some 32, none, .load 3 true, [.t 31]⟩,
 ⟨some 33, none, .load 3 true, [.t 6]⟩,
 ⟨some 34, none, .eqa false [.i .i64, .i .i64, .i .i64], [.t 32, .t 33]⟩]
@[go_sem] def r_holders_Against_8 : List POp := [⟨some 35, none, .faddr 1, [.t 4]⟩,
 ⟨some 36, none, .load 1 false, [.t 35]⟩,
 ⟨some 37, none, .bin .eql, [.t 36, .c (A.int .i64 1)]⟩,
 ⟨some 38, none, .mv, [.t 37]⟩,
 ⟨some 39, some (38, true), .load 4 true, [.t 4]⟩,
 ⟨some 40, some (38, true), .faddr 3, [.t 11]⟩,
 ⟨some 41, some (38, true), .load 2 true, [.t 40]⟩,
 ⟨some 42, some (38, true), .load 2 true, [.t 7]⟩,
 ⟨some 43, some (38, true), .bslice 2 (Amount.enc Amount.zero), [.t 41, .t 42]⟩,
 ⟨some 44, some (38, true), .call 38, [.t 39, .t 43]⟩,
 ⟨some 45, none, .pick, [.t 38, .t 44, .c (A.bool false)]⟩]
@[go_sem] def r_holders_Against_9 : List POp := [⟨some 46, none, .mv, [.t 9]⟩,
 ⟨some 47, none, .faddr 0, [.t 11]⟩,
 ⟨some 48, none, .load 3 true, [.t 47]⟩,
 ⟨some 49, none, .bslice 3 (Proc.enc Proc.zero), [.t 48]⟩,
 ⟨some 50, none, .append 3 24 (Proc.enc Proc.zero), [.t 46, .t 49]⟩,
 ⟨some 9, none, .mv, [.t 50]⟩]
@[go_sem] def r_holders_Against_10 : List POp := [⟨some 51, none, .bin .add, [.t 27, .c (A.int .i64 1)]⟩,
 ⟨some 27, none, .mv, [.t 51]⟩]
@[go_sem] def r_holders_Against_11 : List POp := [⟨some 52, none, .mv, [.t 9]⟩,
 ⟨some 8, none, .mv, [.t 52]⟩]
def pc_holders_Against : PC := (.seq (.reg [] r_holders_Against_0) (.seq (.seq (.reg [12, 13, 14, 15, 16, 17, 18, 19, 20, 21, 22, 23] r_holders_Against_1) (.cond (.t 24) (.seq (.reg [] r_holders_Against_2) .ret) .skip)) (.seq (.reg [] r_holders_Against_3) (.seq (.seq (.reg [] r_holders_Against_4) (.block 0 (.loop (.seq (.reg [] r_holders_Against_5) (.seq (.cond (.t 28) .skip (.exit 0)) (.seq (.block 1 (.seq (.reg [29, 30] r_holders_Against_6) (.seq (.seq (.reg [31, 32, 33] r_holders_Against_7) (.cond (.t 34) (.exit 1) .skip)) (.seq (.seq (.reg [35, 36, 37, 38, 39, 40, 41, 42, 43, 44] r_holders_Against_8) (.cond (.t 45) (.exit 1) .skip)) (.reg [46, 47, 48, 49, 50] r_holders_Against_9))))) (.reg [51] r_holders_Against_10))))))) (.seq (.reg [52] r_holders_Against_11) .ret)))))
theorem chk_holders_Against : chkF C.P 18 pc_holders_Against 53 [.t 8] 4 = true := by kernel_rfl

@[go_sem] def r_law10_awake_0 : List POp := [⟨some 0, none, .mv, [.c (A.bool false)]⟩]
@[go_sem] def r_law10_awake_1 : List POp := [⟨some 6, none, .build (Resource.enc Resource.zero) [(0, 1), (1, 1), (2, 1)], [.c (A.str ⟨#[97]⟩), .c (A.int .i64 1), .c (A.int .i64 1)]⟩,
 ⟨some 1, none, .alloc 4 (Resource.enc Resource.zero), []⟩,
 ⟨none, none, .store 4, [.t 1, .t 6]⟩]
@[go_sem] def r_law10_awake_2 : List POp := [⟨some 7, none, .build (Proc.enc Proc.zero) [(1, 1), (2, 1)], [.c (A.int .i64 1), .c (A.int .i64 1)]⟩,
 ⟨some 8, none, .build (Proc.enc Proc.zero) [(1, 1), (2, 1)], [.c (A.int .i64 1), .c (A.int .i64 2)]⟩,
 ⟨some 2, none, .alloc 3 (Proc.enc Proc.zero), []⟩,
 ⟨some 3, none, .alloc 3 (Proc.enc Proc.zero), []⟩,
 ⟨none, none, .store 3, [.t 2, .t 7]⟩,
 ⟨none, none, .store 3, [.t 3, .t 8]⟩]
@[go_sem] def r_law10_awake_3 : List POp := [⟨some 9, none, .load 3 true, [.t 3]⟩,
 ⟨some 10, none, .build (Amount.enc Amount.zero) [(0, 1)], [.c (A.int .i64 1)]⟩,
 ⟨some 11, none, .call 13, [.c (A.full []), .t 9, .t 10]⟩,
 ⟨some 12, none, .load 3 true, [.t 2]⟩,
 ⟨some 13, none, .build (Amount.enc Amount.zero) [(0, 1)], [.c (A.int .i64 2)]⟩,
 ⟨some 14, none, .call 13, [.t 11, .t 12, .t 13]⟩,
 ⟨some 4, none, .mv, [.t 14]⟩]
@[go_sem] def r_law10_awake_4 : List POp := [⟨some 15, none, .load 4 true, [.t 1]⟩,
 ⟨some 16, none, .mv, [.t 4]⟩,
 ⟨some 17, none, .load 3 true, [.t 3]⟩,
 ⟨some 18, none, .build (Amount.enc Amount.zero) [(0, 1)], [.c (A.int .i64 3)]⟩,
 ⟨some 19, none, .call 18, [.t 15, .t 16, .t 17, .t 18]⟩,
 ⟨some 5, none, .mv, [.t 19]⟩]
@[go_sem] def r_law10_awake_5 : List POp := [⟨some 20, none, .mv, [.t 4]⟩,
 ⟨some 21, none, .len, [.t 20]⟩,
 ⟨some 22, none, .bin .eql, [.t 21, .c (A.int .i64 2)]⟩,
 ⟨some 23, none, .mv, [.t 22]⟩,
 ⟨some 24, some (23, true), .mv, [.t 4]⟩,
 ⟨some 25, some (23, true), .iaS 5 (Hold.enc Hold.zero), [.t 24, .c (A.int .i64 0)]⟩,
 ⟨some 26, some (23, true), .faddr 0, [.t 25]⟩,
 ⟨some 27, some (23, true), .load 3 true, [.t 26]⟩,
 ⟨some 28, some (23, true), .load 3 true, [.t 2]⟩,
 ⟨some 29, some (23, true), .eqa false [.i .i64, .i .i64, .i .i64], [.t 27, .t 28]⟩,
 ⟨some 30, none, .pick, [.t 23, .t 29, .c (A.bool false)]⟩,
 ⟨some 31, none, .mv, [.t 30]⟩,
 ⟨some 32, some (31, true), .load 4 true, [.t 1]⟩,
 ⟨some 33, some (31, true), .mv, [.t 4]⟩,
 ⟨some 34, some (31, true), .call 25, [.t 32, .t 33]⟩,
 ⟨some 35, none, .pick, [.t 31, .t 34, .c (A.bool false)]⟩,
 ⟨some 36, none, .mv, [.t 35]⟩,
 ⟨some 37, some (36, true), .mv, [.t 5]⟩,
 ⟨some 38, some (36, true), .len, [.t 37]⟩,
 ⟨some 39, some (36, true), .bin .eql, [.t 38, .c (A.int .i64 1)]⟩,
 ⟨some 40, none, .pick, [.t 36, .t 39, .c (A.bool false)]⟩,
 ⟨some 41, none, .mv, [.t 40]⟩,
 ⟨some 42, some (41, true), .mv, [.t 5]⟩,
 ⟨some 43, some (41, true), .iaS 3 (Proc.enc Proc.zero), [.t 42, .c (A.int .i64 0)]⟩,
 ⟨some 44, some (41, true), .load 3 true, [.t 43]⟩,
 ⟨some 45, some (41, true), .load 3 true, [.t 2]⟩,
 ⟨some 46, some (41, true), .eqa false [.i .i64, .i .i64, .i .i64], [.t 44, .t 45]⟩,
 ⟨some 47, none, .pick, [.t 41, .t 46, .c (A.bool false)]⟩,
 ⟨some 48, none, .mv, [.t 47]⟩,
 ⟨some 49, some (48, true), .load 4 true, [.t 1]⟩,
 ⟨some 50, some (48, true), .mv, [.t 4]⟩,
 ⟨some 51, some (48, true), .load 3 true, [.t 3]⟩,
 ⟨some 52, some (48, true), .build (Amount.enc Amount.zero) [(0, 1)], [.c (A.int .i64 2)]⟩,
 ⟨some 53, some (48, true), .call 15, [.t 49, .t 50, .t 51, .t 52]⟩,
 ⟨some 54, none, .pick, [.t 48, .t 53, .c (A.bool false)]⟩,
 ⟨some 0, none, .mv, [.t 54]⟩]
def pc_law10_awake : PC := (.seq (.reg [] r_law10_awake_0) (.seq (.reg [6] r_law10_awake_1) (.seq (.reg [7, 8] r_law10_awake_2) (.seq (.regd [9, 10, 11, 12, 13, 14] r_law10_awake_3) (.seq (.reg [15, 16, 17, 18, 19] r_law10_awake_4) (.seq (.regd [20, 21, 22, 23, 24, 25, 26, 27, 28, 29, 30, 31, 32, 33, 34, 35, 36, 37, 38, 39, 40, 41, 42, 43, 44, 45, 46, 47, 48, 49, 50, 51, 52, 53, 54] r_law10_awake_5) .ret))))))
theorem chk_law10_awake : chkF C.P 11 pc_law10_awake 55 [.t 0] 0 = true := by kernel_rfl

@[go_sem] def r_ref04_Zero_0 : List POp := [⟨some 1, none, .box 2, [.t 0]⟩,
 ⟨some 2, none, .mv, [.c (A.bool false)]⟩]
@[go_sem] def r_ref04_Zero_1 : List POp := [⟨some 3, none, .load 2 true, [.t 1]⟩,
 ⟨some 4, none, .build (Amount.enc Amount.zero) [], []⟩,
 ⟨some 5, none, .eqa false [.i .i64, .i .i64], [.t 3, .t 4]⟩,
 ⟨some 2, none, .mv, [.t 5]⟩]
def pc_ref04_Zero : PC := (.seq (.reg [] r_ref04_Zero_0) (.seq (.reg [3, 4, 5] r_ref04_Zero_1) .ret))
theorem chk_ref04_Zero : chkF C.P 28 pc_ref04_Zero 6 [.t 2] 1 = true := by kernel_rfl

@[go_sem] def r_ref02_Order_0 : List POp := [⟨some 4, none, .mv, [.c (A.int .i64 0)]⟩]
@[go_sem] def r_ref02_Order_1 : List POp := [⟨some 5, none, .mv, [.t 0]⟩,
 ⟨some 6, none, .mv, [.t 1]⟩,
 ⟨some 7, none, .bin .lss, [.t 5, .t 6]⟩]
@[go_sem] def r_ref02_Order_2 : List POp := [⟨some 4, none, .mv, [.c (A.int .i64 (-1))]⟩]
@[go_sem] def r_ref02_Order_3 : List POp := [⟨some 8, none, .mv, [.t 0]⟩,
 ⟨some 9, none, .mv, [.t 1]⟩,
 ⟨some 10, none, .bin .gtr, [.t 8, .t 9]⟩]
@[go_sem] def r_ref02_Order_4 : List POp := [⟨some 4, none, .mv, [.c (A.int .i64 1)]⟩]
@[go_sem] def r_ref02_Order_5 : List POp := [⟨some 4, none, .mv, [.c (A.int .i64 0)]⟩]
def pc_ref02_Order : PC := (.seq (.reg [] r_ref02_Order_0) (.seq (.seq (.reg [5, 6] r_ref02_Order_1) (.cond (.t 7) (.seq (.reg [] r_ref02_Order_2) .ret) .skip)) (.seq (.seq (.reg [8, 9] r_ref02_Order_3) (.cond (.t 10) (.seq (.reg [] r_ref02_Order_4) .ret) .skip)) (.seq (.reg [] r_ref02_Order_5) .ret))))
theorem chk_ref02_Order : chkF C.P 49 pc_ref02_Order 11 [.t 4] 2 = true := by kernel_rfl

@[go_sem] def r_ref02_CompareProc_0 : List POp := [⟨some 2, none, .box 3, [.t 0]⟩,
 ⟨some 3, none, .box 3, [.t 1]⟩,
 ⟨some 4, none, .mv, [.c (A.int .i64 0)]⟩]
@[go_sem] def r_ref02_CompareProc_1 : List POp := [⟨some 7, none, .faddr 0, [.t 2]⟩,
 ⟨some 8, none, .load 1 false, [.t 7]⟩,
 ⟨some 9, none, .faddr 0, [.t 3]⟩,
 ⟨some 10, none, .load 1 false, [.t 9]⟩,
 ⟨some 11, none, .call 49, [.t 8, .t 10]⟩,
 ⟨some 5, none, .mv, [.t 11]⟩]
@[go_sem] def r_ref02_CompareProc_2 : List POp := [⟨some 12, none, .mv, [.t 5]⟩,
 ⟨some 13, none, .bin .neq, [.t 12, .c (A.int .i64 0)]⟩]
@[go_sem] def r_ref02_CompareProc_3 : List POp := [⟨some 14, none, .mv, [.t 5]⟩,
 ⟨some 4, none, .mv, [.t 14]⟩]
@[go_sem] def r_ref02_CompareProc_4 : List POp := [⟨some 15, none, .faddr 1, [.t 2]⟩,
 ⟨some 16, none, .load 1 false, [.t 15]⟩,
 ⟨some 17, none, .faddr 1, [.t 3]⟩,
 ⟨some 18, none, .load 1 false, [.t 17]⟩,
 ⟨some 19, none, .call 49, [.t 16, .t 18]⟩,
 ⟨some 6, none, .mv, [.t 19]⟩]
@[go_sem] def r_ref02_CompareProc_5 : List POp := [⟨some 20, none, .mv, [.t 6]⟩,
 ⟨some 21, none, .bin .neq, [.t 20, .c (A.int .i64 0)]⟩]
@[go_sem] def r_ref02_CompareProc_6 : List POp := [⟨some 22, none, .mv, [.t 6]⟩,
 ⟨some 4, none, .mv, [.t 22]⟩]
@[go_sem] def r_ref02_CompareProc_7 : List POp := [⟨some 23, none, .faddr 2, [.t 2]⟩,
 ⟨some 24, none, .load 1 false, [.t 23]⟩,
 ⟨some 25, none, .faddr 2, [.t 3]⟩,
 ⟨some 26, none, .load 1 false, [.t 25]⟩,
 ⟨some 27, none, .call 49, [.t 24, .t 26]⟩,
 ⟨some 4, none, .mv, [.t 27]⟩]
def pc_ref02_CompareProc : PC := (.seq (.reg [] r_ref02_CompareProc_0) (.seq (.seq (.reg [7, 8, 9, 10, 11] r_ref02_CompareProc_1) (.seq (.reg [12] r_ref02_CompareProc_2) (.cond (.t 13) (.seq (.reg [14] r_ref02_CompareProc_3) .ret) .skip))) (.seq (.seq (.reg [15, 16, 17, 18, 19] r_ref02_CompareProc_4) (.seq (.reg [20] r_ref02_CompareProc_5) (.cond (.t 21) (.seq (.reg [22] r_ref02_CompareProc_6) .ret) .skip))) (.seq (.reg [23, 24, 25, 26, 27] r_ref02_CompareProc_7) .ret))))
theorem chk_ref02_CompareProc : chkF C.P 34 pc_ref02_CompareProc 28 [.t 4] 2 = true := by kernel_rfl

@[go_sem] def r_ref10_Set_0 : List POp := [⟨some 4, none, .box 3, [.t 1]⟩,
 ⟨some 5, none, .box 2, [.t 2]⟩,
 ⟨some 6, none, .mv, [.c (A.sl [])]⟩]
@[go_sem] def r_ref10_Set_1 : List POp := [⟨some 7, none, .nilown 5 (Hold.enc Hold.zero), [.c (A.full [])]⟩]
@[go_sem] def r_ref10_Set_2 : List POp := [⟨some 10, none, .load 2 true, [.t 5]⟩,
 ⟨some 11, none, .call 28, [.t 10]⟩,
 ⟨some 8, none, .mv, [.t 11]⟩]
@[go_sem] def r_ref10_Set_3 : List POp := [⟨some 9, none, .mv, [.c (A.int .i64 0)]⟩]
@[go_sem] def r_ref10_Set_4 : List POp := [⟨some 12, none, .mv, [.t 9]⟩,
 ⟨some 13, none, .mv, [.t 0]⟩,
 ⟨some 14, none, .len, [.t 13]⟩,
 ⟨some 15, none, .bin .lss, [.t 12, .t 14]⟩]
@[go_sem] def r_ref10_Set_6 : List POp := [⟨some 18, none, .mv, [.t 0]⟩,
 ⟨some 19, none, .mv, [.t 9]⟩,
 ⟨some 20, none, .iaS 5 (Hold.enc Hold.zero), [.t 18, .t 19]⟩,
 ⟨some 21, none, .faddr 0, [.t 20]⟩,
 ⟨some 22, none, .load 3 true, [.t 21]⟩,
 ⟨some 23, none, .load 3 true, [.t 4]⟩,
 ⟨some 24, none, .eqa false [.i .i64, .i .i64, .i .i64], [.t 22, .t 23]⟩]
@[go_sem] def r_ref10_Set_7 : List POp := [⟨some 25, none, .mv, [.t 8]⟩,
 ⟨some 26, none, .not, [.t 25]⟩,
 ⟨some 27, none, .mv, [.t 26]⟩,
 ⟨some 28, some (27, true), .mv, [.t 0]⟩,
 ⟨some 29, some (27, true), .mv, [.t 9]⟩,
 ⟨some 30, some (27, true), .iaS 5 (Hold.enc Hold.zero), [.t 28, .t 29]⟩,
 ⟨some 31, some (27, true), .faddr 0, [.t 30]⟩,
 ⟨some 32, some (27, true), .load 3 true, [.t 31]⟩,
 ⟨some 33, some (27, true), .load 3 true, [.t 4]⟩,
 ⟨some 34, some (27, true), .call 34, [.t 32, .t 33]⟩,
 ⟨some 35, some (27, true), .bin .gtr, [.t 34, .c (A.int .i64 0)]⟩,
 ⟨some 36, none, .pick, [.t 27, .t 35, .c (A.bool false)]⟩]
@[go_sem] def r_ref10_Set_8 : List POp := [⟨some 37, none, .mv, [.t 7]⟩,
 ⟨some 38, none, .load 3 true, [.t 4]⟩,
 ⟨some 39, none, .load 2 true, [.t 5]⟩,
 ⟨some 40, none, .build (Hold.enc Hold.zero) [(0, 3), (3, 2)], [.t 38, .t 39]⟩,
 ⟨some 41, none, .bslice 5 (Hold.enc Hold.zero), [.t 40]⟩,
 ⟨some 42, none, .append 5 40 (Hold.enc Hold.zero), [.t 37, .t 41]⟩,
 ⟨some 7, none, .mv, [.t 42]⟩]
@[go_sem] def r_ref10_Set_9 : List POp := [⟨some 8, none, .mv, [.c (A.bool true)]⟩]
@[go_sem] def r_ref10_Set_10 : List POp := [⟨some 43, none, .mv, [.t 7]⟩,
 ⟨some 44, none, .mv, [.t 0]⟩,
 ⟨some 45, none, .mv, [.t 9]⟩,
 ⟨some 46, none, .iaS 5 (Hold.enc Hold.zero), [.t 44, .t 45]⟩,
 ⟨some 47, none, .load 5 true, [.t 46]⟩,
 ⟨some 48, none, .bslice 5 (Hold.enc Hold.zero), [.t 47]⟩,
 ⟨some 49, none, .append 5 40 (Hold.enc Hold.zero), [.t 43, .t 48]⟩,
 ⟨some 7, none, .mv, [.t 49]⟩]
@[go_sem] def r_ref10_Set_5 : List POp := [⟨some 16, none, .mv, [.t 9]⟩,
 ⟨some 17, none, .bin .add, [.t 16, .c (A.int .i64 1)]⟩,
 ⟨some 9, none, .mv, [.t 17]⟩]
@[go_sem] def r_ref10_Set_11 : List POp := [⟨some 50, none, .mv, [.t 8]⟩,
 ⟨some 51, none, .not, [.t 50]⟩]
@[go_sem] def r_ref10_Set_12 : List POp := [⟨some 52, none, .mv, [.t 7]⟩,
 ⟨some 53, none, .load 3 true, [.t 4]⟩,
 ⟨some 54, none, .load 2 true, [.t 5]⟩,
 ⟨some 55, none, .build (Hold.enc Hold.zero) [(0, 3), (3, 2)], [.t 53, .t 54]⟩,
 ⟨some 56, none, .bslice 5 (Hold.enc Hold.zero), [.t 55]⟩,
 ⟨some 57, none, .append 5 40 (Hold.enc Hold.zero), [.t 52, .t 56]⟩,
 ⟨some 7, none, .mv, [.t 57]⟩]
@[go_sem] def r_ref10_Set_13 : List POp := [⟨some 58, none, .mv, [.t 7]⟩,
 ⟨some 6, none, .mv, [.t 58]⟩]
def pc_ref10_Set : PC := (.seq (.reg [] r_ref10_Set_0) (.seq (.reg [] r_ref10_Set_1) (.seq (.reg [10, 11] r_ref10_Set_2) (.seq (.seq (.reg [] r_ref10_Set_3) (.block 0 (.loop (.seq (.seq (.reg [12, 13, 14] r_ref10_Set_4) (.cond (.t 15) .skip (.exit 0))) (.seq (.block 1 (.seq (.seq (.regd [18, 19, 20, 21, 22, 23] r_ref10_Set_6) (.cond (.t 24) (.exit 1) .skip)) (.seq (.seq (.regd [25, 26, 27, 28, 29, 30, 31, 32, 33, 34, 35] r_ref10_Set_7) (.cond (.t 36) (.seq (.reg [37, 38, 39, 40, 41, 42] r_ref10_Set_8) (.reg [] r_ref10_Set_9)) .skip)) (.reg [43, 44, 45, 46, 47, 48, 49] r_ref10_Set_10)))) (.reg [16, 17] r_ref10_Set_5)))))) (.seq (.seq (.reg [50] r_ref10_Set_11) (.cond (.t 51) (.reg [52, 53, 54, 55, 56, 57] r_ref10_Set_12) .skip)) (.seq (.reg [58] r_ref10_Set_13) .ret))))))
theorem chk_ref10_Set : chkF C.P 14 pc_ref10_Set 59 [.t 6] 3 = true := by kernel_rfl

@[go_sem] def r_ref10_SameHolds_0 : List POp := [⟨some 4, none, .mv, [.c (A.bool false)]⟩]
@[go_sem] def r_ref10_SameHolds_1 : List POp := [⟨some 6, none, .mv, [.t 0]⟩,
 ⟨some 7, none, .len, [.t 6]⟩,
 ⟨some 8, none, .mv, [.t 1]⟩,
 ⟨some 9, none, .len, [.t 8]⟩,
 ⟨some 10, none, .bin .neq, [.t 7, .t 9]⟩]
@[go_sem] def r_ref10_SameHolds_2 : List POp := [⟨some 4, none, .mv, [.c (A.bool false)]⟩]
@[go_sem] def r_ref10_SameHolds_3 : List POp := [⟨some 5, none, .mv, [.c (A.int .i64 0)]⟩]
@[go_sem] def r_ref10_SameHolds_4 : List POp := [⟨some 11, none, .mv, [.t 5]⟩,
 ⟨some 12, none, .mv, [.t 0]⟩,
 ⟨some 13, none, .len, [.t 12]⟩,
 ⟨some 14, none, .bin .lss, [.t 11, .t 13]⟩]
@[go_sem] def r_ref10_SameHolds_6 : List POp := [⟨some 17, none, .mv, [.t 0]⟩,
 ⟨some 18, none, .mv, [.t 5]⟩,
 ⟨some 19, none, .iaS 5 (Hold.enc Hold.zero), [.t 17, .t 18]⟩,
 ⟨some 20, none, .load 5 true, [.t 19]⟩,
 ⟨some 21, none, .mv, [.t 1]⟩,
 ⟨some 22, none, .mv, [.t 5]⟩,
 ⟨some 23, none, .iaS 5 (Hold.enc Hold.zero), [.t 21, .t 22]⟩,
 ⟨some 24, none, .load 5 true, [.t 23]⟩,
 ⟨some 25, none, .eqa true [.i .i64, .i .i64, .i .i64, .i .i64, .i .i64], [.t 20, .t 24]⟩]
@[go_sem] def r_ref10_SameHolds_7 : List POp := [⟨some 4, none, .mv, [.c (A.bool false)]⟩]
@[go_sem] def r_ref10_SameHolds_5 : List POp := [⟨some 15, none, .mv, [.t 5]⟩,
 ⟨some 16, none, .bin .add, [.t 15, .c (A.int .i64 1)]⟩,
 ⟨some 5, none, .mv, [.t 16]⟩]
@[go_sem] def r_ref10_SameHolds_8 : List POp := [⟨some 4, none, .mv, [.c (A.bool true)]⟩]
def pc_ref10_SameHolds : PC := (.seq (.reg [] r_ref10_SameHolds_0) (.seq (.seq (.reg [6, 7, 8, 9] r_ref10_SameHolds_1) (.cond (.t 10) (.seq (.reg [] r_ref10_SameHolds_2) .ret) .skip)) (.seq (.seq (.reg [] r_ref10_SameHolds_3) (.block 0 (.loop (.seq (.seq (.reg [11, 12, 13] r_ref10_SameHolds_4) (.cond (.t 14) .skip (.exit 0))) (.seq (.block 1 (.seq (.regd [17, 18, 19, 20, 21, 22, 23, 24] r_ref10_SameHolds_6) (.cond (.t 25) (.seq (.reg [] r_ref10_SameHolds_7) .ret) .skip))) (.reg [15, 16] r_ref10_SameHolds_5)))))) (.seq (.reg [] r_ref10_SameHolds_8) .ret))))
theorem chk_ref10_SameHolds : chkF C.P 12 pc_ref10_SameHolds 26 [.t 4] 2 = true := by kernel_rfl

@[go_sem] def r_law10_HoldersSets_0 : List POp := [⟨some 4, none, .box 3, [.t 1]⟩,
 ⟨some 5, none, .box 2, [.t 2]⟩,
 ⟨some 6, none, .mv, [.c (A.bool false)]⟩]
@[go_sem] def r_law10_HoldersSets_1 : List POp := [⟨some 7, none, .mv, [.t 0]⟩,
 ⟨some 8, none, .len, [.t 7]⟩,
 ⟨some 9, none, .bin .gtr, [.t 8, .c (A.int .i64 100)]⟩]
@[go_sem] def r_law10_HoldersSets_2 : List POp := [⟨some 10, none, .call 11, []⟩,
 ⟨some 6, none, .mv, [.t 10]⟩]
@[go_sem] def r_law10_HoldersSets_3 : List POp := [⟨some 11, none, .call 11, []⟩,
 ⟨some 12, none, .mv, [.t 11]⟩,
 ⟨some 13, some (12, true), .mv, [.t 0]⟩,
 ⟨some 14, some (12, true), .load 3 true, [.t 4]⟩,
 ⟨some 15, some (12, true), .load 2 true, [.t 5]⟩,
 ⟨some 16, some (12, true), .call 13, [.t 13, .t 14, .t 15]⟩,
 ⟨some 17, some (12, true), .mv, [.t 0]⟩,
 ⟨some 18, some (12, true), .load 3 true, [.t 4]⟩,
 ⟨some 19, some (12, true), .load 2 true, [.t 5]⟩,
 ⟨some 20, some (12, true), .call 14, [.t 17, .t 18, .t 19]⟩,
 ⟨some 21, some (12, true), .call 12, [.t 16, .t 20]⟩,
 ⟨some 22, none, .pick, [.t 12, .t 21, .c (A.bool false)]⟩,
 ⟨some 6, none, .mv, [.t 22]⟩]
def pc_law10_HoldersSets : PC := (.seq (.reg [] r_law10_HoldersSets_0) (.seq (.seq (.reg [7, 8] r_law10_HoldersSets_1) (.cond (.t 9) (.seq (.reg [10] r_law10_HoldersSets_2) .ret) .skip)) (.seq (.regd [11, 12, 13, 14, 15, 16, 17, 18, 19, 20, 21, 22] r_law10_HoldersSets_3) .ret)))
theorem chk_law10_HoldersSets : chkF C.P 3 pc_law10_HoldersSets 23 [.t 6] 3 = true := by kernel_rfl

@[go_sem] def r_ref04_Shaped_0 : List POp := [⟨some 1, none, .box 4, [.t 0]⟩,
 ⟨some 2, none, .mv, [.c (A.bool false)]⟩]
@[go_sem] def r_ref04_Shaped_1 : List POp := [⟨some 3, none, .faddr 1, [.t 1]⟩,
 ⟨some 4, none, .load 1 false, [.t 3]⟩,
 ⟨some 5, none, .bin .eql, [.t 4, .c (A.int .i64 1)]⟩,
 ⟨some 6, none, .mv, [.t 5]⟩,
 ⟨some 7, some (6, true), .faddr 2, [.t 1]⟩,
 ⟨some 8, some (6, true), .load 1 false, [.t 7]⟩,
 ⟨some 9, some (6, true), .bin .eql, [.t 8, .c (A.int .i64 1)]⟩,
 ⟨some 10, none, .pick, [.t 6, .t 9, .c (A.bool false)]⟩,
 ⟨some 11, none, .mv, [.t 10]⟩,
 ⟨some 12, some (11, false), .faddr 1, [.t 1]⟩,
 ⟨some 13, some (11, false), .load 1 false, [.t 12]⟩,
 ⟨some 14, some (11, false), .bin .eql, [.t 13, .c (A.int .i64 2)]⟩,
 ⟨some 15, some (11, false), .mv, [.t 14]⟩,
 ⟨some 16, some (15, true), .faddr 2, [.t 1]⟩,
 ⟨some 17, some (15, true), .load 1 false, [.t 16]⟩,
 ⟨some 18, some (15, true), .bin .geq, [.t 17, .c (A.int .i64 1)]⟩,
 ⟨some 19, some (11, false), .pick, [.t 15, .t 18, .c (A.bool false)]⟩,
 ⟨some 20, some (11, false), .mv, [.t 19]⟩,
 ⟨some 21, some (20, true), .faddr 2, [.t 1]⟩,
 ⟨some 22, some (20, true), .load 1 false, [.t 21]⟩,
 ⟨some 23, some (20, true), .bin .leq, [.t 22, .c (A.int .i64 8)]⟩,
 ⟨some 24, some (11, false), .pick, [.t 20, .t 23, .c (A.bool false)]⟩,
 ⟨some 25, none, .pick, [.t 11, .c (A.bool true), .t 24]⟩,
 ⟨some 2, none, .mv, [.t 25]⟩]
def pc_ref04_Shaped : PC := (.seq (.reg [] r_ref04_Shaped_0) (.seq (.reg [3, 4, 5, 6, 7, 8, 9, 10, 11, 12, 13, 14, 15, 16, 17, 18, 19, 20, 21, 22, 23, 24, 25] r_ref04_Shaped_1) .ret))
theorem chk_ref04_Shaped : chkF C.P 46 pc_ref04_Shaped 26 [.t 2] 1 = true := by kernel_rfl

@[go_sem] def r_ref02_ValidProc_0 : List POp := [⟨some 1, none, .box 3, [.t 0]⟩,
 ⟨some 2, none, .mv, [.c (A.bool false)]⟩]
@[go_sem] def r_ref02_ValidProc_1 : List POp := [⟨some 3, none, .faddr 0, [.t 1]⟩,
 ⟨some 4, none, .load 1 false, [.t 3]⟩,
 ⟨some 5, none, .bin .geq, [.t 4, .c (A.int .i64 0)]⟩,
 ⟨some 6, none, .mv, [.t 5]⟩,
 ⟨some 7, some (6, true), .faddr 0, [.t 1]⟩,
 ⟨some 8, some (6, true), .load 1 false, [.t 7]⟩,
 ⟨some 9, some (6, true), .bin .lss, [.t 8, .c (A.int .i64 4)]⟩,
 ⟨some 10, none, .pick, [.t 6, .t 9, .c (A.bool false)]⟩,
 ⟨some 11, none, .mv, [.t 10]⟩,
 ⟨some 12, some (11, true), .faddr 1, [.t 1]⟩,
 ⟨some 13, some (11, true), .load 1 false, [.t 12]⟩,
 ⟨some 14, some (11, true), .bin .geq, [.t 13, .c (A.int .i64 1)]⟩,
 ⟨some 15, none, .pick, [.t 11, .t 14, .c (A.bool false)]⟩,
 ⟨some 16, none, .mv, [.t 15]⟩,
 ⟨some 17, some (16, true), .faddr 1, [.t 1]⟩,
 ⟨some 18, some (16, true), .load 1 false, [.t 17]⟩,
 ⟨some 19, some (16, true), .bin .leq, [.t 18, .c (A.int .i64 99)]⟩,
 ⟨some 20, none, .pick, [.t 16, .t 19, .c (A.bool false)]⟩,
 ⟨some 21, none, .mv, [.t 20]⟩,
 ⟨some 22, some (21, true), .faddr 2, [.t 1]⟩,
 ⟨some 23, some (21, true), .load 1 false, [.t 22]⟩,
 ⟨some 24, some (21, true), .bin .geq, [.t 23, .c (A.int .i64 1)]⟩,
 ⟨some 25, none, .pick, [.t 21, .t 24, .c (A.bool false)]⟩,
 ⟨some 26, none, .mv, [.t 25]⟩,
 ⟨some 27, some (26, true), .faddr 2, [.t 1]⟩,
 ⟨some 28, some (26, true), .load 1 false, [.t 27]⟩,
 ⟨some 29, some (26, true), .bin .leq, [.t 28, .c (A.int .i64 999)]⟩,
 ⟨some 30, none, .pick, [.t 26, .t 29, .c (A.bool false)]⟩,
 ⟨some 2, none, .mv, [.t 30]⟩]
def pc_ref02_ValidProc : PC := (.seq (.reg [] r_ref02_ValidProc_0) (.seq (.reg [3, 4, 5, 6, 7, 8, 9, 10, 11, 12, 13, 14, 15, 16, 17, 18, 19, 20, 21, 22, 23, 24, 25, 26, 27, 28, 29, 30] r_ref02_ValidProc_1) .ret))
theorem chk_ref02_ValidProc : chkF C.P 36 pc_ref02_ValidProc 31 [.t 2] 1 = true := by kernel_rfl

@[go_sem] def r_ref03_Valid_0 : List POp := [⟨some 2, none, .mv, [.c (A.bool false)]⟩]
@[go_sem] def r_ref03_Valid_1 : List POp := [⟨some 3, none, .mv, [.t 0]⟩,
 ⟨some 4, none, .bin .geq, [.t 3, .c (A.int .i64 1)]⟩,
 ⟨some 5, none, .mv, [.t 4]⟩,
 ⟨some 6, some (5, true), .mv, [.t 0]⟩,
 ⟨some 7, some (5, true), .bin .leq, [.t 6, .c (A.int .i64 5)]⟩,
 ⟨some 8, none, .pick, [.t 5, .t 7, .c (A.bool false)]⟩,
 ⟨some 2, none, .mv, [.t 8]⟩]
def pc_ref03_Valid : PC := (.seq (.reg [] r_ref03_Valid_0) (.seq (.reg [3, 4, 5, 6, 7, 8] r_ref03_Valid_1) .ret))
theorem chk_ref03_Valid : chkF C.P 50 pc_ref03_Valid 9 [.t 2] 1 = true := by kernel_rfl

@[go_sem] def r_ref04_Fits_0 : List POp := [⟨some 2, none, .box 4, [.t 0]⟩,
 ⟨some 3, none, .box 2, [.t 1]⟩,
 ⟨some 4, none, .mv, [.c (A.bool false)]⟩]
@[go_sem] def r_ref04_Fits_1 : List POp := [⟨some 5, none, .load 4 true, [.t 2]⟩,
 ⟨some 6, none, .call 46, [.t 5]⟩,
 ⟨some 7, none, .not, [.t 6]⟩]
@[go_sem] def r_ref04_Fits_2 : List POp := [⟨some 4, none, .mv, [.c (A.bool false)]⟩]
@[go_sem] def r_ref04_Fits_3 : List POp := [⟨some 8, none, .faddr 1, [.t 2]⟩,
 ⟨some 9, none, .load 1 false, [.t 8]⟩,
 ⟨some 10, none, .bin .eql, [.t 9, .c (A.int .i64 1)]⟩]
@[go_sem] def r_ref04_Fits_4 : List POp := [⟨some 11, none, .faddr 0, [.t 3]⟩,
 ⟨some 12, none, .load 1 false, [.t 11]⟩,
 ⟨some 13, none, .call 50, [.t 12]⟩,
 ⟨some 14, none, .mv, [.t 13]⟩,
 ⟨some 15, some (14, true), .faddr 1, [.t 3]⟩,
 ⟨some 16, some (14, true), .load 1 false, [.t 15]⟩,
 ⟨some 17, some (14, true), .bin .eql, [.t 16, .c (A.int .i64 0)]⟩,
 ⟨some 18, none, .pick, [.t 14, .t 17, .c (A.bool false)]⟩,
 ⟨some 4, none, .mv, [.t 18]⟩]
@[go_sem] def r_ref04_Fits_5 : List POp := [⟨some 19, none, .faddr 0, [.t 3]⟩,
 ⟨some 20, none, .load 1 false, [.t 19]⟩,
 ⟨some 21, none, .bin .eql, [.t 20, .c (A.int .i64 0)]⟩,
 ⟨some 22, none, .mv, [.t 21]⟩,
 ⟨some 23, some (22, true), .faddr 1, [.t 3]⟩,
 ⟨some 24, some (22, true), .load 1 false, [.t 23]⟩,
 ⟨some 25, some (22, true), .bin .geq, [.t 24, .c (A.int .i64 1)]⟩,
 ⟨some 26, none, .pick, [.t 22, .t 25, .c (A.bool false)]⟩,
 ⟨some 27, none, .mv, [.t 26]⟩,
 ⟨some 28, some (27, true), .faddr 1, [.t 3]⟩,
 ⟨some 29, some (27, true), .load 1 false, [.t 28]⟩,
 ⟨some 30, some (27, true), .faddr 2, [.t 2]⟩,
 ⟨some 31, some (27, true), .load 1 false, [.t 30]⟩,
 ⟨some 32, some (27, true), .bin .leq, [.t 29, .t 31]⟩,
 ⟨some 33, none, .pick, [.t 27, .t 32, .c (A.bool false)]⟩,
 ⟨some 4, none, .mv, [.t 33]⟩]
def pc_ref04_Fits : PC := (.seq (.reg [] r_ref04_Fits_0) (.seq (.seq (.reg [5, 6] r_ref04_Fits_1) (.cond (.t 7) (.seq (.reg [] r_ref04_Fits_2) .ret) .skip)) (.seq (.seq (.reg [8, 9] r_ref04_Fits_3) (.cond (.t 10) (.seq (.reg [11, 12, 13, 14, 15, 16, 17, 18] r_ref04_Fits_4) .ret) .skip)) (.seq (.reg [19, 20, 21, 22, 23, 24, 25, 26, 27, 28, 29, 30, 31, 32, 33] r_ref04_Fits_5) .ret))))
theorem chk_ref04_Fits : chkF C.P 37 pc_ref04_Fits 34 [.t 4] 2 = true := by kernel_rfl

@[go_sem] def r_ref10_Amounts_0 : List POp := [⟨some 2, none, .mv, [.c (A.sl [])]⟩]
@[go_sem] def r_ref10_Amounts_1 : List POp := [⟨some 3, none, .nilown 2 (Amount.enc Amount.zero), [.c (A.full [])]⟩]
@[go_sem] def r_ref10_Amounts_2 : List POp := [⟨some 4, none, .mv, [.c (A.int .i64 0)]⟩]
@[go_sem] def r_ref10_Amounts_3 : List POp := [⟨some 5, none, .mv, [.t 4]⟩,
 ⟨some 6, none, .mv, [.t 0]⟩,
 ⟨some 7, none, .len, [.t 6]⟩,
 ⟨some 8, none, .bin .lss, [.t 5, .t 7]⟩]
@[go_sem] def r_ref10_Amounts_5 : List POp := [⟨some 11, none, .mv, [.t 3]⟩,
 ⟨some 12, none, .mv, [.t 0]⟩,
 ⟨some 13, none, .mv, [.t 4]⟩,
 ⟨some 14, none, .iaS 5 (Hold.enc Hold.zero), [.t 12, .t 13]⟩,
 ⟨some 15, none, .faddr 3, [.t 14]⟩,
 ⟨some 16, none, .load 2 true, [.t 15]⟩,
 ⟨some 17, none, .bslice 2 (Amount.enc Amount.zero), [.t 16]⟩,
 ⟨some 18, none, .append 2 16 (Amount.enc Amount.zero), [.t 11, .t 17]⟩,
 ⟨some 3, none, .mv, [.t 18]⟩]
@[go_sem] def r_ref10_Amounts_4 : List POp := [⟨some 9, none, .mv, [.t 4]⟩,
 ⟨some 10, none, .bin .add, [.t 9, .c (A.int .i64 1)]⟩,
 ⟨some 4, none, .mv, [.t 10]⟩]
@[go_sem] def r_ref10_Amounts_6 : List POp := [⟨some 19, none, .mv, [.t 3]⟩,
 ⟨some 2, none, .mv, [.t 19]⟩]
def pc_ref10_Amounts : PC := (.seq (.reg [] r_ref10_Amounts_0) (.seq (.reg [] r_ref10_Amounts_1) (.seq (.seq (.reg [] r_ref10_Amounts_2) (.block 0 (.loop (.seq (.seq (.reg [5, 6, 7] r_ref10_Amounts_3) (.cond (.t 8) .skip (.exit 0))) (.seq (.block 1 (.reg [11, 12, 13, 14, 15, 16, 17, 18] r_ref10_Amounts_5)) (.reg [9, 10] r_ref10_Amounts_4)))))) (.seq (.reg [19] r_ref10_Amounts_6) .ret))))
theorem chk_ref10_Amounts : chkF C.P 47 pc_ref10_Amounts 20 [.t 2] 1 = true := by kernel_rfl

@[go_sem] def r_ref04_Permitted_0 : List POp := [⟨some 2, none, .box 4, [.t 0]⟩,
 ⟨some 3, none, .box 2, [.t 1]⟩,
 ⟨some 4, none, .mv, [.c (A.bool false)]⟩]
@[go_sem] def r_ref04_Permitted_1 : List POp := [⟨some 5, none, .load 4 true, [.t 2]⟩,
 ⟨some 6, none, .call 46, [.t 5]⟩,
 ⟨some 7, none, .mv, [.t 6]⟩,
 ⟨some 8, some (7, true), .load 2 true, [.t 3]⟩,
 ⟨some 9, some (7, true), .call 28, [.t 8]⟩,
 ⟨some 10, some (7, true), .mv, [.t 9]⟩,
 ⟨some 11, some (10, false), .load 4 true, [.t 2]⟩,
 ⟨some 12, some (10, false), .load 2 true, [.t 3]⟩,
 ⟨some 13, some (10, false), .call 37, [.t 11, .t 12]⟩,
 ⟨some 14, some (7, true), .pick, [.t 10, .c (A.bool true), .t 13]⟩,
 ⟨some 15, none, .pick, [.t 7, .t 14, .c (A.bool false)]⟩,
 ⟨some 4, none, .mv, [.t 15]⟩]
def pc_ref04_Permitted : PC := (.seq (.reg [] r_ref04_Permitted_0) (.seq (.reg [5, 6, 7, 8, 9, 10, 11, 12, 13, 14, 15] r_ref04_Permitted_1) .ret))
theorem chk_ref04_Permitted : chkF C.P 53 pc_ref04_Permitted 16 [.t 4] 2 = true := by kernel_rfl

@[go_sem] def r_ref03_Compatible_0 : List POp := [⟨some 4, none, .mv, [.c (A.bool false)]⟩]
@[go_sem] def r_ref03_Compatible_1 : List POp := [⟨some 5, none, .mv, [.t 0]⟩,
 ⟨some 6, none, .call 50, [.t 5]⟩,
 ⟨some 7, none, .not, [.t 6]⟩,
 ⟨some 8, none, .mv, [.t 7]⟩,
 ⟨some 9, some (8, false), .mv, [.t 1]⟩,
 ⟨some 10, some (8, false), .call 50, [.t 9]⟩,
 ⟨some 11, some (8, false), .not, [.t 10]⟩,
 ⟨some 12, none, .pick, [.t 8, .c (A.bool true), .t 11]⟩,
 ⟨some 13, none, .mv, [.t 12]⟩,
 ⟨some 14, some (13, false), .mv, [.t 0]⟩,
 ⟨some 15, some (13, false), .bin .eql, [.t 14, .c (A.int .i64 5)]⟩,
 ⟨some 16, none, .pick, [.t 13, .c (A.bool true), .t 15]⟩,
 ⟨some 17, none, .mv, [.t 16]⟩,
 ⟨some 18, some (17, false), .mv, [.t 1]⟩,
 ⟨some 19, some (17, false), .bin .eql, [.t 18, .c (A.int .i64 5)]⟩,
 ⟨some 20, none, .pick, [.t 17, .c (A.bool true), .t 19]⟩]
@[go_sem] def r_ref03_Compatible_2 : List POp := [⟨some 4, none, .mv, [.c (A.bool false)]⟩]
@[go_sem] def r_ref03_Compatible_3 : List POp := [⟨some 21, none, .mv, [.t 0]⟩,
 ⟨some 22, none, .bin .eql, [.t 21, .c (A.int .i64 1)]⟩,
 ⟨some 23, none, .mv, [.t 22]⟩,
 ⟨some 24, some (23, false), .mv, [.t 1]⟩,
 ⟨some 25, some (23, false), .bin .eql, [.t 24, .c (A.int .i64 1)]⟩,
 ⟨some 26, none, .pick, [.t 23, .c (A.bool true), .t 25]⟩,
 ⟨some 27, none, .mv, [.t 26]⟩,
 ⟨some 28, some (27, false), .mv, [.t 0]⟩,
 ⟨some 29, some (27, false), .mv, [.t 1]⟩,
 ⟨some 30, some (27, false), .bin .eql, [.t 28, .t 29]⟩,
 ⟨some 31, some (27, false), .mv, [.t 30]⟩,
 ⟨some 32, some (31, true), .mv, [.t 0]⟩,
 ⟨some 33, some (31, true), .bin .neq, [.t 32, .c (A.int .i64 4)]⟩,
 ⟨some 34, some (27, false), .pick, [.t 31, .t 33, .c (A.bool false)]⟩,
 ⟨some 35, none, .pick, [.t 27, .c (A.bool true), .t 34]⟩,
 ⟨some 4, none, .mv, [.t 35]⟩]
def pc_ref03_Compatible : PC := (.seq (.reg [] r_ref03_Compatible_0) (.seq (.seq (.reg [5, 6, 7, 8, 9, 10, 11, 12, 13, 14, 15, 16, 17, 18, 19] r_ref03_Compatible_1) (.cond (.t 20) (.seq (.reg [] r_ref03_Compatible_2) .ret) .skip)) (.seq (.reg [21, 22, 23, 24, 25, 26, 27, 28, 29, 30, 31, 32, 33, 34, 35] r_ref03_Compatible_3) .ret)))
theorem chk_ref03_Compatible : chkF C.P 54 pc_ref03_Compatible 36 [.t 4] 2 = true := by kernel_rfl

@[go_sem] def r_ref04_Compatible_0 : List POp := [⟨some 2, none, .box 4, [.t 0]⟩,
 ⟨some 4, none, .mv, [.c (A.bool false)]⟩]
@[go_sem] def r_ref04_Compatible_1 : List POp := [⟨some 8, none, .load 4 true, [.t 2]⟩,
 ⟨some 9, none, .call 46, [.t 8]⟩,
 ⟨some 10, none, .not, [.t 9]⟩]
@[go_sem] def r_ref04_Compatible_2 : List POp := [⟨some 4, none, .mv, [.c (A.bool false)]⟩]
@[go_sem] def r_ref04_Compatible_3 : List POp := [⟨some 5, none, .mv, [.c (A.int .i64 0)]⟩]
@[go_sem] def r_ref04_Compatible_4 : List POp := [⟨some 6, none, .mv, [.c (A.int .i64 0)]⟩]
@[go_sem] def r_ref04_Compatible_5 : List POp := [⟨some 11, none, .mv, [.t 6]⟩,
 ⟨some 12, none, .mv, [.t 1]⟩,
 ⟨some 13, none, .len, [.t 12]⟩,
 ⟨some 14, none, .bin .lss, [.t 11, .t 13]⟩]
@[go_sem] def r_ref04_Compatible_7 : List POp := [⟨some 17, none, .load 4 true, [.t 2]⟩,
 ⟨some 18, none, .mv, [.t 1]⟩,
 ⟨some 19, none, .mv, [.t 6]⟩,
 ⟨some 20, none, .iaS 2 (Amount.enc Amount.zero), [.t 18, .t 19]⟩,
 ⟨some 21, none, .load 2 true, [.t 20]⟩,
 ⟨some 22, none, .call 53, [.t 17, .t 21]⟩,
 ⟨some 23, none, .not, [.t 22]⟩]
@[go_sem] def r_ref04_Compatible_8 : List POp := [⟨some 4, none, .mv, [.c (A.bool false)]⟩]
@[go_sem] def r_ref04_Compatible_9 : List POp := [⟨some 24, none, .faddr 1, [.t 2]⟩,
 ⟨some 25, none, .load 1 false, [.t 24]⟩,
 ⟨some 26, none, .bin .eql, [.t 25, .c (A.int .i64 2)]⟩]
@[go_sem] def r_ref04_Compatible_10 : List POp := [⟨some 27, none, .mv, [.t 5]⟩,
 ⟨some 28, none, .mv, [.t 1]⟩,
 ⟨some 29, none, .mv, [.t 6]⟩,
 ⟨some 30, none, .iaS 2 (Amount.enc Amount.zero), [.t 28, .t 29]⟩,
 ⟨some 31, none, .faddr 1, [.t 30]⟩,
 ⟨some 32, none, .load 1 false, [.t 31]⟩,
 ⟨some 33, none, .bin .add, [.t 27, .t 32]⟩,
 ⟨some 5, none, .mv, [.t 33]⟩]
@[go_sem] def r_ref04_Compatible_11 : List POp := [⟨some 34, none, .mv, [.t 5]⟩,
 ⟨some 35, none, .faddr 2, [.t 2]⟩,
 ⟨some 36, none, .load 1 false, [.t 35]⟩,
 ⟨some 37, none, .bin .gtr, [.t 34, .t 36]⟩]
@[go_sem] def r_ref04_Compatible_12 : List POp := [⟨some 4, none, .mv, [.c (A.bool false)]⟩]
@[go_sem] def r_ref04_Compatible_13 : List POp := [⟨some 7, none, .mv, [.c (A.int .i64 0)]⟩]
@[go_sem] def r_ref04_Compatible_14 : List POp := [⟨some 38, none, .mv, [.t 7]⟩,
 ⟨some 39, none, .mv, [.t 6]⟩,
 ⟨some 40, none, .bin .lss, [.t 38, .t 39]⟩]
@[go_sem] def r_ref04_Compatible_16 : List POp := [⟨some 43, none, .mv, [.t 1]⟩,
 ⟨some 44, none, .mv, [.t 6]⟩,
 ⟨some 45, none, .iaS 2 (Amount.enc Amount.zero), [.t 43, .t 44]⟩,
 ⟨some 46, none, .load 2 true, [.t 45]⟩,
 ⟨some 47, none, .call 28, [.t 46]⟩,
 ⟨some 48, none, .not, [.t 47]⟩,
 ⟨some 49, none, .mv, [.t 48]⟩,
 ⟨some 50, some (49, true), .mv, [.t 1]⟩,
 ⟨some 51, some (49, true), .mv, [.t 7]⟩,
 ⟨some 52, some (49, true), .iaS 2 (Amount.enc Amount.zero), [.t 50, .t 51]⟩,
 ⟨some 53, some (49, true), .load 2 true, [.t 52]⟩,
 ⟨some 54, some (49, true), .call 28, [.t 53]⟩,
 ⟨some 55, some (49, true), .not, [.t 54]⟩,
 ⟨some 56, none, .pick, [.t 49, .t 55, .c (A.bool false)]⟩,
 ⟨some 57, none, .mv, [.t 56]⟩,
 ⟨some 58, some (57, true), .mv, [.t 1]⟩,
 ⟨some 59, some (57, true), .mv, [.t 6]⟩,
 ⟨some 60, some (57, true), .iaS 2 (Amount.enc Amount.zero), [.t 58, .t 59]⟩,
 ⟨some 61, some (57, true), .faddr 0, [.t 60]⟩,
 ⟨some 62, some (57, true), .load 1 false, [.t 61]⟩,
 ⟨some 63, some (57, true), .mv, [.t 1]⟩,
 ⟨some 64, some (57, true), .mv, [.t 7]⟩,
 ⟨some 65, some (57, true), .iaS 2 (Amount.enc Amount.zero), [.t 63, .t 64]⟩,
 ⟨some 66, some (57, true), .faddr 0, [.t 65]⟩,
 ⟨some 67, some (57, true), .load 1 false, [.t 66]⟩,
 ⟨some 68, some (57, true), .call 54, [.t 62, .t 67]⟩,
 ⟨some 69, some (57, true), .not, [.t 68]⟩,
 ⟨some 70, none, .pick, [.t 57, .t 69, .c (A.bool false)]⟩]
@[go_sem] def r_ref04_Compatible_17 : List POp := [⟨some 4, none, .mv, [.c (A.bool false)]⟩]
@[go_sem] def r_ref04_Compatible_15 : List POp := [⟨some 41, none, .mv, [.t 7]⟩,
 ⟨some 42, none, .bin .add, [.t 41, .c (A.int .i64 1)]⟩,
 ⟨some 7, none, .mv, [.t 42]⟩]
@[go_sem] def r_ref04_Compatible_6 : List POp := [⟨some 15, none, .mv, [.t 6]⟩,
 ⟨some 16, none, .bin .add, [.t 15, .c (A.int .i64 1)]⟩,
 ⟨some 6, none, .mv, [.t 16]⟩]
@[go_sem] def r_ref04_Compatible_18 : List POp := [⟨some 4, none, .mv, [.c (A.bool true)]⟩]
def pc_ref04_Compatible : PC := (.seq (.reg [] r_ref04_Compatible_0) (.seq (.seq (.reg [8, 9] r_ref04_Compatible_1) (.cond (.t 10) (.seq (.reg [] r_ref04_Compatible_2) .ret) .skip)) (.seq (.reg [] r_ref04_Compatible_3) (.seq (.seq (.reg [] r_ref04_Compatible_4) (.block 0 (.loop (.seq (.seq (.reg [11, 12, 13] r_ref04_Compatible_5) (.cond (.t 14) .skip (.exit 0))) (.seq (.block 1 (.seq (.seq (.regd [17, 18, 19, 20, 21, 22] r_ref04_Compatible_7) (.cond (.t 23) (.seq (.reg [] r_ref04_Compatible_8) .ret) .skip)) (.seq (.seq (.reg [24, 25] r_ref04_Compatible_9) (.cond (.t 26) (.seq (.reg [27, 28, 29, 30, 31, 32, 33] r_ref04_Compatible_10) (.seq (.seq (.reg [34, 35, 36] r_ref04_Compatible_11) (.cond (.t 37) (.seq (.reg [] r_ref04_Compatible_12) .ret) .skip)) (.exit 1))) .skip)) (.seq (.reg [] r_ref04_Compatible_13) (.block 2 (.loop (.seq (.seq (.reg [38, 39] r_ref04_Compatible_14) (.cond (.t 40) .skip (.exit 2))) (.seq (.block 3 (.seq (.regd [43, 44, 45, 46, 47, 48, 49, 50, 51, 52, 53, 54, 55, 56, 57, 58, 59, 60, 61, 62, 63, 64, 65, 66, 67, 68, 69] r_ref04_Compatible_16) (.cond (.t 70) (.seq (.reg [] r_ref04_Compatible_17) .ret) .skip))) (.reg [41, 42] r_ref04_Compatible_15))))))))) (.reg [15, 16] r_ref04_Compatible_6)))))) (.seq (.reg [] r_ref04_Compatible_18) .ret)))))
theorem chk_ref04_Compatible : chkF C.P 39 pc_ref04_Compatible 71 [.t 4] 2 = true := by kernel_rfl

@[go_sem] def r_ref10_Valid_0 : List POp := [⟨some 2, none, .box 4, [.t 0]⟩,
 ⟨some 4, none, .mv, [.c (A.bool false)]⟩]
@[go_sem] def r_ref10_Valid_1 : List POp := [⟨some 6, none, .load 4 true, [.t 2]⟩,
 ⟨some 7, none, .call 46, [.t 6]⟩,
 ⟨some 8, none, .not, [.t 7]⟩,
 ⟨some 9, none, .mv, [.t 8]⟩,
 ⟨some 10, some (9, false), .mv, [.t 1]⟩,
 ⟨some 11, some (9, false), .len, [.t 10]⟩,
 ⟨some 12, some (9, false), .bin .gtr, [.t 11, .c (A.int .i64 8)]⟩,
 ⟨some 13, none, .pick, [.t 9, .c (A.bool true), .t 12]⟩]
@[go_sem] def r_ref10_Valid_2 : List POp := [⟨some 4, none, .mv, [.c (A.bool false)]⟩]
@[go_sem] def r_ref10_Valid_3 : List POp := [⟨some 5, none, .mv, [.c (A.int .i64 0)]⟩]
@[go_sem] def r_ref10_Valid_4 : List POp := [⟨some 14, none, .mv, [.t 5]⟩,
 ⟨some 15, none, .mv, [.t 1]⟩,
 ⟨some 16, none, .len, [.t 15]⟩,
 ⟨some 17, none, .bin .lss, [.t 14, .t 16]⟩]
@[go_sem] def r_ref10_Valid_6 : List POp := [⟨some 20, none, .mv, [.t 1]⟩,
 ⟨some 21, none, .mv, [.t 5]⟩,
 ⟨some 22, none, .iaS 5 (Hold.enc Hold.zero), [.t 20, .t 21]⟩,
 ⟨some 23, none, .faddr 0, [.t 22]⟩,
 ⟨some 24, none, .load 3 true, [.t 23]⟩,
 ⟨some 25, none, .call 36, [.t 24]⟩,
 ⟨some 26, none, .not, [.t 25]⟩,
 ⟨some 27, none, .mv, [.t 26]⟩,
 ⟨some 28, some (27, false), .load 4 true, [.t 2]⟩,
 ⟨some 29, some (27, false), .mv, [.t 1]⟩,
 ⟨some 30, some (27, false), .mv, [.t 5]⟩,
 ⟨some 31, some (27, false), .iaS 5 (Hold.enc Hold.zero), [.t 29, .t 30]⟩,
 ⟨some 32, some (27, false), .faddr 3, [.t 31]⟩,
 ⟨some 33, some (27, false), .load 2 true, [.t 32]⟩,
 ⟨some 34, some (27, false), .call 37, [.t 28, .t 33]⟩,
 ⟨some 35, some (27, false), .not, [.t 34]⟩,
 ⟨some 36, none, .pick, [.t 27, .c (A.bool true), .t 35]⟩,
 ⟨some 37, none, .mv, [.t 36]⟩,
 ⟨some 38, some (37, false), .mv, [.t 5]⟩,
 ⟨some 39, some (37, false), .bin .gtr, [.t 38, .c (A.int .i64 0)]⟩,
 ⟨some 40, some (37, false), .mv, [.t 39]⟩,
 ⟨some 41, some (40, true), .mv, [.t 1]⟩,
 ⟨some 42, some (40, true), .mv, [.t 5]⟩,
 ⟨some 43, some (40, true), .bin .sub, [.t 42, .c (A.int .i64 1)]⟩,
 ⟨some 44, some (40, true), .iaS 5 (Hold.enc Hold.zero), [.t 41, .t 43]⟩,
 ⟨some 45, some (40, true), .faddr 0, [.t 44]⟩,
 ⟨some 46, some (40, true), .load 3 true, [.t 45]⟩,
 ⟨some 47, some (40, true), .mv, [.t 1]⟩,
 ⟨some 48, some (40, true), .mv, [.t 5]⟩,
 ⟨some 49, some (40, true), .iaS 5 (Hold.enc Hold.zero), [.t 47, .t 48]⟩,
 ⟨some 50, some (40, true), .faddr 0, [.t 49]⟩,
 ⟨some 51, some (40, true), .load 3 true, [.t 50]⟩,
 ⟨some 52, some (40, true), .call 34, [.t 46, .t 51]⟩,
 ⟨some 53, some (40, true), .bin .geq, [.t 52, .c (A.int .i64 0)]⟩,
 ⟨some 54, some (37, false), .pick, [.t 40, .t 53, .c (A.bool false)]⟩,
 ⟨some 55, none, .pick, [.t 37, .c (A.bool true), .t 54]⟩]
@[go_sem] def r_ref10_Valid_7 : List POp := [⟨some 4, none, .mv, [.c (A.bool false)]⟩]
@[go_sem] def r_ref10_Valid_5 : List POp := [⟨some 18, none, .mv, [.t 5]⟩,
 ⟨some 19, none, .bin .add, [.t 18, .c (A.int .i64 1)]⟩,
 ⟨some 5, none, .mv, [.t 19]⟩]
@[go_sem] def r_ref10_Valid_8 : List POp := [⟨some 56, none, .load 4 true, [.t 2]⟩,
 ⟨some 57, none, .mv, [.t 1]⟩,
 ⟨some 58, none, .call 47, [.t 57]⟩,
 ⟨some 59, none, .call 39, [.t 56, .t 58]⟩,
 ⟨some 4, none, .mv, [.t 59]⟩]
def pc_ref10_Valid : PC := (.seq (.reg [] r_ref10_Valid_0) (.seq (.seq (.reg [6, 7, 8, 9, 10, 11, 12] r_ref10_Valid_1) (.cond (.t 13) (.seq (.reg [] r_ref10_Valid_2) .ret) .skip)) (.seq (.seq (.reg [] r_ref10_Valid_3) (.block 0 (.loop (.seq (.seq (.reg [14, 15, 16] r_ref10_Valid_4) (.cond (.t 17) .skip (.exit 0))) (.seq (.block 1 (.seq (.regd [20, 21, 22, 23, 24, 25, 26, 27, 28, 29, 30, 31, 32, 33, 34, 35, 36, 37, 38, 39, 40, 41, 42, 43, 44, 45, 46, 47, 48, 49, 50, 51, 52, 53, 54] r_ref10_Valid_6) (.cond (.t 55) (.seq (.reg [] r_ref10_Valid_7) .ret) .skip))) (.reg [18, 19] r_ref10_Valid_5)))))) (.seq (.regd [56, 57, 58, 59] r_ref10_Valid_8) .ret))))
theorem chk_ref10_Valid : chkF C.P 26 pc_ref10_Valid 60 [.t 4] 2 = true := by kernel_rfl

@[go_sem] def r_ref10_Room_0 : List POp := [⟨some 4, none, .box 4, [.t 0]⟩,
 ⟨some 6, none, .box 3, [.t 2]⟩,
 ⟨some 7, none, .box 2, [.t 3]⟩,
 ⟨some 8, none, .mv, [.c (A.bool false)]⟩]
@[go_sem] def r_ref10_Room_1 : List POp := [⟨some 9, none, .load 4 true, [.t 4]⟩,
 ⟨some 10, none, .mv, [.t 1]⟩,
 ⟨some 11, none, .call 26, [.t 9, .t 10]⟩,
 ⟨some 12, none, .mv, [.t 11]⟩,
 ⟨some 13, some (12, true), .load 3 true, [.t 6]⟩,
 ⟨some 14, some (12, true), .call 36, [.t 13]⟩,
 ⟨some 15, none, .pick, [.t 12, .t 14, .c (A.bool false)]⟩,
 ⟨some 16, none, .mv, [.t 15]⟩,
 ⟨some 17, some (16, true), .load 4 true, [.t 4]⟩,
 ⟨some 18, some (16, true), .load 2 true, [.t 7]⟩,
 ⟨some 19, some (16, true), .call 37, [.t 17, .t 18]⟩,
 ⟨some 20, none, .pick, [.t 16, .t 19, .c (A.bool false)]⟩,
 ⟨some 21, none, .mv, [.t 20]⟩,
 ⟨some 22, some (21, true), .load 4 true, [.t 4]⟩,
 ⟨some 23, some (21, true), .mv, [.t 1]⟩,
 ⟨some 24, some (21, true), .load 3 true, [.t 6]⟩,
 ⟨some 25, some (21, true), .load 2 true, [.t 7]⟩,
 ⟨some 26, some (21, true), .call 14, [.t 23, .t 24, .t 25]⟩,
 ⟨some 27, some (21, true), .call 26, [.t 22, .t 26]⟩,
 ⟨some 28, none, .pick, [.t 21, .t 27, .c (A.bool false)]⟩,
 ⟨some 8, none, .mv, [.t 28]⟩]
def pc_ref10_Room : PC := (.seq (.reg [] r_ref10_Room_0) (.seq (.regd [9, 10, 11, 12, 13, 14, 15, 16, 17, 18, 19, 20, 21, 22, 23, 24, 25, 26, 27, 28] r_ref10_Room_1) .ret))
theorem chk_ref10_Room : chkF C.P 16 pc_ref10_Room 29 [.t 8] 4 = true := by kernel_rfl

@[go_sem] def r_law10_HoldersRoom_0 : List POp := [⟨some 4, none, .box 4, [.t 0]⟩,
 ⟨some 6, none, .box 3, [.t 2]⟩,
 ⟨some 7, none, .box 2, [.t 3]⟩,
 ⟨some 8, none, .mv, [.c (A.bool false)]⟩]
@[go_sem] def r_law10_HoldersRoom_1 : List POp := [⟨some 9, none, .mv, [.t 1]⟩,
 ⟨some 10, none, .len, [.t 9]⟩,
 ⟨some 11, none, .bin .gtr, [.t 10, .c (A.int .i64 100)]⟩]
@[go_sem] def r_law10_HoldersRoom_2 : List POp := [⟨some 12, none, .call 11, []⟩,
 ⟨some 8, none, .mv, [.t 12]⟩]
@[go_sem] def r_law10_HoldersRoom_3 : List POp := [⟨some 13, none, .call 11, []⟩,
 ⟨some 14, none, .mv, [.t 13]⟩,
 ⟨some 15, some (14, true), .load 4 true, [.t 4]⟩,
 ⟨some 16, some (14, true), .mv, [.t 1]⟩,
 ⟨some 17, some (14, true), .load 3 true, [.t 6]⟩,
 ⟨some 18, some (14, true), .load 2 true, [.t 7]⟩,
 ⟨some 19, some (14, true), .call 15, [.t 15, .t 16, .t 17, .t 18]⟩,
 ⟨some 20, some (14, true), .load 4 true, [.t 4]⟩,
 ⟨some 21, some (14, true), .mv, [.t 1]⟩,
 ⟨some 22, some (14, true), .load 3 true, [.t 6]⟩,
 ⟨some 23, some (14, true), .load 2 true, [.t 7]⟩,
 ⟨some 24, some (14, true), .call 16, [.t 20, .t 21, .t 22, .t 23]⟩,
 ⟨some 25, some (14, true), .eqb false, [.t 19, .t 24]⟩,
 ⟨some 26, none, .pick, [.t 14, .t 25, .c (A.bool false)]⟩,
 ⟨some 8, none, .mv, [.t 26]⟩]
def pc_law10_HoldersRoom : PC := (.seq (.reg [] r_law10_HoldersRoom_0) (.seq (.seq (.reg [9, 10] r_law10_HoldersRoom_1) (.cond (.t 11) (.seq (.reg [12] r_law10_HoldersRoom_2) .ret) .skip)) (.seq (.regd [13, 14, 15, 16, 17, 18, 19, 20, 21, 22, 23, 24, 25, 26] r_law10_HoldersRoom_3) .ret)))
theorem chk_law10_HoldersRoom : chkF C.P 4 pc_law10_HoldersRoom 27 [.t 8] 4 = true := by kernel_rfl

@[go_sem] def r_ref10_Against_0 : List POp := [⟨some 4, none, .box 4, [.t 0]⟩,
 ⟨some 6, none, .box 3, [.t 2]⟩,
 ⟨some 7, none, .box 2, [.t 3]⟩,
 ⟨some 8, none, .mv, [.c (A.sl [])]⟩]
@[go_sem] def r_ref10_Against_1 : List POp := [⟨some 11, none, .load 4 true, [.t 4]⟩,
 ⟨some 12, none, .mv, [.t 1]⟩,
 ⟨some 13, none, .call 26, [.t 11, .t 12]⟩,
 ⟨some 14, none, .not, [.t 13]⟩,
 ⟨some 15, none, .mv, [.t 14]⟩,
 ⟨some 16, some (15, false), .load 3 true, [.t 6]⟩,
 ⟨some 17, some (15, false), .call 36, [.t 16]⟩,
 ⟨some 18, some (15, false), .not, [.t 17]⟩,
 ⟨some 19, none, .pick, [.t 15, .c (A.bool true), .t 18]⟩,
 ⟨some 20, none, .mv, [.t 19]⟩,
 ⟨some 21, some (20, false), .load 4 true, [.t 4]⟩,
 ⟨some 22, some (20, false), .load 2 true, [.t 7]⟩,
 ⟨some 23, some (20, false), .call 37, [.t 21, .t 22]⟩,
 ⟨some 24, some (20, false), .not, [.t 23]⟩,
 ⟨some 25, none, .pick, [.t 20, .c (A.bool true), .t 24]⟩,
 ⟨some 26, none, .mv, [.t 25]⟩,
 ⟨some 27, some (26, false), .load 4 true, [.t 4]⟩,
 ⟨some 28, some (26, false), .mv, [.t 1]⟩,
 ⟨some 29, some (26, false), .load 3 true, [.t 6]⟩,
 ⟨some 30, some (26, false), .load 2 true, [.t 7]⟩,
 ⟨some 31, some (26, false), .call 16, [.t 27, .t 28, .t 29, .t 30]⟩,
 ⟨some 32, none, .pick, [.t 26, .c (A.bool true), .t 31]⟩]
@[go_sem] def r_ref10_Against_2 : List POp := [⟨some 8, none, .mv, [.c (A.sl [])]⟩]
@[go_sem] def r_ref10_Against_3 : List POp := [⟨some 9, none, .nilown 3 (Proc.enc Proc.zero), [.c (A.full [])]⟩]
@[go_sem] def r_ref10_Against_4 : List POp := [⟨some 10, none, .mv, [.c (A.int .i64 0)]⟩]
@[go_sem] def r_ref10_Against_5 : List POp := [⟨some 33, none, .mv, [.t 10]⟩,
 ⟨some 34, none, .mv, [.t 1]⟩,
 ⟨some 35, none, .len, [.t 34]⟩,
 ⟨some 36, none, .bin .lss, [.t 33, .t 35]⟩]
@[go_sem] def r_ref10_Against_7 : List POp := [⟨some 39, none, .mv, [.t 1]⟩,
 ⟨some 40, none, .mv, [.t 10]⟩,
 ⟨some 41, none, .iaS 5 (Hold.enc Hold.zero), [.t 39, .t 40]⟩,
 ⟨some 42, none, .faddr 0, [.t 41]⟩,
 ⟨some 43, none, .load 3 true, [.t 42]⟩,
 ⟨some 44, none, .load 3 true, [.t 6]⟩,
 ⟨some 45, none, .eqa false [.i .i64, .i .i64, .i .i64], [.t 43, .t 44]⟩]
@[go_sem] def r_ref10_Against_8 : List POp := [⟨some 46, none, .faddr 1, [.t 4]⟩,
 ⟨some 47, none, .load 1 false, [.t 46]⟩,
 ⟨some 48, none, .bin .eql, [.t 47, .c (A.int .i64 2)]⟩,
 ⟨some 49, none, .mv, [.t 48]⟩,
 ⟨some 50, some (49, false), .load 4 true, [.t 4]⟩,
 ⟨some 51, some (49, false), .mv, [.t 1]⟩,
 ⟨some 52, some (49, false), .mv, [.t 10]⟩,
 ⟨some 53, some (49, false), .iaS 5 (Hold.enc Hold.zero), [.t 51, .t 52]⟩,
 ⟨some 54, some (49, false), .faddr 3, [.t 53]⟩,
 ⟨some 55, some (49, false), .load 2 true, [.t 54]⟩,
 ⟨some 56, some (49, false), .load 2 true, [.t 7]⟩,
 ⟨some 57, some (49, false), .bslice 2 (Amount.enc Amount.zero), [.t 55, .t 56]⟩,
 ⟨some 58, some (49, false), .call 39, [.t 50, .t 57]⟩,
 ⟨some 59, some (49, false), .not, [.t 58]⟩,
 ⟨some 60, none, .pick, [.t 49, .c (A.bool true), .t 59]⟩]
@[go_sem] def r_ref10_Against_9 : List POp := [⟨some 61, none, .mv, [.t 9]⟩,
 ⟨some 62, none, .mv, [.t 1]⟩,
 ⟨some 63, none, .mv, [.t 10]⟩,
 ⟨some 64, none, .iaS 5 (Hold.enc Hold.zero), [.t 62, .t 63]⟩,
 ⟨some 65, none, .faddr 0, [.t 64]⟩,
 ⟨some 66, none, .load 3 true, [.t 65]⟩,
 ⟨some 67, none, .bslice 3 (Proc.enc Proc.zero), [.t 66]⟩,
 ⟨some 68, none, .append 3 24 (Proc.enc Proc.zero), [.t 61, .t 67]⟩,
 ⟨some 9, none, .mv, [.t 68]⟩]
@[go_sem] def r_ref10_Against_6 : List POp := [⟨some 37, none, .mv, [.t 10]⟩,
 ⟨some 38, none, .bin .add, [.t 37, .c (A.int .i64 1)]⟩,
 ⟨some 10, none, .mv, [.t 38]⟩]
@[go_sem] def r_ref10_Against_10 : List POp := [⟨some 69, none, .mv, [.t 9]⟩,
 ⟨some 8, none, .mv, [.t 69]⟩]
def pc_ref10_Against : PC := (.seq (.reg [] r_ref10_Against_0) (.seq (.seq (.reg [11, 12, 13, 14, 15, 16, 17, 18, 19, 20, 21, 22, 23, 24, 25, 26, 27, 28, 29, 30, 31] r_ref10_Against_1) (.cond (.t 32) (.seq (.reg [] r_ref10_Against_2) .ret) .skip)) (.seq (.reg [] r_ref10_Against_3) (.seq (.seq (.reg [] r_ref10_Against_4) (.block 0 (.loop (.seq (.seq (.reg [33, 34, 35] r_ref10_Against_5) (.cond (.t 36) .skip (.exit 0))) (.seq (.block 1 (.seq (.seq (.regd [39, 40, 41, 42, 43, 44] r_ref10_Against_7) (.cond (.t 45) (.exit 1) .skip)) (.seq (.regd [46, 47, 48, 49, 50, 51, 52, 53, 54, 55, 56, 57, 58, 59] r_ref10_Against_8) (.cond (.t 60) (.reg [61, 62, 63, 64, 65, 66, 67, 68] r_ref10_Against_9) .skip)))) (.reg [37, 38] r_ref10_Against_6)))))) (.seq (.reg [69] r_ref10_Against_10) .ret)))))
theorem chk_ref10_Against : chkF C.P 19 pc_ref10_Against 70 [.t 8] 4 = true := by kernel_rfl

@[go_sem] def r_ref02_SameProcs_0 : List POp := [⟨some 4, none, .mv, [.c (A.bool false)]⟩]
@[go_sem] def r_ref02_SameProcs_1 : List POp := [⟨some 6, none, .mv, [.t 0]⟩,
 ⟨some 7, none, .len, [.t 6]⟩,
 ⟨some 8, none, .mv, [.t 1]⟩,
 ⟨some 9, none, .len, [.t 8]⟩,
 ⟨some 10, none, .bin .neq, [.t 7, .t 9]⟩]
@[go_sem] def r_ref02_SameProcs_2 : List POp := [⟨some 4, none, .mv, [.c (A.bool false)]⟩]
@[go_sem] def r_ref02_SameProcs_3 : List POp := [⟨some 5, none, .mv, [.c (A.int .i64 0)]⟩]
@[go_sem] def r_ref02_SameProcs_4 : List POp := [⟨some 11, none, .mv, [.t 5]⟩,
 ⟨some 12, none, .mv, [.t 0]⟩,
 ⟨some 13, none, .len, [.t 12]⟩,
 ⟨some 14, none, .bin .lss, [.t 11, .t 13]⟩]
@[go_sem] def r_ref02_SameProcs_6 : List POp := [⟨some 17, none, .mv, [.t 0]⟩,
 ⟨some 18, none, .mv, [.t 5]⟩,
 ⟨some 19, none, .iaS 3 (Proc.enc Proc.zero), [.t 17, .t 18]⟩,
 ⟨some 20, none, .load 3 true, [.t 19]⟩,
 ⟨some 21, none, .mv, [.t 1]⟩,
 ⟨some 22, none, .mv, [.t 5]⟩,
 ⟨some 23, none, .iaS 3 (Proc.enc Proc.zero), [.t 21, .t 22]⟩,
 ⟨some 24, none, .load 3 true, [.t 23]⟩,
 ⟨some 25, none, .eqa true [.i .i64, .i .i64, .i .i64], [.t 20, .t 24]⟩]
@[go_sem] def r_ref02_SameProcs_7 : List POp := [⟨some 4, none, .mv, [.c (A.bool false)]⟩]
@[go_sem] def r_ref02_SameProcs_5 : List POp := [⟨some 15, none, .mv, [.t 5]⟩,
 ⟨some 16, none, .bin .add, [.t 15, .c (A.int .i64 1)]⟩,
 ⟨some 5, none, .mv, [.t 16]⟩]
@[go_sem] def r_ref02_SameProcs_8 : List POp := [⟨some 4, none, .mv, [.c (A.bool true)]⟩]
def pc_ref02_SameProcs : PC := (.seq (.reg [] r_ref02_SameProcs_0) (.seq (.seq (.reg [6, 7, 8, 9] r_ref02_SameProcs_1) (.cond (.t 10) (.seq (.reg [] r_ref02_SameProcs_2) .ret) .skip)) (.seq (.seq (.reg [] r_ref02_SameProcs_3) (.block 0 (.loop (.seq (.seq (.reg [11, 12, 13] r_ref02_SameProcs_4) (.cond (.t 14) .skip (.exit 0))) (.seq (.block 1 (.seq (.regd [17, 18, 19, 20, 21, 22, 23, 24] r_ref02_SameProcs_6) (.cond (.t 25) (.seq (.reg [] r_ref02_SameProcs_7) .ret) .skip))) (.reg [15, 16] r_ref02_SameProcs_5)))))) (.seq (.reg [] r_ref02_SameProcs_8) .ret))))
theorem chk_ref02_SameProcs : chkF C.P 17 pc_ref02_SameProcs 26 [.t 4] 2 = true := by kernel_rfl

@[go_sem] def r_law10_HoldersAgainst_0 : List POp := [⟨some 4, none, .box 4, [.t 0]⟩,
 ⟨some 6, none, .box 3, [.t 2]⟩,
 ⟨some 7, none, .box 2, [.t 3]⟩,
 ⟨some 8, none, .mv, [.c (A.bool false)]⟩]
@[go_sem] def r_law10_HoldersAgainst_1 : List POp := [⟨some 9, none, .mv, [.t 1]⟩,
 ⟨some 10, none, .len, [.t 9]⟩,
 ⟨some 11, none, .bin .gtr, [.t 10, .c (A.int .i64 100)]⟩]
@[go_sem] def r_law10_HoldersAgainst_2 : List POp := [⟨some 12, none, .call 11, []⟩,
 ⟨some 8, none, .mv, [.t 12]⟩]
@[go_sem] def r_law10_HoldersAgainst_3 : List POp := [⟨some 13, none, .call 11, []⟩,
 ⟨some 14, none, .mv, [.t 13]⟩,
 ⟨some 15, some (14, true), .load 4 true, [.t 4]⟩,
 ⟨some 16, some (14, true), .mv, [.t 1]⟩,
 ⟨some 17, some (14, true), .load 3 true, [.t 6]⟩,
 ⟨some 18, some (14, true), .load 2 true, [.t 7]⟩,
 ⟨some 19, some (14, true), .call 18, [.t 15, .t 16, .t 17, .t 18]⟩,
 ⟨some 20, some (14, true), .load 4 true, [.t 4]⟩,
 ⟨some 21, some (14, true), .mv, [.t 1]⟩,
 ⟨some 22, some (14, true), .load 3 true, [.t 6]⟩,
 ⟨some 23, some (14, true), .load 2 true, [.t 7]⟩,
 ⟨some 24, some (14, true), .call 19, [.t 20, .t 21, .t 22, .t 23]⟩,
 ⟨some 25, some (14, true), .call 17, [.t 19, .t 24]⟩,
 ⟨some 26, none, .pick, [.t 14, .t 25, .c (A.bool false)]⟩,
 ⟨some 8, none, .mv, [.t 26]⟩]
def pc_law10_HoldersAgainst : PC := (.seq (.reg [] r_law10_HoldersAgainst_0) (.seq (.seq (.reg [9, 10] r_law10_HoldersAgainst_1) (.cond (.t 11) (.seq (.reg [12] r_law10_HoldersAgainst_2) .ret) .skip)) (.seq (.regd [13, 14, 15, 16, 17, 18, 19, 20, 21, 22, 23, 24, 25, 26] r_law10_HoldersAgainst_3) .ret)))
theorem chk_law10_HoldersAgainst : chkF C.P 5 pc_law10_HoldersAgainst 27 [.t 8] 4 = true := by kernel_rfl

@[go_sem] def r_mill_Light_0 : List POp := [⟨some 2, none, .mv, [.c (A.bool false)]⟩]
@[go_sem] def r_mill_Light_1 : List POp := [⟨some 3, none, .mv, [.t 0]⟩,
 ⟨some 4, none, .len, [.t 3]⟩,
 ⟨some 5, none, .bin .leq, [.t 4, .c (A.int .i64 300)]⟩,
 ⟨some 2, none, .mv, [.t 5]⟩]
def pc_mill_Light : PC := (.seq (.reg [] r_mill_Light_0) (.seq (.reg [3, 4, 5] r_mill_Light_1) .ret))
theorem chk_mill_Light : chkF C.P 20 pc_mill_Light 6 [.t 2] 1 = true := by kernel_rfl

@[go_sem] def r_mill_Mod_0 : List POp := [⟨some 4, none, .mv, [.c (A.int .i64 0)]⟩]
@[go_sem] def r_mill_Mod_1 : List POp := [⟨some 5, none, .mv, [.t 1]⟩,
 ⟨some 6, none, .bin .lss, [.t 5, .c (A.int .i64 1)]⟩]
@[go_sem] def r_mill_Mod_2 : List POp := [⟨some 4, none, .mv, [.c (A.int .i64 0)]⟩]
@[go_sem] def r_mill_Mod_3 : List POp := [⟨some 7, none, .mv, [.t 0]⟩,
 ⟨some 8, none, .mv, [.t 1]⟩,
 ⟨some 9, none, .bin .rem, [.t 7, .t 8]⟩,
 ⟨some 0, none, .mv, [.t 9]⟩]
@[go_sem] def r_mill_Mod_4 : List POp := [⟨some 10, none, .mv, [.t 0]⟩,
 ⟨some 11, none, .bin .lss, [.t 10, .c (A.int .i64 0)]⟩]
@[go_sem] def r_mill_Mod_5 : List POp := [⟨some 12, none, .mv, [.t 0]⟩,
 ⟨some 13, none, .mv, [.t 1]⟩,
 ⟨some 14, none, .bin .add, [.t 12, .t 13]⟩,
 ⟨some 0, none, .mv, [.t 14]⟩]
@[go_sem] def r_mill_Mod_6 : List POp := [⟨some 15, none, .mv, [.t 0]⟩,
 ⟨some 4, none, .mv, [.t 15]⟩]
def pc_mill_Mod : PC := (.seq (.reg [] r_mill_Mod_0) (.seq (.seq (.reg [5] r_mill_Mod_1) (.cond (.t 6) (.seq (.reg [] r_mill_Mod_2) .ret) .skip)) (.seq (.reg [7, 8, 9] r_mill_Mod_3) (.seq (.seq (.reg [10] r_mill_Mod_4) (.cond (.t 11) (.reg [12, 13, 14] r_mill_Mod_5) .skip)) (.seq (.reg [15] r_mill_Mod_6) .ret)))))
theorem chk_mill_Mod : chkF C.P 41 pc_mill_Mod 16 [.t 4] 2 = true := by kernel_rfl

@[go_sem] def r_mill_Tape_Next_m_0 : List POp := [⟨some 4, none, .mv, [.c (A.int .i64 0)]⟩]
@[go_sem] def r_mill_Tape_Next_m_1 : List POp := [⟨some 5, none, .mv, [.t 0]⟩,
 ⟨some 6, none, .nilck, [.t 5]⟩,
 ⟨some 7, none, .faddr 1, [.t 6]⟩,
 ⟨some 8, none, .load 1 false, [.t 7]⟩,
 ⟨some 9, none, .mv, [.t 0]⟩,
 ⟨some 10, none, .nilck, [.t 9]⟩,
 ⟨some 11, none, .faddr 0, [.t 10]⟩,
 ⟨some 12, none, .load 1 false, [.t 11]⟩,
 ⟨some 13, none, .len, [.t 12]⟩,
 ⟨some 14, none, .bin .geq, [.t 8, .t 13]⟩]
@[go_sem] def r_mill_Tape_Next_m_2 : List POp := [⟨some 4, none, .mv, [.c (A.int .i64 0)]⟩]
@[go_sem] def r_mill_Tape_Next_m_3 : List POp := [⟨some 15, none, .mv, [.t 0]⟩,
 ⟨some 16, none, .nilck, [.t 15]⟩,
 ⟨some 17, none, .faddr 1, [.t 16]⟩,
 ⟨some 18, none, .load 1 false, [.t 17]⟩,
 ⟨some 19, none, .bin .add, [.t 18, .c (A.int .i64 1)]⟩,
 ⟨some 20, none, .nilck, [.t 15]⟩,
 ⟨some 21, none, .faddr 1, [.t 20]⟩,
 ⟨none, none, .store 1, [.t 21, .t 19]⟩]
@[go_sem] def r_mill_Tape_Next_m_4 : List POp := [⟨some 22, none, .mv, [.t 0]⟩,
 ⟨some 23, none, .nilck, [.t 22]⟩,
 ⟨some 24, none, .faddr 0, [.t 23]⟩,
 ⟨some 25, none, .load 1 false, [.t 24]⟩,
 ⟨some 26, none, .mv, [.t 0]⟩,
 ⟨some 27, none, .nilck, [.t 26]⟩,
 ⟨some 28, none, .faddr 1, [.t 27]⟩,
 ⟨some 29, none, .load 1 false, [.t 28]⟩,
 ⟨some 30, none, .bin .sub, [.t 29, .c (A.int .i64 1)]⟩,
 ⟨some 31, none, .iaS 1 [A.int .i64 0], [.t 25, .t 30]⟩,
 ⟨some 32, none, .load 1 false, [.t 31]⟩,
 ⟨some 33, none, .mv, [.t 1]⟩,
 ⟨some 34, none, .call 41, [.t 32, .t 33]⟩,
 ⟨some 4, none, .mv, [.t 34]⟩]
def pc_mill_Tape_Next_m : PC := (.seq (.reg [] r_mill_Tape_Next_m_0) (.seq (.seq (.regd [5, 6, 7, 8, 9, 10, 11, 12, 13] r_mill_Tape_Next_m_1) (.cond (.t 14) (.seq (.reg [] r_mill_Tape_Next_m_2) .ret) .skip)) (.seq (.reg [15, 16, 17, 18, 19, 20, 21] r_mill_Tape_Next_m_3) (.seq (.regd [22, 23, 24, 25, 26, 27, 28, 29, 30, 31, 32, 33, 34] r_mill_Tape_Next_m_4) .ret))))
theorem chk_mill_Tape_Next_m : chkF C.P 55 pc_mill_Tape_Next_m 35 [.t 4] 2 = true := by kernel_rfl

@[go_sem] def r_mill_Catalog_m_0 : List POp := [⟨some 2, none, .mv, [.c (A.sl [])]⟩]
@[go_sem] def r_mill_Catalog_m_1 : List POp := [⟨some 3, none, .nilown 4 (Resource.enc Resource.zero), [.c (A.full [])]⟩]
@[go_sem] def r_mill_Catalog_m_2 : List POp := [⟨some 6, none, .bslice 1 [A.str (⟨#[]⟩)], [.c (A.str ⟨#[97]⟩), .c (A.str ⟨#[98]⟩), .c (A.str ⟨#[99]⟩), .c (A.str ⟨#[100]⟩)]⟩,
 ⟨some 4, none, .mv, [.t 6]⟩]
@[go_sem] def r_mill_Catalog_m_3 : List POp := [⟨some 5, none, .mv, [.c (A.int .i64 0)]⟩]
@[go_sem] def r_mill_Catalog_m_4 : List POp := [⟨some 7, none, .mv, [.t 5]⟩,
 ⟨some 8, none, .mv, [.t 4]⟩,
 ⟨some 9, none, .len, [.t 8]⟩,
 ⟨some 10, none, .bin .lss, [.t 7, .t 9]⟩]
@[go_sem] def r_mill_Catalog_m_6 : List POp := [⟨some 13, none, .mv, [.t 3]⟩,
 ⟨some 14, none, .mv, [.t 4]⟩,
 ⟨some 15, none, .mv, [.t 5]⟩,
 ⟨some 16, none, .iaS 1 [A.str (⟨#[]⟩)], [.t 14, .t 15]⟩,
 ⟨some 17, none, .load 1 false, [.t 16]⟩,
 ⟨some 18, none, .mv, [.t 0]⟩,
 ⟨some 19, none, .callm 55, [.t 18, .c (A.int .i64 4)]⟩,
 ⟨some 20, none, .build (Resource.enc Resource.zero) [(0, 1), (1, 1), (2, 1), (3, 1)], [.t 17, .c (A.int .i64 1), .c (A.int .i64 1), .t 19]⟩,
 ⟨some 21, none, .bslice 4 (Resource.enc Resource.zero), [.t 20]⟩,
 ⟨some 22, none, .append 4 40 (Resource.enc Resource.zero), [.t 13, .t 21]⟩,
 ⟨some 3, none, .mv, [.t 22]⟩]
@[go_sem] def r_mill_Catalog_m_5 : List POp := [⟨some 11, none, .mv, [.t 5]⟩,
 ⟨some 12, none, .bin .add, [.t 11, .c (A.int .i64 1)]⟩,
 ⟨some 5, none, .mv, [.t 12]⟩]
@[go_sem] def r_mill_Catalog_m_7 : List POp := [⟨some 23, none, .mv, [.t 3]⟩,
 ⟨some 24, none, .mv, [.t 0]⟩,
 ⟨some 25, none, .callm 55, [.t 24, .c (A.int .i64 8)]⟩,
 ⟨some 26, none, .bin .add, [.c (A.int .i64 1), .t 25]⟩,
 ⟨some 27, none, .mv, [.t 0]⟩,
 ⟨some 28, none, .callm 55, [.t 27, .c (A.int .i64 4)]⟩,
 ⟨some 29, none, .build (Resource.enc Resource.zero) [(0, 1), (1, 1), (2, 1), (3, 1)], [.c (A.str ⟨#[112]⟩), .c (A.int .i64 2), .t 26, .t 28]⟩,
 ⟨some 30, none, .bslice 4 (Resource.enc Resource.zero), [.t 29]⟩,
 ⟨some 31, none, .append 4 40 (Resource.enc Resource.zero), [.t 23, .t 30]⟩,
 ⟨some 3, none, .mv, [.t 31]⟩]
@[go_sem] def r_mill_Catalog_m_8 : List POp := [⟨some 32, none, .mv, [.t 3]⟩,
 ⟨some 33, none, .mv, [.t 0]⟩,
 ⟨some 34, none, .callm 55, [.t 33, .c (A.int .i64 3)]⟩,
 ⟨some 35, none, .bin .add, [.c (A.int .i64 1), .t 34]⟩,
 ⟨some 36, none, .mv, [.t 0]⟩,
 ⟨some 37, none, .callm 55, [.t 36, .c (A.int .i64 4)]⟩,
 ⟨some 38, none, .build (Resource.enc Resource.zero) [(0, 1), (1, 1), (2, 1), (3, 1)], [.c (A.str ⟨#[113]⟩), .c (A.int .i64 2), .t 35, .t 37]⟩,
 ⟨some 39, none, .bslice 4 (Resource.enc Resource.zero), [.t 38]⟩,
 ⟨some 40, none, .append 4 40 (Resource.enc Resource.zero), [.t 32, .t 39]⟩,
 ⟨some 2, none, .mv, [.t 40]⟩]
def pc_mill_Catalog_m : PC := (.seq (.reg [] r_mill_Catalog_m_0) (.seq (.reg [] r_mill_Catalog_m_1) (.seq (.reg [6] r_mill_Catalog_m_2) (.seq (.seq (.reg [] r_mill_Catalog_m_3) (.block 0 (.loop (.seq (.seq (.reg [7, 8, 9] r_mill_Catalog_m_4) (.cond (.t 10) .skip (.exit 0))) (.seq (.block 1 (.regm [13, 14, 15, 16, 17, 18, 19, 20, 21, 22] [[], [], [], [1, 2], [3, 1, 2], [], [5], [4, 6, 3, 1, 2, 5], [7, 4, 6, 3, 1, 2, 5], [0, 8, 6, 7, 4, 6, 3, 1, 2, 5, 5], [9, 9, 0, 1, 2, 3, 4, 5, 6, 7, 8, 9, 0, 8, 6, 7, 4, 6, 3, 1, 2, 5, 5, 0, 8, 6, 7, 4, 6, 3, 1, 2, 5, 5, 1, 2, 3, 1, 2, 5, 4, 6, 3, 1, 2, 5, 7, 4, 6, 3, 1, 2, 5, 0, 8, 6, 7, 4, 6, 3, 1, 2, 5, 5]] r_mill_Catalog_m_6)) (.reg [11, 12] r_mill_Catalog_m_5)))))) (.seq (.reg [23, 24, 25, 26, 27, 28, 29, 30, 31] r_mill_Catalog_m_7) (.seq (.reg [32, 33, 34, 35, 36, 37, 38, 39, 40] r_mill_Catalog_m_8) .ret))))))
theorem chk_mill_Catalog_m : chkF C.P 40 pc_mill_Catalog_m 41 [.t 2] 1 = true := by kernel_rfl

@[go_sem] def r_mill_Resource_0 : List POp := [⟨some 2, none, .alloc 4 (Resource.enc Resource.zero), []⟩]
@[go_sem] def r_mill_Resource_1 : List POp := [⟨some 5, none, .mv, [.t 0]⟩,
 ⟨some 6, none, .mv, [.t 0]⟩,
 ⟨some 7, none, .bin .shr, [.t 6, .c (A.int .u64 2)]⟩,
 ⟨some 8, none, .mv, [.t 0]⟩,
 ⟨some 9, none, .bin .shr, [.t 8, .c (A.int .u64 4)]⟩,
 ⟨some 10, none, .mv, [.t 0]⟩,
 ⟨some 11, none, .bin .shr, [.t 10, .c (A.int .u64 6)]⟩,
 ⟨some 12, none, .mv, [.t 0]⟩,
 ⟨some 13, none, .bin .shr, [.t 12, .c (A.int .u64 8)]⟩,
 ⟨some 14, none, .mv, [.t 0]⟩,
 ⟨some 15, none, .bin .shr, [.t 14, .c (A.int .u64 10)]⟩,
 ⟨some 16, none, .mv, [.t 0]⟩,
 ⟨some 17, none, .bin .shr, [.t 16, .c (A.int .u64 12)]⟩,
 ⟨some 18, none, .mv, [.t 0]⟩,
 ⟨some 19, none, .bin .shr, [.t 18, .c (A.int .u64 14)]⟩,
 ⟨some 20, none, .bslice 1 [A.int .i64 0], [.t 5, .t 7, .t 9, .t 11, .t 13, .t 15, .t 17, .t 19]⟩,
 ⟨some 21, none, .build [A.sl ([].map (eI .i64)), A.int .i64 0] [(0, 1)], [.t 20]⟩,
 ⟨some 22, none, .box 2, [.t 21]⟩,
 ⟨some 3, none, .mv, [.t 22]⟩]
@[go_sem] def r_mill_Resource_2 : List POp := [⟨some 23, none, .mv, [.t 3]⟩,
 ⟨some 24, none, .callm 40, [.t 23]⟩,
 ⟨some 4, none, .mv, [.t 24]⟩]
@[go_sem] def r_mill_Resource_3 : List POp := [⟨some 25, none, .mv, [.t 4]⟩,
 ⟨some 26, none, .mv, [.t 0]⟩,
 ⟨some 27, none, .mv, [.t 4]⟩,
 ⟨some 28, none, .len, [.t 27]⟩,
 ⟨some 29, none, .call 41, [.t 26, .t 28]⟩,
 ⟨some 30, none, .iaS 4 (Resource.enc Resource.zero), [.t 25, .t 29]⟩,
 ⟨some 31, none, .load 4 true, [.t 30]⟩,
 ⟨none, none, .store 4, [.t 2, .t 31]⟩]
def pc_mill_Resource : PC := (.seq (.reg [] r_mill_Resource_0) (.seq (.reg [5, 6, 7, 8, 9, 10, 11, 12, 13, 14, 15, 16, 17, 18, 19, 20, 21, 22] r_mill_Resource_1) (.seq (.reg [23, 24] r_mill_Resource_2) (.seq (.reg [25, 26, 27, 28, 29, 30, 31] r_mill_Resource_3) .ret))))
theorem chk_mill_Resource : chkF C.P 21 pc_mill_Resource 32 [.c 2 4 true] 1 = true := by kernel_rfl

@[go_sem] def r_mill_Proc_0 : List POp := [⟨some 2, none, .alloc 3 (Proc.enc Proc.zero), []⟩]
@[go_sem] def r_mill_Proc_1 : List POp := [⟨some 3, none, .mv, [.t 0]⟩,
 ⟨some 4, none, .call 41, [.t 3, .c (A.int .i64 8)]⟩,
 ⟨some 0, none, .mv, [.t 4]⟩]
@[go_sem] def r_mill_Proc_2 : List POp := [⟨some 5, none, .mv, [.t 0]⟩,
 ⟨some 6, none, .bin .rem, [.t 5, .c (A.int .i64 4)]⟩,
 ⟨some 7, none, .mv, [.t 0]⟩,
 ⟨some 8, none, .bin .quo, [.t 7, .c (A.int .i64 4)]⟩,
 ⟨some 9, none, .bin .add, [.c (A.int .i64 1), .t 8]⟩,
 ⟨some 10, none, .build (Proc.enc Proc.zero) [(0, 1), (1, 1), (2, 1)], [.t 6, .c (A.int .i64 1), .t 9]⟩,
 ⟨none, none, .store 3, [.t 2, .t 10]⟩]
def pc_mill_Proc : PC := (.seq (.reg [] r_mill_Proc_0) (.seq (.reg [3, 4] r_mill_Proc_1) (.seq (.reg [5, 6, 7, 8, 9, 10] r_mill_Proc_2) .ret)))
theorem chk_mill_Proc : chkF C.P 23 pc_mill_Proc 11 [.c 2 3 true] 1 = true := by kernel_rfl

@[go_sem] def r_mill_Mode_0 : List POp := [⟨some 2, none, .mv, [.c (A.int .i64 0)]⟩]
@[go_sem] def r_mill_Mode_1 : List POp := [⟨some 4, none, .bslice 1 [A.int .i64 0], [.c (A.int .i64 5), .c (A.int .i64 5), .c (A.int .i64 3), .c (A.int .i64 4), .c (A.int .i64 2), .c (A.int .i64 1), .c (A.int .i64 3), .c (A.int .i64 5)]⟩,
 ⟨some 3, none, .mv, [.t 4]⟩]
@[go_sem] def r_mill_Mode_2 : List POp := [⟨some 5, none, .mv, [.t 3]⟩,
 ⟨some 6, none, .mv, [.t 0]⟩,
 ⟨some 7, none, .mv, [.t 3]⟩,
 ⟨some 8, none, .len, [.t 7]⟩,
 ⟨some 9, none, .call 41, [.t 6, .t 8]⟩,
 ⟨some 10, none, .iaS 1 [A.int .i64 0], [.t 5, .t 9]⟩,
 ⟨some 11, none, .load 1 false, [.t 10]⟩,
 ⟨some 2, none, .mv, [.t 11]⟩]
def pc_mill_Mode : PC := (.seq (.reg [] r_mill_Mode_0) (.seq (.reg [4] r_mill_Mode_1) (.seq (.reg [5, 6, 7, 8, 9, 10, 11] r_mill_Mode_2) .ret)))
theorem chk_mill_Mode : chkF C.P 42 pc_mill_Mode 12 [.t 2] 1 = true := by kernel_rfl

@[go_sem] def r_mill_Amount_0 : List POp := [⟨some 2, none, .box 4, [.t 0]⟩,
 ⟨some 4, none, .alloc 2 (Amount.enc Amount.zero), []⟩]
@[go_sem] def r_mill_Amount_1 : List POp := [⟨some 5, none, .faddr 1, [.t 2]⟩,
 ⟨some 6, none, .load 1 false, [.t 5]⟩,
 ⟨some 7, none, .bin .eql, [.t 6, .c (A.int .i64 1)]⟩]
@[go_sem] def r_mill_Amount_2 : List POp := [⟨some 8, none, .mv, [.t 1]⟩,
 ⟨some 9, none, .call 42, [.t 8]⟩,
 ⟨some 10, none, .build (Amount.enc Amount.zero) [(0, 1)], [.t 9]⟩,
 ⟨none, none, .store 2, [.t 4, .t 10]⟩]
@[go_sem] def r_mill_Amount_3 : List POp := [⟨some 11, none, .mv, [.t 1]⟩,
 ⟨some 12, none, .faddr 2, [.t 2]⟩,
 ⟨some 13, none, .load 1 false, [.t 12]⟩,
 ⟨some 14, none, .call 41, [.t 11, .t 13]⟩,
 ⟨some 15, none, .bin .add, [.c (A.int .i64 1), .t 14]⟩,
 ⟨some 16, none, .build (Amount.enc Amount.zero) [(1, 1)], [.t 15]⟩,
 ⟨none, none, .store 2, [.t 4, .t 16]⟩]
def pc_mill_Amount : PC := (.seq (.reg [] r_mill_Amount_0) (.seq (.seq (.reg [5, 6] r_mill_Amount_1) (.cond (.t 7) (.seq (.reg [8, 9, 10] r_mill_Amount_2) .ret) .skip)) (.seq (.reg [11, 12, 13, 14, 15, 16] r_mill_Amount_3) .ret)))
theorem chk_mill_Amount : chkF C.P 24 pc_mill_Amount 17 [.c 4 2 true] 2 = true := by kernel_rfl

@[go_sem] def r_law10_made_0 : List POp := [⟨some 2, none, .box 4, [.t 0]⟩,
 ⟨some 4, none, .mv, [.c (A.sl [])]⟩]
@[go_sem] def r_law10_made_1 : List POp := [⟨some 5, none, .mv, [.c (A.sl [])]⟩]
@[go_sem] def r_law10_made_2 : List POp := [⟨some 6, none, .mv, [.c (A.int .i64 0)]⟩]
@[go_sem] def r_law10_made_3 : List POp := [⟨some 9, none, .mv, [.t 6]⟩,
 ⟨some 10, none, .mv, [.t 1]⟩,
 ⟨some 11, none, .len, [.t 10]⟩,
 ⟨some 12, none, .bin .lss, [.t 9, .t 11]⟩]
@[go_sem] def r_law10_made_5 : List POp := [⟨some 15, none, .mv, [.t 1]⟩,
 ⟨some 16, none, .mv, [.t 6]⟩,
 ⟨some 17, none, .iaS 1 [A.int .i64 0], [.t 15, .t 16]⟩,
 ⟨some 18, none, .load 1 false, [.t 17]⟩,
 ⟨some 19, none, .call 23, [.t 18]⟩,
 ⟨some 20, none, .load 4 true, [.t 2]⟩,
 ⟨some 21, none, .mv, [.t 1]⟩,
 ⟨some 22, none, .mv, [.t 6]⟩,
 ⟨some 23, none, .iaS 1 [A.int .i64 0], [.t 21, .t 22]⟩,
 ⟨some 24, none, .load 1 false, [.t 23]⟩,
 ⟨some 25, none, .bin .shr, [.t 24, .c (A.int .u64 3)]⟩,
 ⟨some 26, none, .call 24, [.t 20, .t 25]⟩,
 ⟨some 7, none, .alloc 3 (Proc.enc Proc.zero), []⟩,
 ⟨some 8, none, .alloc 2 (Amount.enc Amount.zero), []⟩,
 ⟨none, none, .store 3, [.t 7, .t 19]⟩,
 ⟨none, none, .store 2, [.t 8, .t 26]⟩]
@[go_sem] def r_law10_made_6 : List POp := [⟨some 27, none, .load 4 true, [.t 2]⟩,
 ⟨some 28, none, .mv, [.t 5]⟩,
 ⟨some 29, none, .load 3 true, [.t 7]⟩,
 ⟨some 30, none, .load 2 true, [.t 8]⟩,
 ⟨some 31, none, .call 16, [.t 27, .t 28, .t 29, .t 30]⟩]
@[go_sem] def r_law10_made_7 : List POp := [⟨some 32, none, .mv, [.t 5]⟩,
 ⟨some 33, none, .load 3 true, [.t 7]⟩,
 ⟨some 34, none, .load 2 true, [.t 8]⟩,
 ⟨some 35, none, .call 14, [.t 32, .t 33, .t 34]⟩,
 ⟨some 5, none, .mv, [.t 35]⟩]
@[go_sem] def r_law10_made_4 : List POp := [⟨some 13, none, .mv, [.t 6]⟩,
 ⟨some 14, none, .bin .add, [.t 13, .c (A.int .i64 1)]⟩,
 ⟨some 6, none, .mv, [.t 14]⟩]
@[go_sem] def r_law10_made_8 : List POp := [⟨some 36, none, .mv, [.t 5]⟩,
 ⟨some 4, none, .mv, [.t 36]⟩]
def pc_law10_made : PC := (.seq (.reg [] r_law10_made_0) (.seq (.reg [] r_law10_made_1) (.seq (.seq (.reg [] r_law10_made_2) (.block 0 (.loop (.seq (.seq (.reg [9, 10, 11] r_law10_made_3) (.cond (.t 12) .skip (.exit 0))) (.seq (.block 1 (.seq (.regm [15, 16, 17, 18, 19, 20, 21, 22, 23, 24, 25, 26] [[], [], [0, 1], [2, 0, 1], [3, 2, 0, 1], [], [], [], [6, 7], [8, 6, 7], [9, 8, 6, 7], [5, 10, 4, 9, 8, 6, 7, 3, 2, 0, 1], [], [], [12, 4, 11, 0, 1, 2, 3, 4, 12, 13, 3, 2, 0, 1, 5, 10, 4, 9, 8, 6, 7, 3, 2, 0, 1, 0, 1, 2, 0, 1, 3, 2, 0, 1], [13, 11, 14, 0, 1, 2, 3, 4, 5, 6, 7, 8, 9, 10, 11, 12, 13, 14, 5, 10, 4, 9, 8, 6, 7, 3, 2, 0, 1, 12, 4, 11, 0, 1, 2, 3, 4, 12, 13, 3, 2, 0, 1, 5, 10, 4, 9, 8, 6, 7, 3, 2, 0, 1, 0, 1, 2, 0, 1, 3, 2, 0, 1, 0, 1, 2, 0, 1, 3, 2, 0, 1, 6, 7, 8, 6, 7, 9, 8, 6, 7, 5, 10, 4, 9, 8, 6, 7, 3, 2, 0, 1, 12, 4, 11, 0, 1, 2, 3, 4, 12, 13, 3, 2, 0, 1, 5, 10, 4, 9, 8, 6, 7, 3, 2, 0, 1, 0, 1, 2, 0, 1, 3, 2, 0, 1]] r_law10_made_5) (.seq (.reg [27, 28, 29, 30] r_law10_made_6) (.cond (.t 31) (.reg [32, 33, 34, 35] r_law10_made_7) .skip)))) (.reg [13, 14] r_law10_made_4)))))) (.seq (.reg [36] r_law10_made_8) .ret))))
theorem chk_law10_made : chkF C.P 22 pc_law10_made 37 [.t 4] 2 = true := by kernel_rfl

@[go_sem] def r_law10_HoldersYield_0 : List POp := [⟨some 8, none, .mv, [.c (A.bool false)]⟩]
@[go_sem] def r_law10_HoldersYield_1 : List POp := [⟨some 16, none, .mv, [.t 1]⟩,
 ⟨some 17, none, .call 20, [.t 16]⟩,
 ⟨some 18, none, .not, [.t 17]⟩]
@[go_sem] def r_law10_HoldersYield_2 : List POp := [⟨some 19, none, .call 11, []⟩,
 ⟨some 8, none, .mv, [.t 19]⟩]
@[go_sem] def r_law10_HoldersYield_3 : List POp := [⟨some 20, none, .mv, [.t 0]⟩,
 ⟨some 21, none, .call 21, [.t 20]⟩,
 ⟨some 9, none, .alloc 4 (Resource.enc Resource.zero), []⟩,
 ⟨none, none, .store 4, [.t 9, .t 21]⟩]
@[go_sem] def r_law10_HoldersYield_4 : List POp := [⟨some 22, none, .load 4 true, [.t 9]⟩,
 ⟨some 23, none, .mv, [.t 1]⟩,
 ⟨some 24, none, .call 22, [.t 22, .t 23]⟩,
 ⟨some 10, none, .mv, [.t 24]⟩]
@[go_sem] def r_law10_HoldersYield_5 : List POp := [⟨some 25, none, .mv, [.t 2]⟩,
 ⟨some 26, none, .call 23, [.t 25]⟩,
 ⟨some 27, none, .load 4 true, [.t 9]⟩,
 ⟨some 28, none, .mv, [.t 3]⟩,
 ⟨some 29, none, .call 24, [.t 27, .t 28]⟩,
 ⟨some 11, none, .alloc 3 (Proc.enc Proc.zero), []⟩,
 ⟨some 12, none, .alloc 2 (Amount.enc Amount.zero), []⟩,
 ⟨none, none, .store 3, [.t 11, .t 26]⟩,
 ⟨none, none, .store 2, [.t 12, .t 29]⟩]
@[go_sem] def r_law10_HoldersYield_6 : List POp := [⟨some 30, none, .load 4 true, [.t 9]⟩,
 ⟨some 31, none, .mv, [.t 10]⟩,
 ⟨some 32, none, .load 3 true, [.t 11]⟩,
 ⟨some 33, none, .load 2 true, [.t 12]⟩,
 ⟨some 34, none, .call 18, [.t 30, .t 31, .t 32, .t 33]⟩,
 ⟨some 13, none, .mv, [.t 34]⟩]
@[go_sem] def r_law10_HoldersYield_7 : List POp := [⟨some 35, none, .mv, [.t 10]⟩,
 ⟨some 14, none, .mv, [.t 35]⟩]
@[go_sem] def r_law10_HoldersYield_8 : List POp := [⟨some 15, none, .mv, [.c (A.int .i64 0)]⟩]
@[go_sem] def r_law10_HoldersYield_9 : List POp := [⟨some 36, none, .mv, [.t 15]⟩,
 ⟨some 37, none, .mv, [.t 13]⟩,
 ⟨some 38, none, .len, [.t 37]⟩,
 ⟨some 39, none, .bin .lss, [.t 36, .t 38]⟩]
@[go_sem] def r_law10_HoldersYield_11 : List POp := [⟨some 42, none, .mv, [.t 14]⟩,
 ⟨some 43, none, .mv, [.t 13]⟩,
 ⟨some 44, none, .mv, [.t 15]⟩,
 ⟨some 45, none, .iaS 3 (Proc.enc Proc.zero), [.t 43, .t 44]⟩,
 ⟨some 46, none, .load 3 true, [.t 45]⟩,
 ⟨some 47, none, .build (Amount.enc Amount.zero) [], []⟩,
 ⟨some 48, none, .call 14, [.t 42, .t 46, .t 47]⟩,
 ⟨some 14, none, .mv, [.t 48]⟩]
@[go_sem] def r_law10_HoldersYield_10 : List POp := [⟨some 40, none, .mv, [.t 15]⟩,
 ⟨some 41, none, .bin .add, [.t 40, .c (A.int .i64 1)]⟩,
 ⟨some 15, none, .mv, [.t 41]⟩]
@[go_sem] def r_law10_HoldersYield_12 : List POp := [⟨some 49, none, .call 11, []⟩,
 ⟨some 50, none, .mv, [.t 49]⟩,
 ⟨some 51, some (50, true), .load 4 true, [.t 9]⟩,
 ⟨some 52, some (50, true), .mv, [.t 10]⟩,
 ⟨some 53, some (50, true), .load 3 true, [.t 11]⟩,
 ⟨some 54, some (50, true), .load 2 true, [.t 12]⟩,
 ⟨some 55, some (50, true), .call 15, [.t 51, .t 52, .t 53, .t 54]⟩,
 ⟨some 56, some (50, true), .mv, [.t 13]⟩,
 ⟨some 57, some (50, true), .len, [.t 56]⟩,
 ⟨some 58, some (50, true), .bin .eql, [.t 57, .c (A.int .i64 0)]⟩,
 ⟨some 59, some (50, true), .eqb false, [.t 55, .t 58]⟩,
 ⟨some 60, none, .pick, [.t 50, .t 59, .c (A.bool false)]⟩,
 ⟨some 61, none, .mv, [.t 60]⟩,
 ⟨some 62, some (61, true), .load 4 true, [.t 9]⟩,
 ⟨some 63, some (61, true), .mv, [.t 14]⟩,
 ⟨some 64, some (61, true), .load 3 true, [.t 11]⟩,
 ⟨some 65, some (61, true), .load 2 true, [.t 12]⟩,
 ⟨some 66, some (61, true), .call 15, [.t 62, .t 63, .t 64, .t 65]⟩,
 ⟨some 67, none, .pick, [.t 61, .t 66, .c (A.bool false)]⟩,
 ⟨some 8, none, .mv, [.t 67]⟩]
def pc_law10_HoldersYield : PC := (.seq (.reg [] r_law10_HoldersYield_0) (.seq (.seq (.reg [16, 17] r_law10_HoldersYield_1) (.cond (.t 18) (.seq (.reg [19] r_law10_HoldersYield_2) .ret) .skip)) (.seq (.reg [20, 21] r_law10_HoldersYield_3) (.seq (.reg [22, 23, 24] r_law10_HoldersYield_4) (.seq (.regm [25, 26, 27, 28, 29] [[], [0], [], [], [2, 3, 1, 0], [], [], [5, 1, 4, 0, 1, 5, 6, 0, 2, 3, 1, 0, 0], [6, 4, 7, 0, 1, 2, 3, 4, 5, 6, 7, 2, 3, 1, 0, 5, 1, 4, 0, 1, 5, 6, 0, 2, 3, 1, 0, 0, 0, 2, 3, 1, 0, 5, 1, 4, 0, 1, 5, 6, 0, 2, 3, 1, 0, 0]] r_law10_HoldersYield_5) (.seq (.reg [30, 31, 32, 33, 34] r_law10_HoldersYield_6) (.seq (.reg [35] r_law10_HoldersYield_7) (.seq (.seq (.reg [] r_law10_HoldersYield_8) (.block 0 (.loop (.seq (.seq (.reg [36, 37, 38] r_law10_HoldersYield_9) (.cond (.t 39) .skip (.exit 0))) (.seq (.block 1 (.reg [42, 43, 44, 45, 46, 47, 48] r_law10_HoldersYield_11)) (.reg [40, 41] r_law10_HoldersYield_10)))))) (.seq (.reg [49, 50, 51, 52, 53, 54, 55, 56, 57, 58, 59, 60, 61, 62, 63, 64, 65, 66, 67] r_law10_HoldersYield_12) .ret)))))))))
theorem chk_law10_HoldersYield : chkF C.P 6 pc_law10_HoldersYield 68 [.t 8] 4 = true := by kernel_rfl

@[go_sem] def r_law10_HoldersShrinks_0 : List POp := [⟨some 10, none, .mv, [.c (A.bool false)]⟩]
@[go_sem] def r_law10_HoldersShrinks_1 : List POp := [⟨some 16, none, .mv, [.t 1]⟩,
 ⟨some 17, none, .call 20, [.t 16]⟩,
 ⟨some 18, none, .not, [.t 17]⟩]
@[go_sem] def r_law10_HoldersShrinks_2 : List POp := [⟨some 19, none, .call 11, []⟩,
 ⟨some 10, none, .mv, [.t 19]⟩]
@[go_sem] def r_law10_HoldersShrinks_3 : List POp := [⟨some 20, none, .mv, [.t 0]⟩,
 ⟨some 21, none, .call 21, [.t 20]⟩,
 ⟨some 11, none, .alloc 4 (Resource.enc Resource.zero), []⟩,
 ⟨none, none, .store 4, [.t 11, .t 21]⟩]
@[go_sem] def r_law10_HoldersShrinks_4 : List POp := [⟨some 22, none, .load 4 true, [.t 11]⟩,
 ⟨some 23, none, .mv, [.t 1]⟩,
 ⟨some 24, none, .call 22, [.t 22, .t 23]⟩,
 ⟨some 12, none, .mv, [.t 24]⟩]
@[go_sem] def r_law10_HoldersShrinks_5 : List POp := [⟨some 25, none, .mv, [.t 12]⟩,
 ⟨some 26, none, .mv, [.t 2]⟩,
 ⟨some 27, none, .call 23, [.t 26]⟩,
 ⟨some 28, none, .build (Amount.enc Amount.zero) [], []⟩,
 ⟨some 29, none, .call 13, [.t 25, .t 27, .t 28]⟩,
 ⟨some 13, none, .mv, [.t 29]⟩]
@[go_sem] def r_law10_HoldersShrinks_6 : List POp := [⟨some 30, none, .mv, [.t 3]⟩,
 ⟨some 31, none, .call 23, [.t 30]⟩,
 ⟨some 32, none, .load 4 true, [.t 11]⟩,
 ⟨some 33, none, .mv, [.t 4]⟩,
 ⟨some 34, none, .call 24, [.t 32, .t 33]⟩,
 ⟨some 14, none, .alloc 3 (Proc.enc Proc.zero), []⟩,
 ⟨some 15, none, .alloc 2 (Amount.enc Amount.zero), []⟩,
 ⟨none, none, .store 3, [.t 14, .t 31]⟩,
 ⟨none, none, .store 2, [.t 15, .t 34]⟩]
@[go_sem] def r_law10_HoldersShrinks_7 : List POp := [⟨some 35, none, .mv, [.t 2]⟩,
 ⟨some 36, none, .call 23, [.t 35]⟩,
 ⟨some 37, none, .load 3 true, [.t 14]⟩,
 ⟨some 38, none, .eqa false [.i .i64, .i .i64, .i .i64], [.t 36, .t 37]⟩]
@[go_sem] def r_law10_HoldersShrinks_8 : List POp := [⟨some 39, none, .call 11, []⟩,
 ⟨some 40, none, .mv, [.t 39]⟩,
 ⟨some 41, some (40, true), .load 4 true, [.t 11]⟩,
 ⟨some 42, some (40, true), .mv, [.t 13]⟩,
 ⟨some 43, some (40, true), .call 25, [.t 41, .t 42]⟩,
 ⟨some 44, none, .pick, [.t 40, .t 43, .c (A.bool false)]⟩,
 ⟨some 10, none, .mv, [.t 44]⟩]
@[go_sem] def r_law10_HoldersShrinks_9 : List POp := [⟨some 45, none, .call 11, []⟩,
 ⟨some 46, none, .mv, [.t 45]⟩,
 ⟨some 47, some (46, true), .load 4 true, [.t 11]⟩,
 ⟨some 48, some (46, true), .mv, [.t 12]⟩,
 ⟨some 49, some (46, true), .call 25, [.t 47, .t 48]⟩,
 ⟨some 50, none, .pick, [.t 46, .t 49, .c (A.bool false)]⟩,
 ⟨some 51, none, .mv, [.t 50]⟩,
 ⟨some 52, some (51, true), .load 4 true, [.t 11]⟩,
 ⟨some 53, some (51, true), .mv, [.t 13]⟩,
 ⟨some 54, some (51, true), .call 25, [.t 52, .t 53]⟩,
 ⟨some 55, none, .pick, [.t 51, .t 54, .c (A.bool false)]⟩,
 ⟨some 56, none, .mv, [.t 55]⟩,
 ⟨some 57, some (56, true), .load 4 true, [.t 11]⟩,
 ⟨some 58, some (56, true), .mv, [.t 12]⟩,
 ⟨some 59, some (56, true), .load 3 true, [.t 14]⟩,
 ⟨some 60, some (56, true), .load 2 true, [.t 15]⟩,
 ⟨some 61, some (56, true), .call 15, [.t 57, .t 58, .t 59, .t 60]⟩,
 ⟨some 62, some (56, true), .not, [.t 61]⟩,
 ⟨some 63, some (56, true), .mv, [.t 62]⟩,
 ⟨some 64, some (63, false), .load 4 true, [.t 11]⟩,
 ⟨some 65, some (63, false), .mv, [.t 13]⟩,
 ⟨some 66, some (63, false), .load 3 true, [.t 14]⟩,
 ⟨some 67, some (63, false), .load 2 true, [.t 15]⟩,
 ⟨some 68, some (63, false), .call 15, [.t 64, .t 65, .t 66, .t 67]⟩,
 ⟨some 69, some (56, true), .pick, [.t 63, .c (A.bool true), .t 68]⟩,
 ⟨some 70, none, .pick, [.t 56, .t 69, .c (A.bool false)]⟩,
 ⟨some 10, none, .mv, [.t 70]⟩]
def pc_law10_HoldersShrinks : PC := (.seq (.reg [] r_law10_HoldersShrinks_0) (.seq (.seq (.reg [16, 17] r_law10_HoldersShrinks_1) (.cond (.t 18) (.seq (.reg [19] r_law10_HoldersShrinks_2) .ret) .skip)) (.seq (.reg [20, 21] r_law10_HoldersShrinks_3) (.seq (.reg [22, 23, 24] r_law10_HoldersShrinks_4) (.seq (.reg [25, 26, 27, 28, 29] r_law10_HoldersShrinks_5) (.seq (.regm [30, 31, 32, 33, 34] [[], [0], [], [], [2, 3, 1, 0], [], [], [5, 1, 4, 0, 1, 5, 6, 0, 2, 3, 1, 0, 0], [6, 4, 7, 0, 1, 2, 3, 4, 5, 6, 7, 2, 3, 1, 0, 5, 1, 4, 0, 1, 5, 6, 0, 2, 3, 1, 0, 0, 0, 2, 3, 1, 0, 5, 1, 4, 0, 1, 5, 6, 0, 2, 3, 1, 0, 0]] r_law10_HoldersShrinks_6) (.seq (.seq (.regd [35, 36, 37] r_law10_HoldersShrinks_7) (.cond (.t 38) (.seq (.reg [39, 40, 41, 42, 43, 44] r_law10_HoldersShrinks_8) .ret) .skip)) (.seq (.reg [45, 46, 47, 48, 49, 50, 51, 52, 53, 54, 55, 56, 57, 58, 59, 60, 61, 62, 63, 64, 65, 66, 67, 68, 69, 70] r_law10_HoldersShrinks_9) .ret))))))))
theorem chk_law10_HoldersShrinks : chkF C.P 7 pc_law10_HoldersShrinks 71 [.t 10] 5 = true := by kernel_rfl

@[go_sem] def r_law10_HoldersGrow_0 : List POp := [⟨some 4, none, .mv, [.c (A.bool false)]⟩]
@[go_sem] def r_law10_HoldersGrow_1 : List POp := [⟨some 10, none, .mv, [.t 1]⟩,
 ⟨some 11, none, .call 20, [.t 10]⟩,
 ⟨some 12, none, .not, [.t 11]⟩]
@[go_sem] def r_law10_HoldersGrow_2 : List POp := [⟨some 13, none, .call 11, []⟩,
 ⟨some 4, none, .mv, [.t 13]⟩]
@[go_sem] def r_law10_HoldersGrow_3 : List POp := [⟨some 14, none, .mv, [.t 0]⟩,
 ⟨some 15, none, .call 21, [.t 14]⟩,
 ⟨some 5, none, .alloc 4 (Resource.enc Resource.zero), []⟩,
 ⟨none, none, .store 4, [.t 5, .t 15]⟩]
@[go_sem] def r_law10_HoldersGrow_4 : List POp := [⟨some 6, none, .mv, [.c (A.sl [])]⟩]
@[go_sem] def r_law10_HoldersGrow_5 : List POp := [⟨some 7, none, .mv, [.c (A.int .i64 0)]⟩]
@[go_sem] def r_law10_HoldersGrow_6 : List POp := [⟨some 16, none, .mv, [.t 7]⟩,
 ⟨some 17, none, .mv, [.t 1]⟩,
 ⟨some 18, none, .len, [.t 17]⟩,
 ⟨some 19, none, .bin .lss, [.t 16, .t 18]⟩]
@[go_sem] def r_law10_HoldersGrow_8 : List POp := [⟨some 22, none, .mv, [.t 1]⟩,
 ⟨some 23, none, .mv, [.t 7]⟩,
 ⟨some 24, none, .iaS 1 [A.int .i64 0], [.t 22, .t 23]⟩,
 ⟨some 25, none, .load 1 false, [.t 24]⟩,
 ⟨some 26, none, .call 23, [.t 25]⟩,
 ⟨some 27, none, .load 4 true, [.t 5]⟩,
 ⟨some 28, none, .mv, [.t 1]⟩,
 ⟨some 29, none, .mv, [.t 7]⟩,
 ⟨some 30, none, .iaS 1 [A.int .i64 0], [.t 28, .t 29]⟩,
 ⟨some 31, none, .load 1 false, [.t 30]⟩,
 ⟨some 32, none, .bin .shr, [.t 31, .c (A.int .u64 3)]⟩,
 ⟨some 33, none, .call 24, [.t 27, .t 32]⟩,
 ⟨some 8, none, .alloc 3 (Proc.enc Proc.zero), []⟩,
 ⟨some 9, none, .alloc 2 (Amount.enc Amount.zero), []⟩,
 ⟨none, none, .store 3, [.t 8, .t 26]⟩,
 ⟨none, none, .store 2, [.t 9, .t 33]⟩]
@[go_sem] def r_law10_HoldersGrow_9 : List POp := [⟨some 34, none, .load 4 true, [.t 5]⟩,
 ⟨some 35, none, .mv, [.t 6]⟩,
 ⟨some 36, none, .load 3 true, [.t 8]⟩,
 ⟨some 37, none, .load 2 true, [.t 9]⟩,
 ⟨some 38, none, .call 15, [.t 34, .t 35, .t 36, .t 37]⟩]
@[go_sem] def r_law10_HoldersGrow_10 : List POp := [⟨some 39, none, .mv, [.t 6]⟩,
 ⟨some 40, none, .load 3 true, [.t 8]⟩,
 ⟨some 41, none, .load 2 true, [.t 9]⟩,
 ⟨some 42, none, .call 13, [.t 39, .t 40, .t 41]⟩,
 ⟨some 6, none, .mv, [.t 42]⟩]
@[go_sem] def r_law10_HoldersGrow_11 : List POp := [⟨some 43, none, .load 4 true, [.t 5]⟩,
 ⟨some 44, none, .mv, [.t 6]⟩,
 ⟨some 45, none, .call 26, [.t 43, .t 44]⟩,
 ⟨some 46, none, .not, [.t 45]⟩]
@[go_sem] def r_law10_HoldersGrow_12 : List POp := [⟨some 4, none, .mv, [.c (A.bool false)]⟩]
@[go_sem] def r_law10_HoldersGrow_7 : List POp := [⟨some 20, none, .mv, [.t 7]⟩,
 ⟨some 21, none, .bin .add, [.t 20, .c (A.int .i64 1)]⟩,
 ⟨some 7, none, .mv, [.t 21]⟩]
@[go_sem] def r_law10_HoldersGrow_13 : List POp := [⟨some 47, none, .call 11, []⟩,
 ⟨some 48, none, .mv, [.t 47]⟩,
 ⟨some 49, some (48, true), .mv, [.t 6]⟩,
 ⟨some 50, some (48, true), .load 4 true, [.t 5]⟩,
 ⟨some 51, some (48, true), .mv, [.t 1]⟩,
 ⟨some 52, some (48, true), .call 22, [.t 50, .t 51]⟩,
 ⟨some 53, some (48, true), .call 12, [.t 49, .t 52]⟩,
 ⟨some 54, none, .pick, [.t 48, .t 53, .c (A.bool false)]⟩,
 ⟨some 4, none, .mv, [.t 54]⟩]
def pc_law10_HoldersGrow : PC := (.seq (.reg [] r_law10_HoldersGrow_0) (.seq (.seq (.reg [10, 11] r_law10_HoldersGrow_1) (.cond (.t 12) (.seq (.reg [13] r_law10_HoldersGrow_2) .ret) .skip)) (.seq (.reg [14, 15] r_law10_HoldersGrow_3) (.seq (.reg [] r_law10_HoldersGrow_4) (.seq (.seq (.reg [] r_law10_HoldersGrow_5) (.block 0 (.loop (.seq (.seq (.reg [16, 17, 18] r_law10_HoldersGrow_6) (.cond (.t 19) .skip (.exit 0))) (.seq (.block 1 (.seq (.regm [22, 23, 24, 25, 26, 27, 28, 29, 30, 31, 32, 33] [[], [], [0, 1], [2, 0, 1], [3, 2, 0, 1], [], [], [], [6, 7], [8, 6, 7], [9, 8, 6, 7], [5, 10, 4, 9, 8, 6, 7, 3, 2, 0, 1], [], [], [12, 4, 11, 0, 1, 2, 3, 4, 12, 13, 3, 2, 0, 1, 5, 10, 4, 9, 8, 6, 7, 3, 2, 0, 1, 0, 1, 2, 0, 1, 3, 2, 0, 1], [13, 11, 14, 0, 1, 2, 3, 4, 5, 6, 7, 8, 9, 10, 11, 12, 13, 14, 5, 10, 4, 9, 8, 6, 7, 3, 2, 0, 1, 12, 4, 11, 0, 1, 2, 3, 4, 12, 13, 3, 2, 0, 1, 5, 10, 4, 9, 8, 6, 7, 3, 2, 0, 1, 0, 1, 2, 0, 1, 3, 2, 0, 1, 0, 1, 2, 0, 1, 3, 2, 0, 1, 6, 7, 8, 6, 7, 9, 8, 6, 7, 5, 10, 4, 9, 8, 6, 7, 3, 2, 0, 1, 12, 4, 11, 0, 1, 2, 3, 4, 12, 13, 3, 2, 0, 1, 5, 10, 4, 9, 8, 6, 7, 3, 2, 0, 1, 0, 1, 2, 0, 1, 3, 2, 0, 1]] r_law10_HoldersGrow_8) (.seq (.seq (.reg [34, 35, 36, 37] r_law10_HoldersGrow_9) (.cond (.t 38) (.reg [39, 40, 41, 42] r_law10_HoldersGrow_10) .skip)) (.seq (.reg [43, 44, 45] r_law10_HoldersGrow_11) (.cond (.t 46) (.seq (.reg [] r_law10_HoldersGrow_12) .ret) .skip))))) (.reg [20, 21] r_law10_HoldersGrow_7)))))) (.seq (.reg [47, 48, 49, 50, 51, 52, 53, 54] r_law10_HoldersGrow_13) .ret))))))
theorem chk_law10_HoldersGrow : chkF C.P 8 pc_law10_HoldersGrow 55 [.t 4] 2 = true := by kernel_rfl

@[go_sem] def r_holders_Get_0 : List POp := [⟨some 3, none, .box 3, [.t 1]⟩,
 ⟨some 4, none, .alloc 2 (Amount.enc Amount.zero), []⟩]
@[go_sem] def r_holders_Get_1 : List POp := [⟨some 7, none, .mv, [.t 0]⟩,
 ⟨some 8, none, .len, [.t 7]⟩,
 ⟨some 9, none, .mv, [.c (A.int .i64 0)]⟩]
@[go_sem] def r_holders_Get_2 : List POp := [⟨some 10, none, .bin .lss, [.t 9, .t 8]⟩]
@[go_sem] def r_holders_Get_3 : List POp := [⟨some 11, none, .iaS 5 (Hold.enc Hold.zero), [.t 7, .t 9]⟩,
 ⟨some 12, none, .load 5 true, [.t 11]⟩,
 ⟨some 6, none, .alloc 5 (Hold.enc Hold.zero), []⟩,
 ⟨none, none, .store 5, [.t 6, .t 12]⟩]
@[go_sem] def r_holders_Get_4 : List POp := [⟨some 13, none, .faddr 0, [.t 6]⟩,
 ⟨some 14, none, .load 3 true, [.t 13]⟩,
 ⟨some 15, none, .load 3 true, [.t 3]⟩,
 ⟨some 16, none, .eqa false [.i .i64, .i .i64, .i .i64], [.t 14, .t 15]⟩]
@[go_sem] def r_holders_Get_5 : List POp := [⟨some 17, none, .faddr 3, [.t 6]⟩,
 ⟨some 18, none, .load 2 true, [.t 17]⟩,
 ⟨none, none, .store 2, [.t 4, .t 18]⟩]
@[go_sem] def r_holders_Get_6 : List POp := [⟨some 19, none, .bin .add, [.t 9, .c (A.int .i64 1)]⟩,
 ⟨some 9, none, .mv, [.t 19]⟩]
@[go_sem] def r_holders_Get_7 : List POp := [⟨some 20, none, .build (Amount.enc Amount.zero) [], []⟩,
 ⟨none, none, .store 2, [.t 4, .t 20]⟩]
def pc_holders_Get : PC := (.seq (.reg [] r_holders_Get_0) (.seq (.seq (.reg [] r_holders_Get_1) (.block 0 (.loop (.seq (.reg [] r_holders_Get_2) (.seq (.cond (.t 10) .skip (.exit 0)) (.seq (.block 1 (.seq (.reg [11, 12] r_holders_Get_3) (.seq (.reg [13, 14, 15] r_holders_Get_4) (.cond (.t 16) (.seq (.reg [17, 18] r_holders_Get_5) .ret) .skip)))) (.reg [19] r_holders_Get_6))))))) (.seq (.reg [20] r_holders_Get_7) .ret)))
theorem chk_holders_Get : chkF C.P 27 pc_holders_Get 21 [.c 4 2 true] 2 = true := by kernel_rfl

@[go_sem] def r_ref10_Get_0 : List POp := [⟨some 3, none, .box 3, [.t 1]⟩,
 ⟨some 4, none, .alloc 2 (Amount.enc Amount.zero), []⟩]
@[go_sem] def r_ref10_Get_1 : List POp := [⟨some 5, none, .mv, [.c (A.int .i64 0)]⟩]
@[go_sem] def r_ref10_Get_2 : List POp := [⟨some 6, none, .mv, [.t 5]⟩,
 ⟨some 7, none, .mv, [.t 0]⟩,
 ⟨some 8, none, .len, [.t 7]⟩,
 ⟨some 9, none, .bin .lss, [.t 6, .t 8]⟩]
@[go_sem] def r_ref10_Get_4 : List POp := [⟨some 12, none, .mv, [.t 0]⟩,
 ⟨some 13, none, .mv, [.t 5]⟩,
 ⟨some 14, none, .iaS 5 (Hold.enc Hold.zero), [.t 12, .t 13]⟩,
 ⟨some 15, none, .faddr 0, [.t 14]⟩,
 ⟨some 16, none, .load 3 true, [.t 15]⟩,
 ⟨some 17, none, .load 3 true, [.t 3]⟩,
 ⟨some 18, none, .eqa false [.i .i64, .i .i64, .i .i64], [.t 16, .t 17]⟩]
@[go_sem] def r_ref10_Get_5 : List POp := [⟨some 19, none, .mv, [.t 0]⟩,
 ⟨some 20, none, .mv, [.t 5]⟩,
 ⟨some 21, none, .iaS 5 (Hold.enc Hold.zero), [.t 19, .t 20]⟩,
 ⟨some 22, none, .faddr 3, [.t 21]⟩,
 ⟨some 23, none, .load 2 true, [.t 22]⟩,
 ⟨none, none, .store 2, [.t 4, .t 23]⟩]
@[go_sem] def r_ref10_Get_3 : List POp := [⟨some 10, none, .mv, [.t 5]⟩,
 ⟨some 11, none, .bin .add, [.t 10, .c (A.int .i64 1)]⟩,
 ⟨some 5, none, .mv, [.t 11]⟩]
@[go_sem] def r_ref10_Get_6 : List POp := [⟨some 24, none, .build (Amount.enc Amount.zero) [], []⟩,
 ⟨none, none, .store 2, [.t 4, .t 24]⟩]
def pc_ref10_Get : PC := (.seq (.reg [] r_ref10_Get_0) (.seq (.seq (.reg [] r_ref10_Get_1) (.block 0 (.loop (.seq (.seq (.reg [6, 7, 8] r_ref10_Get_2) (.cond (.t 9) .skip (.exit 0))) (.seq (.block 1 (.seq (.regd [12, 13, 14, 15, 16, 17] r_ref10_Get_4) (.cond (.t 18) (.seq (.reg [19, 20, 21, 22, 23] r_ref10_Get_5) .ret) .skip))) (.reg [10, 11] r_ref10_Get_3)))))) (.seq (.reg [24] r_ref10_Get_6) .ret)))
theorem chk_ref10_Get : chkF C.P 29 pc_ref10_Get 25 [.c 4 2 true] 2 = true := by kernel_rfl

@[go_sem] def r_law10_HoldersGets_0 : List POp := [⟨some 10, none, .mv, [.c (A.bool false)]⟩]
@[go_sem] def r_law10_HoldersGets_1 : List POp := [⟨some 18, none, .mv, [.t 1]⟩,
 ⟨some 19, none, .call 20, [.t 18]⟩,
 ⟨some 20, none, .not, [.t 19]⟩]
@[go_sem] def r_law10_HoldersGets_2 : List POp := [⟨some 21, none, .call 11, []⟩,
 ⟨some 10, none, .mv, [.t 21]⟩]
@[go_sem] def r_law10_HoldersGets_3 : List POp := [⟨some 22, none, .mv, [.t 0]⟩,
 ⟨some 23, none, .call 21, [.t 22]⟩,
 ⟨some 11, none, .alloc 4 (Resource.enc Resource.zero), []⟩,
 ⟨none, none, .store 4, [.t 11, .t 23]⟩]
@[go_sem] def r_law10_HoldersGets_4 : List POp := [⟨some 24, none, .load 4 true, [.t 11]⟩,
 ⟨some 25, none, .mv, [.t 1]⟩,
 ⟨some 26, none, .call 22, [.t 24, .t 25]⟩,
 ⟨some 12, none, .mv, [.t 26]⟩]
@[go_sem] def r_law10_HoldersGets_5 : List POp := [⟨some 27, none, .mv, [.t 2]⟩,
 ⟨some 28, none, .call 23, [.t 27]⟩,
 ⟨some 29, none, .mv, [.t 4]⟩,
 ⟨some 30, none, .call 23, [.t 29]⟩,
 ⟨some 13, none, .alloc 3 (Proc.enc Proc.zero), []⟩,
 ⟨some 14, none, .alloc 3 (Proc.enc Proc.zero), []⟩,
 ⟨none, none, .store 3, [.t 13, .t 28]⟩,
 ⟨none, none, .store 3, [.t 14, .t 30]⟩]
@[go_sem] def r_law10_HoldersGets_6 : List POp := [⟨some 31, none, .load 4 true, [.t 11]⟩,
 ⟨some 32, none, .mv, [.t 3]⟩,
 ⟨some 33, none, .call 24, [.t 31, .t 32]⟩,
 ⟨some 15, none, .alloc 2 (Amount.enc Amount.zero), []⟩,
 ⟨none, none, .store 2, [.t 15, .t 33]⟩]
@[go_sem] def r_law10_HoldersGets_7 : List POp := [⟨some 34, none, .mv, [.t 12]⟩,
 ⟨some 35, none, .load 3 true, [.t 13]⟩,
 ⟨some 36, none, .load 2 true, [.t 15]⟩,
 ⟨some 37, none, .call 13, [.t 34, .t 35, .t 36]⟩,
 ⟨some 16, none, .mv, [.t 37]⟩]
@[go_sem] def r_law10_HoldersGets_8 : List POp := [⟨some 38, none, .mv, [.t 16]⟩,
 ⟨some 39, none, .load 3 true, [.t 13]⟩,
 ⟨some 40, none, .build (Amount.enc Amount.zero) [], []⟩,
 ⟨some 41, none, .call 13, [.t 38, .t 39, .t 40]⟩,
 ⟨some 17, none, .mv, [.t 41]⟩]
@[go_sem] def r_law10_HoldersGets_9 : List POp := [⟨some 42, none, .call 11, []⟩,
 ⟨some 43, none, .mv, [.t 42]⟩,
 ⟨some 44, some (43, true), .mv, [.t 16]⟩,
 ⟨some 45, some (43, true), .load 3 true, [.t 13]⟩,
 ⟨some 46, some (43, true), .call 27, [.t 44, .t 45]⟩,
 ⟨some 47, some (43, true), .load 2 true, [.t 15]⟩,
 ⟨some 48, some (43, true), .eqa false [.i .i64, .i .i64], [.t 46, .t 47]⟩,
 ⟨some 49, none, .pick, [.t 43, .t 48, .c (A.bool false)]⟩,
 ⟨some 50, none, .mv, [.t 49]⟩,
 ⟨some 51, some (50, true), .mv, [.t 17]⟩,
 ⟨some 52, some (50, true), .load 3 true, [.t 13]⟩,
 ⟨some 53, some (50, true), .call 27, [.t 51, .t 52]⟩,
 ⟨some 54, some (50, true), .call 28, [.t 53]⟩,
 ⟨some 55, none, .pick, [.t 50, .t 54, .c (A.bool false)]⟩,
 ⟨some 56, none, .mv, [.t 55]⟩,
 ⟨some 57, some (56, true), .load 3 true, [.t 13]⟩,
 ⟨some 58, some (56, true), .load 3 true, [.t 14]⟩,
 ⟨some 59, some (56, true), .eqa false [.i .i64, .i .i64, .i .i64], [.t 57, .t 58]⟩,
 ⟨some 60, some (56, true), .mv, [.t 59]⟩,
 ⟨some 61, some (60, false), .mv, [.t 16]⟩,
 ⟨some 62, some (60, false), .load 3 true, [.t 14]⟩,
 ⟨some 63, some (60, false), .call 27, [.t 61, .t 62]⟩,
 ⟨some 64, some (60, false), .mv, [.t 12]⟩,
 ⟨some 65, some (60, false), .load 3 true, [.t 14]⟩,
 ⟨some 66, some (60, false), .call 29, [.t 64, .t 65]⟩,
 ⟨some 67, some (60, false), .eqa false [.i .i64, .i .i64], [.t 63, .t 66]⟩,
 ⟨some 68, some (60, false), .mv, [.t 67]⟩,
 ⟨some 69, some (68, true), .mv, [.t 17]⟩,
 ⟨some 70, some (68, true), .load 3 true, [.t 14]⟩,
 ⟨some 71, some (68, true), .call 27, [.t 69, .t 70]⟩,
 ⟨some 72, some (68, true), .mv, [.t 12]⟩,
 ⟨some 73, some (68, true), .load 3 true, [.t 14]⟩,
 ⟨some 74, some (68, true), .call 29, [.t 72, .t 73]⟩,
 ⟨some 75, some (68, true), .eqa false [.i .i64, .i .i64], [.t 71, .t 74]⟩,
 ⟨some 76, some (60, false), .pick, [.t 68, .t 75, .c (A.bool false)]⟩,
 ⟨some 77, some (56, true), .pick, [.t 60, .c (A.bool true), .t 76]⟩,
 ⟨some 78, none, .pick, [.t 56, .t 77, .c (A.bool false)]⟩,
 ⟨some 10, none, .mv, [.t 78]⟩]
def pc_law10_HoldersGets : PC := (.seq (.reg [] r_law10_HoldersGets_0) (.seq (.seq (.reg [18, 19] r_law10_HoldersGets_1) (.cond (.t 20) (.seq (.reg [21] r_law10_HoldersGets_2) .ret) .skip)) (.seq (.reg [22, 23] r_law10_HoldersGets_3) (.seq (.reg [24, 25, 26] r_law10_HoldersGets_4) (.seq (.reg [27, 28, 29, 30] r_law10_HoldersGets_5) (.seq (.reg [31, 32, 33] r_law10_HoldersGets_6) (.seq (.reg [34, 35, 36, 37] r_law10_HoldersGets_7) (.seq (.reg [38, 39, 40, 41] r_law10_HoldersGets_8) (.seq (.regd [42, 43, 44, 45, 46, 47, 48, 49, 50, 51, 52, 53, 54, 55, 56, 57, 58, 59, 60, 61, 62, 63, 64, 65, 66, 67, 68, 69, 70, 71, 72, 73, 74, 75, 76, 77, 78] r_law10_HoldersGets_9) .ret)))))))))
theorem chk_law10_HoldersGets : chkF C.P 9 pc_law10_HoldersGets 79 [.t 10] 5 = true := by kernel_rfl

@[go_sem] def r_holders_Procs_0 : List POp := [⟨some 2, none, .mv, [.c (A.sl [])]⟩]
@[go_sem] def r_holders_Procs_1 : List POp := [⟨some 3, none, .nilown 3 (Proc.enc Proc.zero), [.c (A.full [])]⟩]
@[go_sem] def r_holders_Procs_2 : List POp := [⟨some 6, none, .mv, [.t 0]⟩,
 ⟨some 7, none, .len, [.t 6]⟩,
 ⟨some 8, none, .mv, [.c (A.int .i64 0)]⟩]
@[go_sem] def r_holders_Procs_3 : List POp := [⟨some 9, none, .bin .lss, [.t 8, .t 7]⟩]
@[go_sem] def r_holders_Procs_4 : List POp := [⟨some 10, none, .iaS 5 (Hold.enc Hold.zero), [.t 6, .t 8]⟩,
 ⟨some 11, none, .load 5 true, [.t 10]⟩,
 ⟨some 5, none, .alloc 5 (Hold.enc Hold.zero), []⟩,
 ⟨none, none, .store 5, [.t 5, .t 11]⟩]
@[go_sem] def r_holders_Procs_5 : List POp := [⟨some 12, none, .mv, [.t 3]⟩,
 ⟨some 13, none, .faddr 0, [.t 5]⟩,
 ⟨some 14, none, .load 3 true, [.t 13]⟩,
 ⟨some 15, none, .bslice 3 (Proc.enc Proc.zero), [.t 14]⟩,
 ⟨some 16, none, .append 3 24 (Proc.enc Proc.zero), [.t 12, .t 15]⟩,
 ⟨some 3, none, .mv, [.t 16]⟩]
@[go_sem] def r_holders_Procs_6 : List POp := [⟨some 17, none, .bin .add, [.t 8, .c (A.int .i64 1)]⟩,
 ⟨some 8, none, .mv, [.t 17]⟩]
@[go_sem] def r_holders_Procs_7 : List POp := [⟨some 18, none, .mv, [.t 3]⟩,
 ⟨some 2, none, .mv, [.t 18]⟩]
def pc_holders_Procs : PC := (.seq (.reg [] r_holders_Procs_0) (.seq (.reg [] r_holders_Procs_1) (.seq (.seq (.reg [] r_holders_Procs_2) (.block 0 (.loop (.seq (.reg [] r_holders_Procs_3) (.seq (.cond (.t 9) .skip (.exit 0)) (.seq (.block 1 (.seq (.reg [10, 11] r_holders_Procs_4) (.reg [12, 13, 14, 15, 16] r_holders_Procs_5))) (.reg [17] r_holders_Procs_6))))))) (.seq (.reg [18] r_holders_Procs_7) .ret))))
theorem chk_holders_Procs : chkF C.P 30 pc_holders_Procs 19 [.t 2] 1 = true := by kernel_rfl

@[go_sem] def r_ref10_Procs_0 : List POp := [⟨some 2, none, .mv, [.c (A.sl [])]⟩]
@[go_sem] def r_ref10_Procs_1 : List POp := [⟨some 3, none, .nilown 3 (Proc.enc Proc.zero), [.c (A.full [])]⟩]
@[go_sem] def r_ref10_Procs_2 : List POp := [⟨some 4, none, .mv, [.c (A.int .i64 0)]⟩]
@[go_sem] def r_ref10_Procs_3 : List POp := [⟨some 5, none, .mv, [.t 4]⟩,
 ⟨some 6, none, .mv, [.t 0]⟩,
 ⟨some 7, none, .len, [.t 6]⟩,
 ⟨some 8, none, .bin .lss, [.t 5, .t 7]⟩]
@[go_sem] def r_ref10_Procs_5 : List POp := [⟨some 11, none, .mv, [.t 3]⟩,
 ⟨some 12, none, .mv, [.t 0]⟩,
 ⟨some 13, none, .mv, [.t 4]⟩,
 ⟨some 14, none, .iaS 5 (Hold.enc Hold.zero), [.t 12, .t 13]⟩,
 ⟨some 15, none, .faddr 0, [.t 14]⟩,
 ⟨some 16, none, .load 3 true, [.t 15]⟩,
 ⟨some 17, none, .bslice 3 (Proc.enc Proc.zero), [.t 16]⟩,
 ⟨some 18, none, .append 3 24 (Proc.enc Proc.zero), [.t 11, .t 17]⟩,
 ⟨some 3, none, .mv, [.t 18]⟩]
@[go_sem] def r_ref10_Procs_4 : List POp := [⟨some 9, none, .mv, [.t 4]⟩,
 ⟨some 10, none, .bin .add, [.t 9, .c (A.int .i64 1)]⟩,
 ⟨some 4, none, .mv, [.t 10]⟩]
@[go_sem] def r_ref10_Procs_6 : List POp := [⟨some 19, none, .mv, [.t 3]⟩,
 ⟨some 2, none, .mv, [.t 19]⟩]
def pc_ref10_Procs : PC := (.seq (.reg [] r_ref10_Procs_0) (.seq (.reg [] r_ref10_Procs_1) (.seq (.seq (.reg [] r_ref10_Procs_2) (.block 0 (.loop (.seq (.seq (.reg [5, 6, 7] r_ref10_Procs_3) (.cond (.t 8) .skip (.exit 0))) (.seq (.block 1 (.reg [11, 12, 13, 14, 15, 16, 17, 18] r_ref10_Procs_5)) (.reg [9, 10] r_ref10_Procs_4)))))) (.seq (.reg [19] r_ref10_Procs_6) .ret))))
theorem chk_ref10_Procs : chkF C.P 31 pc_ref10_Procs 20 [.t 2] 1 = true := by kernel_rfl

@[go_sem] def r_law10_HoldersValid_0 : List POp := [⟨some 3, none, .box 4, [.t 0]⟩,
 ⟨some 5, none, .box 3, [.t 2]⟩,
 ⟨some 6, none, .mv, [.c (A.bool false)]⟩]
@[go_sem] def r_law10_HoldersValid_1 : List POp := [⟨some 7, none, .mv, [.t 1]⟩,
 ⟨some 8, none, .len, [.t 7]⟩,
 ⟨some 9, none, .bin .gtr, [.t 8, .c (A.int .i64 100)]⟩]
@[go_sem] def r_law10_HoldersValid_2 : List POp := [⟨some 10, none, .call 11, []⟩,
 ⟨some 6, none, .mv, [.t 10]⟩]
@[go_sem] def r_law10_HoldersValid_3 : List POp := [⟨some 11, none, .call 11, []⟩,
 ⟨some 12, none, .mv, [.t 11]⟩,
 ⟨some 13, some (12, true), .load 4 true, [.t 3]⟩,
 ⟨some 14, some (12, true), .mv, [.t 1]⟩,
 ⟨some 15, some (12, true), .call 25, [.t 13, .t 14]⟩,
 ⟨some 16, some (12, true), .load 4 true, [.t 3]⟩,
 ⟨some 17, some (12, true), .mv, [.t 1]⟩,
 ⟨some 18, some (12, true), .call 26, [.t 16, .t 17]⟩,
 ⟨some 19, some (12, true), .eqb false, [.t 15, .t 18]⟩,
 ⟨some 20, none, .pick, [.t 12, .t 19, .c (A.bool false)]⟩,
 ⟨some 21, none, .mv, [.t 20]⟩,
 ⟨some 22, some (21, true), .mv, [.t 1]⟩,
 ⟨some 23, some (21, true), .load 3 true, [.t 5]⟩,
 ⟨some 24, some (21, true), .call 27, [.t 22, .t 23]⟩,
 ⟨some 25, some (21, true), .mv, [.t 1]⟩,
 ⟨some 26, some (21, true), .load 3 true, [.t 5]⟩,
 ⟨some 27, some (21, true), .call 29, [.t 25, .t 26]⟩,
 ⟨some 28, some (21, true), .eqa false [.i .i64, .i .i64], [.t 24, .t 27]⟩,
 ⟨some 29, none, .pick, [.t 21, .t 28, .c (A.bool false)]⟩,
 ⟨some 30, none, .mv, [.t 29]⟩,
 ⟨some 31, some (30, true), .mv, [.t 1]⟩,
 ⟨some 32, some (30, true), .call 30, [.t 31]⟩,
 ⟨some 33, some (30, true), .mv, [.t 1]⟩,
 ⟨some 34, some (30, true), .call 31, [.t 33]⟩,
 ⟨some 35, some (30, true), .call 17, [.t 32, .t 34]⟩,
 ⟨some 36, none, .pick, [.t 30, .t 35, .c (A.bool false)]⟩,
 ⟨some 6, none, .mv, [.t 36]⟩]
def pc_law10_HoldersValid : PC := (.seq (.reg [] r_law10_HoldersValid_0) (.seq (.seq (.reg [7, 8] r_law10_HoldersValid_1) (.cond (.t 9) (.seq (.reg [10] r_law10_HoldersValid_2) .ret) .skip)) (.seq (.regd [11, 12, 13, 14, 15, 16, 17, 18, 19, 20, 21, 22, 23, 24, 25, 26, 27, 28, 29, 30, 31, 32, 33, 34, 35, 36] r_law10_HoldersValid_3) .ret)))
theorem chk_law10_HoldersValid : chkF C.P 10 pc_law10_HoldersValid 37 [.t 6] 3 = true := by kernel_rfl
end Ab
end Go.Proofs.YtmegjomldcfoaaaDoor
