/-
  Functions of the program, as code of the small machine.
-/
import Derived.Test.YtgiipcdnbnahiaaDec
import Derived.Test.YtgiipcdnbnahiaaProg
import Derived.KernelRfl
namespace Go.Proofs.Ytgiipcdnbnahiaa
namespace Ab
noncomputable def C : Cx := ⟨Try.prog, []⟩
theorem C_G : C.G = [] := rfl
theorem C_mixed : C.P.follows .mixedOrders = true := by kernel_rfl

def r_mill_Mod_0 : List POp := [
  ⟨some 4, none, .mv, [.c (A.int .i64 0)]⟩]
def r_mill_Mod_1 : List POp := [
  ⟨some 5, none, .mv, [.t 1]⟩,
  ⟨some 6, none, .bin .lss, [.t 5, .c (A.int .i64 1)]⟩]
def r_mill_Mod_2 : List POp := [
  ⟨some 4, none, .mv, [.c (A.int .i64 0)]⟩]
def r_mill_Mod_3 : List POp := [
  ⟨some 7, none, .mv, [.t 0]⟩,
  ⟨some 8, none, .mv, [.t 1]⟩,
  ⟨some 9, none, .bin .rem, [.t 7, .t 8]⟩,
  ⟨some 0, none, .mv, [.t 9]⟩]
def r_mill_Mod_4 : List POp := [
  ⟨some 10, none, .mv, [.t 0]⟩,
  ⟨some 11, none, .bin .lss, [.t 10, .c (A.int .i64 0)]⟩]
def r_mill_Mod_5 : List POp := [
  ⟨some 12, none, .mv, [.t 0]⟩,
  ⟨some 13, none, .mv, [.t 1]⟩,
  ⟨some 14, none, .bin .add, [.t 12, .t 13]⟩,
  ⟨some 0, none, .mv, [.t 14]⟩]
def r_mill_Mod_6 : List POp := [
  ⟨some 15, none, .mv, [.t 0]⟩,
  ⟨some 4, none, .mv, [.t 15]⟩]
def pc_mill_Mod : PC := (.seq (.reg [] r_mill_Mod_0) (.seq (.seq (.reg [5] r_mill_Mod_1) (.cond (.t 6) (.seq (.reg [] r_mill_Mod_2) .ret) .skip)) (.seq (.reg [7, 8, 9] r_mill_Mod_3) (.seq (.seq (.reg [10] r_mill_Mod_4) (.cond (.t 11) (.reg [12, 13, 14] r_mill_Mod_5) .skip)) (.seq (.reg [15] r_mill_Mod_6) .ret)))))
theorem chk_mill_Mod : chkF C.P 27 pc_mill_Mod 16 [.t 4] 2 = true := by kernel_rfl

def r_mill_Proc_0 : List POp := [
  ⟨some 2, none, .alloc 3 (Proc.enc Proc.zero), []⟩]
def r_mill_Proc_1 : List POp := [
  ⟨some 3, none, .mv, [.t 0]⟩,
  ⟨some 4, none, .call 27, [.t 3, .c (A.int .i64 8)]⟩,
  ⟨some 0, none, .mv, [.t 4]⟩]
def r_mill_Proc_2 : List POp := [
  ⟨some 5, none, .mv, [.t 0]⟩,
  ⟨some 6, none, .bin .rem, [.t 5, .c (A.int .i64 4)]⟩,
  ⟨some 7, none, .mv, [.t 0]⟩,
  ⟨some 8, none, .bin .quo, [.t 7, .c (A.int .i64 4)]⟩,
  ⟨some 9, none, .bin .add, [.c (A.int .i64 1), .t 8]⟩,
  ⟨some 10, none, .build (Proc.enc Proc.zero) [(0, 1), (1, 1), (2, 1)], [.t 6, .c (A.int .i64 1), .t 9]⟩,
  ⟨none, none, .store 3, [.t 2, .t 10]⟩]
def pc_mill_Proc : PC := (.seq (.reg [] r_mill_Proc_0) (.seq (.reg [3, 4] r_mill_Proc_1) (.seq (.reg [5, 6, 7, 8, 9, 10] r_mill_Proc_2) .ret)))
theorem chk_mill_Proc : chkF C.P 29 pc_mill_Proc 11 [.c 2 3 true] 1 = true := by kernel_rfl

def r_law11_claim_0 : List POp := [
  ⟨some 4, none, .alloc 7 (Wait.enc Wait.zero), []⟩]
def r_law11_claim_1 : List POp := [
  ⟨some 5, none, .mv, [.t 0]⟩,
  ⟨some 6, none, .call 29, [.t 5]⟩,
  ⟨some 7, none, .build (Amount.enc Amount.zero) [(0, 1)], [.c (A.int .i64 5)]⟩,
  ⟨some 8, none, .mv, [.t 1]⟩,
  ⟨some 9, none, .build (Wait.enc Wait.zero) [(0, 3), (3, 2), (5, 1)], [.t 6, .t 7, .t 8]⟩,
  ⟨none, none, .store 7, [.t 4, .t 9]⟩]
def pc_law11_claim : PC := (.seq (.reg [] r_law11_claim_0) (.seq (.reg [5, 6, 7, 8, 9] r_law11_claim_1) .ret))
theorem chk_law11_claim : chkF C.P 18 pc_law11_claim 10 [.c 4 7 true] 2 = true := by kernel_rfl

def r_ident_between_0 : List POp := [
  ⟨some 6, none, .mv, [.c (A.bool false)]⟩]
def r_ident_between_1 : List POp := [
  ⟨some 7, none, .mv, [.t 0]⟩,
  ⟨some 8, none, .mv, [.t 1]⟩,
  ⟨some 9, none, .bin .geq, [.t 7, .t 8]⟩,
  ⟨some 10, none, .mv, [.t 9]⟩,
  ⟨some 11, some (10, true), .mv, [.t 0]⟩,
  ⟨some 12, some (10, true), .mv, [.t 2]⟩,
  ⟨some 13, some (10, true), .bin .leq, [.t 11, .t 12]⟩,
  ⟨some 14, none, .pick, [.t 10, .t 13, .c (A.bool false)]⟩,
  ⟨some 6, none, .mv, [.t 14]⟩]
def pc_ident_between : PC := (.seq (.reg [] r_ident_between_0) (.seq (.reg [7, 8, 9, 10, 11, 12, 13, 14] r_ident_between_1) .ret))
theorem chk_ident_between : chkF C.P 36 pc_ident_between 15 [.t 6] 3 = true := by kernel_rfl

def r_ident_ValidProc_0 : List POp := [
  ⟨some 1, none, .box 3, [.t 0]⟩,
  ⟨some 2, none, .mv, [.c (A.bool false)]⟩]
def r_ident_ValidProc_1 : List POp := [
  ⟨some 3, none, .faddr 0, [.t 1]⟩,
  ⟨some 4, none, .load 1 false, [.t 3]⟩,
  ⟨some 5, none, .call 36, [.t 4, .c (A.int .i64 0), .c (A.int .i64 3)]⟩,
  ⟨some 6, none, .mv, [.t 5]⟩,
  ⟨some 7, some (6, true), .faddr 1, [.t 1]⟩,
  ⟨some 8, some (6, true), .load 1 false, [.t 7]⟩,
  ⟨some 9, some (6, true), .call 36, [.t 8, .c (A.int .i64 1), .c (A.int .i64 99)]⟩,
  ⟨some 10, none, .pick, [.t 6, .t 9, .c (A.bool false)]⟩,
  ⟨some 11, none, .mv, [.t 10]⟩,
  ⟨some 12, some (11, true), .faddr 2, [.t 1]⟩,
  ⟨some 13, some (11, true), .load 1 false, [.t 12]⟩,
  ⟨some 14, some (11, true), .call 36, [.t 13, .c (A.int .i64 1), .c (A.int .i64 999)]⟩,
  ⟨some 15, none, .pick, [.t 11, .t 14, .c (A.bool false)]⟩,
  ⟨some 2, none, .mv, [.t 15]⟩]
def pc_ident_ValidProc : PC := (.seq (.reg [] r_ident_ValidProc_0) (.seq (.reg [3, 4, 5, 6, 7, 8, 9, 10, 11, 12, 13, 14, 15] r_ident_ValidProc_1) .ret))
theorem chk_ident_ValidProc : chkF C.P 31 pc_ident_ValidProc 16 [.t 2] 1 = true := by kernel_rfl

def r_amount_Shaped_0 : List POp := [
  ⟨some 1, none, .box 4, [.t 0]⟩,
  ⟨some 2, none, .mv, [.c (A.bool false)]⟩]
def r_amount_Shaped_1 : List POp := [
  ⟨some 3, none, .faddr 1, [.t 1]⟩,
  ⟨some 4, none, .load 1 false, [.t 3]⟩]
def r_amount_Shaped_2 : List POp := [
  ⟨some 6, none, .bin .eql, [.t 4, .c (A.int .i64 1)]⟩,
  ⟨some 5, none, .mv, [.t 6]⟩]
def r_amount_Shaped_3 : List POp := [
  ⟨some 7, none, .faddr 2, [.t 1]⟩,
  ⟨some 8, none, .load 1 false, [.t 7]⟩,
  ⟨some 9, none, .bin .eql, [.t 8, .c (A.int .i64 1)]⟩,
  ⟨some 2, none, .mv, [.t 9]⟩]
def r_amount_Shaped_4 : List POp := [
  ⟨some 11, none, .bin .eql, [.t 4, .c (A.int .i64 2)]⟩,
  ⟨some 10, none, .mv, [.t 11]⟩]
def r_amount_Shaped_5 : List POp := [
  ⟨some 12, none, .faddr 2, [.t 1]⟩,
  ⟨some 13, none, .load 1 false, [.t 12]⟩,
  ⟨some 14, none, .bin .geq, [.t 13, .c (A.int .i64 1)]⟩,
  ⟨some 15, none, .mv, [.t 14]⟩,
  ⟨some 16, some (15, true), .faddr 2, [.t 1]⟩,
  ⟨some 17, some (15, true), .load 1 false, [.t 16]⟩,
  ⟨some 18, some (15, true), .bin .leq, [.t 17, .c (A.int .i64 8)]⟩,
  ⟨some 19, none, .pick, [.t 15, .t 18, .c (A.bool false)]⟩,
  ⟨some 2, none, .mv, [.t 19]⟩]
def r_amount_Shaped_6 : List POp := [
  ⟨some 2, none, .mv, [.c (A.bool false)]⟩]
def pc_amount_Shaped : PC := (.seq (.reg [] r_amount_Shaped_0) (.seq (.seq (.reg [3] r_amount_Shaped_1) (.block 0 (.seq (.reg [6] r_amount_Shaped_2) (.cond (.t 5) (.seq (.reg [7, 8, 9] r_amount_Shaped_3) .ret) (.seq (.reg [11] r_amount_Shaped_4) (.cond (.t 10) (.seq (.reg [12, 13, 14, 15, 16, 17, 18, 19] r_amount_Shaped_5) .ret) .skip)))))) (.seq (.reg [] r_amount_Shaped_6) .ret)))
theorem chk_amount_Shaped : chkF C.P 37 pc_amount_Shaped 20 [.t 2] 1 = true := by kernel_rfl

def r_mode_Valid_0 : List POp := [
  ⟨some 2, none, .mv, [.c (A.bool false)]⟩]
def r_mode_Valid_1 : List POp := [
  ⟨some 3, none, .mv, [.t 0]⟩,
  ⟨some 4, none, .bin .geq, [.t 3, .c (A.int .i64 1)]⟩,
  ⟨some 5, none, .mv, [.t 4]⟩,
  ⟨some 6, some (5, true), .mv, [.t 0]⟩,
  ⟨some 7, some (5, true), .bin .leq, [.t 6, .c (A.int .i64 5)]⟩,
  ⟨some 8, none, .pick, [.t 5, .t 7, .c (A.bool false)]⟩,
  ⟨some 2, none, .mv, [.t 8]⟩]
def pc_mode_Valid : PC := (.seq (.reg [] r_mode_Valid_0) (.seq (.reg [3, 4, 5, 6, 7, 8] r_mode_Valid_1) .ret))
theorem chk_mode_Valid : chkF C.P 38 pc_mode_Valid 9 [.t 2] 1 = true := by kernel_rfl

def r_amount_Fits_0 : List POp := [
  ⟨some 2, none, .box 4, [.t 0]⟩,
  ⟨some 3, none, .box 2, [.t 1]⟩,
  ⟨some 4, none, .mv, [.c (A.bool false)]⟩]
def r_amount_Fits_1 : List POp := [
  ⟨some 5, none, .load 4 true, [.t 2]⟩,
  ⟨some 6, none, .call 37, [.t 5]⟩,
  ⟨some 7, none, .not, [.t 6]⟩]
def r_amount_Fits_2 : List POp := [
  ⟨some 4, none, .mv, [.c (A.bool false)]⟩]
def r_amount_Fits_3 : List POp := [
  ⟨some 8, none, .faddr 1, [.t 2]⟩,
  ⟨some 9, none, .load 1 false, [.t 8]⟩,
  ⟨some 10, none, .bin .eql, [.t 9, .c (A.int .i64 1)]⟩]
def r_amount_Fits_4 : List POp := [
  ⟨some 11, none, .faddr 0, [.t 3]⟩,
  ⟨some 12, none, .load 1 false, [.t 11]⟩,
  ⟨some 13, none, .call 38, [.t 12]⟩,
  ⟨some 14, none, .mv, [.t 13]⟩,
  ⟨some 15, some (14, true), .faddr 1, [.t 3]⟩,
  ⟨some 16, some (14, true), .load 1 false, [.t 15]⟩,
  ⟨some 17, some (14, true), .bin .eql, [.t 16, .c (A.int .i64 0)]⟩,
  ⟨some 18, none, .pick, [.t 14, .t 17, .c (A.bool false)]⟩,
  ⟨some 4, none, .mv, [.t 18]⟩]
def r_amount_Fits_5 : List POp := [
  ⟨some 19, none, .faddr 0, [.t 3]⟩,
  ⟨some 20, none, .load 1 false, [.t 19]⟩,
  ⟨some 21, none, .bin .eql, [.t 20, .c (A.int .i64 0)]⟩,
  ⟨some 22, none, .mv, [.t 21]⟩,
  ⟨some 23, some (22, true), .faddr 1, [.t 3]⟩,
  ⟨some 24, some (22, true), .load 1 false, [.t 23]⟩,
  ⟨some 25, some (22, true), .bin .geq, [.t 24, .c (A.int .i64 1)]⟩,
  ⟨some 26, none, .pick, [.t 22, .t 25, .c (A.bool false)]⟩,
  ⟨some 27, none, .mv, [.t 26]⟩,
  ⟨some 28, some (27, true), .faddr 1, [.t 3]⟩,
  ⟨some 29, some (27, true), .load 1 false, [.t 28]⟩,
  ⟨some 30, some (27, true), .faddr 2, [.t 2]⟩,
  ⟨some 31, some (27, true), .load 1 false, [.t 30]⟩,
  ⟨some 32, some (27, true), .bin .leq, [.t 29, .t 31]⟩,
  ⟨some 33, none, .pick, [.t 27, .t 32, .c (A.bool false)]⟩,
  ⟨some 4, none, .mv, [.t 33]⟩]
def pc_amount_Fits : PC := (.seq (.reg [] r_amount_Fits_0) (.seq (.seq (.reg [5, 6] r_amount_Fits_1) (.cond (.t 7) (.seq (.reg [] r_amount_Fits_2) .ret) .skip)) (.seq (.seq (.reg [8, 9] r_amount_Fits_3) (.cond (.t 10) (.seq (.reg [11, 12, 13, 14, 15, 16, 17, 18] r_amount_Fits_4) .ret) .skip)) (.seq (.reg [19, 20, 21, 22, 23, 24, 25, 26, 27, 28, 29, 30, 31, 32, 33] r_amount_Fits_5) .ret))))
theorem chk_amount_Fits : chkF C.P 32 pc_amount_Fits 34 [.t 4] 2 = true := by kernel_rfl

def r_line_ValidWait_0 : List POp := [
  ⟨some 1, none, .box 7, [.t 0]⟩,
  ⟨some 2, none, .mv, [.c (A.bool false)]⟩]
def r_line_ValidWait_1 : List POp := [
  ⟨some 5, none, .build (Resource.enc Resource.zero) [(1, 1), (2, 1)], [.c (A.int .i64 1), .c (A.int .i64 1)]⟩,
  ⟨some 3, none, .alloc 4 (Resource.enc Resource.zero), []⟩,
  ⟨none, none, .store 4, [.t 3, .t 5]⟩]
def r_line_ValidWait_2 : List POp := [
  ⟨some 6, none, .build (Resource.enc Resource.zero) [(1, 1), (2, 1)], [.c (A.int .i64 2), .c (A.int .i64 8)]⟩,
  ⟨some 4, none, .alloc 4 (Resource.enc Resource.zero), []⟩,
  ⟨none, none, .store 4, [.t 4, .t 6]⟩]
def r_line_ValidWait_3 : List POp := [
  ⟨some 7, none, .faddr 0, [.t 1]⟩,
  ⟨some 8, none, .load 3 true, [.t 7]⟩,
  ⟨some 9, none, .call 31, [.t 8]⟩,
  ⟨some 10, none, .mv, [.t 9]⟩,
  ⟨some 11, some (10, true), .load 4 true, [.t 3]⟩,
  ⟨some 12, some (10, true), .faddr 3, [.t 1]⟩,
  ⟨some 13, some (10, true), .load 2 true, [.t 12]⟩,
  ⟨some 14, some (10, true), .call 32, [.t 11, .t 13]⟩,
  ⟨some 15, some (10, true), .mv, [.t 14]⟩,
  ⟨some 16, some (15, false), .load 4 true, [.t 4]⟩,
  ⟨some 17, some (15, false), .faddr 3, [.t 1]⟩,
  ⟨some 18, some (15, false), .load 2 true, [.t 17]⟩,
  ⟨some 19, some (15, false), .call 32, [.t 16, .t 18]⟩,
  ⟨some 20, some (10, true), .pick, [.t 15, .c (A.bool true), .t 19]⟩,
  ⟨some 21, none, .pick, [.t 10, .t 20, .c (A.bool false)]⟩,
  ⟨some 22, none, .mv, [.t 21]⟩,
  ⟨some 23, some (22, true), .faddr 5, [.t 1]⟩,
  ⟨some 24, some (22, true), .load 1 false, [.t 23]⟩,
  ⟨some 25, some (22, true), .bin .geq, [.t 24, .c (A.int .i64 0)]⟩,
  ⟨some 26, none, .pick, [.t 22, .t 25, .c (A.bool false)]⟩,
  ⟨some 27, none, .mv, [.t 26]⟩,
  ⟨some 28, some (27, true), .faddr 5, [.t 1]⟩,
  ⟨some 29, some (27, true), .load 1 false, [.t 28]⟩,
  ⟨some 30, some (27, true), .bin .leq, [.t 29, .c (A.int .i64 7)]⟩,
  ⟨some 31, none, .pick, [.t 27, .t 30, .c (A.bool false)]⟩,
  ⟨some 32, none, .mv, [.t 31]⟩,
  ⟨some 33, some (32, true), .faddr 6, [.t 1]⟩,
  ⟨some 34, some (32, true), .load 1 false, [.t 33]⟩,
  ⟨some 35, some (32, true), .bin .geq, [.t 34, .c (A.int .i64 0)]⟩,
  ⟨some 36, none, .pick, [.t 32, .t 35, .c (A.bool false)]⟩,
  ⟨some 37, none, .mv, [.t 36]⟩,
  ⟨some 38, some (37, true), .faddr 6, [.t 1]⟩,
  ⟨some 39, some (37, true), .load 1 false, [.t 38]⟩,
  ⟨some 40, some (37, true), .bin .leq, [.t 39, .c (A.int .i64 3)]⟩,
  ⟨some 41, none, .pick, [.t 37, .t 40, .c (A.bool false)]⟩,
  ⟨some 2, none, .mv, [.t 41]⟩]
def pc_line_ValidWait : PC := (.seq (.reg [] r_line_ValidWait_0) (.seq (.reg [5] r_line_ValidWait_1) (.seq (.reg [6] r_line_ValidWait_2) (.seq (.reg [7, 8, 9, 10, 11, 12, 13, 14, 15, 16, 17, 18, 19, 20, 21, 22, 23, 24, 25, 26, 27, 28, 29, 30, 31, 32, 33, 34, 35, 36, 37, 38, 39, 40, 41] r_line_ValidWait_3) .ret))))
theorem chk_line_ValidWait : chkF C.P 11 pc_line_ValidWait 42 [.t 2] 1 = true := by kernel_rfl

def r_line_Find_0 : List POp := [
  ⟨some 3, none, .box 3, [.t 1]⟩,
  ⟨some 4, none, .mv, [.c (A.int .i64 0)]⟩]
def r_line_Find_1 : List POp := [
  ⟨some 7, none, .mv, [.t 0]⟩,
  ⟨some 8, none, .len, [.t 7]⟩,
  ⟨some 9, none, .mv, [.c (A.int .i64 0)]⟩]
def r_line_Find_2 : List POp := [
  ⟨some 10, none, .bin .lss, [.t 9, .t 8]⟩]
def r_line_Find_3 : List POp := [
  ⟨some 11, none, .mv, [.t 9]⟩,
  ⟨some 12, none, .iaS 7 (Wait.enc Wait.zero), [.t 7, .t 9]⟩,
  ⟨some 13, none, .load 7 true, [.t 12]⟩,
  ⟨some 6, none, .alloc 7 (Wait.enc Wait.zero), []⟩,
  ⟨some 5, none, .mv, [.t 11]⟩,
  ⟨none, none, .store 7, [.t 6, .t 13]⟩]
def r_line_Find_4 : List POp := [
  ⟨some 14, none, .faddr 0, [.t 6]⟩,
  ⟨some 15, none, .load 3 true, [.t 14]⟩,
  ⟨some 16, none, .load 3 true, [.t 3]⟩,
  ⟨some 17, none, .eqa false [.i .i64, .i .i64, .i .i64], [.t 15, .t 16]⟩]
def r_line_Find_5 : List POp := [
  ⟨some 18, none, .mv, [.t 5]⟩,
  ⟨some 4, none, .mv, [.t 18]⟩]
def r_line_Find_6 : List POp := [
  ⟨some 19, none, .bin .add, [.t 9, .c (A.int .i64 1)]⟩,
  ⟨some 9, none, .mv, [.t 19]⟩]
def r_line_Find_7 : List POp := [
  ⟨some 4, none, .mv, [.c (A.int .i64 (-1))]⟩]
def pc_line_Find : PC := (.seq (.reg [] r_line_Find_0) (.seq (.seq (.reg [] r_line_Find_1) (.block 0 (.loop (.seq (.reg [] r_line_Find_2) (.seq (.cond (.t 10) .skip (.exit 0)) (.seq (.block 1 (.seq (.reg [11, 12, 13] r_line_Find_3) (.seq (.reg [14, 15, 16] r_line_Find_4) (.cond (.t 17) (.seq (.reg [18] r_line_Find_5) .ret) .skip)))) (.reg [19] r_line_Find_6))))))) (.seq (.reg [] r_line_Find_7) .ret)))
theorem chk_line_Find : chkF C.P 21 pc_line_Find 20 [.t 4] 2 = true := by kernel_rfl

def r_line_Valid_0 : List POp := [
  ⟨some 2, none, .mv, [.c (A.bool false)]⟩]
def r_line_Valid_1 : List POp := [
  ⟨some 5, none, .mv, [.t 0]⟩,
  ⟨some 6, none, .len, [.t 5]⟩,
  ⟨some 7, none, .bin .gtr, [.t 6, .c (A.int .i64 8)]⟩]
def r_line_Valid_2 : List POp := [
  ⟨some 2, none, .mv, [.c (A.bool false)]⟩]
def r_line_Valid_3 : List POp := [
  ⟨some 8, none, .mv, [.t 0]⟩,
  ⟨some 9, none, .len, [.t 8]⟩,
  ⟨some 10, none, .mv, [.c (A.int .i64 0)]⟩]
def r_line_Valid_4 : List POp := [
  ⟨some 11, none, .bin .lss, [.t 10, .t 9]⟩]
def r_line_Valid_5 : List POp := [
  ⟨some 12, none, .mv, [.t 10]⟩,
  ⟨some 13, none, .iaS 7 (Wait.enc Wait.zero), [.t 8, .t 10]⟩,
  ⟨some 14, none, .load 7 true, [.t 13]⟩,
  ⟨some 4, none, .alloc 7 (Wait.enc Wait.zero), []⟩,
  ⟨some 3, none, .mv, [.t 12]⟩,
  ⟨none, none, .store 7, [.t 4, .t 14]⟩]
def r_line_Valid_6 : List POp := [
  ⟨some 15, none, .load 7 true, [.t 4]⟩,
  ⟨some 16, none, .call 11, [.t 15]⟩,
  ⟨some 17, none, .not, [.t 16]⟩,
  ⟨some 18, none, .mv, [.t 17]⟩,
  ⟨some 19, some (18, false), .mv, [.t 0]⟩,
  ⟨some 20, some (18, false), .faddr 0, [.t 4]⟩,
  ⟨some 21, some (18, false), .load 3 true, [.t 20]⟩,
  ⟨some 22, some (18, false), .call 21, [.t 19, .t 21]⟩,
  ⟨some 23, some (18, false), .mv, [.t 3]⟩,
  ⟨some 24, some (18, false), .bin .neq, [.t 22, .t 23]⟩,
  ⟨some 25, none, .pick, [.t 18, .c (A.bool true), .t 24]⟩]
def r_line_Valid_7 : List POp := [
  ⟨some 2, none, .mv, [.c (A.bool false)]⟩]
def r_line_Valid_8 : List POp := [
  ⟨some 26, none, .bin .add, [.t 10, .c (A.int .i64 1)]⟩,
  ⟨some 10, none, .mv, [.t 26]⟩]
def r_line_Valid_9 : List POp := [
  ⟨some 2, none, .mv, [.c (A.bool true)]⟩]
def pc_line_Valid : PC := (.seq (.reg [] r_line_Valid_0) (.seq (.seq (.reg [5, 6] r_line_Valid_1) (.cond (.t 7) (.seq (.reg [] r_line_Valid_2) .ret) .skip)) (.seq (.seq (.reg [] r_line_Valid_3) (.block 0 (.loop (.seq (.reg [] r_line_Valid_4) (.seq (.cond (.t 11) .skip (.exit 0)) (.seq (.block 1 (.seq (.reg [12, 13, 14] r_line_Valid_5) (.seq (.reg [15, 16, 17, 18, 19, 20, 21, 22, 23, 24] r_line_Valid_6) (.cond (.t 25) (.seq (.reg [] r_line_Valid_7) .ret) .skip)))) (.reg [26] r_line_Valid_8))))))) (.seq (.reg [] r_line_Valid_9) .ret))))
theorem chk_line_Valid : chkF C.P 13 pc_line_Valid 27 [.t 2] 1 = true := by kernel_rfl

def r_line_meet_0 : List POp := [
  ⟨some 2, none, .box 7, [.t 0]⟩,
  ⟨some 3, none, .box 7, [.t 1]⟩,
  ⟨some 4, none, .mv, [.c (A.int .i64 0)]⟩]
def r_line_meet_1 : List POp := [
  ⟨some 5, none, .faddr 5, [.t 3]⟩,
  ⟨some 6, none, .load 1 false, [.t 5]⟩,
  ⟨some 7, none, .faddr 5, [.t 2]⟩,
  ⟨some 8, none, .load 1 false, [.t 7]⟩,
  ⟨some 9, none, .bin .lss, [.t 6, .t 8]⟩,
  ⟨some 10, none, .mv, [.t 9]⟩,
  ⟨some 11, some (10, true), .faddr 6, [.t 3]⟩,
  ⟨some 12, some (10, true), .load 1 false, [.t 11]⟩,
  ⟨some 13, some (10, true), .bin .lss, [.t 12, .c (A.int .i64 3)]⟩,
  ⟨some 14, none, .pick, [.t 10, .t 13, .c (A.bool false)]⟩]
def r_line_meet_2 : List POp := [
  ⟨some 4, none, .mv, [.c (A.int .i64 1)]⟩]
def r_line_meet_3 : List POp := [
  ⟨some 4, none, .mv, [.c (A.int .i64 0)]⟩]
def pc_line_meet : PC := (.seq (.reg [] r_line_meet_0) (.seq (.seq (.reg [5, 6, 7, 8, 9, 10, 11, 12, 13] r_line_meet_1) (.cond (.t 14) (.seq (.reg [] r_line_meet_2) .ret) .skip)) (.seq (.reg [] r_line_meet_3) .ret)))
theorem chk_line_meet : chkF C.P 35 pc_line_meet 15 [.t 4] 2 = true := by kernel_rfl

def r_line_Insert_0 : List POp := [
  ⟨some 3, none, .box 7, [.t 1]⟩,
  ⟨some 4, none, .mv, [.c (A.sl [])]⟩,
  ⟨some 5, none, .mv, [.c (A.int .i64 0)]⟩,
  ⟨some 6, none, .mv, [.c (A.int .i64 0)]⟩]
def r_line_Insert_1 : List POp := [
  ⟨some 10, none, .mv, [.t 0]⟩,
  ⟨some 11, none, .call 13, [.t 10]⟩,
  ⟨some 12, none, .not, [.t 11]⟩,
  ⟨some 9, none, .mv, [.t 12]⟩]
def r_line_Insert_2 : List POp := [
  ⟨some 4, none, .mv, [.c (A.sl [])]⟩,
  ⟨some 5, none, .mv, [.c (A.int .i64 0)]⟩,
  ⟨some 6, none, .mv, [.c (A.int .i64 2)]⟩]
def r_line_Insert_3 : List POp := [
  ⟨some 14, none, .load 7 true, [.t 3]⟩,
  ⟨some 15, none, .call 11, [.t 14]⟩,
  ⟨some 16, none, .not, [.t 15]⟩,
  ⟨some 17, none, .mv, [.t 16]⟩,
  ⟨some 18, some (17, false), .faddr 6, [.t 3]⟩,
  ⟨some 19, some (17, false), .load 1 false, [.t 18]⟩,
  ⟨some 20, some (17, false), .bin .neq, [.t 19, .c (A.int .i64 0)]⟩,
  ⟨some 21, none, .pick, [.t 17, .c (A.bool true), .t 20]⟩,
  ⟨some 13, none, .mv, [.t 21]⟩]
def r_line_Insert_4 : List POp := [
  ⟨some 4, none, .mv, [.c (A.sl [])]⟩,
  ⟨some 5, none, .mv, [.c (A.int .i64 0)]⟩,
  ⟨some 6, none, .mv, [.c (A.int .i64 1)]⟩]
def r_line_Insert_5 : List POp := [
  ⟨some 23, none, .mv, [.t 0]⟩,
  ⟨some 24, none, .faddr 0, [.t 3]⟩,
  ⟨some 25, none, .load 3 true, [.t 24]⟩,
  ⟨some 26, none, .call 21, [.t 23, .t 25]⟩,
  ⟨some 27, none, .bin .geq, [.t 26, .c (A.int .i64 0)]⟩,
  ⟨some 22, none, .mv, [.t 27]⟩]
def r_line_Insert_6 : List POp := [
  ⟨some 4, none, .mv, [.c (A.sl [])]⟩,
  ⟨some 5, none, .mv, [.c (A.int .i64 0)]⟩,
  ⟨some 6, none, .mv, [.c (A.int .i64 11)]⟩]
def r_line_Insert_7 : List POp := [
  ⟨some 29, none, .mv, [.t 0]⟩,
  ⟨some 30, none, .len, [.t 29]⟩,
  ⟨some 31, none, .bin .eql, [.t 30, .c (A.int .i64 8)]⟩,
  ⟨some 28, none, .mv, [.t 31]⟩]
def r_line_Insert_8 : List POp := [
  ⟨some 4, none, .mv, [.c (A.sl [])]⟩,
  ⟨some 5, none, .mv, [.c (A.int .i64 0)]⟩,
  ⟨some 6, none, .mv, [.c (A.int .i64 4)]⟩]
def r_line_Insert_9 : List POp := [
  ⟨some 32, none, .mv, [.t 0]⟩,
  ⟨some 33, none, .len, [.t 32]⟩,
  ⟨some 34, none, .bin .add, [.t 33, .c (A.int .i64 1)]⟩,
  ⟨some 35, none, .mk 7 56 (Wait.enc Wait.zero), [.t 34, .t 34]⟩,
  ⟨some 7, none, .mv, [.t 35]⟩]
def r_line_Insert_10 : List POp := [
  ⟨some 36, none, .mv, [.t 7]⟩,
  ⟨some 37, none, .mv, [.t 0]⟩,
  ⟨some 38, none, .copy 7, [.t 36, .t 37]⟩]
def r_line_Insert_11 : List POp := [
  ⟨some 39, none, .mv, [.t 0]⟩,
  ⟨some 40, none, .len, [.t 39]⟩,
  ⟨some 8, none, .mv, [.t 40]⟩]
def r_line_Insert_12 : List POp := [
  ⟨some 41, none, .mv, [.t 8]⟩,
  ⟨some 42, none, .bin .gtr, [.t 41, .c (A.int .i64 0)]⟩,
  ⟨some 43, none, .mv, [.t 42]⟩,
  ⟨some 44, some (43, true), .load 7 true, [.t 3]⟩,
  ⟨some 45, some (43, true), .mv, [.t 7]⟩,
  ⟨some 46, some (43, true), .mv, [.t 8]⟩,
  ⟨some 47, some (43, true), .bin .sub, [.t 46, .c (A.int .i64 1)]⟩,
  ⟨some 48, some (43, true), .iaS 7 (Wait.enc Wait.zero), [.t 45, .t 47]⟩,
  ⟨some 49, some (43, true), .load 7 true, [.t 48]⟩,
  ⟨some 50, some (43, true), .call 35, [.t 44, .t 49]⟩,
  ⟨some 51, some (43, true), .bin .eql, [.t 50, .c (A.int .i64 1)]⟩,
  ⟨some 52, none, .pick, [.t 43, .t 51, .c (A.bool false)]⟩]
def r_line_Insert_13 : List POp := [
  ⟨some 53, none, .mv, [.t 7]⟩,
  ⟨some 54, none, .mv, [.t 8]⟩,
  ⟨some 55, none, .mv, [.t 7]⟩,
  ⟨some 56, none, .mv, [.t 8]⟩,
  ⟨some 57, none, .bin .sub, [.t 56, .c (A.int .i64 1)]⟩,
  ⟨some 58, none, .iaS 7 (Wait.enc Wait.zero), [.t 55, .t 57]⟩,
  ⟨some 59, none, .load 7 true, [.t 58]⟩,
  ⟨some 60, none, .iaS 7 (Wait.enc Wait.zero), [.t 53, .t 54]⟩,
  ⟨none, none, .store 7, [.t 60, .t 59]⟩]
def r_line_Insert_14 : List POp := [
  ⟨some 61, none, .mv, [.t 7]⟩,
  ⟨some 62, none, .mv, [.t 8]⟩,
  ⟨some 63, none, .iaS 7 (Wait.enc Wait.zero), [.t 61, .t 62]⟩,
  ⟨some 64, none, .faddr 6, [.t 63]⟩,
  ⟨some 65, none, .load 1 false, [.t 64]⟩,
  ⟨some 66, none, .bin .add, [.t 65, .c (A.int .i64 1)]⟩,
  ⟨some 67, none, .iaS 7 (Wait.enc Wait.zero), [.t 61, .t 62]⟩,
  ⟨some 68, none, .faddr 6, [.t 67]⟩,
  ⟨none, none, .store 1, [.t 68, .t 66]⟩]
def r_line_Insert_15 : List POp := [
  ⟨some 69, none, .mv, [.t 8]⟩,
  ⟨some 70, none, .bin .sub, [.t 69, .c (A.int .i64 1)]⟩,
  ⟨some 8, none, .mv, [.t 70]⟩]
def r_line_Insert_16 : List POp := [
  ⟨some 71, none, .mv, [.t 7]⟩,
  ⟨some 72, none, .mv, [.t 8]⟩,
  ⟨some 73, none, .load 7 true, [.t 3]⟩,
  ⟨some 74, none, .iaS 7 (Wait.enc Wait.zero), [.t 71, .t 72]⟩,
  ⟨none, none, .store 7, [.t 74, .t 73]⟩]
def r_line_Insert_17 : List POp := [
  ⟨some 75, none, .mv, [.t 7]⟩,
  ⟨some 76, none, .mv, [.t 8]⟩,
  ⟨some 4, none, .mv, [.t 75]⟩,
  ⟨some 5, none, .mv, [.t 76]⟩,
  ⟨some 6, none, .mv, [.c (A.int .i64 0)]⟩]
def pc_line_Insert : PC := (.seq (.reg [] r_line_Insert_0) (.seq (.block 0 (.seq (.reg [10, 11, 12] r_line_Insert_1) (.cond (.t 9) (.seq (.reg [] r_line_Insert_2) .ret) (.seq (.reg [14, 15, 16, 17, 18, 19, 20, 21] r_line_Insert_3) (.cond (.t 13) (.seq (.reg [] r_line_Insert_4) .ret) (.seq (.reg [23, 24, 25, 26, 27] r_line_Insert_5) (.cond (.t 22) (.seq (.reg [] r_line_Insert_6) .ret) (.seq (.reg [29, 30, 31] r_line_Insert_7) (.cond (.t 28) (.seq (.reg [] r_line_Insert_8) .ret) .skip))))))))) (.seq (.reg [32, 33, 34, 35] r_line_Insert_9) (.seq (.reg [36, 37, 38] r_line_Insert_10) (.seq (.reg [39, 40] r_line_Insert_11) (.seq (.block 1 (.loop (.seq (.seq (.regd [41, 42, 43, 44, 45, 46, 47, 48, 49, 50, 51] r_line_Insert_12) (.cond (.t 52) .skip (.exit 1))) (.block 2 (.seq (.reg [53, 54, 55, 56, 57, 58, 59, 60] r_line_Insert_13) (.seq (.reg [61, 62, 63, 64, 65, 66, 67, 68] r_line_Insert_14) (.reg [69, 70] r_line_Insert_15))))))) (.seq (.reg [71, 72, 73, 74] r_line_Insert_16) (.seq (.reg [75, 76] r_line_Insert_17) .ret))))))))
theorem chk_line_Insert : chkF C.P 15 pc_line_Insert 77 [.t 4, .t 5, .t 6] 2 = true := by kernel_rfl

def r_line_Ahead_0 : List POp := [
  ⟨some 3, none, .box 3, [.t 1]⟩,
  ⟨some 4, none, .mv, [.c (A.sl [])]⟩]
def r_line_Ahead_1 : List POp := [
  ⟨some 5, none, .nilown 3 (Proc.enc Proc.zero), [.c (A.full [])]⟩]
def r_line_Ahead_2 : List POp := [
  ⟨some 7, none, .mv, [.t 0]⟩,
  ⟨some 8, none, .load 3 true, [.t 3]⟩,
  ⟨some 9, none, .call 21, [.t 7, .t 8]⟩,
  ⟨some 10, none, .mv, [.c (A.int .i64 0)]⟩]
def r_line_Ahead_3 : List POp := [
  ⟨some 11, none, .bin .lss, [.t 10, .t 9]⟩]
def r_line_Ahead_4 : List POp := [
  ⟨some 12, none, .mv, [.t 10]⟩,
  ⟨some 6, none, .mv, [.t 12]⟩]
def r_line_Ahead_5 : List POp := [
  ⟨some 13, none, .mv, [.t 5]⟩,
  ⟨some 14, none, .mv, [.t 0]⟩,
  ⟨some 15, none, .mv, [.t 6]⟩,
  ⟨some 16, none, .iaS 7 (Wait.enc Wait.zero), [.t 14, .t 15]⟩,
  ⟨some 17, none, .faddr 0, [.t 16]⟩,
  ⟨some 18, none, .load 3 true, [.t 17]⟩,
  ⟨some 19, none, .bslice 3 (Proc.enc Proc.zero), [.t 18]⟩,
  ⟨some 20, none, .append 3 24 (Proc.enc Proc.zero), [.t 13, .t 19]⟩,
  ⟨some 5, none, .mv, [.t 20]⟩]
def r_line_Ahead_6 : List POp := [
  ⟨some 21, none, .bin .add, [.t 10, .c (A.int .i64 1)]⟩,
  ⟨some 10, none, .mv, [.t 21]⟩]
def r_line_Ahead_7 : List POp := [
  ⟨some 22, none, .mv, [.t 5]⟩,
  ⟨some 4, none, .mv, [.t 22]⟩]
def pc_line_Ahead : PC := (.seq (.reg [] r_line_Ahead_0) (.seq (.reg [] r_line_Ahead_1) (.seq (.seq (.reg [7, 8] r_line_Ahead_2) (.block 0 (.loop (.seq (.reg [] r_line_Ahead_3) (.seq (.cond (.t 11) .skip (.exit 0)) (.seq (.block 1 (.seq (.reg [12] r_line_Ahead_4) (.reg [13, 14, 15, 16, 17, 18, 19, 20] r_line_Ahead_5))) (.reg [21] r_line_Ahead_6))))))) (.seq (.reg [22] r_line_Ahead_7) .ret))))
theorem chk_line_Ahead : chkF C.P 24 pc_line_Ahead 23 [.t 4] 2 = true := by kernel_rfl

def r_law11_awake_0 : List POp := [
  ⟨some 0, none, .mv, [.c (A.bool false)]⟩]
def r_law11_awake_1 : List POp := [
  ⟨some 5, none, .call 18, [.c (A.int .i64 0), .c (A.int .i64 2)]⟩,
  ⟨some 6, none, .call 18, [.c (A.int .i64 1), .c (A.int .i64 0)]⟩,
  ⟨some 7, none, .call 18, [.c (A.int .i64 2), .c (A.int .i64 0)]⟩,
  ⟨some 8, none, .bslice 7 (Wait.enc Wait.zero), [.t 5, .t 6, .t 7]⟩,
  ⟨some 1, none, .mv, [.t 8]⟩]
def r_law11_awake_2 : List POp := [
  ⟨some 10, none, .mv, [.t 1]⟩,
  ⟨some 11, none, .call 18, [.c (A.int .i64 3), .c (A.int .i64 1)]⟩,
  ⟨some 12, none, .call 15, [.t 10, .t 11]⟩,
  ⟨some 9, none, .mv, [.t 12]⟩,
  ⟨some 13, none, .ext 0, [.t 9]⟩,
  ⟨some 14, none, .ext 1, [.t 9]⟩,
  ⟨some 15, none, .ext 2, [.t 9]⟩,
  ⟨some 2, none, .mv, [.t 13]⟩,
  ⟨some 3, none, .mv, [.t 14]⟩,
  ⟨some 4, none, .mv, [.t 15]⟩]
def r_law11_awake_3 : List POp := [
  ⟨some 16, none, .mv, [.t 4]⟩,
  ⟨some 17, none, .bin .eql, [.t 16, .c (A.int .i64 0)]⟩,
  ⟨some 18, none, .mv, [.t 17]⟩,
  ⟨some 19, some (18, true), .mv, [.t 3]⟩,
  ⟨some 20, some (18, true), .bin .eql, [.t 19, .c (A.int .i64 1)]⟩,
  ⟨some 21, none, .pick, [.t 18, .t 20, .c (A.bool false)]⟩,
  ⟨some 22, none, .mv, [.t 21]⟩,
  ⟨some 23, some (22, true), .mv, [.t 2]⟩,
  ⟨some 24, some (22, true), .len, [.t 23]⟩,
  ⟨some 25, some (22, true), .bin .eql, [.t 24, .c (A.int .i64 4)]⟩,
  ⟨some 26, none, .pick, [.t 22, .t 25, .c (A.bool false)]⟩,
  ⟨some 27, none, .mv, [.t 26]⟩,
  ⟨some 28, some (27, true), .mv, [.t 2]⟩,
  ⟨some 29, some (27, true), .iaS 7 (Wait.enc Wait.zero), [.t 28, .c (A.int .i64 2)]⟩,
  ⟨some 30, some (27, true), .faddr 6, [.t 29]⟩,
  ⟨some 31, some (27, true), .load 1 false, [.t 30]⟩,
  ⟨some 32, some (27, true), .bin .eql, [.t 31, .c (A.int .i64 1)]⟩,
  ⟨some 33, none, .pick, [.t 27, .t 32, .c (A.bool false)]⟩,
  ⟨some 34, none, .mv, [.t 33]⟩,
  ⟨some 35, some (34, true), .mv, [.t 2]⟩,
  ⟨some 36, some (34, true), .iaS 7 (Wait.enc Wait.zero), [.t 35, .c (A.int .i64 3)]⟩,
  ⟨some 37, some (34, true), .faddr 6, [.t 36]⟩,
  ⟨some 38, some (34, true), .load 1 false, [.t 37]⟩,
  ⟨some 39, some (34, true), .bin .eql, [.t 38, .c (A.int .i64 1)]⟩,
  ⟨some 40, none, .pick, [.t 34, .t 39, .c (A.bool false)]⟩,
  ⟨some 41, none, .mv, [.t 40]⟩,
  ⟨some 42, some (41, true), .mv, [.t 2]⟩,
  ⟨some 43, some (41, true), .iaS 7 (Wait.enc Wait.zero), [.t 42, .c (A.int .i64 0)]⟩,
  ⟨some 44, some (41, true), .faddr 6, [.t 43]⟩,
  ⟨some 45, some (41, true), .load 1 false, [.t 44]⟩,
  ⟨some 46, some (41, true), .bin .eql, [.t 45, .c (A.int .i64 0)]⟩,
  ⟨some 47, none, .pick, [.t 41, .t 46, .c (A.bool false)]⟩,
  ⟨some 48, none, .mv, [.t 47]⟩,
  ⟨some 49, some (48, true), .mv, [.t 2]⟩,
  ⟨some 50, some (48, true), .call 29, [.c (A.int .i64 3)]⟩,
  ⟨some 51, some (48, true), .call 21, [.t 49, .t 50]⟩,
  ⟨some 52, some (48, true), .bin .eql, [.t 51, .c (A.int .i64 1)]⟩,
  ⟨some 53, none, .pick, [.t 48, .t 52, .c (A.bool false)]⟩,
  ⟨some 54, none, .mv, [.t 53]⟩,
  ⟨some 55, some (54, true), .mv, [.t 2]⟩,
  ⟨some 56, some (54, true), .call 29, [.c (A.int .i64 2)]⟩,
  ⟨some 57, some (54, true), .call 24, [.t 55, .t 56]⟩,
  ⟨some 58, some (54, true), .len, [.t 57]⟩,
  ⟨some 59, some (54, true), .bin .eql, [.t 58, .c (A.int .i64 3)]⟩,
  ⟨some 60, none, .pick, [.t 54, .t 59, .c (A.bool false)]⟩,
  ⟨some 0, none, .mv, [.t 60]⟩]
def pc_law11_awake : PC := (.seq (.reg [] r_law11_awake_0) (.seq (.reg [5, 6, 7, 8] r_law11_awake_1) (.seq (.reg [9, 10, 11, 12, 13, 14, 15] r_law11_awake_2) (.seq (.reg [16, 17, 18, 19, 20, 21, 22, 23, 24, 25, 26, 27, 28, 29, 30, 31, 32, 33, 34, 35, 36, 37, 38, 39, 40, 41, 42, 43, 44, 45, 46, 47, 48, 49, 50, 51, 52, 53, 54, 55, 56, 57, 58, 59, 60] r_law11_awake_3) .ret))))
theorem chk_law11_awake : chkF C.P 10 pc_law11_awake 61 [.t 0] 0 = true := by kernel_rfl

def r_ref02_ValidProc_0 : List POp := [
  ⟨some 1, none, .box 3, [.t 0]⟩,
  ⟨some 2, none, .mv, [.c (A.bool false)]⟩]
def r_ref02_ValidProc_1 : List POp := [
  ⟨some 3, none, .faddr 0, [.t 1]⟩,
  ⟨some 4, none, .load 1 false, [.t 3]⟩,
  ⟨some 5, none, .bin .geq, [.t 4, .c (A.int .i64 0)]⟩,
  ⟨some 6, none, .mv, [.t 5]⟩,
  ⟨some 7, some (6, true), .faddr 0, [.t 1]⟩,
  ⟨some 8, some (6, true), .load 1 false, [.t 7]⟩,
  ⟨some 9, some (6, true), .bin .lss, [.t 8, .c (A.int .i64 4)]⟩,
  ⟨some 10, none, .pick, [.t 6, .t 9, .c (A.bool false)]⟩,
  ⟨some 11, none, .mv, [.t 10]⟩,
  ⟨some 12, some (11, true), .faddr 1, [.t 1]⟩,
  ⟨some 13, some (11, true), .load 1 false, [.t 12]⟩,
  ⟨some 14, some (11, true), .bin .geq, [.t 13, .c (A.int .i64 1)]⟩,
  ⟨some 15, none, .pick, [.t 11, .t 14, .c (A.bool false)]⟩,
  ⟨some 16, none, .mv, [.t 15]⟩,
  ⟨some 17, some (16, true), .faddr 1, [.t 1]⟩,
  ⟨some 18, some (16, true), .load 1 false, [.t 17]⟩,
  ⟨some 19, some (16, true), .bin .leq, [.t 18, .c (A.int .i64 99)]⟩,
  ⟨some 20, none, .pick, [.t 16, .t 19, .c (A.bool false)]⟩,
  ⟨some 21, none, .mv, [.t 20]⟩,
  ⟨some 22, some (21, true), .faddr 2, [.t 1]⟩,
  ⟨some 23, some (21, true), .load 1 false, [.t 22]⟩,
  ⟨some 24, some (21, true), .bin .geq, [.t 23, .c (A.int .i64 1)]⟩,
  ⟨some 25, none, .pick, [.t 21, .t 24, .c (A.bool false)]⟩,
  ⟨some 26, none, .mv, [.t 25]⟩,
  ⟨some 27, some (26, true), .faddr 2, [.t 1]⟩,
  ⟨some 28, some (26, true), .load 1 false, [.t 27]⟩,
  ⟨some 29, some (26, true), .bin .leq, [.t 28, .c (A.int .i64 999)]⟩,
  ⟨some 30, none, .pick, [.t 26, .t 29, .c (A.bool false)]⟩,
  ⟨some 2, none, .mv, [.t 30]⟩]
def pc_ref02_ValidProc : PC := (.seq (.reg [] r_ref02_ValidProc_0) (.seq (.reg [3, 4, 5, 6, 7, 8, 9, 10, 11, 12, 13, 14, 15, 16, 17, 18, 19, 20, 21, 22, 23, 24, 25, 26, 27, 28, 29, 30] r_ref02_ValidProc_1) .ret))
theorem chk_ref02_ValidProc : chkF C.P 33 pc_ref02_ValidProc 31 [.t 2] 1 = true := by kernel_rfl

def r_ref03_Valid_0 : List POp := [
  ⟨some 2, none, .mv, [.c (A.bool false)]⟩]
def r_ref03_Valid_1 : List POp := [
  ⟨some 3, none, .mv, [.t 0]⟩,
  ⟨some 4, none, .bin .geq, [.t 3, .c (A.int .i64 1)]⟩,
  ⟨some 5, none, .mv, [.t 4]⟩,
  ⟨some 6, some (5, true), .mv, [.t 0]⟩,
  ⟨some 7, some (5, true), .bin .leq, [.t 6, .c (A.int .i64 5)]⟩,
  ⟨some 8, none, .pick, [.t 5, .t 7, .c (A.bool false)]⟩,
  ⟨some 2, none, .mv, [.t 8]⟩]
def pc_ref03_Valid : PC := (.seq (.reg [] r_ref03_Valid_0) (.seq (.reg [3, 4, 5, 6, 7, 8] r_ref03_Valid_1) .ret))
theorem chk_ref03_Valid : chkF C.P 39 pc_ref03_Valid 9 [.t 2] 1 = true := by kernel_rfl

def r_ref07_Usable_0 : List POp := [
  ⟨some 1, none, .box 2, [.t 0]⟩,
  ⟨some 2, none, .mv, [.c (A.bool false)]⟩]
def r_ref07_Usable_1 : List POp := [
  ⟨some 3, none, .faddr 0, [.t 1]⟩,
  ⟨some 4, none, .load 1 false, [.t 3]⟩,
  ⟨some 5, none, .call 39, [.t 4]⟩,
  ⟨some 6, none, .mv, [.t 5]⟩,
  ⟨some 7, some (6, true), .faddr 1, [.t 1]⟩,
  ⟨some 8, some (6, true), .load 1 false, [.t 7]⟩,
  ⟨some 9, some (6, true), .bin .eql, [.t 8, .c (A.int .i64 0)]⟩,
  ⟨some 10, none, .pick, [.t 6, .t 9, .c (A.bool false)]⟩,
  ⟨some 11, none, .mv, [.t 10]⟩,
  ⟨some 12, some (11, false), .faddr 0, [.t 1]⟩,
  ⟨some 13, some (11, false), .load 1 false, [.t 12]⟩,
  ⟨some 14, some (11, false), .bin .eql, [.t 13, .c (A.int .i64 0)]⟩,
  ⟨some 15, some (11, false), .mv, [.t 14]⟩,
  ⟨some 16, some (15, true), .faddr 1, [.t 1]⟩,
  ⟨some 17, some (15, true), .load 1 false, [.t 16]⟩,
  ⟨some 18, some (15, true), .bin .geq, [.t 17, .c (A.int .i64 1)]⟩,
  ⟨some 19, some (11, false), .pick, [.t 15, .t 18, .c (A.bool false)]⟩,
  ⟨some 20, some (11, false), .mv, [.t 19]⟩,
  ⟨some 21, some (20, true), .faddr 1, [.t 1]⟩,
  ⟨some 22, some (20, true), .load 1 false, [.t 21]⟩,
  ⟨some 23, some (20, true), .bin .leq, [.t 22, .c (A.int .i64 8)]⟩,
  ⟨some 24, some (11, false), .pick, [.t 20, .t 23, .c (A.bool false)]⟩,
  ⟨some 25, none, .pick, [.t 11, .c (A.bool true), .t 24]⟩,
  ⟨some 2, none, .mv, [.t 25]⟩]
def pc_ref07_Usable : PC := (.seq (.reg [] r_ref07_Usable_0) (.seq (.reg [3, 4, 5, 6, 7, 8, 9, 10, 11, 12, 13, 14, 15, 16, 17, 18, 19, 20, 21, 22, 23, 24, 25] r_ref07_Usable_1) .ret))
theorem chk_ref07_Usable : chkF C.P 34 pc_ref07_Usable 26 [.t 2] 1 = true := by kernel_rfl

def r_ref11_ValidWait_0 : List POp := [
  ⟨some 1, none, .box 7, [.t 0]⟩,
  ⟨some 2, none, .mv, [.c (A.bool false)]⟩]
def r_ref11_ValidWait_1 : List POp := [
  ⟨some 3, none, .faddr 0, [.t 1]⟩,
  ⟨some 4, none, .load 3 true, [.t 3]⟩,
  ⟨some 5, none, .call 33, [.t 4]⟩,
  ⟨some 6, none, .mv, [.t 5]⟩,
  ⟨some 7, some (6, true), .faddr 3, [.t 1]⟩,
  ⟨some 8, some (6, true), .load 2 true, [.t 7]⟩,
  ⟨some 9, some (6, true), .call 34, [.t 8]⟩,
  ⟨some 10, none, .pick, [.t 6, .t 9, .c (A.bool false)]⟩,
  ⟨some 11, none, .mv, [.t 10]⟩,
  ⟨some 12, some (11, true), .faddr 5, [.t 1]⟩,
  ⟨some 13, some (11, true), .load 1 false, [.t 12]⟩,
  ⟨some 14, some (11, true), .bin .geq, [.t 13, .c (A.int .i64 0)]⟩,
  ⟨some 15, none, .pick, [.t 11, .t 14, .c (A.bool false)]⟩,
  ⟨some 16, none, .mv, [.t 15]⟩,
  ⟨some 17, some (16, true), .faddr 5, [.t 1]⟩,
  ⟨some 18, some (16, true), .load 1 false, [.t 17]⟩,
  ⟨some 19, some (16, true), .bin .leq, [.t 18, .c (A.int .i64 7)]⟩,
  ⟨some 20, none, .pick, [.t 16, .t 19, .c (A.bool false)]⟩,
  ⟨some 21, none, .mv, [.t 20]⟩,
  ⟨some 22, some (21, true), .faddr 6, [.t 1]⟩,
  ⟨some 23, some (21, true), .load 1 false, [.t 22]⟩,
  ⟨some 24, some (21, true), .bin .geq, [.t 23, .c (A.int .i64 0)]⟩,
  ⟨some 25, none, .pick, [.t 21, .t 24, .c (A.bool false)]⟩,
  ⟨some 26, none, .mv, [.t 25]⟩,
  ⟨some 27, some (26, true), .faddr 6, [.t 1]⟩,
  ⟨some 28, some (26, true), .load 1 false, [.t 27]⟩,
  ⟨some 29, some (26, true), .bin .leq, [.t 28, .c (A.int .i64 3)]⟩,
  ⟨some 30, none, .pick, [.t 26, .t 29, .c (A.bool false)]⟩,
  ⟨some 2, none, .mv, [.t 30]⟩]
def pc_ref11_ValidWait : PC := (.seq (.reg [] r_ref11_ValidWait_0) (.seq (.reg [3, 4, 5, 6, 7, 8, 9, 10, 11, 12, 13, 14, 15, 16, 17, 18, 19, 20, 21, 22, 23, 24, 25, 26, 27, 28, 29, 30] r_ref11_ValidWait_1) .ret))
theorem chk_ref11_ValidWait : chkF C.P 12 pc_ref11_ValidWait 31 [.t 2] 1 = true := by kernel_rfl

def r_ref11_Find_0 : List POp := [
  ⟨some 3, none, .box 3, [.t 1]⟩,
  ⟨some 4, none, .mv, [.c (A.int .i64 0)]⟩]
def r_ref11_Find_1 : List POp := [
  ⟨some 5, none, .mv, [.c (A.int .i64 0)]⟩]
def r_ref11_Find_2 : List POp := [
  ⟨some 6, none, .mv, [.t 5]⟩,
  ⟨some 7, none, .mv, [.t 0]⟩,
  ⟨some 8, none, .len, [.t 7]⟩,
  ⟨some 9, none, .bin .lss, [.t 6, .t 8]⟩]
def r_ref11_Find_4 : List POp := [
  ⟨some 12, none, .mv, [.t 0]⟩,
  ⟨some 13, none, .mv, [.t 5]⟩,
  ⟨some 14, none, .iaS 7 (Wait.enc Wait.zero), [.t 12, .t 13]⟩,
  ⟨some 15, none, .faddr 0, [.t 14]⟩,
  ⟨some 16, none, .load 3 true, [.t 15]⟩,
  ⟨some 17, none, .load 3 true, [.t 3]⟩,
  ⟨some 18, none, .eqa false [.i .i64, .i .i64, .i .i64], [.t 16, .t 17]⟩]
def r_ref11_Find_5 : List POp := [
  ⟨some 19, none, .mv, [.t 5]⟩,
  ⟨some 4, none, .mv, [.t 19]⟩]
def r_ref11_Find_3 : List POp := [
  ⟨some 10, none, .mv, [.t 5]⟩,
  ⟨some 11, none, .bin .add, [.t 10, .c (A.int .i64 1)]⟩,
  ⟨some 5, none, .mv, [.t 11]⟩]
def r_ref11_Find_6 : List POp := [
  ⟨some 4, none, .mv, [.c (A.int .i64 (-1))]⟩]
def pc_ref11_Find : PC := (.seq (.reg [] r_ref11_Find_0) (.seq (.seq (.reg [] r_ref11_Find_1) (.block 0 (.loop (.seq (.seq (.reg [6, 7, 8] r_ref11_Find_2) (.cond (.t 9) .skip (.exit 0))) (.seq (.block 1 (.seq (.regd [12, 13, 14, 15, 16, 17] r_ref11_Find_4) (.cond (.t 18) (.seq (.reg [19] r_ref11_Find_5) .ret) .skip))) (.reg [10, 11] r_ref11_Find_3)))))) (.seq (.reg [] r_ref11_Find_6) .ret)))
theorem chk_ref11_Find : chkF C.P 22 pc_ref11_Find 20 [.t 4] 2 = true := by kernel_rfl

def r_ref11_Valid_0 : List POp := [
  ⟨some 2, none, .mv, [.c (A.bool false)]⟩]
def r_ref11_Valid_1 : List POp := [
  ⟨some 4, none, .mv, [.t 0]⟩,
  ⟨some 5, none, .len, [.t 4]⟩,
  ⟨some 6, none, .bin .gtr, [.t 5, .c (A.int .i64 8)]⟩]
def r_ref11_Valid_2 : List POp := [
  ⟨some 2, none, .mv, [.c (A.bool false)]⟩]
def r_ref11_Valid_3 : List POp := [
  ⟨some 3, none, .mv, [.c (A.int .i64 0)]⟩]
def r_ref11_Valid_4 : List POp := [
  ⟨some 7, none, .mv, [.t 3]⟩,
  ⟨some 8, none, .mv, [.t 0]⟩,
  ⟨some 9, none, .len, [.t 8]⟩,
  ⟨some 10, none, .bin .lss, [.t 7, .t 9]⟩]
def r_ref11_Valid_6 : List POp := [
  ⟨some 13, none, .mv, [.t 0]⟩,
  ⟨some 14, none, .mv, [.t 3]⟩,
  ⟨some 15, none, .iaS 7 (Wait.enc Wait.zero), [.t 13, .t 14]⟩,
  ⟨some 16, none, .load 7 true, [.t 15]⟩,
  ⟨some 17, none, .call 12, [.t 16]⟩,
  ⟨some 18, none, .not, [.t 17]⟩,
  ⟨some 19, none, .mv, [.t 18]⟩,
  ⟨some 20, some (19, false), .mv, [.t 0]⟩,
  ⟨some 21, some (19, false), .mv, [.t 0]⟩,
  ⟨some 22, some (19, false), .mv, [.t 3]⟩,
  ⟨some 23, some (19, false), .iaS 7 (Wait.enc Wait.zero), [.t 21, .t 22]⟩,
  ⟨some 24, some (19, false), .faddr 0, [.t 23]⟩,
  ⟨some 25, some (19, false), .load 3 true, [.t 24]⟩,
  ⟨some 26, some (19, false), .call 22, [.t 20, .t 25]⟩,
  ⟨some 27, some (19, false), .mv, [.t 3]⟩,
  ⟨some 28, some (19, false), .bin .neq, [.t 26, .t 27]⟩,
  ⟨some 29, none, .pick, [.t 19, .c (A.bool true), .t 28]⟩]
def r_ref11_Valid_7 : List POp := [
  ⟨some 2, none, .mv, [.c (A.bool false)]⟩]
def r_ref11_Valid_5 : List POp := [
  ⟨some 11, none, .mv, [.t 3]⟩,
  ⟨some 12, none, .bin .add, [.t 11, .c (A.int .i64 1)]⟩,
  ⟨some 3, none, .mv, [.t 12]⟩]
def r_ref11_Valid_8 : List POp := [
  ⟨some 2, none, .mv, [.c (A.bool true)]⟩]
def pc_ref11_Valid : PC := (.seq (.reg [] r_ref11_Valid_0) (.seq (.seq (.reg [4, 5] r_ref11_Valid_1) (.cond (.t 6) (.seq (.reg [] r_ref11_Valid_2) .ret) .skip)) (.seq (.seq (.reg [] r_ref11_Valid_3) (.block 0 (.loop (.seq (.seq (.reg [7, 8, 9] r_ref11_Valid_4) (.cond (.t 10) .skip (.exit 0))) (.seq (.block 1 (.seq (.reg [13, 14, 15, 16, 17, 18, 19, 20, 21, 22, 23, 24, 25, 26, 27, 28] r_ref11_Valid_6) (.cond (.t 29) (.seq (.reg [] r_ref11_Valid_7) .ret) .skip))) (.reg [11, 12] r_ref11_Valid_5)))))) (.seq (.reg [] r_ref11_Valid_8) .ret))))
theorem chk_ref11_Valid : chkF C.P 14 pc_ref11_Valid 30 [.t 2] 1 = true := by kernel_rfl

def r_law11_LineValid_0 : List POp := [
  ⟨some 3, none, .box 7, [.t 1]⟩,
  ⟨some 4, none, .mv, [.c (A.bool false)]⟩]
def r_law11_LineValid_1 : List POp := [
  ⟨some 5, none, .mv, [.t 0]⟩,
  ⟨some 6, none, .len, [.t 5]⟩,
  ⟨some 7, none, .bin .gtr, [.t 6, .c (A.int .i64 100)]⟩]
def r_law11_LineValid_2 : List POp := [
  ⟨some 8, none, .call 10, []⟩,
  ⟨some 4, none, .mv, [.t 8]⟩]
def r_law11_LineValid_3 : List POp := [
  ⟨some 9, none, .call 10, []⟩,
  ⟨some 10, none, .mv, [.t 9]⟩,
  ⟨some 11, some (10, true), .load 7 true, [.t 3]⟩,
  ⟨some 12, some (10, true), .call 11, [.t 11]⟩,
  ⟨some 13, some (10, true), .load 7 true, [.t 3]⟩,
  ⟨some 14, some (10, true), .call 12, [.t 13]⟩,
  ⟨some 15, some (10, true), .eqb false, [.t 12, .t 14]⟩,
  ⟨some 16, none, .pick, [.t 10, .t 15, .c (A.bool false)]⟩,
  ⟨some 17, none, .mv, [.t 16]⟩,
  ⟨some 18, some (17, true), .mv, [.t 0]⟩,
  ⟨some 19, some (17, true), .call 13, [.t 18]⟩,
  ⟨some 20, some (17, true), .mv, [.t 0]⟩,
  ⟨some 21, some (17, true), .call 14, [.t 20]⟩,
  ⟨some 22, some (17, true), .eqb false, [.t 19, .t 21]⟩,
  ⟨some 23, none, .pick, [.t 17, .t 22, .c (A.bool false)]⟩,
  ⟨some 4, none, .mv, [.t 23]⟩]
def pc_law11_LineValid : PC := (.seq (.reg [] r_law11_LineValid_0) (.seq (.seq (.reg [5, 6] r_law11_LineValid_1) (.cond (.t 7) (.seq (.reg [8] r_law11_LineValid_2) .ret) .skip)) (.seq (.regd [9, 10, 11, 12, 13, 14, 15, 16, 17, 18, 19, 20, 21, 22, 23] r_law11_LineValid_3) .ret)))
theorem chk_law11_LineValid : chkF C.P 3 pc_law11_LineValid 24 [.t 4] 2 = true := by kernel_rfl

def r_ref11_Insert_0 : List POp := [
  ⟨some 3, none, .box 7, [.t 1]⟩,
  ⟨some 4, none, .mv, [.c (A.sl [])]⟩,
  ⟨some 5, none, .mv, [.c (A.int .i64 0)]⟩,
  ⟨some 6, none, .mv, [.c (A.int .i64 0)]⟩]
def r_ref11_Insert_1 : List POp := [
  ⟨some 11, none, .mv, [.t 0]⟩,
  ⟨some 12, none, .call 14, [.t 11]⟩,
  ⟨some 13, none, .not, [.t 12]⟩]
def r_ref11_Insert_2 : List POp := [
  ⟨some 4, none, .mv, [.c (A.sl [])]⟩,
  ⟨some 5, none, .mv, [.c (A.int .i64 0)]⟩,
  ⟨some 6, none, .mv, [.c (A.int .i64 2)]⟩]
def r_ref11_Insert_3 : List POp := [
  ⟨some 14, none, .load 7 true, [.t 3]⟩,
  ⟨some 15, none, .call 12, [.t 14]⟩,
  ⟨some 16, none, .not, [.t 15]⟩,
  ⟨some 17, none, .mv, [.t 16]⟩,
  ⟨some 18, some (17, false), .faddr 6, [.t 3]⟩,
  ⟨some 19, some (17, false), .load 1 false, [.t 18]⟩,
  ⟨some 20, some (17, false), .bin .neq, [.t 19, .c (A.int .i64 0)]⟩,
  ⟨some 21, none, .pick, [.t 17, .c (A.bool true), .t 20]⟩]
def r_ref11_Insert_4 : List POp := [
  ⟨some 4, none, .mv, [.c (A.sl [])]⟩,
  ⟨some 5, none, .mv, [.c (A.int .i64 0)]⟩,
  ⟨some 6, none, .mv, [.c (A.int .i64 1)]⟩]
def r_ref11_Insert_5 : List POp := [
  ⟨some 22, none, .mv, [.t 0]⟩,
  ⟨some 23, none, .faddr 0, [.t 3]⟩,
  ⟨some 24, none, .load 3 true, [.t 23]⟩,
  ⟨some 25, none, .call 22, [.t 22, .t 24]⟩,
  ⟨some 26, none, .bin .geq, [.t 25, .c (A.int .i64 0)]⟩]
def r_ref11_Insert_6 : List POp := [
  ⟨some 4, none, .mv, [.c (A.sl [])]⟩,
  ⟨some 5, none, .mv, [.c (A.int .i64 0)]⟩,
  ⟨some 6, none, .mv, [.c (A.int .i64 11)]⟩]
def r_ref11_Insert_7 : List POp := [
  ⟨some 27, none, .mv, [.t 0]⟩,
  ⟨some 28, none, .len, [.t 27]⟩,
  ⟨some 29, none, .bin .eql, [.t 28, .c (A.int .i64 8)]⟩]
def r_ref11_Insert_8 : List POp := [
  ⟨some 4, none, .mv, [.c (A.sl [])]⟩,
  ⟨some 5, none, .mv, [.c (A.int .i64 0)]⟩,
  ⟨some 6, none, .mv, [.c (A.int .i64 4)]⟩]
def r_ref11_Insert_9 : List POp := [
  ⟨some 30, none, .mv, [.t 0]⟩,
  ⟨some 31, none, .len, [.t 30]⟩,
  ⟨some 7, none, .mv, [.t 31]⟩]
def r_ref11_Insert_10 : List POp := [
  ⟨some 32, none, .mv, [.t 7]⟩,
  ⟨some 33, none, .bin .gtr, [.t 32, .c (A.int .i64 0)]⟩,
  ⟨some 34, none, .mv, [.t 33]⟩,
  ⟨some 35, some (34, true), .mv, [.t 0]⟩,
  ⟨some 36, some (34, true), .mv, [.t 7]⟩,
  ⟨some 37, some (34, true), .bin .sub, [.t 36, .c (A.int .i64 1)]⟩,
  ⟨some 38, some (34, true), .iaS 7 (Wait.enc Wait.zero), [.t 35, .t 37]⟩,
  ⟨some 39, some (34, true), .faddr 5, [.t 38]⟩,
  ⟨some 40, some (34, true), .load 1 false, [.t 39]⟩,
  ⟨some 41, some (34, true), .faddr 5, [.t 3]⟩,
  ⟨some 42, some (34, true), .load 1 false, [.t 41]⟩,
  ⟨some 43, some (34, true), .bin .lss, [.t 40, .t 42]⟩,
  ⟨some 44, none, .pick, [.t 34, .t 43, .c (A.bool false)]⟩,
  ⟨some 45, none, .mv, [.t 44]⟩,
  ⟨some 46, some (45, true), .mv, [.t 0]⟩,
  ⟨some 47, some (45, true), .mv, [.t 7]⟩,
  ⟨some 48, some (45, true), .bin .sub, [.t 47, .c (A.int .i64 1)]⟩,
  ⟨some 49, some (45, true), .iaS 7 (Wait.enc Wait.zero), [.t 46, .t 48]⟩,
  ⟨some 50, some (45, true), .faddr 6, [.t 49]⟩,
  ⟨some 51, some (45, true), .load 1 false, [.t 50]⟩,
  ⟨some 52, some (45, true), .bin .lss, [.t 51, .c (A.int .i64 3)]⟩,
  ⟨some 53, none, .pick, [.t 45, .t 52, .c (A.bool false)]⟩]
def r_ref11_Insert_11 : List POp := [
  ⟨some 54, none, .mv, [.t 7]⟩,
  ⟨some 55, none, .bin .sub, [.t 54, .c (A.int .i64 1)]⟩,
  ⟨some 7, none, .mv, [.t 55]⟩]
def r_ref11_Insert_12 : List POp := [
  ⟨some 56, none, .bown 7 (Wait.enc Wait.zero), []⟩,
  ⟨some 57, none, .mv, [.t 0]⟩,
  ⟨some 58, none, .mv, [.t 7]⟩,
  ⟨some 59, none, .slc 7 false true false, [.t 57, .t 58]⟩,
  ⟨some 60, none, .append 7 56 (Wait.enc Wait.zero), [.t 56, .t 59]⟩,
  ⟨some 61, none, .load 7 true, [.t 3]⟩,
  ⟨some 62, none, .bslice 7 (Wait.enc Wait.zero), [.t 61]⟩,
  ⟨some 63, none, .append 7 56 (Wait.enc Wait.zero), [.t 60, .t 62]⟩,
  ⟨some 8, none, .mv, [.t 63]⟩]
def r_ref11_Insert_13 : List POp := [
  ⟨some 64, none, .mv, [.t 7]⟩,
  ⟨some 9, none, .mv, [.t 64]⟩]
def r_ref11_Insert_14 : List POp := [
  ⟨some 65, none, .mv, [.t 9]⟩,
  ⟨some 66, none, .mv, [.t 0]⟩,
  ⟨some 67, none, .len, [.t 66]⟩,
  ⟨some 68, none, .bin .lss, [.t 65, .t 67]⟩]
def r_ref11_Insert_16 : List POp := [
  ⟨some 71, none, .mv, [.t 0]⟩,
  ⟨some 72, none, .mv, [.t 9]⟩,
  ⟨some 73, none, .iaS 7 (Wait.enc Wait.zero), [.t 71, .t 72]⟩,
  ⟨some 74, none, .load 7 true, [.t 73]⟩,
  ⟨some 10, none, .alloc 7 (Wait.enc Wait.zero), []⟩,
  ⟨none, none, .store 7, [.t 10, .t 74]⟩]
def r_ref11_Insert_17 : List POp := [
  ⟨some 75, none, .faddr 6, [.t 10]⟩,
  ⟨some 76, none, .load 1 false, [.t 75]⟩,
  ⟨some 77, none, .bin .add, [.t 76, .c (A.int .i64 1)]⟩,
  ⟨some 78, none, .faddr 6, [.t 10]⟩,
  ⟨none, none, .store 1, [.t 78, .t 77]⟩]
def r_ref11_Insert_18 : List POp := [
  ⟨some 79, none, .mv, [.t 8]⟩,
  ⟨some 80, none, .load 7 true, [.t 10]⟩,
  ⟨some 81, none, .bslice 7 (Wait.enc Wait.zero), [.t 80]⟩,
  ⟨some 82, none, .append 7 56 (Wait.enc Wait.zero), [.t 79, .t 81]⟩,
  ⟨some 8, none, .mv, [.t 82]⟩]
def r_ref11_Insert_15 : List POp := [
  ⟨some 69, none, .mv, [.t 9]⟩,
  ⟨some 70, none, .bin .add, [.t 69, .c (A.int .i64 1)]⟩,
  ⟨some 9, none, .mv, [.t 70]⟩]
def r_ref11_Insert_19 : List POp := [
  ⟨some 83, none, .mv, [.t 8]⟩,
  ⟨some 84, none, .mv, [.t 7]⟩,
  ⟨some 4, none, .mv, [.t 83]⟩,
  ⟨some 5, none, .mv, [.t 84]⟩,
  ⟨some 6, none, .mv, [.c (A.int .i64 0)]⟩]
def pc_ref11_Insert : PC := (.seq (.reg [] r_ref11_Insert_0) (.seq (.seq (.reg [11, 12] r_ref11_Insert_1) (.cond (.t 13) (.seq (.reg [] r_ref11_Insert_2) .ret) .skip)) (.seq (.seq (.reg [14, 15, 16, 17, 18, 19, 20] r_ref11_Insert_3) (.cond (.t 21) (.seq (.reg [] r_ref11_Insert_4) .ret) .skip)) (.seq (.seq (.reg [22, 23, 24, 25] r_ref11_Insert_5) (.cond (.t 26) (.seq (.reg [] r_ref11_Insert_6) .ret) .skip)) (.seq (.seq (.reg [27, 28] r_ref11_Insert_7) (.cond (.t 29) (.seq (.reg [] r_ref11_Insert_8) .ret) .skip)) (.seq (.reg [30, 31] r_ref11_Insert_9) (.seq (.block 0 (.loop (.seq (.seq (.regd [32, 33, 34, 35, 36, 37, 38, 39, 40, 41, 42, 43, 44, 45, 46, 47, 48, 49, 50, 51, 52] r_ref11_Insert_10) (.cond (.t 53) .skip (.exit 0))) (.block 1 (.reg [54, 55] r_ref11_Insert_11))))) (.seq (.regm [56, 57, 58, 59, 60, 61, 62, 63] [[], [], [], [1, 2], [0, 3, 1, 2], [], [5], [4, 6, 4, 0, 3, 1, 2, 5, 0, 3, 1, 2], [7, 7, 0, 1, 2, 3, 4, 5, 6, 7, 4, 6, 4, 0, 3, 1, 2, 5, 0, 3, 1, 2, 4, 6, 4, 0, 3, 1, 2, 5, 0, 3, 1, 2, 1, 2, 0, 3, 1, 2, 5, 4, 6, 4, 0, 3, 1, 2, 5, 0, 3, 1, 2]] r_ref11_Insert_12) (.seq (.seq (.reg [64] r_ref11_Insert_13) (.block 2 (.loop (.seq (.seq (.reg [65, 66, 67] r_ref11_Insert_14) (.cond (.t 68) .skip (.exit 2))) (.seq (.block 3 (.seq (.reg [71, 72, 73, 74] r_ref11_Insert_16) (.seq (.reg [75, 76, 77, 78] r_ref11_Insert_17) (.reg [79, 80, 81, 82] r_ref11_Insert_18)))) (.reg [69, 70] r_ref11_Insert_15)))))) (.seq (.reg [83, 84] r_ref11_Insert_19) .ret))))))))))
theorem chk_ref11_Insert : chkF C.P 16 pc_ref11_Insert 85 [.t 4, .t 5, .t 6] 2 = true := by kernel_rfl

def r_ref11_SameWaits_0 : List POp := [
  ⟨some 4, none, .mv, [.c (A.bool false)]⟩]
def r_ref11_SameWaits_1 : List POp := [
  ⟨some 6, none, .mv, [.t 0]⟩,
  ⟨some 7, none, .len, [.t 6]⟩,
  ⟨some 8, none, .mv, [.t 1]⟩,
  ⟨some 9, none, .len, [.t 8]⟩,
  ⟨some 10, none, .bin .neq, [.t 7, .t 9]⟩]
def r_ref11_SameWaits_2 : List POp := [
  ⟨some 4, none, .mv, [.c (A.bool false)]⟩]
def r_ref11_SameWaits_3 : List POp := [
  ⟨some 5, none, .mv, [.c (A.int .i64 0)]⟩]
def r_ref11_SameWaits_4 : List POp := [
  ⟨some 11, none, .mv, [.t 5]⟩,
  ⟨some 12, none, .mv, [.t 0]⟩,
  ⟨some 13, none, .len, [.t 12]⟩,
  ⟨some 14, none, .bin .lss, [.t 11, .t 13]⟩]
def r_ref11_SameWaits_6 : List POp := [
  ⟨some 17, none, .mv, [.t 0]⟩,
  ⟨some 18, none, .mv, [.t 5]⟩,
  ⟨some 19, none, .iaS 7 (Wait.enc Wait.zero), [.t 17, .t 18]⟩,
  ⟨some 20, none, .load 7 true, [.t 19]⟩,
  ⟨some 21, none, .mv, [.t 1]⟩,
  ⟨some 22, none, .mv, [.t 5]⟩,
  ⟨some 23, none, .iaS 7 (Wait.enc Wait.zero), [.t 21, .t 22]⟩,
  ⟨some 24, none, .load 7 true, [.t 23]⟩,
  ⟨some 25, none, .eqa true [.i .i64, .i .i64, .i .i64, .i .i64, .i .i64, .i .i64, .i .i64], [.t 20, .t 24]⟩]
def r_ref11_SameWaits_7 : List POp := [
  ⟨some 4, none, .mv, [.c (A.bool false)]⟩]
def r_ref11_SameWaits_5 : List POp := [
  ⟨some 15, none, .mv, [.t 5]⟩,
  ⟨some 16, none, .bin .add, [.t 15, .c (A.int .i64 1)]⟩,
  ⟨some 5, none, .mv, [.t 16]⟩]
def r_ref11_SameWaits_8 : List POp := [
  ⟨some 4, none, .mv, [.c (A.bool true)]⟩]
def pc_ref11_SameWaits : PC := (.seq (.reg [] r_ref11_SameWaits_0) (.seq (.seq (.reg [6, 7, 8, 9] r_ref11_SameWaits_1) (.cond (.t 10) (.seq (.reg [] r_ref11_SameWaits_2) .ret) .skip)) (.seq (.seq (.reg [] r_ref11_SameWaits_3) (.block 0 (.loop (.seq (.seq (.reg [11, 12, 13] r_ref11_SameWaits_4) (.cond (.t 14) .skip (.exit 0))) (.seq (.block 1 (.seq (.regd [17, 18, 19, 20, 21, 22, 23, 24] r_ref11_SameWaits_6) (.cond (.t 25) (.seq (.reg [] r_ref11_SameWaits_7) .ret) .skip))) (.reg [15, 16] r_ref11_SameWaits_5)))))) (.seq (.reg [] r_ref11_SameWaits_8) .ret))))
theorem chk_ref11_SameWaits : chkF C.P 17 pc_ref11_SameWaits 26 [.t 4] 2 = true := by kernel_rfl

def r_law11_LineInserts_0 : List POp := [
  ⟨some 3, none, .box 7, [.t 1]⟩,
  ⟨some 4, none, .mv, [.c (A.bool false)]⟩]
def r_law11_LineInserts_1 : List POp := [
  ⟨some 11, none, .mv, [.t 0]⟩,
  ⟨some 12, none, .len, [.t 11]⟩,
  ⟨some 13, none, .bin .gtr, [.t 12, .c (A.int .i64 100)]⟩]
def r_law11_LineInserts_2 : List POp := [
  ⟨some 14, none, .call 10, []⟩,
  ⟨some 4, none, .mv, [.t 14]⟩]
def r_law11_LineInserts_3 : List POp := [
  ⟨some 16, none, .mv, [.t 0]⟩,
  ⟨some 17, none, .load 7 true, [.t 3]⟩,
  ⟨some 18, none, .call 15, [.t 16, .t 17]⟩,
  ⟨some 15, none, .mv, [.t 18]⟩,
  ⟨some 19, none, .ext 0, [.t 15]⟩,
  ⟨some 20, none, .ext 1, [.t 15]⟩,
  ⟨some 21, none, .ext 2, [.t 15]⟩,
  ⟨some 5, none, .mv, [.t 19]⟩,
  ⟨some 6, none, .mv, [.t 20]⟩,
  ⟨some 7, none, .mv, [.t 21]⟩]
def r_law11_LineInserts_4 : List POp := [
  ⟨some 23, none, .mv, [.t 0]⟩,
  ⟨some 24, none, .load 7 true, [.t 3]⟩,
  ⟨some 25, none, .call 16, [.t 23, .t 24]⟩,
  ⟨some 22, none, .mv, [.t 25]⟩,
  ⟨some 26, none, .ext 0, [.t 22]⟩,
  ⟨some 27, none, .ext 1, [.t 22]⟩,
  ⟨some 28, none, .ext 2, [.t 22]⟩,
  ⟨some 8, none, .mv, [.t 26]⟩,
  ⟨some 9, none, .mv, [.t 27]⟩,
  ⟨some 10, none, .mv, [.t 28]⟩]
def r_law11_LineInserts_5 : List POp := [
  ⟨some 29, none, .call 10, []⟩,
  ⟨some 30, none, .mv, [.t 29]⟩,
  ⟨some 31, some (30, true), .mv, [.t 7]⟩,
  ⟨some 32, some (30, true), .mv, [.t 10]⟩,
  ⟨some 33, some (30, true), .bin .eql, [.t 31, .t 32]⟩,
  ⟨some 34, none, .pick, [.t 30, .t 33, .c (A.bool false)]⟩,
  ⟨some 35, none, .mv, [.t 34]⟩,
  ⟨some 36, some (35, true), .mv, [.t 6]⟩,
  ⟨some 37, some (35, true), .mv, [.t 9]⟩,
  ⟨some 38, some (35, true), .bin .eql, [.t 36, .t 37]⟩,
  ⟨some 39, none, .pick, [.t 35, .t 38, .c (A.bool false)]⟩,
  ⟨some 40, none, .mv, [.t 39]⟩,
  ⟨some 41, some (40, true), .mv, [.t 5]⟩,
  ⟨some 42, some (40, true), .mv, [.t 8]⟩,
  ⟨some 43, some (40, true), .call 17, [.t 41, .t 42]⟩,
  ⟨some 44, none, .pick, [.t 40, .t 43, .c (A.bool false)]⟩,
  ⟨some 4, none, .mv, [.t 44]⟩]
def pc_law11_LineInserts : PC := (.seq (.reg [] r_law11_LineInserts_0) (.seq (.seq (.reg [11, 12] r_law11_LineInserts_1) (.cond (.t 13) (.seq (.reg [14] r_law11_LineInserts_2) .ret) .skip)) (.seq (.reg [15, 16, 17, 18, 19, 20, 21] r_law11_LineInserts_3) (.seq (.reg [22, 23, 24, 25, 26, 27, 28] r_law11_LineInserts_4) (.seq (.reg [29, 30, 31, 32, 33, 34, 35, 36, 37, 38, 39, 40, 41, 42, 43, 44] r_law11_LineInserts_5) .ret)))))
theorem chk_law11_LineInserts : chkF C.P 4 pc_law11_LineInserts 45 [.t 4] 2 = true := by kernel_rfl

def r_law11_LineEqual_0 : List POp := [
  ⟨some 4, none, .mv, [.c (A.bool false)]⟩]
def r_law11_LineEqual_1 : List POp := [
  ⟨some 13, none, .mv, [.t 0]⟩,
  ⟨some 14, none, .bin .lss, [.t 13, .c (A.int .i64 0)]⟩,
  ⟨some 15, none, .mv, [.t 14]⟩,
  ⟨some 16, some (15, false), .mv, [.t 0]⟩,
  ⟨some 17, some (15, false), .bin .gtr, [.t 16, .c (A.int .i64 8)]⟩,
  ⟨some 18, none, .pick, [.t 15, .c (A.bool true), .t 17]⟩,
  ⟨some 19, none, .mv, [.t 18]⟩,
  ⟨some 20, some (19, false), .mv, [.t 1]⟩,
  ⟨some 21, some (19, false), .bin .lss, [.t 20, .c (A.int .i64 0)]⟩,
  ⟨some 22, none, .pick, [.t 19, .c (A.bool true), .t 21]⟩,
  ⟨some 23, none, .mv, [.t 22]⟩,
  ⟨some 24, some (23, false), .mv, [.t 1]⟩,
  ⟨some 25, some (23, false), .bin .gtr, [.t 24, .c (A.int .i64 7)]⟩,
  ⟨some 26, none, .pick, [.t 23, .c (A.bool true), .t 25]⟩]
def r_law11_LineEqual_2 : List POp := [
  ⟨some 27, none, .call 10, []⟩,
  ⟨some 4, none, .mv, [.t 27]⟩]
def r_law11_LineEqual_3 : List POp := [
  ⟨some 5, none, .mv, [.c (A.sl [])]⟩]
def r_law11_LineEqual_4 : List POp := [
  ⟨some 6, none, .mv, [.c (A.int .i64 0)]⟩]
def r_law11_LineEqual_5 : List POp := [
  ⟨some 28, none, .mv, [.t 6]⟩,
  ⟨some 29, none, .mv, [.t 0]⟩,
  ⟨some 30, none, .bin .lss, [.t 28, .t 29]⟩]
def r_law11_LineEqual_7 : List POp := [
  ⟨some 34, none, .mv, [.t 5]⟩,
  ⟨some 35, none, .mv, [.t 6]⟩,
  ⟨some 36, none, .mv, [.t 1]⟩,
  ⟨some 37, none, .call 18, [.t 35, .t 36]⟩,
  ⟨some 38, none, .call 15, [.t 34, .t 37]⟩,
  ⟨some 33, none, .mv, [.t 38]⟩,
  ⟨some 39, none, .ext 0, [.t 33]⟩,
  ⟨some 40, none, .ext 1, [.t 33]⟩,
  ⟨some 41, none, .ext 2, [.t 33]⟩,
  ⟨some 7, none, .mv, [.t 39]⟩,
  ⟨some 8, none, .mv, [.t 40]⟩,
  ⟨some 9, none, .mv, [.t 41]⟩]
def r_law11_LineEqual_8 : List POp := [
  ⟨some 42, none, .mv, [.t 9]⟩,
  ⟨some 43, none, .bin .neq, [.t 42, .c (A.int .i64 0)]⟩,
  ⟨some 44, none, .mv, [.t 43]⟩,
  ⟨some 45, some (44, false), .mv, [.t 8]⟩,
  ⟨some 46, some (44, false), .mv, [.t 6]⟩,
  ⟨some 47, some (44, false), .bin .neq, [.t 45, .t 46]⟩,
  ⟨some 48, none, .pick, [.t 44, .c (A.bool true), .t 47]⟩]
def r_law11_LineEqual_9 : List POp := [
  ⟨some 4, none, .mv, [.c (A.bool false)]⟩]
def r_law11_LineEqual_10 : List POp := [
  ⟨some 49, none, .mv, [.t 7]⟩,
  ⟨some 5, none, .mv, [.t 49]⟩]
def r_law11_LineEqual_6 : List POp := [
  ⟨some 31, none, .mv, [.t 6]⟩,
  ⟨some 32, none, .bin .add, [.t 31, .c (A.int .i64 1)]⟩,
  ⟨some 6, none, .mv, [.t 32]⟩]
def r_law11_LineEqual_11 : List POp := [
  ⟨some 51, none, .mv, [.t 5]⟩,
  ⟨some 52, none, .mv, [.t 0]⟩,
  ⟨some 53, none, .mv, [.t 1]⟩,
  ⟨some 54, none, .call 18, [.t 52, .t 53]⟩,
  ⟨some 55, none, .call 15, [.t 51, .t 54]⟩,
  ⟨some 50, none, .mv, [.t 55]⟩,
  ⟨some 56, none, .ext 0, [.t 50]⟩,
  ⟨some 57, none, .ext 1, [.t 50]⟩,
  ⟨some 58, none, .ext 2, [.t 50]⟩,
  ⟨some 10, none, .mv, [.t 56]⟩,
  ⟨some 11, none, .mv, [.t 57]⟩,
  ⟨some 12, none, .mv, [.t 58]⟩]
def r_law11_LineEqual_12 : List POp := [
  ⟨some 59, none, .call 10, []⟩,
  ⟨some 60, none, .mv, [.t 59]⟩,
  ⟨some 61, some (60, true), .mv, [.t 5]⟩,
  ⟨some 62, some (60, true), .len, [.t 61]⟩,
  ⟨some 63, some (60, true), .mv, [.t 0]⟩,
  ⟨some 64, some (60, true), .bin .eql, [.t 62, .t 63]⟩,
  ⟨some 65, none, .pick, [.t 60, .t 64, .c (A.bool false)]⟩,
  ⟨some 66, none, .mv, [.t 65]⟩,
  ⟨some 67, some (66, true), .mv, [.t 0]⟩,
  ⟨some 68, some (66, true), .bin .lss, [.t 67, .c (A.int .i64 8)]⟩,
  ⟨some 69, some (66, true), .mv, [.t 12]⟩,
  ⟨some 70, some (66, true), .bin .eql, [.t 69, .c (A.int .i64 0)]⟩,
  ⟨some 71, some (66, true), .eqb false, [.t 68, .t 70]⟩,
  ⟨some 72, none, .pick, [.t 66, .t 71, .c (A.bool false)]⟩,
  ⟨some 4, none, .mv, [.t 72]⟩]
def pc_law11_LineEqual : PC := (.seq (.reg [] r_law11_LineEqual_0) (.seq (.seq (.reg [13, 14, 15, 16, 17, 18, 19, 20, 21, 22, 23, 24, 25] r_law11_LineEqual_1) (.cond (.t 26) (.seq (.reg [27] r_law11_LineEqual_2) .ret) .skip)) (.seq (.reg [] r_law11_LineEqual_3) (.seq (.seq (.reg [] r_law11_LineEqual_4) (.block 0 (.loop (.seq (.seq (.reg [28, 29] r_law11_LineEqual_5) (.cond (.t 30) .skip (.exit 0))) (.seq (.block 1 (.seq (.reg [33, 34, 35, 36, 37, 38, 39, 40, 41] r_law11_LineEqual_7) (.seq (.seq (.reg [42, 43, 44, 45, 46, 47] r_law11_LineEqual_8) (.cond (.t 48) (.seq (.reg [] r_law11_LineEqual_9) .ret) .skip)) (.reg [49] r_law11_LineEqual_10)))) (.reg [31, 32] r_law11_LineEqual_6)))))) (.seq (.reg [10, 11, 50, 51, 52, 53, 54, 55, 56, 57, 58] r_law11_LineEqual_11) (.seq (.reg [59, 60, 61, 62, 63, 64, 65, 66, 67, 68, 69, 70, 71, 72] r_law11_LineEqual_12) .ret))))))
theorem chk_law11_LineEqual : chkF C.P 5 pc_law11_LineEqual 73 [.t 4] 2 = true := by kernel_rfl

def r_line_Remove_0 : List POp := [
  ⟨some 3, none, .box 3, [.t 1]⟩,
  ⟨some 4, none, .mv, [.c (A.sl [])]⟩,
  ⟨some 5, none, .mv, [.c (A.bool false)]⟩]
def r_line_Remove_1 : List POp := [
  ⟨some 6, none, .nilown 7 (Wait.enc Wait.zero), [.c (A.full [])]⟩]
def r_line_Remove_2 : List POp := [
  ⟨some 9, none, .mv, [.t 0]⟩,
  ⟨some 10, none, .len, [.t 9]⟩,
  ⟨some 11, none, .mv, [.c (A.int .i64 0)]⟩]
def r_line_Remove_3 : List POp := [
  ⟨some 12, none, .bin .lss, [.t 11, .t 10]⟩]
def r_line_Remove_4 : List POp := [
  ⟨some 13, none, .iaS 7 (Wait.enc Wait.zero), [.t 9, .t 11]⟩,
  ⟨some 14, none, .load 7 true, [.t 13]⟩,
  ⟨some 8, none, .alloc 7 (Wait.enc Wait.zero), []⟩,
  ⟨none, none, .store 7, [.t 8, .t 14]⟩]
def r_line_Remove_5 : List POp := [
  ⟨some 15, none, .faddr 0, [.t 8]⟩,
  ⟨some 16, none, .load 3 true, [.t 15]⟩,
  ⟨some 17, none, .load 3 true, [.t 3]⟩,
  ⟨some 18, none, .eqa true [.i .i64, .i .i64, .i .i64], [.t 16, .t 17]⟩]
def r_line_Remove_6 : List POp := [
  ⟨some 19, none, .mv, [.t 6]⟩,
  ⟨some 20, none, .load 7 true, [.t 8]⟩,
  ⟨some 21, none, .bslice 7 (Wait.enc Wait.zero), [.t 20]⟩,
  ⟨some 22, none, .append 7 56 (Wait.enc Wait.zero), [.t 19, .t 21]⟩,
  ⟨some 6, none, .mv, [.t 22]⟩]
def r_line_Remove_7 : List POp := [
  ⟨some 23, none, .bin .add, [.t 11, .c (A.int .i64 1)]⟩,
  ⟨some 11, none, .mv, [.t 23]⟩]
def r_line_Remove_8 : List POp := [
  ⟨some 24, none, .mv, [.t 6]⟩,
  ⟨some 25, none, .mv, [.t 6]⟩,
  ⟨some 26, none, .len, [.t 25]⟩,
  ⟨some 27, none, .mv, [.t 0]⟩,
  ⟨some 28, none, .len, [.t 27]⟩,
  ⟨some 29, none, .bin .lss, [.t 26, .t 28]⟩,
  ⟨some 4, none, .mv, [.t 24]⟩,
  ⟨some 5, none, .mv, [.t 29]⟩]
def pc_line_Remove : PC := (.seq (.reg [] r_line_Remove_0) (.seq (.reg [] r_line_Remove_1) (.seq (.seq (.reg [] r_line_Remove_2) (.block 0 (.loop (.seq (.reg [] r_line_Remove_3) (.seq (.cond (.t 12) .skip (.exit 0)) (.seq (.block 1 (.seq (.reg [13, 14] r_line_Remove_4) (.seq (.reg [15, 16, 17] r_line_Remove_5) (.cond (.t 18) (.reg [19, 20, 21, 22] r_line_Remove_6) .skip)))) (.reg [23] r_line_Remove_7))))))) (.seq (.reg [24, 25, 26, 27, 28, 29] r_line_Remove_8) .ret))))
theorem chk_line_Remove : chkF C.P 19 pc_line_Remove 30 [.t 4, .t 5] 2 = true := by kernel_rfl

def r_ref11_Remove_0 : List POp := [
  ⟨some 3, none, .box 3, [.t 1]⟩,
  ⟨some 4, none, .mv, [.c (A.sl [])]⟩,
  ⟨some 5, none, .mv, [.c (A.bool false)]⟩]
def r_ref11_Remove_1 : List POp := [
  ⟨some 6, none, .nilown 7 (Wait.enc Wait.zero), [.c (A.full [])]⟩]
def r_ref11_Remove_2 : List POp := [
  ⟨some 7, none, .mv, [.c (A.int .i64 0)]⟩]
def r_ref11_Remove_3 : List POp := [
  ⟨some 8, none, .mv, [.t 7]⟩,
  ⟨some 9, none, .mv, [.t 0]⟩,
  ⟨some 10, none, .len, [.t 9]⟩,
  ⟨some 11, none, .bin .lss, [.t 8, .t 10]⟩]
def r_ref11_Remove_5 : List POp := [
  ⟨some 14, none, .mv, [.t 0]⟩,
  ⟨some 15, none, .mv, [.t 7]⟩,
  ⟨some 16, none, .iaS 7 (Wait.enc Wait.zero), [.t 14, .t 15]⟩,
  ⟨some 17, none, .faddr 0, [.t 16]⟩,
  ⟨some 18, none, .load 3 true, [.t 17]⟩,
  ⟨some 19, none, .load 3 true, [.t 3]⟩,
  ⟨some 20, none, .eqa true [.i .i64, .i .i64, .i .i64], [.t 18, .t 19]⟩]
def r_ref11_Remove_6 : List POp := [
  ⟨some 21, none, .mv, [.t 6]⟩,
  ⟨some 22, none, .mv, [.t 0]⟩,
  ⟨some 23, none, .mv, [.t 7]⟩,
  ⟨some 24, none, .iaS 7 (Wait.enc Wait.zero), [.t 22, .t 23]⟩,
  ⟨some 25, none, .load 7 true, [.t 24]⟩,
  ⟨some 26, none, .bslice 7 (Wait.enc Wait.zero), [.t 25]⟩,
  ⟨some 27, none, .append 7 56 (Wait.enc Wait.zero), [.t 21, .t 26]⟩,
  ⟨some 6, none, .mv, [.t 27]⟩]
def r_ref11_Remove_4 : List POp := [
  ⟨some 12, none, .mv, [.t 7]⟩,
  ⟨some 13, none, .bin .add, [.t 12, .c (A.int .i64 1)]⟩,
  ⟨some 7, none, .mv, [.t 13]⟩]
def r_ref11_Remove_7 : List POp := [
  ⟨some 28, none, .mv, [.t 6]⟩,
  ⟨some 29, none, .mv, [.t 6]⟩,
  ⟨some 30, none, .len, [.t 29]⟩,
  ⟨some 31, none, .mv, [.t 0]⟩,
  ⟨some 32, none, .len, [.t 31]⟩,
  ⟨some 33, none, .bin .lss, [.t 30, .t 32]⟩,
  ⟨some 4, none, .mv, [.t 28]⟩,
  ⟨some 5, none, .mv, [.t 33]⟩]
def pc_ref11_Remove : PC := (.seq (.reg [] r_ref11_Remove_0) (.seq (.reg [] r_ref11_Remove_1) (.seq (.seq (.reg [] r_ref11_Remove_2) (.block 0 (.loop (.seq (.seq (.reg [8, 9, 10] r_ref11_Remove_3) (.cond (.t 11) .skip (.exit 0))) (.seq (.block 1 (.seq (.regd [14, 15, 16, 17, 18, 19] r_ref11_Remove_5) (.cond (.t 20) (.reg [21, 22, 23, 24, 25, 26, 27] r_ref11_Remove_6) .skip))) (.reg [12, 13] r_ref11_Remove_4)))))) (.seq (.reg [28, 29, 30, 31, 32, 33] r_ref11_Remove_7) .ret))))
theorem chk_ref11_Remove : chkF C.P 20 pc_ref11_Remove 34 [.t 4, .t 5] 2 = true := by kernel_rfl

def r_ref11_Ahead_0 : List POp := [
  ⟨some 3, none, .box 3, [.t 1]⟩,
  ⟨some 4, none, .mv, [.c (A.sl [])]⟩]
def r_ref11_Ahead_1 : List POp := [
  ⟨some 5, none, .nilown 3 (Proc.enc Proc.zero), [.c (A.full [])]⟩]
def r_ref11_Ahead_2 : List POp := [
  ⟨some 8, none, .mv, [.t 0]⟩,
  ⟨some 9, none, .load 3 true, [.t 3]⟩,
  ⟨some 10, none, .call 22, [.t 8, .t 9]⟩,
  ⟨some 6, none, .mv, [.t 10]⟩]
def r_ref11_Ahead_3 : List POp := [
  ⟨some 7, none, .mv, [.c (A.int .i64 0)]⟩]
def r_ref11_Ahead_4 : List POp := [
  ⟨some 11, none, .mv, [.t 7]⟩,
  ⟨some 12, none, .mv, [.t 6]⟩,
  ⟨some 13, none, .bin .lss, [.t 11, .t 12]⟩]
def r_ref11_Ahead_6 : List POp := [
  ⟨some 16, none, .mv, [.t 5]⟩,
  ⟨some 17, none, .mv, [.t 0]⟩,
  ⟨some 18, none, .mv, [.t 7]⟩,
  ⟨some 19, none, .iaS 7 (Wait.enc Wait.zero), [.t 17, .t 18]⟩,
  ⟨some 20, none, .faddr 0, [.t 19]⟩,
  ⟨some 21, none, .load 3 true, [.t 20]⟩,
  ⟨some 22, none, .bslice 3 (Proc.enc Proc.zero), [.t 21]⟩,
  ⟨some 23, none, .append 3 24 (Proc.enc Proc.zero), [.t 16, .t 22]⟩,
  ⟨some 5, none, .mv, [.t 23]⟩]
def r_ref11_Ahead_5 : List POp := [
  ⟨some 14, none, .mv, [.t 7]⟩,
  ⟨some 15, none, .bin .add, [.t 14, .c (A.int .i64 1)]⟩,
  ⟨some 7, none, .mv, [.t 15]⟩]
def r_ref11_Ahead_7 : List POp := [
  ⟨some 24, none, .mv, [.t 5]⟩,
  ⟨some 4, none, .mv, [.t 24]⟩]
def pc_ref11_Ahead : PC := (.seq (.reg [] r_ref11_Ahead_0) (.seq (.reg [] r_ref11_Ahead_1) (.seq (.reg [8, 9, 10] r_ref11_Ahead_2) (.seq (.seq (.reg [] r_ref11_Ahead_3) (.block 0 (.loop (.seq (.seq (.reg [11, 12] r_ref11_Ahead_4) (.cond (.t 13) .skip (.exit 0))) (.seq (.block 1 (.reg [16, 17, 18, 19, 20, 21, 22, 23] r_ref11_Ahead_6)) (.reg [14, 15] r_ref11_Ahead_5)))))) (.seq (.reg [24] r_ref11_Ahead_7) .ret)))))
theorem chk_ref11_Ahead : chkF C.P 25 pc_ref11_Ahead 25 [.t 4] 2 = true := by kernel_rfl

def r_ref02_SameProcs_0 : List POp := [
  ⟨some 4, none, .mv, [.c (A.bool false)]⟩]
def r_ref02_SameProcs_1 : List POp := [
  ⟨some 6, none, .mv, [.t 0]⟩,
  ⟨some 7, none, .len, [.t 6]⟩,
  ⟨some 8, none, .mv, [.t 1]⟩,
  ⟨some 9, none, .len, [.t 8]⟩,
  ⟨some 10, none, .bin .neq, [.t 7, .t 9]⟩]
def r_ref02_SameProcs_2 : List POp := [
  ⟨some 4, none, .mv, [.c (A.bool false)]⟩]
def r_ref02_SameProcs_3 : List POp := [
  ⟨some 5, none, .mv, [.c (A.int .i64 0)]⟩]
def r_ref02_SameProcs_4 : List POp := [
  ⟨some 11, none, .mv, [.t 5]⟩,
  ⟨some 12, none, .mv, [.t 0]⟩,
  ⟨some 13, none, .len, [.t 12]⟩,
  ⟨some 14, none, .bin .lss, [.t 11, .t 13]⟩]
def r_ref02_SameProcs_6 : List POp := [
  ⟨some 17, none, .mv, [.t 0]⟩,
  ⟨some 18, none, .mv, [.t 5]⟩,
  ⟨some 19, none, .iaS 3 (Proc.enc Proc.zero), [.t 17, .t 18]⟩,
  ⟨some 20, none, .load 3 true, [.t 19]⟩,
  ⟨some 21, none, .mv, [.t 1]⟩,
  ⟨some 22, none, .mv, [.t 5]⟩,
  ⟨some 23, none, .iaS 3 (Proc.enc Proc.zero), [.t 21, .t 22]⟩,
  ⟨some 24, none, .load 3 true, [.t 23]⟩,
  ⟨some 25, none, .eqa true [.i .i64, .i .i64, .i .i64], [.t 20, .t 24]⟩]
def r_ref02_SameProcs_7 : List POp := [
  ⟨some 4, none, .mv, [.c (A.bool false)]⟩]
def r_ref02_SameProcs_5 : List POp := [
  ⟨some 15, none, .mv, [.t 5]⟩,
  ⟨some 16, none, .bin .add, [.t 15, .c (A.int .i64 1)]⟩,
  ⟨some 5, none, .mv, [.t 16]⟩]
def r_ref02_SameProcs_8 : List POp := [
  ⟨some 4, none, .mv, [.c (A.bool true)]⟩]
def pc_ref02_SameProcs : PC := (.seq (.reg [] r_ref02_SameProcs_0) (.seq (.seq (.reg [6, 7, 8, 9] r_ref02_SameProcs_1) (.cond (.t 10) (.seq (.reg [] r_ref02_SameProcs_2) .ret) .skip)) (.seq (.seq (.reg [] r_ref02_SameProcs_3) (.block 0 (.loop (.seq (.seq (.reg [11, 12, 13] r_ref02_SameProcs_4) (.cond (.t 14) .skip (.exit 0))) (.seq (.block 1 (.seq (.regd [17, 18, 19, 20, 21, 22, 23, 24] r_ref02_SameProcs_6) (.cond (.t 25) (.seq (.reg [] r_ref02_SameProcs_7) .ret) .skip))) (.reg [15, 16] r_ref02_SameProcs_5)))))) (.seq (.reg [] r_ref02_SameProcs_8) .ret))))
theorem chk_ref02_SameProcs : chkF C.P 23 pc_ref02_SameProcs 26 [.t 4] 2 = true := by kernel_rfl

def r_law11_LineLooks_0 : List POp := [
  ⟨some 3, none, .box 3, [.t 1]⟩,
  ⟨some 4, none, .mv, [.c (A.bool false)]⟩]
def r_law11_LineLooks_1 : List POp := [
  ⟨some 9, none, .mv, [.t 0]⟩,
  ⟨some 10, none, .len, [.t 9]⟩,
  ⟨some 11, none, .bin .gtr, [.t 10, .c (A.int .i64 100)]⟩]
def r_law11_LineLooks_2 : List POp := [
  ⟨some 12, none, .call 10, []⟩,
  ⟨some 4, none, .mv, [.t 12]⟩]
def r_law11_LineLooks_3 : List POp := [
  ⟨some 14, none, .mv, [.t 0]⟩,
  ⟨some 15, none, .load 3 true, [.t 3]⟩,
  ⟨some 16, none, .call 19, [.t 14, .t 15]⟩,
  ⟨some 13, none, .mv, [.t 16]⟩,
  ⟨some 17, none, .ext 0, [.t 13]⟩,
  ⟨some 18, none, .ext 1, [.t 13]⟩,
  ⟨some 5, none, .mv, [.t 17]⟩,
  ⟨some 6, none, .mv, [.t 18]⟩]
def r_law11_LineLooks_4 : List POp := [
  ⟨some 20, none, .mv, [.t 0]⟩,
  ⟨some 21, none, .load 3 true, [.t 3]⟩,
  ⟨some 22, none, .call 20, [.t 20, .t 21]⟩,
  ⟨some 19, none, .mv, [.t 22]⟩,
  ⟨some 23, none, .ext 0, [.t 19]⟩,
  ⟨some 24, none, .ext 1, [.t 19]⟩,
  ⟨some 7, none, .mv, [.t 23]⟩,
  ⟨some 8, none, .mv, [.t 24]⟩]
def r_law11_LineLooks_5 : List POp := [
  ⟨some 25, none, .call 10, []⟩,
  ⟨some 26, none, .mv, [.t 25]⟩,
  ⟨some 27, some (26, true), .mv, [.t 0]⟩,
  ⟨some 28, some (26, true), .load 3 true, [.t 3]⟩,
  ⟨some 29, some (26, true), .call 21, [.t 27, .t 28]⟩,
  ⟨some 30, some (26, true), .mv, [.t 0]⟩,
  ⟨some 31, some (26, true), .load 3 true, [.t 3]⟩,
  ⟨some 32, some (26, true), .call 22, [.t 30, .t 31]⟩,
  ⟨some 33, some (26, true), .bin .eql, [.t 29, .t 32]⟩,
  ⟨some 34, none, .pick, [.t 26, .t 33, .c (A.bool false)]⟩,
  ⟨some 35, none, .mv, [.t 34]⟩,
  ⟨some 36, some (35, true), .mv, [.t 0]⟩,
  ⟨some 37, some (35, true), .load 3 true, [.t 3]⟩,
  ⟨some 38, some (35, true), .call 24, [.t 36, .t 37]⟩,
  ⟨some 39, some (35, true), .mv, [.t 0]⟩,
  ⟨some 40, some (35, true), .load 3 true, [.t 3]⟩,
  ⟨some 41, some (35, true), .call 25, [.t 39, .t 40]⟩,
  ⟨some 42, some (35, true), .call 23, [.t 38, .t 41]⟩,
  ⟨some 43, none, .pick, [.t 35, .t 42, .c (A.bool false)]⟩,
  ⟨some 44, none, .mv, [.t 43]⟩,
  ⟨some 45, some (44, true), .mv, [.t 6]⟩,
  ⟨some 46, some (44, true), .mv, [.t 8]⟩,
  ⟨some 47, some (44, true), .eqb false, [.t 45, .t 46]⟩,
  ⟨some 48, none, .pick, [.t 44, .t 47, .c (A.bool false)]⟩,
  ⟨some 49, none, .mv, [.t 48]⟩,
  ⟨some 50, some (49, true), .mv, [.t 5]⟩,
  ⟨some 51, some (49, true), .mv, [.t 7]⟩,
  ⟨some 52, some (49, true), .call 17, [.t 50, .t 51]⟩,
  ⟨some 53, none, .pick, [.t 49, .t 52, .c (A.bool false)]⟩,
  ⟨some 4, none, .mv, [.t 53]⟩]
def pc_law11_LineLooks : PC := (.seq (.reg [] r_law11_LineLooks_0) (.seq (.seq (.reg [9, 10] r_law11_LineLooks_1) (.cond (.t 11) (.seq (.reg [12] r_law11_LineLooks_2) .ret) .skip)) (.seq (.reg [13, 14, 15, 16, 17, 18] r_law11_LineLooks_3) (.seq (.reg [19, 20, 21, 22, 23, 24] r_law11_LineLooks_4) (.seq (.regd [25, 26, 27, 28, 29, 30, 31, 32, 33, 34, 35, 36, 37, 38, 39, 40, 41, 42, 43, 44, 45, 46, 47, 48, 49, 50, 51, 52, 53] r_law11_LineLooks_5) .ret)))))
theorem chk_law11_LineLooks : chkF C.P 6 pc_law11_LineLooks 54 [.t 4] 2 = true := by kernel_rfl

def r_law11_LineKeeps_0 : List POp := [
  ⟨some 3, none, .box 7, [.t 1]⟩,
  ⟨some 4, none, .mv, [.c (A.bool false)]⟩]
def r_law11_LineKeeps_1 : List POp := [
  ⟨some 13, none, .mv, [.t 0]⟩,
  ⟨some 14, none, .load 7 true, [.t 3]⟩,
  ⟨some 15, none, .call 15, [.t 13, .t 14]⟩,
  ⟨some 12, none, .mv, [.t 15]⟩,
  ⟨some 16, none, .ext 0, [.t 12]⟩,
  ⟨some 17, none, .ext 1, [.t 12]⟩,
  ⟨some 18, none, .ext 2, [.t 12]⟩,
  ⟨some 5, none, .mv, [.t 16]⟩,
  ⟨some 6, none, .mv, [.t 17]⟩,
  ⟨some 7, none, .mv, [.t 18]⟩]
def r_law11_LineKeeps_2 : List POp := [
  ⟨some 19, none, .mv, [.t 7]⟩,
  ⟨some 20, none, .bin .neq, [.t 19, .c (A.int .i64 0)]⟩]
def r_law11_LineKeeps_3 : List POp := [
  ⟨some 21, none, .call 10, []⟩,
  ⟨some 22, none, .mv, [.t 21]⟩,
  ⟨some 23, some (22, true), .mv, [.t 5]⟩,
  ⟨some 24, some (22, true), .len, [.t 23]⟩,
  ⟨some 25, some (22, true), .bin .eql, [.t 24, .c (A.int .i64 0)]⟩,
  ⟨some 26, none, .pick, [.t 22, .t 25, .c (A.bool false)]⟩,
  ⟨some 27, none, .mv, [.t 26]⟩,
  ⟨some 28, some (27, true), .mv, [.t 6]⟩,
  ⟨some 29, some (27, true), .bin .eql, [.t 28, .c (A.int .i64 0)]⟩,
  ⟨some 30, none, .pick, [.t 27, .t 29, .c (A.bool false)]⟩,
  ⟨some 4, none, .mv, [.t 30]⟩]
def r_law11_LineKeeps_4 : List POp := [
  ⟨some 32, none, .mv, [.t 5]⟩,
  ⟨some 33, none, .faddr 0, [.t 3]⟩,
  ⟨some 34, none, .load 3 true, [.t 33]⟩,
  ⟨some 35, none, .call 19, [.t 32, .t 34]⟩,
  ⟨some 31, none, .mv, [.t 35]⟩,
  ⟨some 36, none, .ext 0, [.t 31]⟩,
  ⟨some 37, none, .ext 1, [.t 31]⟩,
  ⟨some 8, none, .mv, [.t 36]⟩,
  ⟨some 9, none, .mv, [.t 37]⟩]
def r_law11_LineKeeps_5 : List POp := [
  ⟨some 38, none, .call 10, []⟩,
  ⟨some 39, none, .not, [.t 38]⟩,
  ⟨some 40, none, .mv, [.t 39]⟩,
  ⟨some 41, some (40, false), .mv, [.t 9]⟩,
  ⟨some 42, some (40, false), .not, [.t 41]⟩,
  ⟨some 43, none, .pick, [.t 40, .c (A.bool true), .t 42]⟩,
  ⟨some 44, none, .mv, [.t 43]⟩,
  ⟨some 45, some (44, false), .mv, [.t 8]⟩,
  ⟨some 46, some (44, false), .len, [.t 45]⟩,
  ⟨some 47, some (44, false), .mv, [.t 0]⟩,
  ⟨some 48, some (44, false), .len, [.t 47]⟩,
  ⟨some 49, some (44, false), .bin .neq, [.t 46, .t 48]⟩,
  ⟨some 50, none, .pick, [.t 44, .c (A.bool true), .t 49]⟩,
  ⟨some 51, none, .mv, [.t 50]⟩,
  ⟨some 52, some (51, false), .mv, [.t 5]⟩,
  ⟨some 53, some (51, false), .faddr 0, [.t 3]⟩,
  ⟨some 54, some (51, false), .load 3 true, [.t 53]⟩,
  ⟨some 55, some (51, false), .call 21, [.t 52, .t 54]⟩,
  ⟨some 56, some (51, false), .mv, [.t 6]⟩,
  ⟨some 57, some (51, false), .bin .neq, [.t 55, .t 56]⟩,
  ⟨some 58, none, .pick, [.t 51, .c (A.bool true), .t 57]⟩]
def r_law11_LineKeeps_6 : List POp := [
  ⟨some 4, none, .mv, [.c (A.bool false)]⟩]
def r_law11_LineKeeps_7 : List POp := [
  ⟨some 10, none, .mv, [.c (A.int .i64 0)]⟩]
def r_law11_LineKeeps_8 : List POp := [
  ⟨some 59, none, .mv, [.t 10]⟩,
  ⟨some 60, none, .mv, [.t 0]⟩,
  ⟨some 61, none, .len, [.t 60]⟩,
  ⟨some 62, none, .bin .lss, [.t 59, .t 61]⟩]
def r_law11_LineKeeps_10 : List POp := [
  ⟨some 65, none, .mv, [.t 8]⟩,
  ⟨some 66, none, .mv, [.t 10]⟩,
  ⟨some 67, none, .iaS 7 (Wait.enc Wait.zero), [.t 65, .t 66]⟩,
  ⟨some 68, none, .load 7 true, [.t 67]⟩,
  ⟨some 11, none, .alloc 7 (Wait.enc Wait.zero), []⟩,
  ⟨none, none, .store 7, [.t 11, .t 68]⟩]
def r_law11_LineKeeps_11 : List POp := [
  ⟨some 69, none, .mv, [.t 0]⟩,
  ⟨some 70, none, .mv, [.t 10]⟩,
  ⟨some 71, none, .iaS 7 (Wait.enc Wait.zero), [.t 69, .t 70]⟩,
  ⟨some 72, none, .faddr 6, [.t 71]⟩,
  ⟨some 73, none, .load 1 false, [.t 72]⟩,
  ⟨some 74, none, .faddr 6, [.t 11]⟩,
  ⟨none, none, .store 1, [.t 74, .t 73]⟩]
def r_law11_LineKeeps_12 : List POp := [
  ⟨some 75, none, .load 7 true, [.t 11]⟩,
  ⟨some 76, none, .mv, [.t 0]⟩,
  ⟨some 77, none, .mv, [.t 10]⟩,
  ⟨some 78, none, .iaS 7 (Wait.enc Wait.zero), [.t 76, .t 77]⟩,
  ⟨some 79, none, .load 7 true, [.t 78]⟩,
  ⟨some 80, none, .eqa true [.i .i64, .i .i64, .i .i64, .i .i64, .i .i64, .i .i64, .i .i64], [.t 75, .t 79]⟩,
  ⟨some 81, none, .mv, [.t 80]⟩,
  ⟨some 82, some (81, false), .mv, [.t 8]⟩,
  ⟨some 83, some (81, false), .mv, [.t 10]⟩,
  ⟨some 84, some (81, false), .iaS 7 (Wait.enc Wait.zero), [.t 82, .t 83]⟩,
  ⟨some 85, some (81, false), .faddr 6, [.t 84]⟩,
  ⟨some 86, some (81, false), .load 1 false, [.t 85]⟩,
  ⟨some 87, some (81, false), .mv, [.t 0]⟩,
  ⟨some 88, some (81, false), .mv, [.t 10]⟩,
  ⟨some 89, some (81, false), .iaS 7 (Wait.enc Wait.zero), [.t 87, .t 88]⟩,
  ⟨some 90, some (81, false), .faddr 6, [.t 89]⟩,
  ⟨some 91, some (81, false), .load 1 false, [.t 90]⟩,
  ⟨some 92, some (81, false), .bin .neq, [.t 86, .t 91]⟩,
  ⟨some 93, some (81, false), .mv, [.t 92]⟩,
  ⟨some 94, some (93, true), .mv, [.t 8]⟩,
  ⟨some 95, some (93, true), .mv, [.t 10]⟩,
  ⟨some 96, some (93, true), .iaS 7 (Wait.enc Wait.zero), [.t 94, .t 95]⟩,
  ⟨some 97, some (93, true), .faddr 6, [.t 96]⟩,
  ⟨some 98, some (93, true), .load 1 false, [.t 97]⟩,
  ⟨some 99, some (93, true), .mv, [.t 0]⟩,
  ⟨some 100, some (93, true), .mv, [.t 10]⟩,
  ⟨some 101, some (93, true), .iaS 7 (Wait.enc Wait.zero), [.t 99, .t 100]⟩,
  ⟨some 102, some (93, true), .faddr 6, [.t 101]⟩,
  ⟨some 103, some (93, true), .load 1 false, [.t 102]⟩,
  ⟨some 104, some (93, true), .bin .add, [.t 103, .c (A.int .i64 1)]⟩,
  ⟨some 105, some (93, true), .bin .neq, [.t 98, .t 104]⟩,
  ⟨some 106, some (81, false), .pick, [.t 93, .t 105, .c (A.bool false)]⟩,
  ⟨some 107, none, .pick, [.t 81, .c (A.bool true), .t 106]⟩,
  ⟨some 108, none, .mv, [.t 107]⟩,
  ⟨some 109, some (108, false), .mv, [.t 8]⟩,
  ⟨some 110, some (108, false), .mv, [.t 10]⟩,
  ⟨some 111, some (108, false), .iaS 7 (Wait.enc Wait.zero), [.t 109, .t 110]⟩,
  ⟨some 112, some (108, false), .faddr 6, [.t 111]⟩,
  ⟨some 113, some (108, false), .load 1 false, [.t 112]⟩,
  ⟨some 114, some (108, false), .mv, [.t 0]⟩,
  ⟨some 115, some (108, false), .mv, [.t 10]⟩,
  ⟨some 116, some (108, false), .iaS 7 (Wait.enc Wait.zero), [.t 114, .t 115]⟩,
  ⟨some 117, some (108, false), .faddr 6, [.t 116]⟩,
  ⟨some 118, some (108, false), .load 1 false, [.t 117]⟩,
  ⟨some 119, some (108, false), .bin .gtr, [.t 113, .t 118]⟩,
  ⟨some 120, some (108, false), .mv, [.t 10]⟩,
  ⟨some 121, some (108, false), .mv, [.t 6]⟩,
  ⟨some 122, some (108, false), .bin .geq, [.t 120, .t 121]⟩,
  ⟨some 123, some (108, false), .eqb true, [.t 119, .t 122]⟩,
  ⟨some 124, none, .pick, [.t 108, .c (A.bool true), .t 123]⟩]
def r_law11_LineKeeps_13 : List POp := [
  ⟨some 4, none, .mv, [.c (A.bool false)]⟩]
def r_law11_LineKeeps_9 : List POp := [
  ⟨some 63, none, .mv, [.t 10]⟩,
  ⟨some 64, none, .bin .add, [.t 63, .c (A.int .i64 1)]⟩,
  ⟨some 10, none, .mv, [.t 64]⟩]
def r_law11_LineKeeps_14 : List POp := [
  ⟨some 4, none, .mv, [.c (A.bool true)]⟩]
def pc_law11_LineKeeps : PC := (.seq (.reg [] r_law11_LineKeeps_0) (.seq (.reg [12, 13, 14, 15, 16, 17, 18] r_law11_LineKeeps_1) (.seq (.seq (.reg [19] r_law11_LineKeeps_2) (.cond (.t 20) (.seq (.reg [21, 22, 23, 24, 25, 26, 27, 28, 29, 30] r_law11_LineKeeps_3) .ret) .skip)) (.seq (.reg [31, 32, 33, 34, 35, 36, 37] r_law11_LineKeeps_4) (.seq (.seq (.reg [38, 39, 40, 41, 42, 43, 44, 45, 46, 47, 48, 49, 50, 51, 52, 53, 54, 55, 56, 57] r_law11_LineKeeps_5) (.cond (.t 58) (.seq (.reg [] r_law11_LineKeeps_6) .ret) .skip)) (.seq (.seq (.reg [] r_law11_LineKeeps_7) (.block 0 (.loop (.seq (.seq (.reg [59, 60, 61] r_law11_LineKeeps_8) (.cond (.t 62) .skip (.exit 0))) (.seq (.block 1 (.seq (.reg [65, 66, 67, 68] r_law11_LineKeeps_10) (.seq (.reg [69, 70, 71, 72, 73, 74] r_law11_LineKeeps_11) (.seq (.regd [75, 76, 77, 78, 79, 80, 81, 82, 83, 84, 85, 86, 87, 88, 89, 90, 91, 92, 93, 94, 95, 96, 97, 98, 99, 100, 101, 102, 103, 104, 105, 106, 107, 108, 109, 110, 111, 112, 113, 114, 115, 116, 117, 118, 119, 120, 121, 122, 123] r_law11_LineKeeps_12) (.cond (.t 124) (.seq (.reg [] r_law11_LineKeeps_13) .ret) .skip))))) (.reg [63, 64] r_law11_LineKeeps_9)))))) (.seq (.reg [] r_law11_LineKeeps_14) .ret)))))))
theorem chk_law11_LineKeeps : chkF C.P 7 pc_law11_LineKeeps 125 [.t 4] 2 = true := by kernel_rfl

def r_mill_Light_0 : List POp := [
  ⟨some 2, none, .mv, [.c (A.bool false)]⟩]
def r_mill_Light_1 : List POp := [
  ⟨some 3, none, .mv, [.t 0]⟩,
  ⟨some 4, none, .len, [.t 3]⟩,
  ⟨some 5, none, .bin .leq, [.t 4, .c (A.int .i64 300)]⟩,
  ⟨some 2, none, .mv, [.t 5]⟩]
def pc_mill_Light : PC := (.seq (.reg [] r_mill_Light_0) (.seq (.reg [3, 4, 5] r_mill_Light_1) .ret))
theorem chk_mill_Light : chkF C.P 26 pc_mill_Light 6 [.t 2] 1 = true := by kernel_rfl

def r_law11_step_0 : List POp := [
  ⟨some 4, none, .mv, [.c (A.sl [])]⟩,
  ⟨some 5, none, .mv, [.c (A.bool false)]⟩,
  ⟨some 6, none, .mv, [.c (A.bool false)]⟩]
def r_law11_step_1 : List POp := [
  ⟨some 12, none, .mv, [.t 1]⟩,
  ⟨some 13, none, .bin .rem, [.t 12, .c (A.int .i64 5)]⟩,
  ⟨some 14, none, .bin .eql, [.t 13, .c (A.int .i64 0)]⟩]
def r_law11_step_2 : List POp := [
  ⟨some 16, none, .mv, [.t 0]⟩,
  ⟨some 17, none, .mv, [.t 1]⟩,
  ⟨some 18, none, .bin .quo, [.t 17, .c (A.int .i64 5)]⟩,
  ⟨some 19, none, .call 29, [.t 18]⟩,
  ⟨some 20, none, .call 19, [.t 16, .t 19]⟩,
  ⟨some 15, none, .mv, [.t 20]⟩,
  ⟨some 21, none, .ext 0, [.t 15]⟩,
  ⟨some 22, none, .ext 1, [.t 15]⟩,
  ⟨some 7, none, .mv, [.t 21]⟩,
  ⟨some 8, none, .mv, [.t 22]⟩]
def r_law11_step_3 : List POp := [
  ⟨some 23, none, .mv, [.t 7]⟩,
  ⟨some 4, none, .mv, [.t 23]⟩,
  ⟨some 5, none, .mv, [.c (A.bool false)]⟩,
  ⟨some 6, none, .mv, [.c (A.bool true)]⟩]
def r_law11_step_4 : List POp := [
  ⟨some 25, none, .mv, [.t 0]⟩,
  ⟨some 26, none, .mv, [.t 1]⟩,
  ⟨some 27, none, .bin .quo, [.t 26, .c (A.int .i64 5)]⟩,
  ⟨some 28, none, .mv, [.t 1]⟩,
  ⟨some 29, none, .call 27, [.t 28, .c (A.int .i64 8)]⟩,
  ⟨some 30, none, .call 18, [.t 27, .t 29]⟩,
  ⟨some 31, none, .call 15, [.t 25, .t 30]⟩,
  ⟨some 24, none, .mv, [.t 31]⟩,
  ⟨some 32, none, .ext 0, [.t 24]⟩,
  ⟨some 33, none, .ext 1, [.t 24]⟩,
  ⟨some 34, none, .ext 2, [.t 24]⟩,
  ⟨some 9, none, .mv, [.t 32]⟩,
  ⟨some 10, none, .mv, [.t 33]⟩,
  ⟨some 11, none, .mv, [.t 34]⟩]
def r_law11_step_5 : List POp := [
  ⟨some 35, none, .mv, [.t 11]⟩,
  ⟨some 36, none, .bin .neq, [.t 35, .c (A.int .i64 0)]⟩]
def r_law11_step_6 : List POp := [
  ⟨some 37, none, .mv, [.t 0]⟩,
  ⟨some 38, none, .mv, [.t 11]⟩,
  ⟨some 39, none, .bin .eql, [.t 38, .c (A.int .i64 11)]⟩,
  ⟨some 40, none, .mv, [.t 39]⟩,
  ⟨some 41, some (40, false), .mv, [.t 11]⟩,
  ⟨some 42, some (40, false), .bin .eql, [.t 41, .c (A.int .i64 4)]⟩,
  ⟨some 43, none, .pick, [.t 40, .c (A.bool true), .t 42]⟩,
  ⟨some 4, none, .mv, [.t 37]⟩,
  ⟨some 5, none, .mv, [.c (A.bool false)]⟩,
  ⟨some 6, none, .mv, [.t 43]⟩]
def r_law11_step_7 : List POp := [
  ⟨some 44, none, .mv, [.t 9]⟩,
  ⟨some 4, none, .mv, [.t 44]⟩,
  ⟨some 5, none, .mv, [.c (A.bool true)]⟩,
  ⟨some 6, none, .mv, [.c (A.bool true)]⟩]
def pc_law11_step : PC := (.seq (.reg [] r_law11_step_0) (.seq (.seq (.reg [12, 13] r_law11_step_1) (.cond (.t 14) (.seq (.reg [8, 15, 16, 17, 18, 19, 20, 21, 22] r_law11_step_2) (.seq (.reg [23] r_law11_step_3) .ret)) .skip)) (.seq (.reg [10, 24, 25, 26, 27, 28, 29, 30, 31, 32, 33, 34] r_law11_step_4) (.seq (.seq (.reg [35] r_law11_step_5) (.cond (.t 36) (.seq (.reg [37, 38, 39, 40, 41, 42, 43] r_law11_step_6) .ret) .skip)) (.seq (.reg [44] r_law11_step_7) .ret)))))
theorem chk_law11_step : chkF C.P 28 pc_law11_step 45 [.t 4, .t 5, .t 6] 2 = true := by kernel_rfl

def r_law11_LineFair_0 : List POp := [
  ⟨some 2, none, .mv, [.c (A.bool false)]⟩]
def r_law11_LineFair_1 : List POp := [
  ⟨some 17, none, .mv, [.t 0]⟩,
  ⟨some 18, none, .call 26, [.t 17]⟩,
  ⟨some 19, none, .not, [.t 18]⟩]
def r_law11_LineFair_2 : List POp := [
  ⟨some 20, none, .call 10, []⟩,
  ⟨some 2, none, .mv, [.t 20]⟩]
def r_law11_LineFair_3 : List POp := [
  ⟨some 3, none, .mv, [.c (A.sl [])]⟩]
def r_law11_LineFair_4 : List POp := [
  ⟨some 4, none, .alloc 8 (Arr.enc (eI .i64) (Arr.rep 8 0)), []⟩]
def r_law11_LineFair_5 : List POp := [
  ⟨some 5, none, .mv, [.c (A.int .i64 0)]⟩]
def r_law11_LineFair_6 : List POp := [
  ⟨some 21, none, .mv, [.t 5]⟩,
  ⟨some 22, none, .mv, [.t 0]⟩,
  ⟨some 23, none, .len, [.t 22]⟩,
  ⟨some 24, none, .bin .lss, [.t 21, .t 23]⟩]
def r_law11_LineFair_8 : List POp := [
  ⟨some 27, none, .mv, [.t 0]⟩,
  ⟨some 28, none, .mv, [.t 5]⟩,
  ⟨some 29, none, .iaS 1 [A.int .i64 0], [.t 27, .t 28]⟩,
  ⟨some 30, none, .load 1 false, [.t 29]⟩,
  ⟨some 31, none, .call 27, [.t 30, .c (A.int .i64 400)]⟩,
  ⟨some 6, none, .mv, [.t 31]⟩]
def r_law11_LineFair_9 : List POp := [
  ⟨some 33, none, .mv, [.t 3]⟩,
  ⟨some 34, none, .mv, [.t 6]⟩,
  ⟨some 35, none, .call 28, [.t 33, .t 34]⟩,
  ⟨some 32, none, .mv, [.t 35]⟩,
  ⟨some 36, none, .ext 0, [.t 32]⟩,
  ⟨some 37, none, .ext 1, [.t 32]⟩,
  ⟨some 38, none, .ext 2, [.t 32]⟩,
  ⟨some 7, none, .mv, [.t 36]⟩,
  ⟨some 8, none, .mv, [.t 37]⟩,
  ⟨some 9, none, .mv, [.t 38]⟩]
def r_law11_LineFair_10 : List POp := [
  ⟨some 39, none, .mv, [.t 9]⟩,
  ⟨some 40, none, .not, [.t 39]⟩]
def r_law11_LineFair_11 : List POp := [
  ⟨some 2, none, .mv, [.c (A.bool false)]⟩]
def r_law11_LineFair_12 : List POp := [
  ⟨some 41, none, .mv, [.t 6]⟩,
  ⟨some 42, none, .bin .quo, [.t 41, .c (A.int .i64 5)]⟩,
  ⟨some 43, none, .call 29, [.t 42]⟩,
  ⟨some 10, none, .alloc 3 (Proc.enc Proc.zero), []⟩,
  ⟨none, none, .store 3, [.t 10, .t 43]⟩]
def r_law11_LineFair_13 : List POp := [
  ⟨some 11, none, .mv, [.c (A.int .i64 0)]⟩]
def r_law11_LineFair_14 : List POp := [
  ⟨some 44, none, .mv, [.t 11]⟩,
  ⟨some 45, none, .bin .lss, [.t 44, .c (A.int .i64 8)]⟩,
  ⟨some 46, none, .mv, [.t 45]⟩,
  ⟨some 47, some (46, true), .mv, [.t 8]⟩,
  ⟨some 48, none, .pick, [.t 46, .t 47, .c (A.bool false)]⟩]
def r_law11_LineFair_16 : List POp := [
  ⟨some 51, none, .mv, [.t 11]⟩,
  ⟨some 52, none, .call 29, [.t 51]⟩,
  ⟨some 12, none, .alloc 3 (Proc.enc Proc.zero), []⟩,
  ⟨none, none, .store 3, [.t 12, .t 52]⟩]
def r_law11_LineFair_17 : List POp := [
  ⟨some 53, none, .load 3 true, [.t 12]⟩,
  ⟨some 54, none, .load 3 true, [.t 10]⟩,
  ⟨some 55, none, .eqa false [.i .i64, .i .i64, .i .i64], [.t 53, .t 54]⟩]
def r_law11_LineFair_18 : List POp := [
  ⟨some 56, none, .mv, [.t 11]⟩,
  ⟨some 57, none, .iaA 8 1, [.t 4, .t 56]⟩,
  ⟨none, none, .store 1, [.t 57, .c (A.int .i64 0)]⟩]
def r_law11_LineFair_19 : List POp := [
  ⟨some 58, none, .mv, [.t 7]⟩,
  ⟨some 59, none, .load 3 true, [.t 12]⟩,
  ⟨some 60, none, .call 22, [.t 58, .t 59]⟩,
  ⟨some 61, none, .mv, [.t 7]⟩,
  ⟨some 62, none, .load 3 true, [.t 10]⟩,
  ⟨some 63, none, .call 22, [.t 61, .t 62]⟩,
  ⟨some 13, none, .mv, [.t 60]⟩,
  ⟨some 14, none, .mv, [.t 63]⟩]
def r_law11_LineFair_20 : List POp := [
  ⟨some 64, none, .mv, [.t 13]⟩,
  ⟨some 65, none, .mv, [.t 14]⟩,
  ⟨some 66, none, .bin .gtr, [.t 64, .t 65]⟩,
  ⟨some 67, none, .mv, [.t 66]⟩,
  ⟨some 68, some (67, true), .mv, [.t 3]⟩,
  ⟨some 69, some (67, true), .load 3 true, [.t 12]⟩,
  ⟨some 70, some (67, true), .call 22, [.t 68, .t 69]⟩,
  ⟨some 71, some (67, true), .bin .geq, [.t 70, .c (A.int .i64 0)]⟩,
  ⟨some 72, none, .pick, [.t 67, .t 71, .c (A.bool false)]⟩]
def r_law11_LineFair_21 : List POp := [
  ⟨some 73, none, .mv, [.t 11]⟩,
  ⟨some 74, none, .iaA 8 1, [.t 4, .t 73]⟩,
  ⟨some 75, none, .load 1 false, [.t 74]⟩,
  ⟨some 76, none, .bin .add, [.t 75, .c (A.int .i64 1)]⟩,
  ⟨some 77, none, .iaA 8 1, [.t 4, .t 73]⟩,
  ⟨none, none, .store 1, [.t 77, .t 76]⟩]
def r_law11_LineFair_15 : List POp := [
  ⟨some 49, none, .mv, [.t 11]⟩,
  ⟨some 50, none, .bin .add, [.t 49, .c (A.int .i64 1)]⟩,
  ⟨some 11, none, .mv, [.t 50]⟩]
def r_law11_LineFair_22 : List POp := [
  ⟨some 78, none, .mv, [.t 7]⟩,
  ⟨some 3, none, .mv, [.t 78]⟩]
def r_law11_LineFair_23 : List POp := [
  ⟨some 15, none, .mv, [.c (A.int .i64 0)]⟩]
def r_law11_LineFair_24 : List POp := [
  ⟨some 79, none, .mv, [.t 15]⟩,
  ⟨some 80, none, .mv, [.t 3]⟩,
  ⟨some 81, none, .len, [.t 80]⟩,
  ⟨some 82, none, .bin .lss, [.t 79, .t 81]⟩]
def r_law11_LineFair_26 : List POp := [
  ⟨some 16, none, .mv, [.c (A.int .i64 0)]⟩]
def r_law11_LineFair_27 : List POp := [
  ⟨some 85, none, .mv, [.t 16]⟩,
  ⟨some 86, none, .bin .lss, [.t 85, .c (A.int .i64 8)]⟩]
def r_law11_LineFair_29 : List POp := [
  ⟨some 89, none, .mv, [.t 3]⟩,
  ⟨some 90, none, .mv, [.t 15]⟩,
  ⟨some 91, none, .iaS 7 (Wait.enc Wait.zero), [.t 89, .t 90]⟩,
  ⟨some 92, none, .faddr 0, [.t 91]⟩,
  ⟨some 93, none, .load 3 true, [.t 92]⟩,
  ⟨some 94, none, .mv, [.t 16]⟩,
  ⟨some 95, none, .call 29, [.t 94]⟩,
  ⟨some 96, none, .eqa false [.i .i64, .i .i64, .i .i64], [.t 93, .t 95]⟩,
  ⟨some 97, none, .mv, [.t 96]⟩,
  ⟨some 98, some (97, true), .mv, [.t 3]⟩,
  ⟨some 99, some (97, true), .mv, [.t 15]⟩,
  ⟨some 100, some (97, true), .iaS 7 (Wait.enc Wait.zero), [.t 98, .t 99]⟩,
  ⟨some 101, some (97, true), .faddr 6, [.t 100]⟩,
  ⟨some 102, some (97, true), .load 1 false, [.t 101]⟩,
  ⟨some 103, some (97, true), .mv, [.t 16]⟩,
  ⟨some 104, some (97, true), .iaA 8 1, [.t 4, .t 103]⟩,
  ⟨some 105, some (97, true), .load 1 false, [.t 104]⟩,
  ⟨some 106, some (97, true), .bin .neq, [.t 102, .t 105]⟩,
  ⟨some 107, some (97, true), .mv, [.t 106]⟩,
  ⟨some 108, some (107, false), .mv, [.t 16]⟩,
  ⟨some 109, some (107, false), .iaA 8 1, [.t 4, .t 108]⟩,
  ⟨some 110, some (107, false), .load 1 false, [.t 109]⟩,
  ⟨some 111, some (107, false), .bin .gtr, [.t 110, .c (A.int .i64 3)]⟩,
  ⟨some 112, some (97, true), .pick, [.t 107, .c (A.bool true), .t 111]⟩,
  ⟨some 113, none, .pick, [.t 97, .t 112, .c (A.bool false)]⟩]
def r_law11_LineFair_30 : List POp := [
  ⟨some 2, none, .mv, [.c (A.bool false)]⟩]
def r_law11_LineFair_28 : List POp := [
  ⟨some 87, none, .mv, [.t 16]⟩,
  ⟨some 88, none, .bin .add, [.t 87, .c (A.int .i64 1)]⟩,
  ⟨some 16, none, .mv, [.t 88]⟩]
def r_law11_LineFair_25 : List POp := [
  ⟨some 83, none, .mv, [.t 15]⟩,
  ⟨some 84, none, .bin .add, [.t 83, .c (A.int .i64 1)]⟩,
  ⟨some 15, none, .mv, [.t 84]⟩]
def r_law11_LineFair_7 : List POp := [
  ⟨some 25, none, .mv, [.t 5]⟩,
  ⟨some 26, none, .bin .add, [.t 25, .c (A.int .i64 1)]⟩,
  ⟨some 5, none, .mv, [.t 26]⟩]
def r_law11_LineFair_31 : List POp := [
  ⟨some 114, none, .call 10, []⟩,
  ⟨some 115, none, .mv, [.t 114]⟩,
  ⟨some 116, some (115, true), .mv, [.t 3]⟩,
  ⟨some 117, some (115, true), .call 14, [.t 116]⟩,
  ⟨some 118, none, .pick, [.t 115, .t 117, .c (A.bool false)]⟩,
  ⟨some 2, none, .mv, [.t 118]⟩]
def pc_law11_LineFair : PC := (.seq (.reg [] r_law11_LineFair_0) (.seq (.seq (.reg [17, 18] r_law11_LineFair_1) (.cond (.t 19) (.seq (.reg [20] r_law11_LineFair_2) .ret) .skip)) (.seq (.reg [] r_law11_LineFair_3) (.seq (.reg [] r_law11_LineFair_4) (.seq (.seq (.reg [] r_law11_LineFair_5) (.block 0 (.loop (.seq (.seq (.reg [21, 22, 23] r_law11_LineFair_6) (.cond (.t 24) .skip (.exit 0))) (.seq (.block 1 (.seq (.reg [27, 28, 29, 30, 31] r_law11_LineFair_8) (.seq (.reg [32, 33, 34, 35, 36, 37, 38] r_law11_LineFair_9) (.seq (.seq (.reg [39] r_law11_LineFair_10) (.cond (.t 40) (.seq (.reg [] r_law11_LineFair_11) .ret) .skip)) (.seq (.reg [41, 42, 43] r_law11_LineFair_12) (.seq (.seq (.reg [] r_law11_LineFair_13) (.block 2 (.loop (.seq (.seq (.reg [44, 45, 46, 47] r_law11_LineFair_14) (.cond (.t 48) .skip (.exit 2))) (.seq (.block 3 (.seq (.reg [51, 52] r_law11_LineFair_16) (.seq (.reg [53, 54] r_law11_LineFair_17) (.cond (.t 55) (.reg [56, 57] r_law11_LineFair_18) (.seq (.regd [58, 59, 60, 61, 62, 63] r_law11_LineFair_19) (.seq (.reg [64, 65, 66, 67, 68, 69, 70, 71] r_law11_LineFair_20) (.cond (.t 72) (.reg [73, 74, 75, 76, 77] r_law11_LineFair_21) .skip))))))) (.reg [49, 50] r_law11_LineFair_15)))))) (.seq (.reg [78] r_law11_LineFair_22) (.seq (.reg [] r_law11_LineFair_23) (.block 4 (.loop (.seq (.seq (.reg [79, 80, 81] r_law11_LineFair_24) (.cond (.t 82) .skip (.exit 4))) (.seq (.block 5 (.seq (.reg [] r_law11_LineFair_26) (.block 6 (.loop (.seq (.seq (.reg [85] r_law11_LineFair_27) (.cond (.t 86) .skip (.exit 6))) (.seq (.block 7 (.seq (.regd [89, 90, 91, 92, 93, 94, 95, 96, 97, 98, 99, 100, 101, 102, 103, 104, 105, 106, 107, 108, 109, 110, 111, 112] r_law11_LineFair_29) (.cond (.t 113) (.seq (.reg [] r_law11_LineFair_30) .ret) .skip))) (.reg [87, 88] r_law11_LineFair_28))))))) (.reg [83, 84] r_law11_LineFair_25))))))))))))) (.reg [25, 26] r_law11_LineFair_7)))))) (.seq (.reg [114, 115, 116, 117, 118] r_law11_LineFair_31) .ret))))))
theorem chk_law11_LineFair : chkF C.P 8 pc_law11_LineFair 119 [.t 2] 1 = true := by kernel_rfl

def r_law11_number_0 : List POp := [
  ⟨some 1, none, .box 3, [.t 0]⟩,
  ⟨some 2, none, .mv, [.c (A.int .i64 0)]⟩]
def r_law11_number_1 : List POp := [
  ⟨some 3, none, .faddr 2, [.t 1]⟩,
  ⟨some 4, none, .load 1 false, [.t 3]⟩,
  ⟨some 5, none, .bin .sub, [.t 4, .c (A.int .i64 1)]⟩,
  ⟨some 6, none, .bin .mul, [.t 5, .c (A.int .i64 4)]⟩,
  ⟨some 7, none, .faddr 0, [.t 1]⟩,
  ⟨some 8, none, .load 1 false, [.t 7]⟩,
  ⟨some 9, none, .bin .add, [.t 6, .t 8]⟩,
  ⟨some 10, none, .call 27, [.t 9, .c (A.int .i64 8)]⟩,
  ⟨some 2, none, .mv, [.t 10]⟩]
def pc_law11_number : PC := (.seq (.reg [] r_law11_number_0) (.seq (.reg [3, 4, 5, 6, 7, 8, 9, 10] r_law11_number_1) .ret))
theorem chk_law11_number : chkF C.P 30 pc_law11_number 11 [.t 2] 1 = true := by kernel_rfl

def r_law11_LineFirst_0 : List POp := [
  ⟨some 2, none, .mv, [.c (A.bool false)]⟩]
def r_law11_LineFirst_1 : List POp := [
  ⟨some 12, none, .mv, [.t 0]⟩,
  ⟨some 13, none, .call 26, [.t 12]⟩,
  ⟨some 14, none, .not, [.t 13]⟩]
def r_law11_LineFirst_2 : List POp := [
  ⟨some 15, none, .call 10, []⟩,
  ⟨some 2, none, .mv, [.t 15]⟩]
def r_law11_LineFirst_3 : List POp := [
  ⟨some 3, none, .mv, [.c (A.sl [])]⟩]
def r_law11_LineFirst_4 : List POp := [
  ⟨some 4, none, .alloc 8 (Arr.enc (eI .i64) (Arr.rep 8 0)), []⟩]
def r_law11_LineFirst_5 : List POp := [
  ⟨some 5, none, .mv, [.c (A.int .i64 0)]⟩]
def r_law11_LineFirst_6 : List POp := [
  ⟨some 16, none, .mv, [.t 5]⟩,
  ⟨some 17, none, .mv, [.t 0]⟩,
  ⟨some 18, none, .len, [.t 17]⟩,
  ⟨some 19, none, .bin .lss, [.t 16, .t 18]⟩]
def r_law11_LineFirst_8 : List POp := [
  ⟨some 22, none, .mv, [.t 0]⟩,
  ⟨some 23, none, .mv, [.t 5]⟩,
  ⟨some 24, none, .iaS 1 [A.int .i64 0], [.t 22, .t 23]⟩,
  ⟨some 25, none, .load 1 false, [.t 24]⟩,
  ⟨some 26, none, .call 27, [.t 25, .c (A.int .i64 400)]⟩,
  ⟨some 6, none, .mv, [.t 26]⟩]
def r_law11_LineFirst_9 : List POp := [
  ⟨some 28, none, .mv, [.t 3]⟩,
  ⟨some 29, none, .mv, [.t 6]⟩,
  ⟨some 30, none, .call 28, [.t 28, .t 29]⟩,
  ⟨some 27, none, .mv, [.t 30]⟩,
  ⟨some 31, none, .ext 0, [.t 27]⟩,
  ⟨some 32, none, .ext 1, [.t 27]⟩,
  ⟨some 33, none, .ext 2, [.t 27]⟩,
  ⟨some 7, none, .mv, [.t 31]⟩,
  ⟨some 8, none, .mv, [.t 32]⟩,
  ⟨some 9, none, .mv, [.t 33]⟩]
def r_law11_LineFirst_10 : List POp := [
  ⟨some 34, none, .mv, [.t 9]⟩,
  ⟨some 35, none, .not, [.t 34]⟩]
def r_law11_LineFirst_11 : List POp := [
  ⟨some 2, none, .mv, [.c (A.bool false)]⟩]
def r_law11_LineFirst_12 : List POp := [
  ⟨some 36, none, .mv, [.t 8]⟩]
def r_law11_LineFirst_13 : List POp := [
  ⟨some 37, none, .mv, [.t 6]⟩,
  ⟨some 38, none, .bin .quo, [.t 37, .c (A.int .i64 5)]⟩,
  ⟨some 39, none, .call 27, [.t 38, .c (A.int .i64 8)]⟩,
  ⟨some 40, none, .mv, [.t 5]⟩,
  ⟨some 41, none, .iaA 8 1, [.t 4, .t 39]⟩,
  ⟨none, none, .store 1, [.t 41, .t 40]⟩]
def r_law11_LineFirst_14 : List POp := [
  ⟨some 42, none, .mv, [.t 7]⟩,
  ⟨some 3, none, .mv, [.t 42]⟩]
def r_law11_LineFirst_15 : List POp := [
  ⟨some 10, none, .mv, [.c (A.int .i64 0)]⟩]
def r_law11_LineFirst_16 : List POp := [
  ⟨some 43, none, .mv, [.t 10]⟩,
  ⟨some 44, none, .mv, [.t 3]⟩,
  ⟨some 45, none, .len, [.t 44]⟩,
  ⟨some 46, none, .bin .lss, [.t 43, .t 45]⟩]
def r_law11_LineFirst_18 : List POp := [
  ⟨some 49, none, .mv, [.t 10]⟩,
  ⟨some 50, none, .bin .add, [.t 49, .c (A.int .i64 1)]⟩,
  ⟨some 11, none, .mv, [.t 50]⟩]
def r_law11_LineFirst_19 : List POp := [
  ⟨some 51, none, .mv, [.t 11]⟩,
  ⟨some 52, none, .mv, [.t 3]⟩,
  ⟨some 53, none, .len, [.t 52]⟩,
  ⟨some 54, none, .bin .lss, [.t 51, .t 53]⟩]
def r_law11_LineFirst_21 : List POp := [
  ⟨some 57, none, .mv, [.t 3]⟩,
  ⟨some 58, none, .mv, [.t 10]⟩,
  ⟨some 59, none, .iaS 7 (Wait.enc Wait.zero), [.t 57, .t 58]⟩,
  ⟨some 60, none, .faddr 5, [.t 59]⟩,
  ⟨some 61, none, .load 1 false, [.t 60]⟩,
  ⟨some 62, none, .mv, [.t 3]⟩,
  ⟨some 63, none, .mv, [.t 11]⟩,
  ⟨some 64, none, .iaS 7 (Wait.enc Wait.zero), [.t 62, .t 63]⟩,
  ⟨some 65, none, .faddr 5, [.t 64]⟩,
  ⟨some 66, none, .load 1 false, [.t 65]⟩,
  ⟨some 67, none, .bin .eql, [.t 61, .t 66]⟩,
  ⟨some 68, none, .mv, [.t 67]⟩,
  ⟨some 69, some (68, true), .mv, [.t 3]⟩,
  ⟨some 70, some (68, true), .mv, [.t 10]⟩,
  ⟨some 71, some (68, true), .iaS 7 (Wait.enc Wait.zero), [.t 69, .t 70]⟩,
  ⟨some 72, some (68, true), .faddr 0, [.t 71]⟩,
  ⟨some 73, some (68, true), .load 3 true, [.t 72]⟩,
  ⟨some 74, some (68, true), .call 30, [.t 73]⟩,
  ⟨some 75, some (68, true), .iaA 8 1, [.t 4, .t 74]⟩,
  ⟨some 76, some (68, true), .load 1 false, [.t 75]⟩,
  ⟨some 77, some (68, true), .mv, [.t 3]⟩,
  ⟨some 78, some (68, true), .mv, [.t 11]⟩,
  ⟨some 79, some (68, true), .iaS 7 (Wait.enc Wait.zero), [.t 77, .t 78]⟩,
  ⟨some 80, some (68, true), .faddr 0, [.t 79]⟩,
  ⟨some 81, some (68, true), .load 3 true, [.t 80]⟩,
  ⟨some 82, some (68, true), .call 30, [.t 81]⟩,
  ⟨some 83, some (68, true), .iaA 8 1, [.t 4, .t 82]⟩,
  ⟨some 84, some (68, true), .load 1 false, [.t 83]⟩,
  ⟨some 85, some (68, true), .bin .gtr, [.t 76, .t 84]⟩,
  ⟨some 86, none, .pick, [.t 68, .t 85, .c (A.bool false)]⟩]
def r_law11_LineFirst_22 : List POp := [
  ⟨some 2, none, .mv, [.c (A.bool false)]⟩]
def r_law11_LineFirst_20 : List POp := [
  ⟨some 55, none, .mv, [.t 11]⟩,
  ⟨some 56, none, .bin .add, [.t 55, .c (A.int .i64 1)]⟩,
  ⟨some 11, none, .mv, [.t 56]⟩]
def r_law11_LineFirst_17 : List POp := [
  ⟨some 47, none, .mv, [.t 10]⟩,
  ⟨some 48, none, .bin .add, [.t 47, .c (A.int .i64 1)]⟩,
  ⟨some 10, none, .mv, [.t 48]⟩]
def r_law11_LineFirst_7 : List POp := [
  ⟨some 20, none, .mv, [.t 5]⟩,
  ⟨some 21, none, .bin .add, [.t 20, .c (A.int .i64 1)]⟩,
  ⟨some 5, none, .mv, [.t 21]⟩]
def r_law11_LineFirst_23 : List POp := [
  ⟨some 87, none, .call 10, []⟩,
  ⟨some 2, none, .mv, [.t 87]⟩]
def pc_law11_LineFirst : PC := (.seq (.reg [] r_law11_LineFirst_0) (.seq (.seq (.reg [12, 13] r_law11_LineFirst_1) (.cond (.t 14) (.seq (.reg [15] r_law11_LineFirst_2) .ret) .skip)) (.seq (.reg [] r_law11_LineFirst_3) (.seq (.reg [] r_law11_LineFirst_4) (.seq (.seq (.reg [] r_law11_LineFirst_5) (.block 0 (.loop (.seq (.seq (.reg [16, 17, 18] r_law11_LineFirst_6) (.cond (.t 19) .skip (.exit 0))) (.seq (.block 1 (.seq (.reg [22, 23, 24, 25, 26] r_law11_LineFirst_8) (.seq (.reg [27, 28, 29, 30, 31, 32, 33] r_law11_LineFirst_9) (.seq (.seq (.reg [34] r_law11_LineFirst_10) (.cond (.t 35) (.seq (.reg [] r_law11_LineFirst_11) .ret) .skip)) (.seq (.seq (.reg [] r_law11_LineFirst_12) (.cond (.t 36) (.reg [37, 38, 39, 40, 41] r_law11_LineFirst_13) .skip)) (.seq (.reg [42] r_law11_LineFirst_14) (.seq (.reg [] r_law11_LineFirst_15) (.block 2 (.loop (.seq (.seq (.reg [43, 44, 45] r_law11_LineFirst_16) (.cond (.t 46) .skip (.exit 2))) (.seq (.block 3 (.seq (.reg [49, 50] r_law11_LineFirst_18) (.block 4 (.loop (.seq (.seq (.reg [51, 52, 53] r_law11_LineFirst_19) (.cond (.t 54) .skip (.exit 4))) (.seq (.block 5 (.seq (.regd [57, 58, 59, 60, 61, 62, 63, 64, 65, 66, 67, 68, 69, 70, 71, 72, 73, 74, 75, 76, 77, 78, 79, 80, 81, 82, 83, 84, 85] r_law11_LineFirst_21) (.cond (.t 86) (.seq (.reg [] r_law11_LineFirst_22) .ret) .skip))) (.reg [55, 56] r_law11_LineFirst_20))))))) (.reg [47, 48] r_law11_LineFirst_17)))))))))))) (.reg [20, 21] r_law11_LineFirst_7)))))) (.seq (.reg [87] r_law11_LineFirst_23) .ret))))))
theorem chk_law11_LineFirst : chkF C.P 9 pc_law11_LineFirst 88 [.t 2] 1 = true := by kernel_rfl
end Ab
end Go.Proofs.Ytgiipcdnbnahiaa
