/-
  Functions of the program, as code of the small machine.
-/
import Derived.Test.YtdflfohpemfeiaaGreatDoorDec
import Derived.Test.YtdflfohpemfeiaaGreatDoorProg
import Derived.KernelRfl
namespace Go.Proofs.YtdflfohpemfeiaaGreatDoor
namespace Ab
def glob_0 : Arr (Arr Bool 5) 5 := ⟨[⟨[true, true, true, true, false], rfl⟩, ⟨[true, true, false, false, false], rfl⟩, ⟨[true, false, true, false, false], rfl⟩, ⟨[true, false, false, false, false], rfl⟩, ⟨[false, false, false, false, false], rfl⟩], rfl⟩
noncomputable def C : Cx := ⟨Tryz.prog, [(0, Arr.enc (Arr.enc eB) glob_0)]⟩
@[go_sem] theorem C_G : C.G = [(0, Arr.enc (Arr.enc eB) glob_0)] := rfl
theorem C_mixed : C.P.follows .mixedOrders = true := by kernel_rfl

def r0_0 := [oB 1 8 0,mo 2 .mv [oFa]]
def r0_1 := [oA 3 4 1,oM 4 1 3,mo 5 .len [.t 4],oP 6 .leq [.t 5, oK 40],oV 7 6,oG 8 7 true (.faddr 5) [.t 1],oG 9 7 true (.load 1 false) [.t 8],oG 10 7 true .len [.t 9],oG 11 7 true (.bin .leq) [.t 10, oK 40],mo 12 .pick [.t 7, .t 11, oFa],oV 13 12,oG 14 13 true (.faddr 6) [.t 1],oG 15 13 true (.load 1 false) [.t 14],
 oG 16 13 true .len [.t 15],oG 17 13 true (.bin .leq) [.t 16, oK 40],mo 18 .pick [.t 13, .t 17, oFa],oV 2 18]
def pc_0 : PC := (.seq (.reg [] r0_0) (.seq (.reg [3, 4, 5, 6, 7, 8, 9, 10, 11, 12, 13, 14, 15, 16, 17, 18] r0_1) .ret))
theorem ck_0 : chkF C.P 17 pc_0 19 [.t 2] 1 = true := by kernel_rfl
attribute [go_sem] r0_0 r0_1

def r1_0 := [oI 4 0]
def r1_1 := [oV 5 1,oP 6 .lss [.t 5, oK 1]]
def r1_2 := [oI 4 0]
def r1_3 := [oV 7 0,oV 8 1,oP 9 .rem [.t 7, .t 8],oV 0 9]
def r1_4 := [oV 10 0,oP 11 .lss [.t 10, oK 0]]
def r1_5 := [oV 12 0,oV 13 1,oP 14 .add [.t 12, .t 13],oV 0 14]
def r1_6 := [oV 15 0,oV 4 15]
def pc_1 : PC := (.seq (.reg [] r1_0) (.seq (.seq (.reg [5] r1_1) (.cond (.t 6) (.seq (.reg [] r1_2) .ret) .skip)) (.seq (.reg [7, 8, 9] r1_3) (.seq (.seq (.reg [10] r1_4) (.cond (.t 11) (.reg [12, 13, 14] r1_5) .skip)) (.seq (.reg [15] r1_6) .ret)))))
theorem ck_1 : chkF C.P 39 pc_1 16 [.t 4] 2 = true := by kernel_rfl
attribute [go_sem] r1_0 r1_1 r1_2 r1_3 r1_4 r1_5 r1_6

def r2_0 := [mo 2 (.alloc 3 (Proc.enc Proc.zero)) []]
def r2_1 := [oV 3 0,oC 4 39 [.t 3, oK 8],oV 0 4]
def r2_2 := [oV 5 0,oP 6 .rem [.t 5, oK 4],oV 7 0,oP 8 .quo [.t 7, oK 4],oP 9 .add [oK 1, .t 8],mo 10 (.build (Proc.enc Proc.zero) [(0, 1), (1, 1), (2, 1)]) [.t 6, oK 1, .t 9],oS 3 2 10]
def pc_2 : PC := (.seq (.reg [] r2_0) (.seq (.reg [3, 4] r2_1) (.seq (.reg [5, 6, 7, 8, 9, 10] r2_2) .ret)))
theorem ck_2 : chkF C.P 34 pc_2 11 [.c 2 3 true] 1 = true := by kernel_rfl
attribute [go_sem] r2_0 r2_1 r2_2

def r3_0 := [mo 2 .mv [oFa]]
def r3_1 := [oV 3 0]
def r3_2 := [oP 5 .eql [.t 3, .c (A.str ⟨#[97, 108, 108]⟩)],oV 4 5]
def r3_3 := [oP 6 .eql [.t 3, .c (A.str ⟨#[97, 110, 121]⟩)],oV 4 6]
def r3_4 := [oP 7 .eql [.t 3, .c (A.str ⟨#[111, 102]⟩)],oV 4 7]
def r3_5 := [oP 8 .eql [.t 3, .c (A.str ⟨#[112, 114, 105, 111]⟩)],oV 4 8]
def r3_6 := [oP 9 .eql [.t 3, .c (A.str ⟨#[108, 105, 109, 105, 116]⟩)],oV 4 9]
def r3_7 := [mo 2 .mv [oTr]]
def r3_8 := [mo 2 .mv [oFa]]
def pc_3 : PC := (.seq (.reg [] r3_0) (.seq (.seq (.reg [] r3_1) (.block 0 (.seq (.seq (.reg [5] r3_2) (.cond (.t 4) .skip (.seq (.reg [6] r3_3) (.cond (.t 4) .skip (.seq (.reg [7] r3_4) (.cond (.t 4) .skip (.seq (.reg [8] r3_5) (.cond (.t 4) .skip (.reg [9] r3_6))))))))) (.cond (.t 4) (.seq (.reg [] r3_7) .ret) .skip)))) (.seq (.reg [] r3_8) .ret)))
theorem ck_3 : chkF C.P 141 pc_3 10 [.t 2] 1 = true := by kernel_rfl
attribute [go_sem] r3_0 r3_1 r3_2 r3_3 r3_4 r3_5 r3_6 r3_7 r3_8

def r4_0 := [mo 2 .mv [oFa]]
def r4_1 := [oV 7 0,mo 8 .lenS [.t 7],oP 9 .lss [.t 8, oK 1],oV 10 9,oG 11 10 false .mv [.t 0],oG 12 10 false .lenS [.t 11],oG 13 10 false (.bin .gtr) [.t 12, oK 12],mo 14 .pick [.t 10, oTr, .t 13],oV 15 14,oG 16 15 false .mv [.t 0],oG 17 15 false (.call 141) [.t 16],mo 18 .pick [.t 15, oTr, .t 17]]
def r4_2 := [mo 2 .mv [oFa]]
def r4_3 := [oV 19 0,mo 20 .lenS [.t 19],oI 21 0]
def r4_4 := [oP 22 .lss [.t 21, .t 20]]
def r4_5 := [oV 23 21,oV 3 23]
def r4_6 := [oV 24 0,oV 25 3,mo 26 .idxS [.t 24, .t 25],oV 4 26]
def r4_7 := [oV 27 4,oP 28 .geq [.t 27, .c (A.int .u8 97)],oV 29 28,oG 30 29 true .mv [.t 4],oG 31 29 true (.bin .leq) [.t 30, .c (A.int .u8 122)],mo 32 .pick [.t 29, .t 31, oFa],oV 5 32]
def r4_8 := [oV 33 4,oP 34 .geq [.t 33, .c (A.int .u8 48)],oV 35 34,oG 36 35 true .mv [.t 4],oG 37 35 true (.bin .leq) [.t 36, .c (A.int .u8 57)],mo 38 .pick [.t 35, .t 37, oFa],oV 39 38,oG 40 39 false .mv [.t 4],oG 41 39 false (.bin .eql) [.t 40, .c (A.int .u8 95)],mo 42 .pick [.t 39, oTr, .t 41],oV 43 42,
 oG 44 43 false .mv [.t 4],oG 45 43 false (.bin .eql) [.t 44, .c (A.int .u8 45)],mo 46 .pick [.t 43, oTr, .t 45],oV 6 46]
def r4_9 := [oV 47 5,mo 48 .not [.t 47],oV 49 48,oG 50 49 true .mv [.t 3],oG 51 49 true (.bin .eql) [.t 50, oK 0],oG 52 49 true .mv [.t 51],oG 53 52 false .mv [.t 6],oG 54 52 false .not [.t 53],oG 55 49 true .pick [.t 52, oTr, .t 54],mo 56 .pick [.t 49, .t 55, oFa]]
def r4_10 := [mo 2 .mv [oFa]]
def r4_11 := [oP 57 .add [.t 21, oK 1],oV 21 57]
def r4_12 := [mo 2 .mv [oTr]]
def pc_4 : PC := (.seq (.reg [] r4_0) (.seq (.seq (.reg [7, 8, 9, 10, 11, 12, 13, 14, 15, 16, 17] r4_1) (.cond (.t 18) (.seq (.reg [] r4_2) .ret) .skip)) (.seq (.seq (.reg [19] r4_3) (.block 0 (.loop (.seq (.reg [] r4_4) (.seq (.cond (.t 22) .skip (.exit 0)) (.seq (.block 1 (.seq (.reg [23] r4_5) (.seq (.reg [24, 25, 26] r4_6) (.seq (.reg [27, 28, 29, 30, 31, 32] r4_7) (.seq (.reg [33, 34, 35, 36, 37, 38, 39, 40, 41, 42, 43, 44, 45, 46] r4_8) (.seq (.reg [47, 48, 49, 50, 51, 52, 53, 54, 55] r4_9) (.cond (.t 56) (.seq (.reg [] r4_10) .ret) .skip))))))) (.reg [57] r4_11))))))) (.seq (.reg [] r4_12) .ret))))
theorem ck_4 : chkF C.P 116 pc_4 58 [.t 2] 1 = true := by kernel_rfl
attribute [go_sem] r4_0 r4_1 r4_2 r4_3 r4_4 r4_5 r4_6 r4_7 r4_8 r4_9 r4_10 r4_11 r4_12

def r5_0 := [oB 1 4 0,mo 2 .mv [oFa]]
def r5_1 := [oA 3 1 1,oM 4 1 3]
def r5_2 := [oP 6 .eql [.t 4, oK 1],oV 5 6]
def r5_3 := [oA 7 2 1,oM 8 1 7,oP 9 .eql [.t 8, oK 1],oV 2 9]
def r5_4 := [oP 11 .eql [.t 4, oK 2],oV 10 11]
def r5_5 := [oA 12 2 1,oM 13 1 12,oP 14 .geq [.t 13, oK 1],oV 15 14,oG 16 15 true (.faddr 2) [.t 1],oG 17 15 true (.load 1 false) [.t 16],oG 18 15 true (.bin .leq) [.t 17, oK 8],mo 19 .pick [.t 15, .t 18, oFa],oV 2 19]
def r5_6 := [mo 2 .mv [oFa]]
def pc_5 : PC := (.seq (.reg [] r5_0) (.seq (.seq (.reg [3] r5_1) (.block 0 (.seq (.reg [6] r5_2) (.cond (.t 5) (.seq (.reg [7, 8, 9] r5_3) .ret) (.seq (.reg [11] r5_4) (.cond (.t 10) (.seq (.reg [12, 13, 14, 15, 16, 17, 18, 19] r5_5) .ret) .skip)))))) (.seq (.reg [] r5_6) .ret)))
theorem ck_5 : chkF C.P 117 pc_5 20 [.t 2] 1 = true := by kernel_rfl
attribute [go_sem] r5_0 r5_1 r5_2 r5_3 r5_4 r5_5 r5_6

def r6_0 := [oB 1 4 0,mo 2 .mv [oFa]]
def r6_1 := [oA 3 0 1,oM 4 1 3,oC 5 116 [.t 4],oV 6 5,oG 7 6 true (.load 4 true) [.t 1],oG 8 6 true (.call 117) [.t 7],mo 9 .pick [.t 6, .t 8, oFa],oV 10 9,oG 11 10 true (.faddr 3) [.t 1],oG 12 10 true (.load 1 false) [.t 11],oG 13 10 true (.bin .geq) [.t 12, oK 0],mo 14 .pick [.t 10, .t 13, oFa],oV 15 14,
 oG 16 15 true (.faddr 3) [.t 1],oG 17 15 true (.load 1 false) [.t 16],oG 18 15 true (.bin .lss) [.t 17, oK 4],mo 19 .pick [.t 15, .t 18, oFa],oV 2 19]
def pc_6 : PC := (.seq (.reg [] r6_0) (.seq (.reg [3, 4, 5, 6, 7, 8, 9, 10, 11, 12, 13, 14, 15, 16, 17, 18, 19] r6_1) .ret))
theorem ck_6 : chkF C.P 60 pc_6 20 [.t 2] 1 = true := by kernel_rfl
attribute [go_sem] r6_0 r6_1

def r7_0 := [oB 1 4 0,mo 2 (.alloc 8 (Queue.enc Queue.zero)) [],oI 3 0]
def r7_1 := [oL 4 4 1,oC 5 60 [.t 4],mo 6 .not [.t 5]]
def r7_2 := [mo 7 (.build (Queue.enc Queue.zero) []) [],oS 8 2 7,oI 3 1]
def r7_3 := [oL 8 4 1,mo 9 (.build (Queue.enc Queue.zero) [(0, 4)]) [.t 8],oS 8 2 9,oI 3 0]
def pc_7 : PC := (.seq (.reg [] r7_0) (.seq (.seq (.reg [4, 5] r7_1) (.cond (.t 6) (.seq (.reg [7] r7_2) .ret) .skip)) (.seq (.reg [8, 9] r7_3) .ret)))
theorem ck_7 : chkF C.P 19 pc_7 10 [.c 2 8 true, .t 3] 1 = true := by kernel_rfl
attribute [go_sem] r7_0 r7_1 r7_2 r7_3

def r8_0 := [mo 6 .mv [oFa]]
def r8_1 := [oV 7 0,oV 8 1,oP 9 .geq [.t 7, .t 8],oV 10 9,oG 11 10 true .mv [.t 0],oG 12 10 true .mv [.t 2],oG 13 10 true (.bin .leq) [.t 11, .t 12],mo 14 .pick [.t 10, .t 13, oFa],oV 6 14]
def pc_8 : PC := (.seq (.reg [] r8_0) (.seq (.reg [7, 8, 9, 10, 11, 12, 13, 14] r8_1) .ret))
theorem ck_8 : chkF C.P 126 pc_8 15 [.t 6] 3 = true := by kernel_rfl
attribute [go_sem] r8_0 r8_1

def r9_0 := [oB 1 3 0,mo 2 .mv [oFa]]
def r9_1 := [oA 3 0 1,oM 4 1 3,oC 5 126 [.t 4, oK 0, oK 3],oV 6 5,oG 7 6 true (.faddr 1) [.t 1],oG 8 6 true (.load 1 false) [.t 7],oG 9 6 true (.call 126) [.t 8, oK 1, oK 99],mo 10 .pick [.t 6, .t 9, oFa],oV 11 10,oG 12 11 true (.faddr 2) [.t 1],oG 13 11 true (.load 1 false) [.t 12],oG 14 11 true (.call 126) [.t 13, oK 1, oK 999],
 mo 15 .pick [.t 11, .t 14, oFa],oV 2 15]
def pc_9 : PC := (.seq (.reg [] r9_0) (.seq (.reg [3, 4, 5, 6, 7, 8, 9, 10, 11, 12, 13, 14, 15] r9_1) .ret))
theorem ck_9 : chkF C.P 75 pc_9 16 [.t 2] 1 = true := by kernel_rfl
attribute [go_sem] r9_0 r9_1

def ra_0 := [mo 2 .mv [oFa]]
def ra_1 := [oV 3 0,oP 4 .geq [.t 3, oK 1],oV 5 4,oG 6 5 true .mv [.t 0],oG 7 5 true (.bin .leq) [.t 6, oK 5],mo 8 .pick [.t 5, .t 7, oFa],oV 2 8]
def pc_a : PC := (.seq (.reg [] ra_0) (.seq (.reg [3, 4, 5, 6, 7, 8] ra_1) .ret))
theorem ck_a : chkF C.P 127 pc_a 9 [.t 2] 1 = true := by kernel_rfl
attribute [go_sem] ra_0 ra_1

def rb_0 := [oB 2 4 0,oB 3 2 1,mo 4 .mv [oFa]]
def rb_1 := [oL 5 4 2,oC 6 117 [.t 5],mo 7 .not [.t 6]]
def rb_2 := [mo 4 .mv [oFa]]
def rb_3 := [oA 8 1 2,oM 9 1 8,oP 10 .eql [.t 9, oK 1]]
def rb_4 := [oA 11 0 3,oM 12 1 11,oC 13 127 [.t 12],oV 14 13,oG 15 14 true (.faddr 1) [.t 3],oG 16 14 true (.load 1 false) [.t 15],oG 17 14 true (.bin .eql) [.t 16, oK 0],mo 18 .pick [.t 14, .t 17, oFa],oV 4 18]
def rb_5 := [oA 19 0 3,oM 20 1 19,oP 21 .eql [.t 20, oK 0],oV 22 21,oG 23 22 true (.faddr 1) [.t 3],oG 24 22 true (.load 1 false) [.t 23],oG 25 22 true (.bin .geq) [.t 24, oK 1],mo 26 .pick [.t 22, .t 25, oFa],oV 27 26,oG 28 27 true (.faddr 1) [.t 3],oG 29 27 true (.load 1 false) [.t 28],oG 30 27 true (.faddr 2) [.t 2],
 oG 31 27 true (.load 1 false) [.t 30],oG 32 27 true (.bin .leq) [.t 29, .t 31],mo 33 .pick [.t 27, .t 32, oFa],oV 4 33]
def pc_b : PC := (.seq (.reg [] rb_0) (.seq (.seq (.reg [5, 6] rb_1) (.cond (.t 7) (.seq (.reg [] rb_2) .ret) .skip)) (.seq (.seq (.reg [8, 9] rb_3) (.cond (.t 10) (.seq (.reg [11, 12, 13, 14, 15, 16, 17, 18] rb_4) .ret) .skip)) (.seq (.reg [19, 20, 21, 22, 23, 24, 25, 26, 27, 28, 29, 30, 31, 32, 33] rb_5) .ret))))
theorem ck_b : chkF C.P 76 pc_b 34 [.t 4] 2 = true := by kernel_rfl
attribute [go_sem] rb_0 rb_1 rb_2 rb_3 rb_4 rb_5

def rc_0 := [oB 2 3 0,oB 3 3 1,oI 4 0]
def rc_1 := [oL 7 3 2,oI 8 0]
def rc_2 := [oP 9 .lss [.t 8, oK 3]]
def rc_3 := [oV 10 8,mo 11 (.idxA 3 1 false) [.t 7, .t 8],oV 5 10,oV 6 11]
def rc_4 := [oV 12 6,oV 13 5,mo 14 (.iaA 3 1) [.t 3, .t 13],oM 15 1 14,oP 16 .lss [.t 12, .t 15]]
def rc_5 := [oI 4 (-1)]
def rc_6 := [oV 17 6,oV 18 5,mo 19 (.iaA 3 1) [.t 3, .t 18],oM 20 1 19,oP 21 .gtr [.t 17, .t 20]]
def rc_7 := [oI 4 1]
def rc_8 := [oP 22 .add [.t 8, oK 1],oV 8 22]
def rc_9 := [oI 4 0]
def pc_c : PC := (.seq (.reg [] rc_0) (.seq (.seq (.reg [] rc_1) (.block 0 (.loop (.seq (.reg [] rc_2) (.seq (.cond (.t 9) .skip (.exit 0)) (.seq (.block 1 (.seq (.reg [10, 11] rc_3) (.seq (.seq (.reg [12, 13, 14, 15] rc_4) (.cond (.t 16) (.seq (.reg [] rc_5) .ret) .skip)) (.seq (.reg [17, 18, 19, 20] rc_6) (.cond (.t 21) (.seq (.reg [] rc_7) .ret) .skip))))) (.reg [22] rc_8))))))) (.seq (.reg [] rc_9) .ret)))
theorem ck_c : chkF C.P 145 pc_c 23 [.t 4] 2 = true := by kernel_rfl
attribute [go_sem] rc_0 rc_1 rc_2 rc_3 rc_4 rc_5 rc_6 rc_7 rc_8 rc_9

def rd_0 := [oB 2 3 0,oB 3 3 1,oI 4 0]
def rd_1 := [oA 5 0 2,oM 6 1 5,oA 7 1 2,oM 8 1 7,oA 9 2 2,oM 10 1 9,mo 11 (.build (Arr.enc (eI .i64) (Arr.rep 3 0)) [(0, 1), (1, 1), (2, 1)]) [.t 6, .t 8, .t 10],oA 12 0 3,oM 13 1 12,oA 14 1 3,oM 15 1 14,oA 16 2 3,oM 17 1 16,mo 18 (.build (Arr.enc (eI .i64) (Arr.rep 3 0)) [(0, 1), (1, 1), (2, 1)]) [.t 13, .t 15, .t 17],
 oC 19 145 [.t 11, .t 18],oV 4 19]
def pc_d : PC := (.seq (.reg [] rd_0) (.seq (.reg [5, 6, 7, 8, 9, 10, 11, 12, 13, 14, 15, 16, 17, 18, 19] rd_1) .ret))
theorem ck_d : chkF C.P 119 pc_d 20 [.t 4] 2 = true := by kernel_rfl
attribute [go_sem] rd_0 rd_1

def re_0 := [oB 1 2 0,mo 2 .mv [oFa]]
def re_1 := [oL 3 2 1,mo 4 (.build (Amount.enc Amount.zero) []) [],mo 5 (.eqa false [.i .i64, .i .i64]) [.t 3, .t 4],oV 2 5]
def pc_e : PC := (.seq (.reg [] re_0) (.seq (.reg [3, 4, 5] re_1) .ret))
theorem ck_e : chkF C.P 79 pc_e 6 [.t 2] 1 = true := by kernel_rfl
attribute [go_sem] re_0 re_1

def rf_0 := [oB 2 4 0,oB 3 2 1,mo 4 .mv [oFa]]
def rf_1 := [oL 5 4 2,oC 6 117 [.t 5],oV 7 6,oG 8 7 true (.load 2 true) [.t 3],oG 9 7 true (.call 79) [.t 8],oG 10 7 true .mv [.t 9],oG 11 10 false (.load 4 true) [.t 2],oG 12 10 false (.load 2 true) [.t 3],oG 13 10 false (.call 76) [.t 11, .t 12],oG 14 7 true .pick [.t 10, oTr, .t 13],mo 15 .pick [.t 7, .t 14, oFa],
 oV 4 15]
def pc_f : PC := (.seq (.reg [] rf_0) (.seq (.reg [5, 6, 7, 8, 9, 10, 11, 12, 13, 14, 15] rf_1) .ret))
theorem ck_f : chkF C.P 128 pc_f 16 [.t 4] 2 = true := by kernel_rfl
attribute [go_sem] rf_0 rf_1

def rg_0 := [mo 4 .mv [oFa]]
def rg_1 := [oV 5 0,oC 6 127 [.t 5],oV 7 6,oG 8 7 true .mv [.t 1],oG 9 7 true (.call 127) [.t 8],mo 10 .pick [.t 7, .t 9, oFa],oV 11 10,oG 12 11 true .mv [.t 0],oG 13 11 true (.bin .sub) [.t 12, oK 1],oG 14 11 true .mv [.t 1],oG 15 11 true (.bin .sub) [.t 14, oK 1],oG 16 11 true (.iaA 5 5) [.g 0, .t 13],
 oG 17 11 true (.iaA 5 1) [.t 16, .t 15],oG 18 11 true (.load 1 false) [.t 17],mo 19 .pick [.t 11, .t 18, oFa],oV 4 19]
def pc_g : PC := (.seq (.reg [] rg_0) (.seq (.reg [5, 6, 7, 8, 9, 10, 11, 12, 13, 14, 15, 16, 17, 18, 19] rg_1) .ret))
theorem ck_g : chkF C.P 146 pc_g 20 [.t 4] 2 = true := by kernel_rfl
attribute [go_sem] rg_0 rg_1

def rh_0 := [oB 2 4 0,mo 4 .mv [oFa]]
def rh_1 := [oL 12 4 2,oC 13 117 [.t 12],mo 14 .not [.t 13]]
def rh_2 := [mo 4 .mv [oFa]]
def rh_3 := [mo 5 .mv [oTr]]
def rh_4 := [mo 6 (.alloc 6 (Arr.enc eB (Arr.rep 6 false))) []]
def rh_5 := [oI 7 0]
def rh_6 := [oV 15 1,mo 16 .len [.t 15],oI 17 0]
def rh_7 := [oP 18 .lss [.t 17, .t 16]]
def rh_8 := [mo 19 (.iaS 2 (Amount.enc Amount.zero)) [.t 15, .t 17],oL 20 2 19,mo 9 (.alloc 2 (Amount.enc Amount.zero)) [],oS 2 9 20]
def rh_9 := [oL 21 4 2,oL 22 2 9,oC 23 128 [.t 21, .t 22],mo 24 .not [.t 23],oV 25 24,oG 26 25 false .mv [.t 7],oG 27 25 false (.faddr 1) [.t 9],oG 28 25 false (.load 1 false) [.t 27],oG 29 25 false (.bin .add) [.t 26, .t 28],oG 30 25 false (.faddr 2) [.t 2],oG 31 25 false (.load 1 false) [.t 30],oG 32 25 false (.bin .gtr) [.t 29, .t 31],
 mo 33 .pick [.t 25, oTr, .t 32]]
def rh_10 := [mo 5 .mv [oFa]]
def rh_11 := [oV 34 7,oA 35 1 9,oM 36 1 35,oP 37 .add [.t 34, .t 36],oV 7 37]
def rh_12 := [oA 38 0 9,oM 39 1 38,oP 40 .eql [.t 39, oK 0]]
def rh_13 := [oL 41 6 6,oI 42 0]
def rh_14 := [oP 43 .lss [.t 42, oK 6]]
def rh_15 := [oV 44 42,mo 45 (.idxA 6 1 false) [.t 41, .t 42],oV 10 44,oV 11 45]
def rh_16 := [oV 46 11,oV 47 46,oG 48 47 true .mv [.t 10],oG 49 47 true (.faddr 0) [.t 9],oG 50 47 true (.load 1 false) [.t 49],oG 51 47 true (.call 146) [.t 48, .t 50],oG 52 47 true .not [.t 51],mo 53 .pick [.t 47, .t 52, oFa]]
def rh_17 := [mo 5 .mv [oFa]]
def rh_18 := [oP 54 .add [.t 42, oK 1],oV 42 54]
def rh_19 := [oA 55 0 9,oM 56 1 55,mo 57 (.iaA 6 1) [.t 6, .t 56],mz (.store 1) [.t 57, oTr]]
def rh_20 := [oP 58 .add [.t 17, oK 1],oV 17 58]
def rh_21 := [oV 59 5,oV 4 59]
def pc_h : PC := (.seq (.reg [] rh_0) (.scope (.seq (.seq (.reg [12, 13] rh_1) (.cond (.t 14) (.seq (.reg [] rh_2) .ret) .skip)) (.seq (.reg [] rh_3) (.seq (.reg [] rh_4) (.seq (.reg [] rh_5) (.seq .label (.seq (.seq (.reg [] rh_6) (.block 0 (.loop (.seq (.reg [] rh_7) (.seq (.cond (.t 18) .skip (.exit 0)) (.seq (.block 1 (.seq (.reg [19, 20] rh_8) (.seq (.seq (.reg [21, 22, 23, 24, 25, 26, 27, 28, 29, 30, 31, 32] rh_9) (.cond (.t 33) (.seq (.reg [] rh_10) (.exit 0)) .skip)) (.seq (.reg [34, 35, 36, 37] rh_11) (.seq (.seq (.reg [38, 39] rh_12) (.cond (.t 40) (.exit 1) .skip)) (.seq (.seq (.reg [] rh_13) (.block 2 (.loop (.seq (.reg [] rh_14) (.seq (.cond (.t 43) .skip (.exit 2)) (.seq (.block 3 (.seq (.reg [44, 45] rh_15) (.seq (.reg [46, 47, 48, 49, 50, 51, 52] rh_16) (.cond (.t 53) (.seq (.reg [] rh_17) (.exit 0)) .skip)))) (.reg [54] rh_18))))))) (.reg [55, 56, 57] rh_19))))))) (.reg [58] rh_20))))))) (.seq (.reg [59] rh_21) .ret)))))))))
theorem ck_h : chkF C.P 120 pc_h 60 [.t 4] 2 = true := by kernel_rfl
attribute [go_sem] rh_0 rh_1 rh_2 rh_3 rh_4 rh_5 rh_6 rh_7 rh_8 rh_9 rh_10 rh_11 rh_12 rh_13 rh_14 rh_15 rh_16 rh_17 rh_18 rh_19 rh_20 rh_21

def ri_0 := [oB 2 4 0,mo 4 .mv [oFa]]
def ri_1 := [oL 8 4 2,oC 9 117 [.t 8],mo 10 .not [.t 9],oV 11 10,oG 12 11 false .mv [.t 1],oG 13 11 false .len [.t 12],oG 14 11 false (.bin .gtr) [.t 13, oK 8],mo 15 .pick [.t 11, oTr, .t 14]]
def ri_2 := [mo 4 .mv [oFa]]
def ri_3 := [mo 5 (.nilown 2 (Amount.enc Amount.zero)) [.c (A.full [])]]
def ri_4 := [oV 16 1,mo 17 .len [.t 16],oI 18 0]
def ri_5 := [oP 19 .lss [.t 18, .t 17]]
def ri_6 := [oV 20 18,mo 21 (.iaS 5 (Hold.enc Hold.zero)) [.t 16, .t 18],oL 22 5 21,mo 7 (.alloc 5 (Hold.enc Hold.zero)) [],oV 6 20,oS 5 7 22]
def ri_7 := [oA 23 0 7,oL 24 3 23,oC 25 75 [.t 24],mo 26 .not [.t 25],oV 27 26,oG 28 27 false (.load 4 true) [.t 2],oG 29 27 false (.faddr 3) [.t 7],oG 30 27 false (.load 2 true) [.t 29],oG 31 27 false (.call 76) [.t 28, .t 30],oG 32 27 false .not [.t 31],mo 33 .pick [.t 27, oTr, .t 32]]
def ri_8 := [mo 4 .mv [oFa]]
def ri_9 := [oV 34 6,oP 35 .gtr [.t 34, oK 0],oV 36 35,oG 37 36 true .mv [.t 1],oG 38 36 true .mv [.t 6],oG 39 36 true (.bin .sub) [.t 38, oK 1],oG 40 36 true (.iaS 5 (Hold.enc Hold.zero)) [.t 37, .t 39],oG 41 36 true (.faddr 0) [.t 40],oG 42 36 true (.load 3 true) [.t 41],oG 43 36 true (.faddr 0) [.t 7],
 oG 44 36 true (.load 3 true) [.t 43],oG 45 36 true (.call 119) [.t 42, .t 44],oG 46 36 true (.bin .geq) [.t 45, oK 0],mo 47 .pick [.t 36, .t 46, oFa]]
def ri_10 := [mo 4 .mv [oFa]]
def ri_11 := [oV 48 5,oA 49 3 7,oL 50 2 49,mo 51 (.bslice 2 (Amount.enc Amount.zero)) [.t 50],mo 52 (.append 2 16 (Amount.enc Amount.zero)) [.t 48, .t 51],oV 5 52]
def ri_12 := [oP 53 .add [.t 18, oK 1],oV 18 53]
def ri_13 := [oL 54 4 2,oV 55 5,oC 56 120 [.t 54, .t 55],oV 4 56]
def pc_i : PC := (.seq (.reg [] ri_0) (.seq (.seq (.reg [8, 9, 10, 11, 12, 13, 14] ri_1) (.cond (.t 15) (.seq (.reg [] ri_2) .ret) .skip)) (.seq (.reg [] ri_3) (.seq (.seq (.reg [] ri_4) (.block 0 (.loop (.seq (.reg [] ri_5) (.seq (.cond (.t 19) .skip (.exit 0)) (.seq (.block 1 (.seq (.reg [20, 21, 22] ri_6) (.seq (.seq (.reg [23, 24, 25, 26, 27, 28, 29, 30, 31, 32] ri_7) (.cond (.t 33) (.seq (.reg [] ri_8) .ret) .skip)) (.seq (.seq (.regd [34, 35, 36, 37, 38, 39, 40, 41, 42, 43, 44, 45, 46] ri_9) (.cond (.t 47) (.seq (.reg [] ri_10) .ret) .skip)) (.reg [48, 49, 50, 51, 52] ri_11))))) (.reg [53] ri_12))))))) (.seq (.reg [54, 55, 56] ri_13) .ret)))))
theorem ck_i : chkF C.P 62 pc_i 57 [.t 4] 2 = true := by kernel_rfl
attribute [go_sem] ri_0 ri_1 ri_2 ri_3 ri_4 ri_5 ri_6 ri_7 ri_8 ri_9 ri_10 ri_11 ri_12 ri_13

def rj_0 := [oB 3 3 1,mo 4 (.alloc 2 (Amount.enc Amount.zero)) []]
def rj_1 := [oV 7 0,mo 8 .len [.t 7],oI 9 0]
def rj_2 := [oP 10 .lss [.t 9, .t 8]]
def rj_3 := [mo 11 (.iaS 5 (Hold.enc Hold.zero)) [.t 7, .t 9],oL 12 5 11,mo 6 (.alloc 5 (Hold.enc Hold.zero)) [],oS 5 6 12]
def rj_4 := [oA 13 0 6,oL 14 3 13,oL 15 3 3,mo 16 (.eqa false [.i .i64, .i .i64, .i .i64]) [.t 14, .t 15]]
def rj_5 := [oA 17 3 6,oL 18 2 17,oS 2 4 18]
def rj_6 := [oP 19 .add [.t 9, oK 1],oV 9 19]
def rj_7 := [mo 20 (.build (Amount.enc Amount.zero) []) [],oS 2 4 20]
def pc_j : PC := (.seq (.reg [] rj_0) (.seq (.seq (.reg [] rj_1) (.block 0 (.loop (.seq (.reg [] rj_2) (.seq (.cond (.t 10) .skip (.exit 0)) (.seq (.block 1 (.seq (.reg [11, 12] rj_3) (.seq (.reg [13, 14, 15] rj_4) (.cond (.t 16) (.seq (.reg [17, 18] rj_5) .ret) .skip)))) (.reg [19] rj_6))))))) (.seq (.reg [20] rj_7) .ret)))
theorem ck_j : chkF C.P 98 pc_j 21 [.c 4 2 true] 2 = true := by kernel_rfl
attribute [go_sem] rj_0 rj_1 rj_2 rj_3 rj_4 rj_5 rj_6 rj_7

def rk_0 := [oB 2 8 0,oB 3 3 1,mo 4 (.alloc 2 (Amount.enc Amount.zero)) []]
def rk_1 := [oA 5 4 2,oM 6 1 5,oL 7 3 3,oC 8 98 [.t 6, .t 7],oS 2 4 8]
def pc_k : PC := (.seq (.reg [] rk_0) (.seq (.reg [5, 6, 7, 8] rk_1) .ret))
theorem ck_k : chkF C.P 37 pc_k 9 [.c 4 2 true] 2 = true := by kernel_rfl
attribute [go_sem] rk_0 rk_1

def rl_0 := [oB 3 3 1,oI 4 0]
def rl_1 := [oV 7 0,mo 8 .len [.t 7],oI 9 0]
def rl_2 := [oP 10 .lss [.t 9, .t 8]]
def rl_3 := [oV 11 9,mo 12 (.iaS 7 (Wait.enc Wait.zero)) [.t 7, .t 9],oL 13 7 12,mo 6 (.alloc 7 (Wait.enc Wait.zero)) [],oV 5 11,oS 7 6 13]
def rl_4 := [oA 14 0 6,oL 15 3 14,oL 16 3 3,mo 17 (.eqa false [.i .i64, .i .i64, .i .i64]) [.t 15, .t 16]]
def rl_5 := [oV 18 5,oV 4 18]
def rl_6 := [oP 19 .add [.t 9, oK 1],oV 9 19]
def rl_7 := [oI 4 (-1)]
def pc_l : PC := (.seq (.reg [] rl_0) (.seq (.seq (.reg [] rl_1) (.block 0 (.loop (.seq (.reg [] rl_2) (.seq (.cond (.t 10) .skip (.exit 0)) (.seq (.block 1 (.seq (.reg [11, 12, 13] rl_3) (.seq (.reg [14, 15, 16] rl_4) (.cond (.t 17) (.seq (.reg [18] rl_5) .ret) .skip)))) (.reg [19] rl_6))))))) (.seq (.reg [] rl_7) .ret)))
theorem ck_l : chkF C.P 109 pc_l 20 [.t 4] 2 = true := by kernel_rfl
attribute [go_sem] rl_0 rl_1 rl_2 rl_3 rl_4 rl_5 rl_6 rl_7

def rm_0 := [mo 2 (.alloc 6 (Arr.enc eB (Arr.rep 6 false))) []]
def rm_1 := [mo 3 (.alloc 6 (Arr.enc eB (Arr.rep 6 false))) []]
def rm_2 := [oV 4 0]
def rm_3 := [oP 6 .eql [.t 4, oK 5],oV 5 6]
def rm_4 := [oP 8 .eql [.t 4, oK 4],oV 7 8]
def rm_5 := [oP 10 .eql [.t 4, oK 2],oV 9 10]
def rm_6 := [oP 12 .eql [.t 4, oK 1],oV 11 12]
def rm_7 := [oP 14 .eql [.t 4, oK 3],oV 13 14]
def rm_8 := [mo 15 (.iaA 6 1) [.t 3, oK 5],mz (.store 1) [.t 15, oTr]]
def rm_9 := [mo 16 (.iaA 6 1) [.t 3, oK 4],mz (.store 1) [.t 16, oTr]]
def rm_10 := [mo 17 (.iaA 6 1) [.t 3, oK 3],mz (.store 1) [.t 17, oTr]]
def rm_11 := [mo 18 (.iaA 6 1) [.t 3, oK 2],mz (.store 1) [.t 18, oTr]]
def rm_12 := [mo 19 (.iaA 6 1) [.t 3, oK 1],mz (.store 1) [.t 19, oTr]]
def rm_13 := [mo 20 (.iaA 6 1) [.t 3, oK 3],mz (.store 1) [.t 20, oTr]]
def rm_14 := [mo 21 (.iaA 6 1) [.t 3, oK 1],mz (.store 1) [.t 21, oTr]]
def rm_15 := [oL 22 6 3,oS 6 2 22]
def pc_m : PC := (.seq (.reg [] rm_0) (.seq (.reg [] rm_1) (.seq (.seq (.reg [] rm_2) (.block 0 (.seq (.block 5 (.seq (.block 4 (.seq (.block 3 (.seq (.block 2 (.seq (.block 1 (.seq (.seq (.seq (.reg [6] rm_3) (.cond (.t 5) (.exit 1) .skip)) (.seq (.seq (.reg [8] rm_4) (.cond (.t 7) (.exit 2) .skip)) (.seq (.seq (.reg [10] rm_5) (.cond (.t 9) (.exit 3) .skip)) (.seq (.seq (.reg [12] rm_6) (.cond (.t 11) (.exit 4) .skip)) (.seq (.reg [14] rm_7) (.cond (.t 13) (.exit 5) .skip)))))) (.exit 0))) (.reg [15] rm_8))) (.seq (.reg [16] rm_9) (.reg [17] rm_10)))) (.reg [18] rm_11))) (.seq (.reg [19] rm_12) (.exit 0)))) (.seq (.seq (.reg [20] rm_13) (.reg [21] rm_14)) (.exit 0))))) (.seq (.reg [22] rm_15) .ret))))
theorem ck_m : chkF C.P 149 pc_m 23 [.c 2 6 true] 1 = true := by kernel_rfl
attribute [go_sem] rm_0 rm_1 rm_2 rm_3 rm_4 rm_5 rm_6 rm_7 rm_8 rm_9 rm_10 rm_11 rm_12 rm_13 rm_14 rm_15

def rn_0 := [mo 4 .mv [oFa]]
def rn_1 := [oV 5 0,oC 6 127 [.t 5],oV 7 6,oG 8 7 true .mv [.t 1],oG 9 7 true (.call 127) [.t 8],mo 10 .pick [.t 7, .t 9, oFa],oV 11 10,oG 12 11 true .mv [.t 0],oG 13 11 true (.call 149) [.t 12],oG 14 11 true .mv [.t 1],oG 15 11 true (.idxA 6 1 false) [.t 13, .t 14],mo 16 .pick [.t 11, .t 15, oFa],oV 4 16]
def pc_n : PC := (.seq (.reg [] rn_0) (.seq (.reg [5, 6, 7, 8, 9, 10, 11, 12, 13, 14, 15, 16] rn_1) .ret))
theorem ck_n : chkF C.P 129 pc_n 17 [.t 4] 2 = true := by kernel_rfl
attribute [go_sem] rn_0 rn_1

def ro_0 := [oB 3 4 0,oB 4 2 1,oB 5 2 2,mo 6 .mv [oFa]]
def ro_1 := [oL 7 4 3,oL 8 2 4,oC 9 128 [.t 7, .t 8],mo 10 .not [.t 9],oV 11 10,oG 12 11 false (.load 4 true) [.t 3],oG 13 11 false (.load 2 true) [.t 5],oG 14 11 false (.call 128) [.t 12, .t 13],oG 15 11 false .not [.t 14],mo 16 .pick [.t 11, oTr, .t 15]]
def ro_2 := [mo 6 .mv [oFa]]
def ro_3 := [oL 17 2 4,oC 18 79 [.t 17],oV 19 18,oG 20 19 false (.load 2 true) [.t 5],oG 21 19 false (.call 79) [.t 20],mo 22 .pick [.t 19, oTr, .t 21]]
def ro_4 := [oL 23 2 5,oC 24 79 [.t 23],oV 6 24]
def ro_5 := [oA 25 1 3,oM 26 1 25,oP 27 .eql [.t 26, oK 1]]
def ro_6 := [oA 28 0 4,oM 29 1 28,oA 30 0 5,oM 31 1 30,oC 32 129 [.t 29, .t 31],oV 6 32]
def ro_7 := [oA 33 1 4,oM 34 1 33,oA 35 1 5,oM 36 1 35,oP 37 .geq [.t 34, .t 36],oV 6 37]
def pc_o : PC := (.seq (.reg [] ro_0) (.seq (.seq (.reg [7, 8, 9, 10, 11, 12, 13, 14, 15] ro_1) (.cond (.t 16) (.seq (.reg [] ro_2) .ret) .skip)) (.seq (.seq (.reg [17, 18, 19, 20, 21] ro_3) (.cond (.t 22) (.seq (.reg [23, 24] ro_4) .ret) .skip)) (.seq (.seq (.reg [25, 26] ro_5) (.cond (.t 27) (.seq (.reg [28, 29, 30, 31, 32] ro_6) .ret) .skip)) (.seq (.reg [33, 34, 35, 36, 37] ro_7) .ret)))))
theorem ck_o : chkF C.P 78 pc_o 38 [.t 6] 3 = true := by kernel_rfl
attribute [go_sem] ro_0 ro_1 ro_2 ro_3 ro_4 ro_5 ro_6 ro_7

def rp_0 := [oB 1 8 0,mo 2 .mv [oFa]]
def rp_1 := [oA 6 5 1,oM 7 1 6,mo 8 .len [.t 7],oP 9 .gtr [.t 8, oK 8]]
def rp_2 := [mo 2 .mv [oFa]]
def rp_3 := [oA 10 5 1,oM 11 1 10,mo 12 .len [.t 11],oI 13 0]
def rp_4 := [oP 14 .lss [.t 13, .t 12]]
def rp_5 := [oV 15 13,mo 16 (.iaS 7 (Wait.enc Wait.zero)) [.t 11, .t 13],oL 17 7 16,mo 4 (.alloc 7 (Wait.enc Wait.zero)) [],oV 3 15,oS 7 4 17]
def rp_6 := [oL 18 8 1,oA 19 0 4,oL 20 3 19,oC 21 37 [.t 18, .t 20],mo 5 (.alloc 2 (Amount.enc Amount.zero)) [],oS 2 5 21]
def rp_7 := [oA 22 5 1,oM 23 1 22,oA 24 0 4,oL 25 3 24,oC 26 109 [.t 23, .t 25],oV 27 3,oP 28 .neq [.t 26, .t 27],oV 29 28,oG 30 29 false (.load 2 true) [.t 5],oG 31 29 false (.call 79) [.t 30],mo 32 .pick [.t 29, oTr, .t 31]]
def rp_8 := [mo 2 .mv [oFa]]
def rp_9 := [oA 33 0 1,oL 34 4 33,oA 35 3 4,oL 36 2 35,oC 37 76 [.t 34, .t 36],mo 38 .not [.t 37],oV 39 38,oG 40 39 false (.faddr 0) [.t 1],oG 41 39 false (.load 4 true) [.t 40],oG 42 39 false (.faddr 3) [.t 4],oG 43 39 false (.load 2 true) [.t 42],oG 44 39 false (.load 2 true) [.t 5],oG 45 39 false (.call 78) [.t 41, .t 43, .t 44],
 oG 46 39 false .not [.t 45],mo 47 .pick [.t 39, oTr, .t 46],oV 48 47,oG 49 48 false (.faddr 3) [.t 4],oG 50 48 false (.load 2 true) [.t 49],oG 51 48 false (.load 2 true) [.t 5],oG 52 48 false (.eqa false [.i .i64, .i .i64]) [.t 50, .t 51],mo 53 .pick [.t 48, oTr, .t 52]]
def rp_10 := [mo 2 .mv [oFa]]
def rp_11 := [oA 54 5 4,oM 55 1 54,oP 56 .neq [.t 55, oK 0],oV 57 56,oG 58 57 false (.faddr 6) [.t 4],oG 59 57 false (.load 1 false) [.t 58],oG 60 57 false (.bin .neq) [.t 59, oK 0],mo 61 .pick [.t 57, oTr, .t 60]]
def rp_12 := [mo 2 .mv [oFa]]
def rp_13 := [oP 62 .add [.t 13, oK 1],oV 13 62]
def rp_14 := [mo 2 .mv [oTr]]
def pc_p : PC := (.seq (.reg [] rp_0) (.seq (.seq (.reg [6, 7, 8] rp_1) (.cond (.t 9) (.seq (.reg [] rp_2) .ret) .skip)) (.seq (.seq (.reg [10] rp_3) (.block 0 (.loop (.seq (.reg [] rp_4) (.seq (.cond (.t 14) .skip (.exit 0)) (.seq (.block 1 (.seq (.reg [15, 16, 17] rp_5) (.seq (.reg [18, 19, 20, 21] rp_6) (.seq (.seq (.reg [22, 23, 24, 25, 26, 27, 28, 29, 30, 31] rp_7) (.cond (.t 32) (.seq (.reg [] rp_8) .ret) .skip)) (.seq (.seq (.reg [33, 34, 35, 36, 37, 38, 39, 40, 41, 42, 43, 44, 45, 46, 47, 48, 49, 50, 51, 52] rp_9) (.cond (.t 53) (.seq (.reg [] rp_10) .ret) .skip)) (.seq (.reg [54, 55, 56, 57, 58, 59, 60] rp_11) (.cond (.t 61) (.seq (.reg [] rp_12) .ret) .skip))))))) (.reg [62] rp_13))))))) (.seq (.reg [] rp_14) .ret))))
theorem ck_p : chkF C.P 63 pc_p 63 [.t 2] 1 = true := by kernel_rfl
attribute [go_sem] rp_0 rp_1 rp_2 rp_3 rp_4 rp_5 rp_6 rp_7 rp_8 rp_9 rp_10 rp_11 rp_12 rp_13 rp_14

def rq_0 := [oB 1 7 0,mo 2 .mv [oFa]]
def rq_1 := [mo 5 (.build (Resource.enc Resource.zero) [(1, 1), (2, 1)]) [oK 1, oK 1],mo 3 (.alloc 4 (Resource.enc Resource.zero)) [],oS 4 3 5]
def rq_2 := [mo 6 (.build (Resource.enc Resource.zero) [(1, 1), (2, 1)]) [oK 2, oK 8],mo 4 (.alloc 4 (Resource.enc Resource.zero)) [],oS 4 4 6]
def rq_3 := [oA 7 0 1,oL 8 3 7,oC 9 75 [.t 8],oV 10 9,oG 11 10 true (.load 4 true) [.t 3],oG 12 10 true (.faddr 3) [.t 1],oG 13 10 true (.load 2 true) [.t 12],oG 14 10 true (.call 76) [.t 11, .t 13],oG 15 10 true .mv [.t 14],oG 16 15 false (.load 4 true) [.t 4],oG 17 15 false (.faddr 3) [.t 1],oG 18 15 false (.load 2 true) [.t 17],
 oG 19 15 false (.call 76) [.t 16, .t 18],oG 20 10 true .pick [.t 15, oTr, .t 19],mo 21 .pick [.t 10, .t 20, oFa],oV 22 21,oG 23 22 true (.faddr 5) [.t 1],oG 24 22 true (.load 1 false) [.t 23],oG 25 22 true (.bin .geq) [.t 24, oK 0],mo 26 .pick [.t 22, .t 25, oFa],oV 27 26,oG 28 27 true (.faddr 5) [.t 1],
 oG 29 27 true (.load 1 false) [.t 28],oG 30 27 true (.bin .leq) [.t 29, oK 7],mo 31 .pick [.t 27, .t 30, oFa],oV 32 31,oG 33 32 true (.faddr 6) [.t 1],oG 34 32 true (.load 1 false) [.t 33],oG 35 32 true (.bin .geq) [.t 34, oK 0],mo 36 .pick [.t 32, .t 35, oFa],oV 37 36,oG 38 37 true (.faddr 6) [.t 1],
 oG 39 37 true (.load 1 false) [.t 38],oG 40 37 true (.bin .leq) [.t 39, oK 3],mo 41 .pick [.t 37, .t 40, oFa],oV 2 41]
def pc_q : PC := (.seq (.reg [] rq_0) (.seq (.reg [5] rq_1) (.seq (.reg [6] rq_2) (.seq (.reg [7, 8, 9, 10, 11, 12, 13, 14, 15, 16, 17, 18, 19, 20, 21, 22, 23, 24, 25, 26, 27, 28, 29, 30, 31, 32, 33, 34, 35, 36, 37, 38, 39, 40, 41] rq_3) .ret))))
theorem ck_q : chkF C.P 132 pc_q 42 [.t 2] 1 = true := by kernel_rfl
attribute [go_sem] rq_0 rq_1 rq_2 rq_3

def rr_0 := [mo 2 .mv [oFa]]
def rr_1 := [oV 5 0,mo 6 .len [.t 5],oP 7 .gtr [.t 6, oK 8]]
def rr_2 := [mo 2 .mv [oFa]]
def rr_3 := [oV 8 0,mo 9 .len [.t 8],oI 10 0]
def rr_4 := [oP 11 .lss [.t 10, .t 9]]
def rr_5 := [oV 12 10,mo 13 (.iaS 7 (Wait.enc Wait.zero)) [.t 8, .t 10],oL 14 7 13,mo 4 (.alloc 7 (Wait.enc Wait.zero)) [],oV 3 12,oS 7 4 14]
def rr_6 := [oL 15 7 4,oC 16 132 [.t 15],mo 17 .not [.t 16],oV 18 17,oG 19 18 false .mv [.t 0],oG 20 18 false (.faddr 0) [.t 4],oG 21 18 false (.load 3 true) [.t 20],oG 22 18 false (.call 109) [.t 19, .t 21],oG 23 18 false .mv [.t 3],oG 24 18 false (.bin .neq) [.t 22, .t 23],mo 25 .pick [.t 18, oTr, .t 24]]
def rr_7 := [mo 2 .mv [oFa]]
def rr_8 := [oP 26 .add [.t 10, oK 1],oV 10 26]
def rr_9 := [mo 2 .mv [oTr]]
def pc_r : PC := (.seq (.reg [] rr_0) (.seq (.seq (.reg [5, 6] rr_1) (.cond (.t 7) (.seq (.reg [] rr_2) .ret) .skip)) (.seq (.seq (.reg [] rr_3) (.block 0 (.loop (.seq (.reg [] rr_4) (.seq (.cond (.t 11) .skip (.exit 0)) (.seq (.block 1 (.seq (.reg [12, 13, 14] rr_5) (.seq (.reg [15, 16, 17, 18, 19, 20, 21, 22, 23, 24] rr_6) (.cond (.t 25) (.seq (.reg [] rr_7) .ret) .skip)))) (.reg [26] rr_8))))))) (.seq (.reg [] rr_9) .ret))))
theorem ck_r : chkF C.P 121 pc_r 27 [.t 2] 1 = true := by kernel_rfl
attribute [go_sem] rr_0 rr_1 rr_2 rr_3 rr_4 rr_5 rr_6 rr_7 rr_8 rr_9

def rs_0 := [oB 1 8 0,mo 2 .mv [oFa]]
def rs_1 := [oA 5 6 1,oM 6 1 5,oC 7 121 [.t 6],mo 8 .not [.t 7],oV 9 8,oG 10 9 false (.faddr 4) [.t 1],oG 11 9 false (.load 1 false) [.t 10],oG 12 9 false .len [.t 11],oG 13 9 false (.faddr 6) [.t 1],oG 14 9 false (.load 1 false) [.t 13],oG 15 9 false .len [.t 14],oG 16 9 false (.bin .add) [.t 12, .t 15],
 oG 17 9 false (.bin .gtr) [.t 16, oK 8],mo 18 .pick [.t 9, oTr, .t 17]]
def rs_2 := [mo 2 .mv [oFa]]
def rs_3 := [oA 19 6 1,oM 20 1 19,mo 21 .len [.t 20],oI 22 0]
def rs_4 := [oP 23 .lss [.t 22, .t 21]]
def rs_5 := [mo 24 (.iaS 7 (Wait.enc Wait.zero)) [.t 20, .t 22],oL 25 7 24,mo 4 (.alloc 7 (Wait.enc Wait.zero)) [],oS 7 4 25]
def rs_6 := [oA 26 0 1,oL 27 4 26,oA 28 3 4,oL 29 2 28,oC 30 76 [.t 27, .t 29],mo 31 .not [.t 30],oV 32 31,oG 33 32 false (.load 8 true) [.t 1],oG 34 32 false (.faddr 0) [.t 4],oG 35 32 false (.load 3 true) [.t 34],oG 36 32 false (.call 37) [.t 33, .t 35],oG 37 32 false (.call 79) [.t 36],oG 38 32 false .not [.t 37],
 mo 39 .pick [.t 32, oTr, .t 38]]
def rs_7 := [mo 2 .mv [oFa]]
def rs_8 := [oP 40 .add [.t 22, oK 1],oV 22 40]
def rs_9 := [mo 2 .mv [oTr]]
def pc_s : PC := (.seq (.reg [] rs_0) (.seq (.seq (.reg [5, 6, 7, 8, 9, 10, 11, 12, 13, 14, 15, 16, 17] rs_1) (.cond (.t 18) (.seq (.reg [] rs_2) .ret) .skip)) (.seq (.seq (.reg [19] rs_3) (.block 0 (.loop (.seq (.reg [] rs_4) (.seq (.cond (.t 23) .skip (.exit 0)) (.seq (.block 1 (.seq (.reg [24, 25] rs_5) (.seq (.reg [26, 27, 28, 29, 30, 31, 32, 33, 34, 35, 36, 37, 38] rs_6) (.cond (.t 39) (.seq (.reg [] rs_7) .ret) .skip)))) (.reg [40] rs_8))))))) (.seq (.reg [] rs_9) .ret))))
theorem ck_s : chkF C.P 64 pc_s 41 [.t 2] 1 = true := by kernel_rfl
attribute [go_sem] rs_0 rs_1 rs_2 rs_3 rs_4 rs_5 rs_6 rs_7 rs_8 rs_9

def rt_0 := [oB 1 8 0,mo 2 .mv [oFa]]
def rt_1 := [oA 3 0 1,oL 4 4 3,oC 5 60 [.t 4],oV 6 5,oG 7 6 true (.faddr 0) [.t 1],oG 8 6 true (.load 4 true) [.t 7],oG 9 6 true (.faddr 4) [.t 1],oG 10 6 true (.load 1 false) [.t 9],oG 11 6 true (.call 62) [.t 8, .t 10],mo 12 .pick [.t 6, .t 11, oFa],oV 13 12,oG 14 13 true (.load 8 true) [.t 1],oG 15 13 true (.call 63) [.t 14],
 mo 16 .pick [.t 13, .t 15, oFa],oV 17 16,oG 18 17 true (.load 8 true) [.t 1],oG 19 17 true (.call 64) [.t 18],mo 20 .pick [.t 17, .t 19, oFa],oV 21 20,oG 22 21 true (.faddr 7) [.t 1],oG 23 21 true (.load 1 false) [.t 22],oG 24 21 true (.bin .geq) [.t 23, oK 0],mo 25 .pick [.t 21, .t 24, oFa],oV 26 25,
 oG 27 26 true (.faddr 7) [.t 1],oG 28 26 true (.load 1 false) [.t 27],oG 29 26 true (.bin .leq) [.t 28, oK 1073741824],mo 30 .pick [.t 26, .t 29, oFa],oV 2 30]
def pc_t : PC := (.seq (.reg [] rt_0) (.seq (.reg [3, 4, 5, 6, 7, 8, 9, 10, 11, 12, 13, 14, 15, 16, 17, 18, 19, 20, 21, 22, 23, 24, 25, 26, 27, 28, 29, 30] rt_1) .ret))
theorem ck_t : chkF C.P 21 pc_t 31 [.t 2] 1 = true := by kernel_rfl
attribute [go_sem] rt_0 rt_1

def ru_0 := [oB 1 8 0,mo 2 (.alloc 7 (Wait.enc Wait.zero)) [],mo 3 .mv [oFa]]
def ru_1 := [oA 5 5 1,oM 6 1 5,mo 7 .len [.t 6],oP 8 .gtr [.t 7, oK 0],oV 4 8]
def ru_2 := [oA 9 5 1,oM 10 1 9,mo 11 (.iaS 7 (Wait.enc Wait.zero)) [.t 10, oK 0],oL 12 7 11,oS 7 2 12,mo 3 .mv [oTr]]
def ru_3 := [oA 14 6 1,oM 15 1 14,mo 16 .len [.t 15],oP 17 .gtr [.t 16, oK 0],oV 13 17]
def ru_4 := [oA 18 6 1,oM 19 1 18,mo 20 (.iaS 7 (Wait.enc Wait.zero)) [.t 19, oK 0],oL 21 7 20,oS 7 2 21,mo 3 .mv [oTr]]
def ru_5 := [mo 22 (.build (Wait.enc Wait.zero) []) [],oS 7 2 22,mo 3 .mv [oFa]]
def pc_u : PC := (.seq (.reg [] ru_0) (.seq (.block 0 (.seq (.reg [5, 6, 7, 8] ru_1) (.cond (.t 4) (.seq (.reg [9, 10, 11, 12] ru_2) .ret) (.seq (.reg [14, 15, 16, 17] ru_3) (.cond (.t 13) (.seq (.reg [18, 19, 20, 21] ru_4) .ret) .skip))))) (.seq (.reg [22] ru_5) .ret)))
theorem ck_u : chkF C.P 70 pc_u 23 [.c 2 7 true, .t 3] 1 = true := by kernel_rfl
attribute [go_sem] ru_0 ru_1 ru_2 ru_3 ru_4 ru_5

def rv_0 := [oB 4 4 0,oB 6 3 2,oB 7 2 3,mo 8 .mv [oFa]]
def rv_1 := [oL 9 4 4,oV 10 1,oC 11 62 [.t 9, .t 10],oV 12 11,oG 13 12 true (.load 3 true) [.t 6],oG 14 12 true (.call 75) [.t 13],mo 15 .pick [.t 12, .t 14, oFa],oV 16 15,oG 17 16 true (.load 4 true) [.t 4],oG 18 16 true (.load 2 true) [.t 7],oG 19 16 true (.call 76) [.t 17, .t 18],mo 20 .pick [.t 16, .t 19, oFa],
 oV 8 20]
def pc_v : PC := (.seq (.reg [] rv_0) (.seq (.reg [9, 10, 11, 12, 13, 14, 15, 16, 17, 18, 19, 20] rv_1) .ret))
theorem ck_v : chkF C.P 125 pc_v 21 [.t 8] 4 = true := by kernel_rfl
attribute [go_sem] rv_0 rv_1

def rw_0 := [oB 4 3 1,oB 5 2 2,mo 6 .mv [oNi]]
def rw_1 := [oV 11 0,mo 12 .len [.t 11],oP 13 .add [.t 12, oK 1],mo 14 (.mk 5 40 (Hold.enc Hold.zero)) [oK 0, .t 13],oV 7 14]
def rw_2 := [oI 8 (-1)]
def rw_3 := [oV 15 0,mo 16 .len [.t 15],oI 17 0]
def rw_4 := [oP 18 .lss [.t 17, .t 16]]
def rw_5 := [mo 19 (.iaS 5 (Hold.enc Hold.zero)) [.t 15, .t 17],oL 20 5 19,mo 10 (.alloc 5 (Hold.enc Hold.zero)) [],oS 5 10 20]
def rw_6 := [oA 21 0 10,oL 22 3 21,oL 23 3 4,mo 24 (.eqa false [.i .i64, .i .i64, .i .i64]) [.t 22, .t 23]]
def rw_7 := [oV 25 8,oP 26 .lss [.t 25, oK 0],oV 27 26,oG 28 27 true (.faddr 0) [.t 10],oG 29 27 true (.load 3 true) [.t 28],oG 30 27 true (.load 3 true) [.t 4],oG 31 27 true (.call 119) [.t 29, .t 30],oG 32 27 true (.bin .gtr) [.t 31, oK 0],mo 33 .pick [.t 27, .t 32, oFa]]
def rw_8 := [oV 34 7,mo 35 .len [.t 34],oV 8 35]
def rw_9 := [oV 36 7,oL 37 5 10,mo 38 (.bslice 5 (Hold.enc Hold.zero)) [.t 37],mo 39 (.append 5 40 (Hold.enc Hold.zero)) [.t 36, .t 38],oV 7 39]
def rw_10 := [oP 40 .add [.t 17, oK 1],oV 17 40]
def rw_11 := [oL 41 2 5,oC 42 79 [.t 41]]
def rw_12 := [oV 43 7,oV 6 43]
def rw_13 := [oV 44 8,oP 45 .lss [.t 44, oK 0]]
def rw_14 := [oV 46 7,mo 47 .len [.t 46],oV 8 47]
def rw_15 := [oV 48 7,mo 49 (.build (Hold.enc Hold.zero) []) [],mo 50 (.bslice 5 (Hold.enc Hold.zero)) [.t 49],mo 51 (.append 5 40 (Hold.enc Hold.zero)) [.t 48, .t 50],oV 7 51]
def rw_16 := [oV 52 7,oV 53 8,oP 54 .add [.t 53, oK 1],mo 55 (.slc 5 true false false) [.t 52, .t 54],oV 56 7,oV 57 8,mo 58 (.slc 5 true false false) [.t 56, .t 57],mo 59 (.copy 5) [.t 55, .t 58]]
def rw_17 := [oV 60 7,oV 61 8,oL 62 3 4,oL 63 2 5,mo 64 (.build (Hold.enc Hold.zero) [(0, 3), (3, 2)]) [.t 62, .t 63],mo 65 (.iaS 5 (Hold.enc Hold.zero)) [.t 60, .t 61],oS 5 65 64]
def rw_18 := [oV 66 7,oV 6 66]
def pc_w : PC := (.seq (.reg [] rw_0) (.seq (.reg [11, 12, 13, 14] rw_1) (.seq (.reg [] rw_2) (.seq (.seq (.reg [] rw_3) (.block 0 (.loop (.seq (.reg [] rw_4) (.seq (.cond (.t 18) .skip (.exit 0)) (.seq (.block 1 (.seq (.reg [19, 20] rw_5) (.seq (.seq (.reg [21, 22, 23] rw_6) (.cond (.t 24) (.exit 1) .skip)) (.seq (.seq (.reg [25, 26, 27, 28, 29, 30, 31, 32] rw_7) (.cond (.t 33) (.reg [34, 35] rw_8) .skip)) (.reg [36, 37, 38, 39] rw_9))))) (.reg [40] rw_10))))))) (.seq (.seq (.reg [41] rw_11) (.cond (.t 42) (.seq (.reg [43] rw_12) .ret) .skip)) (.seq (.seq (.reg [44] rw_13) (.cond (.t 45) (.reg [46, 47] rw_14) .skip)) (.seq (.reg [48, 49, 50, 51] rw_15) (.seq (.regm [52, 53, 54, 55, 56, 57, 58, 59] [[], [], [1], [0, 2, 1], [], [], [4, 5], [3, 6, 0, 2, 1, 4, 5]] rw_16) (.seq (.reg [60, 61, 62, 63, 64, 65] rw_17) (.seq (.reg [66] rw_18) .ret))))))))))
theorem ck_w : chkF C.P 92 pc_w 67 [.t 6] 3 = true := by kernel_rfl
attribute [go_sem] rw_0 rw_1 rw_2 rw_3 rw_4 rw_5 rw_6 rw_7 rw_8 rw_9 rw_10 rw_11 rw_12 rw_13 rw_14 rw_15 rw_16 rw_17 rw_18

def rx_0 := [oB 4 4 0,oB 6 3 2,oB 7 2 3,mo 8 .mv [oFa]]
def rx_1 := [oL 9 4 4,oV 10 1,oL 11 3 6,oL 12 2 7,oC 13 125 [.t 9, .t 10, .t 11, .t 12],oV 14 13,oG 15 14 true (.load 4 true) [.t 4],oG 16 14 true .mv [.t 1],oG 17 14 true (.load 3 true) [.t 6],oG 18 14 true (.load 2 true) [.t 7],oG 19 14 true (.call 92) [.t 16, .t 17, .t 18],oG 20 14 true (.call 62) [.t 15, .t 19],
 mo 21 .pick [.t 14, .t 20, oFa],oV 8 21]
def pc_x : PC := (.seq (.reg [] rx_0) (.seq (.regd [9, 10, 11, 12, 13, 14, 15, 16, 17, 18, 19, 20, 21] rx_1) .ret))
theorem ck_x : chkF C.P 71 pc_x 22 [.t 8] 4 = true := by kernel_rfl
attribute [go_sem] rx_0 rx_1

def ry_0 := [oB 1 8 0,mo 2 .mv [oFa]]
def ry_1 := [oL 5 8 1,oC 6 21 [.t 5],mo 7 .not [.t 6]]
def ry_2 := [mo 2 .mv [oFa]]
def ry_3 := [oL 9 8 1,oC 10 70 [.t 9],oV 8 10,oE 11 0 8,oE 12 1 8,mo 3 (.alloc 7 (Wait.enc Wait.zero)) [],oS 7 3 11,oV 4 12]
def ry_4 := [oV 13 4,mo 14 .not [.t 13],oV 15 14,oG 16 15 false (.faddr 0) [.t 1],oG 17 15 false (.load 4 true) [.t 16],oG 18 15 false (.faddr 4) [.t 1],oG 19 15 false (.load 1 false) [.t 18],oG 20 15 false (.faddr 0) [.t 3],oG 21 15 false (.load 3 true) [.t 20],oG 22 15 false (.faddr 3) [.t 3],oG 23 15 false (.load 2 true) [.t 22],
 oG 24 15 false (.call 71) [.t 17, .t 19, .t 21, .t 23],oG 25 15 false .not [.t 24],mo 26 .pick [.t 15, oTr, .t 25],oV 2 26]
def pc_y : PC := (.seq (.reg [] ry_0) (.seq (.seq (.reg [5, 6] ry_1) (.cond (.t 7) (.seq (.reg [] ry_2) .ret) .skip)) (.seq (.reg [8, 9, 10, 11, 12] ry_3) (.seq (.reg [13, 14, 15, 16, 17, 18, 19, 20, 21, 22, 23, 24, 25, 26] ry_4) .ret))))
theorem ck_y : chkF C.P 23 pc_y 27 [.t 2] 1 = true := by kernel_rfl
attribute [go_sem] ry_0 ry_1 ry_2 ry_3 ry_4

def rz_0 := [oB 1 8 0,mo 2 .mv [oFa]]
def rz_1 := [oL 3 8 1,oC 4 23 [.t 3],oV 2 4]
def pc_z : PC := (.seq (.reg [] rz_0) (.seq (.reg [3, 4] rz_1) .ret))
theorem ck_z : chkF C.P 25 pc_z 5 [.t 2] 1 = true := by kernel_rfl
attribute [go_sem] rz_0 rz_1

def r10_0 := [mo 2 .mv [oNi]]
def r10_1 := [oI 3 0]
def r10_2 := [oV 9 0,mo 10 .len [.t 9],oI 11 0]
def r10_3 := [oP 12 .lss [.t 11, .t 10]]
def r10_4 := [mo 13 (.iaS 1 [A.sl ([].map Wait.enc)]) [.t 9, .t 11],oM 14 1 13,oV 5 14]
def r10_5 := [oV 15 3,oV 16 5,mo 17 .len [.t 16],oP 18 .add [.t 15, .t 17],oV 3 18]
def r10_6 := [oV 19 3,oP 20 .lss [.t 19, oK 0]]
def r10_8 := [oP 22 .add [.t 11, oK 1],oV 11 22]
def r10_9 := [oV 23 3,mo 24 (.callm 151) [.c (A.full []), .t 23],oV 6 24]
def r10_10 := [oV 25 0,mo 26 .len [.t 25],oI 27 0]
def r10_11 := [oP 28 .lss [.t 27, .t 26]]
def r10_12 := [mo 29 (.iaS 1 [A.sl ([].map Wait.enc)]) [.t 25, .t 27],oM 30 1 29,oV 8 30]
def r10_13 := [oV 31 6,oV 32 8,mo 33 (.append 7 56 (Wait.enc Wait.zero)) [.t 31, .t 32],oV 6 33]
def r10_14 := [oP 34 .add [.t 27, oK 1],oV 27 34]
def r10_15 := [oV 35 6,oV 2 35]
def pc_10 : PC := (.seq (.reg [] r10_0) (.seq (.reg [] r10_1) (.seq (.seq (.reg [] r10_2) (.block 0 (.loop (.seq (.reg [] r10_3) (.seq (.cond (.t 12) .skip (.exit 0)) (.seq (.block 1 (.seq (.reg [13, 14] r10_4) (.seq (.reg [15, 16, 17, 18] r10_5) (.seq (.reg [19] r10_6) (.cond (.t 20) .dead .skip))))) (.reg [22] r10_8))))))) (.seq (.reg [23, 24] r10_9) (.seq (.seq (.reg [] r10_10) (.block 2 (.loop (.seq (.reg [] r10_11) (.seq (.cond (.t 28) .skip (.exit 2)) (.seq (.block 3 (.seq (.reg [29, 30] r10_12) (.reg [31, 32, 33] r10_13))) (.reg [34] r10_14))))))) (.seq (.reg [35] r10_15) .ret))))))
theorem ck_10 : chkF C.P 137 pc_10 36 [.t 2] 1 = true := by kernel_rfl
attribute [go_sem] r10_0 r10_1 r10_2 r10_3 r10_4 r10_5 r10_6 r10_8 r10_9 r10_10 r10_11 r10_12 r10_13 r10_14 r10_15

def r11_0 := [oB 1 8 0,mo 2 .mv [oNi]]
def r11_1 := [oA 3 5 1,oM 4 1 3,oA 5 6 1,oM 6 1 5,mo 7 (.bslice 1 [A.sl ([].map Wait.enc)]) [.t 4, .t 6],oC 8 137 [.t 7],oV 2 8]
def pc_11 : PC := (.seq (.reg [] r11_0) (.seq (.reg [3, 4, 5, 6, 7, 8] r11_1) .ret))
theorem ck_11 : chkF C.P 100 pc_11 9 [.t 2] 1 = true := by kernel_rfl
attribute [go_sem] r11_0 r11_1

def r12_0 := [oB 2 8 0,oB 3 3 1,mo 4 (.alloc 2 (Amount.enc Amount.zero)) [],mo 5 .mv [oFa]]
def r12_1 := [oL 8 8 2,oC 9 100 [.t 8],mo 10 .len [.t 9],oI 11 0]
def r12_2 := [oP 12 .lss [.t 11, .t 10]]
def r12_3 := [mo 13 (.iaS 7 (Wait.enc Wait.zero)) [.t 9, .t 11],oL 14 7 13,mo 7 (.alloc 7 (Wait.enc Wait.zero)) [],oS 7 7 14]
def r12_4 := [oA 15 0 7,oL 16 3 15,oL 17 3 3,mo 18 (.eqa false [.i .i64, .i .i64, .i .i64]) [.t 16, .t 17]]
def r12_5 := [oA 19 3 7,oL 20 2 19,oS 2 4 20,mo 5 .mv [oTr]]
def r12_6 := [oP 21 .add [.t 11, oK 1],oV 11 21]
def r12_7 := [mo 22 (.build (Amount.enc Amount.zero) []) [],oS 2 4 22,mo 5 .mv [oFa]]
def pc_12 : PC := (.seq (.reg [] r12_0) (.seq (.seq (.reg [8] r12_1) (.block 0 (.loop (.seq (.reg [] r12_2) (.seq (.cond (.t 12) .skip (.exit 0)) (.seq (.block 1 (.seq (.reg [13, 14] r12_3) (.seq (.reg [15, 16, 17] r12_4) (.cond (.t 18) (.seq (.reg [19, 20] r12_5) .ret) .skip)))) (.reg [21] r12_6))))))) (.seq (.reg [22] r12_7) .ret)))
theorem ck_12 : chkF C.P 57 pc_12 23 [.c 4 2 true, .t 5] 2 = true := by kernel_rfl
attribute [go_sem] r12_0 r12_1 r12_2 r12_3 r12_4 r12_5 r12_6 r12_7

def r13_0 := [oB 1 8 0,mo 2 (.alloc 8 (Queue.enc Queue.zero)) []]
def r13_1 := [oA 3 4 1,oM 4 1 3,mo 5 (.append 5 40 (Hold.enc Hold.zero)) [.c (A.full []), .t 4],oA 6 4 1,oS 1 6 5]
def r13_2 := [oA 7 5 1,oM 8 1 7,mo 9 (.append 7 56 (Wait.enc Wait.zero)) [.c (A.full []), .t 8],oA 10 5 1,oS 1 10 9]
def r13_3 := [oA 11 6 1,oM 12 1 11,mo 13 (.append 7 56 (Wait.enc Wait.zero)) [.c (A.full []), .t 12],oA 14 6 1,oS 1 14 13]
def r13_4 := [oL 15 8 1,oS 8 2 15]
def pc_13 : PC := (.seq (.reg [] r13_0) (.seq (.reg [3, 4, 5, 6] r13_1) (.seq (.reg [7, 8, 9, 10] r13_2) (.seq (.reg [11, 12, 13, 14] r13_3) (.seq (.reg [15] r13_4) .ret)))))
theorem ck_13 : chkF C.P 77 pc_13 16 [.c 2 8 true] 1 = true := by kernel_rfl
attribute [go_sem] r13_0 r13_1 r13_2 r13_3 r13_4

def r14_0 := [oI 4 0]
def r14_1 := [oI 5 1]
def r14_2 := [oV 6 5,oP 7 .leq [.t 6, oK 5]]
def r14_4 := [oV 10 5,oV 11 0,oC 12 129 [.t 10, .t 11],oV 13 12,oG 14 13 true .mv [.t 5],oG 15 13 true .mv [.t 1],oG 16 13 true (.call 129) [.t 14, .t 15],mo 17 .pick [.t 13, .t 16, oFa]]
def r14_5 := [oV 18 5,oV 4 18]
def r14_3 := [oV 8 5,oP 9 .add [.t 8, oK 1],oV 5 9]
def r14_6 := [oI 4 0]
def pc_14 : PC := (.seq (.reg [] r14_0) (.seq (.seq (.reg [] r14_1) (.block 0 (.loop (.seq (.seq (.reg [6] r14_2) (.cond (.t 7) .skip (.exit 0))) (.seq (.block 1 (.seq (.reg [10, 11, 12, 13, 14, 15, 16] r14_4) (.cond (.t 17) (.seq (.reg [18] r14_5) .ret) .skip))) (.reg [8, 9] r14_3)))))) (.seq (.reg [] r14_6) .ret)))
theorem ck_14 : chkF C.P 131 pc_14 19 [.t 4] 2 = true := by kernel_rfl
attribute [go_sem] r14_0 r14_1 r14_2 r14_4 r14_5 r14_3 r14_6

def r15_0 := [oB 3 4 0,oB 4 2 1,oB 5 2 2,mo 6 (.alloc 2 (Amount.enc Amount.zero)) []]
def r15_1 := [oL 8 4 3,oL 9 2 4,oC 10 128 [.t 8, .t 9],mo 11 .not [.t 10],oV 12 11,oG 13 12 false (.load 4 true) [.t 3],oG 14 12 false (.load 2 true) [.t 5],oG 15 12 false (.call 128) [.t 13, .t 14],oG 16 12 false .not [.t 15],mo 17 .pick [.t 12, oTr, .t 16],oV 7 17]
def r15_2 := [mo 18 (.build (Amount.enc Amount.zero) []) [],oS 2 6 18]
def r15_3 := [oL 20 2 4,oC 21 79 [.t 20],oV 19 21]
def r15_4 := [oL 22 2 5,oS 2 6 22]
def r15_5 := [oL 24 2 5,oC 25 79 [.t 24],oV 23 25]
def r15_6 := [oL 26 2 4,oS 2 6 26]
def r15_7 := [oA 28 1 3,oM 29 1 28,oP 30 .eql [.t 29, oK 1],oV 27 30]
def r15_8 := [oA 31 0 4,oM 32 1 31,oA 33 0 5,oM 34 1 33,oC 35 131 [.t 32, .t 34],mo 36 (.build (Amount.enc Amount.zero) [(0, 1)]) [.t 35],oS 2 6 36]
def r15_9 := [oA 37 1 4,oM 38 1 37,oA 39 1 5,oM 40 1 39,mo 41 .max [.t 38, .t 40],mo 42 (.build (Amount.enc Amount.zero) [(1, 1)]) [.t 41],oS 2 6 42]
def pc_15 : PC := (.seq (.reg [] r15_0) (.seq (.block 0 (.seq (.reg [8, 9, 10, 11, 12, 13, 14, 15, 16, 17] r15_1) (.cond (.t 7) (.seq (.reg [18] r15_2) .ret) (.seq (.reg [20, 21] r15_3) (.cond (.t 19) (.seq (.reg [22] r15_4) .ret) (.seq (.reg [24, 25] r15_5) (.cond (.t 23) (.seq (.reg [26] r15_6) .ret) (.seq (.reg [28, 29, 30] r15_7) (.cond (.t 27) (.seq (.reg [31, 32, 33, 34, 35, 36] r15_8) .ret) .skip))))))))) (.seq (.reg [37, 38, 39, 40, 41, 42] r15_9) .ret)))
theorem ck_15 : chkF C.P 82 pc_15 43 [.c 6 2 true] 3 = true := by kernel_rfl
attribute [go_sem] r15_0 r15_1 r15_2 r15_3 r15_4 r15_5 r15_6 r15_7 r15_8 r15_9

def r16_0 := [oA 5 0 0,oL 6 4 5,oL 7 2 1,oL 8 2 2,oC 9 82 [.t 6, .t 7, .t 8],mo 4 (.alloc 2 (Amount.enc Amount.zero)) [],oS 2 4 9]
def r16_1 := [oA 10 5 0,oM 11 1 10,oL 12 3 3,oL 13 2 4,mo 14 (.build (Wait.enc Wait.zero) [(0, 3), (3, 2)]) [.t 12, .t 13],mo 15 (.bslice 7 (Wait.enc Wait.zero)) [.t 14],mo 16 (.append 7 56 (Wait.enc Wait.zero)) [.t 11, .t 15],oA 17 5 0,oS 1 17 16]
def pc_16 : PC := (.seq (.reg [5, 6, 7, 8, 9] r16_0) (.reg [10, 11, 12, 13, 14, 15, 16, 17] r16_1))
theorem ck_16 : chkF C.P 81 pc_16 18 [] 4 = true := by kernel_rfl
attribute [go_sem] r16_0 r16_1

def r17_0 := [mo 2 .mv [oNi]]
def r17_1 := [mo 3 (.nilown 5 (Hold.enc Hold.zero)) [.c (A.full [])]]
def r17_2 := [oV 7 0,mo 8 .nilck [.t 7],oL 9 8 8,oC 10 70 [.t 9],oV 6 10,oE 11 0 6,oE 12 1 6,mo 4 (.alloc 7 (Wait.enc Wait.zero)) [],oS 7 4 11,oV 5 12]
def r17_4 := [oV 22 5,mo 23 .not [.t 22],oV 24 23,oG 25 24 false .mv [.t 0],oG 26 24 false .nilck [.t 25],oG 27 24 false (.faddr 0) [.t 26],oG 28 24 false (.load 4 true) [.t 27],oG 29 24 false .mv [.t 0],oG 30 24 false .nilck [.t 29],oG 31 24 false (.faddr 4) [.t 30],oG 32 24 false (.load 1 false) [.t 31],
 oG 33 24 false (.faddr 0) [.t 4],oG 34 24 false (.load 3 true) [.t 33],oG 35 24 false (.faddr 3) [.t 4],oG 36 24 false (.load 2 true) [.t 35],oG 37 24 false (.call 71) [.t 28, .t 32, .t 34, .t 36],oG 38 24 false .not [.t 37],mo 39 .pick [.t 24, oTr, .t 38],oV 21 39]
def r17_5 := [oV 41 0,mo 42 .nilck [.t 41],oA 43 5 42,oM 44 1 43,mo 45 .len [.t 44],oP 46 .gtr [.t 45, oK 0],oV 40 46]
def r17_6 := [oV 47 0,oV 48 0,mo 49 .nilck [.t 48],oA 50 5 49,oM 51 1 50,mo 52 (.slc 7 true false false) [.t 51, oK 1],mo 53 .nilck [.t 47],oA 54 5 53,oS 1 54 52]
def r17_3 := [oV 13 0,oV 14 0,mo 15 .nilck [.t 14],oA 16 6 15,oM 17 1 16,mo 18 (.slc 7 true false false) [.t 17, oK 1],mo 19 .nilck [.t 13],oA 20 6 19,oS 1 20 18]
def r17_7 := [oV 55 0,oV 56 0,mo 57 .nilck [.t 56],oA 58 4 57,oM 59 1 58,oA 60 0 4,oL 61 3 60,oA 62 3 4,oL 63 2 62,oC 64 92 [.t 59, .t 61, .t 63],mo 65 .nilck [.t 55],oA 66 4 65,oS 1 66 64]
def r17_8 := [oV 67 3,oA 68 0 4,oL 69 3 68,oA 70 3 4,oL 71 2 70,mo 72 (.build (Hold.enc Hold.zero) [(0, 3), (3, 2)]) [.t 69, .t 71],mo 73 (.bslice 5 (Hold.enc Hold.zero)) [.t 72],mo 74 (.append 5 40 (Hold.enc Hold.zero)) [.t 67, .t 73],oV 3 74]
def r17_9 := [oV 75 3,oV 2 75]
def pc_17 : PC := (.seq (.reg [] r17_0) (.scope (.seq (.reg [] r17_1) (.seq .label (.seq (.block 0 (.loop (.block 1 (.seq (.reg [6, 7, 8, 9, 10, 11, 12] r17_2) (.seq (.block 2 (.seq (.regd [22, 23, 24, 25, 26, 27, 28, 29, 30, 31, 32, 33, 34, 35, 36, 37, 38, 39] r17_4) (.cond (.t 21) (.exit 0) (.seq (.reg [41, 42, 43, 44, 45, 46] r17_5) (.cond (.t 40) (.reg [47, 48, 49, 50, 51, 52, 53, 54] r17_6) (.reg [13, 14, 15, 16, 17, 18, 19, 20] r17_3)))))) (.seq (.regm [55, 56, 57, 58, 59, 60, 61, 62, 63, 64, 65, 66] [[], [], [1], [2, 1], [3, 2, 1], [], [5], [], [7], [4, 6, 8, 3, 2, 1, 5, 7], [0, 0, 1, 2, 3, 4, 5, 6, 7, 8, 9, 1, 2, 1, 3, 2, 1, 5, 7, 4, 6, 8, 3, 2, 1, 5, 7], [10, 0, 1, 2, 3, 4, 5, 6, 7, 8, 9, 0, 0, 1, 2, 3, 4, 5, 6, 7, 8, 9, 1, 2, 1, 3, 2, 1, 5, 7, 4, 6, 8, 3, 2, 1, 5, 7, 1, 2, 1, 3, 2, 1, 5, 7, 4, 6, 8, 3, 2, 1, 5, 7], [11, 9, 9, 0, 1, 2, 3, 4, 5, 6, 7, 8, 9, 10, 0, 1, 2, 3, 4, 5, 6, 7, 8, 9, 0, 0, 1, 2, 3, 4, 5, 6, 7, 8, 9, 1, 2, 1, 3, 2, 1, 5, 7, 4, 6, 8, 3, 2, 1, 5, 7, 1, 2, 1, 3, 2, 1, 5, 7, 4, 6, 8, 3, 2, 1, 5, 7, 4, 6, 8, 3, 2, 1, 5, 7, 4, 6, 8, 3, 2, 1, 5, 7, 1, 2, 1, 3, 2, 1, 5, 7, 4, 6, 8, 3, 2, 1, 5, 7]] r17_7) (.reg [67, 68, 69, 70, 71, 72, 73, 74] r17_8))))))) (.seq (.reg [75] r17_9) .ret))))))
theorem ck_17 : chkF C.P 103 pc_17 76 [.t 2] 1 = true := by kernel_rfl
attribute [go_sem] r17_0 r17_1 r17_2 r17_4 r17_5 r17_6 r17_3 r17_7 r17_8 r17_9

def r18_0 := [oI 2 0]
def r18_1 := [oV 3 0,oP 4 .lss [.t 3, oK 0],oV 5 4,oG 6 5 false .mv [.t 0],oG 7 5 false (.bin .geq) [.t 6, oK 1073741824],mo 8 .pick [.t 5, oTr, .t 7]]
def r18_2 := [oI 2 1]
def r18_3 := [oV 9 0,oP 10 .add [.t 9, oK 1],oV 2 10]
def pc_18 : PC := (.seq (.reg [] r18_0) (.seq (.seq (.reg [3, 4, 5, 6, 7] r18_1) (.cond (.t 8) (.seq (.reg [] r18_2) .ret) .skip)) (.seq (.reg [9, 10] r18_3) .ret)))
theorem ck_18 : chkF C.P 130 pc_18 11 [.t 2] 1 = true := by kernel_rfl
attribute [go_sem] r18_0 r18_1 r18_2 r18_3

def r19_0 := [mo 4 (.alloc 8 (Queue.enc Queue.zero)) [],mo 5 .mv [oNi],oI 6 0]
def r19_1 := [oV 10 1,mo 11 .len [.t 10],oI 12 0]
def r19_2 := [oP 13 .lss [.t 12, .t 11]]
def r19_3 := [mo 14 (.iaS 1 [A.any]) [.t 10, .t 12],oM 15 1 14,oV 8 15]
def r19_4 := [oV 16 8,mo 17 .callvm [.t 16]]
def r19_5 := [oP 18 .add [.t 12, oK 1],oV 12 18]
def r19_6 := [oV 19 0,mo 20 (.callm 103) [.t 19],oV 9 20]
def r19_7 := [oV 21 0,oV 22 0,mo 23 .nilck [.t 22],oA 24 7 23,oM 25 1 24,oC 26 130 [.t 25],mo 27 .nilck [.t 21],oA 28 7 27,oS 1 28 26]
def r19_8 := [oV 29 0,mo 30 .nilck [.t 29],oL 31 8 30,oV 32 9,oS 8 4 31,oV 5 32,oI 6 0]
def pc_19 : PC := (.seq (.reg [] r19_0) (.seq (.seq (.reg [] r19_1) (.block 0 (.loop (.seq (.reg [] r19_2) (.seq (.cond (.t 13) .skip (.exit 0)) (.seq (.block 1 (.seq (.reg [14, 15] r19_3) (.reg [16, 17] r19_4))) (.reg [18] r19_5))))))) (.seq (.reg [19, 20] r19_6) (.seq (.reg [21, 22, 23, 24, 25, 26, 27, 28] r19_7) (.seq (.reg [29, 30, 31, 32] r19_8) .ret)))))
theorem ck_19 : chkF C.P 80 pc_19 33 [.c 4 8 true, .t 5, .t 6] 2 = true := by kernel_rfl
attribute [go_sem] r19_0 r19_1 r19_2 r19_3 r19_4 r19_5 r19_6 r19_7 r19_8

def r1a_0 := [oB 2 7 0,oB 3 7 1,oI 4 0]
def r1a_1 := [oA 5 5 3,oM 6 1 5,oA 7 5 2,oM 8 1 7,oP 9 .lss [.t 6, .t 8],oV 10 9,oG 11 10 true (.faddr 6) [.t 3],oG 12 10 true (.load 1 false) [.t 11],oG 13 10 true (.bin .lss) [.t 12, oK 3],mo 14 .pick [.t 10, .t 13, oFa]]
def r1a_2 := [oI 4 1]
def r1a_3 := [oI 4 0]
def pc_1a : PC := (.seq (.reg [] r1a_0) (.seq (.seq (.reg [5, 6, 7, 8, 9, 10, 11, 12, 13] r1a_1) (.cond (.t 14) (.seq (.reg [] r1a_2) .ret) .skip)) (.seq (.reg [] r1a_3) .ret)))
theorem ck_1a : chkF C.P 133 pc_1a 15 [.t 4] 2 = true := by kernel_rfl
attribute [go_sem] r1a_0 r1a_1 r1a_2 r1a_3

def r1b_0 := [oB 3 7 1,mo 4 .mv [oNi],oI 5 0,oI 6 0]
def r1b_1 := [oV 10 0,oC 11 121 [.t 10],mo 12 .not [.t 11],oV 9 12]
def r1b_2 := [mo 4 .mv [oNi],oI 5 0,oI 6 2]
def r1b_3 := [oL 14 7 3,oC 15 132 [.t 14],mo 16 .not [.t 15],oV 17 16,oG 18 17 false (.faddr 6) [.t 3],oG 19 17 false (.load 1 false) [.t 18],oG 20 17 false (.bin .neq) [.t 19, oK 0],mo 21 .pick [.t 17, oTr, .t 20],oV 13 21]
def r1b_4 := [mo 4 .mv [oNi],oI 5 0,oI 6 1]
def r1b_5 := [oV 23 0,oA 24 0 3,oL 25 3 24,oC 26 109 [.t 23, .t 25],oP 27 .geq [.t 26, oK 0],oV 22 27]
def r1b_6 := [mo 4 .mv [oNi],oI 5 0,oI 6 11]
def r1b_7 := [oV 29 0,mo 30 .len [.t 29],oP 31 .eql [.t 30, oK 8],oV 28 31]
def r1b_8 := [mo 4 .mv [oNi],oI 5 0,oI 6 4]
def r1b_9 := [oV 32 0,mo 33 .len [.t 32],oP 34 .add [.t 33, oK 1],mo 35 (.mk 7 56 (Wait.enc Wait.zero)) [.t 34, .t 34],oV 7 35]
def r1b_10 := [oV 36 7,oV 37 0,mo 38 (.copy 7) [.t 36, .t 37]]
def r1b_11 := [oV 39 0,mo 40 .len [.t 39],oV 8 40]
def r1b_12 := [oV 41 8,oP 42 .gtr [.t 41, oK 0],oV 43 42,oG 44 43 true (.load 7 true) [.t 3],oG 45 43 true .mv [.t 7],oG 46 43 true .mv [.t 8],oG 47 43 true (.bin .sub) [.t 46, oK 1],oG 48 43 true (.iaS 7 (Wait.enc Wait.zero)) [.t 45, .t 47],oG 49 43 true (.load 7 true) [.t 48],oG 50 43 true (.call 133) [.t 44, .t 49],
 oG 51 43 true (.bin .eql) [.t 50, oK 1],mo 52 .pick [.t 43, .t 51, oFa]]
def r1b_13 := [oV 53 7,oV 54 8,oV 55 7,oV 56 8,oP 57 .sub [.t 56, oK 1],mo 58 (.iaS 7 (Wait.enc Wait.zero)) [.t 55, .t 57],oL 59 7 58,mo 60 (.iaS 7 (Wait.enc Wait.zero)) [.t 53, .t 54],oS 7 60 59]
def r1b_14 := [oV 61 7,oV 62 8,mo 63 (.iaS 7 (Wait.enc Wait.zero)) [.t 61, .t 62],oA 64 6 63,oM 65 1 64,oP 66 .add [.t 65, oK 1],mo 67 (.iaS 7 (Wait.enc Wait.zero)) [.t 61, .t 62],oA 68 6 67,oS 1 68 66]
def r1b_15 := [oV 69 8,oP 70 .sub [.t 69, oK 1],oV 8 70]
def r1b_16 := [oV 71 7,oV 72 8,oL 73 7 3,mo 74 (.iaS 7 (Wait.enc Wait.zero)) [.t 71, .t 72],oS 7 74 73]
def r1b_17 := [oV 75 7,oV 76 8,oV 4 75,oV 5 76,oI 6 0]
def pc_1b : PC := (.seq (.reg [] r1b_0) (.seq (.block 0 (.seq (.reg [10, 11, 12] r1b_1) (.cond (.t 9) (.seq (.reg [] r1b_2) .ret) (.seq (.reg [14, 15, 16, 17, 18, 19, 20, 21] r1b_3) (.cond (.t 13) (.seq (.reg [] r1b_4) .ret) (.seq (.reg [23, 24, 25, 26, 27] r1b_5) (.cond (.t 22) (.seq (.reg [] r1b_6) .ret) (.seq (.reg [29, 30, 31] r1b_7) (.cond (.t 28) (.seq (.reg [] r1b_8) .ret) .skip))))))))) (.seq (.reg [32, 33, 34, 35] r1b_9) (.seq (.reg [36, 37, 38] r1b_10) (.seq (.reg [39, 40] r1b_11) (.seq (.block 1 (.loop (.seq (.seq (.regd [41, 42, 43, 44, 45, 46, 47, 48, 49, 50, 51] r1b_12) (.cond (.t 52) .skip (.exit 1))) (.block 2 (.seq (.reg [53, 54, 55, 56, 57, 58, 59, 60] r1b_13) (.seq (.reg [61, 62, 63, 64, 65, 66, 67, 68] r1b_14) (.reg [69, 70] r1b_15))))))) (.seq (.reg [71, 72, 73, 74] r1b_16) (.seq (.reg [75, 76] r1b_17) .ret))))))))
theorem ck_1b : chkF C.P 83 pc_1b 77 [.t 4, .t 5, .t 6] 2 = true := by kernel_rfl
attribute [go_sem] r1b_0 r1b_1 r1b_2 r1b_3 r1b_4 r1b_5 r1b_6 r1b_7 r1b_8 r1b_9 r1b_10 r1b_11 r1b_12 r1b_13 r1b_14 r1b_15 r1b_16 r1b_17

def r1c_0 := [oM 2 1 0,oA 3 6 1,oS 1 3 2]
def pc_1c : PC := (.reg [2, 3] r1c_0)
theorem ck_1c : chkF C.P 84 pc_1c 4 [] 2 = true := by kernel_rfl
attribute [go_sem] r1c_0

def r1d_0 := [mo 4 (.alloc 8 (Queue.enc Queue.zero)) [],mo 5 .mv [oNi],oI 6 0]
def r1d_1 := [oV 10 1,mo 11 .len [.t 10],oI 12 0]
def r1d_2 := [oP 13 .lss [.t 12, .t 11]]
def r1d_3 := [mo 14 (.iaS 1 [A.any]) [.t 10, .t 12],oM 15 1 14,oV 8 15]
def r1d_4 := [oV 16 8,mo 17 .callvm [.t 16]]
def r1d_5 := [oP 18 .add [.t 12, oK 1],oV 12 18]
def r1d_6 := [oV 19 0,mo 20 (.callm 103) [.t 19],oV 9 20]
def r1d_7 := [oV 21 0,oV 22 0,mo 23 .nilck [.t 22],oA 24 7 23,oM 25 1 24,oC 26 130 [.t 25],mo 27 .nilck [.t 21],oA 28 7 27,oS 1 28 26]
def r1d_8 := [oV 29 0,mo 30 .nilck [.t 29],oL 31 8 30,oV 32 9,oS 8 4 31,oV 5 32,oI 6 0]
def pc_1d : PC := (.seq (.reg [] r1d_0) (.seq (.seq (.reg [] r1d_1) (.block 0 (.loop (.seq (.reg [] r1d_2) (.seq (.cond (.t 13) .skip (.exit 0)) (.seq (.block 1 (.seq (.reg [14, 15] r1d_3) (.reg [16, 17] r1d_4))) (.reg [18] r1d_5))))))) (.seq (.reg [19, 20] r1d_6) (.seq (.reg [21, 22, 23, 24, 25, 26, 27, 28] r1d_7) (.seq (.reg [29, 30, 31, 32] r1d_8) .ret)))))
theorem ck_1d : chkF C.P 80 pc_1d 33 [.c 4 8 true, .t 5, .t 6] 2 = true := by kernel_rfl
attribute [go_sem] r1d_0 r1d_1 r1d_2 r1d_3 r1d_4 r1d_5 r1d_6 r1d_7 r1d_8

def r1e_0 := [oB 4 8 0,oB 5 3 1,oB 6 2 2,mo 8 (.alloc 8 (Queue.enc Queue.zero)) [],mo 9 .mv [oNi],oI 10 0]
def r1e_1 := [oL 18 8 4,oC 19 25 [.t 18],mo 20 .not [.t 19]]
def r1e_2 := [mo 21 (.build (Queue.enc Queue.zero) []) [],oS 8 8 21,mo 9 .mv [oNi],oI 10 2]
def r1e_3 := [oL 22 3 5,oC 23 75 [.t 22],mo 24 .not [.t 23],oV 25 24,oG 26 25 false .mv [.t 3],oG 27 25 false (.bin .lss) [.t 26, oK 0],mo 28 .pick [.t 25, oTr, .t 27],oV 29 28,oG 30 29 false .mv [.t 3],oG 31 29 false (.bin .gtr) [.t 30, oK 7],mo 32 .pick [.t 29, oTr, .t 31]]
def r1e_4 := [mo 33 (.build (Queue.enc Queue.zero) []) [],oS 8 8 33,mo 9 .mv [oNi],oI 10 1]
def r1e_5 := [oA 34 0 4,oL 35 4 34,oL 36 2 6,oC 37 76 [.t 35, .t 36],mo 38 .not [.t 37]]
def r1e_6 := [mo 39 (.build (Queue.enc Queue.zero) []) [],oS 8 8 39,mo 9 .mv [oNi],oI 10 12]
def r1e_7 := [oL 41 8 4,oL 42 3 5,oC 43 57 [.t 41, .t 42],oV 40 43,oE 44 0 40,oE 45 1 40,mo 11 (.alloc 2 (Amount.enc Amount.zero)) [],oS 2 11 44,oV 12 45]
def r1e_8 := [oV 46 12]
def r1e_9 := [mo 47 (.build (Queue.enc Queue.zero) []) [],oS 8 8 47,mo 9 .mv [oNi],oI 10 14]
def r1e_10 := [oL 48 8 4,mo 49 (.callm 77) [.t 48],oL 50 8 4,oL 51 3 5,oC 52 37 [.t 50, .t 51],mo 13 (.alloc 8 (Queue.enc Queue.zero)) [],mo 14 (.alloc 2 (Amount.enc Amount.zero)) [],oS 8 13 49,oS 2 14 52]
def r1e_11 := [oA 53 0 4,oL 54 4 53,oL 55 2 14,oL 56 2 6,oC 57 78 [.t 54, .t 55, .t 56]]
def r1e_12 := [oL 58 8 13,oS 8 8 58,mo 9 .mv [oNi],oI 10 0]
def r1e_13 := [oL 59 2 14,oC 60 79 [.t 59],mo 61 .not [.t 60]]
def r1e_14 := [mo 62 (.mkf 81) [.t 13, .t 14, .t 6, .t 5],mo 63 (.bown 1 [A.any]) [.t 62],mo 64 (.callm 80) [.t 13, .t 63],oE 65 0 64,oE 66 1 64,oE 67 2 64,oS 8 8 65,oV 9 66,oV 10 67]
def r1e_15 := [oA 68 4 4,oM 69 1 68,mo 70 .len [.t 69],oA 71 6 4,oM 72 1 71,mo 73 .len [.t 72],oP 74 .add [.t 70, .t 73],oP 75 .geq [.t 74, oK 8]]
def r1e_16 := [mo 76 (.build (Queue.enc Queue.zero) []) [],oS 8 8 76,mo 9 .mv [oNi],oI 10 4]
def r1e_17 := [oA 78 6 4,oM 79 1 78,oL 80 3 5,oL 81 2 6,oV 82 3,mo 83 (.build (Wait.enc Wait.zero) [(0, 3), (3, 2), (5, 1)]) [.t 80, .t 81, .t 82],oC 84 83 [.t 79, .t 83],oV 77 84,oE 85 0 77,oE 86 1 77,oE 87 2 77,mo 15 (.alloc 1 [A.sl ([].map Wait.enc)]) [],oS 1 15 85,oV 16 86,oV 17 87]
def r1e_18 := [oV 88 17,oP 89 .neq [.t 88, oK 0]]
def r1e_19 := [mo 90 (.build (Queue.enc Queue.zero) []) [],oV 91 17,oS 8 8 90,mo 9 .mv [oNi],oV 10 91]
def r1e_20 := [mo 92 (.mkf 84) [.t 15, .t 13],mo 93 (.bown 1 [A.any]) [.t 92],mo 94 (.callm 80) [.t 13, .t 93],oE 95 0 94,oE 96 1 94,oE 97 2 94,oS 8 8 95,oV 9 96,oV 10 97]
def pc_1e : PC := (.seq (.reg [] r1e_0) (.seq (.seq (.reg [18, 19] r1e_1) (.cond (.t 20) (.seq (.reg [21] r1e_2) .ret) .skip)) (.seq (.seq (.reg [22, 23, 24, 25, 26, 27, 28, 29, 30, 31] r1e_3) (.cond (.t 32) (.seq (.reg [33] r1e_4) .ret) .skip)) (.seq (.seq (.reg [34, 35, 36, 37] r1e_5) (.cond (.t 38) (.seq (.reg [39] r1e_6) .ret) .skip)) (.seq (.seq (.reg [11, 40, 41, 42, 43, 44, 45] r1e_7) (.seq (.reg [] r1e_8) (.cond (.t 46) (.seq (.reg [47] r1e_9) .ret) .skip))) (.seq (.regm [48, 49, 50, 51, 52] [[], [0], [], [], [2, 3, 1, 0], [], [], [5, 1, 4, 0, 1, 4, 5, 6, 0, 2, 3, 1, 0, 0, 2, 3, 1, 0], [6, 4, 7, 0, 1, 2, 3, 4, 5, 6, 7, 2, 3, 1, 0, 5, 1, 4, 0, 1, 4, 5, 6, 0, 2, 3, 1, 0, 0, 2, 3, 1, 0, 0, 2, 3, 1, 0, 5, 1, 4, 0, 1, 4, 5, 6, 0, 2, 3, 1, 0, 0, 2, 3, 1, 0]] r1e_10) (.seq (.seq (.reg [53, 54, 55, 56] r1e_11) (.cond (.t 57) (.seq (.reg [58] r1e_12) .ret) .skip)) (.seq (.seq (.reg [59, 60] r1e_13) (.cond (.t 61) (.seq (.reg [62, 63, 64, 65, 66, 67] r1e_14) .ret) .skip)) (.seq (.seq (.reg [68, 69, 70, 71, 72, 73, 74] r1e_15) (.cond (.t 75) (.seq (.reg [76] r1e_16) .ret) .skip)) (.seq (.reg [16, 77, 78, 79, 80, 81, 82, 83, 84, 85, 86, 87] r1e_17) (.seq (.seq (.reg [88] r1e_18) (.cond (.t 89) (.seq (.reg [90, 91] r1e_19) .ret) .skip)) (.seq (.reg [92, 93, 94, 95, 96, 97] r1e_20) .ret))))))))))))
theorem ck_1e : chkF C.P 28 pc_1e 98 [.c 8 8 true, .t 9, .t 10] 4 = true := by kernel_rfl
attribute [go_sem] r1e_0 r1e_1 r1e_2 r1e_3 r1e_4 r1e_5 r1e_6 r1e_7 r1e_8 r1e_9 r1e_10 r1e_11 r1e_12 r1e_13 r1e_14 r1e_15 r1e_16 r1e_17 r1e_18 r1e_19 r1e_20

def r1f_0 := [oB 1 8 0,mo 2 .mv [oNi]]
def r1f_1 := [mo 3 (.nilown 3 (Proc.enc Proc.zero)) [.c (A.full [])]]
def r1f_2 := [oL 6 8 1,oC 7 100 [.t 6],mo 8 .len [.t 7],oI 9 0]
def r1f_3 := [oP 10 .lss [.t 9, .t 8]]
def r1f_4 := [mo 11 (.iaS 7 (Wait.enc Wait.zero)) [.t 7, .t 9],oL 12 7 11,mo 5 (.alloc 7 (Wait.enc Wait.zero)) [],oS 7 5 12]
def r1f_5 := [oV 13 3,oA 14 0 5,oL 15 3 14,mo 16 (.bslice 3 (Proc.enc Proc.zero)) [.t 15],mo 17 (.append 3 24 (Proc.enc Proc.zero)) [.t 13, .t 16],oV 3 17]
def r1f_6 := [oP 18 .add [.t 9, oK 1],oV 9 18]
def r1f_7 := [oV 19 3,oV 2 19]
def pc_1f : PC := (.seq (.reg [] r1f_0) (.seq (.reg [] r1f_1) (.seq (.seq (.reg [6] r1f_2) (.block 0 (.loop (.seq (.reg [] r1f_3) (.seq (.cond (.t 10) .skip (.exit 0)) (.seq (.block 1 (.seq (.reg [11, 12] r1f_4) (.reg [13, 14, 15, 16, 17] r1f_5))) (.reg [18] r1f_6))))))) (.seq (.reg [19] r1f_7) .ret))))
theorem ck_1f : chkF C.P 41 pc_1f 20 [.t 2] 1 = true := by kernel_rfl
attribute [go_sem] r1f_0 r1f_1 r1f_2 r1f_3 r1f_4 r1f_5 r1f_6 r1f_7

def r1g_0 := [mo 2 (.nilown 3 (Proc.enc Proc.zero)) [.c (A.full [])]]
def r1g_1 := [mo 3 (.nilown 3 (Proc.enc Proc.zero)) [.c (A.full [])]]
def r1g_2 := [oV 6 0,mo 7 .len [.t 6],oI 8 0]
def r1g_3 := [oP 9 .lss [.t 8, .t 7]]
def r1g_4 := [mo 10 (.iaS 5 (Hold.enc Hold.zero)) [.t 6, .t 8],oL 11 5 10,mo 5 (.alloc 5 (Hold.enc Hold.zero)) [],oS 5 5 11]
def r1g_5 := [oV 12 3,oA 13 0 5,oL 14 3 13,mo 15 (.bslice 3 (Proc.enc Proc.zero)) [.t 14],mo 16 (.append 3 24 (Proc.enc Proc.zero)) [.t 12, .t 15],oV 3 16]
def r1g_6 := [oP 17 .add [.t 8, oK 1],oV 8 17]
def r1g_7 := [oV 18 3,oV 2 18]
def pc_1g : PC := (.seq (.reg [] r1g_0) (.seq (.reg [] r1g_1) (.seq (.seq (.reg [] r1g_2) (.block 0 (.loop (.seq (.reg [] r1g_3) (.seq (.cond (.t 9) .skip (.exit 0)) (.seq (.block 1 (.seq (.reg [10, 11] r1g_4) (.reg [12, 13, 14, 15, 16] r1g_5))) (.reg [17] r1g_6))))))) (.seq (.reg [18] r1g_7) .ret))))
theorem ck_1g : chkF C.P 102 pc_1g 19 [.t 2] 1 = true := by kernel_rfl
attribute [go_sem] r1g_0 r1g_1 r1g_2 r1g_3 r1g_4 r1g_5 r1g_6 r1g_7

def r1h_0 := [mo 2 .mv [oNi]]
def r1h_1 := [oV 6 0,mo 7 .len [.t 6],oP 8 .lss [.t 7, oK 2]]
def r1h_2 := [oV 9 0,oV 2 9]
def r1h_3 := [oI 3 1]
def r1h_4 := [oV 10 3,oV 11 0,mo 12 .len [.t 11],oP 13 .lss [.t 10, .t 12]]
def r1h_6 := [oV 16 0,oV 17 3,mo 18 (.iaS 3 (Proc.enc Proc.zero)) [.t 16, .t 17],oL 19 3 18,oV 20 0,oV 21 3,oP 22 .sub [.t 21, oK 1],mo 23 (.iaS 3 (Proc.enc Proc.zero)) [.t 20, .t 22],oL 24 3 23,mo 25 (.eqa false [.i .i64, .i .i64, .i .i64]) [.t 19, .t 24]]
def r1h_7 := [oV 26 0,oV 27 3,mo 28 (.slc 3 true false false) [.t 26, .t 27],oV 4 28]
def r1h_8 := [oI 5 1]
def r1h_9 := [oV 29 5,oV 30 4,mo 31 .len [.t 30],oP 32 .lss [.t 29, .t 31]]
def r1h_11 := [oV 35 4,oV 36 5,mo 37 (.iaS 3 (Proc.enc Proc.zero)) [.t 35, .t 36],oL 38 3 37,oV 39 4,oV 40 5,oP 41 .sub [.t 40, oK 1],mo 42 (.iaS 3 (Proc.enc Proc.zero)) [.t 39, .t 41],oL 43 3 42,mo 44 (.eqa true [.i .i64, .i .i64, .i .i64]) [.t 38, .t 43]]
def r1h_12 := [oV 45 0,oV 46 3,oV 47 4,oV 48 5,mo 49 (.iaS 3 (Proc.enc Proc.zero)) [.t 47, .t 48],oL 50 3 49,mo 51 (.iaS 3 (Proc.enc Proc.zero)) [.t 45, .t 46],oS 3 51 50]
def r1h_13 := [oV 52 3,oP 53 .add [.t 52, oK 1],oV 3 53]
def r1h_10 := [oV 33 5,oP 34 .add [.t 33, oK 1],oV 5 34]
def r1h_14 := [oV 54 0,oV 55 3,mo 56 (.slc 3 true false false) [.t 54, .t 55],mz (.clear 3 (Proc.enc Proc.zero)) [.t 56]]
def r1h_15 := [oV 57 0,oV 58 3,mo 59 (.slc 3 false true false) [.t 57, .t 58],oV 2 59]
def r1h_5 := [oV 14 3,oP 15 .add [.t 14, oK 1],oV 3 15]
def r1h_16 := [oV 60 0,oV 2 60]
def pc_1h : PC := (.seq (.reg [] r1h_0) (.seq (.seq (.reg [6, 7] r1h_1) (.cond (.t 8) (.seq (.reg [9] r1h_2) .ret) .skip)) (.seq (.seq (.reg [] r1h_3) (.block 0 (.loop (.seq (.seq (.reg [10, 11, 12] r1h_4) (.cond (.t 13) .skip (.exit 0))) (.seq (.block 1 (.seq (.regd [16, 17, 18, 19, 20, 21, 22, 23, 24] r1h_6) (.cond (.t 25) (.seq (.reg [26, 27, 28] r1h_7) (.seq (.seq (.reg [] r1h_8) (.block 2 (.loop (.seq (.seq (.reg [29, 30, 31] r1h_9) (.cond (.t 32) .skip (.exit 2))) (.seq (.block 3 (.seq (.regd [35, 36, 37, 38, 39, 40, 41, 42, 43] r1h_11) (.cond (.t 44) (.seq (.reg [45, 46, 47, 48, 49, 50, 51] r1h_12) (.reg [52, 53] r1h_13)) .skip))) (.reg [33, 34] r1h_10)))))) (.seq (.reg [54, 55, 56] r1h_14) (.seq (.reg [57, 58, 59] r1h_15) .ret)))) .skip))) (.reg [14, 15] r1h_5)))))) (.seq (.reg [60] r1h_16) .ret))))
theorem ck_1h : chkF C.P 139 pc_1h 61 [.t 2] 1 = true := by kernel_rfl
attribute [go_sem] r1h_0 r1h_1 r1h_2 r1h_3 r1h_4 r1h_6 r1h_7 r1h_8 r1h_9 r1h_11 r1h_12 r1h_13 r1h_10 r1h_14 r1h_15 r1h_5 r1h_16

def r1i_0 := [mo 2 .mv [oNi]]
def r1i_1 := [oV 4 0,mo 5 (.append 3 24 (Proc.enc Proc.zero)) [.c (A.full []), .t 4],oV 3 5]
def r1i_2 := [oV 6 3,mo 7 (.callm 138) [.t 6, .f 119]]
def r1i_3 := [oV 8 3,mo 9 (.callm 139) [.t 8],oV 2 9]
def pc_1i : PC := (.seq (.reg [] r1i_0) (.seq (.reg [4, 5] r1i_1) (.seq (.reg [6, 7] r1i_2) (.seq (.reg [8, 9] r1i_3) .ret))))
theorem ck_1i : chkF C.P 101 pc_1i 10 [.t 2] 1 = true := by kernel_rfl
attribute [go_sem] r1i_0 r1i_1 r1i_2 r1i_3

def r1j_0 := [oB 1 8 0,mo 2 .mv [oNi]]
def r1j_1 := [oA 3 4 1,oM 4 1 3,mo 5 (.callm 102) [.t 4],oL 6 8 1,oC 7 41 [.t 6],mo 8 (.append 3 24 (Proc.enc Proc.zero)) [.t 5, .t 7],oC 9 101 [.t 8],oV 2 9]
def pc_1j : PC := (.seq (.reg [] r1j_0) (.seq (.regm [3, 4, 5, 6, 7, 8, 9] [[], [0], [1, 0], [], [3, 2, 1, 0], [2, 4, 4, 1, 0, 3, 2, 1, 0, 3, 2, 1, 0], [5, 5, 2, 4, 4, 1, 0, 3, 2, 1, 0, 3, 2, 1, 0, 2, 4, 4, 1, 0, 3, 2, 1, 0, 3, 2, 1, 0], [6, 6, 0, 1, 2, 3, 4, 5, 6, 5, 5, 2, 4, 4, 1, 0, 3, 2, 1, 0, 3, 2, 1, 0, 2, 4, 4, 1, 0, 3, 2, 1, 0, 3, 2, 1, 0, 5, 5, 2, 4, 4, 1, 0, 3, 2, 1, 0, 3, 2, 1, 0, 2, 4, 4, 1, 0, 3, 2, 1, 0, 3, 2, 1, 0, 0, 1, 0, 3, 2, 1, 0, 2, 4, 4, 1, 0, 3, 2, 1, 0, 3, 2, 1, 0, 5, 5, 2, 4, 4, 1, 0, 3, 2, 1, 0, 3, 2, 1, 0, 2, 4, 4, 1, 0, 3, 2, 1, 0, 3, 2, 1, 0]] r1j_1) .ret))
theorem ck_1j : chkF C.P 44 pc_1j 10 [.t 2] 1 = true := by kernel_rfl
attribute [go_sem] r1j_0 r1j_1

def r1k_0 := [oB 3 3 1,oI 4 0]
def r1k_1 := [oV 6 0,mo 7 .len [.t 6],oI 8 0]
def r1k_2 := [oP 9 .lss [.t 8, .t 7]]
def r1k_3 := [oV 10 8,oV 5 10]
def r1k_4 := [oL 11 3 3,oV 12 0,oV 13 5,mo 14 (.iaS 3 (Proc.enc Proc.zero)) [.t 12, .t 13],oL 15 3 14,mo 16 (.eqa false [.i .i64, .i .i64, .i .i64]) [.t 11, .t 15]]
def r1k_5 := [oV 17 5,oV 4 17]
def r1k_6 := [oP 18 .add [.t 8, oK 1],oV 8 18]
def r1k_7 := [oI 4 (-1)]
def pc_1k : PC := (.seq (.reg [] r1k_0) (.seq (.seq (.reg [6] r1k_1) (.block 0 (.loop (.seq (.reg [] r1k_2) (.seq (.cond (.t 9) .skip (.exit 0)) (.seq (.block 1 (.seq (.reg [10] r1k_3) (.seq (.regd [11, 12, 13, 14, 15] r1k_4) (.cond (.t 16) (.seq (.reg [17] r1k_5) .ret) .skip)))) (.reg [18] r1k_6))))))) (.seq (.reg [] r1k_7) .ret)))
theorem ck_1k : chkF C.P 150 pc_1k 19 [.t 4] 2 = true := by kernel_rfl
attribute [go_sem] r1k_0 r1k_1 r1k_2 r1k_3 r1k_4 r1k_5 r1k_6 r1k_7

def r1l_0 := [oB 3 3 1,mo 4 .mv [oFa]]
def r1l_1 := [oV 5 0,oL 6 3 3,oC 7 150 [.t 5, .t 6],oP 8 .geq [.t 7, oK 0],oV 4 8]
def pc_1l : PC := (.seq (.reg [] r1l_0) (.seq (.reg [5, 6, 7, 8] r1l_1) .ret))
theorem ck_1l : chkF C.P 136 pc_1l 9 [.t 4] 2 = true := by kernel_rfl
attribute [go_sem] r1l_0 r1l_1

def r1m_0 := [oB 3 3 1,mo 4 .mv [oFa]]
def r1m_1 := [oV 5 0,oL 6 3 3,oC 7 136 [.t 5, .t 6],oV 4 7]
def pc_1m : PC := (.seq (.reg [] r1m_0) (.seq (.reg [5, 6, 7] r1m_1) .ret))
theorem ck_1m : chkF C.P 90 pc_1m 8 [.t 4] 2 = true := by kernel_rfl
attribute [go_sem] r1m_0 r1m_1

def r1n_0 := [oB 1 8 0,mo 2 (.alloc 8 (Queue.enc Queue.zero)) []]
def r1n_1 := [oA 3 4 1,oM 4 1 3,mo 5 (.append 5 40 (Hold.enc Hold.zero)) [.c (A.full []), .t 4],oA 6 4 1,oS 1 6 5]
def r1n_2 := [oA 7 5 1,oM 8 1 7,mo 9 (.append 7 56 (Wait.enc Wait.zero)) [.c (A.full []), .t 8],oA 10 5 1,oS 1 10 9]
def r1n_3 := [oA 11 6 1,oM 12 1 11,mo 13 (.append 7 56 (Wait.enc Wait.zero)) [.c (A.full []), .t 12],oA 14 6 1,oS 1 14 13]
def r1n_4 := [oL 15 8 1,oS 8 2 15]
def pc_1n : PC := (.seq (.reg [] r1n_0) (.seq (.reg [3, 4, 5, 6] r1n_1) (.seq (.reg [7, 8, 9, 10] r1n_2) (.seq (.reg [11, 12, 13, 14] r1n_3) (.seq (.reg [15] r1n_4) .ret)))))
theorem ck_1n : chkF C.P 77 pc_1n 16 [.c 2 8 true] 1 = true := by kernel_rfl
attribute [go_sem] r1n_0 r1n_1 r1n_2 r1n_3 r1n_4

def r1o_0 := [oA 2 4 0,oM 3 1 2,oL 4 3 1,mo 5 (.build (Amount.enc Amount.zero) []) [],oC 6 92 [.t 3, .t 4, .t 5],oA 7 4 0,oS 1 7 6]
def pc_1o : PC := (.reg [2, 3, 4, 5, 6, 7] r1o_0)
theorem ck_1o : chkF C.P 91 pc_1o 8 [] 2 = true := by kernel_rfl
attribute [go_sem] r1o_0

def r1p_0 := [oB 3 3 1,mo 4 .mv [oNi],mo 5 .mv [oFa]]
def r1p_1 := [mo 6 (.nilown 7 (Wait.enc Wait.zero)) [.c (A.full [])]]
def r1p_2 := [oV 9 0,mo 10 .len [.t 9],oI 11 0]
def r1p_3 := [oP 12 .lss [.t 11, .t 10]]
def r1p_4 := [mo 13 (.iaS 7 (Wait.enc Wait.zero)) [.t 9, .t 11],oL 14 7 13,mo 8 (.alloc 7 (Wait.enc Wait.zero)) [],oS 7 8 14]
def r1p_5 := [oA 15 0 8,oL 16 3 15,oL 17 3 3,mo 18 (.eqa true [.i .i64, .i .i64, .i .i64]) [.t 16, .t 17]]
def r1p_6 := [oV 19 6,oL 20 7 8,mo 21 (.bslice 7 (Wait.enc Wait.zero)) [.t 20],mo 22 (.append 7 56 (Wait.enc Wait.zero)) [.t 19, .t 21],oV 6 22]
def r1p_7 := [oP 23 .add [.t 11, oK 1],oV 11 23]
def r1p_8 := [oV 24 6,oV 25 6,mo 26 .len [.t 25],oV 27 0,mo 28 .len [.t 27],oP 29 .lss [.t 26, .t 28],oV 4 24,oV 5 29]
def pc_1p : PC := (.seq (.reg [] r1p_0) (.seq (.reg [] r1p_1) (.seq (.seq (.reg [] r1p_2) (.block 0 (.loop (.seq (.reg [] r1p_3) (.seq (.cond (.t 12) .skip (.exit 0)) (.seq (.block 1 (.seq (.reg [13, 14] r1p_4) (.seq (.reg [15, 16, 17] r1p_5) (.cond (.t 18) (.reg [19, 20, 21, 22] r1p_6) .skip)))) (.reg [23] r1p_7))))))) (.seq (.reg [24, 25, 26, 27, 28, 29] r1p_8) .ret))))
theorem ck_1p : chkF C.P 94 pc_1p 30 [.t 4, .t 5] 2 = true := by kernel_rfl
attribute [go_sem] r1p_0 r1p_1 r1p_2 r1p_3 r1p_4 r1p_5 r1p_6 r1p_7 r1p_8

def r1q_0 := [oA 3 5 0,oM 4 1 3,oL 5 3 1,oC 6 94 [.t 4, .t 5],oV 2 6,oE 7 0 2,oE 8 1 2,oA 9 5 0,oS 1 9 7]
def pc_1q : PC := (.reg [2, 3, 4, 5, 6, 7, 8, 9] r1q_0)
theorem ck_1q : chkF C.P 93 pc_1q 10 [] 2 = true := by kernel_rfl
attribute [go_sem] r1q_0

def r1r_0 := [oA 3 6 0,oM 4 1 3,oL 5 3 1,oC 6 94 [.t 4, .t 5],oV 2 6,oE 7 0 2,oE 8 1 2,oA 9 6 0,oS 1 9 7]
def pc_1r : PC := (.reg [2, 3, 4, 5, 6, 7, 8, 9] r1r_0)
theorem ck_1r : chkF C.P 95 pc_1r 10 [] 2 = true := by kernel_rfl
attribute [go_sem] r1r_0

def r1s_0 := [mo 4 (.alloc 8 (Queue.enc Queue.zero)) [],mo 5 .mv [oNi],oI 6 0]
def r1s_1 := [oV 10 1,mo 11 .len [.t 10],oI 12 0]
def r1s_2 := [oP 13 .lss [.t 12, .t 11]]
def r1s_3 := [mo 14 (.iaS 1 [A.any]) [.t 10, .t 12],oM 15 1 14,oV 8 15]
def r1s_4 := [oV 16 8,mo 17 .callvm [.t 16]]
def r1s_5 := [oP 18 .add [.t 12, oK 1],oV 12 18]
def r1s_6 := [oV 19 0,mo 20 (.callm 103) [.t 19],oV 9 20]
def r1s_7 := [oV 21 0,oV 22 0,mo 23 .nilck [.t 22],oA 24 7 23,oM 25 1 24,oC 26 130 [.t 25],mo 27 .nilck [.t 21],oA 28 7 27,oS 1 28 26]
def r1s_8 := [oV 29 0,mo 30 .nilck [.t 29],oL 31 8 30,oV 32 9,oS 8 4 31,oV 5 32,oI 6 0]
def pc_1s : PC := (.seq (.reg [] r1s_0) (.seq (.seq (.reg [] r1s_1) (.block 0 (.loop (.seq (.reg [] r1s_2) (.seq (.cond (.t 13) .skip (.exit 0)) (.seq (.block 1 (.seq (.reg [14, 15] r1s_3) (.reg [16, 17] r1s_4))) (.reg [18] r1s_5))))))) (.seq (.reg [19, 20] r1s_6) (.seq (.reg [21, 22, 23, 24, 25, 26, 27, 28] r1s_7) (.seq (.reg [29, 30, 31, 32] r1s_8) .ret)))))
theorem ck_1s : chkF C.P 80 pc_1s 33 [.c 4 8 true, .t 5, .t 6] 2 = true := by kernel_rfl
attribute [go_sem] r1s_0 r1s_1 r1s_2 r1s_3 r1s_4 r1s_5 r1s_6 r1s_7 r1s_8

def r1t_0 := [oB 2 8 0,oB 3 3 1,mo 4 (.alloc 8 (Queue.enc Queue.zero)) [],mo 5 .mv [oNi],oI 6 0]
def r1t_1 := [oL 8 8 2,oC 9 25 [.t 8],mo 10 .not [.t 9]]
def r1t_2 := [mo 11 (.build (Queue.enc Queue.zero) []) [],oS 8 4 11,mo 5 .mv [oNi],oI 6 2]
def r1t_3 := [oL 12 8 2,oC 13 44 [.t 12],oL 14 3 3,oC 15 90 [.t 13, .t 14],mo 16 .not [.t 15]]
def r1t_4 := [mo 17 (.build (Queue.enc Queue.zero) []) [],oS 8 4 17,mo 5 .mv [oNi],oI 6 10]
def r1t_5 := [oL 18 8 2,oC 19 77 [.t 18],mo 7 (.alloc 8 (Queue.enc Queue.zero)) [],oS 8 7 19]
def r1t_6 := [mo 20 (.mkf 91) [.t 7, .t 3],mo 21 (.mkf 93) [.t 7, .t 3],mo 22 (.mkf 95) [.t 7, .t 3],mo 23 (.bown 1 [A.any]) [.t 20, .t 21, .t 22],mo 24 (.callm 80) [.t 7, .t 23],oE 25 0 24,oE 26 1 24,oE 27 2 24,oS 8 4 25,oV 5 26,oV 6 27]
def pc_1t : PC := (.seq (.reg [] r1t_0) (.seq (.seq (.reg [8, 9] r1t_1) (.cond (.t 10) (.seq (.reg [11] r1t_2) .ret) .skip)) (.seq (.seq (.regd [12, 13, 14, 15] r1t_3) (.cond (.t 16) (.seq (.reg [17] r1t_4) .ret) .skip)) (.seq (.reg [18, 19] r1t_5) (.seq (.reg [20, 21, 22, 23, 24, 25, 26, 27] r1t_6) .ret)))))
theorem ck_1t : chkF C.P 33 pc_1t 28 [.c 4 8 true, .t 5, .t 6] 2 = true := by kernel_rfl
attribute [go_sem] r1t_0 r1t_1 r1t_2 r1t_3 r1t_4 r1t_5 r1t_6

def r1u_0 := [mo 0 .mv [oFa]]
def r1u_1 := [mo 18 (.build (Resource.enc Resource.zero) [(0, 1), (1, 1), (2, 1)]) [.c (A.str ⟨#[97]⟩), oK 1, oK 1],mo 1 (.alloc 4 (Resource.enc Resource.zero)) [],oS 4 1 18]
def r1u_2 := [oC 19 34 [oK 0],oC 20 34 [oK 1],oC 21 34 [oK 2],mo 2 (.alloc 3 (Proc.enc Proc.zero)) [],mo 3 (.alloc 3 (Proc.enc Proc.zero)) [],mo 4 (.alloc 3 (Proc.enc Proc.zero)) [],oS 3 2 19,oS 3 3 20,oS 3 4 21]
def r1u_3 := [oL 23 4 1,oC 24 19 [.t 23],oV 22 24,oE 25 0 22,oE 26 1 22,mo 5 (.alloc 8 (Queue.enc Queue.zero)) [],oS 8 5 25,oV 6 26]
def r1u_4 := [oL 28 8 5,oL 29 3 2,mo 30 (.build (Amount.enc Amount.zero) [(0, 1)]) [oK 3],oC 31 28 [.t 28, .t 29, .t 30, oK 0],oV 27 31,oE 32 0 27,oE 33 1 27,oE 34 2 27,oS 8 5 32,oV 7 33,oV 8 34]
def r1u_5 := [oL 36 8 5,oL 37 3 3,mo 38 (.build (Amount.enc Amount.zero) [(0, 1)]) [oK 3],oC 39 28 [.t 36, .t 37, .t 38, oK 0],oV 35 39,oE 40 0 35,oE 41 1 35,oE 42 2 35,oS 8 5 40,oV 9 41,oV 10 42]
def r1u_6 := [oL 44 8 5,oL 45 3 4,mo 46 (.build (Amount.enc Amount.zero) [(0, 1)]) [oK 5],oC 47 28 [.t 44, .t 45, .t 46, oK 0],oV 43 47,oE 48 0 43,oE 49 1 43,oE 50 2 43,oS 8 5 48,oV 11 49,oV 12 50]
def r1u_7 := [oL 52 8 5,oL 53 3 2,mo 54 (.build (Amount.enc Amount.zero) [(0, 1)]) [oK 5],oC 55 28 [.t 52, .t 53, .t 54, oK 0],oV 51 55,oE 56 0 51,oE 57 1 51,oE 58 2 51,oS 8 5 56,oV 13 57,oV 14 58]
def r1u_8 := [oL 59 8 5,oC 60 41 [.t 59],oV 15 60]
def r1u_9 := [oL 62 8 5,oL 63 3 3,oC 64 33 [.t 62, .t 63],oV 61 64,oE 65 0 61,oE 66 1 61,oE 67 2 61,oS 8 5 65,oV 16 66,oV 17 67]
def r1u_10 := [oV 68 6,oP 69 .eql [.t 68, oK 0],oV 70 69,oG 71 70 true .mv [.t 8],oG 72 70 true (.bin .eql) [.t 71, oK 0],mo 73 .pick [.t 70, .t 72, oFa],oV 74 73,oG 75 74 true .mv [.t 10],oG 76 74 true (.bin .eql) [.t 75, oK 0],mo 77 .pick [.t 74, .t 76, oFa],oV 78 77,oG 79 78 true .mv [.t 12],oG 80 78 true (.bin .eql) [.t 79, oK 0],
 mo 81 .pick [.t 78, .t 80, oFa],oV 82 81,oG 83 82 true .mv [.t 14],oG 84 82 true (.bin .eql) [.t 83, oK 0],mo 85 .pick [.t 82, .t 84, oFa],oV 86 85,oG 87 86 true .mv [.t 17],oG 88 86 true (.bin .eql) [.t 87, oK 0],mo 89 .pick [.t 86, .t 88, oFa],oV 90 89,oG 91 90 true .mv [.t 7],oG 92 90 true .len [.t 91],
 oG 93 90 true (.bin .eql) [.t 92, oK 1],mo 94 .pick [.t 90, .t 93, oFa],oV 95 94,oG 96 95 true .mv [.t 9],oG 97 95 true .len [.t 96],oG 98 95 true (.bin .eql) [.t 97, oK 1],mo 99 .pick [.t 95, .t 98, oFa],oV 100 99,oG 101 100 true .mv [.t 11],oG 102 100 true .len [.t 101],oG 103 100 true (.bin .eql) [.t 102, oK 0],
 mo 104 .pick [.t 100, .t 103, oFa],oV 105 104,oG 106 105 true .mv [.t 15],oG 107 105 true .len [.t 106],oG 108 105 true (.bin .eql) [.t 107, oK 2],mo 109 .pick [.t 105, .t 108, oFa],oV 110 109,oG 111 110 true .mv [.t 15],oG 112 110 true (.iaS 3 (Proc.enc Proc.zero)) [.t 111, oK 0],oG 113 110 true (.load 3 true) [.t 112],
 oG 114 110 true (.load 3 true) [.t 2],oG 115 110 true (.eqa false [.i .i64, .i .i64, .i .i64]) [.t 113, .t 114],mo 116 .pick [.t 110, .t 115, oFa],oV 117 116,oG 118 117 true .mv [.t 16],oG 119 117 true .len [.t 118],oG 120 117 true (.bin .eql) [.t 119, oK 1],mo 121 .pick [.t 117, .t 120, oFa],oV 122 121,
 oG 123 122 true .mv [.t 16],oG 124 122 true (.iaS 5 (Hold.enc Hold.zero)) [.t 123, oK 0],oG 125 122 true (.faddr 0) [.t 124],oG 126 122 true (.load 3 true) [.t 125],oG 127 122 true (.load 3 true) [.t 2],oG 128 122 true (.eqa false [.i .i64, .i .i64, .i .i64]) [.t 126, .t 127],mo 129 .pick [.t 122, .t 128, oFa],
 oV 130 129,oG 131 130 true (.load 8 true) [.t 5],oG 132 130 true (.load 3 true) [.t 2],oG 133 130 true (.call 37) [.t 131, .t 132],oG 134 130 true (.field 0 1 false) [.t 133],oG 135 130 true (.bin .eql) [.t 134, oK 5],mo 136 .pick [.t 130, .t 135, oFa],oV 137 136,oG 138 137 true (.load 8 true) [.t 5],
 oG 139 137 true (.call 25) [.t 138],mo 140 .pick [.t 137, .t 139, oFa],oV 0 140]
def pc_1u : PC := (.seq (.reg [] r1u_0) (.seq (.reg [18] r1u_1) (.seq (.reg [19, 20, 21] r1u_2) (.seq (.reg [22, 23, 24, 25, 26] r1u_3) (.seq (.reg [27, 28, 29, 30, 31, 32, 33, 34] r1u_4) (.seq (.reg [35, 36, 37, 38, 39, 40, 41, 42] r1u_5) (.seq (.reg [43, 44, 45, 46, 47, 48, 49, 50] r1u_6) (.seq (.reg [13, 51, 52, 53, 54, 55, 56, 57, 58] r1u_7) (.seq (.reg [59, 60] r1u_8) (.seq (.reg [61, 62, 63, 64, 65, 66, 67] r1u_9) (.seq (.regd [68, 69, 70, 71, 72, 73, 74, 75, 76, 77, 78, 79, 80, 81, 82, 83, 84, 85, 86, 87, 88, 89, 90, 91, 92, 93, 94, 95, 96, 97, 98, 99, 100, 101, 102, 103, 104, 105, 106, 107, 108, 109, 110, 111, 112, 113, 114, 115, 116, 117, 118, 119, 120, 121, 122, 123, 124, 125, 126, 127, 128, 129, 130, 131, 132, 133, 134, 135, 136, 137, 138, 139, 140] r1u_10) .ret)))))))))))
theorem ck_1u : chkF C.P 18 pc_1u 141 [.t 0] 0 = true := by kernel_rfl
attribute [go_sem] r1u_0 r1u_1 r1u_2 r1u_3 r1u_4 r1u_5 r1u_6 r1u_7 r1u_8 r1u_9 r1u_10

def r1v_0 := [mo 2 .mv [oFa]]
def r1v_1 := [oV 3 0,oP 4 .geq [.t 3, .c (A.int .u8 97)],oV 5 4,oG 6 5 true .mv [.t 0],oG 7 5 true (.bin .leq) [.t 6, .c (A.int .u8 122)],mo 8 .pick [.t 5, .t 7, oFa],oV 2 8]
def pc_1v : PC := (.seq (.reg [] r1v_0) (.seq (.reg [3, 4, 5, 6, 7, 8] r1v_1) .ret))
theorem ck_1v : chkF C.P 142 pc_1v 9 [.t 2] 1 = true := by kernel_rfl
attribute [go_sem] r1v_0 r1v_1

def r1w_0 := [mo 2 .mv [oFa]]
def r1w_1 := [oV 3 0,oP 4 .eql [.t 3, .c (A.str ⟨#[97, 108, 108]⟩)],oV 5 4,oG 6 5 false .mv [.t 0],
⟨some 7, some (5, false), .bin .eql, [.t 6, .c (A.str ⟨#[97, 110, 121]⟩)]⟩,mo 8 .pick [.t 5, oTr, .t 7],oV 9 8,oG 10 9 false .mv [.t 0],
⟨some 11, some (9, false), .bin .eql, [.t 10, .c (A.str ⟨#[111, 102]⟩)]⟩,mo 12 .pick [.t 9, oTr, .t 11],oV 13 12,oG 14 13 false .mv [.t 0],
⟨some 15, some (13, false), .bin .eql, [.t 14, .c (A.str ⟨#[112, 114, 105, 111]⟩)]⟩,mo 16 .pick [.t 13, oTr, .t 15],oV 17 16,oG 18 17 false .mv [.t 0],
⟨some 19, some (17, false), .bin .eql, [.t 18, .c (A.str ⟨#[108, 105, 109, 105, 116]⟩)]⟩,mo 20 .pick [.t 17, oTr, .t 19],oV 2 20]
def pc_1w : PC := (.seq (.reg [] r1w_0) (.seq (.reg [3, 4, 5, 6, 7, 8, 9, 10, 11, 12, 13, 14, 15, 16, 17, 18, 19, 20] r1w_1) .ret))
theorem ck_1w : chkF C.P 143 pc_1w 21 [.t 2] 1 = true := by kernel_rfl
attribute [go_sem] r1w_0 r1w_1

def r1x_0 := [mo 2 .mv [oFa]]
def r1x_1 := [oV 3 0,oC 4 142 [.t 3],oV 5 4,oG 6 5 false .mv [.t 0],oG 7 5 false (.bin .geq) [.t 6, .c (A.int .u8 48)],oG 8 5 false .mv [.t 7],oG 9 8 true .mv [.t 0],oG 10 8 true (.bin .leq) [.t 9, .c (A.int .u8 57)],oG 11 5 false .pick [.t 8, .t 10, oFa],mo 12 .pick [.t 5, oTr, .t 11],oV 13 12,oG 14 13 false .mv [.t 0],
 oG 15 13 false (.bin .eql) [.t 14, .c (A.int .u8 95)],mo 16 .pick [.t 13, oTr, .t 15],oV 17 16,oG 18 17 false .mv [.t 0],oG 19 17 false (.bin .eql) [.t 18, .c (A.int .u8 45)],mo 20 .pick [.t 17, oTr, .t 19],oV 2 20]
def pc_1x : PC := (.seq (.reg [] r1x_0) (.seq (.reg [3, 4, 5, 6, 7, 8, 9, 10, 11, 12, 13, 14, 15, 16, 17, 18, 19, 20] r1x_1) .ret))
theorem ck_1x : chkF C.P 144 pc_1x 21 [.t 2] 1 = true := by kernel_rfl
attribute [go_sem] r1x_0 r1x_1

def r1y_0 := [mo 2 .mv [oFa]]
def r1y_1 := [oV 4 0,mo 5 .lenS [.t 4],oP 6 .lss [.t 5, oK 1],oV 7 6,oG 8 7 false .mv [.t 0],oG 9 7 false .lenS [.t 8],oG 10 7 false (.bin .gtr) [.t 9, oK 12],mo 11 .pick [.t 7, oTr, .t 10],oV 12 11,oG 13 12 false .mv [.t 0],oG 14 12 false .idxS [.t 13, oK 0],oG 15 12 false (.call 142) [.t 14],oG 16 12 false .not [.t 15],
 mo 17 .pick [.t 12, oTr, .t 16],oV 18 17,oG 19 18 false .mv [.t 0],oG 20 18 false (.call 143) [.t 19],mo 21 .pick [.t 18, oTr, .t 20]]
def r1y_2 := [mo 2 .mv [oFa]]
def r1y_3 := [oI 3 0]
def r1y_4 := [oV 22 3,oV 23 0,mo 24 .lenS [.t 23],oP 25 .lss [.t 22, .t 24]]
def r1y_6 := [oV 28 0,oV 29 3,mo 30 .idxS [.t 28, .t 29],oC 31 144 [.t 30],mo 32 .not [.t 31]]
def r1y_7 := [mo 2 .mv [oFa]]
def r1y_5 := [oV 26 3,oP 27 .add [.t 26, oK 1],oV 3 27]
def r1y_8 := [mo 2 .mv [oTr]]
def pc_1y : PC := (.seq (.reg [] r1y_0) (.seq (.seq (.reg [4, 5, 6, 7, 8, 9, 10, 11, 12, 13, 14, 15, 16, 17, 18, 19, 20] r1y_1) (.cond (.t 21) (.seq (.reg [] r1y_2) .ret) .skip)) (.seq (.seq (.reg [] r1y_3) (.block 0 (.loop (.seq (.seq (.reg [22, 23, 24] r1y_4) (.cond (.t 25) .skip (.exit 0))) (.seq (.block 1 (.seq (.reg [28, 29, 30, 31] r1y_6) (.cond (.t 32) (.seq (.reg [] r1y_7) .ret) .skip))) (.reg [26, 27] r1y_5)))))) (.seq (.reg [] r1y_8) .ret))))
theorem ck_1y : chkF C.P 118 pc_1y 33 [.t 2] 1 = true := by kernel_rfl
attribute [go_sem] r1y_0 r1y_1 r1y_2 r1y_3 r1y_4 r1y_6 r1y_7 r1y_5 r1y_8

def r1z_0 := [oB 1 4 0,mo 2 .mv [oFa]]
def r1z_1 := [oA 3 1 1,oM 4 1 3,oP 5 .eql [.t 4, oK 1],oV 6 5,oG 7 6 true (.faddr 2) [.t 1],oG 8 6 true (.load 1 false) [.t 7],oG 9 6 true (.bin .eql) [.t 8, oK 1],mo 10 .pick [.t 6, .t 9, oFa],oV 11 10,oG 12 11 false (.faddr 1) [.t 1],oG 13 11 false (.load 1 false) [.t 12],oG 14 11 false (.bin .eql) [.t 13, oK 2],
 oG 15 11 false .mv [.t 14],oG 16 15 true (.faddr 2) [.t 1],oG 17 15 true (.load 1 false) [.t 16],oG 18 15 true (.bin .geq) [.t 17, oK 1],oG 19 11 false .pick [.t 15, .t 18, oFa],oG 20 11 false .mv [.t 19],oG 21 20 true (.faddr 2) [.t 1],oG 22 20 true (.load 1 false) [.t 21],oG 23 20 true (.bin .leq) [.t 22, oK 8],
 oG 24 11 false .pick [.t 20, .t 23, oFa],mo 25 .pick [.t 11, oTr, .t 24],oV 2 25]
def pc_1z : PC := (.seq (.reg [] r1z_0) (.seq (.reg [3, 4, 5, 6, 7, 8, 9, 10, 11, 12, 13, 14, 15, 16, 17, 18, 19, 20, 21, 22, 23, 24, 25] r1z_1) .ret))
theorem ck_1z : chkF C.P 112 pc_1z 26 [.t 2] 1 = true := by kernel_rfl
attribute [go_sem] r1z_0 r1z_1

def r20_0 := [oB 1 4 0,mo 2 .mv [oFa]]
def r20_1 := [oA 3 0 1,oM 4 1 3,oC 5 118 [.t 4],oV 6 5,oG 7 6 true (.load 4 true) [.t 1],oG 8 6 true (.call 112) [.t 7],mo 9 .pick [.t 6, .t 8, oFa],oV 10 9,oG 11 10 true (.faddr 3) [.t 1],oG 12 10 true (.load 1 false) [.t 11],oG 13 10 true (.bin .geq) [.t 12, oK 0],mo 14 .pick [.t 10, .t 13, oFa],oV 15 14,
 oG 16 15 true (.faddr 3) [.t 1],oG 17 15 true (.load 1 false) [.t 16],oG 18 15 true (.bin .lss) [.t 17, oK 4],mo 19 .pick [.t 15, .t 18, oFa],oV 2 19]
def pc_20 : PC := (.seq (.reg [] r20_0) (.seq (.reg [3, 4, 5, 6, 7, 8, 9, 10, 11, 12, 13, 14, 15, 16, 17, 18, 19] r20_1) .ret))
theorem ck_20 : chkF C.P 61 pc_20 20 [.t 2] 1 = true := by kernel_rfl
attribute [go_sem] r20_0 r20_1

def r21_0 := [oB 1 4 0,mo 2 (.alloc 8 (Queue.enc Queue.zero)) [],oI 3 0]
def r21_1 := [oL 4 4 1,oC 5 61 [.t 4],mo 6 .not [.t 5]]
def r21_2 := [mo 7 (.build (Queue.enc Queue.zero) []) [],oS 8 2 7,oI 3 1]
def r21_3 := [oL 8 4 1,mo 9 (.build (Queue.enc Queue.zero) [(0, 4)]) [.t 8],oS 8 2 9,oI 3 0]
def pc_21 : PC := (.seq (.reg [] r21_0) (.seq (.seq (.reg [4, 5] r21_1) (.cond (.t 6) (.seq (.reg [7] r21_2) .ret) .skip)) (.seq (.reg [8, 9] r21_3) .ret)))
theorem ck_21 : chkF C.P 20 pc_21 10 [.c 2 8 true, .t 3] 1 = true := by kernel_rfl
attribute [go_sem] r21_0 r21_1 r21_2 r21_3

def r22_0 := [oB 1 3 0,mo 2 .mv [oFa]]
def r22_1 := [oA 3 0 1,oM 4 1 3,oP 5 .geq [.t 4, oK 0],oV 6 5,oG 7 6 true (.faddr 0) [.t 1],oG 8 6 true (.load 1 false) [.t 7],oG 9 6 true (.bin .lss) [.t 8, oK 4],mo 10 .pick [.t 6, .t 9, oFa],oV 11 10,oG 12 11 true (.faddr 1) [.t 1],oG 13 11 true (.load 1 false) [.t 12],oG 14 11 true (.bin .geq) [.t 13, oK 1],
 mo 15 .pick [.t 11, .t 14, oFa],oV 16 15,oG 17 16 true (.faddr 1) [.t 1],oG 18 16 true (.load 1 false) [.t 17],oG 19 16 true (.bin .leq) [.t 18, oK 99],mo 20 .pick [.t 16, .t 19, oFa],oV 21 20,oG 22 21 true (.faddr 2) [.t 1],oG 23 21 true (.load 1 false) [.t 22],oG 24 21 true (.bin .geq) [.t 23, oK 1],
 mo 25 .pick [.t 21, .t 24, oFa],oV 26 25,oG 27 26 true (.faddr 2) [.t 1],oG 28 26 true (.load 1 false) [.t 27],oG 29 26 true (.bin .leq) [.t 28, oK 999],mo 30 .pick [.t 26, .t 29, oFa],oV 2 30]
def pc_22 : PC := (.seq (.reg [] r22_0) (.seq (.reg [3, 4, 5, 6, 7, 8, 9, 10, 11, 12, 13, 14, 15, 16, 17, 18, 19, 20, 21, 22, 23, 24, 25, 26, 27, 28, 29, 30] r22_1) .ret))
theorem ck_22 : chkF C.P 85 pc_22 31 [.t 2] 1 = true := by kernel_rfl
attribute [go_sem] r22_0 r22_1

def r23_0 := [mo 2 .mv [oFa]]
def r23_1 := [oV 3 0,oP 4 .geq [.t 3, oK 1],oV 5 4,oG 6 5 true .mv [.t 0],oG 7 5 true (.bin .leq) [.t 6, oK 5],mo 8 .pick [.t 5, .t 7, oFa],oV 2 8]
def pc_23 : PC := (.seq (.reg [] r23_0) (.seq (.reg [3, 4, 5, 6, 7, 8] r23_1) .ret))
theorem ck_23 : chkF C.P 124 pc_23 9 [.t 2] 1 = true := by kernel_rfl
attribute [go_sem] r23_0 r23_1

def r24_0 := [oB 2 4 0,oB 3 2 1,mo 4 .mv [oFa]]
def r24_1 := [oL 5 4 2,oC 6 112 [.t 5],mo 7 .not [.t 6]]
def r24_2 := [mo 4 .mv [oFa]]
def r24_3 := [oA 8 1 2,oM 9 1 8,oP 10 .eql [.t 9, oK 1]]
def r24_4 := [oA 11 0 3,oM 12 1 11,oC 13 124 [.t 12],oV 14 13,oG 15 14 true (.faddr 1) [.t 3],oG 16 14 true (.load 1 false) [.t 15],oG 17 14 true (.bin .eql) [.t 16, oK 0],mo 18 .pick [.t 14, .t 17, oFa],oV 4 18]
def r24_5 := [oA 19 0 3,oM 20 1 19,oP 21 .eql [.t 20, oK 0],oV 22 21,oG 23 22 true (.faddr 1) [.t 3],oG 24 22 true (.load 1 false) [.t 23],oG 25 22 true (.bin .geq) [.t 24, oK 1],mo 26 .pick [.t 22, .t 25, oFa],oV 27 26,oG 28 27 true (.faddr 1) [.t 3],oG 29 27 true (.load 1 false) [.t 28],oG 30 27 true (.faddr 2) [.t 2],
 oG 31 27 true (.load 1 false) [.t 30],oG 32 27 true (.bin .leq) [.t 29, .t 31],mo 33 .pick [.t 27, .t 32, oFa],oV 4 33]
def pc_24 : PC := (.seq (.reg [] r24_0) (.seq (.seq (.reg [5, 6] r24_1) (.cond (.t 7) (.seq (.reg [] r24_2) .ret) .skip)) (.seq (.seq (.reg [8, 9] r24_3) (.cond (.t 10) (.seq (.reg [11, 12, 13, 14, 15, 16, 17, 18] r24_4) .ret) .skip)) (.seq (.reg [19, 20, 21, 22, 23, 24, 25, 26, 27, 28, 29, 30, 31, 32, 33] r24_5) .ret))))
theorem ck_24 : chkF C.P 69 pc_24 34 [.t 4] 2 = true := by kernel_rfl
attribute [go_sem] r24_0 r24_1 r24_2 r24_3 r24_4 r24_5

def r25_0 := [oI 4 0]
def r25_1 := [oV 5 0,oV 6 1,oP 7 .lss [.t 5, .t 6]]
def r25_2 := [oI 4 (-1)]
def r25_3 := [oV 8 0,oV 9 1,oP 10 .gtr [.t 8, .t 9]]
def r25_4 := [oI 4 1]
def r25_5 := [oI 4 0]
def pc_25 : PC := (.seq (.reg [] r25_0) (.seq (.seq (.reg [5, 6] r25_1) (.cond (.t 7) (.seq (.reg [] r25_2) .ret) .skip)) (.seq (.seq (.reg [8, 9] r25_3) (.cond (.t 10) (.seq (.reg [] r25_4) .ret) .skip)) (.seq (.reg [] r25_5) .ret))))
theorem ck_25 : chkF C.P 147 pc_25 11 [.t 4] 2 = true := by kernel_rfl
attribute [go_sem] r25_0 r25_1 r25_2 r25_3 r25_4 r25_5

def r26_0 := [oB 2 3 0,oB 3 3 1,oI 4 0]
def r26_1 := [oA 7 0 2,oM 8 1 7,oA 9 0 3,oM 10 1 9,oC 11 147 [.t 8, .t 10],oV 5 11]
def r26_2 := [oV 12 5,oP 13 .neq [.t 12, oK 0]]
def r26_3 := [oV 14 5,oV 4 14]
def r26_4 := [oA 15 1 2,oM 16 1 15,oA 17 1 3,oM 18 1 17,oC 19 147 [.t 16, .t 18],oV 6 19]
def r26_5 := [oV 20 6,oP 21 .neq [.t 20, oK 0]]
def r26_6 := [oV 22 6,oV 4 22]
def r26_7 := [oA 23 2 2,oM 24 1 23,oA 25 2 3,oM 26 1 25,oC 27 147 [.t 24, .t 26],oV 4 27]
def pc_26 : PC := (.seq (.reg [] r26_0) (.seq (.seq (.reg [7, 8, 9, 10, 11] r26_1) (.seq (.reg [12] r26_2) (.cond (.t 13) (.seq (.reg [14] r26_3) .ret) .skip))) (.seq (.seq (.reg [15, 16, 17, 18, 19] r26_4) (.seq (.reg [20] r26_5) (.cond (.t 21) (.seq (.reg [22] r26_6) .ret) .skip))) (.seq (.reg [23, 24, 25, 26, 27] r26_7) .ret))))
theorem ck_26 : chkF C.P 122 pc_26 28 [.t 4] 2 = true := by kernel_rfl
attribute [go_sem] r26_0 r26_1 r26_2 r26_3 r26_4 r26_5 r26_6 r26_7

def r27_0 := [mo 2 .mv [oNi]]
def r27_1 := [mo 3 (.nilown 2 (Amount.enc Amount.zero)) [.c (A.full [])]]
def r27_2 := [oI 4 0]
def r27_3 := [oV 5 4,oV 6 0,mo 7 .len [.t 6],oP 8 .lss [.t 5, .t 7]]
def r27_5 := [oV 11 3,oV 12 0,oV 13 4,mo 14 (.iaS 5 (Hold.enc Hold.zero)) [.t 12, .t 13],oA 15 3 14,oL 16 2 15,mo 17 (.bslice 2 (Amount.enc Amount.zero)) [.t 16],mo 18 (.append 2 16 (Amount.enc Amount.zero)) [.t 11, .t 17],oV 3 18]
def r27_4 := [oV 9 4,oP 10 .add [.t 9, oK 1],oV 4 10]
def r27_6 := [oV 19 3,oV 2 19]
def pc_27 : PC := (.seq (.reg [] r27_0) (.seq (.reg [] r27_1) (.seq (.seq (.reg [] r27_2) (.block 0 (.loop (.seq (.seq (.reg [5, 6, 7] r27_3) (.cond (.t 8) .skip (.exit 0))) (.seq (.block 1 (.reg [11, 12, 13, 14, 15, 16, 17, 18] r27_5)) (.reg [9, 10] r27_4)))))) (.seq (.reg [19] r27_6) .ret))))
theorem ck_27 : chkF C.P 56 pc_27 20 [.t 2] 1 = true := by kernel_rfl
attribute [go_sem] r27_0 r27_1 r27_2 r27_3 r27_5 r27_4 r27_6

def r28_0 := [oB 1 2 0,mo 2 .mv [oFa]]
def r28_1 := [oL 3 2 1,mo 4 (.build (Amount.enc Amount.zero) []) [],mo 5 (.eqa false [.i .i64, .i .i64]) [.t 3, .t 4],oV 2 5]
def pc_28 : PC := (.seq (.reg [] r28_0) (.seq (.reg [3, 4, 5] r28_1) .ret))
theorem ck_28 : chkF C.P 68 pc_28 6 [.t 2] 1 = true := by kernel_rfl
attribute [go_sem] r28_0 r28_1

def r29_0 := [oB 2 4 0,oB 3 2 1,mo 4 .mv [oFa]]
def r29_1 := [oL 5 4 2,oC 6 112 [.t 5],oV 7 6,oG 8 7 true (.load 2 true) [.t 3],oG 9 7 true (.call 68) [.t 8],oG 10 7 true .mv [.t 9],oG 11 10 false (.load 4 true) [.t 2],oG 12 10 false (.load 2 true) [.t 3],oG 13 10 false (.call 69) [.t 11, .t 12],oG 14 7 true .pick [.t 10, oTr, .t 13],mo 15 .pick [.t 7, .t 14, oFa],
 oV 4 15]
def pc_29 : PC := (.seq (.reg [] r29_0) (.seq (.reg [5, 6, 7, 8, 9, 10, 11, 12, 13, 14, 15] r29_1) .ret))
theorem ck_29 : chkF C.P 96 pc_29 16 [.t 4] 2 = true := by kernel_rfl
attribute [go_sem] r29_0 r29_1

def r2a_0 := [mo 4 .mv [oFa]]
def r2a_1 := [oV 5 0,oC 6 124 [.t 5],mo 7 .not [.t 6],oV 8 7,oG 9 8 false .mv [.t 1],oG 10 8 false (.call 124) [.t 9],oG 11 8 false .not [.t 10],mo 12 .pick [.t 8, oTr, .t 11],oV 13 12,oG 14 13 false .mv [.t 0],oG 15 13 false (.bin .eql) [.t 14, oK 5],mo 16 .pick [.t 13, oTr, .t 15],oV 17 16,oG 18 17 false .mv [.t 1],
 oG 19 17 false (.bin .eql) [.t 18, oK 5],mo 20 .pick [.t 17, oTr, .t 19]]
def r2a_2 := [mo 4 .mv [oFa]]
def r2a_3 := [oV 21 0,oP 22 .eql [.t 21, oK 1],oV 23 22,oG 24 23 false .mv [.t 1],oG 25 23 false (.bin .eql) [.t 24, oK 1],mo 26 .pick [.t 23, oTr, .t 25],oV 27 26,oG 28 27 false .mv [.t 0],oG 29 27 false .mv [.t 1],oG 30 27 false (.bin .eql) [.t 28, .t 29],oG 31 27 false .mv [.t 30],oG 32 31 true .mv [.t 0],
 oG 33 31 true (.bin .neq) [.t 32, oK 4],oG 34 27 false .pick [.t 31, .t 33, oFa],mo 35 .pick [.t 27, oTr, .t 34],oV 4 35]
def pc_2a : PC := (.seq (.reg [] r2a_0) (.seq (.seq (.reg [5, 6, 7, 8, 9, 10, 11, 12, 13, 14, 15, 16, 17, 18, 19] r2a_1) (.cond (.t 20) (.seq (.reg [] r2a_2) .ret) .skip)) (.seq (.reg [21, 22, 23, 24, 25, 26, 27, 28, 29, 30, 31, 32, 33, 34, 35] r2a_3) .ret)))
theorem ck_2a : chkF C.P 113 pc_2a 36 [.t 4] 2 = true := by kernel_rfl
attribute [go_sem] r2a_0 r2a_1 r2a_2 r2a_3

def r2b_0 := [oB 2 4 0,mo 4 .mv [oFa]]
def r2b_1 := [oL 8 4 2,oC 9 112 [.t 8],mo 10 .not [.t 9]]
def r2b_2 := [mo 4 .mv [oFa]]
def r2b_3 := [oI 5 0]
def r2b_4 := [oI 6 0]
def r2b_5 := [oV 11 6,oV 12 1,mo 13 .len [.t 12],oP 14 .lss [.t 11, .t 13]]
def r2b_7 := [oL 17 4 2,oV 18 1,oV 19 6,mo 20 (.iaS 2 (Amount.enc Amount.zero)) [.t 18, .t 19],oL 21 2 20,oC 22 96 [.t 17, .t 21],mo 23 .not [.t 22]]
def r2b_8 := [mo 4 .mv [oFa]]
def r2b_9 := [oA 24 1 2,oM 25 1 24,oP 26 .eql [.t 25, oK 2]]
def r2b_10 := [oV 27 5,oV 28 1,oV 29 6,mo 30 (.iaS 2 (Amount.enc Amount.zero)) [.t 28, .t 29],oA 31 1 30,oM 32 1 31,oP 33 .add [.t 27, .t 32],oV 5 33]
def r2b_11 := [oV 34 5,oA 35 2 2,oM 36 1 35,oP 37 .gtr [.t 34, .t 36]]
def r2b_12 := [mo 4 .mv [oFa]]
def r2b_13 := [oI 7 0]
def r2b_14 := [oV 38 7,oV 39 6,oP 40 .lss [.t 38, .t 39]]
def r2b_16 := [oV 43 1,oV 44 6,mo 45 (.iaS 2 (Amount.enc Amount.zero)) [.t 43, .t 44],oL 46 2 45,oC 47 68 [.t 46],mo 48 .not [.t 47],oV 49 48,oG 50 49 true .mv [.t 1],oG 51 49 true .mv [.t 7],oG 52 49 true (.iaS 2 (Amount.enc Amount.zero)) [.t 50, .t 51],oG 53 49 true (.load 2 true) [.t 52],oG 54 49 true (.call 68) [.t 53],
 oG 55 49 true .not [.t 54],mo 56 .pick [.t 49, .t 55, oFa],oV 57 56,oG 58 57 true .mv [.t 1],oG 59 57 true .mv [.t 6],oG 60 57 true (.iaS 2 (Amount.enc Amount.zero)) [.t 58, .t 59],oG 61 57 true (.faddr 0) [.t 60],oG 62 57 true (.load 1 false) [.t 61],oG 63 57 true .mv [.t 1],oG 64 57 true .mv [.t 7],
 oG 65 57 true (.iaS 2 (Amount.enc Amount.zero)) [.t 63, .t 64],oG 66 57 true (.faddr 0) [.t 65],oG 67 57 true (.load 1 false) [.t 66],oG 68 57 true (.call 113) [.t 62, .t 67],oG 69 57 true .not [.t 68],mo 70 .pick [.t 57, .t 69, oFa]]
def r2b_17 := [mo 4 .mv [oFa]]
def r2b_15 := [oV 41 7,oP 42 .add [.t 41, oK 1],oV 7 42]
def r2b_6 := [oV 15 6,oP 16 .add [.t 15, oK 1],oV 6 16]
def r2b_18 := [mo 4 .mv [oTr]]
def pc_2b : PC := (.seq (.reg [] r2b_0) (.seq (.seq (.reg [8, 9] r2b_1) (.cond (.t 10) (.seq (.reg [] r2b_2) .ret) .skip)) (.seq (.reg [] r2b_3) (.seq (.seq (.reg [] r2b_4) (.block 0 (.loop (.seq (.seq (.reg [11, 12, 13] r2b_5) (.cond (.t 14) .skip (.exit 0))) (.seq (.block 1 (.seq (.seq (.regd [17, 18, 19, 20, 21, 22] r2b_7) (.cond (.t 23) (.seq (.reg [] r2b_8) .ret) .skip)) (.seq (.seq (.reg [24, 25] r2b_9) (.cond (.t 26) (.seq (.reg [27, 28, 29, 30, 31, 32, 33] r2b_10) (.seq (.seq (.reg [34, 35, 36] r2b_11) (.cond (.t 37) (.seq (.reg [] r2b_12) .ret) .skip)) (.exit 1))) .skip)) (.seq (.reg [] r2b_13) (.block 2 (.loop (.seq (.seq (.reg [38, 39] r2b_14) (.cond (.t 40) .skip (.exit 2))) (.seq (.block 3 (.seq (.regd [43, 44, 45, 46, 47, 48, 49, 50, 51, 52, 53, 54, 55, 56, 57, 58, 59, 60, 61, 62, 63, 64, 65, 66, 67, 68, 69] r2b_16) (.cond (.t 70) (.seq (.reg [] r2b_17) .ret) .skip))) (.reg [41, 42] r2b_15))))))))) (.reg [15, 16] r2b_6)))))) (.seq (.reg [] r2b_18) .ret)))))
theorem ck_2b : chkF C.P 55 pc_2b 71 [.t 4] 2 = true := by kernel_rfl
attribute [go_sem] r2b_0 r2b_1 r2b_2 r2b_3 r2b_4 r2b_5 r2b_7 r2b_8 r2b_9 r2b_10 r2b_11 r2b_12 r2b_13 r2b_14 r2b_16 r2b_17 r2b_15 r2b_6 r2b_18

def r2c_0 := [oB 2 4 0,mo 4 .mv [oFa]]
def r2c_1 := [oL 6 4 2,oC 7 112 [.t 6],mo 8 .not [.t 7],oV 9 8,oG 10 9 false .mv [.t 1],oG 11 9 false .len [.t 10],oG 12 9 false (.bin .gtr) [.t 11, oK 8],mo 13 .pick [.t 9, oTr, .t 12]]
def r2c_2 := [mo 4 .mv [oFa]]
def r2c_3 := [oI 5 0]
def r2c_4 := [oV 14 5,oV 15 1,mo 16 .len [.t 15],oP 17 .lss [.t 14, .t 16]]
def r2c_6 := [oV 20 1,oV 21 5,mo 22 (.iaS 5 (Hold.enc Hold.zero)) [.t 20, .t 21],oA 23 0 22,oL 24 3 23,oC 25 85 [.t 24],mo 26 .not [.t 25],oV 27 26,oG 28 27 false (.load 4 true) [.t 2],oG 29 27 false .mv [.t 1],oG 30 27 false .mv [.t 5],oG 31 27 false (.iaS 5 (Hold.enc Hold.zero)) [.t 29, .t 30],oG 32 27 false (.faddr 3) [.t 31],
 oG 33 27 false (.load 2 true) [.t 32],oG 34 27 false (.call 69) [.t 28, .t 33],oG 35 27 false .not [.t 34],mo 36 .pick [.t 27, oTr, .t 35],oV 37 36,oG 38 37 false .mv [.t 5],oG 39 37 false (.bin .gtr) [.t 38, oK 0],oG 40 37 false .mv [.t 39],oG 41 40 true .mv [.t 1],oG 42 40 true .mv [.t 5],oG 43 40 true (.bin .sub) [.t 42, oK 1],
 oG 44 40 true (.iaS 5 (Hold.enc Hold.zero)) [.t 41, .t 43],oG 45 40 true (.faddr 0) [.t 44],oG 46 40 true (.load 3 true) [.t 45],oG 47 40 true .mv [.t 1],oG 48 40 true .mv [.t 5],oG 49 40 true (.iaS 5 (Hold.enc Hold.zero)) [.t 47, .t 48],oG 50 40 true (.faddr 0) [.t 49],oG 51 40 true (.load 3 true) [.t 50],
 oG 52 40 true (.call 122) [.t 46, .t 51],oG 53 40 true (.bin .geq) [.t 52, oK 0],oG 54 37 false .pick [.t 40, .t 53, oFa],mo 55 .pick [.t 37, oTr, .t 54]]
def r2c_7 := [mo 4 .mv [oFa]]
def r2c_5 := [oV 18 5,oP 19 .add [.t 18, oK 1],oV 5 19]
def r2c_8 := [oL 56 4 2,oV 57 1,oC 58 56 [.t 57],oC 59 55 [.t 56, .t 58],oV 4 59]
def pc_2c : PC := (.seq (.reg [] r2c_0) (.seq (.seq (.reg [6, 7, 8, 9, 10, 11, 12] r2c_1) (.cond (.t 13) (.seq (.reg [] r2c_2) .ret) .skip)) (.seq (.seq (.reg [] r2c_3) (.block 0 (.loop (.seq (.seq (.reg [14, 15, 16] r2c_4) (.cond (.t 17) .skip (.exit 0))) (.seq (.block 1 (.seq (.regd [20, 21, 22, 23, 24, 25, 26, 27, 28, 29, 30, 31, 32, 33, 34, 35, 36, 37, 38, 39, 40, 41, 42, 43, 44, 45, 46, 47, 48, 49, 50, 51, 52, 53, 54] r2c_6) (.cond (.t 55) (.seq (.reg [] r2c_7) .ret) .skip))) (.reg [18, 19] r2c_5)))))) (.seq (.regd [56, 57, 58, 59] r2c_8) .ret))))
theorem ck_2c : chkF C.P 65 pc_2c 60 [.t 4] 2 = true := by kernel_rfl
attribute [go_sem] r2c_0 r2c_1 r2c_2 r2c_3 r2c_4 r2c_6 r2c_7 r2c_5 r2c_8

def r2d_0 := [oB 1 2 0,mo 2 .mv [oFa]]
def r2d_1 := [oA 3 0 1,oM 4 1 3,oC 5 124 [.t 4],oV 6 5,oG 7 6 true (.faddr 1) [.t 1],oG 8 6 true (.load 1 false) [.t 7],oG 9 6 true (.bin .eql) [.t 8, oK 0],mo 10 .pick [.t 6, .t 9, oFa],oV 11 10,oG 12 11 false (.faddr 0) [.t 1],oG 13 11 false (.load 1 false) [.t 12],oG 14 11 false (.bin .eql) [.t 13, oK 0],
 oG 15 11 false .mv [.t 14],oG 16 15 true (.faddr 1) [.t 1],oG 17 15 true (.load 1 false) [.t 16],oG 18 15 true (.bin .geq) [.t 17, oK 1],oG 19 11 false .pick [.t 15, .t 18, oFa],oG 20 11 false .mv [.t 19],oG 21 20 true (.faddr 1) [.t 1],oG 22 20 true (.load 1 false) [.t 21],oG 23 20 true (.bin .leq) [.t 22, oK 8],
 oG 24 11 false .pick [.t 20, .t 23, oFa],mo 25 .pick [.t 11, oTr, .t 24],oV 2 25]
def pc_2d : PC := (.seq (.reg [] r2d_0) (.seq (.reg [3, 4, 5, 6, 7, 8, 9, 10, 11, 12, 13, 14, 15, 16, 17, 18, 19, 20, 21, 22, 23, 24, 25] r2d_1) .ret))
theorem ck_2d : chkF C.P 148 pc_2d 26 [.t 2] 1 = true := by kernel_rfl
attribute [go_sem] r2d_0 r2d_1

def r2e_0 := [oB 1 7 0,mo 2 .mv [oFa]]
def r2e_1 := [oA 3 0 1,oL 4 3 3,oC 5 85 [.t 4],oV 6 5,oG 7 6 true (.faddr 3) [.t 1],oG 8 6 true (.load 2 true) [.t 7],oG 9 6 true (.call 148) [.t 8],mo 10 .pick [.t 6, .t 9, oFa],oV 11 10,oG 12 11 true (.faddr 5) [.t 1],oG 13 11 true (.load 1 false) [.t 12],oG 14 11 true (.bin .geq) [.t 13, oK 0],mo 15 .pick [.t 11, .t 14, oFa],
 oV 16 15,oG 17 16 true (.faddr 5) [.t 1],oG 18 16 true (.load 1 false) [.t 17],oG 19 16 true (.bin .leq) [.t 18, oK 7],mo 20 .pick [.t 16, .t 19, oFa],oV 21 20,oG 22 21 true (.faddr 6) [.t 1],oG 23 21 true (.load 1 false) [.t 22],oG 24 21 true (.bin .geq) [.t 23, oK 0],mo 25 .pick [.t 21, .t 24, oFa],
 oV 26 25,oG 27 26 true (.faddr 6) [.t 1],oG 28 26 true (.load 1 false) [.t 27],oG 29 26 true (.bin .leq) [.t 28, oK 3],mo 30 .pick [.t 26, .t 29, oFa],oV 2 30]
def pc_2e : PC := (.seq (.reg [] r2e_0) (.seq (.reg [3, 4, 5, 6, 7, 8, 9, 10, 11, 12, 13, 14, 15, 16, 17, 18, 19, 20, 21, 22, 23, 24, 25, 26, 27, 28, 29, 30] r2e_1) .ret))
theorem ck_2e : chkF C.P 123 pc_2e 31 [.t 2] 1 = true := by kernel_rfl
attribute [go_sem] r2e_0 r2e_1

def r2f_0 := [oB 3 3 1,oI 4 0]
def r2f_1 := [oI 5 0]
def r2f_2 := [oV 6 5,oV 7 0,mo 8 .len [.t 7],oP 9 .lss [.t 6, .t 8]]
def r2f_4 := [oV 12 0,oV 13 5,mo 14 (.iaS 7 (Wait.enc Wait.zero)) [.t 12, .t 13],oA 15 0 14,oL 16 3 15,oL 17 3 3,mo 18 (.eqa false [.i .i64, .i .i64, .i .i64]) [.t 16, .t 17]]
def r2f_5 := [oV 19 5,oV 4 19]
def r2f_3 := [oV 10 5,oP 11 .add [.t 10, oK 1],oV 5 11]
def r2f_6 := [oI 4 (-1)]
def pc_2f : PC := (.seq (.reg [] r2f_0) (.seq (.seq (.reg [] r2f_1) (.block 0 (.loop (.seq (.seq (.reg [6, 7, 8] r2f_2) (.cond (.t 9) .skip (.exit 0))) (.seq (.block 1 (.seq (.regd [12, 13, 14, 15, 16, 17] r2f_4) (.cond (.t 18) (.seq (.reg [19] r2f_5) .ret) .skip))) (.reg [10, 11] r2f_3)))))) (.seq (.reg [] r2f_6) .ret)))
theorem ck_2f : chkF C.P 59 pc_2f 20 [.t 4] 2 = true := by kernel_rfl
attribute [go_sem] r2f_0 r2f_1 r2f_2 r2f_4 r2f_5 r2f_3 r2f_6

def r2g_0 := [mo 2 .mv [oFa]]
def r2g_1 := [oV 4 0,mo 5 .len [.t 4],oP 6 .gtr [.t 5, oK 8]]
def r2g_2 := [mo 2 .mv [oFa]]
def r2g_3 := [oI 3 0]
def r2g_4 := [oV 7 3,oV 8 0,mo 9 .len [.t 8],oP 10 .lss [.t 7, .t 9]]
def r2g_6 := [oV 13 0,oV 14 3,mo 15 (.iaS 7 (Wait.enc Wait.zero)) [.t 13, .t 14],oL 16 7 15,oC 17 123 [.t 16],mo 18 .not [.t 17],oV 19 18,oG 20 19 false .mv [.t 0],oG 21 19 false .mv [.t 0],oG 22 19 false .mv [.t 3],oG 23 19 false (.iaS 7 (Wait.enc Wait.zero)) [.t 21, .t 22],oG 24 19 false (.faddr 0) [.t 23],
 oG 25 19 false (.load 3 true) [.t 24],oG 26 19 false (.call 59) [.t 20, .t 25],oG 27 19 false .mv [.t 3],oG 28 19 false (.bin .neq) [.t 26, .t 27],mo 29 .pick [.t 19, oTr, .t 28]]
def r2g_7 := [mo 2 .mv [oFa]]
def r2g_5 := [oV 11 3,oP 12 .add [.t 11, oK 1],oV 3 12]
def r2g_8 := [mo 2 .mv [oTr]]
def pc_2g : PC := (.seq (.reg [] r2g_0) (.seq (.seq (.reg [4, 5] r2g_1) (.cond (.t 6) (.seq (.reg [] r2g_2) .ret) .skip)) (.seq (.seq (.reg [] r2g_3) (.block 0 (.loop (.seq (.seq (.reg [7, 8, 9] r2g_4) (.cond (.t 10) .skip (.exit 0))) (.seq (.block 1 (.seq (.reg [13, 14, 15, 16, 17, 18, 19, 20, 21, 22, 23, 24, 25, 26, 27, 28] r2g_6) (.cond (.t 29) (.seq (.reg [] r2g_7) .ret) .skip))) (.reg [11, 12] r2g_5)))))) (.seq (.reg [] r2g_8) .ret))))
theorem ck_2g : chkF C.P 66 pc_2g 30 [.t 2] 1 = true := by kernel_rfl
attribute [go_sem] r2g_0 r2g_1 r2g_2 r2g_3 r2g_4 r2g_6 r2g_7 r2g_5 r2g_8

def r2h_0 := [oB 3 3 1,mo 4 (.alloc 2 (Amount.enc Amount.zero)) []]
def r2h_1 := [oI 5 0]
def r2h_2 := [oV 6 5,oV 7 0,mo 8 .len [.t 7],oP 9 .lss [.t 6, .t 8]]
def r2h_4 := [oV 12 0,oV 13 5,mo 14 (.iaS 5 (Hold.enc Hold.zero)) [.t 12, .t 13],oA 15 0 14,oL 16 3 15,oL 17 3 3,mo 18 (.eqa false [.i .i64, .i .i64, .i .i64]) [.t 16, .t 17]]
def r2h_5 := [oV 19 0,oV 20 5,mo 21 (.iaS 5 (Hold.enc Hold.zero)) [.t 19, .t 20],oA 22 3 21,oL 23 2 22,oS 2 4 23]
def r2h_3 := [oV 10 5,oP 11 .add [.t 10, oK 1],oV 5 11]
def r2h_6 := [mo 24 (.build (Amount.enc Amount.zero) []) [],oS 2 4 24]
def pc_2h : PC := (.seq (.reg [] r2h_0) (.seq (.seq (.reg [] r2h_1) (.block 0 (.loop (.seq (.seq (.reg [6, 7, 8] r2h_2) (.cond (.t 9) .skip (.exit 0))) (.seq (.block 1 (.seq (.regd [12, 13, 14, 15, 16, 17] r2h_4) (.cond (.t 18) (.seq (.reg [19, 20, 21, 22, 23] r2h_5) .ret) .skip))) (.reg [10, 11] r2h_3)))))) (.seq (.reg [24] r2h_6) .ret)))
theorem ck_2h : chkF C.P 67 pc_2h 25 [.c 4 2 true] 2 = true := by kernel_rfl
attribute [go_sem] r2h_0 r2h_1 r2h_2 r2h_4 r2h_5 r2h_3 r2h_6

def r2i_0 := [mo 4 .mv [oFa]]
def r2i_1 := [oV 5 0,oC 6 124 [.t 5],mo 7 .not [.t 6],oV 8 7,oG 9 8 false .mv [.t 1],oG 10 8 false (.call 124) [.t 9],oG 11 8 false .not [.t 10],mo 12 .pick [.t 8, oTr, .t 11]]
def r2i_2 := [mo 4 .mv [oFa]]
def r2i_3 := [oV 13 0,oV 14 1,oP 15 .eql [.t 13, .t 14],oV 16 15,oG 17 16 false .mv [.t 0],oG 18 16 false (.bin .eql) [.t 17, oK 5],mo 19 .pick [.t 16, oTr, .t 18],oV 20 19,oG 21 20 false .mv [.t 1],oG 22 20 false (.bin .eql) [.t 21, oK 1],mo 23 .pick [.t 20, oTr, .t 22],oV 24 23,oG 25 24 false .mv [.t 0],
 oG 26 24 false (.bin .eql) [.t 25, oK 4],oG 27 24 false .mv [.t 26],oG 28 27 true .mv [.t 1],oG 29 27 true (.bin .neq) [.t 28, oK 5],oG 30 24 false .pick [.t 27, .t 29, oFa],mo 31 .pick [.t 24, oTr, .t 30],oV 4 31]
def pc_2i : PC := (.seq (.reg [] r2i_0) (.seq (.seq (.reg [5, 6, 7, 8, 9, 10, 11] r2i_1) (.cond (.t 12) (.seq (.reg [] r2i_2) .ret) .skip)) (.seq (.reg [13, 14, 15, 16, 17, 18, 19, 20, 21, 22, 23, 24, 25, 26, 27, 28, 29, 30, 31] r2i_3) .ret)))
theorem ck_2i : chkF C.P 97 pc_2i 32 [.t 4] 2 = true := by kernel_rfl
attribute [go_sem] r2i_0 r2i_1 r2i_2 r2i_3

def r2j_0 := [oB 3 4 0,oB 4 2 1,oB 5 2 2,mo 6 .mv [oFa]]
def r2j_1 := [oL 7 4 3,oL 8 2 4,oC 9 96 [.t 7, .t 8],mo 10 .not [.t 9],oV 11 10,oG 12 11 false (.load 4 true) [.t 3],oG 13 11 false (.load 2 true) [.t 5],oG 14 11 false (.call 96) [.t 12, .t 13],oG 15 11 false .not [.t 14],mo 16 .pick [.t 11, oTr, .t 15]]
def r2j_2 := [mo 6 .mv [oFa]]
def r2j_3 := [oL 17 2 5,oC 18 68 [.t 17]]
def r2j_4 := [mo 6 .mv [oTr]]
def r2j_5 := [oL 19 2 4,oC 20 68 [.t 19]]
def r2j_6 := [mo 6 .mv [oFa]]
def r2j_7 := [oA 21 1 3,oM 22 1 21,oP 23 .eql [.t 22, oK 1]]
def r2j_8 := [oA 24 0 4,oM 25 1 24,oA 26 0 5,oM 27 1 26,oC 28 97 [.t 25, .t 27],oV 6 28]
def r2j_9 := [oA 29 1 4,oM 30 1 29,oA 31 1 5,oM 32 1 31,oP 33 .geq [.t 30, .t 32],oV 6 33]
def pc_2j : PC := (.seq (.reg [] r2j_0) (.seq (.seq (.reg [7, 8, 9, 10, 11, 12, 13, 14, 15] r2j_1) (.cond (.t 16) (.seq (.reg [] r2j_2) .ret) .skip)) (.seq (.seq (.reg [17] r2j_3) (.cond (.t 18) (.seq (.reg [] r2j_4) .ret) .skip)) (.seq (.seq (.reg [19] r2j_5) (.cond (.t 20) (.seq (.reg [] r2j_6) .ret) .skip)) (.seq (.seq (.reg [21, 22] r2j_7) (.cond (.t 23) (.seq (.reg [24, 25, 26, 27, 28] r2j_8) .ret) .skip)) (.seq (.reg [29, 30, 31, 32, 33] r2j_9) .ret))))))
theorem ck_2j : chkF C.P 36 pc_2j 34 [.t 6] 3 = true := by kernel_rfl
attribute [go_sem] r2j_0 r2j_1 r2j_2 r2j_3 r2j_4 r2j_5 r2j_6 r2j_7 r2j_8 r2j_9

def r2k_0 := [oB 1 8 0,mo 2 .mv [oFa]]
def r2k_1 := [oA 8 0 1,oL 9 4 8,mo 3 (.alloc 4 (Resource.enc Resource.zero)) [],oS 4 3 9]
def r2k_2 := [oL 10 4 3,oC 11 61 [.t 10],mo 12 .not [.t 11],oV 13 12,oG 14 13 false (.load 4 true) [.t 3],oG 15 13 false (.faddr 4) [.t 1],oG 16 13 false (.load 1 false) [.t 15],oG 17 13 false (.call 65) [.t 14, .t 16],oG 18 13 false .not [.t 17],mo 19 .pick [.t 13, oTr, .t 18],oV 20 19,oG 21 20 false (.faddr 5) [.t 1],
 oG 22 20 false (.load 1 false) [.t 21],oG 23 20 false .len [.t 22],oG 24 20 false (.bin .gtr) [.t 23, oK 8],mo 25 .pick [.t 20, oTr, .t 24],oV 26 25,oG 27 26 false (.faddr 6) [.t 1],oG 28 26 false (.load 1 false) [.t 27],oG 29 26 false (.call 66) [.t 28],oG 30 26 false .not [.t 29],mo 31 .pick [.t 26, oTr, .t 30],
 oV 32 31,oG 33 32 false (.faddr 4) [.t 1],oG 34 32 false (.load 1 false) [.t 33],oG 35 32 false .len [.t 34],oG 36 32 false (.faddr 6) [.t 1],oG 37 32 false (.load 1 false) [.t 36],oG 38 32 false .len [.t 37],oG 39 32 false (.bin .add) [.t 35, .t 38],oG 40 32 false (.bin .gtr) [.t 39, oK 8],mo 41 .pick [.t 32, oTr, .t 40],
 oV 42 41,oG 43 42 false (.faddr 7) [.t 1],oG 44 42 false (.load 1 false) [.t 43],oG 45 42 false (.bin .lss) [.t 44, oK 0],mo 46 .pick [.t 42, oTr, .t 45],oV 47 46,oG 48 47 false (.faddr 7) [.t 1],oG 49 47 false (.load 1 false) [.t 48],oG 50 47 false (.bin .gtr) [.t 49, oK 1073741824],mo 51 .pick [.t 47, oTr, .t 50]]
def r2k_3 := [mo 2 .mv [oFa]]
def r2k_4 := [oI 4 0]
def r2k_5 := [oV 52 4,oA 53 5 1,oM 54 1 53,mo 55 .len [.t 54],oP 56 .lss [.t 52, .t 55]]
def r2k_7 := [oA 59 5 1,oM 60 1 59,oV 61 4,mo 62 (.iaS 7 (Wait.enc Wait.zero)) [.t 60, .t 61],oL 63 7 62,mo 5 (.alloc 7 (Wait.enc Wait.zero)) [],oS 7 5 63]
def r2k_8 := [oA 64 4 1,oM 65 1 64,oA 66 0 5,oL 67 3 66,oC 68 67 [.t 65, .t 67],mo 6 (.alloc 2 (Amount.enc Amount.zero)) [],oS 2 6 68]
def r2k_9 := [oL 69 2 6,oC 70 68 [.t 69],oV 71 70,oG 72 71 false (.load 4 true) [.t 3],oG 73 71 false (.faddr 3) [.t 5],oG 74 71 false (.load 2 true) [.t 73],oG 75 71 false (.call 69) [.t 72, .t 74],oG 76 71 false .not [.t 75],mo 77 .pick [.t 71, oTr, .t 76],oV 78 77,oG 79 78 false (.load 4 true) [.t 3],
 oG 80 78 false (.faddr 3) [.t 5],oG 81 78 false (.load 2 true) [.t 80],oG 82 78 false (.load 2 true) [.t 6],oG 83 78 false (.call 36) [.t 79, .t 81, .t 82],oG 84 78 false .not [.t 83],mo 85 .pick [.t 78, oTr, .t 84],oV 86 85,oG 87 86 false (.faddr 3) [.t 5],oG 88 86 false (.load 2 true) [.t 87],oG 89 86 false (.load 2 true) [.t 6],
 oG 90 86 false (.eqa false [.i .i64, .i .i64]) [.t 88, .t 89],mo 91 .pick [.t 86, oTr, .t 90],oV 92 91,oG 93 92 false (.faddr 5) [.t 5],oG 94 92 false (.load 1 false) [.t 93],oG 95 92 false (.bin .neq) [.t 94, oK 0],mo 96 .pick [.t 92, oTr, .t 95],oV 97 96,oG 98 97 false (.faddr 6) [.t 5],oG 99 97 false (.load 1 false) [.t 98],
 oG 100 97 false (.bin .neq) [.t 99, oK 0],mo 101 .pick [.t 97, oTr, .t 100],oV 102 101,oG 103 102 false (.faddr 5) [.t 1],oG 104 102 false (.load 1 false) [.t 103],oG 105 102 false (.faddr 0) [.t 5],oG 106 102 false (.load 3 true) [.t 105],oG 107 102 false (.call 59) [.t 104, .t 106],oG 108 102 false .mv [.t 4],
 oG 109 102 false (.bin .neq) [.t 107, .t 108],mo 110 .pick [.t 102, oTr, .t 109]]
def r2k_10 := [mo 2 .mv [oFa]]
def r2k_6 := [oV 57 4,oP 58 .add [.t 57, oK 1],oV 4 58]
def r2k_11 := [oI 7 0]
def r2k_12 := [oV 111 7,oA 112 6 1,oM 113 1 112,mo 114 .len [.t 113],oP 115 .lss [.t 111, .t 114]]
def r2k_14 := [oL 118 4 3,oA 119 6 1,oM 120 1 119,oV 121 7,mo 122 (.iaS 7 (Wait.enc Wait.zero)) [.t 120, .t 121],oA 123 3 122,oL 124 2 123,oC 125 69 [.t 118, .t 124],mo 126 .not [.t 125],oV 127 126,oG 128 127 false (.faddr 4) [.t 1],oG 129 127 false (.load 1 false) [.t 128],oG 130 127 false (.faddr 6) [.t 1],
 oG 131 127 false (.load 1 false) [.t 130],oG 132 127 false .mv [.t 7],oG 133 127 false (.iaS 7 (Wait.enc Wait.zero)) [.t 131, .t 132],oG 134 127 false (.faddr 0) [.t 133],oG 135 127 false (.load 3 true) [.t 134],oG 136 127 false (.call 67) [.t 129, .t 135],oG 137 127 false (.call 68) [.t 136],oG 138 127 false .not [.t 137],
 mo 139 .pick [.t 127, oTr, .t 138]]
def r2k_15 := [mo 2 .mv [oFa]]
def r2k_13 := [oV 116 7,oP 117 .add [.t 116, oK 1],oV 7 117]
def r2k_16 := [mo 2 .mv [oTr]]
def pc_2k : PC := (.seq (.reg [] r2k_0) (.seq (.reg [8, 9] r2k_1) (.seq (.seq (.reg [10, 11, 12, 13, 14, 15, 16, 17, 18, 19, 20, 21, 22, 23, 24, 25, 26, 27, 28, 29, 30, 31, 32, 33, 34, 35, 36, 37, 38, 39, 40, 41, 42, 43, 44, 45, 46, 47, 48, 49, 50] r2k_2) (.cond (.t 51) (.seq (.reg [] r2k_3) .ret) .skip)) (.seq (.seq (.reg [] r2k_4) (.block 0 (.loop (.seq (.seq (.reg [52, 53, 54, 55] r2k_5) (.cond (.t 56) .skip (.exit 0))) (.seq (.block 1 (.seq (.reg [59, 60, 61, 62, 63] r2k_7) (.seq (.reg [64, 65, 66, 67, 68] r2k_8) (.seq (.reg [69, 70, 71, 72, 73, 74, 75, 76, 77, 78, 79, 80, 81, 82, 83, 84, 85, 86, 87, 88, 89, 90, 91, 92, 93, 94, 95, 96, 97, 98, 99, 100, 101, 102, 103, 104, 105, 106, 107, 108, 109] r2k_9) (.cond (.t 110) (.seq (.reg [] r2k_10) .ret) .skip))))) (.reg [57, 58] r2k_6)))))) (.seq (.seq (.reg [] r2k_11) (.block 2 (.loop (.seq (.seq (.reg [111, 112, 113, 114] r2k_12) (.cond (.t 115) .skip (.exit 2))) (.seq (.block 3 (.seq (.regd [118, 119, 120, 121, 122, 123, 124, 125, 126, 127, 128, 129, 130, 131, 132, 133, 134, 135, 136, 137, 138] r2k_14) (.cond (.t 139) (.seq (.reg [] r2k_15) .ret) .skip))) (.reg [116, 117] r2k_13)))))) (.seq (.reg [] r2k_16) .ret))))))
theorem ck_2k : chkF C.P 22 pc_2k 140 [.t 2] 1 = true := by kernel_rfl
attribute [go_sem] r2k_0 r2k_1 r2k_2 r2k_3 r2k_4 r2k_5 r2k_7 r2k_8 r2k_9 r2k_10 r2k_6 r2k_11 r2k_12 r2k_14 r2k_15 r2k_13 r2k_16

def r2l_0 := [oB 1 8 0,mo 2 (.alloc 7 (Wait.enc Wait.zero)) [],mo 3 .mv [oFa]]
def r2l_1 := [oA 4 5 1,oM 5 1 4,mo 6 .len [.t 5],oP 7 .gtr [.t 6, oK 0]]
def r2l_2 := [oA 8 5 1,oM 9 1 8,mo 10 (.iaS 7 (Wait.enc Wait.zero)) [.t 9, oK 0],oL 11 7 10,oS 7 2 11,mo 3 .mv [oTr]]
def r2l_3 := [oA 12 6 1,oM 13 1 12,mo 14 .len [.t 13],oP 15 .gtr [.t 14, oK 0]]
def r2l_4 := [oA 16 6 1,oM 17 1 16,mo 18 (.iaS 7 (Wait.enc Wait.zero)) [.t 17, oK 0],oL 19 7 18,oS 7 2 19,mo 3 .mv [oTr]]
def r2l_5 := [mo 20 (.build (Wait.enc Wait.zero) []) [],oS 7 2 20,mo 3 .mv [oFa]]
def pc_2l : PC := (.seq (.reg [] r2l_0) (.seq (.seq (.reg [4, 5, 6] r2l_1) (.cond (.t 7) (.seq (.reg [8, 9, 10, 11] r2l_2) .ret) .skip)) (.seq (.seq (.reg [12, 13, 14] r2l_3) (.cond (.t 15) (.seq (.reg [16, 17, 18, 19] r2l_4) .ret) .skip)) (.seq (.reg [20] r2l_5) .ret))))
theorem ck_2l : chkF C.P 72 pc_2l 21 [.c 2 7 true, .t 3] 1 = true := by kernel_rfl
attribute [go_sem] r2l_0 r2l_1 r2l_2 r2l_3 r2l_4 r2l_5

def r2m_0 := [oB 4 3 1,oB 5 2 2,mo 6 .mv [oNi]]
def r2m_1 := [mo 7 (.nilown 5 (Hold.enc Hold.zero)) [.c (A.full [])]]
def r2m_2 := [oL 10 2 5,oC 11 68 [.t 10],oV 8 11]
def r2m_3 := [oI 9 0]
def r2m_4 := [oV 12 9,oV 13 0,mo 14 .len [.t 13],oP 15 .lss [.t 12, .t 14]]
def r2m_6 := [oV 18 0,oV 19 9,mo 20 (.iaS 5 (Hold.enc Hold.zero)) [.t 18, .t 19],oA 21 0 20,oL 22 3 21,oL 23 3 4,mo 24 (.eqa false [.i .i64, .i .i64, .i .i64]) [.t 22, .t 23]]
def r2m_7 := [oV 25 8,mo 26 .not [.t 25],oV 27 26,oG 28 27 true .mv [.t 0],oG 29 27 true .mv [.t 9],oG 30 27 true (.iaS 5 (Hold.enc Hold.zero)) [.t 28, .t 29],oG 31 27 true (.faddr 0) [.t 30],oG 32 27 true (.load 3 true) [.t 31],oG 33 27 true (.load 3 true) [.t 4],oG 34 27 true (.call 122) [.t 32, .t 33],
 oG 35 27 true (.bin .gtr) [.t 34, oK 0],mo 36 .pick [.t 27, .t 35, oFa]]
def r2m_8 := [oV 37 7,oL 38 3 4,oL 39 2 5,mo 40 (.build (Hold.enc Hold.zero) [(0, 3), (3, 2)]) [.t 38, .t 39],mo 41 (.bslice 5 (Hold.enc Hold.zero)) [.t 40],mo 42 (.append 5 40 (Hold.enc Hold.zero)) [.t 37, .t 41],oV 7 42]
def r2m_9 := [mo 8 .mv [oTr]]
def r2m_10 := [oV 43 7,oV 44 0,oV 45 9,mo 46 (.iaS 5 (Hold.enc Hold.zero)) [.t 44, .t 45],oL 47 5 46,mo 48 (.bslice 5 (Hold.enc Hold.zero)) [.t 47],mo 49 (.append 5 40 (Hold.enc Hold.zero)) [.t 43, .t 48],oV 7 49]
def r2m_5 := [oV 16 9,oP 17 .add [.t 16, oK 1],oV 9 17]
def r2m_11 := [oV 50 8,mo 51 .not [.t 50]]
def r2m_12 := [oV 52 7,oL 53 3 4,oL 54 2 5,mo 55 (.build (Hold.enc Hold.zero) [(0, 3), (3, 2)]) [.t 53, .t 54],mo 56 (.bslice 5 (Hold.enc Hold.zero)) [.t 55],mo 57 (.append 5 40 (Hold.enc Hold.zero)) [.t 52, .t 56],oV 7 57]
def r2m_13 := [oV 58 7,oV 6 58]
def pc_2m : PC := (.seq (.reg [] r2m_0) (.seq (.reg [] r2m_1) (.seq (.reg [10, 11] r2m_2) (.seq (.seq (.reg [] r2m_3) (.block 0 (.loop (.seq (.seq (.reg [12, 13, 14] r2m_4) (.cond (.t 15) .skip (.exit 0))) (.seq (.block 1 (.seq (.seq (.regd [18, 19, 20, 21, 22, 23] r2m_6) (.cond (.t 24) (.exit 1) .skip)) (.seq (.seq (.regd [25, 26, 27, 28, 29, 30, 31, 32, 33, 34, 35] r2m_7) (.cond (.t 36) (.seq (.reg [37, 38, 39, 40, 41, 42] r2m_8) (.reg [] r2m_9)) .skip)) (.reg [43, 44, 45, 46, 47, 48, 49] r2m_10)))) (.reg [16, 17] r2m_5)))))) (.seq (.seq (.reg [50] r2m_11) (.cond (.t 51) (.reg [52, 53, 54, 55, 56, 57] r2m_12) .skip)) (.seq (.reg [58] r2m_13) .ret))))))
theorem ck_2m : chkF C.P 104 pc_2m 59 [.t 6] 3 = true := by kernel_rfl
attribute [go_sem] r2m_0 r2m_1 r2m_2 r2m_3 r2m_4 r2m_6 r2m_7 r2m_8 r2m_9 r2m_10 r2m_5 r2m_11 r2m_12 r2m_13

def r2n_0 := [oB 4 4 0,oB 6 3 2,oB 7 2 3,mo 8 .mv [oFa]]
def r2n_1 := [oL 9 4 4,oV 10 1,oC 11 65 [.t 9, .t 10],oV 12 11,oG 13 12 true (.load 3 true) [.t 6],oG 14 12 true (.call 85) [.t 13],mo 15 .pick [.t 12, .t 14, oFa],oV 16 15,oG 17 16 true (.load 4 true) [.t 4],oG 18 16 true (.load 2 true) [.t 7],oG 19 16 true (.call 69) [.t 17, .t 18],mo 20 .pick [.t 16, .t 19, oFa],
 oV 21 20,oG 22 21 true (.load 4 true) [.t 4],oG 23 21 true .mv [.t 1],oG 24 21 true (.load 3 true) [.t 6],oG 25 21 true (.load 2 true) [.t 7],oG 26 21 true (.call 104) [.t 23, .t 24, .t 25],oG 27 21 true (.call 65) [.t 22, .t 26],mo 28 .pick [.t 21, .t 27, oFa],oV 8 28]
def pc_2n : PC := (.seq (.reg [] r2n_0) (.seq (.regd [9, 10, 11, 12, 13, 14, 15, 16, 17, 18, 19, 20, 21, 22, 23, 24, 25, 26, 27, 28] r2n_1) .ret))
theorem ck_2n : chkF C.P 73 pc_2n 29 [.t 8] 4 = true := by kernel_rfl
attribute [go_sem] r2n_0 r2n_1

def r2o_0 := [oB 1 8 0,mo 2 .mv [oFa]]
def r2o_1 := [oL 5 8 1,oC 6 22 [.t 5],mo 7 .not [.t 6]]
def r2o_2 := [mo 2 .mv [oFa]]
def r2o_3 := [oL 9 8 1,oC 10 72 [.t 9],oV 8 10,oE 11 0 8,oE 12 1 8,mo 3 (.alloc 7 (Wait.enc Wait.zero)) [],oS 7 3 11,oV 4 12]
def r2o_4 := [oV 13 4,mo 14 .not [.t 13],oV 15 14,oG 16 15 false (.faddr 0) [.t 1],oG 17 15 false (.load 4 true) [.t 16],oG 18 15 false (.faddr 4) [.t 1],oG 19 15 false (.load 1 false) [.t 18],oG 20 15 false (.faddr 0) [.t 3],oG 21 15 false (.load 3 true) [.t 20],oG 22 15 false (.faddr 3) [.t 3],oG 23 15 false (.load 2 true) [.t 22],
 oG 24 15 false (.call 73) [.t 17, .t 19, .t 21, .t 23],oG 25 15 false .not [.t 24],mo 26 .pick [.t 15, oTr, .t 25],oV 2 26]
def pc_2o : PC := (.seq (.reg [] r2o_0) (.seq (.seq (.reg [5, 6] r2o_1) (.cond (.t 7) (.seq (.reg [] r2o_2) .ret) .skip)) (.seq (.reg [8, 9, 10, 11, 12] r2o_3) (.seq (.reg [13, 14, 15, 16, 17, 18, 19, 20, 21, 22, 23, 24, 25, 26] r2o_4) .ret))))
theorem ck_2o : chkF C.P 24 pc_2o 27 [.t 2] 1 = true := by kernel_rfl
attribute [go_sem] r2o_0 r2o_1 r2o_2 r2o_3 r2o_4

def r2p_0 := [oB 1 8 0,mo 2 .mv [oFa]]
def r2p_1 := [oL 3 8 1,oC 4 22 [.t 3],oV 5 4,oG 6 5 true (.load 8 true) [.t 1],oG 7 5 true (.call 24) [.t 6],mo 8 .pick [.t 5, .t 7, oFa],oV 2 8]
def pc_2p : PC := (.seq (.reg [] r2p_0) (.seq (.reg [3, 4, 5, 6, 7, 8] r2p_1) .ret))
theorem ck_2p : chkF C.P 26 pc_2p 9 [.t 2] 1 = true := by kernel_rfl
attribute [go_sem] r2p_0 r2p_1

def r2q_0 := [mo 4 .mv [oFa]]
def r2q_1 := [oV 6 0,mo 7 .len [.t 6],oV 8 1,mo 9 .len [.t 8],oP 10 .neq [.t 7, .t 9]]
def r2q_2 := [mo 4 .mv [oFa]]
def r2q_3 := [oI 5 0]
def r2q_4 := [oV 11 5,oV 12 0,mo 13 .len [.t 12],oP 14 .lss [.t 11, .t 13]]
def r2q_6 := [oV 17 0,oV 18 5,mo 19 (.iaS 5 (Hold.enc Hold.zero)) [.t 17, .t 18],oL 20 5 19,oV 21 1,oV 22 5,mo 23 (.iaS 5 (Hold.enc Hold.zero)) [.t 21, .t 22],oL 24 5 23,mo 25 (.eqa true [.i .i64, .i .i64, .i .i64, .i .i64, .i .i64]) [.t 20, .t 24]]
def r2q_7 := [mo 4 .mv [oFa]]
def r2q_5 := [oV 15 5,oP 16 .add [.t 15, oK 1],oV 5 16]
def r2q_8 := [mo 4 .mv [oTr]]
def pc_2q : PC := (.seq (.reg [] r2q_0) (.seq (.seq (.reg [6, 7, 8, 9] r2q_1) (.cond (.t 10) (.seq (.reg [] r2q_2) .ret) .skip)) (.seq (.seq (.reg [] r2q_3) (.block 0 (.loop (.seq (.seq (.reg [11, 12, 13] r2q_4) (.cond (.t 14) .skip (.exit 0))) (.seq (.block 1 (.seq (.regd [17, 18, 19, 20, 21, 22, 23, 24] r2q_6) (.cond (.t 25) (.seq (.reg [] r2q_7) .ret) .skip))) (.reg [15, 16] r2q_5)))))) (.seq (.reg [] r2q_8) .ret))))
theorem ck_2q : chkF C.P 47 pc_2q 26 [.t 4] 2 = true := by kernel_rfl
attribute [go_sem] r2q_0 r2q_1 r2q_2 r2q_3 r2q_4 r2q_6 r2q_7 r2q_5 r2q_8

def r2r_0 := [mo 4 .mv [oFa]]
def r2r_1 := [oV 6 0,mo 7 .len [.t 6],oV 8 1,mo 9 .len [.t 8],oP 10 .neq [.t 7, .t 9]]
def r2r_2 := [mo 4 .mv [oFa]]
def r2r_3 := [oI 5 0]
def r2r_4 := [oV 11 5,oV 12 0,mo 13 .len [.t 12],oP 14 .lss [.t 11, .t 13]]
def r2r_6 := [oV 17 0,oV 18 5,mo 19 (.iaS 7 (Wait.enc Wait.zero)) [.t 17, .t 18],oL 20 7 19,oV 21 1,oV 22 5,mo 23 (.iaS 7 (Wait.enc Wait.zero)) [.t 21, .t 22],oL 24 7 23,mo 25 (.eqa true [.i .i64, .i .i64, .i .i64, .i .i64, .i .i64, .i .i64, .i .i64]) [.t 20, .t 24]]
def r2r_7 := [mo 4 .mv [oFa]]
def r2r_5 := [oV 15 5,oP 16 .add [.t 15, oK 1],oV 5 16]
def r2r_8 := [mo 4 .mv [oTr]]
def pc_2r : PC := (.seq (.reg [] r2r_0) (.seq (.seq (.reg [6, 7, 8, 9] r2r_1) (.cond (.t 10) (.seq (.reg [] r2r_2) .ret) .skip)) (.seq (.seq (.reg [] r2r_3) (.block 0 (.loop (.seq (.seq (.reg [11, 12, 13] r2r_4) (.cond (.t 14) .skip (.exit 0))) (.seq (.block 1 (.seq (.regd [17, 18, 19, 20, 21, 22, 23, 24] r2r_6) (.cond (.t 25) (.seq (.reg [] r2r_7) .ret) .skip))) (.reg [15, 16] r2r_5)))))) (.seq (.reg [] r2r_8) .ret))))
theorem ck_2r : chkF C.P 74 pc_2r 26 [.t 4] 2 = true := by kernel_rfl
attribute [go_sem] r2r_0 r2r_1 r2r_2 r2r_3 r2r_4 r2r_6 r2r_7 r2r_5 r2r_8

def r2s_0 := [oB 2 8 0,oB 3 8 1,mo 4 .mv [oFa]]
def r2s_1 := [oA 5 0 2,oL 6 4 5,oA 7 0 3,oL 8 4 7,mo 9 (.eqa false [.s, .i .i64, .i .i64, .i .i64]) [.t 6, .t 8],oV 10 9,oG 11 10 true (.faddr 7) [.t 2],oG 12 10 true (.load 1 false) [.t 11],oG 13 10 true (.faddr 7) [.t 3],oG 14 10 true (.load 1 false) [.t 13],oG 15 10 true (.bin .eql) [.t 12, .t 14],
 mo 16 .pick [.t 10, .t 15, oFa],oV 17 16,oG 18 17 true (.faddr 4) [.t 2],oG 19 17 true (.load 1 false) [.t 18],oG 20 17 true (.faddr 4) [.t 3],oG 21 17 true (.load 1 false) [.t 20],oG 22 17 true (.call 47) [.t 19, .t 21],mo 23 .pick [.t 17, .t 22, oFa],oV 24 23,oG 25 24 true (.faddr 5) [.t 2],oG 26 24 true (.load 1 false) [.t 25],
 oG 27 24 true (.faddr 5) [.t 3],oG 28 24 true (.load 1 false) [.t 27],oG 29 24 true (.call 74) [.t 26, .t 28],mo 30 .pick [.t 24, .t 29, oFa],oV 31 30,oG 32 31 true (.faddr 6) [.t 2],oG 33 31 true (.load 1 false) [.t 32],oG 34 31 true (.faddr 6) [.t 3],oG 35 31 true (.load 1 false) [.t 34],oG 36 31 true (.call 74) [.t 33, .t 35],
 mo 37 .pick [.t 31, .t 36, oFa],oV 4 37]
def pc_2s : PC := (.seq (.reg [] r2s_0) (.seq (.reg [5, 6, 7, 8, 9, 10, 11, 12, 13, 14, 15, 16, 17, 18, 19, 20, 21, 22, 23, 24, 25, 26, 27, 28, 29, 30, 31, 32, 33, 34, 35, 36, 37] r2s_1) .ret))
theorem ck_2s : chkF C.P 27 pc_2s 38 [.t 4] 2 = true := by kernel_rfl
attribute [go_sem] r2s_0 r2s_1

def r2u_0 := [oB 2 8 0,oB 3 3 1,mo 4 (.alloc 2 (Amount.enc Amount.zero)) [],mo 5 .mv [oFa]]
def r2u_1 := [oA 8 5 2,oM 9 1 8,oL 10 3 3,oC 11 59 [.t 9, .t 10],oV 6 11]
def r2u_2 := [oV 12 6,oP 13 .geq [.t 12, oK 0]]
def r2u_3 := [oA 14 5 2,oM 15 1 14,oV 16 6,mo 17 (.iaS 7 (Wait.enc Wait.zero)) [.t 15, .t 16],oA 18 3 17,oL 19 2 18,oS 2 4 19,mo 5 .mv [oTr]]
def r2u_4 := [oA 20 6 2,oM 21 1 20,oL 22 3 3,oC 23 59 [.t 21, .t 22],oV 7 23]
def r2u_5 := [oV 24 7,oP 25 .geq [.t 24, oK 0]]
def r2u_6 := [oA 26 6 2,oM 27 1 26,oV 28 7,mo 29 (.iaS 7 (Wait.enc Wait.zero)) [.t 27, .t 28],oA 30 3 29,oL 31 2 30,oS 2 4 31,mo 5 .mv [oTr]]
def r2u_7 := [mo 32 (.build (Amount.enc Amount.zero) []) [],oS 2 4 32,mo 5 .mv [oFa]]
def pc_2u : PC := (.seq (.reg [] r2u_0) (.seq (.seq (.reg [8, 9, 10, 11] r2u_1) (.seq (.reg [12] r2u_2) (.cond (.t 13) (.seq (.reg [14, 15, 16, 17, 18, 19] r2u_3) .ret) .skip))) (.seq (.seq (.reg [20, 21, 22, 23] r2u_4) (.seq (.reg [24] r2u_5) (.cond (.t 25) (.seq (.reg [26, 27, 28, 29, 30, 31] r2u_6) .ret) .skip))) (.seq (.reg [32] r2u_7) .ret))))
theorem ck_2u : chkF C.P 40 pc_2u 33 [.c 4 2 true, .t 5] 2 = true := by kernel_rfl
attribute [go_sem] r2u_0 r2u_1 r2u_2 r2u_3 r2u_4 r2u_5 r2u_6 r2u_7

def r2v_0 := [oB 1 8 0,mo 2 (.alloc 8 (Queue.enc Queue.zero)) []]
def r2v_1 := [mo 3 (.bown 5 (Hold.enc Hold.zero)) [],oA 4 4 1,oM 5 1 4,mo 6 (.append 5 40 (Hold.enc Hold.zero)) [.t 3, .t 5],oA 7 4 1,oS 1 7 6]
def r2v_2 := [mo 8 (.bown 7 (Wait.enc Wait.zero)) [],oA 9 5 1,oM 10 1 9,mo 11 (.append 7 56 (Wait.enc Wait.zero)) [.t 8, .t 10],oA 12 5 1,oS 1 12 11]
def r2v_3 := [mo 13 (.bown 7 (Wait.enc Wait.zero)) [],oA 14 6 1,oM 15 1 14,mo 16 (.append 7 56 (Wait.enc Wait.zero)) [.t 13, .t 15],oA 17 6 1,oS 1 17 16]
def r2v_4 := [oL 18 8 1,oS 8 2 18]
def pc_2v : PC := (.seq (.reg [] r2v_0) (.seq (.reg [3, 4, 5, 6, 7] r2v_1) (.seq (.reg [8, 9, 10, 11, 12] r2v_2) (.seq (.reg [13, 14, 15, 16, 17] r2v_3) (.seq (.reg [18] r2v_4) .ret)))))
theorem ck_2v : chkF C.P 86 pc_2v 19 [.c 2 8 true] 1 = true := by kernel_rfl
attribute [go_sem] r2v_0 r2v_1 r2v_2 r2v_3 r2v_4

def r2w_0 := [oB 2 8 0,oB 3 3 1,mo 4 (.alloc 2 (Amount.enc Amount.zero)) []]
def r2w_1 := [oA 5 4 2,oM 6 1 5,oL 7 3 3,oC 8 67 [.t 6, .t 7],oS 2 4 8]
def pc_2w : PC := (.seq (.reg [] r2w_0) (.seq (.reg [5, 6, 7, 8] r2w_1) .ret))
theorem ck_2w : chkF C.P 43 pc_2w 9 [.c 4 2 true] 2 = true := by kernel_rfl
attribute [go_sem] r2w_0 r2w_1

def r2x_0 := [oI 4 0]
def r2x_1 := [oI 5 1]
def r2x_2 := [oV 6 5,oP 7 .leq [.t 6, oK 5]]
def r2x_4 := [oV 10 5,oV 11 0,oC 12 97 [.t 10, .t 11],oV 13 12,oG 14 13 true .mv [.t 5],oG 15 13 true .mv [.t 1],oG 16 13 true (.call 97) [.t 14, .t 15],mo 17 .pick [.t 13, .t 16, oFa]]
def r2x_5 := [oV 18 5,oV 4 18]
def r2x_3 := [oV 8 5,oP 9 .add [.t 8, oK 1],oV 5 9]
def r2x_6 := [oI 4 0]
def pc_2x : PC := (.seq (.reg [] r2x_0) (.seq (.seq (.reg [] r2x_1) (.block 0 (.loop (.seq (.seq (.reg [6] r2x_2) (.cond (.t 7) .skip (.exit 0))) (.seq (.block 1 (.seq (.reg [10, 11, 12, 13, 14, 15, 16] r2x_4) (.cond (.t 17) (.seq (.reg [18] r2x_5) .ret) .skip))) (.reg [8, 9] r2x_3)))))) (.seq (.reg [] r2x_6) .ret)))
theorem ck_2x : chkF C.P 134 pc_2x 19 [.t 4] 2 = true := by kernel_rfl
attribute [go_sem] r2x_0 r2x_1 r2x_2 r2x_4 r2x_5 r2x_3 r2x_6

def r2y_0 := [oB 3 4 0,oB 4 2 1,oB 5 2 2,mo 6 (.alloc 2 (Amount.enc Amount.zero)) []]
def r2y_1 := [oL 7 4 3,oL 8 2 4,oC 9 96 [.t 7, .t 8],mo 10 .not [.t 9],oV 11 10,oG 12 11 false (.load 4 true) [.t 3],oG 13 11 false (.load 2 true) [.t 5],oG 14 11 false (.call 96) [.t 12, .t 13],oG 15 11 false .not [.t 14],mo 16 .pick [.t 11, oTr, .t 15]]
def r2y_2 := [mo 17 (.build (Amount.enc Amount.zero) []) [],oS 2 6 17]
def r2y_3 := [oL 18 4 3,oL 19 2 4,oL 20 2 5,oC 21 36 [.t 18, .t 19, .t 20]]
def r2y_4 := [oL 22 2 4,oS 2 6 22]
def r2y_5 := [oL 23 4 3,oL 24 2 5,oL 25 2 4,oC 26 36 [.t 23, .t 24, .t 25]]
def r2y_6 := [oL 27 2 5,oS 2 6 27]
def r2y_7 := [oA 28 0 4,oM 29 1 28,oA 30 0 5,oM 31 1 30,oC 32 134 [.t 29, .t 31],mo 33 (.build (Amount.enc Amount.zero) [(0, 1)]) [.t 32],oS 2 6 33]
def pc_2y : PC := (.seq (.reg [] r2y_0) (.seq (.seq (.reg [7, 8, 9, 10, 11, 12, 13, 14, 15] r2y_1) (.cond (.t 16) (.seq (.reg [17] r2y_2) .ret) .skip)) (.seq (.seq (.reg [18, 19, 20] r2y_3) (.cond (.t 21) (.seq (.reg [22] r2y_4) .ret) .skip)) (.seq (.seq (.reg [23, 24, 25] r2y_5) (.cond (.t 26) (.seq (.reg [27] r2y_6) .ret) .skip)) (.seq (.reg [28, 29, 30, 31, 32, 33] r2y_7) .ret)))))
theorem ck_2y : chkF C.P 87 pc_2y 34 [.c 6 2 true] 3 = true := by kernel_rfl
attribute [go_sem] r2y_0 r2y_1 r2y_2 r2y_3 r2y_4 r2y_5 r2y_6 r2y_7

def r2z_0 := [oB 1 8 0,mo 2 (.alloc 8 (Queue.enc Queue.zero)) []]
def r2z_1 := [mo 3 (.bown 5 (Hold.enc Hold.zero)) [],oA 4 4 1,oM 5 1 4,mo 6 (.append 5 40 (Hold.enc Hold.zero)) [.t 3, .t 5],oA 7 4 1,oS 1 7 6]
def r2z_2 := [mo 8 (.bown 7 (Wait.enc Wait.zero)) [],oA 9 5 1,oM 10 1 9,mo 11 (.append 7 56 (Wait.enc Wait.zero)) [.t 8, .t 10],oA 12 5 1,oS 1 12 11]
def r2z_3 := [mo 13 (.bown 7 (Wait.enc Wait.zero)) [],oA 14 6 1,oM 15 1 14,mo 16 (.append 7 56 (Wait.enc Wait.zero)) [.t 13, .t 15],oA 17 6 1,oS 1 17 16]
def r2z_4 := [oL 18 8 1,oS 8 2 18]
def pc_2z : PC := (.seq (.reg [] r2z_0) (.seq (.reg [3, 4, 5, 6, 7] r2z_1) (.seq (.reg [8, 9, 10, 11, 12] r2z_2) (.seq (.reg [13, 14, 15, 16, 17] r2z_3) (.seq (.reg [18] r2z_4) .ret)))))
theorem ck_2z : chkF C.P 86 pc_2z 19 [.c 2 8 true] 1 = true := by kernel_rfl
attribute [go_sem] r2z_0 r2z_1 r2z_2 r2z_3 r2z_4

def r30_0 := [oB 1 8 0,mo 2 (.alloc 8 (Queue.enc Queue.zero)) [],mo 3 .mv [oNi]]
def r30_1 := [oL 7 8 1,oC 8 22 [.t 7],mo 9 .not [.t 8]]
def r30_2 := [mo 10 (.build (Queue.enc Queue.zero) []) [],oS 8 2 10,mo 3 .mv [oNi]]
def r30_3 := [oL 11 8 1,oC 12 86 [.t 11],oS 8 1 12]
def r30_4 := [mo 4 (.nilown 5 (Hold.enc Hold.zero)) [.c (A.full [])]]
def r30_5 := [oL 13 8 1,oC 14 24 [.t 13],mo 15 .not [.t 14]]
def r30_6 := [oL 17 8 1,oC 18 72 [.t 17],oV 16 18,oE 19 0 16,oE 20 1 16,mo 5 (.alloc 7 (Wait.enc Wait.zero)) [],oS 7 5 19,oV 6 20]
def r30_7 := [oA 21 5 1,oM 22 1 21,mo 23 .len [.t 22],oP 24 .gtr [.t 23, oK 0]]
def r30_8 := [oA 25 5 1,oM 26 1 25,mo 27 (.slc 7 true false false) [.t 26, oK 1],oA 28 5 1,oS 1 28 27]
def r30_9 := [oA 29 6 1,oM 30 1 29,mo 31 (.slc 7 true false false) [.t 30, oK 1],oA 32 6 1,oS 1 32 31]
def r30_10 := [oA 33 4 1,oM 34 1 33,oA 35 0 5,oL 36 3 35,oA 37 3 5,oL 38 2 37,oC 39 104 [.t 34, .t 36, .t 38],oA 40 4 1,oS 1 40 39]
def r30_11 := [oV 41 4,oA 42 0 5,oL 43 3 42,oA 44 3 5,oL 45 2 44,mo 46 (.build (Hold.enc Hold.zero) [(0, 3), (3, 2)]) [.t 43, .t 45],mo 47 (.bslice 5 (Hold.enc Hold.zero)) [.t 46],mo 48 (.append 5 40 (Hold.enc Hold.zero)) [.t 41, .t 47],oV 4 48]
def r30_12 := [oL 49 8 1,oV 50 4,oS 8 2 49,oV 3 50]
def pc_30 : PC := (.seq (.reg [] r30_0) (.seq (.seq (.reg [7, 8] r30_1) (.cond (.t 9) (.seq (.reg [10] r30_2) .ret) .skip)) (.seq (.reg [11, 12] r30_3) (.seq (.reg [] r30_4) (.seq (.block 0 (.loop (.seq (.seq (.reg [13, 14] r30_5) (.cond (.t 15) .skip (.exit 0))) (.block 1 (.seq (.reg [6, 16, 17, 18, 19, 20] r30_6) (.seq (.seq (.reg [21, 22, 23] r30_7) (.cond (.t 24) (.reg [25, 26, 27, 28] r30_8) (.reg [29, 30, 31, 32] r30_9))) (.seq (.reg [33, 34, 35, 36, 37, 38, 39, 40] r30_10) (.reg [41, 42, 43, 44, 45, 46, 47, 48] r30_11)))))))) (.seq (.reg [49, 50] r30_12) .ret))))))
theorem ck_30 : chkF C.P 46 pc_30 51 [.c 2 8 true, .t 3] 1 = true := by kernel_rfl
attribute [go_sem] r30_0 r30_1 r30_2 r30_3 r30_4 r30_5 r30_6 r30_7 r30_8 r30_9 r30_10 r30_11 r30_12

def r31_0 := [oI 2 0]
def r31_1 := [oV 3 0,oP 4 .lss [.t 3, oK 0],oV 5 4,oG 6 5 false .mv [.t 0],oG 7 5 false (.bin .geq) [.t 6, oK 1073741824],mo 8 .pick [.t 5, oTr, .t 7]]
def r31_2 := [oI 2 1]
def r31_3 := [oV 9 0,oP 10 .add [.t 9, oK 1],oV 2 10]
def pc_31 : PC := (.seq (.reg [] r31_0) (.seq (.seq (.reg [3, 4, 5, 6, 7] r31_1) (.cond (.t 8) (.seq (.reg [] r31_2) .ret) .skip)) (.seq (.reg [9, 10] r31_3) .ret)))
theorem ck_31 : chkF C.P 135 pc_31 11 [.t 2] 1 = true := by kernel_rfl
attribute [go_sem] r31_0 r31_1 r31_2 r31_3

def r32_0 := [oB 1 8 0,mo 2 (.alloc 8 (Queue.enc Queue.zero)) [],mo 3 .mv [oNi],oI 4 0]
def r32_1 := [oL 8 8 1,oC 9 46 [.t 8],oV 7 9,oE 10 0 7,oE 11 1 7,mo 5 (.alloc 8 (Queue.enc Queue.zero)) [],oS 8 5 10,oV 6 11]
def r32_2 := [oA 12 7 1,oM 13 1 12,oC 14 135 [.t 13],oA 15 7 5,oS 1 15 14]
def r32_3 := [oL 16 8 5,oV 17 6,oS 8 2 16,oV 3 17,oI 4 0]
def pc_32 : PC := (.seq (.reg [] r32_0) (.seq (.reg [7, 8, 9, 10, 11] r32_1) (.seq (.reg [12, 13, 14, 15] r32_2) (.seq (.reg [16, 17] r32_3) .ret))))
theorem ck_32 : chkF C.P 88 pc_32 18 [.c 2 8 true, .t 3, .t 4] 1 = true := by kernel_rfl
attribute [go_sem] r32_0 r32_1 r32_2 r32_3

def r33_0 := [oB 3 7 1,mo 4 .mv [oNi],oI 5 0,oI 6 0]
def r33_1 := [oV 11 0,oC 12 66 [.t 11],mo 13 .not [.t 12]]
def r33_2 := [mo 4 .mv [oNi],oI 5 0,oI 6 2]
def r33_3 := [oL 14 7 3,oC 15 123 [.t 14],mo 16 .not [.t 15],oV 17 16,oG 18 17 false (.faddr 6) [.t 3],oG 19 17 false (.load 1 false) [.t 18],oG 20 17 false (.bin .neq) [.t 19, oK 0],mo 21 .pick [.t 17, oTr, .t 20]]
def r33_4 := [mo 4 .mv [oNi],oI 5 0,oI 6 1]
def r33_5 := [oV 22 0,oA 23 0 3,oL 24 3 23,oC 25 59 [.t 22, .t 24],oP 26 .geq [.t 25, oK 0]]
def r33_6 := [mo 4 .mv [oNi],oI 5 0,oI 6 11]
def r33_7 := [oV 27 0,mo 28 .len [.t 27],oP 29 .eql [.t 28, oK 8]]
def r33_8 := [mo 4 .mv [oNi],oI 5 0,oI 6 4]
def r33_9 := [oV 30 0,mo 31 .len [.t 30],oV 7 31]
def r33_10 := [oV 32 7,oP 33 .gtr [.t 32, oK 0],oV 34 33,oG 35 34 true .mv [.t 0],oG 36 34 true .mv [.t 7],oG 37 34 true (.bin .sub) [.t 36, oK 1],oG 38 34 true (.iaS 7 (Wait.enc Wait.zero)) [.t 35, .t 37],oG 39 34 true (.faddr 5) [.t 38],oG 40 34 true (.load 1 false) [.t 39],oG 41 34 true (.faddr 5) [.t 3],
 oG 42 34 true (.load 1 false) [.t 41],oG 43 34 true (.bin .lss) [.t 40, .t 42],mo 44 .pick [.t 34, .t 43, oFa],oV 45 44,oG 46 45 true .mv [.t 0],oG 47 45 true .mv [.t 7],oG 48 45 true (.bin .sub) [.t 47, oK 1],oG 49 45 true (.iaS 7 (Wait.enc Wait.zero)) [.t 46, .t 48],oG 50 45 true (.faddr 6) [.t 49],
 oG 51 45 true (.load 1 false) [.t 50],oG 52 45 true (.bin .lss) [.t 51, oK 3],mo 53 .pick [.t 45, .t 52, oFa]]
def r33_11 := [oV 54 7,oP 55 .sub [.t 54, oK 1],oV 7 55]
def r33_12 := [mo 56 (.bown 7 (Wait.enc Wait.zero)) [],oV 57 0,oV 58 7,mo 59 (.slc 7 false true false) [.t 57, .t 58],mo 60 (.append 7 56 (Wait.enc Wait.zero)) [.t 56, .t 59],oL 61 7 3,mo 62 (.bslice 7 (Wait.enc Wait.zero)) [.t 61],mo 63 (.append 7 56 (Wait.enc Wait.zero)) [.t 60, .t 62],oV 8 63]
def r33_13 := [oV 64 7,oV 9 64]
def r33_14 := [oV 65 9,oV 66 0,mo 67 .len [.t 66],oP 68 .lss [.t 65, .t 67]]
def r33_16 := [oV 71 0,oV 72 9,mo 73 (.iaS 7 (Wait.enc Wait.zero)) [.t 71, .t 72],oL 74 7 73,mo 10 (.alloc 7 (Wait.enc Wait.zero)) [],oS 7 10 74]
def r33_17 := [oA 75 6 10,oM 76 1 75,oP 77 .add [.t 76, oK 1],oA 78 6 10,oS 1 78 77]
def r33_18 := [oV 79 8,oL 80 7 10,mo 81 (.bslice 7 (Wait.enc Wait.zero)) [.t 80],mo 82 (.append 7 56 (Wait.enc Wait.zero)) [.t 79, .t 81],oV 8 82]
def r33_15 := [oV 69 9,oP 70 .add [.t 69, oK 1],oV 9 70]
def r33_19 := [oV 83 8,oV 84 7,oV 4 83,oV 5 84,oI 6 0]
def pc_33 : PC := (.seq (.reg [] r33_0) (.seq (.seq (.reg [11, 12] r33_1) (.cond (.t 13) (.seq (.reg [] r33_2) .ret) .skip)) (.seq (.seq (.reg [14, 15, 16, 17, 18, 19, 20] r33_3) (.cond (.t 21) (.seq (.reg [] r33_4) .ret) .skip)) (.seq (.seq (.reg [22, 23, 24, 25] r33_5) (.cond (.t 26) (.seq (.reg [] r33_6) .ret) .skip)) (.seq (.seq (.reg [27, 28] r33_7) (.cond (.t 29) (.seq (.reg [] r33_8) .ret) .skip)) (.seq (.reg [30, 31] r33_9) (.seq (.block 0 (.loop (.seq (.seq (.regd [32, 33, 34, 35, 36, 37, 38, 39, 40, 41, 42, 43, 44, 45, 46, 47, 48, 49, 50, 51, 52] r33_10) (.cond (.t 53) .skip (.exit 0))) (.block 1 (.reg [54, 55] r33_11))))) (.seq (.regm [56, 57, 58, 59, 60, 61, 62, 63] [[], [], [], [1, 2], [0, 3, 1, 2], [], [5], [4, 6, 4, 0, 3, 1, 2, 5, 0, 3, 1, 2], [7, 7, 0, 1, 2, 3, 4, 5, 6, 7, 4, 6, 4, 0, 3, 1, 2, 5, 0, 3, 1, 2, 4, 6, 4, 0, 3, 1, 2, 5, 0, 3, 1, 2, 1, 2, 0, 3, 1, 2, 5, 4, 6, 4, 0, 3, 1, 2, 5, 0, 3, 1, 2]] r33_12) (.seq (.seq (.reg [64] r33_13) (.block 2 (.loop (.seq (.seq (.reg [65, 66, 67] r33_14) (.cond (.t 68) .skip (.exit 2))) (.seq (.block 3 (.seq (.reg [71, 72, 73, 74] r33_16) (.seq (.reg [75, 76, 77, 78] r33_17) (.reg [79, 80, 81, 82] r33_18)))) (.reg [69, 70] r33_15)))))) (.seq (.reg [83, 84] r33_19) .ret))))))))))
theorem ck_33 : chkF C.P 89 pc_33 85 [.t 4, .t 5, .t 6] 2 = true := by kernel_rfl
attribute [go_sem] r33_0 r33_1 r33_2 r33_3 r33_4 r33_5 r33_6 r33_7 r33_8 r33_9 r33_10 r33_11 r33_12 r33_13 r33_14 r33_16 r33_17 r33_18 r33_15 r33_19

def r34_0 := [oB 4 8 0,oB 5 3 1,oB 6 2 2,mo 8 (.alloc 8 (Queue.enc Queue.zero)) [],mo 9 .mv [oNi],oI 10 0]
def r34_1 := [oL 17 8 4,oC 18 26 [.t 17],mo 19 .not [.t 18]]
def r34_2 := [mo 20 (.build (Queue.enc Queue.zero) []) [],oS 8 8 20,mo 9 .mv [oNi],oI 10 2]
def r34_3 := [oL 21 3 5,oC 22 85 [.t 21],mo 23 .not [.t 22],oV 24 23,oG 25 24 false .mv [.t 3],oG 26 24 false (.bin .lss) [.t 25, oK 0],mo 27 .pick [.t 24, oTr, .t 26],oV 28 27,oG 29 28 false .mv [.t 3],oG 30 28 false (.bin .gtr) [.t 29, oK 7],mo 31 .pick [.t 28, oTr, .t 30]]
def r34_4 := [mo 32 (.build (Queue.enc Queue.zero) []) [],oS 8 8 32,mo 9 .mv [oNi],oI 10 1]
def r34_5 := [oA 33 0 4,oL 34 4 33,oL 35 2 6,oC 36 69 [.t 34, .t 35],mo 37 .not [.t 36]]
def r34_6 := [mo 38 (.build (Queue.enc Queue.zero) []) [],oS 8 8 38,mo 9 .mv [oNi],oI 10 12]
def r34_7 := [oL 40 8 4,oL 41 3 5,oC 42 40 [.t 40, .t 41],oV 39 42,oE 43 0 39,oE 44 1 39,mo 11 (.alloc 2 (Amount.enc Amount.zero)) [],oS 2 11 43,oV 12 44]
def r34_8 := [oV 45 12]
def r34_9 := [mo 46 (.build (Queue.enc Queue.zero) []) [],oS 8 8 46,mo 9 .mv [oNi],oI 10 14]
def r34_10 := [oL 47 8 4,mo 48 (.callm 86) [.t 47],oS 8 4 48]
def r34_11 := [oL 49 8 4,oL 50 3 5,oC 51 43 [.t 49, .t 50],mo 13 (.alloc 2 (Amount.enc Amount.zero)) [],oS 2 13 51]
def r34_12 := [oA 52 0 4,oL 53 4 52,oL 54 2 13,oL 55 2 6,oC 56 36 [.t 53, .t 54, .t 55]]
def r34_13 := [oL 57 8 4,oS 8 8 57,mo 9 .mv [oNi],oI 10 0]
def r34_14 := [oL 58 2 13,oC 59 68 [.t 58],mo 60 .not [.t 59]]
def r34_15 := [oA 61 5 4,oM 62 1 61,oL 63 3 5,oA 64 0 4,oL 65 4 64,oL 66 2 13,oL 67 2 6,oC 68 87 [.t 65, .t 66, .t 67],mo 69 (.build (Wait.enc Wait.zero) [(0, 3), (3, 2)]) [.t 63, .t 68],mo 70 (.bslice 7 (Wait.enc Wait.zero)) [.t 69],mo 71 (.append 7 56 (Wait.enc Wait.zero)) [.t 62, .t 70],oA 72 5 4,
 oS 1 72 71]
def r34_16 := [oL 73 8 4,oC 74 88 [.t 73],oE 75 0 74,oE 76 1 74,oE 77 2 74,oS 8 8 75,oV 9 76,oV 10 77]
def r34_17 := [oA 78 4 4,oM 79 1 78,mo 80 .len [.t 79],oA 81 6 4,oM 82 1 81,mo 83 .len [.t 82],oP 84 .add [.t 80, .t 83],oP 85 .geq [.t 84, oK 8]]
def r34_18 := [mo 86 (.build (Queue.enc Queue.zero) []) [],oS 8 8 86,mo 9 .mv [oNi],oI 10 4]
def r34_19 := [oA 88 6 4,oM 89 1 88,oL 90 3 5,oL 91 2 6,oV 92 3,mo 93 (.build (Wait.enc Wait.zero) [(0, 3), (3, 2), (5, 1)]) [.t 90, .t 91, .t 92],oC 94 89 [.t 89, .t 93],oV 87 94,oE 95 0 87,oE 96 1 87,oE 97 2 87,oV 14 95,oV 15 96,oV 16 97]
def r34_20 := [oV 98 16,oP 99 .neq [.t 98, oK 0]]
def r34_21 := [mo 100 (.build (Queue.enc Queue.zero) []) [],oV 101 16,oS 8 8 100,mo 9 .mv [oNi],oV 10 101]
def r34_22 := [oV 102 14,oA 103 6 4,oS 1 103 102]
def r34_23 := [oL 104 8 4,oC 105 88 [.t 104],oE 106 0 105,oE 107 1 105,oE 108 2 105,oS 8 8 106,oV 9 107,oV 10 108]
def pc_34 : PC := (.seq (.reg [] r34_0) (.seq (.seq (.reg [17, 18] r34_1) (.cond (.t 19) (.seq (.reg [20] r34_2) .ret) .skip)) (.seq (.seq (.reg [21, 22, 23, 24, 25, 26, 27, 28, 29, 30] r34_3) (.cond (.t 31) (.seq (.reg [32] r34_4) .ret) .skip)) (.seq (.seq (.reg [33, 34, 35, 36] r34_5) (.cond (.t 37) (.seq (.reg [38] r34_6) .ret) .skip)) (.seq (.seq (.reg [11, 39, 40, 41, 42, 43, 44] r34_7) (.seq (.reg [] r34_8) (.cond (.t 45) (.seq (.reg [46] r34_9) .ret) .skip))) (.seq (.reg [47, 48] r34_10) (.seq (.reg [49, 50, 51] r34_11) (.seq (.seq (.reg [52, 53, 54, 55] r34_12) (.cond (.t 56) (.seq (.reg [57] r34_13) .ret) .skip)) (.seq (.seq (.reg [58, 59] r34_14) (.cond (.t 60) (.seq (.regm [61, 62, 63, 64, 65, 66, 67, 68, 69, 70, 71, 72] [[], [0], [], [], [3], [], [], [4, 5, 6, 3], [2, 7, 4, 5, 6, 3], [8, 2, 7, 4, 5, 6, 3], [1, 9, 7, 0, 8, 2, 7, 4, 5, 6, 3, 4, 5, 6, 3], [0, 1, 2, 3, 4, 5, 6, 7, 8, 9, 10, 0, 3, 4, 5, 6, 3, 2, 7, 4, 5, 6, 3, 8, 2, 7, 4, 5, 6, 3, 1, 9, 7, 0, 8, 2, 7, 4, 5, 6, 3, 4, 5, 6, 3], [11, 10, 10, 0, 1, 2, 3, 4, 5, 6, 7, 8, 9, 10, 0, 1, 2, 3, 4, 5, 6, 7, 8, 9, 10, 0, 3, 4, 5, 6, 3, 2, 7, 4, 5, 6, 3, 8, 2, 7, 4, 5, 6, 3, 1, 9, 7, 0, 8, 2, 7, 4, 5, 6, 3, 4, 5, 6, 3, 1, 9, 7, 0, 8, 2, 7, 4, 5, 6, 3, 4, 5, 6, 3, 1, 9, 7, 0, 8, 2, 7, 4, 5, 6, 3, 4, 5, 6, 3, 0, 3, 4, 5, 6, 3, 2, 7, 4, 5, 6, 3, 8, 2, 7, 4, 5, 6, 3, 1, 9, 7, 0, 8, 2, 7, 4, 5, 6, 3, 4, 5, 6, 3]] r34_15) (.seq (.reg [73, 74, 75, 76, 77] r34_16) .ret)) .skip)) (.seq (.seq (.reg [78, 79, 80, 81, 82, 83, 84] r34_17) (.cond (.t 85) (.seq (.reg [86] r34_18) .ret) .skip)) (.seq (.reg [15, 87, 88, 89, 90, 91, 92, 93, 94, 95, 96, 97] r34_19) (.seq (.seq (.reg [98] r34_20) (.cond (.t 99) (.seq (.reg [100, 101] r34_21) .ret) .skip)) (.seq (.reg [102, 103] r34_22) (.seq (.reg [104, 105, 106, 107, 108] r34_23) .ret))))))))))))))
theorem ck_34 : chkF C.P 29 pc_34 109 [.c 8 8 true, .t 9, .t 10] 4 = true := by kernel_rfl
attribute [go_sem] r34_0 r34_1 r34_2 r34_3 r34_4 r34_5 r34_6 r34_7 r34_8 r34_9 r34_10 r34_11 r34_12 r34_13 r34_14 r34_15 r34_16 r34_17 r34_18 r34_19 r34_20 r34_21 r34_22 r34_23

def r35_0 := [oB 6 8 0,oB 9 8 3,mo 12 .mv [oFa]]
def r35_1 := [oV 13 2,oV 14 5,oP 15 .eql [.t 13, .t 14],oV 16 15,oG 17 16 true (.load 8 true) [.t 6],oG 18 16 true (.load 8 true) [.t 9],oG 19 16 true (.call 27) [.t 17, .t 18],mo 20 .pick [.t 16, .t 19, oFa],oV 21 20,oG 22 21 true .mv [.t 1],oG 23 21 true .mv [.t 4],oG 24 21 true (.call 47) [.t 22, .t 23],
 mo 25 .pick [.t 21, .t 24, oFa],oV 12 25]
def pc_35 : PC := (.seq (.reg [] r35_0) (.seq (.reg [13, 14, 15, 16, 17, 18, 19, 20, 21, 22, 23, 24, 25] r35_1) .ret))
theorem ck_35 : chkF C.P 30 pc_35 26 [.t 12] 6 = true := by kernel_rfl
attribute [go_sem] r35_0 r35_1

def r37_0 := [mo 2 .mv [oFa]]
def r37_1 := [oV 3 0,mo 4 .len [.t 3],oP 5 .leq [.t 4, oK 300],oV 2 5]
def pc_37 : PC := (.seq (.reg [] r37_0) (.seq (.reg [3, 4, 5] r37_1) .ret))
theorem ck_37 : chkF C.P 31 pc_37 6 [.t 2] 1 = true := by kernel_rfl
attribute [go_sem] r37_0 r37_1

def r38_0 := [oI 4 0]
def r38_1 := [oV 5 0,mo 6 .nilck [.t 5],oA 7 1 6,oM 8 1 7,oV 9 0,mo 10 .nilck [.t 9],oA 11 0 10,oM 12 1 11,mo 13 .len [.t 12],oP 14 .geq [.t 8, .t 13]]
def r38_2 := [oI 4 0]
def r38_3 := [oV 15 0,mo 16 .nilck [.t 15],oA 17 1 16,oM 18 1 17,oP 19 .add [.t 18, oK 1],mo 20 .nilck [.t 15],oA 21 1 20,oS 1 21 19]
def r38_4 := [oV 22 0,mo 23 .nilck [.t 22],oA 24 0 23,oM 25 1 24,oV 26 0,mo 27 .nilck [.t 26],oA 28 1 27,oM 29 1 28,oP 30 .sub [.t 29, oK 1],mo 31 (.iaS 1 [A.int .i64 0]) [.t 25, .t 30],oM 32 1 31,oV 33 1,oC 34 39 [.t 32, .t 33],oV 4 34]
def pc_38 : PC := (.seq (.reg [] r38_0) (.seq (.seq (.regd [5, 6, 7, 8, 9, 10, 11, 12, 13] r38_1) (.cond (.t 14) (.seq (.reg [] r38_2) .ret) .skip)) (.seq (.reg [15, 16, 17, 18, 19, 20, 21] r38_3) (.seq (.regd [22, 23, 24, 25, 26, 27, 28, 29, 30, 31, 32, 33, 34] r38_4) .ret))))
theorem ck_38 : chkF C.P 140 pc_38 35 [.t 4] 2 = true := by kernel_rfl
attribute [go_sem] r38_0 r38_1 r38_2 r38_3 r38_4

def r39_0 := [mo 2 .mv [oNi]]
def r39_1 := [mo 3 (.nilown 4 (Resource.enc Resource.zero)) [.c (A.full [])]]
def r39_2 := [mo 6 (.bslice 1 [A.str (⟨#[]⟩)]) [.c (A.str ⟨#[97]⟩), .c (A.str ⟨#[98]⟩), .c (A.str ⟨#[99]⟩), .c (A.str ⟨#[100]⟩)],oV 4 6]
def r39_3 := [oI 5 0]
def r39_4 := [oV 7 5,oV 8 4,mo 9 .len [.t 8],oP 10 .lss [.t 7, .t 9]]
def r39_6 := [oV 13 3,oV 14 4,oV 15 5,mo 16 (.iaS 1 [A.str (⟨#[]⟩)]) [.t 14, .t 15],oM 17 1 16,oV 18 0,mo 19 (.callm 140) [.t 18, oK 4],mo 20 (.build (Resource.enc Resource.zero) [(0, 1), (1, 1), (2, 1), (3, 1)]) [.t 17, oK 1, oK 1, .t 19],mo 21 (.bslice 4 (Resource.enc Resource.zero)) [.t 20],mo 22 (.append 4 40 (Resource.enc Resource.zero)) [.t 13, .t 21],
 oV 3 22]
def r39_5 := [oV 11 5,oP 12 .add [.t 11, oK 1],oV 5 12]
def r39_7 := [oV 23 3,oV 24 0,mo 25 (.callm 140) [.t 24, oK 8],oP 26 .add [oK 1, .t 25],oV 27 0,mo 28 (.callm 140) [.t 27, oK 4],mo 29 (.build (Resource.enc Resource.zero) [(0, 1), (1, 1), (2, 1), (3, 1)]) [.c (A.str ⟨#[112]⟩), oK 2, .t 26, .t 28],mo 30 (.bslice 4 (Resource.enc Resource.zero)) [.t 29],
 mo 31 (.append 4 40 (Resource.enc Resource.zero)) [.t 23, .t 30],oV 3 31]
def r39_8 := [oV 32 3,oV 33 0,mo 34 (.callm 140) [.t 33, oK 3],oP 35 .add [oK 1, .t 34],oV 36 0,mo 37 (.callm 140) [.t 36, oK 4],mo 38 (.build (Resource.enc Resource.zero) [(0, 1), (1, 1), (2, 1), (3, 1)]) [.c (A.str ⟨#[113]⟩), oK 2, .t 35, .t 37],mo 39 (.bslice 4 (Resource.enc Resource.zero)) [.t 38],
 mo 40 (.append 4 40 (Resource.enc Resource.zero)) [.t 32, .t 39],oV 2 40]
def pc_39 : PC := (.seq (.reg [] r39_0) (.seq (.reg [] r39_1) (.seq (.reg [6] r39_2) (.seq (.seq (.reg [] r39_3) (.block 0 (.loop (.seq (.seq (.reg [7, 8, 9] r39_4) (.cond (.t 10) .skip (.exit 0))) (.seq (.block 1 (.regm [13, 14, 15, 16, 17, 18, 19, 20, 21, 22] [[], [], [], [1, 2], [3, 1, 2], [], [5], [4, 6, 3, 1, 2, 5], [7, 4, 6, 3, 1, 2, 5], [0, 8, 6, 7, 4, 6, 3, 1, 2, 5, 5], [9, 9, 0, 1, 2, 3, 4, 5, 6, 7, 8, 9, 0, 8, 6, 7, 4, 6, 3, 1, 2, 5, 5, 0, 8, 6, 7, 4, 6, 3, 1, 2, 5, 5, 1, 2, 3, 1, 2, 5, 4, 6, 3, 1, 2, 5, 7, 4, 6, 3, 1, 2, 5, 0, 8, 6, 7, 4, 6, 3, 1, 2, 5, 5]] r39_6)) (.reg [11, 12] r39_5)))))) (.seq (.reg [23, 24, 25, 26, 27, 28, 29, 30, 31] r39_7) (.seq (.reg [32, 33, 34, 35, 36, 37, 38, 39, 40] r39_8) .ret))))))
theorem ck_39 : chkF C.P 111 pc_39 41 [.t 2] 1 = true := by kernel_rfl
attribute [go_sem] r39_0 r39_1 r39_2 r39_3 r39_4 r39_6 r39_5 r39_7 r39_8

def r3a_0 := [mo 2 (.alloc 4 (Resource.enc Resource.zero)) []]
def r3a_1 := [oV 5 0,oV 6 0,oP 7 .shr [.t 6, .c (A.int .u64 2)],oV 8 0,oP 9 .shr [.t 8, .c (A.int .u64 4)],oV 10 0,oP 11 .shr [.t 10, .c (A.int .u64 6)],oV 12 0,oP 13 .shr [.t 12, .c (A.int .u64 8)],oV 14 0,oP 15 .shr [.t 14, .c (A.int .u64 10)],oV 16 0,oP 17 .shr [.t 16, .c (A.int .u64 12)],oV 18 0,
 oP 19 .shr [.t 18, .c (A.int .u64 14)],mo 20 (.bslice 1 [A.int .i64 0]) [.t 5, .t 7, .t 9, .t 11, .t 13, .t 15, .t 17, .t 19],mo 21 (.build [A.sl ([].map (eI .i64)), A.int .i64 0] [(0, 1)]) [.t 20],oB 22 2 21,oV 3 22]
def r3a_2 := [oV 23 3,mo 24 (.callm 111) [.t 23],oV 4 24]
def r3a_3 := [oV 25 4,oV 26 0,oV 27 4,mo 28 .len [.t 27],oC 29 39 [.t 26, .t 28],mo 30 (.iaS 4 (Resource.enc Resource.zero)) [.t 25, .t 29],oL 31 4 30,oS 4 2 31]
def pc_3a : PC := (.seq (.reg [] r3a_0) (.seq (.reg [5, 6, 7, 8, 9, 10, 11, 12, 13, 14, 15, 16, 17, 18, 19, 20, 21, 22] r3a_1) (.seq (.reg [23, 24] r3a_2) (.seq (.reg [25, 26, 27, 28, 29, 30, 31] r3a_3) .ret))))
theorem ck_3a : chkF C.P 53 pc_3a 32 [.c 2 4 true] 1 = true := by kernel_rfl
attribute [go_sem] r3a_0 r3a_1 r3a_2 r3a_3

def r3b_0 := [oI 2 0]
def r3b_1 := [mo 4 (.bslice 1 [A.int .i64 0]) [oK 5, oK 5, oK 3, oK 4, oK 2, oK 1, oK 3, oK 5],oV 3 4]
def r3b_2 := [oV 5 3,oV 6 0,oV 7 3,mo 8 .len [.t 7],oC 9 39 [.t 6, .t 8],mo 10 (.iaS 1 [A.int .i64 0]) [.t 5, .t 9],oM 11 1 10,oV 2 11]
def pc_3b : PC := (.seq (.reg [] r3b_0) (.seq (.reg [4] r3b_1) (.seq (.reg [5, 6, 7, 8, 9, 10, 11] r3b_2) .ret)))
theorem ck_3b : chkF C.P 99 pc_3b 12 [.t 2] 1 = true := by kernel_rfl
attribute [go_sem] r3b_0 r3b_1 r3b_2

def r3c_0 := [oB 2 4 0,mo 4 (.alloc 2 (Amount.enc Amount.zero)) []]
def r3c_1 := [oA 5 1 2,oM 6 1 5,oP 7 .eql [.t 6, oK 1]]
def r3c_2 := [oV 8 1,oC 9 99 [.t 8],mo 10 (.build (Amount.enc Amount.zero) [(0, 1)]) [.t 9],oS 2 4 10]
def r3c_3 := [oV 11 1,oA 12 2 2,oM 13 1 12,oC 14 39 [.t 11, .t 13],oP 15 .add [oK 1, .t 14],mo 16 (.build (Amount.enc Amount.zero) [(1, 1)]) [.t 15],oS 2 4 16]
def pc_3c : PC := (.seq (.reg [] r3c_0) (.seq (.seq (.reg [5, 6] r3c_1) (.cond (.t 7) (.seq (.reg [8, 9, 10] r3c_2) .ret) .skip)) (.seq (.reg [11, 12, 13, 14, 15, 16] r3c_3) .ret)))
theorem ck_3c : chkF C.P 38 pc_3c 17 [.c 4 2 true] 2 = true := by kernel_rfl
attribute [go_sem] r3c_0 r3c_1 r3c_2 r3c_3

def r3d_0 := [oB 3 3 1,mo 4 .mv [oNi],mo 5 .mv [oFa]]
def r3d_1 := [mo 6 (.nilown 7 (Wait.enc Wait.zero)) [.c (A.full [])]]
def r3d_2 := [oI 7 0]
def r3d_3 := [oV 8 7,oV 9 0,mo 10 .len [.t 9],oP 11 .lss [.t 8, .t 10]]
def r3d_5 := [oV 14 0,oV 15 7,mo 16 (.iaS 7 (Wait.enc Wait.zero)) [.t 14, .t 15],oA 17 0 16,oL 18 3 17,oL 19 3 3,mo 20 (.eqa true [.i .i64, .i .i64, .i .i64]) [.t 18, .t 19]]
def r3d_6 := [oV 21 6,oV 22 0,oV 23 7,mo 24 (.iaS 7 (Wait.enc Wait.zero)) [.t 22, .t 23],oL 25 7 24,mo 26 (.bslice 7 (Wait.enc Wait.zero)) [.t 25],mo 27 (.append 7 56 (Wait.enc Wait.zero)) [.t 21, .t 26],oV 6 27]
def r3d_4 := [oV 12 7,oP 13 .add [.t 12, oK 1],oV 7 13]
def r3d_7 := [oV 28 6,oV 29 6,mo 30 .len [.t 29],oV 31 0,mo 32 .len [.t 31],oP 33 .lss [.t 30, .t 32],oV 4 28,oV 5 33]
def pc_3d : PC := (.seq (.reg [] r3d_0) (.seq (.reg [] r3d_1) (.seq (.seq (.reg [] r3d_2) (.block 0 (.loop (.seq (.seq (.reg [8, 9, 10] r3d_3) (.cond (.t 11) .skip (.exit 0))) (.seq (.block 1 (.seq (.regd [14, 15, 16, 17, 18, 19] r3d_5) (.cond (.t 20) (.reg [21, 22, 23, 24, 25, 26, 27] r3d_6) .skip))) (.reg [12, 13] r3d_4)))))) (.seq (.reg [28, 29, 30, 31, 32, 33] r3d_7) .ret))))
theorem ck_3d : chkF C.P 107 pc_3d 34 [.t 4, .t 5] 2 = true := by kernel_rfl
attribute [go_sem] r3d_0 r3d_1 r3d_2 r3d_3 r3d_5 r3d_6 r3d_4 r3d_7

def r3e_0 := [oB 2 8 0,oB 3 3 1,mo 4 (.alloc 8 (Queue.enc Queue.zero)) [],mo 5 .mv [oNi],oI 6 0]
def r3e_1 := [oL 9 8 2,oC 10 26 [.t 9],mo 11 .not [.t 10]]
def r3e_2 := [mo 12 (.build (Queue.enc Queue.zero) []) [],oS 8 4 12,mo 5 .mv [oNi],oI 6 2]
def r3e_3 := [oL 14 8 2,oL 15 3 3,oC 16 40 [.t 14, .t 15],oV 13 16,oE 17 0 13,oE 18 1 13,mo 7 (.alloc 2 (Amount.enc Amount.zero)) [],oS 2 7 17,oV 8 18]
def r3e_4 := [oV 19 8,mo 20 .not [.t 19]]
def r3e_5 := [mo 21 (.build (Queue.enc Queue.zero) []) [],oS 8 4 21,mo 5 .mv [oNi],oI 6 10]
def r3e_6 := [oL 22 8 2,oC 23 86 [.t 22],oS 8 2 23]
def r3e_7 := [oA 25 5 2,oM 26 1 25,oL 27 3 3,oC 28 107 [.t 26, .t 27],oV 24 28,oE 29 0 24,oE 30 1 24,oA 31 5 2,oS 1 31 29]
def r3e_8 := [oA 33 6 2,oM 34 1 33,oL 35 3 3,oC 36 107 [.t 34, .t 35],oV 32 36,oE 37 0 32,oE 38 1 32,oA 39 6 2,oS 1 39 37]
def r3e_9 := [oL 40 8 2,oC 41 88 [.t 40],oE 42 0 41,oE 43 1 41,oE 44 2 41,oS 8 4 42,oV 5 43,oV 6 44]
def pc_3e : PC := (.seq (.reg [] r3e_0) (.seq (.seq (.reg [9, 10] r3e_1) (.cond (.t 11) (.seq (.reg [12] r3e_2) .ret) .skip)) (.seq (.seq (.reg [7, 13, 14, 15, 16, 17, 18] r3e_3) (.seq (.reg [19] r3e_4) (.cond (.t 20) (.seq (.reg [21] r3e_5) .ret) .skip))) (.seq (.reg [22, 23] r3e_6) (.seq (.reg [24, 25, 26, 27, 28, 29, 30, 31] r3e_7) (.seq (.reg [32, 33, 34, 35, 36, 37, 38, 39] r3e_8) (.seq (.reg [40, 41, 42, 43, 44] r3e_9) .ret)))))))
theorem ck_3e : chkF C.P 49 pc_3e 45 [.c 4 8 true, .t 5, .t 6] 2 = true := by kernel_rfl
attribute [go_sem] r3e_0 r3e_1 r3e_2 r3e_3 r3e_4 r3e_5 r3e_6 r3e_7 r3e_8 r3e_9

def r3f_0 := [oB 3 8 0,oB 4 3 1,oB 5 2 2,mo 6 (.alloc 8 (Queue.enc Queue.zero)) [],mo 7 .mv [oNi],oI 8 0]
def r3f_1 := [oL 12 8 3,oC 13 26 [.t 12],mo 14 .not [.t 13]]
def r3f_2 := [mo 15 (.build (Queue.enc Queue.zero) []) [],oS 8 6 15,mo 7 .mv [oNi],oI 8 2]
def r3f_3 := [oL 16 8 3,oL 17 3 4,oC 18 43 [.t 16, .t 17],mo 9 (.alloc 2 (Amount.enc Amount.zero)) [],oS 2 9 18]
def r3f_4 := [oL 19 2 9,oC 20 68 [.t 19]]
def r3f_5 := [mo 21 (.build (Queue.enc Queue.zero) []) [],oS 8 6 21,mo 7 .mv [oNi],oI 8 10]
def r3f_6 := [oL 23 8 3,oL 24 3 4,oC 25 40 [.t 23, .t 24],oV 22 25,oE 26 0 22,oE 27 1 22,mo 10 (.alloc 2 (Amount.enc Amount.zero)) [],oS 2 10 26,oV 11 27]
def r3f_7 := [oV 28 11]
def r3f_8 := [mo 29 (.build (Queue.enc Queue.zero) []) [],oS 8 6 29,mo 7 .mv [oNi],oI 8 14]
def r3f_9 := [oA 30 0 3,oL 31 4 30,oL 32 2 9,oL 33 2 5,oC 34 36 [.t 31, .t 32, .t 33],mo 35 .not [.t 34]]
def r3f_10 := [mo 36 (.build (Queue.enc Queue.zero) []) [],oS 8 6 36,mo 7 .mv [oNi],oI 8 12]
def r3f_11 := [oL 37 8 3,oC 38 86 [.t 37],oS 8 3 38]
def r3f_12 := [oL 39 2 9,oL 40 2 5,mo 41 (.eqa false [.i .i64, .i .i64]) [.t 39, .t 40]]
def r3f_13 := [oL 42 8 3,oS 8 6 42,mo 7 .mv [oNi],oI 8 0]
def r3f_14 := [oA 43 4 3,oM 44 1 43,oL 45 3 4,oL 46 2 5,oC 47 104 [.t 44, .t 45, .t 46],oA 48 4 3,oS 1 48 47]
def r3f_15 := [oL 49 8 3,oC 50 88 [.t 49],oE 51 0 50,oE 52 1 50,oE 53 2 50,oS 8 6 51,oV 7 52,oV 8 53]
def pc_3f : PC := (.seq (.reg [] r3f_0) (.seq (.seq (.reg [12, 13] r3f_1) (.cond (.t 14) (.seq (.reg [15] r3f_2) .ret) .skip)) (.seq (.reg [16, 17, 18] r3f_3) (.seq (.seq (.reg [19] r3f_4) (.cond (.t 20) (.seq (.reg [21] r3f_5) .ret) .skip)) (.seq (.seq (.reg [10, 22, 23, 24, 25, 26, 27] r3f_6) (.seq (.reg [] r3f_7) (.cond (.t 28) (.seq (.reg [29] r3f_8) .ret) .skip))) (.seq (.seq (.reg [30, 31, 32, 33, 34] r3f_9) (.cond (.t 35) (.seq (.reg [36] r3f_10) .ret) .skip)) (.seq (.reg [37, 38] r3f_11) (.seq (.seq (.reg [39, 40] r3f_12) (.cond (.t 41) (.seq (.reg [42] r3f_13) .ret) .skip)) (.seq (.reg [43, 44, 45, 46, 47, 48] r3f_14) (.seq (.reg [49, 50, 51, 52, 53] r3f_15) .ret))))))))))
theorem ck_3f : chkF C.P 52 pc_3f 54 [.c 6 8 true, .t 7, .t 8] 3 = true := by kernel_rfl
attribute [go_sem] r3f_0 r3f_1 r3f_2 r3f_3 r3f_4 r3f_5 r3f_6 r3f_7 r3f_8 r3f_9 r3f_10 r3f_11 r3f_12 r3f_13 r3f_14 r3f_15

def r3g_0 := [oB 2 8 0,oB 3 3 1,mo 4 .mv [oFa]]
def r3g_1 := [oL 8 8 2,oL 9 3 3,oC 10 40 [.t 8, .t 9],oV 7 10,oE 11 0 7,oE 12 1 7,mo 5 (.alloc 2 (Amount.enc Amount.zero)) [],oS 2 5 11,oV 6 12]
def r3g_2 := [oV 13 6,oV 14 13,oG 15 14 false (.load 8 true) [.t 2],oG 16 14 false (.load 3 true) [.t 3],oG 17 14 false (.call 43) [.t 15, .t 16],oG 18 14 false (.call 68) [.t 17],oG 19 14 false .not [.t 18],mo 20 .pick [.t 14, oTr, .t 19],oV 4 20]
def pc_3g : PC := (.seq (.reg [] r3g_0) (.seq (.reg [5, 7, 8, 9, 10, 11, 12] r3g_1) (.seq (.reg [13, 14, 15, 16, 17, 18, 19, 20] r3g_2) .ret)))
theorem ck_3g : chkF C.P 108 pc_3g 21 [.t 4] 2 = true := by kernel_rfl
attribute [go_sem] r3g_0 r3g_1 r3g_2

def r3h_0 := [oB 2 8 0,oB 3 3 1,mo 4 (.alloc 8 (Queue.enc Queue.zero)) [],mo 5 .mv [oNi],oI 6 0]
def r3h_1 := [oL 7 8 2,oC 8 26 [.t 7],mo 9 .not [.t 8]]
def r3h_2 := [mo 10 (.build (Queue.enc Queue.zero) []) [],oS 8 4 10,mo 5 .mv [oNi],oI 6 2]
def r3h_3 := [oL 11 8 2,oL 12 3 3,oC 13 108 [.t 11, .t 12],mo 14 .not [.t 13]]
def r3h_4 := [mo 15 (.build (Queue.enc Queue.zero) []) [],oS 8 4 15,mo 5 .mv [oNi],oI 6 10]
def r3h_5 := [oL 16 8 2,oC 17 86 [.t 16],oS 8 2 17]
def r3h_6 := [oA 18 4 2,oM 19 1 18,oL 20 3 3,mo 21 (.build (Amount.enc Amount.zero) []) [],oC 22 104 [.t 19, .t 20, .t 21],oA 23 4 2,oS 1 23 22]
def r3h_7 := [oA 25 5 2,oM 26 1 25,oL 27 3 3,oC 28 107 [.t 26, .t 27],oV 24 28,oE 29 0 24,oE 30 1 24,oA 31 5 2,oS 1 31 29]
def r3h_8 := [oA 33 6 2,oM 34 1 33,oL 35 3 3,oC 36 107 [.t 34, .t 35],oV 32 36,oE 37 0 32,oE 38 1 32,oA 39 6 2,oS 1 39 37]
def r3h_9 := [oL 40 8 2,oC 41 88 [.t 40],oE 42 0 41,oE 43 1 41,oE 44 2 41,oS 8 4 42,oV 5 43,oV 6 44]
def pc_3h : PC := (.seq (.reg [] r3h_0) (.seq (.seq (.reg [7, 8] r3h_1) (.cond (.t 9) (.seq (.reg [10] r3h_2) .ret) .skip)) (.seq (.seq (.reg [11, 12, 13] r3h_3) (.cond (.t 14) (.seq (.reg [15] r3h_4) .ret) .skip)) (.seq (.reg [16, 17] r3h_5) (.seq (.reg [18, 19, 20, 21, 22, 23] r3h_6) (.seq (.reg [24, 25, 26, 27, 28, 29, 30, 31] r3h_7) (.seq (.reg [32, 33, 34, 35, 36, 37, 38, 39] r3h_8) (.seq (.reg [40, 41, 42, 43, 44] r3h_9) .ret))))))))
theorem ck_3h : chkF C.P 50 pc_3h 45 [.c 4 8 true, .t 5, .t 6] 2 = true := by kernel_rfl
attribute [go_sem] r3h_0 r3h_1 r3h_2 r3h_3 r3h_4 r3h_5 r3h_6 r3h_7 r3h_8 r3h_9

def r3i_0 := [mo 4 (.alloc 8 (Queue.enc Queue.zero)) []]
def r3i_1 := [oV 12 0,oC 13 53 [.t 12],mo 14 (.build (Queue.enc Queue.zero) [(0, 4)]) [.t 13],mo 5 (.alloc 8 (Queue.enc Queue.zero)) [],oS 8 5 14]
def r3i_2 := [oI 6 0]
def r3i_3 := [oV 15 6,oV 16 1,mo 17 .len [.t 16],oP 18 .lss [.t 15, .t 17]]
def r3i_5 := [oV 21 1,oV 22 6,mo 23 (.iaS 1 [A.int .i64 0]) [.t 21, .t 22],oM 24 1 23,oV 7 24]
def r3i_6 := [oV 25 7,oP 26 .shr [.t 25, .c (A.int .u64 3)],oC 27 34 [.t 26],oA 28 0 5,oL 29 4 28,oV 30 7,oP 31 .shr [.t 30, .c (A.int .u64 6)],oC 32 38 [.t 29, .t 31],mo 8 (.alloc 3 (Proc.enc Proc.zero)) [],mo 9 (.alloc 2 (Amount.enc Amount.zero)) [],oS 3 8 27,oS 2 9 32]
def r3i_7 := [mo 10 (.alloc 8 (Queue.enc Queue.zero)) []]
def r3i_8 := [oI 11 0]
def r3i_9 := [oV 33 7,oC 34 39 [.t 33, oK 8]]
def r3i_11 := [oP 47 .eql [.t 34, oK 0],oV 46 47]
def r3i_12 := [oL 49 8 5,oL 50 3 8,oC 51 49 [.t 49, .t 50],oV 48 51,oE 52 0 48,oE 53 1 48,oE 54 2 48,oS 8 10 52,oV 11 54]
def r3i_13 := [oP 56 .eql [.t 34, oK 1],oV 55 56]
def r3i_14 := [oL 58 8 5,oL 59 3 8,oL 60 2 9,oC 61 52 [.t 58, .t 59, .t 60],oV 57 61,oE 62 0 57,oE 63 1 57,oE 64 2 57,oS 8 10 62,oV 11 64]
def r3i_15 := [oP 66 .eql [.t 34, oK 2],oV 65 66]
def r3i_16 := [oL 68 8 5,oL 69 3 8,oC 70 50 [.t 68, .t 69],oV 67 70,oE 71 0 67,oE 72 1 67,oE 73 2 67,oS 8 10 71,oV 11 73]
def r3i_10 := [oL 36 8 5,oL 37 3 8,oL 38 2 9,oV 39 7,oP 40 .shr [.t 39, .c (A.int .u64 9)],oC 41 39 [.t 40, oK 8],oC 42 29 [.t 36, .t 37, .t 38, .t 41],oV 35 42,oE 43 0 35,oE 44 1 35,oE 45 2 35,oS 8 10 43,oV 11 45]
def r3i_17 := [oV 74 11,oP 75 .eql [.t 74, oK 0]]
def r3i_18 := [oL 76 8 10,oS 8 5 76]
def r3i_4 := [oV 19 6,oP 20 .add [.t 19, oK 1],oV 6 20]
def r3i_19 := [oL 77 8 5,oS 8 4 77]
def pc_3i : PC := (.seq (.reg [] r3i_0) (.seq (.reg [12, 13, 14] r3i_1) (.seq (.seq (.reg [] r3i_2) (.block 0 (.loop (.seq (.seq (.reg [15, 16, 17] r3i_3) (.cond (.t 18) .skip (.exit 0))) (.seq (.block 1 (.seq (.reg [21, 22, 23, 24] r3i_5) (.seq (.regm [25, 26, 27, 28, 29, 30, 31, 32] [[], [0], [1, 0], [], [3], [], [5], [4, 6, 2, 3, 5, 1, 0], [], [], [8, 2, 7, 0, 1, 2, 8, 9, 1, 0, 4, 6, 2, 3, 5, 1, 0, 0, 1, 0], [9, 7, 10, 0, 1, 2, 3, 4, 5, 6, 7, 8, 9, 10, 4, 6, 2, 3, 5, 1, 0, 8, 2, 7, 0, 1, 2, 8, 9, 1, 0, 4, 6, 2, 3, 5, 1, 0, 0, 1, 0, 0, 1, 0, 3, 5, 4, 6, 2, 3, 5, 1, 0, 8, 2, 7, 0, 1, 2, 8, 9, 1, 0, 4, 6, 2, 3, 5, 1, 0, 0, 1, 0]] r3i_6) (.seq (.reg [] r3i_7) (.seq (.reg [] r3i_8) (.seq (.seq (.reg [33] r3i_9) (.block 2 (.seq (.reg [47] r3i_11) (.cond (.t 46) (.reg [48, 49, 50, 51, 52, 53, 54] r3i_12) (.seq (.reg [56] r3i_13) (.cond (.t 55) (.reg [57, 58, 59, 60, 61, 62, 63, 64] r3i_14) (.seq (.reg [66] r3i_15) (.cond (.t 65) (.reg [67, 68, 69, 70, 71, 72, 73] r3i_16) (.regm [35, 36, 37, 38, 39, 40, 41, 42, 43, 44, 45] [[], [], [], [], [3], [4, 3], [0, 1, 2, 5, 5, 4, 3, 4, 3], [6, 0, 1, 2, 5, 5, 4, 3, 4, 3], [7, 6, 0, 1, 2, 5, 5, 4, 3, 4, 3], [7, 6, 0, 1, 2, 5, 5, 4, 3, 4, 3], [7, 6, 0, 1, 2, 5, 5, 4, 3, 4, 3], [8, 6, 0, 1, 2, 3, 4, 5, 6, 7, 8, 7, 6, 0, 1, 2, 5, 5, 4, 3, 4, 3, 0, 1, 2, 5, 5, 4, 3, 4, 3, 3, 4, 3, 0, 1, 2, 5, 5, 4, 3, 4, 3, 6, 0, 1, 2, 5, 5, 4, 3, 4, 3, 7, 6, 0, 1, 2, 5, 5, 4, 3, 4, 3], [10, 11, 0, 1, 2, 3, 4, 5, 6, 7, 8, 9, 10, 11, 7, 6, 0, 1, 2, 5, 5, 4, 3, 4, 3, 8, 6, 0, 1, 2, 3, 4, 5, 6, 7, 8, 7, 6, 0, 1, 2, 5, 5, 4, 3, 4, 3, 0, 1, 2, 5, 5, 4, 3, 4, 3, 3, 4, 3, 0, 1, 2, 5, 5, 4, 3, 4, 3, 6, 0, 1, 2, 5, 5, 4, 3, 4, 3, 7, 6, 0, 1, 2, 5, 5, 4, 3, 4, 3, 3, 4, 3, 0, 1, 2, 5, 5, 4, 3, 4, 3, 6, 0, 1, 2, 5, 5, 4, 3, 4, 3, 7, 6, 0, 1, 2, 5, 5, 4, 3, 4, 3, 7, 6, 0, 1, 2, 5, 5, 4, 3, 4, 3, 7, 6, 0, 1, 2, 5, 5, 4, 3, 4, 3, 8, 6, 0, 1, 2, 3, 4, 5, 6, 7, 8, 7, 6, 0, 1, 2, 5, 5, 4, 3, 4, 3, 0, 1, 2, 5, 5, 4, 3, 4, 3, 3, 4, 3, 0, 1, 2, 5, 5, 4, 3, 4, 3, 6, 0, 1, 2, 5, 5, 4, 3, 4, 3, 7, 6, 0, 1, 2, 5, 5, 4, 3, 4, 3]] r3i_10))))))))) (.seq (.reg [74] r3i_17) (.cond (.t 75) (.reg [76] r3i_18) .skip)))))))) (.reg [19, 20] r3i_4)))))) (.seq (.reg [77] r3i_19) .ret))))
theorem ck_3i : chkF C.P 32 pc_3i 78 [.c 4 8 true] 2 = true := by kernel_rfl
attribute [go_sem] r3i_0 r3i_1 r3i_2 r3i_3 r3i_5 r3i_6 r3i_7 r3i_8 r3i_9 r3i_11 r3i_12 r3i_13 r3i_14 r3i_15 r3i_16 r3i_10 r3i_17 r3i_18 r3i_4 r3i_19

def r3k_0 := [oB 3 3 1,mo 4 .mv [oFa]]
def r3k_1 := [oI 5 0]
def r3k_2 := [oV 6 5,oV 7 0,mo 8 .len [.t 7],oP 9 .lss [.t 6, .t 8]]
def r3k_4 := [oV 12 0,oV 13 5,mo 14 (.iaS 3 (Proc.enc Proc.zero)) [.t 12, .t 13],oL 15 3 14,oL 16 3 3,mo 17 (.eqa false [.i .i64, .i .i64, .i .i64]) [.t 15, .t 16]]
def r3k_5 := [mo 4 .mv [oTr]]
def r3k_3 := [oV 10 5,oP 11 .add [.t 10, oK 1],oV 5 11]
def r3k_6 := [mo 4 .mv [oFa]]
def pc_3k : PC := (.seq (.reg [] r3k_0) (.seq (.seq (.reg [] r3k_1) (.block 0 (.loop (.seq (.seq (.reg [6, 7, 8] r3k_2) (.cond (.t 9) .skip (.exit 0))) (.seq (.block 1 (.seq (.regd [12, 13, 14, 15, 16] r3k_4) (.cond (.t 17) (.seq (.reg [] r3k_5) .ret) .skip))) (.reg [10, 11] r3k_3)))))) (.seq (.reg [] r3k_6) .ret)))
theorem ck_3k : chkF C.P 35 pc_3k 18 [.t 4] 2 = true := by kernel_rfl
attribute [go_sem] r3k_0 r3k_1 r3k_2 r3k_4 r3k_5 r3k_3 r3k_6

def r3m_0 := [mo 4 .mv [oFa]]
def r3m_1 := [oV 6 0,mo 7 .len [.t 6],oV 8 1,mo 9 .len [.t 8],oP 10 .neq [.t 7, .t 9]]
def r3m_2 := [mo 4 .mv [oFa]]
def r3m_3 := [oI 5 0]
def r3m_4 := [oV 11 5,oV 12 0,mo 13 .len [.t 12],oP 14 .lss [.t 11, .t 13]]
def r3m_6 := [oV 17 0,oV 18 5,mo 19 (.iaS 3 (Proc.enc Proc.zero)) [.t 17, .t 18],oL 20 3 19,oV 21 1,oV 22 5,mo 23 (.iaS 3 (Proc.enc Proc.zero)) [.t 21, .t 22],oL 24 3 23,mo 25 (.eqa true [.i .i64, .i .i64, .i .i64]) [.t 20, .t 24]]
def r3m_7 := [mo 4 .mv [oFa]]
def r3m_5 := [oV 15 5,oP 16 .add [.t 15, oK 1],oV 5 16]
def r3m_8 := [mo 4 .mv [oTr]]
def pc_3m : PC := (.seq (.reg [] r3m_0) (.seq (.seq (.reg [6, 7, 8, 9] r3m_1) (.cond (.t 10) (.seq (.reg [] r3m_2) .ret) .skip)) (.seq (.seq (.reg [] r3m_3) (.block 0 (.loop (.seq (.seq (.reg [11, 12, 13] r3m_4) (.cond (.t 14) .skip (.exit 0))) (.seq (.block 1 (.seq (.regd [17, 18, 19, 20, 21, 22, 23, 24] r3m_6) (.cond (.t 25) (.seq (.reg [] r3m_7) .ret) .skip))) (.reg [15, 16] r3m_5)))))) (.seq (.reg [] r3m_8) .ret))))
theorem ck_3m : chkF C.P 42 pc_3m 26 [.t 4] 2 = true := by kernel_rfl
attribute [go_sem] r3m_0 r3m_1 r3m_2 r3m_3 r3m_4 r3m_6 r3m_7 r3m_5 r3m_8

def r3q_0 := [oB 1 8 0,mo 2 (.alloc 8 (Queue.enc Queue.zero)) [],mo 3 .mv [oNi]]
def r3q_1 := [oL 6 8 1,oC 7 21 [.t 6],mo 8 .not [.t 7]]
def r3q_2 := [mo 9 (.build (Queue.enc Queue.zero) []) [],oS 8 2 9,mo 3 .mv [oNi]]
def r3q_3 := [oL 10 8 1,oC 11 77 [.t 10],mo 4 (.alloc 8 (Queue.enc Queue.zero)) [],oS 8 4 11]
def r3q_4 := [mo 12 (.callm 103) [.t 4],oV 5 12]
def r3q_5 := [oL 13 8 4,oV 14 5,oS 8 2 13,oV 3 14]
def pc_3q : PC := (.seq (.reg [] r3q_0) (.seq (.seq (.reg [6, 7] r3q_1) (.cond (.t 8) (.seq (.reg [9] r3q_2) .ret) .skip)) (.seq (.reg [10, 11] r3q_3) (.seq (.reg [12] r3q_4) (.seq (.reg [13, 14] r3q_5) .ret)))))
theorem ck_3q : chkF C.P 45 pc_3q 15 [.c 2 8 true, .t 3] 1 = true := by kernel_rfl
attribute [go_sem] r3q_0 r3q_1 r3q_2 r3q_3 r3q_4 r3q_5

def r3s_0 := [oA 3 5 0,oM 4 1 3,oL 5 3 1,oC 6 94 [.t 4, .t 5],oV 2 6,oE 7 0 2,oE 8 1 2,oA 9 5 0,oS 1 9 7]
def pc_3s : PC := (.reg [2, 3, 4, 5, 6, 7, 8, 9] r3s_0)
theorem ck_3s : chkF C.P 105 pc_3s 10 [] 2 = true := by kernel_rfl
attribute [go_sem] r3s_0

def r3t_0 := [oA 3 6 0,oM 4 1 3,oL 5 3 1,oC 6 94 [.t 4, .t 5],oV 2 6,oE 7 0 2,oE 8 1 2,oA 9 6 0,oS 1 9 7]
def pc_3t : PC := (.reg [2, 3, 4, 5, 6, 7, 8, 9] r3t_0)
theorem ck_3t : chkF C.P 106 pc_3t 10 [] 2 = true := by kernel_rfl
attribute [go_sem] r3t_0

def r3u_0 := [mo 4 (.alloc 8 (Queue.enc Queue.zero)) [],mo 5 .mv [oNi],oI 6 0]
def r3u_1 := [oV 10 1,mo 11 .len [.t 10],oI 12 0]
def r3u_2 := [oP 13 .lss [.t 12, .t 11]]
def r3u_3 := [mo 14 (.iaS 1 [A.any]) [.t 10, .t 12],oM 15 1 14,oV 8 15]
def r3u_4 := [oV 16 8,mo 17 .callvm [.t 16]]
def r3u_5 := [oP 18 .add [.t 12, oK 1],oV 12 18]
def r3u_6 := [oV 19 0,mo 20 (.callm 103) [.t 19],oV 9 20]
def r3u_7 := [oV 21 0,oV 22 0,mo 23 .nilck [.t 22],oA 24 7 23,oM 25 1 24,oC 26 130 [.t 25],mo 27 .nilck [.t 21],oA 28 7 27,oS 1 28 26]
def r3u_8 := [oV 29 0,mo 30 .nilck [.t 29],oL 31 8 30,oV 32 9,oS 8 4 31,oV 5 32,oI 6 0]
def pc_3u : PC := (.seq (.reg [] r3u_0) (.seq (.seq (.reg [] r3u_1) (.block 0 (.loop (.seq (.reg [] r3u_2) (.seq (.cond (.t 13) .skip (.exit 0)) (.seq (.block 1 (.seq (.reg [14, 15] r3u_3) (.reg [16, 17] r3u_4))) (.reg [18] r3u_5))))))) (.seq (.reg [19, 20] r3u_6) (.seq (.reg [21, 22, 23, 24, 25, 26, 27, 28] r3u_7) (.seq (.reg [29, 30, 31, 32] r3u_8) .ret)))))
theorem ck_3u : chkF C.P 80 pc_3u 33 [.c 4 8 true, .t 5, .t 6] 2 = true := by kernel_rfl
attribute [go_sem] r3u_0 r3u_1 r3u_2 r3u_3 r3u_4 r3u_5 r3u_6 r3u_7 r3u_8

def r3v_0 := [oB 2 8 0,oB 3 3 1,mo 4 (.alloc 8 (Queue.enc Queue.zero)) [],mo 5 .mv [oNi],oI 6 0]
def r3v_1 := [oL 10 8 2,oC 11 25 [.t 10],mo 12 .not [.t 11]]
def r3v_2 := [mo 13 (.build (Queue.enc Queue.zero) []) [],oS 8 4 13,mo 5 .mv [oNi],oI 6 2]
def r3v_3 := [oL 15 8 2,oL 16 3 3,oC 17 57 [.t 15, .t 16],oV 14 17,oE 18 0 14,oE 19 1 14,mo 7 (.alloc 2 (Amount.enc Amount.zero)) [],oS 2 7 18,oV 8 19]
def r3v_4 := [oV 20 8,mo 21 .not [.t 20]]
def r3v_5 := [mo 22 (.build (Queue.enc Queue.zero) []) [],oS 8 4 22,mo 5 .mv [oNi],oI 6 10]
def r3v_6 := [oL 23 8 2,oC 24 77 [.t 23],mo 9 (.alloc 8 (Queue.enc Queue.zero)) [],oS 8 9 24]
def r3v_7 := [mo 25 (.mkf 105) [.t 9, .t 3],mo 26 (.mkf 106) [.t 9, .t 3],mo 27 (.bown 1 [A.any]) [.t 25, .t 26],mo 28 (.callm 80) [.t 9, .t 27],oE 29 0 28,oE 30 1 28,oE 31 2 28,oS 8 4 29,oV 5 30,oV 6 31]
def pc_3v : PC := (.seq (.reg [] r3v_0) (.seq (.seq (.reg [10, 11] r3v_1) (.cond (.t 12) (.seq (.reg [13] r3v_2) .ret) .skip)) (.seq (.seq (.reg [7, 14, 15, 16, 17, 18, 19] r3v_3) (.seq (.reg [20] r3v_4) (.cond (.t 21) (.seq (.reg [22] r3v_5) .ret) .skip))) (.seq (.reg [23, 24] r3v_6) (.seq (.reg [25, 26, 27, 28, 29, 30, 31] r3v_7) .ret)))))
theorem ck_3v : chkF C.P 48 pc_3v 32 [.c 4 8 true, .t 5, .t 6] 2 = true := by kernel_rfl
attribute [go_sem] r3v_0 r3v_1 r3v_2 r3v_3 r3v_4 r3v_5 r3v_6 r3v_7

def r3x_0 := [oA 3 4 0,oM 4 1 3,oL 5 3 1,oL 6 2 2,oC 7 92 [.t 4, .t 5, .t 6],oA 8 4 0,oS 1 8 7]
def pc_3x : PC := (.reg [3, 4, 5, 6, 7, 8] r3x_0)
theorem ck_3x : chkF C.P 110 pc_3x 9 [] 3 = true := by kernel_rfl
attribute [go_sem] r3x_0

def r3y_0 := [mo 4 (.alloc 8 (Queue.enc Queue.zero)) [],mo 5 .mv [oNi],oI 6 0]
def r3y_1 := [oV 10 1,mo 11 .len [.t 10],oI 12 0]
def r3y_2 := [oP 13 .lss [.t 12, .t 11]]
def r3y_3 := [mo 14 (.iaS 1 [A.any]) [.t 10, .t 12],oM 15 1 14,oV 8 15]
def r3y_4 := [oV 16 8,mo 17 .callvm [.t 16]]
def r3y_5 := [oP 18 .add [.t 12, oK 1],oV 12 18]
def r3y_6 := [oV 19 0,mo 20 (.callm 103) [.t 19],oV 9 20]
def r3y_7 := [oV 21 0,oV 22 0,mo 23 .nilck [.t 22],oA 24 7 23,oM 25 1 24,oC 26 130 [.t 25],mo 27 .nilck [.t 21],oA 28 7 27,oS 1 28 26]
def r3y_8 := [oV 29 0,mo 30 .nilck [.t 29],oL 31 8 30,oV 32 9,oS 8 4 31,oV 5 32,oI 6 0]
def pc_3y : PC := (.seq (.reg [] r3y_0) (.seq (.seq (.reg [] r3y_1) (.block 0 (.loop (.seq (.reg [] r3y_2) (.seq (.cond (.t 13) .skip (.exit 0)) (.seq (.block 1 (.seq (.reg [14, 15] r3y_3) (.reg [16, 17] r3y_4))) (.reg [18] r3y_5))))))) (.seq (.reg [19, 20] r3y_6) (.seq (.reg [21, 22, 23, 24, 25, 26, 27, 28] r3y_7) (.seq (.reg [29, 30, 31, 32] r3y_8) .ret)))))
theorem ck_3y : chkF C.P 80 pc_3y 33 [.c 4 8 true, .t 5, .t 6] 2 = true := by kernel_rfl
attribute [go_sem] r3y_0 r3y_1 r3y_2 r3y_3 r3y_4 r3y_5 r3y_6 r3y_7 r3y_8

def r3z_0 := [oB 3 8 0,oB 4 3 1,oB 5 2 2,mo 6 (.alloc 8 (Queue.enc Queue.zero)) [],mo 7 .mv [oNi],oI 8 0]
def r3z_1 := [oL 11 8 3,oC 12 25 [.t 11],mo 13 .not [.t 12]]
def r3z_2 := [mo 14 (.build (Queue.enc Queue.zero) []) [],oS 8 6 14,mo 7 .mv [oNi],oI 8 2]
def r3z_3 := [oL 15 8 3,oL 16 3 4,oC 17 37 [.t 15, .t 16],mo 9 (.alloc 2 (Amount.enc Amount.zero)) [],oS 2 9 17]
def r3z_4 := [oL 18 2 9,oC 19 79 [.t 18]]
def r3z_5 := [mo 20 (.build (Queue.enc Queue.zero) []) [],oS 8 6 20,mo 7 .mv [oNi],oI 8 10]
def r3z_6 := [oA 21 5 3,oM 22 1 21,oL 23 3 4,oC 24 109 [.t 22, .t 23],oP 25 .geq [.t 24, oK 0]]
def r3z_7 := [mo 26 (.build (Queue.enc Queue.zero) []) [],oS 8 6 26,mo 7 .mv [oNi],oI 8 14]
def r3z_8 := [oA 27 0 3,oL 28 4 27,oL 29 2 9,oL 30 2 5,oC 31 78 [.t 28, .t 29, .t 30],mo 32 .not [.t 31]]
def r3z_9 := [mo 33 (.build (Queue.enc Queue.zero) []) [],oS 8 6 33,mo 7 .mv [oNi],oI 8 12]
def r3z_10 := [oL 34 8 3,oC 35 77 [.t 34],mo 10 (.alloc 8 (Queue.enc Queue.zero)) [],oS 8 10 35]
def r3z_11 := [oL 36 2 5,oL 37 2 9,mo 38 (.eqa false [.i .i64, .i .i64]) [.t 36, .t 37]]
def r3z_12 := [oL 39 8 10,oS 8 6 39,mo 7 .mv [oNi],oI 8 0]
def r3z_13 := [mo 40 (.mkf 110) [.t 10, .t 4, .t 5],mo 41 (.bown 1 [A.any]) [.t 40],mo 42 (.callm 80) [.t 10, .t 41],oE 43 0 42,oE 44 1 42,oE 45 2 42,oS 8 6 43,oV 7 44,oV 8 45]
def pc_3z : PC := (.seq (.reg [] r3z_0) (.seq (.seq (.reg [11, 12] r3z_1) (.cond (.t 13) (.seq (.reg [14] r3z_2) .ret) .skip)) (.seq (.reg [15, 16, 17] r3z_3) (.seq (.seq (.reg [18] r3z_4) (.cond (.t 19) (.seq (.reg [20] r3z_5) .ret) .skip)) (.seq (.seq (.reg [21, 22, 23, 24] r3z_6) (.cond (.t 25) (.seq (.reg [26] r3z_7) .ret) .skip)) (.seq (.seq (.reg [27, 28, 29, 30, 31] r3z_8) (.cond (.t 32) (.seq (.reg [33] r3z_9) .ret) .skip)) (.seq (.reg [34, 35] r3z_10) (.seq (.seq (.reg [36, 37] r3z_11) (.cond (.t 38) (.seq (.reg [39] r3z_12) .ret) .skip)) (.seq (.reg [40, 41, 42, 43, 44, 45] r3z_13) .ret)))))))))
theorem ck_3z : chkF C.P 51 pc_3z 46 [.c 6 8 true, .t 7, .t 8] 3 = true := by kernel_rfl
attribute [go_sem] r3z_0 r3z_1 r3z_2 r3z_3 r3z_4 r3z_5 r3z_6 r3z_7 r3z_8 r3z_9 r3z_10 r3z_11 r3z_12 r3z_13

def r41_0 := [oB 2 8 0,mo 4 (.alloc 8 (Queue.enc Queue.zero)) [],mo 5 .mv [oNi],mo 6 .mv [oFa]]
def r41_1 := [oV 15 1,oP 16 .shr [.t 15, .c (A.int .u64 3)],oC 17 34 [.t 16],mo 7 (.alloc 3 (Proc.enc Proc.zero)) [],oS 3 7 17]
def r41_2 := [oA 18 0 2,oL 19 4 18,oV 20 1,oP 21 .shr [.t 20, .c (A.int .u64 6)],oC 22 38 [.t 19, .t 21],mo 8 (.alloc 2 (Amount.enc Amount.zero)) [],oS 2 8 22]
def r41_3 := [mo 9 (.alloc 8 (Queue.enc Queue.zero)) [],mo 10 (.alloc 8 (Queue.enc Queue.zero)) []]
def r41_4 := [mo 11 .mv [oNi],mo 12 .mv [oNi]]
def r41_5 := [oI 13 0,oI 14 0]
def r41_6 := [oV 23 1,oC 24 39 [.t 23, oK 8]]
def r41_9 := [oP 48 .eql [.t 24, oK 0],oV 47 48]
def r41_10 := [oL 50 8 2,oL 51 3 7,oC 52 48 [.t 50, .t 51],oV 49 52,oE 53 0 49,oE 54 1 49,oE 55 2 49,oS 8 9 53,oV 11 54,oV 13 55]
def r41_11 := [oL 57 8 2,oL 58 3 7,oC 59 49 [.t 57, .t 58],oV 56 59,oE 60 0 56,oE 61 1 56,oE 62 2 56,oS 8 10 60,oV 12 61,oV 14 62]
def r41_12 := [oP 64 .eql [.t 24, oK 1],oV 63 64]
def r41_13 := [oL 66 8 2,oL 67 3 7,oL 68 2 8,oC 69 51 [.t 66, .t 67, .t 68],oV 65 69,oE 70 0 65,oE 71 1 65,oE 72 2 65,oS 8 9 70,oV 11 71,oV 13 72]
def r41_14 := [oL 74 8 2,oL 75 3 7,oL 76 2 8,oC 77 52 [.t 74, .t 75, .t 76],oV 73 77,oE 78 0 73,oE 79 1 73,oE 80 2 73,oS 8 10 78,oV 12 79,oV 14 80]
def r41_15 := [oP 82 .eql [.t 24, oK 2],oV 81 82]
def r41_16 := [oL 84 8 2,oL 85 3 7,oC 86 33 [.t 84, .t 85],oV 83 86,oE 87 0 83,oE 88 1 83,oE 89 2 83,oS 8 9 87,oV 11 88,oV 13 89]
def r41_17 := [oL 91 8 2,oL 92 3 7,oC 93 50 [.t 91, .t 92],oV 90 93,oE 94 0 90,oE 95 1 90,oE 96 2 90,oS 8 10 94,oV 12 95,oV 14 96]
def r41_7 := [oL 26 8 2,oL 27 3 7,oL 28 2 8,oV 29 1,oP 30 .shr [.t 29, .c (A.int .u64 9)],oC 31 39 [.t 30, oK 8],oC 32 28 [.t 26, .t 27, .t 28, .t 31],oV 25 32,oE 33 0 25,oE 34 1 25,oE 35 2 25,oS 8 9 33,oV 11 34,oV 13 35]
def r41_8 := [oL 37 8 2,oL 38 3 7,oL 39 2 8,oV 40 1,oP 41 .shr [.t 40, .c (A.int .u64 9)],oC 42 39 [.t 41, oK 8],oC 43 29 [.t 37, .t 38, .t 39, .t 42],oV 36 43,oE 44 0 36,oE 45 1 36,oE 46 2 36,oS 8 10 44,oV 12 45,oV 14 46]
def r41_18 := [oL 97 8 9,oV 98 11,oV 99 13,oL 100 8 10,oV 101 12,oV 102 14,oC 103 30 [.t 97, .t 98, .t 99, .t 100, .t 101, .t 102],mo 104 .not [.t 103]]
def r41_19 := [oL 105 8 2,oS 8 4 105,mo 5 .mv [oNi],mo 6 .mv [oFa]]
def r41_20 := [oV 106 13,oP 107 .neq [.t 106, oK 0]]
def r41_21 := [oL 108 8 2,oS 8 4 108,mo 5 .mv [oNi],mo 6 .mv [oTr]]
def r41_22 := [oL 109 8 9,oV 110 11,oS 8 4 109,oV 5 110,mo 6 .mv [oTr]]
def pc_41 : PC := (.seq (.reg [] r41_0) (.seq (.reg [15, 16, 17] r41_1) (.seq (.reg [18, 19, 20, 21, 22] r41_2) (.seq (.reg [] r41_3) (.seq (.reg [] r41_4) (.seq (.reg [] r41_5) (.seq (.seq (.reg [23] r41_6) (.block 0 (.seq (.reg [48] r41_9) (.cond (.t 47) (.seq (.reg [49, 50, 51, 52, 53, 54, 55] r41_10) (.reg [56, 57, 58, 59, 60, 61, 62] r41_11)) (.seq (.reg [64] r41_12) (.cond (.t 63) (.seq (.reg [65, 66, 67, 68, 69, 70, 71, 72] r41_13) (.reg [73, 74, 75, 76, 77, 78, 79, 80] r41_14)) (.seq (.reg [82] r41_15) (.cond (.t 81) (.seq (.reg [83, 84, 85, 86, 87, 88, 89] r41_16) (.reg [90, 91, 92, 93, 94, 95, 96] r41_17)) (.seq (.regm [25, 26, 27, 28, 29, 30, 31, 32, 33, 34, 35] [[], [], [], [], [3], [4, 3], [0, 1, 2, 5, 5, 4, 3, 4, 3], [6, 0, 1, 2, 5, 5, 4, 3, 4, 3], [7, 6, 0, 1, 2, 5, 5, 4, 3, 4, 3], [7, 6, 0, 1, 2, 5, 5, 4, 3, 4, 3], [7, 6, 0, 1, 2, 5, 5, 4, 3, 4, 3], [8, 6, 0, 1, 2, 3, 4, 5, 6, 7, 8, 7, 6, 0, 1, 2, 5, 5, 4, 3, 4, 3, 0, 1, 2, 5, 5, 4, 3, 4, 3, 3, 4, 3, 0, 1, 2, 5, 5, 4, 3, 4, 3, 6, 0, 1, 2, 5, 5, 4, 3, 4, 3, 7, 6, 0, 1, 2, 5, 5, 4, 3, 4, 3], [9, 11, 0, 1, 2, 3, 4, 5, 6, 7, 8, 9, 11, 7, 6, 0, 1, 2, 5, 5, 4, 3, 4, 3, 8, 6, 0, 1, 2, 3, 4, 5, 6, 7, 8, 7, 6, 0, 1, 2, 5, 5, 4, 3, 4, 3, 0, 1, 2, 5, 5, 4, 3, 4, 3, 3, 4, 3, 0, 1, 2, 5, 5, 4, 3, 4, 3, 6, 0, 1, 2, 5, 5, 4, 3, 4, 3, 7, 6, 0, 1, 2, 5, 5, 4, 3, 4, 3, 3, 4, 3, 0, 1, 2, 5, 5, 4, 3, 4, 3, 6, 0, 1, 2, 5, 5, 4, 3, 4, 3, 7, 6, 0, 1, 2, 5, 5, 4, 3, 4, 3, 7, 6, 0, 1, 2, 5, 5, 4, 3, 4, 3, 8, 6, 0, 1, 2, 3, 4, 5, 6, 7, 8, 7, 6, 0, 1, 2, 5, 5, 4, 3, 4, 3, 0, 1, 2, 5, 5, 4, 3, 4, 3, 3, 4, 3, 0, 1, 2, 5, 5, 4, 3, 4, 3, 6, 0, 1, 2, 5, 5, 4, 3, 4, 3, 7, 6, 0, 1, 2, 5, 5, 4, 3, 4, 3], [10, 12, 0, 1, 2, 3, 4, 5, 6, 7, 8, 9, 10, 11, 12, 7, 6, 0, 1, 2, 5, 5, 4, 3, 4, 3, 9, 11, 0, 1, 2, 3, 4, 5, 6, 7, 8, 9, 11, 7, 6, 0, 1, 2, 5, 5, 4, 3, 4, 3, 8, 6, 0, 1, 2, 3, 4, 5, 6, 7, 8, 7, 6, 0, 1, 2, 5, 5, 4, 3, 4, 3, 0, 1, 2, 5, 5, 4, 3, 4, 3, 3, 4, 3, 0, 1, 2, 5, 5, 4, 3, 4, 3, 6, 0, 1, 2, 5, 5, 4, 3, 4, 3, 7, 6, 0, 1, 2, 5, 5, 4, 3, 4, 3, 3, 4, 3, 0, 1, 2, 5, 5, 4, 3, 4, 3, 6, 0, 1, 2, 5, 5, 4, 3, 4, 3, 7, 6, 0, 1, 2, 5, 5, 4, 3, 4, 3, 7, 6, 0, 1, 2, 5, 5, 4, 3, 4, 3, 8, 6, 0, 1, 2, 3, 4, 5, 6, 7, 8, 7, 6, 0, 1, 2, 5, 5, 4, 3, 4, 3, 0, 1, 2, 5, 5, 4, 3, 4, 3, 3, 4, 3, 0, 1, 2, 5, 5, 4, 3, 4, 3, 6, 0, 1, 2, 5, 5, 4, 3, 4, 3, 7, 6, 0, 1, 2, 5, 5, 4, 3, 4, 3, 3, 4, 3, 0, 1, 2, 5, 5, 4, 3, 4, 3, 6, 0, 1, 2, 5, 5, 4, 3, 4, 3, 7, 6, 0, 1, 2, 5, 5, 4, 3, 4, 3, 7, 6, 0, 1, 2, 5, 5, 4, 3, 4, 3, 7, 6, 0, 1, 2, 5, 5, 4, 3, 4, 3, 8, 6, 0, 1, 2, 3, 4, 5, 6, 7, 8, 7, 6, 0, 1, 2, 5, 5, 4, 3, 4, 3, 0, 1, 2, 5, 5, 4, 3, 4, 3, 3, 4, 3, 0, 1, 2, 5, 5, 4, 3, 4, 3, 6, 0, 1, 2, 5, 5, 4, 3, 4, 3, 7, 6, 0, 1, 2, 5, 5, 4, 3, 4, 3, 9, 11, 0, 1, 2, 3, 4, 5, 6, 7, 8, 9, 11, 7, 6, 0, 1, 2, 5, 5, 4, 3, 4, 3, 8, 6, 0, 1, 2, 3, 4, 5, 6, 7, 8, 7, 6, 0, 1, 2, 5, 5, 4, 3, 4, 3, 0, 1, 2, 5, 5, 4, 3, 4, 3, 3, 4, 3, 0, 1, 2, 5, 5, 4, 3, 4, 3, 6, 0, 1, 2, 5, 5, 4, 3, 4, 3, 7, 6, 0, 1, 2, 5, 5, 4, 3, 4, 3, 3, 4, 3, 0, 1, 2, 5, 5, 4, 3, 4, 3, 6, 0, 1, 2, 5, 5, 4, 3, 4, 3, 7, 6, 0, 1, 2, 5, 5, 4, 3, 4, 3, 7, 6, 0, 1, 2, 5, 5, 4, 3, 4, 3, 8, 6, 0, 1, 2, 3, 4, 5, 6, 7, 8, 7, 6, 0, 1, 2, 5, 5, 4, 3, 4, 3, 0, 1, 2, 5, 5, 4, 3, 4, 3, 3, 4, 3, 0, 1, 2, 5, 5, 4, 3, 4, 3, 6, 0, 1, 2, 5, 5, 4, 3, 4, 3, 7, 6, 0, 1, 2, 5, 5, 4, 3, 4, 3]] r41_7) (.regm [36, 37, 38, 39, 40, 41, 42, 43, 44, 45, 46] [[], [], [], [], [3], [4, 3], [0, 1, 2, 5, 5, 4, 3, 4, 3], [6, 0, 1, 2, 5, 5, 4, 3, 4, 3], [7, 6, 0, 1, 2, 5, 5, 4, 3, 4, 3], [7, 6, 0, 1, 2, 5, 5, 4, 3, 4, 3], [7, 6, 0, 1, 2, 5, 5, 4, 3, 4, 3], [8, 6, 0, 1, 2, 3, 4, 5, 6, 7, 8, 7, 6, 0, 1, 2, 5, 5, 4, 3, 4, 3, 0, 1, 2, 5, 5, 4, 3, 4, 3, 3, 4, 3, 0, 1, 2, 5, 5, 4, 3, 4, 3, 6, 0, 1, 2, 5, 5, 4, 3, 4, 3, 7, 6, 0, 1, 2, 5, 5, 4, 3, 4, 3], [9, 11, 0, 1, 2, 3, 4, 5, 6, 7, 8, 9, 11, 7, 6, 0, 1, 2, 5, 5, 4, 3, 4, 3, 8, 6, 0, 1, 2, 3, 4, 5, 6, 7, 8, 7, 6, 0, 1, 2, 5, 5, 4, 3, 4, 3, 0, 1, 2, 5, 5, 4, 3, 4, 3, 3, 4, 3, 0, 1, 2, 5, 5, 4, 3, 4, 3, 6, 0, 1, 2, 5, 5, 4, 3, 4, 3, 7, 6, 0, 1, 2, 5, 5, 4, 3, 4, 3, 3, 4, 3, 0, 1, 2, 5, 5, 4, 3, 4, 3, 6, 0, 1, 2, 5, 5, 4, 3, 4, 3, 7, 6, 0, 1, 2, 5, 5, 4, 3, 4, 3, 7, 6, 0, 1, 2, 5, 5, 4, 3, 4, 3, 8, 6, 0, 1, 2, 3, 4, 5, 6, 7, 8, 7, 6, 0, 1, 2, 5, 5, 4, 3, 4, 3, 0, 1, 2, 5, 5, 4, 3, 4, 3, 3, 4, 3, 0, 1, 2, 5, 5, 4, 3, 4, 3, 6, 0, 1, 2, 5, 5, 4, 3, 4, 3, 7, 6, 0, 1, 2, 5, 5, 4, 3, 4, 3], [10, 12, 0, 1, 2, 3, 4, 5, 6, 7, 8, 9, 10, 11, 12, 7, 6, 0, 1, 2, 5, 5, 4, 3, 4, 3, 9, 11, 0, 1, 2, 3, 4, 5, 6, 7, 8, 9, 11, 7, 6, 0, 1, 2, 5, 5, 4, 3, 4, 3, 8, 6, 0, 1, 2, 3, 4, 5, 6, 7, 8, 7, 6, 0, 1, 2, 5, 5, 4, 3, 4, 3, 0, 1, 2, 5, 5, 4, 3, 4, 3, 3, 4, 3, 0, 1, 2, 5, 5, 4, 3, 4, 3, 6, 0, 1, 2, 5, 5, 4, 3, 4, 3, 7, 6, 0, 1, 2, 5, 5, 4, 3, 4, 3, 3, 4, 3, 0, 1, 2, 5, 5, 4, 3, 4, 3, 6, 0, 1, 2, 5, 5, 4, 3, 4, 3, 7, 6, 0, 1, 2, 5, 5, 4, 3, 4, 3, 7, 6, 0, 1, 2, 5, 5, 4, 3, 4, 3, 8, 6, 0, 1, 2, 3, 4, 5, 6, 7, 8, 7, 6, 0, 1, 2, 5, 5, 4, 3, 4, 3, 0, 1, 2, 5, 5, 4, 3, 4, 3, 3, 4, 3, 0, 1, 2, 5, 5, 4, 3, 4, 3, 6, 0, 1, 2, 5, 5, 4, 3, 4, 3, 7, 6, 0, 1, 2, 5, 5, 4, 3, 4, 3, 3, 4, 3, 0, 1, 2, 5, 5, 4, 3, 4, 3, 6, 0, 1, 2, 5, 5, 4, 3, 4, 3, 7, 6, 0, 1, 2, 5, 5, 4, 3, 4, 3, 7, 6, 0, 1, 2, 5, 5, 4, 3, 4, 3, 7, 6, 0, 1, 2, 5, 5, 4, 3, 4, 3, 8, 6, 0, 1, 2, 3, 4, 5, 6, 7, 8, 7, 6, 0, 1, 2, 5, 5, 4, 3, 4, 3, 0, 1, 2, 5, 5, 4, 3, 4, 3, 3, 4, 3, 0, 1, 2, 5, 5, 4, 3, 4, 3, 6, 0, 1, 2, 5, 5, 4, 3, 4, 3, 7, 6, 0, 1, 2, 5, 5, 4, 3, 4, 3, 9, 11, 0, 1, 2, 3, 4, 5, 6, 7, 8, 9, 11, 7, 6, 0, 1, 2, 5, 5, 4, 3, 4, 3, 8, 6, 0, 1, 2, 3, 4, 5, 6, 7, 8, 7, 6, 0, 1, 2, 5, 5, 4, 3, 4, 3, 0, 1, 2, 5, 5, 4, 3, 4, 3, 3, 4, 3, 0, 1, 2, 5, 5, 4, 3, 4, 3, 6, 0, 1, 2, 5, 5, 4, 3, 4, 3, 7, 6, 0, 1, 2, 5, 5, 4, 3, 4, 3, 3, 4, 3, 0, 1, 2, 5, 5, 4, 3, 4, 3, 6, 0, 1, 2, 5, 5, 4, 3, 4, 3, 7, 6, 0, 1, 2, 5, 5, 4, 3, 4, 3, 7, 6, 0, 1, 2, 5, 5, 4, 3, 4, 3, 8, 6, 0, 1, 2, 3, 4, 5, 6, 7, 8, 7, 6, 0, 1, 2, 5, 5, 4, 3, 4, 3, 0, 1, 2, 5, 5, 4, 3, 4, 3, 3, 4, 3, 0, 1, 2, 5, 5, 4, 3, 4, 3, 6, 0, 1, 2, 5, 5, 4, 3, 4, 3, 7, 6, 0, 1, 2, 5, 5, 4, 3, 4, 3]] r41_8)))))))))) (.seq (.seq (.reg [97, 98, 99, 100, 101, 102, 103] r41_18) (.cond (.t 104) (.seq (.reg [105] r41_19) .ret) .skip)) (.seq (.seq (.reg [106] r41_20) (.cond (.t 107) (.seq (.reg [108] r41_21) .ret) .skip)) (.seq (.reg [109, 110] r41_22) .ret))))))))))
theorem ck_41 : chkF C.P 54 pc_41 111 [.c 4 8 true, .t 5, .t 6] 2 = true := by kernel_rfl
attribute [go_sem] r41_0 r41_1 r41_2 r41_3 r41_4 r41_5 r41_6 r41_9 r41_10 r41_11 r41_12 r41_13 r41_14 r41_15 r41_16 r41_17 r41_7 r41_8 r41_18 r41_19 r41_20 r41_21 r41_22

def r44_0 := [oB 3 3 1,mo 4 (.nilown 3 (Proc.enc Proc.zero)) [.c (A.full [])]]
def r44_1 := [mo 5 (.nilown 3 (Proc.enc Proc.zero)) [.c (A.full [])]]
def r44_2 := [oV 7 0,oL 8 3 3,oC 9 109 [.t 7, .t 8],oI 10 0]
def r44_3 := [oP 11 .lss [.t 10, .t 9]]
def r44_4 := [oV 12 10,oV 6 12]
def r44_5 := [oV 13 5,oV 14 0,oV 15 6,mo 16 (.iaS 7 (Wait.enc Wait.zero)) [.t 14, .t 15],oA 17 0 16,oL 18 3 17,mo 19 (.bslice 3 (Proc.enc Proc.zero)) [.t 18],mo 20 (.append 3 24 (Proc.enc Proc.zero)) [.t 13, .t 19],oV 5 20]
def r44_6 := [oP 21 .add [.t 10, oK 1],oV 10 21]
def r44_7 := [oV 22 5,oV 4 22]
def pc_44 : PC := (.seq (.reg [] r44_0) (.seq (.reg [] r44_1) (.seq (.seq (.reg [7, 8] r44_2) (.block 0 (.loop (.seq (.reg [] r44_3) (.seq (.cond (.t 11) .skip (.exit 0)) (.seq (.block 1 (.seq (.reg [12] r44_4) (.reg [13, 14, 15, 16, 17, 18, 19, 20] r44_5))) (.reg [21] r44_6))))))) (.seq (.reg [22] r44_7) .ret))))
theorem ck_44 : chkF C.P 114 pc_44 23 [.t 4] 2 = true := by kernel_rfl
attribute [go_sem] r44_0 r44_1 r44_2 r44_3 r44_4 r44_5 r44_6 r44_7

def r45_0 := [oB 4 4 0,oB 6 3 2,oB 7 2 3,mo 8 .mv [oNi]]
def r45_1 := [oL 12 4 4,oV 13 1,oL 14 3 6,oL 15 2 7,oC 16 125 [.t 12, .t 13, .t 14, .t 15],mo 17 .not [.t 16],oV 18 17,oG 19 18 false (.load 4 true) [.t 4],oG 20 18 false .mv [.t 1],oG 21 18 false (.load 3 true) [.t 6],oG 22 18 false (.load 2 true) [.t 7],oG 23 18 false (.call 71) [.t 19, .t 20, .t 21, .t 22],
 mo 24 .pick [.t 18, oTr, .t 23]]
def r45_2 := [mo 8 .mv [oNi]]
def r45_3 := [mo 9 (.nilown 3 (Proc.enc Proc.zero)) [.c (A.full [])]]
def r45_4 := [oV 25 1,mo 26 .len [.t 25],oI 27 0]
def r45_5 := [oP 28 .lss [.t 27, .t 26]]
def r45_6 := [mo 29 (.iaS 5 (Hold.enc Hold.zero)) [.t 25, .t 27],oL 30 5 29,mo 11 (.alloc 5 (Hold.enc Hold.zero)) [],oS 5 11 30]
def r45_7 := [oA 31 0 11,oL 32 3 31,oL 33 3 6,mo 34 (.eqa false [.i .i64, .i .i64, .i .i64]) [.t 32, .t 33]]
def r45_8 := [oA 35 1 4,oM 36 1 35,oP 37 .eql [.t 36, oK 1],oV 38 37,oG 39 38 true (.load 4 true) [.t 4],oG 40 38 true (.faddr 3) [.t 11],oG 41 38 true (.load 2 true) [.t 40],oG 42 38 true (.load 2 true) [.t 7],oG 43 38 true (.bslice 2 (Amount.enc Amount.zero)) [.t 41, .t 42],oG 44 38 true (.call 120) [.t 39, .t 43],
 mo 45 .pick [.t 38, .t 44, oFa]]
def r45_9 := [oV 46 9,oA 47 0 11,oL 48 3 47,mo 49 (.bslice 3 (Proc.enc Proc.zero)) [.t 48],mo 50 (.append 3 24 (Proc.enc Proc.zero)) [.t 46, .t 49],oV 9 50]
def r45_10 := [oP 51 .add [.t 27, oK 1],oV 27 51]
def r45_11 := [oV 52 9,oV 8 52]
def pc_45 : PC := (.seq (.reg [] r45_0) (.seq (.seq (.reg [12, 13, 14, 15, 16, 17, 18, 19, 20, 21, 22, 23] r45_1) (.cond (.t 24) (.seq (.reg [] r45_2) .ret) .skip)) (.seq (.reg [] r45_3) (.seq (.seq (.reg [] r45_4) (.block 0 (.loop (.seq (.reg [] r45_5) (.seq (.cond (.t 28) .skip (.exit 0)) (.seq (.block 1 (.seq (.reg [29, 30] r45_6) (.seq (.seq (.reg [31, 32, 33] r45_7) (.cond (.t 34) (.exit 1) .skip)) (.seq (.seq (.reg [35, 36, 37, 38, 39, 40, 41, 42, 43, 44] r45_8) (.cond (.t 45) (.exit 1) .skip)) (.reg [46, 47, 48, 49, 50] r45_9))))) (.reg [51] r45_10))))))) (.seq (.reg [52] r45_11) .ret)))))
theorem ck_45 : chkF C.P 115 pc_45 53 [.t 8] 4 = true := by kernel_rfl
attribute [go_sem] r45_0 r45_1 r45_2 r45_3 r45_4 r45_5 r45_6 r45_7 r45_8 r45_9 r45_10 r45_11

def r46_0 := [oB 2 8 0,oB 3 3 1,mo 4 .mv [oNi]]
def r46_1 := [oL 9 8 2,oL 10 3 3,oC 11 57 [.t 9, .t 10],oV 8 11,oE 12 0 8,oE 13 1 8,mo 5 (.alloc 2 (Amount.enc Amount.zero)) [],oS 2 5 12,oV 6 13]
def r46_2 := [oV 14 6,mo 15 .not [.t 14],oV 16 15,oG 17 16 false (.load 8 true) [.t 2],oG 18 16 false (.call 25) [.t 17],oG 19 16 false .not [.t 18],mo 20 .pick [.t 16, oTr, .t 19]]
def r46_3 := [mo 4 .mv [oNi]]
def r46_4 := [oL 21 8 2,oC 22 100 [.t 21],oL 23 3 3,mo 24 (.callm 114) [.t 22, .t 23],oV 7 24]
def r46_5 := [oV 25 7,oA 26 0 2,oL 27 4 26,oA 28 4 2,oM 29 1 28,oL 30 3 3,oL 31 2 5,oC 32 115 [.t 27, .t 29, .t 30, .t 31],mo 33 (.append 3 24 (Proc.enc Proc.zero)) [.t 25, .t 32],oV 7 33]
def r46_6 := [oV 34 7,oC 35 101 [.t 34],oV 4 35]
def pc_46 : PC := (.seq (.reg [] r46_0) (.seq (.reg [8, 9, 10, 11, 12, 13] r46_1) (.seq (.seq (.reg [14, 15, 16, 17, 18, 19] r46_2) (.cond (.t 20) (.seq (.reg [] r46_3) .ret) .skip)) (.seq (.regm [21, 22, 23, 24] [[], [0], [], [1, 2, 1, 0, 0], [3, 3, 0, 1, 2, 3, 1, 2, 1, 0, 0, 1, 2, 1, 0, 0, 0, 1, 2, 1, 0, 0]] r46_4) (.seq (.reg [25, 26, 27, 28, 29, 30, 31, 32, 33] r46_5) (.seq (.reg [34, 35] r46_6) .ret))))))
theorem ck_46 : chkF C.P 58 pc_46 36 [.t 4] 2 = true := by kernel_rfl
attribute [go_sem] r46_0 r46_1 r46_2 r46_3 r46_4 r46_5 r46_6

def r49_0 := [mo 2 .mv [oNi]]
def r49_1 := [mo 3 (.nilown 3 (Proc.enc Proc.zero)) [.c (A.full [])]]
def r49_2 := [oV 6 0,mo 7 .len [.t 6],oI 8 0]
def r49_3 := [oP 9 .lss [.t 8, .t 7]]
def r49_4 := [mo 10 (.iaS 5 (Hold.enc Hold.zero)) [.t 6, .t 8],oL 11 5 10,mo 5 (.alloc 5 (Hold.enc Hold.zero)) [],oS 5 5 11]
def r49_5 := [oV 12 3,oA 13 0 5,oL 14 3 13,mo 15 (.bslice 3 (Proc.enc Proc.zero)) [.t 14],mo 16 (.append 3 24 (Proc.enc Proc.zero)) [.t 12, .t 15],oV 3 16]
def r49_6 := [oP 17 .add [.t 8, oK 1],oV 8 17]
def r49_7 := [oV 18 3,oV 2 18]
def pc_49 : PC := (.seq (.reg [] r49_0) (.seq (.reg [] r49_1) (.seq (.seq (.reg [] r49_2) (.block 0 (.loop (.seq (.reg [] r49_3) (.seq (.cond (.t 9) .skip (.exit 0)) (.seq (.block 1 (.seq (.reg [10, 11] r49_4) (.reg [12, 13, 14, 15, 16] r49_5))) (.reg [17] r49_6))))))) (.seq (.reg [18] r49_7) .ret))))
theorem ck_49 : chkF C.P 102 pc_49 19 [.t 2] 1 = true := by kernel_rfl
attribute [go_sem] r49_0 r49_1 r49_2 r49_3 r49_4 r49_5 r49_6 r49_7

def r4a_0 := [oB 3 3 1,mo 4 .mv [oNi]]
def r4a_1 := [mo 5 (.nilown 3 (Proc.enc Proc.zero)) [.c (A.full [])]]
def r4a_2 := [oV 7 0,oL 8 3 3,oC 9 109 [.t 7, .t 8],oI 10 0]
def r4a_3 := [oP 11 .lss [.t 10, .t 9]]
def r4a_4 := [oV 12 10,oV 6 12]
def r4a_5 := [oV 13 5,oV 14 0,oV 15 6,mo 16 (.iaS 7 (Wait.enc Wait.zero)) [.t 14, .t 15],oA 17 0 16,oL 18 3 17,mo 19 (.bslice 3 (Proc.enc Proc.zero)) [.t 18],mo 20 (.append 3 24 (Proc.enc Proc.zero)) [.t 13, .t 19],oV 5 20]
def r4a_6 := [oP 21 .add [.t 10, oK 1],oV 10 21]
def r4a_7 := [oV 22 5,oV 4 22]
def pc_4a : PC := (.seq (.reg [] r4a_0) (.seq (.reg [] r4a_1) (.seq (.seq (.reg [7, 8] r4a_2) (.block 0 (.loop (.seq (.reg [] r4a_3) (.seq (.cond (.t 11) .skip (.exit 0)) (.seq (.block 1 (.seq (.reg [12] r4a_4) (.reg [13, 14, 15, 16, 17, 18, 19, 20] r4a_5))) (.reg [21] r4a_6))))))) (.seq (.reg [22] r4a_7) .ret))))
theorem ck_4a : chkF C.P 114 pc_4a 23 [.t 4] 2 = true := by kernel_rfl
attribute [go_sem] r4a_0 r4a_1 r4a_2 r4a_3 r4a_4 r4a_5 r4a_6 r4a_7
end Ab
end Go.Proofs.YtdflfohpemfeiaaGreatDoor
