import Derived.Test.YtebopmkhhppfaaaGreatDoorDec
import Derived.Test.YtebopmkhhppfaaaGreatDoorProg
import Derived.KernelRfl
namespace Go.Proofs.YtebopmkhhppfaaaGreatDoor
namespace Ab
def zbh9:Arr (Arr Bool 5) 5:=⟨[⟨[true,true,true,true,false],rfl⟩,⟨[true,true,false,false,false],rfl⟩,⟨[true,false,true,false,false],rfl⟩,⟨[true,false,false,false,false],rfl⟩,⟨[false,false,false,false,false],rfl⟩],rfl⟩
noncomputable def C:Cx:=⟨Tryz.prog,[(0,Arr.enc (Arr.enc eB) zbh9)]⟩
@[go_sem] theorem C_G:C.G=[(0,Arr.enc (Arr.enc eB) zbh9)]:=rfl
theorem ze5:C.P.follows .mixedOrders=true:=by kernel_rfl
def r0_0:=[mo 2 .mv [.c (A.int .u64 0)],oI 3 0,oI 4 0]
def r0_1:=[mo 5 .mv [.c (A.int .u64 0)]]
def r0_2:=[oI 8 0]
def r0_3:=[oP 9 .lss [.t 8,oK 10]]
def r0_4:=[oV 10 8,oV 6 10]
def r0_5:=[oV 11 6,oV 12 0,mo 13 .len [.t 12],oP 14 .geq [.t 11,.t 13]]
def r0_6:=[mo 2 .mv [.c (A.int .u64 0)],oI 3 0,oI 4 5]
def r0_7:=[oV 15 0,oV 16 6,mo 17 (.iaS 1 [A.int .u8 0]) [.t 15,.t 16],oM 18 1 17,oV 7 18]
def r0_8:=[oV 19 6,oP 20 .eql [.t 19,oK 9],oV 21 20,oG 22 21 true .mv [.t 7],oG 23 21 true (.bin .gtr) [.t 22,.c (A.int .u8 1)],mo 24 .pick [.t 21,.t 23,oFa]]
def r0_9:=[mo 2 .mv [.c (A.int .u64 0)],oI 3 0,oI 4 6]
def zcC2:=[oV 25 5,oV 26 7,oP 27 .and [.t 26,.c (A.int .u8 127)],mo 28 (.conv .u64) [.t 27],oV 29 6,oP 30 .mul [oK 7,.t 29],oP 31 .shl [.t 28,.t 30],oP 32 .or [.t 25,.t 31],oV 5 32]
def zcC3:=[oV 33 7,oP 34 .and [.t 33,.c (A.int .u8 128)],oP 35 .neq [.t 34,.c (A.int .u8 0)]]
def zcC4:=[oV 36 7,oP 37 .eql [.t 36,.c (A.int .u8 0)],oV 38 37,oG 39 38 true .mv [.t 6],oG 40 38 true (.bin .gtr) [.t 39,oK 0],mo 41 .pick [.t 38,.t 40,oFa]]
def zcC5:=[mo 2 .mv [.c (A.int .u64 0)],oI 3 0,oI 4 6]
def zcC6:=[oV 42 5,oV 43 6,oP 44 .add [.t 43,oK 1],oV 2 42,oV 3 44,oI 4 0]
def zcC7:=[oP 45 .add [.t 8,oK 1],oV 8 45]
def zcC8:=[mo 2 .mv [.c (A.int .u64 0)],oI 3 0,oI 4 6]
def pc_0:PC:=(.seq (.reg [] r0_0) (.seq (.reg [] r0_1) (.seq (.seq (.reg [] r0_2) (.block 0 (.loop (.seq (.reg [] r0_3) (.seq (.cond (.t 9) .skip (.exit 0)) (.seq (.block 1 (.seq (.reg [10] r0_4) (.seq (.seq (.reg [11,12,13] r0_5) (.cond (.t 14) (.seq (.reg [] r0_6) .ret) .skip)) (.seq (.reg [15,16,17,18] r0_7) (.seq (.seq (.reg [19,20,21,22,23] r0_8) (.cond (.t 24) (.seq (.reg [] r0_9) .ret) .skip)) (.seq (.reg [25,26,27,28,29,30,31,32] zcC2) (.seq (.seq (.reg [33,34] zcC3) (.cond (.t 35) (.exit 1) .skip)) (.seq (.seq (.reg [36,37,38,39,40] zcC4) (.cond (.t 41) (.seq (.reg [] zcC5) .ret) .skip)) (.seq (.reg [42,43,44] zcC6) .ret))))))))) (.reg [45] zcC7))))))) (.seq (.reg [] zcC8) .ret))))
theorem ck_0:chkF C.P 75 pc_0 46 [.t 2,.t 3,.t 4] 1=true:=by kernel_rfl
attribute [go_sem] r0_0 r0_1 r0_2 r0_3 r0_4 r0_5 r0_6 r0_7 r0_8 r0_9 zcC2 zcC3 zcC4 zcC5 zcC6 zcC7 zcC8
def r1_0:=[oI 6 0]
def r1_1:=[oV 10 0,mo 11 .nilck [.t 10],oA 12 1 11,oM 13 1 12,oP 14 .neq [.t 13,oK 0]]
def r1_2:=[oI 6 0]
def r1_3:=[oV 16 0,mo 17 .nilck [.t 16],oA 18 0 17,oM 19 1 18,oC 20 75 [.t 19],oV 15 20,oE 21 0 15,oE 22 1 15,oE 23 2 15,oV 7 21,oV 8 22,oV 9 23]
def r1_4:=[oV 24 9,oP 25 .eql [.t 24,oK 0],oV 26 25,oG 27 26 true .mv [.t 7],oG 28 26 true .mv [.t 1],oG 29 26 true (.conv .u64) [.t 28],oG 30 26 true (.bin .gtr) [.t 27,.t 29],mo 31 .pick [.t 26,.t 30,oFa]]
def r1_5:=[oV 32 2,oV 9 32]
def r1_6:=[oV 33 9,oP 34 .neq [.t 33,oK 0]]
def r1_7:=[oV 35 0,oV 36 9,mo 37 .nilck [.t 35],oA 38 1 37,oS 1 38 36]
def r1_8:=[oI 6 0]
def r1_9:=[oV 39 0,oV 40 0,mo 41 .nilck [.t 40],oA 42 0 41,oM 43 1 42,oV 44 8,mo 45 (.slc 1 true false false) [.t 43,.t 44],mo 46 .nilck [.t 39],oA 47 0 46,oS 1 47 45]
def zcC9:=[oV 48 7,mo 49 (.conv .i64) [.t 48],oV 6 49]
def pc_1:PC:=(.seq (.reg [] r1_0) (.seq (.seq (.reg [10,11,12,13] r1_1) (.cond (.t 14) (.seq (.reg [] r1_2) .ret) .skip)) (.seq (.reg [15,16,17,18,19,20,21,22,23] r1_3) (.seq (.seq (.reg [24,25,26,27,28,29,30] r1_4) (.cond (.t 31) (.reg [32] r1_5) .skip)) (.seq (.seq (.reg [33] r1_6) (.cond (.t 34) (.seq (.reg [35,36,37,38] r1_7) (.seq (.reg [] r1_8) .ret)) .skip)) (.seq (.reg [39,40,41,42,43,44,45,46,47] r1_9) (.seq (.reg [48,49] zcC9) .ret)))))))
theorem ck_1:chkF C.P 41 pc_1 50 [.t 6] 3=true:=by kernel_rfl
attribute [go_sem] r1_0 r1_1 r1_2 r1_3 r1_4 r1_5 r1_6 r1_7 r1_8 r1_9 zcC9
def r2_0:=[oI 4 0]
def r2_1:=[oV 5 0,oV 6 1,mo 7 (.callm 41) [.t 5,.t 6,oK 4],oV 4 7]
def pc_2:PC:=(.seq (.reg [] r2_0) (.seq (.reg [5,6,7] r2_1) .ret))
theorem ck_2:chkF C.P 13 pc_2 8 [.t 4] 2=true:=by kernel_rfl
attribute [go_sem] r2_0 r2_1
def r3_0:=[mo 2 .mv [.c (A.str ⟨#[]⟩)],oI 3 0,oI 4 0]
def r3_1:=[oV 10 0,oC 11 75 [.t 10],oV 9 11,oE 12 0 9,oE 13 1 9,oE 14 2 9,oV 5 12,oV 6 13,oV 7 14]
def r3_2:=[oV 16 7,oP 17 .neq [.t 16,oK 0],oV 15 17]
def r3_3:=[oV 18 7,mo 2 .mv [.c (A.str ⟨#[]⟩)],oI 3 0,oV 4 18]
def r3_4:=[oV 20 5,oP 21 .gtr [.t 20,.c (A.int .u64 1024)],oV 19 21]
def r3_5:=[mo 2 .mv [.c (A.str ⟨#[]⟩)],oI 3 0,oI 4 3]
def r3_6:=[oV 23 0,mo 24 .len [.t 23],oV 25 6,oP 26 .sub [.t 24,.t 25],oV 27 5,mo 28 (.conv .i64) [.t 27],oP 29 .lss [.t 26,.t 28],oV 22 29]
def r3_7:=[mo 2 .mv [.c (A.str ⟨#[]⟩)],oI 3 0,oI 4 5]
def r3_8:=[oV 30 6,oV 31 5,mo 32 (.conv .i64) [.t 31],oP 33 .add [.t 30,.t 32],oV 8 33]
def r3_9:=[oV 34 0,oV 35 6,oV 36 8,mo 37 (.slc 1 true true false) [.t 34,.t 35,.t 36],mo 38 .cvS [.t 37],oV 39 8,oV 2 38,oV 3 39,oI 4 0]
def pc_3:PC:=(.seq (.reg [] r3_0) (.seq (.reg [9,10,11,12,13,14] r3_1) (.seq (.block 0 (.seq (.reg [16,17] r3_2) (.cond (.t 15) (.seq (.reg [18] r3_3) .ret) (.seq (.reg [20,21] r3_4) (.cond (.t 19) (.seq (.reg [] r3_5) .ret) (.seq (.reg [23,24,25,26,27,28,29] r3_6) (.cond (.t 22) (.seq (.reg [] r3_7) .ret) .skip))))))) (.seq (.reg [30,31,32,33] r3_8) (.seq (.reg [34,35,36,37,38,39] r3_9) .ret)))))
theorem ck_3:chkF C.P 76 pc_3 40 [.t 2,.t 3,.t 4] 1=true:=by kernel_rfl
attribute [go_sem] r3_0 r3_1 r3_2 r3_3 r3_4 r3_5 r3_6 r3_7 r3_8 r3_9
def r4_0:=[mo 2 .mv [.c (A.str ⟨#[]⟩)]]
def r4_1:=[oV 6 0,mo 7 .nilck [.t 6],oA 8 1 7,oM 9 1 8,oP 10 .neq [.t 9,oK 0]]
def r4_2:=[mo 2 .mv [.c (A.str ⟨#[]⟩)]]
def r4_3:=[oV 12 0,mo 13 .nilck [.t 12],oA 14 0 13,oM 15 1 14,oC 16 76 [.t 15],oV 11 16,oE 17 0 11,oE 18 1 11,oE 19 2 11,oV 3 17,oV 4 18,oV 5 19]
def r4_4:=[oV 20 5,oP 21 .neq [.t 20,oK 0]]
def r4_5:=[oV 22 0,oV 23 5,mo 24 .nilck [.t 22],oA 25 1 24,oS 1 25 23]
def r4_6:=[mo 2 .mv [.c (A.str ⟨#[]⟩)]]
def r4_7:=[oV 26 0,oV 27 0,mo 28 .nilck [.t 27],oA 29 0 28,oM 30 1 29,oV 31 4,mo 32 (.slc 1 true false false) [.t 30,.t 31],mo 33 .nilck [.t 26],oA 34 0 33,oS 1 34 32]
def r4_8:=[oV 35 3,oV 2 35]
def pc_4:PC:=(.seq (.reg [] r4_0) (.seq (.seq (.reg [6,7,8,9] r4_1) (.cond (.t 10) (.seq (.reg [] r4_2) .ret) .skip)) (.seq (.reg [11,12,13,14,15,16,17,18,19] r4_3) (.seq (.seq (.reg [20] r4_4) (.cond (.t 21) (.seq (.reg [22,23,24,25] r4_5) (.seq (.reg [] r4_6) .ret)) .skip)) (.seq (.reg [26,27,28,29,30,31,32,33,34] r4_7) (.seq (.reg [35] r4_8) .ret))))))
theorem ck_4:chkF C.P 42 pc_4 36 [.t 2] 1=true:=by kernel_rfl
attribute [go_sem] r4_0 r4_1 r4_2 r4_3 r4_4 r4_5 r4_6 r4_7 r4_8
def r5_0:=[oI 2 0]
def r5_1:=[oV 3 0,mo 4 (.callm 41) [.t 3,oK 1073741824,oK 16],oV 2 4]
def pc_5:PC:=(.seq (.reg [] r5_0) (.seq (.reg [3,4] r5_1) .ret))
theorem ck_5:chkF C.P 16 pc_5 5 [.t 2] 1=true:=by kernel_rfl
attribute [go_sem] r5_0 r5_1
def r6_0:=[mo 6 .mv [oFa]]
def r6_1:=[oV 7 0,oV 8 1,oP 9 .geq [.t 7,.t 8],oV 10 9,oG 11 10 true .mv [.t 0],oG 12 10 true .mv [.t 2],oG 13 10 true (.bin .leq) [.t 11,.t 12],mo 14 .pick [.t 10,.t 13,oFa],oV 6 14]
def pc_6:PC:=(.seq (.reg [] r6_0) (.seq (.reg [7,8,9,10,11,12,13,14] r6_1) .ret))
theorem ck_6:chkF C.P 78 pc_6 15 [.t 6] 3=true:=by kernel_rfl
attribute [go_sem] r6_0 r6_1
def r7_0:=[oB 1 3 0,mo 2 .mv [oFa]]
def r7_1:=[oA 3 0 1,oM 4 1 3,oC 5 78 [.t 4,oK 0,oK 3],oV 6 5,oG 7 6 true (.faddr 1) [.t 1],oG 8 6 true (.load 1 false) [.t 7],oG 9 6 true (.call 78) [.t 8,oK 1,oK 99],mo 10 .pick [.t 6,.t 9,oFa],oV 11 10,oG 12 11 true (.faddr 2) [.t 1],oG 13 11 true (.load 1 false) [.t 12],oG 14 11 true (.call 78) [.t 13,oK 1,oK 999],
 mo 15 .pick [.t 11,.t 14,oFa],oV 2 15]
def pc_7:PC:=(.seq (.reg [] r7_0) (.seq (.reg [3,4,5,6,7,8,9,10,11,12,13,14,15] r7_1) .ret))
theorem ck_7:chkF C.P 46 pc_7 16 [.t 2] 1=true:=by kernel_rfl
attribute [go_sem] r7_0 r7_1
def r8_0:=[mo 2 (.alloc 3 (Proc.enc Proc.zero)) [],oI 3 0,oI 4 0]
def r8_1:=[mo 5 (.alloc 3 (Arr.enc (eI .i64) (Arr.rep 3 0))) []]
def r8_2:=[oI 6 0]
def r8_3:=[oI 12 0]
def r8_4:=[oP 13 .lss [.t 12,oK 3]]
def r8_5:=[oV 14 12,oV 7 14]
def r8_6:=[oV 16 0,oV 17 6,mo 18 (.slc 1 true false false) [.t 16,.t 17],oC 19 75 [.t 18],oV 15 19,oE 20 0 15,oE 21 1 15,oE 22 2 15,oV 8 20,oV 9 21,oV 10 22]
def r8_7:=[oV 23 10,oP 24 .neq [.t 23,oK 0]]
def r8_8:=[mo 25 (.build (Proc.enc Proc.zero) []) [],oV 26 10,oS 3 2 25,oI 3 0,oV 4 26]
def r8_9:=[oV 27 6,oV 28 9,oP 29 .add [.t 27,.t 28],oV 6 29]
def zcD0:=[oV 30 7,oV 31 8,mo 32 .min [.t 31,.c (A.int .u64 1073741824)],mo 33 (.conv .i64) [.t 32],mo 34 (.iaA 3 1) [.t 5,.t 30],oS 1 34 33]
def zcD1:=[oP 35 .add [.t 12,oK 1],oV 12 35]
def zcD2:=[mo 36 (.iaA 3 1) [.t 5,oK 0],oM 37 1 36,mo 38 (.iaA 3 1) [.t 5,oK 1],oM 39 1 38,mo 40 (.iaA 3 1) [.t 5,oK 2],oM 41 1 40,mo 42 (.build (Proc.enc Proc.zero) [(0,1),(1,1),(2,1)]) [.t 37,.t 39,.t 41],mo 11 (.alloc 3 (Proc.enc Proc.zero)) [],oS 3 11 42]
def zcD3:=[oL 43 3 11,oC 44 46 [.t 43],mo 45 .not [.t 44]]
def zcD4:=[mo 46 (.build (Proc.enc Proc.zero) []) [],oS 3 2 46,oI 3 0,oI 4 2]
def zcD5:=[oL 47 3 11,oV 48 6,oS 3 2 47,oV 3 48,oI 4 0]
def pc_8:PC:=(.seq (.reg [] r8_0) (.seq (.reg [] r8_1) (.seq (.reg [] r8_2) (.seq (.seq (.reg [] r8_3) (.block 0 (.loop (.seq (.reg [] r8_4) (.seq (.cond (.t 13) .skip (.exit 0)) (.seq (.block 1 (.seq (.reg [14] r8_5) (.seq (.reg [15,16,17,18,19,20,21,22] r8_6) (.seq (.seq (.reg [23] r8_7) (.cond (.t 24) (.seq (.reg [25,26] r8_8) .ret) .skip)) (.seq (.reg [27,28,29] r8_9) (.reg [30,31,32,33,34] zcD0)))))) (.reg [35] zcD1))))))) (.seq (.reg [36,37,38,39,40,41,42] zcD2) (.seq (.seq (.reg [43,44] zcD3) (.cond (.t 45) (.seq (.reg [46] zcD4) .ret) .skip)) (.seq (.reg [47,48] zcD5) .ret)))))))
theorem ck_8:chkF C.P 44 pc_8 49 [.c 2 3 true,.t 3,.t 4] 1=true:=by kernel_rfl
attribute [go_sem] r8_0 r8_1 r8_2 r8_3 r8_4 r8_5 r8_6 r8_7 r8_8 r8_9 zcD0 zcD1 zcD2 zcD3 zcD4 zcD5
def r9_0:=[mo 2 (.alloc 3 (Proc.enc Proc.zero)) []]
def r9_1:=[oV 6 0,mo 7 .nilck [.t 6],oA 8 1 7,oM 9 1 8,oP 10 .neq [.t 9,oK 0]]
def r9_2:=[mo 11 (.build (Proc.enc Proc.zero) []) [],oS 3 2 11]
def r9_3:=[oV 13 0,mo 14 .nilck [.t 13],oA 15 0 14,oM 16 1 15,oC 17 44 [.t 16],oV 12 17,oE 18 0 12,oE 19 1 12,oE 20 2 12,mo 3 (.alloc 3 (Proc.enc Proc.zero)) [],oS 3 3 18,oV 4 19,oV 5 20]
def r9_4:=[oV 21 5,oP 22 .neq [.t 21,oK 0]]
def r9_5:=[oV 23 0,oV 24 5,mo 25 .nilck [.t 23],oA 26 1 25,oS 1 26 24]
def r9_6:=[mo 27 (.build (Proc.enc Proc.zero) []) [],oS 3 2 27]
def r9_7:=[oV 28 0,oV 29 0,mo 30 .nilck [.t 29],oA 31 0 30,oM 32 1 31,oV 33 4,mo 34 (.slc 1 true false false) [.t 32,.t 33],mo 35 .nilck [.t 28],oA 36 0 35,oS 1 36 34]
def r9_8:=[oL 37 3 3,oS 3 2 37]
def pc_9:PC:=(.seq (.reg [] r9_0) (.seq (.seq (.reg [6,7,8,9] r9_1) (.cond (.t 10) (.seq (.reg [11] r9_2) .ret) .skip)) (.seq (.reg [12,13,14,15,16,17,18,19,20] r9_3) (.seq (.seq (.reg [21] r9_4) (.cond (.t 22) (.seq (.reg [23,24,25,26] r9_5) (.seq (.reg [27] r9_6) .ret)) .skip)) (.seq (.reg [28,29,30,31,32,33,34,35,36] r9_7) (.seq (.reg [37] r9_8) .ret))))))
theorem ck_9:chkF C.P 15 pc_9 38 [.c 2 3 true] 1=true:=by kernel_rfl
attribute [go_sem] r9_0 r9_1 r9_2 r9_3 r9_4 r9_5 r9_6 r9_7 r9_8
def ra_0:=[mo 2 (.alloc 2 (Amount.enc Amount.zero)) []]
def ra_1:=[oV 4 0,mo 5 .nilck [.t 4],oA 6 0 5,mo 7 (.callm 16) [.t 6],oV 3 7]
def ra_2:=[oV 8 3,oV 9 0,mo 10 .nilck [.t 9],oA 11 0 10,mo 12 (.callm 16) [.t 11],mo 13 (.build (Amount.enc Amount.zero) [(0,1),(1,1)]) [.t 8,.t 12],oS 2 2 13]
def pc_a:PC:=(.seq (.reg [] ra_0) (.seq (.reg [4,5,6,7] ra_1) (.seq (.reg [8,9,10,11,12,13] ra_2) .ret)))
theorem ck_a:chkF C.P 43 pc_a 14 [.c 2 2 true] 1=true:=by kernel_rfl
attribute [go_sem] ra_0 ra_1 ra_2
def rb_0:=[mo 2 (.alloc 8 (Queue.enc Queue.zero)) []]
def rb_1:=[mo 3 (.alloc 8 [A.str (⟨#[]⟩),A.int .i64 0,A.int .i64 0,A.int .i64 0,A.full [],A.full [],A.full [],A.int .i64 0]) []]
def rb_2:=[oV 10 0,mo 11 .nilck [.t 10],oA 12 0 11,mo 13 (.callm 42) [.t 12],oA 14 0 3,oA 15 0 14,oS 1 15 13]
def rb_3:=[oV 16 0,mo 17 .nilck [.t 16],oA 18 0 17,mo 19 (.callm 16) [.t 18],oA 20 0 3,oA 21 1 20,oS 1 21 19]
def rb_4:=[oV 22 0,mo 23 .nilck [.t 22],oA 24 0 23,mo 25 (.callm 16) [.t 24],oA 26 0 3,oA 27 2 26,oS 1 27 25]
def rb_5:=[oV 28 0,mo 29 .nilck [.t 28],oA 30 0 29,mo 31 (.callm 16) [.t 30],oA 32 0 3,oA 33 3 32,oS 1 33 31]
def rb_6:=[oV 34 0,mo 35 .nilck [.t 34],oA 36 0 35,mo 37 (.callm 16) [.t 36],oA 38 7 3,oS 1 38 37]
def rb_7:=[oV 39 0,mo 40 .nilck [.t 39],oA 41 0 40,mo 42 (.callm 13) [.t 41,oK 8],oV 4 42]
def rb_8:=[oV 43 4,oP 44 .gtr [.t 43,oK 0],oV 45 44,oG 46 45 true .mv [.t 0],oG 47 45 true .nilck [.t 46],oG 48 45 true (.faddr 0) [.t 47],oG 49 45 true (.faddr 1) [.t 48],oG 50 45 true (.load 1 false) [.t 49],oG 51 45 true (.bin .eql) [.t 50,oK 0],mo 52 .pick [.t 45,.t 51,oFa]]
def zcD6:=[oV 55 0,mo 56 .nilck [.t 55],oA 57 0 56,mo 58 (.callm 15) [.t 57],mo 5 (.alloc 3 (Proc.enc Proc.zero)) [],oS 3 5 58]
def zcD7:=[oA 59 4 3,oM 60 1 59,oL 61 3 5,oV 62 0,mo 63 (.callm 43) [.t 62],mo 64 (.build (Hold.enc Hold.zero) [(0,3),(3,2)]) [.t 61,.t 63],mo 65 (.bslice 5 (Hold.enc Hold.zero)) [.t 64],mo 66 (.append 5 40 (Hold.enc Hold.zero)) [.t 60,.t 65],oA 67 4 3,oS 1 67 66]
def rb_9:=[oV 53 4,oP 54 .sub [.t 53,oK 1],oV 4 54]
def zcD8:=[oV 68 0,mo 69 .nilck [.t 68],oA 70 0 69,mo 71 (.callm 13) [.t 70,oK 8],oV 6 71]
def zcD9:=[oV 72 6,oP 73 .gtr [.t 72,oK 0],oV 74 73,oG 75 74 true .mv [.t 0],oG 76 74 true .nilck [.t 75],oG 77 74 true (.faddr 0) [.t 76],oG 78 74 true (.faddr 1) [.t 77],oG 79 74 true (.load 1 false) [.t 78],oG 80 74 true (.bin .eql) [.t 79,oK 0],mo 81 .pick [.t 74,.t 80,oFa]]
def zcE0:=[oV 84 0,mo 85 .nilck [.t 84],oA 86 0 85,mo 87 (.callm 15) [.t 86],mo 7 (.alloc 3 (Proc.enc Proc.zero)) [],oS 3 7 87]
def zcE1:=[oA 88 5 3,oM 89 1 88,oL 90 3 7,oV 91 0,mo 92 (.callm 43) [.t 91],mo 93 (.build (Wait.enc Wait.zero) [(0,3),(3,2)]) [.t 90,.t 92],mo 94 (.bslice 7 (Wait.enc Wait.zero)) [.t 93],mo 95 (.append 7 56 (Wait.enc Wait.zero)) [.t 89,.t 94],oA 96 5 3,oS 1 96 95]
def zcE2:=[oV 82 6,oP 83 .sub [.t 82,oK 1],oV 6 83]
def zcE3:=[oV 97 0,mo 98 .nilck [.t 97],oA 99 0 98,mo 100 (.callm 13) [.t 99,oK 8],oV 8 100]
def zcE4:=[oV 101 8,oP 102 .gtr [.t 101,oK 0],oV 103 102,oG 104 103 true .mv [.t 0],oG 105 103 true .nilck [.t 104],oG 106 103 true (.faddr 0) [.t 105],oG 107 103 true (.faddr 1) [.t 106],oG 108 103 true (.load 1 false) [.t 107],oG 109 103 true (.bin .eql) [.t 108,oK 0],mo 110 .pick [.t 103,.t 109,oFa]]
def zcE5:=[oV 113 0,mo 114 .nilck [.t 113],oA 115 0 114,mo 116 (.callm 15) [.t 115],mo 117 (.build (Wait.enc Wait.zero) [(0,3)]) [.t 116],mo 9 (.alloc 7 (Wait.enc Wait.zero)) [],oS 7 9 117]
def zcE6:=[oV 118 0,mo 119 (.callm 43) [.t 118],oA 120 3 9,oS 2 120 119]
def zcE7:=[oV 121 0,mo 122 .nilck [.t 121],oA 123 0 122,mo 124 (.callm 16) [.t 123],oA 125 5 9,oS 1 125 124]
def zcE8:=[oV 126 0,mo 127 .nilck [.t 126],oA 128 0 127,mo 129 (.callm 16) [.t 128],oA 130 6 9,oS 1 130 129]
def zcE9:=[oA 131 6 3,oM 132 1 131,oL 133 7 9,mo 134 (.bslice 7 (Wait.enc Wait.zero)) [.t 133],mo 135 (.append 7 56 (Wait.enc Wait.zero)) [.t 132,.t 134],oA 136 6 3,oS 1 136 135]
def zcF0:=[oV 111 8,oP 112 .sub [.t 111,oK 1],oV 8 112]
def zcF1:=[oL 137 8 3,oS 8 2 137]
def pc_b:PC:=(.seq (.reg [] rb_0) (.seq (.reg [] rb_1) (.seq (.reg [10,11,12,13,14,15] rb_2) (.seq (.reg [16,17,18,19,20,21] rb_3) (.seq (.reg [22,23,24,25,26,27] rb_4) (.seq (.reg [28,29,30,31,32,33] rb_5) (.seq (.reg [34,35,36,37,38] rb_6) (.seq (.seq (.reg [39,40,41,42] rb_7) (.block 0 (.loop (.seq (.seq (.reg [43,44,45,46,47,48,49,50,51] rb_8) (.cond (.t 52) .skip (.exit 0))) (.seq (.block 1 (.seq (.reg [55,56,57,58] zcD6) (.regm [59,60,61,62,63,64,65,66,67] [[],[0],[],[],[3],[2,4,3],[5,2,4,3],[1,6,4,0,5,2,4,3,3],[0,1,2,3,4,5,6,7,0,3,2,4,3,5,2,4,3,1,6,4,0,5,2,4,3,3],[8,7,7,0,1,2,3,4,5,6,7,0,1,2,3,4,5,6,7,0,3,2,4,3,5,2,4,3,1,6,4,0,5,2,4,3,3,1,6,4,0,5,2,4,3,3,1,6,4,0,5,2,4,3,3,0,3,2,4,3,5,2,4,3,1,6,4,0,5,2,4,3,3]] zcD7))) (.reg [53,54] rb_9)))))) (.seq (.seq (.reg [68,69,70,71] zcD8) (.block 2 (.loop (.seq (.seq (.reg [72,73,74,75,76,77,78,79,80] zcD9) (.cond (.t 81) .skip (.exit 2))) (.seq (.block 3 (.seq (.reg [84,85,86,87] zcE0) (.regm [88,89,90,91,92,93,94,95,96] [[],[0],[],[],[3],[2,4,3],[5,2,4,3],[1,6,4,0,5,2,4,3,3],[0,1,2,3,4,5,6,7,0,3,2,4,3,5,2,4,3,1,6,4,0,5,2,4,3,3],[8,7,7,0,1,2,3,4,5,6,7,0,1,2,3,4,5,6,7,0,3,2,4,3,5,2,4,3,1,6,4,0,5,2,4,3,3,1,6,4,0,5,2,4,3,3,1,6,4,0,5,2,4,3,3,0,3,2,4,3,5,2,4,3,1,6,4,0,5,2,4,3,3]] zcE1))) (.reg [82,83] zcE2)))))) (.seq (.seq (.reg [97,98,99,100] zcE3) (.block 4 (.loop (.seq (.seq (.reg [101,102,103,104,105,106,107,108,109] zcE4) (.cond (.t 110) .skip (.exit 4))) (.seq (.block 5 (.seq (.reg [113,114,115,116,117] zcE5) (.seq (.reg [118,119,120] zcE6) (.seq (.reg [121,122,123,124,125] zcE7) (.seq (.reg [126,127,128,129,130] zcE8) (.reg [131,132,133,134,135,136] zcE9)))))) (.reg [111,112] zcF0)))))) (.seq (.reg [137] zcF1) .ret)))))))))))
theorem ck_b:chkF C.P 14 pc_b 138 [.c 2 8 true] 1=true:=by kernel_rfl
attribute [go_sem] rb_0 rb_1 rb_2 rb_3 rb_4 rb_5 rb_6 rb_7 rb_8 zcD6 zcD7 rb_9 zcD8 zcD9 zcE0 zcE1 zcE2 zcE3 zcE4 zcE5 zcE6 zcE7 zcE8 zcE9 zcF0 zcF1
def rc_0:=[mo 4 (.alloc 5 (Expr.enc Expr.zero)) []]
def rc_1:=[mo 5 (.alloc 5 [A.int .i64 0,A.str (⟨#[]⟩),A.int .i64 0,A.int .i64 0,A.full []]) []]
def rc_2:=[oV 7 0,mo 8 .nilck [.t 7],oA 9 0 8,oA 10 1 9,oM 11 1 10,oP 12 .eql [.t 11,oK 0],oV 13 12,oG 14 13 true .mv [.t 1],oG 15 13 true (.bin .gtr) [.t 14,oK 4],mo 16 .pick [.t 13,.t 15,oFa]]
def rc_3:=[oV 17 0,mo 18 .nilck [.t 17],oA 19 0 18,oA 20 1 19,mz (.store 1) [.t 20,oK 4]]
def rc_4:=[oV 21 0,mo 22 .nilck [.t 21],oA 23 0 22,mo 24 (.callm 16) [.t 23],oA 25 0 5,oS 1 25 24]
def rc_5:=[oV 26 0,mo 27 .nilck [.t 26],oA 28 0 27,oA 29 1 28,oM 30 1 29,oP 31 .neq [.t 30,oK 0]]
def rc_6:=[oL 32 5 5,oS 5 4 32]
def rc_7:=[oA 33 0 5,oM 34 1 33,oP 35 .eql [.t 34,oK 0]]
def rc_8:=[oV 36 0,mo 37 .nilck [.t 36],oA 38 0 37,mo 39 (.callm 42) [.t 38],oA 40 1 5,oA 41 0 40,oS 1 41 39]
def rc_9:=[oV 42 0,mo 43 (.callm 43) [.t 42],oA 44 1 5,oA 45 1 44,oS 2 45 43]
def zcF2:=[oL 46 5 5,oS 5 4 46]
def zcF3:=[oV 47 0,mo 48 .nilck [.t 47],oA 49 0 48,mo 50 (.callm 13) [.t 49,oK 24],oV 6 50]
def zcF4:=[oV 51 6,oP 52 .gtr [.t 51,oK 0],oV 53 52,oG 54 53 true .mv [.t 0],oG 55 53 true .nilck [.t 54],oG 56 53 true (.faddr 0) [.t 55],oG 57 53 true (.faddr 1) [.t 56],oG 58 53 true (.load 1 false) [.t 57],oG 59 53 true (.bin .eql) [.t 58,oK 0],mo 60 .pick [.t 53,.t 59,oFa]]
def zcF5:=[oA 63 4 5,oM 64 1 63,oV 65 0,oV 66 1,oP 67 .add [.t 66,oK 1],mo 68 (.callm 17) [.t 65,.t 67],mo 69 (.bslice 5 (Expr.enc Expr.zero)) [.t 68],mo 70 (.append 5 64 (Expr.enc Expr.zero)) [.t 64,.t 69],oA 71 4 5,oS 1 71 70]
def zcF6:=[oV 61 6,oP 62 .sub [.t 61,oK 1],oV 6 62]
def zcF7:=[oL 72 5 5,oS 5 4 72]
def pc_c:PC:=(.seq (.reg [] rc_0) (.seq (.reg [] rc_1) (.seq (.seq (.reg [7,8,9,10,11,12,13,14,15] rc_2) (.cond (.t 16) (.reg [17,18,19,20] rc_3) .skip)) (.seq (.reg [21,22,23,24,25] rc_4) (.seq (.seq (.reg [26,27,28,29,30] rc_5) (.cond (.t 31) (.seq (.reg [32] rc_6) .ret) .skip)) (.seq (.seq (.reg [33,34] rc_7) (.cond (.t 35) (.seq (.reg [36,37,38,39,40,41] rc_8) (.seq (.reg [42,43,44,45] rc_9) (.seq (.reg [46] zcF2) .ret))) .skip)) (.seq (.seq (.reg [47,48,49,50] zcF3) (.block 0 (.loop (.seq (.seq (.reg [51,52,53,54,55,56,57,58,59] zcF4) (.cond (.t 60) .skip (.exit 0))) (.seq (.block 1 (.regm [63,64,65,66,67,68,69,70,71] [[],[0],[],[],[3],[2,4,3],[5,2,4,3],[1,6,5,0,5,2,4,3,2,4,3],[0,1,2,3,4,5,6,7,0,3,2,4,3,5,2,4,3,1,6,5,0,5,2,4,3,2,4,3],[8,7,7,0,1,2,3,4,5,6,7,0,1,2,3,4,5,6,7,0,3,2,4,3,5,2,4,3,1,6,5,0,5,2,4,3,2,4,3,1,6,5,0,5,2,4,3,2,4,3,1,6,5,0,5,2,4,3,2,4,3,0,3,2,4,3,5,2,4,3,1,6,5,0,5,2,4,3,2,4,3]] zcF5)) (.reg [61,62] zcF6)))))) (.seq (.reg [72] zcF7) .ret))))))))
theorem ck_c:chkF C.P 17 pc_c 73 [.c 4 5 true] 2=true:=by kernel_rfl
attribute [go_sem] rc_0 rc_1 rc_2 rc_3 rc_4 rc_5 rc_6 rc_7 rc_8 rc_9 zcF2 zcF3 zcF4 zcF5 zcF6 zcF7
def rd_0:=[mo 2 .mv [oFa]]
def rd_1:=[oV 3 0]
def rd_2:=[oP 5 .eql [.t 3,.c (A.str ⟨#[97,108,108]⟩)],oV 4 5]
def rd_3:=[oP 6 .eql [.t 3,.c (A.str ⟨#[97,110,121]⟩)],oV 4 6]
def rd_4:=[oP 7 .eql [.t 3,.c (A.str ⟨#[111,102]⟩)],oV 4 7]
def rd_5:=[oP 8 .eql [.t 3,.c (A.str ⟨#[112,114,105,111]⟩)],oV 4 8]
def rd_6:=[oP 9 .eql [.t 3,.c (A.str ⟨#[108,105,109,105,116]⟩)],oV 4 9]
def rd_7:=[mo 2 .mv [oTr]]
def rd_8:=[mo 2 .mv [oFa]]
def pc_d:PC:=(.seq (.reg [] rd_0) (.seq (.seq (.reg [] rd_1) (.block 0 (.seq (.seq (.reg [5] rd_2) (.cond (.t 4) .skip (.seq (.reg [6] rd_3) (.cond (.t 4) .skip (.seq (.reg [7] rd_4) (.cond (.t 4) .skip (.seq (.reg [8] rd_5) (.cond (.t 4) .skip (.reg [9] rd_6))))))))) (.cond (.t 4) (.seq (.reg [] rd_7) .ret) .skip)))) (.seq (.reg [] rd_8) .ret)))
theorem ck_d:chkF C.P 166 pc_d 10 [.t 2] 1=true:=by kernel_rfl
attribute [go_sem] rd_0 rd_1 rd_2 rd_3 rd_4 rd_5 rd_6 rd_7 rd_8
def re_0:=[mo 2 .mv [oFa]]
def re_1:=[oV 7 0,mo 8 .lenS [.t 7],oP 9 .lss [.t 8,oK 1],oV 10 9,oG 11 10 false .mv [.t 0],oG 12 10 false .lenS [.t 11],oG 13 10 false (.bin .gtr) [.t 12,oK 12],mo 14 .pick [.t 10,oTr,.t 13],oV 15 14,oG 16 15 false .mv [.t 0],oG 17 15 false (.call 166) [.t 16],mo 18 .pick [.t 15,oTr,.t 17]]
def re_2:=[mo 2 .mv [oFa]]
def re_3:=[oV 19 0,mo 20 .lenS [.t 19],oI 21 0]
def re_4:=[oP 22 .lss [.t 21,.t 20]]
def re_5:=[oV 23 21,oV 3 23]
def re_6:=[oV 24 0,oV 25 3,mo 26 .idxS [.t 24,.t 25],oV 4 26]
def re_7:=[oV 27 4,oP 28 .geq [.t 27,.c (A.int .u8 97)],oV 29 28,oG 30 29 true .mv [.t 4],oG 31 29 true (.bin .leq) [.t 30,.c (A.int .u8 122)],mo 32 .pick [.t 29,.t 31,oFa],oV 5 32]
def re_8:=[oV 33 4,oP 34 .geq [.t 33,.c (A.int .u8 48)],oV 35 34,oG 36 35 true .mv [.t 4],oG 37 35 true (.bin .leq) [.t 36,.c (A.int .u8 57)],mo 38 .pick [.t 35,.t 37,oFa],oV 39 38,oG 40 39 false .mv [.t 4],oG 41 39 false (.bin .eql) [.t 40,.c (A.int .u8 95)],mo 42 .pick [.t 39,oTr,.t 41],oV 43 42,oG 44 43 false .mv [.t 4],
 oG 45 43 false (.bin .eql) [.t 44,.c (A.int .u8 45)],mo 46 .pick [.t 43,oTr,.t 45],oV 6 46]
def re_9:=[oV 47 5,mo 48 .not [.t 47],oV 49 48,oG 50 49 true .mv [.t 3],oG 51 49 true (.bin .eql) [.t 50,oK 0],oG 52 49 true .mv [.t 51],oG 53 52 false .mv [.t 6],oG 54 52 false .not [.t 53],oG 55 49 true .pick [.t 52,oTr,.t 54],mo 56 .pick [.t 49,.t 55,oFa]]
def zcF8:=[mo 2 .mv [oFa]]
def zcF9:=[oP 57 .add [.t 21,oK 1],oV 21 57]
def zcG0:=[mo 2 .mv [oTr]]
def pc_e:PC:=(.seq (.reg [] re_0) (.seq (.seq (.reg [7,8,9,10,11,12,13,14,15,16,17] re_1) (.cond (.t 18) (.seq (.reg [] re_2) .ret) .skip)) (.seq (.seq (.reg [19] re_3) (.block 0 (.loop (.seq (.reg [] re_4) (.seq (.cond (.t 22) .skip (.exit 0)) (.seq (.block 1 (.seq (.reg [23] re_5) (.seq (.reg [24,25,26] re_6) (.seq (.reg [27,28,29,30,31,32] re_7) (.seq (.reg [33,34,35,36,37,38,39,40,41,42,43,44,45,46] re_8) (.seq (.reg [47,48,49,50,51,52,53,54,55] re_9) (.cond (.t 56) (.seq (.reg [] zcF8) .ret) .skip))))))) (.reg [57] zcF9))))))) (.seq (.reg [] zcG0) .ret))))
theorem ck_e:chkF C.P 130 pc_e 58 [.t 2] 1=true:=by kernel_rfl
attribute [go_sem] re_0 re_1 re_2 re_3 re_4 re_5 re_6 re_7 re_8 re_9 zcF8 zcF9 zcG0
def rf_0:=[oB 1 4 0,mo 2 .mv [oFa]]
def rf_1:=[oA 3 1 1,oM 4 1 3]
def rf_2:=[oP 6 .eql [.t 4,oK 1],oV 5 6]
def rf_3:=[oA 7 2 1,oM 8 1 7,oP 9 .eql [.t 8,oK 1],oV 2 9]
def rf_4:=[oP 11 .eql [.t 4,oK 2],oV 10 11]
def rf_5:=[oA 12 2 1,oM 13 1 12,oP 14 .geq [.t 13,oK 1],oV 15 14,oG 16 15 true (.faddr 2) [.t 1],oG 17 15 true (.load 1 false) [.t 16],oG 18 15 true (.bin .leq) [.t 17,oK 8],mo 19 .pick [.t 15,.t 18,oFa],oV 2 19]
def rf_6:=[mo 2 .mv [oFa]]
def pc_f:PC:=(.seq (.reg [] rf_0) (.seq (.seq (.reg [3] rf_1) (.block 0 (.seq (.reg [6] rf_2) (.cond (.t 5) (.seq (.reg [7,8,9] rf_3) .ret) (.seq (.reg [11] rf_4) (.cond (.t 10) (.seq (.reg [12,13,14,15,16,17,18,19] rf_5) .ret) .skip)))))) (.seq (.reg [] rf_6) .ret)))
theorem ck_f:chkF C.P 159 pc_f 20 [.t 2] 1=true:=by kernel_rfl
attribute [go_sem] rf_0 rf_1 rf_2 rf_3 rf_4 rf_5 rf_6
def rg_0:=[oB 1 4 0,mo 2 .mv [oFa]]
def rg_1:=[oA 3 0 1,oM 4 1 3,oC 5 130 [.t 4],oV 6 5,oG 7 6 true (.load 4 true) [.t 1],oG 8 6 true (.call 159) [.t 7],mo 9 .pick [.t 6,.t 8,oFa],oV 10 9,oG 11 10 true (.faddr 3) [.t 1],oG 12 10 true (.load 1 false) [.t 11],oG 13 10 true (.bin .geq) [.t 12,oK 0],mo 14 .pick [.t 10,.t 13,oFa],oV 15 14,
 oG 16 15 true (.faddr 3) [.t 1],oG 17 15 true (.load 1 false) [.t 16],oG 18 15 true (.bin .lss) [.t 17,oK 4],mo 19 .pick [.t 15,.t 18,oFa],oV 2 19]
def pc_g:PC:=(.seq (.reg [] rg_0) (.seq (.reg [3,4,5,6,7,8,9,10,11,12,13,14,15,16,17,18,19] rg_1) .ret))
theorem ck_g:chkF C.P 124 pc_g 20 [.t 2] 1=true:=by kernel_rfl
attribute [go_sem] rg_0 rg_1
def rh_0:=[mo 2 .mv [oFa]]
def rh_1:=[oV 3 0,oP 4 .geq [.t 3,oK 1],oV 5 4,oG 6 5 true .mv [.t 0],oG 7 5 true (.bin .leq) [.t 6,oK 5],mo 8 .pick [.t 5,.t 7,oFa],oV 2 8]
def pc_h:PC:=(.seq (.reg [] rh_0) (.seq (.reg [3,4,5,6,7,8] rh_1) .ret))
theorem ck_h:chkF C.P 167 pc_h 9 [.t 2] 1=true:=by kernel_rfl
attribute [go_sem] rh_0 rh_1
def ri_0:=[oB 2 4 0,oB 3 2 1,mo 4 .mv [oFa]]
def ri_1:=[oL 5 4 2,oC 6 159 [.t 5],mo 7 .not [.t 6]]
def ri_2:=[mo 4 .mv [oFa]]
def ri_3:=[oA 8 1 2,oM 9 1 8,oP 10 .eql [.t 9,oK 1]]
def ri_4:=[oA 11 0 3,oM 12 1 11,oC 13 167 [.t 12],oV 14 13,oG 15 14 true (.faddr 1) [.t 3],oG 16 14 true (.load 1 false) [.t 15],oG 17 14 true (.bin .eql) [.t 16,oK 0],mo 18 .pick [.t 14,.t 17,oFa],oV 4 18]
def ri_5:=[oA 19 0 3,oM 20 1 19,oP 21 .eql [.t 20,oK 0],oV 22 21,oG 23 22 true (.faddr 1) [.t 3],oG 24 22 true (.load 1 false) [.t 23],oG 25 22 true (.bin .geq) [.t 24,oK 1],mo 26 .pick [.t 22,.t 25,oFa],oV 27 26,oG 28 27 true (.faddr 1) [.t 3],oG 29 27 true (.load 1 false) [.t 28],oG 30 27 true (.faddr 2) [.t 2],
 oG 31 27 true (.load 1 false) [.t 30],oG 32 27 true (.bin .leq) [.t 29,.t 31],mo 33 .pick [.t 27,.t 32,oFa],oV 4 33]
def pc_i:PC:=(.seq (.reg [] ri_0) (.seq (.seq (.reg [5,6] ri_1) (.cond (.t 7) (.seq (.reg [] ri_2) .ret) .skip)) (.seq (.seq (.reg [8,9] ri_3) (.cond (.t 10) (.seq (.reg [11,12,13,14,15,16,17,18] ri_4) .ret) .skip)) (.seq (.reg [19,20,21,22,23,24,25,26,27,28,29,30,31,32,33] ri_5) .ret))))
theorem ck_i:chkF C.P 131 pc_i 34 [.t 4] 2=true:=by kernel_rfl
attribute [go_sem] ri_0 ri_1 ri_2 ri_3 ri_4 ri_5
def rj_0:=[oB 2 3 0,oB 3 3 1,oI 4 0]
def rj_1:=[oL 7 3 2,oI 8 0]
def rj_2:=[oP 9 .lss [.t 8,oK 3]]
def rj_3:=[oV 10 8,mo 11 (.idxA 3 1 false) [.t 7,.t 8],oV 5 10,oV 6 11]
def rj_4:=[oV 12 6,oV 13 5,mo 14 (.iaA 3 1) [.t 3,.t 13],oM 15 1 14,oP 16 .lss [.t 12,.t 15]]
def rj_5:=[oI 4 (-1)]
def rj_6:=[oV 17 6,oV 18 5,mo 19 (.iaA 3 1) [.t 3,.t 18],oM 20 1 19,oP 21 .gtr [.t 17,.t 20]]
def rj_7:=[oI 4 1]
def rj_8:=[oP 22 .add [.t 8,oK 1],oV 8 22]
def rj_9:=[oI 4 0]
def pc_j:PC:=(.seq (.reg [] rj_0) (.seq (.seq (.reg [] rj_1) (.block 0 (.loop (.seq (.reg [] rj_2) (.seq (.cond (.t 9) .skip (.exit 0)) (.seq (.block 1 (.seq (.reg [10,11] rj_3) (.seq (.seq (.reg [12,13,14,15] rj_4) (.cond (.t 16) (.seq (.reg [] rj_5) .ret) .skip)) (.seq (.reg [17,18,19,20] rj_6) (.cond (.t 21) (.seq (.reg [] rj_7) .ret) .skip))))) (.reg [22] rj_8))))))) (.seq (.reg [] rj_9) .ret)))
theorem ck_j:chkF C.P 81 pc_j 23 [.t 4] 2=true:=by kernel_rfl
attribute [go_sem] rj_0 rj_1 rj_2 rj_3 rj_4 rj_5 rj_6 rj_7 rj_8 rj_9
def rk_0:=[oB 2 3 0,oB 3 3 1,oI 4 0]
def rk_1:=[oA 5 0 2,oM 6 1 5,oA 7 1 2,oM 8 1 7,oA 9 2 2,oM 10 1 9,mo 11 (.build (Arr.enc (eI .i64) (Arr.rep 3 0)) [(0,1),(1,1),(2,1)]) [.t 6,.t 8,.t 10],oA 12 0 3,oM 13 1 12,oA 14 1 3,oM 15 1 14,oA 16 2 3,oM 17 1 16,mo 18 (.build (Arr.enc (eI .i64) (Arr.rep 3 0)) [(0,1),(1,1),(2,1)]) [.t 13,.t 15,.t 17],
 oC 19 81 [.t 11,.t 18],oV 4 19]
def pc_k:PC:=(.seq (.reg [] rk_0) (.seq (.reg [5,6,7,8,9,10,11,12,13,14,15,16,17,18,19] rk_1) .ret))
theorem ck_k:chkF C.P 48 pc_k 20 [.t 4] 2=true:=by kernel_rfl
attribute [go_sem] rk_0 rk_1
def rl_0:=[oB 1 2 0,mo 2 .mv [oFa]]
def rl_1:=[oL 3 2 1,mo 4 (.build (Amount.enc Amount.zero) []) [],mo 5 (.eqa false [.i .i64,.i .i64]) [.t 3,.t 4],oV 2 5]
def pc_l:PC:=(.seq (.reg [] rl_0) (.seq (.reg [3,4,5] rl_1) .ret))
theorem ck_l:chkF C.P 163 pc_l 6 [.t 2] 1=true:=by kernel_rfl
attribute [go_sem] rl_0 rl_1
def rm_0:=[oB 2 4 0,oB 3 2 1,mo 4 .mv [oFa]]
def rm_1:=[oL 5 4 2,oC 6 159 [.t 5],oV 7 6,oG 8 7 true (.load 2 true) [.t 3],oG 9 7 true (.call 163) [.t 8],oG 10 7 true .mv [.t 9],oG 11 10 false (.load 4 true) [.t 2],oG 12 10 false (.load 2 true) [.t 3],oG 13 10 false (.call 131) [.t 11,.t 12],oG 14 7 true .pick [.t 10,oTr,.t 13],mo 15 .pick [.t 7,.t 14,oFa],
 oV 4 15]
def pc_m:PC:=(.seq (.reg [] rm_0) (.seq (.reg [5,6,7,8,9,10,11,12,13,14,15] rm_1) .ret))
theorem ck_m:chkF C.P 184 pc_m 16 [.t 4] 2=true:=by kernel_rfl
attribute [go_sem] rm_0 rm_1
def rn_0:=[mo 4 .mv [oFa]]
def rn_1:=[oV 5 0,oC 6 167 [.t 5],oV 7 6,oG 8 7 true .mv [.t 1],oG 9 7 true (.call 167) [.t 8],mo 10 .pick [.t 7,.t 9,oFa],oV 11 10,oG 12 11 true .mv [.t 0],oG 13 11 true (.bin .sub) [.t 12,oK 1],oG 14 11 true .mv [.t 1],oG 15 11 true (.bin .sub) [.t 14,oK 1],oG 16 11 true (.iaA 5 5) [.g 0,.t 13],oG 17 11 true (.iaA 5 1) [.t 16,.t 15],
 oG 18 11 true (.load 1 false) [.t 17],mo 19 .pick [.t 11,.t 18,oFa],oV 4 19]
def pc_n:PC:=(.seq (.reg [] rn_0) (.seq (.reg [5,6,7,8,9,10,11,12,13,14,15,16,17,18,19] rn_1) .ret))
theorem ck_n:chkF C.P 185 pc_n 20 [.t 4] 2=true:=by kernel_rfl
attribute [go_sem] rn_0 rn_1
def ro_0:=[oB 2 4 0,mo 4 .mv [oFa]]
def ro_1:=[oL 12 4 2,oC 13 159 [.t 12],mo 14 .not [.t 13]]
def ro_2:=[mo 4 .mv [oFa]]
def ro_3:=[mo 5 .mv [oTr]]
def ro_4:=[mo 6 (.alloc 6 (Arr.enc eB (Arr.rep 6 false))) []]
def ro_5:=[oI 7 0]
def ro_6:=[oV 15 1,mo 16 .len [.t 15],oI 17 0]
def ro_7:=[oP 18 .lss [.t 17,.t 16]]
def ro_8:=[mo 19 (.iaS 2 (Amount.enc Amount.zero)) [.t 15,.t 17],oL 20 2 19,mo 9 (.alloc 2 (Amount.enc Amount.zero)) [],oS 2 9 20]
def ro_9:=[oL 21 4 2,oL 22 2 9,oC 23 184 [.t 21,.t 22],mo 24 .not [.t 23],oV 25 24,oG 26 25 false .mv [.t 7],oG 27 25 false (.faddr 1) [.t 9],oG 28 25 false (.load 1 false) [.t 27],oG 29 25 false (.bin .add) [.t 26,.t 28],oG 30 25 false (.faddr 2) [.t 2],oG 31 25 false (.load 1 false) [.t 30],oG 32 25 false (.bin .gtr) [.t 29,.t 31],
 mo 33 .pick [.t 25,oTr,.t 32]]
def zcG1:=[mo 5 .mv [oFa]]
def zcG2:=[oV 34 7,oA 35 1 9,oM 36 1 35,oP 37 .add [.t 34,.t 36],oV 7 37]
def zcG3:=[oA 38 0 9,oM 39 1 38,oP 40 .eql [.t 39,oK 0]]
def zcG4:=[oL 41 6 6,oI 42 0]
def zcG5:=[oP 43 .lss [.t 42,oK 6]]
def zcG6:=[oV 44 42,mo 45 (.idxA 6 1 false) [.t 41,.t 42],oV 10 44,oV 11 45]
def zcG7:=[oV 46 11,oV 47 46,oG 48 47 true .mv [.t 10],oG 49 47 true (.faddr 0) [.t 9],oG 50 47 true (.load 1 false) [.t 49],oG 51 47 true (.call 185) [.t 48,.t 50],oG 52 47 true .not [.t 51],mo 53 .pick [.t 47,.t 52,oFa]]
def zcG8:=[mo 5 .mv [oFa]]
def zcG9:=[oP 54 .add [.t 42,oK 1],oV 42 54]
def zcH0:=[oA 55 0 9,oM 56 1 55,mo 57 (.iaA 6 1) [.t 6,.t 56],mz (.store 1) [.t 57,oTr]]
def zcH1:=[oP 58 .add [.t 17,oK 1],oV 17 58]
def zcH2:=[oV 59 5,oV 4 59]
def pc_o:PC:=(.seq (.reg [] ro_0) (.scope (.seq (.seq (.reg [12,13] ro_1) (.cond (.t 14) (.seq (.reg [] ro_2) .ret) .skip)) (.seq (.reg [] ro_3) (.seq (.reg [] ro_4) (.seq (.reg [] ro_5) (.seq .label (.seq (.seq (.reg [] ro_6) (.block 0 (.loop (.seq (.reg [] ro_7) (.seq (.cond (.t 18) .skip (.exit 0)) (.seq (.block 1 (.seq (.reg [19,20] ro_8) (.seq (.seq (.reg [21,22,23,24,25,26,27,28,29,30,31,32] ro_9) (.cond (.t 33) (.seq (.reg [] zcG1) (.exit 0)) .skip)) (.seq (.reg [34,35,36,37] zcG2) (.seq (.seq (.reg [38,39] zcG3) (.cond (.t 40) (.exit 1) .skip)) (.seq (.seq (.reg [] zcG4) (.block 2 (.loop (.seq (.reg [] zcG5) (.seq (.cond (.t 43) .skip (.exit 2)) (.seq (.block 3 (.seq (.reg [44,45] zcG6) (.seq (.reg [46,47,48,49,50,51,52] zcG7) (.cond (.t 53) (.seq (.reg [] zcG8) (.exit 0)) .skip)))) (.reg [54] zcG9))))))) (.reg [55,56,57] zcH0))))))) (.reg [58] zcH1))))))) (.seq (.reg [59] zcH2) .ret)))))))))
theorem ck_o:chkF C.P 160 pc_o 60 [.t 4] 2=true:=by kernel_rfl
attribute [go_sem] ro_0 ro_1 ro_2 ro_3 ro_4 ro_5 ro_6 ro_7 ro_8 ro_9 zcG1 zcG2 zcG3 zcG4 zcG5 zcG6 zcG7 zcG8 zcG9 zcH0 zcH1 zcH2
def rp_0:=[oB 2 4 0,mo 4 .mv [oFa]]
def rp_1:=[oL 8 4 2,oC 9 159 [.t 8],mo 10 .not [.t 9],oV 11 10,oG 12 11 false .mv [.t 1],oG 13 11 false .len [.t 12],oG 14 11 false (.bin .gtr) [.t 13,oK 8],mo 15 .pick [.t 11,oTr,.t 14]]
def rp_2:=[mo 4 .mv [oFa]]
def rp_3:=[mo 5 (.nilown 2 (Amount.enc Amount.zero)) [.c (A.full [])]]
def rp_4:=[oV 16 1,mo 17 .len [.t 16],oI 18 0]
def rp_5:=[oP 19 .lss [.t 18,.t 17]]
def rp_6:=[oV 20 18,mo 21 (.iaS 5 (Hold.enc Hold.zero)) [.t 16,.t 18],oL 22 5 21,mo 7 (.alloc 5 (Hold.enc Hold.zero)) [],oV 6 20,oS 5 7 22]
def rp_7:=[oA 23 0 7,oL 24 3 23,oC 25 46 [.t 24],mo 26 .not [.t 25],oV 27 26,oG 28 27 false (.load 4 true) [.t 2],oG 29 27 false (.faddr 3) [.t 7],oG 30 27 false (.load 2 true) [.t 29],oG 31 27 false (.call 131) [.t 28,.t 30],oG 32 27 false .not [.t 31],mo 33 .pick [.t 27,oTr,.t 32]]
def rp_8:=[mo 4 .mv [oFa]]
def rp_9:=[oV 34 6,oP 35 .gtr [.t 34,oK 0],oV 36 35,oG 37 36 true .mv [.t 1],oG 38 36 true .mv [.t 6],oG 39 36 true (.bin .sub) [.t 38,oK 1],oG 40 36 true (.iaS 5 (Hold.enc Hold.zero)) [.t 37,.t 39],oG 41 36 true (.faddr 0) [.t 40],oG 42 36 true (.load 3 true) [.t 41],oG 43 36 true (.faddr 0) [.t 7],
 oG 44 36 true (.load 3 true) [.t 43],oG 45 36 true (.call 48) [.t 42,.t 44],oG 46 36 true (.bin .geq) [.t 45,oK 0],mo 47 .pick [.t 36,.t 46,oFa]]
def zcH3:=[mo 4 .mv [oFa]]
def zcH4:=[oV 48 5,oA 49 3 7,oL 50 2 49,mo 51 (.bslice 2 (Amount.enc Amount.zero)) [.t 50],mo 52 (.append 2 16 (Amount.enc Amount.zero)) [.t 48,.t 51],oV 5 52]
def zcH5:=[oP 53 .add [.t 18,oK 1],oV 18 53]
def zcH6:=[oL 54 4 2,oV 55 5,oC 56 160 [.t 54,.t 55],oV 4 56]
def pc_p:PC:=(.seq (.reg [] rp_0) (.seq (.seq (.reg [8,9,10,11,12,13,14] rp_1) (.cond (.t 15) (.seq (.reg [] rp_2) .ret) .skip)) (.seq (.reg [] rp_3) (.seq (.seq (.reg [] rp_4) (.block 0 (.loop (.seq (.reg [] rp_5) (.seq (.cond (.t 19) .skip (.exit 0)) (.seq (.block 1 (.seq (.reg [20,21,22] rp_6) (.seq (.seq (.reg [23,24,25,26,27,28,29,30,31,32] rp_7) (.cond (.t 33) (.seq (.reg [] rp_8) .ret) .skip)) (.seq (.seq (.regd [34,35,36,37,38,39,40,41,42,43,44,45,46] rp_9) (.cond (.t 47) (.seq (.reg [] zcH3) .ret) .skip)) (.reg [48,49,50,51,52] zcH4))))) (.reg [53] zcH5))))))) (.seq (.reg [54,55,56] zcH6) .ret)))))
theorem ck_p:chkF C.P 125 pc_p 57 [.t 4] 2=true:=by kernel_rfl
attribute [go_sem] rp_0 rp_1 rp_2 rp_3 rp_4 rp_5 rp_6 rp_7 rp_8 rp_9 zcH3 zcH4 zcH5 zcH6
def rq_0:=[oB 3 3 1,mo 4 (.alloc 2 (Amount.enc Amount.zero)) []]
def rq_1:=[oV 7 0,mo 8 .len [.t 7],oI 9 0]
def rq_2:=[oP 10 .lss [.t 9,.t 8]]
def rq_3:=[mo 11 (.iaS 5 (Hold.enc Hold.zero)) [.t 7,.t 9],oL 12 5 11,mo 6 (.alloc 5 (Hold.enc Hold.zero)) [],oS 5 6 12]
def rq_4:=[oA 13 0 6,oL 14 3 13,oL 15 3 3,mo 16 (.eqa false [.i .i64,.i .i64,.i .i64]) [.t 14,.t 15]]
def rq_5:=[oA 17 3 6,oL 18 2 17,oS 2 4 18]
def rq_6:=[oP 19 .add [.t 9,oK 1],oV 9 19]
def rq_7:=[mo 20 (.build (Amount.enc Amount.zero) []) [],oS 2 4 20]
def pc_q:PC:=(.seq (.reg [] rq_0) (.seq (.seq (.reg [] rq_1) (.block 0 (.loop (.seq (.reg [] rq_2) (.seq (.cond (.t 10) .skip (.exit 0)) (.seq (.block 1 (.seq (.reg [11,12] rq_3) (.seq (.reg [13,14,15] rq_4) (.cond (.t 16) (.seq (.reg [17,18] rq_5) .ret) .skip)))) (.reg [19] rq_6))))))) (.seq (.reg [20] rq_7) .ret)))
theorem ck_q:chkF C.P 186 pc_q 21 [.c 4 2 true] 2=true:=by kernel_rfl
attribute [go_sem] rq_0 rq_1 rq_2 rq_3 rq_4 rq_5 rq_6 rq_7
def rr_0:=[oB 2 8 0,oB 3 3 1,mo 4 (.alloc 2 (Amount.enc Amount.zero)) []]
def rr_1:=[oA 5 4 2,oM 6 1 5,oL 7 3 3,oC 8 186 [.t 6,.t 7],oS 2 4 8]
def pc_r:PC:=(.seq (.reg [] rr_0) (.seq (.reg [5,6,7,8] rr_1) .ret))
theorem ck_r:chkF C.P 161 pc_r 9 [.c 4 2 true] 2=true:=by kernel_rfl
attribute [go_sem] rr_0 rr_1
def rs_0:=[oB 3 3 1,oI 4 0]
def rs_1:=[oV 7 0,mo 8 .len [.t 7],oI 9 0]
def rs_2:=[oP 10 .lss [.t 9,.t 8]]
def rs_3:=[oV 11 9,mo 12 (.iaS 7 (Wait.enc Wait.zero)) [.t 7,.t 9],oL 13 7 12,mo 6 (.alloc 7 (Wait.enc Wait.zero)) [],oV 5 11,oS 7 6 13]
def rs_4:=[oA 14 0 6,oL 15 3 14,oL 16 3 3,mo 17 (.eqa false [.i .i64,.i .i64,.i .i64]) [.t 15,.t 16]]
def rs_5:=[oV 18 5,oV 4 18]
def rs_6:=[oP 19 .add [.t 9,oK 1],oV 9 19]
def rs_7:=[oI 4 (-1)]
def pc_s:PC:=(.seq (.reg [] rs_0) (.seq (.seq (.reg [] rs_1) (.block 0 (.loop (.seq (.reg [] rs_2) (.seq (.cond (.t 10) .skip (.exit 0)) (.seq (.block 1 (.seq (.reg [11,12,13] rs_3) (.seq (.reg [14,15,16] rs_4) (.cond (.t 17) (.seq (.reg [18] rs_5) .ret) .skip)))) (.reg [19] rs_6))))))) (.seq (.reg [] rs_7) .ret)))
theorem ck_s:chkF C.P 162 pc_s 20 [.t 4] 2=true:=by kernel_rfl
attribute [go_sem] rs_0 rs_1 rs_2 rs_3 rs_4 rs_5 rs_6 rs_7
def rt_0:=[mo 2 (.alloc 6 (Arr.enc eB (Arr.rep 6 false))) []]
def rt_1:=[mo 3 (.alloc 6 (Arr.enc eB (Arr.rep 6 false))) []]
def rt_2:=[oV 4 0]
def rt_3:=[oP 6 .eql [.t 4,oK 5],oV 5 6]
def rt_4:=[oP 8 .eql [.t 4,oK 4],oV 7 8]
def rt_5:=[oP 10 .eql [.t 4,oK 2],oV 9 10]
def rt_6:=[oP 12 .eql [.t 4,oK 1],oV 11 12]
def rt_7:=[oP 14 .eql [.t 4,oK 3],oV 13 14]
def rt_8:=[mo 15 (.iaA 6 1) [.t 3,oK 5],mz (.store 1) [.t 15,oTr]]
def rt_9:=[mo 16 (.iaA 6 1) [.t 3,oK 4],mz (.store 1) [.t 16,oTr]]
def zcH7:=[mo 17 (.iaA 6 1) [.t 3,oK 3],mz (.store 1) [.t 17,oTr]]
def zcH8:=[mo 18 (.iaA 6 1) [.t 3,oK 2],mz (.store 1) [.t 18,oTr]]
def zcH9:=[mo 19 (.iaA 6 1) [.t 3,oK 1],mz (.store 1) [.t 19,oTr]]
def zcI0:=[mo 20 (.iaA 6 1) [.t 3,oK 3],mz (.store 1) [.t 20,oTr]]
def zcI1:=[mo 21 (.iaA 6 1) [.t 3,oK 1],mz (.store 1) [.t 21,oTr]]
def zcI2:=[oL 22 6 3,oS 6 2 22]
def pc_t:PC:=(.seq (.reg [] rt_0) (.seq (.reg [] rt_1) (.seq (.seq (.reg [] rt_2) (.block 0 (.seq (.block 5 (.seq (.block 4 (.seq (.block 3 (.seq (.block 2 (.seq (.block 1 (.seq (.seq (.seq (.reg [6] rt_3) (.cond (.t 5) (.exit 1) .skip)) (.seq (.seq (.reg [8] rt_4) (.cond (.t 7) (.exit 2) .skip)) (.seq (.seq (.reg [10] rt_5) (.cond (.t 9) (.exit 3) .skip)) (.seq (.seq (.reg [12] rt_6) (.cond (.t 11) (.exit 4) .skip)) (.seq (.reg [14] rt_7) (.cond (.t 13) (.exit 5) .skip)))))) (.exit 0))) (.reg [15] rt_8))) (.seq (.reg [16] rt_9) (.reg [17] zcH7)))) (.reg [18] zcH8))) (.seq (.reg [19] zcH9) (.exit 0)))) (.seq (.seq (.reg [20] zcI0) (.reg [21] zcI1)) (.exit 0))))) (.seq (.reg [22] zcI2) .ret))))
theorem ck_t:chkF C.P 191 pc_t 23 [.c 2 6 true] 1=true:=by kernel_rfl
attribute [go_sem] rt_0 rt_1 rt_2 rt_3 rt_4 rt_5 rt_6 rt_7 rt_8 rt_9 zcH7 zcH8 zcH9 zcI0 zcI1 zcI2
def ru_0:=[mo 4 .mv [oFa]]
def ru_1:=[oV 5 0,oC 6 167 [.t 5],oV 7 6,oG 8 7 true .mv [.t 1],oG 9 7 true (.call 167) [.t 8],mo 10 .pick [.t 7,.t 9,oFa],oV 11 10,oG 12 11 true .mv [.t 0],oG 13 11 true (.call 191) [.t 12],oG 14 11 true .mv [.t 1],oG 15 11 true (.idxA 6 1 false) [.t 13,.t 14],mo 16 .pick [.t 11,.t 15,oFa],oV 4 16]
def pc_u:PC:=(.seq (.reg [] ru_0) (.seq (.reg [5,6,7,8,9,10,11,12,13,14,15,16] ru_1) .ret))
theorem ck_u:chkF C.P 187 pc_u 17 [.t 4] 2=true:=by kernel_rfl
attribute [go_sem] ru_0 ru_1
def rv_0:=[oB 3 4 0,oB 4 2 1,oB 5 2 2,mo 6 .mv [oFa]]
def rv_1:=[oL 7 4 3,oL 8 2 4,oC 9 184 [.t 7,.t 8],mo 10 .not [.t 9],oV 11 10,oG 12 11 false (.load 4 true) [.t 3],oG 13 11 false (.load 2 true) [.t 5],oG 14 11 false (.call 184) [.t 12,.t 13],oG 15 11 false .not [.t 14],mo 16 .pick [.t 11,oTr,.t 15]]
def rv_2:=[mo 6 .mv [oFa]]
def rv_3:=[oL 17 2 4,oC 18 163 [.t 17],oV 19 18,oG 20 19 false (.load 2 true) [.t 5],oG 21 19 false (.call 163) [.t 20],mo 22 .pick [.t 19,oTr,.t 21]]
def rv_4:=[oL 23 2 5,oC 24 163 [.t 23],oV 6 24]
def rv_5:=[oA 25 1 3,oM 26 1 25,oP 27 .eql [.t 26,oK 1]]
def rv_6:=[oA 28 0 4,oM 29 1 28,oA 30 0 5,oM 31 1 30,oC 32 187 [.t 29,.t 31],oV 6 32]
def rv_7:=[oA 33 1 4,oM 34 1 33,oA 35 1 5,oM 36 1 35,oP 37 .geq [.t 34,.t 36],oV 6 37]
def pc_v:PC:=(.seq (.reg [] rv_0) (.seq (.seq (.reg [7,8,9,10,11,12,13,14,15] rv_1) (.cond (.t 16) (.seq (.reg [] rv_2) .ret) .skip)) (.seq (.seq (.reg [17,18,19,20,21] rv_3) (.cond (.t 22) (.seq (.reg [23,24] rv_4) .ret) .skip)) (.seq (.seq (.reg [25,26] rv_5) (.cond (.t 27) (.seq (.reg [28,29,30,31,32] rv_6) .ret) .skip)) (.seq (.reg [33,34,35,36,37] rv_7) .ret)))))
theorem ck_v:chkF C.P 164 pc_v 38 [.t 6] 3=true:=by kernel_rfl
attribute [go_sem] rv_0 rv_1 rv_2 rv_3 rv_4 rv_5 rv_6 rv_7
def rw_0:=[oB 1 8 0,mo 2 .mv [oFa]]
def rw_1:=[oA 6 5 1,oM 7 1 6,mo 8 .len [.t 7],oP 9 .gtr [.t 8,oK 8]]
def rw_2:=[mo 2 .mv [oFa]]
def rw_3:=[oA 10 5 1,oM 11 1 10,mo 12 .len [.t 11],oI 13 0]
def rw_4:=[oP 14 .lss [.t 13,.t 12]]
def rw_5:=[oV 15 13,mo 16 (.iaS 7 (Wait.enc Wait.zero)) [.t 11,.t 13],oL 17 7 16,mo 4 (.alloc 7 (Wait.enc Wait.zero)) [],oV 3 15,oS 7 4 17]
def rw_6:=[oL 18 8 1,oA 19 0 4,oL 20 3 19,oC 21 161 [.t 18,.t 20],mo 5 (.alloc 2 (Amount.enc Amount.zero)) [],oS 2 5 21]
def rw_7:=[oA 22 5 1,oM 23 1 22,oA 24 0 4,oL 25 3 24,oC 26 162 [.t 23,.t 25],oV 27 3,oP 28 .neq [.t 26,.t 27],oV 29 28,oG 30 29 false (.load 2 true) [.t 5],oG 31 29 false (.call 163) [.t 30],mo 32 .pick [.t 29,oTr,.t 31]]
def rw_8:=[mo 2 .mv [oFa]]
def rw_9:=[oA 33 0 1,oL 34 4 33,oA 35 3 4,oL 36 2 35,oC 37 131 [.t 34,.t 36],mo 38 .not [.t 37],oV 39 38,oG 40 39 false (.faddr 0) [.t 1],oG 41 39 false (.load 4 true) [.t 40],oG 42 39 false (.faddr 3) [.t 4],oG 43 39 false (.load 2 true) [.t 42],oG 44 39 false (.load 2 true) [.t 5],oG 45 39 false (.call 164) [.t 41,.t 43,.t 44],
 oG 46 39 false .not [.t 45],mo 47 .pick [.t 39,oTr,.t 46],oV 48 47,oG 49 48 false (.faddr 3) [.t 4],oG 50 48 false (.load 2 true) [.t 49],oG 51 48 false (.load 2 true) [.t 5],oG 52 48 false (.eqa false [.i .i64,.i .i64]) [.t 50,.t 51],mo 53 .pick [.t 48,oTr,.t 52]]
def zcI3:=[mo 2 .mv [oFa]]
def zcI4:=[oA 54 5 4,oM 55 1 54,oP 56 .neq [.t 55,oK 0],oV 57 56,oG 58 57 false (.faddr 6) [.t 4],oG 59 57 false (.load 1 false) [.t 58],oG 60 57 false (.bin .neq) [.t 59,oK 0],mo 61 .pick [.t 57,oTr,.t 60]]
def zcI5:=[mo 2 .mv [oFa]]
def zcI6:=[oP 62 .add [.t 13,oK 1],oV 13 62]
def zcI7:=[mo 2 .mv [oTr]]
def pc_w:PC:=(.seq (.reg [] rw_0) (.seq (.seq (.reg [6,7,8] rw_1) (.cond (.t 9) (.seq (.reg [] rw_2) .ret) .skip)) (.seq (.seq (.reg [10] rw_3) (.block 0 (.loop (.seq (.reg [] rw_4) (.seq (.cond (.t 14) .skip (.exit 0)) (.seq (.block 1 (.seq (.reg [15,16,17] rw_5) (.seq (.reg [18,19,20,21] rw_6) (.seq (.seq (.reg [22,23,24,25,26,27,28,29,30,31] rw_7) (.cond (.t 32) (.seq (.reg [] rw_8) .ret) .skip)) (.seq (.seq (.reg [33,34,35,36,37,38,39,40,41,42,43,44,45,46,47,48,49,50,51,52] rw_9) (.cond (.t 53) (.seq (.reg [] zcI3) .ret) .skip)) (.seq (.reg [54,55,56,57,58,59,60] zcI4) (.cond (.t 61) (.seq (.reg [] zcI5) .ret) .skip))))))) (.reg [62] zcI6))))))) (.seq (.reg [] zcI7) .ret))))
theorem ck_w:chkF C.P 126 pc_w 63 [.t 2] 1=true:=by kernel_rfl
attribute [go_sem] rw_0 rw_1 rw_2 rw_3 rw_4 rw_5 rw_6 rw_7 rw_8 rw_9 zcI3 zcI4 zcI5 zcI6 zcI7
def rx_0:=[oB 1 7 0,mo 2 .mv [oFa]]
def rx_1:=[mo 5 (.build (Resource.enc Resource.zero) [(1,1),(2,1)]) [oK 1,oK 1],mo 3 (.alloc 4 (Resource.enc Resource.zero)) [],oS 4 3 5]
def rx_2:=[mo 6 (.build (Resource.enc Resource.zero) [(1,1),(2,1)]) [oK 2,oK 8],mo 4 (.alloc 4 (Resource.enc Resource.zero)) [],oS 4 4 6]
def rx_3:=[oA 7 0 1,oL 8 3 7,oC 9 46 [.t 8],oV 10 9,oG 11 10 true (.load 4 true) [.t 3],oG 12 10 true (.faddr 3) [.t 1],oG 13 10 true (.load 2 true) [.t 12],oG 14 10 true (.call 131) [.t 11,.t 13],oG 15 10 true .mv [.t 14],oG 16 15 false (.load 4 true) [.t 4],oG 17 15 false (.faddr 3) [.t 1],oG 18 15 false (.load 2 true) [.t 17],
 oG 19 15 false (.call 131) [.t 16,.t 18],oG 20 10 true .pick [.t 15,oTr,.t 19],mo 21 .pick [.t 10,.t 20,oFa],oV 22 21,oG 23 22 true (.faddr 5) [.t 1],oG 24 22 true (.load 1 false) [.t 23],oG 25 22 true (.bin .geq) [.t 24,oK 0],mo 26 .pick [.t 22,.t 25,oFa],oV 27 26,oG 28 27 true (.faddr 5) [.t 1],oG 29 27 true (.load 1 false) [.t 28],
 oG 30 27 true (.bin .leq) [.t 29,oK 7],mo 31 .pick [.t 27,.t 30,oFa],oV 32 31,oG 33 32 true (.faddr 6) [.t 1],oG 34 32 true (.load 1 false) [.t 33],oG 35 32 true (.bin .geq) [.t 34,oK 0],mo 36 .pick [.t 32,.t 35,oFa],oV 37 36,oG 38 37 true (.faddr 6) [.t 1],oG 39 37 true (.load 1 false) [.t 38],oG 40 37 true (.bin .leq) [.t 39,oK 3],
 mo 41 .pick [.t 37,.t 40,oFa],oV 2 41]
def pc_x:PC:=(.seq (.reg [] rx_0) (.seq (.reg [5] rx_1) (.seq (.reg [6] rx_2) (.seq (.reg [7,8,9,10,11,12,13,14,15,16,17,18,19,20,21,22,23,24,25,26,27,28,29,30,31,32,33,34,35,36,37,38,39,40,41] rx_3) .ret))))
theorem ck_x:chkF C.P 188 pc_x 42 [.t 2] 1=true:=by kernel_rfl
attribute [go_sem] rx_0 rx_1 rx_2 rx_3
def ry_0:=[mo 2 .mv [oFa]]
def ry_1:=[oV 5 0,mo 6 .len [.t 5],oP 7 .gtr [.t 6,oK 8]]
def ry_2:=[mo 2 .mv [oFa]]
def ry_3:=[oV 8 0,mo 9 .len [.t 8],oI 10 0]
def ry_4:=[oP 11 .lss [.t 10,.t 9]]
def ry_5:=[oV 12 10,mo 13 (.iaS 7 (Wait.enc Wait.zero)) [.t 8,.t 10],oL 14 7 13,mo 4 (.alloc 7 (Wait.enc Wait.zero)) [],oV 3 12,oS 7 4 14]
def ry_6:=[oL 15 7 4,oC 16 188 [.t 15],mo 17 .not [.t 16],oV 18 17,oG 19 18 false .mv [.t 0],oG 20 18 false (.faddr 0) [.t 4],oG 21 18 false (.load 3 true) [.t 20],oG 22 18 false (.call 162) [.t 19,.t 21],oG 23 18 false .mv [.t 3],oG 24 18 false (.bin .neq) [.t 22,.t 23],mo 25 .pick [.t 18,oTr,.t 24]]
def ry_7:=[mo 2 .mv [oFa]]
def ry_8:=[oP 26 .add [.t 10,oK 1],oV 10 26]
def ry_9:=[mo 2 .mv [oTr]]
def pc_y:PC:=(.seq (.reg [] ry_0) (.seq (.seq (.reg [5,6] ry_1) (.cond (.t 7) (.seq (.reg [] ry_2) .ret) .skip)) (.seq (.seq (.reg [] ry_3) (.block 0 (.loop (.seq (.reg [] ry_4) (.seq (.cond (.t 11) .skip (.exit 0)) (.seq (.block 1 (.seq (.reg [12,13,14] ry_5) (.seq (.reg [15,16,17,18,19,20,21,22,23,24] ry_6) (.cond (.t 25) (.seq (.reg [] ry_7) .ret) .skip)))) (.reg [26] ry_8))))))) (.seq (.reg [] ry_9) .ret))))
theorem ck_y:chkF C.P 165 pc_y 27 [.t 2] 1=true:=by kernel_rfl
attribute [go_sem] ry_0 ry_1 ry_2 ry_3 ry_4 ry_5 ry_6 ry_7 ry_8 ry_9
def rz_0:=[oB 1 8 0,mo 2 .mv [oFa]]
def rz_1:=[oA 5 6 1,oM 6 1 5,oC 7 165 [.t 6],mo 8 .not [.t 7],oV 9 8,oG 10 9 false (.faddr 4) [.t 1],oG 11 9 false (.load 1 false) [.t 10],oG 12 9 false .len [.t 11],oG 13 9 false (.faddr 6) [.t 1],oG 14 9 false (.load 1 false) [.t 13],oG 15 9 false .len [.t 14],oG 16 9 false (.bin .add) [.t 12,.t 15],
 oG 17 9 false (.bin .gtr) [.t 16,oK 8],mo 18 .pick [.t 9,oTr,.t 17]]
def rz_2:=[mo 2 .mv [oFa]]
def rz_3:=[oA 19 6 1,oM 20 1 19,mo 21 .len [.t 20],oI 22 0]
def rz_4:=[oP 23 .lss [.t 22,.t 21]]
def rz_5:=[mo 24 (.iaS 7 (Wait.enc Wait.zero)) [.t 20,.t 22],oL 25 7 24,mo 4 (.alloc 7 (Wait.enc Wait.zero)) [],oS 7 4 25]
def rz_6:=[oA 26 0 1,oL 27 4 26,oA 28 3 4,oL 29 2 28,oC 30 131 [.t 27,.t 29],mo 31 .not [.t 30],oV 32 31,oG 33 32 false (.load 8 true) [.t 1],oG 34 32 false (.faddr 0) [.t 4],oG 35 32 false (.load 3 true) [.t 34],oG 36 32 false (.call 161) [.t 33,.t 35],oG 37 32 false (.call 163) [.t 36],oG 38 32 false .not [.t 37],
 mo 39 .pick [.t 32,oTr,.t 38]]
def rz_7:=[mo 2 .mv [oFa]]
def rz_8:=[oP 40 .add [.t 22,oK 1],oV 22 40]
def rz_9:=[mo 2 .mv [oTr]]
def pc_z:PC:=(.seq (.reg [] rz_0) (.seq (.seq (.reg [5,6,7,8,9,10,11,12,13,14,15,16,17] rz_1) (.cond (.t 18) (.seq (.reg [] rz_2) .ret) .skip)) (.seq (.seq (.reg [19] rz_3) (.block 0 (.loop (.seq (.reg [] rz_4) (.seq (.cond (.t 23) .skip (.exit 0)) (.seq (.block 1 (.seq (.reg [24,25] rz_5) (.seq (.reg [26,27,28,29,30,31,32,33,34,35,36,37,38] rz_6) (.cond (.t 39) (.seq (.reg [] rz_7) .ret) .skip)))) (.reg [40] rz_8))))))) (.seq (.reg [] rz_9) .ret))))
theorem ck_z:chkF C.P 127 pc_z 41 [.t 2] 1=true:=by kernel_rfl
attribute [go_sem] rz_0 rz_1 rz_2 rz_3 rz_4 rz_5 rz_6 rz_7 rz_8 rz_9
def zcI8:=[oB 1 8 0,mo 2 .mv [oFa]]
def zcI9:=[oA 3 0 1,oL 4 4 3,oC 5 124 [.t 4],oV 6 5,oG 7 6 true (.faddr 0) [.t 1],oG 8 6 true (.load 4 true) [.t 7],oG 9 6 true (.faddr 4) [.t 1],oG 10 6 true (.load 1 false) [.t 9],oG 11 6 true (.call 125) [.t 8,.t 10],mo 12 .pick [.t 6,.t 11,oFa],oV 13 12,oG 14 13 true (.load 8 true) [.t 1],oG 15 13 true (.call 126) [.t 14],
 mo 16 .pick [.t 13,.t 15,oFa],oV 17 16,oG 18 17 true (.load 8 true) [.t 1],oG 19 17 true (.call 127) [.t 18],mo 20 .pick [.t 17,.t 19,oFa],oV 21 20,oG 22 21 true (.faddr 7) [.t 1],oG 23 21 true (.load 1 false) [.t 22],oG 24 21 true (.bin .geq) [.t 23,oK 0],mo 25 .pick [.t 21,.t 24,oFa],oV 26 25,oG 27 26 true (.faddr 7) [.t 1],
 oG 28 26 true (.load 1 false) [.t 27],oG 29 26 true (.bin .leq) [.t 28,oK 1073741824],mo 30 .pick [.t 26,.t 29,oFa],oV 2 30]
def zcJ0:PC:=(.seq (.reg [] zcI8) (.seq (.reg [3,4,5,6,7,8,9,10,11,12,13,14,15,16,17,18,19,20,21,22,23,24,25,26,27,28,29,30] zcI9) .ret))
theorem zfd4:chkF C.P 102 zcJ0 31 [.t 2] 1=true:=by kernel_rfl
attribute [go_sem] zcI8 zcI9
def zcJ1:=[oB 1 8 0,mo 2 (.alloc 7 (Wait.enc Wait.zero)) [],mo 3 .mv [oFa]]
def zcJ2:=[oA 5 5 1,oM 6 1 5,mo 7 .len [.t 6],oP 8 .gtr [.t 7,oK 0],oV 4 8]
def zcJ3:=[oA 9 5 1,oM 10 1 9,mo 11 (.iaS 7 (Wait.enc Wait.zero)) [.t 10,oK 0],oL 12 7 11,oS 7 2 12,mo 3 .mv [oTr]]
def zcJ4:=[oA 14 6 1,oM 15 1 14,mo 16 .len [.t 15],oP 17 .gtr [.t 16,oK 0],oV 13 17]
def zcJ5:=[oA 18 6 1,oM 19 1 18,mo 20 (.iaS 7 (Wait.enc Wait.zero)) [.t 19,oK 0],oL 21 7 20,oS 7 2 21,mo 3 .mv [oTr]]
def zcJ6:=[mo 22 (.build (Wait.enc Wait.zero) []) [],oS 7 2 22,mo 3 .mv [oFa]]
def zcJ7:PC:=(.seq (.reg [] zcJ1) (.seq (.block 0 (.seq (.reg [5,6,7,8] zcJ2) (.cond (.t 4) (.seq (.reg [9,10,11,12] zcJ3) .ret) (.seq (.reg [14,15,16,17] zcJ4) (.cond (.t 13) (.seq (.reg [18,19,20,21] zcJ5) .ret) .skip))))) (.seq (.reg [22] zcJ6) .ret)))
theorem zfd5:chkF C.P 103 zcJ7 23 [.c 2 7 true,.t 3] 1=true:=by kernel_rfl
attribute [go_sem] zcJ1 zcJ2 zcJ3 zcJ4 zcJ5 zcJ6
def zcJ8:=[oB 4 4 0,oB 6 3 2,oB 7 2 3,mo 8 .mv [oFa]]
def zcJ9:=[oL 9 4 4,oV 10 1,oC 11 125 [.t 9,.t 10],oV 12 11,oG 13 12 true (.load 3 true) [.t 6],oG 14 12 true (.call 46) [.t 13],mo 15 .pick [.t 12,.t 14,oFa],oV 16 15,oG 17 16 true (.load 4 true) [.t 4],oG 18 16 true (.load 2 true) [.t 7],oG 19 16 true (.call 131) [.t 17,.t 18],mo 20 .pick [.t 16,.t 19,oFa],
 oV 8 20]
def zcK0:PC:=(.seq (.reg [] zcJ8) (.seq (.reg [9,10,11,12,13,14,15,16,17,18,19,20] zcJ9) .ret))
theorem zfd6:chkF C.P 128 zcK0 21 [.t 8] 4=true:=by kernel_rfl
attribute [go_sem] zcJ8 zcJ9
def zcK1:=[oB 4 3 1,oB 5 2 2,mo 6 .mv [oNi]]
def zcK2:=[oV 11 0,mo 12 .len [.t 11],oP 13 .add [.t 12,oK 1],mo 14 (.mk 5 40 (Hold.enc Hold.zero)) [oK 0,.t 13],oV 7 14]
def zcK3:=[oI 8 (-1)]
def zcK4:=[oV 15 0,mo 16 .len [.t 15],oI 17 0]
def zcK5:=[oP 18 .lss [.t 17,.t 16]]
def zcK6:=[mo 19 (.iaS 5 (Hold.enc Hold.zero)) [.t 15,.t 17],oL 20 5 19,mo 10 (.alloc 5 (Hold.enc Hold.zero)) [],oS 5 10 20]
def zcK7:=[oA 21 0 10,oL 22 3 21,oL 23 3 4,mo 24 (.eqa false [.i .i64,.i .i64,.i .i64]) [.t 22,.t 23]]
def zcK8:=[oV 25 8,oP 26 .lss [.t 25,oK 0],oV 27 26,oG 28 27 true (.faddr 0) [.t 10],oG 29 27 true (.load 3 true) [.t 28],oG 30 27 true (.load 3 true) [.t 4],oG 31 27 true (.call 48) [.t 29,.t 30],oG 32 27 true (.bin .gtr) [.t 31,oK 0],mo 33 .pick [.t 27,.t 32,oFa]]
def zcK9:=[oV 34 7,mo 35 .len [.t 34],oV 8 35]
def zcL0:=[oV 36 7,oL 37 5 10,mo 38 (.bslice 5 (Hold.enc Hold.zero)) [.t 37],mo 39 (.append 5 40 (Hold.enc Hold.zero)) [.t 36,.t 38],oV 7 39]
def zbX5:=[oP 40 .add [.t 17,oK 1],oV 17 40]
def zbX6:=[oL 41 2 5,oC 42 163 [.t 41]]
def zbX7:=[oV 43 7,oV 6 43]
def zbX8:=[oV 44 8,oP 45 .lss [.t 44,oK 0]]
def zbX9:=[oV 46 7,mo 47 .len [.t 46],oV 8 47]
def zbY0:=[oV 48 7,mo 49 (.build (Hold.enc Hold.zero) []) [],mo 50 (.bslice 5 (Hold.enc Hold.zero)) [.t 49],mo 51 (.append 5 40 (Hold.enc Hold.zero)) [.t 48,.t 50],oV 7 51]
def zbY1:=[oV 52 7,oV 53 8,oP 54 .add [.t 53,oK 1],mo 55 (.slc 5 true false false) [.t 52,.t 54],oV 56 7,oV 57 8,mo 58 (.slc 5 true false false) [.t 56,.t 57],mo 59 (.copy 5) [.t 55,.t 58]]
def zbY2:=[oV 60 7,oV 61 8,oL 62 3 4,oL 63 2 5,mo 64 (.build (Hold.enc Hold.zero) [(0,3),(3,2)]) [.t 62,.t 63],mo 65 (.iaS 5 (Hold.enc Hold.zero)) [.t 60,.t 61],oS 5 65 64]
def zbY3:=[oV 66 7,oV 6 66]
def zcL1:PC:=(.seq (.reg [] zcK1) (.seq (.reg [11,12,13,14] zcK2) (.seq (.reg [] zcK3) (.seq (.seq (.reg [] zcK4) (.block 0 (.loop (.seq (.reg [] zcK5) (.seq (.cond (.t 18) .skip (.exit 0)) (.seq (.block 1 (.seq (.reg [19,20] zcK6) (.seq (.seq (.reg [21,22,23] zcK7) (.cond (.t 24) (.exit 1) .skip)) (.seq (.seq (.reg [25,26,27,28,29,30,31,32] zcK8) (.cond (.t 33) (.reg [34,35] zcK9) .skip)) (.reg [36,37,38,39] zcL0))))) (.reg [40] zbX5))))))) (.seq (.seq (.reg [41] zbX6) (.cond (.t 42) (.seq (.reg [43] zbX7) .ret) .skip)) (.seq (.seq (.reg [44] zbX8) (.cond (.t 45) (.reg [46,47] zbX9) .skip)) (.seq (.reg [48,49,50,51] zbY0) (.seq (.regm [52,53,54,55,56,57,58,59] [[],[],[1],[0,2,1],[],[],[4,5],[3,6,0,2,1,4,5]] zbY1) (.seq (.reg [60,61,62,63,64,65] zbY2) (.seq (.reg [66] zbY3) .ret))))))))))
theorem zfd7:chkF C.P 129 zcL1 67 [.t 6] 3=true:=by kernel_rfl
attribute [go_sem] zcK1 zcK2 zcK3 zcK4 zcK5 zcK6 zcK7 zcK8 zcK9 zcL0 zbX5 zbX6 zbX7 zbX8 zbX9 zbY0 zbY1 zbY2 zbY3
def zcL2:=[oB 4 4 0,oB 6 3 2,oB 7 2 3,mo 8 .mv [oFa]]
def zcL3:=[oL 9 4 4,oV 10 1,oL 11 3 6,oL 12 2 7,oC 13 128 [.t 9,.t 10,.t 11,.t 12],oV 14 13,oG 15 14 true (.load 4 true) [.t 4],oG 16 14 true .mv [.t 1],oG 17 14 true (.load 3 true) [.t 6],oG 18 14 true (.load 2 true) [.t 7],oG 19 14 true (.call 129) [.t 16,.t 17,.t 18],oG 20 14 true (.call 125) [.t 15,.t 19],
 mo 21 .pick [.t 14,.t 20,oFa],oV 8 21]
def zcL4:PC:=(.seq (.reg [] zcL2) (.seq (.regd [9,10,11,12,13,14,15,16,17,18,19,20,21] zcL3) .ret))
theorem zfd8:chkF C.P 104 zcL4 22 [.t 8] 4=true:=by kernel_rfl
attribute [go_sem] zcL2 zcL3
def zcL5:=[oB 1 8 0,mo 2 .mv [oFa]]
def zcL6:=[oL 5 8 1,oC 6 102 [.t 5],mo 7 .not [.t 6]]
def zcL7:=[mo 2 .mv [oFa]]
def zcL8:=[oL 9 8 1,oC 10 103 [.t 9],oV 8 10,oE 11 0 8,oE 12 1 8,mo 3 (.alloc 7 (Wait.enc Wait.zero)) [],oS 7 3 11,oV 4 12]
def zcL9:=[oV 13 4,mo 14 .not [.t 13],oV 15 14,oG 16 15 false (.faddr 0) [.t 1],oG 17 15 false (.load 4 true) [.t 16],oG 18 15 false (.faddr 4) [.t 1],oG 19 15 false (.load 1 false) [.t 18],oG 20 15 false (.faddr 0) [.t 3],oG 21 15 false (.load 3 true) [.t 20],oG 22 15 false (.faddr 3) [.t 3],oG 23 15 false (.load 2 true) [.t 22],
 oG 24 15 false (.call 104) [.t 17,.t 19,.t 21,.t 23],oG 25 15 false .not [.t 24],mo 26 .pick [.t 15,oTr,.t 25],oV 2 26]
def zcM0:PC:=(.seq (.reg [] zcL5) (.seq (.seq (.reg [5,6] zcL6) (.cond (.t 7) (.seq (.reg [] zcL7) .ret) .skip)) (.seq (.reg [8,9,10,11,12] zcL8) (.seq (.reg [13,14,15,16,17,18,19,20,21,22,23,24,25,26] zcL9) .ret))))
theorem zfd9:chkF C.P 77 zcM0 27 [.t 2] 1=true:=by kernel_rfl
attribute [go_sem] zcL5 zcL6 zcL7 zcL8 zcL9
def zcM1:=[oB 1 8 0,mo 2 .mv [oFa]]
def zcM2:=[oL 3 8 1,oC 4 77 [.t 3],oV 2 4]
def zcM3:PC:=(.seq (.reg [] zcM1) (.seq (.reg [3,4] zcM2) .ret))
theorem zfe0:chkF C.P 45 zcM3 5 [.t 2] 1=true:=by kernel_rfl
attribute [go_sem] zcM1 zcM2
def zcM4:=[oB 3 5 0,oI 6 0]
def zcM5:=[oV 11 2,mo 12 .nilck [.t 11],oM 13 1 12,oP 14 .add [.t 13,oK 1],mo 15 .nilck [.t 11],oS 1 15 14]
def zcM6:=[oV 16 1,oP 17 .gtr [.t 16,oK 4],oV 18 17,oG 19 18 false .mv [.t 2],oG 20 18 false .nilck [.t 19],oG 21 18 false (.load 1 false) [.t 20],oG 22 18 false (.bin .gtr) [.t 21,oK 24],mo 23 .pick [.t 18,oTr,.t 22]]
def zcM7:=[oI 6 0]
def zcM8:=[oI 7 0]
def zcM9:=[oA 24 4 3,oM 25 1 24,mo 26 .len [.t 25],oI 27 0]
def zcN0:=[oP 28 .lss [.t 27,.t 26]]
def zcN1:=[mo 29 (.iaS 5 (Expr.enc Expr.zero)) [.t 25,.t 27],oL 30 5 29,mo 9 (.alloc 5 (Expr.enc Expr.zero)) [],oS 5 9 30]
def zcN2:=[oL 31 5 9,oV 32 1,oP 33 .add [.t 32,oK 1],oV 34 2,mo 35 (.callm 105) [.t 31,.t 33,.t 34],oV 10 35]
def zcN3:=[oV 36 10,oP 37 .eql [.t 36,oK 0]]
def zbY4:=[oI 6 0]
def zbY5:=[oV 38 7,oV 39 10,mo 40 .max [.t 38,.t 39],oV 7 40]
def zbY6:=[oP 41 .add [.t 27,oK 1],oV 27 41]
def zbY7:=[oV 42 7,oP 43 .add [.t 42,oK 1],oV 6 43]
def zcN4:PC:=(.seq (.reg [] zcM4) (.seq (.reg [11,12,13,14,15] zcM5) (.seq (.seq (.reg [16,17,18,19,20,21,22] zcM6) (.cond (.t 23) (.seq (.reg [] zcM7) .ret) .skip)) (.seq (.reg [] zcM8) (.seq (.seq (.reg [24] zcM9) (.block 0 (.loop (.seq (.reg [] zcN0) (.seq (.cond (.t 28) .skip (.exit 0)) (.seq (.block 1 (.seq (.reg [29,30] zcN1) (.seq (.reg [31,32,33,34,35] zcN2) (.seq (.seq (.reg [36] zcN3) (.cond (.t 37) (.seq (.reg [] zbY4) .ret) .skip)) (.reg [38,39,40] zbY5))))) (.reg [41] zbY6))))))) (.seq (.reg [42,43] zbY7) .ret))))))
theorem zfe1:chkF C.P 105 zcN4 44 [.t 6] 3=true:=by kernel_rfl
attribute [go_sem] zcM4 zcM5 zcM6 zcM7 zcM8 zcM9 zcN0 zcN1 zcN2 zcN3 zbY4 zbY5 zbY6 zbY7
def zcN5:=[oB 1 5 0,oI 2 0]
def zcN6:=[mo 3 (.alloc 1 [A.int .i64 0]) [],mz (.store 1) [.t 3,oK 0]]
def zcN7:=[oL 4 5 1,mo 5 (.callm 105) [.t 4,oK 1,.t 3],oV 2 5]
def zcN8:PC:=(.seq (.reg [] zcN5) (.seq (.reg [] zcN6) (.seq (.reg [4,5] zcN7) .ret)))
theorem zfe2:chkF C.P 79 zcN8 6 [.t 2] 1=true:=by kernel_rfl
attribute [go_sem] zcN5 zcN6 zcN7
def zcN9:=[oB 1 3 0,mo 2 .mv [oFa]]
def zcO0:=[mo 5 (.build (Resource.enc Resource.zero) [(1,1),(2,1)]) [oK 1,oK 1],mo 3 (.alloc 4 (Resource.enc Resource.zero)) [],oS 4 3 5]
def zcO1:=[mo 6 (.build (Resource.enc Resource.zero) [(1,1),(2,1)]) [oK 2,oK 8],mo 4 (.alloc 4 (Resource.enc Resource.zero)) [],oS 4 4 6]
def zcO2:=[oA 7 0 1,oM 8 1 7,oC 9 130 [.t 8],oV 10 9,oG 11 10 true (.load 4 true) [.t 3],oG 12 10 true (.faddr 1) [.t 1],oG 13 10 true (.load 2 true) [.t 12],oG 14 10 true (.call 131) [.t 11,.t 13],oG 15 10 true .mv [.t 14],oG 16 15 false (.load 4 true) [.t 4],oG 17 15 false (.faddr 1) [.t 1],oG 18 15 false (.load 2 true) [.t 17],
 oG 19 15 false (.call 131) [.t 16,.t 18],oG 20 10 true .pick [.t 15,oTr,.t 19],mo 21 .pick [.t 10,.t 20,oFa],oV 2 21]
def zcO3:PC:=(.seq (.reg [] zcN9) (.seq (.reg [5] zcO0) (.seq (.reg [6] zcO1) (.seq (.reg [7,8,9,10,11,12,13,14,15,16,17,18,19,20,21] zcO2) .ret))))
theorem zfe3:chkF C.P 106 zcO3 22 [.t 2] 1=true:=by kernel_rfl
attribute [go_sem] zcN9 zcO0 zcO1 zcO2
def zcO4:=[oB 3 3 1,oI 4 0]
def zcO5:=[oV 7 0,mo 8 .nilck [.t 7],oM 9 1 8,mo 10 .len [.t 9],oI 11 0]
def zcO6:=[oP 12 .lss [.t 11,.t 10]]
def zcO7:=[mo 13 (.iaS 3 (Atom.enc Atom.zero)) [.t 9,.t 11],oL 14 3 13,mo 6 (.alloc 3 (Atom.enc Atom.zero)) [],oS 3 6 14]
def zcO8:=[oL 15 3 3,oL 16 3 6,mo 17 (.eqa false [.s,.i .i64,.i .i64]) [.t 15,.t 16]]
def zcO9:=[oI 4 0]
def zcP0:=[oA 18 0 3,oM 19 1 18,oA 20 0 6,oM 21 1 20,oP 22 .eql [.t 19,.t 21]]
def zcP1:=[oI 4 13]
def zcP2:=[oP 23 .add [.t 11,oK 1],oV 11 23]
def zcP3:=[oV 24 0,mo 25 .nilck [.t 24],oM 26 1 25,mo 27 .len [.t 26],oP 28 .eql [.t 27,oK 8]]
def zbY8:=[oI 4 4]
def zbY9:=[oV 29 0,oV 30 0,mo 31 .nilck [.t 30],oM 32 1 31,oL 33 3 3,mo 34 (.bslice 3 (Atom.enc Atom.zero)) [.t 33],mo 35 (.append 3 32 (Atom.enc Atom.zero)) [.t 32,.t 34],mo 36 .nilck [.t 29],oS 1 36 35]
def zbZ0:=[oI 4 0]
def zcP4:PC:=(.seq (.reg [] zcO4) (.seq (.seq (.reg [7,8] zcO5) (.block 0 (.loop (.seq (.reg [] zcO6) (.seq (.cond (.t 12) .skip (.exit 0)) (.seq (.block 1 (.seq (.reg [13,14] zcO7) (.seq (.seq (.reg [15,16] zcO8) (.cond (.t 17) (.seq (.reg [] zcO9) .ret) .skip)) (.seq (.reg [18,19,20,21] zcP0) (.cond (.t 22) (.seq (.reg [] zcP1) .ret) .skip))))) (.reg [23] zcP2))))))) (.seq (.seq (.reg [24,25,26,27] zcP3) (.cond (.t 28) (.seq (.reg [] zbY8) .ret) .skip)) (.seq (.regm [29,30,31,32,33,34,35,36] [[],[],[1],[2,1],[],[4],[3,5,2,1,4],[0,0,1,2,3,4,5,6,1,2,1,4,3,5,2,1,4],[7,6,6,0,1,2,3,4,5,6,0,0,1,2,3,4,5,6,1,2,1,4,3,5,2,1,4,3,5,2,1,4,3,5,2,1,4,1,2,1,4,3,5,2,1,4]] zbY9) (.seq (.reg [] zbZ0) .ret)))))
theorem zfe4:chkF C.P 107 zcP4 37 [.t 4] 2=true:=by kernel_rfl
attribute [go_sem] zcO4 zcO5 zcO6 zcO7 zcO8 zcO9 zcP0 zcP1 zcP2 zcP3 zbY8 zbY9 zbZ0
def zcP5:=[oB 2 5 0,mo 4 .mv [oFa]]
def zcP6:=[oA 7 4 2,oM 8 1 7,mo 9 .len [.t 8],oP 10 .eql [.t 9,oK 0]]
def zcP7:=[oA 11 0 2,oM 12 1 11,oP 13 .eql [.t 12,oK 0],oV 14 13,oG 15 14 true (.faddr 1) [.t 2],oG 16 14 true (.load 3 true) [.t 15],oG 17 14 true (.call 106) [.t 16],mo 18 .pick [.t 14,.t 17,oFa],oV 19 18,oG 20 19 true .mv [.t 1],oG 21 19 true (.faddr 1) [.t 2],oG 22 19 true (.load 3 true) [.t 21],
 oG 23 19 true (.callm 107) [.t 20,.t 22],oG 24 19 true (.bin .eql) [.t 23,oK 0],mo 25 .pick [.t 19,.t 24,oFa],oV 4 25]
def zcP8:=[oA 26 0 2,oM 27 1 26,oP 28 .lss [.t 27,oK 1],oV 29 28,oG 30 29 false (.faddr 0) [.t 2],oG 31 29 false (.load 1 false) [.t 30],oG 32 29 false (.faddr 4) [.t 2],oG 33 29 false (.load 1 false) [.t 32],oG 34 29 false .len [.t 33],oG 35 29 false (.bin .gtr) [.t 31,.t 34],mo 36 .pick [.t 29,oTr,.t 35],
 oV 37 36,oG 38 37 false (.faddr 1) [.t 2],oG 39 37 false (.load 3 true) [.t 38],oG 40 37 false (.build (Atom.enc Atom.zero) []) [],oG 41 37 false (.eqa true [.s,.i .i64,.i .i64]) [.t 39,.t 40],mo 42 .pick [.t 37,oTr,.t 41]]
def zcP9:=[mo 4 .mv [oFa]]
def zcQ0:=[oA 43 4 2,oM 44 1 43,mo 45 .len [.t 44],oI 46 0]
def zcQ1:=[oP 47 .lss [.t 46,.t 45]]
def zcQ2:=[mo 48 (.iaS 5 (Expr.enc Expr.zero)) [.t 44,.t 46],oL 49 5 48,mo 6 (.alloc 5 (Expr.enc Expr.zero)) [],oS 5 6 49]
def zcQ3:=[oL 50 5 6,oV 51 1,mo 52 (.callm 80) [.t 50,.t 51],mo 53 .not [.t 52]]
def zcQ4:=[mo 4 .mv [oFa]]
def zbZ1:=[oP 54 .add [.t 46,oK 1],oV 46 54]
def zbZ2:=[mo 4 .mv [oTr]]
def zcQ5:PC:=(.seq (.reg [] zcP5) (.seq (.seq (.reg [7,8,9] zcP6) (.cond (.t 10) (.seq (.reg [11,12,13,14,15,16,17,18,19,20,21,22,23,24,25] zcP7) .ret) .skip)) (.seq (.seq (.reg [26,27,28,29,30,31,32,33,34,35,36,37,38,39,40,41] zcP8) (.cond (.t 42) (.seq (.reg [] zcP9) .ret) .skip)) (.seq (.seq (.reg [43] zcQ0) (.block 0 (.loop (.seq (.reg [] zcQ1) (.seq (.cond (.t 47) .skip (.exit 0)) (.seq (.block 1 (.seq (.reg [48,49] zcQ2) (.seq (.reg [50,51,52] zcQ3) (.cond (.t 53) (.seq (.reg [] zcQ4) .ret) .skip)))) (.reg [54] zbZ1))))))) (.seq (.reg [] zbZ2) .ret)))))
theorem zfe5:chkF C.P 80 zcQ5 55 [.t 4] 2=true:=by kernel_rfl
attribute [go_sem] zcP5 zcP6 zcP7 zcP8 zcP9 zcQ0 zcQ1 zcQ2 zcQ3 zcQ4 zbZ1 zbZ2
def zcQ6:=[oB 1 5 0,mo 2 .mv [oFa]]
def zcQ7:=[mo 3 (.alloc 1 [A.full []]) []]
def zcQ8:=[oL 4 5 1,oC 5 79 [.t 4],oP 6 .neq [.t 5,oK 0],oV 7 6,oG 8 7 true (.load 5 true) [.t 1],oG 9 7 true (.callm 80) [.t 8,.t 3],mo 10 .pick [.t 7,.t 9,oFa],oV 2 10]
def zcQ9:PC:=(.seq (.reg [] zcQ6) (.seq (.reg [] zcQ7) (.seq (.reg [4,5,6,7,8,9,10] zcQ8) .ret)))
theorem zfe6:chkF C.P 47 zcQ9 11 [.t 2] 1=true:=by kernel_rfl
attribute [go_sem] zcQ6 zcQ7 zcQ8
def zcR0:=[mo 2 (.nilown 3 (Proc.enc Proc.zero)) [.c (A.full [])]]
def zcR1:=[mo 3 (.nilown 3 (Proc.enc Proc.zero)) [.c (A.full [])]]
def zcR2:=[oV 6 0,mo 7 .len [.t 6],oI 8 0]
def zcR3:=[oP 9 .lss [.t 8,.t 7]]
def zcR4:=[mo 10 (.iaS 5 (Hold.enc Hold.zero)) [.t 6,.t 8],oL 11 5 10,mo 5 (.alloc 5 (Hold.enc Hold.zero)) [],oS 5 5 11]
def zcR5:=[oV 12 3,oA 13 0 5,oL 14 3 13,mo 15 (.bslice 3 (Proc.enc Proc.zero)) [.t 14],mo 16 (.append 3 24 (Proc.enc Proc.zero)) [.t 12,.t 15],oV 3 16]
def zcR6:=[oP 17 .add [.t 8,oK 1],oV 8 17]
def zcR7:=[oV 18 3,oV 2 18]
def zcR8:PC:=(.seq (.reg [] zcR0) (.seq (.reg [] zcR1) (.seq (.seq (.reg [] zcR2) (.block 0 (.loop (.seq (.reg [] zcR3) (.seq (.cond (.t 9) .skip (.exit 0)) (.seq (.block 1 (.seq (.reg [10,11] zcR4) (.reg [12,13,14,15,16] zcR5))) (.reg [17] zcR6))))))) (.seq (.reg [18] zcR7) .ret))))
theorem zfe7:chkF C.P 120 zcR8 19 [.t 2] 1=true:=by kernel_rfl
attribute [go_sem] zcR0 zcR1 zcR2 zcR3 zcR4 zcR5 zcR6 zcR7
def zcR9:=[mo 2 .mv [oNi]]
def zcS0:=[oI 3 0]
def zcS1:=[oV 9 0,mo 10 .len [.t 9],oI 11 0]
def zcS2:=[oP 12 .lss [.t 11,.t 10]]
def zcS3:=[mo 13 (.iaS 1 [A.sl ([].map Wait.enc)]) [.t 9,.t 11],oM 14 1 13,oV 5 14]
def zcS4:=[oV 15 3,oV 16 5,mo 17 .len [.t 16],oP 18 .add [.t 15,.t 17],oV 3 18]
def zcS5:=[oV 19 3,oP 20 .lss [.t 19,oK 0]]
def zcS6:=[oP 22 .add [.t 11,oK 1],oV 11 22]
def zcS7:=[oV 23 3,mo 24 (.callm 148) [.c (A.full []),.t 23],oV 6 24]
def zbZ3:=[oV 25 0,mo 26 .len [.t 25],oI 27 0]
def zbZ4:=[oP 28 .lss [.t 27,.t 26]]
def zbZ5:=[mo 29 (.iaS 1 [A.sl ([].map Wait.enc)]) [.t 25,.t 27],oM 30 1 29,oV 8 30]
def zbZ6:=[oV 31 6,oV 32 8,mo 33 (.append 7 56 (Wait.enc Wait.zero)) [.t 31,.t 32],oV 6 33]
def zbZ7:=[oP 34 .add [.t 27,oK 1],oV 27 34]
def zbZ8:=[oV 35 6,oV 2 35]
def zcS8:PC:=(.seq (.reg [] zcR9) (.seq (.reg [] zcS0) (.seq (.seq (.reg [] zcS1) (.block 0 (.loop (.seq (.reg [] zcS2) (.seq (.cond (.t 12) .skip (.exit 0)) (.seq (.block 1 (.seq (.reg [13,14] zcS3) (.seq (.reg [15,16,17,18] zcS4) (.seq (.reg [19] zcS5) (.cond (.t 20) .dead .skip))))) (.reg [22] zcS6))))))) (.seq (.reg [23,24] zcS7) (.seq (.seq (.reg [] zbZ3) (.block 2 (.loop (.seq (.reg [] zbZ4) (.seq (.cond (.t 28) .skip (.exit 2)) (.seq (.block 3 (.seq (.reg [29,30] zbZ5) (.reg [31,32,33] zbZ6))) (.reg [34] zbZ7))))))) (.seq (.reg [35] zbZ8) .ret))))))
theorem zfe8:chkF C.P 115 zcS8 36 [.t 2] 1=true:=by kernel_rfl
attribute [go_sem] zcR9 zcS0 zcS1 zcS2 zcS3 zcS4 zcS5 zcS6 zcS7 zbZ3 zbZ4 zbZ5 zbZ6 zbZ7 zbZ8
def zcS9:=[oB 1 8 0,mo 2 .mv [oNi]]
def zcT0:=[oA 3 5 1,oM 4 1 3,oA 5 6 1,oM 6 1 5,mo 7 (.bslice 1 [A.sl ([].map Wait.enc)]) [.t 4,.t 6],oC 8 115 [.t 7],oV 2 8]
def zcT1:PC:=(.seq (.reg [] zcS9) (.seq (.reg [3,4,5,6,7,8] zcT0) .ret))
theorem zfe9:chkF C.P 93 zcT1 9 [.t 2] 1=true:=by kernel_rfl
attribute [go_sem] zcS9 zcT0
def zcT2:=[oB 1 8 0,mo 2 .mv [oNi]]
def zcT3:=[mo 3 (.nilown 3 (Proc.enc Proc.zero)) [.c (A.full [])]]
def zcT4:=[oL 6 8 1,oC 7 93 [.t 6],mo 8 .len [.t 7],oI 9 0]
def zcT5:=[oP 10 .lss [.t 9,.t 8]]
def zcT6:=[mo 11 (.iaS 7 (Wait.enc Wait.zero)) [.t 7,.t 9],oL 12 7 11,mo 5 (.alloc 7 (Wait.enc Wait.zero)) [],oS 7 5 12]
def zcT7:=[oV 13 3,oA 14 0 5,oL 15 3 14,mo 16 (.bslice 3 (Proc.enc Proc.zero)) [.t 15],mo 17 (.append 3 24 (Proc.enc Proc.zero)) [.t 13,.t 16],oV 3 17]
def zcT8:=[oP 18 .add [.t 9,oK 1],oV 9 18]
def zcT9:=[oV 19 3,oV 2 19]
def zcU0:PC:=(.seq (.reg [] zcT2) (.seq (.reg [] zcT3) (.seq (.seq (.reg [6] zcT4) (.block 0 (.loop (.seq (.reg [] zcT5) (.seq (.cond (.t 10) .skip (.exit 0)) (.seq (.block 1 (.seq (.reg [11,12] zcT6) (.reg [13,14,15,16,17] zcT7))) (.reg [18] zcT8))))))) (.seq (.reg [19] zcT9) .ret))))
theorem zff0:chkF C.P 121 zcU0 20 [.t 2] 1=true:=by kernel_rfl
attribute [go_sem] zcT2 zcT3 zcT4 zcT5 zcT6 zcT7 zcT8 zcT9
def zcU1:=[mo 2 .mv [oNi]]
def zcU2:=[oV 6 0,mo 7 .len [.t 6],oP 8 .lss [.t 7,oK 2]]
def zcU3:=[oV 9 0,oV 2 9]
def zcU4:=[oI 3 1]
def zcU5:=[oV 10 3,oV 11 0,mo 12 .len [.t 11],oP 13 .lss [.t 10,.t 12]]
def zcU6:=[oV 16 0,oV 17 3,mo 18 (.iaS 3 (Proc.enc Proc.zero)) [.t 16,.t 17],oL 19 3 18,oV 20 0,oV 21 3,oP 22 .sub [.t 21,oK 1],mo 23 (.iaS 3 (Proc.enc Proc.zero)) [.t 20,.t 22],oL 24 3 23,mo 25 (.eqa false [.i .i64,.i .i64,.i .i64]) [.t 19,.t 24]]
def zcU7:=[oV 26 0,oV 27 3,mo 28 (.slc 3 true false false) [.t 26,.t 27],oV 4 28]
def zcU8:=[oI 5 1]
def zcU9:=[oV 29 5,oV 30 4,mo 31 .len [.t 30],oP 32 .lss [.t 29,.t 31]]
def zbZ9:=[oV 35 4,oV 36 5,mo 37 (.iaS 3 (Proc.enc Proc.zero)) [.t 35,.t 36],oL 38 3 37,oV 39 4,oV 40 5,oP 41 .sub [.t 40,oK 1],mo 42 (.iaS 3 (Proc.enc Proc.zero)) [.t 39,.t 41],oL 43 3 42,mo 44 (.eqa true [.i .i64,.i .i64,.i .i64]) [.t 38,.t 43]]
def zca0:=[oV 45 0,oV 46 3,oV 47 4,oV 48 5,mo 49 (.iaS 3 (Proc.enc Proc.zero)) [.t 47,.t 48],oL 50 3 49,mo 51 (.iaS 3 (Proc.enc Proc.zero)) [.t 45,.t 46],oS 3 51 50]
def zca1:=[oV 52 3,oP 53 .add [.t 52,oK 1],oV 3 53]
def zca2:=[oV 33 5,oP 34 .add [.t 33,oK 1],oV 5 34]
def zca3:=[oV 54 0,oV 55 3,mo 56 (.slc 3 true false false) [.t 54,.t 55],mz (.clear 3 (Proc.enc Proc.zero)) [.t 56]]
def zca4:=[oV 57 0,oV 58 3,mo 59 (.slc 3 false true false) [.t 57,.t 58],oV 2 59]
def zcV0:=[oV 14 3,oP 15 .add [.t 14,oK 1],oV 3 15]
def zca5:=[oV 60 0,oV 2 60]
def zcV1:PC:=(.seq (.reg [] zcU1) (.seq (.seq (.reg [6,7] zcU2) (.cond (.t 8) (.seq (.reg [9] zcU3) .ret) .skip)) (.seq (.seq (.reg [] zcU4) (.block 0 (.loop (.seq (.seq (.reg [10,11,12] zcU5) (.cond (.t 13) .skip (.exit 0))) (.seq (.block 1 (.seq (.regd [16,17,18,19,20,21,22,23,24] zcU6) (.cond (.t 25) (.seq (.reg [26,27,28] zcU7) (.seq (.seq (.reg [] zcU8) (.block 2 (.loop (.seq (.seq (.reg [29,30,31] zcU9) (.cond (.t 32) .skip (.exit 2))) (.seq (.block 3 (.seq (.regd [35,36,37,38,39,40,41,42,43] zbZ9) (.cond (.t 44) (.seq (.reg [45,46,47,48,49,50,51] zca0) (.reg [52,53] zca1)) .skip))) (.reg [33,34] zca2)))))) (.seq (.reg [54,55,56] zca3) (.seq (.reg [57,58,59] zca4) .ret)))) .skip))) (.reg [14,15] zcV0)))))) (.seq (.reg [60] zca5) .ret))))
theorem zff1:chkF C.P 99 zcV1 61 [.t 2] 1=true:=by kernel_rfl
attribute [go_sem] zcU1 zcU2 zcU3 zcU4 zcU5 zcU6 zcU7 zcU8 zcU9 zbZ9 zca0 zca1 zca2 zca3 zca4 zcV0 zca5
def zcV2:=[mo 2 .mv [oNi]]
def zcV3:=[oV 4 0,mo 5 (.append 3 24 (Proc.enc Proc.zero)) [.c (A.full []),.t 4],oV 3 5]
def zcV4:=[oV 6 3,mo 7 (.callm 98) [.t 6,.f 48]]
def zcV5:=[oV 8 3,mo 9 (.callm 99) [.t 8],oV 2 9]
def zcV6:PC:=(.seq (.reg [] zcV2) (.seq (.reg [4,5] zcV3) (.seq (.reg [6,7] zcV4) (.seq (.reg [8,9] zcV5) .ret))))
theorem zff2:chkF C.P 69 zcV6 10 [.t 2] 1=true:=by kernel_rfl
attribute [go_sem] zcV2 zcV3 zcV4 zcV5
def zcV7:=[oB 1 8 0,mo 2 .mv [oNi]]
def zcV8:=[oA 3 4 1,oM 4 1 3,mo 5 (.callm 120) [.t 4],oL 6 8 1,oC 7 121 [.t 6],mo 8 (.append 3 24 (Proc.enc Proc.zero)) [.t 5,.t 7],oC 9 69 [.t 8],oV 2 9]
def zcV9:PC:=(.seq (.reg [] zcV7) (.seq (.regm [3,4,5,6,7,8,9] [[],[0],[1,0],[],[3,2,1,0],[2,4,4,1,0,3,2,1,0,3,2,1,0],[5,5,2,4,4,1,0,3,2,1,0,3,2,1,0,2,4,4,1,0,3,2,1,0,3,2,1,0],[6,6,0,1,2,3,4,5,6,5,5,2,4,4,1,0,3,2,1,0,3,2,1,0,2,4,4,1,0,3,2,1,0,3,2,1,0,5,5,2,4,4,1,0,3,2,1,0,3,2,1,0,2,4,4,1,0,3,2,1,0,3,2,1,0,0,1,0,3,2,1,0,2,4,4,1,0,3,2,1,0,3,2,1,0,5,5,2,4,4,1,0,3,2,1,0,3,2,1,0,2,4,4,1,0,3,2,1,0,3,2,1,0]] zcV8) .ret))
theorem zff3:chkF C.P 97 zcV9 10 [.t 2] 1=true:=by kernel_rfl
attribute [go_sem] zcV7 zcV8
def zcW0:=[mo 2 .mv [oNi]]
def zcW1:=[mo 3 (.nilown 3 (Proc.enc Proc.zero)) [.c (A.full [])]]
def zcW2:=[oV 6 0,mo 7 .len [.t 6],oI 8 0]
def zcW3:=[oP 9 .lss [.t 8,.t 7]]
def zcW4:=[mo 10 (.iaS 8 (Queue.enc Queue.zero)) [.t 6,.t 8],oL 11 8 10,mo 5 (.alloc 8 (Queue.enc Queue.zero)) [],oS 8 5 11]
def zcW5:=[oV 12 3,oL 13 8 5,oC 14 97 [.t 13],mo 15 (.append 3 24 (Proc.enc Proc.zero)) [.t 12,.t 14],oV 3 15]
def zcW6:=[oP 16 .add [.t 8,oK 1],oV 8 16]
def zcW7:=[oV 17 3,oC 18 69 [.t 17],oV 2 18]
def zcW8:PC:=(.seq (.reg [] zcW0) (.seq (.reg [] zcW1) (.seq (.seq (.reg [] zcW2) (.block 0 (.loop (.seq (.reg [] zcW3) (.seq (.cond (.t 9) .skip (.exit 0)) (.seq (.block 1 (.seq (.reg [10,11] zcW4) (.reg [12,13,14,15] zcW5))) (.reg [16] zcW6))))))) (.seq (.reg [17,18] zcW7) .ret))))
theorem zff4:chkF C.P 68 zcW8 19 [.t 2] 1=true:=by kernel_rfl
attribute [go_sem] zcW0 zcW1 zcW2 zcW3 zcW4 zcW5 zcW6 zcW7
def zcW9:=[oB 1 2 0,mo 2 .mv [oNi]]
def zcX0:=[oA 6 0 1,oM 7 1 6,oC 8 68 [.t 7],mo 9 (.append 3 24 (Proc.enc Proc.zero)) [.c (A.full []),.t 8],oV 3 9]
def zcX1:=[oA 10 1 1,oM 11 1 10,mo 12 .len [.t 11],oI 13 0]
def zcX2:=[oP 14 .lss [.t 13,.t 12]]
def zcX3:=[mo 15 (.iaS 9 (Need.enc Need.zero)) [.t 11,.t 13],oL 16 9 15,mo 5 (.alloc 9 (Need.enc Need.zero)) [],oS 9 5 16]
def zcX4:=[oV 17 3,oA 18 0 5,oL 19 3 18,mo 20 (.bslice 3 (Proc.enc Proc.zero)) [.t 19],mo 21 (.append 3 24 (Proc.enc Proc.zero)) [.t 17,.t 20],oV 3 21]
def zcX5:=[oP 22 .add [.t 13,oK 1],oV 13 22]
def zcX6:=[oV 23 3,oC 24 69 [.t 23],oV 2 24]
def zcX7:PC:=(.seq (.reg [] zcW9) (.seq (.reg [6,7,8,9] zcX0) (.seq (.seq (.reg [10] zcX1) (.block 0 (.loop (.seq (.reg [] zcX2) (.seq (.cond (.t 14) .skip (.exit 0)) (.seq (.block 1 (.seq (.reg [15,16] zcX3) (.reg [17,18,19,20,21] zcX4))) (.reg [22] zcX5))))))) (.seq (.reg [23,24] zcX6) .ret))))
theorem zff5:chkF C.P 29 zcX7 25 [.t 2] 1=true:=by kernel_rfl
attribute [go_sem] zcW9 zcX0 zcX1 zcX2 zcX3 zcX4 zcX5 zcX6
def zcX8:=[oB 1 2 0,mo 2 .mv [oFa]]
def zcX9:=[oA 7 0 1,oM 8 1 7,mo 9 .len [.t 8],oP 10 .gtr [.t 9,oK 8],oV 11 10,oG 12 11 false (.faddr 1) [.t 1],oG 13 11 false (.load 1 false) [.t 12],oG 14 11 false .len [.t 13],oG 15 11 false (.bin .gtr) [.t 14,oK 8],mo 16 .pick [.t 11,oTr,.t 15]]
def zcY0:=[mo 2 .mv [oFa]]
def zcY1:=[oA 17 0 1,oM 18 1 17,mo 19 .len [.t 18],oI 20 0]
def zcY2:=[oP 21 .lss [.t 20,.t 19]]
def zcY3:=[oV 22 20,mo 23 (.iaS 8 (Queue.enc Queue.zero)) [.t 18,.t 20],oL 24 8 23,mo 4 (.alloc 8 (Queue.enc Queue.zero)) [],oV 3 22,oS 8 4 24]
def zcY4:=[oL 25 8 4,oC 26 45 [.t 25],mo 27 .not [.t 26],oV 28 27,oG 29 28 false .mv [.t 3],oG 30 28 false (.bin .gtr) [.t 29,oK 0],oG 31 28 false .mv [.t 30],oG 32 31 true (.faddr 0) [.t 1],oG 33 31 true (.load 1 false) [.t 32],oG 34 31 true .mv [.t 3],oG 35 31 true (.bin .sub) [.t 34,oK 1],oG 36 31 true (.iaS 8 (Queue.enc Queue.zero)) [.t 33,.t 35],
 oG 37 31 true (.faddr 0) [.t 36],oG 38 31 true (.faddr 0) [.t 37],oG 39 31 true (.load 1 false) [.t 38],oG 40 31 true (.faddr 0) [.t 4],oG 41 31 true (.faddr 0) [.t 40],oG 42 31 true (.load 1 false) [.t 41],oG 43 31 true (.bin .geq) [.t 39,.t 42],oG 44 28 false .pick [.t 31,.t 43,oFa],mo 45 .pick [.t 28,oTr,.t 44]]
def zcY5:=[mo 2 .mv [oFa]]
def zcY6:=[oP 46 .add [.t 20,oK 1],oV 20 46]
def zcY7:=[oA 47 1 1,oM 48 1 47,mo 49 .len [.t 48],oI 50 0]
def zca6:=[oP 51 .lss [.t 50,.t 49]]
def zca7:=[oV 52 50,mo 53 (.iaS 9 (Need.enc Need.zero)) [.t 48,.t 50],oL 54 9 53,mo 6 (.alloc 9 (Need.enc Need.zero)) [],oV 5 52,oS 9 6 54]
def zca8:=[oA 55 0 6,oL 56 3 55,oC 57 46 [.t 56],mo 58 .not [.t 57],oV 59 58,oG 60 59 false (.faddr 8) [.t 6],oG 61 59 false (.load 1 false) [.t 60],oG 62 59 false (.bin .lss) [.t 61,oK 0],mo 63 .pick [.t 59,oTr,.t 62],oV 64 63,oG 65 64 false (.faddr 8) [.t 6],oG 66 64 false (.load 1 false) [.t 65],
 oG 67 64 false (.bin .gtr) [.t 66,oK 1073741824],mo 68 .pick [.t 64,oTr,.t 67],oV 69 68,oG 70 69 false (.faddr 3) [.t 6],oG 71 69 false (.load 5 true) [.t 70],oG 72 69 false (.call 47) [.t 71],oG 73 69 false .not [.t 72],mo 74 .pick [.t 69,oTr,.t 73]]
def zca9:=[mo 2 .mv [oFa]]
def zcb0:=[oV 75 5,oP 76 .gtr [.t 75,oK 0],oV 77 76,oG 78 77 true (.faddr 1) [.t 1],oG 79 77 true (.load 1 false) [.t 78],oG 80 77 true .mv [.t 5],oG 81 77 true (.bin .sub) [.t 80,oK 1],oG 82 77 true (.iaS 9 (Need.enc Need.zero)) [.t 79,.t 81],oG 83 77 true (.faddr 0) [.t 82],oG 84 77 true (.load 3 true) [.t 83],
 oG 85 77 true (.faddr 0) [.t 6],oG 86 77 true (.load 3 true) [.t 85],oG 87 77 true (.call 48) [.t 84,.t 86],oG 88 77 true (.bin .geq) [.t 87,oK 0],mo 89 .pick [.t 77,.t 88,oFa]]
def zcb1:=[mo 2 .mv [oFa]]
def zcb2:=[oP 90 .add [.t 50,oK 1],oV 50 90]
def zcb3:=[oL 91 2 1,oC 92 29 [.t 91],mo 93 .len [.t 92],oP 94 .leq [.t 93,oK 8],oV 2 94]
def zcY8:PC:=(.seq (.reg [] zcX8) (.seq (.seq (.reg [7,8,9,10,11,12,13,14,15] zcX9) (.cond (.t 16) (.seq (.reg [] zcY0) .ret) .skip)) (.seq (.seq (.reg [17] zcY1) (.block 0 (.loop (.seq (.reg [] zcY2) (.seq (.cond (.t 21) .skip (.exit 0)) (.seq (.block 1 (.seq (.reg [22,23,24] zcY3) (.seq (.regd [25,26,27,28,29,30,31,32,33,34,35,36,37,38,39,40,41,42,43,44] zcY4) (.cond (.t 45) (.seq (.reg [] zcY5) .ret) .skip)))) (.reg [46] zcY6))))))) (.seq (.seq (.reg [47] zcY7) (.block 2 (.loop (.seq (.reg [] zca6) (.seq (.cond (.t 51) .skip (.exit 2)) (.seq (.block 3 (.seq (.reg [52,53,54] zca7) (.seq (.seq (.reg [55,56,57,58,59,60,61,62,63,64,65,66,67,68,69,70,71,72,73] zca8) (.cond (.t 74) (.seq (.reg [] zca9) .ret) .skip)) (.seq (.regd [75,76,77,78,79,80,81,82,83,84,85,86,87,88] zcb0) (.cond (.t 89) (.seq (.reg [] zcb1) .ret) .skip))))) (.reg [90] zcb2))))))) (.seq (.reg [91,92,93,94] zcb3) .ret)))))
theorem zff6:chkF C.P 18 zcY8 95 [.t 2] 1=true:=by kernel_rfl
attribute [go_sem] zcX8 zcX9 zcY0 zcY1 zcY2 zcY3 zcY4 zcY5 zcY6 zcY7 zca6 zca7 zca8 zca9 zcb0 zcb1 zcb2 zcb3
def zcY9:=[mo 2 (.alloc 2 (WaitState.enc WaitState.zero)) [],oI 3 0]
def zcZ0:=[oV 9 0,mo 10 (.build (waitstateReader.enc waitstateReader.zero) [(0,1)]) [.t 9],mo 11 (.build (decoder.enc decoder.zero) [(0,2)]) [.t 10],oB 12 2 11,oV 4 12]
def zcZ1:=[mo 5 (.alloc 2 [A.full [],A.full []]) []]
def zcZ2:=[oV 13 4,mo 14 .nilck [.t 13],oA 15 0 14,mo 16 (.callm 13) [.t 15,oK 8],oV 6 16]
def zcZ3:=[oV 17 6,oP 18 .gtr [.t 17,oK 0],oV 19 18,oG 20 19 true .mv [.t 4],oG 21 19 true .nilck [.t 20],oG 22 19 true (.faddr 0) [.t 21],oG 23 19 true (.faddr 1) [.t 22],oG 24 19 true (.load 1 false) [.t 23],oG 25 19 true (.bin .eql) [.t 24,oK 0],mo 26 .pick [.t 19,.t 25,oFa]]
def zcZ4:=[oA 29 0 5,oM 30 1 29,oV 31 4,mo 32 (.callm 14) [.t 31],mo 33 (.bslice 8 (Queue.enc Queue.zero)) [.t 32],mo 34 (.append 8 120 (Queue.enc Queue.zero)) [.t 30,.t 33],oA 35 0 5,oS 1 35 34]
def zcZ5:=[oV 27 6,oP 28 .sub [.t 27,oK 1],oV 6 28]
def zcZ6:=[oV 36 4,mo 37 .nilck [.t 36],oA 38 0 37,mo 39 (.callm 13) [.t 38,oK 8],oV 7 39]
def zcZ7:=[oV 40 7,oP 41 .gtr [.t 40,oK 0],oV 42 41,oG 43 42 true .mv [.t 4],oG 44 42 true .nilck [.t 43],oG 45 42 true (.faddr 0) [.t 44],oG 46 42 true (.faddr 1) [.t 45],oG 47 42 true (.load 1 false) [.t 46],oG 48 42 true (.bin .eql) [.t 47,oK 0],mo 49 .pick [.t 42,.t 48,oFa]]
def zcb4:=[oV 52 4,mo 53 .nilck [.t 52],oA 54 0 53,mo 55 (.callm 15) [.t 54],mo 56 (.build (Need.enc Need.zero) [(0,3)]) [.t 55],mo 8 (.alloc 9 (Need.enc Need.zero)) [],oS 9 8 56]
def zcb5:=[oV 57 4,mo 58 .nilck [.t 57],oA 59 0 58,mo 60 (.callm 16) [.t 59],oA 61 8 8,oS 1 61 60]
def zcb6:=[oV 62 4,mo 63 (.callm 17) [.t 62,oK 1],oA 64 3 8,oS 5 64 63]
def zcb7:=[oA 65 1 5,oM 66 1 65,oL 67 9 8,mo 68 (.bslice 9 (Need.enc Need.zero)) [.t 67],mo 69 (.append 9 96 (Need.enc Need.zero)) [.t 66,.t 68],oA 70 1 5,oS 1 70 69]
def zcZ8:=[oV 50 7,oP 51 .sub [.t 50,oK 1],oV 7 51]
def zcb8:=[oV 72 4,mo 73 .nilck [.t 72],oA 74 0 73,oA 75 1 74,oM 76 1 75,oP 77 .neq [.t 76,oK 0],oV 71 77]
def zcb9:=[mo 78 (.build (WaitState.enc WaitState.zero) []) [],oV 79 4,mo 80 .nilck [.t 79],oA 81 0 80,oA 82 1 81,oM 83 1 82,oS 2 2 78,oV 3 83]
def zcc0:=[oV 85 4,mo 86 .nilck [.t 85],oA 87 0 86,oA 88 0 87,oM 89 1 88,mo 90 .len [.t 89],oP 91 .gtr [.t 90,oK 0],oV 84 91]
def zcc1:=[mo 92 (.build (WaitState.enc WaitState.zero) []) [],oS 2 2 92,oI 3 6]
def zcc2:=[oL 94 2 5,oC 95 18 [.t 94],mo 96 .not [.t 95],oV 93 96]
def zcc3:=[mo 97 (.build (WaitState.enc WaitState.zero) []) [],oS 2 2 97,oI 3 2]
def zcc4:=[oL 98 2 5,oS 2 2 98,oI 3 0]
def zcZ9:PC:=(.seq (.reg [] zcY9) (.seq (.reg [9,10,11,12] zcZ0) (.seq (.reg [] zcZ1) (.seq (.seq (.reg [13,14,15,16] zcZ2) (.block 0 (.loop (.seq (.seq (.reg [17,18,19,20,21,22,23,24,25] zcZ3) (.cond (.t 26) .skip (.exit 0))) (.seq (.block 1 (.regm [29,30,31,32,33,34,35] [[],[0],[],[2],[3,2],[1,4,3,0,3,2,2],[0,1,2,3,4,5,0,2,3,2,1,4,3,0,3,2,2],[6,5,5,0,1,2,3,4,5,0,1,2,3,4,5,0,2,3,2,1,4,3,0,3,2,2,1,4,3,0,3,2,2,1,4,3,0,3,2,2,0,2,3,2,1,4,3,0,3,2,2]] zcZ4)) (.reg [27,28] zcZ5)))))) (.seq (.seq (.reg [36,37,38,39] zcZ6) (.block 2 (.loop (.seq (.seq (.reg [40,41,42,43,44,45,46,47,48] zcZ7) (.cond (.t 49) .skip (.exit 2))) (.seq (.block 3 (.seq (.reg [52,53,54,55,56] zcb4) (.seq (.reg [57,58,59,60,61] zcb5) (.seq (.reg [62,63,64] zcb6) (.reg [65,66,67,68,69,70] zcb7))))) (.reg [50,51] zcZ8)))))) (.seq (.block 4 (.seq (.reg [72,73,74,75,76,77] zcb8) (.cond (.t 71) (.seq (.regm [78,79,80,81,82,83] [[],[],[1],[2,1],[3,2,1],[4,3,2,1],[0,0],[5,6,0,1,2,3,4,5,6,4,3,2,1,0,0,1,2,1,3,2,1,4,3,2,1,0,0]] zcb9) .ret) (.seq (.reg [85,86,87,88,89,90,91] zcc0) (.cond (.t 84) (.seq (.reg [92] zcc1) .ret) (.seq (.reg [94,95,96] zcc2) (.cond (.t 93) (.seq (.reg [97] zcc3) .ret) .skip))))))) (.seq (.reg [98] zcc4) .ret)))))))
theorem zff7:chkF C.P 5 zcZ9 99 [.c 2 2 true,.t 3] 1=true:=by kernel_rfl
attribute [go_sem] zcY9 zcZ0 zcZ1 zcZ2 zcZ3 zcZ4 zcZ5 zcZ6 zcZ7 zcb4 zcb5 zcb6 zcb7 zcZ8 zcb8 zcb9 zcc0 zcc1 zcc2 zcc3 zcc4
def zda0:=[mo 2 .mv [.c (A.int .u64 0)],oI 3 0,oI 4 0]
def zda1:=[mo 5 .mv [.c (A.int .u64 0)]]
def zda2:=[oI 6 0]
def zda3:=[oV 8 6,oP 9 .lss [.t 8,oK 10]]
def zda4:=[oV 12 6,oV 13 0,mo 14 .len [.t 13],oP 15 .geq [.t 12,.t 14]]
def zda5:=[mo 2 .mv [.c (A.int .u64 0)],oI 3 0,oI 4 5]
def zda6:=[oV 16 0,oV 17 6,mo 18 (.iaS 1 [A.int .u8 0]) [.t 16,.t 17],oM 19 1 18,oV 7 19]
def zda7:=[oV 20 6,oP 21 .eql [.t 20,oK 9],oV 22 21,oG 23 22 true .mv [.t 7],oG 24 22 true (.bin .gtr) [.t 23,.c (A.int .u8 1)],mo 25 .pick [.t 22,.t 24,oFa],oV 26 25,oG 27 26 false .mv [.t 7],oG 28 26 false (.bin .eql) [.t 27,.c (A.int .u8 0)],oG 29 26 false .mv [.t 28],oG 30 29 true .mv [.t 6],oG 31 29 true (.bin .gtr) [.t 30,oK 0],
 oG 32 26 false .pick [.t 29,.t 31,oFa],mo 33 .pick [.t 26,oTr,.t 32]]
def zda8:=[mo 2 .mv [.c (A.int .u64 0)],oI 3 0,oI 4 6]
def zcc5:=[oV 34 5,oV 35 7,oP 36 .and [.t 35,.c (A.int .u8 127)],mo 37 (.conv .u64) [.t 36],oV 38 6,oP 39 .mul [oK 7,.t 38],mo 40 (.conv .u64) [.t 39],oP 41 .shl [.t 37,.t 40],oP 42 .or [.t 34,.t 41],oV 5 42]
def zcc6:=[oV 43 7,oP 44 .lss [.t 43,.c (A.int .u8 128)]]
def zcc7:=[oV 45 5,oV 46 6,oP 47 .add [.t 46,oK 1],oV 2 45,oV 3 47,oI 4 0]
def zda9:=[oV 10 6,oP 11 .add [.t 10,oK 1],oV 6 11]
def zcc8:=[mo 2 .mv [.c (A.int .u64 0)],oI 3 0,oI 4 6]
def zdb0:PC:=(.seq (.reg [] zda0) (.seq (.reg [] zda1) (.seq (.seq (.reg [] zda2) (.block 0 (.loop (.seq (.seq (.reg [8] zda3) (.cond (.t 9) .skip (.exit 0))) (.seq (.block 1 (.seq (.seq (.reg [12,13,14] zda4) (.cond (.t 15) (.seq (.reg [] zda5) .ret) .skip)) (.seq (.reg [16,17,18,19] zda6) (.seq (.seq (.reg [20,21,22,23,24,25,26,27,28,29,30,31,32] zda7) (.cond (.t 33) (.seq (.reg [] zda8) .ret) .skip)) (.seq (.reg [34,35,36,37,38,39,40,41,42] zcc5) (.seq (.reg [43] zcc6) (.cond (.t 44) (.seq (.reg [45,46,47] zcc7) .ret) .skip))))))) (.reg [10,11] zda9)))))) (.seq (.reg [] zcc8) .ret))))
theorem zff8:chkF C.P 82 zdb0 48 [.t 2,.t 3,.t 4] 1=true:=by kernel_rfl
attribute [go_sem] zda0 zda1 zda2 zda3 zda4 zda5 zda6 zda7 zda8 zcc5 zcc6 zcc7 zda9 zcc8
def zdb1:=[oI 6 0]
def zdb2:=[oV 10 0,mo 11 .nilck [.t 10],oA 12 2 11,oM 13 1 12,oP 14 .neq [.t 13,oK 0]]
def zdb3:=[oI 6 0]
def zdb4:=[oV 16 0,mo 17 .nilck [.t 16],oA 18 0 17,oM 19 1 18,oV 20 0,mo 21 .nilck [.t 20],oA 22 1 21,oM 23 1 22,mo 24 (.slc 1 true false false) [.t 19,.t 23],oC 25 82 [.t 24],oV 15 25,oE 26 0 15,oE 27 1 15,oE 28 2 15,oV 7 26,oV 8 27,oV 9 28]
def zdb5:=[oV 29 9,oP 30 .neq [.t 29,oK 0]]
def zdb6:=[oV 31 0,oV 32 9,mo 33 .nilck [.t 31],oA 34 2 33,oS 1 34 32]
def zdb7:=[oI 6 0]
def zdb8:=[oV 35 0,oV 36 0,mo 37 .nilck [.t 36],oA 38 1 37,oM 39 1 38,oV 40 8,oP 41 .add [.t 39,.t 40],mo 42 .nilck [.t 35],oA 43 1 42,oS 1 43 41]
def zdb9:=[oV 44 7,oV 45 1,mo 46 (.conv .u64) [.t 45],oP 47 .gtr [.t 44,.t 46]]
def zdc0:=[oV 48 0,oV 49 2,mo 50 .nilck [.t 48],oA 51 2 50,oS 1 51 49]
def zcc9:=[oI 6 0]
def zcd0:=[oV 52 7,mo 53 (.conv .i64) [.t 52],oV 6 53]
def zdc1:PC:=(.seq (.reg [] zdb1) (.seq (.seq (.reg [10,11,12,13] zdb2) (.cond (.t 14) (.seq (.reg [] zdb3) .ret) .skip)) (.seq (.regd [15,16,17,18,19,20,21,22,23,24,25,26,27,28] zdb4) (.seq (.seq (.reg [29] zdb5) (.cond (.t 30) (.seq (.reg [31,32,33,34] zdb6) (.seq (.reg [] zdb7) .ret)) .skip)) (.seq (.reg [35,36,37,38,39,40,41,42,43] zdb8) (.seq (.seq (.reg [44,45,46] zdb9) (.cond (.t 47) (.seq (.reg [48,49,50,51] zdc0) (.seq (.reg [] zcc9) .ret)) .skip)) (.seq (.reg [52,53] zcd0) .ret)))))))
theorem zff9:chkF C.P 49 zdc1 54 [.t 6] 3=true:=by kernel_rfl
attribute [go_sem] zdb1 zdb2 zdb3 zdb4 zdb5 zdb6 zdb7 zdb8 zdb9 zdc0 zcc9 zcd0
def zdc2:=[oI 4 0]
def zdc3:=[oV 5 0,oV 6 1,mo 7 (.callm 49) [.t 5,.t 6,oK 4],oV 4 7]
def zdc4:PC:=(.seq (.reg [] zdc2) (.seq (.reg [5,6,7] zdc3) .ret))
theorem zfg0:chkF C.P 19 zdc4 8 [.t 4] 2=true:=by kernel_rfl
attribute [go_sem] zdc2 zdc3
def zdc5:=[mo 2 .mv [.c (A.str ⟨#[]⟩)],oI 3 0,oI 4 0]
def zdc6:=[oV 9 0,oC 10 82 [.t 9],oV 8 10,oE 11 0 8,oE 12 1 8,oE 13 2 8,oV 5 11,oV 6 12,oV 7 13]
def zdc7:=[oV 14 7,oP 15 .neq [.t 14,oK 0]]
def zdc8:=[oV 16 7,mo 2 .mv [.c (A.str ⟨#[]⟩)],oI 3 0,oV 4 16]
def zdc9:=[oV 17 5,oP 18 .gtr [.t 17,.c (A.int .u64 1024)]]
def zdd0:=[mo 2 .mv [.c (A.str ⟨#[]⟩)],oI 3 0,oI 4 3]
def zdd1:=[oV 19 0,mo 20 .len [.t 19],oV 21 6,oP 22 .sub [.t 20,.t 21],oV 23 5,mo 24 (.conv .i64) [.t 23],oP 25 .lss [.t 22,.t 24]]
def zdd2:=[mo 2 .mv [.c (A.str ⟨#[]⟩)],oI 3 0,oI 4 5]
def zdd3:=[oV 26 0,oV 27 6,oV 28 6,oV 29 5,mo 30 (.conv .i64) [.t 29],oP 31 .add [.t 28,.t 30],mo 32 (.slc 1 true true false) [.t 26,.t 27,.t 31],mo 33 .cvS [.t 32],oV 34 6,oV 35 5,mo 36 (.conv .i64) [.t 35],oP 37 .add [.t 34,.t 36],oV 2 33,oV 3 37,oI 4 0]
def zdd4:PC:=(.seq (.reg [] zdc5) (.seq (.reg [8,9,10,11,12,13] zdc6) (.seq (.seq (.reg [14] zdc7) (.cond (.t 15) (.seq (.reg [16] zdc8) .ret) .skip)) (.seq (.seq (.reg [17] zdc9) (.cond (.t 18) (.seq (.reg [] zdd0) .ret) .skip)) (.seq (.seq (.reg [19,20,21,22,23,24] zdd1) (.cond (.t 25) (.seq (.reg [] zdd2) .ret) .skip)) (.seq (.reg [26,27,28,29,30,31,32,33,34,35,36,37] zdd3) .ret))))))
theorem zfg1:chkF C.P 83 zdd4 38 [.t 2,.t 3,.t 4] 1=true:=by kernel_rfl
attribute [go_sem] zdc5 zdc6 zdc7 zdc8 zdc9 zdd0 zdd1 zdd2 zdd3
def zdd5:=[mo 2 .mv [.c (A.str ⟨#[]⟩)]]
def zdd6:=[oV 6 0,mo 7 .nilck [.t 6],oA 8 2 7,oM 9 1 8,oP 10 .neq [.t 9,oK 0]]
def zdd7:=[mo 2 .mv [.c (A.str ⟨#[]⟩)]]
def zdd8:=[oV 12 0,mo 13 .nilck [.t 12],oA 14 0 13,oM 15 1 14,oV 16 0,mo 17 .nilck [.t 16],oA 18 1 17,oM 19 1 18,mo 20 (.slc 1 true false false) [.t 15,.t 19],oC 21 83 [.t 20],oV 11 21,oE 22 0 11,oE 23 1 11,oE 24 2 11,oV 3 22,oV 4 23,oV 5 24]
def zdd9:=[oV 25 5,oP 26 .neq [.t 25,oK 0]]
def zde0:=[oV 27 0,oV 28 5,mo 29 .nilck [.t 27],oA 30 2 29,oS 1 30 28]
def zde1:=[mo 2 .mv [.c (A.str ⟨#[]⟩)]]
def zde2:=[oV 31 0,oV 32 0,mo 33 .nilck [.t 32],oA 34 1 33,oM 35 1 34,oV 36 4,oP 37 .add [.t 35,.t 36],mo 38 .nilck [.t 31],oA 39 1 38,oS 1 39 37]
def zde3:=[oV 40 3,oV 2 40]
def zde4:PC:=(.seq (.reg [] zdd5) (.seq (.seq (.reg [6,7,8,9] zdd6) (.cond (.t 10) (.seq (.reg [] zdd7) .ret) .skip)) (.seq (.regd [11,12,13,14,15,16,17,18,19,20,21,22,23,24] zdd8) (.seq (.seq (.reg [25] zdd9) (.cond (.t 26) (.seq (.reg [27,28,29,30] zde0) (.seq (.reg [] zde1) .ret)) .skip)) (.seq (.reg [31,32,33,34,35,36,37,38,39] zde2) (.seq (.reg [40] zde3) .ret))))))
theorem zfg2:chkF C.P 50 zde4 41 [.t 2] 1=true:=by kernel_rfl
attribute [go_sem] zdd5 zdd6 zdd7 zdd8 zdd9 zde0 zde1 zde2 zde3
def zde5:=[oI 2 0]
def zde6:=[oV 3 0,mo 4 (.callm 49) [.t 3,oK 1073741824,oK 16],oV 2 4]
def zde7:PC:=(.seq (.reg [] zde5) (.seq (.reg [3,4] zde6) .ret))
theorem zfg3:chkF C.P 22 zde7 5 [.t 2] 1=true:=by kernel_rfl
attribute [go_sem] zde5 zde6
def zde8:=[oB 1 3 0,mo 2 .mv [oFa]]
def zde9:=[oA 3 0 1,oM 4 1 3,oP 5 .geq [.t 4,oK 0],oV 6 5,oG 7 6 true (.faddr 0) [.t 1],oG 8 6 true (.load 1 false) [.t 7],oG 9 6 true (.bin .lss) [.t 8,oK 4],mo 10 .pick [.t 6,.t 9,oFa],oV 11 10,oG 12 11 true (.faddr 1) [.t 1],oG 13 11 true (.load 1 false) [.t 12],oG 14 11 true (.bin .geq) [.t 13,oK 1],
 mo 15 .pick [.t 11,.t 14,oFa],oV 16 15,oG 17 16 true (.faddr 1) [.t 1],oG 18 16 true (.load 1 false) [.t 17],oG 19 16 true (.bin .leq) [.t 18,oK 99],mo 20 .pick [.t 16,.t 19,oFa],oV 21 20,oG 22 21 true (.faddr 2) [.t 1],oG 23 21 true (.load 1 false) [.t 22],oG 24 21 true (.bin .geq) [.t 23,oK 1],mo 25 .pick [.t 21,.t 24,oFa],
 oV 26 25,oG 27 26 true (.faddr 2) [.t 1],oG 28 26 true (.load 1 false) [.t 27],oG 29 26 true (.bin .leq) [.t 28,oK 999],mo 30 .pick [.t 26,.t 29,oFa],oV 2 30]
def zdf0:PC:=(.seq (.reg [] zde8) (.seq (.reg [3,4,5,6,7,8,9,10,11,12,13,14,15,16,17,18,19,20,21,22,23,24,25,26,27,28,29,30] zde9) .ret))
theorem zfg4:chkF C.P 54 zdf0 31 [.t 2] 1=true:=by kernel_rfl
attribute [go_sem] zde8 zde9
def zdf1:=[mo 2 (.alloc 3 (Proc.enc Proc.zero)) [],oI 3 0,oI 4 0]
def zdf2:=[mo 5 (.alloc 3 (Arr.enc (eI .u64) (Arr.rep 3 0))) []]
def zdf3:=[oI 6 0]
def zdf4:=[oI 7 0]
def zdf5:=[oV 12 7,oP 13 .lss [.t 12,oK 3]]
def zdf6:=[oV 17 0,oV 18 6,mo 19 (.slc 1 true false false) [.t 17,.t 18],oC 20 82 [.t 19],oV 16 20,oE 21 0 16,oE 22 1 16,oE 23 2 16,oV 8 21,oV 9 22,oV 10 23]
def zdf7:=[oV 24 10,oP 25 .neq [.t 24,oK 0]]
def zdf8:=[mo 26 (.build (Proc.enc Proc.zero) []) [],oV 27 10,oS 3 2 26,oI 3 0,oV 4 27]
def zdf9:=[oV 28 7,oV 29 8,mo 30 (.iaA 3 1) [.t 5,.t 28],oS 1 30 29]
def zcd1:=[oV 31 6,oV 32 9,oP 33 .add [.t 31,.t 32],oV 6 33]
def zdg0:=[oV 14 7,oP 15 .add [.t 14,oK 1],oV 7 15]
def zcd2:=[mo 34 (.iaA 3 1) [.t 5,oK 0],oM 35 1 34,oP 36 .gtr [.t 35,.c (A.int .u64 1073741824)],oV 37 36,oG 38 37 false (.iaA 3 1) [.t 5,oK 1],oG 39 37 false (.load 1 false) [.t 38],oG 40 37 false (.bin .gtr) [.t 39,.c (A.int .u64 1073741824)],mo 41 .pick [.t 37,oTr,.t 40],oV 42 41,oG 43 42 false (.iaA 3 1) [.t 5,oK 2],
 oG 44 42 false (.load 1 false) [.t 43],oG 45 42 false (.bin .gtr) [.t 44,.c (A.int .u64 1073741824)],mo 46 .pick [.t 42,oTr,.t 45]]
def zcd3:=[mo 47 (.build (Proc.enc Proc.zero) []) [],oS 3 2 47,oI 3 0,oI 4 2]
def zcd4:=[mo 48 (.iaA 3 1) [.t 5,oK 0],oM 49 1 48,mo 50 (.conv .i64) [.t 49],mo 51 (.iaA 3 1) [.t 5,oK 1],oM 52 1 51,mo 53 (.conv .i64) [.t 52],mo 54 (.iaA 3 1) [.t 5,oK 2],oM 55 1 54,mo 56 (.conv .i64) [.t 55],mo 57 (.build (Proc.enc Proc.zero) [(0,1),(1,1),(2,1)]) [.t 50,.t 53,.t 56],mo 11 (.alloc 3 (Proc.enc Proc.zero)) [],
 oS 3 11 57]
def zcd5:=[oL 58 3 11,oC 59 54 [.t 58],mo 60 .not [.t 59]]
def zcd6:=[mo 61 (.build (Proc.enc Proc.zero) []) [],oS 3 2 61,oI 3 0,oI 4 2]
def zcd7:=[oL 62 3 11,oV 63 6,oS 3 2 62,oV 3 63,oI 4 0]
def zdg1:PC:=(.seq (.reg [] zdf1) (.seq (.reg [] zdf2) (.seq (.reg [] zdf3) (.seq (.seq (.reg [] zdf4) (.block 0 (.loop (.seq (.seq (.reg [12] zdf5) (.cond (.t 13) .skip (.exit 0))) (.seq (.block 1 (.seq (.reg [16,17,18,19,20,21,22,23] zdf6) (.seq (.seq (.reg [24] zdf7) (.cond (.t 25) (.seq (.reg [26,27] zdf8) .ret) .skip)) (.seq (.reg [28,29,30] zdf9) (.reg [31,32,33] zcd1))))) (.reg [14,15] zdg0)))))) (.seq (.seq (.reg [34,35,36,37,38,39,40,41,42,43,44,45] zcd2) (.cond (.t 46) (.seq (.reg [47] zcd3) .ret) .skip)) (.seq (.reg [48,49,50,51,52,53,54,55,56,57] zcd4) (.seq (.seq (.reg [58,59] zcd5) (.cond (.t 60) (.seq (.reg [61] zcd6) .ret) .skip)) (.seq (.reg [62,63] zcd7) .ret))))))))
theorem zfg5:chkF C.P 52 zdg1 64 [.c 2 3 true,.t 3,.t 4] 1=true:=by kernel_rfl
attribute [go_sem] zdf1 zdf2 zdf3 zdf4 zdf5 zdf6 zdf7 zdf8 zdf9 zcd1 zdg0 zcd2 zcd3 zcd4 zcd5 zcd6 zcd7
def zdg2:=[mo 2 (.alloc 3 (Proc.enc Proc.zero)) []]
def zdg3:=[oV 6 0,mo 7 .nilck [.t 6],oA 8 2 7,oM 9 1 8,oP 10 .neq [.t 9,oK 0]]
def zdg4:=[mo 11 (.build (Proc.enc Proc.zero) []) [],oS 3 2 11]
def zdg5:=[oV 13 0,mo 14 .nilck [.t 13],oA 15 0 14,oM 16 1 15,oV 17 0,mo 18 .nilck [.t 17],oA 19 1 18,oM 20 1 19,mo 21 (.slc 1 true false false) [.t 16,.t 20],oC 22 52 [.t 21],oV 12 22,oE 23 0 12,oE 24 1 12,oE 25 2 12,mo 3 (.alloc 3 (Proc.enc Proc.zero)) [],oS 3 3 23,oV 4 24,oV 5 25]
def zdg6:=[oV 26 5,oP 27 .neq [.t 26,oK 0]]
def zdg7:=[oV 28 0,oV 29 5,mo 30 .nilck [.t 28],oA 31 2 30,oS 1 31 29]
def zdg8:=[mo 32 (.build (Proc.enc Proc.zero) []) [],oS 3 2 32]
def zdg9:=[oV 33 0,oV 34 0,mo 35 .nilck [.t 34],oA 36 1 35,oM 37 1 36,oV 38 4,oP 39 .add [.t 37,.t 38],mo 40 .nilck [.t 33],oA 41 1 40,oS 1 41 39]
def zdh0:=[oL 42 3 3,oS 3 2 42]
def zdh1:PC:=(.seq (.reg [] zdg2) (.seq (.seq (.reg [6,7,8,9] zdg3) (.cond (.t 10) (.seq (.reg [11] zdg4) .ret) .skip)) (.seq (.regm [12,13,14,15,16,17,18,19,20,21,22,23,24,25] [[],[0],[1,0],[2,1,0],[],[4],[5,4],[6,5,4],[3,7,2,1,0,6,5,4],[8,3,7,2,1,0,6,5,4],[9,8,3,7,2,1,0,6,5,4],[10,9,8,3,7,2,1,0,6,5,4],[10,9,8,3,7,2,1,0,6,5,4],[10,9,8,3,7,2,1,0,6,5,4],[],[14,11,9,0,1,2,3,4,5,6,7,8,9,10,11,14,10,9,8,3,7,2,1,0,6,5,4,8,3,7,2,1,0,6,5,4,0,1,0,2,1,0,4,5,4,6,5,4,3,7,2,1,0,6,5,4,8,3,7,2,1,0,6,5,4,9,8,3,7,2,1,0,6,5,4,10,9,8,3,7,2,1,0,6,5,4],[12,15,0,1,2,3,4,5,6,7,8,9,10,11,12,14,15,10,9,8,3,7,2,1,0,6,5,4,14,11,9,0,1,2,3,4,5,6,7,8,9,10,11,14,10,9,8,3,7,2,1,0,6,5,4,8,3,7,2,1,0,6,5,4,0,1,0,2,1,0,4,5,4,6,5,4,3,7,2,1,0,6,5,4,8,3,7,2,1,0,6,5,4,9,8,3,7,2,1,0,6,5,4,10,9,8,3,7,2,1,0,6,5,4,0,1,0,2,1,0,4,5,4,6,5,4,3,7,2,1,0,6,5,4,8,3,7,2,1,0,6,5,4,9,8,3,7,2,1,0,6,5,4,10,9,8,3,7,2,1,0,6,5,4,10,9,8,3,7,2,1,0,6,5,4,14,11,9,0,1,2,3,4,5,6,7,8,9,10,11,14,10,9,8,3,7,2,1,0,6,5,4,8,3,7,2,1,0,6,5,4,0,1,0,2,1,0,4,5,4,6,5,4,3,7,2,1,0,6,5,4,8,3,7,2,1,0,6,5,4,9,8,3,7,2,1,0,6,5,4,10,9,8,3,7,2,1,0,6,5,4],[13,16,0,1,2,3,4,5,6,7,8,9,10,11,12,13,14,15,16,10,9,8,3,7,2,1,0,6,5,4,12,15,0,1,2,3,4,5,6,7,8,9,10,11,12,14,15,10,9,8,3,7,2,1,0,6,5,4,14,11,9,0,1,2,3,4,5,6,7,8,9,10,11,14,10,9,8,3,7,2,1,0,6,5,4,8,3,7,2,1,0,6,5,4,0,1,0,2,1,0,4,5,4,6,5,4,3,7,2,1,0,6,5,4,8,3,7,2,1,0,6,5,4,9,8,3,7,2,1,0,6,5,4,10,9,8,3,7,2,1,0,6,5,4,0,1,0,2,1,0,4,5,4,6,5,4,3,7,2,1,0,6,5,4,8,3,7,2,1,0,6,5,4,9,8,3,7,2,1,0,6,5,4,10,9,8,3,7,2,1,0,6,5,4,10,9,8,3,7,2,1,0,6,5,4,14,11,9,0,1,2,3,4,5,6,7,8,9,10,11,14,10,9,8,3,7,2,1,0,6,5,4,8,3,7,2,1,0,6,5,4,0,1,0,2,1,0,4,5,4,6,5,4,3,7,2,1,0,6,5,4,8,3,7,2,1,0,6,5,4,9,8,3,7,2,1,0,6,5,4,10,9,8,3,7,2,1,0,6,5,4,0,1,0,2,1,0,4,5,4,6,5,4,3,7,2,1,0,6,5,4,8,3,7,2,1,0,6,5,4,9,8,3,7,2,1,0,6,5,4,10,9,8,3,7,2,1,0,6,5,4,10,9,8,3,7,2,1,0,6,5,4,10,9,8,3,7,2,1,0,6,5,4,14,11,9,0,1,2,3,4,5,6,7,8,9,10,11,14,10,9,8,3,7,2,1,0,6,5,4,8,3,7,2,1,0,6,5,4,0,1,0,2,1,0,4,5,4,6,5,4,3,7,2,1,0,6,5,4,8,3,7,2,1,0,6,5,4,9,8,3,7,2,1,0,6,5,4,10,9,8,3,7,2,1,0,6,5,4,12,15,0,1,2,3,4,5,6,7,8,9,10,11,12,14,15,10,9,8,3,7,2,1,0,6,5,4,14,11,9,0,1,2,3,4,5,6,7,8,9,10,11,14,10,9,8,3,7,2,1,0,6,5,4,8,3,7,2,1,0,6,5,4,0,1,0,2,1,0,4,5,4,6,5,4,3,7,2,1,0,6,5,4,8,3,7,2,1,0,6,5,4,9,8,3,7,2,1,0,6,5,4,10,9,8,3,7,2,1,0,6,5,4,0,1,0,2,1,0,4,5,4,6,5,4,3,7,2,1,0,6,5,4,8,3,7,2,1,0,6,5,4,9,8,3,7,2,1,0,6,5,4,10,9,8,3,7,2,1,0,6,5,4,10,9,8,3,7,2,1,0,6,5,4,14,11,9,0,1,2,3,4,5,6,7,8,9,10,11,14,10,9,8,3,7,2,1,0,6,5,4,8,3,7,2,1,0,6,5,4,0,1,0,2,1,0,4,5,4,6,5,4,3,7,2,1,0,6,5,4,8,3,7,2,1,0,6,5,4,9,8,3,7,2,1,0,6,5,4,10,9,8,3,7,2,1,0,6,5,4]] zdg5) (.seq (.seq (.reg [26] zdg6) (.cond (.t 27) (.seq (.reg [28,29,30,31] zdg7) (.seq (.reg [32] zdg8) .ret)) .skip)) (.seq (.reg [33,34,35,36,37,38,39,40,41] zdg9) (.seq (.reg [42] zdh0) .ret))))))
theorem zfg6:chkF C.P 21 zdh1 43 [.c 2 3 true] 1=true:=by kernel_rfl
attribute [go_sem] zdg2 zdg3 zdg4 zdg5 zdg6 zdg7 zdg8 zdg9 zdh0
def zdh2:=[mo 2 (.alloc 2 (Amount.enc Amount.zero)) []]
def zdh3:=[oV 4 0,mo 5 (.callm 22) [.t 4],oV 3 5]
def zdh4:=[oV 6 3,oV 7 0,mo 8 (.callm 22) [.t 7],mo 9 (.build (Amount.enc Amount.zero) [(0,1),(1,1)]) [.t 6,.t 8],oS 2 2 9]
def zdh5:PC:=(.seq (.reg [] zdh2) (.seq (.reg [4,5] zdh3) (.seq (.reg [6,7,8,9] zdh4) .ret)))
theorem zfg7:chkF C.P 51 zdh5 10 [.c 2 2 true] 1=true:=by kernel_rfl
attribute [go_sem] zdh2 zdh3 zdh4
def zdh6:=[mo 2 (.alloc 8 (Queue.enc Queue.zero)) []]
def zdh7:=[mo 3 (.alloc 8 [A.str (⟨#[]⟩),A.int .i64 0,A.int .i64 0,A.int .i64 0,A.full [],A.full [],A.full [],A.int .i64 0]) []]
def zdh8:=[oV 11 0,mo 12 (.callm 50) [.t 11],oA 13 0 3,oA 14 0 13,oS 1 14 12]
def zdh9:=[oV 15 0,mo 16 (.callm 22) [.t 15],oA 17 0 3,oA 18 1 17,oS 1 18 16]
def zdi0:=[oV 19 0,mo 20 (.callm 22) [.t 19],oA 21 0 3,oA 22 2 21,oS 1 22 20]
def zdi1:=[oV 23 0,mo 24 (.callm 22) [.t 23],oA 25 0 3,oA 26 3 25,oS 1 26 24]
def zdi2:=[oV 27 0,mo 28 (.callm 22) [.t 27],oA 29 7 3,oS 1 29 28]
def zdi3:=[oV 30 0,mo 31 (.callm 19) [.t 30,oK 8],oV 4 31]
def zdi4:=[oI 5 0]
def zdi5:=[oV 32 5,oV 33 4,oP 34 .lss [.t 32,.t 33],oV 35 34,oG 36 35 true .mv [.t 0],oG 37 35 true .nilck [.t 36],oG 38 35 true (.faddr 2) [.t 37],oG 39 35 true (.load 1 false) [.t 38],oG 40 35 true (.bin .eql) [.t 39,oK 0],mo 41 .pick [.t 35,.t 40,oFa]]
def zcd8:=[oV 44 0,mo 45 (.callm 21) [.t 44],mo 6 (.alloc 3 (Proc.enc Proc.zero)) [],oS 3 6 45]
def zcd9:=[oA 46 4 3,oM 47 1 46,oL 48 3 6,oV 49 0,mo 50 (.callm 51) [.t 49],mo 51 (.build (Hold.enc Hold.zero) [(0,3),(3,2)]) [.t 48,.t 50],mo 52 (.bslice 5 (Hold.enc Hold.zero)) [.t 51],mo 53 (.append 5 40 (Hold.enc Hold.zero)) [.t 47,.t 52],oA 54 4 3,oS 1 54 53]
def zce0:=[oV 42 5,oP 43 .add [.t 42,oK 1],oV 5 43]
def zce1:=[oV 55 0,mo 56 (.callm 19) [.t 55,oK 8],oV 4 56]
def zce2:=[oI 7 0]
def zce3:=[oV 57 7,oV 58 4,oP 59 .lss [.t 57,.t 58],oV 60 59,oG 61 60 true .mv [.t 0],oG 62 60 true .nilck [.t 61],oG 63 60 true (.faddr 2) [.t 62],oG 64 60 true (.load 1 false) [.t 63],oG 65 60 true (.bin .eql) [.t 64,oK 0],mo 66 .pick [.t 60,.t 65,oFa]]
def zce4:=[oV 69 0,mo 70 (.callm 21) [.t 69],mo 8 (.alloc 3 (Proc.enc Proc.zero)) [],oS 3 8 70]
def zce5:=[oA 71 5 3,oM 72 1 71,oL 73 3 8,oV 74 0,mo 75 (.callm 51) [.t 74],mo 76 (.build (Wait.enc Wait.zero) [(0,3),(3,2)]) [.t 73,.t 75],mo 77 (.bslice 7 (Wait.enc Wait.zero)) [.t 76],mo 78 (.append 7 56 (Wait.enc Wait.zero)) [.t 72,.t 77],oA 79 5 3,oS 1 79 78]
def zce6:=[oV 67 7,oP 68 .add [.t 67,oK 1],oV 7 68]
def zce7:=[oV 80 0,mo 81 (.callm 19) [.t 80,oK 8],oV 4 81]
def zce8:=[oI 9 0]
def zce9:=[oV 82 9,oV 83 4,oP 84 .lss [.t 82,.t 83],oV 85 84,oG 86 85 true .mv [.t 0],oG 87 85 true .nilck [.t 86],oG 88 85 true (.faddr 2) [.t 87],oG 89 85 true (.load 1 false) [.t 88],oG 90 85 true (.bin .eql) [.t 89,oK 0],mo 91 .pick [.t 85,.t 90,oFa]]
def zcf0:=[oV 94 0,mo 95 (.callm 21) [.t 94],mo 96 (.build (Wait.enc Wait.zero) [(0,3)]) [.t 95],mo 10 (.alloc 7 (Wait.enc Wait.zero)) [],oS 7 10 96]
def zcf1:=[oV 97 0,mo 98 (.callm 51) [.t 97],oA 99 3 10,oS 2 99 98]
def zcf2:=[oV 100 0,mo 101 (.callm 22) [.t 100],oA 102 5 10,oS 1 102 101]
def zcf3:=[oV 103 0,mo 104 (.callm 22) [.t 103],oA 105 6 10,oS 1 105 104]
def zcf4:=[oA 106 6 3,oM 107 1 106,oL 108 7 10,mo 109 (.bslice 7 (Wait.enc Wait.zero)) [.t 108],mo 110 (.append 7 56 (Wait.enc Wait.zero)) [.t 107,.t 109],oA 111 6 3,oS 1 111 110]
def zcf5:=[oV 92 9,oP 93 .add [.t 92,oK 1],oV 9 93]
def zcf6:=[oL 112 8 3,oS 8 2 112]
def zdi6:PC:=(.seq (.reg [] zdh6) (.seq (.reg [] zdh7) (.seq (.reg [11,12,13,14] zdh8) (.seq (.reg [15,16,17,18] zdh9) (.seq (.reg [19,20,21,22] zdi0) (.seq (.reg [23,24,25,26] zdi1) (.seq (.reg [27,28,29] zdi2) (.seq (.reg [30,31] zdi3) (.seq (.seq (.reg [] zdi4) (.block 0 (.loop (.seq (.seq (.reg [32,33,34,35,36,37,38,39,40] zdi5) (.cond (.t 41) .skip (.exit 0))) (.seq (.block 1 (.seq (.reg [44,45] zcd8) (.regm [46,47,48,49,50,51,52,53,54] [[],[0],[],[],[3],[2,4,3],[5,2,4,3],[1,6,4,0,5,2,4,3,3],[0,1,2,3,4,5,6,7,0,3,2,4,3,5,2,4,3,1,6,4,0,5,2,4,3,3],[8,7,7,0,1,2,3,4,5,6,7,0,1,2,3,4,5,6,7,0,3,2,4,3,5,2,4,3,1,6,4,0,5,2,4,3,3,1,6,4,0,5,2,4,3,3,1,6,4,0,5,2,4,3,3,0,3,2,4,3,5,2,4,3,1,6,4,0,5,2,4,3,3]] zcd9))) (.reg [42,43] zce0)))))) (.seq (.reg [55,56] zce1) (.seq (.seq (.reg [] zce2) (.block 2 (.loop (.seq (.seq (.reg [57,58,59,60,61,62,63,64,65] zce3) (.cond (.t 66) .skip (.exit 2))) (.seq (.block 3 (.seq (.reg [69,70] zce4) (.regm [71,72,73,74,75,76,77,78,79] [[],[0],[],[],[3],[2,4,3],[5,2,4,3],[1,6,4,0,5,2,4,3,3],[0,1,2,3,4,5,6,7,0,3,2,4,3,5,2,4,3,1,6,4,0,5,2,4,3,3],[8,7,7,0,1,2,3,4,5,6,7,0,1,2,3,4,5,6,7,0,3,2,4,3,5,2,4,3,1,6,4,0,5,2,4,3,3,1,6,4,0,5,2,4,3,3,1,6,4,0,5,2,4,3,3,0,3,2,4,3,5,2,4,3,1,6,4,0,5,2,4,3,3]] zce5))) (.reg [67,68] zce6)))))) (.seq (.reg [80,81] zce7) (.seq (.seq (.reg [] zce8) (.block 4 (.loop (.seq (.seq (.reg [82,83,84,85,86,87,88,89,90] zce9) (.cond (.t 91) .skip (.exit 4))) (.seq (.block 5 (.seq (.reg [94,95,96] zcf0) (.seq (.reg [97,98,99] zcf1) (.seq (.reg [100,101,102] zcf2) (.seq (.reg [103,104,105] zcf3) (.reg [106,107,108,109,110,111] zcf4)))))) (.reg [92,93] zcf5)))))) (.seq (.reg [112] zcf6) .ret))))))))))))))
theorem zfg8:chkF C.P 20 zdi6 113 [.c 2 8 true] 1=true:=by kernel_rfl
attribute [go_sem] zdh6 zdh7 zdh8 zdh9 zdi0 zdi1 zdi2 zdi3 zdi4 zdi5 zcd8 zcd9 zce0 zce1 zce2 zce3 zce4 zce5 zce6 zce7 zce8 zce9 zcf0 zcf1 zcf2 zcf3 zcf4 zcf5 zcf6
def zdi7:=[mo 4 (.alloc 5 (Expr.enc Expr.zero)) []]
def zdi8:=[oV 8 0,mo 9 .nilck [.t 8],oA 10 2 9,oM 11 1 10,oP 12 .eql [.t 11,oK 0],oV 13 12,oG 14 13 true .mv [.t 1],oG 15 13 true (.bin .gtr) [.t 14,oK 4],mo 16 .pick [.t 13,.t 15,oFa]]
def zdi9:=[oV 17 0,mo 18 .nilck [.t 17],oA 19 2 18,mz (.store 1) [.t 19,oK 4]]
def zdj0:=[mo 5 (.alloc 5 [A.int .i64 0,A.str (⟨#[]⟩),A.int .i64 0,A.int .i64 0,A.full []]) []]
def zdj1:=[oV 20 0,mo 21 (.callm 22) [.t 20],oA 22 0 5,oS 1 22 21]
def zdj2:=[oV 23 0,mo 24 .nilck [.t 23],oA 25 2 24,oM 26 1 25,oP 27 .neq [.t 26,oK 0]]
def zdj3:=[oL 28 5 5,oS 5 4 28]
def zdj4:=[oA 29 0 5,oM 30 1 29,oP 31 .eql [.t 30,oK 0]]
def zdj5:=[oV 32 0,mo 33 (.callm 50) [.t 32],oA 34 1 5,oA 35 0 34,oS 1 35 33]
def zdj6:=[oV 36 0,mo 37 (.callm 51) [.t 36],oA 38 1 5,oA 39 1 38,oS 2 39 37]
def zcf7:=[oL 40 5 5,oS 5 4 40]
def zcf8:=[oV 41 0,mo 42 (.callm 19) [.t 41,oK 24],oV 6 42]
def zcf9:=[oI 7 0]
def zcg0:=[oV 43 7,oV 44 6,oP 45 .lss [.t 43,.t 44],oV 46 45,oG 47 46 true .mv [.t 0],oG 48 46 true .nilck [.t 47],oG 49 46 true (.faddr 2) [.t 48],oG 50 46 true (.load 1 false) [.t 49],oG 51 46 true (.bin .eql) [.t 50,oK 0],mo 52 .pick [.t 46,.t 51,oFa]]
def zcg1:=[oA 55 4 5,oM 56 1 55,oV 57 0,oV 58 1,oP 59 .add [.t 58,oK 1],mo 60 (.callm 23) [.t 57,.t 59],mo 61 (.bslice 5 (Expr.enc Expr.zero)) [.t 60],mo 62 (.append 5 64 (Expr.enc Expr.zero)) [.t 56,.t 61],oA 63 4 5,oS 1 63 62]
def zcg2:=[oV 53 7,oP 54 .add [.t 53,oK 1],oV 7 54]
def zcg3:=[oL 64 5 5,oS 5 4 64]
def zdj7:PC:=(.seq (.reg [] zdi7) (.seq (.seq (.reg [8,9,10,11,12,13,14,15] zdi8) (.cond (.t 16) (.reg [17,18,19] zdi9) .skip)) (.seq (.reg [] zdj0) (.seq (.reg [20,21,22] zdj1) (.seq (.seq (.reg [23,24,25,26] zdj2) (.cond (.t 27) (.seq (.reg [28] zdj3) .ret) .skip)) (.seq (.seq (.reg [29,30] zdj4) (.cond (.t 31) (.seq (.reg [32,33,34,35] zdj5) (.seq (.reg [36,37,38,39] zdj6) (.seq (.reg [40] zcf7) .ret))) .skip)) (.seq (.reg [41,42] zcf8) (.seq (.seq (.reg [] zcf9) (.block 0 (.loop (.seq (.seq (.reg [43,44,45,46,47,48,49,50,51] zcg0) (.cond (.t 52) .skip (.exit 0))) (.seq (.block 1 (.regm [55,56,57,58,59,60,61,62,63] [[],[0],[],[],[3],[2,4,3],[5,2,4,3],[1,6,5,0,5,2,4,3,2,4,3],[0,1,2,3,4,5,6,7,0,3,2,4,3,5,2,4,3,1,6,5,0,5,2,4,3,2,4,3],[8,7,7,0,1,2,3,4,5,6,7,0,1,2,3,4,5,6,7,0,3,2,4,3,5,2,4,3,1,6,5,0,5,2,4,3,2,4,3,1,6,5,0,5,2,4,3,2,4,3,1,6,5,0,5,2,4,3,2,4,3,0,3,2,4,3,5,2,4,3,1,6,5,0,5,2,4,3,2,4,3]] zcg1)) (.reg [53,54] zcg2)))))) (.seq (.reg [64] zcg3) .ret)))))))))
theorem zfg9:chkF C.P 23 zdj7 65 [.c 4 5 true] 2=true:=by kernel_rfl
attribute [go_sem] zdi7 zdi8 zdi9 zdj0 zdj1 zdj2 zdj3 zdj4 zdj5 zdj6 zcf7 zcf8 zcf9 zcg0 zcg1 zcg2 zcg3
def zdj8:=[mo 2 .mv [oFa]]
def zdj9:=[oV 3 0,oP 4 .geq [.t 3,.c (A.int .u8 97)],oV 5 4,oG 6 5 true .mv [.t 0],oG 7 5 true (.bin .leq) [.t 6,.c (A.int .u8 122)],mo 8 .pick [.t 5,.t 7,oFa],oV 2 8]
def zdk0:PC:=(.seq (.reg [] zdj8) (.seq (.reg [3,4,5,6,7,8] zdj9) .ret))
theorem zfh0:chkF C.P 176 zdk0 9 [.t 2] 1=true:=by kernel_rfl
attribute [go_sem] zdj8 zdj9
def zdk1:=[mo 2 .mv [oFa]]
def zdk2:=[oV 3 0,oP 4 .eql [.t 3,.c (A.str ⟨#[97,108,108]⟩)],oV 5 4,oG 6 5 false .mv [.t 0],
⟨some 7,some (5,false),.bin .eql,[.t 6,.c (A.str ⟨#[97,110,121]⟩)]⟩,mo 8 .pick [.t 5,oTr,.t 7],oV 9 8,oG 10 9 false .mv [.t 0],
⟨some 11,some (9,false),.bin .eql,[.t 10,.c (A.str ⟨#[111,102]⟩)]⟩,mo 12 .pick [.t 9,oTr,.t 11],oV 13 12,oG 14 13 false .mv [.t 0],
⟨some 15,some (13,false),.bin .eql,[.t 14,.c (A.str ⟨#[112,114,105,111]⟩)]⟩,mo 16 .pick [.t 13,oTr,.t 15],oV 17 16,oG 18 17 false .mv [.t 0],
⟨some 19,some (17,false),.bin .eql,[.t 18,.c (A.str ⟨#[108,105,109,105,116]⟩)]⟩,mo 20 .pick [.t 17,oTr,.t 19],oV 2 20]
def zdk3:PC:=(.seq (.reg [] zdk1) (.seq (.reg [3,4,5,6,7,8,9,10,11,12,13,14,15,16,17,18,19,20] zdk2) .ret))
theorem zfh1:chkF C.P 177 zdk3 21 [.t 2] 1=true:=by kernel_rfl
attribute [go_sem] zdk1 zdk2
def zdk4:=[mo 2 .mv [oFa]]
def zdk5:=[oV 3 0,oC 4 176 [.t 3],oV 5 4,oG 6 5 false .mv [.t 0],oG 7 5 false (.bin .geq) [.t 6,.c (A.int .u8 48)],oG 8 5 false .mv [.t 7],oG 9 8 true .mv [.t 0],oG 10 8 true (.bin .leq) [.t 9,.c (A.int .u8 57)],oG 11 5 false .pick [.t 8,.t 10,oFa],mo 12 .pick [.t 5,oTr,.t 11],oV 13 12,oG 14 13 false .mv [.t 0],
 oG 15 13 false (.bin .eql) [.t 14,.c (A.int .u8 95)],mo 16 .pick [.t 13,oTr,.t 15],oV 17 16,oG 18 17 false .mv [.t 0],oG 19 17 false (.bin .eql) [.t 18,.c (A.int .u8 45)],mo 20 .pick [.t 17,oTr,.t 19],oV 2 20]
def zdk6:PC:=(.seq (.reg [] zdk4) (.seq (.reg [3,4,5,6,7,8,9,10,11,12,13,14,15,16,17,18,19,20] zdk5) .ret))
theorem zfh2:chkF C.P 178 zdk6 21 [.t 2] 1=true:=by kernel_rfl
attribute [go_sem] zdk4 zdk5
def zdk7:=[mo 2 .mv [oFa]]
def zdk8:=[oV 4 0,mo 5 .lenS [.t 4],oP 6 .lss [.t 5,oK 1],oV 7 6,oG 8 7 false .mv [.t 0],oG 9 7 false .lenS [.t 8],oG 10 7 false (.bin .gtr) [.t 9,oK 12],mo 11 .pick [.t 7,oTr,.t 10],oV 12 11,oG 13 12 false .mv [.t 0],oG 14 12 false .idxS [.t 13,oK 0],oG 15 12 false (.call 176) [.t 14],oG 16 12 false .not [.t 15],
 mo 17 .pick [.t 12,oTr,.t 16],oV 18 17,oG 19 18 false .mv [.t 0],oG 20 18 false (.call 177) [.t 19],mo 21 .pick [.t 18,oTr,.t 20]]
def zdk9:=[mo 2 .mv [oFa]]
def zdl0:=[oI 3 0]
def zdl1:=[oV 22 3,oV 23 0,mo 24 .lenS [.t 23],oP 25 .lss [.t 22,.t 24]]
def zdl2:=[oV 28 0,oV 29 3,mo 30 .idxS [.t 28,.t 29],oC 31 178 [.t 30],mo 32 .not [.t 31]]
def zdl3:=[mo 2 .mv [oFa]]
def zdl4:=[oV 26 3,oP 27 .add [.t 26,oK 1],oV 3 27]
def zdl5:=[mo 2 .mv [oTr]]
def zdl6:PC:=(.seq (.reg [] zdk7) (.seq (.seq (.reg [4,5,6,7,8,9,10,11,12,13,14,15,16,17,18,19,20] zdk8) (.cond (.t 21) (.seq (.reg [] zdk9) .ret) .skip)) (.seq (.seq (.reg [] zdl0) (.block 0 (.loop (.seq (.seq (.reg [22,23,24] zdl1) (.cond (.t 25) .skip (.exit 0))) (.seq (.block 1 (.seq (.reg [28,29,30,31] zdl2) (.cond (.t 32) (.seq (.reg [] zdl3) .ret) .skip))) (.reg [26,27] zdl4)))))) (.seq (.reg [] zdl5) .ret))))
theorem zfh3:chkF C.P 143 zdl6 33 [.t 2] 1=true:=by kernel_rfl
attribute [go_sem] zdk7 zdk8 zdk9 zdl0 zdl1 zdl2 zdl3 zdl4 zdl5
def zdl7:=[oB 1 4 0,mo 2 .mv [oFa]]
def zdl8:=[oA 3 1 1,oM 4 1 3,oP 5 .eql [.t 4,oK 1],oV 6 5,oG 7 6 true (.faddr 2) [.t 1],oG 8 6 true (.load 1 false) [.t 7],oG 9 6 true (.bin .eql) [.t 8,oK 1],mo 10 .pick [.t 6,.t 9,oFa],oV 11 10,oG 12 11 false (.faddr 1) [.t 1],oG 13 11 false (.load 1 false) [.t 12],oG 14 11 false (.bin .eql) [.t 13,oK 2],
 oG 15 11 false .mv [.t 14],oG 16 15 true (.faddr 2) [.t 1],oG 17 15 true (.load 1 false) [.t 16],oG 18 15 true (.bin .geq) [.t 17,oK 1],oG 19 11 false .pick [.t 15,.t 18,oFa],oG 20 11 false .mv [.t 19],oG 21 20 true (.faddr 2) [.t 1],oG 22 20 true (.load 1 false) [.t 21],oG 23 20 true (.bin .leq) [.t 22,oK 8],
 oG 24 11 false .pick [.t 20,.t 23,oFa],mo 25 .pick [.t 11,oTr,.t 24],oV 2 25]
def zdl9:PC:=(.seq (.reg [] zdl7) (.seq (.reg [3,4,5,6,7,8,9,10,11,12,13,14,15,16,17,18,19,20,21,22,23,24,25] zdl8) .ret))
theorem zfh4:chkF C.P 168 zdl9 26 [.t 2] 1=true:=by kernel_rfl
attribute [go_sem] zdl7 zdl8
def zdm0:=[oB 1 4 0,mo 2 .mv [oFa]]
def zdm1:=[oA 3 0 1,oM 4 1 3,oC 5 143 [.t 4],oV 6 5,oG 7 6 true (.load 4 true) [.t 1],oG 8 6 true (.call 168) [.t 7],mo 9 .pick [.t 6,.t 8,oFa],oV 10 9,oG 11 10 true (.faddr 3) [.t 1],oG 12 10 true (.load 1 false) [.t 11],oG 13 10 true (.bin .geq) [.t 12,oK 0],mo 14 .pick [.t 10,.t 13,oFa],oV 15 14,
 oG 16 15 true (.faddr 3) [.t 1],oG 17 15 true (.load 1 false) [.t 16],oG 18 15 true (.bin .lss) [.t 17,oK 4],mo 19 .pick [.t 15,.t 18,oFa],oV 2 19]
def zdm2:PC:=(.seq (.reg [] zdm0) (.seq (.reg [3,4,5,6,7,8,9,10,11,12,13,14,15,16,17,18,19] zdm1) .ret))
theorem zfh5:chkF C.P 132 zdm2 20 [.t 2] 1=true:=by kernel_rfl
attribute [go_sem] zdm0 zdm1
def zdm3:=[mo 2 .mv [oFa]]
def zdm4:=[oV 3 0,oP 4 .geq [.t 3,oK 1],oV 5 4,oG 6 5 true .mv [.t 0],oG 7 5 true (.bin .leq) [.t 6,oK 5],mo 8 .pick [.t 5,.t 7,oFa],oV 2 8]
def zdm5:PC:=(.seq (.reg [] zdm3) (.seq (.reg [3,4,5,6,7,8] zdm4) .ret))
theorem zfh6:chkF C.P 172 zdm5 9 [.t 2] 1=true:=by kernel_rfl
attribute [go_sem] zdm3 zdm4
def zdm6:=[oB 2 4 0,oB 3 2 1,mo 4 .mv [oFa]]
def zdm7:=[oL 5 4 2,oC 6 168 [.t 5],mo 7 .not [.t 6]]
def zdm8:=[mo 4 .mv [oFa]]
def zdm9:=[oA 8 1 2,oM 9 1 8,oP 10 .eql [.t 9,oK 1]]
def zdn0:=[oA 11 0 3,oM 12 1 11,oC 13 172 [.t 12],oV 14 13,oG 15 14 true (.faddr 1) [.t 3],oG 16 14 true (.load 1 false) [.t 15],oG 17 14 true (.bin .eql) [.t 16,oK 0],mo 18 .pick [.t 14,.t 17,oFa],oV 4 18]
def zdn1:=[oA 19 0 3,oM 20 1 19,oP 21 .eql [.t 20,oK 0],oV 22 21,oG 23 22 true (.faddr 1) [.t 3],oG 24 22 true (.load 1 false) [.t 23],oG 25 22 true (.bin .geq) [.t 24,oK 1],mo 26 .pick [.t 22,.t 25,oFa],oV 27 26,oG 28 27 true (.faddr 1) [.t 3],oG 29 27 true (.load 1 false) [.t 28],oG 30 27 true (.faddr 2) [.t 2],
 oG 31 27 true (.load 1 false) [.t 30],oG 32 27 true (.bin .leq) [.t 29,.t 31],mo 33 .pick [.t 27,.t 32,oFa],oV 4 33]
def zdn2:PC:=(.seq (.reg [] zdm6) (.seq (.seq (.reg [5,6] zdm7) (.cond (.t 7) (.seq (.reg [] zdm8) .ret) .skip)) (.seq (.seq (.reg [8,9] zdm9) (.cond (.t 10) (.seq (.reg [11,12,13,14,15,16,17,18] zdn0) .ret) .skip)) (.seq (.reg [19,20,21,22,23,24,25,26,27,28,29,30,31,32,33] zdn1) .ret))))
theorem zfh7:chkF C.P 137 zdn2 34 [.t 4] 2=true:=by kernel_rfl
attribute [go_sem] zdm6 zdm7 zdm8 zdm9 zdn0 zdn1
def zdn3:=[oI 4 0]
def zdn4:=[oV 5 0,oV 6 1,oP 7 .lss [.t 5,.t 6]]
def zdn5:=[oI 4 (-1)]
def zdn6:=[oV 8 0,oV 9 1,oP 10 .gtr [.t 8,.t 9]]
def zdn7:=[oI 4 1]
def zdn8:=[oI 4 0]
def zdn9:PC:=(.seq (.reg [] zdn3) (.seq (.seq (.reg [5,6] zdn4) (.cond (.t 7) (.seq (.reg [] zdn5) .ret) .skip)) (.seq (.seq (.reg [8,9] zdn6) (.cond (.t 10) (.seq (.reg [] zdn7) .ret) .skip)) (.seq (.reg [] zdn8) .ret))))
theorem zfh8:chkF C.P 86 zdn9 11 [.t 4] 2=true:=by kernel_rfl
attribute [go_sem] zdn3 zdn4 zdn5 zdn6 zdn7 zdn8
def zdo0:=[oB 2 3 0,oB 3 3 1,oI 4 0]
def zdo1:=[oA 7 0 2,oM 8 1 7,oA 9 0 3,oM 10 1 9,oC 11 86 [.t 8,.t 10],oV 5 11]
def zdo2:=[oV 12 5,oP 13 .neq [.t 12,oK 0]]
def zdo3:=[oV 14 5,oV 4 14]
def zdo4:=[oA 15 1 2,oM 16 1 15,oA 17 1 3,oM 18 1 17,oC 19 86 [.t 16,.t 18],oV 6 19]
def zdo5:=[oV 20 6,oP 21 .neq [.t 20,oK 0]]
def zdo6:=[oV 22 6,oV 4 22]
def zdo7:=[oA 23 2 2,oM 24 1 23,oA 25 2 3,oM 26 1 25,oC 27 86 [.t 24,.t 26],oV 4 27]
def zdo8:PC:=(.seq (.reg [] zdo0) (.seq (.seq (.reg [7,8,9,10,11] zdo1) (.seq (.reg [12] zdo2) (.cond (.t 13) (.seq (.reg [14] zdo3) .ret) .skip))) (.seq (.seq (.reg [15,16,17,18,19] zdo4) (.seq (.reg [20] zdo5) (.cond (.t 21) (.seq (.reg [22] zdo6) .ret) .skip))) (.seq (.reg [23,24,25,26,27] zdo7) .ret))))
theorem zfh9:chkF C.P 56 zdo8 28 [.t 4] 2=true:=by kernel_rfl
attribute [go_sem] zdo0 zdo1 zdo2 zdo3 zdo4 zdo5 zdo6 zdo7
def zdo9:=[mo 2 .mv [oNi]]
def zdp0:=[mo 3 (.nilown 2 (Amount.enc Amount.zero)) [.c (A.full [])]]
def zdp1:=[oI 4 0]
def zdp2:=[oV 5 4,oV 6 0,mo 7 .len [.t 6],oP 8 .lss [.t 5,.t 7]]
def zdp3:=[oV 11 3,oV 12 0,oV 13 4,mo 14 (.iaS 5 (Hold.enc Hold.zero)) [.t 12,.t 13],oA 15 3 14,oL 16 2 15,mo 17 (.bslice 2 (Amount.enc Amount.zero)) [.t 16],mo 18 (.append 2 16 (Amount.enc Amount.zero)) [.t 11,.t 17],oV 3 18]
def zdp4:=[oV 9 4,oP 10 .add [.t 9,oK 1],oV 4 10]
def zdp5:=[oV 19 3,oV 2 19]
def zdp6:PC:=(.seq (.reg [] zdo9) (.seq (.reg [] zdp0) (.seq (.seq (.reg [] zdp1) (.block 0 (.loop (.seq (.seq (.reg [5,6,7] zdp2) (.cond (.t 8) .skip (.exit 0))) (.seq (.block 1 (.reg [11,12,13,14,15,16,17,18] zdp3)) (.reg [9,10] zdp4)))))) (.seq (.reg [19] zdp5) .ret))))
theorem zfi0:chkF C.P 170 zdp6 20 [.t 2] 1=true:=by kernel_rfl
attribute [go_sem] zdo9 zdp0 zdp1 zdp2 zdp3 zdp4 zdp5
def zdp7:=[oB 1 2 0,mo 2 .mv [oFa]]
def zdp8:=[oL 3 2 1,mo 4 (.build (Amount.enc Amount.zero) []) [],mo 5 (.eqa false [.i .i64,.i .i64]) [.t 3,.t 4],oV 2 5]
def zdp9:PC:=(.seq (.reg [] zdp7) (.seq (.reg [3,4,5] zdp8) .ret))
theorem zfi1:chkF C.P 136 zdp9 6 [.t 2] 1=true:=by kernel_rfl
attribute [go_sem] zdp7 zdp8
def zdq0:=[oB 2 4 0,oB 3 2 1,mo 4 .mv [oFa]]
def zdq1:=[oL 5 4 2,oC 6 168 [.t 5],oV 7 6,oG 8 7 true (.load 2 true) [.t 3],oG 9 7 true (.call 136) [.t 8],oG 10 7 true .mv [.t 9],oG 11 10 false (.load 4 true) [.t 2],oG 12 10 false (.load 2 true) [.t 3],oG 13 10 false (.call 137) [.t 11,.t 12],oG 14 7 true .pick [.t 10,oTr,.t 13],mo 15 .pick [.t 7,.t 14,oFa],
 oV 4 15]
def zdq2:PC:=(.seq (.reg [] zdq0) (.seq (.reg [5,6,7,8,9,10,11,12,13,14,15] zdq1) .ret))
theorem zfi2:chkF C.P 173 zdq2 16 [.t 4] 2=true:=by kernel_rfl
attribute [go_sem] zdq0 zdq1
def zdq3:=[mo 4 .mv [oFa]]
def zdq4:=[oV 5 0,oC 6 172 [.t 5],mo 7 .not [.t 6],oV 8 7,oG 9 8 false .mv [.t 1],oG 10 8 false (.call 172) [.t 9],oG 11 8 false .not [.t 10],mo 12 .pick [.t 8,oTr,.t 11],oV 13 12,oG 14 13 false .mv [.t 0],oG 15 13 false (.bin .eql) [.t 14,oK 5],mo 16 .pick [.t 13,oTr,.t 15],oV 17 16,oG 18 17 false .mv [.t 1],
 oG 19 17 false (.bin .eql) [.t 18,oK 5],mo 20 .pick [.t 17,oTr,.t 19]]
def zdq5:=[mo 4 .mv [oFa]]
def zdq6:=[oV 21 0,oP 22 .eql [.t 21,oK 1],oV 23 22,oG 24 23 false .mv [.t 1],oG 25 23 false (.bin .eql) [.t 24,oK 1],mo 26 .pick [.t 23,oTr,.t 25],oV 27 26,oG 28 27 false .mv [.t 0],oG 29 27 false .mv [.t 1],oG 30 27 false (.bin .eql) [.t 28,.t 29],oG 31 27 false .mv [.t 30],oG 32 31 true .mv [.t 0],
 oG 33 31 true (.bin .neq) [.t 32,oK 4],oG 34 27 false .pick [.t 31,.t 33,oFa],mo 35 .pick [.t 27,oTr,.t 34],oV 4 35]
def zdq7:PC:=(.seq (.reg [] zdq3) (.seq (.seq (.reg [5,6,7,8,9,10,11,12,13,14,15,16,17,18,19] zdq4) (.cond (.t 20) (.seq (.reg [] zdq5) .ret) .skip)) (.seq (.reg [21,22,23,24,25,26,27,28,29,30,31,32,33,34,35] zdq6) .ret)))
theorem zfi3:chkF C.P 189 zdq7 36 [.t 4] 2=true:=by kernel_rfl
attribute [go_sem] zdq3 zdq4 zdq5 zdq6
def zdq8:=[oB 2 4 0,mo 4 .mv [oFa]]
def zdq9:=[oL 8 4 2,oC 9 168 [.t 8],mo 10 .not [.t 9]]
def zdr0:=[mo 4 .mv [oFa]]
def zdr1:=[oI 5 0]
def zdr2:=[oI 6 0]
def zdr3:=[oV 11 6,oV 12 1,mo 13 .len [.t 12],oP 14 .lss [.t 11,.t 13]]
def zdr4:=[oL 17 4 2,oV 18 1,oV 19 6,mo 20 (.iaS 2 (Amount.enc Amount.zero)) [.t 18,.t 19],oL 21 2 20,oC 22 173 [.t 17,.t 21],mo 23 .not [.t 22]]
def zdr5:=[mo 4 .mv [oFa]]
def zdr6:=[oA 24 1 2,oM 25 1 24,oP 26 .eql [.t 25,oK 2]]
def zcg4:=[oV 27 5,oV 28 1,oV 29 6,mo 30 (.iaS 2 (Amount.enc Amount.zero)) [.t 28,.t 29],oA 31 1 30,oM 32 1 31,oP 33 .add [.t 27,.t 32],oV 5 33]
def zcg5:=[oV 34 5,oA 35 2 2,oM 36 1 35,oP 37 .gtr [.t 34,.t 36]]
def zcg6:=[mo 4 .mv [oFa]]
def zcg7:=[oI 7 0]
def zcg8:=[oV 38 7,oV 39 6,oP 40 .lss [.t 38,.t 39]]
def zcg9:=[oV 43 1,oV 44 6,mo 45 (.iaS 2 (Amount.enc Amount.zero)) [.t 43,.t 44],oL 46 2 45,oC 47 136 [.t 46],mo 48 .not [.t 47],oV 49 48,oG 50 49 true .mv [.t 1],oG 51 49 true .mv [.t 7],oG 52 49 true (.iaS 2 (Amount.enc Amount.zero)) [.t 50,.t 51],oG 53 49 true (.load 2 true) [.t 52],oG 54 49 true (.call 136) [.t 53],
 oG 55 49 true .not [.t 54],mo 56 .pick [.t 49,.t 55,oFa],oV 57 56,oG 58 57 true .mv [.t 1],oG 59 57 true .mv [.t 6],oG 60 57 true (.iaS 2 (Amount.enc Amount.zero)) [.t 58,.t 59],oG 61 57 true (.faddr 0) [.t 60],oG 62 57 true (.load 1 false) [.t 61],oG 63 57 true .mv [.t 1],oG 64 57 true .mv [.t 7],
 oG 65 57 true (.iaS 2 (Amount.enc Amount.zero)) [.t 63,.t 64],oG 66 57 true (.faddr 0) [.t 65],oG 67 57 true (.load 1 false) [.t 66],oG 68 57 true (.call 189) [.t 62,.t 67],oG 69 57 true .not [.t 68],mo 70 .pick [.t 57,.t 69,oFa]]
def zch0:=[mo 4 .mv [oFa]]
def zch1:=[oV 41 7,oP 42 .add [.t 41,oK 1],oV 7 42]
def zdr7:=[oV 15 6,oP 16 .add [.t 15,oK 1],oV 6 16]
def zch2:=[mo 4 .mv [oTr]]
def zdr8:PC:=(.seq (.reg [] zdq8) (.seq (.seq (.reg [8,9] zdq9) (.cond (.t 10) (.seq (.reg [] zdr0) .ret) .skip)) (.seq (.reg [] zdr1) (.seq (.seq (.reg [] zdr2) (.block 0 (.loop (.seq (.seq (.reg [11,12,13] zdr3) (.cond (.t 14) .skip (.exit 0))) (.seq (.block 1 (.seq (.seq (.regd [17,18,19,20,21,22] zdr4) (.cond (.t 23) (.seq (.reg [] zdr5) .ret) .skip)) (.seq (.seq (.reg [24,25] zdr6) (.cond (.t 26) (.seq (.reg [27,28,29,30,31,32,33] zcg4) (.seq (.seq (.reg [34,35,36] zcg5) (.cond (.t 37) (.seq (.reg [] zcg6) .ret) .skip)) (.exit 1))) .skip)) (.seq (.reg [] zcg7) (.block 2 (.loop (.seq (.seq (.reg [38,39] zcg8) (.cond (.t 40) .skip (.exit 2))) (.seq (.block 3 (.seq (.regd [43,44,45,46,47,48,49,50,51,52,53,54,55,56,57,58,59,60,61,62,63,64,65,66,67,68,69] zcg9) (.cond (.t 70) (.seq (.reg [] zch0) .ret) .skip))) (.reg [41,42] zch1))))))))) (.reg [15,16] zdr7)))))) (.seq (.reg [] zch2) .ret)))))
theorem zfi4:chkF C.P 169 zdr8 71 [.t 4] 2=true:=by kernel_rfl
attribute [go_sem] zdq8 zdq9 zdr0 zdr1 zdr2 zdr3 zdr4 zdr5 zdr6 zcg4 zcg5 zcg6 zcg7 zcg8 zcg9 zch0 zch1 zdr7 zch2
def zdr9:=[oB 2 4 0,mo 4 .mv [oFa]]
def zds0:=[oL 6 4 2,oC 7 168 [.t 6],mo 8 .not [.t 7],oV 9 8,oG 10 9 false .mv [.t 1],oG 11 9 false .len [.t 10],oG 12 9 false (.bin .gtr) [.t 11,oK 8],mo 13 .pick [.t 9,oTr,.t 12]]
def zds1:=[mo 4 .mv [oFa]]
def zds2:=[oI 5 0]
def zds3:=[oV 14 5,oV 15 1,mo 16 .len [.t 15],oP 17 .lss [.t 14,.t 16]]
def zds4:=[oV 20 1,oV 21 5,mo 22 (.iaS 5 (Hold.enc Hold.zero)) [.t 20,.t 21],oA 23 0 22,oL 24 3 23,oC 25 54 [.t 24],mo 26 .not [.t 25],oV 27 26,oG 28 27 false (.load 4 true) [.t 2],oG 29 27 false .mv [.t 1],oG 30 27 false .mv [.t 5],oG 31 27 false (.iaS 5 (Hold.enc Hold.zero)) [.t 29,.t 30],oG 32 27 false (.faddr 3) [.t 31],
 oG 33 27 false (.load 2 true) [.t 32],oG 34 27 false (.call 137) [.t 28,.t 33],oG 35 27 false .not [.t 34],mo 36 .pick [.t 27,oTr,.t 35],oV 37 36,oG 38 37 false .mv [.t 5],oG 39 37 false (.bin .gtr) [.t 38,oK 0],oG 40 37 false .mv [.t 39],oG 41 40 true .mv [.t 1],oG 42 40 true .mv [.t 5],oG 43 40 true (.bin .sub) [.t 42,oK 1],
 oG 44 40 true (.iaS 5 (Hold.enc Hold.zero)) [.t 41,.t 43],oG 45 40 true (.faddr 0) [.t 44],oG 46 40 true (.load 3 true) [.t 45],oG 47 40 true .mv [.t 1],oG 48 40 true .mv [.t 5],oG 49 40 true (.iaS 5 (Hold.enc Hold.zero)) [.t 47,.t 48],oG 50 40 true (.faddr 0) [.t 49],oG 51 40 true (.load 3 true) [.t 50],
 oG 52 40 true (.call 56) [.t 46,.t 51],oG 53 40 true (.bin .geq) [.t 52,oK 0],oG 54 37 false .pick [.t 40,.t 53,oFa],mo 55 .pick [.t 37,oTr,.t 54]]
def zds5:=[mo 4 .mv [oFa]]
def zds6:=[oV 18 5,oP 19 .add [.t 18,oK 1],oV 5 19]
def zds7:=[oL 56 4 2,oV 57 1,oC 58 170 [.t 57],oC 59 169 [.t 56,.t 58],oV 4 59]
def zds8:PC:=(.seq (.reg [] zdr9) (.seq (.seq (.reg [6,7,8,9,10,11,12] zds0) (.cond (.t 13) (.seq (.reg [] zds1) .ret) .skip)) (.seq (.seq (.reg [] zds2) (.block 0 (.loop (.seq (.seq (.reg [14,15,16] zds3) (.cond (.t 17) .skip (.exit 0))) (.seq (.block 1 (.seq (.regd [20,21,22,23,24,25,26,27,28,29,30,31,32,33,34,35,36,37,38,39,40,41,42,43,44,45,46,47,48,49,50,51,52,53,54] zds4) (.cond (.t 55) (.seq (.reg [] zds5) .ret) .skip))) (.reg [18,19] zds6)))))) (.seq (.regd [56,57,58,59] zds7) .ret))))
theorem zfi5:chkF C.P 133 zds8 60 [.t 4] 2=true:=by kernel_rfl
attribute [go_sem] zdr9 zds0 zds1 zds2 zds3 zds4 zds5 zds6 zds7
def zds9:=[oB 1 2 0,mo 2 .mv [oFa]]
def zdt0:=[oA 3 0 1,oM 4 1 3,oC 5 172 [.t 4],oV 6 5,oG 7 6 true (.faddr 1) [.t 1],oG 8 6 true (.load 1 false) [.t 7],oG 9 6 true (.bin .eql) [.t 8,oK 0],mo 10 .pick [.t 6,.t 9,oFa],oV 11 10,oG 12 11 false (.faddr 0) [.t 1],oG 13 11 false (.load 1 false) [.t 12],oG 14 11 false (.bin .eql) [.t 13,oK 0],
 oG 15 11 false .mv [.t 14],oG 16 15 true (.faddr 1) [.t 1],oG 17 15 true (.load 1 false) [.t 16],oG 18 15 true (.bin .geq) [.t 17,oK 1],oG 19 11 false .pick [.t 15,.t 18,oFa],oG 20 11 false .mv [.t 19],oG 21 20 true (.faddr 1) [.t 1],oG 22 20 true (.load 1 false) [.t 21],oG 23 20 true (.bin .leq) [.t 22,oK 8],
 oG 24 11 false .pick [.t 20,.t 23,oFa],mo 25 .pick [.t 11,oTr,.t 24],oV 2 25]
def zdt1:PC:=(.seq (.reg [] zds9) (.seq (.reg [3,4,5,6,7,8,9,10,11,12,13,14,15,16,17,18,19,20,21,22,23,24,25] zdt0) .ret))
theorem zfi6:chkF C.P 144 zdt1 26 [.t 2] 1=true:=by kernel_rfl
attribute [go_sem] zds9 zdt0
def zdt2:=[oB 1 7 0,mo 2 .mv [oFa]]
def zdt3:=[oA 3 0 1,oL 4 3 3,oC 5 54 [.t 4],oV 6 5,oG 7 6 true (.faddr 3) [.t 1],oG 8 6 true (.load 2 true) [.t 7],oG 9 6 true (.call 144) [.t 8],mo 10 .pick [.t 6,.t 9,oFa],oV 11 10,oG 12 11 true (.faddr 5) [.t 1],oG 13 11 true (.load 1 false) [.t 12],oG 14 11 true (.bin .geq) [.t 13,oK 0],mo 15 .pick [.t 11,.t 14,oFa],
 oV 16 15,oG 17 16 true (.faddr 5) [.t 1],oG 18 16 true (.load 1 false) [.t 17],oG 19 16 true (.bin .leq) [.t 18,oK 7],mo 20 .pick [.t 16,.t 19,oFa],oV 21 20,oG 22 21 true (.faddr 6) [.t 1],oG 23 21 true (.load 1 false) [.t 22],oG 24 21 true (.bin .geq) [.t 23,oK 0],mo 25 .pick [.t 21,.t 24,oFa],oV 26 25,
 oG 27 26 true (.faddr 6) [.t 1],oG 28 26 true (.load 1 false) [.t 27],oG 29 26 true (.bin .leq) [.t 28,oK 3],mo 30 .pick [.t 26,.t 29,oFa],oV 2 30]
def zdt4:PC:=(.seq (.reg [] zdt2) (.seq (.reg [3,4,5,6,7,8,9,10,11,12,13,14,15,16,17,18,19,20,21,22,23,24,25,26,27,28,29,30] zdt3) .ret))
theorem zfi7:chkF C.P 171 zdt4 31 [.t 2] 1=true:=by kernel_rfl
attribute [go_sem] zdt2 zdt3
def zdt5:=[oB 3 3 1,oI 4 0]
def zdt6:=[oI 5 0]
def zdt7:=[oV 6 5,oV 7 0,mo 8 .len [.t 7],oP 9 .lss [.t 6,.t 8]]
def zdt8:=[oV 12 0,oV 13 5,mo 14 (.iaS 7 (Wait.enc Wait.zero)) [.t 12,.t 13],oA 15 0 14,oL 16 3 15,oL 17 3 3,mo 18 (.eqa false [.i .i64,.i .i64,.i .i64]) [.t 16,.t 17]]
def zdt9:=[oV 19 5,oV 4 19]
def zdu0:=[oV 10 5,oP 11 .add [.t 10,oK 1],oV 5 11]
def zdu1:=[oI 4 (-1)]
def zdu2:PC:=(.seq (.reg [] zdt5) (.seq (.seq (.reg [] zdt6) (.block 0 (.loop (.seq (.seq (.reg [6,7,8] zdt7) (.cond (.t 9) .skip (.exit 0))) (.seq (.block 1 (.seq (.regd [12,13,14,15,16,17] zdt8) (.cond (.t 18) (.seq (.reg [19] zdt9) .ret) .skip))) (.reg [10,11] zdu0)))))) (.seq (.reg [] zdu1) .ret)))
theorem zfi8:chkF C.P 139 zdu2 20 [.t 4] 2=true:=by kernel_rfl
attribute [go_sem] zdt5 zdt6 zdt7 zdt8 zdt9 zdu0 zdu1
def zdu3:=[mo 2 .mv [oFa]]
def zdu4:=[oV 4 0,mo 5 .len [.t 4],oP 6 .gtr [.t 5,oK 8]]
def zdu5:=[mo 2 .mv [oFa]]
def zdu6:=[oI 3 0]
def zdu7:=[oV 7 3,oV 8 0,mo 9 .len [.t 8],oP 10 .lss [.t 7,.t 9]]
def zdu8:=[oV 13 0,oV 14 3,mo 15 (.iaS 7 (Wait.enc Wait.zero)) [.t 13,.t 14],oL 16 7 15,oC 17 171 [.t 16],mo 18 .not [.t 17],oV 19 18,oG 20 19 false .mv [.t 0],oG 21 19 false .mv [.t 0],oG 22 19 false .mv [.t 3],oG 23 19 false (.iaS 7 (Wait.enc Wait.zero)) [.t 21,.t 22],oG 24 19 false (.faddr 0) [.t 23],
 oG 25 19 false (.load 3 true) [.t 24],oG 26 19 false (.call 139) [.t 20,.t 25],oG 27 19 false .mv [.t 3],oG 28 19 false (.bin .neq) [.t 26,.t 27],mo 29 .pick [.t 19,oTr,.t 28]]
def zdu9:=[mo 2 .mv [oFa]]
def zdv0:=[oV 11 3,oP 12 .add [.t 11,oK 1],oV 3 12]
def zdv1:=[mo 2 .mv [oTr]]
def zdv2:PC:=(.seq (.reg [] zdu3) (.seq (.seq (.reg [4,5] zdu4) (.cond (.t 6) (.seq (.reg [] zdu5) .ret) .skip)) (.seq (.seq (.reg [] zdu6) (.block 0 (.loop (.seq (.seq (.reg [7,8,9] zdu7) (.cond (.t 10) .skip (.exit 0))) (.seq (.block 1 (.seq (.reg [13,14,15,16,17,18,19,20,21,22,23,24,25,26,27,28] zdu8) (.cond (.t 29) (.seq (.reg [] zdu9) .ret) .skip))) (.reg [11,12] zdv0)))))) (.seq (.reg [] zdv1) .ret))))
theorem zfi9:chkF C.P 134 zdv2 30 [.t 2] 1=true:=by kernel_rfl
attribute [go_sem] zdu3 zdu4 zdu5 zdu6 zdu7 zdu8 zdu9 zdv0 zdv1
def zdv3:=[oB 3 3 1,mo 4 (.alloc 2 (Amount.enc Amount.zero)) []]
def zdv4:=[oI 5 0]
def zdv5:=[oV 6 5,oV 7 0,mo 8 .len [.t 7],oP 9 .lss [.t 6,.t 8]]
def zdv6:=[oV 12 0,oV 13 5,mo 14 (.iaS 5 (Hold.enc Hold.zero)) [.t 12,.t 13],oA 15 0 14,oL 16 3 15,oL 17 3 3,mo 18 (.eqa false [.i .i64,.i .i64,.i .i64]) [.t 16,.t 17]]
def zdv7:=[oV 19 0,oV 20 5,mo 21 (.iaS 5 (Hold.enc Hold.zero)) [.t 19,.t 20],oA 22 3 21,oL 23 2 22,oS 2 4 23]
def zdv8:=[oV 10 5,oP 11 .add [.t 10,oK 1],oV 5 11]
def zdv9:=[mo 24 (.build (Amount.enc Amount.zero) []) [],oS 2 4 24]
def zdw0:PC:=(.seq (.reg [] zdv3) (.seq (.seq (.reg [] zdv4) (.block 0 (.loop (.seq (.seq (.reg [6,7,8] zdv5) (.cond (.t 9) .skip (.exit 0))) (.seq (.block 1 (.seq (.regd [12,13,14,15,16,17] zdv6) (.cond (.t 18) (.seq (.reg [19,20,21,22,23] zdv7) .ret) .skip))) (.reg [10,11] zdv8)))))) (.seq (.reg [24] zdv9) .ret)))
theorem zfj0:chkF C.P 135 zdw0 25 [.c 4 2 true] 2=true:=by kernel_rfl
attribute [go_sem] zdv3 zdv4 zdv5 zdv6 zdv7 zdv8 zdv9
def zdw1:=[mo 4 .mv [oFa]]
def zdw2:=[oV 5 0,oC 6 172 [.t 5],mo 7 .not [.t 6],oV 8 7,oG 9 8 false .mv [.t 1],oG 10 8 false (.call 172) [.t 9],oG 11 8 false .not [.t 10],mo 12 .pick [.t 8,oTr,.t 11]]
def zdw3:=[mo 4 .mv [oFa]]
def zdw4:=[oV 13 0,oV 14 1,oP 15 .eql [.t 13,.t 14],oV 16 15,oG 17 16 false .mv [.t 0],oG 18 16 false (.bin .eql) [.t 17,oK 5],mo 19 .pick [.t 16,oTr,.t 18],oV 20 19,oG 21 20 false .mv [.t 1],oG 22 20 false (.bin .eql) [.t 21,oK 1],mo 23 .pick [.t 20,oTr,.t 22],oV 24 23,oG 25 24 false .mv [.t 0],oG 26 24 false (.bin .eql) [.t 25,oK 4],
 oG 27 24 false .mv [.t 26],oG 28 27 true .mv [.t 1],oG 29 27 true (.bin .neq) [.t 28,oK 5],oG 30 24 false .pick [.t 27,.t 29,oFa],mo 31 .pick [.t 24,oTr,.t 30],oV 4 31]
def zdw5:PC:=(.seq (.reg [] zdw1) (.seq (.seq (.reg [5,6,7,8,9,10,11] zdw2) (.cond (.t 12) (.seq (.reg [] zdw3) .ret) .skip)) (.seq (.reg [13,14,15,16,17,18,19,20,21,22,23,24,25,26,27,28,29,30,31] zdw4) .ret)))
theorem zfj1:chkF C.P 174 zdw5 32 [.t 4] 2=true:=by kernel_rfl
attribute [go_sem] zdw1 zdw2 zdw3 zdw4
def zdw6:=[oB 3 4 0,oB 4 2 1,oB 5 2 2,mo 6 .mv [oFa]]
def zdw7:=[oL 7 4 3,oL 8 2 4,oC 9 173 [.t 7,.t 8],mo 10 .not [.t 9],oV 11 10,oG 12 11 false (.load 4 true) [.t 3],oG 13 11 false (.load 2 true) [.t 5],oG 14 11 false (.call 173) [.t 12,.t 13],oG 15 11 false .not [.t 14],mo 16 .pick [.t 11,oTr,.t 15]]
def zdw8:=[mo 6 .mv [oFa]]
def zdw9:=[oL 17 2 5,oC 18 136 [.t 17]]
def zdx0:=[mo 6 .mv [oTr]]
def zdx1:=[oL 19 2 4,oC 20 136 [.t 19]]
def zdx2:=[mo 6 .mv [oFa]]
def zdx3:=[oA 21 1 3,oM 22 1 21,oP 23 .eql [.t 22,oK 1]]
def zdx4:=[oA 24 0 4,oM 25 1 24,oA 26 0 5,oM 27 1 26,oC 28 174 [.t 25,.t 27],oV 6 28]
def zdx5:=[oA 29 1 4,oM 30 1 29,oA 31 1 5,oM 32 1 31,oP 33 .geq [.t 30,.t 32],oV 6 33]
def zdx6:PC:=(.seq (.reg [] zdw6) (.seq (.seq (.reg [7,8,9,10,11,12,13,14,15] zdw7) (.cond (.t 16) (.seq (.reg [] zdw8) .ret) .skip)) (.seq (.seq (.reg [17] zdw9) (.cond (.t 18) (.seq (.reg [] zdx0) .ret) .skip)) (.seq (.seq (.reg [19] zdx1) (.cond (.t 20) (.seq (.reg [] zdx2) .ret) .skip)) (.seq (.seq (.reg [21,22] zdx3) (.cond (.t 23) (.seq (.reg [24,25,26,27,28] zdx4) .ret) .skip)) (.seq (.reg [29,30,31,32,33] zdx5) .ret))))))
theorem zfj2:chkF C.P 138 zdx6 34 [.t 6] 3=true:=by kernel_rfl
attribute [go_sem] zdw6 zdw7 zdw8 zdw9 zdx0 zdx1 zdx2 zdx3 zdx4 zdx5
def zdx7:=[oB 1 8 0,mo 2 .mv [oFa]]
def zdx8:=[oA 8 0 1,oL 9 4 8,mo 3 (.alloc 4 (Resource.enc Resource.zero)) [],oS 4 3 9]
def zdx9:=[oL 10 4 3,oC 11 132 [.t 10],mo 12 .not [.t 11],oV 13 12,oG 14 13 false (.load 4 true) [.t 3],oG 15 13 false (.faddr 4) [.t 1],oG 16 13 false (.load 1 false) [.t 15],oG 17 13 false (.call 133) [.t 14,.t 16],oG 18 13 false .not [.t 17],mo 19 .pick [.t 13,oTr,.t 18],oV 20 19,oG 21 20 false (.faddr 5) [.t 1],
 oG 22 20 false (.load 1 false) [.t 21],oG 23 20 false .len [.t 22],oG 24 20 false (.bin .gtr) [.t 23,oK 8],mo 25 .pick [.t 20,oTr,.t 24],oV 26 25,oG 27 26 false (.faddr 6) [.t 1],oG 28 26 false (.load 1 false) [.t 27],oG 29 26 false (.call 134) [.t 28],oG 30 26 false .not [.t 29],mo 31 .pick [.t 26,oTr,.t 30],
 oV 32 31,oG 33 32 false (.faddr 4) [.t 1],oG 34 32 false (.load 1 false) [.t 33],oG 35 32 false .len [.t 34],oG 36 32 false (.faddr 6) [.t 1],oG 37 32 false (.load 1 false) [.t 36],oG 38 32 false .len [.t 37],oG 39 32 false (.bin .add) [.t 35,.t 38],oG 40 32 false (.bin .gtr) [.t 39,oK 8],mo 41 .pick [.t 32,oTr,.t 40],
 oV 42 41,oG 43 42 false (.faddr 7) [.t 1],oG 44 42 false (.load 1 false) [.t 43],oG 45 42 false (.bin .lss) [.t 44,oK 0],mo 46 .pick [.t 42,oTr,.t 45],oV 47 46,oG 48 47 false (.faddr 7) [.t 1],oG 49 47 false (.load 1 false) [.t 48],oG 50 47 false (.bin .gtr) [.t 49,oK 1073741824],mo 51 .pick [.t 47,oTr,.t 50]]
def zdy0:=[mo 2 .mv [oFa]]
def zdy1:=[oI 4 0]
def zdy2:=[oV 52 4,oA 53 5 1,oM 54 1 53,mo 55 .len [.t 54],oP 56 .lss [.t 52,.t 55]]
def zdy3:=[oA 59 5 1,oM 60 1 59,oV 61 4,mo 62 (.iaS 7 (Wait.enc Wait.zero)) [.t 60,.t 61],oL 63 7 62,mo 5 (.alloc 7 (Wait.enc Wait.zero)) [],oS 7 5 63]
def zdy4:=[oA 64 4 1,oM 65 1 64,oA 66 0 5,oL 67 3 66,oC 68 135 [.t 65,.t 67],mo 6 (.alloc 2 (Amount.enc Amount.zero)) [],oS 2 6 68]
def zdy5:=[oL 69 2 6,oC 70 136 [.t 69],oV 71 70,oG 72 71 false (.load 4 true) [.t 3],oG 73 71 false (.faddr 3) [.t 5],oG 74 71 false (.load 2 true) [.t 73],oG 75 71 false (.call 137) [.t 72,.t 74],oG 76 71 false .not [.t 75],mo 77 .pick [.t 71,oTr,.t 76],oV 78 77,oG 79 78 false (.load 4 true) [.t 3],
 oG 80 78 false (.faddr 3) [.t 5],oG 81 78 false (.load 2 true) [.t 80],oG 82 78 false (.load 2 true) [.t 6],oG 83 78 false (.call 138) [.t 79,.t 81,.t 82],oG 84 78 false .not [.t 83],mo 85 .pick [.t 78,oTr,.t 84],oV 86 85,oG 87 86 false (.faddr 3) [.t 5],oG 88 86 false (.load 2 true) [.t 87],oG 89 86 false (.load 2 true) [.t 6],
 oG 90 86 false (.eqa false [.i .i64,.i .i64]) [.t 88,.t 89],mo 91 .pick [.t 86,oTr,.t 90],oV 92 91,oG 93 92 false (.faddr 5) [.t 5],oG 94 92 false (.load 1 false) [.t 93],oG 95 92 false (.bin .neq) [.t 94,oK 0],mo 96 .pick [.t 92,oTr,.t 95],oV 97 96,oG 98 97 false (.faddr 6) [.t 5],oG 99 97 false (.load 1 false) [.t 98],
 oG 100 97 false (.bin .neq) [.t 99,oK 0],mo 101 .pick [.t 97,oTr,.t 100],oV 102 101,oG 103 102 false (.faddr 5) [.t 1],oG 104 102 false (.load 1 false) [.t 103],oG 105 102 false (.faddr 0) [.t 5],oG 106 102 false (.load 3 true) [.t 105],oG 107 102 false (.call 139) [.t 104,.t 106],oG 108 102 false .mv [.t 4],
 oG 109 102 false (.bin .neq) [.t 107,.t 108],mo 110 .pick [.t 102,oTr,.t 109]]
def zch3:=[mo 2 .mv [oFa]]
def zdy6:=[oV 57 4,oP 58 .add [.t 57,oK 1],oV 4 58]
def zch4:=[oI 7 0]
def zch5:=[oV 111 7,oA 112 6 1,oM 113 1 112,mo 114 .len [.t 113],oP 115 .lss [.t 111,.t 114]]
def zch6:=[oL 118 4 3,oA 119 6 1,oM 120 1 119,oV 121 7,mo 122 (.iaS 7 (Wait.enc Wait.zero)) [.t 120,.t 121],oA 123 3 122,oL 124 2 123,oC 125 137 [.t 118,.t 124],mo 126 .not [.t 125],oV 127 126,oG 128 127 false (.faddr 4) [.t 1],oG 129 127 false (.load 1 false) [.t 128],oG 130 127 false (.faddr 6) [.t 1],
 oG 131 127 false (.load 1 false) [.t 130],oG 132 127 false .mv [.t 7],oG 133 127 false (.iaS 7 (Wait.enc Wait.zero)) [.t 131,.t 132],oG 134 127 false (.faddr 0) [.t 133],oG 135 127 false (.load 3 true) [.t 134],oG 136 127 false (.call 135) [.t 129,.t 135],oG 137 127 false (.call 136) [.t 136],oG 138 127 false .not [.t 137],
 mo 139 .pick [.t 127,oTr,.t 138]]
def zch7:=[mo 2 .mv [oFa]]
def zch8:=[oV 116 7,oP 117 .add [.t 116,oK 1],oV 7 117]
def zch9:=[mo 2 .mv [oTr]]
def zdy7:PC:=(.seq (.reg [] zdx7) (.seq (.reg [8,9] zdx8) (.seq (.seq (.reg [10,11,12,13,14,15,16,17,18,19,20,21,22,23,24,25,26,27,28,29,30,31,32,33,34,35,36,37,38,39,40,41,42,43,44,45,46,47,48,49,50] zdx9) (.cond (.t 51) (.seq (.reg [] zdy0) .ret) .skip)) (.seq (.seq (.reg [] zdy1) (.block 0 (.loop (.seq (.seq (.reg [52,53,54,55] zdy2) (.cond (.t 56) .skip (.exit 0))) (.seq (.block 1 (.seq (.reg [59,60,61,62,63] zdy3) (.seq (.reg [64,65,66,67,68] zdy4) (.seq (.reg [69,70,71,72,73,74,75,76,77,78,79,80,81,82,83,84,85,86,87,88,89,90,91,92,93,94,95,96,97,98,99,100,101,102,103,104,105,106,107,108,109] zdy5) (.cond (.t 110) (.seq (.reg [] zch3) .ret) .skip))))) (.reg [57,58] zdy6)))))) (.seq (.seq (.reg [] zch4) (.block 2 (.loop (.seq (.seq (.reg [111,112,113,114] zch5) (.cond (.t 115) .skip (.exit 2))) (.seq (.block 3 (.seq (.regd [118,119,120,121,122,123,124,125,126,127,128,129,130,131,132,133,134,135,136,137,138] zch6) (.cond (.t 139) (.seq (.reg [] zch7) .ret) .skip))) (.reg [116,117] zch8)))))) (.seq (.reg [] zch9) .ret))))))
theorem zfj3:chkF C.P 108 zdy7 140 [.t 2] 1=true:=by kernel_rfl
attribute [go_sem] zdx7 zdx8 zdx9 zdy0 zdy1 zdy2 zdy3 zdy4 zdy5 zch3 zdy6 zch4 zch5 zch6 zch7 zch8 zch9
def zdy8:=[oB 1 8 0,mo 2 (.alloc 7 (Wait.enc Wait.zero)) [],mo 3 .mv [oFa]]
def zdy9:=[oA 4 5 1,oM 5 1 4,mo 6 .len [.t 5],oP 7 .gtr [.t 6,oK 0]]
def zdz0:=[oA 8 5 1,oM 9 1 8,mo 10 (.iaS 7 (Wait.enc Wait.zero)) [.t 9,oK 0],oL 11 7 10,oS 7 2 11,mo 3 .mv [oTr]]
def zdz1:=[oA 12 6 1,oM 13 1 12,mo 14 .len [.t 13],oP 15 .gtr [.t 14,oK 0]]
def zdz2:=[oA 16 6 1,oM 17 1 16,mo 18 (.iaS 7 (Wait.enc Wait.zero)) [.t 17,oK 0],oL 19 7 18,oS 7 2 19,mo 3 .mv [oTr]]
def zdz3:=[mo 20 (.build (Wait.enc Wait.zero) []) [],oS 7 2 20,mo 3 .mv [oFa]]
def zdz4:PC:=(.seq (.reg [] zdy8) (.seq (.seq (.reg [4,5,6] zdy9) (.cond (.t 7) (.seq (.reg [8,9,10,11] zdz0) .ret) .skip)) (.seq (.seq (.reg [12,13,14] zdz1) (.cond (.t 15) (.seq (.reg [16,17,18,19] zdz2) .ret) .skip)) (.seq (.reg [20] zdz3) .ret))))
theorem zfj4:chkF C.P 140 zdz4 21 [.c 2 7 true,.t 3] 1=true:=by kernel_rfl
attribute [go_sem] zdy8 zdy9 zdz0 zdz1 zdz2 zdz3
def zdz5:=[oB 4 3 1,oB 5 2 2,mo 6 .mv [oNi]]
def zdz6:=[mo 7 (.nilown 5 (Hold.enc Hold.zero)) [.c (A.full [])]]
def zdz7:=[oL 10 2 5,oC 11 136 [.t 10],oV 8 11]
def zdz8:=[oI 9 0]
def zdz9:=[oV 12 9,oV 13 0,mo 14 .len [.t 13],oP 15 .lss [.t 12,.t 14]]
def zdA0:=[oV 18 0,oV 19 9,mo 20 (.iaS 5 (Hold.enc Hold.zero)) [.t 18,.t 19],oA 21 0 20,oL 22 3 21,oL 23 3 4,mo 24 (.eqa false [.i .i64,.i .i64,.i .i64]) [.t 22,.t 23]]
def zdA1:=[oV 25 8,mo 26 .not [.t 25],oV 27 26,oG 28 27 true .mv [.t 0],oG 29 27 true .mv [.t 9],oG 30 27 true (.iaS 5 (Hold.enc Hold.zero)) [.t 28,.t 29],oG 31 27 true (.faddr 0) [.t 30],oG 32 27 true (.load 3 true) [.t 31],oG 33 27 true (.load 3 true) [.t 4],oG 34 27 true (.call 56) [.t 32,.t 33],
 oG 35 27 true (.bin .gtr) [.t 34,oK 0],mo 36 .pick [.t 27,.t 35,oFa]]
def zdA2:=[oV 37 7,oL 38 3 4,oL 39 2 5,mo 40 (.build (Hold.enc Hold.zero) [(0,3),(3,2)]) [.t 38,.t 39],mo 41 (.bslice 5 (Hold.enc Hold.zero)) [.t 40],mo 42 (.append 5 40 (Hold.enc Hold.zero)) [.t 37,.t 41],oV 7 42]
def zdA3:=[mo 8 .mv [oTr]]
def zci0:=[oV 43 7,oV 44 0,oV 45 9,mo 46 (.iaS 5 (Hold.enc Hold.zero)) [.t 44,.t 45],oL 47 5 46,mo 48 (.bslice 5 (Hold.enc Hold.zero)) [.t 47],mo 49 (.append 5 40 (Hold.enc Hold.zero)) [.t 43,.t 48],oV 7 49]
def zdA4:=[oV 16 9,oP 17 .add [.t 16,oK 1],oV 9 17]
def zci1:=[oV 50 8,mo 51 .not [.t 50]]
def zci2:=[oV 52 7,oL 53 3 4,oL 54 2 5,mo 55 (.build (Hold.enc Hold.zero) [(0,3),(3,2)]) [.t 53,.t 54],mo 56 (.bslice 5 (Hold.enc Hold.zero)) [.t 55],mo 57 (.append 5 40 (Hold.enc Hold.zero)) [.t 52,.t 56],oV 7 57]
def zci3:=[oV 58 7,oV 6 58]
def zdA5:PC:=(.seq (.reg [] zdz5) (.seq (.reg [] zdz6) (.seq (.reg [10,11] zdz7) (.seq (.seq (.reg [] zdz8) (.block 0 (.loop (.seq (.seq (.reg [12,13,14] zdz9) (.cond (.t 15) .skip (.exit 0))) (.seq (.block 1 (.seq (.seq (.regd [18,19,20,21,22,23] zdA0) (.cond (.t 24) (.exit 1) .skip)) (.seq (.seq (.regd [25,26,27,28,29,30,31,32,33,34,35] zdA1) (.cond (.t 36) (.seq (.reg [37,38,39,40,41,42] zdA2) (.reg [] zdA3)) .skip)) (.reg [43,44,45,46,47,48,49] zci0)))) (.reg [16,17] zdA4)))))) (.seq (.seq (.reg [50] zci1) (.cond (.t 51) (.reg [52,53,54,55,56,57] zci2) .skip)) (.seq (.reg [58] zci3) .ret))))))
theorem zfj5:chkF C.P 175 zdA5 59 [.t 6] 3=true:=by kernel_rfl
attribute [go_sem] zdz5 zdz6 zdz7 zdz8 zdz9 zdA0 zdA1 zdA2 zdA3 zci0 zdA4 zci1 zci2 zci3
def zdA6:=[oB 4 4 0,oB 6 3 2,oB 7 2 3,mo 8 .mv [oFa]]
def zdA7:=[oL 9 4 4,oV 10 1,oC 11 133 [.t 9,.t 10],oV 12 11,oG 13 12 true (.load 3 true) [.t 6],oG 14 12 true (.call 54) [.t 13],mo 15 .pick [.t 12,.t 14,oFa],oV 16 15,oG 17 16 true (.load 4 true) [.t 4],oG 18 16 true (.load 2 true) [.t 7],oG 19 16 true (.call 137) [.t 17,.t 18],mo 20 .pick [.t 16,.t 19,oFa],
 oV 21 20,oG 22 21 true (.load 4 true) [.t 4],oG 23 21 true .mv [.t 1],oG 24 21 true (.load 3 true) [.t 6],oG 25 21 true (.load 2 true) [.t 7],oG 26 21 true (.call 175) [.t 23,.t 24,.t 25],oG 27 21 true (.call 133) [.t 22,.t 26],mo 28 .pick [.t 21,.t 27,oFa],oV 8 28]
def zdA8:PC:=(.seq (.reg [] zdA6) (.seq (.regd [9,10,11,12,13,14,15,16,17,18,19,20,21,22,23,24,25,26,27,28] zdA7) .ret))
theorem zfj6:chkF C.P 141 zdA8 29 [.t 8] 4=true:=by kernel_rfl
attribute [go_sem] zdA6 zdA7
def zdA9:=[oB 1 8 0,mo 2 .mv [oFa]]
def zdB0:=[oL 5 8 1,oC 6 108 [.t 5],mo 7 .not [.t 6]]
def zdB1:=[mo 2 .mv [oFa]]
def zdB2:=[oL 9 8 1,oC 10 140 [.t 9],oV 8 10,oE 11 0 8,oE 12 1 8,mo 3 (.alloc 7 (Wait.enc Wait.zero)) [],oS 7 3 11,oV 4 12]
def zdB3:=[oV 13 4,mo 14 .not [.t 13],oV 15 14,oG 16 15 false (.faddr 0) [.t 1],oG 17 15 false (.load 4 true) [.t 16],oG 18 15 false (.faddr 4) [.t 1],oG 19 15 false (.load 1 false) [.t 18],oG 20 15 false (.faddr 0) [.t 3],oG 21 15 false (.load 3 true) [.t 20],oG 22 15 false (.faddr 3) [.t 3],oG 23 15 false (.load 2 true) [.t 22],
 oG 24 15 false (.call 141) [.t 17,.t 19,.t 21,.t 23],oG 25 15 false .not [.t 24],mo 26 .pick [.t 15,oTr,.t 25],oV 2 26]
def zdB4:PC:=(.seq (.reg [] zdA9) (.seq (.seq (.reg [5,6] zdB0) (.cond (.t 7) (.seq (.reg [] zdB1) .ret) .skip)) (.seq (.reg [8,9,10,11,12] zdB2) (.seq (.reg [13,14,15,16,17,18,19,20,21,22,23,24,25,26] zdB3) .ret))))
theorem zfj7:chkF C.P 109 zdB4 27 [.t 2] 1=true:=by kernel_rfl
attribute [go_sem] zdA9 zdB0 zdB1 zdB2 zdB3
def zdB5:=[oB 1 8 0,mo 2 .mv [oFa]]
def zdB6:=[oL 3 8 1,oC 4 108 [.t 3],oV 5 4,oG 6 5 true (.load 8 true) [.t 1],oG 7 5 true (.call 109) [.t 6],mo 8 .pick [.t 5,.t 7,oFa],oV 2 8]
def zdB7:PC:=(.seq (.reg [] zdB5) (.seq (.reg [3,4,5,6,7,8] zdB6) .ret))
theorem zfj8:chkF C.P 84 zdB7 9 [.t 2] 1=true:=by kernel_rfl
attribute [go_sem] zdB5 zdB6
def zdB8:=[mo 2 .mv [oFa]]
def zdB9:=[oV 4 0,mo 5 .len [.t 4],oP 6 .gtr [.t 5,oK 8]]
def zdC0:=[mo 2 .mv [oFa]]
def zdC1:=[oI 3 0]
def zdC2:=[oV 7 3,oV 8 0,mo 9 .len [.t 8],oP 10 .lss [.t 7,.t 9]]
def zdC3:=[oV 13 0,oV 14 3,mo 15 (.iaS 8 (Queue.enc Queue.zero)) [.t 13,.t 14],oL 16 8 15,oC 17 84 [.t 16],mo 18 .not [.t 17],oV 19 18,oG 20 19 false .mv [.t 3],oG 21 19 false (.bin .gtr) [.t 20,oK 0],oG 22 19 false .mv [.t 21],oG 23 22 true .mv [.t 0],oG 24 22 true .mv [.t 3],oG 25 22 true (.bin .sub) [.t 24,oK 1],
 oG 26 22 true (.iaS 8 (Queue.enc Queue.zero)) [.t 23,.t 25],oG 27 22 true (.faddr 0) [.t 26],oG 28 22 true (.faddr 0) [.t 27],oG 29 22 true (.load 1 false) [.t 28],oG 30 22 true .mv [.t 0],oG 31 22 true .mv [.t 3],oG 32 22 true (.iaS 8 (Queue.enc Queue.zero)) [.t 30,.t 31],oG 33 22 true (.faddr 0) [.t 32],
 oG 34 22 true (.faddr 0) [.t 33],oG 35 22 true (.load 1 false) [.t 34],oG 36 22 true (.bin .geq) [.t 29,.t 35],oG 37 19 false .pick [.t 22,.t 36,oFa],mo 38 .pick [.t 19,oTr,.t 37]]
def zdC4:=[mo 2 .mv [oFa]]
def zdC5:=[oV 11 3,oP 12 .add [.t 11,oK 1],oV 3 12]
def zdC6:=[mo 2 .mv [oTr]]
def zdC7:PC:=(.seq (.reg [] zdB8) (.seq (.seq (.reg [4,5] zdB9) (.cond (.t 6) (.seq (.reg [] zdC0) .ret) .skip)) (.seq (.seq (.reg [] zdC1) (.block 0 (.loop (.seq (.seq (.reg [7,8,9] zdC2) (.cond (.t 10) .skip (.exit 0))) (.seq (.block 1 (.seq (.regd [13,14,15,16,17,18,19,20,21,22,23,24,25,26,27,28,29,30,31,32,33,34,35,36,37] zdC3) (.cond (.t 38) (.seq (.reg [] zdC4) .ret) .skip))) (.reg [11,12] zdC5)))))) (.seq (.reg [] zdC6) .ret))))
theorem zfj9:chkF C.P 53 zdC7 39 [.t 2] 1=true:=by kernel_rfl
attribute [go_sem] zdB8 zdB9 zdC0 zdC1 zdC2 zdC3 zdC4 zdC5 zdC6
def zdC8:=[oB 2 5 0,oI 4 0,oI 5 0]
def zdC9:=[oV 11 1,oP 12 .gtr [.t 11,oK 4],oV 13 12,oG 14 13 false (.faddr 4) [.t 2],oG 15 13 false (.load 1 false) [.t 14],oG 16 13 false .len [.t 15],oG 17 13 false (.bin .gtr) [.t 16,oK 24],mo 18 .pick [.t 13,oTr,.t 17]]
def zdD0:=[oI 4 25,oI 5 0]
def zdD1:=[oI 6 1,oI 7 0]
def zdD2:=[oI 8 0]
def zdD3:=[oV 19 8,oA 20 4 2,oM 21 1 20,mo 22 .len [.t 21],oP 23 .lss [.t 19,.t 22]]
def zdD4:=[oA 27 4 2,oM 28 1 27,oV 29 8,mo 30 (.iaS 5 (Expr.enc Expr.zero)) [.t 28,.t 29],oL 31 5 30,oV 32 1,oP 33 .add [.t 32,oK 1],oC 34 142 [.t 31,.t 33],oV 26 34,oE 35 0 26,oE 36 1 26,oV 9 35,oV 10 36]
def zdD5:=[oV 37 6,oV 38 9,oP 39 .add [.t 37,.t 38],oV 6 39]
def zdD6:=[oV 40 10,oV 41 7,oP 42 .gtr [.t 40,.t 41]]
def zci4:=[oV 43 10,oV 7 43]
def zci5:=[oV 44 6,oP 45 .gtr [.t 44,oK 24]]
def zci6:=[oI 4 25,oI 5 0]
def zdD7:=[oV 24 8,oP 25 .add [.t 24,oK 1],oV 8 25]
def zci7:=[oV 46 6,oV 47 7,oP 48 .add [.t 47,oK 1],oV 4 46,oV 5 48]
def zdD8:PC:=(.seq (.reg [] zdC8) (.seq (.seq (.reg [11,12,13,14,15,16,17] zdC9) (.cond (.t 18) (.seq (.reg [] zdD0) .ret) .skip)) (.seq (.reg [] zdD1) (.seq (.seq (.reg [] zdD2) (.block 0 (.loop (.seq (.seq (.reg [19,20,21,22] zdD3) (.cond (.t 23) .skip (.exit 0))) (.seq (.block 1 (.seq (.reg [26,27,28,29,30,31,32,33,34,35,36] zdD4) (.seq (.reg [37,38,39] zdD5) (.seq (.seq (.reg [40,41] zdD6) (.cond (.t 42) (.reg [43] zci4) .skip)) (.seq (.reg [44] zci5) (.cond (.t 45) (.seq (.reg [] zci6) .ret) .skip)))))) (.reg [24,25] zdD7)))))) (.seq (.reg [46,47,48] zci7) .ret)))))
theorem zfk0:chkF C.P 142 zdD8 49 [.t 4,.t 5] 2=true:=by kernel_rfl
attribute [go_sem] zdC8 zdC9 zdD0 zdD1 zdD2 zdD3 zdD4 zdD5 zdD6 zci4 zci5 zci6 zdD7 zci7
def zdD9:=[oB 1 5 0,oI 2 0]
def zdE0:=[oL 6 5 1,oC 7 142 [.t 6,oK 1],oV 5 7,oE 8 0 5,oE 9 1 5,oV 3 8,oV 4 9]
def zdE1:=[oV 10 3,oP 11 .gtr [.t 10,oK 24]]
def zdE2:=[oI 2 0]
def zdE3:=[oV 12 3,oV 2 12]
def zdE4:PC:=(.seq (.reg [] zdD9) (.seq (.reg [4,5,6,7,8,9] zdE0) (.seq (.seq (.reg [10] zdE1) (.cond (.t 11) (.seq (.reg [] zdE2) .ret) .skip)) (.seq (.reg [12] zdE3) .ret))))
theorem zfk1:chkF C.P 110 zdE4 13 [.t 2] 1=true:=by kernel_rfl
attribute [go_sem] zdD9 zdE0 zdE1 zdE2 zdE3
def zdE5:=[oB 3 5 1,mo 4 (.nilown 3 (Atom.enc Atom.zero)) [.c (A.full [])],mo 5 .mv [oFa]]
def zdE6:=[oA 10 4 3,oM 11 1 10,mo 12 .len [.t 11],oP 13 .eql [.t 12,oK 0]]
def zdE7:=[oA 14 0 3,oM 15 1 14,oP 16 .neq [.t 15,oK 0],oV 17 16,oG 18 17 false (.faddr 1) [.t 3],oG 19 17 false (.faddr 0) [.t 18],oG 20 17 false (.load 1 false) [.t 19],oG 21 17 false (.call 143) [.t 20],oG 22 17 false .not [.t 21],mo 23 .pick [.t 17,oTr,.t 22],oV 24 23,oG 25 24 false (.faddr 1) [.t 3],
 oG 26 24 false (.faddr 1) [.t 25],oG 27 24 false (.load 2 true) [.t 26],oG 28 24 false (.call 144) [.t 27],oG 29 24 false .not [.t 28],mo 30 .pick [.t 24,oTr,.t 29]]
def zdE8:=[oV 31 0,oV 4 31,mo 5 .mv [oFa]]
def zdE9:=[oI 6 0]
def zdF0:=[oV 32 6,oV 33 0,mo 34 .len [.t 33],oP 35 .lss [.t 32,.t 34]]
def zdF1:=[oV 38 0,oV 39 6,mo 40 (.iaS 3 (Atom.enc Atom.zero)) [.t 38,.t 39],oL 41 3 40,oA 42 1 3,oL 43 3 42,mo 44 (.eqa false [.s,.i .i64,.i .i64]) [.t 41,.t 43]]
def zdF2:=[oV 45 0,oV 4 45,mo 5 .mv [oTr]]
def zdF3:=[oV 36 6,oP 37 .add [.t 36,oK 1],oV 6 37]
def zdF4:=[oV 46 0,oA 47 1 3,oL 48 3 47,mo 49 (.bslice 3 (Atom.enc Atom.zero)) [.t 48],mo 50 (.append 3 32 (Atom.enc Atom.zero)) [.t 46,.t 49],oV 4 50,mo 5 .mv [oTr]]
def zci8:=[oA 51 0 3,oM 52 1 51,oP 53 .lss [.t 52,oK 1],oV 54 53,oG 55 54 false (.faddr 0) [.t 3],oG 56 54 false (.load 1 false) [.t 55],oG 57 54 false (.faddr 4) [.t 3],oG 58 54 false (.load 1 false) [.t 57],oG 59 54 false .len [.t 58],oG 60 54 false (.bin .gtr) [.t 56,.t 59],mo 61 .pick [.t 54,oTr,.t 60],
 oV 62 61,oG 63 62 false (.faddr 1) [.t 3],oG 64 62 false (.load 3 true) [.t 63],oG 65 62 false (.build (Atom.enc Atom.zero) []) [],oG 66 62 false (.eqa true [.s,.i .i64,.i .i64]) [.t 64,.t 65],mo 67 .pick [.t 62,oTr,.t 66]]
def zci9:=[oV 68 0,oV 4 68,mo 5 .mv [oFa]]
def zcj0:=[oI 7 0]
def zcj1:=[oV 69 7,oA 70 4 3,oM 71 1 70,mo 72 .len [.t 71],oP 73 .lss [.t 69,.t 72]]
def zcj2:=[oV 77 0,oA 78 4 3,oM 79 1 78,oV 80 7,mo 81 (.iaS 5 (Expr.enc Expr.zero)) [.t 79,.t 80],oL 82 5 81,mo 83 (.callm 111) [.t 77,.t 82],oV 76 83,oE 84 0 76,oE 85 1 76,oV 8 84,oV 9 85]
def zcj3:=[oV 86 9,mo 87 .not [.t 86]]
def zcj4:=[oV 88 0,oV 4 88,mo 5 .mv [oFa]]
def zcj5:=[oV 89 8,oV 0 89]
def zcj6:=[oV 74 7,oP 75 .add [.t 74,oK 1],oV 7 75]
def zcj7:=[oV 90 0,oV 4 90,mo 5 .mv [oTr]]
def zcj8:PC:=(.seq (.reg [] zdE5) (.seq (.seq (.reg [10,11,12] zdE6) (.cond (.t 13) (.seq (.seq (.reg [14,15,16,17,18,19,20,21,22,23,24,25,26,27,28,29] zdE7) (.cond (.t 30) (.seq (.reg [31] zdE8) .ret) .skip)) (.seq (.seq (.reg [] zdE9) (.block 0 (.loop (.seq (.seq (.reg [32,33,34] zdF0) (.cond (.t 35) .skip (.exit 0))) (.seq (.block 1 (.seq (.regd [38,39,40,41,42,43] zdF1) (.cond (.t 44) (.seq (.reg [45] zdF2) .ret) .skip))) (.reg [36,37] zdF3)))))) (.seq (.reg [46,47,48,49,50] zdF4) .ret))) .skip)) (.seq (.seq (.reg [51,52,53,54,55,56,57,58,59,60,61,62,63,64,65,66] zci8) (.cond (.t 67) (.seq (.reg [68] zci9) .ret) .skip)) (.seq (.seq (.reg [] zcj0) (.block 2 (.loop (.seq (.seq (.reg [69,70,71,72] zcj1) (.cond (.t 73) .skip (.exit 2))) (.seq (.block 3 (.seq (.reg [76,77,78,79,80,81,82,83,84,85] zcj2) (.seq (.seq (.reg [86] zcj3) (.cond (.t 87) (.seq (.reg [88] zcj4) .ret) .skip)) (.reg [89] zcj5)))) (.reg [74,75] zcj6)))))) (.seq (.reg [90] zcj7) .ret)))))
theorem zdF5:chkF C.P 111 zcj8 91 [.t 4,.t 5] 2=true:=by kernel_rfl
attribute [go_sem] zdE5 zdE6 zdE7 zdE8 zdE9 zdF0 zdF1 zdF2 zdF3 zdF4 zci8 zci9 zcj0 zcj1 zcj2 zcj3 zcj4 zcj5 zcj6 zcj7
def zdF6:=[oB 3 5 1,mo 4 .mv [oNi],mo 5 .mv [oFa]]
def zdF7:=[oA 10 4 3,oM 11 1 10,mo 12 .len [.t 11],oP 13 .eql [.t 12,oK 0]]
def zdF8:=[oA 14 0 3,oM 15 1 14,oP 16 .neq [.t 15,oK 0],oV 17 16,oG 18 17 false (.faddr 1) [.t 3],oG 19 17 false (.faddr 0) [.t 18],oG 20 17 false (.load 1 false) [.t 19],oG 21 17 false (.call 143) [.t 20],oG 22 17 false .not [.t 21],mo 23 .pick [.t 17,oTr,.t 22],oV 24 23,oG 25 24 false (.faddr 1) [.t 3],
 oG 26 24 false (.faddr 1) [.t 25],oG 27 24 false (.load 2 true) [.t 26],oG 28 24 false (.call 144) [.t 27],oG 29 24 false .not [.t 28],mo 30 .pick [.t 24,oTr,.t 29]]
def zdF9:=[oV 31 0,oV 4 31,mo 5 .mv [oFa]]
def zdG0:=[oI 6 0]
def zdG1:=[oV 32 6,oV 33 0,mo 34 .len [.t 33],oP 35 .lss [.t 32,.t 34]]
def zdG2:=[oV 38 0,oV 39 6,mo 40 (.iaS 3 (Atom.enc Atom.zero)) [.t 38,.t 39],oL 41 3 40,oA 42 1 3,oL 43 3 42,mo 44 (.eqa false [.s,.i .i64,.i .i64]) [.t 41,.t 43]]
def zdG3:=[oV 45 0,oV 4 45,mo 5 .mv [oTr]]
def zdG4:=[oV 36 6,oP 37 .add [.t 36,oK 1],oV 6 37]
def zdG5:=[oV 46 0,oA 47 1 3,oL 48 3 47,mo 49 (.bslice 3 (Atom.enc Atom.zero)) [.t 48],mo 50 (.append 3 32 (Atom.enc Atom.zero)) [.t 46,.t 49],oV 4 50,mo 5 .mv [oTr]]
def zcj9:=[oA 51 0 3,oM 52 1 51,oP 53 .lss [.t 52,oK 1],oV 54 53,oG 55 54 false (.faddr 0) [.t 3],oG 56 54 false (.load 1 false) [.t 55],oG 57 54 false (.faddr 4) [.t 3],oG 58 54 false (.load 1 false) [.t 57],oG 59 54 false .len [.t 58],oG 60 54 false (.bin .gtr) [.t 56,.t 59],mo 61 .pick [.t 54,oTr,.t 60],
 oV 62 61,oG 63 62 false (.faddr 1) [.t 3],oG 64 62 false (.load 3 true) [.t 63],oG 65 62 false (.build (Atom.enc Atom.zero) []) [],oG 66 62 false (.eqa true [.s,.i .i64,.i .i64]) [.t 64,.t 65],mo 67 .pick [.t 62,oTr,.t 66]]
def zck0:=[oV 68 0,oV 4 68,mo 5 .mv [oFa]]
def zck1:=[oI 7 0]
def zck2:=[oV 69 7,oA 70 4 3,oM 71 1 70,mo 72 .len [.t 71],oP 73 .lss [.t 69,.t 72]]
def zck3:=[oV 77 0,oA 78 4 3,oM 79 1 78,oV 80 7,mo 81 (.iaS 5 (Expr.enc Expr.zero)) [.t 79,.t 80],oL 82 5 81,mo 83 (.callm 111) [.t 77,.t 82],oV 76 83,oE 84 0 76,oE 85 1 76,oV 8 84,oV 9 85]
def zck4:=[oV 86 9,mo 87 .not [.t 86]]
def zck5:=[oV 88 0,oV 4 88,mo 5 .mv [oFa]]
def zck6:=[oV 89 8,oV 0 89]
def zck7:=[oV 74 7,oP 75 .add [.t 74,oK 1],oV 7 75]
def zck8:=[oV 90 0,oV 4 90,mo 5 .mv [oTr]]
def zck9:PC:=(.seq (.reg [] zdF6) (.seq (.seq (.reg [10,11,12] zdF7) (.cond (.t 13) (.seq (.seq (.reg [14,15,16,17,18,19,20,21,22,23,24,25,26,27,28,29] zdF8) (.cond (.t 30) (.seq (.reg [31] zdF9) .ret) .skip)) (.seq (.seq (.reg [] zdG0) (.block 0 (.loop (.seq (.seq (.reg [32,33,34] zdG1) (.cond (.t 35) .skip (.exit 0))) (.seq (.block 1 (.seq (.regd [38,39,40,41,42,43] zdG2) (.cond (.t 44) (.seq (.reg [45] zdG3) .ret) .skip))) (.reg [36,37] zdG4)))))) (.seq (.reg [46,47,48,49,50] zdG5) .ret))) .skip)) (.seq (.seq (.reg [51,52,53,54,55,56,57,58,59,60,61,62,63,64,65,66] zcj9) (.cond (.t 67) (.seq (.reg [68] zck0) .ret) .skip)) (.seq (.seq (.reg [] zck1) (.block 2 (.loop (.seq (.seq (.reg [69,70,71,72] zck2) (.cond (.t 73) .skip (.exit 2))) (.seq (.block 3 (.seq (.reg [76,77,78,79,80,81,82,83,84,85] zck3) (.seq (.seq (.reg [86] zck4) (.cond (.t 87) (.seq (.reg [88] zck5) .ret) .skip)) (.reg [89] zck6)))) (.reg [74,75] zck7)))))) (.seq (.reg [90] zck8) .ret)))))
theorem zdG6:chkF C.P 111 zck9 91 [.t 4,.t 5] 2=true:=by kernel_rfl
attribute [go_sem] zdF6 zdF7 zdF8 zdF9 zdG0 zdG1 zdG2 zdG3 zdG4 zdG5 zcj9 zck0 zck1 zck2 zck3 zck4 zck5 zck6 zck7 zck8
def zdG7:=[oB 1 5 0,mo 2 .mv [oNi],mo 3 .mv [oFa]]
def zdG8:=[oL 8 5 1,oC 9 110 [.t 8],oP 10 .eql [.t 9,oK 0]]
def zdG9:=[mo 2 .mv [oNi],mo 3 .mv [oFa]]
def zdH0:=[oL 12 5 1,mo 13 (.callm 111) [.c (A.full []),.t 12],oV 11 13,oE 14 0 11,oE 15 1 11,oV 4 14,oV 5 15]
def zdH1:=[oV 16 5,mo 17 .not [.t 16],oV 18 17,oG 19 18 false .mv [.t 4],oG 20 18 false .len [.t 19],oG 21 18 false (.bin .gtr) [.t 20,oK 8],mo 22 .pick [.t 18,oTr,.t 21]]
def zdH2:=[mo 2 .mv [oNi],mo 3 .mv [oFa]]
def zdH3:=[oI 6 0]
def zdH4:=[oV 23 6,oV 24 4,mo 25 .len [.t 24],oP 26 .lss [.t 23,.t 25]]
def zdH5:=[oI 7 0]
def zcl0:=[oV 29 7,oV 30 6,oP 31 .lss [.t 29,.t 30]]
def zcl1:=[oV 34 4,oV 35 6,mo 36 (.iaS 3 (Atom.enc Atom.zero)) [.t 34,.t 35],oA 37 0 36,oM 38 1 37,oV 39 4,oV 40 7,mo 41 (.iaS 3 (Atom.enc Atom.zero)) [.t 39,.t 40],oA 42 0 41,oM 43 1 42,oP 44 .eql [.t 38,.t 43]]
def zcl2:=[mo 2 .mv [oNi],mo 3 .mv [oFa]]
def zcl3:=[oV 32 7,oP 33 .add [.t 32,oK 1],oV 7 33]
def zdH6:=[oV 27 6,oP 28 .add [.t 27,oK 1],oV 6 28]
def zcl4:=[oV 45 4,oV 2 45,mo 3 .mv [oTr]]
def zdH7:PC:=(.seq (.reg [] zdG7) (.seq (.seq (.reg [8,9] zdG8) (.cond (.t 10) (.seq (.reg [] zdG9) .ret) .skip)) (.seq (.reg [11,12,13,14,15] zdH0) (.seq (.seq (.reg [16,17,18,19,20,21] zdH1) (.cond (.t 22) (.seq (.reg [] zdH2) .ret) .skip)) (.seq (.seq (.reg [] zdH3) (.block 0 (.loop (.seq (.seq (.reg [23,24,25] zdH4) (.cond (.t 26) .skip (.exit 0))) (.seq (.block 1 (.seq (.reg [] zdH5) (.block 2 (.loop (.seq (.seq (.reg [29,30] zcl0) (.cond (.t 31) .skip (.exit 2))) (.seq (.block 3 (.seq (.regd [34,35,36,37,38,39,40,41,42,43] zcl1) (.cond (.t 44) (.seq (.reg [] zcl2) .ret) .skip))) (.reg [32,33] zcl3))))))) (.reg [27,28] zdH6)))))) (.seq (.reg [45] zcl4) .ret))))))
theorem zfk2:chkF C.P 85 zdH7 46 [.t 2,.t 3] 1=true:=by kernel_rfl
attribute [go_sem] zdG7 zdG8 zdG9 zdH0 zdH1 zdH2 zdH3 zdH4 zdH5 zcl0 zcl1 zcl2 zcl3 zdH6 zcl4
def zdH8:=[oB 1 5 0,mo 2 .mv [oFa]]
def zdH9:=[oL 6 5 1,oC 7 85 [.t 6],oV 5 7,oE 8 0 5,oE 9 1 5,oV 3 8,oV 4 9]
def zdI0:=[oV 10 4,oV 2 10]
def zdI1:PC:=(.seq (.reg [] zdH8) (.seq (.reg [3,5,6,7,8,9] zdH9) (.seq (.reg [10] zdI0) .ret)))
theorem zfk3:chkF C.P 55 zdI1 11 [.t 2] 1=true:=by kernel_rfl
attribute [go_sem] zdH8 zdH9 zdI0
def zdI2:=[mo 2 (.nilown 3 (Proc.enc Proc.zero)) [.c (A.full [])]]
def zdI3:=[mo 3 (.nilown 3 (Proc.enc Proc.zero)) [.c (A.full [])]]
def zdI4:=[oI 4 0]
def zdI5:=[oV 5 4,oV 6 0,mo 7 .len [.t 6],oP 8 .lss [.t 5,.t 7]]
def zdI6:=[oV 11 3,oV 12 0,oV 13 4,mo 14 (.iaS 5 (Hold.enc Hold.zero)) [.t 12,.t 13],oA 15 0 14,oL 16 3 15,mo 17 (.bslice 3 (Proc.enc Proc.zero)) [.t 16],mo 18 (.append 3 24 (Proc.enc Proc.zero)) [.t 11,.t 17],oV 3 18]
def zdI7:=[oV 9 4,oP 10 .add [.t 9,oK 1],oV 4 10]
def zdI8:=[oV 19 3,oV 2 19]
def zdI9:PC:=(.seq (.reg [] zdI2) (.seq (.reg [] zdI3) (.seq (.seq (.reg [] zdI4) (.block 0 (.loop (.seq (.seq (.reg [5,6,7] zdI5) (.cond (.t 8) .skip (.exit 0))) (.seq (.block 1 (.reg [11,12,13,14,15,16,17,18] zdI6)) (.reg [9,10] zdI7)))))) (.seq (.reg [19] zdI8) .ret))))
theorem zfk4:chkF C.P 145 zdI9 20 [.t 2] 1=true:=by kernel_rfl
attribute [go_sem] zdI2 zdI3 zdI4 zdI5 zdI6 zdI7 zdI8
def zdJ0:=[oB 1 8 0,mo 2 .mv [oNi]]
def zdJ1:=[mo 3 (.nilown 3 (Proc.enc Proc.zero)) [.c (A.full [])]]
def zdJ2:=[oI 4 0]
def zdJ3:=[oV 6 4,oA 7 5 1,oM 8 1 7,mo 9 .len [.t 8],oP 10 .lss [.t 6,.t 9]]
def zdJ4:=[oV 13 3,oA 14 5 1,oM 15 1 14,oV 16 4,mo 17 (.iaS 7 (Wait.enc Wait.zero)) [.t 15,.t 16],oA 18 0 17,oL 19 3 18,mo 20 (.bslice 3 (Proc.enc Proc.zero)) [.t 19],mo 21 (.append 3 24 (Proc.enc Proc.zero)) [.t 13,.t 20],oV 3 21]
def zdJ5:=[oV 11 4,oP 12 .add [.t 11,oK 1],oV 4 12]
def zdJ6:=[oI 5 0]
def zdJ7:=[oV 22 5,oA 23 6 1,oM 24 1 23,mo 25 .len [.t 24],oP 26 .lss [.t 22,.t 25]]
def zdJ8:=[oV 29 3,oA 30 6 1,oM 31 1 30,oV 32 5,mo 33 (.iaS 7 (Wait.enc Wait.zero)) [.t 31,.t 32],oA 34 0 33,oL 35 3 34,mo 36 (.bslice 3 (Proc.enc Proc.zero)) [.t 35],mo 37 (.append 3 24 (Proc.enc Proc.zero)) [.t 29,.t 36],oV 3 37]
def zdJ9:=[oV 27 5,oP 28 .add [.t 27,oK 1],oV 5 28]
def zcl5:=[oV 38 3,oV 2 38]
def zdK0:PC:=(.seq (.reg [] zdJ0) (.seq (.reg [] zdJ1) (.seq (.seq (.reg [] zdJ2) (.block 0 (.loop (.seq (.seq (.reg [6,7,8,9] zdJ3) (.cond (.t 10) .skip (.exit 0))) (.seq (.block 1 (.reg [13,14,15,16,17,18,19,20,21] zdJ4)) (.reg [11,12] zdJ5)))))) (.seq (.seq (.reg [] zdJ6) (.block 2 (.loop (.seq (.seq (.reg [22,23,24,25] zdJ7) (.cond (.t 26) .skip (.exit 2))) (.seq (.block 3 (.reg [29,30,31,32,33,34,35,36,37] zdJ8)) (.reg [27,28] zdJ9)))))) (.seq (.reg [38] zcl5) .ret)))))
theorem zfk5:chkF C.P 146 zdK0 39 [.t 2] 1=true:=by kernel_rfl
attribute [go_sem] zdJ0 zdJ1 zdJ2 zdJ3 zdJ4 zdJ5 zdJ6 zdJ7 zdJ8 zdJ9 zcl5
def zdK1:=[oB 3 3 1,mo 4 .mv [oFa]]
def zdK2:=[oI 5 0]
def zdK3:=[oV 6 5,oV 7 0,mo 8 .len [.t 7],oP 9 .lss [.t 6,.t 8]]
def zdK4:=[oV 12 0,oV 13 5,mo 14 (.iaS 3 (Proc.enc Proc.zero)) [.t 12,.t 13],oL 15 3 14,oL 16 3 3,mo 17 (.eqa false [.i .i64,.i .i64,.i .i64]) [.t 15,.t 16]]
def zdK5:=[mo 4 .mv [oTr]]
def zdK6:=[oV 10 5,oP 11 .add [.t 10,oK 1],oV 5 11]
def zdK7:=[mo 4 .mv [oFa]]
def zdK8:PC:=(.seq (.reg [] zdK1) (.seq (.seq (.reg [] zdK2) (.block 0 (.loop (.seq (.seq (.reg [6,7,8] zdK3) (.cond (.t 9) .skip (.exit 0))) (.seq (.block 1 (.seq (.regd [12,13,14,15,16] zdK4) (.cond (.t 17) (.seq (.reg [] zdK5) .ret) .skip))) (.reg [10,11] zdK6)))))) (.seq (.reg [] zdK7) .ret)))
theorem zfk6:chkF C.P 113 zdK8 18 [.t 4] 2=true:=by kernel_rfl
attribute [go_sem] zdK1 zdK2 zdK3 zdK4 zdK5 zdK6 zdK7
def zdK9:=[mo 2 .mv [oNi]]
def zdL0:=[mo 3 (.nilown 3 (Proc.enc Proc.zero)) [.c (A.full [])]]
def zdL1:=[oI 4 0]
def zdL2:=[oV 7 4,oV 8 0,mo 9 .len [.t 8],oP 10 .lss [.t 7,.t 9]]
def zdL3:=[oV 13 3,oV 14 0,oV 15 4,mo 16 (.iaS 3 (Proc.enc Proc.zero)) [.t 14,.t 15],oL 17 3 16,oC 18 113 [.t 13,.t 17]]
def zdL4:=[oV 19 3,mo 20 .len [.t 19],oV 5 20]
def zdL5:=[oV 21 3,oV 22 0,oV 23 4,mo 24 (.iaS 3 (Proc.enc Proc.zero)) [.t 22,.t 23],oL 25 3 24,mo 26 (.bslice 3 (Proc.enc Proc.zero)) [.t 25],mo 27 (.append 3 24 (Proc.enc Proc.zero)) [.t 21,.t 26],oV 3 27]
def zdL6:=[oV 28 5,oP 29 .gtr [.t 28,oK 0],oV 30 29,oG 31 30 true .mv [.t 3],oG 32 30 true .mv [.t 5],oG 33 30 true (.bin .sub) [.t 32,oK 1],oG 34 30 true (.iaS 3 (Proc.enc Proc.zero)) [.t 31,.t 33],oG 35 30 true (.load 3 true) [.t 34],oG 36 30 true .mv [.t 3],oG 37 30 true .mv [.t 5],oG 38 30 true (.iaS 3 (Proc.enc Proc.zero)) [.t 36,.t 37],
 oG 39 30 true (.load 3 true) [.t 38],oG 40 30 true (.call 56) [.t 35,.t 39],oG 41 30 true (.bin .gtr) [.t 40,oK 0],mo 42 .pick [.t 30,.t 41,oFa]]
def zdL7:=[oV 43 3,oV 44 5,oP 45 .sub [.t 44,oK 1],mo 46 (.iaS 3 (Proc.enc Proc.zero)) [.t 43,.t 45],oL 47 3 46,mo 6 (.alloc 3 (Proc.enc Proc.zero)) [],oS 3 6 47]
def zcl6:=[oV 48 3,oV 49 5,oP 50 .sub [.t 49,oK 1],oV 51 3,oV 52 5,mo 53 (.iaS 3 (Proc.enc Proc.zero)) [.t 51,.t 52],oL 54 3 53,mo 55 (.iaS 3 (Proc.enc Proc.zero)) [.t 48,.t 50],oS 3 55 54]
def zcl7:=[oV 56 3,oV 57 5,oL 58 3 6,mo 59 (.iaS 3 (Proc.enc Proc.zero)) [.t 56,.t 57],oS 3 59 58]
def zcl8:=[oV 60 5,oP 61 .sub [.t 60,oK 1],oV 5 61]
def zdL8:=[oV 11 4,oP 12 .add [.t 11,oK 1],oV 4 12]
def zcl9:=[oV 62 3,oV 2 62]
def zdL9:PC:=(.seq (.reg [] zdK9) (.seq (.reg [] zdL0) (.seq (.seq (.reg [] zdL1) (.block 0 (.loop (.seq (.seq (.reg [7,8,9] zdL2) (.cond (.t 10) .skip (.exit 0))) (.seq (.block 1 (.seq (.seq (.reg [13,14,15,16,17] zdL3) (.cond (.t 18) (.exit 1) .skip)) (.seq (.reg [19,20] zdL4) (.seq (.reg [21,22,23,24,25,26,27] zdL5) (.block 2 (.loop (.seq (.seq (.regd [28,29,30,31,32,33,34,35,36,37,38,39,40,41] zdL6) (.cond (.t 42) .skip (.exit 2))) (.block 3 (.seq (.reg [43,44,45,46,47] zdL7) (.seq (.reg [48,49,50,51,52,53,54,55] zcl6) (.seq (.reg [56,57,58,59] zcl7) (.reg [60,61] zcl8)))))))))))) (.reg [11,12] zdL8)))))) (.seq (.reg [62] zcl9) .ret))))
theorem zfk7:chkF C.P 88 zdL9 63 [.t 2] 1=true:=by kernel_rfl
attribute [go_sem] zdK9 zdL0 zdL1 zdL2 zdL3 zdL4 zdL5 zdL6 zdL7 zcl6 zcl7 zcl8 zdL8 zcl9
def zdM0:=[oB 1 8 0,mo 2 .mv [oNi]]
def zdM1:=[oA 3 4 1,oM 4 1 3,mo 5 (.callm 145) [.t 4],oL 6 8 1,oC 7 146 [.t 6],mo 8 (.append 3 24 (Proc.enc Proc.zero)) [.t 5,.t 7],oC 9 88 [.t 8],oV 2 9]
def zdM2:PC:=(.seq (.reg [] zdM0) (.seq (.regm [3,4,5,6,7,8,9] [[],[0],[1,0],[],[3,2,1,0],[2,4,4,1,0,3,2,1,0,3,2,1,0],[5,5,2,4,4,1,0,3,2,1,0,3,2,1,0,2,4,4,1,0,3,2,1,0,3,2,1,0],[6,6,0,1,2,3,4,5,6,5,5,2,4,4,1,0,3,2,1,0,3,2,1,0,2,4,4,1,0,3,2,1,0,3,2,1,0,5,5,2,4,4,1,0,3,2,1,0,3,2,1,0,2,4,4,1,0,3,2,1,0,3,2,1,0,0,1,0,3,2,1,0,2,4,4,1,0,3,2,1,0,3,2,1,0,5,5,2,4,4,1,0,3,2,1,0,3,2,1,0,2,4,4,1,0,3,2,1,0,3,2,1,0]] zdM1) .ret))
theorem zfk8:chkF C.P 112 zdM2 10 [.t 2] 1=true:=by kernel_rfl
attribute [go_sem] zdM0 zdM1
def zdM3:=[mo 2 (.nilown 3 (Proc.enc Proc.zero)) [.c (A.full [])]]
def zdM4:=[mo 3 (.nilown 3 (Proc.enc Proc.zero)) [.c (A.full [])]]
def zdM5:=[oI 4 0]
def zdM6:=[oV 7 4,oV 8 0,mo 9 .len [.t 8],oP 10 .lss [.t 7,.t 9]]
def zdM7:=[oV 13 3,oV 14 0,oV 15 4,mo 16 (.iaS 3 (Proc.enc Proc.zero)) [.t 14,.t 15],oL 17 3 16,oC 18 113 [.t 13,.t 17]]
def zdM8:=[oV 19 3,mo 20 .len [.t 19],oV 5 20]
def zdM9:=[oV 21 3,oV 22 0,oV 23 4,mo 24 (.iaS 3 (Proc.enc Proc.zero)) [.t 22,.t 23],oL 25 3 24,mo 26 (.bslice 3 (Proc.enc Proc.zero)) [.t 25],mo 27 (.append 3 24 (Proc.enc Proc.zero)) [.t 21,.t 26],oV 3 27]
def zdN0:=[oV 28 5,oP 29 .gtr [.t 28,oK 0],oV 30 29,oG 31 30 true .mv [.t 3],oG 32 30 true .mv [.t 5],oG 33 30 true (.bin .sub) [.t 32,oK 1],oG 34 30 true (.iaS 3 (Proc.enc Proc.zero)) [.t 31,.t 33],oG 35 30 true (.load 3 true) [.t 34],oG 36 30 true .mv [.t 3],oG 37 30 true .mv [.t 5],oG 38 30 true (.iaS 3 (Proc.enc Proc.zero)) [.t 36,.t 37],
 oG 39 30 true (.load 3 true) [.t 38],oG 40 30 true (.call 56) [.t 35,.t 39],oG 41 30 true (.bin .gtr) [.t 40,oK 0],mo 42 .pick [.t 30,.t 41,oFa]]
def zdN1:=[oV 43 3,oV 44 5,oP 45 .sub [.t 44,oK 1],mo 46 (.iaS 3 (Proc.enc Proc.zero)) [.t 43,.t 45],oL 47 3 46,mo 6 (.alloc 3 (Proc.enc Proc.zero)) [],oS 3 6 47]
def zcm0:=[oV 48 3,oV 49 5,oP 50 .sub [.t 49,oK 1],oV 51 3,oV 52 5,mo 53 (.iaS 3 (Proc.enc Proc.zero)) [.t 51,.t 52],oL 54 3 53,mo 55 (.iaS 3 (Proc.enc Proc.zero)) [.t 48,.t 50],oS 3 55 54]
def zcm1:=[oV 56 3,oV 57 5,oL 58 3 6,mo 59 (.iaS 3 (Proc.enc Proc.zero)) [.t 56,.t 57],oS 3 59 58]
def zcm2:=[oV 60 5,oP 61 .sub [.t 60,oK 1],oV 5 61]
def zdN2:=[oV 11 4,oP 12 .add [.t 11,oK 1],oV 4 12]
def zcm3:=[oV 62 3,oV 2 62]
def zdN3:PC:=(.seq (.reg [] zdM3) (.seq (.reg [] zdM4) (.seq (.seq (.reg [] zdM5) (.block 0 (.loop (.seq (.seq (.reg [7,8,9] zdM6) (.cond (.t 10) .skip (.exit 0))) (.seq (.block 1 (.seq (.seq (.reg [13,14,15,16,17] zdM7) (.cond (.t 18) (.exit 1) .skip)) (.seq (.reg [19,20] zdM8) (.seq (.reg [21,22,23,24,25,26,27] zdM9) (.block 2 (.loop (.seq (.seq (.regd [28,29,30,31,32,33,34,35,36,37,38,39,40,41] zdN0) (.cond (.t 42) .skip (.exit 2))) (.block 3 (.seq (.reg [43,44,45,46,47] zdN1) (.seq (.reg [48,49,50,51,52,53,54,55] zcm0) (.seq (.reg [56,57,58,59] zcm1) (.reg [60,61] zcm2)))))))))))) (.reg [11,12] zdN2)))))) (.seq (.reg [62] zcm3) .ret))))
theorem zfk9:chkF C.P 88 zdN3 63 [.t 2] 1=true:=by kernel_rfl
attribute [go_sem] zdM3 zdM4 zdM5 zdM6 zdM7 zdM8 zdM9 zdN0 zdN1 zcm0 zcm1 zcm2 zdN2 zcm3
def zdN4:=[mo 2 (.nilown 3 (Proc.enc Proc.zero)) [.c (A.full [])]]
def zdN5:=[mo 3 (.nilown 3 (Proc.enc Proc.zero)) [.c (A.full [])]]
def zdN6:=[oI 4 0]
def zdN7:=[oV 5 4,oV 6 0,mo 7 .len [.t 6],oP 8 .lss [.t 5,.t 7]]
def zdN8:=[oV 11 3,oV 12 0,oV 13 4,mo 14 (.iaS 8 (Queue.enc Queue.zero)) [.t 12,.t 13],oL 15 8 14,oC 16 112 [.t 15],mo 17 (.append 3 24 (Proc.enc Proc.zero)) [.t 11,.t 16],oV 3 17]
def zdN9:=[oV 9 4,oP 10 .add [.t 9,oK 1],oV 4 10]
def zdO0:=[oV 18 3,mo 19 (.callm 88) [.t 18],oV 2 19]
def zdO1:PC:=(.seq (.reg [] zdN4) (.seq (.reg [] zdN5) (.seq (.seq (.reg [] zdN6) (.block 0 (.loop (.seq (.seq (.reg [5,6,7] zdN7) (.cond (.t 8) .skip (.exit 0))) (.seq (.block 1 (.reg [11,12,13,14,15,16,17] zdN8)) (.reg [9,10] zdN9)))))) (.seq (.reg [18,19] zdO0) .ret))))
theorem zfl0:chkF C.P 87 zdO1 20 [.t 2] 1=true:=by kernel_rfl
attribute [go_sem] zdN4 zdN5 zdN6 zdN7 zdN8 zdN9 zdO0
def zdO2:=[oB 1 2 0,mo 2 .mv [oNi]]
def zdO3:=[oA 5 0 1,oM 6 1 5,mo 7 (.callm 87) [.t 6],oV 3 7]
def zdO4:=[oI 4 0]
def zdO5:=[oV 8 4,oA 9 1 1,oM 10 1 9,mo 11 .len [.t 10],oP 12 .lss [.t 8,.t 11]]
def zdO6:=[oV 15 3,oA 16 1 1,oM 17 1 16,oV 18 4,mo 19 (.iaS 9 (Need.enc Need.zero)) [.t 17,.t 18],oA 20 0 19,oL 21 3 20,mo 22 (.bslice 3 (Proc.enc Proc.zero)) [.t 21],mo 23 (.append 3 24 (Proc.enc Proc.zero)) [.t 15,.t 22],oV 3 23]
def zdO7:=[oV 13 4,oP 14 .add [.t 13,oK 1],oV 4 14]
def zdO8:=[oV 24 3,oC 25 88 [.t 24],oV 2 25]
def zdO9:PC:=(.seq (.reg [] zdO2) (.seq (.reg [5,6,7] zdO3) (.seq (.seq (.reg [] zdO4) (.block 0 (.loop (.seq (.seq (.reg [8,9,10,11] zdO5) (.cond (.t 12) .skip (.exit 0))) (.seq (.block 1 (.reg [15,16,17,18,19,20,21,22,23] zdO6)) (.reg [13,14] zdO7)))))) (.seq (.reg [24,25] zdO8) .ret))))
theorem zfl1:chkF C.P 57 zdO9 26 [.t 2] 1=true:=by kernel_rfl
attribute [go_sem] zdO2 zdO3 zdO4 zdO5 zdO6 zdO7 zdO8
def zdP0:=[oB 1 2 0,mo 2 .mv [oFa]]
def zdP1:=[oA 5 0 1,oM 6 1 5,oC 7 53 [.t 6],mo 8 .not [.t 7],oV 9 8,oG 10 9 false (.faddr 1) [.t 1],oG 11 9 false (.load 1 false) [.t 10],oG 12 9 false .len [.t 11],oG 13 9 false (.bin .gtr) [.t 12,oK 8],mo 14 .pick [.t 9,oTr,.t 13]]
def zdP2:=[mo 2 .mv [oFa]]
def zdP3:=[oI 3 0]
def zdP4:=[oV 15 3,oA 16 1 1,oM 17 1 16,mo 18 .len [.t 17],oP 19 .lss [.t 15,.t 18]]
def zdP5:=[oA 22 1 1,oM 23 1 22,oV 24 3,mo 25 (.iaS 9 (Need.enc Need.zero)) [.t 23,.t 24],oL 26 9 25,mo 4 (.alloc 9 (Need.enc Need.zero)) [],oS 9 4 26]
def zdP6:=[oA 27 0 4,oL 28 3 27,oC 29 54 [.t 28],mo 30 .not [.t 29],oV 31 30,oG 32 31 false (.faddr 3) [.t 4],oG 33 31 false (.load 5 true) [.t 32],oG 34 31 false (.call 55) [.t 33],oG 35 31 false .not [.t 34],mo 36 .pick [.t 31,oTr,.t 35],oV 37 36,oG 38 37 false (.faddr 8) [.t 4],oG 39 37 false (.load 1 false) [.t 38],
 oG 40 37 false (.bin .lss) [.t 39,oK 0],mo 41 .pick [.t 37,oTr,.t 40],oV 42 41,oG 43 42 false (.faddr 8) [.t 4],oG 44 42 false (.load 1 false) [.t 43],oG 45 42 false (.bin .gtr) [.t 44,oK 1073741824],mo 46 .pick [.t 42,oTr,.t 45],oV 47 46,oG 48 47 false .mv [.t 3],oG 49 47 false (.bin .gtr) [.t 48,oK 0],
 oG 50 47 false .mv [.t 49],oG 51 50 true (.faddr 1) [.t 1],oG 52 50 true (.load 1 false) [.t 51],oG 53 50 true .mv [.t 3],oG 54 50 true (.bin .sub) [.t 53,oK 1],oG 55 50 true (.iaS 9 (Need.enc Need.zero)) [.t 52,.t 54],oG 56 50 true (.faddr 0) [.t 55],oG 57 50 true (.load 3 true) [.t 56],oG 58 50 true (.faddr 0) [.t 4],
 oG 59 50 true (.load 3 true) [.t 58],oG 60 50 true (.call 56) [.t 57,.t 59],oG 61 50 true (.bin .geq) [.t 60,oK 0],oG 62 47 false .pick [.t 50,.t 61,oFa],mo 63 .pick [.t 47,oTr,.t 62]]
def zdP7:=[mo 2 .mv [oFa]]
def zdP8:=[oV 20 3,oP 21 .add [.t 20,oK 1],oV 3 21]
def zdP9:=[oL 64 2 1,oC 65 57 [.t 64],mo 66 .len [.t 65],oP 67 .leq [.t 66,oK 8],oV 2 67]
def zdQ0:PC:=(.seq (.reg [] zdP0) (.seq (.seq (.reg [5,6,7,8,9,10,11,12,13] zdP1) (.cond (.t 14) (.seq (.reg [] zdP2) .ret) .skip)) (.seq (.seq (.reg [] zdP3) (.block 0 (.loop (.seq (.seq (.reg [15,16,17,18] zdP4) (.cond (.t 19) .skip (.exit 0))) (.seq (.block 1 (.seq (.reg [22,23,24,25,26] zdP5) (.seq (.regd [27,28,29,30,31,32,33,34,35,36,37,38,39,40,41,42,43,44,45,46,47,48,49,50,51,52,53,54,55,56,57,58,59,60,61,62] zdP6) (.cond (.t 63) (.seq (.reg [] zdP7) .ret) .skip)))) (.reg [20,21] zdP8)))))) (.seq (.reg [64,65,66,67] zdP9) .ret))))
theorem zfl2:chkF C.P 24 zdQ0 68 [.t 2] 1=true:=by kernel_rfl
attribute [go_sem] zdP0 zdP1 zdP2 zdP3 zdP4 zdP5 zdP6 zdP7 zdP8 zdP9
def zdQ1:=[mo 2 (.alloc 2 (WaitState.enc WaitState.zero)) [],oI 3 0]
def zdQ2:=[oV 10 0,mo 11 (.build (ref16Reader.enc ref16Reader.zero) [(0,1)]) [.t 10],oB 12 3 11,oV 4 12]
def zdQ3:=[mo 5 (.alloc 2 [A.full [],A.full []]) []]
def zdQ4:=[oV 13 4,mo 14 (.callm 19) [.t 13,oK 8],oV 6 14]
def zdQ5:=[oI 7 0]
def zdQ6:=[oV 15 7,oV 16 6,oP 17 .lss [.t 15,.t 16],oV 18 17,oG 19 18 true .mv [.t 4],oG 20 18 true .nilck [.t 19],oG 21 18 true (.faddr 2) [.t 20],oG 22 18 true (.load 1 false) [.t 21],oG 23 18 true (.bin .eql) [.t 22,oK 0],mo 24 .pick [.t 18,.t 23,oFa]]
def zdQ7:=[oA 27 0 5,oM 28 1 27,oV 29 4,mo 30 (.callm 20) [.t 29],mo 31 (.bslice 8 (Queue.enc Queue.zero)) [.t 30],mo 32 (.append 8 120 (Queue.enc Queue.zero)) [.t 28,.t 31],oA 33 0 5,oS 1 33 32]
def zdQ8:=[oV 25 7,oP 26 .add [.t 25,oK 1],oV 7 26]
def zdQ9:=[oV 34 4,mo 35 (.callm 19) [.t 34,oK 8],oV 6 35]
def zdR0:=[oI 8 0]
def zcm4:=[oV 36 8,oV 37 6,oP 38 .lss [.t 36,.t 37],oV 39 38,oG 40 39 true .mv [.t 4],oG 41 39 true .nilck [.t 40],oG 42 39 true (.faddr 2) [.t 41],oG 43 39 true (.load 1 false) [.t 42],oG 44 39 true (.bin .eql) [.t 43,oK 0],mo 45 .pick [.t 39,.t 44,oFa]]
def zcm5:=[oV 48 4,mo 49 (.callm 21) [.t 48],mo 50 (.build (Need.enc Need.zero) [(0,3)]) [.t 49],mo 9 (.alloc 9 (Need.enc Need.zero)) [],oS 9 9 50]
def zcm6:=[oV 51 4,mo 52 (.callm 22) [.t 51],oA 53 8 9,oS 1 53 52]
def zcm7:=[oV 54 4,mo 55 (.callm 23) [.t 54,oK 1],oA 56 3 9,oS 5 56 55]
def zcm8:=[oA 57 1 5,oM 58 1 57,oL 59 9 9,mo 60 (.bslice 9 (Need.enc Need.zero)) [.t 59],mo 61 (.append 9 96 (Need.enc Need.zero)) [.t 58,.t 60],oA 62 1 5,oS 1 62 61]
def zcm9:=[oV 46 8,oP 47 .add [.t 46,oK 1],oV 8 47]
def zcn0:=[oV 63 4,mo 64 .nilck [.t 63],oA 65 2 64,oM 66 1 65,oP 67 .neq [.t 66,oK 0]]
def zcn1:=[mo 68 (.build (WaitState.enc WaitState.zero) []) [],oV 69 4,mo 70 .nilck [.t 69],oA 71 2 70,oM 72 1 71,oS 2 2 68,oV 3 72]
def zcn2:=[oV 73 4,mo 74 .nilck [.t 73],oA 75 1 74,oM 76 1 75,oV 77 0,mo 78 .len [.t 77],oP 79 .lss [.t 76,.t 78]]
def zcn3:=[mo 80 (.build (WaitState.enc WaitState.zero) []) [],oS 2 2 80,oI 3 6]
def zcn4:=[oL 81 2 5,oC 82 24 [.t 81],mo 83 .not [.t 82]]
def zcn5:=[mo 84 (.build (WaitState.enc WaitState.zero) []) [],oS 2 2 84,oI 3 2]
def zcn6:=[oL 85 2 5,oS 2 2 85,oI 3 0]
def zdR1:PC:=(.seq (.reg [] zdQ1) (.seq (.reg [10,11,12] zdQ2) (.seq (.reg [] zdQ3) (.seq (.reg [13,14] zdQ4) (.seq (.seq (.reg [] zdQ5) (.block 0 (.loop (.seq (.seq (.reg [15,16,17,18,19,20,21,22,23] zdQ6) (.cond (.t 24) .skip (.exit 0))) (.seq (.block 1 (.regm [27,28,29,30,31,32,33] [[],[0],[],[2],[3,2],[1,4,3,0,3,2,2],[0,1,2,3,4,5,0,2,3,2,1,4,3,0,3,2,2],[6,5,5,0,1,2,3,4,5,0,1,2,3,4,5,0,2,3,2,1,4,3,0,3,2,2,1,4,3,0,3,2,2,1,4,3,0,3,2,2,0,2,3,2,1,4,3,0,3,2,2]] zdQ7)) (.reg [25,26] zdQ8)))))) (.seq (.reg [34,35] zdQ9) (.seq (.seq (.reg [] zdR0) (.block 2 (.loop (.seq (.seq (.reg [36,37,38,39,40,41,42,43,44] zcm4) (.cond (.t 45) .skip (.exit 2))) (.seq (.block 3 (.seq (.reg [48,49,50] zcm5) (.seq (.reg [51,52,53] zcm6) (.seq (.reg [54,55,56] zcm7) (.reg [57,58,59,60,61,62] zcm8))))) (.reg [46,47] zcm9)))))) (.seq (.seq (.reg [63,64,65,66] zcn0) (.cond (.t 67) (.seq (.regm [68,69,70,71,72] [[],[],[1],[2,1],[3,2,1],[0,0],[4,5,0,1,2,3,4,5,3,2,1,0,0,1,2,1,3,2,1,0,0]] zcn1) .ret) .skip)) (.seq (.seq (.reg [73,74,75,76,77,78] zcn2) (.cond (.t 79) (.seq (.reg [80] zcn3) .ret) .skip)) (.seq (.seq (.reg [81,82] zcn4) (.cond (.t 83) (.seq (.reg [84] zcn5) .ret) .skip)) (.seq (.reg [85] zcn6) .ret)))))))))))
theorem zfl3:chkF C.P 6 zdR1 86 [.c 2 2 true,.t 3] 1=true:=by kernel_rfl
attribute [go_sem] zdQ1 zdQ2 zdQ3 zdQ4 zdQ5 zdQ6 zdQ7 zdQ8 zdQ9 zdR0 zcm4 zcm5 zcm6 zcm7 zcm8 zcm9 zcn0 zcn1 zcn2 zcn3 zcn4 zcn5 zcn6
def zdR2:=[oI 4 0]
def zdR3:=[oV 5 1,oP 6 .lss [.t 5,oK 1]]
def zdR4:=[oI 4 0]
def zdR5:=[oV 7 0,oV 8 1,oP 9 .rem [.t 7,.t 8],oV 0 9]
def zdR6:=[oV 10 0,oP 11 .lss [.t 10,oK 0]]
def zdR7:=[oV 12 0,oV 13 1,oP 14 .add [.t 12,.t 13],oV 0 14]
def zdR8:=[oV 15 0,oV 4 15]
def zdR9:PC:=(.seq (.reg [] zdR2) (.seq (.seq (.reg [5] zdR3) (.cond (.t 6) (.seq (.reg [] zdR4) .ret) .skip)) (.seq (.reg [7,8,9] zdR5) (.seq (.seq (.reg [10] zdR6) (.cond (.t 11) (.reg [12,13,14] zdR7) .skip)) (.seq (.reg [15] zdR8) .ret)))))
theorem zfl4:chkF C.P 58 zdR9 16 [.t 4] 2=true:=by kernel_rfl
attribute [go_sem] zdR2 zdR3 zdR4 zdR5 zdR6 zdR7 zdR8
def zdS0:=[mo 2 (.alloc 3 (Proc.enc Proc.zero)) []]
def zdS1:=[oV 3 0,oC 4 58 [.t 3,oK 8],oV 0 4]
def zdS2:=[oV 5 0,oP 6 .rem [.t 5,oK 4],oV 7 0,oP 8 .quo [.t 7,oK 4],oP 9 .add [oK 1,.t 8],mo 10 (.build (Proc.enc Proc.zero) [(0,1),(1,1),(2,1)]) [.t 6,oK 1,.t 9],oS 3 2 10]
def zdS3:PC:=(.seq (.reg [] zdS0) (.seq (.reg [3,4] zdS1) (.seq (.reg [5,6,7,8,9,10] zdS2) .ret)))
theorem zfl5:chkF C.P 25 zdS3 11 [.c 2 3 true] 1=true:=by kernel_rfl
attribute [go_sem] zdS0 zdS1 zdS2
def zdS4:=[mo 4 .mv [oNi]]
def zdS5:=[oV 6 0,oV 7 0,mo 8 .len [.t 7],oV 9 0,mo 10 .len [.t 9],mo 11 (.slc 1 false true true) [.t 6,.t 8,.t 10],oV 5 11]
def zdS6:=[oV 12 1,oP 13 .gtr [.t 12,.c (A.int .u64 127)]]
def zdS7:=[oV 14 5,oV 15 1,oP 16 .and [.t 15,.c (A.int .u64 127)],mo 17 (.conv .u8) [.t 16],oP 18 .or [.t 17,.c (A.int .u8 128)],mo 19 (.bslice 1 [A.int .u8 0]) [.t 18],mo 20 (.append 1 1 [A.int .u8 0]) [.t 14,.t 19],oV 5 20]
def zdS8:=[oV 21 1,oP 22 .shr [.t 21,.c (A.int .u64 7)],oV 1 22]
def zdS9:=[oV 23 5,oV 24 1,mo 25 (.conv .u8) [.t 24],mo 26 (.bslice 1 [A.int .u8 0]) [.t 25],mo 27 (.append 1 1 [A.int .u8 0]) [.t 23,.t 26],oV 4 27]
def zdT0:PC:=(.seq (.reg [] zdS4) (.seq (.reg [6,7,8,9,10,11] zdS5) (.seq (.block 0 (.loop (.seq (.seq (.reg [12] zdS6) (.cond (.t 13) .skip (.exit 0))) (.block 1 (.seq (.reg [14,15,16,17,18,19,20] zdS7) (.reg [21,22] zdS8)))))) (.seq (.reg [23,24,25,26,27] zdS9) .ret))))
theorem zfl6:chkF C.P 72 zdT0 28 [.t 4] 2=true:=by kernel_rfl
attribute [go_sem] zdS4 zdS5 zdS6 zdS7 zdS8 zdS9
def zdT1:=[mo 4 .mv [oNi]]
def zdT2:=[oV 7 1,mo 8 .len [.t 7],oI 9 0]
def zdT3:=[oP 10 .lss [.t 9,.t 8]]
def zdT4:=[mo 11 (.iaS 1 [A.int .i64 0]) [.t 7,.t 9],oM 12 1 11,oV 6 12]
def zdT5:=[oV 13 0,oV 14 6,mo 15 (.conv .u64) [.t 14],oC 16 72 [.t 13,.t 15],oV 0 16]
def zdT6:=[oP 17 .add [.t 9,oK 1],oV 9 17]
def zdT7:=[oV 18 0,oV 4 18]
def zdT8:PC:=(.seq (.reg [] zdT1) (.seq (.seq (.reg [] zdT2) (.block 0 (.loop (.seq (.reg [] zdT3) (.seq (.cond (.t 10) .skip (.exit 0)) (.seq (.block 1 (.seq (.reg [11,12] zdT4) (.reg [13,14,15,16] zdT5))) (.reg [17] zdT6))))))) (.seq (.reg [18] zdT7) .ret)))
theorem zfl7:chkF C.P 32 zdT8 19 [.t 4] 2=true:=by kernel_rfl
attribute [go_sem] zdT1 zdT2 zdT3 zdT4 zdT5 zdT6 zdT7
def zdT9:=[mo 4 (.nilown 1 [A.int .u8 0]) [.c (A.full [])]]
def zdU0:=[oV 6 0,oV 7 0,mo 8 .len [.t 7],oV 9 0,mo 10 .len [.t 9],mo 11 (.slc 1 false true true) [.t 6,.t 8,.t 10],oV 5 11]
def zdU1:=[oV 12 1,oP 13 .gtr [.t 12,.c (A.int .u64 127)]]
def zdU2:=[oV 14 5,oV 15 1,oP 16 .and [.t 15,.c (A.int .u64 127)],mo 17 (.conv .u8) [.t 16],oP 18 .or [.t 17,.c (A.int .u8 128)],mo 19 (.bslice 1 [A.int .u8 0]) [.t 18],mo 20 (.append 1 1 [A.int .u8 0]) [.t 14,.t 19],oV 5 20]
def zdU3:=[oV 21 1,oP 22 .shr [.t 21,.c (A.int .u64 7)],oV 1 22]
def zdU4:=[oV 23 5,oV 24 1,mo 25 (.conv .u8) [.t 24],mo 26 (.bslice 1 [A.int .u8 0]) [.t 25],mo 27 (.append 1 1 [A.int .u8 0]) [.t 23,.t 26],oV 4 27]
def zdU5:PC:=(.seq (.reg [] zdT9) (.seq (.reg [6,7,8,9,10,11] zdU0) (.seq (.block 0 (.loop (.seq (.seq (.reg [12] zdU1) (.cond (.t 13) .skip (.exit 0))) (.block 1 (.seq (.reg [14,15,16,17,18,19,20] zdU2) (.reg [21,22] zdU3)))))) (.seq (.reg [23,24,25,26,27] zdU4) .ret))))
theorem zfl8:chkF C.P 72 zdU5 28 [.t 4] 2=true:=by kernel_rfl
attribute [go_sem] zdT9 zdU0 zdU1 zdU2 zdU3 zdU4
def zdU6:=[mo 4 .mv [oNi]]
def zdU7:=[oV 5 0,oV 6 1,mo 7 .lenS [.t 6],mo 8 (.conv .u64) [.t 7],mo 9 (.callm 72) [.t 5,.t 8],oV 10 1,mo 11 (.append 1 1 [A.int .u8 0]) [.t 9,.t 10],oV 4 11]
def zdU8:PC:=(.seq (.reg [] zdU6) (.seq (.reg [5,6,7,8,9,10,11] zdU7) .ret))
theorem zfl9:chkF C.P 73 zdU8 12 [.t 4] 2=true:=by kernel_rfl
attribute [go_sem] zdU6 zdU7
def zdU9:=[oB 3 3 1,mo 4 .mv [oNi]]
def zdV0:=[oV 8 0,mo 9 (.append 1 1 [A.int .u8 0]) [.c (A.full []),.t 8],oV 5 9]
def zdV1:=[oL 10 3 3,oC 11 46 [.t 10],mo 12 .not [.t 11]]
def zdV2:=[oV 13 5,oV 4 13]
def zdV3:=[oA 14 0 3,oM 15 1 14,oA 16 1 3,oM 17 1 16,oA 18 2 3,oM 19 1 18,mo 20 (.build (Arr.enc (eI .i64) (Arr.rep 3 0)) [(0,1),(1,1),(2,1)]) [.t 15,.t 17,.t 19],oI 21 0]
def zdV4:=[oP 22 .lss [.t 21,oK 3]]
def zdV5:=[mo 23 (.idxA 3 1 false) [.t 20,.t 21],oV 7 23]
def zdV6:=[oV 24 5,oV 25 7,mo 26 (.conv .u64) [.t 25],oC 27 72 [.t 24,.t 26],oV 5 27]
def zdV7:=[oP 28 .add [.t 21,oK 1],oV 21 28]
def zdV8:=[oV 29 5,oV 4 29]
def zdV9:PC:=(.seq (.reg [] zdU9) (.seq (.reg [8,9] zdV0) (.seq (.seq (.reg [10,11] zdV1) (.cond (.t 12) (.seq (.reg [13] zdV2) .ret) .skip)) (.seq (.seq (.reg [14,15,16,17,18,19] zdV3) (.block 0 (.loop (.seq (.reg [] zdV4) (.seq (.cond (.t 22) .skip (.exit 0)) (.seq (.block 1 (.seq (.reg [23] zdV5) (.reg [24,25,26,27] zdV6))) (.reg [28] zdV7))))))) (.seq (.reg [29] zdV8) .ret)))))
theorem zfm0:chkF C.P 35 zdV9 30 [.t 4] 2=true:=by kernel_rfl
attribute [go_sem] zdU9 zdV0 zdV1 zdV2 zdV3 zdV4 zdV5 zdV6 zdV7 zdV8
def zdW0:=[oB 3 8 1,mo 4 .mv [oNi]]
def zdW1:=[oA 12 0 3,oL 13 4 12,mo 5 (.alloc 4 (Resource.enc Resource.zero)) [],oS 4 5 13]
def zdW2:=[oV 14 0,oA 15 0 5,oM 16 1 15,oC 17 73 [.t 14,.t 16],oA 18 1 5,oM 19 1 18,oA 20 2 5,oM 21 1 20,oA 22 3 5,oM 23 1 22,oA 24 7 3,oM 25 1 24,oA 26 4 3,oM 27 1 26,mo 28 .len [.t 27],mo 29 (.bslice 1 [A.int .i64 0]) [.t 19,.t 21,.t 23,.t 25,.t 28],oC 30 32 [.t 17,.t 29],oV 0 30]
def zdW3:=[oA 31 4 3,oM 32 1 31,mo 33 .len [.t 32],oI 34 0]
def zdW4:=[oP 35 .lss [.t 34,.t 33]]
def zdW5:=[mo 36 (.iaS 5 (Hold.enc Hold.zero)) [.t 32,.t 34],oL 37 5 36,mo 7 (.alloc 5 (Hold.enc Hold.zero)) [],oS 5 7 37]
def zdW6:=[oV 38 0,oA 39 0 7,oL 40 3 39,oC 41 35 [.t 38,.t 40],oA 42 3 7,oA 43 0 42,oM 44 1 43,oA 45 3 7,oA 46 1 45,oM 47 1 46,mo 48 (.bslice 1 [A.int .i64 0]) [.t 44,.t 47],oC 49 32 [.t 41,.t 48],oV 0 49]
def zdW7:=[oP 50 .add [.t 34,oK 1],oV 34 50]
def zdW8:=[oV 51 0,oA 52 5 3,oM 53 1 52,mo 54 .len [.t 53],mo 55 (.bslice 1 [A.int .i64 0]) [.t 54],oC 56 32 [.t 51,.t 55],oV 0 56]
def zdW9:=[oA 57 5 3,oM 58 1 57,mo 59 .len [.t 58],oI 60 0]
def zcn7:=[oP 61 .lss [.t 60,.t 59]]
def zcn8:=[mo 62 (.iaS 7 (Wait.enc Wait.zero)) [.t 58,.t 60],oL 63 7 62,mo 9 (.alloc 7 (Wait.enc Wait.zero)) [],oS 7 9 63]
def zcn9:=[oV 64 0,oA 65 0 9,oL 66 3 65,oC 67 35 [.t 64,.t 66],oA 68 3 9,oA 69 0 68,oM 70 1 69,oA 71 3 9,oA 72 1 71,oM 73 1 72,mo 74 (.bslice 1 [A.int .i64 0]) [.t 70,.t 73],oC 75 32 [.t 67,.t 74],oV 0 75]
def zco0:=[oP 76 .add [.t 60,oK 1],oV 60 76]
def zco1:=[oV 77 0,oA 78 6 3,oM 79 1 78,mo 80 .len [.t 79],mo 81 (.bslice 1 [A.int .i64 0]) [.t 80],oC 82 32 [.t 77,.t 81],oV 0 82]
def zco2:=[oA 83 6 3,oM 84 1 83,mo 85 .len [.t 84],oI 86 0]
def zco3:=[oP 87 .lss [.t 86,.t 85]]
def zco4:=[mo 88 (.iaS 7 (Wait.enc Wait.zero)) [.t 84,.t 86],oL 89 7 88,mo 11 (.alloc 7 (Wait.enc Wait.zero)) [],oS 7 11 89]
def zco5:=[oV 90 0,oA 91 0 11,oL 92 3 91,oC 93 35 [.t 90,.t 92],oA 94 3 11,oA 95 0 94,oM 96 1 95,oA 97 3 11,oA 98 1 97,oM 99 1 98,oA 100 5 11,oM 101 1 100,oA 102 6 11,oM 103 1 102,mo 104 (.bslice 1 [A.int .i64 0]) [.t 96,.t 99,.t 101,.t 103],oC 105 32 [.t 93,.t 104],oV 0 105]
def zco6:=[oP 106 .add [.t 86,oK 1],oV 86 106]
def zco7:=[oV 107 0,oV 4 107]
def zdX0:PC:=(.seq (.reg [] zdW0) (.seq (.reg [12,13] zdW1) (.seq (.regd [14,15,16,17,18,19,20,21,22,23,24,25,26,27,28,29,30] zdW2) (.seq (.seq (.reg [31] zdW3) (.block 0 (.loop (.seq (.reg [] zdW4) (.seq (.cond (.t 35) .skip (.exit 0)) (.seq (.block 1 (.seq (.reg [36,37] zdW5) (.regd [38,39,40,41,42,43,44,45,46,47,48,49] zdW6))) (.reg [50] zdW7))))))) (.seq (.reg [51,52,53,54,55,56] zdW8) (.seq (.seq (.reg [57] zdW9) (.block 2 (.loop (.seq (.reg [] zcn7) (.seq (.cond (.t 61) .skip (.exit 2)) (.seq (.block 3 (.seq (.reg [62,63] zcn8) (.regd [64,65,66,67,68,69,70,71,72,73,74,75] zcn9))) (.reg [76] zco0))))))) (.seq (.reg [77,78,79,80,81,82] zco1) (.seq (.seq (.reg [83] zco2) (.block 4 (.loop (.seq (.reg [] zco3) (.seq (.cond (.t 87) .skip (.exit 4)) (.seq (.block 5 (.seq (.reg [88,89] zco4) (.regd [90,91,92,93,94,95,96,97,98,99,100,101,102,103,104,105] zco5))) (.reg [106] zco6))))))) (.seq (.reg [107] zco7) .ret)))))))))
theorem zfm1:chkF C.P 33 zdX0 108 [.t 4] 2=true:=by kernel_rfl
attribute [go_sem] zdW0 zdW1 zdW2 zdW3 zdW4 zdW5 zdW6 zdW7 zdW8 zdW9 zcn7 zcn8 zcn9 zco0 zco1 zco2 zco3 zco4 zco5 zco6 zco7
def zdX1:=[oB 3 5 1,mo 4 .mv [oNi]]
def zdX2:=[oV 7 0,oA 8 0 3,oM 9 1 8,mo 10 (.bslice 1 [A.int .i64 0]) [.t 9],oC 11 32 [.t 7,.t 10],oV 0 11]
def zdX3:=[oA 12 0 3,oM 13 1 12,oP 14 .eql [.t 13,oK 0]]
def zdX4:=[oV 15 0,oA 16 1 3,oA 17 0 16,oM 18 1 17,oC 19 73 [.t 15,.t 18],oA 20 1 3,oA 21 1 20,oA 22 0 21,oM 23 1 22,oA 24 1 3,oA 25 1 24,oA 26 1 25,oM 27 1 26,mo 28 (.bslice 1 [A.int .i64 0]) [.t 23,.t 27],oC 29 32 [.t 19,.t 28],oV 4 29]
def zdX5:=[oV 30 0,oA 31 4 3,oM 32 1 31,mo 33 .len [.t 32],mo 34 (.bslice 1 [A.int .i64 0]) [.t 33],oC 35 32 [.t 30,.t 34],oV 0 35]
def zdX6:=[oA 36 4 3,oM 37 1 36,mo 38 .len [.t 37],oI 39 0]
def zdX7:=[oP 40 .lss [.t 39,.t 38]]
def zdX8:=[mo 41 (.iaS 5 (Expr.enc Expr.zero)) [.t 37,.t 39],oL 42 5 41,mo 6 (.alloc 5 (Expr.enc Expr.zero)) [],oS 5 6 42]
def zdX9:=[oV 43 0,oL 44 5 6,oC 45 34 [.t 43,.t 44],oV 0 45]
def zdY0:=[oP 46 .add [.t 39,oK 1],oV 39 46]
def zco8:=[oV 47 0,oV 4 47]
def zdY1:PC:=(.seq (.reg [] zdX1) (.seq (.reg [7,8,9,10,11] zdX2) (.seq (.seq (.reg [12,13] zdX3) (.cond (.t 14) (.seq (.regd [15,16,17,18,19,20,21,22,23,24,25,26,27,28,29] zdX4) .ret) .skip)) (.seq (.reg [30,31,32,33,34,35] zdX5) (.seq (.seq (.reg [36] zdX6) (.block 0 (.loop (.seq (.reg [] zdX7) (.seq (.cond (.t 40) .skip (.exit 0)) (.seq (.block 1 (.seq (.reg [41,42] zdX8) (.reg [43,44,45] zdX9))) (.reg [46] zdY0))))))) (.seq (.reg [47] zco8) .ret))))))
theorem zfm2:chkF C.P 34 zdY1 48 [.t 4] 2=true:=by kernel_rfl
attribute [go_sem] zdX1 zdX2 zdX3 zdX4 zdX5 zdX6 zdX7 zdX8 zdX9 zdY0 zco8
def zdY2:=[oB 1 2 0,mo 2 .mv [oNi],oI 3 0]
def zdY3:=[oL 9 2 1,oC 10 18 [.t 9],mo 11 .not [.t 10]]
def zdY4:=[mo 2 .mv [oNi],oI 3 2]
def zdY5:=[oA 12 0 1,oM 13 1 12,mo 14 .len [.t 13],mo 15 (.bslice 1 [A.int .i64 0]) [.t 14],oC 16 32 [.c (A.full []),.t 15],oV 4 16]
def zdY6:=[oA 17 0 1,oM 18 1 17,mo 19 .len [.t 18],oI 20 0]
def zdY7:=[oP 21 .lss [.t 20,.t 19]]
def zdY8:=[mo 22 (.iaS 8 (Queue.enc Queue.zero)) [.t 18,.t 20],oL 23 8 22,mo 6 (.alloc 8 (Queue.enc Queue.zero)) [],oS 8 6 23]
def zdY9:=[oV 24 4,oL 25 8 6,oC 26 33 [.t 24,.t 25],oV 4 26]
def zdZ0:=[oP 27 .add [.t 20,oK 1],oV 20 27]
def zdZ1:=[oV 28 4,oA 29 1 1,oM 30 1 29,mo 31 .len [.t 30],mo 32 (.bslice 1 [A.int .i64 0]) [.t 31],oC 33 32 [.t 28,.t 32],oV 4 33]
def zco9:=[oA 34 1 1,oM 35 1 34,mo 36 .len [.t 35],oI 37 0]
def zcp0:=[oP 38 .lss [.t 37,.t 36]]
def zcp1:=[mo 39 (.iaS 9 (Need.enc Need.zero)) [.t 35,.t 37],oL 40 9 39,mo 8 (.alloc 9 (Need.enc Need.zero)) [],oS 9 8 40]
def zcp2:=[oV 41 4,oA 42 0 8,oL 43 3 42,oC 44 35 [.t 41,.t 43],oA 45 8 8,oM 46 1 45,mo 47 (.bslice 1 [A.int .i64 0]) [.t 46],oC 48 32 [.t 44,.t 47],oA 49 3 8,oL 50 5 49,oC 51 34 [.t 48,.t 50],oV 4 51]
def zcp3:=[oP 52 .add [.t 37,oK 1],oV 37 52]
def zcp4:=[oV 53 4,oV 2 53,oI 3 0]
def zdZ2:PC:=(.seq (.reg [] zdY2) (.seq (.seq (.reg [9,10] zdY3) (.cond (.t 11) (.seq (.reg [] zdY4) .ret) .skip)) (.seq (.reg [12,13,14,15,16] zdY5) (.seq (.seq (.reg [17] zdY6) (.block 0 (.loop (.seq (.reg [] zdY7) (.seq (.cond (.t 21) .skip (.exit 0)) (.seq (.block 1 (.seq (.reg [22,23] zdY8) (.reg [24,25,26] zdY9))) (.reg [27] zdZ0))))))) (.seq (.reg [28,29,30,31,32,33] zdZ1) (.seq (.seq (.reg [34] zco9) (.block 2 (.loop (.seq (.reg [] zcp0) (.seq (.cond (.t 38) .skip (.exit 2)) (.seq (.block 3 (.seq (.reg [39,40] zcp1) (.regd [41,42,43,44,45,46,47,48,49,50,51] zcp2))) (.reg [52] zcp3))))))) (.seq (.reg [53] zcp4) .ret)))))))
theorem zfm3:chkF C.P 10 zdZ2 54 [.t 2,.t 3] 1=true:=by kernel_rfl
attribute [go_sem] zdY2 zdY3 zdY4 zdY5 zdY6 zdY7 zdY8 zdY9 zdZ0 zdZ1 zco9 zcp0 zcp1 zcp2 zcp3 zcp4
def zdZ3:=[oB 2 9 0,mo 3 .mv [oFa]]
def zdZ4:=[oA 4 0 2,oL 5 3 4,oL 6 3 1,oC 7 48 [.t 5,.t 6],oP 8 .eql [.t 7,oK 0],oV 3 8]
def zdZ5:PC:=(.seq (.reg [] zdZ3) (.seq (.reg [4,5,6,7,8] zdZ4) .ret))
theorem zfm4:chkF C.P 90 zdZ5 9 [.t 3] 2=true:=by kernel_rfl
attribute [go_sem] zdZ3 zdZ4
def zdZ6:=[oI 4 0]
def zdZ7:=[oV 6 0,mo 7 .len [.t 6],oI 8 0]
def zdZ8:=[oP 9 .lss [.t 8,.t 7]]
def zdZ9:=[oV 10 8,oV 5 10]
def zea0:=[oV 11 1,oV 12 0,oV 13 5,mo 14 (.iaS 9 (Need.enc Need.zero)) [.t 12,.t 13],oL 15 9 14,mo 16 .callvm [.t 11,.t 15]]
def zea1:=[oV 17 5,oV 4 17]
def zea2:=[oP 18 .add [.t 8,oK 1],oV 8 18]
def zea3:=[oI 4 (-1)]
def zea4:PC:=(.seq (.reg [] zdZ6) (.seq (.seq (.reg [6] zdZ7) (.block 0 (.loop (.seq (.reg [] zdZ8) (.seq (.cond (.t 9) .skip (.exit 0)) (.seq (.block 1 (.seq (.reg [10] zdZ9) (.seq (.reg [11,12,13,14,15] zea0) (.cond (.t 16) (.seq (.reg [17] zea1) .ret) .skip)))) (.reg [18] zea2))))))) (.seq (.reg [] zea3) .ret)))
theorem zfm5:chkF C.P 89 zea4 19 [.t 4] 2=true:=by kernel_rfl
attribute [go_sem] zdZ6 zdZ7 zdZ8 zdZ9 zea0 zea1 zea2 zea3
def zea5:=[oB 3 3 1,oI 4 0]
def zea6:=[oV 5 0,mo 6 (.mkf 90) [.t 3],mo 7 (.callm 89) [.t 5,.t 6],oV 4 7]
def zea7:PC:=(.seq (.reg [] zea5) (.seq (.reg [5,6,7] zea6) .ret))
theorem zfm6:chkF C.P 59 zea7 8 [.t 4] 2=true:=by kernel_rfl
attribute [go_sem] zea5 zea6
def zea8:=[oB 1 5 0,mo 2 (.alloc 5 (Expr.enc Expr.zero)) []]
def zea9:=[mo 3 (.nilown 5 (Expr.enc Expr.zero)) [.c (A.full [])]]
def zeb0:=[oA 6 4 1,oM 7 1 6,mo 8 .len [.t 7],oI 9 0]
def zeb1:=[oP 10 .lss [.t 9,.t 8]]
def zeb2:=[mo 11 (.iaS 5 (Expr.enc Expr.zero)) [.t 7,.t 9],oL 12 5 11,mo 5 (.alloc 5 (Expr.enc Expr.zero)) [],oS 5 5 12]
def zeb3:=[oV 13 3,oL 14 5 5,oC 15 91 [.t 14],mo 16 (.bslice 5 (Expr.enc Expr.zero)) [.t 15],mo 17 (.append 5 64 (Expr.enc Expr.zero)) [.t 13,.t 16],oV 3 17]
def zeb4:=[oP 18 .add [.t 9,oK 1],oV 9 18]
def zeb5:=[oV 19 3,oA 20 4 1,oS 1 20 19]
def zeb6:=[oL 21 5 1,oS 5 2 21]
def zeb7:PC:=(.seq (.reg [] zea8) (.seq (.reg [] zea9) (.seq (.seq (.reg [6] zeb0) (.block 0 (.loop (.seq (.reg [] zeb1) (.seq (.cond (.t 10) .skip (.exit 0)) (.seq (.block 1 (.seq (.reg [11,12] zeb2) (.reg [13,14,15,16,17] zeb3))) (.reg [18] zeb4))))))) (.seq (.reg [19,20] zeb5) (.seq (.reg [21] zeb6) .ret)))))
theorem zfm7:chkF C.P 91 zeb7 22 [.c 2 5 true] 1=true:=by kernel_rfl
attribute [go_sem] zea8 zea9 zeb0 zeb1 zeb2 zeb3 zeb4 zeb5 zeb6
def zeb8:=[oB 1 9 0,mo 2 (.alloc 9 (Need.enc Need.zero)) []]
def zeb9:=[oA 3 3 1,oL 4 5 3,oC 5 91 [.t 4],oA 6 3 1,oS 5 6 5]
def zec0:=[oL 7 9 1,oS 9 2 7]
def zec1:PC:=(.seq (.reg [] zeb8) (.seq (.reg [3,4,5,6] zeb9) (.seq (.reg [7] zec0) .ret)))
theorem zfm8:chkF C.P 60 zec1 8 [.c 2 9 true] 1=true:=by kernel_rfl
attribute [go_sem] zeb8 zeb9 zec0
def zec2:=[oB 2 2 0,oB 3 3 1,mo 4 (.alloc 9 (Need.enc Need.zero)) [],mo 5 .mv [oFa]]
def zec3:=[oA 7 1 2,oM 8 1 7,oL 9 3 3,oC 10 59 [.t 8,.t 9],oV 6 10]
def zec4:=[oV 11 6,oP 12 .geq [.t 11,oK 0]]
def zec5:=[oA 13 1 2,oM 14 1 13,oV 15 6,mo 16 (.iaS 9 (Need.enc Need.zero)) [.t 14,.t 15],oL 17 9 16,oC 18 60 [.t 17],oS 9 4 18,mo 5 .mv [oTr]]
def zec6:=[mo 19 (.build (Need.enc Need.zero) []) [],oS 9 4 19,mo 5 .mv [oFa]]
def zec7:PC:=(.seq (.reg [] zec2) (.seq (.seq (.reg [7,8,9,10] zec3) (.seq (.reg [11] zec4) (.cond (.t 12) (.seq (.reg [13,14,15,16,17,18] zec5) .ret) .skip))) (.seq (.reg [19] zec6) .ret)))
theorem zfm9:chkF C.P 26 zec7 20 [.c 4 9 true,.t 5] 2=true:=by kernel_rfl
attribute [go_sem] zec2 zec3 zec4 zec5 zec6
def zec8:=[oB 3 3 1,oI 4 0]
def zec9:=[oV 6 0,mo 7 .len [.t 6],oI 8 0]
def zed0:=[oP 9 .lss [.t 8,.t 7]]
def zed1:=[oV 10 8,oV 5 10]
def zed2:=[oL 11 3 3,oV 12 0,oV 13 5,mo 14 (.iaS 3 (Atom.enc Atom.zero)) [.t 12,.t 13],oL 15 3 14,mo 16 (.eqa false [.s,.i .i64,.i .i64]) [.t 11,.t 15]]
def zed3:=[oV 17 5,oV 4 17]
def zed4:=[oP 18 .add [.t 8,oK 1],oV 8 18]
def zed5:=[oI 4 (-1)]
def zed6:PC:=(.seq (.reg [] zec8) (.seq (.seq (.reg [6] zec9) (.block 0 (.loop (.seq (.reg [] zed0) (.seq (.cond (.t 9) .skip (.exit 0)) (.seq (.block 1 (.seq (.reg [10] zed1) (.seq (.regd [11,12,13,14,15] zed2) (.cond (.t 16) (.seq (.reg [17] zed3) .ret) .skip)))) (.reg [18] zed4))))))) (.seq (.reg [] zed5) .ret)))
theorem zfn0:chkF C.P 147 zed6 19 [.t 4] 2=true:=by kernel_rfl
attribute [go_sem] zec8 zec9 zed0 zed1 zed2 zed3 zed4 zed5
def zed7:=[oB 3 3 1,mo 4 .mv [oFa]]
def zed8:=[oV 5 0,oL 6 3 3,oC 7 147 [.t 5,.t 6],oP 8 .geq [.t 7,oK 0],oV 4 8]
def zed9:PC:=(.seq (.reg [] zed7) (.seq (.reg [5,6,7,8] zed8) .ret))
theorem zfn1:chkF C.P 114 zed9 9 [.t 4] 2=true:=by kernel_rfl
attribute [go_sem] zed7 zed8
def zee0:=[oB 3 5 1,mo 4 (.nilown 3 (Atom.enc Atom.zero)) [.c (A.full [])]]
def zee1:=[oA 7 4 3,oM 8 1 7,mo 9 .len [.t 8],oP 10 .eql [.t 9,oK 0]]
def zee2:=[oV 11 0,oA 12 1 3,oL 13 3 12,oC 14 114 [.t 11,.t 13]]
def zee3:=[oV 15 0,oV 4 15]
def zee4:=[oV 16 0,oA 17 1 3,oL 18 3 17,mo 19 (.bslice 3 (Atom.enc Atom.zero)) [.t 18],mo 20 (.append 3 32 (Atom.enc Atom.zero)) [.t 16,.t 19],oV 4 20]
def zee5:=[oA 21 4 3,oM 22 1 21,mo 23 .len [.t 22],oI 24 0]
def zee6:=[oP 25 .lss [.t 24,.t 23]]
def zee7:=[mo 26 (.iaS 5 (Expr.enc Expr.zero)) [.t 22,.t 24],oL 27 5 26,mo 6 (.alloc 5 (Expr.enc Expr.zero)) [],oS 5 6 27]
def zee8:=[oV 28 0,oL 29 5 6,mo 30 (.callm 92) [.t 28,.t 29],oV 0 30]
def zee9:=[oP 31 .add [.t 24,oK 1],oV 24 31]
def zcp5:=[oV 32 0,oV 4 32]
def zef0:PC:=(.seq (.reg [] zee0) (.seq (.seq (.reg [7,8,9] zee1) (.cond (.t 10) (.seq (.seq (.reg [11,12,13] zee2) (.cond (.t 14) (.seq (.reg [15] zee3) .ret) .skip)) (.seq (.reg [16,17,18,19,20] zee4) .ret)) .skip)) (.seq (.seq (.reg [21] zee5) (.block 0 (.loop (.seq (.reg [] zee6) (.seq (.cond (.t 25) .skip (.exit 0)) (.seq (.block 1 (.seq (.reg [26,27] zee7) (.reg [28,29,30] zee8))) (.reg [31] zee9))))))) (.seq (.reg [32] zcp5) .ret))))
theorem zfn2:chkF C.P 92 zef0 33 [.t 4] 2=true:=by kernel_rfl
attribute [go_sem] zee0 zee1 zee2 zee3 zee4 zee5 zee6 zee7 zee8 zee9 zcp5
def zef1:=[oB 3 5 1,mo 4 .mv [oNi]]
def zef2:=[oA 7 4 3,oM 8 1 7,mo 9 .len [.t 8],oP 10 .eql [.t 9,oK 0]]
def zef3:=[oV 11 0,oA 12 1 3,oL 13 3 12,oC 14 114 [.t 11,.t 13]]
def zef4:=[oV 15 0,oV 4 15]
def zef5:=[oV 16 0,oA 17 1 3,oL 18 3 17,mo 19 (.bslice 3 (Atom.enc Atom.zero)) [.t 18],mo 20 (.append 3 32 (Atom.enc Atom.zero)) [.t 16,.t 19],oV 4 20]
def zef6:=[oA 21 4 3,oM 22 1 21,mo 23 .len [.t 22],oI 24 0]
def zef7:=[oP 25 .lss [.t 24,.t 23]]
def zef8:=[mo 26 (.iaS 5 (Expr.enc Expr.zero)) [.t 22,.t 24],oL 27 5 26,mo 6 (.alloc 5 (Expr.enc Expr.zero)) [],oS 5 6 27]
def zef9:=[oV 28 0,oL 29 5 6,mo 30 (.callm 92) [.t 28,.t 29],oV 0 30]
def zeg0:=[oP 31 .add [.t 24,oK 1],oV 24 31]
def zcp6:=[oV 32 0,oV 4 32]
def zeg1:PC:=(.seq (.reg [] zef1) (.seq (.seq (.reg [7,8,9] zef2) (.cond (.t 10) (.seq (.seq (.reg [11,12,13] zef3) (.cond (.t 14) (.seq (.reg [15] zef4) .ret) .skip)) (.seq (.reg [16,17,18,19,20] zef5) .ret)) .skip)) (.seq (.seq (.reg [21] zef6) (.block 0 (.loop (.seq (.reg [] zef7) (.seq (.cond (.t 25) .skip (.exit 0)) (.seq (.block 1 (.seq (.reg [26,27] zef8) (.reg [28,29,30] zef9))) (.reg [31] zeg0))))))) (.seq (.reg [32] zcp6) .ret))))
theorem zfn3:chkF C.P 92 zeg1 33 [.t 4] 2=true:=by kernel_rfl
attribute [go_sem] zef1 zef2 zef3 zef4 zef5 zef6 zef7 zef8 zef9 zeg0 zcp6
def zeg2:=[oB 1 5 0,mo 2 .mv [oNi]]
def zeg3:=[oL 3 5 1,oC 4 47 [.t 3],mo 5 .not [.t 4]]
def zeg4:=[mo 2 .mv [oNi]]
def zeg5:=[oL 6 5 1,mo 7 (.callm 92) [.c (A.full []),.t 6],oV 2 7]
def zeg6:PC:=(.seq (.reg [] zeg2) (.seq (.seq (.reg [3,4] zeg3) (.cond (.t 5) (.seq (.reg [] zeg4) .ret) .skip)) (.seq (.reg [6,7] zeg5) .ret)))
theorem zfn4:chkF C.P 61 zeg6 8 [.t 2] 1=true:=by kernel_rfl
attribute [go_sem] zeg2 zeg3 zeg4 zeg5
def zeg7:=[oI 4 0]
def zeg8:=[oV 7 0,mo 8 .len [.t 7],oI 9 0]
def zeg9:=[oP 10 .lss [.t 9,.t 8]]
def zeh0:=[oV 11 9,mo 12 (.iaS 8 (Queue.enc Queue.zero)) [.t 7,.t 9],oL 13 8 12,mo 6 (.alloc 8 (Queue.enc Queue.zero)) [],oV 5 11,oS 8 6 13]
def zeh1:=[oA 14 0 6,oA 15 0 14,oM 16 1 15,oV 17 1,oP 18 .eql [.t 16,.t 17]]
def zeh2:=[oV 19 5,oV 4 19]
def zeh3:=[oP 20 .add [.t 9,oK 1],oV 9 20]
def zeh4:=[oI 4 (-1)]
def zeh5:PC:=(.seq (.reg [] zeg7) (.seq (.seq (.reg [] zeg8) (.block 0 (.loop (.seq (.reg [] zeg9) (.seq (.cond (.t 10) .skip (.exit 0)) (.seq (.block 1 (.seq (.reg [11,12,13] zeh0) (.seq (.reg [14,15,16,17] zeh1) (.cond (.t 18) (.seq (.reg [19] zeh2) .ret) .skip)))) (.reg [20] zeh3))))))) (.seq (.reg [] zeh4) .ret)))
theorem zfn5:chkF C.P 62 zeh5 21 [.t 4] 2=true:=by kernel_rfl
attribute [go_sem] zeg7 zeg8 zeg9 zeh0 zeh1 zeh2 zeh3 zeh4
def zeh6:=[oB 2 8 0,oB 3 3 1,mo 4 (.alloc 2 (Amount.enc Amount.zero)) [],mo 5 .mv [oFa]]
def zeh7:=[oL 8 8 2,oC 9 93 [.t 8],mo 10 .len [.t 9],oI 11 0]
def zeh8:=[oP 12 .lss [.t 11,.t 10]]
def zeh9:=[mo 13 (.iaS 7 (Wait.enc Wait.zero)) [.t 9,.t 11],oL 14 7 13,mo 7 (.alloc 7 (Wait.enc Wait.zero)) [],oS 7 7 14]
def zei0:=[oA 15 0 7,oL 16 3 15,oL 17 3 3,mo 18 (.eqa false [.i .i64,.i .i64,.i .i64]) [.t 16,.t 17]]
def zei1:=[oA 19 3 7,oL 20 2 19,oS 2 4 20,mo 5 .mv [oTr]]
def zei2:=[oP 21 .add [.t 11,oK 1],oV 11 21]
def zei3:=[mo 22 (.build (Amount.enc Amount.zero) []) [],oS 2 4 22,mo 5 .mv [oFa]]
def zei4:PC:=(.seq (.reg [] zeh6) (.seq (.seq (.reg [8] zeh7) (.block 0 (.loop (.seq (.reg [] zeh8) (.seq (.cond (.t 12) .skip (.exit 0)) (.seq (.block 1 (.seq (.reg [13,14] zeh9) (.seq (.reg [15,16,17] zei0) (.cond (.t 18) (.seq (.reg [19,20] zei1) .ret) .skip)))) (.reg [21] zei2))))))) (.seq (.reg [22] zei3) .ret)))
theorem zfn6:chkF C.P 63 zei4 23 [.c 4 2 true,.t 5] 2=true:=by kernel_rfl
attribute [go_sem] zeh6 zeh7 zeh8 zeh9 zei0 zei1 zei2 zei3
def zei5:=[oB 2 2 0,oB 3 3 1,mo 4 .mv [oNi]]
def zei6:=[oA 11 1 2,oM 12 1 11,oL 13 3 3,oC 14 59 [.t 12,.t 13],oV 5 14]
def zei7:=[oV 15 5,oP 16 .lss [.t 15,oK 0],oV 17 16,oG 18 17 false (.load 2 true) [.t 2],oG 19 17 false (.call 18) [.t 18],oG 20 17 false .not [.t 19],mo 21 .pick [.t 17,oTr,.t 20]]
def zei8:=[mo 4 .mv [oNi]]
def zei9:=[mo 6 (.nilown 1 [A.bool false]) [.c (A.full [])]]
def zej0:=[oA 22 1 2,oM 23 1 22,oV 24 5,mo 25 (.iaS 9 (Need.enc Need.zero)) [.t 23,.t 24],oA 26 3 25,oL 27 5 26,oC 28 61 [.t 27],mo 29 .len [.t 28],oI 30 0]
def zej1:=[oP 31 .lss [.t 30,.t 29]]
def zej2:=[mo 32 (.iaS 3 (Atom.enc Atom.zero)) [.t 28,.t 30],oL 33 3 32,mo 8 (.alloc 3 (Atom.enc Atom.zero)) [],oS 3 8 33]
def zej3:=[mo 9 .mv [oFa]]
def zej4:=[oA 34 0 2,oM 35 1 34,oA 36 0 8,oM 37 1 36,oC 38 62 [.t 35,.t 37],oV 10 38]
def zcp7:=[oV 39 10,oP 40 .geq [.t 39,oK 0]]
def zcp8:=[oA 42 0 2,oM 43 1 42,oV 44 10,mo 45 (.iaS 8 (Queue.enc Queue.zero)) [.t 43,.t 44],oL 46 8 45,oL 47 3 3,oC 48 63 [.t 46,.t 47],oV 41 48,oE 49 0 41,oE 50 1 41,oV 9 50]
def zcp9:=[oV 51 6,oV 52 9,mo 53 .not [.t 52],mo 54 (.bslice 1 [A.bool false]) [.t 53],mo 55 (.append 1 1 [A.bool false]) [.t 51,.t 54],oV 6 55]
def zcq0:=[oP 56 .add [.t 30,oK 1],oV 30 56]
def zcq1:=[oV 57 6,oV 4 57]
def zej5:PC:=(.seq (.reg [] zei5) (.seq (.reg [11,12,13,14] zei6) (.seq (.seq (.reg [15,16,17,18,19,20] zei7) (.cond (.t 21) (.seq (.reg [] zei8) .ret) .skip)) (.seq (.reg [] zei9) (.seq (.seq (.reg [22,23,24,25,26,27] zej0) (.block 0 (.loop (.seq (.reg [] zej1) (.seq (.cond (.t 31) .skip (.exit 0)) (.seq (.block 1 (.seq (.reg [32,33] zej2) (.seq (.reg [] zej3) (.seq (.seq (.reg [34,35,36,37,38] zej4) (.seq (.reg [39] zcp7) (.cond (.t 40) (.regd [41,42,43,44,45,46,47,48,49,50] zcp8) .skip))) (.reg [51,52,53,54,55] zcp9))))) (.reg [56] zcq0))))))) (.seq (.reg [57] zcq1) .ret))))))
theorem zfn7:chkF C.P 27 zej5 58 [.t 4] 2=true:=by kernel_rfl
attribute [go_sem] zei5 zei6 zei7 zei8 zei9 zej0 zej1 zej2 zej3 zej4 zcp7 zcp8 zcp9 zcq0 zcq1
def zej6:=[mo 4 .mv [oFa]]
def zej7:=[oV 6 0,mo 7 .len [.t 6],oV 8 1,mo 9 .len [.t 8],oP 10 .neq [.t 7,.t 9]]
def zej8:=[mo 4 .mv [oFa]]
def zej9:=[oV 11 0,mo 12 .len [.t 11],oI 13 0]
def zek0:=[oP 14 .lss [.t 13,.t 12]]
def zek1:=[oV 15 13,oV 5 15]
def zek2:=[oV 16 0,oV 17 5,mo 18 (.iaS 5 (Hold.enc Hold.zero)) [.t 16,.t 17],oL 19 5 18,oV 20 1,oV 21 5,mo 22 (.iaS 5 (Hold.enc Hold.zero)) [.t 20,.t 21],oL 23 5 22,mo 24 (.eqa true [.i .i64,.i .i64,.i .i64,.i .i64,.i .i64]) [.t 19,.t 23]]
def zek3:=[mo 4 .mv [oFa]]
def zek4:=[oP 25 .add [.t 13,oK 1],oV 13 25]
def zek5:=[mo 4 .mv [oTr]]
def zek6:PC:=(.seq (.reg [] zej6) (.seq (.seq (.reg [6,7,8,9] zej7) (.cond (.t 10) (.seq (.reg [] zej8) .ret) .skip)) (.seq (.seq (.reg [11] zej9) (.block 0 (.loop (.seq (.reg [] zek0) (.seq (.cond (.t 14) .skip (.exit 0)) (.seq (.block 1 (.seq (.reg [15] zek1) (.seq (.regd [16,17,18,19,20,21,22,23] zek2) (.cond (.t 24) (.seq (.reg [] zek3) .ret) .skip)))) (.reg [25] zek4))))))) (.seq (.reg [] zek5) .ret))))
theorem zfn8:chkF C.P 116 zek6 26 [.t 4] 2=true:=by kernel_rfl
attribute [go_sem] zej6 zej7 zej8 zej9 zek0 zek1 zek2 zek3 zek4 zek5
def zek7:=[mo 4 .mv [oFa]]
def zek8:=[oV 6 0,mo 7 .len [.t 6],oV 8 1,mo 9 .len [.t 8],oP 10 .neq [.t 7,.t 9]]
def zek9:=[mo 4 .mv [oFa]]
def zel0:=[oV 11 0,mo 12 .len [.t 11],oI 13 0]
def zel1:=[oP 14 .lss [.t 13,.t 12]]
def zel2:=[oV 15 13,oV 5 15]
def zel3:=[oV 16 0,oV 17 5,mo 18 (.iaS 7 (Wait.enc Wait.zero)) [.t 16,.t 17],oL 19 7 18,oV 20 1,oV 21 5,mo 22 (.iaS 7 (Wait.enc Wait.zero)) [.t 20,.t 21],oL 23 7 22,mo 24 (.eqa true [.i .i64,.i .i64,.i .i64,.i .i64,.i .i64,.i .i64,.i .i64]) [.t 19,.t 23]]
def zel4:=[mo 4 .mv [oFa]]
def zel5:=[oP 25 .add [.t 13,oK 1],oV 13 25]
def zel6:=[mo 4 .mv [oTr]]
def zel7:PC:=(.seq (.reg [] zek7) (.seq (.seq (.reg [6,7,8,9] zek8) (.cond (.t 10) (.seq (.reg [] zek9) .ret) .skip)) (.seq (.seq (.reg [11] zel0) (.block 0 (.loop (.seq (.reg [] zel1) (.seq (.cond (.t 14) .skip (.exit 0)) (.seq (.block 1 (.seq (.reg [15] zel2) (.seq (.regd [16,17,18,19,20,21,22,23] zel3) (.cond (.t 24) (.seq (.reg [] zel4) .ret) .skip)))) (.reg [25] zel5))))))) (.seq (.reg [] zel6) .ret))))
theorem zfn9:chkF C.P 95 zel7 26 [.t 4] 2=true:=by kernel_rfl
attribute [go_sem] zek7 zek8 zek9 zel0 zel1 zel2 zel3 zel4 zel5 zel6
def zel8:=[oB 2 7 0,oB 3 7 1,mo 4 .mv [oFa]]
def zel9:=[oA 5 6 2,mz (.store 1) [.t 5,oK 0],oA 6 6 3,mz (.store 1) [.t 6,oK 0]]
def zem0:=[oL 7 7 2,oL 8 7 3,mo 9 (.eqa false [.i .i64,.i .i64,.i .i64,.i .i64,.i .i64,.i .i64,.i .i64]) [.t 7,.t 8],oV 4 9]
def zem1:PC:=(.seq (.reg [] zel8) (.seq (.reg [5,6] zel9) (.seq (.reg [7,8,9] zem0) .ret)))
theorem zfo0:chkF C.P 118 zem1 10 [.t 4] 2=true:=by kernel_rfl
attribute [go_sem] zel8 zel9 zem0
def zem2:=[mo 6 .mv [oFa]]
def zem3:=[oV 10 0,mo 11 .len [.t 10],oV 12 1,mo 13 .len [.t 12],oP 14 .neq [.t 11,.t 13]]
def zem4:=[mo 6 .mv [oFa]]
def zem5:=[oV 15 0,mo 16 .len [.t 15],oI 17 0]
def zem6:=[oP 18 .lss [.t 17,.t 16]]
def zem7:=[oV 19 17,mo 20 (.iaS 7 (Wait.enc Wait.zero)) [.t 15,.t 17],oL 21 7 20,mo 8 (.alloc 7 (Wait.enc Wait.zero)) [],oV 7 19,oS 7 8 21]
def zem8:=[oV 22 1,oV 23 7,mo 24 (.iaS 7 (Wait.enc Wait.zero)) [.t 22,.t 23],oL 25 7 24,mo 9 (.alloc 7 (Wait.enc Wait.zero)) [],oS 7 9 25]
def zem9:=[oV 26 2,oL 27 7 8,oL 28 7 9,mo 29 .callv [.t 26,.t 27,.t 28],mo 30 .not [.t 29]]
def zen0:=[mo 6 .mv [oFa]]
def zen1:=[oP 31 .add [.t 17,oK 1],oV 17 31]
def zcq2:=[mo 6 .mv [oTr]]
def zen2:PC:=(.seq (.reg [] zem2) (.seq (.seq (.reg [10,11,12,13] zem3) (.cond (.t 14) (.seq (.reg [] zem4) .ret) .skip)) (.seq (.seq (.reg [] zem5) (.block 0 (.loop (.seq (.reg [] zem6) (.seq (.cond (.t 18) .skip (.exit 0)) (.seq (.block 1 (.seq (.reg [19,20,21] zem7) (.seq (.reg [22,23,24,25] zem8) (.seq (.reg [26,27,28,29] zem9) (.cond (.t 30) (.seq (.reg [] zen0) .ret) .skip))))) (.reg [31] zen1))))))) (.seq (.reg [] zcq2) .ret))))
theorem zfo1:chkF C.P 117 zen2 32 [.t 6] 3=true:=by kernel_rfl
attribute [go_sem] zem2 zem3 zem4 zem5 zem6 zem7 zem8 zem9 zen0 zen1 zcq2
def zen3:=[oB 2 8 0,oB 3 8 1,mo 4 .mv [oFa]]
def zen4:=[oA 5 0 2,oL 6 4 5,oA 7 0 3,oL 8 4 7,mo 9 (.eqa false [.s,.i .i64,.i .i64,.i .i64]) [.t 6,.t 8],oV 10 9,oG 11 10 true (.faddr 4) [.t 2],oG 12 10 true (.load 1 false) [.t 11],oG 13 10 true (.faddr 4) [.t 3],oG 14 10 true (.load 1 false) [.t 13],oG 15 10 true (.call 116) [.t 12,.t 14],mo 16 .pick [.t 10,.t 15,oFa],
 oV 17 16,oG 18 17 true (.faddr 5) [.t 2],oG 19 17 true (.load 1 false) [.t 18],oG 20 17 true (.faddr 5) [.t 3],oG 21 17 true (.load 1 false) [.t 20],oG 22 17 true (.call 95) [.t 19,.t 21],mo 23 .pick [.t 17,.t 22,oFa],oV 24 23,oG 25 24 true (.faddr 6) [.t 2],oG 26 24 true (.load 1 false) [.t 25],oG 27 24 true (.faddr 6) [.t 3],
 oG 28 24 true (.load 1 false) [.t 27],oG 29 24 true (.callm 117) [.t 26,.t 28,.f 118],mo 30 .pick [.t 24,.t 29,oFa],oV 4 30]
def zen5:PC:=(.seq (.reg [] zen3) (.seq (.reg [5,6,7,8,9,10,11,12,13,14,15,16,17,18,19,20,21,22,23,24,25,26,27,28,29,30] zen4) .ret))
theorem zfo2:chkF C.P 94 zen5 31 [.t 4] 2=true:=by kernel_rfl
attribute [go_sem] zen3 zen4
def zen6:=[oB 2 8 0,oB 3 8 1,mo 4 .mv [oFa]]
def zen7:=[oA 5 7 2,oM 6 1 5,oA 7 7 3,oM 8 1 7,oP 9 .eql [.t 6,.t 8],oV 10 9,oG 11 10 true (.load 8 true) [.t 2],oG 12 10 true (.load 8 true) [.t 3],oG 13 10 true (.call 94) [.t 11,.t 12],mo 14 .pick [.t 10,.t 13,oFa],oV 15 14,oG 16 15 true (.faddr 6) [.t 2],oG 17 15 true (.load 1 false) [.t 16],oG 18 15 true (.faddr 6) [.t 3],
 oG 19 15 true (.load 1 false) [.t 18],oG 20 15 true (.call 95) [.t 17,.t 19],mo 21 .pick [.t 15,.t 20,oFa],oV 4 21]
def zen8:PC:=(.seq (.reg [] zen6) (.seq (.reg [5,6,7,8,9,10,11,12,13,14,15,16,17,18,19,20,21] zen7) .ret))
theorem zfo3:chkF C.P 65 zen8 22 [.t 4] 2=true:=by kernel_rfl
attribute [go_sem] zen6 zen7
def zen9:=[mo 6 .mv [oFa]]
def zeo0:=[oV 10 0,mo 11 .len [.t 10],oV 12 1,mo 13 .len [.t 12],oP 14 .neq [.t 11,.t 13]]
def zeo1:=[mo 6 .mv [oFa]]
def zeo2:=[oV 15 0,mo 16 .len [.t 15],oI 17 0]
def zeo3:=[oP 18 .lss [.t 17,.t 16]]
def zeo4:=[oV 19 17,mo 20 (.iaS 8 (Queue.enc Queue.zero)) [.t 15,.t 17],oL 21 8 20,mo 8 (.alloc 8 (Queue.enc Queue.zero)) [],oV 7 19,oS 8 8 21]
def zeo5:=[oV 22 1,oV 23 7,mo 24 (.iaS 8 (Queue.enc Queue.zero)) [.t 22,.t 23],oL 25 8 24,mo 9 (.alloc 8 (Queue.enc Queue.zero)) [],oS 8 9 25]
def zeo6:=[oV 26 2,oL 27 8 8,oL 28 8 9,mo 29 .callv [.t 26,.t 27,.t 28],mo 30 .not [.t 29]]
def zeo7:=[mo 6 .mv [oFa]]
def zeo8:=[oP 31 .add [.t 17,oK 1],oV 17 31]
def zcq3:=[mo 6 .mv [oTr]]
def zeo9:PC:=(.seq (.reg [] zen9) (.seq (.seq (.reg [10,11,12,13] zeo0) (.cond (.t 14) (.seq (.reg [] zeo1) .ret) .skip)) (.seq (.seq (.reg [] zeo2) (.block 0 (.loop (.seq (.reg [] zeo3) (.seq (.cond (.t 18) .skip (.exit 0)) (.seq (.block 1 (.seq (.reg [19,20,21] zeo4) (.seq (.reg [22,23,24,25] zeo5) (.seq (.reg [26,27,28,29] zeo6) (.cond (.t 30) (.seq (.reg [] zeo7) .ret) .skip))))) (.reg [31] zeo8))))))) (.seq (.reg [] zcq3) .ret))))
theorem zfo4:chkF C.P 64 zeo9 32 [.t 6] 3=true:=by kernel_rfl
attribute [go_sem] zen9 zeo0 zeo1 zeo2 zeo3 zeo4 zeo5 zeo6 zeo7 zeo8 zcq3
def zep0:=[mo 6 .mv [oFa]]
def zep1:=[oV 10 0,mo 11 .len [.t 10],oV 12 1,mo 13 .len [.t 12],oP 14 .neq [.t 11,.t 13]]
def zep2:=[mo 6 .mv [oFa]]
def zep3:=[oV 15 0,mo 16 .len [.t 15],oI 17 0]
def zep4:=[oP 18 .lss [.t 17,.t 16]]
def zep5:=[oV 19 17,mo 20 (.iaS 5 (Expr.enc Expr.zero)) [.t 15,.t 17],oL 21 5 20,mo 8 (.alloc 5 (Expr.enc Expr.zero)) [],oV 7 19,oS 5 8 21]
def zep6:=[oV 22 1,oV 23 7,mo 24 (.iaS 5 (Expr.enc Expr.zero)) [.t 22,.t 23],oL 25 5 24,mo 9 (.alloc 5 (Expr.enc Expr.zero)) [],oS 5 9 25]
def zep7:=[oV 26 2,oL 27 5 8,oL 28 5 9,mo 29 .callv [.t 26,.t 27,.t 28],mo 30 .not [.t 29]]
def zep8:=[mo 6 .mv [oFa]]
def zep9:=[oP 31 .add [.t 17,oK 1],oV 17 31]
def zcq4:=[mo 6 .mv [oTr]]
def zeq0:PC:=(.seq (.reg [] zep0) (.seq (.seq (.reg [10,11,12,13] zep1) (.cond (.t 14) (.seq (.reg [] zep2) .ret) .skip)) (.seq (.seq (.reg [] zep3) (.block 0 (.loop (.seq (.reg [] zep4) (.seq (.cond (.t 18) .skip (.exit 0)) (.seq (.block 1 (.seq (.reg [19,20,21] zep5) (.seq (.reg [22,23,24,25] zep6) (.seq (.reg [26,27,28,29] zep7) (.cond (.t 30) (.seq (.reg [] zep8) .ret) .skip))))) (.reg [31] zep9))))))) (.seq (.reg [] zcq4) .ret))))
theorem zfo5:chkF C.P 119 zeq0 32 [.t 6] 3=true:=by kernel_rfl
attribute [go_sem] zep0 zep1 zep2 zep3 zep4 zep5 zep6 zep7 zep8 zep9 zcq4
def zeq1:=[oB 2 5 0,oB 3 5 1,mo 4 .mv [oFa]]
def zeq2:=[oA 5 0 2,oM 6 1 5,oA 7 0 3,oM 8 1 7,oP 9 .eql [.t 6,.t 8],oV 10 9,oG 11 10 true (.faddr 1) [.t 2],oG 12 10 true (.load 3 true) [.t 11],oG 13 10 true (.faddr 1) [.t 3],oG 14 10 true (.load 3 true) [.t 13],oG 15 10 true (.eqa false [.s,.i .i64,.i .i64]) [.t 12,.t 14],mo 16 .pick [.t 10,.t 15,oFa],
 oV 17 16,oG 18 17 true (.faddr 4) [.t 2],oG 19 17 true (.load 1 false) [.t 18],oG 20 17 true (.faddr 4) [.t 3],oG 21 17 true (.load 1 false) [.t 20],oG 22 17 true (.callm 119) [.t 19,.t 21,.f 96],mo 23 .pick [.t 17,.t 22,oFa],oV 4 23]
def zeq3:PC:=(.seq (.reg [] zeq1) (.seq (.reg [5,6,7,8,9,10,11,12,13,14,15,16,17,18,19,20,21,22,23] zeq2) .ret))
theorem zfo6:chkF C.P 96 zeq3 24 [.t 4] 2=true:=by kernel_rfl
attribute [go_sem] zeq1 zeq2
def zeq4:=[oB 2 9 0,oB 3 9 1,mo 4 .mv [oFa]]
def zeq5:=[oA 5 0 2,oL 6 3 5,oA 7 0 3,oL 8 3 7,mo 9 (.eqa false [.i .i64,.i .i64,.i .i64]) [.t 6,.t 8],oV 10 9,oG 11 10 true (.faddr 8) [.t 2],oG 12 10 true (.load 1 false) [.t 11],oG 13 10 true (.faddr 8) [.t 3],oG 14 10 true (.load 1 false) [.t 13],oG 15 10 true (.bin .eql) [.t 12,.t 14],mo 16 .pick [.t 10,.t 15,oFa],
 oV 17 16,oG 18 17 true (.faddr 3) [.t 2],oG 19 17 true (.load 5 true) [.t 18],oG 20 17 true (.faddr 3) [.t 3],oG 21 17 true (.load 5 true) [.t 20],oG 22 17 true (.call 96) [.t 19,.t 21],mo 23 .pick [.t 17,.t 22,oFa],oV 4 23]
def zeq6:PC:=(.seq (.reg [] zeq4) (.seq (.reg [5,6,7,8,9,10,11,12,13,14,15,16,17,18,19,20,21,22,23] zeq5) .ret))
theorem zfo7:chkF C.P 67 zeq6 24 [.t 4] 2=true:=by kernel_rfl
attribute [go_sem] zeq4 zeq5
def zeq7:=[mo 6 .mv [oFa]]
def zeq8:=[oV 10 0,mo 11 .len [.t 10],oV 12 1,mo 13 .len [.t 12],oP 14 .neq [.t 11,.t 13]]
def zeq9:=[mo 6 .mv [oFa]]
def zer0:=[oV 15 0,mo 16 .len [.t 15],oI 17 0]
def zer1:=[oP 18 .lss [.t 17,.t 16]]
def zer2:=[oV 19 17,mo 20 (.iaS 9 (Need.enc Need.zero)) [.t 15,.t 17],oL 21 9 20,mo 8 (.alloc 9 (Need.enc Need.zero)) [],oV 7 19,oS 9 8 21]
def zer3:=[oV 22 1,oV 23 7,mo 24 (.iaS 9 (Need.enc Need.zero)) [.t 22,.t 23],oL 25 9 24,mo 9 (.alloc 9 (Need.enc Need.zero)) [],oS 9 9 25]
def zer4:=[oV 26 2,oL 27 9 8,oL 28 9 9,mo 29 .callv [.t 26,.t 27,.t 28],mo 30 .not [.t 29]]
def zer5:=[mo 6 .mv [oFa]]
def zer6:=[oP 31 .add [.t 17,oK 1],oV 17 31]
def zcq5:=[mo 6 .mv [oTr]]
def zer7:PC:=(.seq (.reg [] zeq7) (.seq (.seq (.reg [10,11,12,13] zeq8) (.cond (.t 14) (.seq (.reg [] zeq9) .ret) .skip)) (.seq (.seq (.reg [] zer0) (.block 0 (.loop (.seq (.reg [] zer1) (.seq (.cond (.t 18) .skip (.exit 0)) (.seq (.block 1 (.seq (.reg [19,20,21] zer2) (.seq (.reg [22,23,24,25] zer3) (.seq (.reg [26,27,28,29] zer4) (.cond (.t 30) (.seq (.reg [] zer5) .ret) .skip))))) (.reg [31] zer6))))))) (.seq (.reg [] zcq5) .ret))))
theorem zfo8:chkF C.P 66 zer7 32 [.t 6] 3=true:=by kernel_rfl
attribute [go_sem] zeq7 zeq8 zeq9 zer0 zer1 zer2 zer3 zer4 zer5 zer6 zcq5
def zer8:=[oB 2 2 0,oB 3 2 1,mo 4 .mv [oFa]]
def zer9:=[oA 5 0 2,oM 6 1 5,oA 7 0 3,oM 8 1 7,mo 9 (.callm 64) [.t 6,.t 8,.f 65],oV 10 9,oG 11 10 true (.faddr 1) [.t 2],oG 12 10 true (.load 1 false) [.t 11],oG 13 10 true (.faddr 1) [.t 3],oG 14 10 true (.load 1 false) [.t 13],oG 15 10 true (.callm 66) [.t 12,.t 14,.f 67],mo 16 .pick [.t 10,.t 15,oFa],
 oV 4 16]
def zes0:PC:=(.seq (.reg [] zer8) (.seq (.reg [5,6,7,8,9,10,11,12,13,14,15,16] zer9) .ret))
theorem zfo9:chkF C.P 28 zes0 17 [.t 4] 2=true:=by kernel_rfl
attribute [go_sem] zer8 zer9
def zes1:=[mo 0 .mv [oFa]]
def zes2:=[oC 10 25 [oK 0],mo 1 (.alloc 3 (Proc.enc Proc.zero)) [],oS 3 1 10]
def zes3:=[oL 11 3 1,mo 12 (.build (Amount.enc Amount.zero) [(0,1)]) [oK 5],mo 13 (.build (Atom.enc Atom.zero) [(0,1),(1,2)]) [.c (A.str ⟨#[97]⟩),.t 12],mo 14 (.build (Expr.enc Expr.zero) [(1,3)]) [.t 13],mo 15 (.build (Need.enc Need.zero) [(0,3),(3,5),(8,1)]) [.t 11,.t 14,oK 3],mo 16 (.bslice 9 (Need.enc Need.zero)) [.t 15],
 mo 17 (.build [A.sl ([].map Queue.enc),A.sl ([].map Need.enc)] [(1,1)]) [.t 16],mo 2 (.alloc 2 (WaitState.enc WaitState.zero)) [],oS 2 2 17]
def zes4:=[oL 19 2 2,oC 20 10 [.t 19],oV 18 20,oE 21 0 18,oE 22 1 18,oV 3 21,oV 4 22]
def zes5:=[oV 24 3,oC 25 5 [.t 24],oV 23 25,oE 26 0 23,oE 27 1 23,mo 5 (.alloc 2 (WaitState.enc WaitState.zero)) [],oS 2 5 26,oV 6 27]
def zes6:=[oL 29 2 5,oL 30 3 1,oC 31 26 [.t 29,.t 30],oV 28 31,oE 32 0 28,oE 33 1 28,mo 7 (.alloc 9 (Need.enc Need.zero)) [],oS 9 7 32,oV 8 33]
def zes7:=[oL 34 2 5,oL 35 3 1,oC 36 27 [.t 34,.t 35],oV 9 36]
def zes8:=[oV 37 4,oP 38 .eql [.t 37,oK 0],oV 39 38,oG 40 39 true .mv [.t 6],oG 41 39 true (.bin .eql) [.t 40,oK 0],mo 42 .pick [.t 39,.t 41,oFa],oV 43 42,oG 44 43 true .mv [.t 8],mo 45 .pick [.t 43,.t 44,oFa],oV 46 45,oG 47 46 true (.load 2 true) [.t 2],oG 48 46 true (.load 2 true) [.t 5],oG 49 46 true (.call 28) [.t 47,.t 48],
 mo 50 .pick [.t 46,.t 49,oFa],oV 51 50,oG 52 51 true (.load 2 true) [.t 5],oG 53 51 true (.call 18) [.t 52],mo 54 .pick [.t 51,.t 53,oFa],oV 55 54,oG 56 55 true .mv [.t 9],oG 57 55 true .len [.t 56],oG 58 55 true (.bin .eql) [.t 57,oK 1],mo 59 .pick [.t 55,.t 58,oFa],oV 60 59,oG 61 60 true .mv [.t 9],
 oG 62 60 true (.iaS 1 [A.bool false]) [.t 61,oK 0],oG 63 60 true (.load 1 false) [.t 62],mo 64 .pick [.t 60,.t 63,oFa],oV 65 64,oG 66 65 true (.load 2 true) [.t 5],oG 67 65 true (.call 29) [.t 66],oG 68 65 true .len [.t 67],oG 69 65 true (.bin .eql) [.t 68,oK 1],mo 70 .pick [.t 65,.t 69,oFa],oV 0 70]
def zes9:PC:=(.seq (.reg [] zes1) (.seq (.reg [10] zes2) (.seq (.reg [11,12,13,14,15,16,17] zes3) (.seq (.reg [18,19,20,21,22] zes4) (.seq (.reg [23,24,25,26,27] zes5) (.seq (.reg [7,28,29,30,31,32,33] zes6) (.seq (.reg [34,35,36] zes7) (.seq (.reg [37,38,39,40,41,42,43,44,45,46,47,48,49,50,51,52,53,54,55,56,57,58,59,60,61,62,63,64,65,66,67,68,69,70] zes8) .ret))))))))
theorem zfp0:chkF C.P 7 zes9 71 [.t 0] 0=true:=by kernel_rfl
attribute [go_sem] zes1 zes2 zes3 zes4 zes5 zes6 zes7 zes8
def zet0:=[mo 4 .mv [oFa]]
def zet1:=[oV 6 0,mo 7 .len [.t 6],oV 8 1,mo 9 .len [.t 8],oP 10 .neq [.t 7,.t 9]]
def zet2:=[mo 4 .mv [oFa]]
def zet3:=[oI 5 0]
def zet4:=[oV 11 5,oV 12 0,mo 13 .len [.t 12],oP 14 .lss [.t 11,.t 13]]
def zet5:=[oV 17 0,oV 18 5,mo 19 (.iaS 5 (Hold.enc Hold.zero)) [.t 17,.t 18],oL 20 5 19,oV 21 1,oV 22 5,mo 23 (.iaS 5 (Hold.enc Hold.zero)) [.t 21,.t 22],oL 24 5 23,mo 25 (.eqa true [.i .i64,.i .i64,.i .i64,.i .i64,.i .i64]) [.t 20,.t 24]]
def zet6:=[mo 4 .mv [oFa]]
def zet7:=[oV 15 5,oP 16 .add [.t 15,oK 1],oV 5 16]
def zet8:=[mo 4 .mv [oTr]]
def zet9:PC:=(.seq (.reg [] zet0) (.seq (.seq (.reg [6,7,8,9] zet1) (.cond (.t 10) (.seq (.reg [] zet2) .ret) .skip)) (.seq (.seq (.reg [] zet3) (.block 0 (.loop (.seq (.seq (.reg [11,12,13] zet4) (.cond (.t 14) .skip (.exit 0))) (.seq (.block 1 (.seq (.regd [17,18,19,20,21,22,23,24] zet5) (.cond (.t 25) (.seq (.reg [] zet6) .ret) .skip))) (.reg [15,16] zet7)))))) (.seq (.reg [] zet8) .ret))))
theorem zfp1:chkF C.P 100 zet9 26 [.t 4] 2=true:=by kernel_rfl
attribute [go_sem] zet0 zet1 zet2 zet3 zet4 zet5 zet6 zet7 zet8
def zeu0:=[mo 4 .mv [oFa]]
def zeu1:=[oV 6 0,mo 7 .len [.t 6],oV 8 1,mo 9 .len [.t 8],oP 10 .neq [.t 7,.t 9]]
def zeu2:=[mo 4 .mv [oFa]]
def zeu3:=[oI 5 0]
def zeu4:=[oV 11 5,oV 12 0,mo 13 .len [.t 12],oP 14 .lss [.t 11,.t 13]]
def zeu5:=[oV 17 0,oV 18 5,mo 19 (.iaS 7 (Wait.enc Wait.zero)) [.t 17,.t 18],oL 20 7 19,oV 21 1,oV 22 5,mo 23 (.iaS 7 (Wait.enc Wait.zero)) [.t 21,.t 22],oL 24 7 23,mo 25 (.eqa true [.i .i64,.i .i64,.i .i64,.i .i64,.i .i64,.i .i64,.i .i64]) [.t 20,.t 24]]
def zeu6:=[mo 4 .mv [oFa]]
def zeu7:=[oV 15 5,oP 16 .add [.t 15,oK 1],oV 5 16]
def zeu8:=[mo 4 .mv [oTr]]
def zeu9:PC:=(.seq (.reg [] zeu0) (.seq (.seq (.reg [6,7,8,9] zeu1) (.cond (.t 10) (.seq (.reg [] zeu2) .ret) .skip)) (.seq (.seq (.reg [] zeu3) (.block 0 (.loop (.seq (.seq (.reg [11,12,13] zeu4) (.cond (.t 14) .skip (.exit 0))) (.seq (.block 1 (.seq (.regd [17,18,19,20,21,22,23,24] zeu5) (.cond (.t 25) (.seq (.reg [] zeu6) .ret) .skip))) (.reg [15,16] zeu7)))))) (.seq (.reg [] zeu8) .ret))))
theorem zfp2:chkF C.P 101 zeu9 26 [.t 4] 2=true:=by kernel_rfl
attribute [go_sem] zeu0 zeu1 zeu2 zeu3 zeu4 zeu5 zeu6 zeu7 zeu8
def zev0:=[oB 2 8 0,oB 3 8 1,mo 4 .mv [oFa]]
def zev1:=[oA 5 0 2,oL 6 4 5,oA 7 0 3,oL 8 4 7,mo 9 (.eqa false [.s,.i .i64,.i .i64,.i .i64]) [.t 6,.t 8],oV 10 9,oG 11 10 true (.faddr 7) [.t 2],oG 12 10 true (.load 1 false) [.t 11],oG 13 10 true (.faddr 7) [.t 3],oG 14 10 true (.load 1 false) [.t 13],oG 15 10 true (.bin .eql) [.t 12,.t 14],mo 16 .pick [.t 10,.t 15,oFa],
 oV 17 16,oG 18 17 true (.faddr 4) [.t 2],oG 19 17 true (.load 1 false) [.t 18],oG 20 17 true (.faddr 4) [.t 3],oG 21 17 true (.load 1 false) [.t 20],oG 22 17 true (.call 100) [.t 19,.t 21],mo 23 .pick [.t 17,.t 22,oFa],oV 24 23,oG 25 24 true (.faddr 5) [.t 2],oG 26 24 true (.load 1 false) [.t 25],oG 27 24 true (.faddr 5) [.t 3],
 oG 28 24 true (.load 1 false) [.t 27],oG 29 24 true (.call 101) [.t 26,.t 28],mo 30 .pick [.t 24,.t 29,oFa],oV 31 30,oG 32 31 true (.faddr 6) [.t 2],oG 33 31 true (.load 1 false) [.t 32],oG 34 31 true (.faddr 6) [.t 3],oG 35 31 true (.load 1 false) [.t 34],oG 36 31 true (.call 101) [.t 33,.t 35],mo 37 .pick [.t 31,.t 36,oFa],
 oV 4 37]
def zev2:PC:=(.seq (.reg [] zev0) (.seq (.reg [5,6,7,8,9,10,11,12,13,14,15,16,17,18,19,20,21,22,23,24,25,26,27,28,29,30,31,32,33,34,35,36,37] zev1) .ret))
theorem zfp3:chkF C.P 70 zev2 38 [.t 4] 2=true:=by kernel_rfl
attribute [go_sem] zev0 zev1
def zev3:=[mo 4 .mv [oFa]]
def zev4:=[oV 6 0,mo 7 .len [.t 6],oV 8 1,mo 9 .len [.t 8],oP 10 .neq [.t 7,.t 9]]
def zev5:=[mo 4 .mv [oFa]]
def zev6:=[oI 5 0]
def zev7:=[oV 11 5,oV 12 0,mo 13 .len [.t 12],oP 14 .lss [.t 11,.t 13]]
def zev8:=[oV 17 0,oV 18 5,mo 19 (.iaS 8 (Queue.enc Queue.zero)) [.t 17,.t 18],oL 20 8 19,oV 21 1,oV 22 5,mo 23 (.iaS 8 (Queue.enc Queue.zero)) [.t 21,.t 22],oL 24 8 23,oC 25 70 [.t 20,.t 24],mo 26 .not [.t 25]]
def zev9:=[mo 4 .mv [oFa]]
def zew0:=[oV 15 5,oP 16 .add [.t 15,oK 1],oV 5 16]
def zew1:=[mo 4 .mv [oTr]]
def zew2:PC:=(.seq (.reg [] zev3) (.seq (.seq (.reg [6,7,8,9] zev4) (.cond (.t 10) (.seq (.reg [] zev5) .ret) .skip)) (.seq (.seq (.reg [] zev6) (.block 0 (.loop (.seq (.seq (.reg [11,12,13] zev7) (.cond (.t 14) .skip (.exit 0))) (.seq (.block 1 (.seq (.regd [17,18,19,20,21,22,23,24,25] zev8) (.cond (.t 26) (.seq (.reg [] zev9) .ret) .skip))) (.reg [15,16] zew0)))))) (.seq (.reg [] zew1) .ret))))
theorem zfp4:chkF C.P 30 zew2 27 [.t 4] 2=true:=by kernel_rfl
attribute [go_sem] zev3 zev4 zev5 zev6 zev7 zev8 zev9 zew0 zew1
def zew3:=[oB 2 5 0,oB 3 5 1,mo 4 .mv [oFa]]
def zew4:=[oA 6 0 2,oM 7 1 6,oA 8 0 3,oM 9 1 8,oP 10 .neq [.t 7,.t 9],oV 11 10,oG 12 11 false (.faddr 1) [.t 2],oG 13 11 false (.load 3 true) [.t 12],oG 14 11 false (.faddr 1) [.t 3],oG 15 11 false (.load 3 true) [.t 14],oG 16 11 false (.eqa true [.s,.i .i64,.i .i64]) [.t 13,.t 15],mo 17 .pick [.t 11,oTr,.t 16],
 oV 18 17,oG 19 18 false (.faddr 4) [.t 2],oG 20 18 false (.load 1 false) [.t 19],oG 21 18 false .len [.t 20],oG 22 18 false (.faddr 4) [.t 3],oG 23 18 false (.load 1 false) [.t 22],oG 24 18 false .len [.t 23],oG 25 18 false (.bin .neq) [.t 21,.t 24],mo 26 .pick [.t 18,oTr,.t 25]]
def zew5:=[mo 4 .mv [oFa]]
def zew6:=[oI 5 0]
def zew7:=[oV 27 5,oA 28 4 2,oM 29 1 28,mo 30 .len [.t 29],oP 31 .lss [.t 27,.t 30]]
def zew8:=[oA 34 4 2,oM 35 1 34,oV 36 5,mo 37 (.iaS 5 (Expr.enc Expr.zero)) [.t 35,.t 36],oL 38 5 37,oA 39 4 3,oM 40 1 39,oV 41 5,mo 42 (.iaS 5 (Expr.enc Expr.zero)) [.t 40,.t 41],oL 43 5 42,oC 44 71 [.t 38,.t 43],mo 45 .not [.t 44]]
def zew9:=[mo 4 .mv [oFa]]
def zex0:=[oV 32 5,oP 33 .add [.t 32,oK 1],oV 5 33]
def zex1:=[mo 4 .mv [oTr]]
def zex2:PC:=(.seq (.reg [] zew3) (.seq (.seq (.reg [6,7,8,9,10,11,12,13,14,15,16,17,18,19,20,21,22,23,24,25] zew4) (.cond (.t 26) (.seq (.reg [] zew5) .ret) .skip)) (.seq (.seq (.reg [] zew6) (.block 0 (.loop (.seq (.seq (.reg [27,28,29,30] zew7) (.cond (.t 31) .skip (.exit 0))) (.seq (.block 1 (.seq (.regd [34,35,36,37,38,39,40,41,42,43,44] zew8) (.cond (.t 45) (.seq (.reg [] zew9) .ret) .skip))) (.reg [32,33] zex0)))))) (.seq (.reg [] zex1) .ret))))
theorem zfp5:chkF C.P 71 zex2 46 [.t 4] 2=true:=by kernel_rfl
attribute [go_sem] zew3 zew4 zew5 zew6 zew7 zew8 zew9 zex0 zex1
def zex3:=[oB 2 9 0,oB 3 9 1,mo 4 .mv [oFa]]
def zex4:=[oA 5 0 2,oL 6 3 5,oA 7 0 3,oL 8 3 7,mo 9 (.eqa false [.i .i64,.i .i64,.i .i64]) [.t 6,.t 8],oV 10 9,oG 11 10 true (.faddr 8) [.t 2],oG 12 10 true (.load 1 false) [.t 11],oG 13 10 true (.faddr 8) [.t 3],oG 14 10 true (.load 1 false) [.t 13],oG 15 10 true (.bin .eql) [.t 12,.t 14],mo 16 .pick [.t 10,.t 15,oFa],
 oV 17 16,oG 18 17 true (.faddr 3) [.t 2],oG 19 17 true (.load 5 true) [.t 18],oG 20 17 true (.faddr 3) [.t 3],oG 21 17 true (.load 5 true) [.t 20],oG 22 17 true (.call 71) [.t 19,.t 21],mo 23 .pick [.t 17,.t 22,oFa],oV 4 23]
def zex5:PC:=(.seq (.reg [] zex3) (.seq (.reg [5,6,7,8,9,10,11,12,13,14,15,16,17,18,19,20,21,22,23] zex4) .ret))
theorem zfp6:chkF C.P 31 zex5 24 [.t 4] 2=true:=by kernel_rfl
attribute [go_sem] zex3 zex4
def zex6:=[oB 2 2 0,oB 3 2 1,mo 4 .mv [oFa]]
def zex7:=[oA 6 0 2,oM 7 1 6,oA 8 0 3,oM 9 1 8,oC 10 30 [.t 7,.t 9],mo 11 .not [.t 10],oV 12 11,oG 13 12 false (.faddr 1) [.t 2],oG 14 12 false (.load 1 false) [.t 13],oG 15 12 false .len [.t 14],oG 16 12 false (.faddr 1) [.t 3],oG 17 12 false (.load 1 false) [.t 16],oG 18 12 false .len [.t 17],oG 19 12 false (.bin .neq) [.t 15,.t 18],
 mo 20 .pick [.t 12,oTr,.t 19]]
def zex8:=[mo 4 .mv [oFa]]
def zex9:=[oI 5 0]
def zey0:=[oV 21 5,oA 22 1 2,oM 23 1 22,mo 24 .len [.t 23],oP 25 .lss [.t 21,.t 24]]
def zey1:=[oA 28 1 2,oM 29 1 28,oV 30 5,mo 31 (.iaS 9 (Need.enc Need.zero)) [.t 29,.t 30],oL 32 9 31,oA 33 1 3,oM 34 1 33,oV 35 5,mo 36 (.iaS 9 (Need.enc Need.zero)) [.t 34,.t 35],oL 37 9 36,oC 38 31 [.t 32,.t 37],mo 39 .not [.t 38]]
def zey2:=[mo 4 .mv [oFa]]
def zey3:=[oV 26 5,oP 27 .add [.t 26,oK 1],oV 5 27]
def zey4:=[mo 4 .mv [oTr]]
def zey5:PC:=(.seq (.reg [] zex6) (.seq (.seq (.reg [6,7,8,9,10,11,12,13,14,15,16,17,18,19] zex7) (.cond (.t 20) (.seq (.reg [] zex8) .ret) .skip)) (.seq (.seq (.reg [] zex9) (.block 0 (.loop (.seq (.seq (.reg [21,22,23,24] zey0) (.cond (.t 25) .skip (.exit 0))) (.seq (.block 1 (.seq (.regd [28,29,30,31,32,33,34,35,36,37,38] zey1) (.cond (.t 39) (.seq (.reg [] zey2) .ret) .skip))) (.reg [26,27] zey3)))))) (.seq (.reg [] zey4) .ret))))
theorem zfp7:chkF C.P 8 zey5 40 [.t 4] 2=true:=by kernel_rfl
attribute [go_sem] zex6 zex7 zex8 zex9 zey0 zey1 zey2 zey3 zey4
def zey6:=[oB 1 2 0,mo 2 .mv [oFa]]
def zey7:=[oA 4 0 1,oM 5 1 4,mo 6 .len [.t 5],oP 7 .gtr [.t 6,oK 12],oV 8 7,oG 9 8 false (.faddr 1) [.t 1],oG 10 8 false (.load 1 false) [.t 9],oG 11 8 false .len [.t 10],oG 12 8 false (.bin .gtr) [.t 11,oK 12],mo 13 .pick [.t 8,oTr,.t 12]]
def zey8:=[mo 2 .mv [oFa]]
def zey9:=[oI 3 0]
def zez0:=[oV 14 3,oA 15 0 1,oM 16 1 15,mo 17 .len [.t 16],oP 18 .lss [.t 14,.t 17]]
def zez1:=[oA 21 0 1,oM 22 1 21,oV 23 3,mo 24 (.iaS 8 (Queue.enc Queue.zero)) [.t 22,.t 23],oA 25 4 24,oM 26 1 25,mo 27 .len [.t 26],oP 28 .gtr [.t 27,oK 12],oV 29 28,oG 30 29 false (.faddr 0) [.t 1],oG 31 29 false (.load 1 false) [.t 30],oG 32 29 false .mv [.t 3],oG 33 29 false (.iaS 8 (Queue.enc Queue.zero)) [.t 31,.t 32],
 oG 34 29 false (.faddr 5) [.t 33],oG 35 29 false (.load 1 false) [.t 34],oG 36 29 false .len [.t 35],oG 37 29 false (.bin .gtr) [.t 36,oK 12],mo 38 .pick [.t 29,oTr,.t 37],oV 39 38,oG 40 39 false (.faddr 0) [.t 1],oG 41 39 false (.load 1 false) [.t 40],oG 42 39 false .mv [.t 3],oG 43 39 false (.iaS 8 (Queue.enc Queue.zero)) [.t 41,.t 42],
 oG 44 39 false (.faddr 6) [.t 43],oG 45 39 false (.load 1 false) [.t 44],oG 46 39 false .len [.t 45],oG 47 39 false (.bin .gtr) [.t 46,oK 12],mo 48 .pick [.t 39,oTr,.t 47]]
def zez2:=[mo 2 .mv [oFa]]
def zez3:=[oV 19 3,oP 20 .add [.t 19,oK 1],oV 3 20]
def zez4:=[mo 2 .mv [oTr]]
def zez5:PC:=(.seq (.reg [] zey6) (.seq (.seq (.reg [4,5,6,7,8,9,10,11,12] zey7) (.cond (.t 13) (.seq (.reg [] zey8) .ret) .skip)) (.seq (.seq (.reg [] zey9) (.block 0 (.loop (.seq (.seq (.reg [14,15,16,17] zez0) (.cond (.t 18) .skip (.exit 0))) (.seq (.block 1 (.seq (.reg [21,22,23,24,25,26,27,28,29,30,31,32,33,34,35,36,37,38,39,40,41,42,43,44,45,46,47] zez1) (.cond (.t 48) (.seq (.reg [] zez2) .ret) .skip))) (.reg [19,20] zez3)))))) (.seq (.reg [] zez4) .ret))))
theorem zfp8:chkF C.P 9 zez5 49 [.t 2] 1=true:=by kernel_rfl
attribute [go_sem] zey6 zey7 zey8 zey9 zez0 zez1 zez2 zez3 zez4
def zez6:=[mo 4 .mv [oNi]]
def zez7:=[mo 6 (.bown 1 [A.int .u8 0]) [],oV 7 0,mo 8 (.append 1 1 [A.int .u8 0]) [.t 6,.t 7],oV 5 8]
def zez8:=[oV 9 1,oP 10 .geq [.t 9,.c (A.int .u64 128)]]
def zez9:=[oV 11 5,oV 12 1,oP 13 .and [.t 12,.c (A.int .u64 127)],mo 14 (.conv .u8) [.t 13],oP 15 .or [.t 14,.c (A.int .u8 128)],mo 16 (.bslice 1 [A.int .u8 0]) [.t 15],mo 17 (.append 1 1 [A.int .u8 0]) [.t 11,.t 16],oV 5 17]
def zeA0:=[oV 18 1,oP 19 .shr [.t 18,.c (A.int .u64 7)],oV 1 19]
def zeA1:=[oV 20 5,oV 21 1,mo 22 (.conv .u8) [.t 21],mo 23 (.bslice 1 [A.int .u8 0]) [.t 22],mo 24 (.append 1 1 [A.int .u8 0]) [.t 20,.t 23],oV 4 24]
def zeA2:PC:=(.seq (.reg [] zez6) (.seq (.reg [6,7,8] zez7) (.seq (.block 0 (.loop (.seq (.seq (.reg [9] zez8) (.cond (.t 10) .skip (.exit 0))) (.block 1 (.seq (.reg [11,12,13,14,15,16,17] zez9) (.reg [18,19] zeA0)))))) (.seq (.reg [20,21,22,23,24] zeA1) .ret))))
theorem zfp9:chkF C.P 74 zeA2 25 [.t 4] 2=true:=by kernel_rfl
attribute [go_sem] zez6 zez7 zez8 zez9 zeA0 zeA1
def zeA3:=[mo 4 .mv [oNi]]
def zeA4:=[oV 5 0,oV 6 1,mo 7 (.conv .u64) [.t 6],oC 8 74 [.t 5,.t 7],oV 4 8]
def zeA5:PC:=(.seq (.reg [] zeA3) (.seq (.reg [5,6,7,8] zeA4) .ret))
theorem zfq0:chkF C.P 36 zeA5 9 [.t 4] 2=true:=by kernel_rfl
attribute [go_sem] zeA3 zeA4
def zeA6:=[mo 4 (.nilown 1 [A.int .u8 0]) [.c (A.full [])]]
def zeA7:=[mo 6 (.bown 1 [A.int .u8 0]) [],oV 7 0,mo 8 (.append 1 1 [A.int .u8 0]) [.t 6,.t 7],oV 5 8]
def zeA8:=[oV 9 1,oP 10 .geq [.t 9,.c (A.int .u64 128)]]
def zeA9:=[oV 11 5,oV 12 1,oP 13 .and [.t 12,.c (A.int .u64 127)],mo 14 (.conv .u8) [.t 13],oP 15 .or [.t 14,.c (A.int .u8 128)],mo 16 (.bslice 1 [A.int .u8 0]) [.t 15],mo 17 (.append 1 1 [A.int .u8 0]) [.t 11,.t 16],oV 5 17]
def zeB0:=[oV 18 1,oP 19 .shr [.t 18,.c (A.int .u64 7)],oV 1 19]
def zeB1:=[oV 20 5,oV 21 1,mo 22 (.conv .u8) [.t 21],mo 23 (.bslice 1 [A.int .u8 0]) [.t 22],mo 24 (.append 1 1 [A.int .u8 0]) [.t 20,.t 23],oV 4 24]
def zeB2:PC:=(.seq (.reg [] zeA6) (.seq (.reg [6,7,8] zeA7) (.seq (.block 0 (.loop (.seq (.seq (.reg [9] zeA8) (.cond (.t 10) .skip (.exit 0))) (.block 1 (.seq (.reg [11,12,13,14,15,16,17] zeA9) (.reg [18,19] zeB0)))))) (.seq (.reg [20,21,22,23,24] zeB1) .ret))))
theorem zfq1:chkF C.P 74 zeB2 25 [.t 4] 2=true:=by kernel_rfl
attribute [go_sem] zeA6 zeA7 zeA8 zeA9 zeB0 zeB1
def zeB3:=[mo 4 .mv [oNi]]
def zeB4:=[oV 5 0,oV 6 1,mo 7 .lenS [.t 6],mo 8 (.conv .u64) [.t 7],mo 9 (.callm 74) [.t 5,.t 8],oV 10 1,mo 11 (.append 1 1 [A.int .u8 0]) [.t 9,.t 10],oV 4 11]
def zeB5:PC:=(.seq (.reg [] zeB3) (.seq (.reg [5,6,7,8,9,10,11] zeB4) .ret))
theorem zfq2:chkF C.P 37 zeB5 12 [.t 4] 2=true:=by kernel_rfl
attribute [go_sem] zeB3 zeB4
def zeB6:=[oB 3 3 1,mo 4 .mv [oNi]]
def zeB7:=[oL 5 3 3,oC 6 54 [.t 5],mo 7 .not [.t 6]]
def zeB8:=[mo 8 (.bown 1 [A.int .u8 0]) [],oV 9 0,mo 10 (.append 1 1 [A.int .u8 0]) [.t 8,.t 9],oV 4 10]
def zeB9:=[oV 11 0,oA 12 0 3,oM 13 1 12,mo 14 (.conv .u64) [.t 13],oC 15 74 [.t 11,.t 14],oA 16 1 3,oM 17 1 16,mo 18 (.conv .u64) [.t 17],oC 19 74 [.t 15,.t 18],oA 20 2 3,oM 21 1 20,mo 22 (.conv .u64) [.t 21],oC 23 74 [.t 19,.t 22],oV 4 23]
def zeC0:PC:=(.seq (.reg [] zeB6) (.seq (.seq (.reg [5,6] zeB7) (.cond (.t 7) (.seq (.reg [8,9,10] zeB8) .ret) .skip)) (.seq (.regd [11,12,13,14,15,16,17,18,19,20,21,22,23] zeB9) .ret)))
theorem zfq3:chkF C.P 39 zeC0 24 [.t 4] 2=true:=by kernel_rfl
attribute [go_sem] zeB6 zeB7 zeB8 zeB9
def zeC1:=[oB 3 2 1,mo 4 .mv [oNi]]
def zeC2:=[oV 5 0,oA 6 0 3,oM 7 1 6,oC 8 36 [.t 5,.t 7],oA 9 1 3,oM 10 1 9,oC 11 36 [.t 8,.t 10],oV 4 11]
def zeC3:PC:=(.seq (.reg [] zeC1) (.seq (.regd [5,6,7,8,9,10,11] zeC2) .ret))
theorem zfq4:chkF C.P 38 zeC3 12 [.t 4] 2=true:=by kernel_rfl
attribute [go_sem] zeC1 zeC2
def zeC4:=[oB 3 5 1,mo 4 .mv [oNi]]
def zeC5:=[oV 6 0,oA 7 0 3,oM 8 1 7,oC 9 36 [.t 6,.t 8],oV 0 9]
def zeC6:=[oA 10 0 3,oM 11 1 10,oP 12 .eql [.t 11,oK 0]]
def zeC7:=[oV 13 0,oA 14 1 3,oA 15 0 14,oM 16 1 15,oC 17 37 [.t 13,.t 16],oA 18 1 3,oA 19 1 18,oL 20 2 19,oC 21 38 [.t 17,.t 20],oV 4 21]
def zeC8:=[oV 22 0,oA 23 4 3,oM 24 1 23,mo 25 .len [.t 24],oC 26 36 [.t 22,.t 25],oV 0 26]
def zeC9:=[oI 5 0]
def zeD0:=[oV 27 5,oA 28 4 3,oM 29 1 28,mo 30 .len [.t 29],oP 31 .lss [.t 27,.t 30]]
def zeD1:=[oV 34 0,oA 35 4 3,oM 36 1 35,oV 37 5,mo 38 (.iaS 5 (Expr.enc Expr.zero)) [.t 36,.t 37],oL 39 5 38,oC 40 40 [.t 34,.t 39],oV 0 40]
def zeD2:=[oV 32 5,oP 33 .add [.t 32,oK 1],oV 5 33]
def zeD3:=[oV 41 0,oV 4 41]
def zeD4:PC:=(.seq (.reg [] zeC4) (.seq (.reg [6,7,8,9] zeC5) (.seq (.seq (.reg [10,11] zeC6) (.cond (.t 12) (.seq (.regd [13,14,15,16,17,18,19,20,21] zeC7) .ret) .skip)) (.seq (.reg [22,23,24,25,26] zeC8) (.seq (.seq (.reg [] zeC9) (.block 0 (.loop (.seq (.seq (.reg [27,28,29,30] zeD0) (.cond (.t 31) .skip (.exit 0))) (.seq (.block 1 (.reg [34,35,36,37,38,39,40] zeD1)) (.reg [32,33] zeD2)))))) (.seq (.reg [41] zeD3) .ret))))))
theorem zfq5:chkF C.P 40 zeD4 42 [.t 4] 2=true:=by kernel_rfl
attribute [go_sem] zeC4 zeC5 zeC6 zeC7 zeC8 zeC9 zeD0 zeD1 zeD2 zeD3
def zeD5:=[oB 1 2 0,mo 2 .mv [oNi],oI 3 0]
def zeD6:=[oL 13 2 1,oC 14 24 [.t 13],mo 15 .not [.t 14]]
def zeD7:=[mo 2 .mv [oNi],oI 3 2]
def zeD8:=[oA 16 0 1,oM 17 1 16,mo 18 .len [.t 17],oC 19 36 [.c (A.full []),.t 18],oV 4 19]
def zeD9:=[oI 5 0]
def zeE0:=[oV 20 5,oA 21 0 1,oM 22 1 21,mo 23 .len [.t 22],oP 24 .lss [.t 20,.t 23]]
def zeE1:=[oA 27 0 1,oM 28 1 27,oV 29 5,mo 30 (.iaS 8 (Queue.enc Queue.zero)) [.t 28,.t 29],oL 31 8 30,mo 6 (.alloc 8 (Queue.enc Queue.zero)) [],oS 8 6 31]
def zeE2:=[oA 32 0 6,oL 33 4 32,mo 7 (.alloc 4 (Resource.enc Resource.zero)) [],oS 4 7 33]
def zeE3:=[oV 34 4,oA 35 0 7,oM 36 1 35,oC 37 37 [.t 34,.t 36],oA 38 1 7,oM 39 1 38,oC 40 36 [.t 37,.t 39],oA 41 2 7,oM 42 1 41,oC 43 36 [.t 40,.t 42],oA 44 3 7,oM 45 1 44,oC 46 36 [.t 43,.t 45],oA 47 7 6,oM 48 1 47,oC 49 36 [.t 46,.t 48],oV 4 49]
def zcq6:=[oV 50 4,oA 51 4 6,oM 52 1 51,mo 53 .len [.t 52],oC 54 36 [.t 50,.t 53],oV 4 54]
def zcq7:=[oI 8 0]
def zcq8:=[oV 55 8,oA 56 4 6,oM 57 1 56,mo 58 .len [.t 57],oP 59 .lss [.t 55,.t 58]]
def zcq9:=[oV 62 4,oA 63 4 6,oM 64 1 63,oV 65 8,mo 66 (.iaS 5 (Hold.enc Hold.zero)) [.t 64,.t 65],oA 67 0 66,oL 68 3 67,oC 69 39 [.t 62,.t 68],oA 70 4 6,oM 71 1 70,oV 72 8,mo 73 (.iaS 5 (Hold.enc Hold.zero)) [.t 71,.t 72],oA 74 3 73,oL 75 2 74,oC 76 38 [.t 69,.t 75],oV 4 76]
def zcr0:=[oV 60 8,oP 61 .add [.t 60,oK 1],oV 8 61]
def zcr1:=[oV 77 4,oA 78 5 6,oM 79 1 78,mo 80 .len [.t 79],oC 81 36 [.t 77,.t 80],oV 4 81]
def zcr2:=[oI 9 0]
def zcr3:=[oV 82 9,oA 83 5 6,oM 84 1 83,mo 85 .len [.t 84],oP 86 .lss [.t 82,.t 85]]
def zcr4:=[oV 89 4,oA 90 5 6,oM 91 1 90,oV 92 9,mo 93 (.iaS 7 (Wait.enc Wait.zero)) [.t 91,.t 92],oA 94 0 93,oL 95 3 94,oC 96 39 [.t 89,.t 95],oA 97 5 6,oM 98 1 97,oV 99 9,mo 100 (.iaS 7 (Wait.enc Wait.zero)) [.t 98,.t 99],oA 101 3 100,oL 102 2 101,oC 103 38 [.t 96,.t 102],oV 4 103]
def zcr5:=[oV 87 9,oP 88 .add [.t 87,oK 1],oV 9 88]
def zcr6:=[oV 104 4,oA 105 6 6,oM 106 1 105,mo 107 .len [.t 106],oC 108 36 [.t 104,.t 107],oV 4 108]
def zcr7:=[oI 10 0]
def zcr8:=[oV 109 10,oA 110 6 6,oM 111 1 110,mo 112 .len [.t 111],oP 113 .lss [.t 109,.t 112]]
def zcr9:=[oA 116 6 6,oM 117 1 116,oV 118 10,mo 119 (.iaS 7 (Wait.enc Wait.zero)) [.t 117,.t 118],oL 120 7 119,mo 11 (.alloc 7 (Wait.enc Wait.zero)) [],oS 7 11 120]
def zcs0:=[oV 121 4,oA 122 0 11,oL 123 3 122,oC 124 39 [.t 121,.t 123],oA 125 3 11,oL 126 2 125,oC 127 38 [.t 124,.t 126],oA 128 5 11,oM 129 1 128,oC 130 36 [.t 127,.t 129],oA 131 6 11,oM 132 1 131,oC 133 36 [.t 130,.t 132],oV 4 133]
def zcs1:=[oV 114 10,oP 115 .add [.t 114,oK 1],oV 10 115]
def zeE4:=[oV 25 5,oP 26 .add [.t 25,oK 1],oV 5 26]
def zcs2:=[oV 134 4,oA 135 1 1,oM 136 1 135,mo 137 .len [.t 136],oC 138 36 [.t 134,.t 137],oV 4 138]
def zcs3:=[oI 12 0]
def zcs4:=[oV 139 12,oA 140 1 1,oM 141 1 140,mo 142 .len [.t 141],oP 143 .lss [.t 139,.t 142]]
def zcs5:=[oV 146 4,oA 147 1 1,oM 148 1 147,oV 149 12,mo 150 (.iaS 9 (Need.enc Need.zero)) [.t 148,.t 149],oA 151 0 150,oL 152 3 151,oC 153 39 [.t 146,.t 152],oA 154 1 1,oM 155 1 154,oV 156 12,mo 157 (.iaS 9 (Need.enc Need.zero)) [.t 155,.t 156],oA 158 8 157,oM 159 1 158,oC 160 36 [.t 153,.t 159],oA 161 1 1,
 oM 162 1 161,oV 163 12,mo 164 (.iaS 9 (Need.enc Need.zero)) [.t 162,.t 163],oA 165 3 164,oL 166 5 165,oC 167 40 [.t 160,.t 166],oV 4 167]
def zcs6:=[oV 144 12,oP 145 .add [.t 144,oK 1],oV 12 145]
def zcs7:=[oV 168 4,oV 2 168,oI 3 0]
def zeE5:PC:=(.seq (.reg [] zeD5) (.seq (.seq (.reg [13,14] zeD6) (.cond (.t 15) (.seq (.reg [] zeD7) .ret) .skip)) (.seq (.reg [16,17,18,19] zeD8) (.seq (.seq (.reg [] zeD9) (.block 0 (.loop (.seq (.seq (.reg [20,21,22,23] zeE0) (.cond (.t 24) .skip (.exit 0))) (.seq (.block 1 (.seq (.reg [27,28,29,30,31] zeE1) (.seq (.reg [32,33] zeE2) (.seq (.regd [34,35,36,37,38,39,40,41,42,43,44,45,46,47,48,49] zeE3) (.seq (.reg [50,51,52,53,54] zcq6) (.seq (.seq (.reg [] zcq7) (.block 2 (.loop (.seq (.seq (.reg [55,56,57,58] zcq8) (.cond (.t 59) .skip (.exit 2))) (.seq (.block 3 (.regd [62,63,64,65,66,67,68,69,70,71,72,73,74,75,76] zcq9)) (.reg [60,61] zcr0)))))) (.seq (.reg [77,78,79,80,81] zcr1) (.seq (.seq (.reg [] zcr2) (.block 4 (.loop (.seq (.seq (.reg [82,83,84,85] zcr3) (.cond (.t 86) .skip (.exit 4))) (.seq (.block 5 (.regd [89,90,91,92,93,94,95,96,97,98,99,100,101,102,103] zcr4)) (.reg [87,88] zcr5)))))) (.seq (.reg [104,105,106,107,108] zcr6) (.seq (.reg [] zcr7) (.block 6 (.loop (.seq (.seq (.reg [109,110,111,112] zcr8) (.cond (.t 113) .skip (.exit 6))) (.seq (.block 7 (.seq (.reg [116,117,118,119,120] zcr9) (.regd [121,122,123,124,125,126,127,128,129,130,131,132,133] zcs0))) (.reg [114,115] zcs1))))))))))))))) (.reg [25,26] zeE4)))))) (.seq (.reg [134,135,136,137,138] zcs2) (.seq (.seq (.reg [] zcs3) (.block 8 (.loop (.seq (.seq (.reg [139,140,141,142] zcs4) (.cond (.t 143) .skip (.exit 8))) (.seq (.block 9 (.regd [146,147,148,149,150,151,152,153,154,155,156,157,158,159,160,161,162,163,164,165,166,167] zcs5)) (.reg [144,145] zcs6)))))) (.seq (.reg [168] zcs7) .ret)))))))
theorem zfq6:chkF C.P 11 zeE5 169 [.t 2,.t 3] 1=true:=by kernel_rfl
attribute [go_sem] zeD5 zeD6 zeD7 zeD8 zeD9 zeE0 zeE1 zeE2 zeE3 zcq6 zcq7 zcq8 zcq9 zcr0 zcr1 zcr2 zcr3 zcr4 zcr5 zcr6 zcr7 zcr8 zcr9 zcs0 zcs1 zeE4 zcs2 zcs3 zcs4 zcs5 zcs6 zcs7
def zeE6:=[mo 4 .mv [oFa]]
def zeE7:=[oV 5 0,mo 6 .cvS [.t 5],oV 7 1,mo 8 .cvS [.t 7],oP 9 .eql [.t 6,.t 8],oV 4 9]
def zeE8:PC:=(.seq (.reg [] zeE6) (.seq (.reg [5,6,7,8,9] zeE7) .ret))
theorem zfq7:chkF C.P 12 zeE8 10 [.t 4] 2=true:=by kernel_rfl
attribute [go_sem] zeE6 zeE7
end Ab
end Go.Proofs.YtebopmkhhppfaaaGreatDoor
