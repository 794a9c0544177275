/-
  Functions of the program,as code of the small machine.
-/
import Derived.Test.YtfjeceicgfdmjaaGreatDoorDec
import Derived.Test.YtfjeceicgfdmjaaGreatDoorProg
import Derived.KernelRfl
namespace Go.Proofs.YtfjeceicgfdmjaaGreatDoor
namespace Ab
def zbd8:Arr (Arr Bool 5) 5:=⟨[⟨[true,true,true,true,false],rfl⟩,⟨[true,true,false,false,false],rfl⟩,⟨[true,false,true,false,false],rfl⟩,⟨[true,false,false,false,false],rfl⟩,⟨[false,false,false,false,false],rfl⟩],rfl⟩
noncomputable def C:Cx:=⟨Tryz.prog,[(0,Arr.enc (Arr.enc eB) zbd8)]⟩
@[go_sem] theorem C_G:C.G=[(0,Arr.enc (Arr.enc eB) zbd8)]:=rfl
theorem ze6:C.P.follows .mixedOrders=true:=by kernel_rfl
def r0_0:=[mo 2 .mv [oFa]]
def r0_1:=[oV 3 0]
def r0_2:=[oP 5 .eql [.t 3,.c (A.str ⟨#[97,108,108]⟩)],oV 4 5]
def r0_3:=[oP 6 .eql [.t 3,.c (A.str ⟨#[97,110,121]⟩)],oV 4 6]
def r0_4:=[oP 7 .eql [.t 3,.c (A.str ⟨#[111,102]⟩)],oV 4 7]
def r0_5:=[oP 8 .eql [.t 3,.c (A.str ⟨#[112,114,105,111]⟩)],oV 4 8]
def r0_6:=[oP 9 .eql [.t 3,.c (A.str ⟨#[108,105,109,105,116]⟩)],oV 4 9]
def r0_7:=[mo 2 .mv [oTr]]
def r0_8:=[mo 2 .mv [oFa]]
def pc_0:PC:=(.seq (.reg [] r0_0) (.seq (.seq (.reg [] r0_1) (.block 0 (.seq (.seq (.reg [5] r0_2) (.cond (.t 4) .skip (.seq (.reg [6] r0_3) (.cond (.t 4) .skip (.seq (.reg [7] r0_4) (.cond (.t 4) .skip (.seq (.reg [8] r0_5) (.cond (.t 4) .skip (.reg [9] r0_6))))))))) (.cond (.t 4) (.seq (.reg [] r0_7) .ret) .skip)))) (.seq (.reg [] r0_8) .ret)))
theorem ck_0:chkF C.P 156 pc_0 10 [.t 2] 1=true:=by kernel_rfl
attribute [go_sem] r0_0 r0_1 r0_2 r0_3 r0_4 r0_5 r0_6 r0_7 r0_8
def r1_0:=[mo 2 .mv [oFa]]
def r1_1:=[oV 7 0,mo 8 .lenS [.t 7],oP 9 .lss [.t 8,oK 1],oV 10 9,oG 11 10 false .mv [.t 0],oG 12 10 false .lenS [.t 11],oG 13 10 false (.bin .gtr) [.t 12,oK 12],mo 14 .pick [.t 10,oTr,.t 13],oV 15 14,oG 16 15 false .mv [.t 0],oG 17 15 false (.call 156) [.t 16],mo 18 .pick [.t 15,oTr,.t 17]]
def r1_2:=[mo 2 .mv [oFa]]
def r1_3:=[oV 19 0,mo 20 .lenS [.t 19],oI 21 0]
def r1_4:=[oP 22 .lss [.t 21,.t 20]]
def r1_5:=[oV 23 21,oV 3 23]
def r1_6:=[oV 24 0,oV 25 3,mo 26 .idxS [.t 24,.t 25],oV 4 26]
def r1_7:=[oV 27 4,oP 28 .geq [.t 27,.c (A.int .u8 97)],oV 29 28,oG 30 29 true .mv [.t 4],oG 31 29 true (.bin .leq) [.t 30,.c (A.int .u8 122)],mo 32 .pick [.t 29,.t 31,oFa],oV 5 32]
def r1_8:=[oV 33 4,oP 34 .geq [.t 33,.c (A.int .u8 48)],oV 35 34,oG 36 35 true .mv [.t 4],oG 37 35 true (.bin .leq) [.t 36,.c (A.int .u8 57)],mo 38 .pick [.t 35,.t 37,oFa],oV 39 38,oG 40 39 false .mv [.t 4],oG 41 39 false (.bin .eql) [.t 40,.c (A.int .u8 95)],mo 42 .pick [.t 39,oTr,.t 41],oV 43 42,oG 44 43 false .mv [.t 4],
 oG 45 43 false (.bin .eql) [.t 44,.c (A.int .u8 45)],mo 46 .pick [.t 43,oTr,.t 45],oV 6 46]
def r1_9:=[oV 47 5,mo 48 .not [.t 47],oV 49 48,oG 50 49 true .mv [.t 3],oG 51 49 true (.bin .eql) [.t 50,oK 0],oG 52 49 true .mv [.t 51],oG 53 52 false .mv [.t 6],oG 54 52 false .not [.t 53],oG 55 49 true .pick [.t 52,oTr,.t 54],mo 56 .pick [.t 49,.t 55,oFa]]
def zbU3:=[mo 2 .mv [oFa]]
def zbU4:=[oP 57 .add [.t 21,oK 1],oV 21 57]
def zbU5:=[mo 2 .mv [oTr]]
def pc_1:PC:=(.seq (.reg [] r1_0) (.seq (.seq (.reg [7,8,9,10,11,12,13,14,15,16,17] r1_1) (.cond (.t 18) (.seq (.reg [] r1_2) .ret) .skip)) (.seq (.seq (.reg [19] r1_3) (.block 0 (.loop (.seq (.reg [] r1_4) (.seq (.cond (.t 22) .skip (.exit 0)) (.seq (.block 1 (.seq (.reg [23] r1_5) (.seq (.reg [24,25,26] r1_6) (.seq (.reg [27,28,29,30,31,32] r1_7) (.seq (.reg [33,34,35,36,37,38,39,40,41,42,43,44,45,46] r1_8) (.seq (.reg [47,48,49,50,51,52,53,54,55] r1_9) (.cond (.t 56) (.seq (.reg [] zbU3) .ret) .skip))))))) (.reg [57] zbU4))))))) (.seq (.reg [] zbU5) .ret))))
theorem ck_1:chkF C.P 125 pc_1 58 [.t 2] 1=true:=by kernel_rfl
attribute [go_sem] r1_0 r1_1 r1_2 r1_3 r1_4 r1_5 r1_6 r1_7 r1_8 r1_9 zbU3 zbU4 zbU5
def r2_0:=[oB 1 4 0,mo 2 .mv [oFa]]
def r2_1:=[oA 3 1 1,oM 4 1 3]
def r2_2:=[oP 6 .eql [.t 4,oK 1],oV 5 6]
def r2_3:=[oA 7 2 1,oM 8 1 7,oP 9 .eql [.t 8,oK 1],oV 2 9]
def r2_4:=[oP 11 .eql [.t 4,oK 2],oV 10 11]
def r2_5:=[oA 12 2 1,oM 13 1 12,oP 14 .geq [.t 13,oK 1],oV 15 14,oG 16 15 true (.faddr 2) [.t 1],oG 17 15 true (.load 1 false) [.t 16],oG 18 15 true (.bin .leq) [.t 17,oK 8],mo 19 .pick [.t 15,.t 18,oFa],oV 2 19]
def r2_6:=[mo 2 .mv [oFa]]
def pc_2:PC:=(.seq (.reg [] r2_0) (.seq (.seq (.reg [3] r2_1) (.block 0 (.seq (.reg [6] r2_2) (.cond (.t 5) (.seq (.reg [7,8,9] r2_3) .ret) (.seq (.reg [11] r2_4) (.cond (.t 10) (.seq (.reg [12,13,14,15,16,17,18,19] r2_5) .ret) .skip)))))) (.seq (.reg [] r2_6) .ret)))
theorem ck_2:chkF C.P 126 pc_2 20 [.t 2] 1=true:=by kernel_rfl
attribute [go_sem] r2_0 r2_1 r2_2 r2_3 r2_4 r2_5 r2_6
def r3_0:=[oB 1 4 0,mo 2 .mv [oFa]]
def r3_1:=[oA 3 0 1,oM 4 1 3,oC 5 125 [.t 4],oV 6 5,oG 7 6 true (.load 4 true) [.t 1],oG 8 6 true (.call 126) [.t 7],mo 9 .pick [.t 6,.t 8,oFa],oV 10 9,oG 11 10 true (.faddr 3) [.t 1],oG 12 10 true (.load 1 false) [.t 11],oG 13 10 true (.bin .geq) [.t 12,oK 0],mo 14 .pick [.t 10,.t 13,oFa],oV 15 14,
 oG 16 15 true (.faddr 3) [.t 1],oG 17 15 true (.load 1 false) [.t 16],oG 18 15 true (.bin .lss) [.t 17,oK 4],mo 19 .pick [.t 15,.t 18,oFa],oV 2 19]
def pc_3:PC:=(.seq (.reg [] r3_0) (.seq (.reg [3,4,5,6,7,8,9,10,11,12,13,14,15,16,17,18,19] r3_1) .ret))
theorem ck_3:chkF C.P 82 pc_3 20 [.t 2] 1=true:=by kernel_rfl
attribute [go_sem] r3_0 r3_1
def r4_0:=[mo 2 .mv [oFa]]
def r4_1:=[oV 5 0,mo 6 .len [.t 5],oP 7 .gtr [.t 6,oK 8]]
def r4_2:=[mo 2 .mv [oFa]]
def r4_3:=[oV 8 0,mo 9 .len [.t 8],oI 10 0]
def r4_4:=[oP 11 .lss [.t 10,.t 9]]
def r4_5:=[oV 12 10,mo 13 (.iaS 4 (Resource.enc Resource.zero)) [.t 8,.t 10],oL 14 4 13,mo 4 (.alloc 4 (Resource.enc Resource.zero)) [],oV 3 12,oS 4 4 14]
def r4_6:=[oL 15 4 4,oC 16 82 [.t 15],mo 17 .not [.t 16],oV 18 17,oG 19 18 false .mv [.t 3],oG 20 18 false (.bin .gtr) [.t 19,oK 0],oG 21 18 false .mv [.t 20],oG 22 21 true .mv [.t 0],oG 23 21 true .mv [.t 3],oG 24 21 true (.bin .sub) [.t 23,oK 1],oG 25 21 true (.iaS 4 (Resource.enc Resource.zero)) [.t 22,.t 24],
 oG 26 21 true (.faddr 0) [.t 25],oG 27 21 true (.load 1 false) [.t 26],oG 28 21 true (.faddr 0) [.t 4],oG 29 21 true (.load 1 false) [.t 28],oG 30 21 true (.bin .geq) [.t 27,.t 29],oG 31 18 false .pick [.t 21,.t 30,oFa],mo 32 .pick [.t 18,oTr,.t 31]]
def r4_7:=[mo 2 .mv [oFa]]
def r4_8:=[oP 33 .add [.t 10,oK 1],oV 10 33]
def r4_9:=[mo 2 .mv [oTr]]
def pc_4:PC:=(.seq (.reg [] r4_0) (.seq (.seq (.reg [5,6] r4_1) (.cond (.t 7) (.seq (.reg [] r4_2) .ret) .skip)) (.seq (.seq (.reg [] r4_3) (.block 0 (.loop (.seq (.reg [] r4_4) (.seq (.cond (.t 11) .skip (.exit 0)) (.seq (.block 1 (.seq (.reg [12,13,14] r4_5) (.seq (.regd [15,16,17,18,19,20,21,22,23,24,25,26,27,28,29,30,31] r4_6) (.cond (.t 32) (.seq (.reg [] r4_7) .ret) .skip)))) (.reg [33] r4_8))))))) (.seq (.reg [] r4_9) .ret))))
theorem ck_4:chkF C.P 48 pc_4 34 [.t 2] 1=true:=by kernel_rfl
attribute [go_sem] r4_0 r4_1 r4_2 r4_3 r4_4 r4_5 r4_6 r4_7 r4_8 r4_9
def r5_0:=[oB 1 4 0,mo 2 (.alloc 8 (Queue.enc Queue.zero)) [],oI 3 0]
def r5_1:=[oL 4 4 1,oC 5 82 [.t 4],mo 6 .not [.t 5]]
def r5_2:=[mo 7 (.build (Queue.enc Queue.zero) []) [],oS 8 2 7,oI 3 1]
def r5_3:=[oL 8 4 1,mo 9 (.build (Queue.enc Queue.zero) [(0,4)]) [.t 8],oS 8 2 9,oI 3 0]
def pc_5:PC:=(.seq (.reg [] r5_0) (.seq (.seq (.reg [4,5] r5_1) (.cond (.t 6) (.seq (.reg [7] r5_2) .ret) .skip)) (.seq (.reg [8,9] r5_3) .ret)))
theorem ck_5:chkF C.P 49 pc_5 10 [.c 2 8 true,.t 3] 1=true:=by kernel_rfl
attribute [go_sem] r5_0 r5_1 r5_2 r5_3
def r6_0:=[mo 2 .mv [oNi],oI 3 0]
def r6_1:=[oV 9 0,oC 10 48 [.t 9],mo 11 .not [.t 10]]
def r6_2:=[mo 2 .mv [oNi],oI 3 1]
def r6_3:=[mo 4 (.nilown 8 (Queue.enc Queue.zero)) [.c (A.full [])]]
def r6_4:=[oV 12 0,mo 13 .len [.t 12],oI 14 0]
def r6_5:=[oP 15 .lss [.t 14,.t 13]]
def r6_6:=[mo 16 (.iaS 4 (Resource.enc Resource.zero)) [.t 12,.t 14],oL 17 4 16,mo 6 (.alloc 4 (Resource.enc Resource.zero)) [],oS 4 6 17]
def r6_7:=[oL 19 4 6,oC 20 49 [.t 19],oV 18 20,oE 21 0 18,oE 22 1 18,mo 7 (.alloc 8 (Queue.enc Queue.zero)) [],oS 8 7 21,oV 8 22]
def r6_8:=[oV 23 8,oP 24 .neq [.t 23,oK 0]]
def r6_9:=[oV 25 8,mo 2 .mv [oNi],oV 3 25]
def zbU6:=[oV 26 4,oL 27 8 7,mo 28 (.bslice 8 (Queue.enc Queue.zero)) [.t 27],mo 29 (.append 8 120 (Queue.enc Queue.zero)) [.t 26,.t 28],oV 4 29]
def zbU7:=[oP 30 .add [.t 14,oK 1],oV 14 30]
def zbU8:=[oV 31 4,oV 2 31,oI 3 0]
def pc_6:PC:=(.seq (.reg [] r6_0) (.seq (.seq (.reg [9,10] r6_1) (.cond (.t 11) (.seq (.reg [] r6_2) .ret) .skip)) (.seq (.reg [] r6_3) (.seq (.seq (.reg [] r6_4) (.block 0 (.loop (.seq (.reg [] r6_5) (.seq (.cond (.t 15) .skip (.exit 0)) (.seq (.block 1 (.seq (.reg [16,17] r6_6) (.seq (.reg [18,19,20,21,22] r6_7) (.seq (.seq (.reg [23] r6_8) (.cond (.t 24) (.seq (.reg [25] r6_9) .ret) .skip)) (.reg [26,27,28,29] zbU6))))) (.reg [30] zbU7))))))) (.seq (.reg [31] zbU8) .ret)))))
theorem ck_6:chkF C.P 12 pc_6 32 [.t 2,.t 3] 1=true:=by kernel_rfl
attribute [go_sem] r6_0 r6_1 r6_2 r6_3 r6_4 r6_5 r6_6 r6_7 r6_8 r6_9 zbU6 zbU7 zbU8
def r7_0:=[mo 2 .mv [oFa]]
def r7_1:=[oV 3 0,oP 4 .geq [.t 3,.c (A.int .u8 97)],oV 5 4,oG 6 5 true .mv [.t 0],oG 7 5 true (.bin .leq) [.t 6,.c (A.int .u8 122)],mo 8 .pick [.t 5,.t 7,oFa],oV 2 8]
def pc_7:PC:=(.seq (.reg [] r7_0) (.seq (.reg [3,4,5,6,7,8] r7_1) .ret))
theorem ck_7:chkF C.P 157 pc_7 9 [.t 2] 1=true:=by kernel_rfl
attribute [go_sem] r7_0 r7_1
def r8_0:=[mo 2 .mv [oFa]]
def r8_1:=[oV 3 0,oP 4 .eql [.t 3,.c (A.str ⟨#[97,108,108]⟩)],oV 5 4,oG 6 5 false .mv [.t 0],
⟨some 7,some (5,false),.bin .eql,[.t 6,.c (A.str ⟨#[97,110,121]⟩)]⟩,mo 8 .pick [.t 5,oTr,.t 7],oV 9 8,oG 10 9 false .mv [.t 0],
⟨some 11,some (9,false),.bin .eql,[.t 10,.c (A.str ⟨#[111,102]⟩)]⟩,mo 12 .pick [.t 9,oTr,.t 11],oV 13 12,oG 14 13 false .mv [.t 0],
⟨some 15,some (13,false),.bin .eql,[.t 14,.c (A.str ⟨#[112,114,105,111]⟩)]⟩,mo 16 .pick [.t 13,oTr,.t 15],oV 17 16,oG 18 17 false .mv [.t 0],
⟨some 19,some (17,false),.bin .eql,[.t 18,.c (A.str ⟨#[108,105,109,105,116]⟩)]⟩,mo 20 .pick [.t 17,oTr,.t 19],oV 2 20]
def pc_8:PC:=(.seq (.reg [] r8_0) (.seq (.reg [3,4,5,6,7,8,9,10,11,12,13,14,15,16,17,18,19,20] r8_1) .ret))
theorem ck_8:chkF C.P 158 pc_8 21 [.t 2] 1=true:=by kernel_rfl
attribute [go_sem] r8_0 r8_1
def r9_0:=[mo 2 .mv [oFa]]
def r9_1:=[oV 3 0,oC 4 157 [.t 3],oV 5 4,oG 6 5 false .mv [.t 0],oG 7 5 false (.bin .geq) [.t 6,.c (A.int .u8 48)],oG 8 5 false .mv [.t 7],oG 9 8 true .mv [.t 0],oG 10 8 true (.bin .leq) [.t 9,.c (A.int .u8 57)],oG 11 5 false .pick [.t 8,.t 10,oFa],mo 12 .pick [.t 5,oTr,.t 11],oV 13 12,oG 14 13 false .mv [.t 0],
 oG 15 13 false (.bin .eql) [.t 14,.c (A.int .u8 95)],mo 16 .pick [.t 13,oTr,.t 15],oV 17 16,oG 18 17 false .mv [.t 0],oG 19 17 false (.bin .eql) [.t 18,.c (A.int .u8 45)],mo 20 .pick [.t 17,oTr,.t 19],oV 2 20]
def pc_9:PC:=(.seq (.reg [] r9_0) (.seq (.reg [3,4,5,6,7,8,9,10,11,12,13,14,15,16,17,18,19,20] r9_1) .ret))
theorem ck_9:chkF C.P 159 pc_9 21 [.t 2] 1=true:=by kernel_rfl
attribute [go_sem] r9_0 r9_1
def ra_0:=[mo 2 .mv [oFa]]
def ra_1:=[oV 4 0,mo 5 .lenS [.t 4],oP 6 .lss [.t 5,oK 1],oV 7 6,oG 8 7 false .mv [.t 0],oG 9 7 false .lenS [.t 8],oG 10 7 false (.bin .gtr) [.t 9,oK 12],mo 11 .pick [.t 7,oTr,.t 10],oV 12 11,oG 13 12 false .mv [.t 0],oG 14 12 false .idxS [.t 13,oK 0],oG 15 12 false (.call 157) [.t 14],oG 16 12 false .not [.t 15],
 mo 17 .pick [.t 12,oTr,.t 16],oV 18 17,oG 19 18 false .mv [.t 0],oG 20 18 false (.call 158) [.t 19],mo 21 .pick [.t 18,oTr,.t 20]]
def ra_2:=[mo 2 .mv [oFa]]
def ra_3:=[oI 3 0]
def ra_4:=[oV 22 3,oV 23 0,mo 24 .lenS [.t 23],oP 25 .lss [.t 22,.t 24]]
def ra_6:=[oV 28 0,oV 29 3,mo 30 .idxS [.t 28,.t 29],oC 31 159 [.t 30],mo 32 .not [.t 31]]
def ra_7:=[mo 2 .mv [oFa]]
def ra_5:=[oV 26 3,oP 27 .add [.t 26,oK 1],oV 3 27]
def ra_8:=[mo 2 .mv [oTr]]
def pc_a:PC:=(.seq (.reg [] ra_0) (.seq (.seq (.reg [4,5,6,7,8,9,10,11,12,13,14,15,16,17,18,19,20] ra_1) (.cond (.t 21) (.seq (.reg [] ra_2) .ret) .skip)) (.seq (.seq (.reg [] ra_3) (.block 0 (.loop (.seq (.seq (.reg [22,23,24] ra_4) (.cond (.t 25) .skip (.exit 0))) (.seq (.block 1 (.seq (.reg [28,29,30,31] ra_6) (.cond (.t 32) (.seq (.reg [] ra_7) .ret) .skip))) (.reg [26,27] ra_5)))))) (.seq (.reg [] ra_8) .ret))))
theorem ck_a:chkF C.P 127 pc_a 33 [.t 2] 1=true:=by kernel_rfl
attribute [go_sem] ra_0 ra_1 ra_2 ra_3 ra_4 ra_6 ra_7 ra_5 ra_8
def rb_0:=[oB 1 4 0,mo 2 .mv [oFa]]
def rb_1:=[oA 3 1 1,oM 4 1 3,oP 5 .eql [.t 4,oK 1],oV 6 5,oG 7 6 true (.faddr 2) [.t 1],oG 8 6 true (.load 1 false) [.t 7],oG 9 6 true (.bin .eql) [.t 8,oK 1],mo 10 .pick [.t 6,.t 9,oFa],oV 11 10,oG 12 11 false (.faddr 1) [.t 1],oG 13 11 false (.load 1 false) [.t 12],oG 14 11 false (.bin .eql) [.t 13,oK 2],
 oG 15 11 false .mv [.t 14],oG 16 15 true (.faddr 2) [.t 1],oG 17 15 true (.load 1 false) [.t 16],oG 18 15 true (.bin .geq) [.t 17,oK 1],oG 19 11 false .pick [.t 15,.t 18,oFa],oG 20 11 false .mv [.t 19],oG 21 20 true (.faddr 2) [.t 1],oG 22 20 true (.load 1 false) [.t 21],oG 23 20 true (.bin .leq) [.t 22,oK 8],
 oG 24 11 false .pick [.t 20,.t 23,oFa],mo 25 .pick [.t 11,oTr,.t 24],oV 2 25]
def pc_b:PC:=(.seq (.reg [] rb_0) (.seq (.reg [3,4,5,6,7,8,9,10,11,12,13,14,15,16,17,18,19,20,21,22,23,24,25] rb_1) .ret))
theorem ck_b:chkF C.P 128 pc_b 26 [.t 2] 1=true:=by kernel_rfl
attribute [go_sem] rb_0 rb_1
def rc_0:=[oB 1 4 0,mo 2 .mv [oFa]]
def rc_1:=[oA 3 0 1,oM 4 1 3,oC 5 127 [.t 4],oV 6 5,oG 7 6 true (.load 4 true) [.t 1],oG 8 6 true (.call 128) [.t 7],mo 9 .pick [.t 6,.t 8,oFa],oV 10 9,oG 11 10 true (.faddr 3) [.t 1],oG 12 10 true (.load 1 false) [.t 11],oG 13 10 true (.bin .geq) [.t 12,oK 0],mo 14 .pick [.t 10,.t 13,oFa],oV 15 14,
 oG 16 15 true (.faddr 3) [.t 1],oG 17 15 true (.load 1 false) [.t 16],oG 18 15 true (.bin .lss) [.t 17,oK 4],mo 19 .pick [.t 15,.t 18,oFa],oV 2 19]
def pc_c:PC:=(.seq (.reg [] rc_0) (.seq (.reg [3,4,5,6,7,8,9,10,11,12,13,14,15,16,17,18,19] rc_1) .ret))
theorem ck_c:chkF C.P 83 pc_c 20 [.t 2] 1=true:=by kernel_rfl
attribute [go_sem] rc_0 rc_1
def rd_0:=[mo 2 .mv [oFa]]
def rd_1:=[oV 4 0,mo 5 .len [.t 4],oP 6 .gtr [.t 5,oK 8]]
def rd_2:=[mo 2 .mv [oFa]]
def rd_3:=[oI 3 0]
def rd_4:=[oV 7 3,oV 8 0,mo 9 .len [.t 8],oP 10 .lss [.t 7,.t 9]]
def rd_6:=[oV 13 0,oV 14 3,mo 15 (.iaS 4 (Resource.enc Resource.zero)) [.t 13,.t 14],oL 16 4 15,oC 17 83 [.t 16],mo 18 .not [.t 17],oV 19 18,oG 20 19 false .mv [.t 3],oG 21 19 false (.bin .gtr) [.t 20,oK 0],oG 22 19 false .mv [.t 21],oG 23 22 true .mv [.t 0],oG 24 22 true .mv [.t 3],oG 25 22 true (.bin .sub) [.t 24,oK 1],
 oG 26 22 true (.iaS 4 (Resource.enc Resource.zero)) [.t 23,.t 25],oG 27 22 true (.faddr 0) [.t 26],oG 28 22 true (.load 1 false) [.t 27],oG 29 22 true .mv [.t 0],oG 30 22 true .mv [.t 3],oG 31 22 true (.iaS 4 (Resource.enc Resource.zero)) [.t 29,.t 30],oG 32 22 true (.faddr 0) [.t 31],oG 33 22 true (.load 1 false) [.t 32],
 oG 34 22 true (.bin .geq) [.t 28,.t 33],oG 35 19 false .pick [.t 22,.t 34,oFa],mo 36 .pick [.t 19,oTr,.t 35]]
def rd_7:=[mo 2 .mv [oFa]]
def rd_5:=[oV 11 3,oP 12 .add [.t 11,oK 1],oV 3 12]
def rd_8:=[mo 2 .mv [oTr]]
attribute [go_sem] rd_0 rd_1 rd_2 rd_3 rd_4 rd_6 rd_7 rd_5 rd_8
def re_0:=[mo 2 .mv [oNi],oI 3 0]
def re_1:=[oV 6 0,oC 7 50 [.t 6],mo 8 .not [.t 7]]
def re_2:=[mo 2 .mv [oNi],oI 3 1]
def re_3:=[mo 4 (.nilown 8 (Queue.enc Queue.zero)) [.c (A.full [])]]
def re_4:=[oI 5 0]
def re_5:=[oV 9 5,oV 10 0,mo 11 .len [.t 10],oP 12 .lss [.t 9,.t 11]]
def re_7:=[oV 15 4,oV 16 0,oV 17 5,mo 18 (.iaS 4 (Resource.enc Resource.zero)) [.t 16,.t 17],oL 19 4 18,mo 20 (.build (Queue.enc Queue.zero) [(0,4)]) [.t 19],mo 21 (.bslice 8 (Queue.enc Queue.zero)) [.t 20],mo 22 (.append 8 120 (Queue.enc Queue.zero)) [.t 15,.t 21],oV 4 22]
def re_6:=[oV 13 5,oP 14 .add [.t 13,oK 1],oV 5 14]
def re_8:=[oV 23 4,oV 2 23,oI 3 0]
attribute [go_sem] re_0 re_1 re_2 re_3 re_4 re_5 re_7 re_6 re_8
def rf_0:=[oI 4 0]
def rf_1:=[oV 5 1,oP 6 .lss [.t 5,oK 1]]
def rf_2:=[oI 4 0]
def rf_3:=[oV 7 0,oV 8 1,oP 9 .rem [.t 7,.t 8],oV 0 9]
def rf_4:=[oV 10 0,oP 11 .lss [.t 10,oK 0]]
def rf_5:=[oV 12 0,oV 13 1,oP 14 .add [.t 12,.t 13],oV 0 14]
def rf_6:=[oV 15 0,oV 4 15]
def pc_f:PC:=(.seq (.reg [] rf_0) (.seq (.seq (.reg [5] rf_1) (.cond (.t 6) (.seq (.reg [] rf_2) .ret) .skip)) (.seq (.reg [7,8,9] rf_3) (.seq (.seq (.reg [10] rf_4) (.cond (.t 11) (.reg [12,13,14] rf_5) .skip)) (.seq (.reg [15] rf_6) .ret)))))
theorem ck_f:chkF C.P 22 pc_f 16 [.t 4] 2=true:=by kernel_rfl
attribute [go_sem] rf_0 rf_1 rf_2 rf_3 rf_4 rf_5 rf_6
def rg_0:=[mo 2 (.alloc 3 (Proc.enc Proc.zero)) []]
def rg_1:=[oV 3 0,oC 4 22 [.t 3,oK 8],oV 0 4]
def rg_2:=[oV 5 0,oP 6 .rem [.t 5,oK 4],oV 7 0,oP 8 .quo [.t 7,oK 4],oP 9 .add [oK 1,.t 8],mo 10 (.build (Proc.enc Proc.zero) [(0,1),(1,1),(2,1)]) [.t 6,oK 1,.t 9],oS 3 2 10]
def pc_g:PC:=(.seq (.reg [] rg_0) (.seq (.reg [3,4] rg_1) (.seq (.reg [5,6,7,8,9,10] rg_2) .ret)))
theorem ck_g:chkF C.P 23 pc_g 11 [.c 2 3 true] 1=true:=by kernel_rfl
attribute [go_sem] rg_0 rg_1 rg_2
def rh_0:=[mo 6 .mv [oFa]]
def rh_1:=[oV 7 0,oV 8 1,oP 9 .geq [.t 7,.t 8],oV 10 9,oG 11 10 true .mv [.t 0],oG 12 10 true .mv [.t 2],oG 13 10 true (.bin .leq) [.t 11,.t 12],mo 14 .pick [.t 10,.t 13,oFa],oV 6 14]
def pc_h:PC:=(.seq (.reg [] rh_0) (.seq (.reg [7,8,9,10,11,12,13,14] rh_1) .ret))
theorem ck_h:chkF C.P 131 pc_h 15 [.t 6] 3=true:=by kernel_rfl
attribute [go_sem] rh_0 rh_1
def ri_0:=[oB 1 3 0,mo 2 .mv [oFa]]
def ri_1:=[oA 3 0 1,oM 4 1 3,oC 5 131 [.t 4,oK 0,oK 3],oV 6 5,oG 7 6 true (.faddr 1) [.t 1],oG 8 6 true (.load 1 false) [.t 7],oG 9 6 true (.call 131) [.t 8,oK 1,oK 99],mo 10 .pick [.t 6,.t 9,oFa],oV 11 10,oG 12 11 true (.faddr 2) [.t 1],oG 13 11 true (.load 1 false) [.t 12],oG 14 11 true (.call 131) [.t 13,oK 1,oK 999],
 mo 15 .pick [.t 11,.t 14,oFa],oV 2 15]
def pc_i:PC:=(.seq (.reg [] ri_0) (.seq (.reg [3,4,5,6,7,8,9,10,11,12,13,14,15] ri_1) .ret))
theorem ck_i:chkF C.P 86 pc_i 16 [.t 2] 1=true:=by kernel_rfl
attribute [go_sem] ri_0 ri_1
def rj_0:=[mo 2 .mv [oFa]]
def rj_1:=[oV 3 0,oP 4 .geq [.t 3,oK 1],oV 5 4,oG 6 5 true .mv [.t 0],oG 7 5 true (.bin .leq) [.t 6,oK 5],mo 8 .pick [.t 5,.t 7,oFa],oV 2 8]
def pc_j:PC:=(.seq (.reg [] rj_0) (.seq (.reg [3,4,5,6,7,8] rj_1) .ret))
theorem ck_j:chkF C.P 132 pc_j 9 [.t 2] 1=true:=by kernel_rfl
attribute [go_sem] rj_0 rj_1
def rk_0:=[oB 2 4 0,oB 3 2 1,mo 4 .mv [oFa]]
def rk_1:=[oL 5 4 2,oC 6 126 [.t 5],mo 7 .not [.t 6]]
def rk_2:=[mo 4 .mv [oFa]]
def rk_3:=[oA 8 1 2,oM 9 1 8,oP 10 .eql [.t 9,oK 1]]
def rk_4:=[oA 11 0 3,oM 12 1 11,oC 13 132 [.t 12],oV 14 13,oG 15 14 true (.faddr 1) [.t 3],oG 16 14 true (.load 1 false) [.t 15],oG 17 14 true (.bin .eql) [.t 16,oK 0],mo 18 .pick [.t 14,.t 17,oFa],oV 4 18]
def rk_5:=[oA 19 0 3,oM 20 1 19,oP 21 .eql [.t 20,oK 0],oV 22 21,oG 23 22 true (.faddr 1) [.t 3],oG 24 22 true (.load 1 false) [.t 23],oG 25 22 true (.bin .geq) [.t 24,oK 1],mo 26 .pick [.t 22,.t 25,oFa],oV 27 26,oG 28 27 true (.faddr 1) [.t 3],oG 29 27 true (.load 1 false) [.t 28],oG 30 27 true (.faddr 2) [.t 2],
 oG 31 27 true (.load 1 false) [.t 30],oG 32 27 true (.bin .leq) [.t 29,.t 31],mo 33 .pick [.t 27,.t 32,oFa],oV 4 33]
def pc_k:PC:=(.seq (.reg [] rk_0) (.seq (.seq (.reg [5,6] rk_1) (.cond (.t 7) (.seq (.reg [] rk_2) .ret) .skip)) (.seq (.seq (.reg [8,9] rk_3) (.cond (.t 10) (.seq (.reg [11,12,13,14,15,16,17,18] rk_4) .ret) .skip)) (.seq (.reg [19,20,21,22,23,24,25,26,27,28,29,30,31,32,33] rk_5) .ret))))
theorem ck_k:chkF C.P 87 pc_k 34 [.t 4] 2=true:=by kernel_rfl
attribute [go_sem] rk_0 rk_1 rk_2 rk_3 rk_4 rk_5
def rl_0:=[oB 2 3 0,oB 3 3 1,oI 4 0]
def rl_1:=[oL 7 3 2,oI 8 0]
def rl_2:=[oP 9 .lss [.t 8,oK 3]]
def rl_3:=[oV 10 8,mo 11 (.idxA 3 1 false) [.t 7,.t 8],oV 5 10,oV 6 11]
def rl_4:=[oV 12 6,oV 13 5,mo 14 (.iaA 3 1) [.t 3,.t 13],oM 15 1 14,oP 16 .lss [.t 12,.t 15]]
def rl_5:=[oI 4 (-1)]
def rl_6:=[oV 17 6,oV 18 5,mo 19 (.iaA 3 1) [.t 3,.t 18],oM 20 1 19,oP 21 .gtr [.t 17,.t 20]]
def rl_7:=[oI 4 1]
def rl_8:=[oP 22 .add [.t 8,oK 1],oV 8 22]
def rl_9:=[oI 4 0]
def pc_l:PC:=(.seq (.reg [] rl_0) (.seq (.seq (.reg [] rl_1) (.block 0 (.loop (.seq (.reg [] rl_2) (.seq (.cond (.t 9) .skip (.exit 0)) (.seq (.block 1 (.seq (.reg [10,11] rl_3) (.seq (.seq (.reg [12,13,14,15] rl_4) (.cond (.t 16) (.seq (.reg [] rl_5) .ret) .skip)) (.seq (.reg [17,18,19,20] rl_6) (.cond (.t 21) (.seq (.reg [] rl_7) .ret) .skip))))) (.reg [22] rl_8))))))) (.seq (.reg [] rl_9) .ret)))
theorem ck_l:chkF C.P 155 pc_l 23 [.t 4] 2=true:=by kernel_rfl
attribute [go_sem] rl_0 rl_1 rl_2 rl_3 rl_4 rl_5 rl_6 rl_7 rl_8 rl_9
def rm_0:=[oB 2 3 0,oB 3 3 1,oI 4 0]
def rm_1:=[oA 5 0 2,oM 6 1 5,oA 7 1 2,oM 8 1 7,oA 9 2 2,oM 10 1 9,mo 11 (.build (Arr.enc (eI .i64) (Arr.rep 3 0)) [(0,1),(1,1),(2,1)]) [.t 6,.t 8,.t 10],oA 12 0 3,oM 13 1 12,oA 14 1 3,oM 15 1 14,oA 16 2 3,oM 17 1 16,mo 18 (.build (Arr.enc (eI .i64) (Arr.rep 3 0)) [(0,1),(1,1),(2,1)]) [.t 13,.t 15,.t 17],
 oC 19 155 [.t 11,.t 18],oV 4 19]
def pc_m:PC:=(.seq (.reg [] rm_0) (.seq (.reg [5,6,7,8,9,10,11,12,13,14,15,16,17,18,19] rm_1) .ret))
theorem ck_m:chkF C.P 119 pc_m 20 [.t 4] 2=true:=by kernel_rfl
attribute [go_sem] rm_0 rm_1
def rn_0:=[oB 1 2 0,mo 2 .mv [oFa]]
def rn_1:=[oL 3 2 1,mo 4 (.build (Amount.enc Amount.zero) []) [],mo 5 (.eqa false [.i .i64,.i .i64]) [.t 3,.t 4],oV 2 5]
def pc_n:PC:=(.seq (.reg [] rn_0) (.seq (.reg [3,4,5] rn_1) .ret))
theorem ck_n:chkF C.P 90 pc_n 6 [.t 2] 1=true:=by kernel_rfl
attribute [go_sem] rn_0 rn_1
def ro_0:=[oB 2 4 0,oB 3 2 1,mo 4 .mv [oFa]]
def ro_1:=[oL 5 4 2,oC 6 126 [.t 5],oV 7 6,oG 8 7 true (.load 2 true) [.t 3],oG 9 7 true (.call 90) [.t 8],oG 10 7 true .mv [.t 9],oG 11 10 false (.load 4 true) [.t 2],oG 12 10 false (.load 2 true) [.t 3],oG 13 10 false (.call 87) [.t 11,.t 12],oG 14 7 true .pick [.t 10,oTr,.t 13],mo 15 .pick [.t 7,.t 14,oFa],
 oV 4 15]
def pc_o:PC:=(.seq (.reg [] ro_0) (.seq (.reg [5,6,7,8,9,10,11,12,13,14,15] ro_1) .ret))
theorem ck_o:chkF C.P 133 pc_o 16 [.t 4] 2=true:=by kernel_rfl
attribute [go_sem] ro_0 ro_1
def rp_0:=[mo 4 .mv [oFa]]
def rp_1:=[oV 5 0,oC 6 132 [.t 5],oV 7 6,oG 8 7 true .mv [.t 1],oG 9 7 true (.call 132) [.t 8],mo 10 .pick [.t 7,.t 9,oFa],oV 11 10,oG 12 11 true .mv [.t 0],oG 13 11 true (.bin .sub) [.t 12,oK 1],oG 14 11 true .mv [.t 1],oG 15 11 true (.bin .sub) [.t 14,oK 1],oG 16 11 true (.iaA 5 5) [.g 0,.t 13],oG 17 11 true (.iaA 5 1) [.t 16,.t 15],
 oG 18 11 true (.load 1 false) [.t 17],mo 19 .pick [.t 11,.t 18,oFa],oV 4 19]
def pc_p:PC:=(.seq (.reg [] rp_0) (.seq (.reg [5,6,7,8,9,10,11,12,13,14,15,16,17,18,19] rp_1) .ret))
theorem ck_p:chkF C.P 193 pc_p 20 [.t 4] 2=true:=by kernel_rfl
attribute [go_sem] rp_0 rp_1
def rq_0:=[oB 2 4 0,mo 4 .mv [oFa]]
def rq_1:=[oL 12 4 2,oC 13 126 [.t 12],mo 14 .not [.t 13]]
def rq_2:=[mo 4 .mv [oFa]]
def rq_3:=[mo 5 .mv [oTr]]
def rq_4:=[mo 6 (.alloc 6 (Arr.enc eB (Arr.rep 6 false))) []]
def rq_5:=[oI 7 0]
def rq_6:=[oV 15 1,mo 16 .len [.t 15],oI 17 0]
def rq_7:=[oP 18 .lss [.t 17,.t 16]]
def rq_8:=[mo 19 (.iaS 2 (Amount.enc Amount.zero)) [.t 15,.t 17],oL 20 2 19,mo 9 (.alloc 2 (Amount.enc Amount.zero)) [],oS 2 9 20]
def rq_9:=[oL 21 4 2,oL 22 2 9,oC 23 133 [.t 21,.t 22],mo 24 .not [.t 23],oV 25 24,oG 26 25 false .mv [.t 7],oG 27 25 false (.faddr 1) [.t 9],oG 28 25 false (.load 1 false) [.t 27],oG 29 25 false (.bin .add) [.t 26,.t 28],oG 30 25 false (.faddr 2) [.t 2],oG 31 25 false (.load 1 false) [.t 30],oG 32 25 false (.bin .gtr) [.t 29,.t 31],
 mo 33 .pick [.t 25,oTr,.t 32]]
def zbU9:=[mo 5 .mv [oFa]]
def zbV0:=[oV 34 7,oA 35 1 9,oM 36 1 35,oP 37 .add [.t 34,.t 36],oV 7 37]
def zbV1:=[oA 38 0 9,oM 39 1 38,oP 40 .eql [.t 39,oK 0]]
def zbV2:=[oL 41 6 6,oI 42 0]
def zbV3:=[oP 43 .lss [.t 42,oK 6]]
def zbV4:=[oV 44 42,mo 45 (.idxA 6 1 false) [.t 41,.t 42],oV 10 44,oV 11 45]
def zbV5:=[oV 46 11,oV 47 46,oG 48 47 true .mv [.t 10],oG 49 47 true (.faddr 0) [.t 9],oG 50 47 true (.load 1 false) [.t 49],oG 51 47 true (.call 193) [.t 48,.t 50],oG 52 47 true .not [.t 51],mo 53 .pick [.t 47,.t 52,oFa]]
def zbV6:=[mo 5 .mv [oFa]]
def zbV7:=[oP 54 .add [.t 42,oK 1],oV 42 54]
def zbV8:=[oA 55 0 9,oM 56 1 55,mo 57 (.iaA 6 1) [.t 6,.t 56],mz (.store 1) [.t 57,oTr]]
def zbV9:=[oP 58 .add [.t 17,oK 1],oV 17 58]
def zbW0:=[oV 59 5,oV 4 59]
def pc_q:PC:=(.seq (.reg [] rq_0) (.scope (.seq (.seq (.reg [12,13] rq_1) (.cond (.t 14) (.seq (.reg [] rq_2) .ret) .skip)) (.seq (.reg [] rq_3) (.seq (.reg [] rq_4) (.seq (.reg [] rq_5) (.seq .label (.seq (.seq (.reg [] rq_6) (.block 0 (.loop (.seq (.reg [] rq_7) (.seq (.cond (.t 18) .skip (.exit 0)) (.seq (.block 1 (.seq (.reg [19,20] rq_8) (.seq (.seq (.reg [21,22,23,24,25,26,27,28,29,30,31,32] rq_9) (.cond (.t 33) (.seq (.reg [] zbU9) (.exit 0)) .skip)) (.seq (.reg [34,35,36,37] zbV0) (.seq (.seq (.reg [38,39] zbV1) (.cond (.t 40) (.exit 1) .skip)) (.seq (.seq (.reg [] zbV2) (.block 2 (.loop (.seq (.reg [] zbV3) (.seq (.cond (.t 43) .skip (.exit 2)) (.seq (.block 3 (.seq (.reg [44,45] zbV4) (.seq (.reg [46,47,48,49,50,51,52] zbV5) (.cond (.t 53) (.seq (.reg [] zbV6) (.exit 0)) .skip)))) (.reg [54] zbV7))))))) (.reg [55,56,57] zbV8))))))) (.reg [58] zbV9))))))) (.seq (.reg [59] zbW0) .ret)))))))))
theorem ck_q:chkF C.P 190 pc_q 60 [.t 4] 2=true:=by kernel_rfl
attribute [go_sem] rq_0 rq_1 rq_2 rq_3 rq_4 rq_5 rq_6 rq_7 rq_8 rq_9 zbU9 zbV0 zbV1 zbV2 zbV3 zbV4 zbV5 zbV6 zbV7 zbV8 zbV9 zbW0
def rr_0:=[oB 2 4 0,mo 4 .mv [oFa]]
def rr_1:=[oL 8 4 2,oC 9 126 [.t 8],mo 10 .not [.t 9],oV 11 10,oG 12 11 false .mv [.t 1],oG 13 11 false .len [.t 12],oG 14 11 false (.bin .gtr) [.t 13,oK 8],mo 15 .pick [.t 11,oTr,.t 14]]
def rr_2:=[mo 4 .mv [oFa]]
def rr_3:=[mo 5 (.nilown 2 (Amount.enc Amount.zero)) [.c (A.full [])]]
def rr_4:=[oV 16 1,mo 17 .len [.t 16],oI 18 0]
def rr_5:=[oP 19 .lss [.t 18,.t 17]]
def rr_6:=[oV 20 18,mo 21 (.iaS 5 (Hold.enc Hold.zero)) [.t 16,.t 18],oL 22 5 21,mo 7 (.alloc 5 (Hold.enc Hold.zero)) [],oV 6 20,oS 5 7 22]
def rr_7:=[oA 23 0 7,oL 24 3 23,oC 25 86 [.t 24],mo 26 .not [.t 25],oV 27 26,oG 28 27 false (.load 4 true) [.t 2],oG 29 27 false (.faddr 3) [.t 7],oG 30 27 false (.load 2 true) [.t 29],oG 31 27 false (.call 87) [.t 28,.t 30],oG 32 27 false .not [.t 31],mo 33 .pick [.t 27,oTr,.t 32]]
def rr_8:=[mo 4 .mv [oFa]]
def rr_9:=[oV 34 6,oP 35 .gtr [.t 34,oK 0],oV 36 35,oG 37 36 true .mv [.t 1],oG 38 36 true .mv [.t 6],oG 39 36 true (.bin .sub) [.t 38,oK 1],oG 40 36 true (.iaS 5 (Hold.enc Hold.zero)) [.t 37,.t 39],oG 41 36 true (.faddr 0) [.t 40],oG 42 36 true (.load 3 true) [.t 41],oG 43 36 true (.faddr 0) [.t 7],
 oG 44 36 true (.load 3 true) [.t 43],oG 45 36 true (.call 119) [.t 42,.t 44],oG 46 36 true (.bin .geq) [.t 45,oK 0],mo 47 .pick [.t 36,.t 46,oFa]]
def zbW1:=[mo 4 .mv [oFa]]
def zbW2:=[oV 48 5,oA 49 3 7,oL 50 2 49,mo 51 (.bslice 2 (Amount.enc Amount.zero)) [.t 50],mo 52 (.append 2 16 (Amount.enc Amount.zero)) [.t 48,.t 51],oV 5 52]
def zbW3:=[oP 53 .add [.t 18,oK 1],oV 18 53]
def zbW4:=[oL 54 4 2,oV 55 5,oC 56 190 [.t 54,.t 55],oV 4 56]
def pc_r:PC:=(.seq (.reg [] rr_0) (.seq (.seq (.reg [8,9,10,11,12,13,14] rr_1) (.cond (.t 15) (.seq (.reg [] rr_2) .ret) .skip)) (.seq (.reg [] rr_3) (.seq (.seq (.reg [] rr_4) (.block 0 (.loop (.seq (.reg [] rr_5) (.seq (.cond (.t 19) .skip (.exit 0)) (.seq (.block 1 (.seq (.reg [20,21,22] rr_6) (.seq (.seq (.reg [23,24,25,26,27,28,29,30,31,32] rr_7) (.cond (.t 33) (.seq (.reg [] rr_8) .ret) .skip)) (.seq (.seq (.regd [34,35,36,37,38,39,40,41,42,43,44,45,46] rr_9) (.cond (.t 47) (.seq (.reg [] zbW1) .ret) .skip)) (.reg [48,49,50,51,52] zbW2))))) (.reg [53] zbW3))))))) (.seq (.reg [54,55,56] zbW4) .ret)))))
theorem ck_r:chkF C.P 179 pc_r 57 [.t 4] 2=true:=by kernel_rfl
attribute [go_sem] rr_0 rr_1 rr_2 rr_3 rr_4 rr_5 rr_6 rr_7 rr_8 rr_9 zbW1 zbW2 zbW3 zbW4
def rs_0:=[oB 3 3 1,mo 4 (.alloc 2 (Amount.enc Amount.zero)) []]
def rs_1:=[oV 7 0,mo 8 .len [.t 7],oI 9 0]
def rs_2:=[oP 10 .lss [.t 9,.t 8]]
def rs_3:=[mo 11 (.iaS 5 (Hold.enc Hold.zero)) [.t 7,.t 9],oL 12 5 11,mo 6 (.alloc 5 (Hold.enc Hold.zero)) [],oS 5 6 12]
def rs_4:=[oA 13 0 6,oL 14 3 13,oL 15 3 3,mo 16 (.eqa false [.i .i64,.i .i64,.i .i64]) [.t 14,.t 15]]
def rs_5:=[oA 17 3 6,oL 18 2 17,oS 2 4 18]
def rs_6:=[oP 19 .add [.t 9,oK 1],oV 9 19]
def rs_7:=[mo 20 (.build (Amount.enc Amount.zero) []) [],oS 2 4 20]
def pc_s:PC:=(.seq (.reg [] rs_0) (.seq (.seq (.reg [] rs_1) (.block 0 (.loop (.seq (.reg [] rs_2) (.seq (.cond (.t 10) .skip (.exit 0)) (.seq (.block 1 (.seq (.reg [11,12] rs_3) (.seq (.reg [13,14,15] rs_4) (.cond (.t 16) (.seq (.reg [17,18] rs_5) .ret) .skip)))) (.reg [19] rs_6))))))) (.seq (.reg [20] rs_7) .ret)))
theorem ck_s:chkF C.P 110 pc_s 21 [.c 4 2 true] 2=true:=by kernel_rfl
attribute [go_sem] rs_0 rs_1 rs_2 rs_3 rs_4 rs_5 rs_6 rs_7
def rt_0:=[oB 2 8 0,oB 3 3 1,mo 4 (.alloc 2 (Amount.enc Amount.zero)) []]
def rt_1:=[oA 5 4 2,oM 6 1 5,oL 7 3 3,oC 8 110 [.t 6,.t 7],oS 2 4 8]
def pc_t:PC:=(.seq (.reg [] rt_0) (.seq (.reg [5,6,7,8] rt_1) .ret))
theorem ck_t:chkF C.P 66 pc_t 9 [.c 4 2 true] 2=true:=by kernel_rfl
attribute [go_sem] rt_0 rt_1
def ru_0:=[oB 3 3 1,oI 4 0]
def ru_1:=[oV 7 0,mo 8 .len [.t 7],oI 9 0]
def ru_2:=[oP 10 .lss [.t 9,.t 8]]
def ru_3:=[oV 11 9,mo 12 (.iaS 7 (Wait.enc Wait.zero)) [.t 7,.t 9],oL 13 7 12,mo 6 (.alloc 7 (Wait.enc Wait.zero)) [],oV 5 11,oS 7 6 13]
def ru_4:=[oA 14 0 6,oL 15 3 14,oL 16 3 3,mo 17 (.eqa false [.i .i64,.i .i64,.i .i64]) [.t 15,.t 16]]
def ru_5:=[oV 18 5,oV 4 18]
def ru_6:=[oP 19 .add [.t 9,oK 1],oV 9 19]
def ru_7:=[oI 4 (-1)]
def pc_u:PC:=(.seq (.reg [] ru_0) (.seq (.seq (.reg [] ru_1) (.block 0 (.loop (.seq (.reg [] ru_2) (.seq (.cond (.t 10) .skip (.exit 0)) (.seq (.block 1 (.seq (.reg [11,12,13] ru_3) (.seq (.reg [14,15,16] ru_4) (.cond (.t 17) (.seq (.reg [18] ru_5) .ret) .skip)))) (.reg [19] ru_6))))))) (.seq (.reg [] ru_7) .ret)))
theorem ck_u:chkF C.P 123 pc_u 20 [.t 4] 2=true:=by kernel_rfl
attribute [go_sem] ru_0 ru_1 ru_2 ru_3 ru_4 ru_5 ru_6 ru_7
def rv_0:=[mo 2 (.alloc 6 (Arr.enc eB (Arr.rep 6 false))) []]
def rv_1:=[mo 3 (.alloc 6 (Arr.enc eB (Arr.rep 6 false))) []]
def rv_2:=[oV 4 0]
def rv_3:=[oP 6 .eql [.t 4,oK 5],oV 5 6]
def rv_4:=[oP 8 .eql [.t 4,oK 4],oV 7 8]
def rv_5:=[oP 10 .eql [.t 4,oK 2],oV 9 10]
def rv_6:=[oP 12 .eql [.t 4,oK 1],oV 11 12]
def rv_7:=[oP 14 .eql [.t 4,oK 3],oV 13 14]
def rv_8:=[mo 15 (.iaA 6 1) [.t 3,oK 5],mz (.store 1) [.t 15,oTr]]
def rv_9:=[mo 16 (.iaA 6 1) [.t 3,oK 4],mz (.store 1) [.t 16,oTr]]
def zbW5:=[mo 17 (.iaA 6 1) [.t 3,oK 3],mz (.store 1) [.t 17,oTr]]
def zbW6:=[mo 18 (.iaA 6 1) [.t 3,oK 2],mz (.store 1) [.t 18,oTr]]
def zbW7:=[mo 19 (.iaA 6 1) [.t 3,oK 1],mz (.store 1) [.t 19,oTr]]
def zbW8:=[mo 20 (.iaA 6 1) [.t 3,oK 3],mz (.store 1) [.t 20,oTr]]
def zbW9:=[mo 21 (.iaA 6 1) [.t 3,oK 1],mz (.store 1) [.t 21,oTr]]
def zbX0:=[oL 22 6 3,oS 6 2 22]
def pc_v:PC:=(.seq (.reg [] rv_0) (.seq (.reg [] rv_1) (.seq (.seq (.reg [] rv_2) (.block 0 (.seq (.block 5 (.seq (.block 4 (.seq (.block 3 (.seq (.block 2 (.seq (.block 1 (.seq (.seq (.seq (.reg [6] rv_3) (.cond (.t 5) (.exit 1) .skip)) (.seq (.seq (.reg [8] rv_4) (.cond (.t 7) (.exit 2) .skip)) (.seq (.seq (.reg [10] rv_5) (.cond (.t 9) (.exit 3) .skip)) (.seq (.seq (.reg [12] rv_6) (.cond (.t 11) (.exit 4) .skip)) (.seq (.reg [14] rv_7) (.cond (.t 13) (.exit 5) .skip)))))) (.exit 0))) (.reg [15] rv_8))) (.seq (.reg [16] rv_9) (.reg [17] zbW5)))) (.reg [18] zbW6))) (.seq (.reg [19] zbW7) (.exit 0)))) (.seq (.seq (.reg [20] zbW8) (.reg [21] zbW9)) (.exit 0))))) (.seq (.reg [22] zbX0) .ret))))
theorem ck_v:chkF C.P 163 pc_v 23 [.c 2 6 true] 1=true:=by kernel_rfl
attribute [go_sem] rv_0 rv_1 rv_2 rv_3 rv_4 rv_5 rv_6 rv_7 rv_8 rv_9 zbW5 zbW6 zbW7 zbW8 zbW9 zbX0
def rw_0:=[mo 4 .mv [oFa]]
def rw_1:=[oV 5 0,oC 6 132 [.t 5],oV 7 6,oG 8 7 true .mv [.t 1],oG 9 7 true (.call 132) [.t 8],mo 10 .pick [.t 7,.t 9,oFa],oV 11 10,oG 12 11 true .mv [.t 0],oG 13 11 true (.call 163) [.t 12],oG 14 11 true .mv [.t 1],oG 15 11 true (.idxA 6 1 false) [.t 13,.t 14],mo 16 .pick [.t 11,.t 15,oFa],oV 4 16]
def pc_w:PC:=(.seq (.reg [] rw_0) (.seq (.reg [5,6,7,8,9,10,11,12,13,14,15,16] rw_1) .ret))
theorem ck_w:chkF C.P 134 pc_w 17 [.t 4] 2=true:=by kernel_rfl
attribute [go_sem] rw_0 rw_1
def rx_0:=[oB 3 4 0,oB 4 2 1,oB 5 2 2,mo 6 .mv [oFa]]
def rx_1:=[oL 7 4 3,oL 8 2 4,oC 9 133 [.t 7,.t 8],mo 10 .not [.t 9],oV 11 10,oG 12 11 false (.load 4 true) [.t 3],oG 13 11 false (.load 2 true) [.t 5],oG 14 11 false (.call 133) [.t 12,.t 13],oG 15 11 false .not [.t 14],mo 16 .pick [.t 11,oTr,.t 15]]
def rx_2:=[mo 6 .mv [oFa]]
def rx_3:=[oL 17 2 4,oC 18 90 [.t 17],oV 19 18,oG 20 19 false (.load 2 true) [.t 5],oG 21 19 false (.call 90) [.t 20],mo 22 .pick [.t 19,oTr,.t 21]]
def rx_4:=[oL 23 2 5,oC 24 90 [.t 23],oV 6 24]
def rx_5:=[oA 25 1 3,oM 26 1 25,oP 27 .eql [.t 26,oK 1]]
def rx_6:=[oA 28 0 4,oM 29 1 28,oA 30 0 5,oM 31 1 30,oC 32 134 [.t 29,.t 31],oV 6 32]
def rx_7:=[oA 33 1 4,oM 34 1 33,oA 35 1 5,oM 36 1 35,oP 37 .geq [.t 34,.t 36],oV 6 37]
def pc_x:PC:=(.seq (.reg [] rx_0) (.seq (.seq (.reg [7,8,9,10,11,12,13,14,15] rx_1) (.cond (.t 16) (.seq (.reg [] rx_2) .ret) .skip)) (.seq (.seq (.reg [17,18,19,20,21] rx_3) (.cond (.t 22) (.seq (.reg [23,24] rx_4) .ret) .skip)) (.seq (.seq (.reg [25,26] rx_5) (.cond (.t 27) (.seq (.reg [28,29,30,31,32] rx_6) .ret) .skip)) (.seq (.reg [33,34,35,36,37] rx_7) .ret)))))
theorem ck_x:chkF C.P 89 pc_x 38 [.t 6] 3=true:=by kernel_rfl
attribute [go_sem] rx_0 rx_1 rx_2 rx_3 rx_4 rx_5 rx_6 rx_7
def ry_0:=[oB 1 8 0,mo 2 .mv [oFa]]
def ry_1:=[oA 6 5 1,oM 7 1 6,mo 8 .len [.t 7],oP 9 .gtr [.t 8,oK 8]]
def ry_2:=[mo 2 .mv [oFa]]
def ry_3:=[oA 10 5 1,oM 11 1 10,mo 12 .len [.t 11],oI 13 0]
def ry_4:=[oP 14 .lss [.t 13,.t 12]]
def ry_5:=[oV 15 13,mo 16 (.iaS 7 (Wait.enc Wait.zero)) [.t 11,.t 13],oL 17 7 16,mo 4 (.alloc 7 (Wait.enc Wait.zero)) [],oV 3 15,oS 7 4 17]
def ry_6:=[oL 18 8 1,oA 19 0 4,oL 20 3 19,oC 21 66 [.t 18,.t 20],mo 5 (.alloc 2 (Amount.enc Amount.zero)) [],oS 2 5 21]
def ry_7:=[oA 22 5 1,oM 23 1 22,oA 24 0 4,oL 25 3 24,oC 26 123 [.t 23,.t 25],oV 27 3,oP 28 .neq [.t 26,.t 27],oV 29 28,oG 30 29 false (.load 2 true) [.t 5],oG 31 29 false (.call 90) [.t 30],mo 32 .pick [.t 29,oTr,.t 31]]
def ry_8:=[mo 2 .mv [oFa]]
def ry_9:=[oA 33 0 1,oL 34 4 33,oA 35 3 4,oL 36 2 35,oC 37 87 [.t 34,.t 36],mo 38 .not [.t 37],oV 39 38,oG 40 39 false (.faddr 0) [.t 1],oG 41 39 false (.load 4 true) [.t 40],oG 42 39 false (.faddr 3) [.t 4],oG 43 39 false (.load 2 true) [.t 42],oG 44 39 false (.load 2 true) [.t 5],oG 45 39 false (.call 89) [.t 41,.t 43,.t 44],
 oG 46 39 false .not [.t 45],mo 47 .pick [.t 39,oTr,.t 46],oV 48 47,oG 49 48 false (.faddr 3) [.t 4],oG 50 48 false (.load 2 true) [.t 49],oG 51 48 false (.load 2 true) [.t 5],oG 52 48 false (.eqa false [.i .i64,.i .i64]) [.t 50,.t 51],mo 53 .pick [.t 48,oTr,.t 52]]
def zbX1:=[mo 2 .mv [oFa]]
def zbX2:=[oA 54 5 4,oM 55 1 54,oP 56 .neq [.t 55,oK 0],oV 57 56,oG 58 57 false (.faddr 6) [.t 4],oG 59 57 false (.load 1 false) [.t 58],oG 60 57 false (.bin .neq) [.t 59,oK 0],mo 61 .pick [.t 57,oTr,.t 60]]
def zbX3:=[mo 2 .mv [oFa]]
def zbX4:=[oP 62 .add [.t 13,oK 1],oV 13 62]
def zbX5:=[mo 2 .mv [oTr]]
def pc_y:PC:=(.seq (.reg [] ry_0) (.seq (.seq (.reg [6,7,8] ry_1) (.cond (.t 9) (.seq (.reg [] ry_2) .ret) .skip)) (.seq (.seq (.reg [10] ry_3) (.block 0 (.loop (.seq (.reg [] ry_4) (.seq (.cond (.t 14) .skip (.exit 0)) (.seq (.block 1 (.seq (.reg [15,16,17] ry_5) (.seq (.reg [18,19,20,21] ry_6) (.seq (.seq (.reg [22,23,24,25,26,27,28,29,30,31] ry_7) (.cond (.t 32) (.seq (.reg [] ry_8) .ret) .skip)) (.seq (.seq (.reg [33,34,35,36,37,38,39,40,41,42,43,44,45,46,47,48,49,50,51,52] ry_9) (.cond (.t 53) (.seq (.reg [] zbX1) .ret) .skip)) (.seq (.reg [54,55,56,57,58,59,60] zbX2) (.cond (.t 61) (.seq (.reg [] zbX3) .ret) .skip))))))) (.reg [62] zbX4))))))) (.seq (.reg [] zbX5) .ret))))
theorem ck_y:chkF C.P 180 pc_y 63 [.t 2] 1=true:=by kernel_rfl
attribute [go_sem] ry_0 ry_1 ry_2 ry_3 ry_4 ry_5 ry_6 ry_7 ry_8 ry_9 zbX1 zbX2 zbX3 zbX4 zbX5
def rz_0:=[oB 1 7 0,mo 2 .mv [oFa]]
def rz_1:=[mo 5 (.build (Resource.enc Resource.zero) [(1,1),(2,1)]) [oK 1,oK 1],mo 3 (.alloc 4 (Resource.enc Resource.zero)) [],oS 4 3 5]
def rz_2:=[mo 6 (.build (Resource.enc Resource.zero) [(1,1),(2,1)]) [oK 2,oK 8],mo 4 (.alloc 4 (Resource.enc Resource.zero)) [],oS 4 4 6]
def rz_3:=[oA 7 0 1,oL 8 3 7,oC 9 86 [.t 8],oV 10 9,oG 11 10 true (.load 4 true) [.t 3],oG 12 10 true (.faddr 3) [.t 1],oG 13 10 true (.load 2 true) [.t 12],oG 14 10 true (.call 87) [.t 11,.t 13],oG 15 10 true .mv [.t 14],oG 16 15 false (.load 4 true) [.t 4],oG 17 15 false (.faddr 3) [.t 1],oG 18 15 false (.load 2 true) [.t 17],
 oG 19 15 false (.call 87) [.t 16,.t 18],oG 20 10 true .pick [.t 15,oTr,.t 19],mo 21 .pick [.t 10,.t 20,oFa],oV 22 21,oG 23 22 true (.faddr 5) [.t 1],oG 24 22 true (.load 1 false) [.t 23],oG 25 22 true (.bin .geq) [.t 24,oK 0],mo 26 .pick [.t 22,.t 25,oFa],oV 27 26,oG 28 27 true (.faddr 5) [.t 1],oG 29 27 true (.load 1 false) [.t 28],
 oG 30 27 true (.bin .leq) [.t 29,oK 7],mo 31 .pick [.t 27,.t 30,oFa],oV 32 31,oG 33 32 true (.faddr 6) [.t 1],oG 34 32 true (.load 1 false) [.t 33],oG 35 32 true (.bin .geq) [.t 34,oK 0],mo 36 .pick [.t 32,.t 35,oFa],oV 37 36,oG 38 37 true (.faddr 6) [.t 1],oG 39 37 true (.load 1 false) [.t 38],oG 40 37 true (.bin .leq) [.t 39,oK 3],
 mo 41 .pick [.t 37,.t 40,oFa],oV 2 41]
def pc_z:PC:=(.seq (.reg [] rz_0) (.seq (.reg [5] rz_1) (.seq (.reg [6] rz_2) (.seq (.reg [7,8,9,10,11,12,13,14,15,16,17,18,19,20,21,22,23,24,25,26,27,28,29,30,31,32,33,34,35,36,37,38,39,40,41] rz_3) .ret))))
theorem ck_z:chkF C.P 139 pc_z 42 [.t 2] 1=true:=by kernel_rfl
attribute [go_sem] rz_0 rz_1 rz_2 rz_3
def zbX6:=[mo 2 .mv [oFa]]
def zbX7:=[oV 5 0,mo 6 .len [.t 5],oP 7 .gtr [.t 6,oK 8]]
def zbX8:=[mo 2 .mv [oFa]]
def zbX9:=[oV 8 0,mo 9 .len [.t 8],oI 10 0]
def zbY0:=[oP 11 .lss [.t 10,.t 9]]
def zbY1:=[oV 12 10,mo 13 (.iaS 7 (Wait.enc Wait.zero)) [.t 8,.t 10],oL 14 7 13,mo 4 (.alloc 7 (Wait.enc Wait.zero)) [],oV 3 12,oS 7 4 14]
def zbY2:=[oL 15 7 4,oC 16 139 [.t 15],mo 17 .not [.t 16],oV 18 17,oG 19 18 false .mv [.t 0],oG 20 18 false (.faddr 0) [.t 4],oG 21 18 false (.load 3 true) [.t 20],oG 22 18 false (.call 123) [.t 19,.t 21],oG 23 18 false .mv [.t 3],oG 24 18 false (.bin .neq) [.t 22,.t 23],mo 25 .pick [.t 18,oTr,.t 24]]
def zbY3:=[mo 2 .mv [oFa]]
def zbY4:=[oP 26 .add [.t 10,oK 1],oV 10 26]
def zbY5:=[mo 2 .mv [oTr]]
def zbY6:PC:=(.seq (.reg [] zbX6) (.seq (.seq (.reg [5,6] zbX7) (.cond (.t 7) (.seq (.reg [] zbX8) .ret) .skip)) (.seq (.seq (.reg [] zbX9) (.block 0 (.loop (.seq (.reg [] zbY0) (.seq (.cond (.t 11) .skip (.exit 0)) (.seq (.block 1 (.seq (.reg [12,13,14] zbY1) (.seq (.reg [15,16,17,18,19,20,21,22,23,24] zbY2) (.cond (.t 25) (.seq (.reg [] zbY3) .ret) .skip)))) (.reg [26] zbY4))))))) (.seq (.reg [] zbY5) .ret))))
theorem zdR0:chkF C.P 138 zbY6 27 [.t 2] 1=true:=by kernel_rfl
attribute [go_sem] zbX6 zbX7 zbX8 zbX9 zbY0 zbY1 zbY2 zbY3 zbY4 zbY5
def zbY7:=[oB 1 8 0,mo 2 .mv [oFa]]
def zbY8:=[oA 5 6 1,oM 6 1 5,oC 7 138 [.t 6],mo 8 .not [.t 7],oV 9 8,oG 10 9 false (.faddr 4) [.t 1],oG 11 9 false (.load 1 false) [.t 10],oG 12 9 false .len [.t 11],oG 13 9 false (.faddr 6) [.t 1],oG 14 9 false (.load 1 false) [.t 13],oG 15 9 false .len [.t 14],oG 16 9 false (.bin .add) [.t 12,.t 15],
 oG 17 9 false (.bin .gtr) [.t 16,oK 8],mo 18 .pick [.t 9,oTr,.t 17]]
def zbY9:=[mo 2 .mv [oFa]]
def zbZ0:=[oA 19 6 1,oM 20 1 19,mo 21 .len [.t 20],oI 22 0]
def zbZ1:=[oP 23 .lss [.t 22,.t 21]]
def zbZ2:=[mo 24 (.iaS 7 (Wait.enc Wait.zero)) [.t 20,.t 22],oL 25 7 24,mo 4 (.alloc 7 (Wait.enc Wait.zero)) [],oS 7 4 25]
def zbZ3:=[oA 26 0 1,oL 27 4 26,oA 28 3 4,oL 29 2 28,oC 30 87 [.t 27,.t 29],mo 31 .not [.t 30],oV 32 31,oG 33 32 false (.load 8 true) [.t 1],oG 34 32 false (.faddr 0) [.t 4],oG 35 32 false (.load 3 true) [.t 34],oG 36 32 false (.call 66) [.t 33,.t 35],oG 37 32 false (.call 90) [.t 36],oG 38 32 false .not [.t 37],
 mo 39 .pick [.t 32,oTr,.t 38]]
def zbZ4:=[mo 2 .mv [oFa]]
def zbZ5:=[oP 40 .add [.t 22,oK 1],oV 22 40]
def zbZ6:=[mo 2 .mv [oTr]]
def zbZ7:PC:=(.seq (.reg [] zbY7) (.seq (.seq (.reg [5,6,7,8,9,10,11,12,13,14,15,16,17] zbY8) (.cond (.t 18) (.seq (.reg [] zbY9) .ret) .skip)) (.seq (.seq (.reg [19] zbZ0) (.block 0 (.loop (.seq (.reg [] zbZ1) (.seq (.cond (.t 23) .skip (.exit 0)) (.seq (.block 1 (.seq (.reg [24,25] zbZ2) (.seq (.reg [26,27,28,29,30,31,32,33,34,35,36,37,38] zbZ3) (.cond (.t 39) (.seq (.reg [] zbZ4) .ret) .skip)))) (.reg [40] zbZ5))))))) (.seq (.reg [] zbZ6) .ret))))
theorem zdR1:chkF C.P 181 zbZ7 41 [.t 2] 1=true:=by kernel_rfl
attribute [go_sem] zbY7 zbY8 zbY9 zbZ0 zbZ1 zbZ2 zbZ3 zbZ4 zbZ5 zbZ6
def zbZ8:=[oB 1 8 0,mo 2 .mv [oFa]]
def zbZ9:=[oA 3 0 1,oL 4 4 3,oC 5 82 [.t 4],oV 6 5,oG 7 6 true (.faddr 0) [.t 1],oG 8 6 true (.load 4 true) [.t 7],oG 9 6 true (.faddr 4) [.t 1],oG 10 6 true (.load 1 false) [.t 9],oG 11 6 true (.call 179) [.t 8,.t 10],mo 12 .pick [.t 6,.t 11,oFa],oV 13 12,oG 14 13 true (.load 8 true) [.t 1],oG 15 13 true (.call 180) [.t 14],
 mo 16 .pick [.t 13,.t 15,oFa],oV 17 16,oG 18 17 true (.load 8 true) [.t 1],oG 19 17 true (.call 181) [.t 18],mo 20 .pick [.t 17,.t 19,oFa],oV 21 20,oG 22 21 true (.faddr 7) [.t 1],oG 23 21 true (.load 1 false) [.t 22],oG 24 21 true (.bin .geq) [.t 23,oK 0],mo 25 .pick [.t 21,.t 24,oFa],oV 26 25,oG 27 26 true (.faddr 7) [.t 1],
 oG 28 26 true (.load 1 false) [.t 27],oG 29 26 true (.bin .leq) [.t 28,oK 1073741824],mo 30 .pick [.t 26,.t 29,oFa],oV 2 30]
def zca0:PC:=(.seq (.reg [] zbZ8) (.seq (.reg [3,4,5,6,7,8,9,10,11,12,13,14,15,16,17,18,19,20,21,22,23,24,25,26,27,28,29,30] zbZ9) .ret))
theorem zdR2:chkF C.P 160 zca0 31 [.t 2] 1=true:=by kernel_rfl
attribute [go_sem] zbZ8 zbZ9
def zca1:=[oB 1 8 0,mo 2 (.alloc 7 (Wait.enc Wait.zero)) [],mo 3 .mv [oFa]]
def zca2:=[oA 5 5 1,oM 6 1 5,mo 7 .len [.t 6],oP 8 .gtr [.t 7,oK 0],oV 4 8]
def zca3:=[oA 9 5 1,oM 10 1 9,mo 11 (.iaS 7 (Wait.enc Wait.zero)) [.t 10,oK 0],oL 12 7 11,oS 7 2 12,mo 3 .mv [oTr]]
def zca4:=[oA 14 6 1,oM 15 1 14,mo 16 .len [.t 15],oP 17 .gtr [.t 16,oK 0],oV 13 17]
def zca5:=[oA 18 6 1,oM 19 1 18,mo 20 (.iaS 7 (Wait.enc Wait.zero)) [.t 19,oK 0],oL 21 7 20,oS 7 2 21,mo 3 .mv [oTr]]
def zca6:=[mo 22 (.build (Wait.enc Wait.zero) []) [],oS 7 2 22,mo 3 .mv [oFa]]
def zca7:PC:=(.seq (.reg [] zca1) (.seq (.block 0 (.seq (.reg [5,6,7,8] zca2) (.cond (.t 4) (.seq (.reg [9,10,11,12] zca3) .ret) (.seq (.reg [14,15,16,17] zca4) (.cond (.t 13) (.seq (.reg [18,19,20,21] zca5) .ret) .skip))))) (.seq (.reg [22] zca6) .ret)))
theorem zdR3:chkF C.P 161 zca7 23 [.c 2 7 true,.t 3] 1=true:=by kernel_rfl
attribute [go_sem] zca1 zca2 zca3 zca4 zca5 zca6
def zca8:=[oB 4 4 0,oB 6 3 2,oB 7 2 3,mo 8 .mv [oFa]]
def zca9:=[oL 9 4 4,oV 10 1,oC 11 179 [.t 9,.t 10],oV 12 11,oG 13 12 true (.load 3 true) [.t 6],oG 14 12 true (.call 86) [.t 13],mo 15 .pick [.t 12,.t 14,oFa],oV 16 15,oG 17 16 true (.load 4 true) [.t 4],oG 18 16 true (.load 2 true) [.t 7],oG 19 16 true (.call 87) [.t 17,.t 18],mo 20 .pick [.t 16,.t 19,oFa],
 oV 8 20]
def zcb0:PC:=(.seq (.reg [] zca8) (.seq (.reg [9,10,11,12,13,14,15,16,17,18,19,20] zca9) .ret))
theorem zdR4:chkF C.P 182 zcb0 21 [.t 8] 4=true:=by kernel_rfl
attribute [go_sem] zca8 zca9
def zcb1:=[oB 4 3 1,oB 5 2 2,mo 6 .mv [oNi]]
def zcb2:=[oV 11 0,mo 12 .len [.t 11],oP 13 .add [.t 12,oK 1],mo 14 (.mk 5 40 (Hold.enc Hold.zero)) [oK 0,.t 13],oV 7 14]
def zcb3:=[oI 8 (-1)]
def zcb4:=[oV 15 0,mo 16 .len [.t 15],oI 17 0]
def zcb5:=[oP 18 .lss [.t 17,.t 16]]
def zcb6:=[mo 19 (.iaS 5 (Hold.enc Hold.zero)) [.t 15,.t 17],oL 20 5 19,mo 10 (.alloc 5 (Hold.enc Hold.zero)) [],oS 5 10 20]
def zcb7:=[oA 21 0 10,oL 22 3 21,oL 23 3 4,mo 24 (.eqa false [.i .i64,.i .i64,.i .i64]) [.t 22,.t 23]]
def zcb8:=[oV 25 8,oP 26 .lss [.t 25,oK 0],oV 27 26,oG 28 27 true (.faddr 0) [.t 10],oG 29 27 true (.load 3 true) [.t 28],oG 30 27 true (.load 3 true) [.t 4],oG 31 27 true (.call 119) [.t 29,.t 30],oG 32 27 true (.bin .gtr) [.t 31,oK 0],mo 33 .pick [.t 27,.t 32,oFa]]
def zcb9:=[oV 34 7,mo 35 .len [.t 34],oV 8 35]
def zcc0:=[oV 36 7,oL 37 5 10,mo 38 (.bslice 5 (Hold.enc Hold.zero)) [.t 37],mo 39 (.append 5 40 (Hold.enc Hold.zero)) [.t 36,.t 38],oV 7 39]
def zbC7:=[oP 40 .add [.t 17,oK 1],oV 17 40]
def zbC8:=[oL 41 2 5,oC 42 90 [.t 41]]
def zbC9:=[oV 43 7,oV 6 43]
def zbD0:=[oV 44 8,oP 45 .lss [.t 44,oK 0]]
def zbD1:=[oV 46 7,mo 47 .len [.t 46],oV 8 47]
def zbD2:=[oV 48 7,mo 49 (.build (Hold.enc Hold.zero) []) [],mo 50 (.bslice 5 (Hold.enc Hold.zero)) [.t 49],mo 51 (.append 5 40 (Hold.enc Hold.zero)) [.t 48,.t 50],oV 7 51]
def zbD3:=[oV 52 7,oV 53 8,oP 54 .add [.t 53,oK 1],mo 55 (.slc 5 true false false) [.t 52,.t 54],oV 56 7,oV 57 8,mo 58 (.slc 5 true false false) [.t 56,.t 57],mo 59 (.copy 5) [.t 55,.t 58]]
def zbD4:=[oV 60 7,oV 61 8,oL 62 3 4,oL 63 2 5,mo 64 (.build (Hold.enc Hold.zero) [(0,3),(3,2)]) [.t 62,.t 63],mo 65 (.iaS 5 (Hold.enc Hold.zero)) [.t 60,.t 61],oS 5 65 64]
def zbD5:=[oV 66 7,oV 6 66]
def zcc1:PC:=(.seq (.reg [] zcb1) (.seq (.reg [11,12,13,14] zcb2) (.seq (.reg [] zcb3) (.seq (.seq (.reg [] zcb4) (.block 0 (.loop (.seq (.reg [] zcb5) (.seq (.cond (.t 18) .skip (.exit 0)) (.seq (.block 1 (.seq (.reg [19,20] zcb6) (.seq (.seq (.reg [21,22,23] zcb7) (.cond (.t 24) (.exit 1) .skip)) (.seq (.seq (.reg [25,26,27,28,29,30,31,32] zcb8) (.cond (.t 33) (.reg [34,35] zcb9) .skip)) (.reg [36,37,38,39] zcc0))))) (.reg [40] zbC7))))))) (.seq (.seq (.reg [41] zbC8) (.cond (.t 42) (.seq (.reg [43] zbC9) .ret) .skip)) (.seq (.seq (.reg [44] zbD0) (.cond (.t 45) (.reg [46,47] zbD1) .skip)) (.seq (.reg [48,49,50,51] zbD2) (.seq (.regm [52,53,54,55,56,57,58,59] [[],[],[1],[0,2,1],[],[],[4,5],[3,6,0,2,1,4,5]] zbD3) (.seq (.reg [60,61,62,63,64,65] zbD4) (.seq (.reg [66] zbD5) .ret))))))))))
theorem zdR5:chkF C.P 106 zcc1 67 [.t 6] 3=true:=by kernel_rfl
attribute [go_sem] zcb1 zcb2 zcb3 zcb4 zcb5 zcb6 zcb7 zcb8 zcb9 zcc0 zbC7 zbC8 zbC9 zbD0 zbD1 zbD2 zbD3 zbD4 zbD5
def zcc2:=[oB 4 4 0,oB 6 3 2,oB 7 2 3,mo 8 .mv [oFa]]
def zcc3:=[oL 9 4 4,oV 10 1,oL 11 3 6,oL 12 2 7,oC 13 182 [.t 9,.t 10,.t 11,.t 12],oV 14 13,oG 15 14 true (.load 4 true) [.t 4],oG 16 14 true .mv [.t 1],oG 17 14 true (.load 3 true) [.t 6],oG 18 14 true (.load 2 true) [.t 7],oG 19 14 true (.call 106) [.t 16,.t 17,.t 18],oG 20 14 true (.call 179) [.t 15,.t 19],
 mo 21 .pick [.t 14,.t 20,oFa],oV 8 21]
def zcc4:PC:=(.seq (.reg [] zcc2) (.seq (.regd [9,10,11,12,13,14,15,16,17,18,19,20,21] zcc3) .ret))
theorem zdR6:chkF C.P 162 zcc4 22 [.t 8] 4=true:=by kernel_rfl
attribute [go_sem] zcc2 zcc3
def zcc5:=[oB 1 8 0,mo 2 .mv [oFa]]
def zcc6:=[oL 5 8 1,oC 6 160 [.t 5],mo 7 .not [.t 6]]
def zcc7:=[mo 2 .mv [oFa]]
def zcc8:=[oL 9 8 1,oC 10 161 [.t 9],oV 8 10,oE 11 0 8,oE 12 1 8,mo 3 (.alloc 7 (Wait.enc Wait.zero)) [],oS 7 3 11,oV 4 12]
def zcc9:=[oV 13 4,mo 14 .not [.t 13],oV 15 14,oG 16 15 false (.faddr 0) [.t 1],oG 17 15 false (.load 4 true) [.t 16],oG 18 15 false (.faddr 4) [.t 1],oG 19 15 false (.load 1 false) [.t 18],oG 20 15 false (.faddr 0) [.t 3],oG 21 15 false (.load 3 true) [.t 20],oG 22 15 false (.faddr 3) [.t 3],oG 23 15 false (.load 2 true) [.t 22],
 oG 24 15 false (.call 162) [.t 17,.t 19,.t 21,.t 23],oG 25 15 false .not [.t 24],mo 26 .pick [.t 15,oTr,.t 25],oV 2 26]
def zcd0:PC:=(.seq (.reg [] zcc5) (.seq (.seq (.reg [5,6] zcc6) (.cond (.t 7) (.seq (.reg [] zcc7) .ret) .skip)) (.seq (.reg [8,9,10,11,12] zcc8) (.seq (.reg [13,14,15,16,17,18,19,20,21,22,23,24,25,26] zcc9) .ret))))
theorem zdR7:chkF C.P 129 zcd0 27 [.t 2] 1=true:=by kernel_rfl
attribute [go_sem] zcc5 zcc6 zcc7 zcc8 zcc9
def zcd1:=[oB 1 8 0,mo 2 .mv [oFa]]
def zcd2:=[oL 3 8 1,oC 4 129 [.t 3],oV 2 4]
def zcd3:PC:=(.seq (.reg [] zcd1) (.seq (.reg [3,4] zcd2) .ret))
theorem zdR8:chkF C.P 84 zcd3 5 [.t 2] 1=true:=by kernel_rfl
attribute [go_sem] zcd1 zcd2
def zcd4:=[mo 2 (.nilown 3 (Proc.enc Proc.zero)) [.c (A.full [])]]
def zcd5:=[mo 3 (.nilown 3 (Proc.enc Proc.zero)) [.c (A.full [])]]
def zcd6:=[oV 6 0,mo 7 .len [.t 6],oI 8 0]
def zcd7:=[oP 9 .lss [.t 8,.t 7]]
def zcd8:=[mo 10 (.iaS 5 (Hold.enc Hold.zero)) [.t 6,.t 8],oL 11 5 10,mo 5 (.alloc 5 (Hold.enc Hold.zero)) [],oS 5 5 11]
def zcd9:=[oV 12 3,oA 13 0 5,oL 14 3 13,mo 15 (.bslice 3 (Proc.enc Proc.zero)) [.t 14],mo 16 (.append 3 24 (Proc.enc Proc.zero)) [.t 12,.t 15],oV 3 16]
def zce0:=[oP 17 .add [.t 8,oK 1],oV 8 17]
def zce1:=[oV 18 3,oV 2 18]
def zce2:PC:=(.seq (.reg [] zcd4) (.seq (.reg [] zcd5) (.seq (.seq (.reg [] zcd6) (.block 0 (.loop (.seq (.reg [] zcd7) (.seq (.cond (.t 9) .skip (.exit 0)) (.seq (.block 1 (.seq (.reg [10,11] zcd8) (.reg [12,13,14,15,16] zcd9))) (.reg [17] zce0))))))) (.seq (.reg [18] zce1) .ret))))
theorem zdR9:chkF C.P 116 zce2 19 [.t 2] 1=true:=by kernel_rfl
attribute [go_sem] zcd4 zcd5 zcd6 zcd7 zcd8 zcd9 zce0 zce1
def zce3:=[mo 2 .mv [oNi]]
def zce4:=[oI 3 0]
def zce5:=[oV 9 0,mo 10 .len [.t 9],oI 11 0]
def zce6:=[oP 12 .lss [.t 11,.t 10]]
def zce7:=[mo 13 (.iaS 1 [A.sl ([].map Wait.enc)]) [.t 9,.t 11],oM 14 1 13,oV 5 14]
def zce8:=[oV 15 3,oV 16 5,mo 17 .len [.t 16],oP 18 .add [.t 15,.t 17],oV 3 18]
def zce9:=[oV 19 3,oP 20 .lss [.t 19,oK 0]]
def zcf0:=[oP 22 .add [.t 11,oK 1],oV 11 22]
def zcf1:=[oV 23 3,mo 24 (.callm 168) [.c (A.full []),.t 23],oV 6 24]
def zbD6:=[oV 25 0,mo 26 .len [.t 25],oI 27 0]
def zbD7:=[oP 28 .lss [.t 27,.t 26]]
def zbD8:=[mo 29 (.iaS 1 [A.sl ([].map Wait.enc)]) [.t 25,.t 27],oM 30 1 29,oV 8 30]
def zbD9:=[oV 31 6,oV 32 8,mo 33 (.append 7 56 (Wait.enc Wait.zero)) [.t 31,.t 32],oV 6 33]
def zbE0:=[oP 34 .add [.t 27,oK 1],oV 27 34]
def zbE1:=[oV 35 6,oV 2 35]
def zcf2:PC:=(.seq (.reg [] zce3) (.seq (.reg [] zce4) (.seq (.seq (.reg [] zce5) (.block 0 (.loop (.seq (.reg [] zce6) (.seq (.cond (.t 12) .skip (.exit 0)) (.seq (.block 1 (.seq (.reg [13,14] zce7) (.seq (.reg [15,16,17,18] zce8) (.seq (.reg [19] zce9) (.cond (.t 20) .dead .skip))))) (.reg [22] zcf0))))))) (.seq (.reg [23,24] zcf1) (.seq (.seq (.reg [] zbD6) (.block 2 (.loop (.seq (.reg [] zbD7) (.seq (.cond (.t 28) .skip (.exit 2)) (.seq (.block 3 (.seq (.reg [29,30] zbD8) (.reg [31,32,33] zbD9))) (.reg [34] zbE0))))))) (.seq (.reg [35] zbE1) .ret))))))
theorem zdS0:chkF C.P 152 zcf2 36 [.t 2] 1=true:=by kernel_rfl
attribute [go_sem] zce3 zce4 zce5 zce6 zce7 zce8 zce9 zcf0 zcf1 zbD6 zbD7 zbD8 zbD9 zbE0 zbE1
def zcf3:=[oB 1 8 0,mo 2 .mv [oNi]]
def zcf4:=[oA 3 5 1,oM 4 1 3,oA 5 6 1,oM 6 1 5,mo 7 (.bslice 1 [A.sl ([].map Wait.enc)]) [.t 4,.t 6],oC 8 152 [.t 7],oV 2 8]
def zcf5:PC:=(.seq (.reg [] zcf3) (.seq (.reg [3,4,5,6,7,8] zcf4) .ret))
theorem zdS1:chkF C.P 112 zcf5 9 [.t 2] 1=true:=by kernel_rfl
attribute [go_sem] zcf3 zcf4
def zcf6:=[oB 1 8 0,mo 2 .mv [oNi]]
def zcf7:=[mo 3 (.nilown 3 (Proc.enc Proc.zero)) [.c (A.full [])]]
def zcf8:=[oL 6 8 1,oC 7 112 [.t 6],mo 8 .len [.t 7],oI 9 0]
def zcf9:=[oP 10 .lss [.t 9,.t 8]]
def zcg0:=[mo 11 (.iaS 7 (Wait.enc Wait.zero)) [.t 7,.t 9],oL 12 7 11,mo 5 (.alloc 7 (Wait.enc Wait.zero)) [],oS 7 5 12]
def zcg1:=[oV 13 3,oA 14 0 5,oL 15 3 14,mo 16 (.bslice 3 (Proc.enc Proc.zero)) [.t 15],mo 17 (.append 3 24 (Proc.enc Proc.zero)) [.t 13,.t 16],oV 3 17]
def zcg2:=[oP 18 .add [.t 9,oK 1],oV 9 18]
def zcg3:=[oV 19 3,oV 2 19]
def zcg4:PC:=(.seq (.reg [] zcf6) (.seq (.reg [] zcf7) (.seq (.seq (.reg [6] zcf8) (.block 0 (.loop (.seq (.reg [] zcf9) (.seq (.cond (.t 10) .skip (.exit 0)) (.seq (.block 1 (.seq (.reg [11,12] zcg0) (.reg [13,14,15,16,17] zcg1))) (.reg [18] zcg2))))))) (.seq (.reg [19] zcg3) .ret))))
theorem zdS2:chkF C.P 117 zcg4 20 [.t 2] 1=true:=by kernel_rfl
attribute [go_sem] zcf6 zcf7 zcf8 zcf9 zcg0 zcg1 zcg2 zcg3
def zcg5:=[mo 2 .mv [oNi]]
def zcg6:=[oV 6 0,mo 7 .len [.t 6],oP 8 .lss [.t 7,oK 2]]
def zcg7:=[oV 9 0,oV 2 9]
def zcg8:=[oI 3 1]
def zcg9:=[oV 10 3,oV 11 0,mo 12 .len [.t 11],oP 13 .lss [.t 10,.t 12]]
def zch0:=[oV 16 0,oV 17 3,mo 18 (.iaS 3 (Proc.enc Proc.zero)) [.t 16,.t 17],oL 19 3 18,oV 20 0,oV 21 3,oP 22 .sub [.t 21,oK 1],mo 23 (.iaS 3 (Proc.enc Proc.zero)) [.t 20,.t 22],oL 24 3 23,mo 25 (.eqa false [.i .i64,.i .i64,.i .i64]) [.t 19,.t 24]]
def zch1:=[oV 26 0,oV 27 3,mo 28 (.slc 3 true false false) [.t 26,.t 27],oV 4 28]
def zch2:=[oI 5 1]
def zch3:=[oV 29 5,oV 30 4,mo 31 .len [.t 30],oP 32 .lss [.t 29,.t 31]]
def zbE2:=[oV 35 4,oV 36 5,mo 37 (.iaS 3 (Proc.enc Proc.zero)) [.t 35,.t 36],oL 38 3 37,oV 39 4,oV 40 5,oP 41 .sub [.t 40,oK 1],mo 42 (.iaS 3 (Proc.enc Proc.zero)) [.t 39,.t 41],oL 43 3 42,mo 44 (.eqa true [.i .i64,.i .i64,.i .i64]) [.t 38,.t 43]]
def zbE3:=[oV 45 0,oV 46 3,oV 47 4,oV 48 5,mo 49 (.iaS 3 (Proc.enc Proc.zero)) [.t 47,.t 48],oL 50 3 49,mo 51 (.iaS 3 (Proc.enc Proc.zero)) [.t 45,.t 46],oS 3 51 50]
def zbE4:=[oV 52 3,oP 53 .add [.t 52,oK 1],oV 3 53]
def zbE5:=[oV 33 5,oP 34 .add [.t 33,oK 1],oV 5 34]
def zbE6:=[oV 54 0,oV 55 3,mo 56 (.slc 3 true false false) [.t 54,.t 55],mz (.clear 3 (Proc.enc Proc.zero)) [.t 56]]
def zbE7:=[oV 57 0,oV 58 3,mo 59 (.slc 3 false true false) [.t 57,.t 58],oV 2 59]
def zch4:=[oV 14 3,oP 15 .add [.t 14,oK 1],oV 3 15]
def zbE8:=[oV 60 0,oV 2 60]
def zch5:PC:=(.seq (.reg [] zcg5) (.seq (.seq (.reg [6,7] zcg6) (.cond (.t 8) (.seq (.reg [9] zcg7) .ret) .skip)) (.seq (.seq (.reg [] zcg8) (.block 0 (.loop (.seq (.seq (.reg [10,11,12] zcg9) (.cond (.t 13) .skip (.exit 0))) (.seq (.block 1 (.seq (.regd [16,17,18,19,20,21,22,23,24] zch0) (.cond (.t 25) (.seq (.reg [26,27,28] zch1) (.seq (.seq (.reg [] zch2) (.block 2 (.loop (.seq (.seq (.reg [29,30,31] zch3) (.cond (.t 32) .skip (.exit 2))) (.seq (.block 3 (.seq (.regd [35,36,37,38,39,40,41,42,43] zbE2) (.cond (.t 44) (.seq (.reg [45,46,47,48,49,50,51] zbE3) (.reg [52,53] zbE4)) .skip))) (.reg [33,34] zbE5)))))) (.seq (.reg [54,55,56] zbE6) (.seq (.reg [57,58,59] zbE7) .ret)))) .skip))) (.reg [14,15] zch4)))))) (.seq (.reg [60] zbE8) .ret))))
theorem zdS3:chkF C.P 120 zch5 61 [.t 2] 1=true:=by kernel_rfl
attribute [go_sem] zcg5 zcg6 zcg7 zcg8 zcg9 zch0 zch1 zch2 zch3 zbE2 zbE3 zbE4 zbE5 zbE6 zbE7 zch4 zbE8
def zch6:=[mo 2 .mv [oNi]]
def zch7:=[oV 4 0,mo 5 (.append 3 24 (Proc.enc Proc.zero)) [.c (A.full []),.t 4],oV 3 5]
def zch8:=[oV 6 3,mo 7 (.callm 118) [.t 6,.f 119]]
def zch9:=[oV 8 3,mo 9 (.callm 120) [.t 8],oV 2 9]
def zci0:PC:=(.seq (.reg [] zch6) (.seq (.reg [4,5] zch7) (.seq (.reg [6,7] zch8) (.seq (.reg [8,9] zch9) .ret))))
theorem zdS4:chkF C.P 77 zci0 10 [.t 2] 1=true:=by kernel_rfl
attribute [go_sem] zch6 zch7 zch8 zch9
def zci1:=[oB 1 8 0,mo 2 .mv [oNi]]
def zci2:=[oA 3 4 1,oM 4 1 3,mo 5 (.callm 116) [.t 4],oL 6 8 1,oC 7 117 [.t 6],mo 8 (.append 3 24 (Proc.enc Proc.zero)) [.t 5,.t 7],oC 9 77 [.t 8],oV 2 9]
def zci3:PC:=(.seq (.reg [] zci1) (.seq (.regm [3,4,5,6,7,8,9] [[],[0],[1,0],[],[3,2,1,0],[2,4,4,1,0,3,2,1,0,3,2,1,0],[5,5,2,4,4,1,0,3,2,1,0,3,2,1,0,2,4,4,1,0,3,2,1,0,3,2,1,0],[6,6,0,1,2,3,4,5,6,5,5,2,4,4,1,0,3,2,1,0,3,2,1,0,2,4,4,1,0,3,2,1,0,3,2,1,0,5,5,2,4,4,1,0,3,2,1,0,3,2,1,0,2,4,4,1,0,3,2,1,0,3,2,1,0,0,1,0,3,2,1,0,2,4,4,1,0,3,2,1,0,3,2,1,0,5,5,2,4,4,1,0,3,2,1,0,3,2,1,0,2,4,4,1,0,3,2,1,0,3,2,1,0]] zci2) .ret))
theorem zdS5:chkF C.P 76 zci3 10 [.t 2] 1=true:=by kernel_rfl
attribute [go_sem] zci1 zci2
def zci4:=[mo 2 .mv [oNi]]
def zci5:=[mo 3 (.nilown 3 (Proc.enc Proc.zero)) [.c (A.full [])]]
def zci6:=[oV 6 0,mo 7 .len [.t 6],oI 8 0]
def zci7:=[oP 9 .lss [.t 8,.t 7]]
def zci8:=[mo 10 (.iaS 8 (Queue.enc Queue.zero)) [.t 6,.t 8],oL 11 8 10,mo 5 (.alloc 8 (Queue.enc Queue.zero)) [],oS 8 5 11]
def zci9:=[oV 12 3,oL 13 8 5,oC 14 76 [.t 13],mo 15 (.append 3 24 (Proc.enc Proc.zero)) [.t 12,.t 14],oV 3 15]
def zcj0:=[oP 16 .add [.t 8,oK 1],oV 8 16]
def zcj1:=[oV 17 3,oC 18 77 [.t 17],oV 2 18]
def zcj2:PC:=(.seq (.reg [] zci4) (.seq (.reg [] zci5) (.seq (.seq (.reg [] zci6) (.block 0 (.loop (.seq (.reg [] zci7) (.seq (.cond (.t 9) .skip (.exit 0)) (.seq (.block 1 (.seq (.reg [10,11] zci8) (.reg [12,13,14,15] zci9))) (.reg [16] zcj0))))))) (.seq (.reg [17,18] zcj1) .ret))))
theorem zdS6:chkF C.P 40 zcj2 19 [.t 2] 1=true:=by kernel_rfl
attribute [go_sem] zci4 zci5 zci6 zci7 zci8 zci9 zcj0 zcj1
def zcj3:=[mo 2 .mv [oFa]]
def zcj4:=[oV 5 0,mo 6 .len [.t 5],oP 7 .gtr [.t 6,oK 8]]
def zcj5:=[mo 2 .mv [oFa]]
def zcj6:=[oV 8 0,mo 9 .len [.t 8],oI 10 0]
def zcj7:=[oP 11 .lss [.t 10,.t 9]]
def zcj8:=[oV 12 10,mo 13 (.iaS 8 (Queue.enc Queue.zero)) [.t 8,.t 10],oL 14 8 13,mo 4 (.alloc 8 (Queue.enc Queue.zero)) [],oV 3 12,oS 8 4 14]
def zcj9:=[oL 15 8 4,oC 16 84 [.t 15],mo 17 .not [.t 16],oV 18 17,oG 19 18 false .mv [.t 3],oG 20 18 false (.bin .gtr) [.t 19,oK 0],oG 21 18 false .mv [.t 20],oG 22 21 true .mv [.t 0],oG 23 21 true .mv [.t 3],oG 24 21 true (.bin .sub) [.t 23,oK 1],oG 25 21 true (.iaS 8 (Queue.enc Queue.zero)) [.t 22,.t 24],
 oG 26 21 true (.faddr 0) [.t 25],oG 27 21 true (.faddr 0) [.t 26],oG 28 21 true (.load 1 false) [.t 27],oG 29 21 true (.faddr 0) [.t 4],oG 30 21 true (.faddr 0) [.t 29],oG 31 21 true (.load 1 false) [.t 30],oG 32 21 true (.bin .geq) [.t 28,.t 31],oG 33 18 false .pick [.t 21,.t 32,oFa],mo 34 .pick [.t 18,oTr,.t 33]]
def zck0:=[mo 2 .mv [oFa]]
def zck1:=[oP 35 .add [.t 10,oK 1],oV 10 35]
def zck2:=[oV 36 0,oC 37 40 [.t 36],mo 38 .len [.t 37],oP 39 .leq [.t 38,oK 8],oV 2 39]
def zck3:PC:=(.seq (.reg [] zcj3) (.seq (.seq (.reg [5,6] zcj4) (.cond (.t 7) (.seq (.reg [] zcj5) .ret) .skip)) (.seq (.seq (.reg [] zcj6) (.block 0 (.loop (.seq (.reg [] zcj7) (.seq (.cond (.t 11) .skip (.exit 0)) (.seq (.block 1 (.seq (.reg [12,13,14] zcj8) (.seq (.regd [15,16,17,18,19,20,21,22,23,24,25,26,27,28,29,30,31,32,33] zcj9) (.cond (.t 34) (.seq (.reg [] zck0) .ret) .skip)))) (.reg [35] zck1))))))) (.seq (.reg [36,37,38,39] zck2) .ret))))
theorem zdS7:chkF C.P 53 zck3 40 [.t 2] 1=true:=by kernel_rfl
attribute [go_sem] zcj3 zcj4 zcj5 zcj6 zcj7 zcj8 zcj9 zck0 zck1 zck2
def zck4:=[oI 4 0]
def zck5:=[oV 7 0,mo 8 .len [.t 7],oI 9 0]
def zck6:=[oP 10 .lss [.t 9,.t 8]]
def zck7:=[oV 11 9,mo 12 (.iaS 8 (Queue.enc Queue.zero)) [.t 7,.t 9],oL 13 8 12,mo 6 (.alloc 8 (Queue.enc Queue.zero)) [],oV 5 11,oS 8 6 13]
def zck8:=[oA 14 0 6,oA 15 0 14,oM 16 1 15,oV 17 1,oP 18 .eql [.t 16,.t 17]]
def zck9:=[oV 19 5,oV 4 19]
def zcl0:=[oP 20 .add [.t 9,oK 1],oV 9 20]
def zcl1:=[oI 4 (-1)]
def zcl2:PC:=(.seq (.reg [] zck4) (.seq (.seq (.reg [] zck5) (.block 0 (.loop (.seq (.reg [] zck6) (.seq (.cond (.t 10) .skip (.exit 0)) (.seq (.block 1 (.seq (.reg [11,12,13] zck7) (.seq (.reg [14,15,16,17] zck8) (.cond (.t 18) (.seq (.reg [19] zck9) .ret) .skip)))) (.reg [20] zcl0))))))) (.seq (.reg [] zcl1) .ret)))
theorem zdS8:chkF C.P 52 zcl2 21 [.t 4] 2=true:=by kernel_rfl
attribute [go_sem] zck4 zck5 zck6 zck7 zck8 zck9 zcl0 zcl1
def zcl3:=[oI 4 0,oI 5 0]
def zcl4:=[oV 7 0,oC 8 53 [.t 7],mo 9 .not [.t 8]]
def zcl5:=[oI 4 0,oI 5 2]
def zcl6:=[oV 10 0,oV 11 1,oC 12 52 [.t 10,.t 11],oV 6 12]
def zcl7:=[oV 13 6,oP 14 .lss [.t 13,oK 0]]
def zcl8:=[oI 4 0,oI 5 10]
def zcl9:=[oV 15 6,oV 4 15,oI 5 0]
def zcm0:PC:=(.seq (.reg [] zcl3) (.seq (.seq (.reg [7,8] zcl4) (.cond (.t 9) (.seq (.reg [] zcl5) .ret) .skip)) (.seq (.reg [10,11,12] zcl6) (.seq (.seq (.reg [13] zcl7) (.cond (.t 14) (.seq (.reg [] zcl8) .ret) .skip)) (.seq (.reg [15] zcl9) .ret)))))
theorem zdS9:chkF C.P 54 zcm0 16 [.t 4,.t 5] 2=true:=by kernel_rfl
attribute [go_sem] zcl3 zcl4 zcl5 zcl6 zcl7 zcl8 zcl9
def zcm1:=[oB 3 3 1,oI 4 0]
def zcm2:=[oV 6 0,mo 7 .len [.t 6],oI 8 0]
def zcm3:=[oP 9 .lss [.t 8,.t 7]]
def zcm4:=[oV 10 8,oV 5 10]
def zcm5:=[oL 11 3 3,oV 12 0,oV 13 5,mo 14 (.iaS 3 (Proc.enc Proc.zero)) [.t 12,.t 13],oL 15 3 14,mo 16 (.eqa false [.i .i64,.i .i64,.i .i64]) [.t 11,.t 15]]
def zcm6:=[oV 17 5,oV 4 17]
def zcm7:=[oP 18 .add [.t 8,oK 1],oV 8 18]
def zcm8:=[oI 4 (-1)]
def zcm9:PC:=(.seq (.reg [] zcm1) (.seq (.seq (.reg [6] zcm2) (.block 0 (.loop (.seq (.reg [] zcm3) (.seq (.cond (.t 9) .skip (.exit 0)) (.seq (.block 1 (.seq (.reg [10] zcm4) (.seq (.regd [11,12,13,14,15] zcm5) (.cond (.t 16) (.seq (.reg [17] zcm6) .ret) .skip)))) (.reg [18] zcm7))))))) (.seq (.reg [] zcm8) .ret)))
theorem zdT0:chkF C.P 130 zcm9 19 [.t 4] 2=true:=by kernel_rfl
attribute [go_sem] zcm1 zcm2 zcm3 zcm4 zcm5 zcm6 zcm7 zcm8
def zcn0:=[oB 3 3 1,mo 4 .mv [oFa]]
def zcn1:=[oV 5 0,oL 6 3 3,oC 7 130 [.t 5,.t 6],oP 8 .geq [.t 7,oK 0],oV 4 8]
def zcn2:PC:=(.seq (.reg [] zcn0) (.seq (.reg [5,6,7,8] zcn1) .ret))
theorem zdT1:chkF C.P 85 zcn2 9 [.t 4] 2=true:=by kernel_rfl
attribute [go_sem] zcn0 zcn1
def zcn3:=[oB 3 3 1,mo 4 .mv [oFa]]
def zcn4:=[oV 5 0,oL 6 3 3,oC 7 85 [.t 5,.t 6],oV 4 7]
def zcn5:PC:=(.seq (.reg [] zcn3) (.seq (.reg [5,6,7] zcn4) .ret))
theorem zdT2:chkF C.P 55 zcn5 8 [.t 4] 2=true:=by kernel_rfl
attribute [go_sem] zcn3 zcn4
def zcn6:=[oB 2 8 0,oB 3 3 1,mo 4 (.alloc 2 (Amount.enc Amount.zero)) [],mo 5 .mv [oFa]]
def zcn7:=[oL 8 8 2,oC 9 112 [.t 8],mo 10 .len [.t 9],oI 11 0]
def zcn8:=[oP 12 .lss [.t 11,.t 10]]
def zcn9:=[mo 13 (.iaS 7 (Wait.enc Wait.zero)) [.t 9,.t 11],oL 14 7 13,mo 7 (.alloc 7 (Wait.enc Wait.zero)) [],oS 7 7 14]
def zco0:=[oA 15 0 7,oL 16 3 15,oL 17 3 3,mo 18 (.eqa false [.i .i64,.i .i64,.i .i64]) [.t 16,.t 17]]
def zco1:=[oA 19 3 7,oL 20 2 19,oS 2 4 20,mo 5 .mv [oTr]]
def zco2:=[oP 21 .add [.t 11,oK 1],oV 11 21]
def zco3:=[mo 22 (.build (Amount.enc Amount.zero) []) [],oS 2 4 22,mo 5 .mv [oFa]]
def zco4:PC:=(.seq (.reg [] zcn6) (.seq (.seq (.reg [8] zcn7) (.block 0 (.loop (.seq (.reg [] zcn8) (.seq (.cond (.t 12) .skip (.exit 0)) (.seq (.block 1 (.seq (.reg [13,14] zcn9) (.seq (.reg [15,16,17] zco0) (.cond (.t 18) (.seq (.reg [19,20] zco1) .ret) .skip)))) (.reg [21] zco2))))))) (.seq (.reg [22] zco3) .ret)))
theorem zdT3:chkF C.P 70 zco4 23 [.c 4 2 true,.t 5] 2=true:=by kernel_rfl
attribute [go_sem] zcn6 zcn7 zcn8 zcn9 zco0 zco1 zco2 zco3
def zco5:=[oB 1 8 0,mo 2 (.alloc 8 (Queue.enc Queue.zero)) []]
def zco6:=[oA 3 4 1,oM 4 1 3,mo 5 (.append 5 40 (Hold.enc Hold.zero)) [.c (A.full []),.t 4],oA 6 4 1,oS 1 6 5]
def zco7:=[oA 7 5 1,oM 8 1 7,mo 9 (.append 7 56 (Wait.enc Wait.zero)) [.c (A.full []),.t 8],oA 10 5 1,oS 1 10 9]
def zco8:=[oA 11 6 1,oM 12 1 11,mo 13 (.append 7 56 (Wait.enc Wait.zero)) [.c (A.full []),.t 12],oA 14 6 1,oS 1 14 13]
def zco9:=[oL 15 8 1,oS 8 2 15]
def zcp0:PC:=(.seq (.reg [] zco5) (.seq (.reg [3,4,5,6] zco6) (.seq (.reg [7,8,9,10] zco7) (.seq (.reg [11,12,13,14] zco8) (.seq (.reg [15] zco9) .ret)))))
theorem zdT4:chkF C.P 88 zcp0 16 [.c 2 8 true] 1=true:=by kernel_rfl
attribute [go_sem] zco5 zco6 zco7 zco8 zco9
def zcp1:=[oI 4 0]
def zcp2:=[oI 5 1]
def zcp3:=[oV 6 5,oP 7 .leq [.t 6,oK 5]]
def zcp4:=[oV 10 5,oV 11 0,oC 12 134 [.t 10,.t 11],oV 13 12,oG 14 13 true .mv [.t 5],oG 15 13 true .mv [.t 1],oG 16 13 true (.call 134) [.t 14,.t 15],mo 17 .pick [.t 13,.t 16,oFa]]
def zcp5:=[oV 18 5,oV 4 18]
def zcp6:=[oV 8 5,oP 9 .add [.t 8,oK 1],oV 5 9]
def zcp7:=[oI 4 0]
def zcp8:PC:=(.seq (.reg [] zcp1) (.seq (.seq (.reg [] zcp2) (.block 0 (.loop (.seq (.seq (.reg [6] zcp3) (.cond (.t 7) .skip (.exit 0))) (.seq (.block 1 (.seq (.reg [10,11,12,13,14,15,16] zcp4) (.cond (.t 17) (.seq (.reg [18] zcp5) .ret) .skip))) (.reg [8,9] zcp6)))))) (.seq (.reg [] zcp7) .ret)))
theorem zdT5:chkF C.P 137 zcp8 19 [.t 4] 2=true:=by kernel_rfl
attribute [go_sem] zcp1 zcp2 zcp3 zcp4 zcp5 zcp6 zcp7
def zcp9:=[oB 3 4 0,oB 4 2 1,oB 5 2 2,mo 6 (.alloc 2 (Amount.enc Amount.zero)) []]
def zcq0:=[oL 8 4 3,oL 9 2 4,oC 10 133 [.t 8,.t 9],mo 11 .not [.t 10],oV 12 11,oG 13 12 false (.load 4 true) [.t 3],oG 14 12 false (.load 2 true) [.t 5],oG 15 12 false (.call 133) [.t 13,.t 14],oG 16 12 false .not [.t 15],mo 17 .pick [.t 12,oTr,.t 16],oV 7 17]
def zcq1:=[mo 18 (.build (Amount.enc Amount.zero) []) [],oS 2 6 18]
def zcq2:=[oL 20 2 4,oC 21 90 [.t 20],oV 19 21]
def zcq3:=[oL 22 2 5,oS 2 6 22]
def zcq4:=[oL 24 2 5,oC 25 90 [.t 24],oV 23 25]
def zcq5:=[oL 26 2 4,oS 2 6 26]
def zcq6:=[oA 28 1 3,oM 29 1 28,oP 30 .eql [.t 29,oK 1],oV 27 30]
def zcq7:=[oA 31 0 4,oM 32 1 31,oA 33 0 5,oM 34 1 33,oC 35 137 [.t 32,.t 34],mo 36 (.build (Amount.enc Amount.zero) [(0,1)]) [.t 35],oS 2 6 36]
def zcq8:=[oA 37 1 4,oM 38 1 37,oA 39 1 5,oM 40 1 39,mo 41 .max [.t 38,.t 40],mo 42 (.build (Amount.enc Amount.zero) [(1,1)]) [.t 41],oS 2 6 42]
def zcq9:PC:=(.seq (.reg [] zcp9) (.seq (.block 0 (.seq (.reg [8,9,10,11,12,13,14,15,16,17] zcq0) (.cond (.t 7) (.seq (.reg [18] zcq1) .ret) (.seq (.reg [20,21] zcq2) (.cond (.t 19) (.seq (.reg [22] zcq3) .ret) (.seq (.reg [24,25] zcq4) (.cond (.t 23) (.seq (.reg [26] zcq5) .ret) (.seq (.reg [28,29,30] zcq6) (.cond (.t 27) (.seq (.reg [31,32,33,34,35,36] zcq7) .ret) .skip))))))))) (.seq (.reg [37,38,39,40,41,42] zcq8) .ret)))
theorem zdT6:chkF C.P 93 zcq9 43 [.c 6 2 true] 3=true:=by kernel_rfl
attribute [go_sem] zcp9 zcq0 zcq1 zcq2 zcq3 zcq4 zcq5 zcq6 zcq7 zcq8
def zcr0:=[oA 5 0 0,oL 6 4 5,oL 7 2 1,oL 8 2 2,oC 9 93 [.t 6,.t 7,.t 8],mo 4 (.alloc 2 (Amount.enc Amount.zero)) [],oS 2 4 9]
def zcr1:=[oA 10 5 0,oM 11 1 10,oL 12 3 3,oL 13 2 4,mo 14 (.build (Wait.enc Wait.zero) [(0,3),(3,2)]) [.t 12,.t 13],mo 15 (.bslice 7 (Wait.enc Wait.zero)) [.t 14],mo 16 (.append 7 56 (Wait.enc Wait.zero)) [.t 11,.t 15],oA 17 5 0,oS 1 17 16]
def zcr2:PC:=(.seq (.reg [5,6,7,8,9] zcr0) (.reg [10,11,12,13,14,15,16,17] zcr1))
theorem zdT7:chkF C.P 92 zcr2 18 [] 4=true:=by kernel_rfl
attribute [go_sem] zcr0 zcr1
def zcr3:=[mo 2 .mv [oNi]]
def zcr4:=[mo 3 (.nilown 5 (Hold.enc Hold.zero)) [.c (A.full [])]]
def zcr5:=[oV 7 0,mo 8 .nilck [.t 7],oL 9 8 8,oC 10 161 [.t 9],oV 6 10,oE 11 0 6,oE 12 1 6,mo 4 (.alloc 7 (Wait.enc Wait.zero)) [],oS 7 4 11,oV 5 12]
def zcr6:=[oV 22 5,mo 23 .not [.t 22],oV 24 23,oG 25 24 false .mv [.t 0],oG 26 24 false .nilck [.t 25],oG 27 24 false (.faddr 0) [.t 26],oG 28 24 false (.load 4 true) [.t 27],oG 29 24 false .mv [.t 0],oG 30 24 false .nilck [.t 29],oG 31 24 false (.faddr 4) [.t 30],oG 32 24 false (.load 1 false) [.t 31],
 oG 33 24 false (.faddr 0) [.t 4],oG 34 24 false (.load 3 true) [.t 33],oG 35 24 false (.faddr 3) [.t 4],oG 36 24 false (.load 2 true) [.t 35],oG 37 24 false (.call 162) [.t 28,.t 32,.t 34,.t 36],oG 38 24 false .not [.t 37],mo 39 .pick [.t 24,oTr,.t 38],oV 21 39]
def zcr7:=[oV 41 0,mo 42 .nilck [.t 41],oA 43 5 42,oM 44 1 43,mo 45 .len [.t 44],oP 46 .gtr [.t 45,oK 0],oV 40 46]
def zcr8:=[oV 47 0,oV 48 0,mo 49 .nilck [.t 48],oA 50 5 49,oM 51 1 50,mo 52 (.slc 7 true false false) [.t 51,oK 1],mo 53 .nilck [.t 47],oA 54 5 53,oS 1 54 52]
def zcr9:=[oV 13 0,oV 14 0,mo 15 .nilck [.t 14],oA 16 6 15,oM 17 1 16,mo 18 (.slc 7 true false false) [.t 17,oK 1],mo 19 .nilck [.t 13],oA 20 6 19,oS 1 20 18]
def zcs0:=[oV 55 0,oV 56 0,mo 57 .nilck [.t 56],oA 58 4 57,oM 59 1 58,oA 60 0 4,oL 61 3 60,oA 62 3 4,oL 63 2 62,oC 64 106 [.t 59,.t 61,.t 63],mo 65 .nilck [.t 55],oA 66 4 65,oS 1 66 64]
def zcs1:=[oV 67 3,oA 68 0 4,oL 69 3 68,oA 70 3 4,oL 71 2 70,mo 72 (.build (Hold.enc Hold.zero) [(0,3),(3,2)]) [.t 69,.t 71],mo 73 (.bslice 5 (Hold.enc Hold.zero)) [.t 72],mo 74 (.append 5 40 (Hold.enc Hold.zero)) [.t 67,.t 73],oV 3 74]
def zcs2:=[oV 75 3,oV 2 75]
def zcs3:PC:=(.seq (.reg [] zcr3) (.scope (.seq (.reg [] zcr4) (.seq .label (.seq (.block 0 (.loop (.block 1 (.seq (.reg [6,7,8,9,10,11,12] zcr5) (.seq (.block 2 (.seq (.regd [22,23,24,25,26,27,28,29,30,31,32,33,34,35,36,37,38,39] zcr6) (.cond (.t 21) (.exit 0) (.seq (.reg [41,42,43,44,45,46] zcr7) (.cond (.t 40) (.reg [47,48,49,50,51,52,53,54] zcr8) (.reg [13,14,15,16,17,18,19,20] zcr9)))))) (.seq (.regm [55,56,57,58,59,60,61,62,63,64,65,66] [[],[],[1],[2,1],[3,2,1],[],[5],[],[7],[4,6,8,3,2,1,5,7],[0,0,1,2,3,4,5,6,7,8,9,1,2,1,3,2,1,5,7,4,6,8,3,2,1,5,7],[10,0,1,2,3,4,5,6,7,8,9,0,0,1,2,3,4,5,6,7,8,9,1,2,1,3,2,1,5,7,4,6,8,3,2,1,5,7,1,2,1,3,2,1,5,7,4,6,8,3,2,1,5,7],[11,9,9,0,1,2,3,4,5,6,7,8,9,10,0,1,2,3,4,5,6,7,8,9,0,0,1,2,3,4,5,6,7,8,9,1,2,1,3,2,1,5,7,4,6,8,3,2,1,5,7,1,2,1,3,2,1,5,7,4,6,8,3,2,1,5,7,4,6,8,3,2,1,5,7,4,6,8,3,2,1,5,7,1,2,1,3,2,1,5,7,4,6,8,3,2,1,5,7]] zcs0) (.reg [67,68,69,70,71,72,73,74] zcs1))))))) (.seq (.reg [75] zcs2) .ret))))))
theorem zdT8:chkF C.P 135 zcs3 76 [.t 2] 1=true:=by kernel_rfl
attribute [go_sem] zcr3 zcr4 zcr5 zcr6 zcr7 zcr8 zcr9 zcs0 zcs1 zcs2
def zcs4:=[oI 2 0]
def zcs5:=[oV 3 0,oP 4 .lss [.t 3,oK 0],oV 5 4,oG 6 5 false .mv [.t 0],oG 7 5 false (.bin .geq) [.t 6,oK 1073741824],mo 8 .pick [.t 5,oTr,.t 7]]
def zcs6:=[oI 2 1]
def zcs7:=[oV 9 0,oP 10 .add [.t 9,oK 1],oV 2 10]
def zcs8:PC:=(.seq (.reg [] zcs4) (.seq (.seq (.reg [3,4,5,6,7] zcs5) (.cond (.t 8) (.seq (.reg [] zcs6) .ret) .skip)) (.seq (.reg [9,10] zcs7) .ret)))
theorem zdT9:chkF C.P 136 zcs8 11 [.t 2] 1=true:=by kernel_rfl
attribute [go_sem] zcs4 zcs5 zcs6 zcs7
def zcs9:=[mo 4 (.alloc 8 (Queue.enc Queue.zero)) [],mo 5 .mv [oNi],oI 6 0]
def zct0:=[oV 10 1,mo 11 .len [.t 10],oI 12 0]
def zct1:=[oP 13 .lss [.t 12,.t 11]]
def zct2:=[mo 14 (.iaS 1 [A.any]) [.t 10,.t 12],oM 15 1 14,oV 8 15]
def zct3:=[oV 16 8,mo 17 .callvm [.t 16]]
def zct4:=[oP 18 .add [.t 12,oK 1],oV 12 18]
def zct5:=[oV 19 0,mo 20 (.callm 135) [.t 19],oV 9 20]
def zct6:=[oV 21 0,oV 22 0,mo 23 .nilck [.t 22],oA 24 7 23,oM 25 1 24,oC 26 136 [.t 25],mo 27 .nilck [.t 21],oA 28 7 27,oS 1 28 26]
def zct7:=[oV 29 0,mo 30 .nilck [.t 29],oL 31 8 30,oV 32 9,oS 8 4 31,oV 5 32,oI 6 0]
def zct8:PC:=(.seq (.reg [] zcs9) (.seq (.seq (.reg [] zct0) (.block 0 (.loop (.seq (.reg [] zct1) (.seq (.cond (.t 13) .skip (.exit 0)) (.seq (.block 1 (.seq (.reg [14,15] zct2) (.reg [16,17] zct3))) (.reg [18] zct4))))))) (.seq (.reg [19,20] zct5) (.seq (.reg [21,22,23,24,25,26,27,28] zct6) (.seq (.reg [29,30,31,32] zct7) .ret)))))
theorem zdU0:chkF C.P 91 zct8 33 [.c 4 8 true,.t 5,.t 6] 2=true:=by kernel_rfl
attribute [go_sem] zcs9 zct0 zct1 zct2 zct3 zct4 zct5 zct6 zct7
def zct9:=[oB 2 7 0,oB 3 7 1,oI 4 0]
def zcu0:=[oA 5 5 3,oM 6 1 5,oA 7 5 2,oM 8 1 7,oP 9 .lss [.t 6,.t 8],oV 10 9,oG 11 10 true (.faddr 6) [.t 3],oG 12 10 true (.load 1 false) [.t 11],oG 13 10 true (.bin .lss) [.t 12,oK 3],mo 14 .pick [.t 10,.t 13,oFa]]
def zcu1:=[oI 4 1]
def zcu2:=[oI 4 0]
def zcu3:PC:=(.seq (.reg [] zct9) (.seq (.seq (.reg [5,6,7,8,9,10,11,12,13] zcu0) (.cond (.t 14) (.seq (.reg [] zcu1) .ret) .skip)) (.seq (.reg [] zcu2) .ret)))
theorem zdU1:chkF C.P 140 zcu3 15 [.t 4] 2=true:=by kernel_rfl
attribute [go_sem] zct9 zcu0 zcu1 zcu2
def zcu4:=[oB 3 7 1,mo 4 .mv [oNi],oI 5 0,oI 6 0]
def zcu5:=[oV 10 0,oC 11 138 [.t 10],mo 12 .not [.t 11],oV 9 12]
def zcu6:=[mo 4 .mv [oNi],oI 5 0,oI 6 2]
def zcu7:=[oL 14 7 3,oC 15 139 [.t 14],mo 16 .not [.t 15],oV 17 16,oG 18 17 false (.faddr 6) [.t 3],oG 19 17 false (.load 1 false) [.t 18],oG 20 17 false (.bin .neq) [.t 19,oK 0],mo 21 .pick [.t 17,oTr,.t 20],oV 13 21]
def zcu8:=[mo 4 .mv [oNi],oI 5 0,oI 6 1]
def zcu9:=[oV 23 0,oA 24 0 3,oL 25 3 24,oC 26 123 [.t 23,.t 25],oP 27 .geq [.t 26,oK 0],oV 22 27]
def zcv0:=[mo 4 .mv [oNi],oI 5 0,oI 6 11]
def zcv1:=[oV 29 0,mo 30 .len [.t 29],oP 31 .eql [.t 30,oK 8],oV 28 31]
def zcv2:=[mo 4 .mv [oNi],oI 5 0,oI 6 4]
def zcv3:=[oV 32 0,mo 33 .len [.t 32],oP 34 .add [.t 33,oK 1],mo 35 (.mk 7 56 (Wait.enc Wait.zero)) [.t 34,.t 34],oV 7 35]
def zbE9:=[oV 36 7,oV 37 0,mo 38 (.copy 7) [.t 36,.t 37]]
def zbF0:=[oV 39 0,mo 40 .len [.t 39],oV 8 40]
def zbF1:=[oV 41 8,oP 42 .gtr [.t 41,oK 0],oV 43 42,oG 44 43 true (.load 7 true) [.t 3],oG 45 43 true .mv [.t 7],oG 46 43 true .mv [.t 8],oG 47 43 true (.bin .sub) [.t 46,oK 1],oG 48 43 true (.iaS 7 (Wait.enc Wait.zero)) [.t 45,.t 47],oG 49 43 true (.load 7 true) [.t 48],oG 50 43 true (.call 140) [.t 44,.t 49],
 oG 51 43 true (.bin .eql) [.t 50,oK 1],mo 52 .pick [.t 43,.t 51,oFa]]
def zbF2:=[oV 53 7,oV 54 8,oV 55 7,oV 56 8,oP 57 .sub [.t 56,oK 1],mo 58 (.iaS 7 (Wait.enc Wait.zero)) [.t 55,.t 57],oL 59 7 58,mo 60 (.iaS 7 (Wait.enc Wait.zero)) [.t 53,.t 54],oS 7 60 59]
def zbF3:=[oV 61 7,oV 62 8,mo 63 (.iaS 7 (Wait.enc Wait.zero)) [.t 61,.t 62],oA 64 6 63,oM 65 1 64,oP 66 .add [.t 65,oK 1],mo 67 (.iaS 7 (Wait.enc Wait.zero)) [.t 61,.t 62],oA 68 6 67,oS 1 68 66]
def zbF4:=[oV 69 8,oP 70 .sub [.t 69,oK 1],oV 8 70]
def zbF5:=[oV 71 7,oV 72 8,oL 73 7 3,mo 74 (.iaS 7 (Wait.enc Wait.zero)) [.t 71,.t 72],oS 7 74 73]
def zbF6:=[oV 75 7,oV 76 8,oV 4 75,oV 5 76,oI 6 0]
def zcv4:PC:=(.seq (.reg [] zcu4) (.seq (.block 0 (.seq (.reg [10,11,12] zcu5) (.cond (.t 9) (.seq (.reg [] zcu6) .ret) (.seq (.reg [14,15,16,17,18,19,20,21] zcu7) (.cond (.t 13) (.seq (.reg [] zcu8) .ret) (.seq (.reg [23,24,25,26,27] zcu9) (.cond (.t 22) (.seq (.reg [] zcv0) .ret) (.seq (.reg [29,30,31] zcv1) (.cond (.t 28) (.seq (.reg [] zcv2) .ret) .skip))))))))) (.seq (.reg [32,33,34,35] zcv3) (.seq (.reg [36,37,38] zbE9) (.seq (.reg [39,40] zbF0) (.seq (.block 1 (.loop (.seq (.seq (.regd [41,42,43,44,45,46,47,48,49,50,51] zbF1) (.cond (.t 52) .skip (.exit 1))) (.block 2 (.seq (.reg [53,54,55,56,57,58,59,60] zbF2) (.seq (.reg [61,62,63,64,65,66,67,68] zbF3) (.reg [69,70] zbF4))))))) (.seq (.reg [71,72,73,74] zbF5) (.seq (.reg [75,76] zbF6) .ret))))))))
theorem zdU2:chkF C.P 94 zcv4 77 [.t 4,.t 5,.t 6] 2=true:=by kernel_rfl
attribute [go_sem] zcu4 zcu5 zcu6 zcu7 zcu8 zcu9 zcv0 zcv1 zcv2 zcv3 zbE9 zbF0 zbF1 zbF2 zbF3 zbF4 zbF5 zbF6
def zcv5:=[oM 2 1 0,oA 3 6 1,oS 1 3 2]
def zcv6:PC:=(.reg [2,3] zcv5)
theorem zdU3:chkF C.P 95 zcv6 4 [] 2=true:=by kernel_rfl
attribute [go_sem] zcv5
def zcv7:=[mo 4 (.alloc 8 (Queue.enc Queue.zero)) [],mo 5 .mv [oNi],oI 6 0]
def zcv8:=[oV 10 1,mo 11 .len [.t 10],oI 12 0]
def zcv9:=[oP 13 .lss [.t 12,.t 11]]
def zcw0:=[mo 14 (.iaS 1 [A.any]) [.t 10,.t 12],oM 15 1 14,oV 8 15]
def zcw1:=[oV 16 8,mo 17 .callvm [.t 16]]
def zcw2:=[oP 18 .add [.t 12,oK 1],oV 12 18]
def zcw3:=[oV 19 0,mo 20 (.callm 135) [.t 19],oV 9 20]
def zcw4:=[oV 21 0,oV 22 0,mo 23 .nilck [.t 22],oA 24 7 23,oM 25 1 24,oC 26 136 [.t 25],mo 27 .nilck [.t 21],oA 28 7 27,oS 1 28 26]
def zcw5:=[oV 29 0,mo 30 .nilck [.t 29],oL 31 8 30,oV 32 9,oS 8 4 31,oV 5 32,oI 6 0]
def zcw6:PC:=(.seq (.reg [] zcv7) (.seq (.seq (.reg [] zcv8) (.block 0 (.loop (.seq (.reg [] zcv9) (.seq (.cond (.t 13) .skip (.exit 0)) (.seq (.block 1 (.seq (.reg [14,15] zcw0) (.reg [16,17] zcw1))) (.reg [18] zcw2))))))) (.seq (.reg [19,20] zcw3) (.seq (.reg [21,22,23,24,25,26,27,28] zcw4) (.seq (.reg [29,30,31,32] zcw5) .ret)))))
theorem zdU4:chkF C.P 91 zcw6 33 [.c 4 8 true,.t 5,.t 6] 2=true:=by kernel_rfl
attribute [go_sem] zcv7 zcv8 zcv9 zcw0 zcw1 zcw2 zcw3 zcw4 zcw5
def zcw7:=[oB 4 8 0,oB 5 3 1,oB 6 2 2,mo 8 (.alloc 8 (Queue.enc Queue.zero)) [],mo 9 .mv [oNi],oI 10 0]
def zcw8:=[oL 18 8 4,oC 19 84 [.t 18],mo 20 .not [.t 19]]
def zcw9:=[mo 21 (.build (Queue.enc Queue.zero) []) [],oS 8 8 21,mo 9 .mv [oNi],oI 10 2]
def zcx0:=[oL 22 3 5,oC 23 86 [.t 22],mo 24 .not [.t 23],oV 25 24,oG 26 25 false .mv [.t 3],oG 27 25 false (.bin .lss) [.t 26,oK 0],mo 28 .pick [.t 25,oTr,.t 27],oV 29 28,oG 30 29 false .mv [.t 3],oG 31 29 false (.bin .gtr) [.t 30,oK 7],mo 32 .pick [.t 29,oTr,.t 31]]
def zcx1:=[mo 33 (.build (Queue.enc Queue.zero) []) [],oS 8 8 33,mo 9 .mv [oNi],oI 10 1]
def zcx2:=[oA 34 0 4,oL 35 4 34,oL 36 2 6,oC 37 87 [.t 35,.t 36],mo 38 .not [.t 37]]
def zcx3:=[mo 39 (.build (Queue.enc Queue.zero) []) [],oS 8 8 39,mo 9 .mv [oNi],oI 10 12]
def zcx4:=[oL 41 8 4,oL 42 3 5,oC 43 70 [.t 41,.t 42],oV 40 43,oE 44 0 40,oE 45 1 40,mo 11 (.alloc 2 (Amount.enc Amount.zero)) [],oS 2 11 44,oV 12 45]
def zcx5:=[oV 46 12]
def zcx6:=[mo 47 (.build (Queue.enc Queue.zero) []) [],oS 8 8 47,mo 9 .mv [oNi],oI 10 14]
def zbF7:=[oL 48 8 4,mo 49 (.callm 88) [.t 48],oL 50 8 4,oL 51 3 5,oC 52 66 [.t 50,.t 51],mo 13 (.alloc 8 (Queue.enc Queue.zero)) [],mo 14 (.alloc 2 (Amount.enc Amount.zero)) [],oS 8 13 49,oS 2 14 52]
def zbF8:=[oA 53 0 4,oL 54 4 53,oL 55 2 14,oL 56 2 6,oC 57 89 [.t 54,.t 55,.t 56]]
def zbF9:=[oL 58 8 13,oS 8 8 58,mo 9 .mv [oNi],oI 10 0]
def zbG0:=[oL 59 2 14,oC 60 90 [.t 59],mo 61 .not [.t 60]]
def zbG1:=[mo 62 (.mkf 92) [.t 13,.t 14,.t 6,.t 5],mo 63 (.bown 1 [A.any]) [.t 62],mo 64 (.callm 91) [.t 13,.t 63],oE 65 0 64,oE 66 1 64,oE 67 2 64,oS 8 8 65,oV 9 66,oV 10 67]
def zbG2:=[oA 68 4 4,oM 69 1 68,mo 70 .len [.t 69],oA 71 6 4,oM 72 1 71,mo 73 .len [.t 72],oP 74 .add [.t 70,.t 73],oP 75 .geq [.t 74,oK 8]]
def zbG3:=[mo 76 (.build (Queue.enc Queue.zero) []) [],oS 8 8 76,mo 9 .mv [oNi],oI 10 4]
def zbG4:=[oA 78 6 4,oM 79 1 78,oL 80 3 5,oL 81 2 6,oV 82 3,mo 83 (.build (Wait.enc Wait.zero) [(0,3),(3,2),(5,1)]) [.t 80,.t 81,.t 82],oC 84 94 [.t 79,.t 83],oV 77 84,oE 85 0 77,oE 86 1 77,oE 87 2 77,mo 15 (.alloc 1 [A.sl ([].map Wait.enc)]) [],oS 1 15 85,oV 16 86,oV 17 87]
def zbG5:=[oV 88 17,oP 89 .neq [.t 88,oK 0]]
def zbG6:=[mo 90 (.build (Queue.enc Queue.zero) []) [],oV 91 17,oS 8 8 90,mo 9 .mv [oNi],oV 10 91]
def zbG7:=[mo 92 (.mkf 95) [.t 15,.t 13],mo 93 (.bown 1 [A.any]) [.t 92],mo 94 (.callm 91) [.t 13,.t 93],oE 95 0 94,oE 96 1 94,oE 97 2 94,oS 8 8 95,oV 9 96,oV 10 97]
def zcx7:PC:=(.seq (.reg [] zcw7) (.seq (.seq (.reg [18,19] zcw8) (.cond (.t 20) (.seq (.reg [21] zcw9) .ret) .skip)) (.seq (.seq (.reg [22,23,24,25,26,27,28,29,30,31] zcx0) (.cond (.t 32) (.seq (.reg [33] zcx1) .ret) .skip)) (.seq (.seq (.reg [34,35,36,37] zcx2) (.cond (.t 38) (.seq (.reg [39] zcx3) .ret) .skip)) (.seq (.seq (.reg [11,40,41,42,43,44,45] zcx4) (.seq (.reg [] zcx5) (.cond (.t 46) (.seq (.reg [47] zcx6) .ret) .skip))) (.seq (.regm [48,49,50,51,52] [[],[0],[],[],[2,3,1,0],[],[],[5,1,4,0,1,4,5,6,0,2,3,1,0,0,2,3,1,0],[6,4,7,0,1,2,3,4,5,6,7,2,3,1,0,5,1,4,0,1,4,5,6,0,2,3,1,0,0,2,3,1,0,0,2,3,1,0,5,1,4,0,1,4,5,6,0,2,3,1,0,0,2,3,1,0]] zbF7) (.seq (.seq (.reg [53,54,55,56] zbF8) (.cond (.t 57) (.seq (.reg [58] zbF9) .ret) .skip)) (.seq (.seq (.reg [59,60] zbG0) (.cond (.t 61) (.seq (.reg [62,63,64,65,66,67] zbG1) .ret) .skip)) (.seq (.seq (.reg [68,69,70,71,72,73,74] zbG2) (.cond (.t 75) (.seq (.reg [76] zbG3) .ret) .skip)) (.seq (.reg [16,77,78,79,80,81,82,83,84,85,86,87] zbG4) (.seq (.seq (.reg [88] zbG5) (.cond (.t 89) (.seq (.reg [90,91] zbG6) .ret) .skip)) (.seq (.reg [92,93,94,95,96,97] zbG7) .ret))))))))))))
theorem zdU5:chkF C.P 56 zcx7 98 [.c 8 8 true,.t 9,.t 10] 4=true:=by kernel_rfl
attribute [go_sem] zcw7 zcw8 zcw9 zcx0 zcx1 zcx2 zcx3 zcx4 zcx5 zcx6 zbF7 zbF8 zbF9 zbG0 zbG1 zbG2 zbG3 zbG4 zbG5 zbG6 zbG7
def zcx8:=[oB 5 8 2,mo 6 .mv [oNi]]
def zcx9:=[oV 10 0,mo 11 .len [.t 10],mo 12 (.mk 8 120 (Queue.enc Queue.zero)) [.t 11,.t 11],oV 7 12]
def zcy0:=[oV 13 0,mo 14 .len [.t 13],oI 15 0]
def zcy1:=[oP 16 .lss [.t 15,.t 14]]
def zcy2:=[oV 17 15,mo 18 (.iaS 8 (Queue.enc Queue.zero)) [.t 13,.t 15],oL 19 8 18,mo 9 (.alloc 8 (Queue.enc Queue.zero)) [],oV 8 17,oS 8 9 19]
def zcy3:=[oA 20 4 9,oM 21 1 20,mo 22 (.apl 5 40) [.c (A.full []),.t 21],oA 23 4 9,oS 1 23 22]
def zcy4:=[oA 24 5 9,oM 25 1 24,mo 26 (.apl 7 56) [.c (A.full []),.t 25],oA 27 5 9,oS 1 27 26]
def zcy5:=[oA 28 6 9,oM 29 1 28,mo 30 (.apl 7 56) [.c (A.full []),.t 29],oA 31 6 9,oS 1 31 30]
def zcy6:=[oV 32 7,oV 33 8,oL 34 8 9,mo 35 (.iaS 8 (Queue.enc Queue.zero)) [.t 32,.t 33],oS 8 35 34]
def zcy7:=[oP 36 .add [.t 15,oK 1],oV 15 36]
def zbG8:=[oV 37 1,oP 38 .geq [.t 37,oK 0]]
def zbG9:=[oV 39 7,oV 40 1,oL 41 8 5,mo 42 (.iaS 8 (Queue.enc Queue.zero)) [.t 39,.t 40],oS 8 42 41]
def zbH0:=[oV 43 7,oV 6 43]
def zcy8:PC:=(.seq (.reg [] zcx8) (.seq (.reg [10,11,12] zcx9) (.seq (.seq (.reg [] zcy0) (.block 0 (.loop (.seq (.reg [] zcy1) (.seq (.cond (.t 16) .skip (.exit 0)) (.seq (.block 1 (.seq (.reg [17,18,19] zcy2) (.seq (.reg [20,21,22,23] zcy3) (.seq (.reg [24,25,26,27] zcy4) (.seq (.reg [28,29,30,31] zcy5) (.reg [32,33,34,35] zcy6)))))) (.reg [36] zcy7))))))) (.seq (.seq (.reg [37] zbG8) (.cond (.t 38) (.reg [39,40,41,42] zbG9) .skip)) (.seq (.reg [43] zbH0) .ret)))))
theorem zdU6:chkF C.P 57 zcy8 44 [.t 6] 3=true:=by kernel_rfl
attribute [go_sem] zcx8 zcx9 zcy0 zcy1 zcy2 zcy3 zcy4 zcy5 zcy6 zcy7 zbG8 zbG9 zbH0
def zcy9:=[mo 6 .mv [oNi]]
def zcz0:=[oV 9 1,mo 10 .len [.t 9],oI 11 0]
def zcz1:=[oP 12 .lss [.t 11,.t 10]]
def zcz2:=[mo 13 (.iaS 5 (Hold.enc Hold.zero)) [.t 9,.t 11],oL 14 5 13,mo 8 (.alloc 5 (Hold.enc Hold.zero)) [],oS 5 8 14]
def zcz3:=[oV 15 2,oA 16 0 8,oL 17 3 16,oV 18 0,oA 19 3 8,oL 20 2 19,mo 21 (.build (Event.enc Event.zero) [(0,1),(1,3),(4,1),(5,2)]) [oK 1,.t 17,.t 18,.t 20],mo 22 (.bslice 7 (Event.enc Event.zero)) [.t 21],mo 23 (.append 7 64 (Event.enc Event.zero)) [.t 15,.t 22],oV 2 23]
def zcz4:=[oP 24 .add [.t 11,oK 1],oV 11 24]
def zcz5:=[oV 25 2,oV 6 25]
def zcz6:PC:=(.seq (.reg [] zcy9) (.seq (.seq (.reg [] zcz0) (.block 0 (.loop (.seq (.reg [] zcz1) (.seq (.cond (.t 12) .skip (.exit 0)) (.seq (.block 1 (.seq (.reg [13,14] zcz2) (.reg [15,16,17,18,19,20,21,22,23] zcz3))) (.reg [24] zcz4))))))) (.seq (.reg [25] zcz5) .ret)))
theorem zdU7:chkF C.P 58 zcz6 26 [.t 6] 3=true:=by kernel_rfl
attribute [go_sem] zcy9 zcz0 zcz1 zcz2 zcz3 zcz4 zcz5
def zcz7:=[oB 5 3 1,oB 6 3 2,mo 8 .mv [oNi],mo 9 .mv [oNi],oI 10 0]
def zcz8:=[oV 17 0,oA 18 0 6,oM 19 1 18,oC 20 54 [.t 17,.t 19],oV 16 20,oE 21 0 16,oE 22 1 16,oV 11 21,oV 12 22]
def zcz9:=[oV 23 12,oP 24 .neq [.t 23,oK 0]]
def zcA0:=[oV 25 12,mo 8 .mv [oNi],mo 9 .mv [oNi],oV 10 25]
def zcA1:=[oV 26 0,oC 27 40 [.t 26],oV 13 27]
def zcA2:=[oV 28 13,oL 29 3 5,oC 30 55 [.t 28,.t 29],mo 31 .not [.t 30],oV 32 31,oG 33 32 true .mv [.t 13],oG 34 32 true .len [.t 33],oG 35 32 true (.bin .geq) [.t 34,oK 8],mo 36 .pick [.t 32,.t 35,oFa]]
def zcA3:=[mo 8 .mv [oNi],mo 9 .mv [oNi],oI 10 4]
def zcA4:=[oV 38 0,oV 39 11,mo 40 (.iaS 8 (Queue.enc Queue.zero)) [.t 38,.t 39],oL 41 8 40,oL 42 3 5,oA 43 1 6,oL 44 2 43,oV 45 3,oC 46 56 [.t 41,.t 42,.t 44,.t 45],oV 37 46,oE 47 0 37,oE 48 1 37,oE 49 2 37,mo 14 (.alloc 8 (Queue.enc Queue.zero)) [],oS 8 14 47,oV 15 48,oV 12 49]
def zcA5:=[oV 50 12,oP 51 .neq [.t 50,oK 0]]
def zcA6:=[oV 52 12,mo 8 .mv [oNi],mo 9 .mv [oNi],oV 10 52]
def zbH1:=[oV 53 0,oV 54 11,oL 55 8 14,oC 56 57 [.t 53,.t 54,.t 55],oA 57 0 6,oM 58 1 57,oV 59 15,mo 60 (.callm 58) [.t 58,.t 59,.c (A.full [])],oV 8 56,oV 9 60,oI 10 0]
def zcA7:PC:=(.seq (.reg [] zcz7) (.seq (.reg [16,17,18,19,20,21,22] zcz8) (.seq (.seq (.reg [23] zcz9) (.cond (.t 24) (.seq (.reg [25] zcA0) .ret) .skip)) (.seq (.reg [26,27] zcA1) (.seq (.seq (.reg [28,29,30,31,32,33,34,35] zcA2) (.cond (.t 36) (.seq (.reg [] zcA3) .ret) .skip)) (.seq (.regm [37,38,39,40,41,42,43,44,45,46,47,48,49] [[],[],[0,1],[2,0,1],[],[],[5],[],[3,4,6,7,2,0,1,5],[8,3,4,6,7,2,0,1,5],[9,8,3,4,6,7,2,0,1,5],[9,8,3,4,6,7,2,0,1,5],[9,8,3,4,6,7,2,0,1,5],[],[13,10,8,0,1,2,3,4,5,6,7,8,9,10,13,9,8,3,4,6,7,2,0,1,5,3,4,6,7,2,0,1,5,0,1,2,0,1,5,3,4,6,7,2,0,1,5,8,3,4,6,7,2,0,1,5,9,8,3,4,6,7,2,0,1,5],[11,14,0,1,2,3,4,5,6,7,8,9,10,11,13,14,9,8,3,4,6,7,2,0,1,5,13,10,8,0,1,2,3,4,5,6,7,8,9,10,13,9,8,3,4,6,7,2,0,1,5,3,4,6,7,2,0,1,5,0,1,2,0,1,5,3,4,6,7,2,0,1,5,8,3,4,6,7,2,0,1,5,9,8,3,4,6,7,2,0,1,5,0,1,2,0,1,5,3,4,6,7,2,0,1,5,8,3,4,6,7,2,0,1,5,9,8,3,4,6,7,2,0,1,5,9,8,3,4,6,7,2,0,1,5,13,10,8,0,1,2,3,4,5,6,7,8,9,10,13,9,8,3,4,6,7,2,0,1,5,3,4,6,7,2,0,1,5,0,1,2,0,1,5,3,4,6,7,2,0,1,5,8,3,4,6,7,2,0,1,5,9,8,3,4,6,7,2,0,1,5],[12,15,0,1,2,3,4,5,6,7,8,9,10,11,12,13,14,15,9,8,3,4,6,7,2,0,1,5,11,14,0,1,2,3,4,5,6,7,8,9,10,11,13,14,9,8,3,4,6,7,2,0,1,5,13,10,8,0,1,2,3,4,5,6,7,8,9,10,13,9,8,3,4,6,7,2,0,1,5,3,4,6,7,2,0,1,5,0,1,2,0,1,5,3,4,6,7,2,0,1,5,8,3,4,6,7,2,0,1,5,9,8,3,4,6,7,2,0,1,5,0,1,2,0,1,5,3,4,6,7,2,0,1,5,8,3,4,6,7,2,0,1,5,9,8,3,4,6,7,2,0,1,5,9,8,3,4,6,7,2,0,1,5,13,10,8,0,1,2,3,4,5,6,7,8,9,10,13,9,8,3,4,6,7,2,0,1,5,3,4,6,7,2,0,1,5,0,1,2,0,1,5,3,4,6,7,2,0,1,5,8,3,4,6,7,2,0,1,5,9,8,3,4,6,7,2,0,1,5,0,1,2,0,1,5,3,4,6,7,2,0,1,5,8,3,4,6,7,2,0,1,5,9,8,3,4,6,7,2,0,1,5,9,8,3,4,6,7,2,0,1,5,9,8,3,4,6,7,2,0,1,5,13,10,8,0,1,2,3,4,5,6,7,8,9,10,13,9,8,3,4,6,7,2,0,1,5,3,4,6,7,2,0,1,5,0,1,2,0,1,5,3,4,6,7,2,0,1,5,8,3,4,6,7,2,0,1,5,9,8,3,4,6,7,2,0,1,5,11,14,0,1,2,3,4,5,6,7,8,9,10,11,13,14,9,8,3,4,6,7,2,0,1,5,13,10,8,0,1,2,3,4,5,6,7,8,9,10,13,9,8,3,4,6,7,2,0,1,5,3,4,6,7,2,0,1,5,0,1,2,0,1,5,3,4,6,7,2,0,1,5,8,3,4,6,7,2,0,1,5,9,8,3,4,6,7,2,0,1,5,0,1,2,0,1,5,3,4,6,7,2,0,1,5,8,3,4,6,7,2,0,1,5,9,8,3,4,6,7,2,0,1,5,9,8,3,4,6,7,2,0,1,5,13,10,8,0,1,2,3,4,5,6,7,8,9,10,13,9,8,3,4,6,7,2,0,1,5,3,4,6,7,2,0,1,5,0,1,2,0,1,5,3,4,6,7,2,0,1,5,8,3,4,6,7,2,0,1,5,9,8,3,4,6,7,2,0,1,5]] zcA4) (.seq (.seq (.reg [50] zcA5) (.cond (.t 51) (.seq (.reg [52] zcA6) .ret) .skip)) (.seq (.regm [53,54,55,56,57,58,59,60] [[],[],[],[0,1,2],[],[4],[],[5,6,3,4,0,1,2],[3,7,0,1,2,3,0,1,2,5,6,3,4,0,1,2,0,1,2],[7,8,0,1,2,3,4,5,6,7,8,5,6,3,4,0,1,2,3,7,0,1,2,3,0,1,2,5,6,3,4,0,1,2,0,1,2,0,1,2,4,5,6,3,4,0,1,2,3,7,0,1,2,3,0,1,2,5,6,3,4,0,1,2,0,1,2],[9,0,1,2,3,4,5,6,7,8,9,7,8,0,1,2,3,4,5,6,7,8,5,6,3,4,0,1,2,3,7,0,1,2,3,0,1,2,5,6,3,4,0,1,2,0,1,2,0,1,2,4,5,6,3,4,0,1,2,3,7,0,1,2,3,0,1,2,5,6,3,4,0,1,2,0,1,2,0,1,2,4,5,6,3,4,0,1,2,3,7,0,1,2,3,0,1,2,5,6,3,4,0,1,2,0,1,2,7,8,0,1,2,3,4,5,6,7,8,5,6,3,4,0,1,2,3,7,0,1,2,3,0,1,2,5,6,3,4,0,1,2,0,1,2,0,1,2,4,5,6,3,4,0,1,2,3,7,0,1,2,3,0,1,2,5,6,3,4,0,1,2,0,1,2]] zbH1) .ret))))))))
theorem zdU8:chkF C.P 17 zcA7 61 [.t 8,.t 9,.t 10] 4=true:=by kernel_rfl
attribute [go_sem] zcz7 zcz8 zcz9 zcA0 zcA1 zcA2 zcA3 zcA4 zcA5 zcA6 zbH1
def zcA8:=[oB 3 3 1,mo 4 .mv [oNi]]
def zcA9:=[mo 5 (.nilown 3 (Atom.enc Atom.zero)) [.c (A.full [])]]
def zcB0:=[oV 9 0,mo 10 .len [.t 9],oI 11 0]
def zcB1:=[oP 12 .lss [.t 11,.t 10]]
def zcB2:=[mo 13 (.iaS 8 (Queue.enc Queue.zero)) [.t 9,.t 11],oL 14 8 13,mo 7 (.alloc 8 (Queue.enc Queue.zero)) [],oS 8 7 14]
def zcB3:=[oL 15 8 7,oL 16 3 3,oC 17 66 [.t 15,.t 16],mo 8 (.alloc 2 (Amount.enc Amount.zero)) [],oS 2 8 17]
def zcB4:=[oL 18 2 8,mo 19 (.build (Amount.enc Amount.zero) []) [],mo 20 (.eqa true [.i .i64,.i .i64]) [.t 18,.t 19]]
def zcB5:=[oV 21 5,oA 22 0 7,oA 23 0 22,oM 24 1 23,oL 25 2 8,mo 26 (.build (Atom.enc Atom.zero) [(0,1),(1,2)]) [.t 24,.t 25],mo 27 (.bslice 3 (Atom.enc Atom.zero)) [.t 26],mo 28 (.append 3 32 (Atom.enc Atom.zero)) [.t 21,.t 27],oV 5 28]
def zcB6:=[oP 29 .add [.t 11,oK 1],oV 11 29]
def zcB7:=[oV 30 5,oV 4 30]
def zcB8:PC:=(.seq (.reg [] zcA8) (.seq (.reg [] zcA9) (.seq (.seq (.reg [] zcB0) (.block 0 (.loop (.seq (.reg [] zcB1) (.seq (.cond (.t 12) .skip (.exit 0)) (.seq (.block 1 (.seq (.reg [13,14] zcB2) (.seq (.reg [15,16,17] zcB3) (.seq (.reg [18,19] zcB4) (.cond (.t 20) (.reg [21,22,23,24,25,26,27,28] zcB5) .skip))))) (.reg [29] zcB6))))))) (.seq (.reg [30] zcB7) .ret))))
theorem zdU9:chkF C.P 51 zcB8 31 [.t 4] 2=true:=by kernel_rfl
attribute [go_sem] zcA8 zcA9 zcB0 zcB1 zcB2 zcB3 zcB4 zcB5 zcB6 zcB7
def zcB9:=[mo 0 .mv [oFa]]
def zcC0:=[mo 9 (.build (Resource.enc Resource.zero) [(0,1),(1,1),(2,1)]) [.c (A.str ⟨#[97]⟩),oK 1,oK 1],mo 10 (.bslice 4 (Resource.enc Resource.zero)) [.t 9],oC 11 12 [.t 10],oV 8 11,oE 12 0 8,oE 13 1 8,oV 1 12,oV 2 13]
def zcC1:=[oC 14 23 [oK 0],mo 3 (.alloc 3 (Proc.enc Proc.zero)) [],oS 3 3 14]
def zcC2:=[mo 15 (.build (Amount.enc Amount.zero) [(0,1)]) [oK 5],mo 16 (.build (Atom.enc Atom.zero) [(0,1),(1,2)]) [.c (A.str ⟨#[97]⟩),.t 15],mo 4 (.alloc 3 (Atom.enc Atom.zero)) [],oS 3 4 16]
def zcC3:=[oV 18 1,oL 19 3 3,oL 20 3 4,oC 21 17 [.t 18,.t 19,.t 20,oK 0],oV 17 21,oE 22 0 17,oE 23 1 17,oE 24 2 17,oV 1 22,oV 5 23,oV 6 24]
def zcC4:=[oV 25 1,oL 26 3 3,oC 27 51 [.t 25,.t 26],oV 7 27]
def zcC5:=[oV 28 2,oP 29 .eql [.t 28,oK 0],oV 30 29,oG 31 30 true .mv [.t 6],oG 32 30 true (.bin .eql) [.t 31,oK 0],mo 33 .pick [.t 30,.t 32,oFa],oV 34 33,oG 35 34 true .mv [.t 5],oG 36 34 true .len [.t 35],oG 37 34 true (.bin .eql) [.t 36,oK 1],mo 38 .pick [.t 34,.t 37,oFa],oV 39 38,oG 40 39 true .mv [.t 5],
 oG 41 39 true (.iaS 7 (Event.enc Event.zero)) [.t 40,oK 0],oG 42 39 true (.faddr 0) [.t 41],oG 43 39 true (.load 1 false) [.t 42],oG 44 39 true (.bin .eql) [.t 43,oK 1],mo 45 .pick [.t 39,.t 44,oFa],oV 46 45,oG 47 46 true .mv [.t 7],oG 48 46 true .len [.t 47],oG 49 46 true (.bin .eql) [.t 48,oK 1],
 mo 50 .pick [.t 46,.t 49,oFa],oV 51 50,oG 52 51 true .mv [.t 7],oG 53 51 true (.iaS 3 (Atom.enc Atom.zero)) [.t 52,oK 0],oG 54 51 true (.load 3 true) [.t 53],oG 55 51 true (.load 3 true) [.t 4],oG 56 51 true (.eqa false [.s,.i .i64,.i .i64]) [.t 54,.t 55],mo 57 .pick [.t 51,.t 56,oFa],oV 58 57,oG 59 58 true .mv [.t 1],
⟨some 60,some (58,true),.call 52,[.t 59,.c (A.str ⟨#[97]⟩)]⟩,oG 61 58 true (.bin .eql) [.t 60,oK 0],mo 62 .pick [.t 58,.t 61,oFa],oV 63 62,oG 64 63 true .mv [.t 1],oG 65 63 true (.call 53) [.t 64],mo 66 .pick [.t 63,.t 65,oFa],oV 0 66]
def zcC6:PC:=(.seq (.reg [] zcB9) (.seq (.reg [8,9,10,11,12,13] zcC0) (.seq (.reg [14] zcC1) (.seq (.reg [15,16] zcC2) (.seq (.reg [17,18,19,20,21,22,23,24] zcC3) (.seq (.reg [25,26,27] zcC4) (.seq (.regd [28,29,30,31,32,33,34,35,36,37,38,39,40,41,42,43,44,45,46,47,48,49,50,51,52,53,54,55,56,57,58,59,60,61,62,63,64,65,66] zcC5) .ret)))))))
theorem zdV0:chkF C.P 14 zcC6 67 [.t 0] 0=true:=by kernel_rfl
attribute [go_sem] zcB9 zcC0 zcC1 zcC2 zcC3 zcC4 zcC5
def zcC7:=[mo 4 .mv [oFa]]
def zcC8:=[oV 6 0,mo 7 .len [.t 6],oV 8 1,mo 9 .len [.t 8],oP 10 .neq [.t 7,.t 9]]
def zcC9:=[mo 4 .mv [oFa]]
def zcD0:=[oI 5 0]
def zcD1:=[oV 11 5,oV 12 0,mo 13 .len [.t 12],oP 14 .lss [.t 11,.t 13]]
def zcD2:=[oV 17 0,oV 18 5,mo 19 (.iaS 5 (Hold.enc Hold.zero)) [.t 17,.t 18],oL 20 5 19,oV 21 1,oV 22 5,mo 23 (.iaS 5 (Hold.enc Hold.zero)) [.t 21,.t 22],oL 24 5 23,mo 25 (.eqa true [.i .i64,.i .i64,.i .i64,.i .i64,.i .i64]) [.t 20,.t 24]]
def zcD3:=[mo 4 .mv [oFa]]
def zcD4:=[oV 15 5,oP 16 .add [.t 15,oK 1],oV 5 16]
def zcD5:=[mo 4 .mv [oTr]]
def zcD6:PC:=(.seq (.reg [] zcC7) (.seq (.seq (.reg [6,7,8,9] zcC8) (.cond (.t 10) (.seq (.reg [] zcC9) .ret) .skip)) (.seq (.seq (.reg [] zcD0) (.block 0 (.loop (.seq (.seq (.reg [11,12,13] zcD1) (.cond (.t 14) .skip (.exit 0))) (.seq (.block 1 (.seq (.regd [17,18,19,20,21,22,23,24] zcD2) (.cond (.t 25) (.seq (.reg [] zcD3) .ret) .skip))) (.reg [15,16] zcD4)))))) (.seq (.reg [] zcD5) .ret))))
theorem zdV1:chkF C.P 29 zcD6 26 [.t 4] 2=true:=by kernel_rfl
attribute [go_sem] zcC7 zcC8 zcC9 zcD0 zcD1 zcD2 zcD3 zcD4 zcD5
def zcD7:=[mo 4 .mv [oFa]]
def zcD8:=[oV 6 0,mo 7 .len [.t 6],oV 8 1,mo 9 .len [.t 8],oP 10 .neq [.t 7,.t 9]]
def zcD9:=[mo 4 .mv [oFa]]
def zcE0:=[oI 5 0]
def zcE1:=[oV 11 5,oV 12 0,mo 13 .len [.t 12],oP 14 .lss [.t 11,.t 13]]
def zcE2:=[oV 17 0,oV 18 5,mo 19 (.iaS 7 (Wait.enc Wait.zero)) [.t 17,.t 18],oL 20 7 19,oV 21 1,oV 22 5,mo 23 (.iaS 7 (Wait.enc Wait.zero)) [.t 21,.t 22],oL 24 7 23,mo 25 (.eqa true [.i .i64,.i .i64,.i .i64,.i .i64,.i .i64,.i .i64,.i .i64]) [.t 20,.t 24]]
def zcE3:=[mo 4 .mv [oFa]]
def zcE4:=[oV 15 5,oP 16 .add [.t 15,oK 1],oV 5 16]
def zcE5:=[mo 4 .mv [oTr]]
def zcE6:PC:=(.seq (.reg [] zcD7) (.seq (.seq (.reg [6,7,8,9] zcD8) (.cond (.t 10) (.seq (.reg [] zcD9) .ret) .skip)) (.seq (.seq (.reg [] zcE0) (.block 0 (.loop (.seq (.seq (.reg [11,12,13] zcE1) (.cond (.t 14) .skip (.exit 0))) (.seq (.block 1 (.seq (.regd [17,18,19,20,21,22,23,24] zcE2) (.cond (.t 25) (.seq (.reg [] zcE3) .ret) .skip))) (.reg [15,16] zcE4)))))) (.seq (.reg [] zcE5) .ret))))
theorem zdV2:chkF C.P 64 zcE6 26 [.t 4] 2=true:=by kernel_rfl
attribute [go_sem] zcD7 zcD8 zcD9 zcE0 zcE1 zcE2 zcE3 zcE4 zcE5
def zcE7:=[oB 2 8 0,oB 3 8 1,mo 4 .mv [oFa]]
def zcE8:=[oA 5 0 2,oL 6 4 5,oA 7 0 3,oL 8 4 7,mo 9 (.eqa false [.s,.i .i64,.i .i64,.i .i64]) [.t 6,.t 8],oV 10 9,oG 11 10 true (.faddr 7) [.t 2],oG 12 10 true (.load 1 false) [.t 11],oG 13 10 true (.faddr 7) [.t 3],oG 14 10 true (.load 1 false) [.t 13],oG 15 10 true (.bin .eql) [.t 12,.t 14],mo 16 .pick [.t 10,.t 15,oFa],
 oV 17 16,oG 18 17 true (.faddr 4) [.t 2],oG 19 17 true (.load 1 false) [.t 18],oG 20 17 true (.faddr 4) [.t 3],oG 21 17 true (.load 1 false) [.t 20],oG 22 17 true (.call 29) [.t 19,.t 21],mo 23 .pick [.t 17,.t 22,oFa],oV 24 23,oG 25 24 true (.faddr 5) [.t 2],oG 26 24 true (.load 1 false) [.t 25],oG 27 24 true (.faddr 5) [.t 3],
 oG 28 24 true (.load 1 false) [.t 27],oG 29 24 true (.call 64) [.t 26,.t 28],mo 30 .pick [.t 24,.t 29,oFa],oV 31 30,oG 32 31 true (.faddr 6) [.t 2],oG 33 31 true (.load 1 false) [.t 32],oG 34 31 true (.faddr 6) [.t 3],oG 35 31 true (.load 1 false) [.t 34],oG 36 31 true (.call 64) [.t 33,.t 35],mo 37 .pick [.t 31,.t 36,oFa],
 oV 4 37]
def zcE9:PC:=(.seq (.reg [] zcE7) (.seq (.reg [5,6,7,8,9,10,11,12,13,14,15,16,17,18,19,20,21,22,23,24,25,26,27,28,29,30,31,32,33,34,35,36,37] zcE8) .ret))
theorem zdV3:chkF C.P 25 zcE9 38 [.t 4] 2=true:=by kernel_rfl
attribute [go_sem] zcE7 zcE8
def zcF0:=[mo 4 .mv [oFa]]
def zcF1:=[oV 6 0,mo 7 .len [.t 6],oV 8 1,mo 9 .len [.t 8],oP 10 .neq [.t 7,.t 9]]
def zcF2:=[mo 4 .mv [oFa]]
def zcF3:=[oI 5 0]
def zcF4:=[oV 11 5,oV 12 0,mo 13 .len [.t 12],oP 14 .lss [.t 11,.t 13]]
def zcF5:=[oV 17 0,oV 18 5,mo 19 (.iaS 8 (Queue.enc Queue.zero)) [.t 17,.t 18],oL 20 8 19,oV 21 1,oV 22 5,mo 23 (.iaS 8 (Queue.enc Queue.zero)) [.t 21,.t 22],oL 24 8 23,oC 25 25 [.t 20,.t 24],mo 26 .not [.t 25]]
def zcF6:=[mo 4 .mv [oFa]]
def zcF7:=[oV 15 5,oP 16 .add [.t 15,oK 1],oV 5 16]
def zcF8:=[mo 4 .mv [oTr]]
def zcF9:PC:=(.seq (.reg [] zcF0) (.seq (.seq (.reg [6,7,8,9] zcF1) (.cond (.t 10) (.seq (.reg [] zcF2) .ret) .skip)) (.seq (.seq (.reg [] zcF3) (.block 0 (.loop (.seq (.seq (.reg [11,12,13] zcF4) (.cond (.t 14) .skip (.exit 0))) (.seq (.block 1 (.seq (.regd [17,18,19,20,21,22,23,24,25] zcF5) (.cond (.t 26) (.seq (.reg [] zcF6) .ret) .skip))) (.reg [15,16] zcF7)))))) (.seq (.reg [] zcF8) .ret))))
theorem zdV4:chkF C.P 15 zcF9 27 [.t 4] 2=true:=by kernel_rfl
attribute [go_sem] zcF0 zcF1 zcF2 zcF3 zcF4 zcF5 zcF6 zcF7 zcF8
def zcG0:=[mo 2 .mv [oFa]]
def zcG1:=[oV 4 0,mo 5 .len [.t 4],oP 6 .gtr [.t 5,oK 20]]
def zcG2:=[mo 2 .mv [oFa]]
def zcG3:=[oI 3 0]
def zcG4:=[oV 7 3,oV 8 0,mo 9 .len [.t 8],oP 10 .lss [.t 7,.t 9]]
def zcG5:=[oV 13 0,oV 14 3,mo 15 (.iaS 8 (Queue.enc Queue.zero)) [.t 13,.t 14],oA 16 4 15,oM 17 1 16,mo 18 .len [.t 17],oP 19 .gtr [.t 18,oK 20],oV 20 19,oG 21 20 false .mv [.t 0],oG 22 20 false .mv [.t 3],oG 23 20 false (.iaS 8 (Queue.enc Queue.zero)) [.t 21,.t 22],oG 24 20 false (.faddr 5) [.t 23],
 oG 25 20 false (.load 1 false) [.t 24],oG 26 20 false .len [.t 25],oG 27 20 false (.bin .gtr) [.t 26,oK 20],mo 28 .pick [.t 20,oTr,.t 27],oV 29 28,oG 30 29 false .mv [.t 0],oG 31 29 false .mv [.t 3],oG 32 29 false (.iaS 8 (Queue.enc Queue.zero)) [.t 30,.t 31],oG 33 29 false (.faddr 6) [.t 32],oG 34 29 false (.load 1 false) [.t 33],
 oG 35 29 false .len [.t 34],oG 36 29 false (.bin .gtr) [.t 35,oK 20],mo 37 .pick [.t 29,oTr,.t 36]]
def zcG6:=[mo 2 .mv [oFa]]
def zcG7:=[oV 11 3,oP 12 .add [.t 11,oK 1],oV 3 12]
def zcG8:=[mo 2 .mv [oTr]]
def zcG9:PC:=(.seq (.reg [] zcG0) (.seq (.seq (.reg [4,5] zcG1) (.cond (.t 6) (.seq (.reg [] zcG2) .ret) .skip)) (.seq (.seq (.reg [] zcG3) (.block 0 (.loop (.seq (.seq (.reg [7,8,9] zcG4) (.cond (.t 10) .skip (.exit 0))) (.seq (.block 1 (.seq (.reg [13,14,15,16,17,18,19,20,21,22,23,24,25,26,27,28,29,30,31,32,33,34,35,36] zcG5) (.cond (.t 37) (.seq (.reg [] zcG6) .ret) .skip))) (.reg [11,12] zcG7)))))) (.seq (.reg [] zcG8) .ret))))
theorem zdV5:chkF C.P 16 zcG9 38 [.t 2] 1=true:=by kernel_rfl
attribute [go_sem] zcG0 zcG1 zcG2 zcG3 zcG4 zcG5 zcG6 zcG7 zcG8
def zcH0:=[oB 1 3 0,mo 2 .mv [oFa]]
def zcH1:=[oA 3 0 1,oM 4 1 3,oP 5 .geq [.t 4,oK 0],oV 6 5,oG 7 6 true (.faddr 0) [.t 1],oG 8 6 true (.load 1 false) [.t 7],oG 9 6 true (.bin .lss) [.t 8,oK 4],mo 10 .pick [.t 6,.t 9,oFa],oV 11 10,oG 12 11 true (.faddr 1) [.t 1],oG 13 11 true (.load 1 false) [.t 12],oG 14 11 true (.bin .geq) [.t 13,oK 1],
 mo 15 .pick [.t 11,.t 14,oFa],oV 16 15,oG 17 16 true (.faddr 1) [.t 1],oG 18 16 true (.load 1 false) [.t 17],oG 19 16 true (.bin .leq) [.t 18,oK 99],mo 20 .pick [.t 16,.t 19,oFa],oV 21 20,oG 22 21 true (.faddr 2) [.t 1],oG 23 21 true (.load 1 false) [.t 22],oG 24 21 true (.bin .geq) [.t 23,oK 1],mo 25 .pick [.t 21,.t 24,oFa],
 oV 26 25,oG 27 26 true (.faddr 2) [.t 1],oG 28 26 true (.load 1 false) [.t 27],oG 29 26 true (.bin .leq) [.t 28,oK 999],mo 30 .pick [.t 26,.t 29,oFa],oV 2 30]
def zcH2:PC:=(.seq (.reg [] zcH0) (.seq (.reg [3,4,5,6,7,8,9,10,11,12,13,14,15,16,17,18,19,20,21,22,23,24,25,26,27,28,29,30] zcH1) .ret))
theorem zdV6:chkF C.P 97 zcH2 31 [.t 2] 1=true:=by kernel_rfl
attribute [go_sem] zcH0 zcH1
def zcH3:=[mo 2 .mv [oFa]]
def zcH4:=[oV 3 0,oP 4 .geq [.t 3,oK 1],oV 5 4,oG 6 5 true .mv [.t 0],oG 7 5 true (.bin .leq) [.t 6,oK 5],mo 8 .pick [.t 5,.t 7,oFa],oV 2 8]
def zcH5:PC:=(.seq (.reg [] zcH3) (.seq (.reg [3,4,5,6,7,8] zcH4) .ret))
theorem zdV7:chkF C.P 143 zcH5 9 [.t 2] 1=true:=by kernel_rfl
attribute [go_sem] zcH3 zcH4
def zcH6:=[oB 2 4 0,oB 3 2 1,mo 4 .mv [oFa]]
def zcH7:=[oL 5 4 2,oC 6 128 [.t 5],mo 7 .not [.t 6]]
def zcH8:=[mo 4 .mv [oFa]]
def zcH9:=[oA 8 1 2,oM 9 1 8,oP 10 .eql [.t 9,oK 1]]
def zcI0:=[oA 11 0 3,oM 12 1 11,oC 13 143 [.t 12],oV 14 13,oG 15 14 true (.faddr 1) [.t 3],oG 16 14 true (.load 1 false) [.t 15],oG 17 14 true (.bin .eql) [.t 16,oK 0],mo 18 .pick [.t 14,.t 17,oFa],oV 4 18]
def zcI1:=[oA 19 0 3,oM 20 1 19,oP 21 .eql [.t 20,oK 0],oV 22 21,oG 23 22 true (.faddr 1) [.t 3],oG 24 22 true (.load 1 false) [.t 23],oG 25 22 true (.bin .geq) [.t 24,oK 1],mo 26 .pick [.t 22,.t 25,oFa],oV 27 26,oG 28 27 true (.faddr 1) [.t 3],oG 29 27 true (.load 1 false) [.t 28],oG 30 27 true (.faddr 2) [.t 2],
 oG 31 27 true (.load 1 false) [.t 30],oG 32 27 true (.bin .leq) [.t 29,.t 31],mo 33 .pick [.t 27,.t 32,oFa],oV 4 33]
def zcI2:PC:=(.seq (.reg [] zcH6) (.seq (.seq (.reg [5,6] zcH7) (.cond (.t 7) (.seq (.reg [] zcH8) .ret) .skip)) (.seq (.seq (.reg [8,9] zcH9) (.cond (.t 10) (.seq (.reg [11,12,13,14,15,16,17,18] zcI0) .ret) .skip)) (.seq (.reg [19,20,21,22,23,24,25,26,27,28,29,30,31,32,33] zcI1) .ret))))
theorem zdV8:chkF C.P 98 zcI2 34 [.t 4] 2=true:=by kernel_rfl
attribute [go_sem] zcH6 zcH7 zcH8 zcH9 zcI0 zcI1
def zcI3:=[oI 4 0]
def zcI4:=[oV 5 0,oV 6 1,oP 7 .lss [.t 5,.t 6]]
def zcI5:=[oI 4 (-1)]
def zcI6:=[oV 8 0,oV 9 1,oP 10 .gtr [.t 8,.t 9]]
def zcI7:=[oI 4 1]
def zcI8:=[oI 4 0]
def zcI9:PC:=(.seq (.reg [] zcI3) (.seq (.seq (.reg [5,6] zcI4) (.cond (.t 7) (.seq (.reg [] zcI5) .ret) .skip)) (.seq (.seq (.reg [8,9] zcI6) (.cond (.t 10) (.seq (.reg [] zcI7) .ret) .skip)) (.seq (.reg [] zcI8) .ret))))
theorem zdV9:chkF C.P 111 zcI9 11 [.t 4] 2=true:=by kernel_rfl
attribute [go_sem] zcI3 zcI4 zcI5 zcI6 zcI7 zcI8
def zcJ0:=[oB 2 3 0,oB 3 3 1,oI 4 0]
def zcJ1:=[oA 7 0 2,oM 8 1 7,oA 9 0 3,oM 10 1 9,oC 11 111 [.t 8,.t 10],oV 5 11]
def zcJ2:=[oV 12 5,oP 13 .neq [.t 12,oK 0]]
def zcJ3:=[oV 14 5,oV 4 14]
def zcJ4:=[oA 15 1 2,oM 16 1 15,oA 17 1 3,oM 18 1 17,oC 19 111 [.t 16,.t 18],oV 6 19]
def zcJ5:=[oV 20 6,oP 21 .neq [.t 20,oK 0]]
def zcJ6:=[oV 22 6,oV 4 22]
def zcJ7:=[oA 23 2 2,oM 24 1 23,oA 25 2 3,oM 26 1 25,oC 27 111 [.t 24,.t 26],oV 4 27]
def zcJ8:PC:=(.seq (.reg [] zcJ0) (.seq (.seq (.reg [7,8,9,10,11] zcJ1) (.seq (.reg [12] zcJ2) (.cond (.t 13) (.seq (.reg [14] zcJ3) .ret) .skip))) (.seq (.seq (.reg [15,16,17,18,19] zcJ4) (.seq (.reg [20] zcJ5) (.cond (.t 21) (.seq (.reg [22] zcJ6) .ret) .skip))) (.seq (.reg [23,24,25,26,27] zcJ7) .ret))))
theorem zdW0:chkF C.P 68 zcJ8 28 [.t 4] 2=true:=by kernel_rfl
attribute [go_sem] zcJ0 zcJ1 zcJ2 zcJ3 zcJ4 zcJ5 zcJ6 zcJ7
def zcJ9:=[mo 2 .mv [oNi]]
def zcK0:=[mo 3 (.nilown 2 (Amount.enc Amount.zero)) [.c (A.full [])]]
def zcK1:=[oI 4 0]
def zcK2:=[oV 5 4,oV 6 0,mo 7 .len [.t 6],oP 8 .lss [.t 5,.t 7]]
def zcK3:=[oV 11 3,oV 12 0,oV 13 4,mo 14 (.iaS 5 (Hold.enc Hold.zero)) [.t 12,.t 13],oA 15 3 14,oL 16 2 15,mo 17 (.bslice 2 (Amount.enc Amount.zero)) [.t 16],mo 18 (.append 2 16 (Amount.enc Amount.zero)) [.t 11,.t 17],oV 3 18]
def zcK4:=[oV 9 4,oP 10 .add [.t 9,oK 1],oV 4 10]
def zcK5:=[oV 19 3,oV 2 19]
def zcK6:PC:=(.seq (.reg [] zcJ9) (.seq (.reg [] zcK0) (.seq (.seq (.reg [] zcK1) (.block 0 (.loop (.seq (.seq (.reg [5,6,7] zcK2) (.cond (.t 8) .skip (.exit 0))) (.seq (.block 1 (.reg [11,12,13,14,15,16,17,18] zcK3)) (.reg [9,10] zcK4)))))) (.seq (.reg [19] zcK5) .ret))))
theorem zdW1:chkF C.P 184 zcK6 20 [.t 2] 1=true:=by kernel_rfl
attribute [go_sem] zcJ9 zcK0 zcK1 zcK2 zcK3 zcK4 zcK5
def zcK7:=[oB 1 2 0,mo 2 .mv [oFa]]
def zcK8:=[oL 3 2 1,mo 4 (.build (Amount.enc Amount.zero) []) [],mo 5 (.eqa false [.i .i64,.i .i64]) [.t 3,.t 4],oV 2 5]
def zcK9:PC:=(.seq (.reg [] zcK7) (.seq (.reg [3,4,5] zcK8) .ret))
theorem zdW2:chkF C.P 30 zcK9 6 [.t 2] 1=true:=by kernel_rfl
attribute [go_sem] zcK7 zcK8
def zcL0:=[oB 2 4 0,oB 3 2 1,mo 4 .mv [oFa]]
def zcL1:=[oL 5 4 2,oC 6 128 [.t 5],oV 7 6,oG 8 7 true (.load 2 true) [.t 3],oG 9 7 true (.call 30) [.t 8],oG 10 7 true .mv [.t 9],oG 11 10 false (.load 4 true) [.t 2],oG 12 10 false (.load 2 true) [.t 3],oG 13 10 false (.call 98) [.t 11,.t 12],oG 14 7 true .pick [.t 10,oTr,.t 13],mo 15 .pick [.t 7,.t 14,oFa],
 oV 4 15]
def zcL2:PC:=(.seq (.reg [] zcL0) (.seq (.reg [5,6,7,8,9,10,11,12,13,14,15] zcL1) .ret))
theorem zdW3:chkF C.P 145 zcL2 16 [.t 4] 2=true:=by kernel_rfl
attribute [go_sem] zcL0 zcL1
def zcL3:=[mo 4 .mv [oFa]]
def zcL4:=[oV 5 0,oC 6 143 [.t 5],mo 7 .not [.t 6],oV 8 7,oG 9 8 false .mv [.t 1],oG 10 8 false (.call 143) [.t 9],oG 11 8 false .not [.t 10],mo 12 .pick [.t 8,oTr,.t 11],oV 13 12,oG 14 13 false .mv [.t 0],oG 15 13 false (.bin .eql) [.t 14,oK 5],mo 16 .pick [.t 13,oTr,.t 15],oV 17 16,oG 18 17 false .mv [.t 1],
 oG 19 17 false (.bin .eql) [.t 18,oK 5],mo 20 .pick [.t 17,oTr,.t 19]]
def zcL5:=[mo 4 .mv [oFa]]
def zcL6:=[oV 21 0,oP 22 .eql [.t 21,oK 1],oV 23 22,oG 24 23 false .mv [.t 1],oG 25 23 false (.bin .eql) [.t 24,oK 1],mo 26 .pick [.t 23,oTr,.t 25],oV 27 26,oG 28 27 false .mv [.t 0],oG 29 27 false .mv [.t 1],oG 30 27 false (.bin .eql) [.t 28,.t 29],oG 31 27 false .mv [.t 30],oG 32 31 true .mv [.t 0],
 oG 33 31 true (.bin .neq) [.t 32,oK 4],oG 34 27 false .pick [.t 31,.t 33,oFa],mo 35 .pick [.t 27,oTr,.t 34],oV 4 35]
def zcL7:PC:=(.seq (.reg [] zcL3) (.seq (.seq (.reg [5,6,7,8,9,10,11,12,13,14,15,16,17,18,19] zcL4) (.cond (.t 20) (.seq (.reg [] zcL5) .ret) .skip)) (.seq (.reg [21,22,23,24,25,26,27,28,29,30,31,32,33,34,35] zcL6) .ret)))
theorem zdW4:chkF C.P 191 zcL7 36 [.t 4] 2=true:=by kernel_rfl
attribute [go_sem] zcL3 zcL4 zcL5 zcL6
def zcL8:=[oB 2 4 0,mo 4 .mv [oFa]]
def zcL9:=[oL 8 4 2,oC 9 128 [.t 8],mo 10 .not [.t 9]]
def zcM0:=[mo 4 .mv [oFa]]
def zcM1:=[oI 5 0]
def zcM2:=[oI 6 0]
def zcM3:=[oV 11 6,oV 12 1,mo 13 .len [.t 12],oP 14 .lss [.t 11,.t 13]]
def zcM4:=[oL 17 4 2,oV 18 1,oV 19 6,mo 20 (.iaS 2 (Amount.enc Amount.zero)) [.t 18,.t 19],oL 21 2 20,oC 22 145 [.t 17,.t 21],mo 23 .not [.t 22]]
def zcM5:=[mo 4 .mv [oFa]]
def zcM6:=[oA 24 1 2,oM 25 1 24,oP 26 .eql [.t 25,oK 2]]
def zbH2:=[oV 27 5,oV 28 1,oV 29 6,mo 30 (.iaS 2 (Amount.enc Amount.zero)) [.t 28,.t 29],oA 31 1 30,oM 32 1 31,oP 33 .add [.t 27,.t 32],oV 5 33]
def zbH3:=[oV 34 5,oA 35 2 2,oM 36 1 35,oP 37 .gtr [.t 34,.t 36]]
def zbH4:=[mo 4 .mv [oFa]]
def zbH5:=[oI 7 0]
def zbH6:=[oV 38 7,oV 39 6,oP 40 .lss [.t 38,.t 39]]
def zbH7:=[oV 43 1,oV 44 6,mo 45 (.iaS 2 (Amount.enc Amount.zero)) [.t 43,.t 44],oL 46 2 45,oC 47 30 [.t 46],mo 48 .not [.t 47],oV 49 48,oG 50 49 true .mv [.t 1],oG 51 49 true .mv [.t 7],oG 52 49 true (.iaS 2 (Amount.enc Amount.zero)) [.t 50,.t 51],oG 53 49 true (.load 2 true) [.t 52],oG 54 49 true (.call 30) [.t 53],
 oG 55 49 true .not [.t 54],mo 56 .pick [.t 49,.t 55,oFa],oV 57 56,oG 58 57 true .mv [.t 1],oG 59 57 true .mv [.t 6],oG 60 57 true (.iaS 2 (Amount.enc Amount.zero)) [.t 58,.t 59],oG 61 57 true (.faddr 0) [.t 60],oG 62 57 true (.load 1 false) [.t 61],oG 63 57 true .mv [.t 1],oG 64 57 true .mv [.t 7],
 oG 65 57 true (.iaS 2 (Amount.enc Amount.zero)) [.t 63,.t 64],oG 66 57 true (.faddr 0) [.t 65],oG 67 57 true (.load 1 false) [.t 66],oG 68 57 true (.call 191) [.t 62,.t 67],oG 69 57 true .not [.t 68],mo 70 .pick [.t 57,.t 69,oFa]]
def zbH8:=[mo 4 .mv [oFa]]
def zbH9:=[oV 41 7,oP 42 .add [.t 41,oK 1],oV 7 42]
def zcM7:=[oV 15 6,oP 16 .add [.t 15,oK 1],oV 6 16]
def zbI0:=[mo 4 .mv [oTr]]
def zcM8:PC:=(.seq (.reg [] zcL8) (.seq (.seq (.reg [8,9] zcL9) (.cond (.t 10) (.seq (.reg [] zcM0) .ret) .skip)) (.seq (.reg [] zcM1) (.seq (.seq (.reg [] zcM2) (.block 0 (.loop (.seq (.seq (.reg [11,12,13] zcM3) (.cond (.t 14) .skip (.exit 0))) (.seq (.block 1 (.seq (.seq (.regd [17,18,19,20,21,22] zcM4) (.cond (.t 23) (.seq (.reg [] zcM5) .ret) .skip)) (.seq (.seq (.reg [24,25] zcM6) (.cond (.t 26) (.seq (.reg [27,28,29,30,31,32,33] zbH2) (.seq (.seq (.reg [34,35,36] zbH3) (.cond (.t 37) (.seq (.reg [] zbH4) .ret) .skip)) (.exit 1))) .skip)) (.seq (.reg [] zbH5) (.block 2 (.loop (.seq (.seq (.reg [38,39] zbH6) (.cond (.t 40) .skip (.exit 2))) (.seq (.block 3 (.seq (.regd [43,44,45,46,47,48,49,50,51,52,53,54,55,56,57,58,59,60,61,62,63,64,65,66,67,68,69] zbH7) (.cond (.t 70) (.seq (.reg [] zbH8) .ret) .skip))) (.reg [41,42] zbH9))))))))) (.reg [15,16] zcM7)))))) (.seq (.reg [] zbI0) .ret)))))
theorem zdW5:chkF C.P 183 zcM8 71 [.t 4] 2=true:=by kernel_rfl
attribute [go_sem] zcL8 zcL9 zcM0 zcM1 zcM2 zcM3 zcM4 zcM5 zcM6 zbH2 zbH3 zbH4 zbH5 zbH6 zbH7 zbH8 zbH9 zcM7 zbI0
def zcM9:=[oB 2 4 0,mo 4 .mv [oFa]]
def zcN0:=[oL 6 4 2,oC 7 128 [.t 6],mo 8 .not [.t 7],oV 9 8,oG 10 9 false .mv [.t 1],oG 11 9 false .len [.t 10],oG 12 9 false (.bin .gtr) [.t 11,oK 8],mo 13 .pick [.t 9,oTr,.t 12]]
def zcN1:=[mo 4 .mv [oFa]]
def zcN2:=[oI 5 0]
def zcN3:=[oV 14 5,oV 15 1,mo 16 .len [.t 15],oP 17 .lss [.t 14,.t 16]]
def zcN4:=[oV 20 1,oV 21 5,mo 22 (.iaS 5 (Hold.enc Hold.zero)) [.t 20,.t 21],oA 23 0 22,oL 24 3 23,oC 25 97 [.t 24],mo 26 .not [.t 25],oV 27 26,oG 28 27 false (.load 4 true) [.t 2],oG 29 27 false .mv [.t 1],oG 30 27 false .mv [.t 5],oG 31 27 false (.iaS 5 (Hold.enc Hold.zero)) [.t 29,.t 30],oG 32 27 false (.faddr 3) [.t 31],
 oG 33 27 false (.load 2 true) [.t 32],oG 34 27 false (.call 98) [.t 28,.t 33],oG 35 27 false .not [.t 34],mo 36 .pick [.t 27,oTr,.t 35],oV 37 36,oG 38 37 false .mv [.t 5],oG 39 37 false (.bin .gtr) [.t 38,oK 0],oG 40 37 false .mv [.t 39],oG 41 40 true .mv [.t 1],oG 42 40 true .mv [.t 5],oG 43 40 true (.bin .sub) [.t 42,oK 1],
 oG 44 40 true (.iaS 5 (Hold.enc Hold.zero)) [.t 41,.t 43],oG 45 40 true (.faddr 0) [.t 44],oG 46 40 true (.load 3 true) [.t 45],oG 47 40 true .mv [.t 1],oG 48 40 true .mv [.t 5],oG 49 40 true (.iaS 5 (Hold.enc Hold.zero)) [.t 47,.t 48],oG 50 40 true (.faddr 0) [.t 49],oG 51 40 true (.load 3 true) [.t 50],
 oG 52 40 true (.call 68) [.t 46,.t 51],oG 53 40 true (.bin .geq) [.t 52,oK 0],oG 54 37 false .pick [.t 40,.t 53,oFa],mo 55 .pick [.t 37,oTr,.t 54]]
def zcN5:=[mo 4 .mv [oFa]]
def zcN6:=[oV 18 5,oP 19 .add [.t 18,oK 1],oV 5 19]
def zcN7:=[oL 56 4 2,oV 57 1,oC 58 184 [.t 57],oC 59 183 [.t 56,.t 58],oV 4 59]
def zcN8:PC:=(.seq (.reg [] zcM9) (.seq (.seq (.reg [6,7,8,9,10,11,12] zcN0) (.cond (.t 13) (.seq (.reg [] zcN1) .ret) .skip)) (.seq (.seq (.reg [] zcN2) (.block 0 (.loop (.seq (.seq (.reg [14,15,16] zcN3) (.cond (.t 17) .skip (.exit 0))) (.seq (.block 1 (.seq (.regd [20,21,22,23,24,25,26,27,28,29,30,31,32,33,34,35,36,37,38,39,40,41,42,43,44,45,46,47,48,49,50,51,52,53,54] zcN4) (.cond (.t 55) (.seq (.reg [] zcN5) .ret) .skip))) (.reg [18,19] zcN6)))))) (.seq (.regd [56,57,58,59] zcN7) .ret))))
theorem zdW6:chkF C.P 164 zcN8 60 [.t 4] 2=true:=by kernel_rfl
attribute [go_sem] zcM9 zcN0 zcN1 zcN2 zcN3 zcN4 zcN5 zcN6 zcN7
def zcN9:=[oB 1 2 0,mo 2 .mv [oFa]]
def zcO0:=[oA 3 0 1,oM 4 1 3,oC 5 143 [.t 4],oV 6 5,oG 7 6 true (.faddr 1) [.t 1],oG 8 6 true (.load 1 false) [.t 7],oG 9 6 true (.bin .eql) [.t 8,oK 0],mo 10 .pick [.t 6,.t 9,oFa],oV 11 10,oG 12 11 false (.faddr 0) [.t 1],oG 13 11 false (.load 1 false) [.t 12],oG 14 11 false (.bin .eql) [.t 13,oK 0],
 oG 15 11 false .mv [.t 14],oG 16 15 true (.faddr 1) [.t 1],oG 17 15 true (.load 1 false) [.t 16],oG 18 15 true (.bin .geq) [.t 17,oK 1],oG 19 11 false .pick [.t 15,.t 18,oFa],oG 20 11 false .mv [.t 19],oG 21 20 true (.faddr 1) [.t 1],oG 22 20 true (.load 1 false) [.t 21],oG 23 20 true (.bin .leq) [.t 22,oK 8],
 oG 24 11 false .pick [.t 20,.t 23,oFa],mo 25 .pick [.t 11,oTr,.t 24],oV 2 25]
def zcO1:PC:=(.seq (.reg [] zcN9) (.seq (.reg [3,4,5,6,7,8,9,10,11,12,13,14,15,16,17,18,19,20,21,22,23,24,25] zcO0) .ret))
theorem zdW7:chkF C.P 167 zcO1 26 [.t 2] 1=true:=by kernel_rfl
attribute [go_sem] zcN9 zcO0
def zcO2:=[oB 1 7 0,mo 2 .mv [oFa]]
def zcO3:=[oA 3 0 1,oL 4 3 3,oC 5 97 [.t 4],oV 6 5,oG 7 6 true (.faddr 3) [.t 1],oG 8 6 true (.load 2 true) [.t 7],oG 9 6 true (.call 167) [.t 8],mo 10 .pick [.t 6,.t 9,oFa],oV 11 10,oG 12 11 true (.faddr 5) [.t 1],oG 13 11 true (.load 1 false) [.t 12],oG 14 11 true (.bin .geq) [.t 13,oK 0],mo 15 .pick [.t 11,.t 14,oFa],
 oV 16 15,oG 17 16 true (.faddr 5) [.t 1],oG 18 16 true (.load 1 false) [.t 17],oG 19 16 true (.bin .leq) [.t 18,oK 7],mo 20 .pick [.t 16,.t 19,oFa],oV 21 20,oG 22 21 true (.faddr 6) [.t 1],oG 23 21 true (.load 1 false) [.t 22],oG 24 21 true (.bin .geq) [.t 23,oK 0],mo 25 .pick [.t 21,.t 24,oFa],oV 26 25,
 oG 27 26 true (.faddr 6) [.t 1],oG 28 26 true (.load 1 false) [.t 27],oG 29 26 true (.bin .leq) [.t 28,oK 3],mo 30 .pick [.t 26,.t 29,oFa],oV 2 30]
def zcO4:PC:=(.seq (.reg [] zcO2) (.seq (.reg [3,4,5,6,7,8,9,10,11,12,13,14,15,16,17,18,19,20,21,22,23,24,25,26,27,28,29,30] zcO3) .ret))
theorem zdW8:chkF C.P 151 zcO4 31 [.t 2] 1=true:=by kernel_rfl
attribute [go_sem] zcO2 zcO3
def zcO5:=[oB 3 3 1,oI 4 0]
def zcO6:=[oI 5 0]
def zcO7:=[oV 6 5,oV 7 0,mo 8 .len [.t 7],oP 9 .lss [.t 6,.t 8]]
def zcO8:=[oV 12 0,oV 13 5,mo 14 (.iaS 7 (Wait.enc Wait.zero)) [.t 12,.t 13],oA 15 0 14,oL 16 3 15,oL 17 3 3,mo 18 (.eqa false [.i .i64,.i .i64,.i .i64]) [.t 16,.t 17]]
def zcO9:=[oV 19 5,oV 4 19]
def zcP0:=[oV 10 5,oP 11 .add [.t 10,oK 1],oV 5 11]
def zcP1:=[oI 4 (-1)]
def zcP2:PC:=(.seq (.reg [] zcO5) (.seq (.seq (.reg [] zcO6) (.block 0 (.loop (.seq (.seq (.reg [6,7,8] zcO7) (.cond (.t 9) .skip (.exit 0))) (.seq (.block 1 (.seq (.regd [12,13,14,15,16,17] zcO8) (.cond (.t 18) (.seq (.reg [19] zcO9) .ret) .skip))) (.reg [10,11] zcP0)))))) (.seq (.reg [] zcP1) .ret)))
theorem zdW9:chkF C.P 144 zcP2 20 [.t 4] 2=true:=by kernel_rfl
attribute [go_sem] zcO5 zcO6 zcO7 zcO8 zcO9 zcP0 zcP1
def zcP3:=[mo 2 .mv [oFa]]
def zcP4:=[oV 4 0,mo 5 .len [.t 4],oP 6 .gtr [.t 5,oK 8]]
def zcP5:=[mo 2 .mv [oFa]]
def zcP6:=[oI 3 0]
def zcP7:=[oV 7 3,oV 8 0,mo 9 .len [.t 8],oP 10 .lss [.t 7,.t 9]]
def zcP8:=[oV 13 0,oV 14 3,mo 15 (.iaS 7 (Wait.enc Wait.zero)) [.t 13,.t 14],oL 16 7 15,oC 17 151 [.t 16],mo 18 .not [.t 17],oV 19 18,oG 20 19 false .mv [.t 0],oG 21 19 false .mv [.t 0],oG 22 19 false .mv [.t 3],oG 23 19 false (.iaS 7 (Wait.enc Wait.zero)) [.t 21,.t 22],oG 24 19 false (.faddr 0) [.t 23],
 oG 25 19 false (.load 3 true) [.t 24],oG 26 19 false (.call 144) [.t 20,.t 25],oG 27 19 false .mv [.t 3],oG 28 19 false (.bin .neq) [.t 26,.t 27],mo 29 .pick [.t 19,oTr,.t 28]]
def zcP9:=[mo 2 .mv [oFa]]
def zcQ0:=[oV 11 3,oP 12 .add [.t 11,oK 1],oV 3 12]
def zcQ1:=[mo 2 .mv [oTr]]
def zcQ2:PC:=(.seq (.reg [] zcP3) (.seq (.seq (.reg [4,5] zcP4) (.cond (.t 6) (.seq (.reg [] zcP5) .ret) .skip)) (.seq (.seq (.reg [] zcP6) (.block 0 (.loop (.seq (.seq (.reg [7,8,9] zcP7) (.cond (.t 10) .skip (.exit 0))) (.seq (.block 1 (.seq (.reg [13,14,15,16,17,18,19,20,21,22,23,24,25,26,27,28] zcP8) (.cond (.t 29) (.seq (.reg [] zcP9) .ret) .skip))) (.reg [11,12] zcQ0)))))) (.seq (.reg [] zcQ1) .ret))))
theorem zdX0:chkF C.P 150 zcQ2 30 [.t 2] 1=true:=by kernel_rfl
attribute [go_sem] zcP3 zcP4 zcP5 zcP6 zcP7 zcP8 zcP9 zcQ0 zcQ1
def zcQ3:=[oB 3 3 1,mo 4 (.alloc 2 (Amount.enc Amount.zero)) []]
def zcQ4:=[oI 5 0]
def zcQ5:=[oV 6 5,oV 7 0,mo 8 .len [.t 7],oP 9 .lss [.t 6,.t 8]]
def zcQ6:=[oV 12 0,oV 13 5,mo 14 (.iaS 5 (Hold.enc Hold.zero)) [.t 12,.t 13],oA 15 0 14,oL 16 3 15,oL 17 3 3,mo 18 (.eqa false [.i .i64,.i .i64,.i .i64]) [.t 16,.t 17]]
def zcQ7:=[oV 19 0,oV 20 5,mo 21 (.iaS 5 (Hold.enc Hold.zero)) [.t 19,.t 20],oA 22 3 21,oL 23 2 22,oS 2 4 23]
def zcQ8:=[oV 10 5,oP 11 .add [.t 10,oK 1],oV 5 11]
def zcQ9:=[mo 24 (.build (Amount.enc Amount.zero) []) [],oS 2 4 24]
def zcR0:PC:=(.seq (.reg [] zcQ3) (.seq (.seq (.reg [] zcQ4) (.block 0 (.loop (.seq (.seq (.reg [6,7,8] zcQ5) (.cond (.t 9) .skip (.exit 0))) (.seq (.block 1 (.seq (.regd [12,13,14,15,16,17] zcQ6) (.cond (.t 18) (.seq (.reg [19,20,21,22,23] zcQ7) .ret) .skip))) (.reg [10,11] zcQ8)))))) (.seq (.reg [24] zcQ9) .ret)))
theorem zdX1:chkF C.P 69 zcR0 25 [.c 4 2 true] 2=true:=by kernel_rfl
attribute [go_sem] zcQ3 zcQ4 zcQ5 zcQ6 zcQ7 zcQ8 zcQ9
def zcR1:=[mo 4 .mv [oFa]]
def zcR2:=[oV 5 0,oC 6 143 [.t 5],mo 7 .not [.t 6],oV 8 7,oG 9 8 false .mv [.t 1],oG 10 8 false (.call 143) [.t 9],oG 11 8 false .not [.t 10],mo 12 .pick [.t 8,oTr,.t 11]]
def zcR3:=[mo 4 .mv [oFa]]
def zcR4:=[oV 13 0,oV 14 1,oP 15 .eql [.t 13,.t 14],oV 16 15,oG 17 16 false .mv [.t 0],oG 18 16 false (.bin .eql) [.t 17,oK 5],mo 19 .pick [.t 16,oTr,.t 18],oV 20 19,oG 21 20 false .mv [.t 1],oG 22 20 false (.bin .eql) [.t 21,oK 1],mo 23 .pick [.t 20,oTr,.t 22],oV 24 23,oG 25 24 false .mv [.t 0],oG 26 24 false (.bin .eql) [.t 25,oK 4],
 oG 27 24 false .mv [.t 26],oG 28 27 true .mv [.t 1],oG 29 27 true (.bin .neq) [.t 28,oK 5],oG 30 24 false .pick [.t 27,.t 29,oFa],mo 31 .pick [.t 24,oTr,.t 30],oV 4 31]
def zcR5:PC:=(.seq (.reg [] zcR1) (.seq (.seq (.reg [5,6,7,8,9,10,11] zcR2) (.cond (.t 12) (.seq (.reg [] zcR3) .ret) .skip)) (.seq (.reg [13,14,15,16,17,18,19,20,21,22,23,24,25,26,27,28,29,30,31] zcR4) .ret)))
theorem zdX2:chkF C.P 146 zcR5 32 [.t 4] 2=true:=by kernel_rfl
attribute [go_sem] zcR1 zcR2 zcR3 zcR4
def zcR6:=[oB 3 4 0,oB 4 2 1,oB 5 2 2,mo 6 .mv [oFa]]
def zcR7:=[oL 7 4 3,oL 8 2 4,oC 9 145 [.t 7,.t 8],mo 10 .not [.t 9],oV 11 10,oG 12 11 false (.load 4 true) [.t 3],oG 13 11 false (.load 2 true) [.t 5],oG 14 11 false (.call 145) [.t 12,.t 13],oG 15 11 false .not [.t 14],mo 16 .pick [.t 11,oTr,.t 15]]
def zcR8:=[mo 6 .mv [oFa]]
def zcR9:=[oL 17 2 5,oC 18 30 [.t 17]]
def zcS0:=[mo 6 .mv [oTr]]
def zcS1:=[oL 19 2 4,oC 20 30 [.t 19]]
def zcS2:=[mo 6 .mv [oFa]]
def zcS3:=[oA 21 1 3,oM 22 1 21,oP 23 .eql [.t 22,oK 1]]
def zcS4:=[oA 24 0 4,oM 25 1 24,oA 26 0 5,oM 27 1 26,oC 28 146 [.t 25,.t 27],oV 6 28]
def zcS5:=[oA 29 1 4,oM 30 1 29,oA 31 1 5,oM 32 1 31,oP 33 .geq [.t 30,.t 32],oV 6 33]
def zcS6:PC:=(.seq (.reg [] zcR6) (.seq (.seq (.reg [7,8,9,10,11,12,13,14,15] zcR7) (.cond (.t 16) (.seq (.reg [] zcR8) .ret) .skip)) (.seq (.seq (.reg [17] zcR9) (.cond (.t 18) (.seq (.reg [] zcS0) .ret) .skip)) (.seq (.seq (.reg [19] zcS1) (.cond (.t 20) (.seq (.reg [] zcS2) .ret) .skip)) (.seq (.seq (.reg [21,22] zcS3) (.cond (.t 23) (.seq (.reg [24,25,26,27,28] zcS4) .ret) .skip)) (.seq (.reg [29,30,31,32,33] zcS5) .ret))))))
theorem zdX3:chkF C.P 101 zcS6 34 [.t 6] 3=true:=by kernel_rfl
attribute [go_sem] zcR6 zcR7 zcR8 zcR9 zcS0 zcS1 zcS2 zcS3 zcS4 zcS5
def zcS7:=[oB 1 8 0,mo 2 .mv [oFa]]
def zcS8:=[oA 8 0 1,oL 9 4 8,mo 3 (.alloc 4 (Resource.enc Resource.zero)) [],oS 4 3 9]
def zcS9:=[oL 10 4 3,oC 11 83 [.t 10],mo 12 .not [.t 11],oV 13 12,oG 14 13 false (.load 4 true) [.t 3],oG 15 13 false (.faddr 4) [.t 1],oG 16 13 false (.load 1 false) [.t 15],oG 17 13 false (.call 164) [.t 14,.t 16],oG 18 13 false .not [.t 17],mo 19 .pick [.t 13,oTr,.t 18],oV 20 19,oG 21 20 false (.faddr 5) [.t 1],
 oG 22 20 false (.load 1 false) [.t 21],oG 23 20 false .len [.t 22],oG 24 20 false (.bin .gtr) [.t 23,oK 8],mo 25 .pick [.t 20,oTr,.t 24],oV 26 25,oG 27 26 false (.faddr 6) [.t 1],oG 28 26 false (.load 1 false) [.t 27],oG 29 26 false (.call 150) [.t 28],oG 30 26 false .not [.t 29],mo 31 .pick [.t 26,oTr,.t 30],
 oV 32 31,oG 33 32 false (.faddr 4) [.t 1],oG 34 32 false (.load 1 false) [.t 33],oG 35 32 false .len [.t 34],oG 36 32 false (.faddr 6) [.t 1],oG 37 32 false (.load 1 false) [.t 36],oG 38 32 false .len [.t 37],oG 39 32 false (.bin .add) [.t 35,.t 38],oG 40 32 false (.bin .gtr) [.t 39,oK 8],mo 41 .pick [.t 32,oTr,.t 40],
 oV 42 41,oG 43 42 false (.faddr 7) [.t 1],oG 44 42 false (.load 1 false) [.t 43],oG 45 42 false (.bin .lss) [.t 44,oK 0],mo 46 .pick [.t 42,oTr,.t 45],oV 47 46,oG 48 47 false (.faddr 7) [.t 1],oG 49 47 false (.load 1 false) [.t 48],oG 50 47 false (.bin .gtr) [.t 49,oK 1073741824],mo 51 .pick [.t 47,oTr,.t 50]]
def zcT0:=[mo 2 .mv [oFa]]
def zcT1:=[oI 4 0]
def zcT2:=[oV 52 4,oA 53 5 1,oM 54 1 53,mo 55 .len [.t 54],oP 56 .lss [.t 52,.t 55]]
def zcT3:=[oA 59 5 1,oM 60 1 59,oV 61 4,mo 62 (.iaS 7 (Wait.enc Wait.zero)) [.t 60,.t 61],oL 63 7 62,mo 5 (.alloc 7 (Wait.enc Wait.zero)) [],oS 7 5 63]
def zcT4:=[oA 64 4 1,oM 65 1 64,oA 66 0 5,oL 67 3 66,oC 68 69 [.t 65,.t 67],mo 6 (.alloc 2 (Amount.enc Amount.zero)) [],oS 2 6 68]
def zcT5:=[oL 69 2 6,oC 70 30 [.t 69],oV 71 70,oG 72 71 false (.load 4 true) [.t 3],oG 73 71 false (.faddr 3) [.t 5],oG 74 71 false (.load 2 true) [.t 73],oG 75 71 false (.call 98) [.t 72,.t 74],oG 76 71 false .not [.t 75],mo 77 .pick [.t 71,oTr,.t 76],oV 78 77,oG 79 78 false (.load 4 true) [.t 3],oG 80 78 false (.faddr 3) [.t 5],
 oG 81 78 false (.load 2 true) [.t 80],oG 82 78 false (.load 2 true) [.t 6],oG 83 78 false (.call 101) [.t 79,.t 81,.t 82],oG 84 78 false .not [.t 83],mo 85 .pick [.t 78,oTr,.t 84],oV 86 85,oG 87 86 false (.faddr 3) [.t 5],oG 88 86 false (.load 2 true) [.t 87],oG 89 86 false (.load 2 true) [.t 6],oG 90 86 false (.eqa false [.i .i64,.i .i64]) [.t 88,.t 89],
 mo 91 .pick [.t 86,oTr,.t 90],oV 92 91,oG 93 92 false (.faddr 5) [.t 5],oG 94 92 false (.load 1 false) [.t 93],oG 95 92 false (.bin .neq) [.t 94,oK 0],mo 96 .pick [.t 92,oTr,.t 95],oV 97 96,oG 98 97 false (.faddr 6) [.t 5],oG 99 97 false (.load 1 false) [.t 98],oG 100 97 false (.bin .neq) [.t 99,oK 0],
 mo 101 .pick [.t 97,oTr,.t 100],oV 102 101,oG 103 102 false (.faddr 5) [.t 1],oG 104 102 false (.load 1 false) [.t 103],oG 105 102 false (.faddr 0) [.t 5],oG 106 102 false (.load 3 true) [.t 105],oG 107 102 false (.call 144) [.t 104,.t 106],oG 108 102 false .mv [.t 4],oG 109 102 false (.bin .neq) [.t 107,.t 108],
 mo 110 .pick [.t 102,oTr,.t 109]]
def zbI1:=[mo 2 .mv [oFa]]
def zcT6:=[oV 57 4,oP 58 .add [.t 57,oK 1],oV 4 58]
def zbI2:=[oI 7 0]
def zbI3:=[oV 111 7,oA 112 6 1,oM 113 1 112,mo 114 .len [.t 113],oP 115 .lss [.t 111,.t 114]]
def zbI4:=[oL 118 4 3,oA 119 6 1,oM 120 1 119,oV 121 7,mo 122 (.iaS 7 (Wait.enc Wait.zero)) [.t 120,.t 121],oA 123 3 122,oL 124 2 123,oC 125 98 [.t 118,.t 124],mo 126 .not [.t 125],oV 127 126,oG 128 127 false (.faddr 4) [.t 1],oG 129 127 false (.load 1 false) [.t 128],oG 130 127 false (.faddr 6) [.t 1],
 oG 131 127 false (.load 1 false) [.t 130],oG 132 127 false .mv [.t 7],oG 133 127 false (.iaS 7 (Wait.enc Wait.zero)) [.t 131,.t 132],oG 134 127 false (.faddr 0) [.t 133],oG 135 127 false (.load 3 true) [.t 134],oG 136 127 false (.call 69) [.t 129,.t 135],oG 137 127 false (.call 30) [.t 136],oG 138 127 false .not [.t 137],
 mo 139 .pick [.t 127,oTr,.t 138]]
def zbI5:=[mo 2 .mv [oFa]]
def zbI6:=[oV 116 7,oP 117 .add [.t 116,oK 1],oV 7 117]
def zbI7:=[mo 2 .mv [oTr]]
def zcT7:PC:=(.seq (.reg [] zcS7) (.seq (.reg [8,9] zcS8) (.seq (.seq (.reg [10,11,12,13,14,15,16,17,18,19,20,21,22,23,24,25,26,27,28,29,30,31,32,33,34,35,36,37,38,39,40,41,42,43,44,45,46,47,48,49,50] zcS9) (.cond (.t 51) (.seq (.reg [] zcT0) .ret) .skip)) (.seq (.seq (.reg [] zcT1) (.block 0 (.loop (.seq (.seq (.reg [52,53,54,55] zcT2) (.cond (.t 56) .skip (.exit 0))) (.seq (.block 1 (.seq (.reg [59,60,61,62,63] zcT3) (.seq (.reg [64,65,66,67,68] zcT4) (.seq (.reg [69,70,71,72,73,74,75,76,77,78,79,80,81,82,83,84,85,86,87,88,89,90,91,92,93,94,95,96,97,98,99,100,101,102,103,104,105,106,107,108,109] zcT5) (.cond (.t 110) (.seq (.reg [] zbI1) .ret) .skip))))) (.reg [57,58] zcT6)))))) (.seq (.seq (.reg [] zbI2) (.block 2 (.loop (.seq (.seq (.reg [111,112,113,114] zbI3) (.cond (.t 115) .skip (.exit 2))) (.seq (.block 3 (.seq (.regd [118,119,120,121,122,123,124,125,126,127,128,129,130,131,132,133,134,135,136,137,138] zbI4) (.cond (.t 139) (.seq (.reg [] zbI5) .ret) .skip))) (.reg [116,117] zbI6)))))) (.seq (.reg [] zbI7) .ret))))))
theorem zdX4:chkF C.P 141 zcT7 140 [.t 2] 1=true:=by kernel_rfl
attribute [go_sem] zcS7 zcS8 zcS9 zcT0 zcT1 zcT2 zcT3 zcT4 zcT5 zbI1 zcT6 zbI2 zbI3 zbI4 zbI5 zbI6 zbI7
def zcT8:=[oB 1 8 0,mo 2 (.alloc 7 (Wait.enc Wait.zero)) [],mo 3 .mv [oFa]]
def zcT9:=[oA 4 5 1,oM 5 1 4,mo 6 .len [.t 5],oP 7 .gtr [.t 6,oK 0]]
def zcU0:=[oA 8 5 1,oM 9 1 8,mo 10 (.iaS 7 (Wait.enc Wait.zero)) [.t 9,oK 0],oL 11 7 10,oS 7 2 11,mo 3 .mv [oTr]]
def zcU1:=[oA 12 6 1,oM 13 1 12,mo 14 .len [.t 13],oP 15 .gtr [.t 14,oK 0]]
def zcU2:=[oA 16 6 1,oM 17 1 16,mo 18 (.iaS 7 (Wait.enc Wait.zero)) [.t 17,oK 0],oL 19 7 18,oS 7 2 19,mo 3 .mv [oTr]]
def zcU3:=[mo 20 (.build (Wait.enc Wait.zero) []) [],oS 7 2 20,mo 3 .mv [oFa]]
def zcU4:PC:=(.seq (.reg [] zcT8) (.seq (.seq (.reg [4,5,6] zcT9) (.cond (.t 7) (.seq (.reg [8,9,10,11] zcU0) .ret) .skip)) (.seq (.seq (.reg [12,13,14] zcU1) (.cond (.t 15) (.seq (.reg [16,17,18,19] zcU2) .ret) .skip)) (.seq (.reg [20] zcU3) .ret))))
theorem zdX5:chkF C.P 165 zcU4 21 [.c 2 7 true,.t 3] 1=true:=by kernel_rfl
attribute [go_sem] zcT8 zcT9 zcU0 zcU1 zcU2 zcU3
def zcU5:=[oB 4 3 1,oB 5 2 2,mo 6 .mv [oNi]]
def zcU6:=[mo 7 (.nilown 5 (Hold.enc Hold.zero)) [.c (A.full [])]]
def zcU7:=[oL 10 2 5,oC 11 30 [.t 10],oV 8 11]
def zcU8:=[oI 9 0]
def zcU9:=[oV 12 9,oV 13 0,mo 14 .len [.t 13],oP 15 .lss [.t 12,.t 14]]
def zcV0:=[oV 18 0,oV 19 9,mo 20 (.iaS 5 (Hold.enc Hold.zero)) [.t 18,.t 19],oA 21 0 20,oL 22 3 21,oL 23 3 4,mo 24 (.eqa false [.i .i64,.i .i64,.i .i64]) [.t 22,.t 23]]
def zcV1:=[oV 25 8,mo 26 .not [.t 25],oV 27 26,oG 28 27 true .mv [.t 0],oG 29 27 true .mv [.t 9],oG 30 27 true (.iaS 5 (Hold.enc Hold.zero)) [.t 28,.t 29],oG 31 27 true (.faddr 0) [.t 30],oG 32 27 true (.load 3 true) [.t 31],oG 33 27 true (.load 3 true) [.t 4],oG 34 27 true (.call 68) [.t 32,.t 33],
 oG 35 27 true (.bin .gtr) [.t 34,oK 0],mo 36 .pick [.t 27,.t 35,oFa]]
def zcV2:=[oV 37 7,oL 38 3 4,oL 39 2 5,mo 40 (.build (Hold.enc Hold.zero) [(0,3),(3,2)]) [.t 38,.t 39],mo 41 (.bslice 5 (Hold.enc Hold.zero)) [.t 40],mo 42 (.append 5 40 (Hold.enc Hold.zero)) [.t 37,.t 41],oV 7 42]
def zcV3:=[mo 8 .mv [oTr]]
def zbI8:=[oV 43 7,oV 44 0,oV 45 9,mo 46 (.iaS 5 (Hold.enc Hold.zero)) [.t 44,.t 45],oL 47 5 46,mo 48 (.bslice 5 (Hold.enc Hold.zero)) [.t 47],mo 49 (.append 5 40 (Hold.enc Hold.zero)) [.t 43,.t 48],oV 7 49]
def zcV4:=[oV 16 9,oP 17 .add [.t 16,oK 1],oV 9 17]
def zbI9:=[oV 50 8,mo 51 .not [.t 50]]
def zbJ0:=[oV 52 7,oL 53 3 4,oL 54 2 5,mo 55 (.build (Hold.enc Hold.zero) [(0,3),(3,2)]) [.t 53,.t 54],mo 56 (.bslice 5 (Hold.enc Hold.zero)) [.t 55],mo 57 (.append 5 40 (Hold.enc Hold.zero)) [.t 52,.t 56],oV 7 57]
def zbJ1:=[oV 58 7,oV 6 58]
def zcV5:PC:=(.seq (.reg [] zcU5) (.seq (.reg [] zcU6) (.seq (.reg [10,11] zcU7) (.seq (.seq (.reg [] zcU8) (.block 0 (.loop (.seq (.seq (.reg [12,13,14] zcU9) (.cond (.t 15) .skip (.exit 0))) (.seq (.block 1 (.seq (.seq (.regd [18,19,20,21,22,23] zcV0) (.cond (.t 24) (.exit 1) .skip)) (.seq (.seq (.regd [25,26,27,28,29,30,31,32,33,34,35] zcV1) (.cond (.t 36) (.seq (.reg [37,38,39,40,41,42] zcV2) (.reg [] zcV3)) .skip)) (.reg [43,44,45,46,47,48,49] zbI8)))) (.reg [16,17] zcV4)))))) (.seq (.seq (.reg [50] zbI9) (.cond (.t 51) (.reg [52,53,54,55,56,57] zbJ0) .skip)) (.seq (.reg [58] zbJ1) .ret))))))
theorem zdX6:chkF C.P 28 zcV5 59 [.t 6] 3=true:=by kernel_rfl
attribute [go_sem] zcU5 zcU6 zcU7 zcU8 zcU9 zcV0 zcV1 zcV2 zcV3 zbI8 zcV4 zbI9 zbJ0 zbJ1
def zcV6:=[oB 4 4 0,oB 6 3 2,oB 7 2 3,mo 8 .mv [oFa]]
def zcV7:=[oL 9 4 4,oV 10 1,oC 11 164 [.t 9,.t 10],oV 12 11,oG 13 12 true (.load 3 true) [.t 6],oG 14 12 true (.call 97) [.t 13],mo 15 .pick [.t 12,.t 14,oFa],oV 16 15,oG 17 16 true (.load 4 true) [.t 4],oG 18 16 true (.load 2 true) [.t 7],oG 19 16 true (.call 98) [.t 17,.t 18],mo 20 .pick [.t 16,.t 19,oFa],
 oV 21 20,oG 22 21 true (.load 4 true) [.t 4],oG 23 21 true .mv [.t 1],oG 24 21 true (.load 3 true) [.t 6],oG 25 21 true (.load 2 true) [.t 7],oG 26 21 true (.call 28) [.t 23,.t 24,.t 25],oG 27 21 true (.call 164) [.t 22,.t 26],mo 28 .pick [.t 21,.t 27,oFa],oV 8 28]
def zcV8:PC:=(.seq (.reg [] zcV6) (.seq (.regd [9,10,11,12,13,14,15,16,17,18,19,20,21,22,23,24,25,26,27,28] zcV7) .ret))
theorem zdX7:chkF C.P 166 zcV8 29 [.t 8] 4=true:=by kernel_rfl
attribute [go_sem] zcV6 zcV7
def zcV9:=[oB 1 8 0,mo 2 .mv [oFa]]
def zcW0:=[oL 5 8 1,oC 6 141 [.t 5],mo 7 .not [.t 6]]
def zcW1:=[mo 2 .mv [oFa]]
def zcW2:=[oL 9 8 1,oC 10 165 [.t 9],oV 8 10,oE 11 0 8,oE 12 1 8,mo 3 (.alloc 7 (Wait.enc Wait.zero)) [],oS 7 3 11,oV 4 12]
def zcW3:=[oV 13 4,mo 14 .not [.t 13],oV 15 14,oG 16 15 false (.faddr 0) [.t 1],oG 17 15 false (.load 4 true) [.t 16],oG 18 15 false (.faddr 4) [.t 1],oG 19 15 false (.load 1 false) [.t 18],oG 20 15 false (.faddr 0) [.t 3],oG 21 15 false (.load 3 true) [.t 20],oG 22 15 false (.faddr 3) [.t 3],oG 23 15 false (.load 2 true) [.t 22],
 oG 24 15 false (.call 166) [.t 17,.t 19,.t 21,.t 23],oG 25 15 false .not [.t 24],mo 26 .pick [.t 15,oTr,.t 25],oV 2 26]
def zcW4:PC:=(.seq (.reg [] zcV9) (.seq (.seq (.reg [5,6] zcW0) (.cond (.t 7) (.seq (.reg [] zcW1) .ret) .skip)) (.seq (.reg [8,9,10,11,12] zcW2) (.seq (.reg [13,14,15,16,17,18,19,20,21,22,23,24,25,26] zcW3) .ret))))
theorem zdX8:chkF C.P 142 zcW4 27 [.t 2] 1=true:=by kernel_rfl
attribute [go_sem] zcV9 zcW0 zcW1 zcW2 zcW3
def zcW5:=[oB 1 8 0,mo 2 .mv [oFa]]
def zcW6:=[oL 3 8 1,oC 4 141 [.t 3],oV 5 4,oG 6 5 true (.load 8 true) [.t 1],oG 7 5 true (.call 142) [.t 6],mo 8 .pick [.t 5,.t 7,oFa],oV 2 8]
def zcW7:PC:=(.seq (.reg [] zcW5) (.seq (.reg [3,4,5,6,7,8] zcW6) .ret))
theorem zdX9:chkF C.P 96 zcW7 9 [.t 2] 1=true:=by kernel_rfl
attribute [go_sem] zcW5 zcW6
def zcW8:=[mo 2 .mv [oFa]]
def zcW9:=[oV 4 0,mo 5 .len [.t 4],oP 6 .gtr [.t 5,oK 8]]
def zcX0:=[mo 2 .mv [oFa]]
def zcX1:=[oI 3 0]
def zcX2:=[oV 7 3,oV 8 0,mo 9 .len [.t 8],oP 10 .lss [.t 7,.t 9]]
def zcX3:=[oV 13 0,oV 14 3,mo 15 (.iaS 8 (Queue.enc Queue.zero)) [.t 13,.t 14],oL 16 8 15,oC 17 96 [.t 16],mo 18 .not [.t 17],oV 19 18,oG 20 19 false .mv [.t 3],oG 21 19 false (.bin .gtr) [.t 20,oK 0],oG 22 19 false .mv [.t 21],oG 23 22 true .mv [.t 0],oG 24 22 true .mv [.t 3],oG 25 22 true (.bin .sub) [.t 24,oK 1],
 oG 26 22 true (.iaS 8 (Queue.enc Queue.zero)) [.t 23,.t 25],oG 27 22 true (.faddr 0) [.t 26],oG 28 22 true (.faddr 0) [.t 27],oG 29 22 true (.load 1 false) [.t 28],oG 30 22 true .mv [.t 0],oG 31 22 true .mv [.t 3],oG 32 22 true (.iaS 8 (Queue.enc Queue.zero)) [.t 30,.t 31],oG 33 22 true (.faddr 0) [.t 32],
 oG 34 22 true (.faddr 0) [.t 33],oG 35 22 true (.load 1 false) [.t 34],oG 36 22 true (.bin .geq) [.t 29,.t 35],oG 37 19 false .pick [.t 22,.t 36,oFa],mo 38 .pick [.t 19,oTr,.t 37]]
def zcX4:=[mo 2 .mv [oFa]]
def zcX5:=[oV 11 3,oP 12 .add [.t 11,oK 1],oV 3 12]
def zcX6:=[mo 2 .mv [oTr]]
def zcX7:PC:=(.seq (.reg [] zcW8) (.seq (.seq (.reg [4,5] zcW9) (.cond (.t 6) (.seq (.reg [] zcX0) .ret) .skip)) (.seq (.seq (.reg [] zcX1) (.block 0 (.loop (.seq (.seq (.reg [7,8,9] zcX2) (.cond (.t 10) .skip (.exit 0))) (.seq (.block 1 (.seq (.regd [13,14,15,16,17,18,19,20,21,22,23,24,25,26,27,28,29,30,31,32,33,34,35,36,37] zcX3) (.cond (.t 38) (.seq (.reg [] zcX4) .ret) .skip))) (.reg [11,12] zcX5)))))) (.seq (.reg [] zcX6) .ret))))
theorem zdY0:chkF C.P 75 zcX7 39 [.t 2] 1=true:=by kernel_rfl
attribute [go_sem] zcW8 zcW9 zcX0 zcX1 zcX2 zcX3 zcX4 zcX5 zcX6
def zcX8:=[mo 2 (.nilown 3 (Proc.enc Proc.zero)) [.c (A.full [])]]
def zcX9:=[mo 3 (.nilown 3 (Proc.enc Proc.zero)) [.c (A.full [])]]
def zcY0:=[oI 4 0]
def zcY1:=[oV 5 4,oV 6 0,mo 7 .len [.t 6],oP 8 .lss [.t 5,.t 7]]
def zcY2:=[oV 11 3,oV 12 0,oV 13 4,mo 14 (.iaS 5 (Hold.enc Hold.zero)) [.t 12,.t 13],oA 15 0 14,oL 16 3 15,mo 17 (.bslice 3 (Proc.enc Proc.zero)) [.t 16],mo 18 (.append 3 24 (Proc.enc Proc.zero)) [.t 11,.t 17],oV 3 18]
def zcY3:=[oV 9 4,oP 10 .add [.t 9,oK 1],oV 4 10]
def zcY4:=[oV 19 3,oV 2 19]
def zcY5:PC:=(.seq (.reg [] zcX8) (.seq (.reg [] zcX9) (.seq (.seq (.reg [] zcY0) (.block 0 (.loop (.seq (.seq (.reg [5,6,7] zcY1) (.cond (.t 8) .skip (.exit 0))) (.seq (.block 1 (.reg [11,12,13,14,15,16,17,18] zcY2)) (.reg [9,10] zcY3)))))) (.seq (.reg [19] zcY4) .ret))))
theorem zdY1:chkF C.P 114 zcY5 20 [.t 2] 1=true:=by kernel_rfl
attribute [go_sem] zcX8 zcX9 zcY0 zcY1 zcY2 zcY3 zcY4
def zcY6:=[oB 1 8 0,mo 2 .mv [oNi]]
def zcY7:=[mo 3 (.nilown 3 (Proc.enc Proc.zero)) [.c (A.full [])]]
def zcY8:=[oI 4 0]
def zcY9:=[oV 6 4,oA 7 5 1,oM 8 1 7,mo 9 .len [.t 8],oP 10 .lss [.t 6,.t 9]]
def zcZ0:=[oV 13 3,oA 14 5 1,oM 15 1 14,oV 16 4,mo 17 (.iaS 7 (Wait.enc Wait.zero)) [.t 15,.t 16],oA 18 0 17,oL 19 3 18,mo 20 (.bslice 3 (Proc.enc Proc.zero)) [.t 19],mo 21 (.append 3 24 (Proc.enc Proc.zero)) [.t 13,.t 20],oV 3 21]
def zcZ1:=[oV 11 4,oP 12 .add [.t 11,oK 1],oV 4 12]
def zcZ2:=[oI 5 0]
def zcZ3:=[oV 22 5,oA 23 6 1,oM 24 1 23,mo 25 .len [.t 24],oP 26 .lss [.t 22,.t 25]]
def zcZ4:=[oV 29 3,oA 30 6 1,oM 31 1 30,oV 32 5,mo 33 (.iaS 7 (Wait.enc Wait.zero)) [.t 31,.t 32],oA 34 0 33,oL 35 3 34,mo 36 (.bslice 3 (Proc.enc Proc.zero)) [.t 35],mo 37 (.append 3 24 (Proc.enc Proc.zero)) [.t 29,.t 36],oV 3 37]
def zcZ5:=[oV 27 5,oP 28 .add [.t 27,oK 1],oV 5 28]
def zbJ2:=[oV 38 3,oV 2 38]
def zcZ6:PC:=(.seq (.reg [] zcY6) (.seq (.reg [] zcY7) (.seq (.seq (.reg [] zcY8) (.block 0 (.loop (.seq (.seq (.reg [6,7,8,9] zcY9) (.cond (.t 10) .skip (.exit 0))) (.seq (.block 1 (.reg [13,14,15,16,17,18,19,20,21] zcZ0)) (.reg [11,12] zcZ1)))))) (.seq (.seq (.reg [] zcZ2) (.block 2 (.loop (.seq (.seq (.reg [22,23,24,25] zcZ3) (.cond (.t 26) .skip (.exit 2))) (.seq (.block 3 (.reg [29,30,31,32,33,34,35,36,37] zcZ4)) (.reg [27,28] zcZ5)))))) (.seq (.reg [38] zbJ2) .ret)))))
theorem zdY2:chkF C.P 115 zcZ6 39 [.t 2] 1=true:=by kernel_rfl
attribute [go_sem] zcY6 zcY7 zcY8 zcY9 zcZ0 zcZ1 zcZ2 zcZ3 zcZ4 zcZ5 zbJ2
def zcZ7:=[oB 3 3 1,mo 4 .mv [oFa]]
def zcZ8:=[oI 5 0]
def zcZ9:=[oV 6 5,oV 7 0,mo 8 .len [.t 7],oP 9 .lss [.t 6,.t 8]]
def zda0:=[oV 12 0,oV 13 5,mo 14 (.iaS 3 (Proc.enc Proc.zero)) [.t 12,.t 13],oL 15 3 14,oL 16 3 3,mo 17 (.eqa false [.i .i64,.i .i64,.i .i64]) [.t 15,.t 16]]
def zda1:=[mo 4 .mv [oTr]]
def zda2:=[oV 10 5,oP 11 .add [.t 10,oK 1],oV 5 11]
def zda3:=[mo 4 .mv [oFa]]
def zda4:PC:=(.seq (.reg [] zcZ7) (.seq (.seq (.reg [] zcZ8) (.block 0 (.loop (.seq (.seq (.reg [6,7,8] zcZ9) (.cond (.t 9) .skip (.exit 0))) (.seq (.block 1 (.seq (.regd [12,13,14,15,16] zda0) (.cond (.t 17) (.seq (.reg [] zda1) .ret) .skip))) (.reg [10,11] zda2)))))) (.seq (.reg [] zda3) .ret)))
theorem zdY3:chkF C.P 59 zda4 18 [.t 4] 2=true:=by kernel_rfl
attribute [go_sem] zcZ7 zcZ8 zcZ9 zda0 zda1 zda2 zda3
def zda5:=[mo 2 .mv [oNi]]
def zda6:=[mo 3 (.nilown 3 (Proc.enc Proc.zero)) [.c (A.full [])]]
def zda7:=[oI 4 0]
def zda8:=[oV 7 4,oV 8 0,mo 9 .len [.t 8],oP 10 .lss [.t 7,.t 9]]
def zda9:=[oV 13 3,oV 14 0,oV 15 4,mo 16 (.iaS 3 (Proc.enc Proc.zero)) [.t 14,.t 15],oL 17 3 16,oC 18 59 [.t 13,.t 17]]
def zdb0:=[oV 19 3,mo 20 .len [.t 19],oV 5 20]
def zdb1:=[oV 21 3,oV 22 0,oV 23 4,mo 24 (.iaS 3 (Proc.enc Proc.zero)) [.t 22,.t 23],oL 25 3 24,mo 26 (.bslice 3 (Proc.enc Proc.zero)) [.t 25],mo 27 (.append 3 24 (Proc.enc Proc.zero)) [.t 21,.t 26],oV 3 27]
def zdb2:=[oV 28 5,oP 29 .gtr [.t 28,oK 0],oV 30 29,oG 31 30 true .mv [.t 3],oG 32 30 true .mv [.t 5],oG 33 30 true (.bin .sub) [.t 32,oK 1],oG 34 30 true (.iaS 3 (Proc.enc Proc.zero)) [.t 31,.t 33],oG 35 30 true (.load 3 true) [.t 34],oG 36 30 true .mv [.t 3],oG 37 30 true .mv [.t 5],oG 38 30 true (.iaS 3 (Proc.enc Proc.zero)) [.t 36,.t 37],
 oG 39 30 true (.load 3 true) [.t 38],oG 40 30 true (.call 68) [.t 35,.t 39],oG 41 30 true (.bin .gtr) [.t 40,oK 0],mo 42 .pick [.t 30,.t 41,oFa]]
def zdb3:=[oV 43 3,oV 44 5,oP 45 .sub [.t 44,oK 1],mo 46 (.iaS 3 (Proc.enc Proc.zero)) [.t 43,.t 45],oL 47 3 46,mo 6 (.alloc 3 (Proc.enc Proc.zero)) [],oS 3 6 47]
def zbJ3:=[oV 48 3,oV 49 5,oP 50 .sub [.t 49,oK 1],oV 51 3,oV 52 5,mo 53 (.iaS 3 (Proc.enc Proc.zero)) [.t 51,.t 52],oL 54 3 53,mo 55 (.iaS 3 (Proc.enc Proc.zero)) [.t 48,.t 50],oS 3 55 54]
def zbJ4:=[oV 56 3,oV 57 5,oL 58 3 6,mo 59 (.iaS 3 (Proc.enc Proc.zero)) [.t 56,.t 57],oS 3 59 58]
def zbJ5:=[oV 60 5,oP 61 .sub [.t 60,oK 1],oV 5 61]
def zdb4:=[oV 11 4,oP 12 .add [.t 11,oK 1],oV 4 12]
def zbJ6:=[oV 62 3,oV 2 62]
def zdb5:PC:=(.seq (.reg [] zda5) (.seq (.reg [] zda6) (.seq (.seq (.reg [] zda7) (.block 0 (.loop (.seq (.seq (.reg [7,8,9] zda8) (.cond (.t 10) .skip (.exit 0))) (.seq (.block 1 (.seq (.seq (.reg [13,14,15,16,17] zda9) (.cond (.t 18) (.exit 1) .skip)) (.seq (.reg [19,20] zdb0) (.seq (.reg [21,22,23,24,25,26,27] zdb1) (.block 2 (.loop (.seq (.seq (.regd [28,29,30,31,32,33,34,35,36,37,38,39,40,41] zdb2) (.cond (.t 42) .skip (.exit 2))) (.block 3 (.seq (.reg [43,44,45,46,47] zdb3) (.seq (.reg [48,49,50,51,52,53,54,55] zbJ3) (.seq (.reg [56,57,58,59] zbJ4) (.reg [60,61] zbJ5)))))))))))) (.reg [11,12] zdb4)))))) (.seq (.reg [62] zbJ6) .ret))))
theorem zdY4:chkF C.P 74 zdb5 63 [.t 2] 1=true:=by kernel_rfl
attribute [go_sem] zda5 zda6 zda7 zda8 zda9 zdb0 zdb1 zdb2 zdb3 zbJ3 zbJ4 zbJ5 zdb4 zbJ6
def zdb6:=[oB 1 8 0,mo 2 .mv [oNi]]
def zdb7:=[oA 3 4 1,oM 4 1 3,mo 5 (.callm 114) [.t 4],oL 6 8 1,oC 7 115 [.t 6],mo 8 (.append 3 24 (Proc.enc Proc.zero)) [.t 5,.t 7],oC 9 74 [.t 8],oV 2 9]
def zdb8:PC:=(.seq (.reg [] zdb6) (.seq (.regm [3,4,5,6,7,8,9] [[],[0],[1,0],[],[3,2,1,0],[2,4,4,1,0,3,2,1,0,3,2,1,0],[5,5,2,4,4,1,0,3,2,1,0,3,2,1,0,2,4,4,1,0,3,2,1,0,3,2,1,0],[6,6,0,1,2,3,4,5,6,5,5,2,4,4,1,0,3,2,1,0,3,2,1,0,2,4,4,1,0,3,2,1,0,3,2,1,0,5,5,2,4,4,1,0,3,2,1,0,3,2,1,0,2,4,4,1,0,3,2,1,0,3,2,1,0,0,1,0,3,2,1,0,2,4,4,1,0,3,2,1,0,3,2,1,0,5,5,2,4,4,1,0,3,2,1,0,3,2,1,0,2,4,4,1,0,3,2,1,0,3,2,1,0]] zdb7) .ret))
theorem zdY5:chkF C.P 73 zdb8 10 [.t 2] 1=true:=by kernel_rfl
attribute [go_sem] zdb6 zdb7
def zdb9:=[mo 2 .mv [oNi]]
def zdc0:=[mo 3 (.nilown 3 (Proc.enc Proc.zero)) [.c (A.full [])]]
def zdc1:=[oI 4 0]
def zdc2:=[oV 5 4,oV 6 0,mo 7 .len [.t 6],oP 8 .lss [.t 5,.t 7]]
def zdc3:=[oV 11 3,oV 12 0,oV 13 4,mo 14 (.iaS 8 (Queue.enc Queue.zero)) [.t 12,.t 13],oL 15 8 14,oC 16 73 [.t 15],mo 17 (.append 3 24 (Proc.enc Proc.zero)) [.t 11,.t 16],oV 3 17]
def zdc4:=[oV 9 4,oP 10 .add [.t 9,oK 1],oV 4 10]
def zdc5:=[oV 18 3,oC 19 74 [.t 18],oV 2 19]
def zdc6:PC:=(.seq (.reg [] zdb9) (.seq (.reg [] zdc0) (.seq (.seq (.reg [] zdc1) (.block 0 (.loop (.seq (.seq (.reg [5,6,7] zdc2) (.cond (.t 8) .skip (.exit 0))) (.seq (.block 1 (.reg [11,12,13,14,15,16,17] zdc3)) (.reg [9,10] zdc4)))))) (.seq (.reg [18,19] zdc5) .ret))))
theorem zdY6:chkF C.P 37 zdc6 20 [.t 2] 1=true:=by kernel_rfl
attribute [go_sem] zdb9 zdc0 zdc1 zdc2 zdc3 zdc4 zdc5
def zdc7:=[mo 2 .mv [oFa]]
def zdc8:=[oV 3 0,oC 4 75 [.t 3],oV 5 4,oG 6 5 true .mv [.t 0],oG 7 5 true (.call 37) [.t 6],oG 8 5 true .len [.t 7],oG 9 5 true (.bin .leq) [.t 8,oK 8],mo 10 .pick [.t 5,.t 9,oFa],oV 2 10]
def zdc9:PC:=(.seq (.reg [] zdc7) (.seq (.reg [3,4,5,6,7,8,9,10] zdc8) .ret))
theorem zdY7:chkF C.P 38 zdc9 11 [.t 2] 1=true:=by kernel_rfl
attribute [go_sem] zdc7 zdc8
def zdY8:=[oI 4 0]
def zdY9:=[oI 5 0]
def zdZ0:=[oV 6 5,oV 7 0,mo 8 .len [.t 7],oP 9 .lss [.t 6,.t 8]]
def zdZ1:=[oV 12 0,oV 13 5,mo 14 (.iaS 8 (Queue.enc Queue.zero)) [.t 12,.t 13],oA 15 0 14,oA 16 0 15,oM 17 1 16,oV 18 1,oP 19 .eql [.t 17,.t 18]]
def zdZ2:=[oV 20 5,oV 4 20]
def zdZ3:=[oV 10 5,oP 11 .add [.t 10,oK 1],oV 5 11]
def zdZ4:=[oI 4 (-1)]
attribute [go_sem] zdY8 zdY9 zdZ0 zdZ1 zdZ2 zdZ3 zdZ4
def zdd0:=[oB 2 8 0,oB 3 3 1,mo 4 (.alloc 2 (Amount.enc Amount.zero)) [],mo 5 .mv [oFa]]
def zdd1:=[oA 8 5 2,oM 9 1 8,oL 10 3 3,oC 11 144 [.t 9,.t 10],oV 6 11]
def zdd2:=[oV 12 6,oP 13 .geq [.t 12,oK 0]]
def zdd3:=[oA 14 5 2,oM 15 1 14,oV 16 6,mo 17 (.iaS 7 (Wait.enc Wait.zero)) [.t 15,.t 16],oA 18 3 17,oL 19 2 18,oS 2 4 19,mo 5 .mv [oTr]]
def zdd4:=[oA 20 6 2,oM 21 1 20,oL 22 3 3,oC 23 144 [.t 21,.t 22],oV 7 23]
def zdd5:=[oV 24 7,oP 25 .geq [.t 24,oK 0]]
def zdd6:=[oA 26 6 2,oM 27 1 26,oV 28 7,mo 29 (.iaS 7 (Wait.enc Wait.zero)) [.t 27,.t 28],oA 30 3 29,oL 31 2 30,oS 2 4 31,mo 5 .mv [oTr]]
def zdd7:=[mo 32 (.build (Amount.enc Amount.zero) []) [],oS 2 4 32,mo 5 .mv [oFa]]
def zdd8:PC:=(.seq (.reg [] zdd0) (.seq (.seq (.reg [8,9,10,11] zdd1) (.seq (.reg [12] zdd2) (.cond (.t 13) (.seq (.reg [14,15,16,17,18,19] zdd3) .ret) .skip))) (.seq (.seq (.reg [20,21,22,23] zdd4) (.seq (.reg [24] zdd5) (.cond (.t 25) (.seq (.reg [26,27,28,29,30,31] zdd6) .ret) .skip))) (.seq (.reg [32] zdd7) .ret))))
theorem zdZ5:chkF C.P 99 zdd8 33 [.c 4 2 true,.t 5] 2=true:=by kernel_rfl
attribute [go_sem] zdd0 zdd1 zdd2 zdd3 zdd4 zdd5 zdd6 zdd7
def zdZ6:=[oB 1 8 0,mo 2 (.alloc 8 (Queue.enc Queue.zero)) []]
def zdZ7:=[mo 3 (.bown 5 (Hold.enc Hold.zero)) [],oA 4 4 1,oM 5 1 4,mo 6 (.append 5 40 (Hold.enc Hold.zero)) [.t 3,.t 5],oA 7 4 1,oS 1 7 6]
def zdZ8:=[mo 8 (.bown 7 (Wait.enc Wait.zero)) [],oA 9 5 1,oM 10 1 9,mo 11 (.append 7 56 (Wait.enc Wait.zero)) [.t 8,.t 10],oA 12 5 1,oS 1 12 11]
def zdZ9:=[mo 13 (.bown 7 (Wait.enc Wait.zero)) [],oA 14 6 1,oM 15 1 14,mo 16 (.append 7 56 (Wait.enc Wait.zero)) [.t 13,.t 15],oA 17 6 1,oS 1 17 16]
def zea0:=[oL 18 8 1,oS 8 2 18]
attribute [go_sem] zdZ6 zdZ7 zdZ8 zdZ9 zea0
def zdd9:=[oB 2 8 0,oB 3 3 1,mo 4 (.alloc 2 (Amount.enc Amount.zero)) []]
def zde0:=[oA 5 4 2,oM 6 1 5,oL 7 3 3,oC 8 69 [.t 6,.t 7],oS 2 4 8]
def zde1:PC:=(.seq (.reg [] zdd9) (.seq (.reg [5,6,7,8] zde0) .ret))
theorem zea1:chkF C.P 31 zde1 9 [.c 4 2 true] 2=true:=by kernel_rfl
attribute [go_sem] zdd9 zde0
def zea2:=[oI 4 0]
def zea3:=[oI 5 1]
def zea4:=[oV 6 5,oP 7 .leq [.t 6,oK 5]]
def zea5:=[oV 10 5,oV 11 0,oC 12 146 [.t 10,.t 11],oV 13 12,oG 14 13 true .mv [.t 5],oG 15 13 true .mv [.t 1],oG 16 13 true (.call 146) [.t 14,.t 15],mo 17 .pick [.t 13,.t 16,oFa]]
def zea6:=[oV 18 5,oV 4 18]
def zea7:=[oV 8 5,oP 9 .add [.t 8,oK 1],oV 5 9]
def zea8:=[oI 4 0]
attribute [go_sem] zea2 zea3 zea4 zea5 zea6 zea7 zea8
def zea9:=[oB 3 4 0,oB 4 2 1,oB 5 2 2,mo 6 (.alloc 2 (Amount.enc Amount.zero)) []]
def zeb0:=[oL 7 4 3,oL 8 2 4,oC 9 145 [.t 7,.t 8],mo 10 .not [.t 9],oV 11 10,oG 12 11 false (.load 4 true) [.t 3],oG 13 11 false (.load 2 true) [.t 5],oG 14 11 false (.call 145) [.t 12,.t 13],oG 15 11 false .not [.t 14],mo 16 .pick [.t 11,oTr,.t 15]]
def zeb1:=[mo 17 (.build (Amount.enc Amount.zero) []) [],oS 2 6 17]
def zeb2:=[oL 18 4 3,oL 19 2 4,oL 20 2 5,oC 21 101 [.t 18,.t 19,.t 20]]
def zeb3:=[oL 22 2 4,oS 2 6 22]
def zeb4:=[oL 23 4 3,oL 24 2 5,oL 25 2 4,oC 26 101 [.t 23,.t 24,.t 25]]
def zeb5:=[oL 27 2 5,oS 2 6 27]
def zeb6:=[oA 28 0 4,oM 29 1 28,oA 30 0 5,oM 31 1 30,oC 32 147 [.t 29,.t 31],mo 33 (.build (Amount.enc Amount.zero) [(0,1)]) [.t 32],oS 2 6 33]
attribute [go_sem] zea9 zeb0 zeb1 zeb2 zeb3 zeb4 zeb5 zeb6
def zde2:=[oB 1 8 0,mo 2 (.alloc 8 (Queue.enc Queue.zero)) []]
def zde3:=[mo 3 (.bown 5 (Hold.enc Hold.zero)) [],oA 4 4 1,oM 5 1 4,mo 6 (.append 5 40 (Hold.enc Hold.zero)) [.t 3,.t 5],oA 7 4 1,oS 1 7 6]
def zde4:=[mo 8 (.bown 7 (Wait.enc Wait.zero)) [],oA 9 5 1,oM 10 1 9,mo 11 (.append 7 56 (Wait.enc Wait.zero)) [.t 8,.t 10],oA 12 5 1,oS 1 12 11]
def zde5:=[mo 13 (.bown 7 (Wait.enc Wait.zero)) [],oA 14 6 1,oM 15 1 14,mo 16 (.append 7 56 (Wait.enc Wait.zero)) [.t 13,.t 15],oA 17 6 1,oS 1 17 16]
def zde6:=[oL 18 8 1,oS 8 2 18]
def zde7:PC:=(.seq (.reg [] zde2) (.seq (.reg [3,4,5,6,7] zde3) (.seq (.reg [8,9,10,11,12] zde4) (.seq (.reg [13,14,15,16,17] zde5) (.seq (.reg [18] zde6) .ret)))))
theorem zeb7:chkF C.P 100 zde7 19 [.c 2 8 true] 1=true:=by kernel_rfl
attribute [go_sem] zde2 zde3 zde4 zde5 zde6
def zde8:=[oB 1 8 0,mo 2 (.alloc 8 (Queue.enc Queue.zero)) [],mo 3 .mv [oNi]]
def zde9:=[oL 7 8 1,oC 8 141 [.t 7],mo 9 .not [.t 8]]
def zdf0:=[mo 10 (.build (Queue.enc Queue.zero) []) [],oS 8 2 10,mo 3 .mv [oNi]]
def zdf1:=[oL 11 8 1,oC 12 100 [.t 11],oS 8 1 12]
def zdf2:=[mo 4 (.nilown 5 (Hold.enc Hold.zero)) [.c (A.full [])]]
def zdf3:=[oL 13 8 1,oC 14 142 [.t 13],mo 15 .not [.t 14]]
def zdf4:=[oL 17 8 1,oC 18 165 [.t 17],oV 16 18,oE 19 0 16,oE 20 1 16,mo 5 (.alloc 7 (Wait.enc Wait.zero)) [],oS 7 5 19,oV 6 20]
def zdf5:=[oA 21 5 1,oM 22 1 21,mo 23 .len [.t 22],oP 24 .gtr [.t 23,oK 0]]
def zdf6:=[oA 25 5 1,oM 26 1 25,mo 27 (.slc 7 true false false) [.t 26,oK 1],oA 28 5 1,oS 1 28 27]
def zdf7:=[oA 29 6 1,oM 30 1 29,mo 31 (.slc 7 true false false) [.t 30,oK 1],oA 32 6 1,oS 1 32 31]
def zbJ7:=[oA 33 4 1,oM 34 1 33,oA 35 0 5,oL 36 3 35,oA 37 3 5,oL 38 2 37,oC 39 28 [.t 34,.t 36,.t 38],oA 40 4 1,oS 1 40 39]
def zbJ8:=[oV 41 4,oA 42 0 5,oL 43 3 42,oA 44 3 5,oL 45 2 44,mo 46 (.build (Hold.enc Hold.zero) [(0,3),(3,2)]) [.t 43,.t 45],mo 47 (.bslice 5 (Hold.enc Hold.zero)) [.t 46],mo 48 (.append 5 40 (Hold.enc Hold.zero)) [.t 41,.t 47],oV 4 48]
def zbJ9:=[oL 49 8 1,oV 50 4,oS 8 2 49,oV 3 50]
def zdf8:PC:=(.seq (.reg [] zde8) (.seq (.seq (.reg [7,8] zde9) (.cond (.t 9) (.seq (.reg [10] zdf0) .ret) .skip)) (.seq (.reg [11,12] zdf1) (.seq (.reg [] zdf2) (.seq (.block 0 (.loop (.seq (.seq (.reg [13,14] zdf3) (.cond (.t 15) .skip (.exit 0))) (.block 1 (.seq (.reg [6,16,17,18,19,20] zdf4) (.seq (.seq (.reg [21,22,23] zdf5) (.cond (.t 24) (.reg [25,26,27,28] zdf6) (.reg [29,30,31,32] zdf7))) (.seq (.reg [33,34,35,36,37,38,39,40] zbJ7) (.reg [41,42,43,44,45,46,47,48] zbJ8)))))))) (.seq (.reg [49,50] zbJ9) .ret))))))
theorem zeb8:chkF C.P 148 zdf8 51 [.c 2 8 true,.t 3] 1=true:=by kernel_rfl
attribute [go_sem] zde8 zde9 zdf0 zdf1 zdf2 zdf3 zdf4 zdf5 zdf6 zdf7 zbJ7 zbJ8 zbJ9
def zdf9:=[oI 2 0]
def zdg0:=[oV 3 0,oP 4 .lss [.t 3,oK 0],oV 5 4,oG 6 5 false .mv [.t 0],oG 7 5 false (.bin .geq) [.t 6,oK 1073741824],mo 8 .pick [.t 5,oTr,.t 7]]
def zdg1:=[oI 2 1]
def zdg2:=[oV 9 0,oP 10 .add [.t 9,oK 1],oV 2 10]
def zdg3:PC:=(.seq (.reg [] zdf9) (.seq (.seq (.reg [3,4,5,6,7] zdg0) (.cond (.t 8) (.seq (.reg [] zdg1) .ret) .skip)) (.seq (.reg [9,10] zdg2) .ret)))
theorem zeb9:chkF C.P 149 zdg3 11 [.t 2] 1=true:=by kernel_rfl
attribute [go_sem] zdf9 zdg0 zdg1 zdg2
def zdg4:=[oB 1 8 0,mo 2 (.alloc 8 (Queue.enc Queue.zero)) [],mo 3 .mv [oNi],oI 4 0]
def zdg5:=[oL 8 8 1,oC 9 148 [.t 8],oV 7 9,oE 10 0 7,oE 11 1 7,mo 5 (.alloc 8 (Queue.enc Queue.zero)) [],oS 8 5 10,oV 6 11]
def zdg6:=[oA 12 7 1,oM 13 1 12,oC 14 149 [.t 13],oA 15 7 5,oS 1 15 14]
def zdg7:=[oL 16 8 5,oV 17 6,oS 8 2 16,oV 3 17,oI 4 0]
def zdg8:PC:=(.seq (.reg [] zdg4) (.seq (.reg [7,8,9,10,11] zdg5) (.seq (.reg [12,13,14,15] zdg6) (.seq (.reg [16,17] zdg7) .ret))))
theorem zec0:chkF C.P 103 zdg8 18 [.c 2 8 true,.t 3,.t 4] 1=true:=by kernel_rfl
attribute [go_sem] zdg4 zdg5 zdg6 zdg7
def zec1:=[oB 3 7 1,mo 4 .mv [oNi],oI 5 0,oI 6 0]
def zec2:=[oV 11 0,oC 12 150 [.t 11],mo 13 .not [.t 12]]
def zec3:=[mo 4 .mv [oNi],oI 5 0,oI 6 2]
def zec4:=[oL 14 7 3,oC 15 151 [.t 14],mo 16 .not [.t 15],oV 17 16,oG 18 17 false (.faddr 6) [.t 3],oG 19 17 false (.load 1 false) [.t 18],oG 20 17 false (.bin .neq) [.t 19,oK 0],mo 21 .pick [.t 17,oTr,.t 20]]
def zec5:=[mo 4 .mv [oNi],oI 5 0,oI 6 1]
def zec6:=[oV 22 0,oA 23 0 3,oL 24 3 23,oC 25 144 [.t 22,.t 24],oP 26 .geq [.t 25,oK 0]]
def zec7:=[mo 4 .mv [oNi],oI 5 0,oI 6 11]
def zec8:=[oV 27 0,mo 28 .len [.t 27],oP 29 .eql [.t 28,oK 8]]
def zec9:=[mo 4 .mv [oNi],oI 5 0,oI 6 4]
def zed0:=[oV 30 0,mo 31 .len [.t 30],oV 7 31]
def zdy2:=[oV 32 7,oP 33 .gtr [.t 32,oK 0],oV 34 33,oG 35 34 true .mv [.t 0],oG 36 34 true .mv [.t 7],oG 37 34 true (.bin .sub) [.t 36,oK 1],oG 38 34 true (.iaS 7 (Wait.enc Wait.zero)) [.t 35,.t 37],oG 39 34 true (.faddr 5) [.t 38],oG 40 34 true (.load 1 false) [.t 39],oG 41 34 true (.faddr 5) [.t 3],
 oG 42 34 true (.load 1 false) [.t 41],oG 43 34 true (.bin .lss) [.t 40,.t 42],mo 44 .pick [.t 34,.t 43,oFa],oV 45 44,oG 46 45 true .mv [.t 0],oG 47 45 true .mv [.t 7],oG 48 45 true (.bin .sub) [.t 47,oK 1],oG 49 45 true (.iaS 7 (Wait.enc Wait.zero)) [.t 46,.t 48],oG 50 45 true (.faddr 6) [.t 49],oG 51 45 true (.load 1 false) [.t 50],
 oG 52 45 true (.bin .lss) [.t 51,oK 3],mo 53 .pick [.t 45,.t 52,oFa]]
def zdy3:=[oV 54 7,oP 55 .sub [.t 54,oK 1],oV 7 55]
def zdy4:=[mo 56 (.bown 7 (Wait.enc Wait.zero)) [],oV 57 0,oV 58 7,mo 59 (.slc 7 false true false) [.t 57,.t 58],mo 60 (.append 7 56 (Wait.enc Wait.zero)) [.t 56,.t 59],oL 61 7 3,mo 62 (.bslice 7 (Wait.enc Wait.zero)) [.t 61],mo 63 (.append 7 56 (Wait.enc Wait.zero)) [.t 60,.t 62],oV 8 63]
def zdy5:=[oV 64 7,oV 9 64]
def zdy6:=[oV 65 9,oV 66 0,mo 67 .len [.t 66],oP 68 .lss [.t 65,.t 67]]
def zdy7:=[oV 71 0,oV 72 9,mo 73 (.iaS 7 (Wait.enc Wait.zero)) [.t 71,.t 72],oL 74 7 73,mo 10 (.alloc 7 (Wait.enc Wait.zero)) [],oS 7 10 74]
def zdy8:=[oA 75 6 10,oM 76 1 75,oP 77 .add [.t 76,oK 1],oA 78 6 10,oS 1 78 77]
def zdy9:=[oV 79 8,oL 80 7 10,mo 81 (.bslice 7 (Wait.enc Wait.zero)) [.t 80],mo 82 (.append 7 56 (Wait.enc Wait.zero)) [.t 79,.t 81],oV 8 82]
def zdz0:=[oV 69 9,oP 70 .add [.t 69,oK 1],oV 9 70]
def zdz1:=[oV 83 8,oV 84 7,oV 4 83,oV 5 84,oI 6 0]
attribute [go_sem] zec1 zec2 zec3 zec4 zec5 zec6 zec7 zec8 zec9 zed0 zdy2 zdy3 zdy4 zdy5 zdy6 zdy7 zdy8 zdy9 zdz0 zdz1
def zed1:=[oB 4 8 0,oB 5 3 1,oB 6 2 2,mo 8 (.alloc 8 (Queue.enc Queue.zero)) [],mo 9 .mv [oNi],oI 10 0]
def zed2:=[oL 17 8 4,oC 18 96 [.t 17],mo 19 .not [.t 18]]
def zed3:=[mo 20 (.build (Queue.enc Queue.zero) []) [],oS 8 8 20,mo 9 .mv [oNi],oI 10 2]
def zed4:=[oL 21 3 5,oC 22 97 [.t 21],mo 23 .not [.t 22],oV 24 23,oG 25 24 false .mv [.t 3],oG 26 24 false (.bin .lss) [.t 25,oK 0],mo 27 .pick [.t 24,oTr,.t 26],oV 28 27,oG 29 28 false .mv [.t 3],oG 30 28 false (.bin .gtr) [.t 29,oK 7],mo 31 .pick [.t 28,oTr,.t 30]]
def zed5:=[mo 32 (.build (Queue.enc Queue.zero) []) [],oS 8 8 32,mo 9 .mv [oNi],oI 10 1]
def zed6:=[oA 33 0 4,oL 34 4 33,oL 35 2 6,oC 36 98 [.t 34,.t 35],mo 37 .not [.t 36]]
def zed7:=[mo 38 (.build (Queue.enc Queue.zero) []) [],oS 8 8 38,mo 9 .mv [oNi],oI 10 12]
def zed8:=[oL 40 8 4,oL 41 3 5,oC 42 99 [.t 40,.t 41],oV 39 42,oE 43 0 39,oE 44 1 39,mo 11 (.alloc 2 (Amount.enc Amount.zero)) [],oS 2 11 43,oV 12 44]
def zed9:=[oV 45 12]
def zee0:=[mo 46 (.build (Queue.enc Queue.zero) []) [],oS 8 8 46,mo 9 .mv [oNi],oI 10 14]
def zdz2:=[oL 47 8 4,mo 48 (.callm 100) [.t 47],oS 8 4 48]
def zdz3:=[oL 49 8 4,oL 50 3 5,oC 51 31 [.t 49,.t 50],mo 13 (.alloc 2 (Amount.enc Amount.zero)) [],oS 2 13 51]
def zdz4:=[oA 52 0 4,oL 53 4 52,oL 54 2 13,oL 55 2 6,oC 56 101 [.t 53,.t 54,.t 55]]
def zdz5:=[oL 57 8 4,oS 8 8 57,mo 9 .mv [oNi],oI 10 0]
def zdz6:=[oL 58 2 13,oC 59 30 [.t 58],mo 60 .not [.t 59]]
def zdz7:=[oA 61 5 4,oM 62 1 61,oL 63 3 5,oA 64 0 4,oL 65 4 64,oL 66 2 13,oL 67 2 6,oC 68 102 [.t 65,.t 66,.t 67],mo 69 (.build (Wait.enc Wait.zero) [(0,3),(3,2)]) [.t 63,.t 68],mo 70 (.bslice 7 (Wait.enc Wait.zero)) [.t 69],mo 71 (.append 7 56 (Wait.enc Wait.zero)) [.t 62,.t 70],oA 72 5 4,oS 1 72 71]
def zdz8:=[oL 73 8 4,oC 74 103 [.t 73],oE 75 0 74,oE 76 1 74,oE 77 2 74,oS 8 8 75,oV 9 76,oV 10 77]
def zdz9:=[oA 78 4 4,oM 79 1 78,mo 80 .len [.t 79],oA 81 6 4,oM 82 1 81,mo 83 .len [.t 82],oP 84 .add [.t 80,.t 83],oP 85 .geq [.t 84,oK 8]]
def zdA0:=[mo 86 (.build (Queue.enc Queue.zero) []) [],oS 8 8 86,mo 9 .mv [oNi],oI 10 4]
def zdA1:=[oA 88 6 4,oM 89 1 88,oL 90 3 5,oL 91 2 6,oV 92 3,mo 93 (.build (Wait.enc Wait.zero) [(0,3),(3,2),(5,1)]) [.t 90,.t 91,.t 92],oC 94 104 [.t 89,.t 93],oV 87 94,oE 95 0 87,oE 96 1 87,oE 97 2 87,oV 14 95,oV 15 96,oV 16 97]
def zdA2:=[oV 98 16,oP 99 .neq [.t 98,oK 0]]
def zdA3:=[mo 100 (.build (Queue.enc Queue.zero) []) [],oV 101 16,oS 8 8 100,mo 9 .mv [oNi],oV 10 101]
def zdA4:=[oV 102 14,oA 103 6 4,oS 1 103 102]
def zdA5:=[oL 104 8 4,oC 105 103 [.t 104],oE 106 0 105,oE 107 1 105,oE 108 2 105,oS 8 8 106,oV 9 107,oV 10 108]
attribute [go_sem] zed1 zed2 zed3 zed4 zed5 zed6 zed7 zed8 zed9 zee0 zdz2 zdz3 zdz4 zdz5 zdz6 zdz7 zdz8 zdz9 zdA0 zdA1 zdA2 zdA3 zdA4 zdA5
def zee1:=[oB 5 8 2,mo 6 .mv [oNi]]
def zee2:=[mo 8 (.bown 8 (Queue.enc Queue.zero)) [],oV 9 0,mo 10 (.append 8 120 (Queue.enc Queue.zero)) [.t 8,.t 9],oV 7 10]
def zee3:=[oV 11 7,oV 12 1,oL 13 8 5,mo 14 (.iaS 8 (Queue.enc Queue.zero)) [.t 11,.t 12],oS 8 14 13]
def zee4:=[oV 15 7,oV 6 15]
attribute [go_sem] zee1 zee2 zee3 zee4
def zdg9:=[mo 4 .mv [oNi]]
def zdh0:=[mo 5 (.nilown 7 (Event.enc Event.zero)) [.c (A.full [])]]
def zdh1:=[oI 6 0]
def zdh2:=[oV 7 6,oV 8 1,mo 9 .len [.t 8],oP 10 .lss [.t 7,.t 9]]
def zdh3:=[oV 13 5,oV 14 1,oV 15 6,mo 16 (.iaS 5 (Hold.enc Hold.zero)) [.t 14,.t 15],oA 17 0 16,oL 18 3 17,oV 19 0,oV 20 1,oV 21 6,mo 22 (.iaS 5 (Hold.enc Hold.zero)) [.t 20,.t 21],oA 23 3 22,oL 24 2 23,mo 25 (.build (Event.enc Event.zero) [(0,1),(1,3),(4,1),(5,2)]) [oK 1,.t 18,.t 19,.t 24],mo 26 (.bslice 7 (Event.enc Event.zero)) [.t 25],
 mo 27 (.append 7 64 (Event.enc Event.zero)) [.t 13,.t 26],oV 5 27]
def zdh4:=[oV 11 6,oP 12 .add [.t 11,oK 1],oV 6 12]
def zdh5:=[oV 28 5,oV 4 28]
def zdh6:PC:=(.seq (.reg [] zdg9) (.seq (.reg [] zdh0) (.seq (.seq (.reg [] zdh1) (.block 0 (.loop (.seq (.seq (.reg [7,8,9] zdh2) (.cond (.t 10) .skip (.exit 0))) (.seq (.block 1 (.regm [13,14,15,16,17,18,19,20,21,22,23,24,25,26,27] [[],[],[],[1,2],[3,1,2],[4,3,1,2],[],[],[],[7,8],[9,7,8],[10,9,7,8],[5,6,11,4,3,1,2,10,9,7,8],[12,5,6,11,4,3,1,2,10,9,7,8],[0,13,12,5,6,11,4,3,1,2,10,9,7,8],[14,14,0,1,2,3,4,5,6,7,8,9,10,11,12,13,14,0,13,12,5,6,11,4,3,1,2,10,9,7,8,0,13,12,5,6,11,4,3,1,2,10,9,7,8,1,2,3,1,2,4,3,1,2,7,8,9,7,8,10,9,7,8,5,6,11,4,3,1,2,10,9,7,8,12,5,6,11,4,3,1,2,10,9,7,8,0,13,12,5,6,11,4,3,1,2,10,9,7,8]] zdh3)) (.reg [11,12] zdh4)))))) (.seq (.reg [28] zdh5) .ret))))
theorem zee5:chkF C.P 62 zdh6 29 [.t 4] 2=true:=by kernel_rfl
attribute [go_sem] zdg9 zdh0 zdh1 zdh2 zdh3 zdh4 zdh5
def zee6:=[oB 5 3 1,oB 6 3 2,mo 8 .mv [oNi],mo 9 .mv [oNi],oI 10 0]
def zee7:=[oV 16 0,oC 17 38 [.t 16],mo 18 .not [.t 17]]
def zee8:=[mo 8 .mv [oNi],mo 9 .mv [oNi],oI 10 2]
def zee9:=[oV 19 0,oA 20 0 6,oM 21 1 20,oC 22 27 [.t 19,.t 21],oV 11 22]
def zef0:=[oV 23 11,oP 24 .lss [.t 23,oK 0]]
def zef1:=[mo 8 .mv [oNi],mo 9 .mv [oNi],oI 10 10]
def zef2:=[oV 25 0,oC 26 37 [.t 25],oV 12 26]
def zef3:=[oV 27 12,mo 28 .len [.t 27],oP 29 .eql [.t 28,oK 8],oV 30 29,oG 31 30 true .mv [.t 12],oG 32 30 true (.load 3 true) [.t 5],oG 33 30 true (.call 59) [.t 31,.t 32],oG 34 30 true .not [.t 33],mo 35 .pick [.t 30,.t 34,oFa]]
def zef4:=[mo 8 .mv [oNi],mo 9 .mv [oNi],oI 10 4]
def zef5:=[oV 37 0,oV 38 11,mo 39 (.iaS 8 (Queue.enc Queue.zero)) [.t 37,.t 38],oL 40 8 39,oL 41 3 5,oA 42 1 6,oL 43 2 42,oV 44 3,oC 45 60 [.t 40,.t 41,.t 43,.t 44],oV 36 45,oE 46 0 36,oE 47 1 36,oE 48 2 36,mo 13 (.alloc 8 (Queue.enc Queue.zero)) [],oS 8 13 46,oV 14 47,oV 15 48]
def zdA6:=[oV 49 15,oP 50 .neq [.t 49,oK 0]]
def zdA7:=[oV 51 15,mo 8 .mv [oNi],mo 9 .mv [oNi],oV 10 51]
def zdA8:=[oV 52 0,oV 53 11,oL 54 8 13,oC 55 61 [.t 52,.t 53,.t 54],oA 56 0 6,oM 57 1 56,oV 58 14,oC 59 62 [.t 57,.t 58],oV 8 55,oV 9 59,oI 10 0]
attribute [go_sem] zee6 zee7 zee8 zee9 zef0 zef1 zef2 zef3 zef4 zef5 zdA6 zdA7 zdA8
def zdh7:=[mo 4 .mv [oFa]]
def zdh8:=[oV 6 0,mo 7 .len [.t 6],oV 8 1,mo 9 .len [.t 8],oP 10 .neq [.t 7,.t 9]]
def zdh9:=[mo 4 .mv [oFa]]
def zdi0:=[oI 5 0]
def zdi1:=[oV 11 5,oV 12 0,mo 13 .len [.t 12],oP 14 .lss [.t 11,.t 13]]
def zdi2:=[oV 17 0,oV 18 5,mo 19 (.iaS 7 (Event.enc Event.zero)) [.t 17,.t 18],oL 20 7 19,oV 21 1,oV 22 5,mo 23 (.iaS 7 (Event.enc Event.zero)) [.t 21,.t 22],oL 24 7 23,mo 25 (.eqa true [.i .i64,.i .i64,.i .i64,.i .i64,.s,.i .i64,.i .i64]) [.t 20,.t 24]]
def zdi3:=[mo 4 .mv [oFa]]
def zdi4:=[oV 15 5,oP 16 .add [.t 15,oK 1],oV 5 16]
def zdi5:=[mo 4 .mv [oTr]]
def zdi6:PC:=(.seq (.reg [] zdh7) (.seq (.seq (.reg [6,7,8,9] zdh8) (.cond (.t 10) (.seq (.reg [] zdh9) .ret) .skip)) (.seq (.seq (.reg [] zdi0) (.block 0 (.loop (.seq (.seq (.reg [11,12,13] zdi1) (.cond (.t 14) .skip (.exit 0))) (.seq (.block 1 (.seq (.regd [17,18,19,20,21,22,23,24] zdi2) (.cond (.t 25) (.seq (.reg [] zdi3) .ret) .skip))) (.reg [15,16] zdi4)))))) (.seq (.reg [] zdi5) .ret))))
theorem zef6:chkF C.P 36 zdi6 26 [.t 4] 2=true:=by kernel_rfl
attribute [go_sem] zdh7 zdh8 zdh9 zdi0 zdi1 zdi2 zdi3 zdi4 zdi5
def zef7:=[mo 12 .mv [oFa]]
def zef8:=[oV 13 2,oV 14 5,oP 15 .eql [.t 13,.t 14],oV 16 15,oG 17 16 true .mv [.t 0],oG 18 16 true .mv [.t 3],oG 19 16 true (.call 15) [.t 17,.t 18],mo 20 .pick [.t 16,.t 19,oFa],oV 21 20,oG 22 21 true .mv [.t 1],oG 23 21 true .mv [.t 4],oG 24 21 true (.call 36) [.t 22,.t 23],mo 25 .pick [.t 21,.t 24,oFa],
 oV 12 25]
attribute [go_sem] zef7 zef8
def zef9:=[mo 2 .mv [oFa]]
def zeg0:=[oV 3 0,mo 4 .len [.t 3],oP 5 .leq [.t 4,oK 300],oV 2 5]
attribute [go_sem] zef9 zeg0
def zeg1:=[oI 4 0]
def zeg2:=[oV 5 0,mo 6 .nilck [.t 5],oA 7 1 6,oM 8 1 7,oV 9 0,mo 10 .nilck [.t 9],oA 11 0 10,oM 12 1 11,mo 13 .len [.t 12],oP 14 .geq [.t 8,.t 13]]
def zeg3:=[oI 4 0]
def zeg4:=[oV 15 0,mo 16 .nilck [.t 15],oA 17 1 16,oM 18 1 17,oP 19 .add [.t 18,oK 1],mo 20 .nilck [.t 15],oA 21 1 20,oS 1 21 19]
def zeg5:=[oV 22 0,mo 23 .nilck [.t 22],oA 24 0 23,oM 25 1 24,oV 26 0,mo 27 .nilck [.t 26],oA 28 1 27,oM 29 1 28,oP 30 .sub [.t 29,oK 1],mo 31 (.iaS 1 [A.int .i64 0]) [.t 25,.t 30],oM 32 1 31,oV 33 1,oC 34 22 [.t 32,.t 33],oV 4 34]
attribute [go_sem] zeg1 zeg2 zeg3 zeg4 zeg5
def zeg6:=[mo 2 .mv [oNi]]
def zeg7:=[mo 3 (.nilown 4 (Resource.enc Resource.zero)) [.c (A.full [])]]
def zeg8:=[mo 6 (.bslice 1 [A.str (⟨#[]⟩)]) [.c (A.str ⟨#[97]⟩),.c (A.str ⟨#[98]⟩),.c (A.str ⟨#[99]⟩),.c (A.str ⟨#[100]⟩)],oV 4 6]
def zeg9:=[oI 5 0]
def zeh0:=[oV 7 5,oV 8 4,mo 9 .len [.t 8],oP 10 .lss [.t 7,.t 9]]
def zeh1:=[oV 13 3,oV 14 4,oV 15 5,mo 16 (.iaS 1 [A.str (⟨#[]⟩)]) [.t 14,.t 15],oM 17 1 16,oV 18 0,mo 19 (.callm 47) [.t 18,oK 4],mo 20 (.build (Resource.enc Resource.zero) [(0,1),(1,1),(2,1),(3,1)]) [.t 17,oK 1,oK 1,.t 19],mo 21 (.bslice 4 (Resource.enc Resource.zero)) [.t 20],mo 22 (.append 4 40 (Resource.enc Resource.zero)) [.t 13,.t 21],
 oV 3 22]
def zeh2:=[oV 11 5,oP 12 .add [.t 11,oK 1],oV 5 12]
def zeh3:=[oV 23 3,oV 24 0,mo 25 (.callm 47) [.t 24,oK 8],oP 26 .add [oK 1,.t 25],oV 27 0,mo 28 (.callm 47) [.t 27,oK 4],mo 29 (.build (Resource.enc Resource.zero) [(0,1),(1,1),(2,1),(3,1)]) [.c (A.str ⟨#[112]⟩),oK 2,.t 26,.t 28],mo 30 (.bslice 4 (Resource.enc Resource.zero)) [.t 29],mo 31 (.append 4 40 (Resource.enc Resource.zero)) [.t 23,.t 30],
 oV 3 31]
def zeh4:=[oV 32 3,oV 33 0,mo 34 (.callm 47) [.t 33,oK 3],oP 35 .add [oK 1,.t 34],oV 36 0,mo 37 (.callm 47) [.t 36,oK 4],mo 38 (.build (Resource.enc Resource.zero) [(0,1),(1,1),(2,1),(3,1)]) [.c (A.str ⟨#[113]⟩),oK 2,.t 35,.t 37],mo 39 (.bslice 4 (Resource.enc Resource.zero)) [.t 38],mo 40 (.append 4 40 (Resource.enc Resource.zero)) [.t 32,.t 39],
 oV 2 40]
attribute [go_sem] zeg6 zeg7 zeg8 zeg9 zeh0 zeh1 zeh2 zeh3 zeh4
def zeh5:=[mo 2 .mv [oFa]]
def zeh6:=[oV 3 0,mo 4 .nilck [.t 3],oA 5 1 4,oM 6 1 5,oV 7 0,mo 8 .nilck [.t 7],oA 9 0 8,oM 10 1 9,mo 11 .len [.t 10],oP 12 .lss [.t 6,.t 11],oV 2 12]
attribute [go_sem] zeh5 zeh6
def zeh7:=[oI 2 0]
def zeh8:=[mo 4 (.bslice 1 [A.int .i64 0]) [oK 5,oK 5,oK 3,oK 4,oK 2,oK 1,oK 3,oK 5],oV 3 4]
def zeh9:=[oV 5 3,oV 6 0,oV 7 3,mo 8 .len [.t 7],oC 9 22 [.t 6,.t 8],mo 10 (.iaS 1 [A.int .i64 0]) [.t 5,.t 9],oM 11 1 10,oV 2 11]
attribute [go_sem] zeh7 zeh8 zeh9
def zei0:=[oB 2 4 0,mo 4 (.alloc 2 (Amount.enc Amount.zero)) []]
def zei1:=[oA 5 1 2,oM 6 1 5,oP 7 .eql [.t 6,oK 1]]
def zei2:=[oV 8 1,oC 9 63 [.t 8],mo 10 (.build (Amount.enc Amount.zero) [(0,1)]) [.t 9],oS 2 4 10]
def zei3:=[oV 11 1,oA 12 2 2,oM 13 1 12,oC 14 22 [.t 11,.t 13],oP 15 .add [oK 1,.t 14],mo 16 (.build (Amount.enc Amount.zero) [(1,1)]) [.t 15],oS 2 4 16]
attribute [go_sem] zei0 zei1 zei2 zei3
def zdi7:=[oB 3 3 1,mo 4 .mv [oNi],mo 5 .mv [oFa]]
def zdi8:=[mo 6 (.nilown 7 (Wait.enc Wait.zero)) [.c (A.full [])]]
def zdi9:=[oI 7 0]
def zdj0:=[oV 8 7,oV 9 0,mo 10 .len [.t 9],oP 11 .lss [.t 8,.t 10]]
def zdj1:=[oV 14 0,oV 15 7,mo 16 (.iaS 7 (Wait.enc Wait.zero)) [.t 14,.t 15],oA 17 0 16,oL 18 3 17,oL 19 3 3,mo 20 (.eqa true [.i .i64,.i .i64,.i .i64]) [.t 18,.t 19]]
def zdj2:=[oV 21 6,oV 22 0,oV 23 7,mo 24 (.iaS 7 (Wait.enc Wait.zero)) [.t 22,.t 23],oL 25 7 24,mo 26 (.bslice 7 (Wait.enc Wait.zero)) [.t 25],mo 27 (.append 7 56 (Wait.enc Wait.zero)) [.t 21,.t 26],oV 6 27]
def zdj3:=[oV 12 7,oP 13 .add [.t 12,oK 1],oV 7 13]
def zdj4:=[oV 28 6,oV 29 6,mo 30 .len [.t 29],oV 31 0,mo 32 .len [.t 31],oP 33 .lss [.t 30,.t 32],oV 4 28,oV 5 33]
def zdj5:PC:=(.seq (.reg [] zdi7) (.seq (.reg [] zdi8) (.seq (.seq (.reg [] zdi9) (.block 0 (.loop (.seq (.seq (.reg [8,9,10] zdj0) (.cond (.t 11) .skip (.exit 0))) (.seq (.block 1 (.seq (.regd [14,15,16,17,18,19] zdj1) (.cond (.t 20) (.reg [21,22,23,24,25,26,27] zdj2) .skip))) (.reg [12,13] zdj3)))))) (.seq (.reg [28,29,30,31,32,33] zdj4) .ret))))
theorem zei4:chkF C.P 113 zdj5 34 [.t 4,.t 5] 2=true:=by kernel_rfl
attribute [go_sem] zdi7 zdi8 zdi9 zdj0 zdj1 zdj2 zdj3 zdj4
def zei5:=[oB 2 8 0,oB 3 3 1,mo 4 (.alloc 8 (Queue.enc Queue.zero)) [],mo 5 .mv [oNi],oI 6 0]
def zei6:=[oL 9 8 2,oC 10 96 [.t 9],mo 11 .not [.t 10]]
def zei7:=[mo 12 (.build (Queue.enc Queue.zero) []) [],oS 8 4 12,mo 5 .mv [oNi],oI 6 2]
def zei8:=[oL 14 8 2,oL 15 3 3,oC 16 99 [.t 14,.t 15],oV 13 16,oE 17 0 13,oE 18 1 13,mo 7 (.alloc 2 (Amount.enc Amount.zero)) [],oS 2 7 17,oV 8 18]
def zei9:=[oV 19 8,mo 20 .not [.t 19]]
def zej0:=[mo 21 (.build (Queue.enc Queue.zero) []) [],oS 8 4 21,mo 5 .mv [oNi],oI 6 10]
def zej1:=[oL 22 8 2,oC 23 100 [.t 22],oS 8 2 23]
def zej2:=[oA 25 5 2,oM 26 1 25,oL 27 3 3,oC 28 113 [.t 26,.t 27],oV 24 28,oE 29 0 24,oE 30 1 24,oA 31 5 2,oS 1 31 29]
def zej3:=[oA 33 6 2,oM 34 1 33,oL 35 3 3,oC 36 113 [.t 34,.t 35],oV 32 36,oE 37 0 32,oE 38 1 32,oA 39 6 2,oS 1 39 37]
def zej4:=[oL 40 8 2,oC 41 103 [.t 40],oE 42 0 41,oE 43 1 41,oE 44 2 41,oS 8 4 42,oV 5 43,oV 6 44]
attribute [go_sem] zei5 zei6 zei7 zei8 zei9 zej0 zej1 zej2 zej3 zej4
def zej5:=[oB 4 3 1,mo 6 .mv [oNi],mo 7 .mv [oNi],oI 8 0]
def zej6:=[oV 13 0,oC 14 38 [.t 13],mo 15 .not [.t 14]]
def zej7:=[mo 6 .mv [oNi],mo 7 .mv [oNi],oI 8 2]
def zej8:=[oV 16 0,oV 17 2,oC 18 27 [.t 16,.t 17],oV 9 18]
def zej9:=[oV 19 9,oP 20 .lss [.t 19,oK 0]]
def zek0:=[mo 6 .mv [oNi],mo 7 .mv [oNi],oI 8 10]
def zek1:=[oV 22 0,oV 23 9,mo 24 (.iaS 8 (Queue.enc Queue.zero)) [.t 22,.t 23],oL 25 8 24,oL 26 3 4,oC 27 79 [.t 25,.t 26],oV 21 27,oE 28 0 21,oE 29 1 21,oE 30 2 21,mo 10 (.alloc 8 (Queue.enc Queue.zero)) [],oS 8 10 28,oV 11 29,oV 12 30]
def zek2:=[oV 31 12,oP 32 .neq [.t 31,oK 0]]
def zek3:=[oV 33 12,mo 6 .mv [oNi],mo 7 .mv [oNi],oV 8 33]
def zek4:=[oV 34 0,oV 35 9,oL 36 8 10,oC 37 61 [.t 34,.t 35,.t 36],oV 38 2,oV 39 11,oC 40 62 [.t 38,.t 39],oV 6 37,oV 7 40,oI 8 0]
attribute [go_sem] zej5 zej6 zej7 zej8 zej9 zek0 zek1 zek2 zek3 zek4
def zek5:=[oB 3 8 0,oB 4 3 1,oB 5 2 2,mo 6 (.alloc 8 (Queue.enc Queue.zero)) [],mo 7 .mv [oNi],oI 8 0]
def zek6:=[oL 12 8 3,oC 13 96 [.t 12],mo 14 .not [.t 13]]
def zek7:=[mo 15 (.build (Queue.enc Queue.zero) []) [],oS 8 6 15,mo 7 .mv [oNi],oI 8 2]
def zek8:=[oL 16 8 3,oL 17 3 4,oC 18 31 [.t 16,.t 17],mo 9 (.alloc 2 (Amount.enc Amount.zero)) [],oS 2 9 18]
def zek9:=[oL 19 2 9,oC 20 30 [.t 19]]
def zel0:=[mo 21 (.build (Queue.enc Queue.zero) []) [],oS 8 6 21,mo 7 .mv [oNi],oI 8 10]
def zel1:=[oL 23 8 3,oL 24 3 4,oC 25 99 [.t 23,.t 24],oV 22 25,oE 26 0 22,oE 27 1 22,mo 10 (.alloc 2 (Amount.enc Amount.zero)) [],oS 2 10 26,oV 11 27]
def zel2:=[oV 28 11]
def zel3:=[mo 29 (.build (Queue.enc Queue.zero) []) [],oS 8 6 29,mo 7 .mv [oNi],oI 8 14]
def zel4:=[oA 30 0 3,oL 31 4 30,oL 32 2 9,oL 33 2 5,oC 34 101 [.t 31,.t 32,.t 33],mo 35 .not [.t 34]]
def zdA9:=[mo 36 (.build (Queue.enc Queue.zero) []) [],oS 8 6 36,mo 7 .mv [oNi],oI 8 12]
def zdB0:=[oL 37 8 3,oC 38 100 [.t 37],oS 8 3 38]
def zdB1:=[oL 39 2 9,oL 40 2 5,mo 41 (.eqa false [.i .i64,.i .i64]) [.t 39,.t 40]]
def zdB2:=[oL 42 8 3,oS 8 6 42,mo 7 .mv [oNi],oI 8 0]
def zdB3:=[oA 43 4 3,oM 44 1 43,oL 45 3 4,oL 46 2 5,oC 47 28 [.t 44,.t 45,.t 46],oA 48 4 3,oS 1 48 47]
def zdB4:=[oL 49 8 3,oC 50 103 [.t 49],oE 51 0 50,oE 52 1 50,oE 53 2 50,oS 8 6 51,oV 7 52,oV 8 53]
attribute [go_sem] zek5 zek6 zek7 zek8 zek9 zel0 zel1 zel2 zel3 zel4 zdA9 zdB0 zdB1 zdB2 zdB3 zdB4
def zel5:=[oB 4 3 1,oB 5 3 2,mo 6 .mv [oNi],mo 7 .mv [oNi],oI 8 0]
def zel6:=[oV 15 0,oC 16 38 [.t 15],mo 17 .not [.t 16]]
def zel7:=[mo 6 .mv [oNi],mo 7 .mv [oNi],oI 8 2]
def zel8:=[oV 18 0,oA 19 0 5,oM 20 1 19,oC 21 27 [.t 18,.t 20],oV 9 21]
def zel9:=[oV 22 9,oP 23 .lss [.t 22,oK 0]]
def zem0:=[mo 6 .mv [oNi],mo 7 .mv [oNi],oI 8 10]
def zem1:=[oV 24 0,oV 25 9,mo 26 (.iaS 8 (Queue.enc Queue.zero)) [.t 24,.t 25],oL 27 8 26,oL 28 3 4,oC 29 31 [.t 27,.t 28],mo 10 (.alloc 2 (Amount.enc Amount.zero)) [],oS 2 10 29]
def zem2:=[oV 31 0,oV 32 9,mo 33 (.iaS 8 (Queue.enc Queue.zero)) [.t 31,.t 32],oL 34 8 33,oL 35 3 4,oA 36 1 5,oL 37 2 36,oC 38 81 [.t 34,.t 35,.t 37],oV 30 38,oE 39 0 30,oE 40 1 30,oE 41 2 30,mo 11 (.alloc 8 (Queue.enc Queue.zero)) [],oS 8 11 39,oV 12 40,oV 13 41]
def zem3:=[oV 42 13,oP 43 .neq [.t 42,oK 0]]
def zem4:=[oV 44 13,mo 6 .mv [oNi],mo 7 .mv [oNi],oV 8 44]
def zdB5:=[mo 14 (.nilown 7 (Event.enc Event.zero)) [.c (A.full [])]]
def zdB6:=[oL 45 2 10,oA 46 1 5,oL 47 2 46,mo 48 (.eqa true [.i .i64,.i .i64]) [.t 45,.t 47]]
def zdB7:=[oV 49 14,oL 50 3 4,oA 51 0 5,oM 52 1 51,oA 53 1 5,oL 54 2 53,mo 55 (.build (Event.enc Event.zero) [(0,1),(1,3),(4,1),(5,2)]) [oK 3,.t 50,.t 52,.t 54],mo 56 (.bslice 7 (Event.enc Event.zero)) [.t 55],mo 57 (.append 7 64 (Event.enc Event.zero)) [.t 49,.t 56],oV 14 57]
def zdB8:=[oV 58 0,oV 59 9,oL 60 8 11,oC 61 61 [.t 58,.t 59,.t 60],oV 62 14,oA 63 0 5,oM 64 1 63,oV 65 12,oC 66 62 [.t 64,.t 65],mo 67 (.append 7 64 (Event.enc Event.zero)) [.t 62,.t 66],oV 6 61,oV 7 67,oI 8 0]
attribute [go_sem] zel5 zel6 zel7 zel8 zel9 zem0 zem1 zem2 zem3 zem4 zdB5 zdB6 zdB7 zdB8
def zem5:=[mo 2 .mv [oNi]]
def zem6:=[oV 12 0,mo 13 (.build (Tape.enc Tape.zero) [(0,1)]) [.t 12],oB 14 2 13,oV 3 14]
def zem7:=[oV 16 3,mo 17 (.callm 45) [.t 16],oC 18 13 [.t 17],oV 15 18,oE 19 0 15,oE 20 1 15,oV 4 19,oV 5 20]
def zem8:=[oV 21 3,mo 22 (.callm 46) [.t 21]]
def zem9:=[oV 23 3,mo 24 (.callm 47) [.t 23,oK 8],oV 6 24]
def zen0:=[oV 25 4,oV 26 3,oV 27 4,mo 28 .len [.t 27],mo 29 (.callm 47) [.t 26,.t 28],mo 30 (.iaS 8 (Queue.enc Queue.zero)) [.t 25,.t 29],oL 31 8 30,mo 7 (.alloc 8 (Queue.enc Queue.zero)) [],oS 8 7 31]
def zen1:=[oV 32 3,mo 33 (.callm 47) [.t 32,oK 8],oC 34 23 [.t 33],mo 8 (.alloc 3 (Proc.enc Proc.zero)) [],oS 3 8 34]
def zen2:=[oA 35 0 7,oA 36 0 35,oM 37 1 36,oA 38 0 7,oL 39 4 38,oV 40 3,mo 41 (.callm 47) [.t 40,oK 64],oC 42 24 [.t 39,.t 41],mo 43 (.build (Atom.enc Atom.zero) [(0,1),(1,2)]) [.t 37,.t 42],mo 9 (.alloc 3 (Atom.enc Atom.zero)) [],oS 3 9 43]
def zen3:=[mo 10 .mv [oNi]]
def zen4:=[oI 11 0]
def zdB9:=[oV 44 6]
def zdC0:=[oP 56 .eql [.t 44,oK 0],oV 55 56]
def zdC1:=[oV 58 4,oL 59 3 8,oA 60 0 9,oM 61 1 60,oC 62 42 [.t 58,.t 59,.t 61],oV 57 62,oE 63 0 57,oE 64 1 57,oE 65 2 57,oV 10 63,oV 11 65]
def zdC2:=[oP 67 .eql [.t 44,oK 1],oV 66 67]
def zdC3:=[oV 69 4,oL 70 3 8,oL 71 3 9,oC 72 44 [.t 69,.t 70,.t 71],oV 68 72,oE 73 0 68,oE 74 1 68,oE 75 2 68,oV 10 73,oV 11 75]
def zdC4:=[oV 46 4,oL 47 3 8,oL 48 3 9,oV 49 3,mo 50 (.callm 47) [.t 49,oK 8],oC 51 18 [.t 46,.t 47,.t 48,.t 50],oV 45 51,oE 52 0 45,oE 53 1 45,oE 54 2 45,oV 10 52,oV 11 54]
def zdC5:=[oV 76 11,oP 77 .eql [.t 76,oK 0]]
def zdC6:=[oV 78 10,oV 4 78]
def zdC7:=[oV 79 4,oV 2 79]
attribute [go_sem] zem5 zem6 zem7 zem8 zem9 zen0 zen1 zen2 zen3 zen4 zdB9 zdC0 zdC1 zdC2 zdC3 zdC4 zdC5 zdC6 zdC7
def zdj6:=[oB 5 8 2,mo 6 (.nilown 8 (Queue.enc Queue.zero)) [.c (A.full [])]]
def zdj7:=[oV 10 0,mo 11 .len [.t 10],mo 12 (.mk 8 120 (Queue.enc Queue.zero)) [.t 11,.t 11],oV 7 12]
def zdj8:=[oV 13 0,mo 14 .len [.t 13],oI 15 0]
def zdj9:=[oP 16 .lss [.t 15,.t 14]]
def zdk0:=[oV 17 15,mo 18 (.iaS 8 (Queue.enc Queue.zero)) [.t 13,.t 15],oL 19 8 18,mo 9 (.alloc 8 (Queue.enc Queue.zero)) [],oV 8 17,oS 8 9 19]
def zdk1:=[oA 20 4 9,oM 21 1 20,mo 22 (.apl 5 40) [.c (A.full []),.t 21],oA 23 4 9,oS 1 23 22]
def zdk2:=[oA 24 5 9,oM 25 1 24,mo 26 (.apl 7 56) [.c (A.full []),.t 25],oA 27 5 9,oS 1 27 26]
def zdk3:=[oA 28 6 9,oM 29 1 28,mo 30 (.apl 7 56) [.c (A.full []),.t 29],oA 31 6 9,oS 1 31 30]
def zdk4:=[oV 32 7,oV 33 8,oL 34 8 9,mo 35 (.iaS 8 (Queue.enc Queue.zero)) [.t 32,.t 33],oS 8 35 34]
def zdk5:=[oP 36 .add [.t 15,oK 1],oV 15 36]
def zbK0:=[oV 37 1,oP 38 .geq [.t 37,oK 0]]
def zbK1:=[oV 39 7,oV 40 1,oL 41 8 5,mo 42 (.iaS 8 (Queue.enc Queue.zero)) [.t 39,.t 40],oS 8 42 41]
def zbK2:=[oV 43 7,oV 6 43]
def zdk6:PC:=(.seq (.reg [] zdj6) (.seq (.reg [10,11,12] zdj7) (.seq (.seq (.reg [] zdj8) (.block 0 (.loop (.seq (.reg [] zdj9) (.seq (.cond (.t 16) .skip (.exit 0)) (.seq (.block 1 (.seq (.reg [17,18,19] zdk0) (.seq (.reg [20,21,22,23] zdk1) (.seq (.reg [24,25,26,27] zdk2) (.seq (.reg [28,29,30,31] zdk3) (.reg [32,33,34,35] zdk4)))))) (.reg [36] zdk5))))))) (.seq (.seq (.reg [37] zbK0) (.cond (.t 38) (.reg [39,40,41,42] zbK1) .skip)) (.seq (.reg [43] zbK2) .ret)))))
theorem zen5:chkF C.P 57 zdk6 44 [.t 6] 3=true:=by kernel_rfl
attribute [go_sem] zdj6 zdj7 zdj8 zdj9 zdk0 zdk1 zdk2 zdk3 zdk4 zdk5 zbK0 zbK1 zbK2
def zdk7:=[oB 1 8 0,mo 2 (.alloc 8 (Queue.enc Queue.zero)) []]
def zdk8:=[oA 3 4 1,oM 4 1 3,mo 5 (.append 5 40 (Hold.enc Hold.zero)) [.c (A.full []),.t 4],oA 6 4 1,oS 1 6 5]
def zdk9:=[oA 7 5 1,oM 8 1 7,mo 9 (.append 7 56 (Wait.enc Wait.zero)) [.c (A.full []),.t 8],oA 10 5 1,oS 1 10 9]
def zdl0:=[oA 11 6 1,oM 12 1 11,mo 13 (.append 7 56 (Wait.enc Wait.zero)) [.c (A.full []),.t 12],oA 14 6 1,oS 1 14 13]
def zdl1:=[oL 15 8 1,oS 8 2 15]
def zdl2:PC:=(.seq (.reg [] zdk7) (.seq (.reg [3,4,5,6] zdk8) (.seq (.reg [7,8,9,10] zdk9) (.seq (.reg [11,12,13,14] zdl0) (.seq (.reg [15] zdl1) .ret)))))
theorem zen6:chkF C.P 88 zdl2 16 [.c 2 8 true] 1=true:=by kernel_rfl
attribute [go_sem] zdk7 zdk8 zdk9 zdl0 zdl1
def zdl3:=[oA 2 4 0,oM 3 1 2,oL 4 3 1,mo 5 (.build (Amount.enc Amount.zero) []) [],oC 6 106 [.t 3,.t 4,.t 5],oA 7 4 0,oS 1 7 6]
def zdl4:PC:=(.reg [2,3,4,5,6,7] zdl3)
theorem zen7:chkF C.P 105 zdl4 8 [] 2=true:=by kernel_rfl
attribute [go_sem] zdl3
def zdl5:=[oB 3 3 1,mo 4 .mv [oNi],mo 5 .mv [oFa]]
def zdl6:=[mo 6 (.nilown 7 (Wait.enc Wait.zero)) [.c (A.full [])]]
def zdl7:=[oV 9 0,mo 10 .len [.t 9],oI 11 0]
def zdl8:=[oP 12 .lss [.t 11,.t 10]]
def zdl9:=[mo 13 (.iaS 7 (Wait.enc Wait.zero)) [.t 9,.t 11],oL 14 7 13,mo 8 (.alloc 7 (Wait.enc Wait.zero)) [],oS 7 8 14]
def zdm0:=[oA 15 0 8,oL 16 3 15,oL 17 3 3,mo 18 (.eqa true [.i .i64,.i .i64,.i .i64]) [.t 16,.t 17]]
def zdm1:=[oV 19 6,oL 20 7 8,mo 21 (.bslice 7 (Wait.enc Wait.zero)) [.t 20],mo 22 (.append 7 56 (Wait.enc Wait.zero)) [.t 19,.t 21],oV 6 22]
def zdm2:=[oP 23 .add [.t 11,oK 1],oV 11 23]
def zdm3:=[oV 24 6,oV 25 6,mo 26 .len [.t 25],oV 27 0,mo 28 .len [.t 27],oP 29 .lss [.t 26,.t 28],oV 4 24,oV 5 29]
def zdm4:PC:=(.seq (.reg [] zdl5) (.seq (.reg [] zdl6) (.seq (.seq (.reg [] zdl7) (.block 0 (.loop (.seq (.reg [] zdl8) (.seq (.cond (.t 12) .skip (.exit 0)) (.seq (.block 1 (.seq (.reg [13,14] zdl9) (.seq (.reg [15,16,17] zdm0) (.cond (.t 18) (.reg [19,20,21,22] zdm1) .skip)))) (.reg [23] zdm2))))))) (.seq (.reg [24,25,26,27,28,29] zdm3) .ret))))
theorem zen8:chkF C.P 108 zdm4 30 [.t 4,.t 5] 2=true:=by kernel_rfl
attribute [go_sem] zdl5 zdl6 zdl7 zdl8 zdl9 zdm0 zdm1 zdm2 zdm3
def zdm5:=[oA 3 5 0,oM 4 1 3,oL 5 3 1,oC 6 108 [.t 4,.t 5],oV 2 6,oE 7 0 2,oE 8 1 2,oA 9 5 0,oS 1 9 7]
def zdm6:PC:=(.reg [2,3,4,5,6,7,8,9] zdm5)
theorem zen9:chkF C.P 107 zdm6 10 [] 2=true:=by kernel_rfl
attribute [go_sem] zdm5
def zdm7:=[oA 3 6 0,oM 4 1 3,oL 5 3 1,oC 6 108 [.t 4,.t 5],oV 2 6,oE 7 0 2,oE 8 1 2,oA 9 6 0,oS 1 9 7]
def zdm8:PC:=(.reg [2,3,4,5,6,7,8,9] zdm7)
theorem zeo0:chkF C.P 109 zdm8 10 [] 2=true:=by kernel_rfl
attribute [go_sem] zdm7
def zdm9:=[mo 4 (.alloc 8 (Queue.enc Queue.zero)) [],mo 5 .mv [oNi],oI 6 0]
def zdn0:=[oV 10 1,mo 11 .len [.t 10],oI 12 0]
def zdn1:=[oP 13 .lss [.t 12,.t 11]]
def zdn2:=[mo 14 (.iaS 1 [A.any]) [.t 10,.t 12],oM 15 1 14,oV 8 15]
def zdn3:=[oV 16 8,mo 17 .callvm [.t 16]]
def zdn4:=[oP 18 .add [.t 12,oK 1],oV 12 18]
def zdn5:=[oV 19 0,mo 20 (.callm 135) [.t 19],oV 9 20]
def zdn6:=[oV 21 0,oV 22 0,mo 23 .nilck [.t 22],oA 24 7 23,oM 25 1 24,oC 26 136 [.t 25],mo 27 .nilck [.t 21],oA 28 7 27,oS 1 28 26]
def zdn7:=[oV 29 0,mo 30 .nilck [.t 29],oL 31 8 30,oV 32 9,oS 8 4 31,oV 5 32,oI 6 0]
def zdn8:PC:=(.seq (.reg [] zdm9) (.seq (.seq (.reg [] zdn0) (.block 0 (.loop (.seq (.reg [] zdn1) (.seq (.cond (.t 13) .skip (.exit 0)) (.seq (.block 1 (.seq (.reg [14,15] zdn2) (.reg [16,17] zdn3))) (.reg [18] zdn4))))))) (.seq (.reg [19,20] zdn5) (.seq (.reg [21,22,23,24,25,26,27,28] zdn6) (.seq (.reg [29,30,31,32] zdn7) .ret)))))
theorem zeo1:chkF C.P 91 zdn8 33 [.c 4 8 true,.t 5,.t 6] 2=true:=by kernel_rfl
attribute [go_sem] zdm9 zdn0 zdn1 zdn2 zdn3 zdn4 zdn5 zdn6 zdn7
def zdn9:=[oB 2 8 0,oB 3 3 1,mo 4 (.alloc 8 (Queue.enc Queue.zero)) [],mo 5 .mv [oNi],oI 6 0]
def zdo0:=[oL 8 8 2,oC 9 84 [.t 8],mo 10 .not [.t 9]]
def zdo1:=[mo 11 (.build (Queue.enc Queue.zero) []) [],oS 8 4 11,mo 5 .mv [oNi],oI 6 2]
def zdo2:=[oL 12 8 2,oC 13 76 [.t 12],oL 14 3 3,oC 15 55 [.t 13,.t 14],mo 16 .not [.t 15]]
def zdo3:=[mo 17 (.build (Queue.enc Queue.zero) []) [],oS 8 4 17,mo 5 .mv [oNi],oI 6 10]
def zdo4:=[oL 18 8 2,oC 19 88 [.t 18],mo 7 (.alloc 8 (Queue.enc Queue.zero)) [],oS 8 7 19]
def zdo5:=[mo 20 (.mkf 105) [.t 7,.t 3],mo 21 (.mkf 107) [.t 7,.t 3],mo 22 (.mkf 109) [.t 7,.t 3],mo 23 (.bown 1 [A.any]) [.t 20,.t 21,.t 22],mo 24 (.callm 91) [.t 7,.t 23],oE 25 0 24,oE 26 1 24,oE 27 2 24,oS 8 4 25,oV 5 26,oV 6 27]
def zdo6:PC:=(.seq (.reg [] zdn9) (.seq (.seq (.reg [8,9] zdo0) (.cond (.t 10) (.seq (.reg [11] zdo1) .ret) .skip)) (.seq (.seq (.regd [12,13,14,15] zdo2) (.cond (.t 16) (.seq (.reg [17] zdo3) .ret) .skip)) (.seq (.reg [18,19] zdo4) (.seq (.reg [20,21,22,23,24,25,26,27] zdo5) .ret)))))
theorem zeo2:chkF C.P 65 zdo6 28 [.c 4 8 true,.t 5,.t 6] 2=true:=by kernel_rfl
attribute [go_sem] zdn9 zdo0 zdo1 zdo2 zdo3 zdo4 zdo5
def zdo7:=[oB 3 3 0,oB 5 2 2,mo 6 (.alloc 7 (Event.enc Event.zero)) []]
def zdo8:=[oL 7 3 3,oV 8 1,oL 9 2 5,mo 10 (.build (Event.enc Event.zero) [(0,1),(1,3),(4,1),(5,2)]) [oK 3,.t 7,.t 8,.t 9],oS 7 6 10]
def zdo9:PC:=(.seq (.reg [] zdo7) (.seq (.reg [7,8,9,10] zdo8) .ret))
theorem zeo3:chkF C.P 67 zdo9 11 [.c 6 7 true] 3=true:=by kernel_rfl
attribute [go_sem] zdo7 zdo8
def zdp0:=[mo 6 (.nilown 7 (Event.enc Event.zero)) [.c (A.full [])]]
def zdp1:=[oV 9 1,mo 10 .len [.t 9],oI 11 0]
def zdp2:=[oP 12 .lss [.t 11,.t 10]]
def zdp3:=[mo 13 (.iaS 5 (Hold.enc Hold.zero)) [.t 9,.t 11],oL 14 5 13,mo 8 (.alloc 5 (Hold.enc Hold.zero)) [],oS 5 8 14]
def zdp4:=[oV 15 2,oA 16 0 8,oL 17 3 16,oV 18 0,oA 19 3 8,oL 20 2 19,mo 21 (.build (Event.enc Event.zero) [(0,1),(1,3),(4,1),(5,2)]) [oK 1,.t 17,.t 18,.t 20],mo 22 (.bslice 7 (Event.enc Event.zero)) [.t 21],mo 23 (.append 7 64 (Event.enc Event.zero)) [.t 15,.t 22],oV 2 23]
def zdp5:=[oP 24 .add [.t 11,oK 1],oV 11 24]
def zdp6:=[oV 25 2,oV 6 25]
def zdp7:PC:=(.seq (.reg [] zdp0) (.seq (.seq (.reg [] zdp1) (.block 0 (.loop (.seq (.reg [] zdp2) (.seq (.cond (.t 12) .skip (.exit 0)) (.seq (.block 1 (.seq (.reg [13,14] zdp3) (.reg [15,16,17,18,19,20,21,22,23] zdp4))) (.reg [24] zdp5))))))) (.seq (.reg [25] zdp6) .ret)))
theorem zeo4:chkF C.P 58 zdp7 26 [.t 6] 3=true:=by kernel_rfl
attribute [go_sem] zdp0 zdp1 zdp2 zdp3 zdp4 zdp5 zdp6
def zdp8:=[oB 3 3 1,mo 4 .mv [oNi],mo 5 .mv [oNi]]
def zdp9:=[oV 13 0,oC 14 53 [.t 13],mo 15 .not [.t 14]]
def zdq0:=[mo 4 .mv [oNi],mo 5 .mv [oNi]]
def zdq1:=[oV 16 0,mo 17 (.build (Queue.enc Queue.zero) []) [],mo 18 (.callm 57) [.t 16,oK (-1),.t 17],oV 6 18]
def zdq2:=[mo 7 (.nilown 7 (Event.enc Event.zero)) [.c (A.full [])]]
def zdq3:=[oV 19 0,mo 20 .len [.t 19],oI 21 0]
def zdq4:=[oP 22 .lss [.t 21,.t 20]]
def zdq5:=[oV 23 21,mo 24 (.iaS 8 (Queue.enc Queue.zero)) [.t 19,.t 21],oL 25 8 24,mo 9 (.alloc 8 (Queue.enc Queue.zero)) [],oV 8 23,oS 8 9 25]
def zdq6:=[oL 27 8 9,oL 28 3 3,oC 29 65 [.t 27,.t 28],oV 26 29,oE 30 0 26,oE 31 1 26,oE 32 2 26,mo 10 (.alloc 8 (Queue.enc Queue.zero)) [],oS 8 10 30,oV 11 31,oV 12 32]
def zdq7:=[oV 33 12,oP 34 .neq [.t 33,oK 0]]
def zbK3:=[oL 35 8 9,oL 36 3 3,oC 37 66 [.t 35,.t 36],mo 38 (.build (Amount.enc Amount.zero) []) [],mo 39 (.eqa true [.i .i64,.i .i64]) [.t 37,.t 38]]
def zbK4:=[oV 40 7,oL 41 3 3,oA 42 0 9,oA 43 0 42,oM 44 1 43,mo 45 (.build (Amount.enc Amount.zero) []) [],oC 46 67 [.t 41,.t 44,.t 45],mo 47 (.bslice 7 (Event.enc Event.zero)) [.t 46],mo 48 (.append 7 64 (Event.enc Event.zero)) [.t 40,.t 47],oV 7 48]
def zbK5:=[oA 49 0 9,oA 50 0 49,oM 51 1 50,oV 52 11,oV 53 7,mo 54 (.callm 58) [.t 51,.t 52,.t 53],oV 7 54]
def zbK6:=[oV 55 6,oV 56 8,oL 57 8 10,mo 58 (.iaS 8 (Queue.enc Queue.zero)) [.t 55,.t 56],oS 8 58 57]
def zbK7:=[oP 59 .add [.t 21,oK 1],oV 21 59]
def zbK8:=[oV 60 6,oV 61 7,oV 4 60,oV 5 61]
def zdq8:PC:=(.seq (.reg [] zdp8) (.seq (.seq (.reg [13,14] zdp9) (.cond (.t 15) (.seq (.reg [] zdq0) .ret) .skip)) (.seq (.reg [16,17,18] zdq1) (.seq (.reg [] zdq2) (.seq (.seq (.reg [] zdq3) (.block 0 (.loop (.seq (.reg [] zdq4) (.seq (.cond (.t 22) .skip (.exit 0)) (.seq (.block 1 (.seq (.reg [23,24,25] zdq5) (.seq (.reg [26,27,28,29,30,31,32] zdq6) (.seq (.seq (.reg [33] zdq7) (.cond (.t 34) (.exit 1) .skip)) (.seq (.seq (.reg [35,36,37,38] zbK3) (.cond (.t 39) (.reg [40,41,42,43,44,45,46,47,48] zbK4) .skip)) (.seq (.reg [49,50,51,52,53,54] zbK5) (.reg [55,56,57,58] zbK6))))))) (.reg [59] zbK7))))))) (.seq (.reg [60,61] zbK8) .ret))))))
theorem zeo5:chkF C.P 26 zdq8 62 [.t 4,.t 5] 2=true:=by kernel_rfl
attribute [go_sem] zdp8 zdp9 zdq0 zdq1 zdq2 zdq3 zdq4 zdq5 zdq6 zdq7 zbK3 zbK4 zbK5 zbK6 zbK7 zbK8
def zeo6:=[oB 3 3 1,mo 4 .mv [oNi]]
def zeo7:=[mo 5 (.nilown 3 (Atom.enc Atom.zero)) [.c (A.full [])]]
def zeo8:=[oV 10 0,mo 11 .len [.t 10],oI 12 0]
def zeo9:=[oP 13 .lss [.t 12,.t 11]]
def zep0:=[mo 14 (.iaS 8 (Queue.enc Queue.zero)) [.t 10,.t 12],oL 15 8 14,mo 7 (.alloc 8 (Queue.enc Queue.zero)) [],oS 8 7 15]
def zep1:=[oL 17 8 7,oL 18 3 3,oC 19 70 [.t 17,.t 18],oV 16 19,oE 20 0 16,oE 21 1 16,mo 8 (.alloc 2 (Amount.enc Amount.zero)) [],oS 2 8 20,oV 9 21]
def zep2:=[oV 22 9]
def zep3:=[oV 23 5,oA 24 0 7,oA 25 0 24,oM 26 1 25,oL 27 2 8,mo 28 (.build (Atom.enc Atom.zero) [(0,1),(1,2)]) [.t 26,.t 27],mo 29 (.bslice 3 (Atom.enc Atom.zero)) [.t 28],mo 30 (.append 3 32 (Atom.enc Atom.zero)) [.t 23,.t 29],oV 5 30]
def zep4:=[oP 31 .add [.t 12,oK 1],oV 12 31]
def zep5:=[oV 32 5,oV 4 32]
attribute [go_sem] zeo6 zeo7 zeo8 zeo9 zep0 zep1 zep2 zep3 zep4 zep5
def zdq9:=[oB 2 8 0,oB 3 3 1,mo 4 .mv [oFa]]
def zdr0:=[oL 8 8 2,oL 9 3 3,oC 10 99 [.t 8,.t 9],oV 7 10,oE 11 0 7,oE 12 1 7,mo 5 (.alloc 2 (Amount.enc Amount.zero)) [],oS 2 5 11,oV 6 12]
def zdr1:=[oV 13 6,oV 14 13,oG 15 14 false (.load 8 true) [.t 2],oG 16 14 false (.load 3 true) [.t 3],oG 17 14 false (.call 31) [.t 15,.t 16],oG 18 14 false (.call 30) [.t 17],oG 19 14 false .not [.t 18],mo 20 .pick [.t 14,oTr,.t 19],oV 4 20]
def zdr2:PC:=(.seq (.reg [] zdq9) (.seq (.reg [5,7,8,9,10,11,12] zdr0) (.seq (.reg [13,14,15,16,17,18,19,20] zdr1) .ret)))
theorem zep6:chkF C.P 71 zdr2 21 [.t 4] 2=true:=by kernel_rfl
attribute [go_sem] zdq9 zdr0 zdr1
def zdr3:=[oB 2 8 0,oB 3 3 1,mo 4 (.alloc 8 (Queue.enc Queue.zero)) [],mo 5 .mv [oNi],oI 6 0]
def zdr4:=[oL 7 8 2,oC 8 96 [.t 7],mo 9 .not [.t 8]]
def zdr5:=[mo 10 (.build (Queue.enc Queue.zero) []) [],oS 8 4 10,mo 5 .mv [oNi],oI 6 2]
def zdr6:=[oL 11 8 2,oL 12 3 3,oC 13 71 [.t 11,.t 12],mo 14 .not [.t 13]]
def zdr7:=[mo 15 (.build (Queue.enc Queue.zero) []) [],oS 8 4 15,mo 5 .mv [oNi],oI 6 10]
def zdr8:=[oL 16 8 2,oC 17 100 [.t 16],oS 8 2 17]
def zdr9:=[oA 18 4 2,oM 19 1 18,oL 20 3 3,mo 21 (.build (Amount.enc Amount.zero) []) [],oC 22 28 [.t 19,.t 20,.t 21],oA 23 4 2,oS 1 23 22]
def zds0:=[oA 25 5 2,oM 26 1 25,oL 27 3 3,oC 28 113 [.t 26,.t 27],oV 24 28,oE 29 0 24,oE 30 1 24,oA 31 5 2,oS 1 31 29]
def zds1:=[oA 33 6 2,oM 34 1 33,oL 35 3 3,oC 36 113 [.t 34,.t 35],oV 32 36,oE 37 0 32,oE 38 1 32,oA 39 6 2,oS 1 39 37]
def zds2:=[oL 40 8 2,oC 41 103 [.t 40],oE 42 0 41,oE 43 1 41,oE 44 2 41,oS 8 4 42,oV 5 43,oV 6 44]
def zds3:PC:=(.seq (.reg [] zdr3) (.seq (.seq (.reg [7,8] zdr4) (.cond (.t 9) (.seq (.reg [10] zdr5) .ret) .skip)) (.seq (.seq (.reg [11,12,13] zdr6) (.cond (.t 14) (.seq (.reg [15] zdr7) .ret) .skip)) (.seq (.reg [16,17] zdr8) (.seq (.reg [18,19,20,21,22,23] zdr9) (.seq (.reg [24,25,26,27,28,29,30,31] zds0) (.seq (.reg [32,33,34,35,36,37,38,39] zds1) (.seq (.reg [40,41,42,43,44] zds2) .ret))))))))
theorem zep7:chkF C.P 72 zds3 45 [.c 4 8 true,.t 5,.t 6] 2=true:=by kernel_rfl
attribute [go_sem] zdr3 zdr4 zdr5 zdr6 zdr7 zdr8 zdr9 zds0 zds1 zds2
def zds4:=[oB 3 3 1,mo 4 .mv [oNi],mo 5 .mv [oNi]]
def zds5:=[oV 12 0,oC 13 38 [.t 12],mo 14 .not [.t 13]]
def zds6:=[mo 4 .mv [oNi],mo 5 .mv [oNi]]
def zds7:=[mo 15 (.bown 8 (Queue.enc Queue.zero)) [],oV 16 0,mo 17 (.append 8 120 (Queue.enc Queue.zero)) [.t 15,.t 16],oV 6 17]
def zds8:=[mo 7 (.nilown 7 (Event.enc Event.zero)) [.c (A.full [])]]
def zds9:=[oI 8 0]
def zdt0:=[oV 18 8,oV 19 6,mo 20 .len [.t 19],oP 21 .lss [.t 18,.t 20]]
def zdt1:=[oV 24 6,oV 25 8,mo 26 (.iaS 8 (Queue.enc Queue.zero)) [.t 24,.t 25],oL 27 8 26,oL 28 3 3,oC 29 71 [.t 27,.t 28],mo 30 .not [.t 29]]
def zdt2:=[oV 31 6,oV 32 8,mo 33 (.iaS 8 (Queue.enc Queue.zero)) [.t 31,.t 32],oL 34 8 33,oL 35 3 3,oC 36 31 [.t 34,.t 35],oC 37 30 [.t 36],mo 38 .not [.t 37]]
def zbK9:=[oV 39 7,oL 40 3 3,oV 41 6,oV 42 8,mo 43 (.iaS 8 (Queue.enc Queue.zero)) [.t 41,.t 42],oA 44 0 43,oA 45 0 44,oM 46 1 45,mo 47 (.build (Event.enc Event.zero) [(0,1),(1,3),(4,1)]) [oK 3,.t 40,.t 46],mo 48 (.bslice 7 (Event.enc Event.zero)) [.t 47],mo 49 (.append 7 64 (Event.enc Event.zero)) [.t 39,.t 48],
 oV 7 49]
def zbL0:=[oV 51 6,oV 52 8,mo 53 (.iaS 8 (Queue.enc Queue.zero)) [.t 51,.t 52],oL 54 8 53,oL 55 3 3,oC 56 72 [.t 54,.t 55],oV 50 56,oE 57 0 50,oE 58 1 50,oE 59 2 50,mo 9 (.alloc 8 (Queue.enc Queue.zero)) [],oS 8 9 57,oV 10 58,oV 11 59]
def zbL1:=[oV 60 6,oV 61 8,oL 62 8 9,mo 63 (.iaS 8 (Queue.enc Queue.zero)) [.t 60,.t 61],oS 8 63 62]
def zbL2:=[oV 64 7,oA 65 0 9,oA 66 0 65,oM 67 1 66,oV 68 10,oC 69 62 [.t 67,.t 68],mo 70 (.append 7 64 (Event.enc Event.zero)) [.t 64,.t 69],oV 7 70]
def zdt3:=[oV 22 8,oP 23 .add [.t 22,oK 1],oV 8 23]
def zbL3:=[oV 71 6,oV 72 7,oV 4 71,oV 5 72]
def zdt4:PC:=(.seq (.reg [] zds4) (.seq (.seq (.reg [12,13] zds5) (.cond (.t 14) (.seq (.reg [] zds6) .ret) .skip)) (.seq (.reg [15,16,17] zds7) (.seq (.reg [] zds8) (.seq (.seq (.reg [] zds9) (.block 0 (.loop (.seq (.seq (.reg [18,19,20] zdt0) (.cond (.t 21) .skip (.exit 0))) (.seq (.block 1 (.seq (.seq (.regd [24,25,26,27,28,29] zdt1) (.cond (.t 30) (.exit 1) .skip)) (.seq (.seq (.regd [31,32,33,34,35,36,37] zdt2) (.cond (.t 38) (.regm [39,40,41,42,43,44,45,46,47,48,49] [[],[],[],[],[2,3],[4,2,3],[5,4,2,3],[6,5,4,2,3],[1,7,6,5,4,2,3],[8,1,7,6,5,4,2,3],[0,9,8,1,7,6,5,4,2,3],[10,10,0,1,2,3,4,5,6,7,8,9,10,0,9,8,1,7,6,5,4,2,3,0,9,8,1,7,6,5,4,2,3,2,3,4,2,3,5,4,2,3,6,5,4,2,3,1,7,6,5,4,2,3,8,1,7,6,5,4,2,3,0,9,8,1,7,6,5,4,2,3]] zbK9) .skip)) (.seq (.regm [11,50,51,52,53,54,55,56,57,58,59] [[],[],[0,1],[2,0,1],[],[3,4,2,0,1],[5,3,4,2,0,1],[6,5,3,4,2,0,1],[6,5,3,4,2,0,1],[6,5,3,4,2,0,1],[],[10,7,5,0,1,2,3,4,5,6,7,10,6,5,3,4,2,0,1,3,4,2,0,1,0,1,2,0,1,3,4,2,0,1,5,3,4,2,0,1,6,5,3,4,2,0,1],[8,11,0,1,2,3,4,5,6,7,8,10,11,6,5,3,4,2,0,1,10,7,5,0,1,2,3,4,5,6,7,10,6,5,3,4,2,0,1,3,4,2,0,1,0,1,2,0,1,3,4,2,0,1,5,3,4,2,0,1,6,5,3,4,2,0,1,0,1,2,0,1,3,4,2,0,1,5,3,4,2,0,1,6,5,3,4,2,0,1,6,5,3,4,2,0,1,10,7,5,0,1,2,3,4,5,6,7,10,6,5,3,4,2,0,1,3,4,2,0,1,0,1,2,0,1,3,4,2,0,1,5,3,4,2,0,1,6,5,3,4,2,0,1],[9,12,0,1,2,3,4,5,6,7,8,9,10,11,12,6,5,3,4,2,0,1,8,11,0,1,2,3,4,5,6,7,8,10,11,6,5,3,4,2,0,1,10,7,5,0,1,2,3,4,5,6,7,10,6,5,3,4,2,0,1,3,4,2,0,1,0,1,2,0,1,3,4,2,0,1,5,3,4,2,0,1,6,5,3,4,2,0,1,0,1,2,0,1,3,4,2,0,1,5,3,4,2,0,1,6,5,3,4,2,0,1,6,5,3,4,2,0,1,10,7,5,0,1,2,3,4,5,6,7,10,6,5,3,4,2,0,1,3,4,2,0,1,0,1,2,0,1,3,4,2,0,1,5,3,4,2,0,1,6,5,3,4,2,0,1,0,1,2,0,1,3,4,2,0,1,5,3,4,2,0,1,6,5,3,4,2,0,1,6,5,3,4,2,0,1,6,5,3,4,2,0,1,10,7,5,0,1,2,3,4,5,6,7,10,6,5,3,4,2,0,1,3,4,2,0,1,0,1,2,0,1,3,4,2,0,1,5,3,4,2,0,1,6,5,3,4,2,0,1,8,11,0,1,2,3,4,5,6,7,8,10,11,6,5,3,4,2,0,1,10,7,5,0,1,2,3,4,5,6,7,10,6,5,3,4,2,0,1,3,4,2,0,1,0,1,2,0,1,3,4,2,0,1,5,3,4,2,0,1,6,5,3,4,2,0,1,0,1,2,0,1,3,4,2,0,1,5,3,4,2,0,1,6,5,3,4,2,0,1,6,5,3,4,2,0,1,10,7,5,0,1,2,3,4,5,6,7,10,6,5,3,4,2,0,1,3,4,2,0,1,0,1,2,0,1,3,4,2,0,1,5,3,4,2,0,1,6,5,3,4,2,0,1]] zbL0) (.seq (.reg [60,61,62,63] zbL1) (.reg [64,65,66,67,68,69,70] zbL2)))))) (.reg [22,23] zdt3)))))) (.seq (.reg [71,72] zbL3) .ret))))))
theorem zep8:chkF C.P 33 zdt4 73 [.t 4,.t 5] 2=true:=by kernel_rfl
attribute [go_sem] zds4 zds5 zds6 zds7 zds8 zds9 zdt0 zdt1 zdt2 zbK9 zbL0 zbL1 zbL2 zdt3 zbL3
def zdt5:=[mo 6 .mv [oNi],mo 7 .mv [oNi]]
def zdt6:=[oV 14 0,oC 15 53 [.t 14],mo 16 .not [.t 15]]
def zdt7:=[mo 6 .mv [oNi],mo 7 .mv [oNi]]
def zdt8:=[oV 17 0,mo 18 (.build (Queue.enc Queue.zero) []) [],oC 19 57 [.t 17,oK (-1),.t 18],oV 8 19]
def zdt9:=[mo 9 (.nilown 7 (Event.enc Event.zero)) [.c (A.full [])]]
def zdu0:=[oV 20 0,oC 21 40 [.t 20],mo 22 .len [.t 21],oI 23 0]
def zdu1:=[oP 24 .lss [.t 23,.t 22]]
def zdu2:=[mo 25 (.iaS 3 (Proc.enc Proc.zero)) [.t 21,.t 23],oL 26 3 25,mo 11 (.alloc 3 (Proc.enc Proc.zero)) [],oS 3 11 26]
def zdu3:=[oA 27 0 11,oM 28 1 27,oV 29 1,oP 30 .neq [.t 28,.t 29],oV 31 30,oG 32 31 false (.faddr 1) [.t 11],oG 33 31 false (.load 1 false) [.t 32],oG 34 31 false .mv [.t 2],oG 35 31 false (.bin .geq) [.t 33,.t 34],mo 36 .pick [.t 31,oTr,.t 35]]
def zdu4:=[oV 38 8,oL 39 3 11,oC 40 26 [.t 38,.t 39],oV 37 40,oE 41 0 37,oE 42 1 37,oV 12 41,oV 13 42]
def zbL4:=[oV 43 12,oV 8 43]
def zbL5:=[oV 44 9,oV 45 13,mo 46 (.append 7 64 (Event.enc Event.zero)) [.t 44,.t 45],oV 9 46]
def zbL6:=[oP 47 .add [.t 23,oK 1],oV 23 47]
def zbL7:=[oV 48 8,oV 49 9,oV 6 48,oV 7 49]
def zdu5:PC:=(.seq (.reg [] zdt5) (.seq (.seq (.reg [14,15] zdt6) (.cond (.t 16) (.seq (.reg [] zdt7) .ret) .skip)) (.seq (.reg [17,18,19] zdt8) (.seq (.reg [] zdt9) (.seq (.seq (.reg [20] zdu0) (.block 0 (.loop (.seq (.reg [] zdu1) (.seq (.cond (.t 24) .skip (.exit 0)) (.seq (.block 1 (.seq (.reg [25,26] zdu2) (.seq (.seq (.reg [27,28,29,30,31,32,33,34,35] zdu3) (.cond (.t 36) (.exit 1) .skip)) (.seq (.reg [37,38,39,40,41,42] zdu4) (.seq (.reg [43] zbL4) (.reg [44,45,46] zbL5)))))) (.reg [47] zbL6))))))) (.seq (.reg [48,49] zbL7) .ret))))))
theorem zep9:chkF C.P 34 zdu5 50 [.t 6,.t 7] 3=true:=by kernel_rfl
attribute [go_sem] zdt5 zdt6 zdt7 zdt8 zdt9 zdu0 zdu1 zdu2 zdu3 zdu4 zbL4 zbL5 zbL6 zbL7
def zdu6:=[mo 6 .mv [oNi],mo 7 .mv [oNi]]
def zdu7:=[oV 13 0,oC 14 38 [.t 13],mo 15 .not [.t 14]]
def zdu8:=[mo 6 .mv [oNi],mo 7 .mv [oNi]]
def zdu9:=[mo 8 (.nilown 7 (Event.enc Event.zero)) [.c (A.full [])]]
def zdv0:=[oV 16 0,oC 17 37 [.t 16],oV 9 17]
def zdv1:=[oI 10 0]
def zdv2:=[oV 18 10,oV 19 9,mo 20 .len [.t 19],oP 21 .lss [.t 18,.t 20]]
def zdv3:=[oV 24 9,oV 25 10,mo 26 (.iaS 3 (Proc.enc Proc.zero)) [.t 24,.t 25],oA 27 0 26,oM 28 1 27,oV 29 1,oP 30 .eql [.t 28,.t 29],oV 31 30,oG 32 31 true .mv [.t 9],oG 33 31 true .mv [.t 10],oG 34 31 true (.iaS 3 (Proc.enc Proc.zero)) [.t 32,.t 33],oG 35 31 true (.faddr 1) [.t 34],oG 36 31 true (.load 1 false) [.t 35],
 oG 37 31 true .mv [.t 2],oG 38 31 true (.bin .lss) [.t 36,.t 37],mo 39 .pick [.t 31,.t 38,oFa]]
def zdv4:=[oV 41 0,oV 42 9,oV 43 10,mo 44 (.iaS 3 (Proc.enc Proc.zero)) [.t 42,.t 43],oL 45 3 44,oC 46 33 [.t 41,.t 45],oV 40 46,oE 47 0 40,oE 48 1 40,oV 11 47,oV 12 48]
def zbL8:=[oV 49 11,oV 0 49]
def zbL9:=[oV 50 8,oV 51 12,mo 52 (.append 7 64 (Event.enc Event.zero)) [.t 50,.t 51],oV 8 52]
def zdv5:=[oV 22 10,oP 23 .add [.t 22,oK 1],oV 10 23]
def zbM0:=[oV 53 0,oV 54 8,oV 6 53,oV 7 54]
def zdv6:PC:=(.seq (.reg [] zdu6) (.seq (.seq (.reg [13,14] zdu7) (.cond (.t 15) (.seq (.reg [] zdu8) .ret) .skip)) (.seq (.reg [] zdu9) (.seq (.reg [16,17] zdv0) (.seq (.seq (.reg [] zdv1) (.block 0 (.loop (.seq (.seq (.reg [18,19,20] zdv2) (.cond (.t 21) .skip (.exit 0))) (.seq (.block 1 (.seq (.reg [24,25,26,27,28,29,30,31,32,33,34,35,36,37,38] zdv3) (.cond (.t 39) (.seq (.reg [40,41,42,43,44,45,46,47,48] zdv4) (.seq (.reg [49] zbL8) (.reg [50,51,52] zbL9))) .skip))) (.reg [22,23] zdv5)))))) (.seq (.reg [53,54] zbM0) .ret))))))
theorem zeq0:chkF C.P 35 zdv6 55 [.t 6,.t 7] 3=true:=by kernel_rfl
attribute [go_sem] zdu6 zdu7 zdu8 zdu9 zdv0 zdv1 zdv2 zdv3 zdv4 zbL8 zbL9 zdv5 zbM0
def zeq1:=[mo 4 .mv [oFa]]
def zeq2:=[oV 6 0,mo 7 .len [.t 6],oV 8 1,mo 9 .len [.t 8],oP 10 .neq [.t 7,.t 9]]
def zeq3:=[mo 4 .mv [oFa]]
def zeq4:=[oI 5 0]
def zeq5:=[oV 11 5,oV 12 0,mo 13 .len [.t 12],oP 14 .lss [.t 11,.t 13]]
def zeq6:=[oV 17 0,oV 18 5,mo 19 (.iaS 3 (Proc.enc Proc.zero)) [.t 17,.t 18],oL 20 3 19,oV 21 1,oV 22 5,mo 23 (.iaS 3 (Proc.enc Proc.zero)) [.t 21,.t 22],oL 24 3 23,mo 25 (.eqa true [.i .i64,.i .i64,.i .i64]) [.t 20,.t 24]]
def zeq7:=[mo 4 .mv [oFa]]
def zeq8:=[oV 15 5,oP 16 .add [.t 15,oK 1],oV 5 16]
def zeq9:=[mo 4 .mv [oTr]]
attribute [go_sem] zeq1 zeq2 zeq3 zeq4 zeq5 zeq6 zeq7 zeq8 zeq9
def zer0:=[oA 3 5 0,oM 4 1 3,oL 5 3 1,oC 6 108 [.t 4,.t 5],oV 2 6,oE 7 0 2,oE 8 1 2,oA 9 5 0,oS 1 9 7]
attribute [go_sem] zer0
def zer1:=[oA 3 6 0,oM 4 1 3,oL 5 3 1,oC 6 108 [.t 4,.t 5],oV 2 6,oE 7 0 2,oE 8 1 2,oA 9 6 0,oS 1 9 7]
attribute [go_sem] zer1
def zer2:=[mo 4 (.alloc 8 (Queue.enc Queue.zero)) [],mo 5 .mv [oNi],oI 6 0]
def zer3:=[oV 10 1,mo 11 .len [.t 10],oI 12 0]
def zer4:=[oP 13 .lss [.t 12,.t 11]]
def zer5:=[mo 14 (.iaS 1 [A.any]) [.t 10,.t 12],oM 15 1 14,oV 8 15]
def zer6:=[oV 16 8,mo 17 .callvm [.t 16]]
def zer7:=[oP 18 .add [.t 12,oK 1],oV 12 18]
def zer8:=[oV 19 0,mo 20 (.callm 135) [.t 19],oV 9 20]
def zer9:=[oV 21 0,oV 22 0,mo 23 .nilck [.t 22],oA 24 7 23,oM 25 1 24,oC 26 136 [.t 25],mo 27 .nilck [.t 21],oA 28 7 27,oS 1 28 26]
def zes0:=[oV 29 0,mo 30 .nilck [.t 29],oL 31 8 30,oV 32 9,oS 8 4 31,oV 5 32,oI 6 0]
attribute [go_sem] zer2 zer3 zer4 zer5 zer6 zer7 zer8 zer9 zes0
def zes1:=[oB 2 8 0,oB 3 3 1,mo 4 (.alloc 8 (Queue.enc Queue.zero)) [],mo 5 .mv [oNi],oI 6 0]
def zes2:=[oL 10 8 2,oC 11 84 [.t 10],mo 12 .not [.t 11]]
def zes3:=[mo 13 (.build (Queue.enc Queue.zero) []) [],oS 8 4 13,mo 5 .mv [oNi],oI 6 2]
def zes4:=[oL 15 8 2,oL 16 3 3,oC 17 70 [.t 15,.t 16],oV 14 17,oE 18 0 14,oE 19 1 14,mo 7 (.alloc 2 (Amount.enc Amount.zero)) [],oS 2 7 18,oV 8 19]
def zes5:=[oV 20 8,mo 21 .not [.t 20]]
def zes6:=[mo 22 (.build (Queue.enc Queue.zero) []) [],oS 8 4 22,mo 5 .mv [oNi],oI 6 10]
def zes7:=[oL 23 8 2,oC 24 88 [.t 23],mo 9 (.alloc 8 (Queue.enc Queue.zero)) [],oS 8 9 24]
def zes8:=[mo 25 (.mkf 121) [.t 9,.t 3],mo 26 (.mkf 122) [.t 9,.t 3],mo 27 (.bown 1 [A.any]) [.t 25,.t 26],mo 28 (.callm 91) [.t 9,.t 27],oE 29 0 28,oE 30 1 28,oE 31 2 28,oS 8 4 29,oV 5 30,oV 6 31]
attribute [go_sem] zes1 zes2 zes3 zes4 zes5 zes6 zes7 zes8
def zes9:=[oB 4 3 1,mo 6 .mv [oNi],mo 7 .mv [oNi],oI 8 0]
def zet0:=[oV 14 0,oV 15 2,oC 16 54 [.t 14,.t 15],oV 13 16,oE 17 0 13,oE 18 1 13,oV 9 17,oV 10 18]
def zet1:=[oV 19 10,oP 20 .neq [.t 19,oK 0]]
def zet2:=[oV 21 10,mo 6 .mv [oNi],mo 7 .mv [oNi],oV 8 21]
def zet3:=[oV 23 0,oV 24 9,mo 25 (.iaS 8 (Queue.enc Queue.zero)) [.t 23,.t 24],oL 26 8 25,oL 27 3 4,oC 28 78 [.t 26,.t 27],oV 22 28,oE 29 0 22,oE 30 1 22,oE 31 2 22,mo 11 (.alloc 8 (Queue.enc Queue.zero)) [],oS 8 11 29,oV 12 30,oV 10 31]
def zet4:=[oV 32 10,oP 33 .neq [.t 32,oK 0]]
def zet5:=[oV 34 10,mo 6 .mv [oNi],mo 7 .mv [oNi],oV 8 34]
def zet6:=[oV 35 0,oV 36 9,oL 37 8 11,oC 38 57 [.t 35,.t 36,.t 37],oV 39 2,oV 40 12,mo 41 (.callm 58) [.t 39,.t 40,.c (A.full [])],oV 6 38,oV 7 41,oI 8 0]
attribute [go_sem] zes9 zet0 zet1 zet2 zet3 zet4 zet5 zet6
def zet7:=[oA 3 4 0,oM 4 1 3,oL 5 3 1,oL 6 2 2,oC 7 106 [.t 4,.t 5,.t 6],oA 8 4 0,oS 1 8 7]
attribute [go_sem] zet7
def zet8:=[mo 4 (.alloc 8 (Queue.enc Queue.zero)) [],mo 5 .mv [oNi],oI 6 0]
def zet9:=[oV 10 1,mo 11 .len [.t 10],oI 12 0]
def zeu0:=[oP 13 .lss [.t 12,.t 11]]
def zeu1:=[mo 14 (.iaS 1 [A.any]) [.t 10,.t 12],oM 15 1 14,oV 8 15]
def zeu2:=[oV 16 8,mo 17 .callvm [.t 16]]
def zeu3:=[oP 18 .add [.t 12,oK 1],oV 12 18]
def zeu4:=[oV 19 0,mo 20 (.callm 135) [.t 19],oV 9 20]
def zeu5:=[oV 21 0,oV 22 0,mo 23 .nilck [.t 22],oA 24 7 23,oM 25 1 24,oC 26 136 [.t 25],mo 27 .nilck [.t 21],oA 28 7 27,oS 1 28 26]
def zeu6:=[oV 29 0,mo 30 .nilck [.t 29],oL 31 8 30,oV 32 9,oS 8 4 31,oV 5 32,oI 6 0]
attribute [go_sem] zet8 zet9 zeu0 zeu1 zeu2 zeu3 zeu4 zeu5 zeu6
def zeu7:=[oB 3 8 0,oB 4 3 1,oB 5 2 2,mo 6 (.alloc 8 (Queue.enc Queue.zero)) [],mo 7 .mv [oNi],oI 8 0]
def zeu8:=[oL 11 8 3,oC 12 84 [.t 11],mo 13 .not [.t 12]]
def zeu9:=[mo 14 (.build (Queue.enc Queue.zero) []) [],oS 8 6 14,mo 7 .mv [oNi],oI 8 2]
def zev0:=[oL 15 8 3,oL 16 3 4,oC 17 66 [.t 15,.t 16],mo 9 (.alloc 2 (Amount.enc Amount.zero)) [],oS 2 9 17]
def zev1:=[oL 18 2 9,oC 19 90 [.t 18]]
def zev2:=[mo 20 (.build (Queue.enc Queue.zero) []) [],oS 8 6 20,mo 7 .mv [oNi],oI 8 10]
def zev3:=[oA 21 5 3,oM 22 1 21,oL 23 3 4,oC 24 123 [.t 22,.t 23],oP 25 .geq [.t 24,oK 0]]
def zev4:=[mo 26 (.build (Queue.enc Queue.zero) []) [],oS 8 6 26,mo 7 .mv [oNi],oI 8 14]
def zev5:=[oA 27 0 3,oL 28 4 27,oL 29 2 9,oL 30 2 5,oC 31 89 [.t 28,.t 29,.t 30],mo 32 .not [.t 31]]
def zev6:=[mo 33 (.build (Queue.enc Queue.zero) []) [],oS 8 6 33,mo 7 .mv [oNi],oI 8 12]
def zdC8:=[oL 34 8 3,oC 35 88 [.t 34],mo 10 (.alloc 8 (Queue.enc Queue.zero)) [],oS 8 10 35]
def zdC9:=[oL 36 2 5,oL 37 2 9,mo 38 (.eqa false [.i .i64,.i .i64]) [.t 36,.t 37]]
def zdD0:=[oL 39 8 10,oS 8 6 39,mo 7 .mv [oNi],oI 8 0]
def zdD1:=[mo 40 (.mkf 124) [.t 10,.t 4,.t 5],mo 41 (.bown 1 [A.any]) [.t 40],mo 42 (.callm 91) [.t 10,.t 41],oE 43 0 42,oE 44 1 42,oE 45 2 42,oS 8 6 43,oV 7 44,oV 8 45]
attribute [go_sem] zeu7 zeu8 zeu9 zev0 zev1 zev2 zev3 zev4 zev5 zev6 zdC8 zdC9 zdD0 zdD1
def zev7:=[mo 6 .mv [oNi]]
def zev8:=[oV 9 1,mo 10 .len [.t 9],oI 11 0]
def zev9:=[oP 12 .lss [.t 11,.t 10]]
def zew0:=[mo 13 (.iaS 5 (Hold.enc Hold.zero)) [.t 9,.t 11],oL 14 5 13,mo 8 (.alloc 5 (Hold.enc Hold.zero)) [],oS 5 8 14]
def zew1:=[oV 15 2,oA 16 0 8,oL 17 3 16,oV 18 0,oA 19 3 8,oL 20 2 19,mo 21 (.build (Event.enc Event.zero) [(0,1),(1,3),(4,1),(5,2)]) [oK 1,.t 17,.t 18,.t 20],mo 22 (.bslice 7 (Event.enc Event.zero)) [.t 21],mo 23 (.append 7 64 (Event.enc Event.zero)) [.t 15,.t 22],oV 2 23]
def zew2:=[oP 24 .add [.t 11,oK 1],oV 11 24]
def zew3:=[oV 25 2,oV 6 25]
attribute [go_sem] zev7 zev8 zev9 zew0 zew1 zew2 zew3
def zew4:=[oB 4 3 1,oB 5 3 2,mo 6 .mv [oNi],mo 7 .mv [oNi],oI 8 0]
def zew5:=[oV 14 0,oA 15 0 5,oM 16 1 15,oC 17 54 [.t 14,.t 16],oV 13 17,oE 18 0 13,oE 19 1 13,oV 9 18,oV 10 19]
def zew6:=[oV 20 10,oP 21 .neq [.t 20,oK 0]]
def zew7:=[oV 22 10,mo 6 .mv [oNi],mo 7 .mv [oNi],oV 8 22]
def zew8:=[oV 24 0,oV 25 9,mo 26 (.iaS 8 (Queue.enc Queue.zero)) [.t 24,.t 25],oL 27 8 26,oL 28 3 4,oA 29 1 5,oL 30 2 29,oC 31 80 [.t 27,.t 28,.t 30],oV 23 31,oE 32 0 23,oE 33 1 23,oE 34 2 23,mo 11 (.alloc 8 (Queue.enc Queue.zero)) [],oS 8 11 32,oV 12 33,oV 10 34]
def zew9:=[oV 35 10,oP 36 .neq [.t 35,oK 0]]
def zex0:=[oV 37 10,mo 6 .mv [oNi],mo 7 .mv [oNi],oV 8 37]
def zex1:=[oA 38 1 5,oL 39 2 38,oV 40 0,oV 41 9,mo 42 (.iaS 8 (Queue.enc Queue.zero)) [.t 40,.t 41],oL 43 8 42,oL 44 3 4,oC 45 66 [.t 43,.t 44],mo 46 (.eqa false [.i .i64,.i .i64]) [.t 39,.t 45]]
def zex2:=[oV 47 0,oV 48 9,oL 49 8 11,oC 50 57 [.t 47,.t 48,.t 49],oV 6 50,mo 7 .mv [oNi],oI 8 0]
def zex3:=[oV 51 0,oV 52 9,oL 53 8 11,oC 54 57 [.t 51,.t 52,.t 53],oA 55 0 5,oM 56 1 55,oV 57 12,oL 58 3 4,oA 59 0 5,oM 60 1 59,oA 61 1 5,oL 62 2 61,oC 63 67 [.t 58,.t 60,.t 62],mo 64 (.bown 7 (Event.enc Event.zero)) [.t 63],mo 65 (.callm 58) [.t 56,.t 57,.t 64],oV 6 54,oV 7 65,oI 8 0]
attribute [go_sem] zew4 zew5 zew6 zew7 zew8 zew9 zex0 zex1 zex2 zex3
def zex4:=[mo 2 .mv [oNi]]
def zex5:=[mo 3 (.nilown 3 (Proc.enc Proc.zero)) [.c (A.full [])]]
def zex6:=[oI 4 0]
def zex7:=[oV 5 4,oV 6 0,mo 7 .len [.t 6],oP 8 .lss [.t 5,.t 7]]
def zex8:=[oV 11 3,oV 12 0,oV 13 4,mo 14 (.iaS 5 (Hold.enc Hold.zero)) [.t 12,.t 13],oA 15 0 14,oL 16 3 15,mo 17 (.bslice 3 (Proc.enc Proc.zero)) [.t 16],mo 18 (.append 3 24 (Proc.enc Proc.zero)) [.t 11,.t 17],oV 3 18]
def zex9:=[oV 9 4,oP 10 .add [.t 9,oK 1],oV 4 10]
def zey0:=[oV 19 3,oV 2 19]
attribute [go_sem] zex4 zex5 zex6 zex7 zex8 zex9 zey0
def zey1:=[mo 2 .mv [oNi]]
def zey2:=[mo 3 (.nilown 3 (Proc.enc Proc.zero)) [.c (A.full [])]]
def zey3:=[oV 6 0,mo 7 .len [.t 6],oI 8 0]
def zey4:=[oP 9 .lss [.t 8,.t 7]]
def zey5:=[mo 10 (.iaS 5 (Hold.enc Hold.zero)) [.t 6,.t 8],oL 11 5 10,mo 5 (.alloc 5 (Hold.enc Hold.zero)) [],oS 5 5 11]
def zey6:=[oV 12 3,oA 13 0 5,oL 14 3 13,mo 15 (.bslice 3 (Proc.enc Proc.zero)) [.t 14],mo 16 (.append 3 24 (Proc.enc Proc.zero)) [.t 12,.t 15],oV 3 16]
def zey7:=[oP 17 .add [.t 8,oK 1],oV 8 17]
def zey8:=[oV 18 3,oV 2 18]
attribute [go_sem] zey1 zey2 zey3 zey4 zey5 zey6 zey7 zey8
end Ab
end Go.Proofs.YtfjeceicgfdmjaaGreatDoor
