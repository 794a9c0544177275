import Derived.Test.YtebopmkhhppfaaaGreatDoorFn
namespace Go.Proofs.YtebopmkhhppfaaaGreatDoor
namespace Ab
set_option linter.unusedSimpArgs false
set_option linter.unusedVariables false
set_option maxRecDepth 100000
set_option maxHeartbeats 1000000
attribute [local irreducible] zk5 zc7 zb9 zo4 zd6 zb1 zr2 zd0 zc1 zd5 ze2 zh9 zg1 zn9 zf0 zk6 zj1 zl6 zq7 zt4 zt9 zs2 zo0 zh3 zw0 zl7 zu4 zz2 zo1 zu5 zr5 zq1 zu6 zn0 zq2 zk0 zo2 zo8 zi0 zm5 ze7 zd4 zs4 zu7 zc6 zc9 zj7 zu8 zu9 zj8 zi1 zf1 zw1 zi3 ze8 zC4 zi5 zc5 zC5 zg3 zf2 zi9 zl0 zk7 zj3 zr7 zm9 zs7 zz3 zy0 zD3 zy1 zK5 zK9 zG8 zv0 zB4 zB5 zO8 zB7 zr8 zy2 zG9 zq9 zv1 zB8 zr9 zm6 zy3 zs9 zz4 zB9 zy4 zu0 zT6 zL0 zl8 zd7 zx5 zv2 zq3 zo6 zx0 zl9 zp6 ze9 zr0 zt1 zl1 zw4 zh1 ze1 zA9 zx1 zv3 zH0 zM8 zp9 zj0 zh2 zd8 zw6 zx8 zb6 zd1 zB0 zo7 zc3 zw7 zC0 zx6 zt7 zP4 zP5 zL9 zB1 zK7 zL3 zm8 zk4 zD2 zz5 zs1 zu2 zab0 zI1 zO0 zac5
def zeF1:=[mo 2 .mv [oFa]]
def zeF2:=[oV 8 0,oC 9 5 [.t 8],oV 7 9,oE 10 0 7,oE 11 1 7,mo 3 (.alloc 2 (WaitState.enc WaitState.zero)) [],oS 2 3 10,oV 4 11]
def zeF3:=[oV 13 0,oC 14 6 [.t 13],oV 12 14,oE 15 0 12,oE 16 1 12,mo 5 (.alloc 2 (WaitState.enc WaitState.zero)) [],oS 2 5 15,oV 6 16]
def zeF4:=[oC 17 7 [],oV 18 17,oG 19 18 true .mv [.t 4],oG 20 18 true .mv [.t 6],oG 21 18 true (.bin .eql) [.t 19,.t 20],mo 22 .pick [.t 18,.t 21,oFa],oV 23 22,oG 24 23 true (.load 2 true) [.t 3],oG 25 23 true (.load 2 true) [.t 5],oG 26 23 true (.call 8) [.t 24,.t 25],mo 27 .pick [.t 23,.t 26,oFa],
 oV 2 27]
def zeF5:PC:=(.seq (.reg [] zeF1) (.seq (.reg [7,8,9,10,11] zeF2) (.seq (.reg [12,13,14,15,16] zeF3) (.seq (.reg [17,18,19,20,21,22,23,24,25,26,27] zeF4) .ret))))
theorem zfu5:chkF C.P 3 zeF5 28 [.t 2] 1=true:=by kernel_rfl
attribute [go_sem] zeF1 zeF2 zeF3 zeF4
noncomputable def zs8 (a0:List Int):Option (Bool) :=
 (zf1 a0).bind fun v1 =>
 (zu0 a0).bind fun v2 =>
 (zC0).bind fun v3 =>
 ((if (v3&&(decide (v1.2=v2.2)))=true then zK7 v1.1 v2.1 else some (false))).bind fun v4 =>
 some ((v3&&(decide (v1.2=v2.2)))&&v4)
theorem zas1 (a0:List Int) (r:Bool) (h:zs8 a0=some r):PFn C 3 [.sl (a0.map (eI .u8))] (.bool r):=by
 refine za7 zfu5 rfl fun E hG hN hK=>?_
 unfold zeF5
 unfold zs8 at h
 refine za0 (za1 hG ?_)
 refine za0 (za1 hG ?_)
 obtain ⟨v1,hv1,h⟩:=za2 h
 refine za8 (fun hg=>zab7 _ _ hv1) ?_
 refine za0 (za1 hG ?_)
 obtain ⟨v2,hv2,h⟩:=za2 h
 refine za8 (fun hg=>zbb6 _ _ hv2) ?_
 refine za0 (za1 hG ?_)
 obtain ⟨v3,hv3,h⟩:=za2 h
 refine za8 (fun hg=>zaq4 _ hv3) ?_
 obtain ⟨v4,hv4,h⟩:=za2 h
 refine za8 (fun hg=>zaL7 v1.1 v2.1 _ (zv4 hg hv4)) ?_
 refine za6 ?_
 exact zb0 h
attribute [local irreducible] zs8
end Ab
end Go.Proofs.YtebopmkhhppfaaaGreatDoor
