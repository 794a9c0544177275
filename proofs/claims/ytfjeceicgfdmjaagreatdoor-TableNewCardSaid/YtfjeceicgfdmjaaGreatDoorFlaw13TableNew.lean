/-
  A law's own code and what it computes.
-/
import Derived.Test.YtfjeceicgfdmjaaGreatDoorFn
namespace Go.Proofs.YtfjeceicgfdmjaaGreatDoor
namespace Ab
set_option linter.unusedSimpArgs false
set_option linter.unusedVariables false
set_option maxRecDepth 100000
set_option maxHeartbeats 1000000
attribute [local irreducible] ze6 zc7 zi3 zt0 zq1 zf7 zd5 zm5 zq2 zp9 zq3 zi4 zd4 zf8 ze7 zg1 zl1 zg5 zl7 zj4 zg2 zd9 zl9 zf4 zm7 zn4 zh0 zh8 zi8 zi5 zg6 zf9 zc3 zc0 zm8 zo1 zb4 zb5 zg0 zm9 zl2 zj5 zp6 zu2 zc4 zb6 zi6 zi9 zk3 zA8 zo2 zj0 zd7 zk6 zo3 zj1 zj2 zo4 zf5 zk7 zo5 zk8 zj6 zj3 zh1 zu3 zs2 zo6 zm3 zh5 zn0 zm1 zo7 zt3 zn1 zu4 zq4 zu5 zk4 zj7 zr2 zm4 zr3 zk5 zh2 zr4 zo8 zl5 zs3 zk9 zr5 zn5 zC2 zx0 zp7 zo9 zh3 zr6 zp0 zh4 zh6 zr7 zj8 zs4 ze2 zA1 zw3 zR1 zH5 zl0 zr8 zn8 zt7 zr9 zT3 zy4 zp1 zw4 zl6 zw6 zw7 zy5 zK5 zv1 zK6 zT4 zR2 zK7 zK8 zW8 zW9 zI6 zn9 zo0 zq5 zu6 zu7 zq6 zq7 zx1 zs5 zx2 zX0 zy8
def zdH9:=[mo 2 .mv [oFa]]
def zdI0:=[oV 8 0,oC 9 12 [.t 8],oV 7 9,oE 10 0 7,oE 11 1 7,oV 3 10,oV 4 11]
def zdI1:=[oV 13 0,oC 14 13 [.t 13],oV 12 14,oE 15 0 12,oE 16 1 12,oV 5 15,oV 6 16]
def zdI2:=[oC 17 14 [],oV 18 17,oG 19 18 true .mv [.t 4],oG 20 18 true .mv [.t 6],oG 21 18 true (.bin .eql) [.t 19,.t 20],mo 22 .pick [.t 18,.t 21,oFa],oV 23 22,oG 24 23 true .mv [.t 3],oG 25 23 true .mv [.t 5],oG 26 23 true (.call 15) [.t 24,.t 25],mo 27 .pick [.t 23,.t 26,oFa],oV 2 27]
def zdI3:PC:=(.seq (.reg [] zdH9) (.seq (.reg [7,8,9,10,11] zdI0) (.seq (.reg [12,13,14,15,16] zdI1) (.seq (.reg [17,18,19,20,21,22,23,24,25,26,27] zdI2) .ret))))
theorem zeG6:chkF C.P 3 zdI3 28 [.t 2] 1=true:=by kernel_rfl
attribute [go_sem] zdH9 zdI0 zdI1 zdI2
noncomputable def zE7 (a0:List Resource):Option (Bool) :=
 (zq1 a0).bind fun v1 =>
 (zq2 a0).bind fun v2 =>
 (zj6).bind fun v3 =>
 ((if (v3&&(decide (v1.2=v2.2)))=true then zs2 v1.1 v2.1 else some (false))).bind fun v4 =>
 some ((v3&&(decide (v1.2=v2.2)))&&v4)
theorem zaE4 (a0:List Resource) (r:Bool) (h:zE7 a0=some r):PFn C 3 [.sl (a0.map Resource.enc)] (.bool r):=by
 refine za8 zeG6 rfl fun E hG hN hK=>?_
 unfold zdI3
 unfold zE7 at h
 refine za0 (za1 hG ?_)
 refine za0 (za1 hG ?_)
 obtain ⟨v1,hv1,h⟩:=za2 h
 refine za6 (fun hg=>zaB7 a0 _ (hv1)) ?_
 refine za0 (za1 hG ?_)
 obtain ⟨v2,hv2,h⟩:=za2 h
 refine za6 (fun hg=>zbj4 a0 _ (hv2)) ?_
 refine za0 (za1 hG ?_)
 obtain ⟨v3,hv3,h⟩:=za2 h
 refine za6 (fun hg=>zJ9  _ (hv3)) ?_
 obtain ⟨v4,hv4,h⟩:=za2 h
 refine za6 (fun hg=>zax3 v1.1 v2.1 _ (zw9 hg hv4)) ?_
 refine za7 ?_
 exact zb0 h
attribute [local irreducible] zE7
end Ab
end Go.Proofs.YtfjeceicgfdmjaaGreatDoor
