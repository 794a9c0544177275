/-
  A law's own code and what it computes.
-/
import Derived.Test.YtfjeceicgfdmjaaGreatDoorFn
namespace Go.Proofs.YtfjeceicgfdmjaaGreatDoor
namespace Ab
set_option linter.unusedSimpArgs false
set_option linter.unusedVariables false
set_option maxRecDepth 100000
set_option maxHeartbeats 1000000
attribute [local irreducible] ze6 zc7 zi3 zt0 zq1 zf7 zd5 zm5 zq2 zp9 zq3 zi4 zd4 zf8 ze7 zg1 zl1 zg5 zl7 zj4 zg2 zd9 zl9 zf4 zm7 zn4 zh0 zh8 zi8 zi5 zg6 zf9 zc3 zc0 zm8 zo1 zb4 zb5 zg0 zm9 zl2 zj5 zp6 zu2 zc4 zb6 zi6 zi9 zk3 zA8 zo2 zj0 zd7 zk6 zo3 zj1 zj2 zo4 zf5 zk7 zo5 zk8 zj6 zj3 zh1 zu3 zs2 zo6 zm3 zh5 zn0 zm1 zo7 zt3 zn1 zu4 zq4 zu5 zk4 zj7 zr2 zm4 zr3 zk5 zh2 zr4 zo8 zl5 zs3 zk9 zr5 zn5 zC2 zx0 zp7 zo9 zh3 zr6 zp0 zh4 zh6 zr7 zj8 zs4 ze2 zA1 zw3 zR1 zH5 zl0 zr8 zn8 zt7 zr9 zT3 zy4 zp1 zw4 zl6 zw6 zw7 zy5 zK5 zv1 zK6 zT4 zR2 zK7 zK8 zW8 zW9 zI6 zn9 zo0 zq5 zu6 zu7 zq6 zq7 zx1 zs5 zx2 zX0 zy8
def zdI4:=[oB 5 3 1,oB 6 3 2,mo 8 .mv [oFa]]
def zdI5:=[oV 15 0,oC 16 16 [.t 15],mo 17 .not [.t 16]]
def zdI6:=[oC 18 14 [],oV 8 18]
def zdI7:=[oV 20 0,oL 21 3 5,oL 22 3 6,oV 23 3,oC 24 17 [.t 20,.t 21,.t 22,.t 23],oV 19 24,oE 25 0 19,oE 26 1 19,oE 27 2 19,oV 9 25,oV 10 26,oV 11 27]
def zdI8:=[oV 29 0,oL 30 3 5,oL 31 3 6,oV 32 3,oC 33 18 [.t 29,.t 30,.t 31,.t 32],oV 28 33,oE 34 0 28,oE 35 1 28,oE 36 2 28,oV 12 34,oV 13 35,oV 14 36]
def zdI9:=[oC 37 14 [],oV 38 37,oG 39 38 true .mv [.t 9],oG 40 38 true .mv [.t 10],oG 41 38 true .mv [.t 11],oG 42 38 true .mv [.t 12],oG 43 38 true .mv [.t 13],oG 44 38 true .mv [.t 14],oG 45 38 true (.call 19) [.t 39,.t 40,.t 41,.t 42,.t 43,.t 44],mo 46 .pick [.t 38,.t 45,oFa],oV 8 46]
def zdJ0:PC:=(.seq (.reg [] zdI4) (.seq (.seq (.reg [15,16] zdI5) (.cond (.t 17) (.seq (.reg [18] zdI6) .ret) .skip)) (.seq (.reg [19,20,21,22,23,24,25,26,27] zdI7) (.seq (.reg [28,29,30,31,32,33,34,35,36] zdI8) (.seq (.reg [37,38,39,40,41,42,43,44,45,46] zdI9) .ret)))))
theorem zeG7:chkF C.P 4 zdJ0 47 [.t 8] 4=true:=by kernel_rfl
attribute [go_sem] zdI4 zdI5 zdI6 zdI7 zdI8 zdI9
noncomputable def zz2 (a0:List Queue) (a1:Proc) (a2:Atom) (a3:Int):Option (Bool) :=
 (zo6 a0).bind fun v1 =>
 (if (!v1)=true then
  (zj6).bind fun v2 =>
  some v2
 else
  (zo5 a0 a1 a2 a3).bind fun v3 =>
  (zr7 a0 a1 a2 a3).bind fun v4 =>
  (zj6).bind fun v5 =>
  ((if v5=true then zs4 v3.1 v3.2.1 v3.2.2 v4.1 v4.2.1 v4.2.2 else some (false))).bind fun v6 =>
  some (v5&&v6))
theorem zat4 (a0:List Queue) (a1:Proc) (a2:Atom) (a3:Int) (r:Bool) (h:zz2 a0 a1 a2 a3=some r):PFn C 4 [.sl (a0.map Queue.enc),.agg (Proc.enc a1),.agg (Atom.enc a2),.int .i64 a3] (.bool r):=by
 refine za8 zeG7 rfl fun E hG hN hK=>?_
 unfold zdJ0
 unfold zz2 at h
 refine za0 (za1 hG ?_)
 refine za0 (za0 (za1 hG ?_))
 obtain ⟨v1,hv1,h⟩:=za2 h
 refine za6 (fun hg=>zaq3 a0 _ (hv1)) ?_
 refine za4 rfl hG h (fun _ h=>?_) (fun _ h=>?_)
 · refine za0 (za1 hG ?_)
   obtain ⟨v2,hv2,h⟩:=za2 h
   refine za6 (fun hg=>zJ9  _ (hv2)) ?_
   refine za7 ?_
   exact zb0 h
 refine za5 ?_
 refine za0 (za1 hG ?_)
 obtain ⟨v3,hv3,h⟩:=za2 h
 refine za6 (fun hg=>zaq2 a0 a1 a2 a3 _ (hv3)) ?_
 refine za0 (za1 hG ?_)
 obtain ⟨v4,hv4,h⟩:=za2 h
 refine za6 (fun hg=>zaV9 a0 a1 a2 a3 _ (hv4)) ?_
 refine za0 (za1 hG ?_)
 obtain ⟨v5,hv5,h⟩:=za2 h
 refine za6 (fun hg=>zJ9  _ (hv5)) ?_
 obtain ⟨v6,hv6,h⟩:=za2 h
 refine za6 (fun hg=>zah0 v3.1 v3.2.1 v3.2.2 v4.1 v4.2.1 v4.2.2 _ (zw9 hg hv6)) ?_
 refine za7 ?_
 exact zb0 h
attribute [local irreducible] zz2
end Ab
end Go.Proofs.YtfjeceicgfdmjaaGreatDoor
