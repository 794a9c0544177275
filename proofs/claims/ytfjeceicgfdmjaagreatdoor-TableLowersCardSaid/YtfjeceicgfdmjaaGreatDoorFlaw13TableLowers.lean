/-
  A law's own code and what it computes.
-/
import Derived.Test.YtfjeceicgfdmjaaGreatDoorFn
namespace Go.Proofs.YtfjeceicgfdmjaaGreatDoor
namespace Ab
set_option linter.unusedSimpArgs false
set_option linter.unusedVariables false
set_option maxRecDepth 100000
set_option maxHeartbeats 1000000
attribute [local irreducible] ze6 zc7 zi3 zt0 zq1 zf7 zd5 zm5 zq2 zp9 zq3 zi4 zd4 zf8 ze7 zg1 zl1 zg5 zl7 zj4 zg2 zd9 zl9 zf4 zm7 zn4 zh0 zh8 zi8 zi5 zg6 zf9 zc3 zc0 zm8 zo1 zb4 zb5 zg0 zm9 zl2 zj5 zp6 zu2 zc4 zb6 zi6 zi9 zk3 zA8 zo2 zj0 zd7 zk6 zo3 zj1 zj2 zo4 zf5 zk7 zo5 zk8 zj6 zj3 zh1 zu3 zs2 zo6 zm3 zh5 zn0 zm1 zo7 zt3 zn1 zu4 zq4 zu5 zk4 zj7 zr2 zm4 zr3 zk5 zh2 zr4 zo8 zl5 zs3 zk9 zr5 zn5 zC2 zx0 zp7 zo9 zh3 zr6 zp0 zh4 zh6 zr7 zj8 zs4 ze2 zA1 zw3 zR1 zH5 zl0 zr8 zn8 zt7 zr9 zT3 zy4 zp1 zw4 zl6 zw6 zw7 zy5 zK5 zv1 zK6 zT4 zR2 zK7 zK8 zW8 zW9 zI6 zn9 zo0 zq5 zu6 zu7 zq6 zq7 zx1 zs5 zx2 zX0 zy8
def zdJ1:=[oB 4 3 1,oB 5 3 2,mo 6 .mv [oFa]]
def zdJ2:=[oV 19 0,oC 20 16 [.t 19],mo 21 .not [.t 20]]
def zdJ3:=[oC 22 14 [],oV 6 22]
def zdJ4:=[oV 24 0,oL 25 3 4,oA 26 0 5,oM 27 1 26,oC 28 41 [.t 24,.t 25,.t 27],oV 23 28,oE 29 0 23,oE 30 1 23,oE 31 2 23,oV 7 29,oV 8 30,oV 9 31]
def zdJ5:=[oV 33 0,oL 34 3 4,oA 35 0 5,oM 36 1 35,oC 37 42 [.t 33,.t 34,.t 36],oV 32 37,oE 38 0 32,oE 39 1 32,oE 40 2 32,oV 10 38,oV 11 39,oV 12 40]
def zdJ6:=[oV 42 0,oL 43 3 4,oL 44 3 5,oC 45 43 [.t 42,.t 43,.t 44],oV 41 45,oE 46 0 41,oE 47 1 41,oE 48 2 41,oV 13 46,oV 14 47,oV 15 48]
def zdJ7:=[oV 50 0,oL 51 3 4,oL 52 3 5,oC 53 44 [.t 50,.t 51,.t 52],oV 49 53,oE 54 0 49,oE 55 1 49,oE 56 2 49,oV 16 54,oV 17 55,oV 18 56]
def zdJ8:=[oC 57 14 [],oV 58 57,oG 59 58 true .mv [.t 7],oG 60 58 true .mv [.t 8],oG 61 58 true .mv [.t 9],oG 62 58 true .mv [.t 10],oG 63 58 true .mv [.t 11],oG 64 58 true .mv [.t 12],oG 65 58 true (.call 19) [.t 59,.t 60,.t 61,.t 62,.t 63,.t 64],mo 66 .pick [.t 58,.t 65,oFa],oV 67 66,oG 68 67 true .mv [.t 13],
 oG 69 67 true .mv [.t 14],oG 70 67 true .mv [.t 15],oG 71 67 true .mv [.t 16],oG 72 67 true .mv [.t 17],oG 73 67 true .mv [.t 18],oG 74 67 true (.call 19) [.t 68,.t 69,.t 70,.t 71,.t 72,.t 73],mo 75 .pick [.t 67,.t 74,oFa],oV 6 75]
def zdJ9:PC:=(.seq (.reg [] zdJ1) (.seq (.seq (.reg [19,20] zdJ2) (.cond (.t 21) (.seq (.reg [22] zdJ3) .ret) .skip)) (.seq (.reg [23,24,25,26,27,28,29,30,31] zdJ4) (.seq (.reg [32,33,34,35,36,37,38,39,40] zdJ5) (.seq (.reg [41,42,43,44,45,46,47,48] zdJ6) (.seq (.reg [49,50,51,52,53,54,55,56] zdJ7) (.seq (.reg [57,58,59,60,61,62,63,64,65,66,67,68,69,70,71,72,73,74,75] zdJ8) .ret)))))))
theorem zeG8:chkF C.P 10 zdJ9 76 [.t 6] 3=true:=by kernel_rfl
attribute [go_sem] zdJ1 zdJ2 zdJ3 zdJ4 zdJ5 zdJ6 zdJ7 zdJ8
noncomputable def zz3 (a0:List Queue) (a1:Proc) (a2:Atom):Option (Bool) :=
 (zo6 a0).bind fun v1 =>
 (if (!v1)=true then
  (zj6).bind fun v2 =>
  some v2
 else
  (zu7 a0 a1 a2.name).bind fun v3 =>
  (zn8 a0 a1 a2.name).bind fun v4 =>
  (zx2 a0 a1 a2).bind fun v5 =>
  (zr9 a0 a1 a2).bind fun v6 =>
  (zj6).bind fun v7 =>
  ((if v7=true then zs4 v3.1 v3.2.1 v3.2.2 v4.1 v4.2.1 v4.2.2 else some (false))).bind fun v8 =>
  ((if (v7&&v8)=true then zs4 v5.1 v5.2.1 v5.2.2 v6.1 v6.2.1 v6.2.2 else some (false))).bind fun v9 =>
  some ((v7&&v8)&&v9))
theorem zat6 (a0:List Queue) (a1:Proc) (a2:Atom) (r:Bool) (h:zz3 a0 a1 a2=some r):PFn C 10 [.sl (a0.map Queue.enc),.agg (Proc.enc a1),.agg (Atom.enc a2)] (.bool r):=by
 refine za8 zeG8 rfl fun E hG hN hK=>?_
 unfold zdJ9
 unfold zz3 at h
 refine za0 (za1 hG ?_)
 refine za0 (za0 (za1 hG ?_))
 obtain ⟨v1,hv1,h⟩:=za2 h
 refine za6 (fun hg=>zaq3 a0 _ (hv1)) ?_
 refine za4 rfl hG h (fun _ h=>?_) (fun _ h=>?_)
 · refine za0 (za1 hG ?_)
   obtain ⟨v2,hv2,h⟩:=za2 h
   refine za6 (fun hg=>zJ9  _ (hv2)) ?_
   refine za7 ?_
   exact zb0 h
 refine za5 ?_
 refine za0 (za1 hG ?_)
 obtain ⟨v3,hv3,h⟩:=za2 h
 refine za6 (fun hg=>zaO0 a0 a1 a2.name _ (hv3)) ?_
 refine za0 (za1 hG ?_)
 obtain ⟨v4,hv4,h⟩:=za2 h
 refine za6 (fun hg=>zaN6 a0 a1 a2.name _ (hv4)) ?_
 refine za0 (za1 hG ?_)
 obtain ⟨v5,hv5,h⟩:=za2 h
 refine za6 (fun hg=>zaW3 a0 a1 a2 _ (hv5)) ?_
 refine za0 (za1 hG ?_)
 obtain ⟨v6,hv6,h⟩:=za2 h
 refine za6 (fun hg=>zaW1 a0 a1 a2 _ (hv6)) ?_
 refine za0 (za1 hG ?_)
 obtain ⟨v7,hv7,h⟩:=za2 h
 refine za6 (fun hg=>zJ9  _ (hv7)) ?_
 obtain ⟨v8,hv8,h⟩:=za2 h
 refine za6 (fun hg=>zah0 v3.1 v3.2.1 v3.2.2 v4.1 v4.2.1 v4.2.2 _ (zw9 hg hv8)) ?_
 obtain ⟨v9,hv9,h⟩:=za2 h
 refine za6 (fun hg=>zah0 v5.1 v5.2.1 v5.2.2 v6.1 v6.2.1 v6.2.2 _ (zw9 hg hv9)) ?_
 refine za7 ?_
 exact zb0 h
attribute [local irreducible] zz3
end Ab
end Go.Proofs.YtfjeceicgfdmjaaGreatDoor
