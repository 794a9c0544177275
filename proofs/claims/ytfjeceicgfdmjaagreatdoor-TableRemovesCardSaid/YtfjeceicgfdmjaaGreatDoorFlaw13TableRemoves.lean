/-
  A law's own code and what it computes.
-/
import Derived.Test.YtfjeceicgfdmjaaGreatDoorFn
namespace Go.Proofs.YtfjeceicgfdmjaaGreatDoor
namespace Ab
set_option linter.unusedSimpArgs false
set_option linter.unusedVariables false
set_option maxRecDepth 100000
set_option maxHeartbeats 1000000
attribute [local irreducible] zf4 zd3 zj0 zu2 zu3 zh0 zd8 zA1 zG1 zr2 zs1 zj1 zd7 zh1 zf5 zg8 zl3 zh2 zk8 zj6 zg9 ze5 zm4 zg1 zn6 zo4 zi2 zi4 zj2 zj3 zh5 zh3 zc8 zc4 zn7 zp9 zb7 zc0 zh4 zn8 zl4 zj8 zr4 zw3 zd2 zc1 zj4 zj5 zl5 zC8 zq0 zk2 ze0 zm5 zq1 zk3 zk4 zq2 zf3 zk9 zt6 zm6 zq3 zk5 zi5 zx3 zr5 zt7 zo5 zi9 zo0 zm7 zq6 zu6 zo1 zx4 zs2 zx5 zl6 zj9 zt8 zo6 zt9 zl7 zi8 zu0 zq7 zl8 zJ5 zl0 zO6 zo7 zab3 zW2 zr6 zs3 zi1 zO8 zS7 zz3 zl1 zS8 zh6 zah8 zf0 zJ6 zD3 zab4 zS9 zl2 zP1 zP2 zT0 zT1 zah9 zn1 zq8 zp0 zl9 zp1 zp2 zr7 zy8 zw4 zv0 zam6 zC0 zy9 zv1 zA3 zA4 zab5 zM5 zM6 zP5 zY7 zan0 zP6 zP7 zac5 zV4 zas4 zas5 zE1
def zdv7:=[oB 5 3 1,mo 8 .mv [oFa]]
def zdv8:=[oV 17 0,oC 18 16 [.t 17],mo 19 .not [.t 18]]
def zdv9:=[oC 20 14 [],oV 8 20]
def zdw0:=[oV 22 0,oL 23 3 5,oC 24 26 [.t 22,.t 23],oV 21 24,oE 25 0 21,oE 26 1 21,oV 9 25,oV 10 26]
def zdw1:=[oV 28 0,oL 29 3 5,oC 30 33 [.t 28,.t 29],oV 27 30,oE 31 0 27,oE 32 1 27,oV 11 31,oV 12 32]
def zdw2:=[oV 34 0,oV 35 2,oV 36 3,oC 37 34 [.t 34,.t 35,.t 36],oV 33 37,oE 38 0 33,oE 39 1 33,oV 13 38,oV 14 39]
def zdw3:=[oV 41 0,oV 42 2,oV 43 3,oC 44 35 [.t 41,.t 42,.t 43],oV 40 44,oE 45 0 40,oE 46 1 40,oV 15 45,oV 16 46]
def zdw4:=[oC 47 14 [],oV 48 47,oG 49 48 true .mv [.t 9],oG 50 48 true .mv [.t 11],oG 51 48 true (.call 15) [.t 49,.t 50],mo 52 .pick [.t 48,.t 51,oFa],oV 53 52,oG 54 53 true .mv [.t 10],oG 55 53 true .mv [.t 12],oG 56 53 true (.call 36) [.t 54,.t 55],mo 57 .pick [.t 53,.t 56,oFa],oV 58 57,oG 59 58 true .mv [.t 13],
 oG 60 58 true .mv [.t 15],oG 61 58 true (.call 15) [.t 59,.t 60],mo 62 .pick [.t 58,.t 61,oFa],oV 63 62,oG 64 63 true .mv [.t 14],oG 65 63 true .mv [.t 16],oG 66 63 true (.call 36) [.t 64,.t 65],mo 67 .pick [.t 63,.t 66,oFa],oV 8 67]
def zdw5:PC:=(.seq (.reg [] zdv7) (.seq (.seq (.reg [17,18] zdv8) (.cond (.t 19) (.seq (.reg [20] zdv9) .ret) .skip)) (.seq (.reg [21,22,23,24,25,26] zdw0) (.seq (.reg [27,28,29,30,31,32] zdw1) (.seq (.reg [33,34,35,36,37,38,39] zdw2) (.seq (.reg [40,41,42,43,44,45,46] zdw3) (.seq (.reg [47,48,49,50,51,52,53,54,55,56,57,58,59,60,61,62,63,64,65,66,67] zdw4) .ret)))))))
theorem zeB6:chkF C.P 8 zdw5 68 [.t 8] 4=true:=by kernel_rfl
attribute [go_sem] zdv7 zdv8 zdv9 zdw0 zdw1 zdw2 zdw3 zdw4
noncomputable def zv3 (a0:List Queue) (a1:Proc) (a2:Int) (a3:Int):Option (Bool) :=
 (zt7 a0).bind fun v1 =>
 (if (!v1)=true then
  (zq3).bind fun v2 =>
  some v2
 else
  (zv0 a0 a1).bind fun v3 =>
  (zv1 a0 a1).bind fun v4 =>
  (zA3 a0 a2 a3).bind fun v5 =>
  (zA4 a0 a2 a3).bind fun v6 =>
  (zq3).bind fun v7 =>
  ((if v7=true then zr5 v3.1 v4.1 else some (false))).bind fun v8 =>
  ((if (v7&&v8)=true then zh6 v3.2 v4.2 else some (false))).bind fun v9 =>
  ((if ((v7&&v8)&&v9)=true then zr5 v5.1 v6.1 else some (false))).bind fun v10 =>
  ((if (((v7&&v8)&&v9)&&v10)=true then zh6 v5.2 v6.2 else some (false))).bind fun v11 =>
  some ((((v7&&v8)&&v9)&&v10)&&v11))
theorem zaj9 (a0:List Queue) (a1:Proc) (a2:Int) (a3:Int) (r:Bool) (h:zv3 a0 a1 a2 a3=some r):PFn C 8 [.sl (a0.map Queue.enc),.agg (Proc.enc a1),.int .i64 a2,.int .i64 a3] (.bool r):=by
 refine za6 zeB6 rfl fun E hG hN hK=>?_
 unfold zdw5
 unfold zv3 at h
 refine za0 (za1 hG ?_)
 refine za0 (za0 (za1 hG ?_))
 obtain ⟨v1,hv1,h⟩:=za5 h
 refine za7 (fun hg=>zaQ2 a0 _ (hv1)) ?_
 refine za3 rfl hG h (fun _ h=>?_) (fun _ h=>?_)
 · refine za0 (za1 hG ?_)
   obtain ⟨v2,hv2,h⟩:=za5 h
   refine za7 (fun hg=>zal8  _ (hv2)) ?_
   refine za8 ?_
   exact zb1 h
 refine za4 ?_
 refine za0 (za1 hG ?_)
 obtain ⟨v3,hv3,h⟩:=za5 h
 refine za7 (fun hg=>zaj4 a0 a1 _ (hv3)) ?_
 refine za0 (za1 hG ?_)
 obtain ⟨v4,hv4,h⟩:=za5 h
 refine za7 (fun hg=>zaj5 a0 a1 _ (hv4)) ?_
 refine za0 (za1 hG ?_)
 obtain ⟨v5,hv5,h⟩:=za5 h
 refine za7 (fun hg=>zaR0 a0 a2 a3 _ (hv5)) ?_
 refine za0 (za1 hG ?_)
 obtain ⟨v6,hv6,h⟩:=za5 h
 refine za7 (fun hg=>zaR1 a0 a2 a3 _ (hv6)) ?_
 refine za0 (za1 hG ?_)
 obtain ⟨v7,hv7,h⟩:=za5 h
 refine za7 (fun hg=>zal8  _ (hv7)) ?_
 obtain ⟨v8,hv8,h⟩:=za5 h
 refine za7 (fun hg=>zas0 v3.1 v4.1 _ (zv7 hg hv8)) ?_
 obtain ⟨v9,hv9,h⟩:=za5 h
 refine za7 (fun hg=>zV6 v3.2 v4.2 _ (zv7 hg hv9)) ?_
 obtain ⟨v10,hv10,h⟩:=za5 h
 refine za7 (fun hg=>zas0 v5.1 v6.1 _ (zv7 hg hv10)) ?_
 obtain ⟨v11,hv11,h⟩:=za5 h
 refine za7 (fun hg=>zV6 v5.2 v6.2 _ (zv7 hg hv11)) ?_
 refine za8 ?_
 exact zb1 h
attribute [local irreducible] zv3
end Ab
end Go.Proofs.YtfjeceicgfdmjaaGreatDoor
