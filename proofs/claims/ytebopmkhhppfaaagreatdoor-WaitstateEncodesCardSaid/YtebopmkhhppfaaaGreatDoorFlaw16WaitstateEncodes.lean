import Derived.Test.YtebopmkhhppfaaaGreatDoorFn
namespace Go.Proofs.YtebopmkhhppfaaaGreatDoor
namespace Ab
set_option linter.unusedSimpArgs false
set_option linter.unusedVariables false
set_option maxRecDepth 100000
set_option maxHeartbeats 1000000
attribute [local irreducible] zk5 zc7 zb9 zo4 zd6 zb1 zr2 zd0 zc1 zd5 ze2 zh9 zg1 zn9 zf0 zk6 zj1 zl6 zq7 zt4 zt9 zs2 zo0 zh3 zw0 zl7 zu4 zz2 zo1 zu5 zr5 zq1 zu6 zn0 zq2 zk0 zo2 zo8 zi0 zm5 ze7 zd4 zs4 zu7 zc6 zc9 zj7 zu8 zu9 zj8 zi1 zf1 zw1 zi3 ze8 zC4 zi5 zc5 zC5 zg3 zf2 zi9 zl0 zk7 zj3 zr7 zm9 zs7 zz3 zy0 zD3 zy1 zK5 zK9 zG8 zv0 zB4 zB5 zO8 zB7 zr8 zy2 zG9 zq9 zv1 zB8 zr9 zm6 zy3 zs9 zz4 zB9 zy4 zu0 zT6 zL0 zl8 zd7 zx5 zv2 zq3 zo6 zx0 zl9 zp6 ze9 zr0 zt1 zl1 zw4 zh1 ze1 zA9 zx1 zv3 zH0 zM8 zp9 zj0 zh2 zd8 zw6 zx8 zb6 zd1 zB0 zo7 zc3 zw7 zC0 zx6 zt7 zP4 zP5 zL9 zB1 zK7 zL3 zm8 zk4 zD2 zz5 zs1 zu2 zab0 zI1 zO0 zac5
def zeF6:=[oB 1 2 0,mo 2 .mv [oFa]]
def zeF7:=[oL 9 2 1,oC 10 9 [.t 9],mo 11 .not [.t 10]]
def zeF8:=[oC 12 7 [],oV 2 12]
def zeF9:=[oL 14 2 1,oC 15 10 [.t 14],oV 13 15,oE 16 0 13,oE 17 1 13,oV 3 16,oV 4 17]
def zeG0:=[oL 19 2 1,oC 20 11 [.t 19],oV 18 20,oE 21 0 18,oE 22 1 18,oV 5 21,oV 6 22]
def zeG1:=[oC 23 7 [],mo 24 .not [.t 23],oV 25 24,oG 26 25 false .mv [.t 4],oG 27 25 false .mv [.t 6],oG 28 25 false (.bin .neq) [.t 26,.t 27],mo 29 .pick [.t 25,oTr,.t 28],oV 30 29,oG 31 30 false .mv [.t 3],oG 32 30 false .mv [.t 5],oG 33 30 false (.call 12) [.t 31,.t 32],oG 34 30 false .not [.t 33],
 mo 35 .pick [.t 30,oTr,.t 34]]
def zeG2:=[mo 2 .mv [oFa]]
def zeG3:=[oV 36 4,oP 37 .neq [.t 36,oK 0]]
def zeG4:=[oV 38 3,mo 39 .len [.t 38],oP 40 .eql [.t 39,oK 0],oV 2 40]
def zeG5:=[oV 42 3,oC 43 5 [.t 42],oV 41 43,oE 44 0 41,oE 45 1 41,mo 7 (.alloc 2 (WaitState.enc WaitState.zero)) [],oS 2 7 44,oV 8 45]
def zcv9:=[oV 46 8,oP 47 .eql [.t 46,oK 0],oV 48 47,oG 49 48 true (.load 2 true) [.t 1],oG 50 48 true (.load 2 true) [.t 7],oG 51 48 true (.call 8) [.t 49,.t 50],mo 52 .pick [.t 48,.t 51,oFa],oV 2 52]
def zeG6:PC:=(.seq (.reg [] zeF6) (.seq (.seq (.reg [9,10] zeF7) (.cond (.t 11) (.seq (.reg [12] zeF8) .ret) .skip)) (.seq (.reg [13,14,15,16,17] zeF9) (.seq (.reg [18,19,20,21,22] zeG0) (.seq (.seq (.reg [23,24,25,26,27,28,29,30,31,32,33,34] zeG1) (.cond (.t 35) (.seq (.reg [] zeG2) .ret) .skip)) (.seq (.seq (.reg [36] zeG3) (.cond (.t 37) (.seq (.reg [38,39,40] zeG4) .ret) .skip)) (.seq (.reg [41,42,43,44,45] zeG5) (.seq (.reg [46,47,48,49,50,51,52] zcv9) .ret))))))))
theorem zfu6:chkF C.P 4 zeG6 53 [.t 2] 1=true:=by kernel_rfl
attribute [go_sem] zeF6 zeF7 zeF8 zeF9 zeG0 zeG1 zeG2 zeG3 zeG4 zeG5 zcv9
noncomputable def zz0 (a0:WaitState):Option (Bool) :=
 (zL3 a0).bind fun v1 =>
 (if (!v1)=true then
  (zC0).bind fun v2 =>
  some v2
 else
  (zl9 a0).bind fun v3 =>
  (zI1 a0).bind fun v4 =>
  (zC0).bind fun v5 =>
  (if (((!v5)||(!decide (v3.2=v4.2)))||(!(zV6 v3.1 v4.1)))=true then
   some false
  else
   (if (!decide (v3.2=0))=true then
    some (decide ((v3.1.length:Int)=0))
   else
    (zf1 v3.1).bind fun v6 =>
    ((if (decide (v6.2=0))=true then zK7 a0 v6.1 else some (false))).bind fun v7 =>
    some ((decide (v6.2=0))&&v7))))
theorem zas2 (a0:WaitState) (r:Bool) (h:zz0 a0=some r):PFn C 4 [.agg (WaitState.enc a0)] (.bool r):=by
 refine za7 zfu6 rfl fun E hG hN hK=>?_
 unfold zeG6
 unfold zz0 at h
 refine za0 (za1 hG ?_)
 refine za0 (za0 (za1 hG ?_))
 obtain ⟨v1,hv1,h⟩:=za2 h
 refine za8 (fun hg=>zbj8 _ _ hv1) ?_
 refine za3 rfl hG h (fun _ h=>?_) (fun _ h=>?_)
 · refine za0 (za1 hG ?_)
   obtain ⟨v2,hv2,h⟩:=za2 h
   refine za8 (fun hg=>zaq4 _ hv2) ?_
   refine za6 ?_
   exact zb0 h
 refine za4 ?_
 refine za0 (za1 hG ?_)
 obtain ⟨v3,hv3,h⟩:=za2 h
 refine za8 (fun hg=>zao0 _ _ hv3) ?_
 refine za0 (za1 hG ?_)
 obtain ⟨v4,hv4,h⟩:=za2 h
 refine za8 (fun hg=>zbb8 _ _ hv4) ?_
 refine za0 (za0 (za1 hG ?_))
 obtain ⟨v5,hv5,h⟩:=za2 h
 refine za8 (fun hg=>zaq4 _ hv5) ?_
 refine za8 (fun hg=>zbk0 v3.1 v4.1) ?_
 refine za3 rfl hG h (fun _ h=>?_) (fun _ h=>?_)
 · refine za0 (za1 hG ?_)
   refine za6 ?_
   exact zb0 h
 refine za4 ?_
 refine za0 (za0 (za1 hG ?_))
 refine za3 rfl hG h (fun _ h=>?_) (fun _ h=>?_)
 · refine za0 (za1 hG ?_)
   refine za6 ?_
   exact zb0 h
 refine za4 ?_
 refine za0 (za1 hG ?_)
 obtain ⟨v6,hv6,h⟩:=za2 h
 refine za8 (fun hg=>zab7 _ _ hv6) ?_
 refine za0 (za1 hG ?_)
 obtain ⟨v7,hv7,h⟩:=za2 h
 refine za8 (fun hg=>zaL7 a0 v6.1 _ (zv4 hg hv7)) ?_
 refine za6 ?_
 exact zb0 h
attribute [local irreducible] zz0
end Ab
end Go.Proofs.YtebopmkhhppfaaaGreatDoor
