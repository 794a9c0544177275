/-
  A law's own code and what it computes.
-/
import Derived.Test.YtfjeceicgfdmjaaGreatDoorFn
namespace Go.Proofs.YtfjeceicgfdmjaaGreatDoor
namespace Ab
set_option linter.unusedSimpArgs false
set_option linter.unusedVariables false
set_option maxRecDepth 100000
set_option maxHeartbeats 1000000
attribute [local irreducible] zf3 zd3 zj5 zv5 zs3 zg6 ze1 zo1 zv6 zn8 zn9 zj6 ze0 zg7 zf4 zg8 zm1 zh2 zm8 zk3 zg9 ze6 zn1 zf8 zo2 zp4 zi1 zi8 zj9 zj7 zh5 zh0 zc8 zc6 zo3 zq2 zb7 zc0 zh1 zo4 zm3 zk4 zr5 zx1 zc9 zc1 zj8 zk0 zl5 zG2 zq4 zk5 ze4 zm4 zq5 zk6 zk7 zq6 zf9 zl6 zo5 zm5 zk8 zk9 zi4 zp5 zu1 zR1 zo6 zi9 zo7 zn2 zq7 zv7 zo8 zx6 zs6 zx7 zl7 zl1 zt3 zo9 zt4 zl8 zi6 zt5 zq8 zl2 zu2 zl9 zu3 zp6 zI1 zB4 zr6 zr7 zi2 zu4 zq9 zi3 zi7 zx8 zD0 zad1 zc2 zm6 zj0 zF1 zr0 zm0 zu5 zu6 zx9 zy0 zu7 zF2 zr1 zD1 zm7 zD2 zD3 zF3 zV4 zA4 zV5 zag2 zab0 zV6 zV7 zak6 zak7 zV8 zr9 zs0 zu8 zy7 zy8 zu9 zv0 zB5 zv9 zB6 zak8 zE3
def zdY3:=[mo 10 .mv [oFa]]
def zdY4:=[oV 18 0,oC 19 20 [.t 18],mo 20 .not [.t 19]]
def zdY5:=[oC 21 14 [],oV 10 21]
def zdY6:=[oV 22 0,oC 23 21 [.t 22],oV 11 23]
def zdY7:=[oV 24 1,oV 25 11,mo 26 .len [.t 25],oC 27 22 [.t 24,.t 26],oV 12 27]
def zdY8:=[oV 28 11,oV 29 12,mo 30 (.iaS 8 (Queue.enc Queue.zero)) [.t 28,.t 29],oA 31 0 30,oL 32 4 31,mo 13 (.alloc 4 (Resource.enc Resource.zero)) [],oS 4 13 32]
def zdY9:=[oV 34 11,oV 35 2,oC 36 23 [.t 35],oA 37 0 13,oM 38 1 37,oL 39 4 13,oV 40 3,oC 41 24 [.t 39,.t 40],mo 42 (.build (Atom.enc Atom.zero) [(0,1),(1,2)]) [.t 38,.t 41],oV 43 4,oC 44 22 [.t 43,oK 8],oC 45 17 [.t 34,.t 36,.t 42,.t 44],oV 33 45,oE 46 0 33,oE 47 1 33,oE 48 2 33,oV 14 46,oV 15 47,oV 16 48]
def zdZ0:=[oV 49 16,oP 50 .neq [.t 49,oK 0]]
def zdZ1:=[oC 51 14 [],oV 52 51,oG 53 52 true .mv [.t 14],oG 54 52 true .len [.t 53],oG 55 52 true (.bin .eql) [.t 54,oK 0],mo 56 .pick [.t 52,.t 55,oFa],oV 10 56]
def zdZ2:=[oV 57 14,mo 58 .len [.t 57],oV 59 11,mo 60 .len [.t 59],oP 61 .neq [.t 58,.t 60]]
def zcg1:=[mo 10 .mv [oFa]]
def zcg2:=[oI 17 0]
def zcg3:=[oV 62 17,oV 63 11,mo 64 .len [.t 63],oP 65 .lss [.t 62,.t 64]]
def zcg4:=[oV 68 17,oV 69 12,oP 70 .neq [.t 68,.t 69],oV 71 70,oG 72 71 true .mv [.t 14],oG 73 71 true .mv [.t 17],oG 74 71 true (.iaS 8 (Queue.enc Queue.zero)) [.t 72,.t 73],oG 75 71 true (.load 8 true) [.t 74],oG 76 71 true .mv [.t 11],oG 77 71 true .mv [.t 17],oG 78 71 true (.iaS 8 (Queue.enc Queue.zero)) [.t 76,.t 77],
 oG 79 71 true (.load 8 true) [.t 78],oG 80 71 true (.call 25) [.t 75,.t 79],oG 81 71 true .not [.t 80],mo 82 .pick [.t 71,.t 81,oFa]]
def zcg5:=[mo 10 .mv [oFa]]
def zcg6:=[oV 66 17,oP 67 .add [.t 66,oK 1],oV 17 67]
def zcg7:=[oC 83 14 [],oV 10 83]
def zdZ3:PC:=(.seq (.reg [] zdY3) (.seq (.seq (.reg [18,19] zdY4) (.cond (.t 20) (.seq (.reg [21] zdY5) .ret) .skip)) (.seq (.reg [22,23] zdY6) (.seq (.reg [24,25,26,27] zdY7) (.seq (.reg [28,29,30,31,32] zdY8) (.seq (.regd [15,33,34,35,36,37,38,39,40,41,42,43,44,45,46,47,48] zdY9) (.seq (.seq (.reg [49] zdZ0) (.cond (.t 50) (.seq (.reg [51,52,53,54,55,56] zdZ1) .ret) .skip)) (.seq (.seq (.reg [57,58,59,60] zdZ2) (.cond (.t 61) (.seq (.reg [] zcg1) .ret) .skip)) (.seq (.seq (.reg [] zcg2) (.block 0 (.loop (.seq (.seq (.reg [62,63,64] zcg3) (.cond (.t 65) .skip (.exit 0))) (.seq (.block 1 (.seq (.regd [68,69,70,71,72,73,74,75,76,77,78,79,80,81] zcg4) (.cond (.t 82) (.seq (.reg [] zcg5) .ret) .skip))) (.reg [66,67] zcg6)))))) (.seq (.reg [83] zcg7) .ret))))))))))
theorem zeU7:chkF C.P 5 zdZ3 84 [.t 10] 5=true:=by kernel_rfl
attribute [go_sem] zdY3 zdY4 zdY5 zdY6 zdY7 zdY8 zdY9 zdZ0 zdZ1 zdZ2 zcg1 zcg2 zcg3 zcg4 zcg5 zcg6 zcg7
noncomputable def zE0  (j1:Unit):Option (Bool) :=
 (zk8).bind fun v9 =>
 some v9
@[go_sem] def zeo9  (j1:Unit):St:=⟨[],[],0⟩
noncomputable def zw4 (v2:(List Queue)) (v3:Int) (v7:(List Queue)×(List Event)×Int) (g1:Int):Option ((Int)⊕((Unit)⊕(Bool))) :=
 (if (decide (g1 < (v2.length:Int)))=true then
  gd ((!decide (g1=v3))=true→0≤g1∧g1 < (v7.1.length:Int)) <|
  gd ((!decide (g1=v3))=true→0≤g1∧g1 < (v2.length:Int)) <|
  ((if (!decide (g1=v3))=true then zp5 (v7.1.getD g1.toNat Queue.zero) (v2.getD g1.toNat Queue.zero) else some (false))).bind fun v10 =>
  (if ((!decide (g1=v3))&&(!v10))=true then
   some (.inr (.inr false))
  else
   some (.inl (IntKind.i64.wrap (g1+1))))
 else
  some (.inr (.inl ())))
@[go_sem] def zep0 (v2:(List Queue)) (v3:Int) (v7:(List Queue)×(List Event)×Int) (g1:Int):St:=⟨[(11,.sl (v2.map Queue.enc)),(12,.int .i64 v3),(14,.sl (v7.1.map Queue.enc)),(17,.int .i64 g1)],[],0⟩
noncomputable def zD8 (a0:List Int) (a1:Int) (a2:Int) (a3:Int) (a4:Int):Option (Bool) :=
 (if (!(zF0 a0))=true then
  (zk8).bind fun v1 =>
  some v1
 else
  (zu7 a0).bind fun v2 =>
  (zn8 a1 (v2.length:Int)).bind fun v3 =>
  gd (0≤v3∧v3 < (v2.length:Int)) <|
  (zn9 a2).bind fun v4 =>
  (zr0 ((v2.getD v3.toNat Queue.zero).resource) a3).bind fun v5 =>
  (zn8 a4 8).bind fun v6 =>
  (zo5 v2 v4 (⟨((v2.getD v3.toNat Queue.zero).resource).name,v5⟩:Atom) v6).bind fun v7 =>
  (if (!decide (v7.2.2=0))=true then
   (zk8).bind fun v8 =>
   some (v8&&(decide ((v7.1.length:Int)=0)))
  else
   (if (!decide ((v7.1.length:Int)=(v2.length:Int)))=true then
    some false
   else
    (zb9 (zw4 v2 v3 v7) 0).bind (fun | .inl z=>zE0 z | .inr z=>some z))))
theorem zaA8 (a0:List Int) (a1:Int) (a2:Int) (a3:Int) (a4:Int) (r:Bool) (h:zD8 a0 a1 a2 a3 a4=some r):PFn C 5 [.sl (a0.map (eI .i64)),.int .i64 a1,.int .i64 a2,.int .i64 a3,.int .i64 a4] (.bool r):=by
 refine za8 zeU7 rfl fun E hG hN hK=>?_
 unfold zdZ3
 unfold zD8 at h
 refine za0 (za1 hG ?_)
 refine za0 (za0 (za1 hG ?_))
 refine za6 (fun hg=>zaB9 a0) ?_
 refine za4 rfl hG h (fun _ h=>?_) (fun _ h=>?_)
 · refine za0 (za1 hG ?_)
   obtain ⟨v1,hv1,h⟩:=za2 h
   refine za6 (fun hg=>zM7  _ (hv1)) ?_
   refine za7 ?_
   exact zb0 h
 refine za5 ?_
 refine za0 (za1 hG ?_)
 obtain ⟨v2,hv2,h⟩:=za2 h
 refine za6 (fun hg=>zaC0 a0 _ (hv2)) ?_
 refine za0 (za1 hG ?_)
 obtain ⟨v3,hv3,h⟩:=za2 h
 refine za6 (fun hg=>zT1 a1 (v2.length:Int) _ (hv3)) ?_
 refine za0 ?_
 obtain ⟨hb3,h⟩:=za3 h
 refine za1 hG ?_
 refine za0 (zn3 zd2 hG ?_)
 obtain ⟨v4,hv4,h⟩:=za2 h
 refine zf7 (fun hg=>zac9 a2 _ (hv4)) ?_
 obtain ⟨v5,hv5,h⟩:=za2 h
 refine zf7 (fun hg=>zag1 ((v2.getD v3.toNat Queue.zero).resource) a3 _ (hv5)) ?_
 obtain ⟨v6,hv6,h⟩:=za2 h
 refine zf7 (fun hg=>zT1 a4 8 _ (hv6)) ?_
 obtain ⟨v7,hv7,h⟩:=za2 h
 refine zf7 (fun hg=>zaf1 v2 v4 (⟨((v2.getD v3.toNat Queue.zero).resource).name,v5⟩:Atom) v6 _ (hv7)) ?_
 refine za0 (za0 (za1 hG ?_))
 refine za4 rfl hG h (fun _ h=>?_) (fun _ h=>?_)
 · refine za0 (za1 hG ?_)
   obtain ⟨v8,hv8,h⟩:=za2 h
   refine za6 (fun hg=>zM7  _ (hv8)) ?_
   refine za7 ?_
   exact zb0 h
 refine za5 ?_
 refine za0 (za0 (za1 hG ?_))
 refine za4 rfl hG h (fun _ h=>?_) (fun _ h=>?_)
 · refine za0 (za1 hG ?_)
   refine za7 ?_
   exact zb0 h
 refine za5 ?_
 refine za0 (za0 (za1 hG ?_))
 refine zb4 (zeo9) (fun v=>zE0 v=some r) ?_ ?_
 · intro j1 h
   unfold zE0 at h
   refine g_st ?_
   refine za0 (za1 hG ?_)
   obtain ⟨v9,hv9,h⟩:=za2 h
   refine za6 (fun hg=>zM7  _ (hv9)) ?_
   refine za7 ?_
   exact zb0 h
 refine zd9 (zep0 v2 v3 v7) hK [] h (fun x_l1 h g1 y_l1 h_l1 hx_l1=>?_)
 unfold zw4 at h_l1
 refine g_st ?_
 refine za0 (za0 (za1 hG ?_))
 refine za4 rfl hG h_l1 (fun _ h_l1=>?_) (fun _ h_l1=>?_)
 · refine za5 ?_
   refine za0 (zb6 (za0 ?_))
   obtain ⟨hb1,h_l1⟩:=za3 h_l1
   obtain ⟨hb2,h_l1⟩:=za3 h_l1
   refine zn3 zd2 hG ?_
   obtain ⟨v10,hv10,h_l1⟩:=za2 h_l1
   refine zf7 (fun hg=>zaB7 (v7.1.getD g1.toNat Queue.zero) (v2.getD g1.toNat Queue.zero) _ (zA6 hg hv10)) ?_
   refine za4 rfl hG h_l1 (fun _ h_l1=>?_) (fun _ h_l1=>?_)
   · refine za0 (za1 hG ?_)
     refine za7 ?_
     obtain rfl:=Option.some.inj h_l1
     have hx:=hx_l1 _ rfl
     subst hx
     try dsimp only at h
     exact zb0 h
   refine za5 ?_
   refine za1 hG ?_
   exact zd1 hK [] h_l1
 refine zc7 ?_
 obtain rfl:=Option.some.inj h_l1
 have hx:=hx_l1 _ rfl
 subst hx
 try dsimp only at h
 exact zc5 hK [] () (by exact h)
attribute [local irreducible] zD8
end Ab
end Go.Proofs.YtfjeceicgfdmjaaGreatDoor
