/-
  A law's own code and what it computes.
-/
import Derived.Test.YtfjeceicgfdmjaaGreatDoorFn
namespace Go.Proofs.YtfjeceicgfdmjaaGreatDoor
namespace Ab
set_option linter.unusedSimpArgs false
set_option linter.unusedVariables false
set_option maxRecDepth 100000
set_option maxHeartbeats 1000000
attribute [local irreducible] zf3 zd1 zj4 zv1 zv2 zg6 ze1 zo1 zv3 zs1 zn4 zj5 ze0 zg7 zf4 zg8 zl9 zh2 zm5 zk0 zg9 ze5 zm9 zf8 zo2 zp5 zi1 zi8 zj8 zj6 zh5 zh0 zc8 zc6 zo3 zq7 zb7 zc0 zh1 zo4 zk1 zk2 zr8 zw5 zc9 zc2 zj7 zj9 zl3 zF5 zq9 zk3 ze3 zm1 zr0 zk4 zk5 zr1 zf5 zl4 zt0 zm2 zm3 zk6 zi4 zu0 zP0 zR4 zo5 zi9 zo6 zn0 zr2 zv4 zo7 zx1 zs7 zx2 zl5 zk8 zt3 zo8 zt4 zl6 zi6 zt5 zo9 zk9 zu1 zl7 zu2 zp6 zH4 zA7 zr9 zs0 zi2 zu3 zr3 zi3 zi7 zx3 zC8 zad6 zd6 zp7 zn5 zE5 zx4 zl8 zu4 zu5 zx5 zx6 zx7 zn1 zr4 zn6 zm4 zn7 zn8 zq1 zy5 zv5 zr5 zag7 zab3 zV7 zV8 zB3 zal3 zq2 zI9 zJ0 zL6 zV9 zag8 zL7 zL8 zaa1 zS1 zal4 zal5 zD5
def zdY9:=[mo 6 .mv [oFa]]
def zdZ0:=[oV 13 0,oC 14 20 [.t 13],mo 15 .not [.t 14]]
def zdZ1:=[oC 16 14 [],oV 6 16]
def zdZ2:=[oV 17 0,oC 18 21 [.t 17],oV 7 18]
def zdZ3:=[oV 20 7,oV 21 1,oV 22 2,oC 23 34 [.t 20,.t 21,.t 22],oV 19 23,oE 24 0 19,oE 25 1 19,oV 8 24,oV 9 25]
def zdZ4:=[oV 26 7,oC 27 37 [.t 26],oV 10 27]
def zdZ5:=[mo 11 (.nilown 3 (Proc.enc Proc.zero)) [.c (A.full [])]]
def zdZ6:=[oI 12 0]
def zdZ7:=[oV 28 12,oV 29 10,mo 30 .len [.t 29],oP 31 .lss [.t 28,.t 30]]
def zch9:=[oV 34 10,oV 35 12,mo 36 (.iaS 3 (Proc.enc Proc.zero)) [.t 34,.t 35],oA 37 0 36,oM 38 1 37,oV 39 1,oP 40 .neq [.t 38,.t 39],oV 41 40,oG 42 41 false .mv [.t 10],oG 43 41 false .mv [.t 12],oG 44 41 false (.iaS 3 (Proc.enc Proc.zero)) [.t 42,.t 43],oG 45 41 false (.faddr 1) [.t 44],oG 46 41 false (.load 1 false) [.t 45],
 oG 47 41 false .mv [.t 2],oG 48 41 false (.bin .geq) [.t 46,.t 47],mo 49 .pick [.t 41,oTr,.t 48]]
def zci0:=[oV 50 11,oV 51 10,oV 52 12,mo 53 (.iaS 3 (Proc.enc Proc.zero)) [.t 51,.t 52],oL 54 3 53,mo 55 (.bslice 3 (Proc.enc Proc.zero)) [.t 54],mo 56 (.append 3 24 (Proc.enc Proc.zero)) [.t 50,.t 55],oV 11 56]
def zdZ8:=[oV 32 12,oP 33 .add [.t 32,oK 1],oV 12 33]
def zci1:=[oC 57 14 [],oV 58 57,oG 59 58 true .mv [.t 8],oG 60 58 true (.call 38) [.t 59],mo 61 .pick [.t 58,.t 60,oFa],oV 62 61,oG 63 62 true .mv [.t 8],oG 64 62 true .len [.t 63],oG 65 62 true .mv [.t 7],oG 66 62 true .len [.t 65],oG 67 62 true (.bin .eql) [.t 64,.t 66],mo 68 .pick [.t 62,.t 67,oFa],
 oV 69 68,oG 70 69 true .mv [.t 8],oG 71 69 true (.call 40) [.t 70],oG 72 69 true .mv [.t 11],oG 73 69 true (.call 39) [.t 71,.t 72],mo 74 .pick [.t 69,.t 73,oFa],oV 6 74]
def zdZ9:PC:=(.seq (.reg [] zdY9) (.seq (.seq (.reg [13,14] zdZ0) (.cond (.t 15) (.seq (.reg [16] zdZ1) .ret) .skip)) (.seq (.reg [17,18] zdZ2) (.seq (.reg [9,19,20,21,22,23,24,25] zdZ3) (.seq (.reg [26,27] zdZ4) (.seq (.reg [] zdZ5) (.seq (.seq (.reg [] zdZ6) (.block 0 (.loop (.seq (.seq (.reg [28,29,30] zdZ7) (.cond (.t 31) .skip (.exit 0))) (.seq (.block 1 (.seq (.reg [34,35,36,37,38,39,40,41,42,43,44,45,46,47,48] zch9) (.cond (.t 49) (.reg [50,51,52,53,54,55,56] zci0) .skip))) (.reg [32,33] zdZ8)))))) (.seq (.reg [57,58,59,60,61,62,63,64,65,66,67,68,69,70,71,72,73,74] zci1) .ret))))))))
theorem zeW7:chkF C.P 9 zdZ9 75 [.t 6] 3=true:=by kernel_rfl
attribute [go_sem] zdY9 zdZ0 zdZ1 zdZ2 zdZ3 zdZ4 zdZ5 zdZ6 zdZ7 zch9 zci0 zdZ8 zci1
noncomputable def zA9 (v2:(List Queue)) (v3:(List Queue)×(List Event)) (j1:(List Proc)):Option (Bool) :=
 (zm3).bind fun v5 =>
 ((if v5=true then zk9 v3.1 else some (false))).bind fun v6 =>
 ((if ((v5&&v6)&&(decide ((v3.1.length:Int)=(v2.length:Int))))=true then zk1 v3.1 else some ([]))).bind fun v7 =>
 ((if ((v5&&v6)&&(decide ((v3.1.length:Int)=(v2.length:Int))))=true then zq2 v7 j1 else some (false))).bind fun v8 =>
 some (((v5&&v6)&&(decide ((v3.1.length:Int)=(v2.length:Int))))&&v8)
@[go_sem] def zeq0 (v2:(List Queue)) (v3:(List Queue)×(List Event)) (j1:(List Proc)):St:=⟨[(7,.sl (v2.map Queue.enc)),(8,.sl (v3.1.map Queue.enc)),(11,.own 0 0 j1.length)],[(0,⟨false,3,(Proc.enc Proc.zero),j1.map Proc.enc⟩)],1⟩
noncomputable def zu7 (a1:Int) (a2:Int) (v4:(List Proc)) (g1:Int×(List Proc)):Option ((Int×(List Proc))⊕(((List Proc)))) :=
 (if (decide (g1.1 < (v4.length:Int)))=true then
  gd (0≤g1.1∧g1.1 < (v4.length:Int)) <|
  gd ((decide ((v4.getD g1.1.toNat Proc.zero).site=a1))=true→0≤g1.1∧g1.1 < (v4.length:Int)) <|
  (if ((!decide ((v4.getD g1.1.toNat Proc.zero).site=a1))||(decide (a2≤(v4.getD g1.1.toNat Proc.zero).inc)))=true then
   gd (0≤g1.1∧g1.1 < (v4.length:Int)) <|
   gd (g1.2.length+1≤4294967296) <|
   some (.inl ((IntKind.i64.wrap (g1.1+1)),(g1.2++[(v4.getD g1.1.toNat Proc.zero)])))
  else
   some (.inl ((IntKind.i64.wrap (g1.1+1)),g1.2)))
 else
  some (.inr g1.2))
@[go_sem] def zeq1 (a1:Int) (a2:Int) (v2:(List Queue)) (v3:(List Queue)×(List Event)) (v4:(List Proc)) (g1:Int×(List Proc)):St:=⟨[(1,.int .i64 a1),(2,.int .i64 a2),(7,.sl (v2.map Queue.enc)),(8,.sl (v3.1.map Queue.enc)),(10,.sl (v4.map Proc.enc)),(11,.own 0 0 g1.2.length),(12,.int .i64 g1.1)],[(0,⟨false,3,(Proc.enc Proc.zero),g1.2.map Proc.enc⟩)],1⟩
noncomputable def zA0 (a0:List Int) (a1:Int) (a2:Int):Option (Bool) :=
 (if (!(zE4 a0))=true then
  (zm3).bind fun v1 =>
  some v1
 else
  (zx7 a0).bind fun v2 =>
  (zB3 v2 a1 a2).bind fun v3 =>
  (zo9 v2).bind fun v4 =>
  (zc1 (zu7 a1 a2 v4) (0,[])).bind (fun z=>zA9 v2 v3 z))
theorem zay2 (a0:List Int) (a1:Int) (a2:Int) (r:Bool) (h:zA0 a0 a1 a2=some r):PFn C 9 [.sl (a0.map (eI .i64)),.int .i64 a1,.int .i64 a2] (.bool r):=by
 refine za8 zeW7 rfl fun E hG hN hK=>?_
 unfold zdZ9
 unfold zA0 at h
 refine za0 (za1 hG ?_)
 refine za0 (za0 (za1 hG ?_))
 refine za6 (fun hg=>zaC3 a0) ?_
 refine za4 rfl hG h (fun _ h=>?_) (fun _ h=>?_)
 · refine za0 (za1 hG ?_)
   obtain ⟨v1,hv1,h⟩:=za3 h
   refine za6 (fun hg=>zU7  _ (hv1)) ?_
   refine za7 ?_
   exact zb0 h
 refine za5 ?_
 refine za0 (za1 hG ?_)
 obtain ⟨v2,hv2,h⟩:=za3 h
 refine za6 (fun hg=>zaC4 a0 _ (hv2)) ?_
 refine za0 (za1 hG ?_)
 obtain ⟨v3,hv3,h⟩:=za3 h
 refine za6 (fun hg=>zbc3 v2 a1 a2 _ (hv3)) ?_
 refine za0 (za1 hG ?_)
 obtain ⟨v4,hv4,h⟩:=za3 h
 refine za6 (fun hg=>zag5 v2 _ (hv4)) ?_
 refine za0 (za1 hG ?_)
 refine za0 (za0 (za1 hG ?_))
 refine zb5 (zeq0 v2 v3) (fun v=>zA9 v2 v3 v=some r) ?_ ?_
 · intro j1 h
   unfold zA9 at h
   refine g_st ?_
   refine za0 (za1 hG ?_)
   obtain ⟨v5,hv5,h⟩:=za3 h
   refine za6 (fun hg=>zU7  _ (hv5)) ?_
   obtain ⟨v6,hv6,h⟩:=za3 h
   refine za6 (fun hg=>zV1 v3.1 _ (zz6 hg hv6)) ?_
   obtain ⟨v7,hv7,h⟩:=za3 h
   refine za6 (fun hg=>zU3 v3.1 _ (zz6 hg hv7)) ?_
   obtain ⟨v8,hv8,h⟩:=za3 h
   refine za6 (fun hg=>zaE4 v7 j1 _ (zz6 hg hv8)) ?_
   refine za7 ?_
   exact zb0 h
 refine zd8 (zeq1 a1 a2 v2 v3 v4) hK [(0,0)] h (fun x_l1 h g1 y_l1 h_l1 hx_l1=>?_)
 unfold zu7 at h_l1
 refine g_st ?_
 refine za0 (za0 (za1 hG ?_))
 refine za4 rfl hG h_l1 (fun _ h_l1=>?_) (fun _ h_l1=>?_)
 · refine za5 ?_
   refine za0 (zb6 (za0 ?_))
   obtain ⟨hb3,h_l1⟩:=za2 h_l1
   obtain ⟨hb4,h_l1⟩:=za2 h_l1
   refine za1 hG ?_
   refine za4 rfl hG h_l1 (fun _ h_l1=>?_) (fun _ h_l1=>?_)
   · obtain ⟨hb1,h_l1⟩:=za2 h_l1
     obtain ⟨hb2,h_l1⟩:=za2 h_l1
     refine za1 hG ?_
     refine za1 hG ?_
     exact zc7 hK [(0,1)] h_l1
   refine za5 ?_
   refine za1 hG ?_
   exact zc7 hK [(0,0)] h_l1
 refine zc3 ?_
 obtain rfl:=Option.some.inj h_l1
 have hx:=hx_l1 _ rfl
 subst hx
 try dsimp only at h
 exact zc5 hK [(0,0)] g1.2 (by exact h)
attribute [local irreducible] zA0
end Ab
end Go.Proofs.YtfjeceicgfdmjaaGreatDoor
