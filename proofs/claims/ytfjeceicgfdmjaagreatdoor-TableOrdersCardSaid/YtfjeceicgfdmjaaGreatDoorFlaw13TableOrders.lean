/-
  A law's own code and what it computes.
-/
import Derived.Test.YtfjeceicgfdmjaaGreatDoorFn
namespace Go.Proofs.YtfjeceicgfdmjaaGreatDoor
namespace Ab
set_option linter.unusedSimpArgs false
set_option linter.unusedVariables false
set_option maxRecDepth 100000
set_option maxHeartbeats 1000000
attribute [local irreducible] zf3 zd1 zj4 zv1 zv2 zg6 ze1 zo1 zv3 zs1 zn4 zj5 ze0 zg7 zf4 zg8 zl9 zh2 zm5 zk0 zg9 ze5 zm9 zf8 zo2 zp5 zi1 zi8 zj8 zj6 zh5 zh0 zc8 zc6 zo3 zq7 zb7 zc0 zh1 zo4 zk1 zk2 zr8 zw5 zc9 zc2 zj7 zj9 zl3 zF5 zq9 zk3 ze3 zm1 zr0 zk4 zk5 zr1 zf5 zl4 zt0 zm2 zm3 zk6 zi4 zu0 zP0 zR4 zo5 zi9 zo6 zn0 zr2 zv4 zo7 zx1 zs7 zx2 zl5 zk8 zt3 zo8 zt4 zl6 zi6 zt5 zo9 zk9 zu1 zl7 zu2 zp6 zH4 zA7 zr9 zs0 zi2 zu3 zr3 zi3 zi7 zx3 zC8 zad6 zd6 zp7 zn5 zE5 zx4 zl8 zu4 zu5 zx5 zx6 zx7 zn1 zr4 zn6 zm4 zn7 zn8 zq1 zy5 zv5 zr5 zag7 zab3 zV7 zV8 zB3 zal3 zq2 zI9 zJ0 zL6 zV9 zag8 zL7 zL8 zaa1 zS1 zal4 zal5 zD5
def zea0:=[mo 4 .mv [oFa]]
def zea1:=[oV 11 0,oC 12 20 [.t 11],mo 13 .not [.t 12],oV 14 13,oG 15 14 false .mv [.t 1],oG 16 14 false .len [.t 15],oG 17 14 false (.bin .gtr) [.t 16,oK 8],mo 18 .pick [.t 14,oTr,.t 17]]
def zea2:=[oC 19 14 [],oV 4 19]
def zea3:=[oV 20 0,oC 21 21 [.t 20],oV 5 21]
def zea4:=[oV 22 5,oV 6 22]
def zea5:=[oI 7 0]
def zea6:=[oV 23 7,oV 24 1,mo 25 .len [.t 24],oP 26 .lss [.t 23,.t 25]]
def zea7:=[oV 30 5,oV 31 1,oV 32 7,mo 33 (.iaS 1 [A.int .i64 0]) [.t 31,.t 32],oM 34 1 33,oC 35 23 [.t 34],oC 36 26 [.t 30,.t 35],oV 29 36,oE 37 0 29,oE 38 1 29,oV 5 37]
def zea8:=[oV 40 6,oV 41 1,oV 42 1,mo 43 .len [.t 42],oP 44 .sub [.t 43,oK 1],oV 45 7,oP 46 .sub [.t 44,.t 45],mo 47 (.iaS 1 [A.int .i64 0]) [.t 41,.t 46],oM 48 1 47,oC 49 23 [.t 48],oC 50 26 [.t 40,.t 49],oV 39 50,oE 51 0 39,oE 52 1 39,oV 6 51]
def zea9:=[oV 27 7,oP 28 .add [.t 27,oK 1],oV 7 28]
def zci3:=[oV 53 5,mo 54 .len [.t 53],oV 55 6,mo 56 .len [.t 55],oP 57 .neq [.t 54,.t 56]]
def zci4:=[mo 4 .mv [oFa]]
def zci5:=[oI 8 0]
def zci6:=[oV 58 8,oV 59 5,mo 60 .len [.t 59],oP 61 .lss [.t 58,.t 60]]
def zci7:=[oV 64 5,oV 65 8,mo 66 (.iaS 8 (Queue.enc Queue.zero)) [.t 64,.t 65],oL 67 8 66,oV 68 6,oV 69 8,mo 70 (.iaS 8 (Queue.enc Queue.zero)) [.t 68,.t 69],oL 71 8 70,mo 9 (.alloc 8 (Queue.enc Queue.zero)) [],mo 10 (.alloc 8 (Queue.enc Queue.zero)) [],oS 8 9 67,oS 8 10 71]
def zci8:=[oA 72 7 9,mz (.store 1) [.t 72,oK 0],oA 73 7 10,mz (.store 1) [.t 73,oK 0]]
def zci9:=[oL 74 8 9,oL 75 8 10,oC 76 25 [.t 74,.t 75],mo 77 .not [.t 76]]
def zcj0:=[mo 4 .mv [oFa]]
def zcj1:=[oV 62 8,oP 63 .add [.t 62,oK 1],oV 8 63]
def zcj2:=[oC 78 14 [],oV 79 78,oG 80 79 true .mv [.t 5],oG 81 79 true .len [.t 80],oG 82 79 true (.bin .gtr) [.t 81,oK 0],mo 83 .pick [.t 79,.t 82,oFa],oV 4 83]
def zeb0:PC:=(.seq (.reg [] zea0) (.seq (.seq (.reg [11,12,13,14,15,16,17] zea1) (.cond (.t 18) (.seq (.reg [19] zea2) .ret) .skip)) (.seq (.reg [20,21] zea3) (.seq (.reg [22] zea4) (.seq (.seq (.reg [] zea5) (.block 0 (.loop (.seq (.seq (.reg [23,24,25] zea6) (.cond (.t 26) .skip (.exit 0))) (.seq (.block 1 (.seq (.reg [29,30,31,32,33,34,35,36,37,38] zea7) (.reg [39,40,41,42,43,44,45,46,47,48,49,50,51,52] zea8))) (.reg [27,28] zea9)))))) (.seq (.seq (.reg [53,54,55,56] zci3) (.cond (.t 57) (.seq (.reg [] zci4) .ret) .skip)) (.seq (.seq (.reg [] zci5) (.block 2 (.loop (.seq (.seq (.reg [58,59,60] zci6) (.cond (.t 61) .skip (.exit 2))) (.seq (.block 3 (.seq (.regm [64,65,66,67,68,69,70,71] [[],[],[0,1],[2,0,1],[],[],[4,5],[6,4,5],[],[],[8,3,0,1,2,3,8,9,2,0,1,0,1,2,0,1],[9,7,10,0,1,2,3,4,5,6,7,8,9,10,6,4,5,8,3,0,1,2,3,8,9,2,0,1,0,1,2,0,1,0,1,2,0,1,4,5,6,4,5,8,3,0,1,2,3,8,9,2,0,1,0,1,2,0,1]] zci7) (.seq (.reg [72,73] zci8) (.seq (.reg [74,75,76] zci9) (.cond (.t 77) (.seq (.reg [] zcj0) .ret) .skip))))) (.reg [62,63] zcj1)))))) (.seq (.reg [78,79,80,81,82,83] zcj2) .ret))))))))
theorem zeW8:chkF C.P 6 zeb0 84 [.t 4] 2=true:=by kernel_rfl
attribute [go_sem] zea0 zea1 zea2 zea3 zea4 zea5 zea6 zea7 zea8 zea9 zci3 zci4 zci5 zci6 zci7 zci8 zci9 zcj0 zcj1 zcj2
noncomputable def zB0 (j1:(List Queue)×(List Queue)) (j2:Unit):Option (Bool) :=
 (zm3).bind fun v3 =>
 some (v3&&(decide (0 < (j1.1.length:Int))))
@[go_sem] def zeq2 (j1:(List Queue)×(List Queue)) (j2:Unit):St:=⟨[(5,.sl (j1.1.map Queue.enc))],[],0⟩
noncomputable def zu8 (j1:(List Queue)×(List Queue)) (g1:Int):Option ((Int)⊕((Unit)⊕(Bool))) :=
 (if (decide (g1 < (j1.1.length:Int)))=true then
  gd (0≤g1∧g1 < (j1.1.length:Int)) <|
  gd (0≤g1∧g1 < (j1.2.length:Int)) <|
  (zu0 ({ (j1.1.getD g1.toNat Queue.zero) with gen:=0 }) ({ (j1.2.getD g1.toNat Queue.zero) with gen:=0 })).bind fun v4 =>
  (if (!v4)=true then
   some (.inr (.inr false))
  else
   some (.inl (IntKind.i64.wrap (g1+1))))
 else
  some (.inr (.inl ())))
@[go_sem] def zeq3 (j1:(List Queue)×(List Queue)) (g1:Int):St:=⟨[(5,.sl (j1.1.map Queue.enc)),(6,.sl (j1.2.map Queue.enc)),(8,.int .i64 g1)],[],0⟩
noncomputable def zB1  (j1:(List Queue)×(List Queue)):Option (Bool) :=
 (if (!decide ((j1.1.length:Int)=(j1.2.length:Int)))=true then
  some false
 else
  (zc1 (zu8 j1) 0).bind (fun | .inl z=>zB0 j1 z | .inr z=>some z))
@[go_sem] def zeq4  (j1:(List Queue)×(List Queue)):St:=⟨[(5,.sl (j1.1.map Queue.enc)),(6,.sl (j1.2.map Queue.enc))],[],0⟩
noncomputable def zB2 (a1:List Int) (g2:(List Queue)×(List Queue)×Int):Option (((List Queue)×(List Queue)×Int)⊕(((List Queue)×(List Queue)))) :=
 (if (decide (g2.2.2 < (a1.length:Int)))=true then
  gd (0≤g2.2.2∧g2.2.2 < (a1.length:Int)) <|
  (zn4 (a1.getD g2.2.2.toNat 0)).bind fun v5 =>
  (zr5 g2.1 v5).bind fun v6 =>
  gd (0≤(IntKind.i64.wrap ((IntKind.i64.wrap ((a1.length:Int) - 1)) - g2.2.2))∧(IntKind.i64.wrap ((IntKind.i64.wrap ((a1.length:Int) - 1)) - g2.2.2)) < (a1.length:Int)) <|
  (zn4 (a1.getD ((IntKind.i64.wrap ((IntKind.i64.wrap ((a1.length:Int) - 1)) - g2.2.2)).toNat) 0)).bind fun v7 =>
  (zr5 g2.2.1 v7).bind fun v8 =>
  some (.inl (v6.1,v8.1,(IntKind.i64.wrap (g2.2.2+1))))
 else
  some (.inr (g2.1,g2.2.1)))
@[go_sem] def zeq5 (a1:List Int) (g2:(List Queue)×(List Queue)×Int):St:=⟨[(1,.sl (a1.map (eI .i64))),(5,.sl (g2.1.map Queue.enc)),(6,.sl (g2.2.1.map Queue.enc)),(7,.int .i64 g2.2.2)],[],0⟩
noncomputable def zA1 (a0:List Int) (a1:List Int):Option (Bool) :=
 (if ((!(zE4 a0))||(decide (8 < (a1.length:Int))))=true then
  (zm3).bind fun v1 =>
  some v1
 else
  (zx7 a0).bind fun v2 =>
  (zc1 (zB2 a1) (v2,v2,0)).bind (fun z=>zB1 z))
theorem zay6 (a0:List Int) (a1:List Int) (r:Bool) (h:zA1 a0 a1=some r):PFn C 6 [.sl (a0.map (eI .i64)),.sl (a1.map (eI .i64))] (.bool r):=by
 refine za8 zeW8 rfl fun E hG hN hK=>?_
 unfold zeb0
 unfold zA1 at h
 refine za0 (za1 hG ?_)
 refine za0 (za0 (za1 hG ?_))
 refine za6 (fun hg=>zaC3 a0) ?_
 refine za4 rfl hG h (fun _ h=>?_) (fun _ h=>?_)
 · refine za0 (za1 hG ?_)
   obtain ⟨v1,hv1,h⟩:=za3 h
   refine za6 (fun hg=>zU7  _ (hv1)) ?_
   refine za7 ?_
   exact zb0 h
 refine za5 ?_
 refine za0 (za1 hG ?_)
 obtain ⟨v2,hv2,h⟩:=za3 h
 refine za6 (fun hg=>zaC4 a0 _ (hv2)) ?_
 refine za0 (za1 hG ?_)
 refine za0 (za0 (za1 hG ?_))
 refine zb5 (zeq4) (fun v=>zB1 v=some r) ?_ ?_
 · intro j1 h
   unfold zB1 at h
   refine g_st ?_
   refine za0 (za0 (za1 hG ?_))
   refine za4 rfl hG h (fun _ h=>?_) (fun _ h=>?_)
   · refine za0 (za1 hG ?_)
     refine za7 ?_
     exact zb0 h
   refine za5 ?_
   refine za0 (za0 (za1 hG ?_))
   refine zb5 (zeq2 j1) (fun v=>zB0 j1 v=some r) ?_ ?_
   · intro j2 h
     unfold zB0 at h
     refine g_st ?_
     refine za0 (za1 hG ?_)
     obtain ⟨v3,hv3,h⟩:=za3 h
     refine za6 (fun hg=>zU7  _ (hv3)) ?_
     refine za7 ?_
     exact zb0 h
   refine zd8 (zeq3 j1) hK [] h (fun x_l1 h g1 y_l1 h_l1 hx_l1=>?_)
   unfold zu8 at h_l1
   refine g_st ?_
   refine za0 (za0 (za1 hG ?_))
   refine za4 rfl hG h_l1 (fun _ h_l1=>?_) (fun _ h_l1=>?_)
   · refine za5 ?_
     refine za0 (zb6 (za0 ?_))
     obtain ⟨hb1,h_l1⟩:=za2 h_l1
     obtain ⟨hb2,h_l1⟩:=za2 h_l1
     refine zG1 zd9 hG ?_
     refine za0 (za1 hG ?_)
     refine za0 (za1 hG ?_)
     obtain ⟨v4,hv4,h_l1⟩:=za3 h_l1
     refine za6 (fun hg=>zbh7 ({ (j1.1.getD g1.toNat Queue.zero) with gen:=0 }) ({ (j1.2.getD g1.toNat Queue.zero) with gen:=0 }) _ (hv4)) ?_
     refine za4 rfl hG h_l1 (fun _ h_l1=>?_) (fun _ h_l1=>?_)
     · refine za0 (za1 hG ?_)
       refine za7 ?_
       obtain rfl:=Option.some.inj h_l1
       have hx:=hx_l1 _ rfl
       subst hx
       try dsimp only at h
       exact zb0 h
     refine za5 ?_
     refine za1 hG ?_
     exact zc7 hK [] h_l1
   refine zc3 ?_
   obtain rfl:=Option.some.inj h_l1
   have hx:=hx_l1 _ rfl
   subst hx
   try dsimp only at h
   exact zc5 hK [] () (by exact h)
 refine zd8 (zeq5 a1) hK [] h (fun x_l2 h g2 y_l2 h_l2 hx_l2=>?_)
 unfold zB2 at h_l2
 refine g_st ?_
 refine za0 (za0 (za1 hG ?_))
 refine za4 rfl hG h_l2 (fun _ h_l2=>?_) (fun _ h_l2=>?_)
 · refine za5 ?_
   refine za0 (zb6 (za0 ?_))
   obtain ⟨hb4,h_l2⟩:=za2 h_l2
   refine za1 hG ?_
   obtain ⟨v5,hv5,h_l2⟩:=za3 h_l2
   refine za6 (fun hg=>zad5 (a1.getD g2.2.2.toNat 0) _ (hv5)) ?_
   obtain ⟨v6,hv6,h_l2⟩:=za3 h_l2
   refine za6 (fun hg=>zac8 g2.1 v5 _ (hv6)) ?_
   obtain ⟨hb3,h_l2⟩:=za2 h_l2
   refine za1 hG ?_
   obtain ⟨v7,hv7,h_l2⟩:=za3 h_l2
   refine za6 (fun hg=>zad5 (a1.getD ((IntKind.i64.wrap ((IntKind.i64.wrap ((a1.length:Int) - 1)) - g2.2.2)).toNat) 0) _ (hv7)) ?_
   obtain ⟨v8,hv8,h_l2⟩:=za3 h_l2
   refine za6 (fun hg=>zac8 g2.2.1 v7 _ (hv8)) ?_
   refine za1 hG ?_
   exact zc7 hK [] h_l2
 refine zc3 ?_
 obtain rfl:=Option.some.inj h_l2
 have hx:=hx_l2 _ rfl
 subst hx
 try dsimp only at h
 exact zc5 hK [] (g2.1,g2.2.1) (by exact h)
attribute [local irreducible] zA1
end Ab
end Go.Proofs.YtfjeceicgfdmjaaGreatDoor
