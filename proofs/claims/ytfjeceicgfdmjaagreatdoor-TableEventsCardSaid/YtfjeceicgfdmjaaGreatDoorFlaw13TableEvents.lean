/-
  A law's own code and what it computes.
-/
import Derived.Test.YtfjeceicgfdmjaaGreatDoorFn
namespace Go.Proofs.YtfjeceicgfdmjaaGreatDoor
namespace Ab
set_option linter.unusedSimpArgs false
set_option linter.unusedVariables false
set_option maxRecDepth 100000
set_option maxHeartbeats 1000000
attribute [local irreducible] zf5 zd4 zj8 zw0 zw1 zh4 ze3 zo4 zw2 zs8 zq6 zj9 ze0 zh5 zf6 zh2 zm1 zh6 zl6 zk4 zh3 zf0 zn3 zg6 zo6 zp5 zi8 zj0 zk0 zk1 zi0 zh7 zc9 zc7 zo7 zr5 zc0 zc2 zh8 zo8 zm2 zk6 zt0 zy3 zd3 zc5 zk2 zk3 zm3 zH2 zr6 zl0 ze4 zn4 zr7 zl1 zl2 zr8 zf4 zl7 zv5 zn5 zr9 zj1 zx9 zT3 zT4 zY2 zp6 zj6 zp1 zn6 zs1 zw5 zp2 zz7 zq8 zz8 zm4 zk7 zv6 zp7 zv7 zm5 zj3 zv8 zs2 zm6 zt1 zl8 zw9 zn7 zM2 zD5 zt2 zu1 zi6 zx0 zs3 zi7 zi9 zA4 zH8 zao3 zd7 zq9 zp9 zG4 zA5 zl9 zx1 zx2 zA6 zA7 zD7 zo1 zs4 zq0 zm7 zq1 zq2 zt3 zC1 zy6 zx3 zC2 zah7 zae3 zae4 zaA4 zaA5 zah9 zR5 zR6 zU4 zae5 zau6 zU5 zU6 zaj2 zaa9 zaA6 zaA7 zI8
def zdU5:=[mo 4 .mv [oFa]]
def zdU6:=[oV 14 0,oC 15 20 [.t 14],mo 16 .not [.t 15]]
def zdU7:=[oC 17 14 [],oV 4 17]
def zdU8:=[oV 18 0,oC 19 21 [.t 18],oV 5 19]
def zdU9:=[oV 20 1,oC 21 23 [.t 20],mo 6 (.alloc 3 (Proc.enc Proc.zero)) [],oS 3 6 21]
def zdV0:=[oV 23 5,oL 24 3 6,oC 25 26 [.t 23,.t 24],oV 22 25,oE 26 0 22,oE 27 1 22,oV 7 26,oV 8 27]
def zdV1:=[oV 28 7,mo 29 .len [.t 28],oV 30 5,mo 31 .len [.t 30],oP 32 .neq [.t 29,.t 31]]
def zdV2:=[mo 4 .mv [oFa]]
def zdV3:=[oV 33 5,mo 34 .len [.t 33],mo 35 (.mk 1 24 [A.sl ([].map Hold.enc)]) [.t 34,.t 34],oV 9 35]
def zdV4:=[oI 10 0]
def zcf0:=[oV 36 10,oV 37 5,mo 38 .len [.t 37],oP 39 .lss [.t 36,.t 38]]
def zcf1:=[oV 42 9,oV 43 10,mo 44 (.bslice 5 (Hold.enc Hold.zero)) [],oV 45 5,oV 46 10,mo 47 (.iaS 8 (Queue.enc Queue.zero)) [.t 45,.t 46],oA 48 4 47,oM 49 1 48,mo 50 (.apl 5 40) [.t 44,.t 49],mo 51 (.iaS 1 [A.sl ([].map Hold.enc)]) [.t 42,.t 43],oS 1 51 50]
def zcf2:=[oV 40 10,oP 41 .add [.t 40,oK 1],oV 10 41]
def zcf3:=[oI 11 0]
def zcf4:=[oV 52 11,oV 53 8,mo 54 .len [.t 53],oP 55 .lss [.t 52,.t 54]]
def zcf5:=[oV 58 5,oV 59 8,oV 60 11,mo 61 (.iaS 7 (Event.enc Event.zero)) [.t 59,.t 60],oA 62 4 61,oM 63 1 62,oC 64 27 [.t 58,.t 63],oV 12 64]
def zcf6:=[oV 65 12,oP 66 .lss [.t 65,oK 0],oV 67 66,oG 68 67 false .mv [.t 8],oG 69 67 false .mv [.t 11],oG 70 67 false (.iaS 7 (Event.enc Event.zero)) [.t 68,.t 69],oG 71 67 false (.faddr 0) [.t 70],oG 72 67 false (.load 1 false) [.t 71],oG 73 67 false (.bin .neq) [.t 72,oK 1],oG 74 67 false .mv [.t 73],
 oG 75 74 true .mv [.t 8],oG 76 74 true .mv [.t 11],oG 77 74 true (.iaS 7 (Event.enc Event.zero)) [.t 75,.t 76],oG 78 74 true (.faddr 0) [.t 77],oG 79 74 true (.load 1 false) [.t 78],oG 80 74 true (.bin .neq) [.t 79,oK 3],oG 81 74 true .mv [.t 80],oG 82 81 false .mv [.t 8],oG 83 81 false .mv [.t 11],
 oG 84 81 false (.iaS 7 (Event.enc Event.zero)) [.t 82,.t 83],oG 85 81 false (.faddr 1) [.t 84],oG 86 81 false (.load 3 true) [.t 85],oG 87 81 false (.load 3 true) [.t 6],oG 88 81 false (.eqa true [.i .i64,.i .i64,.i .i64]) [.t 86,.t 87],oG 89 74 true .pick [.t 81,oTr,.t 88],oG 90 67 false .pick [.t 74,.t 89,oFa],
 mo 91 .pick [.t 67,oTr,.t 90]]
def zcf7:=[mo 4 .mv [oFa]]
def zcf8:=[oV 92 9,oV 93 12,oV 94 9,oV 95 12,mo 96 (.iaS 1 [A.sl ([].map Hold.enc)]) [.t 94,.t 95],oM 97 1 96,oV 98 8,oV 99 11,mo 100 (.iaS 7 (Event.enc Event.zero)) [.t 98,.t 99],oA 101 1 100,oL 102 3 101,oV 103 8,oV 104 11,mo 105 (.iaS 7 (Event.enc Event.zero)) [.t 103,.t 104],oA 106 5 105,oL 107 2 106,
 oC 108 28 [.t 97,.t 102,.t 107],mo 109 (.iaS 1 [A.sl ([].map Hold.enc)]) [.t 92,.t 93],oS 1 109 108]
def zcf9:=[oV 56 11,oP 57 .add [.t 56,oK 1],oV 11 57]
def zcg0:=[oI 13 0]
def zcg1:=[oV 110 13,oV 111 5,mo 112 .len [.t 111],oP 113 .lss [.t 110,.t 112]]
def zcg2:=[oV 116 9,oV 117 13,mo 118 (.iaS 1 [A.sl ([].map Hold.enc)]) [.t 116,.t 117],oM 119 1 118,oV 120 7,oV 121 13,mo 122 (.iaS 8 (Queue.enc Queue.zero)) [.t 120,.t 121],oA 123 4 122,oM 124 1 123,oC 125 29 [.t 119,.t 124],mo 126 .not [.t 125],oV 127 126,oG 128 127 false .mv [.t 7],oG 129 127 false .mv [.t 13],
 oG 130 127 false (.iaS 8 (Queue.enc Queue.zero)) [.t 128,.t 129],oG 131 127 false (.load 8 true) [.t 130],oG 132 127 false (.load 3 true) [.t 6],oG 133 127 false (.call 31) [.t 131,.t 132],oG 134 127 false (.call 30) [.t 133],oG 135 127 false .not [.t 134],mo 136 .pick [.t 127,oTr,.t 135]]
def zcg3:=[mo 4 .mv [oFa]]
def zcg4:=[oV 114 13,oP 115 .add [.t 114,oK 1],oV 13 115]
def zcg5:=[oC 137 14 [],oV 138 137,oG 139 138 true .mv [.t 7],oG 140 138 true (.load 3 true) [.t 6],oG 141 138 true (.call 32) [.t 139,.t 140],oG 142 138 true .len [.t 141],oG 143 138 true (.bin .eql) [.t 142,oK 0],mo 144 .pick [.t 138,.t 143,oFa],oV 4 144]
def zdV5:PC:=(.seq (.reg [] zdU5) (.seq (.seq (.reg [14,15] zdU6) (.cond (.t 16) (.seq (.reg [17] zdU7) .ret) .skip)) (.seq (.reg [18,19] zdU8) (.seq (.reg [20,21] zdU9) (.seq (.reg [22,23,24,25,26,27] zdV0) (.seq (.seq (.reg [28,29,30,31] zdV1) (.cond (.t 32) (.seq (.reg [] zdV2) .ret) .skip)) (.seq (.reg [33,34,35] zdV3) (.seq (.seq (.reg [] zdV4) (.block 0 (.loop (.seq (.seq (.reg [36,37,38] zcf0) (.cond (.t 39) .skip (.exit 0))) (.seq (.block 1 (.reg [42,43,44,45,46,47,48,49,50,51] zcf1)) (.reg [40,41] zcf2)))))) (.seq (.seq (.reg [] zcf3) (.block 2 (.loop (.seq (.seq (.reg [52,53,54] zcf4) (.cond (.t 55) .skip (.exit 2))) (.seq (.block 3 (.seq (.reg [58,59,60,61,62,63,64] zcf5) (.seq (.seq (.regd [65,66,67,68,69,70,71,72,73,74,75,76,77,78,79,80,81,82,83,84,85,86,87,88,89,90] zcf6) (.cond (.t 91) (.seq (.reg [] zcf7) .ret) .skip)) (.regm [92,93,94,95,96,97,98,99,100,101,102,103,104,105,106,107,108,109] [[],[],[],[],[2,3],[4,2,3],[],[],[6,7],[8,6,7],[9,8,6,7],[],[],[11,12],[13,11,12],[14,13,11,12],[5,10,15,4,2,3,9,8,6,7,14,13,11,12],[0,1,0,1,2,3,4,5,6,7,8,9,10,11,12,13,14,15,16,2,3,4,2,3,6,7,8,6,7,9,8,6,7,11,12,13,11,12,14,13,11,12,5,10,15,4,2,3,9,8,6,7,14,13,11,12],[17,16,16,0,1,2,3,4,5,6,7,8,9,10,11,12,13,14,15,16,0,1,0,1,2,3,4,5,6,7,8,9,10,11,12,13,14,15,16,2,3,4,2,3,6,7,8,6,7,9,8,6,7,11,12,13,11,12,14,13,11,12,5,10,15,4,2,3,9,8,6,7,14,13,11,12,5,10,15,4,2,3,9,8,6,7,14,13,11,12,5,10,15,4,2,3,9,8,6,7,14,13,11,12,2,3,4,2,3,6,7,8,6,7,9,8,6,7,11,12,13,11,12,14,13,11,12,5,10,15,4,2,3,9,8,6,7,14,13,11,12]] zcf8)))) (.reg [56,57] zcf9)))))) (.seq (.seq (.reg [] zcg0) (.block 4 (.loop (.seq (.seq (.reg [110,111,112] zcg1) (.cond (.t 113) .skip (.exit 4))) (.seq (.block 5 (.seq (.regd [116,117,118,119,120,121,122,123,124,125,126,127,128,129,130,131,132,133,134,135] zcg2) (.cond (.t 136) (.seq (.reg [] zcg3) .ret) .skip))) (.reg [114,115] zcg4)))))) (.seq (.reg [137,138,139,140,141,142,143,144] zcg5) .ret)))))))))))
theorem zeT1:chkF C.P 7 zdV5 145 [.t 4] 2=true:=by kernel_rfl
attribute [go_sem] zdU5 zdU6 zdU7 zdU8 zdU9 zdV0 zdV1 zdV2 zdV3 zdV4 zcf0 zcf1 zcf2 zcf3 zcf4 zcf5 zcf6 zcf7 zcf8 zcf9 zcg0 zcg1 zcg2 zcg3 zcg4 zcg5
noncomputable def zA1 (v3:Proc) (v4:(List Queue)×(List Event)) (j3:Unit):Option (Bool) :=
 (zr9).bind fun v5 =>
 ((if v5=true then zC2 v4.1 v3 else some ([]))).bind fun v6 =>
 some (v5&&(decide ((v6.length:Int)=0)))
@[go_sem] def zek7 (v3:Proc) (v4:(List Queue)×(List Event)) (j3:Unit):St:=⟨[(6,.ptr 0 0 0),(7,.sl (v4.1.map Queue.enc))],[(0,⟨false,3,(Proc.enc Proc.zero),[Proc.enc v3]⟩)],1⟩
noncomputable def zt6 (v2:(List Queue)) (v3:Proc) (v4:(List Queue)×(List Event)) (j2:(List (List Hold))) (g1:Int):Option ((Int)⊕((Unit)⊕(Bool))) :=
 (if (decide (g1 < (v2.length:Int)))=true then
  gd (0≤g1∧g1 < ((j2.length:Nat):Int)) <|
  gd (0≤g1∧g1 < (v4.1.length:Int)) <|
  (zj1 (j2.getD g1.toNat []) ((v4.1.getD g1.toNat Queue.zero).holds)).bind fun v7 =>
  gd (v7=true→0≤g1∧g1 < (v4.1.length:Int)) <|
  ((if v7=true then zn7 (v4.1.getD g1.toNat Queue.zero) v3 else some (Amount.zero))).bind fun v8 =>
  (if ((!v7)||(!(zc6 v8)))=true then
   some (.inr (.inr false))
  else
   some (.inl (IntKind.i64.wrap (g1+1))))
 else
  some (.inr (.inl ())))
@[go_sem] def zek8 (v2:(List Queue)) (v3:Proc) (v4:(List Queue)×(List Event)) (j2:(List (List Hold))) (g1:Int):St:=⟨[(5,.sl (v2.map Queue.enc)),(6,.ptr 0 0 0),(7,.sl (v4.1.map Queue.enc)),(9,.own 1 0 j2.length),(13,.int .i64 g1)],[(0,⟨false,3,(Proc.enc Proc.zero),[Proc.enc v3]⟩),(1,⟨false,1,[A.sl ([].map Hold.enc)],j2.map (eL Hold.enc)⟩)],2⟩
noncomputable def zA2 (v2:(List Queue)) (v3:Proc) (v4:(List Queue)×(List Event)) (j2:(List (List Hold))):Option (Bool) :=
 (zb8 (zt6 v2 v3 v4 j2) 0).bind (fun | .inl z=>zA1 v3 v4 z | .inr z=>some z)
@[go_sem] def zek9 (v2:(List Queue)) (v3:Proc) (v4:(List Queue)×(List Event)) (j2:(List (List Hold))):St:=⟨[(5,.sl (v2.map Queue.enc)),(6,.ptr 0 0 0),(7,.sl (v4.1.map Queue.enc)),(9,.own 1 0 j2.length)],[(0,⟨false,3,(Proc.enc Proc.zero),[Proc.enc v3]⟩),(1,⟨false,1,[A.sl ([].map Hold.enc)],j2.map (eL Hold.enc)⟩)],2⟩
noncomputable def zt7 (v2:(List Queue)) (v3:Proc) (v4:(List Queue)×(List Event)) (g2:Int×(List (List Hold))):Option ((Int×(List (List Hold)))⊕(((List (List Hold)))⊕(Bool))) :=
 (if (decide (g2.1 < (v4.2.length:Int)))=true then
  gd (0≤g2.1∧g2.1 < (v4.2.length:Int)) <|
  (zt1 v2 ((v4.2.getD g2.1.toNat Event.zero).name)).bind fun v9 =>
  gd ((!(decide (v9 < 0)))=true→0≤g2.1∧g2.1 < (v4.2.length:Int)) <|
  gd (((!(decide (v9 < 0)))&&(!decide ((v4.2.getD g2.1.toNat Event.zero).kind=1)))=true→0≤g2.1∧g2.1 < (v4.2.length:Int)) <|
  gd ((((!(decide (v9 < 0)))&&(!decide ((v4.2.getD g2.1.toNat Event.zero).kind=1)))&&(decide ((v4.2.getD g2.1.toNat Event.zero).kind=3)))=true→0≤g2.1∧g2.1 < (v4.2.length:Int)) <|
  (if ((decide (v9 < 0))||((!decide ((v4.2.getD g2.1.toNat Event.zero).kind=1))&&((!decide ((v4.2.getD g2.1.toNat Event.zero).kind=3))||(!decide ((v4.2.getD g2.1.toNat Event.zero).proc=v3)))))=true then
   some (.inr (.inr false))
  else
   gd (0≤v9∧v9 < ((g2.2.length:Nat):Int)) <|
   gd (0≤g2.1∧g2.1 < (v4.2.length:Int)) <|
   gd (0≤g2.1∧g2.1 < (v4.2.length:Int)) <|
   (zq8 (g2.2.getD v9.toNat []) ((v4.2.getD g2.1.toNat Event.zero).proc) ((v4.2.getD g2.1.toNat Event.zero).amount)).bind fun v10 =>
   gd (0≤v9∧v9 < ((g2.2.length:Nat):Int)) <|
   some (.inl ((IntKind.i64.wrap (g2.1+1)),(g2.2.set v9.toNat v10))))
 else
  some (.inr (.inl g2.2)))
@[go_sem] def zel0 (v2:(List Queue)) (v3:Proc) (v4:(List Queue)×(List Event)) (g2:Int×(List (List Hold))):St:=⟨[(5,.sl (v2.map Queue.enc)),(6,.ptr 0 0 0),(7,.sl (v4.1.map Queue.enc)),(8,.sl (v4.2.map Event.enc)),(9,.own 1 0 g2.2.length),(11,.int .i64 g2.1)],[(0,⟨false,3,(Proc.enc Proc.zero),[Proc.enc v3]⟩),(1,⟨false,1,[A.sl ([].map Hold.enc)],g2.2.map (eL Hold.enc)⟩)],2⟩
noncomputable def zA3 (v2:(List Queue)) (v3:Proc) (v4:(List Queue)×(List Event)) (j1:(List (List Hold))):Option (Bool) :=
 (zb8 (zt7 v2 v3 v4) (0,j1)).bind (fun | .inl z=>zA2 v2 v3 v4 z | .inr z=>some z)
@[go_sem] def zel1 (v2:(List Queue)) (v3:Proc) (v4:(List Queue)×(List Event)) (j1:(List (List Hold))):St:=⟨[(5,.sl (v2.map Queue.enc)),(6,.ptr 0 0 0),(7,.sl (v4.1.map Queue.enc)),(8,.sl (v4.2.map Event.enc)),(9,.own 1 0 j1.length)],[(0,⟨false,3,(Proc.enc Proc.zero),[Proc.enc v3]⟩),(1,⟨false,1,[A.sl ([].map Hold.enc)],j1.map (eL Hold.enc)⟩)],2⟩
noncomputable def zt8 (v2:(List Queue)) (g3:Int×(List (List Hold))):Option ((Int×(List (List Hold)))⊕(((List (List Hold))))) :=
 (if (decide (g3.1 < (v2.length:Int)))=true then
  gd (0≤g3.1∧g3.1 < (v2.length:Int)) <|
  gd (((v2.getD g3.1.toNat Queue.zero).holds).length≤4294967296) <|
  gd (0≤g3.1∧g3.1 < ((g3.2.length:Nat):Int)) <|
  some (.inl ((IntKind.i64.wrap (g3.1+1)),(g3.2.set g3.1.toNat ((v2.getD g3.1.toNat Queue.zero).holds))))
 else
  some (.inr g3.2))
@[go_sem] def zel2 (v2:(List Queue)) (v3:Proc) (v4:(List Queue)×(List Event)) (g3:Int×(List (List Hold))):St:=⟨[(5,.sl (v2.map Queue.enc)),(6,.ptr 0 0 0),(7,.sl (v4.1.map Queue.enc)),(8,.sl (v4.2.map Event.enc)),(9,.own 1 0 g3.2.length),(10,.int .i64 g3.1)],[(0,⟨false,3,(Proc.enc Proc.zero),[Proc.enc v3]⟩),(1,⟨false,1,[A.sl ([].map Hold.enc)],g3.2.map (eL Hold.enc)⟩)],2⟩
noncomputable def zz1 (a0:List Int) (a1:Int):Option (Bool) :=
 (if (!(zH9 a0))=true then
  (zr9).bind fun v1 =>
  some v1
 else
  (zD7 a0).bind fun v2 =>
  (zq6 a1).bind fun v3 =>
  (zx3 v2 v3).bind fun v4 =>
  (if (!decide ((v4.1.length:Int)=(v2.length:Int)))=true then
   some false
  else
   gd (0≤(v2.length:Int)∧(v2.length:Int)≤(v2.length:Int)∧(v2.length:Int)≤4294967296) <|
   (zb8 (zt8 v2) (0,(List.replicate ((v2.length:Int).toNat) []))).bind (fun z=>zA3 v2 v3 v4 z)))
theorem zaw6 (a0:List Int) (a1:Int) (r:Bool) (h:zz1 a0 a1=some r):PFn C 7 [.sl (a0.map (eI .i64)),.int .i64 a1] (.bool r):=by
 refine za8 zeT1 rfl fun E hG hN hK=>?_
 unfold zdV5
 unfold zz1 at h
 refine za0 (za1 hG ?_)
 refine za0 (za0 (za1 hG ?_))
 refine za6 (fun hg=>zbe7 a0) ?_
 refine za4 rfl hG h (fun _ h=>?_) (fun _ h=>?_)
 · refine za0 (za1 hG ?_)
   obtain ⟨v1,hv1,h⟩:=za3 h
   refine za6 (fun hg=>zat3  _ (hv1)) ?_
   refine za7 ?_
   exact zb1 h
 refine za5 ?_
 refine za0 (za1 hG ?_)
 obtain ⟨v2,hv2,h⟩:=za3 h
 refine za6 (fun hg=>zbe8 a0 _ (hv2)) ?_
 refine za0 (za1 hG ?_)
 obtain ⟨v3,hv3,h⟩:=za3 h
 refine za6 (fun hg=>zan9 a1 _ (hv3)) ?_
 refine za0 (za1 hG ?_)
 obtain ⟨v4,hv4,h⟩:=za3 h
 refine za6 (fun hg=>zaQ8 v2 v3 _ (hv4)) ?_
 refine za0 (za0 (za1 hG ?_))
 refine za4 rfl hG h (fun _ h=>?_) (fun _ h=>?_)
 · refine za0 (za1 hG ?_)
   refine za7 ?_
   exact zb1 h
 refine za5 ?_
 refine za0 ?_
 obtain ⟨hb15,h⟩:=za2 h
 refine za1 hG ?_
 refine za0 (za0 (za1 hG ?_))
 refine zb5 (zel1 v2 v3 v4) (fun v=>zA3 v2 v3 v4 v=some r) ?_ ?_
 · intro j1 h
   unfold zA3 at h
   refine g_st ?_
   refine za0 (za0 (za1 hG ?_))
   refine zb5 (zek9 v2 v3 v4) (fun v=>zA2 v2 v3 v4 v=some r) ?_ ?_
   · intro j2 h
     unfold zA2 at h
     refine g_st ?_
     refine za0 (za0 (za1 hG ?_))
     refine zb5 (zek7 v3 v4) (fun v=>zA1 v3 v4 v=some r) ?_ ?_
     · intro j3 h
       unfold zA1 at h
       refine g_st ?_
       refine za0 (za1 hG ?_)
       obtain ⟨v5,hv5,h⟩:=za3 h
       refine za6 (fun hg=>zat3  _ (hv5)) ?_
       obtain ⟨v6,hv6,h⟩:=za3 h
       refine za6 (fun hg=>zaQ9 v4.1 v3 _ (zD1 hg hv6)) ?_
       refine za7 ?_
       exact zb1 h
     refine zd9 (zek8 v2 v3 v4 j2) hK [(0,0),(1,1)] h (fun x_l1 h g1 y_l1 h_l1 hx_l1=>?_)
     unfold zt6 at h_l1
     refine g_st ?_
     refine za0 (za0 (za1 hG ?_))
     refine za4 rfl hG h_l1 (fun _ h_l1=>?_) (fun _ h_l1=>?_)
     · refine za5 ?_
       refine za0 (zb6 (za0 ?_))
       obtain ⟨hb1,h_l1⟩:=za2 h_l1
       obtain ⟨hb2,h_l1⟩:=za2 h_l1
       refine zm9 zd8 hG ?_
       obtain ⟨v7,hv7,h_l1⟩:=za3 h_l1
       obtain ⟨hb3,h_l1⟩:=za2 h_l1
       refine zf8 (fun hg=>zaC6 (j2.getD g1.toNat []) ((v4.1.getD g1.toNat Queue.zero).holds) _ (hv7)) ?_
       obtain ⟨v8,hv8,h_l1⟩:=za3 h_l1
       refine zf8 (fun hg=>zY4 (v4.1.getD g1.toNat Queue.zero) v3 _ (zD1 hg hv8)) ?_
       refine zf8 (fun hg=>zp0 v8) ?_
       refine za4 rfl hG h_l1 (fun _ h_l1=>?_) (fun _ h_l1=>?_)
       · refine za0 (za1 hG ?_)
         refine za7 ?_
         obtain rfl:=Option.some.inj h_l1
         have hx:=hx_l1 _ rfl
         subst hx
         try dsimp only at h
         exact zb1 h
       refine za5 ?_
       refine za1 hG ?_
       exact zc8 hK [(0,0),(1,1)] h_l1
     refine zc3 ?_
     obtain rfl:=Option.some.inj h_l1
     have hx:=hx_l1 _ rfl
     subst hx
     try dsimp only at h
     exact zc4 hK [(0,0)] () (by exact h)
   refine zd9 (zel0 v2 v3 v4) hK [(0,0),(1,1)] h (fun x_l2 h g2 y_l2 h_l2 hx_l2=>?_)
   unfold zt7 at h_l2
   refine g_st ?_
   refine za0 (za0 (za1 hG ?_))
   refine za4 rfl hG h_l2 (fun _ h_l2=>?_) (fun _ h_l2=>?_)
   · refine za5 ?_
     refine za0 (zb6 (za0 ?_))
     obtain ⟨hb11,h_l2⟩:=za2 h_l2
     refine za1 hG ?_
     obtain ⟨v9,hv9,h_l2⟩:=za3 h_l2
     refine za6 (fun hg=>zY3 v2 ((v4.2.getD g2.1.toNat Event.zero).name) _ (hv9)) ?_
     refine za0 (za0 ?_)
     obtain ⟨hb8,h_l2⟩:=za2 h_l2
     obtain ⟨hb9,h_l2⟩:=za2 h_l2
     obtain ⟨hb10,h_l2⟩:=za2 h_l2
     refine zm9 zd8 hG ?_
     refine za4 rfl hG h_l2 (fun _ h_l2=>?_) (fun _ h_l2=>?_)
     · refine za0 (za1 hG ?_)
       refine za7 ?_
       obtain rfl:=Option.some.inj h_l2
       have hx:=hx_l2 _ rfl
       subst hx
       try dsimp only at h
       exact zb1 h
     refine za5 ?_
     obtain ⟨hb4,h_l2⟩:=za2 h_l2
     obtain ⟨hb5,h_l2⟩:=za2 h_l2
     obtain ⟨hb6,h_l2⟩:=za2 h_l2
     refine zF1 zd8 hG ?_
     obtain ⟨v10,hv10,h_l2⟩:=za3 h_l2
     obtain ⟨hb7,h_l2⟩:=za2 h_l2
     refine zC5 (fun hg=>zab5 (g2.2.getD v9.toNat []) ((v4.2.getD g2.1.toNat Event.zero).proc) ((v4.2.getD g2.1.toNat Event.zero).amount) _ (hv10)) ?_
     refine za1 hG ?_
     exact zc8 hK [(0,0),(1,1)] h_l2
   refine zc3 ?_
   obtain rfl:=Option.some.inj h_l2
   have hx:=hx_l2 _ rfl
   subst hx
   try dsimp only at h
   exact zc4 hK [(0,0),(1,1)] g2.2 (by exact h)
 refine zd9 (zel2 v2 v3 v4) hK [(0,0),(1,1)] h (fun x_l3 h g3 y_l3 h_l3 hx_l3=>?_)
 unfold zt8 at h_l3
 refine g_st ?_
 refine za0 (za0 (za1 hG ?_))
 refine za4 rfl hG h_l3 (fun _ h_l3=>?_) (fun _ h_l3=>?_)
 · refine za5 ?_
   refine za0 (zb6 ?_)
   obtain ⟨hb12,h_l3⟩:=za2 h_l3
   obtain ⟨hb13,h_l3⟩:=za2 h_l3
   obtain ⟨hb14,h_l3⟩:=za2 h_l3
   refine za1 hG ?_
   refine za1 hG ?_
   exact zc8 hK [(0,0),(1,1)] h_l3
 refine zc3 ?_
 obtain rfl:=Option.some.inj h_l3
 have hx:=hx_l3 _ rfl
 subst hx
 try dsimp only at h
 exact zc4 hK [(0,0),(1,1)] g3.2 (by exact h)
attribute [local irreducible] zz1
end Ab
end Go.Proofs.YtfjeceicgfdmjaaGreatDoor
