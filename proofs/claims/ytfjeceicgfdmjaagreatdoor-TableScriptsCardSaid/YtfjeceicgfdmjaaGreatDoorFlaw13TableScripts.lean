/-
  A law's own code and what it computes.
-/
import Derived.Test.YtfjeceicgfdmjaaGreatDoorFn
namespace Go.Proofs.YtfjeceicgfdmjaaGreatDoor
namespace Ab
set_option linter.unusedSimpArgs false
set_option linter.unusedVariables false
set_option maxRecDepth 100000
set_option maxHeartbeats 1000000
attribute [local irreducible] zf3 zd3 zj5 zv5 zs3 zg6 ze1 zo1 zv6 zn8 zn9 zj6 ze0 zg7 zf4 zg8 zm1 zh2 zm8 zk3 zg9 ze6 zn1 zf8 zo2 zp4 zi1 zi8 zj9 zj7 zh5 zh0 zc8 zc6 zo3 zq2 zb7 zc0 zh1 zo4 zm3 zk4 zr5 zx1 zc9 zc1 zj8 zk0 zl5 zG2 zq4 zk5 ze4 zm4 zq5 zk6 zk7 zq6 zf9 zl6 zo5 zm5 zk8 zk9 zi4 zp5 zu1 zR1 zo6 zi9 zo7 zn2 zq7 zv7 zo8 zx6 zs6 zx7 zl7 zl1 zt3 zo9 zt4 zl8 zi6 zt5 zq8 zl2 zu2 zl9 zu3 zp6 zI1 zB4 zr6 zr7 zi2 zu4 zq9 zi3 zi7 zx8 zD0 zad1 zc2 zm6 zj0 zF1 zr0 zm0 zu5 zu6 zx9 zy0 zu7 zF2 zr1 zD1 zm7 zD2 zD3 zF3 zV4 zA4 zV5 zag2 zab0 zV6 zV7 zak6 zak7 zV8 zr9 zs0 zu8 zy7 zy8 zu9 zv0 zB5 zv9 zB6 zak8 zE3
def zdX2:=[mo 2 .mv [oFa]]
def zdX3:=[oV 12 0,oC 13 20 [.t 12],mo 14 .not [.t 13]]
def zdX4:=[oC 15 14 [],oV 2 15]
def zdX5:=[oV 16 0,mo 17 (.build (Tape.enc Tape.zero) [(0,1)]) [.t 16],oB 18 2 17,oV 3 18]
def zdX6:=[oV 20 3,mo 21 (.callm 45) [.t 20],oC 22 12 [.t 21],oV 19 22,oE 23 0 19,oE 24 1 19,oV 4 23,oV 5 24]
def zdX7:=[oV 25 4,mo 26 .len [.t 25],oP 27 .eql [.t 26,oK 0]]
def zdX8:=[mo 2 .mv [oFa]]
def zdX9:=[oV 28 3,mo 29 (.callm 46) [.t 28]]
def zdY0:=[oV 30 3,mo 31 (.callm 47) [.t 30,oK 8],oV 6 31]
def zdY1:=[oV 32 4,oV 33 3,oV 34 4,mo 35 .len [.t 34],mo 36 (.callm 47) [.t 33,.t 35],mo 37 (.iaS 8 (Queue.enc Queue.zero)) [.t 32,.t 36],oL 38 8 37,mo 7 (.alloc 8 (Queue.enc Queue.zero)) [],oS 8 7 38]
def zce5:=[oV 39 3,mo 40 (.callm 47) [.t 39,oK 8],oC 41 23 [.t 40],mo 8 (.alloc 3 (Proc.enc Proc.zero)) [],oS 3 8 41]
def zce6:=[oA 42 0 7,oA 43 0 42,oM 44 1 43,oA 45 0 7,oL 46 4 45,oV 47 3,mo 48 (.callm 47) [.t 47,oK 64],oC 49 24 [.t 46,.t 48],mo 50 (.build (Atom.enc Atom.zero) [(0,1),(1,2)]) [.t 44,.t 49],mo 9 (.alloc 3 (Atom.enc Atom.zero)) [],oS 3 9 50]
def zce7:=[mo 10 .mv [oNi]]
def zce8:=[oI 11 0]
def zce9:=[oV 51 6]
def zcf0:=[oP 63 .eql [.t 51,oK 0],oV 62 63]
def zcf1:=[oV 65 4,oL 66 3 8,oA 67 0 9,oM 68 1 67,oC 69 41 [.t 65,.t 66,.t 68],oV 64 69,oE 70 0 64,oE 71 1 64,oE 72 2 64,oV 10 70,oV 11 72]
def zcf2:=[oP 74 .eql [.t 51,oK 1],oV 73 74]
def zcf3:=[oV 76 4,oL 77 3 8,oL 78 3 9,oC 79 43 [.t 76,.t 77,.t 78],oV 75 79,oE 80 0 75,oE 81 1 75,oE 82 2 75,oV 10 80,oV 11 82]
def zcf4:=[oV 53 4,oL 54 3 8,oL 55 3 9,oV 56 3,mo 57 (.callm 47) [.t 56,oK 8],oC 58 17 [.t 53,.t 54,.t 55,.t 57],oV 52 58,oE 59 0 52,oE 60 1 52,oE 61 2 52,oV 10 59,oV 11 61]
def zcf5:=[oV 83 11,oP 84 .eql [.t 83,oK 0]]
def zcf6:=[oV 85 10,oV 4 85]
def zcf7:=[oV 86 4,oC 87 38 [.t 86],mo 88 .not [.t 87],oV 89 88,oG 90 89 false .mv [.t 4],oG 91 89 false .len [.t 90],oG 92 89 false (.bin .eql) [.t 91,oK 0],mo 93 .pick [.t 89,oTr,.t 92]]
def zcf8:=[mo 2 .mv [oFa]]
def zcf9:=[oC 94 14 [],oV 95 94,oG 96 95 true .mv [.t 4],oG 97 95 true .mv [.t 0],oG 98 95 true (.call 21) [.t 97],oG 99 95 true (.call 15) [.t 96,.t 98],mo 100 .pick [.t 95,.t 99,oFa],oV 2 100]
def zdY2:PC:=(.seq (.reg [] zdX2) (.seq (.seq (.reg [12,13] zdX3) (.cond (.t 14) (.seq (.reg [15] zdX4) .ret) .skip)) (.seq (.reg [16,17,18] zdX5) (.seq (.reg [5,19,20,21,22,23,24] zdX6) (.seq (.seq (.reg [25,26] zdX7) (.cond (.t 27) (.seq (.reg [] zdX8) .ret) .skip)) (.seq (.block 0 (.loop (.seq (.seq (.reg [28] zdX9) (.cond (.t 29) .skip (.exit 0))) (.block 1 (.seq (.reg [30,31] zdY0) (.seq (.reg [32,33,34,35,36,37,38] zdY1) (.seq (.reg [39,40,41] zce5) (.seq (.regm [42,43,44,45,46,47,48,49,50] [[],[0],[1,0],[],[3],[],[5],[4,6,6,3,5,5],[2,7,1,0,4,6,6,3,5,5],[],[9,8,7,0,1,2,3,4,5,6,7,8,9,2,7,1,0,4,6,6,3,5,5,4,6,6,3,5,5,0,1,0,3,5,4,6,6,3,5,5,2,7,1,0,4,6,6,3,5,5]] zce6) (.seq (.reg [] zce7) (.seq (.reg [] zce8) (.seq (.seq (.reg [] zce9) (.block 2 (.seq (.reg [63] zcf0) (.cond (.t 62) (.reg [64,65,66,67,68,69,70,71,72] zcf1) (.seq (.reg [74] zcf2) (.cond (.t 73) (.reg [75,76,77,78,79,80,81,82] zcf3) (.regm [52,53,54,55,56,57,58,59,60,61] [[],[],[],[],[3],[0,1,2,4,4,3,3],[5,0,1,2,4,4,3,3],[6,5,0,1,2,4,4,3,3],[6,5,0,1,2,4,4,3,3],[6,5,0,1,2,4,4,3,3],[7,5,0,1,2,3,4,5,6,7,6,5,0,1,2,4,4,3,3,0,1,2,4,4,3,3,3,0,1,2,4,4,3,3,5,0,1,2,4,4,3,3,6,5,0,1,2,4,4,3,3],[9,10,0,1,2,3,4,5,6,7,8,9,10,6,5,0,1,2,4,4,3,3,7,5,0,1,2,3,4,5,6,7,6,5,0,1,2,4,4,3,3,0,1,2,4,4,3,3,3,0,1,2,4,4,3,3,5,0,1,2,4,4,3,3,6,5,0,1,2,4,4,3,3,3,0,1,2,4,4,3,3,5,0,1,2,4,4,3,3,6,5,0,1,2,4,4,3,3,6,5,0,1,2,4,4,3,3,6,5,0,1,2,4,4,3,3,7,5,0,1,2,3,4,5,6,7,6,5,0,1,2,4,4,3,3,0,1,2,4,4,3,3,3,0,1,2,4,4,3,3,5,0,1,2,4,4,3,3,6,5,0,1,2,4,4,3,3]] zcf4))))))) (.seq (.seq (.reg [83] zcf5) (.cond (.t 84) (.reg [85] zcf6) .skip)) (.seq (.reg [86,87,88,89,90,91,92] zcf7) (.cond (.t 93) (.seq (.reg [] zcf8) .ret) .skip)))))))))))))) (.seq (.reg [94,95,96,97,98,99,100] zcf9) .ret)))))))
theorem zeU6:chkF C.P 11 zdY2 101 [.t 2] 1=true:=by kernel_rfl
attribute [go_sem] zdX2 zdX3 zdX4 zdX5 zdX6 zdX7 zdX8 zdX9 zdY0 zdY1 zce5 zce6 zce7 zce8 zce9 zcf0 zcf1 zcf2 zcf3 zcf4 zcf5 zcf6 zcf7 zcf8 zcf9
noncomputable def zA0 (a0:List Int) (j1:(List Queue)):Option (Bool) :=
 (zk8).bind fun v4 =>
 ((if v4=true then zu7 a0 else some ([]))).bind fun v5 =>
 ((if v4=true then zu1 j1 v5 else some (false))).bind fun v6 =>
 some (v4&&v6)
@[go_sem] def zeo5 (a0:List Int) (j1:(List Queue)):St:=⟨[(0,.sl (a0.map (eI .i64))),(4,.sl (j1.map Queue.enc))],[],0⟩
noncomputable def zn7 (j2:(List Queue)×Int×Tape) (j3:(List Queue)):Option (((List Queue)×Tape)⊕(((List Queue))⊕(Bool))) :=
 (zl2 j3).bind fun v14 =>
 (if ((!v14)||(decide ((j3.length:Int)=0)))=true then
  some (.inr (.inr false))
 else
  some (.inl (j3,j2.2.2)))
@[go_sem] def zeo6 (a0:List Int) (j2:(List Queue)×Int×Tape) (j3:(List Queue)):St:=⟨[(0,.sl (a0.map (eI .i64))),(3,.ptr 0 0 0),(4,.sl (j3.map Queue.enc))],[(0,⟨false,2,(Tape.enc Tape.zero),[Tape.enc j2.2.2]⟩)],1⟩
noncomputable def zk1 (g1:(List Queue)×Tape) (j2:(List Queue)×Int×Tape):Option (((List Queue)×Tape)⊕(((List Queue))⊕(Bool))) :=
 (if (decide (j2.2.1=0))=true then
  zn7 j2 j2.1
 else
  zn7 j2 g1.1)
@[go_sem] def zeo7 (a0:List Int) (g1:(List Queue)×Tape) (j2:(List Queue)×Int×Tape):St:=⟨[(0,.sl (a0.map (eI .i64))),(3,.ptr 0 0 0),(4,.sl (g1.1.map Queue.enc)),(10,.sl (j2.1.map Queue.enc)),(11,.int .i64 j2.2.1)],[(0,⟨false,2,(Tape.enc Tape.zero),[Tape.enc j2.2.2]⟩)],1⟩
noncomputable def zs7  (g1:(List Queue)×Tape):Option (((List Queue)×Tape)⊕(((List Queue))⊕(Bool))) :=
 (zj0 g1.2).bind fun v7 =>
 (if v7.1=true then
  (zc2 8 v7.2).bind fun v8 =>
  (zc2 (g1.1.length:Int) v8.2).bind fun v9 =>
  gd (0≤v9.1∧v9.1 < (g1.1.length:Int)) <|
  (zc2 8 v9.2).bind fun v10 =>
  (zn9 v10.1).bind fun v11 =>
  (zc2 64 v10.2).bind fun v12 =>
  (zr0 ((g1.1.getD v9.1.toNat Queue.zero).resource) v12.1).bind fun v13 =>
  (if (decide (v8.1=0))=true then
   (zy8 g1.1 v11 ((⟨((g1.1.getD v9.1.toNat Queue.zero).resource).name,v13⟩:Atom).name)).bind fun v15 =>
   zk1 g1 (v15.1,v15.2.2,v12.2)
  else
   (if (decide (v8.1=1))=true then
    (zB6 g1.1 v11 (⟨((g1.1.getD v9.1.toNat Queue.zero).resource).name,v13⟩:Atom)).bind fun v16 =>
    zk1 g1 (v16.1,v16.2.2,v12.2)
   else
    (zc2 8 v12.2).bind fun v17 =>
    (zo5 g1.1 v11 (⟨((g1.1.getD v9.1.toNat Queue.zero).resource).name,v13⟩:Atom) v17.1).bind fun v18 =>
    zk1 g1 (v18.1,v18.2.2,v17.2)))
 else
  some (.inr (.inl g1.1)))
@[go_sem] def zeo8 (a0:List Int) (g1:(List Queue)×Tape):St:=⟨[(0,.sl (a0.map (eI .i64))),(3,.ptr 0 0 0),(4,.sl (g1.1.map Queue.enc))],[(0,⟨false,2,(Tape.enc Tape.zero),[Tape.enc g1.2]⟩)],1⟩
noncomputable def zz3 (a0:List Int):Option (Bool) :=
 (if (!(zF0 a0))=true then
  (zk8).bind fun v1 =>
  some v1
 else
  (zm6 ({ Tape.zero with l:=a0 })).bind fun v2 =>
  (zs3 v2.1).bind fun v3 =>
  (if (decide ((v3.1.length:Int)=0))=true then
   some false
  else
   (zb9 (zs7) (v3.1,v2.2)).bind (fun | .inl z=>zA0 a0 z | .inr z=>some z)))
theorem zas7 (a0:List Int) (r:Bool) (h:zz3 a0=some r):PFn C 11 [.sl (a0.map (eI .i64))] (.bool r):=by
 refine za8 zeU6 rfl fun E hG hN hK=>?_
 unfold zdY2
 unfold zz3 at h
 refine za0 (za1 hG ?_)
 refine za0 (za0 (za1 hG ?_))
 refine za6 (fun hg=>zaB9 a0) ?_
 refine za4 rfl hG h (fun _ h=>?_) (fun _ h=>?_)
 · refine za0 (za1 hG ?_)
   obtain ⟨v1,hv1,h⟩:=za2 h
   refine za6 (fun hg=>zM7  _ (hv1)) ?_
   refine za7 ?_
   exact zb0 h
 refine za5 ?_
 refine za0 (za1 hG ?_)
 refine za0 (za1 hG ?_)
 obtain ⟨v2,hv2,h⟩:=za2 h
 refine zk2 [(0,0)] [] [0] (zag0 ({ Tape.zero with l:=a0 }) _ hv2) rfl rfl ?_
 obtain ⟨v3,hv3,h⟩:=za2 h
 refine za6 (fun hg=>zaG2 v2.1 _ (hv3)) ?_
 refine za0 (za0 (za1 hG ?_))
 refine za4 rfl hG h (fun _ h=>?_) (fun _ h=>?_)
 · refine za0 (za1 hG ?_)
   refine za7 ?_
   exact zb0 h
 refine za5 ?_
 refine za0 ?_
 refine zb4 (zeo5 a0) (fun v=>zA0 a0 v=some r) ?_ ?_
 · intro j1 h
   unfold zA0 at h
   refine g_st ?_
   refine za0 (za1 hG ?_)
   obtain ⟨v4,hv4,h⟩:=za2 h
   refine za6 (fun hg=>zM7  _ (hv4)) ?_
   obtain ⟨v5,hv5,h⟩:=za2 h
   refine za6 (fun hg=>zaC0 a0 _ (zA6 hg hv5)) ?_
   obtain ⟨v6,hv6,h⟩:=za2 h
   refine za6 (fun hg=>zbh5 j1 v5 _ (zA6 hg hv6)) ?_
   refine za7 ?_
   exact zb0 h
 refine zd9 (zeo8 a0) hK [(0,0)] h (fun x_l1 h g1 y_l1 h_l1 hx_l1=>?_)
 unfold zs7 at h_l1
 refine g_st ?_
 refine za0 (za0 (za1 hG ?_))
 obtain ⟨v7,hv7,h_l1⟩:=za2 h_l1
 refine zk2 [(0,0)] [] [0] (zaa9 g1.2 _ hv7) rfl rfl ?_
 refine za4 rfl hG h_l1 (fun _ h_l1=>?_) (fun _ h_l1=>?_)
 · refine za5 ?_
   refine zb6 (za0 (za1 hG ?_))
   obtain ⟨v8,hv8,h_l1⟩:=za2 h_l1
   refine zk2 [(0,0)] [] [0] (zd8 8 v7.2 _ hv8) rfl rfl ?_
   refine za0 (za1 hG ?_)
   obtain ⟨v9,hv9,h_l1⟩:=za2 h_l1
   obtain ⟨hb1,h_l1⟩:=za3 h_l1
   refine zk2 [(0,0)] [] [0] (zd8 (g1.1.length:Int) v8.2 _ hv9) rfl rfl ?_
   refine za0 (za1 hG ?_)
   obtain ⟨v10,hv10,h_l1⟩:=za2 h_l1
   refine zk2 [(0,0)] [] [0] (zd8 8 v9.2 _ hv10) rfl rfl ?_
   obtain ⟨v11,hv11,h_l1⟩:=za2 h_l1
   refine za6 (fun hg=>zac9 v10.1 _ (hv11)) ?_
   refine za0 (zB2 zd2 hG ?_)
   obtain ⟨v12,hv12,h_l1⟩:=za2 h_l1
   refine zQ8 [(0,0)] [] [0] (zd8 64 v10.2 _ hv12) rfl rfl ?_
   obtain ⟨v13,hv13,h_l1⟩:=za2 h_l1
   refine zt8 (fun hg=>zag1 ((g1.1.getD v9.1.toNat Queue.zero).resource) v12.1 _ (hv13)) ?_
   refine za0 (za1 hG ?_)
   refine za0 (za1 hG ?_)
   refine za0 (za0 (za1 hG ?_))
   refine zb4 (zeo7 a0 g1) (fun v=>zk1 g1 v=some y_l1) ?_ ?_
   · intro j2 h_l1
     unfold zk1 at h_l1
     refine g_st ?_
     refine za0 (za0 (za1 hG ?_))
     refine zaV3 (zeo6 a0 j2) (fun v=>zn7 j2 v=some y_l1) rfl hG h_l1 ?_ (fun _ h_l1=>?_) (fun _ h_l1=>?_)
     · intro j3 h_l1
       unfold zn7 at h_l1
       refine g_st ?_
       refine za0 (za1 hG ?_)
       obtain ⟨v14,hv14,h_l1⟩:=za2 h_l1
       refine za6 (fun hg=>zU9 j3 _ (hv14)) ?_
       refine za4 rfl hG h_l1 (fun _ h_l1=>?_) (fun _ h_l1=>?_)
       · refine za0 (za1 hG ?_)
         refine za7 ?_
         obtain rfl:=Option.some.inj h_l1
         have hx:=hx_l1 _ rfl
         subst hx
         try dsimp only at h
         exact zb0 h
       refine za5 ?_
       exact zd1 hK [(0,0)] h_l1
     · refine za1 hG ?_
       exact zc5 hK [(0,0)] j2.1 (by exact h_l1)
     refine za5 ?_
     exact zc5 hK [(0,0)] g1.1 (by exact h_l1)
   refine za0 (za1 hG ?_)
   refine za4 rfl hG h_l1 (fun _ h_l1=>?_) (fun _ h_l1=>?_)
   · refine za1 hG ?_
     obtain ⟨v15,hv15,h_l1⟩:=za2 h_l1
     refine za6 (fun hg=>zaT3 g1.1 v11 ((⟨((g1.1.getD v9.1.toNat Queue.zero).resource).name,v13⟩:Atom).name) _ (hv15)) ?_
     exact zc5 hK [(0,0)] (v15.1,v15.2.2,v12.2) (by exact h_l1)
   refine za0 (za1 hG ?_)
   refine za4 rfl hG h_l1 (fun _ h_l1=>?_) (fun _ h_l1=>?_)
   · refine za1 hG ?_
     obtain ⟨v16,hv16,h_l1⟩:=za2 h_l1
     refine za6 (fun hg=>zbb8 g1.1 v11 (⟨((g1.1.getD v9.1.toNat Queue.zero).resource).name,v13⟩:Atom) _ (hv16)) ?_
     exact zc5 hK [(0,0)] (v16.1,v16.2.2,v12.2) (by exact h_l1)
   refine zB2 zd2 hG ?_
   obtain ⟨v17,hv17,h_l1⟩:=za2 h_l1
   refine zQ8 [(0,0)] [] [0] (zd8 8 v12.2 _ hv17) rfl rfl ?_
   obtain ⟨v18,hv18,h_l1⟩:=za2 h_l1
   refine zt8 (fun hg=>zaf1 g1.1 v11 (⟨((g1.1.getD v9.1.toNat Queue.zero).resource).name,v13⟩:Atom) v17.1 _ (hv18)) ?_
   exact zc5 hK [(0,0)] (v18.1,v18.2.2,v17.2) (by exact h_l1)
 refine zc7 ?_
 obtain rfl:=Option.some.inj h_l1
 have hx:=hx_l1 _ rfl
 subst hx
 try dsimp only at h
 exact zc5 hK [] g1.1 (by exact h)
attribute [local irreducible] zz3
end Ab
end Go.Proofs.YtfjeceicgfdmjaaGreatDoor
