import Derived.Test.YtamndckemppjdaaGreatDoorTpI
namespace Go.Proofs.YtamndckemppjdaaGreatDoor
namespace Ab
set_option linter.unusedSimpArgs false
set_option linter.unusedVariables false
set_option maxRecDepth 100000
noncomputable section
theorem zcS3(k:Nat->Int):zo4 (ers (endS true 2 k))=some (endW true 2):=by kernel_rfl
theorem zcA4:zl5 (endW true 2)=some ([],prs 2):=by kernel_rfl
theorem zcj3(k:Nat->Int):(List.range 2).map (λ j=>zp9 (endS true 2 k) (pr (ordA 2 j)))=(List.range 2).map λ j=>some (PP true 2 k j,true):=by kernel_rfl
theorem zcA5(k:Nat->Int):(List.range 2).map (λ j=>(zi6 (PP true 2 k j) 1 (-1),zi4 (PP true 2 k j).bH,zk7 (PP true 2 k j).aR,rvK (oo true 2 k j)))=(List.range 2).map λ j=>(some (oo true 2 k j),some true,some true,some true):=by kernel_rfl
theorem zcA6:(List.range 2).map (λ j=>(zj7 (pr (ordA 2 j)),ze2 (prs 2) (pr (ordA 2 j)),zk4 (prs 2) (pr (ordA 2 j))))=(List.range 2).map λ j=>(true,some true,some ((2^j:Nat):Int)):=by kernel_rfl
theorem zcS4:zk3 (endW true 2)=some true:=by kernel_rfl
theorem zcj4(k:Nat->Int):(List.range (2^2)).map (λ s=>zg8 (zr0 (opts true 2 k) ([],prs 2) (idx s)) (0,0))=(List.range (2^2)).map λ s=>some ((s:Nat):Int):=by kernel_rfl
theorem zcA7(k:Nat->Int):(zj8 (2:Nat)).bind zq8=some (bS 2 0 k,0):=by kernel_rfl
theorem zcA8(k:Nat->Int):runK (zR3 2 k) (bS 2 0 k)=some (bS 2 2 k,grow 2 k):=by kernel_rfl
theorem zcS5:zg8 (zy3 ((2:Nat):Int)) (0,asks 2 5 id)=some (asks 2 5 id++asks 2 5 λ i=>(i+1)% 2):=by kernel_rfl
theorem zcS6(k:Nat->Int):runK ((asks 2 5 id++asks 2 5 λ i=>(i+1)% 2).take (2*2-1)) (bS 2 2 k)=some (zG6 2 false k,same (2*2-1) 2 k):=by kernel_rfl
theorem zcS7(k:Nat->Int):runK ((asks 2 5 id++asks 2 5 λ i=>(i+1)% 2).drop (2*2-1)) (zG6 2 false k)=some (zG6 2 true k,same 1 2 k):=by kernel_rfl
theorem zcS8(k:Nat->Int):zu7 (ers (zG6 2 false k))=some []:=by kernel_rfl
theorem zcA9:(zv8 (endW true 2) (pr 0)).map (λ r=>((r.1.length:Int),r.2))=some (((2:Nat):Int),0):=by kernel_rfl
theorem zcS9:zo9 (endW true 2) (prs 2) 0=some false:=by kernel_rfl
theorem zcT0:zo9 (endW true 2) (prs 2) 1=some true:=by kernel_rfl
theorem zcT1:zo9 (endW true 2) (prs 2) 2=some true:=by kernel_rfl
theorem zcT2:zc4 (endW true 2) (opts true 2 λ _=>1) (idx 1)=some true:=by kernel_rfl
theorem zcT3:zc4 (endW true 2) (opts true 2 λ _=>1) (idx 2)=some true:=by kernel_rfl
theorem r2_F:Facts true 2 where
 of:=zcS3
 red:=zcA4
 find:=zcj3
 opt:=zcA5
 prc:=zcA6
 wv:=zcS4
 mask:=zcj4
 hope:=λ s hs hg=>by
  rcases zaT2 s (cR hs (by decide)) hg with rfl|⟨p,rfl⟩
  .exact zcS9
  .have hp:p<2:=(dE (by decide)).1 hs
   match p,hp with
   |0,_=>exact zcT0
   |1,_=>exact zcT1
 solv:=λ s hs hg=>by
  obtain⟨p,rfl⟩:=zaM2 s (cR hs (by decide)) hg;have hp:p<2:=(dE (by decide)).1 hs
  match p,hp with
  |0,_=>exact zcT2
  |1,_=>exact zcT3
theorem r2_R:RingF 2 where
 lck:=zcA7
 opn:=zcA8
 l1:=zcS5
 ra:=zcS6
 rb:=zcS7
 s0:=zcS8
 cor:=zcA9
end
noncomputable section
theorem zcT4(k:Nat->Int):zo4 (ers (endS true 3 k))=some (endW true 3):=by kernel_rfl
theorem zcB0:zl5 (endW true 3)=some ([],prs 3):=by kernel_rfl
theorem zcj5(k:Nat->Int):(List.range 3).map (λ j=>zp9 (endS true 3 k) (pr (ordA 3 j)))=(List.range 3).map λ j=>some (PP true 3 k j,true):=by kernel_rfl
theorem zcB1(k:Nat->Int):(List.range 3).map (λ j=>(zi6 (PP true 3 k j) 1 (-1),zi4 (PP true 3 k j).bH,zk7 (PP true 3 k j).aR,rvK (oo true 3 k j)))=(List.range 3).map λ j=>(some (oo true 3 k j),some true,some true,some true):=by kernel_rfl
theorem zcB2:(List.range 3).map (λ j=>(zj7 (pr (ordA 3 j)),ze2 (prs 3) (pr (ordA 3 j)),zk4 (prs 3) (pr (ordA 3 j))))=(List.range 3).map λ j=>(true,some true,some ((2^j:Nat):Int)):=by kernel_rfl
theorem zcT5:zk3 (endW true 3)=some true:=by kernel_rfl
theorem zcj6(k:Nat->Int):(List.range (2^3)).map (λ s=>zg8 (zr0 (opts true 3 k) ([],prs 3) (idx s)) (0,0))=(List.range (2^3)).map λ s=>some ((s:Nat):Int):=by kernel_rfl
theorem zcB3(k:Nat->Int):(zj8 (3:Nat)).bind zq8=some (bS 3 0 k,0):=by kernel_rfl
theorem zcB4(k:Nat->Int):runK (zR3 3 k) (bS 3 0 k)=some (bS 3 3 k,grow 3 k):=by kernel_rfl
theorem zcT6:zg8 (zy3 ((3:Nat):Int)) (0,asks 3 5 id)=some (asks 3 5 id++asks 3 5 λ i=>(i+1)% 3):=by kernel_rfl
theorem zcT7(k:Nat->Int):runK ((asks 3 5 id++asks 3 5 λ i=>(i+1)% 3).take (2*3-1)) (bS 3 3 k)=some (zG6 3 false k,same (2*3-1) 3 k):=by kernel_rfl
theorem zcT8(k:Nat->Int):runK ((asks 3 5 id++asks 3 5 λ i=>(i+1)% 3).drop (2*3-1)) (zG6 3 false k)=some (zG6 3 true k,same 1 3 k):=by kernel_rfl
theorem zcT9(k:Nat->Int):zu7 (ers (zG6 3 false k))=some []:=by kernel_rfl
theorem zcB5:(zv8 (endW true 3) (pr 0)).map (λ r=>((r.1.length:Int),r.2))=some (((3:Nat):Int),0):=by kernel_rfl
theorem zcU0:zo9 (endW true 3) (prs 3) 0=some false:=by kernel_rfl
theorem zcU1:zo9 (endW true 3) (prs 3) 1=some true:=by kernel_rfl
theorem zcU2:zo9 (endW true 3) (prs 3) 2=some true:=by kernel_rfl
theorem zcU3:zo9 (endW true 3) (prs 3) 4=some true:=by kernel_rfl
theorem zcU4:zc4 (endW true 3) (opts true 3 λ _=>1) (idx 1)=some true:=by kernel_rfl
theorem zcU5:zc4 (endW true 3) (opts true 3 λ _=>1) (idx 2)=some true:=by kernel_rfl
theorem zcU6:zc4 (endW true 3) (opts true 3 λ _=>1) (idx 4)=some true:=by kernel_rfl
theorem r3_F:Facts true 3 where
 of:=zcT4
 red:=zcB0
 find:=zcj5
 opt:=zcB1
 prc:=zcB2
 wv:=zcT5
 mask:=zcj6
 hope:=λ s hs hg=>by
  rcases zaT2 s (cR hs (by decide)) hg with rfl|⟨p,rfl⟩
  .exact zcU0
  .have hp:p<3:=(dE (by decide)).1 hs
   match p,hp with
   |0,_=>exact zcU1
   |1,_=>exact zcU2
   |2,_=>exact zcU3
 solv:=λ s hs hg=>by
  obtain⟨p,rfl⟩:=zaM2 s (cR hs (by decide)) hg;have hp:p<3:=(dE (by decide)).1 hs
  match p,hp with
  |0,_=>exact zcU4
  |1,_=>exact zcU5
  |2,_=>exact zcU6
theorem r3_R:RingF 3 where
 lck:=zcB3
 opn:=zcB4
 l1:=zcT6
 ra:=zcT7
 rb:=zcT8
 s0:=zcT9
 cor:=zcB5
end
noncomputable section
theorem zcU7(k:Nat->Int):zo4 (ers (endS true 4 k))=some (endW true 4):=by kernel_rfl
theorem zcB6:zl5 (endW true 4)=some ([],prs 4):=by kernel_rfl
theorem zcj7(k:Nat->Int):(List.range 4).map (λ j=>zp9 (endS true 4 k) (pr (ordA 4 j)))=(List.range 4).map λ j=>some (PP true 4 k j,true):=by kernel_rfl
theorem zcB7(k:Nat->Int):(List.range 4).map (λ j=>(zi6 (PP true 4 k j) 1 (-1),zi4 (PP true 4 k j).bH,zk7 (PP true 4 k j).aR,rvK (oo true 4 k j)))=(List.range 4).map λ j=>(some (oo true 4 k j),some true,some true,some true):=by kernel_rfl
theorem zcB8:(List.range 4).map (λ j=>(zj7 (pr (ordA 4 j)),ze2 (prs 4) (pr (ordA 4 j)),zk4 (prs 4) (pr (ordA 4 j))))=(List.range 4).map λ j=>(true,some true,some ((2^j:Nat):Int)):=by kernel_rfl
theorem zcU8:zk3 (endW true 4)=some true:=by kernel_rfl
theorem zcj8(k:Nat->Int):(List.range (2^4)).map (λ s=>zg8 (zr0 (opts true 4 k) ([],prs 4) (idx s)) (0,0))=(List.range (2^4)).map λ s=>some ((s:Nat):Int):=by kernel_rfl
theorem zcB9(k:Nat->Int):(zj8 (4:Nat)).bind zq8=some (bS 4 0 k,0):=by kernel_rfl
theorem zcC0(k:Nat->Int):runK (zR3 4 k) (bS 4 0 k)=some (bS 4 4 k,grow 4 k):=by kernel_rfl
theorem zcU9:zg8 (zy3 ((4:Nat):Int)) (0,asks 4 5 id)=some (asks 4 5 id++asks 4 5 λ i=>(i+1)% 4):=by kernel_rfl
theorem zcV0(k:Nat->Int):runK ((asks 4 5 id++asks 4 5 λ i=>(i+1)% 4).take (2*4-1)) (bS 4 4 k)=some (zG6 4 false k,same (2*4-1) 4 k):=by kernel_rfl
theorem zcV1(k:Nat->Int):runK ((asks 4 5 id++asks 4 5 λ i=>(i+1)% 4).drop (2*4-1)) (zG6 4 false k)=some (zG6 4 true k,same 1 4 k):=by kernel_rfl
theorem zcV2(k:Nat->Int):zu7 (ers (zG6 4 false k))=some []:=by kernel_rfl
theorem zcC1:(zv8 (endW true 4) (pr 0)).map (λ r=>((r.1.length:Int),r.2))=some (((4:Nat):Int),0):=by kernel_rfl
theorem zcV3:zo9 (endW true 4) (prs 4) 0=some false:=by kernel_rfl
theorem zcV4:zo9 (endW true 4) (prs 4) 1=some true:=by kernel_rfl
theorem zcV5:zo9 (endW true 4) (prs 4) 2=some true:=by kernel_rfl
theorem zcV6:zo9 (endW true 4) (prs 4) 4=some true:=by kernel_rfl
theorem zcV7:zo9 (endW true 4) (prs 4) 8=some true:=by kernel_rfl
theorem zcV8:zc4 (endW true 4) (opts true 4 λ _=>1) (idx 1)=some true:=by kernel_rfl
theorem zcV9:zc4 (endW true 4) (opts true 4 λ _=>1) (idx 2)=some true:=by kernel_rfl
theorem zcW0:zc4 (endW true 4) (opts true 4 λ _=>1) (idx 4)=some true:=by kernel_rfl
theorem zcW1:zc4 (endW true 4) (opts true 4 λ _=>1) (idx 8)=some true:=by kernel_rfl
theorem r4_F:Facts true 4 where
 of:=zcU7
 red:=zcB6
 find:=zcj7
 opt:=zcB7
 prc:=zcB8
 wv:=zcU8
 mask:=zcj8
 hope:=λ s hs hg=>by
  rcases zaT2 s (cR hs (by decide)) hg with rfl|⟨p,rfl⟩
  .exact zcV3
  .have hp:p<4:=(dE (by decide)).1 hs
   match p,hp with
   |0,_=>exact zcV4
   |1,_=>exact zcV5
   |2,_=>exact zcV6
   |3,_=>exact zcV7
 solv:=λ s hs hg=>by
  obtain⟨p,rfl⟩:=zaM2 s (cR hs (by decide)) hg;have hp:p<4:=(dE (by decide)).1 hs
  match p,hp with
  |0,_=>exact zcV8
  |1,_=>exact zcV9
  |2,_=>exact zcW0
  |3,_=>exact zcW1
theorem r4_R:RingF 4 where
 lck:=zcB9
 opn:=zcC0
 l1:=zcU9
 ra:=zcV0
 rb:=zcV1
 s0:=zcV2
 cor:=zcC1
end
noncomputable section
theorem zcW2(k:Nat->Int):zo4 (ers (endS true 5 k))=some (endW true 5):=by kernel_rfl
theorem zcC2:zl5 (endW true 5)=some ([],prs 5):=by kernel_rfl
theorem zcj9(k:Nat->Int):(List.range 5).map (λ j=>zp9 (endS true 5 k) (pr (ordA 5 j)))=(List.range 5).map λ j=>some (PP true 5 k j,true):=by kernel_rfl
theorem zcC3(k:Nat->Int):(List.range 5).map (λ j=>(zi6 (PP true 5 k j) 1 (-1),zi4 (PP true 5 k j).bH,zk7 (PP true 5 k j).aR,rvK (oo true 5 k j)))=(List.range 5).map λ j=>(some (oo true 5 k j),some true,some true,some true):=by kernel_rfl
theorem zcC4:(List.range 5).map (λ j=>(zj7 (pr (ordA 5 j)),ze2 (prs 5) (pr (ordA 5 j)),zk4 (prs 5) (pr (ordA 5 j))))=(List.range 5).map λ j=>(true,some true,some ((2^j:Nat):Int)):=by kernel_rfl
theorem zcW3:zk3 (endW true 5)=some true:=by kernel_rfl
theorem zck0(k:Nat->Int):(List.range (2^5)).map (λ s=>zg8 (zr0 (opts true 5 k) ([],prs 5) (idx s)) (0,0))=(List.range (2^5)).map λ s=>some ((s:Nat):Int):=by kernel_rfl
theorem zcC5(k:Nat->Int):(zj8 (5:Nat)).bind zq8=some (bS 5 0 k,0):=by kernel_rfl
theorem zcC6(k:Nat->Int):runK (zR3 5 k) (bS 5 0 k)=some (bS 5 5 k,grow 5 k):=by kernel_rfl
theorem zcW4:zg8 (zy3 ((5:Nat):Int)) (0,asks 5 5 id)=some (asks 5 5 id++asks 5 5 λ i=>(i+1)% 5):=by kernel_rfl
theorem zcW5(k:Nat->Int):runK ((asks 5 5 id++asks 5 5 λ i=>(i+1)% 5).take (2*5-1)) (bS 5 5 k)=some (zG6 5 false k,same (2*5-1) 5 k):=by kernel_rfl
theorem zcW6(k:Nat->Int):runK ((asks 5 5 id++asks 5 5 λ i=>(i+1)% 5).drop (2*5-1)) (zG6 5 false k)=some (zG6 5 true k,same 1 5 k):=by kernel_rfl
theorem zcW7(k:Nat->Int):zu7 (ers (zG6 5 false k))=some []:=by kernel_rfl
theorem zcC7:(zv8 (endW true 5) (pr 0)).map (λ r=>((r.1.length:Int),r.2))=some (((5:Nat):Int),0):=by kernel_rfl
theorem zcW8:zo9 (endW true 5) (prs 5) 0=some false:=by kernel_rfl
theorem zcW9:zo9 (endW true 5) (prs 5) 1=some true:=by kernel_rfl
theorem zcX0:zo9 (endW true 5) (prs 5) 2=some true:=by kernel_rfl
theorem zcX1:zo9 (endW true 5) (prs 5) 4=some true:=by kernel_rfl
theorem zcX2:zo9 (endW true 5) (prs 5) 8=some true:=by kernel_rfl
theorem zcC8:zo9 (endW true 5) (prs 5) 16=some true:=by kernel_rfl
theorem zcX3:zc4 (endW true 5) (opts true 5 λ _=>1) (idx 1)=some true:=by kernel_rfl
theorem zcX4:zc4 (endW true 5) (opts true 5 λ _=>1) (idx 2)=some true:=by kernel_rfl
theorem zcX5:zc4 (endW true 5) (opts true 5 λ _=>1) (idx 4)=some true:=by kernel_rfl
theorem zcX6:zc4 (endW true 5) (opts true 5 λ _=>1) (idx 8)=some true:=by kernel_rfl
theorem zcX7:zc4 (endW true 5) (opts true 5 λ _=>1) (idx 16)=some true:=by kernel_rfl
theorem r5_F:Facts true 5 where
 of:=zcW2
 red:=zcC2
 find:=zcj9
 opt:=zcC3
 prc:=zcC4
 wv:=zcW3
 mask:=zck0
 hope:=λ s hs hg=>by
  rcases zaT2 s (cR hs (by decide)) hg with rfl|⟨p,rfl⟩
  .exact zcW8
  .have hp:p<5:=(dE (by decide)).1 hs
   match p,hp with
   |0,_=>exact zcW9
   |1,_=>exact zcX0
   |2,_=>exact zcX1
   |3,_=>exact zcX2
   |4,_=>exact zcC8
 solv:=λ s hs hg=>by
  obtain⟨p,rfl⟩:=zaM2 s (cR hs (by decide)) hg;have hp:p<5:=(dE (by decide)).1 hs
  match p,hp with
  |0,_=>exact zcX3
  |1,_=>exact zcX4
  |2,_=>exact zcX5
  |3,_=>exact zcX6
  |4,_=>exact zcX7
theorem r5_R:RingF 5 where
 lck:=zcC5
 opn:=zcC6
 l1:=zcW4
 ra:=zcW5
 rb:=zcW6
 s0:=zcW7
 cor:=zcC7
end
noncomputable section
theorem zcX8(k:Nat->Int):zo4 (ers (endS true 6 k))=some (endW true 6):=by kernel_rfl
theorem zcC9:zl5 (endW true 6)=some ([],prs 6):=by kernel_rfl
theorem zck1(k:Nat->Int):(List.range 6).map (λ j=>zp9 (endS true 6 k) (pr (ordA 6 j)))=(List.range 6).map λ j=>some (PP true 6 k j,true):=by kernel_rfl
theorem zcD0(k:Nat->Int):(List.range 6).map (λ j=>(zi6 (PP true 6 k j) 1 (-1),zi4 (PP true 6 k j).bH,zk7 (PP true 6 k j).aR,rvK (oo true 6 k j)))=(List.range 6).map λ j=>(some (oo true 6 k j),some true,some true,some true):=by kernel_rfl
theorem zcD1:(List.range 6).map (λ j=>(zj7 (pr (ordA 6 j)),ze2 (prs 6) (pr (ordA 6 j)),zk4 (prs 6) (pr (ordA 6 j))))=(List.range 6).map λ j=>(true,some true,some ((2^j:Nat):Int)):=by kernel_rfl
theorem zcX9:zk3 (endW true 6)=some true:=by kernel_rfl
theorem zck2(k:Nat->Int):(List.range (2^6)).map (λ s=>zg8 (zr0 (opts true 6 k) ([],prs 6) (idx s)) (0,0))=(List.range (2^6)).map λ s=>some ((s:Nat):Int):=by kernel_rfl
theorem zcD2(k:Nat->Int):(zj8 (6:Nat)).bind zq8=some (bS 6 0 k,0):=by kernel_rfl
theorem zcD3(k:Nat->Int):runK (zR3 6 k) (bS 6 0 k)=some (bS 6 6 k,grow 6 k):=by kernel_rfl
theorem zcY0:zg8 (zy3 ((6:Nat):Int)) (0,asks 6 5 id)=some (asks 6 5 id++asks 6 5 λ i=>(i+1)% 6):=by kernel_rfl
theorem zcY1(k:Nat->Int):runK ((asks 6 5 id++asks 6 5 λ i=>(i+1)% 6).take (2*6-1)) (bS 6 6 k)=some (zG6 6 false k,same (2*6-1) 6 k):=by kernel_rfl
theorem zcY2(k:Nat->Int):runK ((asks 6 5 id++asks 6 5 λ i=>(i+1)% 6).drop (2*6-1)) (zG6 6 false k)=some (zG6 6 true k,same 1 6 k):=by kernel_rfl
theorem zcY3(k:Nat->Int):zu7 (ers (zG6 6 false k))=some []:=by kernel_rfl
theorem zcD4:(zv8 (endW true 6) (pr 0)).map (λ r=>((r.1.length:Int),r.2))=some (((6:Nat):Int),0):=by kernel_rfl
theorem zcY4:zo9 (endW true 6) (prs 6) 0=some false:=by kernel_rfl
theorem zcY5:zo9 (endW true 6) (prs 6) 1=some true:=by kernel_rfl
theorem zcY6:zo9 (endW true 6) (prs 6) 2=some true:=by kernel_rfl
theorem zcY7:zo9 (endW true 6) (prs 6) 4=some true:=by kernel_rfl
theorem zcY8:zo9 (endW true 6) (prs 6) 8=some true:=by kernel_rfl
theorem zcD5:zo9 (endW true 6) (prs 6) 16=some true:=by kernel_rfl
theorem zcD6:zo9 (endW true 6) (prs 6) 32=some true:=by kernel_rfl
theorem zcY9:zc4 (endW true 6) (opts true 6 λ _=>1) (idx 1)=some true:=by kernel_rfl
theorem zcZ0:zc4 (endW true 6) (opts true 6 λ _=>1) (idx 2)=some true:=by kernel_rfl
theorem zcZ1:zc4 (endW true 6) (opts true 6 λ _=>1) (idx 4)=some true:=by kernel_rfl
theorem zcZ2:zc4 (endW true 6) (opts true 6 λ _=>1) (idx 8)=some true:=by kernel_rfl
theorem zcZ3:zc4 (endW true 6) (opts true 6 λ _=>1) (idx 16)=some true:=by kernel_rfl
theorem zcZ4:zc4 (endW true 6) (opts true 6 λ _=>1) (idx 32)=some true:=by kernel_rfl
theorem r6_F:Facts true 6 where
 of:=zcX8
 red:=zcC9
 find:=zck1
 opt:=zcD0
 prc:=zcD1
 wv:=zcX9
 mask:=zck2
 hope:=λ s hs hg=>by
  rcases zaT2 s (cR hs (by decide)) hg with rfl|⟨p,rfl⟩
  .exact zcY4
  .have hp:p<6:=(dE (by decide)).1 hs
   match p,hp with
   |0,_=>exact zcY5
   |1,_=>exact zcY6
   |2,_=>exact zcY7
   |3,_=>exact zcY8
   |4,_=>exact zcD5
   |5,_=>exact zcD6
 solv:=λ s hs hg=>by
  obtain⟨p,rfl⟩:=zaM2 s (cR hs (by decide)) hg;have hp:p<6:=(dE (by decide)).1 hs
  match p,hp with
  |0,_=>exact zcY9
  |1,_=>exact zcZ0
  |2,_=>exact zcZ1
  |3,_=>exact zcZ2
  |4,_=>exact zcZ3
  |5,_=>exact zcZ4
theorem r6_R:RingF 6 where
 lck:=zcD2
 opn:=zcD3
 l1:=zcY0
 ra:=zcY1
 rb:=zcY2
 s0:=zcY3
 cor:=zcD4
end
noncomputable section
theorem zcZ5(k:Nat->Int):zo4 (ers (endS true 7 k))=some (endW true 7):=by kernel_rfl
theorem zcD7:zl5 (endW true 7)=some ([],prs 7):=by kernel_rfl
theorem zck3(k:Nat->Int):(List.range 7).map (λ j=>zp9 (endS true 7 k) (pr (ordA 7 j)))=(List.range 7).map λ j=>some (PP true 7 k j,true):=by kernel_rfl
theorem zcD8(k:Nat->Int):(List.range 7).map (λ j=>(zi6 (PP true 7 k j) 1 (-1),zi4 (PP true 7 k j).bH,zk7 (PP true 7 k j).aR,rvK (oo true 7 k j)))=(List.range 7).map λ j=>(some (oo true 7 k j),some true,some true,some true):=by kernel_rfl
theorem zcD9:(List.range 7).map (λ j=>(zj7 (pr (ordA 7 j)),ze2 (prs 7) (pr (ordA 7 j)),zk4 (prs 7) (pr (ordA 7 j))))=(List.range 7).map λ j=>(true,some true,some ((2^j:Nat):Int)):=by kernel_rfl
theorem zcZ6:zk3 (endW true 7)=some true:=by kernel_rfl
theorem zck4(k:Nat->Int):(List.range (2^7)).map (λ s=>zg8 (zr0 (opts true 7 k) ([],prs 7) (idx s)) (0,0))=(List.range (2^7)).map λ s=>some ((s:Nat):Int):=by kernel_rfl
theorem zcE0(k:Nat->Int):(zj8 (7:Nat)).bind zq8=some (bS 7 0 k,0):=by kernel_rfl
theorem zcE1(k:Nat->Int):runK (zR3 7 k) (bS 7 0 k)=some (bS 7 7 k,grow 7 k):=by kernel_rfl
theorem zcZ7:zg8 (zy3 ((7:Nat):Int)) (0,asks 7 5 id)=some (asks 7 5 id++asks 7 5 λ i=>(i+1)% 7):=by kernel_rfl
theorem zcZ8(k:Nat->Int):runK ((asks 7 5 id++asks 7 5 λ i=>(i+1)% 7).take (2*7-1)) (bS 7 7 k)=some (zG6 7 false k,same (2*7-1) 7 k):=by kernel_rfl
theorem zcZ9(k:Nat->Int):runK ((asks 7 5 id++asks 7 5 λ i=>(i+1)% 7).drop (2*7-1)) (zG6 7 false k)=some (zG6 7 true k,same 1 7 k):=by kernel_rfl
theorem zda0(k:Nat->Int):zu7 (ers (zG6 7 false k))=some []:=by kernel_rfl
theorem zcE2:(zv8 (endW true 7) (pr 0)).map (λ r=>((r.1.length:Int),r.2))=some (((7:Nat):Int),0):=by kernel_rfl
theorem zda1:zo9 (endW true 7) (prs 7) 0=some false:=by kernel_rfl
theorem zda2:zo9 (endW true 7) (prs 7) 1=some true:=by kernel_rfl
theorem zda3:zo9 (endW true 7) (prs 7) 2=some true:=by kernel_rfl
theorem zda4:zo9 (endW true 7) (prs 7) 4=some true:=by kernel_rfl
theorem zda5:zo9 (endW true 7) (prs 7) 8=some true:=by kernel_rfl
theorem zcE3:zo9 (endW true 7) (prs 7) 16=some true:=by kernel_rfl
theorem zcE4:zo9 (endW true 7) (prs 7) 32=some true:=by kernel_rfl
theorem zcE5:zo9 (endW true 7) (prs 7) 64=some true:=by kernel_rfl
theorem zda6:zc4 (endW true 7) (opts true 7 λ _=>1) (idx 1)=some true:=by kernel_rfl
theorem zda7:zc4 (endW true 7) (opts true 7 λ _=>1) (idx 2)=some true:=by kernel_rfl
theorem zda8:zc4 (endW true 7) (opts true 7 λ _=>1) (idx 4)=some true:=by kernel_rfl
theorem zda9:zc4 (endW true 7) (opts true 7 λ _=>1) (idx 8)=some true:=by kernel_rfl
theorem zdb0:zc4 (endW true 7) (opts true 7 λ _=>1) (idx 16)=some true:=by kernel_rfl
theorem zdb1:zc4 (endW true 7) (opts true 7 λ _=>1) (idx 32)=some true:=by kernel_rfl
theorem zdb2:zc4 (endW true 7) (opts true 7 λ _=>1) (idx 64)=some true:=by kernel_rfl
theorem r7_F:Facts true 7 where
 of:=zcZ5
 red:=zcD7
 find:=zck3
 opt:=zcD8
 prc:=zcD9
 wv:=zcZ6
 mask:=zck4
 hope:=λ s hs hg=>by
  rcases zaT2 s (cR hs (by decide)) hg with rfl|⟨p,rfl⟩
  .exact zda1
  .have hp:p<7:=(dE (by decide)).1 hs
   match p,hp with
   |0,_=>exact zda2
   |1,_=>exact zda3
   |2,_=>exact zda4
   |3,_=>exact zda5
   |4,_=>exact zcE3
   |5,_=>exact zcE4
   |6,_=>exact zcE5
 solv:=λ s hs hg=>by
  obtain⟨p,rfl⟩:=zaM2 s (cR hs (by decide)) hg;have hp:p<7:=(dE (by decide)).1 hs
  match p,hp with
  |0,_=>exact zda6
  |1,_=>exact zda7
  |2,_=>exact zda8
  |3,_=>exact zda9
  |4,_=>exact zdb0
  |5,_=>exact zdb1
  |6,_=>exact zdb2
theorem r7_R:RingF 7 where
 lck:=zcE0
 opn:=zcE1
 l1:=zcZ7
 ra:=zcZ8
 rb:=zcZ9
 s0:=zda0
 cor:=zcE2
end
noncomputable section
theorem zdb3(k:Nat->Int):zo4 (ers (endS true 8 k))=some (endW true 8):=by kernel_rfl
theorem zcE6:zl5 (endW true 8)=some ([],prs 8):=by kernel_rfl
theorem zck5(k:Nat->Int):(List.range 8).map (λ j=>zp9 (endS true 8 k) (pr (ordA 8 j)))=(List.range 8).map λ j=>some (PP true 8 k j,true):=by kernel_rfl
theorem zcE7(k:Nat->Int):(List.range 8).map (λ j=>(zi6 (PP true 8 k j) 1 (-1),zi4 (PP true 8 k j).bH,zk7 (PP true 8 k j).aR,rvK (oo true 8 k j)))=(List.range 8).map λ j=>(some (oo true 8 k j),some true,some true,some true):=by kernel_rfl
theorem zcE8:(List.range 8).map (λ j=>(zj7 (pr (ordA 8 j)),ze2 (prs 8) (pr (ordA 8 j)),zk4 (prs 8) (pr (ordA 8 j))))=(List.range 8).map λ j=>(true,some true,some ((2^j:Nat):Int)):=by kernel_rfl
theorem zdb4:zk3 (endW true 8)=some true:=by kernel_rfl
theorem zck6(k:Nat->Int):(List.range (2^8)).map (λ s=>zg8 (zr0 (opts true 8 k) ([],prs 8) (idx s)) (0,0))=(List.range (2^8)).map λ s=>some ((s:Nat):Int):=by kernel_rfl
theorem zcE9(k:Nat->Int):(zj8 (8:Nat)).bind zq8=some (bS 8 0 k,0):=by kernel_rfl
theorem zcF0(k:Nat->Int):runK (zR3 8 k) (bS 8 0 k)=some (bS 8 8 k,grow 8 k):=by kernel_rfl
theorem zdb5:zg8 (zy3 ((8:Nat):Int)) (0,asks 8 5 id)=some (asks 8 5 id++asks 8 5 λ i=>(i+1)% 8):=by kernel_rfl
theorem zdb6(k:Nat->Int):runK ((asks 8 5 id++asks 8 5 λ i=>(i+1)% 8).take (2*8-1)) (bS 8 8 k)=some (zG6 8 false k,same (2*8-1) 8 k):=by kernel_rfl
theorem zdb7(k:Nat->Int):runK ((asks 8 5 id++asks 8 5 λ i=>(i+1)% 8).drop (2*8-1)) (zG6 8 false k)=some (zG6 8 true k,same 1 8 k):=by kernel_rfl
theorem zdb8(k:Nat->Int):zu7 (ers (zG6 8 false k))=some []:=by kernel_rfl
theorem zcF1:(zv8 (endW true 8) (pr 0)).map (λ r=>((r.1.length:Int),r.2))=some (((8:Nat):Int),0):=by kernel_rfl
theorem zdb9:zo9 (endW true 8) (prs 8) 0=some false:=by kernel_rfl
theorem zdc0:zo9 (endW true 8) (prs 8) 1=some true:=by kernel_rfl
theorem zdc1:zo9 (endW true 8) (prs 8) 2=some true:=by kernel_rfl
theorem zdc2:zo9 (endW true 8) (prs 8) 4=some true:=by kernel_rfl
theorem zdc3:zo9 (endW true 8) (prs 8) 8=some true:=by kernel_rfl
theorem zcF2:zo9 (endW true 8) (prs 8) 16=some true:=by kernel_rfl
theorem zcF3:zo9 (endW true 8) (prs 8) 32=some true:=by kernel_rfl
theorem zcF4:zo9 (endW true 8) (prs 8) 64=some true:=by kernel_rfl
theorem zck7:zo9 (endW true 8) (prs 8) 128=some true:=by kernel_rfl
theorem zdc4:zc4 (endW true 8) (opts true 8 λ _=>1) (idx 1)=some true:=by kernel_rfl
theorem zdc5:zc4 (endW true 8) (opts true 8 λ _=>1) (idx 2)=some true:=by kernel_rfl
theorem zdc6:zc4 (endW true 8) (opts true 8 λ _=>1) (idx 4)=some true:=by kernel_rfl
theorem zdc7:zc4 (endW true 8) (opts true 8 λ _=>1) (idx 8)=some true:=by kernel_rfl
theorem zdc8:zc4 (endW true 8) (opts true 8 λ _=>1) (idx 16)=some true:=by kernel_rfl
theorem zdc9:zc4 (endW true 8) (opts true 8 λ _=>1) (idx 32)=some true:=by kernel_rfl
theorem zdd0:zc4 (endW true 8) (opts true 8 λ _=>1) (idx 64)=some true:=by kernel_rfl
theorem zdd1:zc4 (endW true 8) (opts true 8 λ _=>1) (idx 128)=some true:=by kernel_rfl
theorem r8_F:Facts true 8 where
 of:=zdb3
 red:=zcE6
 find:=zck5
 opt:=zcE7
 prc:=zcE8
 wv:=zdb4
 mask:=zck6
 hope:=λ s hs hg=>by
  rcases zaT2 s (cR hs (by decide)) hg with rfl|⟨p,rfl⟩
  .exact zdb9
  .have hp:p<8:=(dE (by decide)).1 hs
   match p,hp with
   |0,_=>exact zdc0
   |1,_=>exact zdc1
   |2,_=>exact zdc2
   |3,_=>exact zdc3
   |4,_=>exact zcF2
   |5,_=>exact zcF3
   |6,_=>exact zcF4
   |7,_=>exact zck7
 solv:=λ s hs hg=>by
  obtain⟨p,rfl⟩:=zaM2 s (cR hs (by decide)) hg;have hp:p<8:=(dE (by decide)).1 hs
  match p,hp with
  |0,_=>exact zdc4
  |1,_=>exact zdc5
  |2,_=>exact zdc6
  |3,_=>exact zdc7
  |4,_=>exact zdc8
  |5,_=>exact zdc9
  |6,_=>exact zdd0
  |7,_=>exact zdd1
theorem r8_R:RingF 8 where
 lck:=zcE9
 opn:=zcF0
 l1:=zdb5
 ra:=zdb6
 rb:=zdb7
 s0:=zdb8
 cor:=zcF1
end
end Ab
end Go.Proofs.YtamndckemppjdaaGreatDoor
