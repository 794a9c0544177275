import Derived.Test.YtamndckemppjdaaGreatDoorTpJ
namespace Go.Proofs.YtamndckemppjdaaGreatDoor
namespace Ab
set_option linter.unusedSimpArgs false
set_option linter.unusedVariables false
set_option maxRecDepth 100000
noncomputable section
theorem zdd2(k:Nat->Int):zo4 (ers (endS false 2 k))=some (endW false 2):=by kernel_rfl
theorem zcF5:zl5 (endW false 2)=some ([],prs 2):=by kernel_rfl
theorem zcl1(k:Nat->Int):(List.range 2).map (λ j=>zp9 (endS false 2 k) (pr (ordA 2 j)))=(List.range 2).map λ j=>some (PP false 2 k j,true):=by kernel_rfl
theorem zcF6(k:Nat->Int):(List.range 2).map (λ j=>(zi6 (PP false 2 k j) 1 (-1),zi4 (PP false 2 k j).bH,zk7 (PP false 2 k j).aR,rvK (oo false 2 k j)))=(List.range 2).map λ j=>(some (oo false 2 k j),some true,some true,some true):=by kernel_rfl
theorem zcF7:(List.range 2).map (λ j=>(zj7 (pr (ordA 2 j)),ze2 (prs 2) (pr (ordA 2 j)),zk4 (prs 2) (pr (ordA 2 j))))=(List.range 2).map λ j=>(true,some true,some ((2^j:Nat):Int)):=by kernel_rfl
theorem zdd3:zk3 (endW false 2)=some true:=by kernel_rfl
theorem zcl2(k:Nat->Int):(List.range (2^2)).map (λ s=>zg8 (zr0 (opts false 2 k) ([],prs 2) (idx s)) (0,0))=(List.range (2^2)).map λ s=>some ((s:Nat):Int):=by kernel_rfl
theorem zcF8(k:Nat->Int):(zj8 1).bind zq8=some (bS 1 0 k,0):=by kernel_rfl
theorem zcF9(k:Nat->Int):runK (zR3 2 k) (bS 1 0 k)=some (bS 1 2 k,grow 2 k):=by kernel_rfl
theorem zdd4(k:Nat->Int):runK (asks 2 3 (λ _=>0)++asks 2 5 (λ _=>0)) (bS 1 2 k)=some (upS 2 k,same (2*2) 2 k):=by kernel_rfl
theorem zcG0(k:Nat->Int):tot (cc 2 k) (2^2-1)=sm k 2:=by
 have h:(List.range 8).filter (λ i=>(2^2-1).testBit i)=List.range 2:=by decide
 unfold tot;rw[h];show((List.range 2).map λ p=>k (ordA 2 p)*2).sum=sm k 2;have e:((List.range 2).map λ p=>k (ordA 2 p)*2).sum=k 0*2+(k 1*2+0):=by kernel_rfl
 have e2:sm k 2=((0:Int)+2*k 0)+2*k 1:=by kernel_rfl
 rw[e,e2];omega
theorem zdd5:(List.range' (4*0) 4).map (λ s=>bif Nat.ble (pc s) 1 then zo9 (endW false 2) (prs 2) s else none)=(List.range' (4*0) 4).map (λ s=>bif Nat.ble (pc s) 1 then some (decide (pc s=1))else none):=by kernel_rfl
theorem zdd6:zc4 (endW false 2) (opts false 2 λ _=>1) (idx 2)=some true:=by kernel_rfl
theorem zdd7:zc4 (endW false 2) (opts false 2 λ _=>1) (idx 1)=some true:=by kernel_rfl
theorem u2_F:Facts false 2 where
 of:=zdd2
 red:=zcF5
 find:=zcl1
 opt:=zcF6
 prc:=zcF7
 wv:=zdd3
 mask:=zcl2
 hope:=λ s hs hg=>by
  have h:=zak1 (q:=1) (m:=4) (f:=λ s=>bif Nat.ble (pc s) 1 then zo9 (endW false 2) (prs 2) s else none) (g:=λ s=>bif Nat.ble (pc s) 1 then some (decide (pc s=1))else none) (λ c hc=>by
   match c,hc with
   |0,_=>exact zdd5
   ) s hs
  have hb:Nat.ble (pc s) 1=true:=dU hg;simp only[hb,cond_true]at h;exact h
 solv:=λ s hs hg=>by
  obtain⟨p,hp,h1,_⟩:=zaM5 2 (by decide) s hs hg (by decide)
  match p,hp with
  |0,_=>
   have e:s=2:=by omega
   subst e;exact zdd6
  |1,_=>
   have e:s=1:=by omega
   subst e;exact zdd7
theorem u2_U:UpF 2 where
 lck:=zcF8
 opn:=zcF9
 ua:=zdd4
 sum:=zcG0
end
noncomputable section
theorem zdd8(k:Nat->Int):zo4 (ers (endS false 3 k))=some (endW false 3):=by kernel_rfl
theorem zcG1:zl5 (endW false 3)=some ([],prs 3):=by kernel_rfl
theorem zcl3(k:Nat->Int):(List.range 3).map (λ j=>zp9 (endS false 3 k) (pr (ordA 3 j)))=(List.range 3).map λ j=>some (PP false 3 k j,true):=by kernel_rfl
theorem zcG2(k:Nat->Int):(List.range 3).map (λ j=>(zi6 (PP false 3 k j) 1 (-1),zi4 (PP false 3 k j).bH,zk7 (PP false 3 k j).aR,rvK (oo false 3 k j)))=(List.range 3).map λ j=>(some (oo false 3 k j),some true,some true,some true):=by kernel_rfl
theorem zcG3:(List.range 3).map (λ j=>(zj7 (pr (ordA 3 j)),ze2 (prs 3) (pr (ordA 3 j)),zk4 (prs 3) (pr (ordA 3 j))))=(List.range 3).map λ j=>(true,some true,some ((2^j:Nat):Int)):=by kernel_rfl
theorem zdd9:zk3 (endW false 3)=some true:=by kernel_rfl
theorem zcl4(k:Nat->Int):(List.range (2^3)).map (λ s=>zg8 (zr0 (opts false 3 k) ([],prs 3) (idx s)) (0,0))=(List.range (2^3)).map λ s=>some ((s:Nat):Int):=by kernel_rfl
theorem zcG4(k:Nat->Int):(zj8 1).bind zq8=some (bS 1 0 k,0):=by kernel_rfl
theorem zcG5(k:Nat->Int):runK (zR3 3 k) (bS 1 0 k)=some (bS 1 3 k,grow 3 k):=by kernel_rfl
theorem zde0(k:Nat->Int):runK (asks 3 3 (λ _=>0)++asks 3 5 (λ _=>0)) (bS 1 3 k)=some (upS 3 k,same (2*3) 3 k):=by kernel_rfl
theorem zcG6(k:Nat->Int):tot (cc 3 k) (2^3-1)=sm k 3:=by
 have h:(List.range 8).filter (λ i=>(2^3-1).testBit i)=List.range 3:=by decide
 unfold tot;rw[h];show((List.range 3).map λ p=>k (ordA 3 p)*2).sum=sm k 3;have e:((List.range 3).map λ p=>k (ordA 3 p)*2).sum=k 0*2+(k 1*2+(k 2*2+0)):=by kernel_rfl
 have e2:sm k 3=(((0:Int)+2*k 0)+2*k 1)+2*k 2:=by kernel_rfl
 rw[e,e2];omega
theorem zde1:(List.range' (8*0) 8).map (λ s=>bif Nat.ble (pc s) 2 then zo9 (endW false 3) (prs 3) s else none)=(List.range' (8*0) 8).map (λ s=>bif Nat.ble (pc s) 2 then some (decide (pc s=2))else none):=by kernel_rfl
theorem zde2:zc4 (endW false 3) (opts false 3 λ _=>1) (idx 6)=some true:=by kernel_rfl
theorem zde3:zc4 (endW false 3) (opts false 3 λ _=>1) (idx 5)=some true:=by kernel_rfl
theorem zde4:zc4 (endW false 3) (opts false 3 λ _=>1) (idx 3)=some true:=by kernel_rfl
theorem u3_F:Facts false 3 where
 of:=zdd8
 red:=zcG1
 find:=zcl3
 opt:=zcG2
 prc:=zcG3
 wv:=zdd9
 mask:=zcl4
 hope:=λ s hs hg=>by
  have h:=zak1 (q:=1) (m:=8) (f:=λ s=>bif Nat.ble (pc s) 2 then zo9 (endW false 3) (prs 3) s else none) (g:=λ s=>bif Nat.ble (pc s) 2 then some (decide (pc s=2))else none) (λ c hc=>by
   match c,hc with
   |0,_=>exact zde1
   ) s hs
  have hb:Nat.ble (pc s) 2=true:=dU hg;simp only[hb,cond_true]at h;exact h
 solv:=λ s hs hg=>by
  obtain⟨p,hp,h1,_⟩:=zaM5 3 (by decide) s hs hg (by decide)
  match p,hp with
  |0,_=>
   have e:s=6:=by omega
   subst e;exact zde2
  |1,_=>
   have e:s=5:=by omega
   subst e;exact zde3
  |2,_=>
   have e:s=3:=by omega
   subst e;exact zde4
theorem u3_U:UpF 3 where
 lck:=zcG4
 opn:=zcG5
 ua:=zde0
 sum:=zcG6
end
noncomputable section
theorem zde5(k:Nat->Int):zo4 (ers (endS false 4 k))=some (endW false 4):=by kernel_rfl
theorem zcG7:zl5 (endW false 4)=some ([],prs 4):=by kernel_rfl
theorem zcl5(k:Nat->Int):(List.range 4).map (λ j=>zp9 (endS false 4 k) (pr (ordA 4 j)))=(List.range 4).map λ j=>some (PP false 4 k j,true):=by kernel_rfl
theorem zcG8(k:Nat->Int):(List.range 4).map (λ j=>(zi6 (PP false 4 k j) 1 (-1),zi4 (PP false 4 k j).bH,zk7 (PP false 4 k j).aR,rvK (oo false 4 k j)))=(List.range 4).map λ j=>(some (oo false 4 k j),some true,some true,some true):=by kernel_rfl
theorem zcG9:(List.range 4).map (λ j=>(zj7 (pr (ordA 4 j)),ze2 (prs 4) (pr (ordA 4 j)),zk4 (prs 4) (pr (ordA 4 j))))=(List.range 4).map λ j=>(true,some true,some ((2^j:Nat):Int)):=by kernel_rfl
theorem zde6:zk3 (endW false 4)=some true:=by kernel_rfl
theorem zcl6(k:Nat->Int):(List.range (2^4)).map (λ s=>zg8 (zr0 (opts false 4 k) ([],prs 4) (idx s)) (0,0))=(List.range (2^4)).map λ s=>some ((s:Nat):Int):=by kernel_rfl
theorem zcH0(k:Nat->Int):(zj8 1).bind zq8=some (bS 1 0 k,0):=by kernel_rfl
theorem zcH1(k:Nat->Int):runK (zR3 4 k) (bS 1 0 k)=some (bS 1 4 k,grow 4 k):=by kernel_rfl
theorem zde7(k:Nat->Int):runK (asks 4 3 (λ _=>0)++asks 4 5 (λ _=>0)) (bS 1 4 k)=some (upS 4 k,same (2*4) 4 k):=by kernel_rfl
theorem zcH2(k:Nat->Int):tot (cc 4 k) (2^4-1)=sm k 4:=by
 have h:(List.range 8).filter (λ i=>(2^4-1).testBit i)=List.range 4:=by decide
 unfold tot;rw[h];show((List.range 4).map λ p=>k (ordA 4 p)*2).sum=sm k 4;have e:((List.range 4).map λ p=>k (ordA 4 p)*2).sum=k 0*2+(k 1*2+(k 2*2+(k 3*2+0))):=by kernel_rfl
 have e2:sm k 4=((((0:Int)+2*k 0)+2*k 1)+2*k 2)+2*k 3:=by kernel_rfl
 rw[e,e2];omega
theorem zde8:(List.range' (8*0) 8).map (λ s=>bif Nat.ble (pc s) 3 then zo9 (endW false 4) (prs 4) s else none)=(List.range' (8*0) 8).map (λ s=>bif Nat.ble (pc s) 3 then some (decide (pc s=3))else none):=by kernel_rfl
theorem zde9:(List.range' (8*1) 8).map (λ s=>bif Nat.ble (pc s) 3 then zo9 (endW false 4) (prs 4) s else none)=(List.range' (8*1) 8).map (λ s=>bif Nat.ble (pc s) 3 then some (decide (pc s=3))else none):=by kernel_rfl
theorem zdf0:zc4 (endW false 4) (opts false 4 λ _=>1) (idx 14)=some true:=by kernel_rfl
theorem zdf1:zc4 (endW false 4) (opts false 4 λ _=>1) (idx 13)=some true:=by kernel_rfl
theorem zdf2:zc4 (endW false 4) (opts false 4 λ _=>1) (idx 11)=some true:=by kernel_rfl
theorem zdf3:zc4 (endW false 4) (opts false 4 λ _=>1) (idx 7)=some true:=by kernel_rfl
theorem u4_F:Facts false 4 where
 of:=zde5
 red:=zcG7
 find:=zcl5
 opt:=zcG8
 prc:=zcG9
 wv:=zde6
 mask:=zcl6
 hope:=λ s hs hg=>by
  have h:=zak1 (q:=2) (m:=8) (f:=λ s=>bif Nat.ble (pc s) 3 then zo9 (endW false 4) (prs 4) s else none) (g:=λ s=>bif Nat.ble (pc s) 3 then some (decide (pc s=3))else none) (λ c hc=>by
   match c,hc with
   |0,_=>exact zde8
   |1,_=>exact zde9
   ) s hs
  have hb:Nat.ble (pc s) 3=true:=dU hg;simp only[hb,cond_true]at h;exact h
 solv:=λ s hs hg=>by
  obtain⟨p,hp,h1,_⟩:=zaM5 4 (by decide) s hs hg (by decide)
  match p,hp with
  |0,_=>
   have e:s=14:=by omega
   subst e;exact zdf0
  |1,_=>
   have e:s=13:=by omega
   subst e;exact zdf1
  |2,_=>
   have e:s=11:=by omega
   subst e;exact zdf2
  |3,_=>
   have e:s=7:=by omega
   subst e;exact zdf3
theorem u4_U:UpF 4 where
 lck:=zcH0
 opn:=zcH1
 ua:=zde7
 sum:=zcH2
end
noncomputable section
theorem zdf4(k:Nat->Int):zo4 (ers (endS false 5 k))=some (endW false 5):=by kernel_rfl
theorem zcH3:zl5 (endW false 5)=some ([],prs 5):=by kernel_rfl
theorem zcl7(k:Nat->Int):(List.range 5).map (λ j=>zp9 (endS false 5 k) (pr (ordA 5 j)))=(List.range 5).map λ j=>some (PP false 5 k j,true):=by kernel_rfl
theorem zcH4(k:Nat->Int):(List.range 5).map (λ j=>(zi6 (PP false 5 k j) 1 (-1),zi4 (PP false 5 k j).bH,zk7 (PP false 5 k j).aR,rvK (oo false 5 k j)))=(List.range 5).map λ j=>(some (oo false 5 k j),some true,some true,some true):=by kernel_rfl
theorem zcH5:(List.range 5).map (λ j=>(zj7 (pr (ordA 5 j)),ze2 (prs 5) (pr (ordA 5 j)),zk4 (prs 5) (pr (ordA 5 j))))=(List.range 5).map λ j=>(true,some true,some ((2^j:Nat):Int)):=by kernel_rfl
theorem zdf5:zk3 (endW false 5)=some true:=by kernel_rfl
theorem zcl8(k:Nat->Int):(List.range (2^5)).map (λ s=>zg8 (zr0 (opts false 5 k) ([],prs 5) (idx s)) (0,0))=(List.range (2^5)).map λ s=>some ((s:Nat):Int):=by kernel_rfl
theorem zcH6(k:Nat->Int):(zj8 1).bind zq8=some (bS 1 0 k,0):=by kernel_rfl
theorem zcH7(k:Nat->Int):runK (zR3 5 k) (bS 1 0 k)=some (bS 1 5 k,grow 5 k):=by kernel_rfl
theorem zdf6(k:Nat->Int):runK (asks 5 3 (λ _=>0)++asks 5 5 (λ _=>0)) (bS 1 5 k)=some (upS 5 k,same (2*5) 5 k):=by kernel_rfl
theorem zcH8(k:Nat->Int):tot (cc 5 k) (2^5-1)=sm k 5:=by
 have h:(List.range 8).filter (λ i=>(2^5-1).testBit i)=List.range 5:=by decide
 unfold tot;rw[h];show((List.range 5).map λ p=>k (ordA 5 p)*2).sum=sm k 5;have e:((List.range 5).map λ p=>k (ordA 5 p)*2).sum=k 0*2+(k 4*2+(k 1*2+(k 2*2+(k 3*2+0)))):=by kernel_rfl
 have e2:sm k 5=(((((0:Int)+2*k 0)+2*k 1)+2*k 2)+2*k 3)+2*k 4:=by kernel_rfl
 rw[e,e2];omega
theorem zdf7:(List.range' (8*0) 8).map (λ s=>bif Nat.ble (pc s) 4 then zo9 (endW false 5) (prs 5) s else none)=(List.range' (8*0) 8).map (λ s=>bif Nat.ble (pc s) 4 then some (decide (pc s=4))else none):=by kernel_rfl
theorem zdf8:(List.range' (8*1) 8).map (λ s=>bif Nat.ble (pc s) 4 then zo9 (endW false 5) (prs 5) s else none)=(List.range' (8*1) 8).map (λ s=>bif Nat.ble (pc s) 4 then some (decide (pc s=4))else none):=by kernel_rfl
theorem zdf9:(List.range' (8*2) 8).map (λ s=>bif Nat.ble (pc s) 4 then zo9 (endW false 5) (prs 5) s else none)=(List.range' (8*2) 8).map (λ s=>bif Nat.ble (pc s) 4 then some (decide (pc s=4))else none):=by kernel_rfl
theorem zdg0:(List.range' (8*3) 8).map (λ s=>bif Nat.ble (pc s) 4 then zo9 (endW false 5) (prs 5) s else none)=(List.range' (8*3) 8).map (λ s=>bif Nat.ble (pc s) 4 then some (decide (pc s=4))else none):=by kernel_rfl
theorem zdg1:zc4 (endW false 5) (opts false 5 λ _=>1) (idx 30)=some true:=by kernel_rfl
theorem zdg2:zc4 (endW false 5) (opts false 5 λ _=>1) (idx 29)=some true:=by kernel_rfl
theorem zdg3:zc4 (endW false 5) (opts false 5 λ _=>1) (idx 27)=some true:=by kernel_rfl
theorem zdg4:zc4 (endW false 5) (opts false 5 λ _=>1) (idx 23)=some true:=by kernel_rfl
theorem zdg5:zc4 (endW false 5) (opts false 5 λ _=>1) (idx 15)=some true:=by kernel_rfl
theorem u5_F:Facts false 5 where
 of:=zdf4
 red:=zcH3
 find:=zcl7
 opt:=zcH4
 prc:=zcH5
 wv:=zdf5
 mask:=zcl8
 hope:=λ s hs hg=>by
  have h:=zak1 (q:=4) (m:=8) (f:=λ s=>bif Nat.ble (pc s) 4 then zo9 (endW false 5) (prs 5) s else none) (g:=λ s=>bif Nat.ble (pc s) 4 then some (decide (pc s=4))else none) (λ c hc=>by
   match c,hc with
   |0,_=>exact zdf7
   |1,_=>exact zdf8
   |2,_=>exact zdf9
   |3,_=>exact zdg0
   ) s hs
  have hb:Nat.ble (pc s) 4=true:=dU hg;simp only[hb,cond_true]at h;exact h
 solv:=λ s hs hg=>by
  obtain⟨p,hp,h1,_⟩:=zaM5 5 (by decide) s hs hg (by decide)
  match p,hp with
  |0,_=>
   have e:s=30:=by omega
   subst e;exact zdg1
  |1,_=>
   have e:s=29:=by omega
   subst e;exact zdg2
  |2,_=>
   have e:s=27:=by omega
   subst e;exact zdg3
  |3,_=>
   have e:s=23:=by omega
   subst e;exact zdg4
  |4,_=>
   have e:s=15:=by omega
   subst e;exact zdg5
theorem u5_U:UpF 5 where
 lck:=zcH6
 opn:=zcH7
 ua:=zdf6
 sum:=zcH8
end
noncomputable section
theorem zdg6(k:Nat->Int):zo4 (ers (endS false 6 k))=some (endW false 6):=by kernel_rfl
theorem zcH9:zl5 (endW false 6)=some ([],prs 6):=by kernel_rfl
theorem zcl9(k:Nat->Int):(List.range 6).map (λ j=>zp9 (endS false 6 k) (pr (ordA 6 j)))=(List.range 6).map λ j=>some (PP false 6 k j,true):=by kernel_rfl
theorem zcI0(k:Nat->Int):(List.range 6).map (λ j=>(zi6 (PP false 6 k j) 1 (-1),zi4 (PP false 6 k j).bH,zk7 (PP false 6 k j).aR,rvK (oo false 6 k j)))=(List.range 6).map λ j=>(some (oo false 6 k j),some true,some true,some true):=by kernel_rfl
theorem zcI1:(List.range 6).map (λ j=>(zj7 (pr (ordA 6 j)),ze2 (prs 6) (pr (ordA 6 j)),zk4 (prs 6) (pr (ordA 6 j))))=(List.range 6).map λ j=>(true,some true,some ((2^j:Nat):Int)):=by kernel_rfl
theorem zdg7:zk3 (endW false 6)=some true:=by kernel_rfl
theorem zcm0(k:Nat->Int):(List.range (2^6)).map (λ s=>zg8 (zr0 (opts false 6 k) ([],prs 6) (idx s)) (0,0))=(List.range (2^6)).map λ s=>some ((s:Nat):Int):=by kernel_rfl
theorem zcI2(k:Nat->Int):(zj8 1).bind zq8=some (bS 1 0 k,0):=by kernel_rfl
theorem zcI3(k:Nat->Int):runK (zR3 6 k) (bS 1 0 k)=some (bS 1 6 k,grow 6 k):=by kernel_rfl
theorem zdg8(k:Nat->Int):runK (asks 6 3 (λ _=>0)++asks 6 5 (λ _=>0)) (bS 1 6 k)=some (upS 6 k,same (2*6) 6 k):=by kernel_rfl
theorem zcI4(k:Nat->Int):tot (cc 6 k) (2^6-1)=sm k 6:=by
 have h:(List.range 8).filter (λ i=>(2^6-1).testBit i)=List.range 6:=by decide
 unfold tot;rw[h];show((List.range 6).map λ p=>k (ordA 6 p)*2).sum=sm k 6;have e:((List.range 6).map λ p=>k (ordA 6 p)*2).sum=k 0*2+(k 4*2+(k 1*2+(k 5*2+(k 2*2+(k 3*2+0))))):=by kernel_rfl
 have e2:sm k 6=((((((0:Int)+2*k 0)+2*k 1)+2*k 2)+2*k 3)+2*k 4)+2*k 5:=by kernel_rfl
 rw[e,e2];omega
theorem zdg9:(List.range' (8*0) 8).map (λ s=>bif Nat.ble (pc s) 5 then zo9 (endW false 6) (prs 6) s else none)=(List.range' (8*0) 8).map (λ s=>bif Nat.ble (pc s) 5 then some (decide (pc s=5))else none):=by kernel_rfl
theorem zdh0:(List.range' (8*1) 8).map (λ s=>bif Nat.ble (pc s) 5 then zo9 (endW false 6) (prs 6) s else none)=(List.range' (8*1) 8).map (λ s=>bif Nat.ble (pc s) 5 then some (decide (pc s=5))else none):=by kernel_rfl
theorem zdh1:(List.range' (8*2) 8).map (λ s=>bif Nat.ble (pc s) 5 then zo9 (endW false 6) (prs 6) s else none)=(List.range' (8*2) 8).map (λ s=>bif Nat.ble (pc s) 5 then some (decide (pc s=5))else none):=by kernel_rfl
theorem zdh2:(List.range' (8*3) 8).map (λ s=>bif Nat.ble (pc s) 5 then zo9 (endW false 6) (prs 6) s else none)=(List.range' (8*3) 8).map (λ s=>bif Nat.ble (pc s) 5 then some (decide (pc s=5))else none):=by kernel_rfl
theorem zdh3:(List.range' (8*4) 8).map (λ s=>bif Nat.ble (pc s) 5 then zo9 (endW false 6) (prs 6) s else none)=(List.range' (8*4) 8).map (λ s=>bif Nat.ble (pc s) 5 then some (decide (pc s=5))else none):=by kernel_rfl
theorem zdh4:(List.range' (8*5) 8).map (λ s=>bif Nat.ble (pc s) 5 then zo9 (endW false 6) (prs 6) s else none)=(List.range' (8*5) 8).map (λ s=>bif Nat.ble (pc s) 5 then some (decide (pc s=5))else none):=by kernel_rfl
theorem zdh5:(List.range' (8*6) 8).map (λ s=>bif Nat.ble (pc s) 5 then zo9 (endW false 6) (prs 6) s else none)=(List.range' (8*6) 8).map (λ s=>bif Nat.ble (pc s) 5 then some (decide (pc s=5))else none):=by kernel_rfl
theorem zdh6:(List.range' (8*7) 8).map (λ s=>bif Nat.ble (pc s) 5 then zo9 (endW false 6) (prs 6) s else none)=(List.range' (8*7) 8).map (λ s=>bif Nat.ble (pc s) 5 then some (decide (pc s=5))else none):=by kernel_rfl
theorem zdh7:zc4 (endW false 6) (opts false 6 λ _=>1) (idx 62)=some true:=by kernel_rfl
theorem zdh8:zc4 (endW false 6) (opts false 6 λ _=>1) (idx 61)=some true:=by kernel_rfl
theorem zdh9:zc4 (endW false 6) (opts false 6 λ _=>1) (idx 59)=some true:=by kernel_rfl
theorem zdi0:zc4 (endW false 6) (opts false 6 λ _=>1) (idx 55)=some true:=by kernel_rfl
theorem zdi1:zc4 (endW false 6) (opts false 6 λ _=>1) (idx 47)=some true:=by kernel_rfl
theorem zdi2:zc4 (endW false 6) (opts false 6 λ _=>1) (idx 31)=some true:=by kernel_rfl
theorem u6_F:Facts false 6 where
 of:=zdg6
 red:=zcH9
 find:=zcl9
 opt:=zcI0
 prc:=zcI1
 wv:=zdg7
 mask:=zcm0
 hope:=λ s hs hg=>by
  have h:=zak1 (q:=8) (m:=8) (f:=λ s=>bif Nat.ble (pc s) 5 then zo9 (endW false 6) (prs 6) s else none) (g:=λ s=>bif Nat.ble (pc s) 5 then some (decide (pc s=5))else none) (λ c hc=>by
   match c,hc with
   |0,_=>exact zdg9
   |1,_=>exact zdh0
   |2,_=>exact zdh1
   |3,_=>exact zdh2
   |4,_=>exact zdh3
   |5,_=>exact zdh4
   |6,_=>exact zdh5
   |7,_=>exact zdh6
   ) s hs
  have hb:Nat.ble (pc s) 5=true:=dU hg;simp only[hb,cond_true]at h;exact h
 solv:=λ s hs hg=>by
  obtain⟨p,hp,h1,_⟩:=zaM5 6 (by decide) s hs hg (by decide)
  match p,hp with
  |0,_=>
   have e:s=62:=by omega
   subst e;exact zdh7
  |1,_=>
   have e:s=61:=by omega
   subst e;exact zdh8
  |2,_=>
   have e:s=59:=by omega
   subst e;exact zdh9
  |3,_=>
   have e:s=55:=by omega
   subst e;exact zdi0
  |4,_=>
   have e:s=47:=by omega
   subst e;exact zdi1
  |5,_=>
   have e:s=31:=by omega
   subst e;exact zdi2
theorem u6_U:UpF 6 where
 lck:=zcI2
 opn:=zcI3
 ua:=zdg8
 sum:=zcI4
end
end Ab
end Go.Proofs.YtamndckemppjdaaGreatDoor
