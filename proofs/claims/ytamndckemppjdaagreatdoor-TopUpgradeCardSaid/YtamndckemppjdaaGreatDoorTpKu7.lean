import Derived.Test.YtamndckemppjdaaGreatDoorTpJ
namespace Go.Proofs.YtamndckemppjdaaGreatDoor
namespace Ab
set_option linter.unusedSimpArgs false
set_option linter.unusedVariables false
set_option maxRecDepth 100000
noncomputable section
theorem zdi3:(List.range' (8*0) 8).map (λ s=>bif Nat.ble (pc s) 6 then zo9 (endW false 7) (prs 7) s else none)=(List.range' (8*0) 8).map (λ s=>bif Nat.ble (pc s) 6 then some (decide (pc s=6))else none):=by kernel_rfl
theorem zdi4:(List.range' (8*1) 8).map (λ s=>bif Nat.ble (pc s) 6 then zo9 (endW false 7) (prs 7) s else none)=(List.range' (8*1) 8).map (λ s=>bif Nat.ble (pc s) 6 then some (decide (pc s=6))else none):=by kernel_rfl
theorem zdi5:(List.range' (8*2) 8).map (λ s=>bif Nat.ble (pc s) 6 then zo9 (endW false 7) (prs 7) s else none)=(List.range' (8*2) 8).map (λ s=>bif Nat.ble (pc s) 6 then some (decide (pc s=6))else none):=by kernel_rfl
theorem zdi6:(List.range' (8*3) 8).map (λ s=>bif Nat.ble (pc s) 6 then zo9 (endW false 7) (prs 7) s else none)=(List.range' (8*3) 8).map (λ s=>bif Nat.ble (pc s) 6 then some (decide (pc s=6))else none):=by kernel_rfl
theorem zdi7:(List.range' (8*4) 8).map (λ s=>bif Nat.ble (pc s) 6 then zo9 (endW false 7) (prs 7) s else none)=(List.range' (8*4) 8).map (λ s=>bif Nat.ble (pc s) 6 then some (decide (pc s=6))else none):=by kernel_rfl
theorem zdi8:(List.range' (8*5) 8).map (λ s=>bif Nat.ble (pc s) 6 then zo9 (endW false 7) (prs 7) s else none)=(List.range' (8*5) 8).map (λ s=>bif Nat.ble (pc s) 6 then some (decide (pc s=6))else none):=by kernel_rfl
theorem zdi9:(List.range' (8*6) 8).map (λ s=>bif Nat.ble (pc s) 6 then zo9 (endW false 7) (prs 7) s else none)=(List.range' (8*6) 8).map (λ s=>bif Nat.ble (pc s) 6 then some (decide (pc s=6))else none):=by kernel_rfl
theorem zdj0:(List.range' (8*7) 8).map (λ s=>bif Nat.ble (pc s) 6 then zo9 (endW false 7) (prs 7) s else none)=(List.range' (8*7) 8).map (λ s=>bif Nat.ble (pc s) 6 then some (decide (pc s=6))else none):=by kernel_rfl
end
noncomputable section
theorem zdj1:(List.range' (8*8) 8).map (λ s=>bif Nat.ble (pc s) 6 then zo9 (endW false 7) (prs 7) s else none)=(List.range' (8*8) 8).map (λ s=>bif Nat.ble (pc s) 6 then some (decide (pc s=6))else none):=by kernel_rfl
theorem zdj2:(List.range' (8*9) 8).map (λ s=>bif Nat.ble (pc s) 6 then zo9 (endW false 7) (prs 7) s else none)=(List.range' (8*9) 8).map (λ s=>bif Nat.ble (pc s) 6 then some (decide (pc s=6))else none):=by kernel_rfl
theorem zcI5:(List.range' (8*10) 8).map (λ s=>bif Nat.ble (pc s) 6 then zo9 (endW false 7) (prs 7) s else none)=(List.range' (8*10) 8).map (λ s=>bif Nat.ble (pc s) 6 then some (decide (pc s=6))else none):=by kernel_rfl
theorem zcI6:(List.range' (8*11) 8).map (λ s=>bif Nat.ble (pc s) 6 then zo9 (endW false 7) (prs 7) s else none)=(List.range' (8*11) 8).map (λ s=>bif Nat.ble (pc s) 6 then some (decide (pc s=6))else none):=by kernel_rfl
theorem zcI7:(List.range' (8*12) 8).map (λ s=>bif Nat.ble (pc s) 6 then zo9 (endW false 7) (prs 7) s else none)=(List.range' (8*12) 8).map (λ s=>bif Nat.ble (pc s) 6 then some (decide (pc s=6))else none):=by kernel_rfl
theorem zcI8:(List.range' (8*13) 8).map (λ s=>bif Nat.ble (pc s) 6 then zo9 (endW false 7) (prs 7) s else none)=(List.range' (8*13) 8).map (λ s=>bif Nat.ble (pc s) 6 then some (decide (pc s=6))else none):=by kernel_rfl
theorem zcI9:(List.range' (8*14) 8).map (λ s=>bif Nat.ble (pc s) 6 then zo9 (endW false 7) (prs 7) s else none)=(List.range' (8*14) 8).map (λ s=>bif Nat.ble (pc s) 6 then some (decide (pc s=6))else none):=by kernel_rfl
theorem zcJ0:(List.range' (8*15) 8).map (λ s=>bif Nat.ble (pc s) 6 then zo9 (endW false 7) (prs 7) s else none)=(List.range' (8*15) 8).map (λ s=>bif Nat.ble (pc s) 6 then some (decide (pc s=6))else none):=by kernel_rfl
end
noncomputable section
theorem zdj3:zc4 (endW false 7) (opts false 7 λ _=>1) (idx 126)=some true:=by kernel_rfl
theorem zdj4:zc4 (endW false 7) (opts false 7 λ _=>1) (idx 125)=some true:=by kernel_rfl
theorem zdj5:zc4 (endW false 7) (opts false 7 λ _=>1) (idx 123)=some true:=by kernel_rfl
theorem zdj6:zc4 (endW false 7) (opts false 7 λ _=>1) (idx 119)=some true:=by kernel_rfl
theorem zdj7:zc4 (endW false 7) (opts false 7 λ _=>1) (idx 111)=some true:=by kernel_rfl
theorem zdj8:zc4 (endW false 7) (opts false 7 λ _=>1) (idx 95)=some true:=by kernel_rfl
theorem zdj9:zc4 (endW false 7) (opts false 7 λ _=>1) (idx 63)=some true:=by kernel_rfl
end
noncomputable section
theorem zdk0(k:Nat->Int):zo4 (ers (endS false 7 k))=some (endW false 7):=by kernel_rfl
theorem zcJ1:zl5 (endW false 7)=some ([],prs 7):=by kernel_rfl
theorem zcm1(k:Nat->Int):(List.range 7).map (λ j=>zp9 (endS false 7 k) (pr (ordA 7 j)))=(List.range 7).map λ j=>some (PP false 7 k j,true):=by kernel_rfl
theorem zcJ2(k:Nat->Int):(List.range 7).map (λ j=>(zi6 (PP false 7 k j) 1 (-1),zi4 (PP false 7 k j).bH,zk7 (PP false 7 k j).aR,rvK (oo false 7 k j)))=(List.range 7).map λ j=>(some (oo false 7 k j),some true,some true,some true):=by kernel_rfl
theorem zcJ3:(List.range 7).map (λ j=>(zj7 (pr (ordA 7 j)),ze2 (prs 7) (pr (ordA 7 j)),zk4 (prs 7) (pr (ordA 7 j))))=(List.range 7).map λ j=>(true,some true,some ((2^j:Nat):Int)):=by kernel_rfl
theorem zdk1:zk3 (endW false 7)=some true:=by kernel_rfl
theorem zcm2(k:Nat->Int):(List.range (2^7)).map (λ s=>zg8 (zr0 (opts false 7 k) ([],prs 7) (idx s)) (0,0))=(List.range (2^7)).map λ s=>some ((s:Nat):Int):=by kernel_rfl
theorem zcJ4(k:Nat->Int):(zj8 1).bind zq8=some (bS 1 0 k,0):=by kernel_rfl
theorem zcJ5(k:Nat->Int):runK (zR3 7 k) (bS 1 0 k)=some (bS 1 7 k,grow 7 k):=by kernel_rfl
theorem zdk2(k:Nat->Int):runK (asks 7 3 (λ _=>0)++asks 7 5 (λ _=>0)) (bS 1 7 k)=some (upS 7 k,same (2*7) 7 k):=by kernel_rfl
theorem zcJ6(k:Nat->Int):tot (cc 7 k) (2^7-1)=sm k 7:=by
 have h:(List.range 8).filter (λ i=>(2^7-1).testBit i)=List.range 7:=by decide
 unfold tot;rw[h];show((List.range 7).map λ p=>k (ordA 7 p)*2).sum=sm k 7;have e:((List.range 7).map λ p=>k (ordA 7 p)*2).sum=k 0*2+(k 4*2+(k 1*2+(k 5*2+(k 2*2+(k 6*2+(k 3*2+0)))))):=by kernel_rfl
 have e2:sm k 7=(((((((0:Int)+2*k 0)+2*k 1)+2*k 2)+2*k 3)+2*k 4)+2*k 5)+2*k 6:=by kernel_rfl
 rw[e,e2];omega
theorem u7_F:Facts false 7 where
 of:=zdk0
 red:=zcJ1
 find:=zcm1
 opt:=zcJ2
 prc:=zcJ3
 wv:=zdk1
 mask:=zcm2
 hope:=λ s hs hg=>by
  have h:=zak1 (q:=16) (m:=8) (f:=λ s=>bif Nat.ble (pc s) 6 then zo9 (endW false 7) (prs 7) s else none) (g:=λ s=>bif Nat.ble (pc s) 6 then some (decide (pc s=6))else none) (λ c hc=>by
   match c,hc with
   |0,_=>exact zdi3
   |1,_=>exact zdi4
   |2,_=>exact zdi5
   |3,_=>exact zdi6
   |4,_=>exact zdi7
   |5,_=>exact zdi8
   |6,_=>exact zdi9
   |7,_=>exact zdj0
   |8,_=>exact zdj1
   |9,_=>exact zdj2
   |10,_=>exact zcI5
   |11,_=>exact zcI6
   |12,_=>exact zcI7
   |13,_=>exact zcI8
   |14,_=>exact zcI9
   |15,_=>exact zcJ0
   |c+16,h=>exact absurd h (by omega)
   ) s hs
  have hb:Nat.ble (pc s) 6=true:=dU hg;simp only[hb,cond_true]at h;exact h
 solv:=λ s hs hg=>by
  obtain⟨p,hp,h1,_⟩:=zaM5 7 (by decide) s hs hg (by decide)
  match p,hp with
  |0,_=>
   have e:s=126:=by omega
   subst e;exact zdj3
  |1,_=>
   have e:s=125:=by omega
   subst e;exact zdj4
  |2,_=>
   have e:s=123:=by omega
   subst e;exact zdj5
  |3,_=>
   have e:s=119:=by omega
   subst e;exact zdj6
  |4,_=>
   have e:s=111:=by omega
   subst e;exact zdj7
  |5,_=>
   have e:s=95:=by omega
   subst e;exact zdj8
  |6,_=>
   have e:s=63:=by omega
   subst e;exact zdj9
theorem u7_U:UpF 7 where
 lck:=zcJ4
 opn:=zcJ5
 ua:=zdk2
 sum:=zcJ6
end
end Ab
end Go.Proofs.YtamndckemppjdaaGreatDoor
