import Derived.Test.YtamndckemppjdaaGreatDoorTpJ
import Derived.Test.YtamndckemppjdaaGreatDoorTpKu8a
import Derived.Test.YtamndckemppjdaaGreatDoorTpKu8b
import Derived.Test.YtamndckemppjdaaGreatDoorTpKu8c
import Derived.Test.YtamndckemppjdaaGreatDoorTpKu8d
namespace Go.Proofs.YtamndckemppjdaaGreatDoor
namespace Ab
set_option linter.unusedSimpArgs false
set_option linter.unusedVariables false
set_option maxRecDepth 100000
noncomputable section
theorem zdl3:zc4 (endW false 8) (opts false 8 λ _=>1) (idx 254)=some true:=by kernel_rfl
theorem zdl4:zc4 (endW false 8) (opts false 8 λ _=>1) (idx 253)=some true:=by kernel_rfl
theorem zdl5:zc4 (endW false 8) (opts false 8 λ _=>1) (idx 251)=some true:=by kernel_rfl
theorem zdl6:zc4 (endW false 8) (opts false 8 λ _=>1) (idx 247)=some true:=by kernel_rfl
theorem zdl7:zc4 (endW false 8) (opts false 8 λ _=>1) (idx 239)=some true:=by kernel_rfl
theorem zdl8:zc4 (endW false 8) (opts false 8 λ _=>1) (idx 223)=some true:=by kernel_rfl
theorem zdl9:zc4 (endW false 8) (opts false 8 λ _=>1) (idx 191)=some true:=by kernel_rfl
theorem zdm0:zc4 (endW false 8) (opts false 8 λ _=>1) (idx 127)=some true:=by kernel_rfl
end
noncomputable section
theorem zdm1(k:Nat->Int):zo4 (ers (endS false 8 k))=some (endW false 8):=by kernel_rfl
theorem zcL9:zl5 (endW false 8)=some ([],prs 8):=by kernel_rfl
theorem zcm3(k:Nat->Int):(List.range 8).map (λ j=>zp9 (endS false 8 k) (pr (ordA 8 j)))=(List.range 8).map λ j=>some (PP false 8 k j,true):=by kernel_rfl
theorem zcM0(k:Nat->Int):(List.range 8).map (λ j=>(zi6 (PP false 8 k j) 1 (-1),zi4 (PP false 8 k j).bH,zk7 (PP false 8 k j).aR,rvK (oo false 8 k j)))=(List.range 8).map λ j=>(some (oo false 8 k j),some true,some true,some true):=by kernel_rfl
theorem zcM1:(List.range 8).map (λ j=>(zj7 (pr (ordA 8 j)),ze2 (prs 8) (pr (ordA 8 j)),zk4 (prs 8) (pr (ordA 8 j))))=(List.range 8).map λ j=>(true,some true,some ((2^j:Nat):Int)):=by kernel_rfl
theorem zdm2:zk3 (endW false 8)=some true:=by kernel_rfl
theorem zcm4(k:Nat->Int):(List.range (2^8)).map (λ s=>zg8 (zr0 (opts false 8 k) ([],prs 8) (idx s)) (0,0))=(List.range (2^8)).map λ s=>some ((s:Nat):Int):=by kernel_rfl
theorem zcM2(k:Nat->Int):(zj8 1).bind zq8=some (bS 1 0 k,0):=by kernel_rfl
theorem zcM3(k:Nat->Int):runK (zR3 8 k) (bS 1 0 k)=some (bS 1 8 k,grow 8 k):=by kernel_rfl
theorem zdm3(k:Nat->Int):runK (asks 8 3 (λ _=>0)++asks 8 5 (λ _=>0)) (bS 1 8 k)=some (upS 8 k,same (2*8) 8 k):=by kernel_rfl
theorem zcM4(k:Nat->Int):tot (cc 8 k) (2^8-1)=sm k 8:=by
 have h:(List.range 8).filter (λ i=>(2^8-1).testBit i)=List.range 8:=by decide
 unfold tot;rw[h];show((List.range 8).map λ p=>k (ordA 8 p)*2).sum=sm k 8;have e:((List.range 8).map λ p=>k (ordA 8 p)*2).sum=k 0*2+(k 4*2+(k 1*2+(k 5*2+(k 2*2+(k 6*2+(k 3*2+(k 7*2+0))))))):=by kernel_rfl
 have e2:sm k 8=((((((((0:Int)+2*k 0)+2*k 1)+2*k 2)+2*k 3)+2*k 4)+2*k 5)+2*k 6)+2*k 7:=by kernel_rfl
 rw[e,e2];omega
theorem u8_F:Facts false 8 where
 of:=zdm1
 red:=zcL9
 find:=zcm3
 opt:=zcM0
 prc:=zcM1
 wv:=zdm2
 mask:=zcm4
 hope:=λ s hs hg=>by
  have h:=zak1 (q:=32) (m:=8) (f:=λ s=>bif Nat.ble (pc s) 7 then zo9 (endW false 8) (prs 8) s else none) (g:=λ s=>bif Nat.ble (pc s) 7 then some (decide (pc s=7))else none) (λ c hc=>by
   match c,hc with
   |0,_=>exact zdk3
   |1,_=>exact zdk4
   |2,_=>exact zdk5
   |3,_=>exact zdk6
   |4,_=>exact zdk7
   |5,_=>exact zdk8
   |6,_=>exact zdk9
   |7,_=>exact zdl0
   |8,_=>exact zdl1
   |9,_=>exact zdl2
   |10,_=>exact zcJ7
   |11,_=>exact zcJ8
   |12,_=>exact zcJ9
   |13,_=>exact zcK0
   |14,_=>exact zcK1
   |15,_=>exact zcK2
   |16,_=>exact zcK3
   |17,_=>exact zcK4
   |18,_=>exact zcK5
   |19,_=>exact zcK6
   |20,_=>exact zcK7
   |21,_=>exact zcK8
   |22,_=>exact zcK9
   |23,_=>exact zcL0
   |24,_=>exact zcL1
   |25,_=>exact zcL2
   |26,_=>exact zcL3
   |27,_=>exact zcL4
   |28,_=>exact zcL5
   |29,_=>exact zcL6
   |30,_=>exact zcL7
   |31,_=>exact zcL8
   |c+32,h=>exact absurd h (by omega)
   ) s hs
  have hb:Nat.ble (pc s) 7=true:=dU hg;simp only[hb,cond_true]at h;exact h
 solv:=λ s hs hg=>by
  obtain⟨p,hp,h1,_⟩:=zaM5 8 (by decide) s hs hg (by decide)
  match p,hp with
  |0,_=>
   have e:s=254:=by omega
   subst e;exact zdl3
  |1,_=>
   have e:s=253:=by omega
   subst e;exact zdl4
  |2,_=>
   have e:s=251:=by omega
   subst e;exact zdl5
  |3,_=>
   have e:s=247:=by omega
   subst e;exact zdl6
  |4,_=>
   have e:s=239:=by omega
   subst e;exact zdl7
  |5,_=>
   have e:s=223:=by omega
   subst e;exact zdl8
  |6,_=>
   have e:s=191:=by omega
   subst e;exact zdl9
  |7,_=>
   have e:s=127:=by omega
   subst e;exact zdm0
theorem u8_U:UpF 8 where
 lck:=zcM2
 opn:=zcM3
 ua:=zdm3
 sum:=zcM4
end
end Ab
end Go.Proofs.YtamndckemppjdaaGreatDoor
