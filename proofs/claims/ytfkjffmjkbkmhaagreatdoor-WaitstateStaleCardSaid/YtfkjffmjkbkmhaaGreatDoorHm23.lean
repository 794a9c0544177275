import Derived.Test.YtfkjffmjkbkmhaaGreatDoorHm13
import Derived.Test.YtfkjffmjkbkmhaaGreatDoorHm15
import Derived.Test.YtfkjffmjkbkmhaaGreatDoorHm16
import Derived.Test.YtfkjffmjkbkmhaaGreatDoorHm19
namespace Go.Proofs.YtfkjffmjkbkmhaaGreatDoor
namespace Ab
open IntKind (i64 u64 u8)
set_option linter.unusedSimpArgs false
set_option linter.defProp false
set_option linter.unusedVariables false
set_option maxRecDepth 100000
set_option maxHeartbeats 1000000
noncomputable section
attribute [local irreducible] zl7 zl8 zb2 za3 zd9 za8 zm2 zj6 zg1 zg2 zf8 zb1 zf5 zg6 zj1 ze3 za9 zj4 zi1 zh6 zg4 zf2 zc4 zi7 zb0 zf0 zl9 zh2 zm6 zh3 zi2 zk8 zn7 zm0 f_ref08_holds zc3 zk9 ze0 zm3 zf7 zh4 zf6 zb3 zl0 za0 ze7 zi5 ze8 zj3 zd7 zg5 zb4 zb5 zf1 zh7 zm8 zd3 zh9 zn6 zk3 zc9 zq5 za1 zi6 zg3 zd8 zn8 zc0 zd5 zf3 zp8 zo8 ze4 zk2 zb7 zh8 zd6 zp2 zd0 zb8 zs6 zj0 zn9 zj2 zp3 zl1 zh1 zq0 zl5 zu2 zg8 zb6 ze6 zk4 zi9 zf9 zj5 zp4 zg9 zi3 ze5 ze2 zq7 zt2 zi4 zl2 zs8 zt1 zs9 zm1 zt7 zs2 zf4 zr3 zt8 zp5 zd4 zq8 zo0 zh5 zd2 zi8 za7 zu3 zc8 za6 zj9 zr0
def zaq1 (a0:aI) (j1:(List aD)):Option Bool :=
 (zl2 a0 j1).bind fun v1 =>
 some v1
def zT1 (a0:aI) (a1:List aV) (g1:Int×(List aD)):Option ((Int×(List aD))⊕((List aD)⊕Bool)) :=
 (if (decide (g1.1 < (a1.length:Int)))=true then
  gd (0≤g1.1∧g1.1 < (a1.length:Int)) <|
  (if ((!(zc5 ((a1.getD g1.1.toNat aV.zero).aJ)))||(!(za4 a0 ((a1.getD g1.1.toNat aV.zero).aN))))=true then
   some (.inr (.inr false))
  else
   gd (decide (0 < g1.1)=true→0≤i64.wrap (g1.1 - 1)∧i64.wrap (g1.1 - 1) < (a1.length:Int)) <|
   ((if (decide (0 < g1.1))=true then zd8 ((a1.getD ((i64.wrap (g1.1 - 1)).toNat) aV.zero).aJ) ((a1.getD g1.1.toNat aV.zero).aJ) else some 0)).bind fun v2 =>
   (if (decide (0 < g1.1)&&decide (0≤v2))=true then
    some (.inr (.inr false))
   else
    gd (g1.2.length+1≤4294967296) <|
    some (.inl ((i64.wrap (g1.1+1)),(g1.2++[(a1.getD g1.1.toNat aV.zero).aN])))))
 else
  some (.inr (.inl g1.2)))
def zs3 (a0:aI) (a1:List aV):Option Bool :=
 (if ((!(ze9 a0))||decide (8 < (a1.length:Int)))=true then
  some false
 else
  (zb9 (zT1 a0 a1) (0,[])).bind (fun|.inl z=>zaq1 a0 z|.inr z=>some z))
@[reducible,instance] def zeb1 (a0:aI) a1:=mkJ (zs3 a0 a1) 0 (@zaq1.eq_1 a0) fun (j1:(List aD))=>⟨[(2,.ptr 0 0 0),(5,.own 1 0 j1.length)],[(0,bx a0),(1,sx j1)],2⟩
@[reducible,instance] def zeb2 (a0:aI) (a1:List aV) {T:Type} (x:T):=mkL x (@zT1.eq_1 a0 a1) fun (g1:Int×(List aD))=>⟨[(1,la a1),(2,.ptr 0 0 0),(5,.own 1 0 g1.2.length),(16,la a1),(17,.int .i64 (a1.length:Int)),(18,.int .i64 g1.1)],[(0,bx a0),(1,sx g1.2)],2⟩
instance zcK2 (a0:aI) (a1:List aV):OkP (zs3 a0 a1) 165 [ga a0,la a1] (fun r=>.bool r):=ok1 (zs3.eq_1 a0 a1) Tryz.f165 [(5,1)]
attribute [local irreducible] zs3
def zr2 (a0:List bI) (a1:aK):Option Int :=
 (zd2 a0 a1).bind fun v1 =>
 some v1.1
instance zaJ2 (a0:List bI) (a1:aK):OkP (zr2 a0 a1) 24 [la a0,ga a1] (fun r=>.int .i64 r):=ok1 (zr2.eq_1 a0 a1) Tryz.f24 []
attribute [local irreducible] zr2
def zaS0 (j1:Unit):Option Bool :=
 some true
def zak9 (a0:List aI) (g1:Int):Option (Int⊕(Unit⊕Bool)) :=
 (if (decide (g1 < (a0.length:Int)))=true then
  gd (0≤g1∧g1 < (a0.length:Int)) <|
  (zj9 (a0.getD g1.toNat aI.zero)).bind fun v1 =>
  gd ((v1&&decide (0 < g1))=true→0≤i64.wrap (g1 - 1)∧i64.wrap (g1 - 1) < (a0.length:Int)) <|
  gd ((v1&&decide (0 < g1))=true→0≤g1∧g1 < (a0.length:Int)) <|
  (if ((!v1)||(decide (0 < g1)&&(!Op.bytesLess ((a0.getD ((i64.wrap (g1 - 1)).toNat) aI.zero).name).toList ((a0.getD g1.toNat aI.zero).name).toList)))=true then
   some (.inr (.inr false))
  else
   some (.inl (i64.wrap (g1+1))))
 else
  some (.inr (.inl ())))
def zw3 (a0:List aI):Option Bool :=
 (if (decide (8 < (a0.length:Int)))=true then
  some false
 else
  (zb9 (zak9 a0) 0).bind (fun|.inl z=>zaS0 z|.inr z=>some z))
@[reducible,instance] def zdQ9 a0:=mkJ (zw3 a0) 0 (@zaS0.eq_1) fun (j1:Unit)=>⟨[],[],0⟩
@[reducible,instance] def zdR0 (a0:List aI) {T:Type} (x:T):=mkL x (@zak9.eq_1 a0) fun (g1:Int)=>⟨[(0,la a0),(3,.int .i64 g1)],[],0⟩
instance zcY2 (a0:List aI):OkP (zw3 a0) 151 [la a0] (fun r=>.bool r):=ok1 (zw3.eq_1 a0) Tryz.f151 []
attribute [local irreducible] zw3
def zaE9 (a0 j1:aW):Option (aW×Bool) :=
 (if (decide (((j1.aH.length:Nat):Int)=(a0.aH.length:Int)))=true then
  some ({ aW.zero with  },false)
 else
  some (j1,true))
def zaF0 (g1:Int×aW) (j2:aW):Option ((Int×aW)⊕aW) :=
 some (.inl ((i64.wrap (g1.1+1)),j2))
def zae2 (a0:aW) (g1 g2:Int×aW):Option ((Int×aW)⊕aW) :=
 (if (decide (g2.1 < ((g2.2.aY.length:Nat):Int)))=true then
  gd (0≤g2.1∧g2.1 < (a0.aY.length:Int)) <|
  (if (decide (g1.1 < (a0.aY.getD g2.1.toNat bN.zero).at_))=true then
   gd (0≤g2.1∧g2.1 < ((g2.2.aY.length:Nat):Int)) <|
   gd (0≤g2.1∧g2.1 < ((g2.2.aY.length:Nat):Int)) <|
   some (.inl ((i64.wrap (g2.1+1)),(⟨g2.2.aH,g2.2.aY.set g2.1.toNat ({ (g2.2.aY.getD g2.1.toNat bN.zero) with at_:=(i64.wrap ((g2.2.aY.getD g2.1.toNat bN.zero).at_ - 1)) })⟩:aW)))
  else
   some (.inl ((i64.wrap (g2.1+1)),g2.2)))
 else
  some (.inr g2.2))
def zV4 (a0:aW) (a1:ByteArray) (g1:Int×aW):Option ((Int×aW)⊕aW) :=
 (if (decide (g1.1 < (a0.aH.length:Int)))=true then
  gd (0≤g1.1∧g1.1 < (a0.aH.length:Int)) <|
  (if (!(((a0.aH.getD g1.1.toNat bG.zero).name).toList == a1.toList))=true then
   gd (0≤g1.1∧g1.1 < (a0.aH.length:Int)) <|
   gd (g1.2.aH.length+1≤4294967296) <|
   some (.inl ((i64.wrap (g1.1+1)),(⟨(g1.2.aH++[(a0.aH.getD g1.1.toNat bG.zero)]),g1.2.aY⟩:aW)))
  else
   (zb9 (zae2 a0 g1) (0,g1.2)).bind (fun z=>zaF0 g1 z))
 else
  some (.inr g1.2))
def zy6 (a0:aW) (a1:ByteArray):Option (aW×Bool) :=
 (zp5 a0).bind fun v1 =>
 (if (!v1)=true then
  some ({ aW.zero with  },false)
 else
  gd (a0.aY.length≤4294967296) <|
  (zb9 (zV4 a0 a1) (0,(⟨[],a0.aY⟩:aW))).bind (fun z=>zaE9 a0 z))
@[reducible,instance] def zdR1 (a0:aW) (a1:ByteArray) {T1:Type} (v1:T1):=mkJ (zy6 a0 a1,v1) 0 (@zaE9.eq_1 a0) fun (j1:aW)=>⟨[(2,.ptr 0 0 0),(4,.ptr 1 0 0),(6,.ptr 2 0 0)],[(0,bx a0),(1,bx aW.zero),(2,⟨false,2,aW.enc aW.zero,[[.own 3 0 j1.aH.length,.own 4 0 j1.aY.length]]⟩),(3,sx j1.aH),(4,sx j1.aY)],5⟩
@[reducible,instance] def zdR2 (a0:aW) (a1:ByteArray) (g1:Int×aW):=mkJ (zV4 a0 a1 g1) 2 (@zaF0.eq_1 g1) fun (j2:aW)=>⟨[(1,.str a1),(2,.ptr 0 0 0),(4,.ptr 1 0 0),(6,.ptr 2 0 0),(7,.int .i64 g1.1)],[(0,bx a0),(1,bx aW.zero),(2,⟨false,2,aW.enc aW.zero,[[.own 3 0 j2.aH.length,.own 4 0 j2.aY.length]]⟩),(3,sx j2.aH),(4,sx j2.aY)],5⟩
@[reducible,instance] def zdR3 (a0:aW) (a1:ByteArray) (g1:Int×aW):=mkL (zV4 a0 a1 g1) (@zae2.eq_1 a0 g1) fun (g2:Int×aW)=>⟨[(1,.str a1),(2,.ptr 0 0 0),(4,.ptr 1 0 0),(6,.ptr 2 0 0),(7,.int .i64 g1.1),(8,.int .i64 g2.1)],[(0,bx a0),(1,bx aW.zero),(2,⟨false,2,aW.enc aW.zero,[[.own 3 0 g2.2.aH.length,.own 4 0 g2.2.aY.length]]⟩),(3,sx g2.2.aH),(4,sx g2.2.aY)],5⟩
@[reducible,instance] def zdR4 (a0:aW) (a1:ByteArray) {T:Type} (x:T):=mkL x (@zV4.eq_1 a0 a1) fun (g1:Int×aW)=>⟨[(1,.str a1),(2,.ptr 0 0 0),(4,.ptr 1 0 0),(6,.ptr 2 0 0),(7,.int .i64 g1.1)],[(0,bx a0),(1,bx aW.zero),(2,⟨false,2,aW.enc aW.zero,[[.own 3 0 g1.2.aH.length,.own 4 0 g1.2.aY.length]]⟩),(3,sx g1.2.aH),(4,sx g1.2.aY)],5⟩
instance zdh4 (a0:aW) (a1:ByteArray):OkP (zy6 a0 a1) 254 [ga a0,.str a1] (fun r=>.tup [ga r.1,.bool r.2]):=⟨fun r h=>by
 refine zY9 Tryz.f254 [(13,1),(17,5),(6,5)] fun E hG hN hK=>?_
 have hm:Mk (zy6 a0 a1):=trivial
 unfold zy6 at h
 refine za2 (za5 hG ?_)
 refine za2 (za2 (za5 hG ?_))
 obtain ⟨v1,hv1,h⟩:=zc7 h
 have hm:=mkP hm v1
 refine zr9 (fun hg=>(zbd4 a0).ok _ hv1) ?_
 refine zl4 rfl hG h (fun _ h=>?_) (fun _ h=>?_)
 · exact gogo
 refine zk1 ?_
 refine za2 ?_
 obtain ⟨hb7,h⟩:=ze1 h
 refine za5 hG ?_
 refine g_gh (.ownb 4 0 5 (bG.enc bG.zero)) ?_
 exact gogo⟩
attribute [local irreducible] zy6
def zaF1 (a0:aW) (j1:Int×Int) (j2:(List aM)):Option (aW×(List aM)×Int) :=
 some ((⟨(a0.aH.take j1.1.toNat),a0.aY.take j1.2.toNat⟩:aW),j2,0)
@[go_sem] def zdu0 (a0:aW) (j1:Int×Int) (j2:(List aM)):St:=⟨[(4,.ptr 0 0 0),(10,.ptr 1 0 0),(11,.own 2 0 j2.length)],[(0,bx aW.zero),(1,⟨false,2,aW.enc aW.zero,[[.own 3 0 (((⟨(a0.aH.take j1.1.toNat),a0.aY.take j1.2.toNat⟩:aW).aH).length),.own 4 0 (((⟨(a0.aH.take j1.1.toNat),a0.aY.take j1.2.toNat⟩:aW).aY).length)]]⟩),(2,sx j2),(3,sx ((⟨(a0.aH.take j1.1.toNat),a0.aY.take j1.2.toNat⟩:aW).aH)),(4,sx ((⟨(a0.aH.take j1.1.toNat),a0.aY.take j1.2.toNat⟩:aW).aY))],5⟩
def zae3 (a0:aW) (j1:Int×Int) (v2:(List ByteArray)) (g1:Int×(List aM)):Option ((Int×(List aM))⊕(List aM)) :=
 (if (decide (g1.1 < (v2.length:Int)))=true then
  gd (0≤g1.1∧g1.1 < (v2.length:Int)) <|
  gd (0≤g1.1∧g1.1 < (v2.length:Int)) <|
  (zi5 ((⟨(a0.aH.take j1.1.toNat),a0.aY.take j1.2.toNat⟩:aW).aH) (v2.getD g1.1.toNat ⟨#[]⟩)).bind fun v3 =>
  gd (g1.2.length+1≤4294967296) <|
  some (.inl ((i64.wrap (g1.1+1)),(g1.2++[(⟨(v2.getD g1.1.toNat ⟨#[]⟩),v3⟩:aM)])))
 else
  some (.inr g1.2))
@[go_sem] def zdu1 (a0:aW) (j1:Int×Int) (v2:(List ByteArray)) (g1:Int×(List aM)):St:=⟨[(4,.ptr 0 0 0),(10,.ptr 1 0 0),(11,.own 2 0 g1.2.length),(12,.sl (v2.map eS)),(13,.int .i64 g1.1)],[(0,bx aW.zero),(1,⟨false,2,aW.enc aW.zero,[[.own 3 0 (((⟨(a0.aH.take j1.1.toNat),a0.aY.take j1.2.toNat⟩:aW).aH).length),.own 4 0 (((⟨(a0.aH.take j1.1.toNat),a0.aY.take j1.2.toNat⟩:aW).aY).length)]]⟩),(2,sx g1.2),(3,sx ((⟨(a0.aH.take j1.1.toNat),a0.aY.take j1.2.toNat⟩:aW).aH)),(4,sx ((⟨(a0.aH.take j1.1.toNat),a0.aY.take j1.2.toNat⟩:aW).aY))],5⟩
def zV5 (a0:aW) (j1:Int×Int):Option (aW×(List aM)×Int) :=
 gd (0≤0∧0≤j1.1∧j1.1≤(a0.aH.length:Int)) <|
 gd ((a0.aH.take j1.1.toNat).length≤4294967296) <|
 gd (0≤0∧0≤j1.2∧j1.2≤(a0.aY.length:Int)) <|
 gd ((a0.aY.take j1.2.toNat).length≤4294967296) <|
 gd (0≤j1.1∧j1.1≤(a0.aH.length:Int)∧(a0.aH.length:Int)≤(a0.aH.length:Int)) <|
 (zi1 (a0.aH.drop j1.1.toNat)).bind fun v2 =>
 (zb9 (zae3 a0 j1 v2) (0,[])).bind (fun z=>zaF1 a0 j1 z)
@[go_sem] def zdu2 (a0:aW) (j1:Int×Int):St:=⟨[(2,.ptr 0 0 0),(4,.ptr 1 0 0),(7,.int .i64 j1.1),(8,.int .i64 j1.2)],[(0,bx a0),(1,bx aW.zero)],2⟩
def zA0 (a0:aW) (a1:Int):Option (aW×(List aM)×Int) :=
 (zp5 a0).bind fun v1 =>
 (if (!v1)=true then
  some ({ aW.zero with  },[],2)
 else
  (if (!decide (a1=0))=true then
   (zk8 a0.aY a1).bind fun v4 =>
   (if (decide (v4 < 0))=true then
    some ({ aW.zero with  },[],10)
   else
    gd (0≤v4∧v4 < (a0.aY.length:Int)) <|
    zV5 a0 ((a0.aY.getD v4.toNat bN.zero).at_,i64.wrap (v4+1)))
  else
   zV5 a0 (0,0)))
theorem zbT4 (a0:aW) (a1:Int) (r:aW×(List aM)×Int) (h:zA0 a0 a1=some r):PFn C 255 [ga a0,.int .i64 a1] (.tup [ga r.1,la r.2.1,.int .i64 r.2.2]):=by
 refine zY9 Tryz.f255 [(35,1),(41,1),(47,2),(11,1)] fun E hG hN hK=>?_
 unfold zA0 at h
 refine za2 (za5 hG ?_)
 refine za2 (za2 (za5 hG ?_))
 obtain ⟨v1,hv1,h⟩:=zc7 h
 refine zr9 (fun hg=>(zbd4 a0).ok _ hv1) ?_
 refine zl4 rfl hG h (fun _ h=>?_) (fun _ h=>?_)
 · refine za2 (za5 hG ?_)
   refine zt4 ?_
   exact zJ4 h
 refine zk1 ?_
 refine za2 (za5 hG ?_)
 refine za2 (za2 (za5 hG ?_))
 refine zbh3 (zdu2 a0) (fun v=>zV5 a0 v=some r) rfl hG h ?_ (fun _ h=>?_) (fun _ h=>?_)
 · intro j1 h
   unfold zV5 at h
   refine g_st ?_
   refine za2 ?_
   obtain ⟨hb5,h⟩:=ze1 h
   obtain ⟨hb6,h⟩:=ze1 h
   obtain ⟨hb7,h⟩:=ze1 h
   obtain ⟨hb8,h⟩:=ze1 h
   refine zam5 zz1 hG ?_
   refine za2 (za5 hG ?_)
   refine za2 ?_
   obtain ⟨hb4,h⟩:=ze1 h
   refine za5 hG ?_
   obtain ⟨v2,hv2,h⟩:=zc7 h
   refine zr9 (fun hg=>(zbK2 (a0.aH.drop j1.1.toNat)).ok _ hv2) ?_
   refine za2 (za2 (za5 hG ?_))
   refine zD0 (zdu0 a0 j1) (fun v=>zaF1 a0 j1 v=some r) ?_ ?_
   · intro j2 h
     unfold zaF1 at h
     refine g_st ?_
     refine za2 (za5 hG ?_)
     refine zt4 ?_
     exact zJ4 h
   refine zY8 (zdu1 a0 j1 v2) hK [(0,1),(1,6),(2,7),(3,3),(4,5)] h (fun x_l1 h g1 y_l1 h_l1 hx_l1=>?_)
   unfold zae3 at h_l1
   refine g_st ?_
   refine za2 (za2 (za5 hG ?_))
   refine zl4 rfl hG h_l1 (fun _ h_l1=>?_) (fun _ h_l1=>?_)
   · refine zk1 ?_
     refine za2 (zC3 ?_)
     obtain ⟨hb2,h_l1⟩:=ze1 h_l1
     obtain ⟨hb3,h_l1⟩:=ze1 h_l1
     refine zam5 zz1 hG ?_
     obtain ⟨v3,hv3,h_l1⟩:=zc7 h_l1
     obtain ⟨hb1,h_l1⟩:=ze1 h_l1
     refine zV9 (fun hg=>(zbT0 ((⟨(a0.aH.take j1.1.toNat),a0.aY.take j1.2.toNat⟩:aW).aH) (v2.getD g1.1.toNat ⟨#[]⟩)).ok _ hv3) ?_
     refine za5 hG ?_
     exact zJ0 hK [(0,0),(1,1),(2,5),(3,3),(4,4)] h_l1
   refine zG4 ?_
   cases h_l1
   cases hx_l1 _ rfl
   exact zA9 hK [(0,0),(1,1),(2,2),(3,3),(4,4)] g1.2 (by exact h)
 · refine za2 (za5 hG ?_)
   obtain ⟨v4,hv4,h⟩:=zc7 h
   refine zr9 (fun hg=>(zbS7 a0.aY a1).ok _ hv4) ?_
   refine za2 (za2 (za5 hG ?_))
   refine zl4 rfl hG h (fun _ h=>?_) (fun _ h=>?_)
   · refine za2 (za5 hG ?_)
     refine zt4 ?_
     exact zJ4 h
   refine zk1 ?_
   obtain ⟨hb9,h⟩:=ze1 h
   refine za5 hG ?_
   exact zA9 hK [(0,0),(1,1)] ((a0.aY.getD v4.toNat bN.zero).at_,i64.wrap (v4+1)) (by exact h)
 refine zk1 ?_
 exact zA9 hK [(0,0),(1,1)] (0,0) (by exact h)
attribute [local irreducible] zA0
def zr7 (a0 a1:aL):Option Bool :=
 (za7 a0.aC a1.aC).bind fun v1 =>
 ((if v1=true then za6 a0.aU a1.aU else some false)).bind fun v2 =>
 some (v1&&v2)
instance zcw8 (a0 a1:aL):OkP (zr7 a0 a1) 9 [ga a0,ga a1] (fun r=>.bool r):=⟨fun r h=>by
 refine zY9 Tryz.f9 [] fun E hG hN hK=>?_
 have hm:Mk (zr7 a0 a1):=trivial
 unfold zr7 at h
 refine za2 (za5 hG ?_)
 refine za2 (za5 hG ?_)
 obtain ⟨v1,hv1,h⟩:=zc7 h
 have hm:=mkP hm v1
 refine zr6 [] [] [] ((zF8 a0.aC a1.aC).ok _ hv1) rfl rfl ?_
 obtain ⟨v2,hv2,h⟩:=zc7 h
 have hm:=mkP hm v2
 refine zaQ8 [] [] hv2 (fun hc=>(zx3 a0.aU a1.aU).ok _ hc) rfl ?_
 exact gogo⟩
attribute [local irreducible] zr7
attribute [local irreducible] zo6 zl6 zt9 zv1 zx1 zo7 zr1 zc1 zx5 zx6
def zL0 (a0 a1:aL):Option Bool :=
 (zc1 a0.aC a1.aC).bind fun v1 =>
 ((if v1=true then za6 a0.aU a1.aU else some false)).bind fun v2 =>
 some (v1&&v2)
instance zbs2 (a0 a1:aL):OkP (zL0 a0 a1) 15 [ga a0,ga a1] (fun r=>.bool r):=⟨fun r h=>by
 refine zY9 Tryz.f15 [] fun E hG hN hK=>?_
 have hm:Mk (zL0 a0 a1):=trivial
 unfold zL0 at h
 refine za2 (za5 hG ?_)
 refine za2 (za5 hG ?_)
 obtain ⟨v1,hv1,h⟩:=zc7 h
 have hm:=mkP hm v1
 refine zr6 [] [] [] ((zH0 a0.aC a1.aC).ok _ hv1) rfl rfl ?_
 obtain ⟨v2,hv2,h⟩:=zc7 h
 have hm:=mkP hm v2
 refine zaQ8 [] [] hv2 (fun hc=>(zx3 a0.aU a1.aU).ok _ hc) rfl ?_
 exact gogo⟩
attribute [local irreducible] zL0
def zaS1 (j2:Unit):Option Bool :=
 some true
def zal0 (a0:aA) (g1:Int):Option (Int⊕(Unit⊕Bool)) :=
 (if (decide (g1 < (a0.aS.length:Int)))=true then
  gd (0≤g1∧g1 < (a0.aS.length:Int)) <|
  gd (zs7 a0.aB ((a0.aS.getD g1.toNat aT.zero).aN)=true→0≤g1∧g1 < (a0.aS.length:Int)) <|
  ((if (zs7 a0.aB ((a0.aS.getD g1.toNat aT.zero).aN))=true then zm2 a0.aQ ((a0.aS.getD g1.toNat aT.zero).aJ) else some aD.zero)).bind fun v4 =>
  (if ((!(zs7 a0.aB ((a0.aS.getD g1.toNat aT.zero).aN)))||(!(zk7 v4)))=true then
   some (.inr (.inr false))
  else
   some (.inl (i64.wrap (g1+1))))
 else
  some (.inr (.inl ())))
def zal1 (a0:aA) (j1:Unit):Option Bool :=
 (zb9 (zal0 a0) 0).bind (fun|.inl z=>zaS1 z|.inr z=>some z)
def zS4 (a0:aA) (g2:Int):Option (Int⊕(Unit⊕Bool)) :=
 (if (decide (g2 < (a0.aO.length:Int)))=true then
  gd (0≤g2∧g2 < (a0.aO.length:Int)) <|
  (zm2 a0.aQ ((a0.aO.getD g2.toNat aT.zero).aJ)).bind fun v5 =>
  ((if (!(((((zk7 v5||(!(zs7 a0.aB ((a0.aO.getD g2.toNat aT.zero).aN))))||(!(zq9 a0.aB ((a0.aO.getD g2.toNat aT.zero).aN) v5)))||decide ((a0.aO.getD g2.toNat aT.zero).aN=v5))||(!decide ((a0.aO.getD g2.toNat aT.zero).bC=0)))||(!decide ((a0.aO.getD g2.toNat aT.zero).bR=0))))=true then zj4 a0.aO ((a0.aO.getD g2.toNat aT.zero).aJ) else some 0)).bind fun v6 =>
  (if ((((((zk7 v5||(!(zs7 a0.aB ((a0.aO.getD g2.toNat aT.zero).aN))))||(!(zq9 a0.aB ((a0.aO.getD g2.toNat aT.zero).aN) v5)))||decide ((a0.aO.getD g2.toNat aT.zero).aN=v5))||(!decide ((a0.aO.getD g2.toNat aT.zero).bC=0)))||(!decide ((a0.aO.getD g2.toNat aT.zero).bR=0)))||(!decide (v6=g2)))=true then
   some (.inr (.inr false))
  else
   some (.inl (i64.wrap (g2+1))))
 else
  some (.inr (.inl ())))
def zD2 (a0:aA):Option Bool :=
 (zj9 a0.aB).bind fun v1 =>
 ((if v1=true then zt9 a0.aB a0.aQ else some false)).bind fun v2 =>
 ((if (!(((!v1)||(!v2))||decide (8 < (a0.aO.length:Int))))=true then zt8 a0.aS else some false)).bind fun v3 =>
 (if (((((((!v1)||(!v2))||decide (8 < (a0.aO.length:Int)))||(!v3))||decide (8 < i64.wrap ((a0.aQ.length:Int)+(a0.aS.length:Int))))||decide (a0.gen < 0))||decide (1073741824 < a0.gen))=true then
  some false
 else
  (zb9 (zS4 a0) 0).bind (fun|.inl z=>zal1 a0 z|.inr z=>some z))
@[reducible,instance] def zdR5 a0 j1:=mkJ (zal1 a0 j1) 2 (@zaS1.eq_1) fun (j2:Unit)=>⟨[],[],0⟩
@[reducible,instance] def zdR6 (a0:aA) {T:Type} (x:T):=mkL x (@zal0.eq_1 a0) fun (g1:Int)=>⟨[(1,.ptr 0 0 0),(3,.ptr 1 0 0),(7,.int .i64 g1)],[(0,bx a0),(1,bx a0.aB)],2⟩
@[reducible,instance] def zdR7 (a0:aA) {T1:Type} (v1:T1) {T2:Type} (v2:T2) {T3:Type} (v3:T3):=mkJ (((zD2 a0,v1),v2),v3) 0 (@zal1.eq_1 a0) fun (j1:Unit)=>⟨[(1,.ptr 0 0 0),(3,.ptr 1 0 0)],[(0,bx a0),(1,bx a0.aB)],2⟩
@[reducible,instance] def zdR8 (a0:aA) {T:Type} (x:T):=mkL x (@zS4.eq_1 a0) fun (g2:Int)=>⟨[(1,.ptr 0 0 0),(3,.ptr 1 0 0),(4,.int .i64 g2)],[(0,bx a0),(1,bx a0.aB)],2⟩
instance zcY3 (a0:aA):OkP (zD2 a0) 227 [ga a0] (fun r=>.bool r):=ok1 (zD2.eq_1 a0) Tryz.f227 []
attribute [local irreducible] zD2
def zI5 (a0:List aI) (a1:aM):Option Int :=
 (zw3 a0).bind fun v1 =>
 (if (!v1)=true then
  some 2
 else
  (zm0 a0 a1.name).bind fun v2 =>
  (if (!v2.2)=true then
   some 10
  else
   (if (!(zs7 v2.1 a1.aN))=true then
    some 12
   else
    some 0)))
instance zcK3 (a0:List aI) (a1:aM):OkP (zI5 a0 a1) 197 [la a0,ga a1] (fun r=>.int .i64 r):=ok1 (zI5.eq_1 a0 a1) Tryz.f197 []
attribute [local irreducible] zI5
def zz3 (a0:aI) (a1:List aV) (a2:aK) (a3:aD):Option Bool :=
 (zs3 a0 a1).bind fun v1 =>
 some ((v1&&zc5 a2)&&za4 a0 a3)
instance zcE9 (a0:aI) (a1:List aV) (a2:aK) (a3:aD):OkP (zz3 a0 a1 a2 a3) 168 [ga a0,la a1,ga a2,ga a3] (fun r=>.bool r):=ok1 (zz3.eq_1 a0 a1 a2 a3) Tryz.f168 []
attribute [local irreducible] zz3
def zbd8 (j1:(List aA)):Option ((List aA)×Int) :=
 some (j1,0)
def zav6 (a0:List aI) (g1:Int×(List aA)):Option ((Int×(List aA))⊕(List aA)) :=
 (if (decide (g1.1 < (a0.length:Int)))=true then
  gd (0≤g1.1∧g1.1 < (a0.length:Int)) <|
  gd (g1.2.length+1≤4294967296) <|
  some (.inl ((i64.wrap (g1.1+1)),(g1.2++[{ aA.zero with aB:=(a0.getD g1.1.toNat aI.zero) }])))
 else
  some (.inr g1.2))
def zN5 (a0:List aI):Option ((List aA)×Int) :=
 (zw3 a0).bind fun v1 =>
 (if (!v1)=true then
  some ([],1)
 else
  (zb9 (zav6 a0) (0,[])).bind (fun z=>zbd8 z))
@[reducible,instance] def zdR9 a0 {T1:Type} (v1:T1):=mkJ (zN5 a0,v1) 0 (@zbd8.eq_1) fun (j1:(List aA))=>⟨[(4,.own 0 0 j1.length)],[(0,sx j1)],1⟩
@[reducible,instance] def zdS0 (a0:List aI) {T:Type} (x:T):=mkL x (@zav6.eq_1 a0) fun (g1:Int×(List aA))=>⟨[(0,la a0),(4,.own 0 0 g1.2.length),(5,.int .i64 g1.1)],[(0,sx g1.2)],1⟩
instance zdl3 (a0:List aI):OkP (zN5 a0) 95 [la a0] (fun r=>.tup [la r.1,.int .i64 r.2]):=ok1 (zN5.eq_1 a0) Tryz.f95 [(4,1)]
attribute [local irreducible] zN5
def zaZ6 (v1 v2:aD) (v3:aD×Bool) (j1:Unit):Option Bool :=
 some (decide (v2=v1)&&(!v3.2))
def zaZ7 (v1 v2:aD) (v3:aD×Bool) (v4:aD) (j2:Unit):Option (Int⊕(Unit⊕Bool)) :=
 some (.inr (.inr (decide (v2=v1)&&decide (v3.1=v4))))
def zP5 (a0:aA) (a1:aG) (g2:Int):Option (Int⊕(Unit⊕Bool)) :=
 (if (decide (g2 < (a0.aS.length:Int)))=true then
  gd (0≤g2∧g2 < (a0.aS.length:Int)) <|
  gd (decide ((a0.aS.getD g2.toNat aT.zero).aJ=a1.aJ)=true→0≤g2∧g2 < (a0.aS.length:Int)) <|
  (if (decide ((a0.aS.getD g2.toNat aT.zero).aJ=a1.aJ)&&(!decide ((a0.aS.getD g2.toNat aT.zero).bC=a1.aZ.bC)))=true then
   some (.inr (.inr false))
  else
   some (.inl (i64.wrap (g2+1))))
 else
  some (.inr (.inl ())))
def zV6 (a0:aA) (a1:aG) (a2:List aM) (v1 v2:aD) (v3:aD×Bool) (g1:Int):Option (Int⊕(Unit⊕Bool)) :=
 (if (decide (g1 < (a2.length:Int)))=true then
  gd (0≤g1∧g1 < (a2.length:Int)) <|
  (if ((!(((a2.getD g1.toNat aM.zero).name).toList == a0.aB.name.toList))||zq9 a0.aB v1 ((a2.getD g1.toNat aM.zero).aN))=true then
   some (.inl (i64.wrap (g1+1)))
  else
   (zx1 a0.aB v1 ((a2.getD g1.toNat aM.zero).aN)).bind fun v4 =>
   (if (!v3.2)=true then
    some (.inr (.inr (decide (v2=v4))))
   else
    (zb9 (zP5 a0 a1) 0).bind (fun|.inl z=>zaZ7 v1 v2 v3 v4 z|.inr z=>some (.inr (.inr z)))))
 else
  some (.inr (.inl ())))
def zH1 (a0:aA) (a1:aG) (a2:List aM):Option Bool :=
 (zi5 a1.bB.aH a0.aB.name).bind fun v1 =>
 (zi6 a0 a1.aJ).bind fun v2 =>
 (zh7 a0 a1.aJ).bind fun v3 =>
 (zb9 (zV6 a0 a1 a2 v1 v2 v3) 0).bind (fun|.inl z=>zaZ6 v1 v2 v3 z|.inr z=>some z)
@[reducible,instance] def zdS1 a0 a1 a2 (v1 v2:aD) (v3:aD×Bool):=mkJ (((zH1 a0 a1 a2,v1),v2),v3) 0 (@zaZ6.eq_1 v1 v2 v3) fun (j1:Unit)=>⟨[(7,.ptr 0 0 0),(8,.ptr 1 0 0),(10,.bool v3.2)],[(0,bx v1),(1,bx v2)],2⟩
@[reducible,instance] def zdS2 a0 a1 a2 (v1 v2:aD) (v3:aD×Bool) g1 (v4:aD):=mkJ (zV6 a0 a1 a2 v1 v2 v3 g1,v4) 2 (@zaZ7.eq_1 v1 v2 v3 v4) fun (j2:Unit)=>⟨[(7,.ptr 0 0 0),(8,.ptr 1 0 0),(9,.ptr 2 0 0),(13,.ptr 3 0 0)],[(0,bx v1),(1,bx v2),(2,bx v3.1),(3,bx v4)],4⟩
@[reducible,instance] def zdS3 (a0:aA) (a1:aG) a2 (v1 v2:aD) (v3:aD×Bool) g1 (v4:aD):=mkL (zV6 a0 a1 a2 v1 v2 v3 g1,v4) (@zP5.eq_1 a0 a1) fun (g2:Int)=>⟨[(3,.ptr 0 0 0),(4,.ptr 1 0 0),(7,.ptr 2 0 0),(8,.ptr 3 0 0),(9,.ptr 4 0 0),(13,.ptr 5 0 0),(14,.int .i64 g2)],[(0,bx a0),(1,bx a1),(2,bx v1),(3,bx v2),(4,bx v3.1),(5,bx v4)],6⟩
@[reducible,instance] def zdS4 (a0:aA) (a1:aG) (a2:List aM) (v1 v2:aD) (v3:aD×Bool) {T:Type} (x:T):=mkL x (@zV6.eq_1 a0 a1 a2 v1 v2 v3) fun (g1:Int)=>⟨[(2,la a2),(3,.ptr 0 0 0),(4,.ptr 1 0 0),(7,.ptr 2 0 0),(8,.ptr 3 0 0),(9,.ptr 4 0 0),(10,.bool v3.2),(11,.int .i64 g1)],[(0,bx a0),(1,bx a1),(2,bx v1),(3,bx v2),(4,bx v3.1)],5⟩
instance zdh5 (a0:aA) (a1:aG) (a2:List aM):OkP (zH1 a0 a1 a2) 148 [ga a0,ga a1,la a2] (fun r=>.bool r):=ok1 (zH1.eq_1 a0 a1 a2) Tryz.f148 []
attribute [local irreducible] zH1
end
end Ab
end Go.Proofs.YtfkjffmjkbkmhaaGreatDoor
