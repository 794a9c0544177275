import Derived.Test.YtcggeefhhegeoaaGreatDoorHm10
import Derived.Test.YtcggeefhhegeoaaGreatDoorHm16
import Derived.Test.YtcggeefhhegeoaaGreatDoorHm18
namespace Go.Proofs.YtcggeefhhegeoaaGreatDoor
namespace Ab
open IntKind (i64 u64 u8)
set_option linter.unusedSimpArgs false
set_option linter.unusedVariables false
set_option linter.defProp false
set_option maxRecDepth 100000
set_option maxHeartbeats 1000000
noncomputable section
attribute [local irreducible] zk1 za4 zd6 za7 zg5 zj4 zl7 zg2 zl8 zg1 zd7 zk9 ze5 zi3 ze3 zi6 za8 za0 ze9 zl0 zn1 zi9 zi2 zg9 zh2 zg6 zc8 zf0 zh3 zg3 zf1 zb0 zb1 zh4 zj0 zf2 zo5 f_ref08_holds zk2 zc6 zn7 zn8 zn3 ze6 zf6 zm4 zn9 zh5 zl1 zm7 zd5 zj5 ze7 zf7 zo8 zo0 zb3 zc4 zi1 zj7 zp6 zq4 zl5 zb7 zn4 zd9 zj2 zp8 zh7 za6 za1 zb8 zi0 zf8 zo1 zj8 ze1 ze4 zd8 zj9 zf9 zr5 zi7 zd3 zp7 zi8 zq1 zb6 zk0 zg8 zj3 zg4 zo4 zm9 zf5 zq9 zi5 zg7 zr7 zt0 zu8 zh1 zu4 zf3 zk7 zb9 za9 zl2 zr6 zm0 ze8 zt1 zc7 zo9 zh8 zh9 zi4 zd4 zc5 zk8 zq8 zt5 zt9 zw6 zf4 zo6 zc3 zc1 zn5 zs8 zu3 zd1 za3 zl9 zt6 zq5 zm5 zk3 zm2 zu2 zj1 zq2 zv5
def zaB5 (j1:Unit):Option Bool :=
 some true
def zE2 (a0:aB) (g1:Int):Option (Int⊕(Unit⊕Bool)) :=
 (if (decide (g1 < (a0.aV.length:Int)))=true then
  gd (0≤g1∧g1 < (a0.aV.length:Int)) <|
  ((if (zb4 a0.aA ((a0.aV.getD g1.toNat aX.zero).aK))=true then zo8 a0 ((a0.aV.getD g1.toNat aX.zero).aP) else some aC.zero)).bind fun v2 =>
  (if ((!(zb4 a0.aA ((a0.aV.getD g1.toNat aX.zero).aK)))||(!(zm1 v2)))=true then
   some (.inr (.inr false))
  else
   some (.inl (i64.wrap (g1+1))))
 else
  some (.inr (.inl ())))
def zq6 (a0:aB):Option Bool :=
 (zu3 a0.aV).bind fun v1 =>
 (if ((!v1)||decide (8 < i64.wrap ((a0.aS.length:Int)+(a0.aV.length:Int))))=true then
  some false
 else
  (zc0 (zE2 a0) 0).bind (fun|.inl z=>zaB5 z|.inr z=>some z))
@[reducible,instance] def zem5 a0 {T1:Type} (v1:T1):=mkJ (zq6 a0,v1) 0 (@zaB5.eq_1) fun (j1:Unit)=>⟨[],[],0⟩
@[reducible,instance] def zem6 (a0:aB) {T:Type} (x:T):=mkL x (@zE2.eq_1 a0) fun (g1:Int)=>⟨[(1,.ptr 0 0 0),(20,la a0.aV),(21,.int .i64 (a0.aV.length:Int)),(22,.int .i64 g1)],[(0,bx a0)],1⟩
instance zcA4 (a0:aB):OkP (zq6 a0) 176 [ga a0] (fun r=>.bool r):=ok1 (zq6.eq_1 a0) Tryz.f176 []
attribute [local irreducible] zq6
def zy1 (a0:aB):Option (List aJ) :=
 (zf1 a0.aS).bind fun v1 =>
 (zt5 a0).bind fun v2 =>
 gd (v1.length+v2.length≤4294967296) <|
 (zm5 (v1++v2)).bind fun v3 =>
 some v3
instance zdf7 (a0:aB):OkP (zy1 a0) 111 [ga a0] (fun r=>la r):=ok1 (zy1.eq_1 a0) Tryz.f111 []
attribute [local irreducible] zy1
def zG1 (j3:aU×aB):Option (aB×aU) :=
 some (j3.2,j3.1)
def zk4 (g1:Int×aU×aB):Option ((Int×aU×aB)⊕(aU×aB)) :=
 (if (decide (0 < g1.1)&&decide (g1.2.1.bC.err=0))=true then
  (zd1 g1.2.1).bind fun v9 =>
  (zc3 v9.2).bind fun v10 =>
  (za9 v10.2).bind fun v11 =>
  (za9 v11.2).bind fun v12 =>
  gd (g1.2.2.aV.length+1≤4294967296) <|
  some (.inl ((i64.wrap (g1.1 - 1)),v12.2,(⟨(⟨g1.2.2.aA.name,g1.2.2.aA.kind,g1.2.2.aA.aT,g1.2.2.aA.home⟩:aH),g1.2.2.aS,g1.2.2.aI,(g1.2.2.aV++[{ { { { aX.zero with aP:=v9.1 } with aK:=v10.1 } with bH:=v11.1 } with bR:=v12.1 }]),g1.2.2.gen⟩:aB)))
 else
  some (.inr (g1.2.1,g1.2.2)))
def zw8 (j2:aU×aB):Option (aB×aU) :=
 (zb9 8 j2.1).bind fun v8 =>
 (zc0 zk4 (v8.1,v8.2,j2.2)).bind (fun z=>zG1 z)
def zk5 (g2:Int×aU×aB):Option ((Int×aU×aB)⊕(aU×aB)) :=
 (if (decide (0 < g2.1)&&decide (g2.2.1.bC.err=0))=true then
  (zd1 g2.2.1).bind fun v13 =>
  (zc3 v13.2).bind fun v14 =>
  gd (g2.2.2.aI.length+1≤4294967296) <|
  some (.inl ((i64.wrap (g2.1 - 1)),v14.2,(⟨(⟨g2.2.2.aA.name,g2.2.2.aA.kind,g2.2.2.aA.aT,g2.2.2.aA.home⟩:aH),g2.2.2.aS,(g2.2.2.aI++[{ aX.zero with aP:=v13.1,aK:=v14.1 }]),g2.2.2.aV,g2.2.2.gen⟩:aB)))
 else
  some (.inr (g2.2.1,g2.2.2)))
def zw9 (j1:aU×aB):Option (aB×aU) :=
 (zb9 8 j1.1).bind fun v7 =>
 (zc0 zk5 (v7.1,v7.2,j1.2)).bind (fun z=>zw8 z)
def zk6 (g3:Int×aU×aB):Option ((Int×aU×aB)⊕(aU×aB)) :=
 (if (decide (0 < g3.1)&&decide (g3.2.1.bC.err=0))=true then
  (zd1 g3.2.1).bind fun v15 =>
  (zc3 v15.2).bind fun v16 =>
  gd (g3.2.2.aS.length+1≤4294967296) <|
  some (.inl ((i64.wrap (g3.1 - 1)),v16.2,(⟨(⟨g3.2.2.aA.name,g3.2.2.aA.kind,g3.2.2.aA.aT,g3.2.2.aA.home⟩:aH),(g3.2.2.aS++[(⟨v15.1,v16.1⟩:aY)]),g3.2.2.aI,g3.2.2.aV,g3.2.2.gen⟩:aB)))
 else
  some (.inr (g3.2.1,g3.2.2)))
def ze2 (a0:aU):Option (aB×aU) :=
 (zc7 a0).bind fun v1 =>
 (za9 v1.2).bind fun v2 =>
 (za9 v2.2).bind fun v3 =>
 (za9 v3.2).bind fun v4 =>
 (za9 v4.2).bind fun v5 =>
 (zb9 8 v5.2).bind fun v6 =>
 (zc0 zk6 (v6.1,v6.2,(⟨(⟨v1.1,v2.1,v3.1,v4.1⟩:aH),[],[],[],v5.1⟩:aB))).bind (fun z=>zw9 z)
@[reducible,instance] def zea6 (j2:aU×aB) {T1:Type} (v8:T1):=mkJ (zw8 j2,v8) 4 (@zG1.eq_1) fun (j3:aU×aB)=>⟨[(2,.ptr 1 0 0),(3,.ptr 2 0 0)],[(0,bx j3.1),(1,bx aB.zero),(2,⟨false,8,aB.enc aB.zero,[[.str j3.2.aA.name,.int .i64 j3.2.aA.kind,.int .i64 j3.2.aA.aT,.int .i64 j3.2.aA.home,.own 3 0 j3.2.aS.length,.own 4 0 j3.2.aI.length,.own 5 0 j3.2.aV.length,.int .i64 j3.2.gen]]⟩),(3,sx j3.2.aS),(4,sx j3.2.aI),(5,sx j3.2.aV)],6⟩
@[reducible,instance] def zea7 {T:Type} (x:T):=mkL x (@zk4.eq_1) fun (g1:Int×aU×aB)=>⟨[(0,.ptr 0 0 0),(2,.ptr 1 0 0),(3,.ptr 2 0 0),(8,.int .i64 g1.1)],[(0,bx g1.2.1),(1,bx aB.zero),(2,⟨false,8,aB.enc aB.zero,[[.str g1.2.2.aA.name,.int .i64 g1.2.2.aA.kind,.int .i64 g1.2.2.aA.aT,.int .i64 g1.2.2.aA.home,.own 3 0 g1.2.2.aS.length,.own 4 0 g1.2.2.aI.length,.own 5 0 g1.2.2.aV.length,.int .i64 g1.2.2.gen]]⟩),(3,sx g1.2.2.aS),(4,sx g1.2.2.aI),(5,sx g1.2.2.aV)],6⟩
@[reducible,instance] def zea8 (j1:aU×aB) {T1:Type} (v7:T1):=mkJ (zw9 j1,v7) 2 (@zw8.eq_1) fun (j2:aU×aB)=>⟨[(0,.ptr 0 0 0),(2,.ptr 1 0 0),(3,.ptr 2 0 0)],[(0,bx j2.1),(1,bx aB.zero),(2,⟨false,8,aB.enc aB.zero,[[.str j2.2.aA.name,.int .i64 j2.2.aA.kind,.int .i64 j2.2.aA.aT,.int .i64 j2.2.aA.home,.own 3 0 j2.2.aS.length,.own 4 0 j2.2.aI.length,.own 5 0 j2.2.aV.length,.int .i64 j2.2.gen]]⟩),(3,sx j2.2.aS),(4,sx j2.2.aI),(5,sx j2.2.aV)],6⟩
@[reducible,instance] def zea9 {T:Type} (x:T):=mkL x (@zk5.eq_1) fun (g2:Int×aU×aB)=>⟨[(0,.ptr 0 0 0),(2,.ptr 1 0 0),(3,.ptr 2 0 0),(6,.int .i64 g2.1)],[(0,bx g2.2.1),(1,bx aB.zero),(2,⟨false,8,aB.enc aB.zero,[[.str g2.2.2.aA.name,.int .i64 g2.2.2.aA.kind,.int .i64 g2.2.2.aA.aT,.int .i64 g2.2.2.aA.home,.own 3 0 g2.2.2.aS.length,.own 4 0 g2.2.2.aI.length,.own 5 0 g2.2.2.aV.length,.int .i64 g2.2.2.gen]]⟩),(3,sx g2.2.2.aS),(4,sx g2.2.2.aI),(5,sx g2.2.2.aV)],6⟩
@[reducible,instance] def zeb0 (a0:aU) {T1:Type} (v1:T1) {T2:Type} (v2:T2) {T3:Type} (v3:T3) {T4:Type} (v4:T4) {T5:Type} (v5:T5) {T6:Type} (v6:T6):=mkJ ((((((ze2 a0,v1),v2),v3),v4),v5),v6) 0 (@zw9.eq_1) fun (j1:aU×aB)=>⟨[(0,.ptr 0 0 0),(2,.ptr 1 0 0),(3,.ptr 2 0 0)],[(0,bx j1.1),(1,bx aB.zero),(2,⟨false,8,aB.enc aB.zero,[[.str j1.2.aA.name,.int .i64 j1.2.aA.kind,.int .i64 j1.2.aA.aT,.int .i64 j1.2.aA.home,.own 3 0 j1.2.aS.length,.own 4 0 j1.2.aI.length,.own 5 0 j1.2.aV.length,.int .i64 j1.2.gen]]⟩),(3,sx j1.2.aS),(4,sx j1.2.aI),(5,sx j1.2.aV)],6⟩
@[reducible,instance] def zeb1 {T:Type} (x:T):=mkL x (@zk6.eq_1) fun (g3:Int×aU×aB)=>⟨[(0,.ptr 0 0 0),(2,.ptr 1 0 0),(3,.ptr 2 0 0),(4,.int .i64 g3.1)],[(0,bx g3.2.1),(1,bx aB.zero),(2,⟨false,8,aB.enc aB.zero,[[.str g3.2.2.aA.name,.int .i64 g3.2.2.aA.kind,.int .i64 g3.2.2.aA.aT,.int .i64 g3.2.2.aA.home,.own 3 0 g3.2.2.aS.length,.own 4 0 g3.2.2.aI.length,.own 5 0 g3.2.2.aV.length,.int .i64 g3.2.2.gen]]⟩),(3,sx g3.2.2.aS),(4,sx g3.2.2.aI),(5,sx g3.2.2.aV)],6⟩
instance zbH5 (a0:aU):OkM (ze2 a0) 34 [.ptr 0 0 0] [(0,bx a0)] 1 (fun r=>ga r.1) (fun r=>[(0,bx r.2)]) 1:=⟨fun r h=>by
 refine zay0 Tryz.f34 [(3,114)] [ga r.1] fun E hG hN hK=>?_
 have hm:Mk (ze2 a0):=trivial
 unfold ze2 at h
 refine za2 (za5 hG ?_)
 refine za2 (za5 hG ?_)
 refine g_gh (.ownb 2 4 5 (aY.enc aY.zero)) ?_
 refine g_gh (.ownb 2 5 7 (aX.enc aX.zero)) ?_
 refine g_gh (.ownb 2 6 7 (aX.enc aX.zero)) ?_
 refine za2 (za5 hG ?_)
 obtain ⟨v1,hv1,h⟩:=zc2 h
 have hm:=mkP hm v1
 refine zs1 [(0,0)] [] [0] ((zal1 a0).ok _ hv1) rfl rfl ?_
 refine za2 (za5 hG ?_)
 obtain ⟨v2,hv2,h⟩:=zc2 h
 have hm:=mkP hm v2
 refine zs1 [(0,0)] [] [0] ((zB8 v1.2).ok _ hv2) rfl rfl ?_
 refine za2 (za5 hG ?_)
 obtain ⟨v3,hv3,h⟩:=zc2 h
 have hm:=mkP hm v3
 refine zs1 [(0,0)] [] [0] ((zB8 v2.2).ok _ hv3) rfl rfl ?_
 refine za2 (za5 hG ?_)
 obtain ⟨v4,hv4,h⟩:=zc2 h
 have hm:=mkP hm v4
 refine zs1 [(0,0)] [] [0] ((zB8 v3.2).ok _ hv4) rfl rfl ?_
 refine za2 (za5 hG ?_)
 obtain ⟨v5,hv5,h⟩:=zc2 h
 have hm:=mkP hm v5
 refine zs1 [(0,0)] [] [0] ((zB8 v4.2).ok _ hv5) rfl rfl ?_
 refine za2 (za2 (za5 hG ?_))
 obtain ⟨v6,hv6,h⟩:=zc2 h
 have hm:=mkP hm v6
 refine zs1 [(0,0)] [] [0] ((zI6 8 v5.2).ok _ hv6) rfl rfl ?_
 refine zaj4 hm h (fun j1 hm h=>?_) ?_
 · try refine g_st ?_
   refine za2 (za2 (za5 hG ?_))
   obtain ⟨v7,hv7,h⟩:=zc2 h
   have hm:=mkP hm v7
   refine zs1 [(0,0)] [] [0] ((zI6 8 j1.1).ok _ hv7) rfl rfl ?_
   refine zaj4 hm h (fun j2 hm h=>?_) ?_
   · try refine g_st ?_
     refine za2 (za2 (za5 hG ?_))
     obtain ⟨v8,hv8,h⟩:=zc2 h
     have hm:=mkP hm v8
     refine zs1 [(0,0)] [] [0] ((zI6 8 j2.1).ok _ hv8) rfl rfl ?_
     refine zaj4 hm h (fun j3 hm h=>?_) ?_
     · try refine g_st ?_
       refine za2 (za5 hG ?_)
       refine g_gh (.fz [3,4,5]) ?_
       exact gogo
     exact gogo
   exact gogo
 exact gogo⟩
attribute [local irreducible] ze2
def zaC5 (a0:aH) (a1:List aY) (j1:Unit):Option Bool :=
 (zh4 a1).bind fun v1 =>
 (zl9 a0 v1).bind fun v2 =>
 some v2
def zag6 (a0:aH) (a1:List aY) (g1:Int):Option (Int⊕(Unit⊕Bool)) :=
 (if (decide (g1 < (a1.length:Int)))=true then
  gd (0≤g1∧g1 < (a1.length:Int)) <|
  gd (zj6 ((a1.getD g1.toNat aY.zero).aP)=true→0≤g1∧g1 < (a1.length:Int)) <|
  gd (((!((!(zj6 ((a1.getD g1.toNat aY.zero).aP)))||(!(zv4 a0 ((a1.getD g1.toNat aY.zero).aK)))))&&decide (0 < g1))=true→0≤i64.wrap (g1 - 1)∧i64.wrap (g1 - 1) < (a1.length:Int)) <|
  gd (((!((!(zj6 ((a1.getD g1.toNat aY.zero).aP)))||(!(zv4 a0 ((a1.getD g1.toNat aY.zero).aK)))))&&decide (0 < g1))=true→0≤g1∧g1 < (a1.length:Int)) <|
  (if (((!(zj6 ((a1.getD g1.toNat aY.zero).aP)))||(!(zv4 a0 ((a1.getD g1.toNat aY.zero).aK))))||(decide (0 < g1)&&decide (0≤zv1 ((a1.getD ((i64.wrap (g1 - 1)).toNat) aY.zero).aP) ((a1.getD g1.toNat aY.zero).aP))))=true then
   some (.inr (.inr false))
  else
   some (.inl (i64.wrap (g1+1))))
 else
  some (.inr (.inl ())))
def zv7 (a0:aH) (a1:List aY):Option Bool :=
 (if ((!(zL1 a0))||decide (8 < (a1.length:Int)))=true then
  some false
 else
  (zc0 (zag6 a0 a1) 0).bind (fun|.inl z=>zaC5 a0 a1 z|.inr z=>some z))
@[reducible,instance] def zeb2 (a0:aH) (a1:List aY):=mkJ (zv7 a0 a1) 0 (@zaC5.eq_1 a0 a1) fun (j1:Unit)=>⟨[(1,la a1),(2,.ptr 0 0 0)],[(0,bx a0)],1⟩
@[reducible,instance] def zeb3 (a0:aH) (a1:List aY) {T:Type} (x:T):=mkL x (@zag6.eq_1 a0 a1) fun (g1:Int)=>⟨[(1,la a1),(2,.ptr 0 0 0),(5,.int .i64 g1)],[(0,bx a0)],1⟩
instance zdf8 (a0:aH) (a1:List aY):OkP (zv7 a0 a1) 215 [ga a0,la a1] (fun r=>.bool r):=ok1 (zv7.eq_1 a0 a1) Tryz.f215 []
attribute [local irreducible] zv7
def zw5 (a0:bA) (a1:bM):Option (bA×Int) :=
 (zq2 a0).bind fun v1 =>
 (if (!v1)=true then
  some ({ bA.zero with  },2)
 else
  gd (a0.aQ.length≤4294967296) <|
  gd (a0.aQ.length+1≤4294967296) <|
  gd (a0.bG.length≤4294967296) <|
  (zq2 (⟨(a0.aQ++[a1]),a0.bG⟩:bA)).bind fun v2 =>
  (if (!v2)=true then
   some ({ bA.zero with  },1)
  else
   some ((⟨(a0.aQ++[a1]),a0.bG⟩:bA),0)))
instance zcY1 (a0:bA) (a1:bM):OkP (zw5 a0 a1) 252 [ga a0,ga a1] (fun r=>.tup [ga r.1,.int .i64 r.2]):=ok1 (zw5.eq_1 a0 a1) Tryz.f252 [(11,1),(18,1),(22,2)]
attribute [local irreducible] zw5
def zaJ0 (a0:bA) (j1:Int×Int) (j2:(List aM)):Option (bA×(List aM)×Int) :=
 some ((⟨(a0.aQ.take j1.1.toNat),a0.bG.take j1.2.toNat⟩:bA),j2,0)
@[go_sem] def zdA3 (a0:bA) (j1:Int×Int) (j2:(List aM)):St:=⟨[(4,.ptr 0 0 0),(10,.ptr 1 0 0),(11,.own 2 0 j2.length)],[(0,bx bA.zero),(1,⟨false,2,bA.enc bA.zero,[[.own 3 0 (((⟨(a0.aQ.take j1.1.toNat),a0.bG.take j1.2.toNat⟩:bA).aQ).length),.own 4 0 (((⟨(a0.aQ.take j1.1.toNat),a0.bG.take j1.2.toNat⟩:bA).bG).length)]]⟩),(2,sx j2),(3,sx ((⟨(a0.aQ.take j1.1.toNat),a0.bG.take j1.2.toNat⟩:bA).aQ)),(4,sx ((⟨(a0.aQ.take j1.1.toNat),a0.bG.take j1.2.toNat⟩:bA).bG))],5⟩
def zaj8 (a0:bA) (j1:Int×Int) (v2:(List ByteArray)) (g1:Int×(List aM)):Option ((Int×(List aM))⊕(List aM)) :=
 (if (decide (g1.1 < (v2.length:Int)))=true then
  gd (0≤g1.1∧g1.1 < (v2.length:Int)) <|
  gd (0≤g1.1∧g1.1 < (v2.length:Int)) <|
  (zj4 ((⟨(a0.aQ.take j1.1.toNat),a0.bG.take j1.2.toNat⟩:bA).aQ) (v2.getD g1.1.toNat ⟨#[]⟩)).bind fun v3 =>
  gd (g1.2.length+1≤4294967296) <|
  some (.inl ((i64.wrap (g1.1+1)),(g1.2++[(⟨(v2.getD g1.1.toNat ⟨#[]⟩),v3⟩:aM)])))
 else
  some (.inr g1.2))
@[go_sem] def zdA4 (a0:bA) (j1:Int×Int) (v2:(List ByteArray)) (g1:Int×(List aM)):St:=⟨[(4,.ptr 0 0 0),(10,.ptr 1 0 0),(11,.own 2 0 g1.2.length),(12,.sl (v2.map eS)),(13,.int .i64 g1.1)],[(0,bx bA.zero),(1,⟨false,2,bA.enc bA.zero,[[.own 3 0 (((⟨(a0.aQ.take j1.1.toNat),a0.bG.take j1.2.toNat⟩:bA).aQ).length),.own 4 0 (((⟨(a0.aQ.take j1.1.toNat),a0.bG.take j1.2.toNat⟩:bA).bG).length)]]⟩),(2,sx g1.2),(3,sx ((⟨(a0.aQ.take j1.1.toNat),a0.bG.take j1.2.toNat⟩:bA).aQ)),(4,sx ((⟨(a0.aQ.take j1.1.toNat),a0.bG.take j1.2.toNat⟩:bA).bG))],5⟩
def zaa7 (a0:bA) (j1:Int×Int):Option (bA×(List aM)×Int) :=
 gd (0≤0∧0≤j1.1∧j1.1≤(a0.aQ.length:Int)) <|
 gd ((a0.aQ.take j1.1.toNat).length≤4294967296) <|
 gd (0≤0∧0≤j1.2∧j1.2≤(a0.bG.length:Int)) <|
 gd ((a0.bG.take j1.2.toNat).length≤4294967296) <|
 gd (0≤j1.1∧j1.1≤(a0.aQ.length:Int)∧(a0.aQ.length:Int)≤(a0.aQ.length:Int)) <|
 (zi9 (a0.aQ.drop j1.1.toNat)).bind fun v2 =>
 (zc0 (zaj8 a0 j1 v2) (0,[])).bind (fun z=>zaJ0 a0 j1 z)
@[go_sem] def zdA5 (a0:bA) (j1:Int×Int):St:=⟨[(2,.ptr 0 0 0),(4,.ptr 1 0 0),(7,.int .i64 j1.1),(8,.int .i64 j1.2)],[(0,bx a0),(1,bx bA.zero)],2⟩
def zz2 (a0:bA) (a1:Int):Option (bA×(List aM)×Int) :=
 (zq2 a0).bind fun v1 =>
 (if (!v1)=true then
  some ({ bA.zero with  },[],2)
 else
  (if (!decide (a1=0))=true then
   (zl7 a0.bG a1).bind fun v4 =>
   (if (decide (v4 < 0))=true then
    some ({ bA.zero with  },[],10)
   else
    gd (0≤v4∧v4 < (a0.bG.length:Int)) <|
    zaa7 a0 ((a0.bG.getD v4.toNat bU.zero).at_,i64.wrap (v4+1)))
  else
   zaa7 a0 (0,0)))
theorem zca5 (a0:bA) (a1:Int) (r:bA×(List aM)×Int) (h:zz2 a0 a1=some r):PFn C 255 [ga a0,.int .i64 a1] (.tup [ga r.1,la r.2.1,.int .i64 r.2.2]):=by
 refine zak7 Tryz.f255 [(35,1),(41,1),(47,2),(11,1)] fun E hG hN hK=>?_
 unfold zz2 at h
 refine za2 (za5 hG ?_)
 refine za2 (za2 (za5 hG ?_))
 obtain ⟨v1,hv1,h⟩:=zc2 h
 refine zw4 (fun hg=>(zbh8 a0).ok _ hv1) ?_
 refine zp0 rfl hG h (fun _ h=>?_) (fun _ h=>?_)
 · refine za2 (za5 hG ?_)
   refine zx8 ?_
   exact zae1 h
 refine zo3 ?_
 refine za2 (za5 hG ?_)
 refine za2 (za2 (za5 hG ?_))
 refine zaZ3 (zdA5 a0) (fun v=>zaa7 a0 v=some r) rfl hG h ?_ (fun _ h=>?_) (fun _ h=>?_)
 · intro j1 h
   unfold zaa7 at h
   refine g_st ?_
   refine za2 ?_
   obtain ⟨hb5,h⟩:=zg0 h
   obtain ⟨hb6,h⟩:=zg0 h
   obtain ⟨hb7,h⟩:=zg0 h
   obtain ⟨hb8,h⟩:=zg0 h
   refine zaB7 zN6 hG ?_
   refine za2 (za5 hG ?_)
   refine za2 ?_
   obtain ⟨hb4,h⟩:=zg0 h
   refine za5 hG ?_
   obtain ⟨v2,hv2,h⟩:=zc2 h
   refine zw4 (fun hg=>(zbQ9 (a0.aQ.drop j1.1.toNat)).ok _ hv2) ?_
   refine za2 (za2 (za5 hG ?_))
   refine zO2 (zdA3 a0 j1) (fun v=>zaJ0 a0 j1 v=some r) ?_ ?_
   · intro j2 h
     unfold zaJ0 at h
     refine g_st ?_
     refine za2 (za5 hG ?_)
     refine zx8 ?_
     exact zae1 h
   refine zam4 (zdA4 a0 j1 v2) hK [(0,1),(1,6),(2,7),(3,3),(4,5)] h (fun x_l1 h g1 y_l1 h_l1 hx_l1=>?_)
   unfold zaj8 at h_l1
   refine g_st ?_
   refine za2 (za2 (za5 hG ?_))
   refine zp0 rfl hG h_l1 (fun _ h_l1=>?_) (fun _ h_l1=>?_)
   · refine zo3 ?_
     refine za2 (zK9 ?_)
     obtain ⟨hb2,h_l1⟩:=zg0 h_l1
     obtain ⟨hb3,h_l1⟩:=zg0 h_l1
     refine zaB7 zN6 hG ?_
     obtain ⟨v3,hv3,h_l1⟩:=zc2 h_l1
     obtain ⟨hb1,h_l1⟩:=zg0 h_l1
     refine zao8 (fun hg=>(zbZ7 ((⟨(a0.aQ.take j1.1.toNat),a0.bG.take j1.2.toNat⟩:bA).aQ) (v2.getD g1.1.toNat ⟨#[]⟩)).ok _ hv3) ?_
     refine za5 hG ?_
     exact zX7 hK [(0,0),(1,1),(2,5),(3,3),(4,4)] h_l1
   refine zR8 ?_
   cases h_l1
   cases hx_l1 _ rfl
   exact zG8 hK [(0,0),(1,1),(2,2),(3,3),(4,4)] g1.2 (by exact h)
 · refine za2 (za5 hG ?_)
   obtain ⟨v4,hv4,h⟩:=zc2 h
   refine zw4 (fun hg=>(zbZ8 a0.bG a1).ok _ hv4) ?_
   refine za2 (za2 (za5 hG ?_))
   refine zp0 rfl hG h (fun _ h=>?_) (fun _ h=>?_)
   · refine za2 (za5 hG ?_)
     refine zx8 ?_
     exact zae1 h
   refine zo3 ?_
   obtain ⟨hb9,h⟩:=zg0 h
   refine za5 hG ?_
   exact zG8 hK [(0,0),(1,1)] ((a0.bG.getD v4.toNat bU.zero).at_,i64.wrap (v4+1)) (by exact h)
 refine zo3 ?_
 exact zG8 hK [(0,0),(1,1)] (0,0) (by exact h)
attribute [local irreducible] zz2
def zas6 (j1:Unit):Option Bool :=
 some true
def zC9 (a0:aB) (g1:Int):Option (Int⊕(Unit⊕Bool)) :=
 (if (decide (g1 < (a0.aI.length:Int)))=true then
  gd (0≤g1∧g1 < (a0.aI.length:Int)) <|
  (zo8 a0 ((a0.aI.getD g1.toNat aX.zero).aP)).bind fun v1 =>
  (zn8 a0.aI ((a0.aI.getD g1.toNat aX.zero).aP)).bind fun v2 =>
  (if ((!decide (v2=g1))||zm1 v1)=true then
   some (.inr (.inr false))
  else
   ((if (zb4 a0.aA ((a0.aI.getD g1.toNat aX.zero).aK))=true then zq8 a0.aA ((a0.aI.getD g1.toNat aX.zero).aK) v1 else some false)).bind fun v3 =>
   (if (((!(zb4 a0.aA ((a0.aI.getD g1.toNat aX.zero).aK)))||(!v3))||decide ((a0.aI.getD g1.toNat aX.zero).aK=v1))=true then
    some (.inr (.inr false))
   else
    (if ((!decide ((a0.aI.getD g1.toNat aX.zero).bH=0))||(!decide ((a0.aI.getD g1.toNat aX.zero).bR=0)))=true then
     some (.inr (.inr false))
    else
     some (.inl (i64.wrap (g1+1))))))
 else
  some (.inr (.inl ())))
def zr3 (a0:aB):Option Bool :=
 (if (decide (8 < (a0.aI.length:Int)))=true then
  some false
 else
  (zc0 (zC9 a0) 0).bind (fun|.inl z=>zas6 z|.inr z=>some z))
@[reducible,instance] def zem7 a0:=mkJ (zr3 a0) 0 (@zas6.eq_1) fun (j1:Unit)=>⟨[],[],0⟩
@[reducible,instance] def zem8 (a0:aB) {T:Type} (x:T):=mkL x (@zC9.eq_1 a0) fun (g1:Int)=>⟨[(1,.ptr 0 0 0),(11,la a0.aI),(12,.int .i64 (a0.aI.length:Int)),(13,.int .i64 g1)],[(0,bx a0)],1⟩
instance zcl5 (a0:aB):OkP (zr3 a0) 175 [ga a0] (fun r=>.bool r):=ok1 (zr3.eq_1 a0) Tryz.f175 []
attribute [local irreducible] zr3
def zq3 (a0:aN):Option Bool :=
 (zl5 a0).bind fun v1 =>
 (if (!decide (v1=0))=true then
  (zo6 a0 []).bind fun v2 =>
  some ((!decide (v1=0))&&v2.1)
 else
  some ((!decide (v1=0))&&false))
theorem zbh9 (a0:aN) (r:Bool) (h:zq3 a0=some r):PFn C 67 [ga a0] (.bool r):=by
 refine zak7 Tryz.f67 [(3,3)] fun E hG hN hK=>?_
 unfold zq3 at h
 refine za2 (za5 hG ?_)
 refine za2 (za5 hG ?_)
 refine g_gh (.ownb 1 0 3 (aM.enc aM.zero)) ?_
 refine za2 (za5 hG ?_)
 obtain ⟨v1,hv1,h⟩:=zc2 h
 refine zw4 (fun hg=>(zbB4 a0).ok _ hv1) ?_
 refine zcK3 h (fun hc h=>?_) (fun hc h=>?_)
 · obtain ⟨v2,hv2,h⟩:=zc2 h
   refine zcs8 hc [(0,1),(1,2)] [(2,3)] [0,1,2] ((zbh7 a0 []).ok _ hv2) rfl rfl ?_
   refine zx8 ?_
   exact zae1 h
 refine zcs9 hc (.bool false) ?_
 refine zx8 ?_
 exact zae1 h
instance zcp5 (a0:aN):OkP (zq3 a0) 67 [ga a0] (fun r=>.bool r):=⟨zbh9 a0⟩
attribute [local irreducible] zq3
def zx9 (j2:aU×aN):Option (aN×aU) :=
 some (j2.2,j2.1)
@[go_sem] def zdA6  (j2:aU×aN):St:=⟨[(4,.ptr 1 0 0),(5,.ptr 2 0 0)],[(0,bx j2.1),(1,bx aN.zero),(2,⟨false,5,aN.enc aN.zero,[[.int .i64 j2.2.k,.str j2.2.bF.name,.int .i64 j2.2.bF.aK.mode,.int .i64 j2.2.bF.aK.aT,.own 3 0 j2.2.bE.length]]⟩),(3,sx j2.2.bE)],4⟩
def zl3 (a90:(Int→aU→Option (aN×aU))) (a0:Int) (g1:Int×aU×aN):Option ((Int×aU×aN)⊕(aU×aN)) :=
 (if (decide (0 < g1.1)&&decide (g1.2.1.bC.err=0))=true then
  (a90 (i64.wrap (a0+1)) g1.2.1).bind fun v5 =>
  gd (g1.2.2.bE.length+1≤4294967296) <|
  some (.inl ((i64.wrap (g1.1 - 1)),v5.2,(⟨g1.2.2.k,(⟨g1.2.2.bF.name,(⟨g1.2.2.bF.aK.mode,g1.2.2.bF.aK.aT⟩:aC)⟩:aM),(g1.2.2.bE++[v5.1])⟩:aN)))
 else
  some (.inr (g1.2.1,g1.2.2)))
@[go_sem] def zdA7 (a0:Int) (g1:Int×aU×aN):St:=⟨[(0,.ptr 0 0 0),(1,.int .i64 a0),(4,.ptr 1 0 0),(5,.ptr 2 0 0),(6,.int .i64 g1.1)],[(0,bx g1.2.1),(1,bx aN.zero),(2,⟨false,5,aN.enc aN.zero,[[.int .i64 g1.2.2.k,.str g1.2.2.bF.name,.int .i64 g1.2.2.bF.aK.mode,.int .i64 g1.2.2.bF.aK.aT,.own 3 0 g1.2.2.bE.length]]⟩),(3,sx g1.2.2.bE)],4⟩
def zs2 (a90:(Int→aU→Option (aN×aU))) (a0:Int) (j1:aU):Option (aN×aU) :=
 (za9 j1).bind fun v1 =>
 (if (!decide (v1.2.bC.err=0))=true then
  some ((⟨v1.1,(⟨((⟨aN.zero.k,(⟨aN.zero.bF.name,(⟨aN.zero.bF.aK.mode,aN.zero.bF.aK.aT⟩:aC)⟩:aM),[]⟩:aN).bF).name,(⟨(((⟨aN.zero.k,(⟨aN.zero.bF.name,(⟨aN.zero.bF.aK.mode,aN.zero.bF.aK.aT⟩:aC)⟩:aM),[]⟩:aN).bF).aK).mode,(((⟨aN.zero.k,(⟨aN.zero.bF.name,(⟨aN.zero.bF.aK.mode,aN.zero.bF.aK.aT⟩:aC)⟩:aM),[]⟩:aN).bF).aK).aT⟩:aC)⟩:aM),(⟨aN.zero.k,(⟨aN.zero.bF.name,(⟨aN.zero.bF.aK.mode,aN.zero.bF.aK.aT⟩:aC)⟩:aM),[]⟩:aN).bE⟩:aN),v1.2)
 else
  (if (decide (v1.1=0))=true then
   (zc7 v1.2).bind fun v2 =>
   (zc3 v2.2).bind fun v3 =>
   some ((⟨v1.1,(⟨v2.1,(⟨v3.1.mode,v3.1.aT⟩:aC)⟩:aM),(⟨aN.zero.k,(⟨aN.zero.bF.name,(⟨aN.zero.bF.aK.mode,aN.zero.bF.aK.aT⟩:aC)⟩:aM),[]⟩:aN).bE⟩:aN),v3.2)
  else
   (zb9 24 v1.2).bind fun v4 =>
   (zc0 (zl3 a90 a0) (v4.1,v4.2,(⟨v1.1,(⟨((⟨aN.zero.k,(⟨aN.zero.bF.name,(⟨aN.zero.bF.aK.mode,aN.zero.bF.aK.aT⟩:aC)⟩:aM),[]⟩:aN).bF).name,(⟨(((⟨aN.zero.k,(⟨aN.zero.bF.name,(⟨aN.zero.bF.aK.mode,aN.zero.bF.aK.aT⟩:aC)⟩:aM),[]⟩:aN).bF).aK).mode,(((⟨aN.zero.k,(⟨aN.zero.bF.name,(⟨aN.zero.bF.aK.mode,aN.zero.bF.aK.aT⟩:aC)⟩:aM),[]⟩:aN).bF).aK).aT⟩:aC)⟩:aM),(⟨aN.zero.k,(⟨aN.zero.bF.name,(⟨aN.zero.bF.aK.mode,aN.zero.bF.aK.aT⟩:aC)⟩:aM),[]⟩:aN).bE⟩:aN))).bind (fun z=>zx9 z)))
@[go_sem] def zdA8 (a0:Int) (j1:aU):St:=⟨[(0,.ptr 0 0 0),(1,.int .i64 a0),(4,.ptr 1 0 0),(5,.ptr 2 0 0)],[(0,bx j1),(1,bx aN.zero),(2,⟨false,5,aN.enc aN.zero,[[.int .i64 ((⟨aN.zero.k,(⟨aN.zero.bF.name,(⟨aN.zero.bF.aK.mode,aN.zero.bF.aK.aT⟩:aC)⟩:aM),[]⟩:aN).k),.str (((⟨aN.zero.k,(⟨aN.zero.bF.name,(⟨aN.zero.bF.aK.mode,aN.zero.bF.aK.aT⟩:aC)⟩:aM),[]⟩:aN).bF).name),.int .i64 ((((⟨aN.zero.k,(⟨aN.zero.bF.name,(⟨aN.zero.bF.aK.mode,aN.zero.bF.aK.aT⟩:aC)⟩:aM),[]⟩:aN).bF).aK).mode),.int .i64 ((((⟨aN.zero.k,(⟨aN.zero.bF.name,(⟨aN.zero.bF.aK.mode,aN.zero.bF.aK.aT⟩:aC)⟩:aM),[]⟩:aN).bF).aK).aT),.own 3 0 (((⟨aN.zero.k,(⟨aN.zero.bF.name,(⟨aN.zero.bF.aK.mode,aN.zero.bF.aK.aT⟩:aC)⟩:aM),[]⟩:aN).bE).length)]]⟩),(3,sx ((⟨aN.zero.k,(⟨aN.zero.bF.name,(⟨aN.zero.bF.aK.mode,aN.zero.bF.aK.aT⟩:aC)⟩:aM),[]⟩:aN).bE))],4⟩
def zt2 (a90:(Int→aU→Option (aN×aU))) (a0:Int) (a1:aU):Option (aN×aU) :=
 (if (decide (a1.bC.err=0)&&decide (4 < a0))=true then
  zs2 a90 a0 ({ a1 with bC:={ a1.bC with err:=4 } })
 else
  zs2 a90 a0 a1)
def zl6:Nat→(Int→aU→Option (aN×aU))
 | 0=>fun _ _=>none
 | n+1=>zt2 (zl6 n)
def zm6 (a0:Int) (a1:aU):Option (aN×aU):=zl6 ((6 - a0).toNat+1) a0 a1
theorem zaJ1 (a90:(Int→aU→Option (aN×aU))) (hrc:∀ (a0:Int) (a1:aU) (r:aN×aU),a90 a0 a1=some r→MFn C 37 [.ptr 0 0 0,.int .i64 a0] [(0,bx a1)] 1 (ga r.1) [(0,bx r.2)] 1) (a0:Int) (a1:aU) (r:aN×aU) (h:zt2 a90 a0 a1=some r):MFn C 37 [.ptr 0 0 0,.int .i64 a0] [(0,bx a1)] 1 (ga r.1) [(0,bx r.2)] 1:=by
 refine zay0 Tryz.f37 [(5,18)] [ga r.1] fun E hG hN hK=>?_
 unfold zt2 at h
 refine za2 (za5 hG ?_)
 refine za2 (za5 hG ?_)
 refine g_gh (.ownb 2 4 5 (aN.enc aN.zero)) ?_
 refine za2 (za2 (za5 hG ?_))
 refine zaZ3 (zdA8 a0) (fun v=>zs2 a90 a0 v=some r) rfl hG h ?_ (fun _ h=>?_) (fun _ h=>?_)
 · intro j1 h
   unfold zs2 at h
   refine g_st ?_
   refine za2 (za5 hG ?_)
   obtain ⟨v1,hv1,h⟩:=zc2 h
   refine zs1 [(0,0)] [] [0] ((zB8 j1).ok _ hv1) rfl rfl ?_
   refine za2 (za2 (za5 hG ?_))
   refine zp0 rfl hG h (fun _ h=>?_) (fun _ h=>?_)
   · refine za2 (za5 hG ?_)
     refine g_gh (.fz [3]) ?_
     refine zx8 ?_
     exact zP0 [(0,0)] h
   refine zo3 ?_
   refine za2 (za2 (za5 hG ?_))
   refine zp0 rfl hG h (fun _ h=>?_) (fun _ h=>?_)
   · refine za2 (za5 hG ?_)
     obtain ⟨v2,hv2,h⟩:=zc2 h
     refine zs1 [(0,0)] [] [0] ((zal1 v1.2).ok _ hv2) rfl rfl ?_
     refine za2 (za5 hG ?_)
     obtain ⟨v3,hv3,h⟩:=zc2 h
     refine zs1 [(0,0)] [] [0] ((zaC2 v2.2).ok _ hv3) rfl rfl ?_
     refine za2 (za5 hG ?_)
     refine g_gh (.fz [3]) ?_
     refine zx8 ?_
     exact zP0 [(0,0)] h
   refine zo3 ?_
   refine za2 (za2 (za5 hG ?_))
   obtain ⟨v4,hv4,h⟩:=zc2 h
   refine zs1 [(0,0)] [] [0] ((zI6 24 v1.2).ok _ hv4) rfl rfl ?_
   refine zO2 zdA6 (fun v=>zx9 v=some r) ?_ ?_
   · intro j2 h
     unfold zx9 at h
     refine g_st ?_
     refine za2 (za5 hG ?_)
     refine g_gh (.fz [3]) ?_
     refine zx8 ?_
     exact zP0 [(0,0)] h
   refine zam4 (zdA7 a0) hK [(0,0),(1,1),(2,2),(3,3)] h (fun x_l1 h g1 y_l1 h_l1 hx_l1=>?_)
   unfold zl3 at h_l1
   refine g_st ?_
   refine za2 (za2 (za5 hG ?_))
   refine zp0 rfl hG h_l1 (fun _ h_l1=>?_) (fun _ h_l1=>?_)
   · refine zo3 ?_
     refine za2 (zK9 (zaB7 zN6 hG ?_))
     obtain ⟨v5,hv5,h_l1⟩:=zc2 h_l1
     obtain ⟨hb1,h_l1⟩:=zg0 h_l1
     refine zbw1 [(0,0)] [] [0] (hrc (i64.wrap (a0+1)) g1.2.1 _ hv5) rfl rfl ?_
     refine za5 hG ?_
     exact zX7 hK [(0,0),(1,1),(2,2),(3,4)] h_l1
   refine zR8 ?_
   cases h_l1
   cases hx_l1 _ rfl
   exact zG8 hK [(0,0),(1,1),(2,2),(3,3)] (g1.2.1,g1.2.2) (by exact h)
 · refine za5 hG ?_
   exact zG8 hK [(0,0),(1,1),(2,2),(3,3)] ({ a1 with bC:={ a1.bC with err:=4 } }) (by exact h)
 refine zo3 ?_
 exact zG8 hK [(0,0),(1,1),(2,2),(3,3)] a1 (by exact h)
theorem zaj9:∀ (n:Nat) (a0:Int) (a1:aU) (r:aN×aU),zl6 n a0 a1=some r→MFn C 37 [.ptr 0 0 0,.int .i64 a0] [(0,bx a1)] 1 (ga r.1) [(0,bx r.2)] 1
 | 0,_,_,_,h=>nomatch h
 | n+1,a0,a1,r,h=>zaJ1 (zl6 n) (zaj9 n) a0 a1 r h
instance zbJ9 (a0:Int) (a1:aU):OkM (zm6 a0 a1) 37 [.ptr 0 0 0,.int .i64 a0] [(0,bx a1)] 1 (fun r=>ga r.1) (fun r=>[(0,bx r.2)]) 1:=⟨fun r h=>zaj9 _ a0 a1 r h⟩
attribute [local irreducible] zm6
def zaN0 (j1:(List aJ)):Option (List aJ) :=
 (zi4 j1).bind fun v1 =>
 some v1
def zaN1 (a0:List aB) (g1:Int×(List aJ)):Option ((Int×(List aJ))⊕(List aJ)) :=
 (if (decide (g1.1 < (a0.length:Int)))=true then
  gd (0≤g1.1∧g1.1 < (a0.length:Int)) <|
  (zt6 (a0.getD g1.1.toNat aB.zero)).bind fun v2 =>
  gd (g1.2.length+v2.length≤4294967296) <|
  some (.inl ((i64.wrap (g1.1+1)),(g1.2++v2)))
 else
  some (.inr g1.2))
def zy8 (a0:List aB):Option (List aJ) :=
 (zc0 (zaN1 a0) (0,[])).bind (fun z=>zaN0 z)
@[reducible,instance] def zeb4 a0:=mkJ (zy8 a0) 0 (@zaN0.eq_1) fun (j1:(List aJ))=>⟨[(3,.own 0 0 j1.length)],[(0,sx j1)],1⟩
@[reducible,instance] def zeb5 (a0:List aB) {T:Type} (x:T):=mkL x (@zaN1.eq_1 a0) fun (g1:Int×(List aJ))=>⟨[(0,la a0),(3,.own 0 0 g1.2.length),(4,.int .i64 g1.1)],[(0,sx g1.2)],1⟩
instance zcL6 (a0:List aB):OkM (zy8 a0) 42 [la a0] [] 0 (fun r=>.own 0 0 r.length) (fun r=>[(0,sx r)]) 1:=okm (zy8.eq_1 a0) (fun r=>[.own 0 0 r.length]) Tryz.f42 [(2,1),(3,1),(19,1)]
attribute [local irreducible] zy8
def zQ9 (j2:aO×aN):Option (aN×aO) :=
 some (j2.2,j2.1)
@[go_sem] def zdA9  (j2:aO×aN):St:=⟨[(4,.ptr 1 0 0),(5,.ptr 2 0 0)],[(0,bx j2.1),(1,bx aN.zero),(2,⟨false,5,aN.enc aN.zero,[[.int .i64 j2.2.k,.str j2.2.bF.name,.int .i64 j2.2.bF.aK.mode,.int .i64 j2.2.bF.aK.aT,.own 3 0 j2.2.bE.length]]⟩),(3,sx j2.2.bE)],4⟩
def zz7 (a90:(Int→aO→Option (aN×aO))) (a0:Int) (v4:Int×aO) (g1:Int×aO×aN):Option ((Int×aO×aN)⊕(aO×aN)) :=
 (if (decide (g1.1 < v4.1)&&decide (g1.2.1.e=0))=true then
  (a90 (i64.wrap (a0+1)) g1.2.1).bind fun v5 =>
  gd (g1.2.2.bE.length+1≤4294967296) <|
  some (.inl ((i64.wrap (g1.1+1)),v5.2,(⟨g1.2.2.k,(⟨g1.2.2.bF.name,(⟨g1.2.2.bF.aK.mode,g1.2.2.bF.aK.aT⟩:aC)⟩:aM),(g1.2.2.bE++[v5.1])⟩:aN)))
 else
  some (.inr (g1.2.1,g1.2.2)))
@[go_sem] def zdB0 (a0:Int) (v4:Int×aO) (g1:Int×aO×aN):St:=⟨[(0,.ptr 0 0 0),(1,.int .i64 a0),(4,.ptr 1 0 0),(5,.ptr 2 0 0),(6,.int .i64 v4.1),(7,.int .i64 g1.1)],[(0,bx g1.2.1),(1,bx aN.zero),(2,⟨false,5,aN.enc aN.zero,[[.int .i64 g1.2.2.k,.str g1.2.2.bF.name,.int .i64 g1.2.2.bF.aK.mode,.int .i64 g1.2.2.bF.aK.aT,.own 3 0 g1.2.2.bE.length]]⟩),(3,sx g1.2.2.bE)],4⟩
def zD0 (a90:(Int→aO→Option (aN×aO))) (a0:Int) (j1:aO):Option (aN×aO) :=
 (zc5 j1).bind fun v1 =>
 (if (!decide (v1.2.e=0))=true then
  some ((⟨v1.1,(⟨aN.zero.bF.name,(⟨aN.zero.bF.aK.mode,aN.zero.bF.aK.aT⟩:aC)⟩:aM),[]⟩:aN),v1.2)
 else
  (if (decide (v1.1=0))=true then
   (zf5 v1.2).bind fun v2 =>
   (zf4 v2.2).bind fun v3 =>
   some ((⟨v1.1,(⟨v2.1,(⟨v3.1.mode,v3.1.aT⟩:aC)⟩:aM),[]⟩:aN),v3.2)
  else
   (zd4 24 v1.2).bind fun v4 =>
   (zc0 (zz7 a90 a0 v4) (0,v4.2,(⟨v1.1,(⟨aN.zero.bF.name,(⟨aN.zero.bF.aK.mode,aN.zero.bF.aK.aT⟩:aC)⟩:aM),[]⟩:aN))).bind (fun z=>zQ9 z)))
@[go_sem] def zdB1 (a0:Int) (j1:aO):St:=⟨[(0,.ptr 0 0 0),(1,.int .i64 a0),(4,.ptr 1 0 0)],[(0,bx j1),(1,bx aN.zero)],2⟩
def zJ9 (a90:(Int→aO→Option (aN×aO))) (a0:Int) (a1:aO):Option (aN×aO) :=
 (if (decide (a1.e=0)&&decide (4 < a0))=true then
  zD0 a90 a0 ({ a1 with e:=4 })
 else
  zD0 a90 a0 a1)
def zC0:Nat→(Int→aO→Option (aN×aO))
 | 0=>fun _ _=>none
 | n+1=>zJ9 (zC0 n)
def zu0 (a0:Int) (a1:aO):Option (aN×aO):=zC0 ((6 - a0).toNat+1) a0 a1
theorem zaV8 (a90:(Int→aO→Option (aN×aO))) (hrc:∀ (a0:Int) (a1:aO) (r:aN×aO),a90 a0 a1=some r→MFn C 62 [.ptr 0 0 0,.int .i64 a0] [(0,bx a1)] 1 (ga r.1) [(0,bx r.2)] 1) (a0:Int) (a1:aO) (r:aN×aO) (h:zJ9 a90 a0 a1=some r):MFn C 62 [.ptr 0 0 0,.int .i64 a0] [(0,bx a1)] 1 (ga r.1) [(0,bx r.2)] 1:=by
 refine zay0 Tryz.f62 [(5,18)] [ga r.1] fun E hG hN hK=>?_
 unfold zJ9 at h
 refine za2 (za5 hG ?_)
 refine za2 (za2 (za5 hG ?_))
 refine zaZ3 (zdB1 a0) (fun v=>zD0 a90 a0 v=some r) rfl hG h ?_ (fun _ h=>?_) (fun _ h=>?_)
 · intro j1 h
   unfold zD0 at h
   refine g_st ?_
   refine za2 (za5 hG ?_)
   refine g_gh (.ownb 2 4 5 (aN.enc aN.zero)) ?_
   refine za2 (za5 hG ?_)
   obtain ⟨v1,hv1,h⟩:=zc2 h
   refine zs1 [(0,0)] [] [0] ((zI0 j1).ok _ hv1) rfl rfl ?_
   refine za2 (za2 (za5 hG ?_))
   refine zp0 rfl hG h (fun _ h=>?_) (fun _ h=>?_)
   · refine za2 (za5 hG ?_)
     refine g_gh (.fz [3]) ?_
     refine zx8 ?_
     exact zP0 [(0,0)] h
   refine zo3 ?_
   refine za2 (za2 (za5 hG ?_))
   refine zp0 rfl hG h (fun _ h=>?_) (fun _ h=>?_)
   · refine za2 (za5 hG ?_)
     obtain ⟨v2,hv2,h⟩:=zc2 h
     refine zs1 [(0,0)] [] [0] ((zaw4 v1.2).ok _ hv2) rfl rfl ?_
     refine za2 (za5 hG ?_)
     obtain ⟨v3,hv3,h⟩:=zc2 h
     refine zs1 [(0,0)] [] [0] ((zaP6 v2.2).ok _ hv3) rfl rfl ?_
     refine za2 (za5 hG ?_)
     refine g_gh (.fz [3]) ?_
     refine zx8 ?_
     exact zP0 [(0,0)] h
   refine zo3 ?_
   refine za2 (za5 hG ?_)
   obtain ⟨v4,hv4,h⟩:=zc2 h
   refine zs1 [(0,0)] [] [0] ((zQ7 24 v1.2).ok _ hv4) rfl rfl ?_
   refine za2 (za2 (za5 hG ?_))
   refine zO2 zdA9 (fun v=>zQ9 v=some r) ?_ ?_
   · intro j2 h
     unfold zQ9 at h
     refine g_st ?_
     refine za2 (za5 hG ?_)
     refine g_gh (.fz [3]) ?_
     refine zx8 ?_
     exact zP0 [(0,0)] h
   refine zam4 (zdB0 a0 v4) hK [(0,0),(1,1),(2,2),(3,3)] h (fun x_l1 h g1 y_l1 h_l1 hx_l1=>?_)
   unfold zz7 at h_l1
   refine g_st ?_
   refine za2 (za2 (za5 hG ?_))
   refine zp0 rfl hG h_l1 (fun _ h_l1=>?_) (fun _ h_l1=>?_)
   · refine zo3 ?_
     refine za2 (zK9 (zaB7 zN6 hG ?_))
     obtain ⟨v5,hv5,h_l1⟩:=zc2 h_l1
     obtain ⟨hb1,h_l1⟩:=zg0 h_l1
     refine zbw1 [(0,0)] [] [0] (hrc (i64.wrap (a0+1)) g1.2.1 _ hv5) rfl rfl ?_
     refine za5 hG ?_
     exact zX7 hK [(0,0),(1,1),(2,2),(3,4)] h_l1
   refine zR8 ?_
   cases h_l1
   cases hx_l1 _ rfl
   exact zG8 hK [(0,0),(1,1),(2,2),(3,3)] (g1.2.1,g1.2.2) (by exact h)
 · refine za5 hG ?_
   exact zG8 hK [(0,0),(1,1)] ({ a1 with e:=4 }) (by exact h)
 refine zo3 ?_
 exact zG8 hK [(0,0),(1,1)] a1 (by exact h)
theorem zaw5:∀ (n:Nat) (a0:Int) (a1:aO) (r:aN×aO),zC0 n a0 a1=some r→MFn C 62 [.ptr 0 0 0,.int .i64 a0] [(0,bx a1)] 1 (ga r.1) [(0,bx r.2)] 1
 | 0,_,_,_,h=>nomatch h
 | n+1,a0,a1,r,h=>zaV8 (zC0 n) (zaw5 n) a0 a1 r h
instance zcf1 (a0:Int) (a1:aO):OkM (zu0 a0 a1) 62 [.ptr 0 0 0,.int .i64 a0] [(0,bx a1)] 1 (fun r=>ga r.1) (fun r=>[(0,bx r.2)]) 1:=⟨fun r h=>zaw5 _ a0 a1 r h⟩
attribute [local irreducible] zu0
attribute [local irreducible] zr9 zr2 zv6 zw2 zu7 zz1 zb5 zu9 zw7 zB9 zA5 zn6
def zA7 (a0:aN):Option (List aM) :=
 (zq3 a0).bind fun v1 =>
 (if (!v1)=true then
  some []
 else
  (zn5 a0).bind fun v2 =>
  some v2)
instance zcR3 (a0:aN):OkP (zA7 a0) 45 [ga a0] (fun r=>la r):=ok1 (zA7.eq_1 a0) Tryz.f45 []
attribute [local irreducible] zA7
def zbi0 (j1:(List aB)):Option ((List aB)×Int) :=
 some (j1,0)
def zaz9 (a0:List aH) (g1:Int×(List aB)):Option ((Int×(List aB))⊕(List aB)) :=
 (if (decide (g1.1 < (a0.length:Int)))=true then
  gd (0≤g1.1∧g1.1 < (a0.length:Int)) <|
  gd (g1.2.length+1≤4294967296) <|
  some (.inl ((i64.wrap (g1.1+1)),(g1.2++[{ aB.zero with aA:=(a0.getD g1.1.toNat aH.zero) }])))
 else
  some (.inr g1.2))
def zN3 (a0:List aH):Option ((List aB)×Int) :=
 (zv6 a0).bind fun v1 =>
 (if (!v1)=true then
  some ([],1)
 else
  (zc0 (zaz9 a0) (0,[])).bind (fun z=>zbi0 z))
@[reducible,instance] def zeb6 a0 {T1:Type} (v1:T1):=mkJ (zN3 a0,v1) 0 (@zbi0.eq_1) fun (j1:(List aB))=>⟨[(4,.own 0 0 j1.length)],[(0,sx j1)],1⟩
@[reducible,instance] def zeb7 (a0:List aH) {T:Type} (x:T):=mkL x (@zaz9.eq_1 a0) fun (g1:Int×(List aB))=>⟨[(0,la a0),(4,.own 0 0 g1.2.length),(5,.int .i64 g1.1)],[(0,sx g1.2)],1⟩
instance zdt4 (a0:List aH):OkP (zN3 a0) 120 [la a0] (fun r=>.tup [la r.1,.int .i64 r.2]):=ok1 (zN3.eq_1 a0) Tryz.f120 [(4,1)]
attribute [local irreducible] zN3
def zL5 (a0:aH) (a1:List aY) (a2:aJ) (a3:aC):Option Bool :=
 (zv7 a0 a1).bind fun v1 =>
 ((if ((v1&&zj6 a2)&&zv4 a0 a3)=true then zt0 a1 a2 a3 else some [])).bind fun v2 =>
 ((if ((v1&&zj6 a2)&&zv4 a0 a3)=true then zv7 a0 v2 else some false)).bind fun v3 =>
 some (((v1&&zj6 a2)&&zv4 a0 a3)&&v3)
instance zdp3 (a0:aH) (a1:List aY) (a2:aJ) (a3:aC):OkP (zL5 a0 a1 a2 a3) 219 [ga a0,la a1,ga a2,ga a3] (fun r=>.bool r):=ok1 (zL5.eq_1 a0 a1 a2 a3) Tryz.f219 []
attribute [local irreducible] zL5
def zbd9 (v1 v2:aC) (v3:aC×Bool) (j1:Unit):Option Bool :=
 some (decide (v2=v1)&&(!v3.2))
def zbe0 (v1 v2:aC) (v3:aC×Bool) (v4:aC) (j2:Unit):Option (Int⊕(Unit⊕Bool)) :=
 some (.inr (.inr (decide (v2=v1)&&decide (v3.1=v4))))
def zaa8 (a0:aB) (a1:aG) (g2:Int):Option (Int⊕(Unit⊕Bool)) :=
 (if (decide (g2 < (a0.aV.length:Int)))=true then
  gd (0≤g2∧g2 < (a0.aV.length:Int)) <|
  gd (decide ((a0.aV.getD g2.toNat aX.zero).aP=a1.aP)=true→0≤g2∧g2 < (a0.aV.length:Int)) <|
  (if (decide ((a0.aV.getD g2.toNat aX.zero).aP=a1.aP)&&(!decide ((a0.aV.getD g2.toNat aX.zero).bH=a1.bJ.bH)))=true then
   some (.inr (.inr false))
  else
   some (.inl (i64.wrap (g2+1))))
 else
  some (.inr (.inl ())))
def zaa9 (a0:aB) (a1:aG) (a2:List aM) (v1 v2:aC) (v3:aC×Bool) (g1:Int):Option (Int⊕(Unit⊕Bool)) :=
 (if (decide (g1 < (a2.length:Int)))=true then
  gd (0≤g1∧g1 < (a2.length:Int)) <|
  (if ((!(((a2.getD g1.toNat aM.zero).name).toList == a0.aA.name.toList))||zu6 a0.aA v1 ((a2.getD g1.toNat aM.zero).aK))=true then
   some (.inl (i64.wrap (g1+1)))
  else
   (zB9 a0.aA v1 ((a2.getD g1.toNat aM.zero).aK)).bind fun v4 =>
   (if (!v3.2)=true then
    some (.inr (.inr (decide (v2=v4))))
   else
    (zc0 (zaa8 a0 a1) 0).bind (fun|.inl z=>zbe0 v1 v2 v3 v4 z|.inr z=>some (.inr (.inr z)))))
 else
  some (.inr (.inl ())))
def zI7 (a0:aB) (a1:aG) (a2:List aM):Option Bool :=
 (zj4 a1.bK.aQ a0.aA.name).bind fun v1 =>
 (zi7 a0 a1.aP).bind fun v2 =>
 (zi1 a0 a1.aP).bind fun v3 =>
 (zc0 (zaa9 a0 a1 a2 v1 v2 v3) 0).bind (fun|.inl z=>zbd9 v1 v2 v3 z|.inr z=>some z)
@[reducible,instance] def zeb8 a0 a1 a2 (v1 v2:aC) (v3:aC×Bool):=mkJ (((zI7 a0 a1 a2,v1),v2),v3) 0 (@zbd9.eq_1 v1 v2 v3) fun (j1:Unit)=>⟨[(7,.ptr 0 0 0),(8,.ptr 1 0 0),(10,.bool v3.2)],[(0,bx v1),(1,bx v2)],2⟩
@[reducible,instance] def zeb9 a0 a1 a2 (v1 v2:aC) (v3:aC×Bool) g1 (v4:aC):=mkJ (zaa9 a0 a1 a2 v1 v2 v3 g1,v4) 2 (@zbe0.eq_1 v1 v2 v3 v4) fun (j2:Unit)=>⟨[(7,.ptr 0 0 0),(8,.ptr 1 0 0),(9,.ptr 2 0 0),(13,.ptr 3 0 0)],[(0,bx v1),(1,bx v2),(2,bx v3.1),(3,bx v4)],4⟩
@[reducible,instance] def zec0 (a0:aB) (a1:aG) a2 (v1 v2:aC) (v3:aC×Bool) g1 (v4:aC):=mkL (zaa9 a0 a1 a2 v1 v2 v3 g1,v4) (@zaa8.eq_1 a0 a1) fun (g2:Int)=>⟨[(3,.ptr 0 0 0),(4,.ptr 1 0 0),(7,.ptr 2 0 0),(8,.ptr 3 0 0),(9,.ptr 4 0 0),(13,.ptr 5 0 0),(14,.int .i64 g2)],[(0,bx a0),(1,bx a1),(2,bx v1),(3,bx v2),(4,bx v3.1),(5,bx v4)],6⟩
@[reducible,instance] def zec1 (a0:aB) (a1:aG) (a2:List aM) (v1 v2:aC) (v3:aC×Bool) {T:Type} (x:T):=mkL x (@zaa9.eq_1 a0 a1 a2 v1 v2 v3) fun (g1:Int)=>⟨[(2,la a2),(3,.ptr 0 0 0),(4,.ptr 1 0 0),(7,.ptr 2 0 0),(8,.ptr 3 0 0),(9,.ptr 4 0 0),(10,.bool v3.2),(11,.int .i64 g1)],[(0,bx a0),(1,bx a1),(2,bx v1),(3,bx v2),(4,bx v3.1)],5⟩
instance zdp4 (a0:aB) (a1:aG) (a2:List aM):OkP (zI7 a0 a1 a2) 161 [ga a0,ga a1,la a2] (fun r=>.bool r):=ok1 (zI7.eq_1 a0 a1 a2) Tryz.f161 []
attribute [local irreducible] zI7
end
end Ab
end Go.Proofs.YtcggeefhhegeoaaGreatDoor
