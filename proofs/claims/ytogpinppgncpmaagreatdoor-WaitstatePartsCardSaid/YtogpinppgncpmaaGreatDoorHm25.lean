import Derived.Test.YtogpinppgncpmaaGreatDoorHm18
import Derived.Test.YtogpinppgncpmaaGreatDoorHm22
import Derived.Test.YtogpinppgncpmaaGreatDoorHm24
namespace Go.Proofs.YtogpinppgncpmaaGreatDoor
namespace Ab
open IntKind (i64 u64 u8)
set_option linter.unusedSimpArgs false
set_option linter.defProp false
set_option linter.unusedVariables false
set_option maxRecDepth 100000
set_option maxHeartbeats 1000000
noncomputable section
attribute [local irreducible] zb2 za4 zd4 za6 zh1 zm5 zm4 zh2 zk4 zi2 zd7 zg4 za7 zn9 zh3 zj7 ze3 za8 zg8 zi3 zg1 zl1 zj1 za9 zf9 ze4 zh8 ze5 zk7 zk0 zk1 zn8 zg9 zm3 f_ref08_holds zj9 zc5 zf8 zd0 zd9 ze6 zn2 zm9 zg7 ze7 zg0 zb3 za0 zf2 zj3 zl8 zh9 zf3 zh4 zo0 zn0 zk2 zb4 zd1 zd2 zd6 zg3 zd8 zc3 zo7 za1 zq1 zi0 zi5 zh5 zj5 zc1 zb0 ze9 zf4 zn1 zo8 zp1 ze8 zb8 zi6 zi4 zp7 zi7 zc6 ze0 zs0 zj6 zo2 zj8 zg5 zp8 zl2 zh0 zb5 zi8 zr5 zp9 zk3 zb9 zk8 zl4 zr3 zh7 zt3 zf1 zg2 zf0 zr9 zu3 zi9 zk9 ze2 zi1 za5 zm0 zt0 zq7 zu0 zv1 zq8 zd3 zq5 zu1 zl6 ze1 zu5 zu2 zr6 zt6 zc8 zc2 zj4 zr4 zq6 zm6 zu7 zw2 zr7 zl5 zv6 zy3 zB9 zo1 zm7 zb7 zA8 zv8 zs6 zp2 zw3 zy8 zD6 zA9 zG1 zP0 zo3 zz6 zG2 zL4 zz7 zQ3 zJ6
def zL5 (a0:aA):Option Bool :=
 (zG2 a0).bind fun v1 =>
 (if (!v1)=true then
  some false
 else
  (zm4 a0).bind fun v2 =>
  ((if v2.2=true then zP0 a0.aB a0.aR v2.1.aN v2.1.aK else some false)).bind fun v3 =>
  some ((!v2.2)||(!v3)))
instance zcQ0 (a0:aA):OkP (zL5 a0) 233 [ga a0] (fun r=>.bool r):=ok1 (zL5.eq_1 a0) Tryz.f233 []
attribute [local irreducible] zL5
def zG3 (a0:aA):Option Bool :=
 (zG2 a0).bind fun v1 =>
 ((if v1=true then zL5 a0 else some false)).bind fun v2 =>
 some (v1&&v2)
instance zbP9 (a0:aA):OkP (zG3 a0) 186 [ga a0] (fun r=>.bool r):=ok1 (zG3.eq_1 a0) Tryz.f186 []
attribute [local irreducible] zG3
def zaU2 (j1:Unit):Option Bool :=
 some true
def zao9 (a0:List aA) (g1:Int):Option (Int⊕(Unit⊕Bool)) :=
 (if (decide (g1 < (a0.length:Int)))=true then
  gd (0≤g1∧g1 < (a0.length:Int)) <|
  (zG3 (a0.getD g1.toNat aA.zero)).bind fun v1 =>
  gd ((v1&&decide (0 < g1))=true→0≤i64.wrap (g1 - 1)∧i64.wrap (g1 - 1) < (a0.length:Int)) <|
  gd ((v1&&decide (0 < g1))=true→0≤g1∧g1 < (a0.length:Int)) <|
  (if ((!v1)||(decide (0 < g1)&&(!Op.bytesLess (((a0.getD ((i64.wrap (g1 - 1)).toNat) aA.zero).aB).name).toList (((a0.getD g1.toNat aA.zero).aB).name).toList)))=true then
   some (.inr (.inr false))
  else
   some (.inl (i64.wrap (g1+1))))
 else
  some (.inr (.inl ())))
def zU6 (a0:List aA):Option Bool :=
 (if (decide (8 < (a0.length:Int)))=true then
  some false
 else
  (zc0 (zao9 a0) 0).bind (fun|.inl z=>zaU2 z|.inr z=>some z))
@[reducible,instance] def zdY0 a0:=mkJ (zU6 a0) 0 (@zaU2.eq_1) fun (j1:Unit)=>⟨[],[],0⟩
@[reducible,instance] def zdY1 (a0:List aA) {T:Type} (x:T):=mkL x (@zao9.eq_1 a0) fun (g1:Int)=>⟨[(0,la a0),(3,.int .i64 g1)],[],0⟩
instance zdd2 (a0:List aA):OkP (zU6 a0) 136 [la a0] (fun r=>.bool r):=ok1 (zU6.eq_1 a0) Tryz.f136 []
attribute [local irreducible] zU6
def zG4 (a0:List aA):Option Bool :=
 (zU6 a0).bind fun v1 =>
 ((if v1=true then zy3 a0 else some [])).bind fun v2 =>
 some (v1&&decide ((v2.length:Int)≤8))
instance zbQ0 (a0:List aA):OkP (zG4 a0) 88 [la a0] (fun r=>.bool r):=ok1 (zG4.eq_1 a0) Tryz.f88 []
attribute [local irreducible] zG4
def zB0 (a0:aO):Option Bool :=
 (zo3 a0).bind fun v1 =>
 some v1.2
instance zcB3 (a0:aO):OkP (zB0 a0) 200 [ga a0] (fun r=>.bool r):=ok1 (zB0.eq_1 a0) Tryz.f200 []
attribute [local irreducible] zB0
def zI4 (a0:bL):Option Bool :=
 (zB0 a0.bO).bind fun v1 =>
 some ((((v1&&decide (0≤a0.bG))&&decide (a0.bG≤7))&&decide (0≤a0.limit))&&decide (a0.limit≤1000))
instance zdd3 (a0:bL):OkP (zI4 a0) 148 [ga a0] (fun r=>.bool r):=ok1 (zI4.eq_1 a0) Tryz.f148 []
attribute [local irreducible] zI4
def zaL0 (j1:Unit):Option Int :=
 some 0
def zah1 (a0:List aI) (v1:(List aM)×Bool) (g1:Int):Option (Int⊕(Unit⊕Int)) :=
 (if (decide (g1 < (v1.1.length:Int)))=true then
  gd (0≤g1∧g1 < (v1.1.length:Int)) <|
  (zL4 a0 (v1.1.getD g1.toNat aM.zero)).bind fun v2 =>
  (if (!decide (v2=0))=true then
   some (.inr (.inr v2))
  else
   some (.inl (i64.wrap (g1+1))))
 else
  some (.inr (.inl ())))
def zG9 (a0:List aI) (a1:aO):Option Int :=
 (zo3 a1).bind fun v1 =>
 (if (!v1.2)=true then
  some 1
 else
  (zc0 (zah1 a0 v1) 0).bind (fun|.inl z=>zaL0 z|.inr z=>some z))
@[reducible,instance] def zdY2 a0 a1 {T1:Type} (v1:T1):=mkJ (zG9 a0 a1,v1) 0 (@zaL0.eq_1) fun (j1:Unit)=>⟨[],[],0⟩
@[reducible,instance] def zdY3 (a0:List aI) (v1:(List aM)×Bool) {T:Type} (x:T):=mkL x (@zah1.eq_1 a0 v1) fun (g1:Int)=>⟨[(0,la a0),(5,la v1.1),(7,.int .i64 g1)],[],0⟩
instance zcQ1 (a0:List aI) (a1:aO):OkP (zG9 a0 a1) 149 [la a0,ga a1] (fun r=>.int .i64 r):=ok1 (zG9.eq_1 a0 a1) Tryz.f149 []
attribute [local irreducible] zG9
def zG5 (a0:aO):Option (List aM) :=
 (zo3 a0).bind fun v1 =>
 some v1.1
instance zdd4 (a0:aO):OkP (zG5 a0) 153 [ga a0] (fun r=>la r):=ok1 (zG5.eq_1 a0) Tryz.f153 []
attribute [local irreducible] zG5
def zaL1 (j1:(List Bool)):Option (List Bool) :=
 some j1
def zah2 (a0:List aA) (a1:aJ) (v1:(List aM)) (g1:Int×(List Bool)):Option ((Int×(List Bool))⊕(List Bool)) :=
 (if (decide (g1.1 < (v1.length:Int)))=true then
  gd (0≤g1.1∧g1.1 < (v1.length:Int)) <|
  (zh9 a0 ((v1.getD g1.1.toNat aM.zero).name)).bind fun v2 =>
  (if (decide (0≤v2))=true then
   gd (0≤v2∧v2 < (a0.length:Int)) <|
   gd (0≤v2∧v2 < (a0.length:Int)) <|
   (zi0 (a0.getD v2.toNat aA.zero) a1).bind fun v3 =>
   gd (0≤g1.1∧g1.1 < (v1.length:Int)) <|
   gd (0≤g1.1∧g1.1 < ((g1.2.length:Nat):Int)) <|
   some (.inl ((i64.wrap (g1.1+1)),g1.2.set g1.1.toNat (zs4 ((a0.getD v2.toNat aA.zero).aB) v3 ((v1.getD g1.1.toNat aM.zero).aK))))
  else
   some (.inl ((i64.wrap (g1.1+1)),g1.2)))
 else
  some (.inr g1.2))
def zC5 (a0:List aA) (a1:aJ) (a2:aO):Option (List Bool) :=
 (zG5 a2).bind fun v1 =>
 gd (0≤(v1.length:Int)∧(v1.length:Int)≤(v1.length:Int)∧(v1.length:Int)≤4294967296) <|
 (zc0 (zah2 a0 a1 v1) (0,List.replicate ((v1.length:Int).toNat) false)).bind (fun z=>zaL1 z)
@[reducible,instance] def zdY4 a0 a1 a2 {T1:Type} (v1:T1):=mkJ (zC5 a0 a1 a2,v1) 0 (@zaL1.eq_1) fun (j1:(List Bool))=>⟨[(8,.own 0 0 j1.length)],[(0,⟨false,1,[A.bool false],j1.map eB⟩)],1⟩
@[reducible,instance] def zdY5 (a0:List aA) (a1:aJ) (v1:(List aM)) {T:Type} (x:T):=mkL x (@zah2.eq_1 a0 a1 v1) fun (g1:Int×(List Bool))=>⟨[(0,la a0),(4,.ptr 0 0 0),(7,la v1),(8,.own 1 0 g1.2.length),(9,.int .i64 g1.1)],[(0,bx a1),(1,⟨false,1,[A.bool false],g1.2.map eB⟩)],2⟩
instance zcQ2 (a0:List aA) (a1:aJ) (a2:aO):OkP (zC5 a0 a1 a2) 152 [la a0,ga a1,ga a2] (fun r=>.sl (r.map eB)):=ok1 (zC5.eq_1 a0 a1 a2) Tryz.f152 []
attribute [local irreducible] zC5
def zU7 (a0:aO) (a1:List Bool):Option Bool :=
 (zo3 a0).bind fun v1 =>
 ((if v1.2=true then f_ref08_holds a0 v1.1 a1 else some false)).bind fun v2 =>
 some (v1.2&&v2)
instance zdd5 (a0:aO) (a1:List Bool):OkP (zU7 a0 a1) 151 [ga a0,.sl (a1.map eB)] (fun r=>.bool r):=ok1 (zU7.eq_1 a0 a1) Tryz.f151 []
attribute [local irreducible] zU7
def zaL2 (j2:Unit):Option Bool :=
 some true
def zN9 (a0:aZ) (a1:aH) (v12:(List aM)) (g1:Int):Option (Int⊕(Unit⊕Bool)) :=
 (if (decide (g1 < (a0.aF.length:Int)))=true then
  gd (0≤g1∧g1 < (a0.aF.length:Int)) <|
  (zJ6 (a0.aF.getD g1.toNat aA.zero) a1 v12).bind fun v13 =>
  (if (!v13)=true then
   some (.inr (.inr false))
  else
   some (.inl (i64.wrap (g1+1))))
 else
  some (.inr (.inl ())))
def zW7 (a0:aZ) (a1:aH) (v2:(List aM)) (j1:Unit):Option Bool :=
 (if (!a1.bE)=true then
  (zf4 a1.bF ({ bL.zero with  })).bind fun v3 =>
  ((if (v3&&decide (a1.since=0))=true then zl2 a0.aF a1.aN else some [])).bind fun v4 =>
  ((if (v3&&decide (a1.since=0))=true then zf3 v2 v4 else some false)).bind fun v5 =>
  ((if ((v3&&decide (a1.since=0))&&v5)=true then zo2 a0.aF a1.aN else some [])).bind fun v6 =>
  some (((v3&&decide (a1.since=0))&&v5)&&decide ((v6.length:Int)=0))
 else
  (zI4 a1.bF).bind fun v7 =>
  ((if v7=true then zg9 a0.aF else some [])).bind fun v8 =>
  ((if v7=true then zG9 v8 a1.bF.bO else some 0)).bind fun v9 =>
  ((if (!(((((!v7)||(!decide (v9=0)))||decide (a1.since < 0))||decide (a0.now < a1.since))||((!decide (a1.bF.limit=0))&&decide (i64.wrap (a1.since+a1.bF.limit)≤a0.now))))=true then zC5 a0.aF a1.aN a1.bF.bO else some [])).bind fun v10 =>
  ((if (!(((((!v7)||(!decide (v9=0)))||decide (a1.since < 0))||decide (a0.now < a1.since))||((!decide (a1.bF.limit=0))&&decide (i64.wrap (a1.since+a1.bF.limit)≤a0.now))))=true then zU7 a1.bF.bO v10 else some false)).bind fun v11 =>
  (if ((((((!v7)||(!decide (v9=0)))||decide (a1.since < 0))||decide (a0.now < a1.since))||((!decide (a1.bF.limit=0))&&decide (i64.wrap (a1.since+a1.bF.limit)≤a0.now)))||v11)=true then
   some false
  else
   (zG5 a1.bF.bO).bind fun v12 =>
   (zc0 (zN9 a0 a1 v12) 0).bind (fun|.inl z=>zaL2 z|.inr z=>some z)))
def zO0 (a0:aZ) (v2:(List aM)) (g2:Int):Option (Int⊕(Unit⊕Bool)) :=
 (if (decide (g2 < (v2.length:Int)))=true then
  gd (0≤g2∧g2 < (v2.length:Int)) <|
  (zh9 a0.aF ((v2.getD g2.toNat aM.zero).name)).bind fun v14 =>
  gd ((!(decide (v14 < 0)))=true→0≤v14∧v14 < (a0.aF.length:Int)) <|
  gd ((!(decide (v14 < 0)))=true→0≤g2∧g2 < (v2.length:Int)) <|
  (if (decide (v14 < 0)||(!(zs9 ((a0.aF.getD v14.toNat aA.zero).aB) ((v2.getD g2.toNat aM.zero).aK))))=true then
   some (.inr (.inr false))
  else
   some (.inl (i64.wrap (g2+1))))
 else
  some (.inr (.inl ())))
def zH0 (a0:aZ) (a1:aH):Option Bool :=
 ((if (!(((!(zm2 a1.aN))||decide (a1.cost < 1))||decide (1000 < a1.cost)))=true then zq8 a1.bH else some false)).bind fun v1 =>
 (if ((((((!(zm2 a1.aN))||decide (a1.cost < 1))||decide (1000 < a1.cost))||(!v1))||decide (a1.gen < 0))||decide (1073741824 < a1.gen))=true then
  some false
 else
  (zi6 a1.bH).bind fun v2 =>
  (zc0 (zO0 a0 v2) 0).bind (fun|.inl z=>zW7 a0 a1 v2 z|.inr z=>some z))
@[reducible,instance] def zdY6 a0 a1 v2 j1 {T1:Type} (v7:T1) {T2:Type} (v8:T2) {T3:Type} (v9:T3) {T4:Type} (v10:T4) {T5:Type} (v11:T5) {T6:Type} (v12:T6):=mkJ ((((((zW7 a0 a1 v2 j1,v7),v8),v9),v10),v11),v12) 2 (@zaL2.eq_1) fun (j2:Unit)=>⟨[],[],0⟩
@[reducible,instance] def zdY7 (a0:aZ) (a1:aH) (v12:(List aM)) {T:Type} (x:T):=mkL x (@zN9.eq_1 a0 a1 v12) fun (g1:Int)=>⟨[(2,.ptr 0 0 0),(3,.ptr 1 0 0),(9,la v12),(10,.int .i64 g1)],[(0,bx a0),(1,bx a1)],2⟩
@[reducible,instance] def zdY8 (a0:aZ) (a1:aH) {T1:Type} (v1:T1) (v2:(List aM)):=mkJ ((zH0 a0 a1,v1),v2) 0 (@zW7.eq_1 a0 a1 v2) fun (j1:Unit)=>⟨[(2,.ptr 0 0 0),(3,.ptr 1 0 0),(5,la v2)],[(0,bx a0),(1,bx a1)],2⟩
@[reducible,instance] def zdY9 (a0:aZ) (a1:aH) {T1:Type} (v1:T1) (v2:(List aM)):=mkL ((zH0 a0 a1,v1),v2) (@zO0.eq_1 a0 v2) fun (g2:Int)=>⟨[(2,.ptr 0 0 0),(3,.ptr 1 0 0),(5,la v2),(6,.int .i64 g2)],[(0,bx a0),(1,bx a1)],2⟩
instance zcQ3 (a0:aZ) (a1:aH):OkP (zH0 a0 a1) 91 [ga a0,ga a1] (fun r=>.bool r):=ok1 (zH0.eq_1 a0 a1) Tryz.f91 []
attribute [local irreducible] zH0
def zaU3 (j2:Unit):Option Bool :=
 some true
def zV7 (a0:aZ) (g1:Int):Option (Int⊕(Unit⊕Bool)) :=
 (if (decide (g1 < (a0.aG.length:Int)))=true then
  gd (0≤g1∧g1 < (a0.aG.length:Int)) <|
  (zH0 a0 (a0.aG.getD g1.toNat aH.zero)).bind fun v3 =>
  gd ((v3&&decide (0 < g1))=true→0≤i64.wrap (g1 - 1)∧i64.wrap (g1 - 1) < (a0.aG.length:Int)) <|
  gd ((v3&&decide (0 < g1))=true→0≤g1∧g1 < (a0.aG.length:Int)) <|
  (if ((!v3)||(decide (0 < g1)&&decide (0≤zu4 ((a0.aG.getD ((i64.wrap (g1 - 1)).toNat) aH.zero).aN) ((a0.aG.getD g1.toNat aH.zero).aN))))=true then
   some (.inr (.inr false))
  else
   some (.inl (i64.wrap (g1+1))))
 else
  some (.inr (.inl ())))
def zaf1 (a0:aZ) (j1:Unit):Option Bool :=
 (zc0 (zV7 a0) 0).bind (fun|.inl z=>zaU3 z|.inr z=>some z)
def zV8 (a0:aZ) (v2:(List aJ)) (g2:Int):Option (Int⊕(Unit⊕Bool)) :=
 (if (decide (g2 < (v2.length:Int)))=true then
  gd (0≤g2∧g2 < (v2.length:Int)) <|
  (zi2 a0.aG (v2.getD g2.toNat aJ.zero)).bind fun v4 =>
  (if (decide (v4 < 0))=true then
   some (.inr (.inr false))
  else
   some (.inl (i64.wrap (g2+1))))
 else
  some (.inr (.inl ())))
def zP2 (a0:aZ):Option Bool :=
 ((if (!(decide (a0.now < 0)||decide (1073741824 < a0.now)))=true then zG4 a0.aF else some false)).bind fun v1 =>
 (if (((decide (a0.now < 0)||decide (1073741824 < a0.now))||(!v1))||decide (8 < (a0.aG.length:Int)))=true then
  some false
 else
  (zy3 a0.aF).bind fun v2 =>
  (zc0 (zV8 a0 v2) 0).bind (fun|.inl z=>zaf1 a0 z|.inr z=>some z))
@[reducible,instance] def zdZ0 a0 j1:=mkJ (zaf1 a0 j1) 2 (@zaU3.eq_1) fun (j2:Unit)=>⟨[],[],0⟩
@[reducible,instance] def zdZ1 (a0:aZ) {T:Type} (x:T):=mkL x (@zV7.eq_1 a0) fun (g1:Int)=>⟨[(1,.ptr 0 0 0),(5,.int .i64 g1)],[(0,bx a0)],1⟩
@[reducible,instance] def zdZ2 (a0:aZ) {T1:Type} (v1:T1) {T2:Type} (v2:T2):=mkJ ((zP2 a0,v1),v2) 0 (@zaf1.eq_1 a0) fun (j1:Unit)=>⟨[(1,.ptr 0 0 0)],[(0,bx a0)],1⟩
@[reducible,instance] def zdZ3 (a0:aZ) (v2:(List aJ)) {T:Type} (x:T):=mkL x (@zV8.eq_1 a0 v2) fun (g2:Int)=>⟨[(1,.ptr 0 0 0),(3,la v2),(4,.int .i64 g2)],[(0,bx a0)],1⟩
instance zbg9 (a0:aZ):OkP (zP2 a0) 54 [ga a0] (fun r=>.bool r):=ok1 (zP2.eq_1 a0) Tryz.f54 []
attribute [local irreducible] zP2
def zaL3 (j1:aA×(List aU)):Option (aA×(List aU)) :=
 some (j1.1,j1.2)
def zW8 (g1:aA×(List aU)) (v4:aT×Bool) (j2:aA):Option ((aA×(List aU))⊕(aA×(List aU))) :=
 (zr9 j2.aR v4.1.aN v4.1.aK).bind fun v5 =>
 gd (g1.2.length+1≤4294967296) <|
 some (.inl ({ j2 with aR:=v5 },(g1.2++[(⟨v4.1.aN,v4.1.aK⟩:aU)])))
def zO1 (g1:aA×(List aU)):Option ((aA×(List aU))⊕(aA×(List aU))) :=
 (zL5 g1.1).bind fun v3 =>
 (if (!v3)=true then
  (zm4 g1.1).bind fun v4 =>
  (if (decide (0 < (g1.1.aL.length:Int)))=true then
   gd (0≤1∧1≤(g1.1.aL.length:Int)∧(g1.1.aL.length:Int)≤(g1.1.aL.length:Int)) <|
   zW8 g1 v4 ({ g1.1 with aL:=(g1.1.aL.drop 1) })
  else
   gd (0≤1∧1≤(g1.1.aV.length:Int)∧(g1.1.aV.length:Int)≤(g1.1.aV.length:Int)) <|
   zW8 g1 v4 ({ g1.1 with aV:=(g1.1.aV.drop 1) }))
 else
  some (.inr (g1.1,g1.2)))
def zL6 (a0:aA):Option (aA×(List aU)) :=
 (zG2 a0).bind fun v1 =>
 (if (!v1)=true then
  some ({ aA.zero with  },[])
 else
  (zl1 a0).bind fun v2 =>
  (zc0 zO1 (v2,[])).bind (fun z=>zaL3 z))
@[reducible,instance] def zdZ4 a0 {T1:Type} (v1:T1) {T2:Type} (v2:T2):=mkJ ((zL6 a0,v1),v2) 0 (@zaL3.eq_1) fun (j1:aA×(List aU))=>⟨[(1,.ptr 0 0 0),(2,.ptr 1 0 0),(4,.own 2 0 j1.2.length)],[(0,bx j1.1),(1,bx aA.zero),(2,sx j1.2)],3⟩
@[reducible,instance] def zdZ5 (g1:aA×(List aU)) {T1:Type} (v3:T1) (v4:aT×Bool):=mkJ ((zO1 g1,v3),v4) 999 (@zW8.eq_1 g1 v4) fun (j2:aA)=>⟨[(1,.ptr 0 0 0),(2,.ptr 1 0 0),(4,.own 2 0 g1.2.length),(5,.ptr 3 0 0)],[(0,bx j2),(1,bx aA.zero),(2,sx g1.2),(3,bx v4.1)],4⟩
@[reducible,instance] def zdZ6 {T:Type} (x:T):=mkL x (@zO1.eq_1) fun (g1:aA×(List aU))=>⟨[(1,.ptr 0 0 0),(2,.ptr 1 0 0),(4,.own 2 0 g1.2.length)],[(0,bx g1.1),(1,bx aA.zero),(2,sx g1.2)],3⟩
instance zcQ4 (a0:aA):OkP (zL6 a0) 292 [ga a0] (fun r=>.tup [ga r.1,la r.2]):=ok1 (zL6.eq_1 a0) Tryz.f292 [(4,1)]
attribute [local irreducible] zL6
def zz4 (a0:aA):Option (aA×(List aU)×Int) :=
 (zL6 a0).bind fun v1 =>
 some ({ v1.1 with gen:=(zm8 a0.gen) },v1.2,0)
instance zaU4 (a0:aA):OkP (zz4 a0) 287 [ga a0] (fun r=>.tup [ga r.1,la r.2.1,.int .i64 r.2.2]):=ok1 (zz4.eq_1 a0) Tryz.f287 []
attribute [local irreducible] zz4
def zW9 (a0:aA) (a1:aJ):Option (aA×(List aU)×Int) :=
 (zG3 a0).bind fun v1 =>
 (if (!v1)=true then
  some ({ aA.zero with  },[],2)
 else
  (zi4 a0 a1).bind fun v2 =>
  (if (!v2.2)=true then
   some ({ aA.zero with  },[],10)
  else
   (zl1 a0).bind fun v3 =>
   (zh4 v3.aL a1).bind fun v4 =>
   (zh4 (({ v3 with aL:=v4.1 }).aV) a1).bind fun v5 =>
   (zz4 ({ { v3 with aL:=v4.1 } with aV:=v5.1 })).bind fun v6 =>
   some (v6.1,v6.2.1,v6.2.2)))
instance zcV6 (a0:aA) (a1:aJ):OkP (zW9 a0 a1) 289 [ga a0,ga a1] (fun r=>.tup [ga r.1,la r.2.1,.int .i64 r.2.2]):=ok1 (zW9.eq_1 a0 a1) Tryz.f289 []
attribute [local irreducible] zW9
def zX0 (a0:List aA) (a1:aJ) (a2:ByteArray):Option ((List aA)×(List bI)×Int) :=
 (zG4 a0).bind fun v1 =>
 (if (!v1)=true then
  some ([],[],2)
 else
  (zh9 a0 a2).bind fun v2 =>
  (if (decide (v2 < 0))=true then
   some ([],[],10)
  else
   gd (0≤v2∧v2 < (a0.length:Int)) <|
   (zW9 (a0.getD v2.toNat aA.zero) a1).bind fun v3 =>
   (if (!decide (v3.2.2=0))=true then
    some ([],[],v3.2.2)
   else
    (zf8 a0 v2 v3.1).bind fun v4 =>
    (zg4 a2 v3.2.1).bind fun v5 =>
    some (v4,v5,0))))
instance zcV7 (a0:List aA) (a1:aJ) (a2:ByteArray):OkP (zX0 a0 a1 a2) 277 [la a0,ga a1,.str a2] (fun r=>.tup [la r.1,la r.2.1,.int .i64 r.2.2]):=ok1 (zX0.eq_1 a0 a1 a2) Tryz.f277 []
attribute [local irreducible] zX0
def zab5 (a0:aA) (a1:aJ) (a2:aC):Option (aA×(List aU)×Int) :=
 (zG3 a0).bind fun v1 =>
 (if (!v1)=true then
  some ({ aA.zero with  },[],2)
 else
  (zi0 a0 a1).bind fun v2 =>
  (if (zl7 v2)=true then
   some ({ aA.zero with  },[],10)
  else
   (zi4 a0 a1).bind fun v3 =>
   (if v3.2=true then
    some ({ aA.zero with  },[],14)
   else
    (if (!(zs4 a0.aB v2 a2))=true then
     some ({ aA.zero with  },[],12)
    else
     (zl1 a0).bind fun v4 =>
     (if (decide (v2=a2))=true then
      some (v4,[],0)
     else
      (zr9 v4.aR a1 a2).bind fun v5 =>
      (zz4 ({ v4 with aR:=v5 })).bind fun v6 =>
      some (v6.1,v6.2.1,v6.2.2))))))
instance zbQ1 (a0:aA) (a1:aJ) (a2:aC):OkP (zab5 a0 a1 a2) 278 [ga a0,ga a1,ga a2] (fun r=>.tup [ga r.1,la r.2.1,.int .i64 r.2.2]):=ok1 (zab5.eq_1 a0 a1 a2) Tryz.f278 []
attribute [local irreducible] zab5
def zV9 (a0:List aA) (a2:aM) (v2:Int) (v4:aA×(List aU)×Int) (j1:(List bI)):Option ((List aA)×(List bI)×Int) :=
 (zf8 a0 v2 v4.1).bind fun v5 =>
 (zg4 a2.name v4.2.1).bind fun v6 =>
 gd (j1.length+v6.length≤4294967296) <|
 some (v5,(j1++v6),0)
@[go_sem] def zdy2 (a0:List aA) (a2:aM) (v2:Int) (v4:aA×(List aU)×Int) (j1:(List bI)):St:=⟨[(0,la a0),(5,.ptr 0 0 0),(9,.int .i64 v2),(11,.ptr 1 0 0),(12,la v4.2.1),(14,.own 2 0 j1.length)],[(0,bx a2),(1,bx v4.1),(2,sx j1)],3⟩
def zI5 (a0:List aA) (a1:aJ) (a2:aM):Option ((List aA)×(List bI)×Int) :=
 (zG4 a0).bind fun v1 =>
 (if (!v1)=true then
  some ([],[],2)
 else
  (zh9 a0 a2.name).bind fun v2 =>
  (if (decide (v2 < 0))=true then
   some ([],[],10)
  else
   gd (0≤v2∧v2 < (a0.length:Int)) <|
   (zi0 (a0.getD v2.toNat aA.zero) a1).bind fun v3 =>
   gd (0≤v2∧v2 < (a0.length:Int)) <|
   (zab5 (a0.getD v2.toNat aA.zero) a1 a2.aK).bind fun v4 =>
   (if (!decide (v4.2.2=0))=true then
    some ([],[],v4.2.2)
   else
    (if (!decide (v3=a2.aK))=true then
     gd (1≤4294967296) <|
     zV9 a0 a2 v2 v4 [(⟨3,a1,a2.name,a2.aK⟩:bI)]
    else
     zV9 a0 a2 v2 v4 []))))
theorem zbh0 (a0:List aA) (a1:aJ) (a2:aM) (r:(List aA)×(List bI)×Int) (h:zI5 a0 a1 a2=some r):PFn C 258 [la a0,ga a1,ga a2] (.tup [la r.1,la r.2.1,.int .i64 r.2.2]):=by
 refine zad2 Tryz.f258 [(14,1)] fun E hG hN hK=>?_
 unfold zI5 at h
 refine za2 (za3 hG ?_)
 refine za2 (za2 (za3 hG ?_))
 obtain ⟨v1,hv1,h⟩:=zc9 h
 refine zq4 (fun hg=>(zbQ0 a0).ok _ hv1) ?_
 refine zl0 rfl hG h (fun _ h=>?_) (fun _ h=>?_)
 · refine za2 (za3 hG ?_)
   refine zt2 ?_
   exact zI9 h
 refine zj2 ?_
 refine za2 (za3 hG ?_)
 obtain ⟨v2,hv2,h⟩:=zc9 h
 refine zq4 (fun hg=>(zbn7 a0 a2.name).ok _ hv2) ?_
 refine za2 (za2 (za3 hG ?_))
 refine zl0 rfl hG h (fun _ h=>?_) (fun _ h=>?_)
 · refine za2 (za3 hG ?_)
   refine zt2 ?_
   exact zI9 h
 refine zj2 ?_
 refine za2 ?_
 obtain ⟨hb4,h⟩:=zd5 h
 refine zad1 zw6 hG ?_
 obtain ⟨v3,hv3,h⟩:=zc9 h
 refine zaa0 (fun hg=>(zaR6 (a0.getD v2.toNat aA.zero) a1).ok _ hv3) ?_
 refine za2 ?_
 obtain ⟨hb3,h⟩:=zd5 h
 refine zad1 zw6 hG ?_
 obtain ⟨v4,hv4,h⟩:=zc9 h
 refine zaa0 (fun hg=>(zbQ1 (a0.getD v2.toNat aA.zero) a1 a2.aK).ok _ hv4) ?_
 refine za2 (za2 (za3 hG ?_))
 refine zl0 rfl hG h (fun _ h=>?_) (fun _ h=>?_)
 · refine za2 (za3 hG ?_)
   refine zt2 ?_
   exact zI9 h
 refine zj2 ?_
 refine za2 (za3 hG ?_)
 refine za2 (za2 (za3 hG ?_))
 refine zaP1 (zdy2 a0 a2 v2 v4) (fun v=>zV9 a0 a2 v2 v4 v=some r) rfl hG h ?_ (fun _ h=>?_) (fun _ h=>?_)
 · intro j1 h
   unfold zV9 at h
   refine g_st ?_
   refine za2 (zad1 zw6 hG ?_)
   obtain ⟨v5,hv5,h⟩:=zc9 h
   refine zaa0 (fun hg=>(zbA2 a0 v2 v4.1).ok _ hv5) ?_
   obtain ⟨v6,hv6,h⟩:=zc9 h
   obtain ⟨hb1,h⟩:=zd5 h
   refine zaa0 (fun hg=>(zbH2 a2.name v4.2.1).ok _ hv6) ?_
   refine zt2 ?_
   exact zI9 h
 · obtain ⟨hb2,h⟩:=zd5 h
   refine za3 hG ?_
   exact zy4 hK [(0,1),(1,3),(2,5)] [(⟨3,a1,a2.name,a2.aK⟩:bI)] (by exact h)
 refine zj2 ?_
 exact zy4 hK [(0,1),(1,3),(2,4)] [] (by exact h)
instance zcV8 (a0:List aA) (a1:aJ) (a2:aM):OkP (zI5 a0 a1 a2) 258 [la a0,ga a1,ga a2] (fun r=>.tup [la r.1,la r.2.1,.int .i64 r.2.2]):=⟨zbh0 a0 a1 a2⟩
attribute [local irreducible] zI5
def zak1 (a0:aW) (j1:Unit):Option (Int×Int×(List aA)×(List aH)×(List bI)) :=
 some ((-1),a0.c.now,a0.c.aF,a0.c.aG,a0.ev)
def zI3 (a0:aW) (g1:Int):Option (Int⊕(Unit⊕(Int×Int×(List aA)×(List aH)×(List bI)))) :=
 (if (decide (g1 < ((a0.c.aG.length:Nat):Int)))=true then
  gd (0≤g1∧g1 < ((a0.c.aG.length:Nat):Int)) <|
  ((if ((a0.c.aG.getD g1.toNat aH.zero).bE)=true then zC5 a0.c.aF ((a0.c.aG.getD g1.toNat aH.zero).aN) (((a0.c.aG.getD g1.toNat aH.zero).bF).bO) else some [])).bind fun v1 =>
  ((if ((a0.c.aG.getD g1.toNat aH.zero).bE)=true then zU7 (((a0.c.aG.getD g1.toNat aH.zero).bF).bO) v1 else some false)).bind fun v2 =>
  (if ((a0.c.aG.getD g1.toNat aH.zero).bE&&v2)=true then
   some (.inr (.inr (g1,a0.c.now,a0.c.aF,a0.c.aG,a0.ev)))
  else
   some (.inl (i64.wrap (g1+1))))
 else
  some (.inr (.inl ())))
def zq0 (a0:aW):Option (Int×Int×(List aA)×(List aH)×(List bI)) :=
 (zc0 (zI3 a0) 0).bind (fun|.inl z=>zak1 a0 z|.inr z=>some z)
@[reducible,instance] def zdZ7 (a0:aW):=mkJ (zq0 a0) 0 (@zak1.eq_1 a0) fun (j1:Unit)=>⟨[],[(0,⟨false,4,aW.enc aW.zero,[[.int .i64 a0.c.now,la a0.c.aF,.own 1 0 a0.c.aG.length,.own 2 0 a0.ev.length]]⟩),(1,sx a0.c.aG),(2,sx a0.ev)],3⟩
@[reducible,instance] def zdZ8 (a0:aW) {T:Type} (x:T):=mkL x (@zI3.eq_1 a0) fun (g1:Int)=>⟨[(0,.ptr 0 0 0),(3,.int .i64 g1)],[(0,⟨false,4,aW.enc aW.zero,[[.int .i64 a0.c.now,la a0.c.aF,.own 1 0 a0.c.aG.length,.own 2 0 a0.ev.length]]⟩),(1,sx a0.c.aG),(2,sx a0.ev)],3⟩
instance zbQ2 (a0:aW):OkM (zq0 a0) 255 [.ptr 0 0 0] [(0,⟨false,4,aW.enc aW.zero,[[.int .i64 a0.c.now,la a0.c.aF,.own 1 0 a0.c.aG.length,.own 2 0 a0.ev.length]]⟩),(1,sx a0.c.aG),(2,sx a0.ev)] 3 (fun r=>.int .i64 r.1) (fun r=>[(0,⟨false,4,aW.enc aW.zero,[[.int .i64 r.2.1,la r.2.2.1,.own 1 0 r.2.2.2.1.length,.own 2 0 r.2.2.2.2.length]]⟩),(1,sx r.2.2.2.1),(2,sx r.2.2.2.2)]) 3:=okm (zq0.eq_1 a0) (fun r=>[.int .i64 r.1]) Tryz.f255 []
attribute [local irreducible] zq0
def zI6 (a0:aA) (a1:aJ) (a2:aC) (a3:Int):Option (aA×(List aU)×Int) :=
 (zG3 a0).bind fun v1 =>
 (if (!v1)=true then
  some ({ aA.zero with  },[],2)
 else
  (if (((!(zm2 a1))||decide (a3 < 0))||decide (7 < a3))=true then
   some ({ aA.zero with  },[],1)
  else
   (if (!(zs9 a0.aB a2))=true then
    some ({ aA.zero with  },[],12)
   else
    (zi4 a0 a1).bind fun v2 =>
    (if v2.2=true then
     some ({ aA.zero with  },[],14)
    else
     (zj1 a0).bind fun v3 =>
     (zi0 v3 a1).bind fun v4 =>
     (if (zs4 v3.aB v4 a2)=true then
      some (v3,[],0)
     else
      (if (!(zl7 v4))=true then
       (zA8 v3.aB v4 a2).bind fun v5 =>
       gd (v3.aL.length+1≤4294967296) <|
       (zz4 (⟨(⟨v3.aB.name,v3.aB.kind,v3.aB.aS,v3.aB.home⟩:aI),v3.aR,(v3.aL++[{ aT.zero with aN:=a1,aK:=v5 }]),v3.aV,v3.gen⟩:aA)).bind fun v6 =>
       some (v6.1,v6.2.1,v6.2.2)
      else
       (if (decide (8≤i64.wrap ((v3.aR.length:Int)+(v3.aV.length:Int))))=true then
        some ({ aA.zero with  },[],4)
       else
        (zv8 v3.aV ({ aT.zero with aN:=a1,aK:=a2,bG:=a3 })).bind fun v7 =>
        (if (!decide (v7.2.2=0))=true then
         some ({ aA.zero with  },[],v7.2.2)
        else
         (zz4 (⟨(⟨v3.aB.name,v3.aB.kind,v3.aB.aS,v3.aB.home⟩:aI),v3.aR,v3.aL,v7.1,v3.gen⟩:aA)).bind fun v8 =>
         some (v8.1,v8.2.1,v8.2.2)))))))))
instance zdd6 (a0:aA) (a1:aJ) (a2:aC) (a3:Int):OkP (zI6 a0 a1 a2 a3) 274 [ga a0,ga a1,ga a2,.int .i64 a3] (fun r=>.tup [ga r.1,la r.2.1,.int .i64 r.2.2]):=⟨fun r h=>by
 refine zad2 Tryz.f274 [(48,1)] fun E hG hN hK=>?_
 have hm:Mk (zI6 a0 a1 a2 a3):=trivial
 unfold zI6 at h
 refine za2 (za3 hG ?_)
 refine za2 (za2 (za3 hG ?_))
 obtain ⟨v1,hv1,h⟩:=zc9 h
 have hm:=mkP hm v1
 refine zq4 (fun hg=>(zbP9 a0).ok _ hv1) ?_
 refine zl0 rfl hG h (fun _ h=>?_) (fun _ h=>?_)
 · exact gogo
 refine zj2 ?_
 refine za2 (za2 (za3 hG ?_))
 refine zq4 (fun hg=>(zbq8 a1).ok) ?_
 refine zl0 rfl hG h (fun _ h=>?_) (fun _ h=>?_)
 · exact gogo
 refine zj2 ?_
 refine za2 (za2 (za3 hG ?_))
 refine zq4 (fun hg=>(zbX7 a0.aB a2).ok) ?_
 refine zl0 rfl hG h (fun _ h=>?_) (fun _ h=>?_)
 · exact gogo
 refine zj2 ?_
 refine za2 (za2 (za3 hG ?_))
 obtain ⟨v2,hv2,h⟩:=zc9 h
 have hm:=mkP hm v2
 refine zq4 (fun hg=>(zbH5 a0 a1).ok _ hv2) ?_
 refine za2 (za3 hG ?_)
 refine zl0 rfl hG h (fun _ h=>?_) (fun _ h=>?_)
 · exact gogo
 refine zj2 ?_
 refine za2 (za3 hG ?_)
 obtain ⟨v3,hv3,h⟩:=zc9 h
 have hm:=mkP hm v3
 refine zs2 [] [(0,5),(1,6),(2,7)] [0,1,2] (zbA0 _ _ hv3) rfl rfl ?_
 refine g_gh (.fz [5,7]) ?_
 refine za2 (za3 hG ?_)
 obtain ⟨v4,hv4,h⟩:=zc9 h
 have hm:=mkP hm v4
 refine zq4 (fun hg=>(zaR6 v3 a1).ok _ hv4) ?_
 refine za2 (za2 (za3 hG ?_))
 refine zq4 (fun hg=>(zbH6 v3.aB v4 a2).ok) ?_
 refine zl0 rfl hG h (fun _ h=>?_) (fun _ h=>?_)
 · exact gogo
 refine zj2 ?_
 refine za2 (za2 (za3 hG ?_))
 refine zq4 (fun hg=>(zbX1 v4).ok) ?_
 refine zl0 rfl hG h (fun _ h=>?_) (fun _ h=>?_)
 · refine za2 (zad1 zw6 hG ?_)
   obtain ⟨v5,hv5,h⟩:=zc9 h
   have hm:=mkP hm v5
   obtain ⟨hb1,h⟩:=zd5 h
   refine zaa0 (fun hg=>(zbX9 v3.aB v4 a2).ok _ hv5) ?_
   refine za2 (za3 hG ?_)
   obtain ⟨v6,hv6,h⟩:=zc9 h
   have hm:=mkP hm v6
   have hc_v6:=(zaU4 (⟨(⟨v3.aB.name,v3.aB.kind,v3.aB.aS,v3.aB.home⟩:aI),v3.aR,(v3.aL++[{ aT.zero with aN:=a1,aK:=v5 }]),v3.aV,v3.gen⟩:aA)).ok _ hv6
   have el_v6:∀ x:aA,aA.enc x=[A.str x.aB.name,A.int .i64 x.aB.kind,A.int .i64 x.aB.aS,A.int .i64 x.aB.home,A.sl (x.aR.map aU.enc),A.sl (x.aL.map aT.enc),A.sl (x.aV.map aT.enc),A.int .i64 x.gen]:=fun x=>rfl
   try dsimp only [ga,la,En.e] at hc_v6
   rw [el_v6] at hc_v6
   dsimp only at hc_v6
   refine zq4 (fun hg=>by exact hc_v6) ?_
   exact gogo
 refine zj2 ?_
 refine za2 (za2 (za3 hG ?_))
 refine zl0 rfl hG h (fun _ h=>?_) (fun _ h=>?_)
 · exact gogo
 refine zj2 ?_
 refine za2 (za3 hG ?_)
 obtain ⟨v7,hv7,h⟩:=zc9 h
 have hm:=mkP hm v7
 refine zq4 (fun hg=>(zbH9 v3.aV ({ aT.zero with aN:=a1,aK:=a2,bG:=a3 })).ok _ hv7) ?_
 refine za2 (za2 (za3 hG ?_))
 refine zl0 rfl hG h (fun _ h=>?_) (fun _ h=>?_)
 · exact gogo
 refine zj2 ?_
 refine za2 (za3 hG ?_)
 refine za2 (za3 hG ?_)
 obtain ⟨v8,hv8,h⟩:=zc9 h
 have hm:=mkP hm v8
 have hc_v8:=(zaU4 (⟨(⟨v3.aB.name,v3.aB.kind,v3.aB.aS,v3.aB.home⟩:aI),v3.aR,v3.aL,v7.1,v3.gen⟩:aA)).ok _ hv8
 have el_v8:∀ x:aA,aA.enc x=[A.str x.aB.name,A.int .i64 x.aB.kind,A.int .i64 x.aB.aS,A.int .i64 x.aB.home,A.sl (x.aR.map aU.enc),A.sl (x.aL.map aT.enc),A.sl (x.aV.map aT.enc),A.int .i64 x.gen]:=fun x=>rfl
 try dsimp only [ga,la,En.e] at hc_v8
 rw [el_v8] at hc_v8
 dsimp only at hc_v8
 refine zq4 (fun hg=>by exact hc_v8) ?_
 exact gogo⟩
attribute [local irreducible] zI6
def zab6 (a0:List aA) (a1:aJ) (a2:aM) (a3:Int):Option ((List aA)×(List bI)×Int) :=
 (zG4 a0).bind fun v1 =>
 (if (!v1)=true then
  some ([],[],2)
 else
  (zh9 a0 a2.name).bind fun v2 =>
  (if (decide (v2 < 0))=true then
   some ([],[],10)
  else
   (zy3 a0).bind fun v3 =>
   ((if (decide ((v3.length:Int)=8))=true then zg8 v3 a1 else some false)).bind fun v4 =>
   (if (decide ((v3.length:Int)=8)&&(!v4))=true then
    some ([],[],4)
   else
    gd (0≤v2∧v2 < (a0.length:Int)) <|
    (zI6 (a0.getD v2.toNat aA.zero) a1 a2.aK a3).bind fun v5 =>
    (if (!decide (v5.2.2=0))=true then
     some ([],[],v5.2.2)
    else
     (zf8 a0 v2 v5.1).bind fun v6 =>
     (zg4 a2.name v5.2.1).bind fun v7 =>
     some (v6,v7,0)))))
instance zdd7 (a0:List aA) (a1:aJ) (a2:aM) (a3:Int):OkP (zab6 a0 a1 a2 a3) 250 [la a0,ga a1,ga a2,.int .i64 a3] (fun r=>.tup [la r.1,la r.2.1,.int .i64 r.2.2]):=ok1 (zab6.eq_1 a0 a1 a2 a3) Tryz.f250 []
attribute [local irreducible] zab6
def zX1 (a0:aA) (a1:aJ):Option (aA×(List aU)×Int) :=
 (zG3 a0).bind fun v1 =>
 (if (!v1)=true then
  some ({ aA.zero with  },[],2)
 else
  (zt3 a0 a1).bind fun v2 =>
  (if (!v2)=true then
   some ({ aA.zero with  },[],10)
  else
   (zl1 a0).bind fun v3 =>
   (zr9 v3.aR a1 ({ aC.zero with  })).bind fun v4 =>
   (zh4 (({ v3 with aR:=v4 }).aL) a1).bind fun v5 =>
   (zh4 (({ { v3 with aR:=v4 } with aL:=v5.1 }).aV) a1).bind fun v6 =>
   (zz4 ({ { { v3 with aR:=v4 } with aL:=v5.1 } with aV:=v6.1 })).bind fun v7 =>
   some (v7.1,v7.2.1,v7.2.2)))
instance zcV9 (a0:aA) (a1:aJ):OkP (zX1 a0 a1) 280 [ga a0,ga a1] (fun r=>.tup [ga r.1,la r.2.1,.int .i64 r.2.2]):=ok1 (zX1.eq_1 a0 a1) Tryz.f280 []
attribute [local irreducible] zX1
def zaP9 (j1:(List aA)×(List bI)):Option ((List aA)×(List bI)) :=
 some (j1.1,j1.2)
def zaa7 (a1:aJ) (g1:Int×(List aA)×(List bI)) (j2:(List bI)):Option ((Int×(List aA)×(List bI))⊕((List aA)×(List bI))) :=
 gd (0≤g1.1∧g1.1 < ((g1.2.1.length:Nat):Int)) <|
 (zX1 (g1.2.1.getD g1.1.toNat aA.zero) a1).bind fun v4 =>
 gd (0≤g1.1∧g1.1 < ((g1.2.1.length:Nat):Int)) <|
 (zg4 v4.1.aB.name v4.2.1).bind fun v5 =>
 gd (j2.length+v5.length≤4294967296) <|
 some (.inl ((i64.wrap (g1.1+1)),g1.2.1.set g1.1.toNat v4.1,(j2++v5)))
def zaa8 (a1:aJ) (g1:Int×(List aA)×(List bI)):Option ((Int×(List aA)×(List bI))⊕((List aA)×(List bI))) :=
 (if (decide (g1.1 < ((g1.2.1.length:Nat):Int)))=true then
  gd (0≤g1.1∧g1.1 < ((g1.2.1.length:Nat):Int)) <|
  (zt3 (g1.2.1.getD g1.1.toNat aA.zero) a1).bind fun v2 =>
  (if (!v2)=true then
   some (.inl ((i64.wrap (g1.1+1)),g1.2.1,g1.2.2))
  else
   gd (0≤g1.1∧g1.1 < ((g1.2.1.length:Nat):Int)) <|
   (zi0 (g1.2.1.getD g1.1.toNat aA.zero) a1).bind fun v3 =>
   (if (!(zl7 v3))=true then
    gd (0≤g1.1∧g1.1 < ((g1.2.1.length:Nat):Int)) <|
    gd (g1.2.2.length+1≤4294967296) <|
    zaa7 a1 g1 (g1.2.2++[{ bI.zero with kind:=3,aN:=a1,name:=((g1.2.1.getD g1.1.toNat aA.zero).aB).name }])
   else
    zaa7 a1 g1 g1.2.2))
 else
  some (.inr (g1.2.1,g1.2.2)))
def zQ4 (a0:List aA) (a1:aJ):Option ((List aA)×(List bI)) :=
 (zG4 a0).bind fun v1 =>
 (if (!v1)=true then
  some ([],[])
 else
  gd (a0.length≤4294967296) <|
  (zc0 (zaa8 a1) (0,a0,[])).bind (fun z=>zaP9 z))
@[reducible,instance] def zdZ9 a0 a1 {T1:Type} (v1:T1):=mkJ (zQ4 a0 a1,v1) 0 (@zaP9.eq_1) fun (j1:(List aA)×(List bI))=>⟨[(6,.own 0 0 j1.1.length),(7,.own 1 0 j1.2.length)],[(0,sx j1.1),(1,sx j1.2)],2⟩
@[reducible,instance] def zea0 (a1:aJ) (g1:Int×(List aA)×(List bI)) {T1:Type} (v2:T1) {T2:Type} (v3:T2):=mkJ ((zaa8 a1 g1,v2),v3) 999 (@zaa7.eq_1 a1 g1) fun (j2:(List bI))=>⟨[(3,.ptr 0 0 0),(6,.own 1 0 g1.2.1.length),(7,.own 2 0 j2.length),(8,.int .i64 g1.1)],[(0,bx a1),(1,sx g1.2.1),(2,sx j2)],3⟩
@[reducible,instance] def zea1 (a1:aJ) {T:Type} (x:T):=mkL x (@zaa8.eq_1 a1) fun (g1:Int×(List aA)×(List bI))=>⟨[(3,.ptr 0 0 0),(6,.own 1 0 g1.2.1.length),(7,.own 2 0 g1.2.2.length),(8,.int .i64 g1.1)],[(0,bx a1),(1,sx g1.2.1),(2,sx g1.2.2)],3⟩
instance zcW0 (a0:List aA) (a1:aJ):OkP (zQ4 a0 a1) 261 [la a0,ga a1] (fun r=>.tup [la r.1,la r.2]):=ok1 (zQ4.eq_1 a0 a1) Tryz.f261 [(15,1),(7,1)]
attribute [local irreducible] zQ4
end
end Ab
end Go.Proofs.YtogpinppgncpmaaGreatDoor
