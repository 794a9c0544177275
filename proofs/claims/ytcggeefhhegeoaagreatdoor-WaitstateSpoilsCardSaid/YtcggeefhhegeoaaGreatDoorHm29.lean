import Derived.Test.YtcggeefhhegeoaaGreatDoorHm28
namespace Go.Proofs.YtcggeefhhegeoaaGreatDoor
namespace Ab
open IntKind (i64 u64 u8)
set_option linter.unusedSimpArgs false
set_option linter.unusedVariables false
set_option linter.defProp false
set_option maxRecDepth 100000
set_option maxHeartbeats 1000000
noncomputable section
attribute [local irreducible] zk1 za4 zd6 za7 zg5 zj4 zl7 zg2 zl8 zg1 zd7 zk9 ze5 zi3 ze3 zi6 za8 za0 ze9 zl0 zn1 zi9 zi2 zg9 zh2 zg6 zc8 zf0 zh3 zg3 zf1 zb0 zb1 zh4 zj0 zf2 zo5 f_ref08_holds zk2 zc6 zn7 zn8 zn3 ze6 zf6 zm4 zn9 zh5 zl1 zm7 zd5 zj5 ze7 zf7 zo8 zo0 zb3 zc4 zi1 zj7 zp6 zq4 zl5 zb7 zn4 zd9 zj2 zp8 zh7 za6 za1 zb8 zi0 zf8 zo1 zj8 ze1 ze4 zd8 zj9 zf9 zr5 zi7 zd3 zp7 zi8 zq1 zb6 zk0 zg8 zj3 zg4 zo4 zm9 zf5 zq9 zi5 zg7 zr7 zt0 zu8 zh1 zu4 zf3 zk7 zb9 za9 zl2 zr6 zm0 ze8 zt1 zc7 zo9 zh8 zh9 zi4 zd4 zc5 zk8 zq8 zt5 zt9 zw6 zf4 zo6 zc3 zc1 zn5 zs8 zu3 zd1 za3 zl9 zt6 zq5 zm5 zk3 zm2 zu2 zj1 zq2 zv5 zr9 zr2 zv6 zw2 zu7 zz1 zb5 zu9 zw7 zB9 zA5 zn6 zq6 zy1 ze2 zv7 zw5 zz2 zr3 zq3 zm6 zy8 zu0 zD1 zp1 zA8 zK3 zD2 zI1 zA7 zN3 zL5 zI7 zB2 zy9 zx0 zB3 zR1 zK2 zx3 zF4 zz3 zL6 zC6 zD3
def zI2 (a0:aB):Option Bool :=
 (zD2 a0).bind fun v1 =>
 ((if v1=true then zF4 a0 else some false)).bind fun v2 =>
 some (v1&&v2)
instance zbR8 (a0:aB):OkP (zI2 a0) 133 [ga a0] (fun r=>.bool r):=ok1 (zI2.eq_1 a0) Tryz.f133 []
attribute [local irreducible] zI2
def zaW2 (j1:Unit):Option Bool :=
 some true
def zaq7 (a0:List aB) (g1:Int):Option (Int⊕(Unit⊕Bool)) :=
 (if (decide (g1 < (a0.length:Int)))=true then
  gd (0≤g1∧g1 < (a0.length:Int)) <|
  (zI2 (a0.getD g1.toNat aB.zero)).bind fun v1 =>
  gd ((v1&&decide (0 < g1))=true→0≤i64.wrap (g1 - 1)∧i64.wrap (g1 - 1) < (a0.length:Int)) <|
  gd ((v1&&decide (0 < g1))=true→0≤g1∧g1 < (a0.length:Int)) <|
  (if ((!v1)||(decide (0 < g1)&&(!Op.bytesLess (((a0.getD ((i64.wrap (g1 - 1)).toNat) aB.zero).aA).name).toList (((a0.getD g1.toNat aB.zero).aA).name).toList)))=true then
   some (.inr (.inr false))
  else
   some (.inl (i64.wrap (g1+1))))
 else
  some (.inr (.inl ())))
def zR2 (a0:List aB):Option Bool :=
 (if (decide (8 < (a0.length:Int)))=true then
  some false
 else
  (zc0 (zaq7 a0) 0).bind (fun|.inl z=>zaW2 z|.inr z=>some z))
@[reducible,instance] def zee2 a0:=mkJ (zR2 a0) 0 (@zaW2.eq_1) fun (j1:Unit)=>⟨[],[],0⟩
@[reducible,instance] def zee3 (a0:List aB) {T:Type} (x:T):=mkL x (@zaq7.eq_1 a0) fun (g1:Int)=>⟨[(0,la a0),(3,.int .i64 g1)],[],0⟩
instance zdg7 (a0:List aB):OkP (zR2 a0) 91 [la a0] (fun r=>.bool r):=ok1 (zR2.eq_1 a0) Tryz.f91 []
attribute [local irreducible] zR2
def zI3 (a0:List aB):Option Bool :=
 (zR2 a0).bind fun v1 =>
 ((if v1=true then zw7 a0 else some [])).bind fun v2 =>
 some (v1&&decide ((v2.length:Int)≤8))
instance zbR9 (a0:List aB):OkP (zI3 a0) 114 [la a0] (fun r=>.bool r):=ok1 (zI3.eq_1 a0) Tryz.f114 []
attribute [local irreducible] zI3
def zK4 (a0:bO):Option Bool :=
 (zz3 a0.bS).bind fun v1 =>
 some ((((v1&&decide (0≤a0.bH))&&decide (a0.bH≤7))&&decide (0≤a0.limit))&&decide (a0.limit≤1000))
instance zdg8 (a0:bO):OkP (zK4 a0) 156 [ga a0] (fun r=>.bool r):=ok1 (zK4.eq_1 a0) Tryz.f156 []
attribute [local irreducible] zK4
def zaN3 (j1:(List Bool)):Option (List Bool) :=
 some j1
def zai8 (a0:List aB) (a1:aJ) (v1:(List aM)) (g1:Int×(List Bool)):Option ((Int×(List Bool))⊕(List Bool)) :=
 (if (decide (g1.1 < (v1.length:Int)))=true then
  gd (0≤g1.1∧g1.1 < (v1.length:Int)) <|
  (zi2 a0 ((v1.getD g1.1.toNat aM.zero).name)).bind fun v2 =>
  (if (decide (0≤v2))=true then
   gd (0≤v2∧v2 < (a0.length:Int)) <|
   gd (0≤v2∧v2 < (a0.length:Int)) <|
   (zi7 (a0.getD v2.toNat aB.zero) a1).bind fun v3 =>
   gd (0≤g1.1∧g1.1 < (v1.length:Int)) <|
   gd (0≤g1.1∧g1.1 < ((g1.2.length:Nat):Int)) <|
   some (.inl ((i64.wrap (g1.1+1)),g1.2.set g1.1.toNat (zu6 ((a0.getD v2.toNat aB.zero).aA) v3 ((v1.getD g1.1.toNat aM.zero).aK))))
  else
   some (.inl ((i64.wrap (g1.1+1)),g1.2)))
 else
  some (.inr g1.2))
def zF5 (a0:List aB) (a1:aJ) (a2:aN):Option (List Bool) :=
 (zD3 a2).bind fun v1 =>
 gd (0≤(v1.length:Int)∧(v1.length:Int)≤(v1.length:Int)∧(v1.length:Int)≤4294967296) <|
 (zc0 (zai8 a0 a1 v1) (0,List.replicate ((v1.length:Int).toNat) false)).bind (fun z=>zaN3 z)
@[reducible,instance] def zee4 a0 a1 a2 {T1:Type} (v1:T1):=mkJ (zF5 a0 a1 a2,v1) 0 (@zaN3.eq_1) fun (j1:(List Bool))=>⟨[(8,.own 0 0 j1.length)],[(0,⟨false,1,[A.bool false],j1.map eB⟩)],1⟩
@[reducible,instance] def zee5 (a0:List aB) (a1:aJ) (v1:(List aM)) {T:Type} (x:T):=mkL x (@zai8.eq_1 a0 a1 v1) fun (g1:Int×(List Bool))=>⟨[(0,la a0),(4,.ptr 0 0 0),(7,la v1),(8,.own 1 0 g1.2.length),(9,.int .i64 g1.1)],[(0,bx a1),(1,⟨false,1,[A.bool false],g1.2.map eB⟩)],2⟩
instance zcR7 (a0:List aB) (a1:aJ) (a2:aN):OkP (zF5 a0 a1 a2) 160 [la a0,ga a1,ga a2] (fun r=>.sl (r.map eB)):=ok1 (zF5.eq_1 a0 a1 a2) Tryz.f160 []
attribute [local irreducible] zF5
def zaN4 (j2:Unit):Option Bool :=
 some true
def zP9 (a0:bD) (a1:aG) (v12:(List aM)) (g1:Int):Option (Int⊕(Unit⊕Bool)) :=
 (if (decide (g1 < (a0.aF.length:Int)))=true then
  gd (0≤g1∧g1 < (a0.aF.length:Int)) <|
  (zI7 (a0.aF.getD g1.toNat aB.zero) a1 v12).bind fun v13 =>
  (if (!v13)=true then
   some (.inr (.inr false))
  else
   some (.inl (i64.wrap (g1+1))))
 else
  some (.inr (.inl ())))
def zY3 (a0:bD) (a1:aG) (v2:(List aM)) (j1:Unit):Option Bool :=
 (if (!a1.bI)=true then
  (zf8 a1.bJ ({ bO.zero with  })).bind fun v3 =>
  ((if (v3&&decide (a1.since=0))=true then zm0 a0.aF a1.aP else some [])).bind fun v4 =>
  ((if (v3&&decide (a1.since=0))=true then zf2 v2 v4 else some false)).bind fun v5 =>
  ((if ((v3&&decide (a1.since=0))&&v5)=true then zo4 a0.aF a1.aP else some [])).bind fun v6 =>
  some (((v3&&decide (a1.since=0))&&v5)&&decide ((v6.length:Int)=0))
 else
  (zK4 a1.bJ).bind fun v7 =>
  ((if v7=true then zg9 a0.aF else some [])).bind fun v8 =>
  ((if v7=true then zC6 v8 a1.bJ.bS else some 0)).bind fun v9 =>
  ((if (!(((((!v7)||(!decide (v9=0)))||decide (a1.since < 0))||decide (a0.now < a1.since))||((!decide (a1.bJ.limit=0))&&decide (i64.wrap (a1.since+a1.bJ.limit)≤a0.now))))=true then zF5 a0.aF a1.aP a1.bJ.bS else some [])).bind fun v10 =>
  ((if (!(((((!v7)||(!decide (v9=0)))||decide (a1.since < 0))||decide (a0.now < a1.since))||((!decide (a1.bJ.limit=0))&&decide (i64.wrap (a1.since+a1.bJ.limit)≤a0.now))))=true then zR1 a1.bJ.bS v10 else some false)).bind fun v11 =>
  (if ((((((!v7)||(!decide (v9=0)))||decide (a1.since < 0))||decide (a0.now < a1.since))||((!decide (a1.bJ.limit=0))&&decide (i64.wrap (a1.since+a1.bJ.limit)≤a0.now)))||v11)=true then
   some false
  else
   (zD3 a1.bJ.bS).bind fun v12 =>
   (zc0 (zP9 a0 a1 v12) 0).bind (fun|.inl z=>zaN4 z|.inr z=>some z)))
def zQ0 (a0:bD) (v2:(List aM)) (g2:Int):Option (Int⊕(Unit⊕Bool)) :=
 (if (decide (g2 < (v2.length:Int)))=true then
  gd (0≤g2∧g2 < (v2.length:Int)) <|
  (zi2 a0.aF ((v2.getD g2.toNat aM.zero).name)).bind fun v14 =>
  gd ((!(decide (v14 < 0)))=true→0≤v14∧v14 < (a0.aF.length:Int)) <|
  gd ((!(decide (v14 < 0)))=true→0≤g2∧g2 < (v2.length:Int)) <|
  (if (decide (v14 < 0)||(!(zv4 ((a0.aF.getD v14.toNat aB.zero).aA) ((v2.getD g2.toNat aM.zero).aK))))=true then
   some (.inr (.inr false))
  else
   some (.inl (i64.wrap (g2+1))))
 else
  some (.inr (.inl ())))
def zI8 (a0:bD) (a1:aG):Option Bool :=
 ((if (!(((!(zj6 a1.aP))||decide (a1.cost < 1))||decide (1000 < a1.cost)))=true then zq2 a1.bK else some false)).bind fun v1 =>
 (if ((((((!(zj6 a1.aP))||decide (a1.cost < 1))||decide (1000 < a1.cost))||(!v1))||decide (a1.gen < 0))||decide (1073741824 < a1.gen))=true then
  some false
 else
  (zi0 a1.bK).bind fun v2 =>
  (zc0 (zQ0 a0 v2) 0).bind (fun|.inl z=>zY3 a0 a1 v2 z|.inr z=>some z))
@[reducible,instance] def zee6 a0 a1 v2 j1 {T1:Type} (v7:T1) {T2:Type} (v8:T2) {T3:Type} (v9:T3) {T4:Type} (v10:T4) {T5:Type} (v11:T5) {T6:Type} (v12:T6):=mkJ ((((((zY3 a0 a1 v2 j1,v7),v8),v9),v10),v11),v12) 2 (@zaN4.eq_1) fun (j2:Unit)=>⟨[],[],0⟩
@[reducible,instance] def zee7 (a0:bD) (a1:aG) (v12:(List aM)) {T:Type} (x:T):=mkL x (@zP9.eq_1 a0 a1 v12) fun (g1:Int)=>⟨[(2,.ptr 0 0 0),(3,.ptr 1 0 0),(9,la v12),(10,.int .i64 g1)],[(0,bx a0),(1,bx a1)],2⟩
@[reducible,instance] def zee8 (a0:bD) (a1:aG) {T1:Type} (v1:T1) (v2:(List aM)):=mkJ ((zI8 a0 a1,v1),v2) 0 (@zY3.eq_1 a0 a1 v2) fun (j1:Unit)=>⟨[(2,.ptr 0 0 0),(3,.ptr 1 0 0),(5,la v2)],[(0,bx a0),(1,bx a1)],2⟩
@[reducible,instance] def zee9 (a0:bD) (a1:aG) {T1:Type} (v1:T1) (v2:(List aM)):=mkL ((zI8 a0 a1,v1),v2) (@zQ0.eq_1 a0 v2) fun (g2:Int)=>⟨[(2,.ptr 0 0 0),(3,.ptr 1 0 0),(5,la v2),(6,.int .i64 g2)],[(0,bx a0),(1,bx a1)],2⟩
instance zcR8 (a0:bD) (a1:aG):OkP (zI8 a0 a1) 116 [ga a0,ga a1] (fun r=>.bool r):=ok1 (zI8.eq_1 a0 a1) Tryz.f116 []
attribute [local irreducible] zI8
def zaW3 (j2:Unit):Option Bool :=
 some true
def zX1 (a0:bD) (g1:Int):Option (Int⊕(Unit⊕Bool)) :=
 (if (decide (g1 < (a0.aD.length:Int)))=true then
  gd (0≤g1∧g1 < (a0.aD.length:Int)) <|
  (zI8 a0 (a0.aD.getD g1.toNat aG.zero)).bind fun v3 =>
  gd ((v3&&decide (0 < g1))=true→0≤i64.wrap (g1 - 1)∧i64.wrap (g1 - 1) < (a0.aD.length:Int)) <|
  gd ((v3&&decide (0 < g1))=true→0≤g1∧g1 < (a0.aD.length:Int)) <|
  (if ((!v3)||(decide (0 < g1)&&decide (0≤zv1 ((a0.aD.getD ((i64.wrap (g1 - 1)).toNat) aG.zero).aP) ((a0.aD.getD g1.toNat aG.zero).aP))))=true then
   some (.inr (.inr false))
  else
   some (.inl (i64.wrap (g1+1))))
 else
  some (.inr (.inl ())))
def zah1 (a0:bD) (j1:Unit):Option Bool :=
 (zc0 (zX1 a0) 0).bind (fun|.inl z=>zaW3 z|.inr z=>some z)
def zX2 (a0:bD) (v2:(List aJ)) (g2:Int):Option (Int⊕(Unit⊕Bool)) :=
 (if (decide (g2 < (v2.length:Int)))=true then
  gd (0≤g2∧g2 < (v2.length:Int)) <|
  (zj0 a0.aD (v2.getD g2.toNat aJ.zero)).bind fun v4 =>
  (if (decide (v4 < 0))=true then
   some (.inr (.inr false))
  else
   some (.inl (i64.wrap (g2+1))))
 else
  some (.inr (.inl ())))
def zR3 (a0:bD):Option Bool :=
 ((if (!(decide (a0.now < 0)||decide (1073741824 < a0.now)))=true then zI3 a0.aF else some false)).bind fun v1 =>
 (if (((decide (a0.now < 0)||decide (1073741824 < a0.now))||(!v1))||decide (8 < (a0.aD.length:Int)))=true then
  some false
 else
  (zw7 a0.aF).bind fun v2 =>
  (zc0 (zX2 a0 v2) 0).bind (fun|.inl z=>zah1 a0 z|.inr z=>some z))
@[reducible,instance] def zef0 a0 j1:=mkJ (zah1 a0 j1) 2 (@zaW3.eq_1) fun (j2:Unit)=>⟨[],[],0⟩
@[reducible,instance] def zef1 (a0:bD) {T:Type} (x:T):=mkL x (@zX1.eq_1 a0) fun (g1:Int)=>⟨[(1,.ptr 0 0 0),(5,.int .i64 g1)],[(0,bx a0)],1⟩
@[reducible,instance] def zef2 (a0:bD) {T1:Type} (v1:T1) {T2:Type} (v2:T2):=mkJ ((zR3 a0,v1),v2) 0 (@zah1.eq_1 a0) fun (j1:Unit)=>⟨[(1,.ptr 0 0 0)],[(0,bx a0)],1⟩
@[reducible,instance] def zef3 (a0:bD) (v2:(List aJ)) {T:Type} (x:T):=mkL x (@zX2.eq_1 a0 v2) fun (g2:Int)=>⟨[(1,.ptr 0 0 0),(3,la v2),(4,.int .i64 g2)],[(0,bx a0)],1⟩
instance zbi1 (a0:bD):OkP (zR3 a0) 71 [ga a0] (fun r=>.bool r):=ok1 (zR3.eq_1 a0) Tryz.f71 []
attribute [local irreducible] zR3
def zaN5 (j1:aB×(List aY)):Option (aB×(List aY)) :=
 some (j1.1,j1.2)
def zY4 (g1:aB×(List aY)) (v4:aX×Bool) (j2:aB):Option ((aB×(List aY))⊕(aB×(List aY))) :=
 (zt0 j2.aS v4.1.aP v4.1.aK).bind fun v5 =>
 gd (g1.2.length+1≤4294967296) <|
 some (.inl ({ j2 with aS:=v5 },(g1.2++[(⟨v4.1.aP,v4.1.aK⟩:aY)])))
def zQ1 (g1:aB×(List aY)):Option ((aB×(List aY))⊕(aB×(List aY))) :=
 (zF4 g1.1).bind fun v3 =>
 (if (!v3)=true then
  (zn1 g1.1).bind fun v4 =>
  (if (decide (0 < (g1.1.aI.length:Int)))=true then
   gd (0≤1∧1≤(g1.1.aI.length:Int)∧(g1.1.aI.length:Int)≤(g1.1.aI.length:Int)) <|
   zY4 g1 v4 ({ g1.1 with aI:=(g1.1.aI.drop 1) })
  else
   gd (0≤1∧1≤(g1.1.aV.length:Int)∧(g1.1.aV.length:Int)≤(g1.1.aV.length:Int)) <|
   zY4 g1 v4 ({ g1.1 with aV:=(g1.1.aV.drop 1) }))
 else
  some (.inr (g1.1,g1.2)))
def zN4 (a0:aB):Option (aB×(List aY)) :=
 (zD2 a0).bind fun v1 =>
 (if (!v1)=true then
  some ({ aB.zero with  },[])
 else
  (zl8 a0).bind fun v2 =>
  (zc0 zQ1 (v2,[])).bind (fun z=>zaN5 z))
@[reducible,instance] def zef4 a0 {T1:Type} (v1:T1) {T2:Type} (v2:T2):=mkJ ((zN4 a0,v1),v2) 0 (@zaN5.eq_1) fun (j1:aB×(List aY))=>⟨[(1,.ptr 0 0 0),(2,.ptr 1 0 0),(4,.own 2 0 j1.2.length)],[(0,bx j1.1),(1,bx aB.zero),(2,sx j1.2)],3⟩
@[reducible,instance] def zef5 (g1:aB×(List aY)) {T1:Type} (v3:T1) (v4:aX×Bool):=mkJ ((zQ1 g1,v3),v4) 999 (@zY4.eq_1 g1 v4) fun (j2:aB)=>⟨[(1,.ptr 0 0 0),(2,.ptr 1 0 0),(4,.own 2 0 g1.2.length),(5,.ptr 3 0 0)],[(0,bx j2),(1,bx aB.zero),(2,sx g1.2),(3,bx v4.1)],4⟩
@[reducible,instance] def zef6 {T:Type} (x:T):=mkL x (@zQ1.eq_1) fun (g1:aB×(List aY))=>⟨[(1,.ptr 0 0 0),(2,.ptr 1 0 0),(4,.own 2 0 g1.2.length)],[(0,bx g1.1),(1,bx aB.zero),(2,sx g1.2)],3⟩
instance zcR9 (a0:aB):OkP (zN4 a0) 282 [ga a0] (fun r=>.tup [ga r.1,la r.2]):=ok1 (zN4.eq_1 a0) Tryz.f282 [(4,1)]
attribute [local irreducible] zN4
def zC7 (a0:aB):Option (aB×(List aY)×Int) :=
 (zN4 a0).bind fun v1 =>
 some ({ v1.1 with gen:=(zo7 a0.gen) },v1.2,0)
instance zaW4 (a0:aB):OkP (zC7 a0) 278 [ga a0] (fun r=>.tup [ga r.1,la r.2.1,.int .i64 r.2.2]):=ok1 (zC7.eq_1 a0) Tryz.f278 []
attribute [local irreducible] zC7
def zY5 (a0:aB) (a1:aJ):Option (aB×(List aY)×Int) :=
 (zI2 a0).bind fun v1 =>
 (if (!v1)=true then
  some ({ aB.zero with  },[],2)
 else
  (zi1 a0 a1).bind fun v2 =>
  (if (!v2.2)=true then
   some ({ aB.zero with  },[],10)
  else
   (zl8 a0).bind fun v3 =>
   (zh2 v3.aI a1).bind fun v4 =>
   (zh2 (({ v3 with aI:=v4.1 }).aV) a1).bind fun v5 =>
   (zC7 ({ { v3 with aI:=v4.1 } with aV:=v5.1 })).bind fun v6 =>
   some (v6.1,v6.2.1,v6.2.2)))
instance zcY4 (a0:aB) (a1:aJ):OkP (zY5 a0 a1) 280 [ga a0,ga a1] (fun r=>.tup [ga r.1,la r.2.1,.int .i64 r.2.2]):=ok1 (zY5.eq_1 a0 a1) Tryz.f280 []
attribute [local irreducible] zY5
def zY6 (a0:List aB) (a1:aJ) (a2:ByteArray):Option ((List aB)×(List bL)×Int) :=
 (zI3 a0).bind fun v1 =>
 (if (!v1)=true then
  some ([],[],2)
 else
  (zi2 a0 a2).bind fun v2 =>
  (if (decide (v2 < 0))=true then
   some ([],[],10)
  else
   gd (0≤v2∧v2 < (a0.length:Int)) <|
   (zY5 (a0.getD v2.toNat aB.zero) a1).bind fun v3 =>
   (if (!decide (v3.2.2=0))=true then
    some ([],[],v3.2.2)
   else
    (zg1 a0 v2 v3.1).bind fun v4 =>
    (zg6 a2 v3.2.1).bind fun v5 =>
    some (v4,v5,0))))
instance zcY5 (a0:List aB) (a1:aJ) (a2:ByteArray):OkP (zY6 a0 a1 a2) 271 [la a0,ga a1,.str a2] (fun r=>.tup [la r.1,la r.2.1,.int .i64 r.2.2]):=ok1 (zY6.eq_1 a0 a1 a2) Tryz.f271 []
attribute [local irreducible] zY6
def zad3 (a0:aB) (a1:aJ) (a2:aC):Option (aB×(List aY)×Int) :=
 (zI2 a0).bind fun v1 =>
 (if (!v1)=true then
  some ({ aB.zero with  },[],2)
 else
  (zi7 a0 a1).bind fun v2 =>
  (if (zn2 v2)=true then
   some ({ aB.zero with  },[],10)
  else
   (zi1 a0 a1).bind fun v3 =>
   (if v3.2=true then
    some ({ aB.zero with  },[],14)
   else
    (if (!(zu6 a0.aA v2 a2))=true then
     some ({ aB.zero with  },[],12)
    else
     (zl8 a0).bind fun v4 =>
     (if (decide (v2=a2))=true then
      some (v4,[],0)
     else
      (zt0 v4.aS a1 a2).bind fun v5 =>
      (zC7 ({ v4 with aS:=v5 })).bind fun v6 =>
      some (v6.1,v6.2.1,v6.2.2))))))
instance zbS0 (a0:aB) (a1:aJ) (a2:aC):OkP (zad3 a0 a1 a2) 272 [ga a0,ga a1,ga a2] (fun r=>.tup [ga r.1,la r.2.1,.int .i64 r.2.2]):=ok1 (zad3.eq_1 a0 a1 a2) Tryz.f272 []
attribute [local irreducible] zad3
def zX3 (a0:List aB) (a2:aM) (v2:Int) (v4:aB×(List aY)×Int) (j1:(List bL)):Option ((List aB)×(List bL)×Int) :=
 (zg1 a0 v2 v4.1).bind fun v5 =>
 (zg6 a2.name v4.2.1).bind fun v6 =>
 gd (j1.length+v6.length≤4294967296) <|
 some (v5,(j1++v6),0)
@[go_sem] def zdB6 (a0:List aB) (a2:aM) (v2:Int) (v4:aB×(List aY)×Int) (j1:(List bL)):St:=⟨[(0,la a0),(5,.ptr 0 0 0),(9,.int .i64 v2),(11,.ptr 1 0 0),(12,la v4.2.1),(14,.own 2 0 j1.length)],[(0,bx a2),(1,bx v4.1),(2,sx j1)],3⟩
def zK5 (a0:List aB) (a1:aJ) (a2:aM):Option ((List aB)×(List bL)×Int) :=
 (zI3 a0).bind fun v1 =>
 (if (!v1)=true then
  some ([],[],2)
 else
  (zi2 a0 a2.name).bind fun v2 =>
  (if (decide (v2 < 0))=true then
   some ([],[],10)
  else
   gd (0≤v2∧v2 < (a0.length:Int)) <|
   (zi7 (a0.getD v2.toNat aB.zero) a1).bind fun v3 =>
   gd (0≤v2∧v2 < (a0.length:Int)) <|
   (zad3 (a0.getD v2.toNat aB.zero) a1 a2.aK).bind fun v4 =>
   (if (!decide (v4.2.2=0))=true then
    some ([],[],v4.2.2)
   else
    (if (!decide (v3=a2.aK))=true then
     gd (1≤4294967296) <|
     zX3 a0 a2 v2 v4 [(⟨3,a1,a2.name,a2.aK⟩:bL)]
    else
     zX3 a0 a2 v2 v4 []))))
theorem zbi2 (a0:List aB) (a1:aJ) (a2:aM) (r:(List aB)×(List bL)×Int) (h:zK5 a0 a1 a2=some r):PFn C 253 [la a0,ga a1,ga a2] (.tup [la r.1,la r.2.1,.int .i64 r.2.2]):=by
 refine zak7 Tryz.f253 [(14,1)] fun E hG hN hK=>?_
 unfold zK5 at h
 refine za2 (za5 hG ?_)
 refine za2 (za2 (za5 hG ?_))
 obtain ⟨v1,hv1,h⟩:=zc2 h
 refine zw4 (fun hg=>(zbR9 a0).ok _ hv1) ?_
 refine zp0 rfl hG h (fun _ h=>?_) (fun _ h=>?_)
 · refine za2 (za5 hG ?_)
   refine zx8 ?_
   exact zae1 h
 refine zo3 ?_
 refine za2 (za5 hG ?_)
 obtain ⟨v2,hv2,h⟩:=zc2 h
 refine zw4 (fun hg=>(zbp1 a0 a2.name).ok _ hv2) ?_
 refine za2 (za2 (za5 hG ?_))
 refine zp0 rfl hG h (fun _ h=>?_) (fun _ h=>?_)
 · refine za2 (za5 hG ?_)
   refine zx8 ?_
   exact zae1 h
 refine zo3 ?_
 refine za2 ?_
 obtain ⟨hb4,h⟩:=zg0 h
 refine zaB7 zN6 hG ?_
 obtain ⟨v3,hv3,h⟩:=zc2 h
 refine zao8 (fun hg=>(zaS9 (a0.getD v2.toNat aB.zero) a1).ok _ hv3) ?_
 refine za2 ?_
 obtain ⟨hb3,h⟩:=zg0 h
 refine zaB7 zN6 hG ?_
 obtain ⟨v4,hv4,h⟩:=zc2 h
 refine zao8 (fun hg=>(zbS0 (a0.getD v2.toNat aB.zero) a1 a2.aK).ok _ hv4) ?_
 refine za2 (za2 (za5 hG ?_))
 refine zp0 rfl hG h (fun _ h=>?_) (fun _ h=>?_)
 · refine za2 (za5 hG ?_)
   refine zx8 ?_
   exact zae1 h
 refine zo3 ?_
 refine za2 (za5 hG ?_)
 refine za2 (za2 (za5 hG ?_))
 refine zaZ3 (zdB6 a0 a2 v2 v4) (fun v=>zX3 a0 a2 v2 v4 v=some r) rfl hG h ?_ (fun _ h=>?_) (fun _ h=>?_)
 · intro j1 h
   unfold zX3 at h
   refine g_st ?_
   refine za2 (zaB7 zN6 hG ?_)
   obtain ⟨v5,hv5,h⟩:=zc2 h
   refine zao8 (fun hg=>(zbA9 a0 v2 v4.1).ok _ hv5) ?_
   obtain ⟨v6,hv6,h⟩:=zc2 h
   obtain ⟨hb1,h⟩:=zg0 h
   refine zao8 (fun hg=>(zbJ2 a2.name v4.2.1).ok _ hv6) ?_
   refine zx8 ?_
   exact zae1 h
 · obtain ⟨hb2,h⟩:=zg0 h
   refine za5 hG ?_
   exact zG8 hK [(0,1),(1,3),(2,5)] [(⟨3,a1,a2.name,a2.aK⟩:bL)] (by exact h)
 refine zo3 ?_
 exact zG8 hK [(0,1),(1,3),(2,4)] [] (by exact h)
instance zcY6 (a0:List aB) (a1:aJ) (a2:aM):OkP (zK5 a0 a1 a2) 253 [la a0,ga a1,ga a2] (fun r=>.tup [la r.1,la r.2.1,.int .i64 r.2.2]):=⟨zbi2 a0 a1 a2⟩
attribute [local irreducible] zK5
def zal4 (a0:aZ) (j1:Unit):Option (Int×Int×(List aB)×(List aG)×(List bL)) :=
 some ((-1),a0.c.now,a0.c.aF,a0.c.aD,a0.ev)
def zK1 (a0:aZ) (g1:Int):Option (Int⊕(Unit⊕(Int×Int×(List aB)×(List aG)×(List bL)))) :=
 (if (decide (g1 < ((a0.c.aD.length:Nat):Int)))=true then
  gd (0≤g1∧g1 < ((a0.c.aD.length:Nat):Int)) <|
  ((if ((a0.c.aD.getD g1.toNat aG.zero).bI)=true then zF5 a0.c.aF ((a0.c.aD.getD g1.toNat aG.zero).aP) (((a0.c.aD.getD g1.toNat aG.zero).bJ).bS) else some [])).bind fun v1 =>
  ((if ((a0.c.aD.getD g1.toNat aG.zero).bI)=true then zR1 (((a0.c.aD.getD g1.toNat aG.zero).bJ).bS) v1 else some false)).bind fun v2 =>
  (if ((a0.c.aD.getD g1.toNat aG.zero).bI&&v2)=true then
   some (.inr (.inr (g1,a0.c.now,a0.c.aF,a0.c.aD,a0.ev)))
  else
   some (.inl (i64.wrap (g1+1))))
 else
  some (.inr (.inl ())))
def zs9 (a0:aZ):Option (Int×Int×(List aB)×(List aG)×(List bL)) :=
 (zc0 (zK1 a0) 0).bind (fun|.inl z=>zal4 a0 z|.inr z=>some z)
@[reducible,instance] def zef7 (a0:aZ):=mkJ (zs9 a0) 0 (@zal4.eq_1 a0) fun (j1:Unit)=>⟨[],[(0,⟨false,4,aZ.enc aZ.zero,[[.int .i64 a0.c.now,la a0.c.aF,.own 1 0 a0.c.aD.length,.own 2 0 a0.ev.length]]⟩),(1,sx a0.c.aD),(2,sx a0.ev)],3⟩
@[reducible,instance] def zef8 (a0:aZ) {T:Type} (x:T):=mkL x (@zK1.eq_1 a0) fun (g1:Int)=>⟨[(0,.ptr 0 0 0),(3,.int .i64 g1)],[(0,⟨false,4,aZ.enc aZ.zero,[[.int .i64 a0.c.now,la a0.c.aF,.own 1 0 a0.c.aD.length,.own 2 0 a0.ev.length]]⟩),(1,sx a0.c.aD),(2,sx a0.ev)],3⟩
instance zbS1 (a0:aZ):OkM (zs9 a0) 250 [.ptr 0 0 0] [(0,⟨false,4,aZ.enc aZ.zero,[[.int .i64 a0.c.now,la a0.c.aF,.own 1 0 a0.c.aD.length,.own 2 0 a0.ev.length]]⟩),(1,sx a0.c.aD),(2,sx a0.ev)] 3 (fun r=>.int .i64 r.1) (fun r=>[(0,⟨false,4,aZ.enc aZ.zero,[[.int .i64 r.2.1,la r.2.2.1,.own 1 0 r.2.2.2.1.length,.own 2 0 r.2.2.2.2.length]]⟩),(1,sx r.2.2.2.1),(2,sx r.2.2.2.2)]) 3:=okm (zs9.eq_1 a0) (fun r=>[.int .i64 r.1]) Tryz.f250 []
attribute [local irreducible] zs9
def zK6 (a0:aB) (a1:aJ) (a2:aC) (a3:Int):Option (aB×(List aY)×Int) :=
 (zI2 a0).bind fun v1 =>
 (if (!v1)=true then
  some ({ aB.zero with  },[],2)
 else
  (if (((!(zj6 a1))||decide (a3 < 0))||decide (7 < a3))=true then
   some ({ aB.zero with  },[],1)
  else
   (if (!(zv4 a0.aA a2))=true then
    some ({ aB.zero with  },[],12)
   else
    (zi1 a0 a1).bind fun v2 =>
    (if v2.2=true then
     some ({ aB.zero with  },[],14)
    else
     (zj5 a0).bind fun v3 =>
     (zi7 v3 a1).bind fun v4 =>
     (if (zu6 v3.aA v4 a2)=true then
      some (v3,[],0)
     else
      (if (!(zn2 v4))=true then
       (zB9 v3.aA v4 a2).bind fun v5 =>
       gd (v3.aI.length+1≤4294967296) <|
       (zC7 (⟨(⟨v3.aA.name,v3.aA.kind,v3.aA.aT,v3.aA.home⟩:aH),v3.aS,(v3.aI++[{ aX.zero with aP:=a1,aK:=v5 }]),v3.aV,v3.gen⟩:aB)).bind fun v6 =>
       some (v6.1,v6.2.1,v6.2.2)
      else
       (if (decide (8≤i64.wrap ((v3.aS.length:Int)+(v3.aV.length:Int))))=true then
        some ({ aB.zero with  },[],4)
       else
        (zu7 v3.aV ({ aX.zero with aP:=a1,aK:=a2,bH:=a3 })).bind fun v7 =>
        (if (!decide (v7.2.2=0))=true then
         some ({ aB.zero with  },[],v7.2.2)
        else
         (zC7 (⟨(⟨v3.aA.name,v3.aA.kind,v3.aA.aT,v3.aA.home⟩:aH),v3.aS,v3.aI,v7.1,v3.gen⟩:aB)).bind fun v8 =>
         some (v8.1,v8.2.1,v8.2.2)))))))))
instance zdg9 (a0:aB) (a1:aJ) (a2:aC) (a3:Int):OkP (zK6 a0 a1 a2 a3) 268 [ga a0,ga a1,ga a2,.int .i64 a3] (fun r=>.tup [ga r.1,la r.2.1,.int .i64 r.2.2]):=⟨fun r h=>by
 refine zak7 Tryz.f268 [(48,1)] fun E hG hN hK=>?_
 have hm:Mk (zK6 a0 a1 a2 a3):=trivial
 unfold zK6 at h
 refine za2 (za5 hG ?_)
 refine za2 (za2 (za5 hG ?_))
 obtain ⟨v1,hv1,h⟩:=zc2 h
 have hm:=mkP hm v1
 refine zw4 (fun hg=>(zbR8 a0).ok _ hv1) ?_
 refine zp0 rfl hG h (fun _ h=>?_) (fun _ h=>?_)
 · exact gogo
 refine zo3 ?_
 refine za2 (za2 (za5 hG ?_))
 refine zw4 (fun hg=>(zbr8 a1).ok) ?_
 refine zp0 rfl hG h (fun _ h=>?_) (fun _ h=>?_)
 · exact gogo
 refine zo3 ?_
 refine za2 (za2 (za5 hG ?_))
 refine zw4 (fun hg=>(zca1 a0.aA a2).ok) ?_
 refine zp0 rfl hG h (fun _ h=>?_) (fun _ h=>?_)
 · exact gogo
 refine zo3 ?_
 refine za2 (za2 (za5 hG ?_))
 obtain ⟨v2,hv2,h⟩:=zc2 h
 have hm:=mkP hm v2
 refine zw4 (fun hg=>(zbJ5 a0 a1).ok _ hv2) ?_
 refine za2 (za5 hG ?_)
 refine zp0 rfl hG h (fun _ h=>?_) (fun _ h=>?_)
 · exact gogo
 refine zo3 ?_
 refine za2 (za5 hG ?_)
 obtain ⟨v3,hv3,h⟩:=zc2 h
 have hm:=mkP hm v3
 refine zs1 [] [(0,5),(1,6),(2,7)] [0,1,2] (zbB3 _ _ hv3) rfl rfl ?_
 refine g_gh (.fz [5,7]) ?_
 refine za2 (za5 hG ?_)
 obtain ⟨v4,hv4,h⟩:=zc2 h
 have hm:=mkP hm v4
 refine zw4 (fun hg=>(zaS9 v3 a1).ok _ hv4) ?_
 refine za2 (za2 (za5 hG ?_))
 refine zw4 (fun hg=>(zbJ6 v3.aA v4 a2).ok) ?_
 refine zp0 rfl hG h (fun _ h=>?_) (fun _ h=>?_)
 · exact gogo
 refine zo3 ?_
 refine za2 (za2 (za5 hG ?_))
 refine zw4 (fun hg=>(zbZ9 v4).ok) ?_
 refine zp0 rfl hG h (fun _ h=>?_) (fun _ h=>?_)
 · refine za2 (zaB7 zN6 hG ?_)
   obtain ⟨v5,hv5,h⟩:=zc2 h
   have hm:=mkP hm v5
   obtain ⟨hb1,h⟩:=zg0 h
   refine zao8 (fun hg=>(zca3 v3.aA v4 a2).ok _ hv5) ?_
   refine za2 (za5 hG ?_)
   obtain ⟨v6,hv6,h⟩:=zc2 h
   have hm:=mkP hm v6
   have hc_v6:=(zaW4 (⟨(⟨v3.aA.name,v3.aA.kind,v3.aA.aT,v3.aA.home⟩:aH),v3.aS,(v3.aI++[{ aX.zero with aP:=a1,aK:=v5 }]),v3.aV,v3.gen⟩:aB)).ok _ hv6
   have el_v6:∀ x:aB,aB.enc x=[A.str x.aA.name,A.int .i64 x.aA.kind,A.int .i64 x.aA.aT,A.int .i64 x.aA.home,A.sl (x.aS.map aY.enc),A.sl (x.aI.map aX.enc),A.sl (x.aV.map aX.enc),A.int .i64 x.gen]:=fun x=>rfl
   try dsimp only [ga,la,En.e] at hc_v6
   rw [el_v6] at hc_v6
   dsimp only at hc_v6
   refine zw4 (fun hg=>by exact hc_v6) ?_
   exact gogo
 refine zo3 ?_
 refine za2 (za2 (za5 hG ?_))
 refine zp0 rfl hG h (fun _ h=>?_) (fun _ h=>?_)
 · exact gogo
 refine zo3 ?_
 refine za2 (za5 hG ?_)
 obtain ⟨v7,hv7,h⟩:=zc2 h
 have hm:=mkP hm v7
 refine zw4 (fun hg=>(zbJ8 v3.aV ({ aX.zero with aP:=a1,aK:=a2,bH:=a3 })).ok _ hv7) ?_
 refine za2 (za2 (za5 hG ?_))
 refine zp0 rfl hG h (fun _ h=>?_) (fun _ h=>?_)
 · exact gogo
 refine zo3 ?_
 refine za2 (za5 hG ?_)
 refine za2 (za5 hG ?_)
 obtain ⟨v8,hv8,h⟩:=zc2 h
 have hm:=mkP hm v8
 have hc_v8:=(zaW4 (⟨(⟨v3.aA.name,v3.aA.kind,v3.aA.aT,v3.aA.home⟩:aH),v3.aS,v3.aI,v7.1,v3.gen⟩:aB)).ok _ hv8
 have el_v8:∀ x:aB,aB.enc x=[A.str x.aA.name,A.int .i64 x.aA.kind,A.int .i64 x.aA.aT,A.int .i64 x.aA.home,A.sl (x.aS.map aY.enc),A.sl (x.aI.map aX.enc),A.sl (x.aV.map aX.enc),A.int .i64 x.gen]:=fun x=>rfl
 try dsimp only [ga,la,En.e] at hc_v8
 rw [el_v8] at hc_v8
 dsimp only at hc_v8
 refine zw4 (fun hg=>by exact hc_v8) ?_
 exact gogo⟩
attribute [local irreducible] zK6
def zad4 (a0:List aB) (a1:aJ) (a2:aM) (a3:Int):Option ((List aB)×(List bL)×Int) :=
 (zI3 a0).bind fun v1 =>
 (if (!v1)=true then
  some ([],[],2)
 else
  (zi2 a0 a2.name).bind fun v2 =>
  (if (decide (v2 < 0))=true then
   some ([],[],10)
  else
   (zw7 a0).bind fun v3 =>
   ((if (decide ((v3.length:Int)=8))=true then zg5 v3 a1 else some false)).bind fun v4 =>
   (if (decide ((v3.length:Int)=8)&&(!v4))=true then
    some ([],[],4)
   else
    gd (0≤v2∧v2 < (a0.length:Int)) <|
    (zK6 (a0.getD v2.toNat aB.zero) a1 a2.aK a3).bind fun v5 =>
    (if (!decide (v5.2.2=0))=true then
     some ([],[],v5.2.2)
    else
     (zg1 a0 v2 v5.1).bind fun v6 =>
     (zg6 a2.name v5.2.1).bind fun v7 =>
     some (v6,v7,0)))))
instance zdh0 (a0:List aB) (a1:aJ) (a2:aM) (a3:Int):OkP (zad4 a0 a1 a2 a3) 245 [la a0,ga a1,ga a2,.int .i64 a3] (fun r=>.tup [la r.1,la r.2.1,.int .i64 r.2.2]):=ok1 (zad4.eq_1 a0 a1 a2 a3) Tryz.f245 []
attribute [local irreducible] zad4
def zY7 (a0:aB) (a1:aJ):Option (aB×(List aY)×Int) :=
 (zI2 a0).bind fun v1 =>
 (if (!v1)=true then
  some ({ aB.zero with  },[],2)
 else
  (zu4 a0 a1).bind fun v2 =>
  (if (!v2)=true then
   some ({ aB.zero with  },[],10)
  else
   (zl8 a0).bind fun v3 =>
   (zt0 v3.aS a1 ({ aC.zero with  })).bind fun v4 =>
   (zh2 (({ v3 with aS:=v4 }).aI) a1).bind fun v5 =>
   (zh2 (({ { v3 with aS:=v4 } with aI:=v5.1 }).aV) a1).bind fun v6 =>
   (zC7 ({ { { v3 with aS:=v4 } with aI:=v5.1 } with aV:=v6.1 })).bind fun v7 =>
   some (v7.1,v7.2.1,v7.2.2)))
instance zcY7 (a0:aB) (a1:aJ):OkP (zY7 a0 a1) 274 [ga a0,ga a1] (fun r=>.tup [ga r.1,la r.2.1,.int .i64 r.2.2]):=ok1 (zY7.eq_1 a0 a1) Tryz.f274 []
attribute [local irreducible] zY7
def zaR5 (j1:(List aB)×(List bL)):Option ((List aB)×(List bL)) :=
 some (j1.1,j1.2)
def zab9 (a1:aJ) (g1:Int×(List aB)×(List bL)) (j2:(List bL)):Option ((Int×(List aB)×(List bL))⊕((List aB)×(List bL))) :=
 gd (0≤g1.1∧g1.1 < ((g1.2.1.length:Nat):Int)) <|
 (zY7 (g1.2.1.getD g1.1.toNat aB.zero) a1).bind fun v4 =>
 gd (0≤g1.1∧g1.1 < ((g1.2.1.length:Nat):Int)) <|
 (zg6 v4.1.aA.name v4.2.1).bind fun v5 =>
 gd (j2.length+v5.length≤4294967296) <|
 some (.inl ((i64.wrap (g1.1+1)),g1.2.1.set g1.1.toNat v4.1,(j2++v5)))
def zac0 (a1:aJ) (g1:Int×(List aB)×(List bL)):Option ((Int×(List aB)×(List bL))⊕((List aB)×(List bL))) :=
 (if (decide (g1.1 < ((g1.2.1.length:Nat):Int)))=true then
  gd (0≤g1.1∧g1.1 < ((g1.2.1.length:Nat):Int)) <|
  (zu4 (g1.2.1.getD g1.1.toNat aB.zero) a1).bind fun v2 =>
  (if (!v2)=true then
   some (.inl ((i64.wrap (g1.1+1)),g1.2.1,g1.2.2))
  else
   gd (0≤g1.1∧g1.1 < ((g1.2.1.length:Nat):Int)) <|
   (zi7 (g1.2.1.getD g1.1.toNat aB.zero) a1).bind fun v3 =>
   (if (!(zn2 v3))=true then
    gd (0≤g1.1∧g1.1 < ((g1.2.1.length:Nat):Int)) <|
    gd (g1.2.2.length+1≤4294967296) <|
    zab9 a1 g1 (g1.2.2++[{ bL.zero with kind:=3,aP:=a1,name:=((g1.2.1.getD g1.1.toNat aB.zero).aA).name }])
   else
    zab9 a1 g1 g1.2.2))
 else
  some (.inr (g1.2.1,g1.2.2)))
def zS3 (a0:List aB) (a1:aJ):Option ((List aB)×(List bL)) :=
 (zI3 a0).bind fun v1 =>
 (if (!v1)=true then
  some ([],[])
 else
  gd (a0.length≤4294967296) <|
  (zc0 (zac0 a1) (0,a0,[])).bind (fun z=>zaR5 z))
@[reducible,instance] def zef9 a0 a1 {T1:Type} (v1:T1):=mkJ (zS3 a0 a1,v1) 0 (@zaR5.eq_1) fun (j1:(List aB)×(List bL))=>⟨[(6,.own 0 0 j1.1.length),(7,.own 1 0 j1.2.length)],[(0,sx j1.1),(1,sx j1.2)],2⟩
@[reducible,instance] def zeg0 (a1:aJ) (g1:Int×(List aB)×(List bL)) {T1:Type} (v2:T1) {T2:Type} (v3:T2):=mkJ ((zac0 a1 g1,v2),v3) 999 (@zab9.eq_1 a1 g1) fun (j2:(List bL))=>⟨[(3,.ptr 0 0 0),(6,.own 1 0 g1.2.1.length),(7,.own 2 0 j2.length),(8,.int .i64 g1.1)],[(0,bx a1),(1,sx g1.2.1),(2,sx j2)],3⟩
@[reducible,instance] def zeg1 (a1:aJ) {T:Type} (x:T):=mkL x (@zac0.eq_1 a1) fun (g1:Int×(List aB)×(List bL))=>⟨[(3,.ptr 0 0 0),(6,.own 1 0 g1.2.1.length),(7,.own 2 0 g1.2.2.length),(8,.int .i64 g1.1)],[(0,bx a1),(1,sx g1.2.1),(2,sx g1.2.2)],3⟩
instance zcY8 (a0:List aB) (a1:aJ):OkP (zS3 a0 a1) 256 [la a0,ga a1] (fun r=>.tup [la r.1,la r.2]):=ok1 (zS3.eq_1 a0 a1) Tryz.f256 [(15,1),(7,1)]
attribute [local irreducible] zS3
def zaC9 (a0:aL) (j1:Unit):Option Bool :=
 (zI1 a0).bind fun v2 =>
 some (decide ((v2.length:Int)≤8))
def zK0 (a0:aL) (g1:Int):Option (Int⊕(Unit⊕Bool)) :=
 (if (decide (g1 < (a0.bB.length:Int)))=true then
  gd (0≤g1∧g1 < (a0.bB.length:Int)) <|
  ((if (zj6 ((a0.bB.getD g1.toNat bN.zero).aP))=true then zz3 ((a0.bB.getD g1.toNat bN.zero).bS) else some false)).bind fun v3 =>
  gd (((!((((!(zj6 ((a0.bB.getD g1.toNat bN.zero).aP)))||(!v3))||decide ((a0.bB.getD g1.toNat bN.zero).gen < 0))||decide (1073741824 < (a0.bB.getD g1.toNat bN.zero).gen)))&&decide (0 < g1))=true→0≤i64.wrap (g1 - 1)∧i64.wrap (g1 - 1) < (a0.bB.length:Int)) <|
  (if (((((!(zj6 ((a0.bB.getD g1.toNat bN.zero).aP)))||(!v3))||decide ((a0.bB.getD g1.toNat bN.zero).gen < 0))||decide (1073741824 < (a0.bB.getD g1.toNat bN.zero).gen))||(decide (0 < g1)&&decide (0≤zv1 ((a0.bB.getD ((i64.wrap (g1 - 1)).toNat) bN.zero).aP) ((a0.bB.getD g1.toNat bN.zero).aP))))=true then
   some (.inr (.inr false))
  else
   some (.inl (i64.wrap (g1+1))))
 else
  some (.inr (.inl ())))
def zK7 (a0:aL):Option Bool :=
 (zR2 a0.aF).bind fun v1 =>
 (if ((!v1)||decide (8 < (a0.bB.length:Int)))=true then
  some false
 else
  (zc0 (zK0 a0) 0).bind (fun|.inl z=>zaC9 a0 z|.inr z=>some z))
@[reducible,instance] def zeg2 (a0:aL) {T1:Type} (v1:T1):=mkJ (zK7 a0,v1) 0 (@zaC9.eq_1 a0) fun (j1:Unit)=>⟨[(1,.ptr 0 0 0)],[(0,bx a0)],1⟩
@[reducible,instance] def zeg3 (a0:aL) {T:Type} (x:T):=mkL x (@zK0.eq_1 a0) fun (g1:Int)=>⟨[(1,.ptr 0 0 0),(3,.int .i64 g1)],[(0,bx a0)],1⟩
instance zdh1 (a0:aL):OkP (zK7 a0) 49 [ga a0] (fun r=>.bool r):=ok1 (zK7.eq_1 a0) Tryz.f49 []
attribute [local irreducible] zK7
def zaA0 (j2:(List Int)):Option ((List Int)×Int) :=
 some (j2,0)
def zac1 (a0:aL) (g1:(List Int)×Int):Option (((List Int)×Int)⊕(List Int)) :=
 (if (decide (g1.2 < (a0.bB.length:Int)))=true then
  gd (0≤g1.2∧g1.2 < (a0.bB.length:Int)) <|
  (zj2 g1.1 ((a0.bB.getD g1.2.toNat bN.zero).aP)).bind fun v4 =>
  gd (0≤g1.2∧g1.2 < (a0.bB.length:Int)) <|
  (zj7 v4 ((a0.bB.getD g1.2.toNat bN.zero).gen)).bind fun v5 =>
  gd (0≤g1.2∧g1.2 < (a0.bB.length:Int)) <|
  (zw6 v5 ((a0.bB.getD g1.2.toNat bN.zero).bS)).bind fun v6 =>
  some (.inl (v6,i64.wrap (g1.2+1)))
 else
  some (.inr g1.1))
def zal5 (a0:aL) (j1:(List Int)):Option ((List Int)×Int) :=
 (zj7 j1 (a0.bB.length:Int)).bind fun v3 =>
 (zc0 (zac1 a0) (v3,0)).bind (fun z=>zaA0 z)
def zaA1 (g2:(List Int)×Int) (j5:(List Int)):Option (((List Int)×Int)⊕(List Int)) :=
 some (.inl (j5,i64.wrap (g2.2+1)))
def zac2 (a0:aL) (g2 g3:(List Int)×Int):Option (((List Int)×Int)⊕(List Int)) :=
 (if (decide (g3.2 < (((a0.aF.getD g2.2.toNat aB.zero).aV).length:Int)))=true then
  gd (0≤g3.2∧g3.2 < (((a0.aF.getD g2.2.toNat aB.zero).aV).length:Int)) <|
  (zj2 g3.1 ((((a0.aF.getD g2.2.toNat aB.zero).aV).getD g3.2.toNat aX.zero).aP)).bind fun v15 =>
  (zm9 v15 ((((a0.aF.getD g2.2.toNat aB.zero).aV).getD g3.2.toNat aX.zero).aK)).bind fun v16 =>
  (zj7 v16 ((((a0.aF.getD g2.2.toNat aB.zero).aV).getD g3.2.toNat aX.zero).bH)).bind fun v17 =>
  (zj7 v17 ((((a0.aF.getD g2.2.toNat aB.zero).aV).getD g3.2.toNat aX.zero).bR)).bind fun v18 =>
  some (.inl (v18,i64.wrap (g3.2+1)))
 else
  some (.inr g3.1))
def zal6 (a0:aL) (g2:(List Int)×Int) (j4:(List Int)):Option (((List Int)×Int)⊕(List Int)) :=
 (zj7 j4 (((a0.aF.getD g2.2.toNat aB.zero).aV).length:Int)).bind fun v14 =>
 (zc0 (zac2 a0 g2) (v14,0)).bind (fun z=>zaA1 g2 z)
def zac3 (a0:aL) (g2 g4:(List Int)×Int):Option (((List Int)×Int)⊕(List Int)) :=
 (if (decide (g4.2 < (((a0.aF.getD g2.2.toNat aB.zero).aI).length:Int)))=true then
  gd (0≤g4.2∧g4.2 < (((a0.aF.getD g2.2.toNat aB.zero).aI).length:Int)) <|
  (zj2 g4.1 ((((a0.aF.getD g2.2.toNat aB.zero).aI).getD g4.2.toNat aX.zero).aP)).bind fun v19 =>
  gd (0≤g4.2∧g4.2 < (((a0.aF.getD g2.2.toNat aB.zero).aI).length:Int)) <|
  (zm9 v19 ((((a0.aF.getD g2.2.toNat aB.zero).aI).getD g4.2.toNat aX.zero).aK)).bind fun v20 =>
  some (.inl (v20,i64.wrap (g4.2+1)))
 else
  some (.inr g4.1))
def zal7 (a0:aL) (g2:(List Int)×Int) (j3:(List Int)):Option (((List Int)×Int)⊕(List Int)) :=
 (zj7 j3 (((a0.aF.getD g2.2.toNat aB.zero).aI).length:Int)).bind fun v13 =>
 (zc0 (zac3 a0 g2) (v13,0)).bind (fun z=>zal6 a0 g2 z)
def zac4 (a0:aL) (g2 g5:(List Int)×Int):Option (((List Int)×Int)⊕(List Int)) :=
 (if (decide (g5.2 < (((a0.aF.getD g2.2.toNat aB.zero).aS).length:Int)))=true then
  gd (0≤g5.2∧g5.2 < (((a0.aF.getD g2.2.toNat aB.zero).aS).length:Int)) <|
  (zj2 g5.1 ((((a0.aF.getD g2.2.toNat aB.zero).aS).getD g5.2.toNat aY.zero).aP)).bind fun v21 =>
  gd (0≤g5.2∧g5.2 < (((a0.aF.getD g2.2.toNat aB.zero).aS).length:Int)) <|
  (zm9 v21 ((((a0.aF.getD g2.2.toNat aB.zero).aS).getD g5.2.toNat aY.zero).aK)).bind fun v22 =>
  some (.inl (v22,i64.wrap (g5.2+1)))
 else
  some (.inr g5.1))
def zT6 (a0:aL) (g2:(List Int)×Int):Option (((List Int)×Int)⊕(List Int)) :=
 (if (decide (g2.2 < (a0.aF.length:Int)))=true then
  gd (0≤g2.2∧g2.2 < (a0.aF.length:Int)) <|
  (zj8 g2.1 (((a0.aF.getD g2.2.toNat aB.zero).aA).name)).bind fun v7 =>
  (zj7 v7 (((a0.aF.getD g2.2.toNat aB.zero).aA).kind)).bind fun v8 =>
  (zj7 v8 (((a0.aF.getD g2.2.toNat aB.zero).aA).aT)).bind fun v9 =>
  (zj7 v9 (((a0.aF.getD g2.2.toNat aB.zero).aA).home)).bind fun v10 =>
  (zj7 v10 ((a0.aF.getD g2.2.toNat aB.zero).gen)).bind fun v11 =>
  (zj7 v11 (((a0.aF.getD g2.2.toNat aB.zero).aS).length:Int)).bind fun v12 =>
  (zc0 (zac4 a0 g2) (v12,0)).bind (fun z=>zal7 a0 g2 z)
 else
  some (.inr g2.1))
def zS4 (a0:aL):Option ((List Int)×Int) :=
 (zK7 a0).bind fun v1 =>
 (if (!v1)=true then
  some ([],2)
 else
  (zj7 [] (a0.aF.length:Int)).bind fun v2 =>
  (zc0 (zT6 a0) (v2,0)).bind (fun z=>zal5 a0 z))
@[reducible,instance] def zeg4 a0 j1 {T1:Type} (v3:T1):=mkJ (zal5 a0 j1,v3) 8 (@zaA0.eq_1) fun (j2:(List Int))=>⟨[(4,.sl (j2.map (eI .u8)))],[],0⟩
@[reducible,instance] def zeg5 (a0:aL) {T:Type} (x:T):=mkL x (@zac1.eq_1 a0) fun (g1:(List Int)×Int)=>⟨[(1,.ptr 0 0 0),(4,.sl (g1.1.map (eI .u8))),(12,.int .i64 g1.2)],[(0,bx a0)],1⟩
@[reducible,instance] def zeg6 (a0:aL) {T1:Type} (v1:T1) {T2:Type} (v2:T2):=mkJ ((zS4 a0,v1),v2) 0 (@zal5.eq_1 a0) fun (j1:(List Int))=>⟨[(1,.ptr 0 0 0),(4,.sl (j1.map (eI .u8)))],[(0,bx a0)],1⟩
@[reducible,instance] def zeg7 (a0:aL) (g2:(List Int)×Int) j4 {T1:Type} (v14:T1):=mkJ (zal6 a0 g2 j4,v14) 6 (@zaA1.eq_1 g2) fun (j5:(List Int))=>⟨[(1,.ptr 0 0 0),(4,.sl (j5.map (eI .u8))),(5,.int .i64 g2.2)],[(0,bx a0)],1⟩
@[reducible,instance] def zeg8 (a0:aL) (g2:(List Int)×Int) {T:Type} (x:T):=mkL x (@zac2.eq_1 a0 g2) fun (g3:(List Int)×Int)=>⟨[(1,.ptr 0 0 0),(4,.sl (g3.1.map (eI .u8))),(5,.int .i64 g2.2),(6,.ptr 1 0 0),(10,.int .i64 g3.2)],[(0,bx a0),(1,bx (a0.aF.getD g2.2.toNat aB.zero))],2⟩
@[reducible,instance] def zeg9 (a0:aL) (g2:(List Int)×Int) j3 {T1:Type} (v13:T1):=mkJ (zal7 a0 g2 j3,v13) 4 (@zal6.eq_1 a0 g2) fun (j4:(List Int))=>⟨[(1,.ptr 0 0 0),(4,.sl (j4.map (eI .u8))),(5,.int .i64 g2.2),(6,.ptr 1 0 0)],[(0,bx a0),(1,bx (a0.aF.getD g2.2.toNat aB.zero))],2⟩
@[reducible,instance] def zeh0 (a0:aL) (g2:(List Int)×Int) {T:Type} (x:T):=mkL x (@zac3.eq_1 a0 g2) fun (g4:(List Int)×Int)=>⟨[(1,.ptr 0 0 0),(4,.sl (g4.1.map (eI .u8))),(5,.int .i64 g2.2),(6,.ptr 1 0 0),(9,.int .i64 g4.2)],[(0,bx a0),(1,bx (a0.aF.getD g2.2.toNat aB.zero))],2⟩
@[reducible,instance] def zeh1 (a0:aL) (g2:(List Int)×Int) {T1:Type} (v7:T1) {T2:Type} (v8:T2) {T3:Type} (v9:T3) {T4:Type} (v10:T4) {T5:Type} (v11:T5) {T6:Type} (v12:T6):=mkJ ((((((zT6 a0 g2,v7),v8),v9),v10),v11),v12) 2 (@zal7.eq_1 a0 g2) fun (j3:(List Int))=>⟨[(1,.ptr 0 0 0),(4,.sl (j3.map (eI .u8))),(5,.int .i64 g2.2),(6,.ptr 1 0 0)],[(0,bx a0),(1,bx (a0.aF.getD g2.2.toNat aB.zero))],2⟩
@[reducible,instance] def zeh2 (a0:aL) (g2:(List Int)×Int) {T:Type} (x:T):=mkL x (@zac4.eq_1 a0 g2) fun (g5:(List Int)×Int)=>⟨[(1,.ptr 0 0 0),(4,.sl (g5.1.map (eI .u8))),(5,.int .i64 g2.2),(6,.ptr 1 0 0),(8,.int .i64 g5.2)],[(0,bx a0),(1,bx (a0.aF.getD g2.2.toNat aB.zero))],2⟩
@[reducible,instance] def zeh3 (a0:aL) {T:Type} (x:T):=mkL x (@zT6.eq_1 a0) fun (g2:(List Int)×Int)=>⟨[(1,.ptr 0 0 0),(4,.sl (g2.1.map (eI .u8))),(5,.int .i64 g2.2)],[(0,bx a0)],1⟩
instance zcY9 (a0:aL):OkP (zS4 a0) 17 [ga a0] (fun r=>.tup [.sl (r.1.map (eI .u8)),.int .i64 r.2]):=ok1 (zS4.eq_1 a0) Tryz.f17 []
attribute [local irreducible] zS4
def zaA2 (a0:List Int) (j2:aO×aL):Option (aL×Int) :=
 (if (!decide (j2.1.e=0))=true then
  some ({ aL.zero with  },j2.1.e)
 else
  (if (decide (j2.1.at_ < (a0.length:Int)))=true then
   some ({ aL.zero with  },6)
  else
   (zK7 j2.2).bind fun v3 =>
   (if (!v3)=true then
    some ({ aL.zero with  },2)
   else
    some (j2.2,0))))
def zL7 (v2:Int×aO) (g1:Int×aO×aL):Option ((Int×aO×aL)⊕(aO×aL)) :=
 (if (decide (g1.1 < v2.1)&&decide (g1.2.1.e=0))=true then
  (ze8 g1.2.1).bind fun v4 =>
  (zc5 v4.2).bind fun v5 =>
  (zu0 1 v5.2).bind fun v6 =>
  gd (g1.2.2.bB.length+1≤4294967296) <|
  some (.inl ((i64.wrap (g1.1+1)),v6.2,(⟨g1.2.2.aF,(g1.2.2.bB++[{ { { bN.zero with aP:=v4.1 } with gen:=v5.1 } with bS:=v6.1 }])⟩:aL)))
 else
  some (.inr (g1.2.1,g1.2.2)))
def zac5 (a0:List Int) (j1:aO×aL):Option (aL×Int) :=
 (zd4 8 j1.1).bind fun v2 =>
 (zc0 (zL7 v2) (0,v2.2,j1.2)).bind (fun z=>zaA2 a0 z)
def zL8 (v1:Int×aO) (g2:Int×aO×aL):Option ((Int×aO×aL)⊕(aO×aL)) :=
 (if (decide (g2.1 < v1.1)&&decide (g2.2.1.e=0))=true then
  (zn6 g2.2.1).bind fun v7 =>
  gd (g2.2.2.aF.length+1≤4294967296) <|
  some (.inl ((i64.wrap (g2.1+1)),v7.2,(⟨(g2.2.2.aF++[v7.1]),g2.2.2.bB⟩:aL)))
 else
  some (.inr (g2.2.1,g2.2.2)))
def zC8 (a0:List Int):Option (aL×Int) :=
 (zd4 8 ({ aO.zero with b:=a0 })).bind fun v1 =>
 (zc0 (zL8 v1) (0,v1.2,(⟨[],[]⟩:aL))).bind (fun z=>zac5 a0 z)
@[reducible,instance] def zeh4 (a0:List Int) (j1:aO×aL) {T1:Type} (v2:T1):=mkJ (zac5 a0 j1,v2) 2 (@zaA2.eq_1 a0) fun (j2:aO×aL)=>⟨[(0,.sl (a0.map (eI .u8))),(2,.ptr 0 0 0),(4,.ptr 1 0 0),(5,.ptr 2 0 0)],[(0,bx aL.zero),(1,bx j2.1),(2,⟨false,2,aL.enc aL.zero,[[.own 3 0 j2.2.aF.length,.own 4 0 j2.2.bB.length]]⟩),(3,sx j2.2.aF),(4,sx j2.2.bB)],5⟩
@[reducible,instance] def zeh5 (a0:List Int) (j1:aO×aL) (v2:Int×aO):=mkL (zac5 a0 j1,v2) (@zL7.eq_1 v2) fun (g1:Int×aO×aL)=>⟨[(0,.sl (a0.map (eI .u8))),(2,.ptr 0 0 0),(4,.ptr 1 0 0),(5,.ptr 2 0 0),(6,.int .i64 v2.1),(8,.int .i64 g1.1)],[(0,bx aL.zero),(1,bx g1.2.1),(2,⟨false,2,aL.enc aL.zero,[[.own 3 0 g1.2.2.aF.length,.own 4 0 g1.2.2.bB.length]]⟩),(3,sx g1.2.2.aF),(4,sx g1.2.2.bB)],5⟩
@[reducible,instance] def zeh6 (a0:List Int) {T1:Type} (v1:T1):=mkJ (zC8 a0,v1) 0 (@zac5.eq_1 a0) fun (j1:aO×aL)=>⟨[(0,.sl (a0.map (eI .u8))),(2,.ptr 0 0 0),(4,.ptr 1 0 0),(5,.ptr 2 0 0)],[(0,bx aL.zero),(1,bx j1.1),(2,⟨false,2,aL.enc aL.zero,[[.own 3 0 j1.2.aF.length,.own 4 0 j1.2.bB.length]]⟩),(3,sx j1.2.aF),(4,sx j1.2.bB)],5⟩
@[reducible,instance] def zeh7 (a0:List Int) (v1:Int×aO):=mkL (zC8 a0,v1) (@zL8.eq_1 v1) fun (g2:Int×aO×aL)=>⟨[(0,.sl (a0.map (eI .u8))),(2,.ptr 0 0 0),(4,.ptr 1 0 0),(5,.ptr 2 0 0),(6,.int .i64 v1.1),(7,.int .i64 g2.1)],[(0,bx aL.zero),(1,bx g2.2.1),(2,⟨false,2,aL.enc aL.zero,[[.own 3 0 g2.2.2.aF.length,.own 4 0 g2.2.2.bB.length]]⟩),(3,sx g2.2.2.aF),(4,sx g2.2.2.bB)],5⟩
instance zcZ0 (a0:List Int):OkP (zC8 a0) 19 [.sl (a0.map (eI .u8))] (fun r=>.tup [ga r.1,.int .i64 r.2]):=⟨fun r h=>by
 refine zak7 Tryz.f19 [(5,5)] fun E hG hN hK=>?_
 have hm:Mk (zC8 a0):=trivial
 unfold zC8 at h
 refine za2 (za5 hG ?_)
 refine za2 (za5 hG ?_)
 refine za2 (za5 hG ?_)
 refine g_gh (.ownb 2 0 8 (aB.enc aB.zero)) ?_
 refine g_gh (.ownb 2 1 9 (bN.enc bN.zero)) ?_
 exact gogo⟩
attribute [local irreducible] zC8
end
end Ab
end Go.Proofs.YtcggeefhhegeoaaGreatDoor
