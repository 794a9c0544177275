import Derived.Test.YtfkjffmjkbkmhaaGreatDoorHm16
import Derived.Test.YtfkjffmjkbkmhaaGreatDoorHm19
import Derived.Test.YtfkjffmjkbkmhaaGreatDoorHm23
namespace Go.Proofs.YtfkjffmjkbkmhaaGreatDoor
namespace Ab
open IntKind (i64 u64 u8)
set_option linter.unusedSimpArgs false
set_option linter.defProp false
set_option linter.unusedVariables false
set_option maxRecDepth 100000
set_option maxHeartbeats 1000000
noncomputable section
attribute [local irreducible] zl7 zl8 zb2 za3 zd9 za8 zm2 zj6 zg1 zg2 zf8 zb1 zf5 zg6 zj1 ze3 za9 zj4 zi1 zh6 zg4 zf2 zc4 zi7 zb0 zf0 zl9 zh2 zm6 zh3 zi2 zk8 zn7 zm0 f_ref08_holds zc3 zk9 ze0 zm3 zf7 zh4 zf6 zb3 zl0 za0 ze7 zi5 ze8 zj3 zd7 zg5 zb4 zb5 zf1 zh7 zm8 zd3 zh9 zn6 zk3 zc9 zq5 za1 zi6 zg3 zd8 zn8 zc0 zd5 zf3 zp8 zo8 ze4 zk2 zb7 zh8 zd6 zp2 zd0 zb8 zs6 zj0 zn9 zj2 zp3 zl1 zh1 zq0 zl5 zu2 zg8 zb6 ze6 zk4 zi9 zf9 zj5 zp4 zg9 zi3 ze5 ze2 zq7 zt2 zi4 zl2 zs8 zt1 zs9 zm1 zt7 zs2 zf4 zr3 zt8 zp5 zd4 zq8 zo0 zh5 zd2 zi8 za7 zu3 zc8 za6 zj9 zr0 zo6 zl6 zt9 zv1 zx1 zq6 zn5 zv8 zy2 zG9 zo7 zr1 zc1 zx5 zx6 zs3 zr2 zw3 zy6 zA0 zr7 zD1 zM3 zj8 zL0 zD2 zI5 zz3 zN5 zH1
def zI6 (a0:aA):Option Bool :=
 (zD2 a0).bind fun v1 =>
 (if (!v1)=true then
  some false
 else
  (zm6 a0).bind fun v2 =>
  ((if v2.2=true then zM3 a0.aB a0.aQ v2.1.aJ v2.1.aN else some false)).bind fun v3 =>
  some ((!v2.2)||(!v3)))
instance zcK4 (a0:aA):OkP (zI6 a0) 228 [ga a0] (fun r=>.bool r):=ok1 (zI6.eq_1 a0) Tryz.f228 []
attribute [local irreducible] zI6
def zD3 (a0:aA):Option Bool :=
 (zD2 a0).bind fun v1 =>
 ((if v1=true then zI6 a0 else some false)).bind fun v2 =>
 some (v1&&v2)
instance zbK9 (a0:aA):OkP (zD3 a0) 180 [ga a0] (fun r=>.bool r):=ok1 (zD3.eq_1 a0) Tryz.f180 []
attribute [local irreducible] zD3
def zaS2 (j1:Unit):Option Bool :=
 some true
def zal2 (a0:List aA) (g1:Int):Option (Int⊕(Unit⊕Bool)) :=
 (if (decide (g1 < (a0.length:Int)))=true then
  gd (0≤g1∧g1 < (a0.length:Int)) <|
  (zD3 (a0.getD g1.toNat aA.zero)).bind fun v1 =>
  gd ((v1&&decide (0 < g1))=true→0≤i64.wrap (g1 - 1)∧i64.wrap (g1 - 1) < (a0.length:Int)) <|
  gd ((v1&&decide (0 < g1))=true→0≤g1∧g1 < (a0.length:Int)) <|
  (if ((!v1)||(decide (0 < g1)&&(!Op.bytesLess (((a0.getD ((i64.wrap (g1 - 1)).toNat) aA.zero).aB).name).toList (((a0.getD g1.toNat aA.zero).aB).name).toList)))=true then
   some (.inr (.inr false))
  else
   some (.inl (i64.wrap (g1+1))))
 else
  some (.inr (.inl ())))
def zR7 (a0:List aA):Option Bool :=
 (if (decide (8 < (a0.length:Int)))=true then
  some false
 else
  (zb9 (zal2 a0) 0).bind (fun|.inl z=>zaS2 z|.inr z=>some z))
@[reducible,instance] def zdS5 a0:=mkJ (zR7 a0) 0 (@zaS2.eq_1) fun (j1:Unit)=>⟨[],[],0⟩
@[reducible,instance] def zdS6 (a0:List aA) {T:Type} (x:T):=mkL x (@zal2.eq_1 a0) fun (g1:Int)=>⟨[(0,la a0),(3,.int .i64 g1)],[],0⟩
instance zcY4 (a0:List aA):OkP (zR7 a0) 130 [la a0] (fun r=>.bool r):=ok1 (zR7.eq_1 a0) Tryz.f130 []
attribute [local irreducible] zR7
def zD4 (a0:List aA):Option Bool :=
 (zR7 a0).bind fun v1 =>
 ((if v1=true then zy2 a0 else some [])).bind fun v2 =>
 some (v1&&decide ((v2.length:Int)≤8))
instance zbL0 (a0:List aA):OkP (zD4 a0) 86 [la a0] (fun r=>.bool r):=ok1 (zD4.eq_1 a0) Tryz.f86 []
attribute [local irreducible] zD4
def zC5 (a0:aP):Option Bool :=
 (zj8 a0).bind fun v1 =>
 some v1.2
instance zcw9 (a0:aP):OkP (zC5 a0) 195 [ga a0] (fun r=>.bool r):=ok1 (zC5.eq_1 a0) Tryz.f195 []
attribute [local irreducible] zC5
def zR8 (a0:bK):Option Bool :=
 (zC5 a0.bP).bind fun v1 =>
 some ((((v1&&decide (0≤a0.bC))&&decide (a0.bC≤7))&&decide (0≤a0.limit))&&decide (a0.limit≤1000))
instance zcY5 (a0:bK):OkP (zR8 a0) 142 [ga a0] (fun r=>.bool r):=ok1 (zR8.eq_1 a0) Tryz.f142 []
attribute [local irreducible] zR8
def zaJ3 (j1:Unit):Option Int :=
 some 0
def zad2 (a0:List aI) (v1:(List aM)×Bool) (g1:Int):Option (Int⊕(Unit⊕Int)) :=
 (if (decide (g1 < (v1.1.length:Int)))=true then
  gd (0≤g1∧g1 < (v1.1.length:Int)) <|
  (zI5 a0 (v1.1.getD g1.toNat aM.zero)).bind fun v2 =>
  (if (!decide (v2=0))=true then
   some (.inr (.inr v2))
  else
   some (.inl (i64.wrap (g1+1))))
 else
  some (.inr (.inl ())))
def zE1 (a0:List aI) (a1:aP):Option Int :=
 (zj8 a1).bind fun v1 =>
 (if (!v1.2)=true then
  some 1
 else
  (zb9 (zad2 a0 v1) 0).bind (fun|.inl z=>zaJ3 z|.inr z=>some z))
@[reducible,instance] def zdS7 a0 a1 {T1:Type} (v1:T1):=mkJ (zE1 a0 a1,v1) 0 (@zaJ3.eq_1) fun (j1:Unit)=>⟨[],[],0⟩
@[reducible,instance] def zdS8 (a0:List aI) (v1:(List aM)×Bool) {T:Type} (x:T):=mkL x (@zad2.eq_1 a0 v1) fun (g1:Int)=>⟨[(0,la a0),(5,la v1.1),(7,.int .i64 g1)],[],0⟩
instance zcK5 (a0:List aI) (a1:aP):OkP (zE1 a0 a1) 143 [la a0,ga a1] (fun r=>.int .i64 r):=ok1 (zE1.eq_1 a0 a1) Tryz.f143 []
attribute [local irreducible] zE1
def zD5 (a0:aP):Option (List aM) :=
 (zj8 a0).bind fun v1 =>
 some v1.1
instance zcY6 (a0:aP):OkP (zD5 a0) 147 [ga a0] (fun r=>la r):=ok1 (zD5.eq_1 a0) Tryz.f147 []
attribute [local irreducible] zD5
def zaJ4 (j1:(List Bool)):Option (List Bool) :=
 some j1
def zad3 (a0:List aA) (a1:aK) (v1:(List aM)) (g1:Int×(List Bool)):Option ((Int×(List Bool))⊕(List Bool)) :=
 (if (decide (g1.1 < (v1.length:Int)))=true then
  gd (0≤g1.1∧g1.1 < (v1.length:Int)) <|
  (zh6 a0 ((v1.getD g1.1.toNat aM.zero).name)).bind fun v2 =>
  (if (decide (0≤v2))=true then
   gd (0≤v2∧v2 < (a0.length:Int)) <|
   gd (0≤v2∧v2 < (a0.length:Int)) <|
   (zi6 (a0.getD v2.toNat aA.zero) a1).bind fun v3 =>
   gd (0≤g1.1∧g1.1 < (v1.length:Int)) <|
   gd (0≤g1.1∧g1.1 < ((g1.2.length:Nat):Int)) <|
   some (.inl ((i64.wrap (g1.1+1)),g1.2.set g1.1.toNat (zq9 ((a0.getD v2.toNat aA.zero).aB) v3 ((v1.getD g1.1.toNat aM.zero).aN))))
  else
   some (.inl ((i64.wrap (g1.1+1)),g1.2)))
 else
  some (.inr g1.2))
def zv9 (a0:List aA) (a1:aK) (a2:aP):Option (List Bool) :=
 (zD5 a2).bind fun v1 =>
 gd (0≤(v1.length:Int)∧(v1.length:Int)≤(v1.length:Int)∧(v1.length:Int)≤4294967296) <|
 (zb9 (zad3 a0 a1 v1) (0,List.replicate ((v1.length:Int).toNat) false)).bind (fun z=>zaJ4 z)
@[reducible,instance] def zdS9 a0 a1 a2 {T1:Type} (v1:T1):=mkJ (zv9 a0 a1 a2,v1) 0 (@zaJ4.eq_1) fun (j1:(List Bool))=>⟨[(8,.own 0 0 j1.length)],[(0,⟨false,1,[A.bool false],j1.map eB⟩)],1⟩
@[reducible,instance] def zdT0 (a0:List aA) (a1:aK) (v1:(List aM)) {T:Type} (x:T):=mkL x (@zad3.eq_1 a0 a1 v1) fun (g1:Int×(List Bool))=>⟨[(0,la a0),(4,.ptr 0 0 0),(7,la v1),(8,.own 1 0 g1.2.length),(9,.int .i64 g1.1)],[(0,bx a1),(1,⟨false,1,[A.bool false],g1.2.map eB⟩)],2⟩
instance zcK6 (a0:List aA) (a1:aK) (a2:aP):OkP (zv9 a0 a1 a2) 146 [la a0,ga a1,ga a2] (fun r=>.sl (r.map eB)):=ok1 (zv9.eq_1 a0 a1 a2) Tryz.f146 []
attribute [local irreducible] zv9
def zA7 (a0:aP) (a1:List Bool):Option Bool :=
 (zj8 a0).bind fun v1 =>
 ((if v1.2=true then f_ref08_holds a0 v1.1 a1 else some false)).bind fun v2 =>
 some (v1.2&&v2)
instance zcY7 (a0:aP) (a1:List Bool):OkP (zA7 a0 a1) 145 [ga a0,.sl (a1.map eB)] (fun r=>.bool r):=ok1 (zA7.eq_1 a0 a1) Tryz.f145 []
attribute [local irreducible] zA7
def zaJ5 (j2:Unit):Option Bool :=
 some true
def zE6 (a0:bA) (a1:aG) (v12:(List aM)) (g1:Int):Option (Int⊕(Unit⊕Bool)) :=
 (if (decide (g1 < (a0.aC.length:Int)))=true then
  gd (0≤g1∧g1 < (a0.aC.length:Int)) <|
  (zH1 (a0.aC.getD g1.toNat aA.zero) a1 v12).bind fun v13 =>
  (if (!v13)=true then
   some (.inr (.inr false))
  else
   some (.inl (i64.wrap (g1+1))))
 else
  some (.inr (.inl ())))
def zT2 (a0:bA) (a1:aG) (v2:(List aM)) (j1:Unit):Option Bool :=
 (if (!a1.bH)=true then
  (zf1 a1.aZ ({ bK.zero with  })).bind fun v3 =>
  ((if (v3&&decide (a1.since=0))=true then zl5 a0.aC a1.aJ else some [])).bind fun v4 =>
  ((if (v3&&decide (a1.since=0))=true then ze8 v2 v4 else some false)).bind fun v5 =>
  ((if ((v3&&decide (a1.since=0))&&v5)=true then zn9 a0.aC a1.aJ else some [])).bind fun v6 =>
  some (((v3&&decide (a1.since=0))&&v5)&&decide ((v6.length:Int)=0))
 else
  (zR8 a1.aZ).bind fun v7 =>
  ((if v7=true then zg2 a0.aC else some [])).bind fun v8 =>
  ((if v7=true then zE1 v8 a1.aZ.bP else some 0)).bind fun v9 =>
  ((if (!(((((!v7)||(!decide (v9=0)))||decide (a1.since < 0))||decide (a0.now < a1.since))||((!decide (a1.aZ.limit=0))&&decide (i64.wrap (a1.since+a1.aZ.limit)≤a0.now))))=true then zv9 a0.aC a1.aJ a1.aZ.bP else some [])).bind fun v10 =>
  ((if (!(((((!v7)||(!decide (v9=0)))||decide (a1.since < 0))||decide (a0.now < a1.since))||((!decide (a1.aZ.limit=0))&&decide (i64.wrap (a1.since+a1.aZ.limit)≤a0.now))))=true then zA7 a1.aZ.bP v10 else some false)).bind fun v11 =>
  (if ((((((!v7)||(!decide (v9=0)))||decide (a1.since < 0))||decide (a0.now < a1.since))||((!decide (a1.aZ.limit=0))&&decide (i64.wrap (a1.since+a1.aZ.limit)≤a0.now)))||v11)=true then
   some false
  else
   (zD5 a1.aZ.bP).bind fun v12 =>
   (zb9 (zE6 a0 a1 v12) 0).bind (fun|.inl z=>zaJ5 z|.inr z=>some z)))
def zL1 (a0:bA) (v2:(List aM)) (g2:Int):Option (Int⊕(Unit⊕Bool)) :=
 (if (decide (g2 < (v2.length:Int)))=true then
  gd (0≤g2∧g2 < (v2.length:Int)) <|
  (zh6 a0.aC ((v2.getD g2.toNat aM.zero).name)).bind fun v14 =>
  gd ((!(decide (v14 < 0)))=true→0≤v14∧v14 < (a0.aC.length:Int)) <|
  gd ((!(decide (v14 < 0)))=true→0≤g2∧g2 < (v2.length:Int)) <|
  (if (decide (v14 < 0)||(!(zs7 ((a0.aC.getD v14.toNat aA.zero).aB) ((v2.getD g2.toNat aM.zero).aN))))=true then
   some (.inr (.inr false))
  else
   some (.inl (i64.wrap (g2+1))))
 else
  some (.inr (.inl ())))
def zE2 (a0:bA) (a1:aG):Option Bool :=
 ((if (!(((!(zo1 a1.aJ))||decide (a1.cost < 1))||decide (1000 < a1.cost)))=true then zp5 a1.bB else some false)).bind fun v1 =>
 (if ((((((!(zo1 a1.aJ))||decide (a1.cost < 1))||decide (1000 < a1.cost))||(!v1))||decide (a1.gen < 0))||decide (1073741824 < a1.gen))=true then
  some false
 else
  (zh8 a1.bB).bind fun v2 =>
  (zb9 (zL1 a0 v2) 0).bind (fun|.inl z=>zT2 a0 a1 v2 z|.inr z=>some z))
@[reducible,instance] def zdT1 a0 a1 v2 j1 {T1:Type} (v7:T1) {T2:Type} (v8:T2) {T3:Type} (v9:T3) {T4:Type} (v10:T4) {T5:Type} (v11:T5) {T6:Type} (v12:T6):=mkJ ((((((zT2 a0 a1 v2 j1,v7),v8),v9),v10),v11),v12) 2 (@zaJ5.eq_1) fun (j2:Unit)=>⟨[],[],0⟩
@[reducible,instance] def zdT2 (a0:bA) (a1:aG) (v12:(List aM)) {T:Type} (x:T):=mkL x (@zE6.eq_1 a0 a1 v12) fun (g1:Int)=>⟨[(2,.ptr 0 0 0),(3,.ptr 1 0 0),(9,la v12),(10,.int .i64 g1)],[(0,bx a0),(1,bx a1)],2⟩
@[reducible,instance] def zdT3 (a0:bA) (a1:aG) {T1:Type} (v1:T1) (v2:(List aM)):=mkJ ((zE2 a0 a1,v1),v2) 0 (@zT2.eq_1 a0 a1 v2) fun (j1:Unit)=>⟨[(2,.ptr 0 0 0),(3,.ptr 1 0 0),(5,la v2)],[(0,bx a0),(1,bx a1)],2⟩
@[reducible,instance] def zdT4 (a0:bA) (a1:aG) {T1:Type} (v1:T1) (v2:(List aM)):=mkL ((zE2 a0 a1,v1),v2) (@zL1.eq_1 a0 v2) fun (g2:Int)=>⟨[(2,.ptr 0 0 0),(3,.ptr 1 0 0),(5,la v2),(6,.int .i64 g2)],[(0,bx a0),(1,bx a1)],2⟩
instance zcK7 (a0:bA) (a1:aG):OkP (zE2 a0 a1) 89 [ga a0,ga a1] (fun r=>.bool r):=ok1 (zE2.eq_1 a0 a1) Tryz.f89 []
attribute [local irreducible] zE2
def zaS3 (j2:Unit):Option Bool :=
 some true
def zS5 (a0:bA) (g1:Int):Option (Int⊕(Unit⊕Bool)) :=
 (if (decide (g1 < (a0.aF.length:Int)))=true then
  gd (0≤g1∧g1 < (a0.aF.length:Int)) <|
  (zE2 a0 (a0.aF.getD g1.toNat aG.zero)).bind fun v3 =>
  gd ((v3&&decide (0 < g1))=true→0≤i64.wrap (g1 - 1)∧i64.wrap (g1 - 1) < (a0.aF.length:Int)) <|
  gd ((v3&&decide (0 < g1))=true→0≤g1∧g1 < (a0.aF.length:Int)) <|
  (if ((!v3)||(decide (0 < g1)&&decide (0≤zs1 ((a0.aF.getD ((i64.wrap (g1 - 1)).toNat) aG.zero).aJ) ((a0.aF.getD g1.toNat aG.zero).aJ))))=true then
   some (.inr (.inr false))
  else
   some (.inl (i64.wrap (g1+1))))
 else
  some (.inr (.inl ())))
def zab2 (a0:bA) (j1:Unit):Option Bool :=
 (zb9 (zS5 a0) 0).bind (fun|.inl z=>zaS3 z|.inr z=>some z)
def zL2 (a0:bA) (v2:(List aK)) (g2:Int):Option (Int⊕(Unit⊕Bool)) :=
 (if (decide (g2 < (v2.length:Int)))=true then
  gd (0≤g2∧g2 < (v2.length:Int)) <|
  (zi2 a0.aF (v2.getD g2.toNat aK.zero)).bind fun v4 =>
  (if (decide (v4 < 0))=true then
   some (.inr (.inr false))
  else
   some (.inl (i64.wrap (g2+1))))
 else
  some (.inr (.inl ())))
def zF9 (a0:bA):Option Bool :=
 ((if (!(decide (a0.now < 0)||decide (1073741824 < a0.now)))=true then zD4 a0.aC else some false)).bind fun v1 =>
 (if (((decide (a0.now < 0)||decide (1073741824 < a0.now))||(!v1))||decide (8 < (a0.aF.length:Int)))=true then
  some false
 else
  (zy2 a0.aC).bind fun v2 =>
  (zb9 (zL2 a0 v2) 0).bind (fun|.inl z=>zab2 a0 z|.inr z=>some z))
@[reducible,instance] def zdT5 a0 j1:=mkJ (zab2 a0 j1) 2 (@zaS3.eq_1) fun (j2:Unit)=>⟨[],[],0⟩
@[reducible,instance] def zdT6 (a0:bA) {T:Type} (x:T):=mkL x (@zS5.eq_1 a0) fun (g1:Int)=>⟨[(1,.ptr 0 0 0),(5,.int .i64 g1)],[(0,bx a0)],1⟩
@[reducible,instance] def zdT7 (a0:bA) {T1:Type} (v1:T1) {T2:Type} (v2:T2):=mkJ ((zF9 a0,v1),v2) 0 (@zab2.eq_1 a0) fun (j1:Unit)=>⟨[(1,.ptr 0 0 0)],[(0,bx a0)],1⟩
@[reducible,instance] def zdT8 (a0:bA) (v2:(List aK)) {T:Type} (x:T):=mkL x (@zL2.eq_1 a0 v2) fun (g2:Int)=>⟨[(1,.ptr 0 0 0),(3,la v2),(4,.int .i64 g2)],[(0,bx a0)],1⟩
instance zbd9 (a0:bA):OkP (zF9 a0) 52 [ga a0] (fun r=>.bool r):=ok1 (zF9.eq_1 a0) Tryz.f52 []
attribute [local irreducible] zF9
def zaJ6 (j1:aA×(List aV)):Option (aA×(List aV)) :=
 some (j1.1,j1.2)
def zT3 (g1:aA×(List aV)) (v4:aT×Bool) (j2:aA):Option ((aA×(List aV))⊕(aA×(List aV))) :=
 (zq7 j2.aQ v4.1.aJ v4.1.aN).bind fun v5 =>
 gd (g1.2.length+1≤4294967296) <|
 some (.inl ({ j2 with aQ:=v5 },(g1.2++[(⟨v4.1.aJ,v4.1.aN⟩:aV)])))
def zL3 (g1:aA×(List aV)):Option ((aA×(List aV))⊕(aA×(List aV))) :=
 (zI6 g1.1).bind fun v3 =>
 (if (!v3)=true then
  (zm6 g1.1).bind fun v4 =>
  (if (decide (0 < (g1.1.aO.length:Int)))=true then
   gd (0≤1∧1≤(g1.1.aO.length:Int)∧(g1.1.aO.length:Int)≤(g1.1.aO.length:Int)) <|
   zT3 g1 v4 ({ g1.1 with aO:=(g1.1.aO.drop 1) })
  else
   gd (0≤1∧1≤(g1.1.aS.length:Int)∧(g1.1.aS.length:Int)≤(g1.1.aS.length:Int)) <|
   zT3 g1 v4 ({ g1.1 with aS:=(g1.1.aS.drop 1) }))
 else
  some (.inr (g1.1,g1.2)))
def zI7 (a0:aA):Option (aA×(List aV)) :=
 (zD2 a0).bind fun v1 =>
 (if (!v1)=true then
  some ({ aA.zero with  },[])
 else
  (zk9 a0).bind fun v2 =>
  (zb9 zL3 (v2,[])).bind (fun z=>zaJ6 z))
@[reducible,instance] def zdT9 a0 {T1:Type} (v1:T1) {T2:Type} (v2:T2):=mkJ ((zI7 a0,v1),v2) 0 (@zaJ6.eq_1) fun (j1:aA×(List aV))=>⟨[(1,.ptr 0 0 0),(2,.ptr 1 0 0),(4,.own 2 0 j1.2.length)],[(0,bx j1.1),(1,bx aA.zero),(2,sx j1.2)],3⟩
@[reducible,instance] def zdU0 (g1:aA×(List aV)) {T1:Type} (v3:T1) (v4:aT×Bool):=mkJ ((zL3 g1,v3),v4) 999 (@zT3.eq_1 g1 v4) fun (j2:aA)=>⟨[(1,.ptr 0 0 0),(2,.ptr 1 0 0),(4,.own 2 0 g1.2.length),(5,.ptr 3 0 0)],[(0,bx j2),(1,bx aA.zero),(2,sx g1.2),(3,bx v4.1)],4⟩
@[reducible,instance] def zdU1 {T:Type} (x:T):=mkL x (@zL3.eq_1) fun (g1:aA×(List aV))=>⟨[(1,.ptr 0 0 0),(2,.ptr 1 0 0),(4,.own 2 0 g1.2.length)],[(0,bx g1.1),(1,bx aA.zero),(2,sx g1.2)],3⟩
instance zcK8 (a0:aA):OkP (zI7 a0) 287 [ga a0] (fun r=>.tup [ga r.1,la r.2]):=ok1 (zI7.eq_1 a0) Tryz.f287 [(4,1)]
attribute [local irreducible] zI7
def zy9 (a0:aA):Option (aA×(List aV)×Int) :=
 (zI7 a0).bind fun v1 =>
 some ({ v1.1 with gen:=(zm5 a0.gen) },v1.2,0)
instance zaS4 (a0:aA):OkP (zy9 a0) 282 [ga a0] (fun r=>.tup [ga r.1,la r.2.1,.int .i64 r.2.2]):=ok1 (zy9.eq_1 a0) Tryz.f282 []
attribute [local irreducible] zy9
def zT4 (a0:aA) (a1:aK):Option (aA×(List aV)×Int) :=
 (zD3 a0).bind fun v1 =>
 (if (!v1)=true then
  some ({ aA.zero with  },[],2)
 else
  (zh7 a0 a1).bind fun v2 =>
  (if (!v2.2)=true then
   some ({ aA.zero with  },[],10)
  else
   (zk9 a0).bind fun v3 =>
   (zg5 v3.aO a1).bind fun v4 =>
   (zg5 (({ v3 with aO:=v4.1 }).aS) a1).bind fun v5 =>
   (zy9 ({ { v3 with aO:=v4.1 } with aS:=v5.1 })).bind fun v6 =>
   some (v6.1,v6.2.1,v6.2.2)))
instance zcR1 (a0:aA) (a1:aK):OkP (zT4 a0 a1) 284 [ga a0,ga a1] (fun r=>.tup [ga r.1,la r.2.1,.int .i64 r.2.2]):=ok1 (zT4.eq_1 a0 a1) Tryz.f284 []
attribute [local irreducible] zT4
def zT5 (a0:List aA) (a1:aK) (a2:ByteArray):Option ((List aA)×(List bJ)×Int) :=
 (zD4 a0).bind fun v1 =>
 (if (!v1)=true then
  some ([],[],2)
 else
  (zh6 a0 a2).bind fun v2 =>
  (if (decide (v2 < 0))=true then
   some ([],[],10)
  else
   gd (0≤v2∧v2 < (a0.length:Int)) <|
   (zT4 (a0.getD v2.toNat aA.zero) a1).bind fun v3 =>
   (if (!decide (v3.2.2=0))=true then
    some ([],[],v3.2.2)
   else
    (zf2 a0 v2 v3.1).bind fun v4 =>
    (zf8 a2 v3.2.1).bind fun v5 =>
    some (v4,v5,0))))
instance zcR2 (a0:List aA) (a1:aK) (a2:ByteArray):OkP (zT5 a0 a1 a2) 272 [la a0,ga a1,.str a2] (fun r=>.tup [la r.1,la r.2.1,.int .i64 r.2.2]):=ok1 (zT5.eq_1 a0 a1 a2) Tryz.f272 []
attribute [local irreducible] zT5
def zX2 (a0:aA) (a1:aK) (a2:aD):Option (aA×(List aV)×Int) :=
 (zD3 a0).bind fun v1 =>
 (if (!v1)=true then
  some ({ aA.zero with  },[],2)
 else
  (zi6 a0 a1).bind fun v2 =>
  (if (zk7 v2)=true then
   some ({ aA.zero with  },[],10)
  else
   (zh7 a0 a1).bind fun v3 =>
   (if v3.2=true then
    some ({ aA.zero with  },[],14)
   else
    (if (!(zq9 a0.aB v2 a2))=true then
     some ({ aA.zero with  },[],12)
    else
     (zk9 a0).bind fun v4 =>
     (if (decide (v2=a2))=true then
      some (v4,[],0)
     else
      (zq7 v4.aQ a1 a2).bind fun v5 =>
      (zy9 ({ v4 with aQ:=v5 })).bind fun v6 =>
      some (v6.1,v6.2.1,v6.2.2))))))
instance zbL1 (a0:aA) (a1:aK) (a2:aD):OkP (zX2 a0 a1 a2) 273 [ga a0,ga a1,ga a2] (fun r=>.tup [ga r.1,la r.2.1,.int .i64 r.2.2]):=ok1 (zX2.eq_1 a0 a1 a2) Tryz.f273 []
attribute [local irreducible] zX2
def zS6 (a0:List aA) (a2:aM) (v2:Int) (v4:aA×(List aV)×Int) (j1:(List bJ)):Option ((List aA)×(List bJ)×Int) :=
 (zf2 a0 v2 v4.1).bind fun v5 =>
 (zf8 a2.name v4.2.1).bind fun v6 =>
 gd (j1.length+v6.length≤4294967296) <|
 some (v5,(j1++v6),0)
@[go_sem] def zdu3 (a0:List aA) (a2:aM) (v2:Int) (v4:aA×(List aV)×Int) (j1:(List bJ)):St:=⟨[(0,la a0),(5,.ptr 0 0 0),(9,.int .i64 v2),(11,.ptr 1 0 0),(12,la v4.2.1),(14,.own 2 0 j1.length)],[(0,bx a2),(1,bx v4.1),(2,sx j1)],3⟩
def zG0 (a0:List aA) (a1:aK) (a2:aM):Option ((List aA)×(List bJ)×Int) :=
 (zD4 a0).bind fun v1 =>
 (if (!v1)=true then
  some ([],[],2)
 else
  (zh6 a0 a2.name).bind fun v2 =>
  (if (decide (v2 < 0))=true then
   some ([],[],10)
  else
   gd (0≤v2∧v2 < (a0.length:Int)) <|
   (zi6 (a0.getD v2.toNat aA.zero) a1).bind fun v3 =>
   gd (0≤v2∧v2 < (a0.length:Int)) <|
   (zX2 (a0.getD v2.toNat aA.zero) a1 a2.aN).bind fun v4 =>
   (if (!decide (v4.2.2=0))=true then
    some ([],[],v4.2.2)
   else
    (if (!decide (v3=a2.aN))=true then
     gd (1≤4294967296) <|
     zS6 a0 a2 v2 v4 [(⟨3,a1,a2.name,a2.aN⟩:bJ)]
    else
     zS6 a0 a2 v2 v4 []))))
theorem zbe0 (a0:List aA) (a1:aK) (a2:aM) (r:(List aA)×(List bJ)×Int) (h:zG0 a0 a1 a2=some r):PFn C 253 [la a0,ga a1,ga a2] (.tup [la r.1,la r.2.1,.int .i64 r.2.2]):=by
 refine zY9 Tryz.f253 [(14,1)] fun E hG hN hK=>?_
 unfold zG0 at h
 refine za2 (za5 hG ?_)
 refine za2 (za2 (za5 hG ?_))
 obtain ⟨v1,hv1,h⟩:=zc7 h
 refine zr9 (fun hg=>(zbL0 a0).ok _ hv1) ?_
 refine zl4 rfl hG h (fun _ h=>?_) (fun _ h=>?_)
 · refine za2 (za5 hG ?_)
   refine zt4 ?_
   exact zJ4 h
 refine zk1 ?_
 refine za2 (za5 hG ?_)
 obtain ⟨v2,hv2,h⟩:=zc7 h
 refine zr9 (fun hg=>(zbk7 a0 a2.name).ok _ hv2) ?_
 refine za2 (za2 (za5 hG ?_))
 refine zl4 rfl hG h (fun _ h=>?_) (fun _ h=>?_)
 · refine za2 (za5 hG ?_)
   refine zt4 ?_
   exact zJ4 h
 refine zk1 ?_
 refine za2 ?_
 obtain ⟨hb4,h⟩:=ze1 h
 refine zam5 zz1 hG ?_
 obtain ⟨v3,hv3,h⟩:=zc7 h
 refine zV9 (fun hg=>(zaP3 (a0.getD v2.toNat aA.zero) a1).ok _ hv3) ?_
 refine za2 ?_
 obtain ⟨hb3,h⟩:=ze1 h
 refine zam5 zz1 hG ?_
 obtain ⟨v4,hv4,h⟩:=zc7 h
 refine zV9 (fun hg=>(zbL1 (a0.getD v2.toNat aA.zero) a1 a2.aN).ok _ hv4) ?_
 refine za2 (za2 (za5 hG ?_))
 refine zl4 rfl hG h (fun _ h=>?_) (fun _ h=>?_)
 · refine za2 (za5 hG ?_)
   refine zt4 ?_
   exact zJ4 h
 refine zk1 ?_
 refine za2 (za5 hG ?_)
 refine za2 (za2 (za5 hG ?_))
 refine zbh3 (zdu3 a0 a2 v2 v4) (fun v=>zS6 a0 a2 v2 v4 v=some r) rfl hG h ?_ (fun _ h=>?_) (fun _ h=>?_)
 · intro j1 h
   unfold zS6 at h
   refine g_st ?_
   refine za2 (zam5 zz1 hG ?_)
   obtain ⟨v5,hv5,h⟩:=zc7 h
   refine zV9 (fun hg=>(zbv8 a0 v2 v4.1).ok _ hv5) ?_
   obtain ⟨v6,hv6,h⟩:=zc7 h
   obtain ⟨hb1,h⟩:=ze1 h
   refine zV9 (fun hg=>(zbC8 a2.name v4.2.1).ok _ hv6) ?_
   refine zt4 ?_
   exact zJ4 h
 · obtain ⟨hb2,h⟩:=ze1 h
   refine za5 hG ?_
   exact zA9 hK [(0,1),(1,3),(2,5)] [(⟨3,a1,a2.name,a2.aN⟩:bJ)] (by exact h)
 refine zk1 ?_
 exact zA9 hK [(0,1),(1,3),(2,4)] [] (by exact h)
instance zcR3 (a0:List aA) (a1:aK) (a2:aM):OkP (zG0 a0 a1 a2) 253 [la a0,ga a1,ga a2] (fun r=>.tup [la r.1,la r.2.1,.int .i64 r.2.2]):=⟨zbe0 a0 a1 a2⟩
attribute [local irreducible] zG0
def zag2 (a0:aX) (j1:Unit):Option (Int×Int×(List aA)×(List aG)×(List bJ)) :=
 some ((-1),a0.c.now,a0.c.aC,a0.c.aF,a0.ev)
def zF6 (a0:aX) (g1:Int):Option (Int⊕(Unit⊕(Int×Int×(List aA)×(List aG)×(List bJ)))) :=
 (if (decide (g1 < ((a0.c.aF.length:Nat):Int)))=true then
  gd (0≤g1∧g1 < ((a0.c.aF.length:Nat):Int)) <|
  ((if ((a0.c.aF.getD g1.toNat aG.zero).bH)=true then zv9 a0.c.aC ((a0.c.aF.getD g1.toNat aG.zero).aJ) (((a0.c.aF.getD g1.toNat aG.zero).aZ).bP) else some [])).bind fun v1 =>
  ((if ((a0.c.aF.getD g1.toNat aG.zero).bH)=true then zA7 (((a0.c.aF.getD g1.toNat aG.zero).aZ).bP) v1 else some false)).bind fun v2 =>
  (if ((a0.c.aF.getD g1.toNat aG.zero).bH&&v2)=true then
   some (.inr (.inr (g1,a0.c.now,a0.c.aC,a0.c.aF,a0.ev)))
  else
   some (.inl (i64.wrap (g1+1))))
 else
  some (.inr (.inl ())))
def zp6 (a0:aX):Option (Int×Int×(List aA)×(List aG)×(List bJ)) :=
 (zb9 (zF6 a0) 0).bind (fun|.inl z=>zag2 a0 z|.inr z=>some z)
@[reducible,instance] def zdU2 (a0:aX):=mkJ (zp6 a0) 0 (@zag2.eq_1 a0) fun (j1:Unit)=>⟨[],[(0,⟨false,4,aX.enc aX.zero,[[.int .i64 a0.c.now,la a0.c.aC,.own 1 0 a0.c.aF.length,.own 2 0 a0.ev.length]]⟩),(1,sx a0.c.aF),(2,sx a0.ev)],3⟩
@[reducible,instance] def zdU3 (a0:aX) {T:Type} (x:T):=mkL x (@zF6.eq_1 a0) fun (g1:Int)=>⟨[(0,.ptr 0 0 0),(3,.int .i64 g1)],[(0,⟨false,4,aX.enc aX.zero,[[.int .i64 a0.c.now,la a0.c.aC,.own 1 0 a0.c.aF.length,.own 2 0 a0.ev.length]]⟩),(1,sx a0.c.aF),(2,sx a0.ev)],3⟩
instance zbL2 (a0:aX):OkM (zp6 a0) 250 [.ptr 0 0 0] [(0,⟨false,4,aX.enc aX.zero,[[.int .i64 a0.c.now,la a0.c.aC,.own 1 0 a0.c.aF.length,.own 2 0 a0.ev.length]]⟩),(1,sx a0.c.aF),(2,sx a0.ev)] 3 (fun r=>.int .i64 r.1) (fun r=>[(0,⟨false,4,aX.enc aX.zero,[[.int .i64 r.2.1,la r.2.2.1,.own 1 0 r.2.2.2.1.length,.own 2 0 r.2.2.2.2.length]]⟩),(1,sx r.2.2.2.1),(2,sx r.2.2.2.2)]) 3:=okm (zp6.eq_1 a0) (fun r=>[.int .i64 r.1]) Tryz.f250 []
attribute [local irreducible] zp6
def zG1 (a0:aA) (a1:aK) (a2:aD) (a3:Int):Option (aA×(List aV)×Int) :=
 (zD3 a0).bind fun v1 =>
 (if (!v1)=true then
  some ({ aA.zero with  },[],2)
 else
  (if (((!(zo1 a1))||decide (a3 < 0))||decide (7 < a3))=true then
   some ({ aA.zero with  },[],1)
  else
   (if (!(zs7 a0.aB a2))=true then
    some ({ aA.zero with  },[],12)
   else
    (zh7 a0 a1).bind fun v2 =>
    (if v2.2=true then
     some ({ aA.zero with  },[],14)
    else
     (zi7 a0).bind fun v3 =>
     (zi6 v3 a1).bind fun v4 =>
     (if (zq9 v3.aB v4 a2)=true then
      some (v3,[],0)
     else
      (if (!(zk7 v4))=true then
       (zx1 v3.aB v4 a2).bind fun v5 =>
       gd (v3.aO.length+1≤4294967296) <|
       (zy9 (⟨(⟨v3.aB.name,v3.aB.kind,v3.aB.aR,v3.aB.home⟩:aI),v3.aQ,(v3.aO++[{ aT.zero with aJ:=a1,aN:=v5 }]),v3.aS,v3.gen⟩:aA)).bind fun v6 =>
       some (v6.1,v6.2.1,v6.2.2)
      else
       (if (decide (8≤i64.wrap ((v3.aQ.length:Int)+(v3.aS.length:Int))))=true then
        some ({ aA.zero with  },[],4)
       else
        (zx6 v3.aS ({ aT.zero with aJ:=a1,aN:=a2,bC:=a3 })).bind fun v7 =>
        (if (!decide (v7.2.2=0))=true then
         some ({ aA.zero with  },[],v7.2.2)
        else
         (zy9 (⟨(⟨v3.aB.name,v3.aB.kind,v3.aB.aR,v3.aB.home⟩:aI),v3.aQ,v3.aO,v7.1,v3.gen⟩:aA)).bind fun v8 =>
         some (v8.1,v8.2.1,v8.2.2)))))))))
instance zcY8 (a0:aA) (a1:aK) (a2:aD) (a3:Int):OkP (zG1 a0 a1 a2 a3) 269 [ga a0,ga a1,ga a2,.int .i64 a3] (fun r=>.tup [ga r.1,la r.2.1,.int .i64 r.2.2]):=⟨fun r h=>by
 refine zY9 Tryz.f269 [(48,1)] fun E hG hN hK=>?_
 have hm:Mk (zG1 a0 a1 a2 a3):=trivial
 unfold zG1 at h
 refine za2 (za5 hG ?_)
 refine za2 (za2 (za5 hG ?_))
 obtain ⟨v1,hv1,h⟩:=zc7 h
 have hm:=mkP hm v1
 refine zr9 (fun hg=>(zbK9 a0).ok _ hv1) ?_
 refine zl4 rfl hG h (fun _ h=>?_) (fun _ h=>?_)
 · exact gogo
 refine zk1 ?_
 refine za2 (za2 (za5 hG ?_))
 refine zr9 (fun hg=>(zbn3 a1).ok) ?_
 refine zl4 rfl hG h (fun _ h=>?_) (fun _ h=>?_)
 · exact gogo
 refine zk1 ?_
 refine za2 (za2 (za5 hG ?_))
 refine zr9 (fun hg=>(zbT1 a0.aB a2).ok) ?_
 refine zl4 rfl hG h (fun _ h=>?_) (fun _ h=>?_)
 · exact gogo
 refine zk1 ?_
 refine za2 (za2 (za5 hG ?_))
 obtain ⟨v2,hv2,h⟩:=zc7 h
 have hm:=mkP hm v2
 refine zr9 (fun hg=>(zbD1 a0 a1).ok _ hv2) ?_
 refine za2 (za5 hG ?_)
 refine zl4 rfl hG h (fun _ h=>?_) (fun _ h=>?_)
 · exact gogo
 refine zk1 ?_
 refine za2 (za5 hG ?_)
 obtain ⟨v3,hv3,h⟩:=zc7 h
 have hm:=mkP hm v3
 refine zr6 [] [(0,5),(1,6),(2,7)] [0,1,2] (zbv9 _ _ hv3) rfl rfl ?_
 refine g_gh (.fz [5,7]) ?_
 refine za2 (za5 hG ?_)
 obtain ⟨v4,hv4,h⟩:=zc7 h
 have hm:=mkP hm v4
 refine zr9 (fun hg=>(zaP3 v3 a1).ok _ hv4) ?_
 refine za2 (za2 (za5 hG ?_))
 refine zr9 (fun hg=>(zbD3 v3.aB v4 a2).ok) ?_
 refine zl4 rfl hG h (fun _ h=>?_) (fun _ h=>?_)
 · exact gogo
 refine zk1 ?_
 refine za2 (za2 (za5 hG ?_))
 refine zr9 (fun hg=>(zbS6 v4).ok) ?_
 refine zl4 rfl hG h (fun _ h=>?_) (fun _ h=>?_)
 · refine za2 (zam5 zz1 hG ?_)
   obtain ⟨v5,hv5,h⟩:=zc7 h
   have hm:=mkP hm v5
   obtain ⟨hb1,h⟩:=ze1 h
   refine zV9 (fun hg=>(zbT3 v3.aB v4 a2).ok _ hv5) ?_
   refine za2 (za5 hG ?_)
   obtain ⟨v6,hv6,h⟩:=zc7 h
   have hm:=mkP hm v6
   have hc_v6:=(zaS4 (⟨(⟨v3.aB.name,v3.aB.kind,v3.aB.aR,v3.aB.home⟩:aI),v3.aQ,(v3.aO++[{ aT.zero with aJ:=a1,aN:=v5 }]),v3.aS,v3.gen⟩:aA)).ok _ hv6
   have el_v6:∀ x:aA,aA.enc x=[A.str x.aB.name,A.int .i64 x.aB.kind,A.int .i64 x.aB.aR,A.int .i64 x.aB.home,A.sl (x.aQ.map aV.enc),A.sl (x.aO.map aT.enc),A.sl (x.aS.map aT.enc),A.int .i64 x.gen]:=fun x=>rfl
   try dsimp only [ga,la,En.e] at hc_v6
   rw [el_v6] at hc_v6
   dsimp only at hc_v6
   refine zr9 (fun hg=>by exact hc_v6) ?_
   exact gogo
 refine zk1 ?_
 refine za2 (za2 (za5 hG ?_))
 refine zl4 rfl hG h (fun _ h=>?_) (fun _ h=>?_)
 · exact gogo
 refine zk1 ?_
 refine za2 (za5 hG ?_)
 obtain ⟨v7,hv7,h⟩:=zc7 h
 have hm:=mkP hm v7
 refine zr9 (fun hg=>(zbD5 v3.aS ({ aT.zero with aJ:=a1,aN:=a2,bC:=a3 })).ok _ hv7) ?_
 refine za2 (za2 (za5 hG ?_))
 refine zl4 rfl hG h (fun _ h=>?_) (fun _ h=>?_)
 · exact gogo
 refine zk1 ?_
 refine za2 (za5 hG ?_)
 refine za2 (za5 hG ?_)
 obtain ⟨v8,hv8,h⟩:=zc7 h
 have hm:=mkP hm v8
 have hc_v8:=(zaS4 (⟨(⟨v3.aB.name,v3.aB.kind,v3.aB.aR,v3.aB.home⟩:aI),v3.aQ,v3.aO,v7.1,v3.gen⟩:aA)).ok _ hv8
 have el_v8:∀ x:aA,aA.enc x=[A.str x.aB.name,A.int .i64 x.aB.kind,A.int .i64 x.aB.aR,A.int .i64 x.aB.home,A.sl (x.aQ.map aV.enc),A.sl (x.aO.map aT.enc),A.sl (x.aS.map aT.enc),A.int .i64 x.gen]:=fun x=>rfl
 try dsimp only [ga,la,En.e] at hc_v8
 rw [el_v8] at hc_v8
 dsimp only at hc_v8
 refine zr9 (fun hg=>by exact hc_v8) ?_
 exact gogo⟩
attribute [local irreducible] zG1
def zX3 (a0:List aA) (a1:aK) (a2:aM) (a3:Int):Option ((List aA)×(List bJ)×Int) :=
 (zD4 a0).bind fun v1 =>
 (if (!v1)=true then
  some ([],[],2)
 else
  (zh6 a0 a2.name).bind fun v2 =>
  (if (decide (v2 < 0))=true then
   some ([],[],10)
  else
   (zy2 a0).bind fun v3 =>
   ((if (decide ((v3.length:Int)=8))=true then zg1 v3 a1 else some false)).bind fun v4 =>
   (if (decide ((v3.length:Int)=8)&&(!v4))=true then
    some ([],[],4)
   else
    gd (0≤v2∧v2 < (a0.length:Int)) <|
    (zG1 (a0.getD v2.toNat aA.zero) a1 a2.aN a3).bind fun v5 =>
    (if (!decide (v5.2.2=0))=true then
     some ([],[],v5.2.2)
    else
     (zf2 a0 v2 v5.1).bind fun v6 =>
     (zf8 a2.name v5.2.1).bind fun v7 =>
     some (v6,v7,0)))))
instance zcY9 (a0:List aA) (a1:aK) (a2:aM) (a3:Int):OkP (zX3 a0 a1 a2 a3) 245 [la a0,ga a1,ga a2,.int .i64 a3] (fun r=>.tup [la r.1,la r.2.1,.int .i64 r.2.2]):=ok1 (zX3.eq_1 a0 a1 a2 a3) Tryz.f245 []
attribute [local irreducible] zX3
def zT6 (a0:aA) (a1:aK):Option (aA×(List aV)×Int) :=
 (zD3 a0).bind fun v1 =>
 (if (!v1)=true then
  some ({ aA.zero with  },[],2)
 else
  (zt2 a0 a1).bind fun v2 =>
  (if (!v2)=true then
   some ({ aA.zero with  },[],10)
  else
   (zk9 a0).bind fun v3 =>
   (zq7 v3.aQ a1 ({ aD.zero with  })).bind fun v4 =>
   (zg5 (({ v3 with aQ:=v4 }).aO) a1).bind fun v5 =>
   (zg5 (({ { v3 with aQ:=v4 } with aO:=v5.1 }).aS) a1).bind fun v6 =>
   (zy9 ({ { { v3 with aQ:=v4 } with aO:=v5.1 } with aS:=v6.1 })).bind fun v7 =>
   some (v7.1,v7.2.1,v7.2.2)))
instance zcR4 (a0:aA) (a1:aK):OkP (zT6 a0 a1) 275 [ga a0,ga a1] (fun r=>.tup [ga r.1,la r.2.1,.int .i64 r.2.2]):=ok1 (zT6.eq_1 a0 a1) Tryz.f275 []
attribute [local irreducible] zT6
def zaO0 (j1:(List aA)×(List bJ)):Option ((List aA)×(List bJ)) :=
 some (j1.1,j1.2)
def zW6 (a1:aK) (g1:Int×(List aA)×(List bJ)) (j2:(List bJ)):Option ((Int×(List aA)×(List bJ))⊕((List aA)×(List bJ))) :=
 gd (0≤g1.1∧g1.1 < ((g1.2.1.length:Nat):Int)) <|
 (zT6 (g1.2.1.getD g1.1.toNat aA.zero) a1).bind fun v4 =>
 gd (0≤g1.1∧g1.1 < ((g1.2.1.length:Nat):Int)) <|
 (zf8 v4.1.aB.name v4.2.1).bind fun v5 =>
 gd (j2.length+v5.length≤4294967296) <|
 some (.inl ((i64.wrap (g1.1+1)),g1.2.1.set g1.1.toNat v4.1,(j2++v5)))
def zW7 (a1:aK) (g1:Int×(List aA)×(List bJ)):Option ((Int×(List aA)×(List bJ))⊕((List aA)×(List bJ))) :=
 (if (decide (g1.1 < ((g1.2.1.length:Nat):Int)))=true then
  gd (0≤g1.1∧g1.1 < ((g1.2.1.length:Nat):Int)) <|
  (zt2 (g1.2.1.getD g1.1.toNat aA.zero) a1).bind fun v2 =>
  (if (!v2)=true then
   some (.inl ((i64.wrap (g1.1+1)),g1.2.1,g1.2.2))
  else
   gd (0≤g1.1∧g1.1 < ((g1.2.1.length:Nat):Int)) <|
   (zi6 (g1.2.1.getD g1.1.toNat aA.zero) a1).bind fun v3 =>
   (if (!(zk7 v3))=true then
    gd (0≤g1.1∧g1.1 < ((g1.2.1.length:Nat):Int)) <|
    gd (g1.2.2.length+1≤4294967296) <|
    zW6 a1 g1 (g1.2.2++[{ bJ.zero with kind:=3,aJ:=a1,name:=((g1.2.1.getD g1.1.toNat aA.zero).aB).name }])
   else
    zW6 a1 g1 g1.2.2))
 else
  some (.inr (g1.2.1,g1.2.2)))
def zN6 (a0:List aA) (a1:aK):Option ((List aA)×(List bJ)) :=
 (zD4 a0).bind fun v1 =>
 (if (!v1)=true then
  some ([],[])
 else
  gd (a0.length≤4294967296) <|
  (zb9 (zW7 a1) (0,a0,[])).bind (fun z=>zaO0 z))
@[reducible,instance] def zdU4 a0 a1 {T1:Type} (v1:T1):=mkJ (zN6 a0 a1,v1) 0 (@zaO0.eq_1) fun (j1:(List aA)×(List bJ))=>⟨[(6,.own 0 0 j1.1.length),(7,.own 1 0 j1.2.length)],[(0,sx j1.1),(1,sx j1.2)],2⟩
@[reducible,instance] def zdU5 (a1:aK) (g1:Int×(List aA)×(List bJ)) {T1:Type} (v2:T1) {T2:Type} (v3:T2):=mkJ ((zW7 a1 g1,v2),v3) 999 (@zW6.eq_1 a1 g1) fun (j2:(List bJ))=>⟨[(3,.ptr 0 0 0),(6,.own 1 0 g1.2.1.length),(7,.own 2 0 j2.length),(8,.int .i64 g1.1)],[(0,bx a1),(1,sx g1.2.1),(2,sx j2)],3⟩
@[reducible,instance] def zdU6 (a1:aK) {T:Type} (x:T):=mkL x (@zW7.eq_1 a1) fun (g1:Int×(List aA)×(List bJ))=>⟨[(3,.ptr 0 0 0),(6,.own 1 0 g1.2.1.length),(7,.own 2 0 g1.2.2.length),(8,.int .i64 g1.1)],[(0,bx a1),(1,sx g1.2.1),(2,sx g1.2.2)],3⟩
instance zcR5 (a0:List aA) (a1:aK):OkP (zN6 a0 a1) 256 [la a0,ga a1] (fun r=>.tup [la r.1,la r.2]):=ok1 (zN6.eq_1 a0 a1) Tryz.f256 [(15,1),(7,1)]
attribute [local irreducible] zN6
def zM4 (a0:aA):Option Bool :=
 (ze6 a0.aB).bind fun v1 =>
 ((if v1=true then zs3 a0.aB a0.aQ else some false)).bind fun v2 =>
 ((if (v1&&v2)=true then zq6 a0 else some false)).bind fun v3 =>
 ((if ((v1&&v2)&&v3)=true then zo6 a0 else some false)).bind fun v4 =>
 some (((((v1&&v2)&&v3)&&v4)&&decide (0≤a0.gen))&&decide (a0.gen≤1073741824))
instance zcZ0 (a0:aA):OkP (zM4 a0) 121 [ga a0] (fun r=>.bool r):=ok1 (zM4.eq_1 a0) Tryz.f121 []
attribute [local irreducible] zM4
def zF3 (a0:aL) (a1:aK):Option (bI×Bool) :=
 (zr2 a0.aU a1).bind fun v1 =>
 (if (decide (0≤v1))=true then
  gd (0≤v1∧v1 < (a0.aU.length:Int)) <|
  (zd5 (a0.aU.getD v1.toNat bI.zero)).bind fun v2 =>
  some (v2,true)
 else
  some ({ bI.zero with  },false))
instance zbs3 (a0:aL) (a1:aK):OkP (zF3 a0 a1) 13 [ga a0,ga a1] (fun r=>.tup [ga r.1,.bool r.2]):=⟨fun r h=>by
 refine zY9 Tryz.f13 [] fun E hG hN hK=>?_
 have hm:Mk (zF3 a0 a1):=trivial
 unfold zF3 at h
 refine za2 (za5 hG ?_)
 refine za2 (za2 (za5 hG ?_))
 obtain ⟨v1,hv1,h⟩:=zc7 h
 have hm:=mkP hm v1
 refine zr9 (fun hg=>(zaJ2 a0.aU a1).ok _ hv1) ?_
 refine za2 (za5 hG ?_)
 refine zl4 rfl hG h (fun _ h=>?_) (fun _ h=>?_)
 · refine za2 ?_
   obtain ⟨hb1,h⟩:=ze1 h
   refine za5 hG ?_
   obtain ⟨v2,hv2,h⟩:=zc7 h
   have hm:=mkP hm v2
   refine zr9 (fun hg=>(zac9 (a0.aU.getD v1.toNat bI.zero)).ok _ hv2) ?_
   refine zt4 ?_
   exact zJ4 h (by intro e; subst e; simp [aK.enc,aM.enc,aD.enc])
 refine zk1 ?_
 refine za2 (za5 hG ?_)
 refine zt4 ?_
 exact zJ4 h (by intro e; subst e; simp [aK.enc,aM.enc,aD.enc])⟩
attribute [local irreducible] zF3
def zP6 (a0:aP):Option (List aM) :=
 (zo7 a0).bind fun v1 =>
 (if (!v1)=true then
  some []
 else
  (zr3 a0).bind fun v2 =>
  some v2)
instance zcK9 (a0:aP):OkP (zP6 a0) 45 [ga a0] (fun r=>la r):=ok1 (zP6.eq_1 a0) Tryz.f45 []
attribute [local irreducible] zP6
def zB5 (a0:List aI) (a1:bL):Option (bM×bL) :=
 (zb7 16 a1).bind fun v1 =>
 (zb7 6 v1.2).bind fun v2 =>
 (zo8 v2.1).bind fun v3 =>
 (if (decide (v1.1=0))=true then
  (zb7 9 v2.2).bind fun v4 =>
  some ({ { { bM.zero with aJ:=v3 } with kind:=1 } with n:=(i64.wrap (1+v4.1)) },v4.2)
 else
  (if (decide (v1.1 < 9))=true then
   (zv8 a0 v2.2).bind fun v5 =>
   some ({ { { bM.zero with aJ:=v3 } with kind:=2 } with aZ:=v5.1 },v5.2)
  else
   (if (decide (v1.1=9))=true then
    some ({ { bM.zero with aJ:=v3 } with kind:=3 },v2.2)
   else
    (if (decide (v1.1=10))=true then
     (zb7 (a0.length:Int) v2.2).bind fun v6 =>
     gd (0≤v6.1∧v6.1 < (a0.length:Int)) <|
     some ({ { { bM.zero with aJ:=v3 } with kind:=4 } with name:=(a0.getD v6.1.toNat aI.zero).name },v6.2)
    else
     (if (decide (v1.1=11))=true then
      (zb7 4 v2.2).bind fun v7 =>
      some ({ { { bM.zero with aJ:=v3 } with kind:=5 } with n:=(i64.wrap (1+v7.1)) },v7.2)
     else
      (if (decide (v1.1=12))=true then
       (zb7 5 v2.2).bind fun v8 =>
       some ({ { { bM.zero with aJ:=v3 } with kind:=6 } with n:=v8.1 },v8.2)
      else
       (if (decide (v1.1=13))=true then
        some ({ { bM.zero with aJ:=v3 } with kind:=7 },v2.2)
       else
        (if (decide (v1.1=14))=true then
         some ({ { bM.zero with aJ:=v3 } with kind:=8 },v2.2)
        else
         (zb7 12 v2.2).bind fun v9 =>
         some ({ { { bM.zero with aJ:=v3 } with kind:=9 } with n:=v9.1 },v9.2)))))))))
instance zcx0 (a0:List aI) (a1:bL):OkM (zB5 a0 a1) 94 [.ptr 0 0 0,la a0] [(0,bx a1)] 1 (fun r=>ga r.1) (fun r=>[(0,bx r.2)]) 1:=okm (zB5.eq_1 a0 a1) (fun r=>[ga r.1]) Tryz.f94 []
attribute [local irreducible] zB5
end
end Ab
end Go.Proofs.YtfkjffmjkbkmhaaGreatDoor
