import Derived.Test.YtenebhlnfjcffaaGreatDoorHm27
namespace Go.Proofs.YtenebhlnfjcffaaGreatDoor
namespace Ab
open IntKind (i64 u64 u8)
set_option linter.unusedSimpArgs false
set_option linter.defProp false
set_option linter.unusedVariables false
set_option maxRecDepth 100000
set_option maxHeartbeats 1000000
noncomputable section
attribute [local irreducible] zl1 ze7 zb3 za2 zd2 zj6 zb4 za8 zl5 zg4 zi6 zi7 zk5 zh8 ze1 za5 za9 zf7 zj1 zh5 zj7 zf2 ze3 zp5 zk3 zf6 zf0 zd1 zd7 zc3 za6 zi1 zf8 zl9 zf9 f_ref08_holds ze5 zg0 zl0 zf3 zg5 zf1 zb0 za0 zh0 zl2 zk4 ze4 zb5 zd3 ze6 zg8 zn2 zm1 zd8 zg1 zk6 zj5 zh7 zl3 zd0 zh1 zp9 zc8 zi0 zc5 zi4 zo6 za7 ze2 za4 zj0 zc2 za1 zf4 zi5 ze8 zn7 zo4 zq9 zg7 zh3 zf5 zm9 zt4 ze0 zg9 zc7 zd9 zb7 zr4 zh6 zj3 zp3 zo0 zb9 zm6 zk9 zi3 zg2 zj4 zi8 zh2 zh4 zm7 zr9 zh9 zm8 zq8 za3 zj8 zn9 zg6 zq4 zm0 zp6 zk7 zn8 f_formula_holds zj2 zc1 zi2 zo8 zq5 zb6 zp7 zp8 zj9 ze9 zd6 zc4 zo9 zr7 zo1 zr0 zl6 zs9 zt6 zp0 zm4 zg3 zt0 zu6 zl7 zn0 zt2 zt1 zi9 zb1 zp1 zr6 zt7 zu3 zl4 zz5 zp4 zw7 zw2 zz6 zq3 zA6
def zar4 (j1:Unit):Option Int :=
 some 0
def zQ7 (a0:List aC) (v1:(List aD)) (g1:Int):Option (Int⊕(Unit⊕Int)) :=
 (if (decide (g1 < (v1.length:Int)))=true then
  gd (0≤g1∧g1 < (v1.length:Int)) <|
  (zp1 a0 (v1.getD g1.toNat aD.zero)).bind fun v2 =>
  (if (!decide (v2=0))=true then
   some (.inr (.inr v2))
  else
   some (.inl (i64.wrap (g1+1))))
 else
  some (.inr (.inl ())))
def zw9 (a0:List aC) (a1:aG):Option Int :=
 (zq3 a1).bind fun v1 =>
 (if (decide ((v1.length:Int)=0))=true then
  some 1
 else
  (zc6 (zQ7 a0 v1) 0).bind (fun|.inl z=>zar4 z|.inr z=>some z))
@[reducible,instance] def zdv6 a0 a1 {T1:Type} (v1:T1):=mkJ (zw9 a0 a1,v1) 0 (@zar4.eq_1) fun (j1:Unit)=>⟨[],[],0⟩
@[reducible,instance] def zdv7 (a0:List aC) (v1:(List aD)) {T:Type} (x:T):=mkL x (@zQ7.eq_1 a0 v1) fun (g1:Int)=>⟨[(0,la a0),(14,la v1),(15,.int .i64 (v1.length:Int)),(16,.int .i64 g1)],[],0⟩
instance zca7 (a0:List aC) (a1:aG):OkP (zw9 a0 a1) 168 [la a0,ga a1] (fun r=>.int .i64 r):=ok1 (zw9.eq_1 a0 a1) Tryz.f168 []
attribute [local irreducible] zw9
def zC6 (a0:aG) (a1:List Bool):Option Bool :=
 (zq3 a0).bind fun v1 =>
 ((if (decide (0 < (v1.length:Int)))=true then f_formula_holds a0 v1 a1 else some false)).bind fun v2 =>
 some (decide (0 < (v1.length:Int))&&v2)
instance zcn6 (a0:aG) (a1:List Bool):OkP (zC6 a0 a1) 170 [ga a0,.sl (a1.map eB)] (fun r=>.bool r):=ok1 (zC6.eq_1 a0 a1) Tryz.f170 []
attribute [local irreducible] zC6
def zaw7 (j1:Unit):Option Int :=
 some 0
def zW7 (a0:List aC) (v1:(List aD)×Bool) (g1:Int):Option (Int⊕(Unit⊕Int)) :=
 (if (decide (g1 < (v1.1.length:Int)))=true then
  gd (0≤g1∧g1 < (v1.1.length:Int)) <|
  (zw2 a0 (v1.1.getD g1.toNat aD.zero)).bind fun v2 =>
  (if (!decide (v2=0))=true then
   some (.inr (.inr v2))
  else
   some (.inl (i64.wrap (g1+1))))
 else
  some (.inr (.inl ())))
def zz8 (a0:List aC) (a1:aG):Option Int :=
 (zl4 a1).bind fun v1 =>
 (if (!v1.2)=true then
  some 1
 else
  (zc6 (zW7 a0 v1) 0).bind (fun|.inl z=>zaw7 z|.inr z=>some z))
@[reducible,instance] def zdv8 a0 a1 {T1:Type} (v1:T1):=mkJ (zz8 a0 a1,v1) 0 (@zaw7.eq_1) fun (j1:Unit)=>⟨[],[],0⟩
@[reducible,instance] def zdv9 (a0:List aC) (v1:(List aD)×Bool) {T:Type} (x:T):=mkL x (@zW7.eq_1 a0 v1) fun (g1:Int)=>⟨[(0,la a0),(5,la v1.1),(7,.int .i64 g1)],[],0⟩
instance zcn7 (a0:List aC) (a1:aG):OkP (zz8 a0 a1) 126 [la a0,ga a1] (fun r=>.int .i64 r):=ok1 (zz8.eq_1 a0 a1) Tryz.f126 []
attribute [local irreducible] zz8
def zv1 (a0:aG):Option (List aD) :=
 (zl4 a0).bind fun v1 =>
 some v1.1
instance zcB3 (a0:aG):OkP (zv1 a0) 87 [ga a0] (fun r=>la r):=ok1 (zv1.eq_1 a0) Tryz.f87 []
attribute [local irreducible] zv1
attribute [local irreducible] zy0 zx5 zE9 zF8 zy7 zz7 zw8 zv0
def zR1 (a0:aF):Option Bool :=
 (zw7 a0).bind fun v1 =>
 ((if v1=true then zF8 a0 else some false)).bind fun v2 =>
 some (v1&&v2)
instance zcB4 (a0:aF):OkP (zR1 a0) 177 [ga a0] (fun r=>.bool r):=ok1 (zR1.eq_1 a0) Tryz.f177 []
attribute [local irreducible] zR1
def zaE5 (j1:Unit):Option Bool :=
 some true
def zad2 (a0:List aF) (g1:Int):Option (Int⊕(Unit⊕Bool)) :=
 (if (decide (g1 < (a0.length:Int)))=true then
  gd (0≤g1∧g1 < (a0.length:Int)) <|
  (zR1 (a0.getD g1.toNat aF.zero)).bind fun v1 =>
  gd ((v1&&decide (0 < g1))=true→0≤i64.wrap (g1 - 1)∧i64.wrap (g1 - 1) < (a0.length:Int)) <|
  gd ((v1&&decide (0 < g1))=true→0≤g1∧g1 < (a0.length:Int)) <|
  (if ((!v1)||(decide (0 < g1)&&(!Op.bytesLess (((a0.getD ((i64.wrap (g1 - 1)).toNat) aF.zero).aB).name).toList (((a0.getD g1.toNat aF.zero).aB).name).toList)))=true then
   some (.inr (.inr false))
  else
   some (.inl (i64.wrap (g1+1))))
 else
  some (.inr (.inl ())))
def zM8 (a0:List aF):Option Bool :=
 (if (decide (8 < (a0.length:Int)))=true then
  some false
 else
  (zc6 (zad2 a0) 0).bind (fun|.inl z=>zaE5 z|.inr z=>some z))
@[reducible,instance] def zdw0 a0:=mkJ (zM8 a0) 0 (@zaE5.eq_1) fun (j1:Unit)=>⟨[],[],0⟩
@[reducible,instance] def zdw1 (a0:List aF) {T:Type} (x:T):=mkL x (@zad2.eq_1 a0) fun (g1:Int)=>⟨[(0,la a0),(3,.int .i64 g1)],[],0⟩
instance zcB5 (a0:List aF):OkP (zM8 a0) 114 [la a0] (fun r=>.bool r):=ok1 (zM8.eq_1 a0) Tryz.f114 []
attribute [local irreducible] zM8
def zR2 (a0:List aF):Option Bool :=
 (zM8 a0).bind fun v1 =>
 ((if v1=true then zs9 a0 else some [])).bind fun v2 =>
 some (v1&&decide ((v2.length:Int)≤8))
instance zcB6 (a0:List aF):OkP (zR2 a0) 67 [la a0] (fun r=>.bool r):=ok1 (zR2.eq_1 a0) Tryz.f67 []
attribute [local irreducible] zR2
def zM9 (a0:bG):Option Bool :=
 (zy7 a0.bL).bind fun v1 =>
 some ((((v1&&decide (0≤a0.aW))&&decide (a0.aW≤7))&&decide (0≤a0.limit))&&decide (a0.limit≤1000))
instance zcB7 (a0:bG):OkP (zM9 a0) 125 [ga a0] (fun r=>.bool r):=ok1 (zM9.eq_1 a0) Tryz.f125 []
attribute [local irreducible] zM9
def zaw8 (j1:(List Bool)):Option (List Bool) :=
 some j1
def zW8 (a0:List aF) (a1:aH) (v1:(List aD)) (g1:Int×(List Bool)):Option ((Int×(List Bool))⊕(List Bool)) :=
 (if (decide (g1.1 < (v1.length:Int)))=true then
  gd (0≤g1.1∧g1.1 < (v1.length:Int)) <|
  (zj7 a0 ((v1.getD g1.1.toNat aD.zero).name)).bind fun v2 =>
  (if (decide (0≤v2))=true then
   gd (0≤v2∧v2 < (a0.length:Int)) <|
   gd (0≤v2∧v2 < (a0.length:Int)) <|
   (zn2 (a0.getD v2.toNat aF.zero) a1).bind fun v3 =>
   gd (0≤g1.1∧g1.1 < (v1.length:Int)) <|
   gd (0≤g1.1∧g1.1 < ((g1.2.length:Nat):Int)) <|
   some (.inl ((i64.wrap (g1.1+1)),g1.2.set g1.1.toNat (zu5 ((a0.getD v2.toNat aF.zero).aB) v3 ((v1.getD g1.1.toNat aD.zero).aI))))
  else
   some (.inl ((i64.wrap (g1.1+1)),g1.2)))
 else
  some (.inr g1.2))
def zx6 (a0:List aF) (a1:aH) (a2:aG):Option (List Bool) :=
 (zv1 a2).bind fun v1 =>
 gd (0≤(v1.length:Int)∧(v1.length:Int)≤(v1.length:Int)∧(v1.length:Int)≤4294967296) <|
 (zc6 (zW8 a0 a1 v1) (0,List.replicate ((v1.length:Int).toNat) false)).bind (fun z=>zaw8 z)
@[reducible,instance] def zdw2 a0 a1 a2 {T1:Type} (v1:T1):=mkJ (zx6 a0 a1 a2,v1) 0 (@zaw8.eq_1) fun (j1:(List Bool))=>⟨[(8,.own 0 0 j1.length)],[(0,⟨false,1,[A.bool false],j1.map eB⟩)],1⟩
@[reducible,instance] def zdw3 (a0:List aF) (a1:aH) (v1:(List aD)) {T:Type} (x:T):=mkL x (@zW8.eq_1 a0 a1 v1) fun (g1:Int×(List Bool))=>⟨[(0,la a0),(4,.ptr 0 0 0),(7,la v1),(8,.own 1 0 g1.2.length),(9,.int .i64 g1.1)],[(0,bx a1),(1,⟨false,1,[A.bool false],g1.2.map eB⟩)],2⟩
instance zcn8 (a0:List aF) (a1:aH) (a2:aG):OkP (zx6 a0 a1 a2) 40 [la a0,ga a1,ga a2] (fun r=>.sl (r.map eB)):=ok1 (zx6.eq_1 a0 a1 a2) Tryz.f40 []
attribute [local irreducible] zx6
def zaw9 (j2:Unit):Option Bool :=
 some true
def zD1 (a0:aY) (a1:aO) (v12:(List aD)) (g1:Int):Option (Int⊕(Unit⊕Bool)) :=
 (if (decide (g1 < (a0.aM.length:Int)))=true then
  gd (0≤g1∧g1 < (a0.aM.length:Int)) <|
  (zA6 (a0.aM.getD g1.toNat aF.zero) a1 v12).bind fun v13 =>
  (if (!v13)=true then
   some (.inr (.inr false))
  else
   some (.inl (i64.wrap (g1+1))))
 else
  some (.inr (.inl ())))
def zO6 (a0:aY) (a1:aO) (v2:(List aD)) (j1:Unit):Option Bool :=
 (if (!a1.bM)=true then
  (ze8 a1.aQ ({ bG.zero with  })).bind fun v3 =>
  ((if (v3&&decide (a1.since=0))=true then zj3 a0.aM a1.aN else some [])).bind fun v4 =>
  ((if (v3&&decide (a1.since=0))=true then ze4 v2 v4 else some false)).bind fun v5 =>
  ((if ((v3&&decide (a1.since=0))&&v5)=true then zm7 a0.aM a1.aN else some [])).bind fun v6 =>
  some (((v3&&decide (a1.since=0))&&v5)&&decide ((v6.length:Int)=0))
 else
  (zM9 a1.aQ).bind fun v7 =>
  ((if v7=true then zf9 a0.aM else some [])).bind fun v8 =>
  ((if v7=true then zz8 v8 a1.aQ.bL else some 0)).bind fun v9 =>
  ((if (!(((((!v7)||(!decide (v9=0)))||decide (a1.since < 0))||decide (a0.now < a1.since))||((!decide (a1.aQ.limit=0))&&decide (i64.wrap (a1.since+a1.aQ.limit)≤a0.now))))=true then zx6 a0.aM a1.aN a1.aQ.bL else some [])).bind fun v10 =>
  ((if (!(((((!v7)||(!decide (v9=0)))||decide (a1.since < 0))||decide (a0.now < a1.since))||((!decide (a1.aQ.limit=0))&&decide (i64.wrap (a1.since+a1.aQ.limit)≤a0.now))))=true then zv0 a1.aQ.bL v10 else some false)).bind fun v11 =>
  (if ((((((!v7)||(!decide (v9=0)))||decide (a1.since < 0))||decide (a0.now < a1.since))||((!decide (a1.aQ.limit=0))&&decide (i64.wrap (a1.since+a1.aQ.limit)≤a0.now)))||v11)=true then
   some false
  else
   (zv1 a1.aQ.bL).bind fun v12 =>
   (zc6 (zD1 a0 a1 v12) 0).bind (fun|.inl z=>zaw9 z|.inr z=>some z)))
def zH7 (a0:aY) (v2:(List aD)) (g2:Int):Option (Int⊕(Unit⊕Bool)) :=
 (if (decide (g2 < (v2.length:Int)))=true then
  gd (0≤g2∧g2 < (v2.length:Int)) <|
  (zj7 a0.aM ((v2.getD g2.toNat aD.zero).name)).bind fun v14 =>
  gd ((!(decide (v14 < 0)))=true→0≤v14∧v14 < (a0.aM.length:Int)) <|
  gd ((!(decide (v14 < 0)))=true→0≤g2∧g2 < (v2.length:Int)) <|
  (if (decide (v14 < 0)||(!(zs6 ((a0.aM.getD v14.toNat aF.zero).aB) ((v2.getD g2.toNat aD.zero).aI))))=true then
   some (.inr (.inr false))
  else
   some (.inl (i64.wrap (g2+1))))
 else
  some (.inr (.inl ())))
def zC7 (a0:aY) (a1:aO):Option Bool :=
 ((if (!(((!(zq7 a1.aN))||decide (a1.cost < 1))||decide (1000 < a1.cost)))=true then zp8 a1.bD else some false)).bind fun v1 =>
 (if ((((((!(zq7 a1.aN))||decide (a1.cost < 1))||decide (1000 < a1.cost))||(!v1))||decide (a1.gen < 0))||decide (1073741824 < a1.gen))=true then
  some false
 else
  (zg8 a1.bD).bind fun v2 =>
  (zc6 (zH7 a0 v2) 0).bind (fun|.inl z=>zO6 a0 a1 v2 z|.inr z=>some z))
@[reducible,instance] def zdw4 a0 a1 v2 j1 {T1:Type} (v7:T1) {T2:Type} (v8:T2) {T3:Type} (v9:T3) {T4:Type} (v10:T4) {T5:Type} (v11:T5) {T6:Type} (v12:T6):=mkJ ((((((zO6 a0 a1 v2 j1,v7),v8),v9),v10),v11),v12) 2 (@zaw9.eq_1) fun (j2:Unit)=>⟨[],[],0⟩
@[reducible,instance] def zdw5 (a0:aY) (a1:aO) (v12:(List aD)) {T:Type} (x:T):=mkL x (@zD1.eq_1 a0 a1 v12) fun (g1:Int)=>⟨[(2,.ptr 0 0 0),(3,.ptr 1 0 0),(9,la v12),(10,.int .i64 g1)],[(0,bx a0),(1,bx a1)],2⟩
@[reducible,instance] def zdw6 (a0:aY) (a1:aO) {T1:Type} (v1:T1) (v2:(List aD)):=mkJ ((zC7 a0 a1,v1),v2) 0 (@zO6.eq_1 a0 a1 v2) fun (j1:Unit)=>⟨[(2,.ptr 0 0 0),(3,.ptr 1 0 0),(5,la v2)],[(0,bx a0),(1,bx a1)],2⟩
@[reducible,instance] def zdw7 (a0:aY) (a1:aO) {T1:Type} (v1:T1) (v2:(List aD)):=mkL ((zC7 a0 a1,v1),v2) (@zH7.eq_1 a0 v2) fun (g2:Int)=>⟨[(2,.ptr 0 0 0),(3,.ptr 1 0 0),(5,la v2),(6,.int .i64 g2)],[(0,bx a0),(1,bx a1)],2⟩
instance zcn9 (a0:aY) (a1:aO):OkP (zC7 a0 a1) 70 [ga a0,ga a1] (fun r=>.bool r):=ok1 (zC7.eq_1 a0 a1) Tryz.f70 []
attribute [local irreducible] zC7
def zaE6 (j2:Unit):Option Bool :=
 some true
def zN8 (a0:aY) (g1:Int):Option (Int⊕(Unit⊕Bool)) :=
 (if (decide (g1 < (a0.aX.length:Int)))=true then
  gd (0≤g1∧g1 < (a0.aX.length:Int)) <|
  (zC7 a0 (a0.aX.getD g1.toNat aO.zero)).bind fun v3 =>
  gd ((v3&&decide (0 < g1))=true→0≤i64.wrap (g1 - 1)∧i64.wrap (g1 - 1) < (a0.aX.length:Int)) <|
  gd ((v3&&decide (0 < g1))=true→0≤g1∧g1 < (a0.aX.length:Int)) <|
  (if ((!v3)||(decide (0 < g1)&&decide (0≤zw1 ((a0.aX.getD ((i64.wrap (g1 - 1)).toNat) aO.zero).aN) ((a0.aX.getD g1.toNat aO.zero).aN))))=true then
   some (.inr (.inr false))
  else
   some (.inl (i64.wrap (g1+1))))
 else
  some (.inr (.inl ())))
def zU9 (a0:aY) (j1:Unit):Option Bool :=
 (zc6 (zN8 a0) 0).bind (fun|.inl z=>zaE6 z|.inr z=>some z)
def zH8 (a0:aY) (v2:(List aH)) (g2:Int):Option (Int⊕(Unit⊕Bool)) :=
 (if (decide (g2 < (v2.length:Int)))=true then
  gd (0≤g2∧g2 < (v2.length:Int)) <|
  (zi7 a0.aX (v2.getD g2.toNat aH.zero)).bind fun v4 =>
  (if (decide (v4 < 0))=true then
   some (.inr (.inr false))
  else
   some (.inl (i64.wrap (g2+1))))
 else
  some (.inr (.inl ())))
def zI7 (a0:aY):Option Bool :=
 ((if (!(decide (a0.now < 0)||decide (1073741824 < a0.now)))=true then zR2 a0.aM else some false)).bind fun v1 =>
 (if (((decide (a0.now < 0)||decide (1073741824 < a0.now))||(!v1))||decide (8 < (a0.aX.length:Int)))=true then
  some false
 else
  (zs9 a0.aM).bind fun v2 =>
  (zc6 (zH8 a0 v2) 0).bind (fun|.inl z=>zU9 a0 z|.inr z=>some z))
@[reducible,instance] def zdw8 a0 j1:=mkJ (zU9 a0 j1) 2 (@zaE6.eq_1) fun (j2:Unit)=>⟨[],[],0⟩
@[reducible,instance] def zdw9 (a0:aY) {T:Type} (x:T):=mkL x (@zN8.eq_1 a0) fun (g1:Int)=>⟨[(1,.ptr 0 0 0),(5,.int .i64 g1)],[(0,bx a0)],1⟩
@[reducible,instance] def zdx0 (a0:aY) {T1:Type} (v1:T1) {T2:Type} (v2:T2):=mkJ ((zI7 a0,v1),v2) 0 (@zU9.eq_1 a0) fun (j1:Unit)=>⟨[(1,.ptr 0 0 0)],[(0,bx a0)],1⟩
@[reducible,instance] def zdx1 (a0:aY) (v2:(List aH)) {T:Type} (x:T):=mkL x (@zH8.eq_1 a0 v2) fun (g2:Int)=>⟨[(1,.ptr 0 0 0),(3,la v2),(4,.int .i64 g2)],[(0,bx a0)],1⟩
instance zbs6 (a0:aY):OkP (zI7 a0) 27 [ga a0] (fun r=>.bool r):=ok1 (zI7.eq_1 a0) Tryz.f27 []
attribute [local irreducible] zI7
@[go_sem] def zdx2 (a0:List aF) (a2:aD) (v2:Int) (v4:aF×(List aT)×Int) (j1:(List bR)):St:=⟨[(0,la a0),(5,.ptr 0 0 0),(9,.int .i64 v2),(11,.ptr 1 0 0),(12,la v4.2.1),(14,.own 2 0 j1.length)],[(0,bx a2),(1,bx v4.1),(2,sx j1)],3⟩
def zJ7 (a0:aC) (a1:List aT) (a2:aH) (a3:aA):Option Bool :=
 (zt7 a0 a1 a2 a3).bind fun v1 =>
 ((if v1=true then zo4 a1 a2 a3 else some [])).bind fun v2 =>
 ((if v1=true then zp0 a0 v2 else some false)).bind fun v3 =>
 some (v1&&v3)
instance zct1 (a0:aC) (a1:List aT) (a2:aH) (a3:aA):OkP (zJ7 a0 a1 a2 a3) 136 [ga a0,la a1,ga a2,ga a3] (fun r=>.bool r):=ok1 (zJ7.eq_1 a0 a1 a2 a3) Tryz.f136 []
attribute [local irreducible] zJ7
def zL3 (a0:aF):Option Bool :=
 (zz6 a0).bind fun v1 =>
 (if (!v1)=true then
  some false
 else
  (zl1 a0).bind fun v2 =>
  ((if v2.2=true then zJ7 a0.aB a0.bA v2.1.aN v2.1.aI else some false)).bind fun v3 =>
  some ((!v2.2)||(!v3)))
instance zco0 (a0:aF):OkP (zL3 a0) 78 [ga a0] (fun r=>.bool r):=ok1 (zL3.eq_1 a0) Tryz.f78 []
attribute [local irreducible] zL3
def zN0 (a0:aF):Option Bool :=
 (zL3 a0).bind fun v1 =>
 some v1
instance zcB8 (a0:aF):OkP (zN0 a0) 31 [ga a0] (fun r=>.bool r):=ok1 (zN0.eq_1 a0) Tryz.f31 []
attribute [local irreducible] zN0
def zar5 (j1:(List aH)):Option (List aH) :=
 (zm4 j1).bind fun v2 =>
 some v2
def zar6 (a0:aK) (g1:Int×(List aH)):Option ((Int×(List aH))⊕(List aH)) :=
 (if (decide (g1.1 < (a0.bF.length:Int)))=true then
  gd (0≤g1.1∧g1.1 < (a0.bF.length:Int)) <|
  gd (g1.2.length+1≤4294967296) <|
  some (.inl ((i64.wrap (g1.1+1)),(g1.2++[(a0.bF.getD g1.1.toNat bK.zero).aN])))
 else
  some (.inr g1.2))
def zF0 (a0:aK):Option (List aH) :=
 (zz7 a0.aM).bind fun v1 =>
 gd (v1.length≤4294967296) <|
 (zc6 (zar6 a0) (0,v1)).bind (fun z=>zar5 z)
@[reducible,instance] def zdx3 a0 {T1:Type} (v1:T1):=mkJ (zF0 a0,v1) 0 (@zar5.eq_1) fun (j1:(List aH))=>⟨[(3,.own 0 0 j1.length)],[(0,sx j1)],1⟩
@[reducible,instance] def zdx4 (a0:aK) {T:Type} (x:T):=mkL x (@zar6.eq_1 a0) fun (g1:Int×(List aH))=>⟨[(3,.own 0 0 g1.2.length),(11,la a0.bF),(12,.int .i64 (a0.bF.length:Int)),(13,.int .i64 g1.1)],[(0,sx g1.2)],1⟩
instance zca8 (a0:aK):OkP (zF0 a0) 21 [ga a0] (fun r=>la r):=ok1 (zF0.eq_1 a0) Tryz.f21 []
attribute [local irreducible] zF0
def zar7 (a0:aK) (j2:Unit):Option Bool :=
 (zF0 a0).bind fun v1 =>
 some (decide ((v1.length:Int)≤8))
def zar8 (a0:aK) (g1:Int):Option (Int⊕(Unit⊕Bool)) :=
 (if (decide (g1 < (a0.bF.length:Int)))=true then
  gd (0≤g1∧g1 < (a0.bF.length:Int)) <|
  ((if (!(((!(zc9 ((a0.bF.getD g1.toNat bK.zero).aN)))||decide ((a0.bF.getD g1.toNat bK.zero).gen < 0))||decide (1073741824 < (a0.bF.getD g1.toNat bK.zero).gen)))=true then zi9 ((a0.bF.getD g1.toNat bK.zero).bL) else some false)).bind fun v2 =>
  (if ((((!(zc9 ((a0.bF.getD g1.toNat bK.zero).aN)))||decide ((a0.bF.getD g1.toNat bK.zero).gen < 0))||decide (1073741824 < (a0.bF.getD g1.toNat bK.zero).gen))||(!v2))=true then
   some (.inr (.inr false))
  else
   gd (decide (0 < g1)=true→0≤i64.wrap (g1 - 1)∧i64.wrap (g1 - 1) < (a0.bF.length:Int)) <|
   ((if (decide (0 < g1))=true then zc8 ((a0.bF.getD ((i64.wrap (g1 - 1)).toNat) bK.zero).aN) ((a0.bF.getD g1.toNat bK.zero).aN) else some 0)).bind fun v3 =>
   (if (decide (0 < g1)&&decide (0≤v3))=true then
    some (.inr (.inr false))
   else
    some (.inl (i64.wrap (g1+1)))))
 else
  some (.inr (.inl ())))
def zab0 (a0:aK) (j1:Unit):Option Bool :=
 (zc6 (zar8 a0) 0).bind (fun|.inl z=>zar7 a0 z|.inr z=>some z)
def zar9 (a0:aK) (g2:Int):Option (Int⊕(Unit⊕Bool)) :=
 (if (decide (g2 < (a0.aM.length:Int)))=true then
  gd (0≤g2∧g2 < (a0.aM.length:Int)) <|
  (zN0 (a0.aM.getD g2.toNat aF.zero)).bind fun v4 =>
  gd ((v4&&decide (0 < g2))=true→0≤i64.wrap (g2 - 1)∧i64.wrap (g2 - 1) < (a0.aM.length:Int)) <|
  (if ((!v4)||(decide (0 < g2)&&(!Op.bytesLess (((a0.aM.getD ((i64.wrap (g2 - 1)).toNat) aF.zero).aB).name).toList (((a0.aM.getD g2.toNat aF.zero).aB).name).toList)))=true then
   some (.inr (.inr false))
  else
   some (.inl (i64.wrap (g2+1))))
 else
  some (.inr (.inl ())))
def zy8 (a0:aK):Option Bool :=
 (if (decide (8 < (a0.aM.length:Int))||decide (8 < (a0.bF.length:Int)))=true then
  some false
 else
  (zc6 (zar9 a0) 0).bind (fun|.inl z=>zab0 a0 z|.inr z=>some z))
@[reducible,instance] def zdx5 (a0:aK) j1:=mkJ (zab0 a0 j1) 2 (@zar7.eq_1 a0) fun (j2:Unit)=>⟨[(1,.ptr 0 0 0)],[(0,bx a0)],1⟩
@[reducible,instance] def zdx6 (a0:aK) {T:Type} (x:T):=mkL x (@zar8.eq_1 a0) fun (g1:Int)=>⟨[(1,.ptr 0 0 0),(48,la a0.bF),(49,.int .i64 (a0.bF.length:Int)),(50,.int .i64 g1)],[(0,bx a0)],1⟩
@[reducible,instance] def zdx7 (a0:aK):=mkJ (zy8 a0) 0 (@zab0.eq_1 a0) fun (j1:Unit)=>⟨[(1,.ptr 0 0 0)],[(0,bx a0)],1⟩
@[reducible,instance] def zdx8 (a0:aK) {T:Type} (x:T):=mkL x (@zar9.eq_1 a0) fun (g2:Int)=>⟨[(1,.ptr 0 0 0),(18,la a0.aM),(19,.int .i64 (a0.aM.length:Int)),(20,.int .i64 g2)],[(0,bx a0)],1⟩
instance zca9 (a0:aK):OkP (zy8 a0) 11 [ga a0] (fun r=>.bool r):=ok1 (zy8.eq_1 a0) Tryz.f11 []
attribute [local irreducible] zy8
def zal9 (j2:(List Int)):Option ((List Int)×Int) :=
 some (j2,0)
def zam0 (a0:aK) (g1:(List Int)×Int):Option (((List Int)×Int)⊕(List Int)) :=
 (if (decide (g1.2 < (a0.bF.length:Int)))=true then
  gd (0≤g1.2∧g1.2 < (a0.bF.length:Int)) <|
  (zj4 g1.1 ((a0.bF.getD g1.2.toNat bK.zero).aN)).bind fun v4 =>
  (zc5 v4 [(a0.bF.getD g1.2.toNat bK.zero).gen]).bind fun v5 =>
  (zi8 v5 ((a0.bF.getD g1.2.toNat bK.zero).bL)).bind fun v6 =>
  some (.inl (v6,i64.wrap (g1.2+1)))
 else
  some (.inr g1.1))
def zY1 (a0:aK) (j1:(List Int)):Option ((List Int)×Int) :=
 (zc5 j1 [(a0.bF.length:Int)]).bind fun v3 =>
 (zc6 (zam0 a0) (v3,0)).bind (fun z=>zal9 z)
def zam1 (a0:aK) (g2:(List Int)×Int):Option (((List Int)×Int)⊕(List Int)) :=
 (if (decide (g2.2 < (a0.aM.length:Int)))=true then
  gd (0≤g2.2∧g2.2 < (a0.aM.length:Int)) <|
  (zj9 g2.1 (a0.aM.getD g2.2.toNat aF.zero)).bind fun v7 =>
  some (.inl (v7,i64.wrap (g2.2+1)))
 else
  some (.inr g2.1))
def zH9 (a0:aK):Option ((List Int)×Int) :=
 (zy8 a0).bind fun v1 =>
 (if (!v1)=true then
  some ([],2)
 else
  (zc5 [] [(a0.aM.length:Int)]).bind fun v2 =>
  (zc6 (zam1 a0) (v2,0)).bind (fun z=>zY1 a0 z))
@[reducible,instance] def zdx9 a0 j1 {T1:Type} (v3:T1):=mkJ (zY1 a0 j1,v3) 2 (@zal9.eq_1) fun (j2:(List Int))=>⟨[(4,.sl (j2.map (eI .u8)))],[],0⟩
@[reducible,instance] def zdy0 (a0:aK) {T:Type} (x:T):=mkL x (@zam0.eq_1 a0) fun (g1:(List Int)×Int)=>⟨[(4,.sl (g1.1.map (eI .u8))),(35,la a0.bF),(36,.int .i64 (a0.bF.length:Int)),(37,.int .i64 g1.2)],[],0⟩
@[reducible,instance] def zdy1 (a0:aK) {T1:Type} (v1:T1) {T2:Type} (v2:T2):=mkJ ((zH9 a0,v1),v2) 0 (@zY1.eq_1 a0) fun (j1:(List Int))=>⟨[(1,.ptr 0 0 0),(4,.sl (j1.map (eI .u8)))],[(0,bx a0)],1⟩
@[reducible,instance] def zdy2 (a0:aK) {T:Type} (x:T):=mkL x (@zam1.eq_1 a0) fun (g2:(List Int)×Int)=>⟨[(1,.ptr 0 0 0),(4,.sl (g2.1.map (eI .u8))),(18,la a0.aM),(19,.int .i64 (a0.aM.length:Int)),(20,.int .i64 g2.2)],[(0,bx a0)],1⟩
instance zaR8 (a0:aK):OkP (zH9 a0) 18 [ga a0] (fun r=>.tup [.sl (r.1.map (eI .u8)),.int .i64 r.2]):=ok1 (zH9.eq_1 a0) Tryz.f18 []
attribute [local irreducible] zH9
def zam2 (j2:aU×aK):Option (aK×Int) :=
 (if (!decide (j2.1.bH.err=0))=true then
  some ({ aK.zero with  },j2.1.bH.err)
 else
  (if (decide (0 < (j2.1.bH.rest.length:Int)))=true then
   some ({ aK.zero with  },6)
  else
   (zy8 j2.2).bind fun v3 =>
   (if (!v3)=true then
    some ({ aK.zero with  },2)
   else
    some (j2.2,0))))
def zam3 (g1:Int×aU×aK):Option ((Int×aU×aK)⊕(aU×aK)) :=
 (if (decide (0 < g1.1)&&decide (g1.2.1.bH.err=0))=true then
  (ze9 g1.2.1).bind fun v4 =>
  (zb9 v4.2).bind fun v5 =>
  (zn0 1 v5.2).bind fun v6 =>
  gd (g1.2.2.bF.length+1≤4294967296) <|
  some (.inl ((i64.wrap (g1.1 - 1)),v6.2,(⟨g1.2.2.aM,(g1.2.2.bF++[{ { { bK.zero with aN:=v4.1 } with gen:=v5.1 } with bL:=v6.1 }])⟩:aK)))
 else
  some (.inr (g1.2.1,g1.2.2)))
def zY2 (j1:aU×aK):Option (aK×Int) :=
 (zc7 8 j1.1).bind fun v2 =>
 (zc6 zam3 (v2.1,v2.2,j1.2)).bind (fun z=>zam2 z)
def zam4 (g2:Int×aU×aK):Option ((Int×aU×aK)⊕(aU×aK)) :=
 (if (decide (0 < g2.1)&&decide (g2.2.1.bH.err=0))=true then
  (zg3 g2.2.1).bind fun v7 =>
  gd (g2.2.2.aM.length+1≤4294967296) <|
  some (.inl ((i64.wrap (g2.1 - 1)),v7.2,(⟨(g2.2.2.aM++[v7.1]),g2.2.2.bF⟩:aK)))
 else
  some (.inr (g2.2.1,g2.2.2)))
def zD2 (a0:List Int):Option (aK×Int) :=
 (zc7 8 (⟨{ bJ.zero with rest:=a0 }⟩:aU)).bind fun v1 =>
 (zc6 zam4 (v1.1,v1.2,(⟨[],[]⟩:aK))).bind (fun z=>zY2 z)
@[reducible,instance] def zdy3 (j1:aU×aK) {T1:Type} (v2:T1):=mkJ (zY2 j1,v2) 2 (@zam2.eq_1) fun (j2:aU×aK)=>⟨[(2,.ptr 0 0 0),(4,.ptr 1 0 0),(5,.ptr 2 0 0)],[(0,bx aK.zero),(1,bx j2.1),(2,⟨false,2,aK.enc aK.zero,[[.own 3 0 j2.2.aM.length,.own 4 0 j2.2.bF.length]]⟩),(3,sx j2.2.aM),(4,sx j2.2.bF)],5⟩
@[reducible,instance] def zdy4 {T:Type} (x:T):=mkL x (@zam3.eq_1) fun (g1:Int×aU×aK)=>⟨[(2,.ptr 0 0 0),(4,.ptr 1 0 0),(5,.ptr 2 0 0),(7,.int .i64 g1.1)],[(0,bx aK.zero),(1,bx g1.2.1),(2,⟨false,2,aK.enc aK.zero,[[.own 3 0 g1.2.2.aM.length,.own 4 0 g1.2.2.bF.length]]⟩),(3,sx g1.2.2.aM),(4,sx g1.2.2.bF)],5⟩
@[reducible,instance] def zdy5 (a0:List Int) {T1:Type} (v1:T1):=mkJ (zD2 a0,v1) 0 (@zY2.eq_1) fun (j1:aU×aK)=>⟨[(2,.ptr 0 0 0),(4,.ptr 1 0 0),(5,.ptr 2 0 0)],[(0,bx aK.zero),(1,bx j1.1),(2,⟨false,2,aK.enc aK.zero,[[.own 3 0 j1.2.aM.length,.own 4 0 j1.2.bF.length]]⟩),(3,sx j1.2.aM),(4,sx j1.2.bF)],5⟩
@[reducible,instance] def zdy6 {T:Type} (x:T):=mkL x (@zam4.eq_1) fun (g2:Int×aU×aK)=>⟨[(2,.ptr 0 0 0),(4,.ptr 1 0 0),(5,.ptr 2 0 0),(6,.int .i64 g2.1)],[(0,bx aK.zero),(1,bx g2.2.1),(2,⟨false,2,aK.enc aK.zero,[[.own 3 0 g2.2.2.aM.length,.own 4 0 g2.2.2.bF.length]]⟩),(3,sx g2.2.2.aM),(4,sx g2.2.2.bF)],5⟩
instance zaR9 (a0:List Int):OkP (zD2 a0) 19 [.sl (a0.map (eI .u8))] (fun r=>.tup [ga r.1,.int .i64 r.2]):=⟨fun r h=>by
 refine zae3 Tryz.f19 [(5,5)] fun E hG hN hK=>?_
 have hm:Mk (zD2 a0):=trivial
 unfold zD2 at h
 refine zb2 (zc0 hG ?_)
 refine zb2 (zc0 hG ?_)
 refine zb2 (zc0 hG ?_)
 refine g_gh (.ownb 2 0 8 (aF.enc aF.zero)) ?_
 refine g_gh (.ownb 2 1 9 (bK.enc bK.zero)) ?_
 exact gogo⟩
attribute [local irreducible] zD2
def zak7 (j1:(List Bool)):Option (List Bool) :=
 some j1
def zak8 (a0:aK) (a1:aH) (v3:(List aD)) (g1:Int×(List Bool)):Option ((Int×(List Bool))⊕(List Bool)) :=
 (if (decide (g1.1 < (v3.length:Int)))=true then
  gd (0≤g1.1∧g1.1 < (v3.length:Int)) <|
  (zj6 a0.aM ((v3.getD g1.1.toNat aD.zero).name)).bind fun v4 =>
  (if (decide (0≤v4))=true then
   gd (0≤v4∧v4 < (a0.aM.length:Int)) <|
   (zn8 (a0.aM.getD v4.toNat aF.zero) a1).bind fun v5 =>
   gd (g1.2.length+1≤4294967296) <|
   some (.inl ((i64.wrap (g1.1+1)),(g1.2++[(!v5.2)])))
  else
   gd (g1.2.length+1≤4294967296) <|
   some (.inl ((i64.wrap (g1.1+1)),(g1.2++[true]))))
 else
  some (.inr g1.2))
def zF3 (a0:aK) (a1:aH):Option (List Bool) :=
 (zr0 a0.bF a1).bind fun v1 =>
 ((if (!(decide (v1 < 0)))=true then zy8 a0 else some false)).bind fun v2 =>
 (if (decide (v1 < 0)||(!v2))=true then
  some []
 else
  gd (0≤v1∧v1 < (a0.bF.length:Int)) <|
  (zq3 ((a0.bF.getD v1.toNat bK.zero).bL)).bind fun v3 =>
  (zc6 (zak8 a0 a1 v3) (0,[])).bind (fun z=>zak7 z))
@[reducible,instance] def zdy7 a0 a1 {T1:Type} (v1:T1) {T2:Type} (v2:T2) {T3:Type} (v3:T3):=mkJ (((zF3 a0 a1,v1),v2),v3) 0 (@zak7.eq_1) fun (j1:(List Bool))=>⟨[(6,.own 0 0 j1.length)],[(0,⟨false,1,[A.bool false],j1.map eB⟩)],1⟩
@[reducible,instance] def zdy8 (a0:aK) (a1:aH) (v3:(List aD)) {T:Type} (x:T):=mkL x (@zak8.eq_1 a0 a1 v3) fun (g1:Int×(List Bool))=>⟨[(2,.ptr 0 0 0),(3,.ptr 1 0 0),(6,.own 2 0 g1.2.length),(28,la v3),(29,.int .i64 (v3.length:Int)),(30,.int .i64 g1.1)],[(0,bx a0),(1,bx a1),(2,⟨false,1,[A.bool false],g1.2.map eB⟩)],3⟩
instance zaN3 (a0:aK) (a1:aH):OkP (zF3 a0 a1) 14 [ga a0,ga a1] (fun r=>.sl (r.map eB)):=ok1 (zF3.eq_1 a0 a1) Tryz.f14 [(6,1)]
attribute [local irreducible] zF3
def zan9 (a0:List aF) (j1:Unit):Option Bool :=
 (zz7 a0).bind fun v1 =>
 some (decide ((v1.length:Int)≤8))
def zad3 (a0:List aF) (g1:Int):Option (Int⊕(Unit⊕Bool)) :=
 (if (decide (g1 < (a0.length:Int)))=true then
  gd (0≤g1∧g1 < (a0.length:Int)) <|
  (zN0 (a0.getD g1.toNat aF.zero)).bind fun v2 =>
  gd ((v2&&decide (0 < g1))=true→0≤i64.wrap (g1 - 1)∧i64.wrap (g1 - 1) < (a0.length:Int)) <|
  (if ((!v2)||(decide (0 < g1)&&(!Op.bytesLess (((a0.getD ((i64.wrap (g1 - 1)).toNat) aF.zero).aB).name).toList (((a0.getD g1.toNat aF.zero).aB).name).toList)))=true then
   some (.inr (.inr false))
  else
   some (.inl (i64.wrap (g1+1))))
 else
  some (.inr (.inl ())))
def zN1 (a0:List aF):Option Bool :=
 (if (decide (8 < (a0.length:Int)))=true then
  some false
 else
  (zc6 (zad3 a0) 0).bind (fun|.inl z=>zan9 a0 z|.inr z=>some z))
@[reducible,instance] def zdy9 (a0:List aF):=mkJ (zN1 a0) 0 (@zan9.eq_1 a0) fun (j1:Unit)=>⟨[(0,la a0)],[],0⟩
@[reducible,instance] def zdz0 (a0:List aF) {T:Type} (x:T):=mkL x (@zad3.eq_1 a0) fun (g1:Int)=>⟨[(0,la a0),(8,la a0),(9,.int .i64 (a0.length:Int)),(10,.int .i64 g1)],[],0⟩
instance zcB9 (a0:List aF):OkP (zN1 a0) 61 [la a0] (fun r=>.bool r):=ok1 (zN1.eq_1 a0) Tryz.f61 []
attribute [local irreducible] zN1
def zad6 (j1:Unit):Option Bool :=
 some true
def zu0 (a0:aY) (a1:aO) (v6:(List aD)) (g1:Int):Option (Int⊕(Unit⊕Bool)) :=
 (if (decide (g1 < (a0.aM.length:Int)))=true then
  gd (0≤g1∧g1 < (a0.aM.length:Int)) <|
  (zl6 (a0.aM.getD g1.toNat aF.zero) a1 v6).bind fun v7 =>
  (if (!v7)=true then
   some (.inr (.inr false))
  else
   some (.inl (i64.wrap (g1+1))))
 else
  some (.inr (.inl ())))
def zu7 (a0:aY) (a1:aO):Option Bool :=
 (zx5 a1.aQ).bind fun v1 =>
 ((if v1=true then zd1 a0.aM else some [])).bind fun v2 =>
 ((if v1=true then zw9 v2 a1.aQ.bL else some 0)).bind fun v3 =>
 (if ((!v1)||(!decide (v3=0)))=true then
  some false
 else
  (if ((decide (a1.since < 0)||decide (a0.now < a1.since))||((!decide (a1.aQ.limit=0))&&decide (i64.wrap (a1.since+a1.aQ.limit)≤a0.now)))=true then
   some false
  else
   (zw8 a0.aM a1).bind fun v4 =>
   (zC6 a1.aQ.bL v4).bind fun v5 =>
   (if v5=true then
    some false
   else
    (zq3 a1.aQ.bL).bind fun v6 =>
    (zc6 (zu0 a0 a1 v6) 0).bind (fun|.inl z=>zad6 z|.inr z=>some z))))
@[reducible,instance] def zdz1 a0 a1 {T1:Type} (v1:T1) {T2:Type} (v2:T2) {T3:Type} (v3:T3) {T4:Type} (v4:T4) {T5:Type} (v5:T5) {T6:Type} (v6:T6):=mkJ ((((((zu7 a0 a1,v1),v2),v3),v4),v5),v6) 0 (@zad6.eq_1) fun (j1:Unit)=>⟨[],[],0⟩
@[reducible,instance] def zdz2 (a0:aY) (a1:aO) (v6:(List aD)) {T:Type} (x:T):=mkL x (@zu0.eq_1 a0 a1 v6) fun (g1:Int)=>⟨[(3,.ptr 0 0 0),(6,la v6),(59,la a0.aM),(60,.int .i64 (a0.aM.length:Int)),(61,.int .i64 g1)],[(0,bx a1)],1⟩
instance zbE5 (a0:aY) (a1:aO):OkP (zu7 a0 a1) 110 [ga a0,ga a1] (fun r=>.bool r):=ok1 (zu7.eq_1 a0 a1) Tryz.f110 []
attribute [local irreducible] zu7
def zG3 (a0:aY) (a1:aO) (j1:Unit):Option Bool :=
 (if a1.bM=true then
  (zu7 a0 a1).bind fun v3 =>
  some v3
 else
  (zp4 a0 a1).bind fun v4 =>
  some v4)
def zx2 (a0:aY) (v2:(List aD)) (g1:Int):Option (Int⊕(Unit⊕Bool)) :=
 (if (decide (g1 < (v2.length:Int)))=true then
  gd (0≤g1∧g1 < (v2.length:Int)) <|
  (zj6 a0.aM ((v2.getD g1.toNat aD.zero).name)).bind fun v5 =>
  gd ((!(decide (v5 < 0)))=true→0≤v5∧v5 < (a0.aM.length:Int)) <|
  (if (decide (v5 < 0)||(!(zb8 ((a0.aM.getD v5.toNat aF.zero).aB) ((v2.getD g1.toNat aD.zero).aI))))=true then
   some (.inr (.inr false))
  else
   some (.inl (i64.wrap (g1+1))))
 else
  some (.inr (.inl ())))
def zt5 (a0:aY) (a1:aO):Option Bool :=
 (if (((!(zc9 a1.aN))||decide (a1.cost < 1))||decide (1000 < a1.cost))=true then
  some false
 else
  ((if (!(decide (a1.gen < 0)||decide (1073741824 < a1.gen)))=true then zo8 a1.bD else some false)).bind fun v1 =>
  (if ((decide (a1.gen < 0)||decide (1073741824 < a1.gen))||(!v1))=true then
   some false
  else
   (zj8 a1.bD).bind fun v2 =>
   (zc6 (zx2 a0 v2) 0).bind (fun|.inl z=>zG3 a0 a1 z|.inr z=>some z)))
@[reducible,instance] def zdz3 (a0:aY) (a1:aO) {T1:Type} (v1:T1) {T2:Type} (v2:T2):=mkJ ((zt5 a0 a1,v1),v2) 0 (@zG3.eq_1 a0 a1) fun (j1:Unit)=>⟨[(2,.ptr 0 0 0),(3,.ptr 1 0 0)],[(0,bx a0),(1,bx a1)],2⟩
@[reducible,instance] def zdz4 (a0:aY) (a1:aO) {T1:Type} (v1:T1) (v2:(List aD)):=mkL ((zt5 a0 a1,v1),v2) (@zx2.eq_1 a0 v2) fun (g1:Int)=>⟨[(2,.ptr 0 0 0),(3,.ptr 1 0 0),(38,la v2),(39,.int .i64 (v2.length:Int)),(40,.int .i64 g1)],[(0,bx a0),(1,bx a1)],2⟩
instance zbE6 (a0:aY) (a1:aO):OkP (zt5 a0 a1) 62 [ga a0,ga a1] (fun r=>.bool r):=ok1 (zt5.eq_1 a0 a1) Tryz.f62 []
attribute [local irreducible] zt5
def zax0 (j2:Unit):Option Bool :=
 some true
def zD3 (a0:aY) (v2:(List aH)) (g1:Int):Option (Int⊕(Unit⊕Bool)) :=
 (if (decide (g1 < (v2.length:Int)))=true then
  gd (0≤g1∧g1 < (v2.length:Int)) <|
  (zt1 a0.aX (v2.getD g1.toNat aH.zero)).bind fun v3 =>
  (if (decide (v3 < 0))=true then
   some (.inr (.inr false))
  else
   some (.inl (i64.wrap (g1+1))))
 else
  some (.inr (.inl ())))
def zO7 (a0:aY) (j1:Unit):Option Bool :=
 (zz7 a0.aM).bind fun v2 =>
 (zc6 (zD3 a0 v2) 0).bind (fun|.inl z=>zax0 z|.inr z=>some z)
def zI0 (a0:aY) (g2:Int):Option (Int⊕(Unit⊕Bool)) :=
 (if (decide (g2 < (a0.aX.length:Int)))=true then
  gd (0≤g2∧g2 < (a0.aX.length:Int)) <|
  gd (decide (0 < g2)=true→0≤i64.wrap (g2 - 1)∧i64.wrap (g2 - 1) < (a0.aX.length:Int)) <|
  ((if (decide (0 < g2))=true then zc8 ((a0.aX.getD ((i64.wrap (g2 - 1)).toNat) aO.zero).aN) ((a0.aX.getD g2.toNat aO.zero).aN) else some 0)).bind fun v4 =>
  (if (decide (0 < g2)&&decide (0≤v4))=true then
   some (.inr (.inr false))
  else
   (zt5 a0 (a0.aX.getD g2.toNat aO.zero)).bind fun v5 =>
   (if (!v5)=true then
    some (.inr (.inr false))
   else
    some (.inl (i64.wrap (g2+1)))))
 else
  some (.inr (.inl ())))
def zF9 (a0:aY):Option Bool :=
 ((if (!(decide (a0.now < 0)||decide (1073741824 < a0.now)))=true then zN1 a0.aM else some false)).bind fun v1 =>
 (if (((decide (a0.now < 0)||decide (1073741824 < a0.now))||(!v1))||decide (8 < (a0.aX.length:Int)))=true then
  some false
 else
  (zc6 (zI0 a0) 0).bind (fun|.inl z=>zO7 a0 z|.inr z=>some z))
@[reducible,instance] def zdz5 a0 j1 {T1:Type} (v2:T1):=mkJ (zO7 a0 j1,v2) 2 (@zax0.eq_1) fun (j2:Unit)=>⟨[],[],0⟩
@[reducible,instance] def zdz6 (a0:aY) (v2:(List aH)) {T:Type} (x:T):=mkL x (@zD3.eq_1 a0 v2) fun (g1:Int)=>⟨[(1,.ptr 0 0 0),(57,la v2),(58,.int .i64 (v2.length:Int)),(59,.int .i64 g1)],[(0,bx a0)],1⟩
@[reducible,instance] def zdz7 (a0:aY) {T1:Type} (v1:T1):=mkJ (zF9 a0,v1) 0 (@zO7.eq_1 a0) fun (j1:Unit)=>⟨[(1,.ptr 0 0 0)],[(0,bx a0)],1⟩
@[reducible,instance] def zdz8 (a0:aY) {T:Type} (x:T):=mkL x (@zI0.eq_1 a0) fun (g2:Int)=>⟨[(1,.ptr 0 0 0),(28,la a0.aX),(29,.int .i64 (a0.aX.length:Int)),(30,.int .i64 g2)],[(0,bx a0)],1⟩
instance zco1 (a0:aY):OkP (zF9 a0) 24 [ga a0] (fun r=>.bool r):=ok1 (zF9.eq_1 a0) Tryz.f24 []
attribute [local irreducible] zF9
end
end Ab
end Go.Proofs.YtenebhlnfjcffaaGreatDoor
