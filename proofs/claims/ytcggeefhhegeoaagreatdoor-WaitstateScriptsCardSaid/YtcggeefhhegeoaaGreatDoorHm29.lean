import Derived.Test.YtcggeefhhegeoaaGreatDoorHm25
import Derived.Test.YtcggeefhhegeoaaGreatDoorHm28
namespace Go.Proofs.YtcggeefhhegeoaaGreatDoor
namespace Ab
open IntKind (i64 u64 u8)
set_option linter.unusedSimpArgs false
set_option linter.unusedVariables false
set_option linter.defProp false
set_option maxRecDepth 100000
set_option maxHeartbeats 1000000
noncomputable section
attribute [local irreducible] zj2 za4 zd1 za7 zf7 zi6 zk5 zg4 zk6 zf3 zd2 zd8 zh9 zd6 zk1 za6 za0 ze0 zj7 zl9 zi3 zh5 zg2 zg8 zf8 zc5 ze1 ze2 zg9 zf5 ze3 zb0 za8 zh0 zi4 ze4 zn1 f_ref08_holds zj3 zc2 zn6 zm4 zm1 zd9 ze8 zk2 zm5 zh1 zj9 zl7 zd0 zi7 zf0 zf9 zl4 zn9 zm7 zb2 zc1 zh4 zq0 zp1 zk4 zb9 zo8 zd4 zm2 zh2 za5 za1 zb4 zh7 ze9 zm8 zk9 zd7 zd3 zi8 ze6 zq1 zi2 zc8 zo4 zo5 zb5 zi9 zf4 zh8 ze7 zm9 zp0 zp4 zp6 zi1 zf2 zq4 zr5 zt1 zg6 zs7 ze5 zj5 zc3 zb7 zk3 zq2 zl0 zr6 zc9 zq8 zh3 zh6 zi0 zl1 zj6 zp5 zs0 zq3 zn2 zc7 zb8 zl6 zr3 zs5 zd5 za3 zk7 zs1 zp2 zl5 zj4 zj1 zs4 zi5 zo6 zq7 zn5 zt7 zu4 zt0 zx1 zb1 zt2 zv3 zA2 zy3 zp3 zw1 zg0 zt8 zu8 zx2 zp9 zo9 zn7 zw8 zB1 zn3 zy5 zI3 zB2 zD0 zv4 zL1 zJ4 zG2 zz1 zw9 zs6 zz2 zO7 zI2 zv5 zD1 zx3 zJ5 zA8 zw2
def zF7 (a0:Queue):Option Bool :=
 (zB2 a0).bind fun v1 =>
 ((if v1=true then zD1 a0 else some false)).bind fun v2 =>
 some (v1&&v2)
instance zbM6 (a0:Queue):OkP (zF7 a0) 133 [ga a0] (fun r=>.bool r):=ok1 (zF7.eq_1 a0) Tryz.f133 []
attribute [local irreducible] zF7
def zaS4 (j1:Unit):Option Bool :=
 some true
def zan4 (a0:List Queue) (g1:Int):Option (Int⊕(Unit⊕Bool)) :=
 (if (decide (g1 < (a0.length:Int)))=true then
  gd (0≤g1∧g1 < (a0.length:Int)) <|
  (zF7 (a0.getD g1.toNat Queue.zero)).bind fun v1 =>
  gd ((v1&&decide (0 < g1))=true→0≤i64.wrap (g1 - 1)∧i64.wrap (g1 - 1) < (a0.length:Int)) <|
  gd ((v1&&decide (0 < g1))=true→0≤g1∧g1 < (a0.length:Int)) <|
  (if ((!v1)||(decide (0 < g1)&&(!Op.bytesLess (((a0.getD ((i64.wrap (g1 - 1)).toNat) Queue.zero).resource).name).toList (((a0.getD g1.toNat Queue.zero).resource).name).toList)))=true then
   some (.inr (.inr false))
  else
   some (.inl (i64.wrap (g1+1))))
 else
  some (.inr (.inl ())))
def zO8 (a0:List Queue):Option Bool :=
 (if (decide (8 < (a0.length:Int)))=true then
  some false
 else
  (zc0 (zan4 a0) 0).bind (fun|.inl z=>zaS4 z|.inr z=>some z))
@[reducible,instance] def zdV7 a0:=mkJ (zO8 a0) 0 (@zaS4.eq_1) fun (j1:Unit)=>⟨[],[],0⟩
@[reducible,instance] def zdV8 (a0:List Queue) {T:Type} (x:T):=mkL x (@zan4.eq_1 a0) fun (g1:Int)=>⟨[(0,la a0),(3,.int .i64 g1)],[],0⟩
instance zcZ7 (a0:List Queue):OkP (zO8 a0) 91 [la a0] (fun r=>.bool r):=ok1 (zO8.eq_1 a0) Tryz.f91 []
attribute [local irreducible] zO8
def zF8 (a0:List Queue):Option Bool :=
 (zO8 a0).bind fun v1 =>
 ((if v1=true then zv3 a0 else some [])).bind fun v2 =>
 some (v1&&decide ((v2.length:Int)≤8))
instance zbM7 (a0:List Queue):OkP (zF8 a0) 114 [la a0] (fun r=>.bool r):=ok1 (zF8.eq_1 a0) Tryz.f114 []
attribute [local irreducible] zF8
def zI4 (a0:Request):Option Bool :=
 (zx3 a0.expr).bind fun v1 =>
 some ((((v1&&decide (0≤a0.priority))&&decide (a0.priority≤7))&&decide (0≤a0.limit))&&decide (a0.limit≤1000))
instance zcZ8 (a0:Request):OkP (zI4 a0) 156 [ga a0] (fun r=>.bool r):=ok1 (zI4.eq_1 a0) Tryz.f156 []
attribute [local irreducible] zI4
def zaJ6 (j1:(List Bool)):Option (List Bool) :=
 some j1
def zag3 (a0:List Queue) (a1:Proc) (v1:(List Atom)) (g1:Int×(List Bool)):Option ((Int×(List Bool))⊕(List Bool)) :=
 (if (decide (g1.1 < (v1.length:Int)))=true then
  gd (0≤g1.1∧g1.1 < (v1.length:Int)) <|
  (zh5 a0 ((v1.getD g1.1.toNat Atom.zero).name)).bind fun v2 =>
  (if (decide (0≤v2))=true then
   gd (0≤v2∧v2 < (a0.length:Int)) <|
   gd (0≤v2∧v2 < (a0.length:Int)) <|
   (zi2 (a0.getD v2.toNat Queue.zero) a1).bind fun v3 =>
   gd (0≤g1.1∧g1.1 < (v1.length:Int)) <|
   gd (0≤g1.1∧g1.1 < ((g1.2.length:Nat):Int)) <|
   some (.inl ((i64.wrap (g1.1+1)),g1.2.set g1.1.toNat (zs9 ((a0.getD v2.toNat Queue.zero).resource) v3 ((v1.getD g1.1.toNat Atom.zero).amount))))
  else
   some (.inl ((i64.wrap (g1.1+1)),g1.2)))
 else
  some (.inr g1.2))
def zD2 (a0:List Queue) (a1:Proc) (a2:Expr):Option (List Bool) :=
 (zw2 a2).bind fun v1 =>
 gd (0≤(v1.length:Int)∧(v1.length:Int)≤(v1.length:Int)∧(v1.length:Int)≤4294967296) <|
 (zc0 (zag3 a0 a1 v1) (0,List.replicate ((v1.length:Int).toNat) false)).bind (fun z=>zaJ6 z)
@[reducible,instance] def zdV9 a0 a1 a2 {T1:Type} (v1:T1):=mkJ (zD2 a0 a1 a2,v1) 0 (@zaJ6.eq_1) fun (j1:(List Bool))=>⟨[(8,.own 0 0 j1.length)],[(0,⟨false,1,[A.bool false],j1.map eB⟩)],1⟩
@[reducible,instance] def zdW0 (a0:List Queue) (a1:Proc) (v1:(List Atom)) {T:Type} (x:T):=mkL x (@zag3.eq_1 a0 a1 v1) fun (g1:Int×(List Bool))=>⟨[(0,la a0),(4,.ptr 0 0 0),(7,la v1),(8,.own 1 0 g1.2.length),(9,.int .i64 g1.1)],[(0,bx a1),(1,⟨false,1,[A.bool false],g1.2.map eB⟩)],2⟩
instance zcM0 (a0:List Queue) (a1:Proc) (a2:Expr):OkP (zD2 a0 a1 a2) 160 [la a0,ga a1,ga a2] (fun r=>.sl (r.map eB)):=ok1 (zD2.eq_1 a0 a1 a2) Tryz.f160 []
attribute [local irreducible] zD2
def zaJ7 (j2:Unit):Option Bool :=
 some true
def zN7 (a0:Central) (a1:Proce) (v12:(List Atom)) (g1:Int):Option (Int⊕(Unit⊕Bool)) :=
 (if (decide (g1 < (a0.queues.length:Int)))=true then
  gd (0≤g1∧g1 < (a0.queues.length:Int)) <|
  (zG2 (a0.queues.getD g1.toNat Queue.zero) a1 v12).bind fun v13 =>
  (if (!v13)=true then
   some (.inr (.inr false))
  else
   some (.inl (i64.wrap (g1+1))))
 else
  some (.inr (.inl ())))
def zV3 (a0:Central) (a1:Proce) (v2:(List Atom)) (j1:Unit):Option Bool :=
 (if (!a1.waiting)=true then
  (ze9 a1.request ({ Request.zero with  })).bind fun v3 =>
  ((if (v3&&decide (a1.since=0))=true then zl0 a0.queues a1.proc else some [])).bind fun v4 =>
  ((if (v3&&decide (a1.since=0))=true then ze4 v2 v4 else some false)).bind fun v5 =>
  ((if ((v3&&decide (a1.since=0))&&v5)=true then zm9 a0.queues a1.proc else some [])).bind fun v6 =>
  some (((v3&&decide (a1.since=0))&&v5)&&decide ((v6.length:Int)=0))
 else
  (zI4 a1.request).bind fun v7 =>
  ((if v7=true then zg2 a0.queues else some [])).bind fun v8 =>
  ((if v7=true then zA8 v8 a1.request.expr else some 0)).bind fun v9 =>
  ((if (!(((((!v7)||(!decide (v9=0)))||decide (a1.since < 0))||decide (a0.now < a1.since))||((!decide (a1.request.limit=0))&&decide (i64.wrap (a1.since+a1.request.limit)≤a0.now))))=true then zD2 a0.queues a1.proc a1.request.expr else some [])).bind fun v10 =>
  ((if (!(((((!v7)||(!decide (v9=0)))||decide (a1.since < 0))||decide (a0.now < a1.since))||((!decide (a1.request.limit=0))&&decide (i64.wrap (a1.since+a1.request.limit)≤a0.now))))=true then zO7 a1.request.expr v10 else some false)).bind fun v11 =>
  (if ((((((!v7)||(!decide (v9=0)))||decide (a1.since < 0))||decide (a0.now < a1.since))||((!decide (a1.request.limit=0))&&decide (i64.wrap (a1.since+a1.request.limit)≤a0.now)))||v11)=true then
   some false
  else
   (zw2 a1.request.expr).bind fun v12 =>
   (zc0 (zN7 a0 a1 v12) 0).bind (fun|.inl z=>zaJ7 z|.inr z=>some z)))
def zN8 (a0:Central) (v2:(List Atom)) (g2:Int):Option (Int⊕(Unit⊕Bool)) :=
 (if (decide (g2 < (v2.length:Int)))=true then
  gd (0≤g2∧g2 < (v2.length:Int)) <|
  (zh5 a0.queues ((v2.getD g2.toNat Atom.zero).name)).bind fun v14 =>
  gd ((!(decide (v14 < 0)))=true→0≤v14∧v14 < (a0.queues.length:Int)) <|
  gd ((!(decide (v14 < 0)))=true→0≤g2∧g2 < (v2.length:Int)) <|
  (if (decide (v14 < 0)||(!(zt6 ((a0.queues.getD v14.toNat Queue.zero).resource) ((v2.getD g2.toNat Atom.zero).amount))))=true then
   some (.inr (.inr false))
  else
   some (.inl (i64.wrap (g2+1))))
 else
  some (.inr (.inl ())))
def zG3 (a0:Central) (a1:Proce):Option Bool :=
 ((if (!(((!(zm6 a1.proc))||decide (a1.cost < 1))||decide (1000 < a1.cost)))=true then zo6 a1.ledger else some false)).bind fun v1 =>
 (if ((((((!(zm6 a1.proc))||decide (a1.cost < 1))||decide (1000 < a1.cost))||(!v1))||decide (a1.gen < 0))||decide (1073741824 < a1.gen))=true then
  some false
 else
  (zh7 a1.ledger).bind fun v2 =>
  (zc0 (zN8 a0 v2) 0).bind (fun|.inl z=>zV3 a0 a1 v2 z|.inr z=>some z))
@[reducible,instance] def zdW1 a0 a1 v2 j1 {T1:Type} (v7:T1) {T2:Type} (v8:T2) {T3:Type} (v9:T3) {T4:Type} (v10:T4) {T5:Type} (v11:T5) {T6:Type} (v12:T6):=mkJ ((((((zV3 a0 a1 v2 j1,v7),v8),v9),v10),v11),v12) 2 (@zaJ7.eq_1) fun (j2:Unit)=>⟨[],[],0⟩
@[reducible,instance] def zdW2 (a0:Central) (a1:Proce) (v12:(List Atom)) {T:Type} (x:T):=mkL x (@zN7.eq_1 a0 a1 v12) fun (g1:Int)=>⟨[(2,.ptr 0 0 0),(3,.ptr 1 0 0),(9,la v12),(10,.int .i64 g1)],[(0,bx a0),(1,bx a1)],2⟩
@[reducible,instance] def zdW3 (a0:Central) (a1:Proce) {T1:Type} (v1:T1) (v2:(List Atom)):=mkJ ((zG3 a0 a1,v1),v2) 0 (@zV3.eq_1 a0 a1 v2) fun (j1:Unit)=>⟨[(2,.ptr 0 0 0),(3,.ptr 1 0 0),(5,la v2)],[(0,bx a0),(1,bx a1)],2⟩
@[reducible,instance] def zdW4 (a0:Central) (a1:Proce) {T1:Type} (v1:T1) (v2:(List Atom)):=mkL ((zG3 a0 a1,v1),v2) (@zN8.eq_1 a0 v2) fun (g2:Int)=>⟨[(2,.ptr 0 0 0),(3,.ptr 1 0 0),(5,la v2),(6,.int .i64 g2)],[(0,bx a0),(1,bx a1)],2⟩
instance zcM1 (a0:Central) (a1:Proce):OkP (zG3 a0 a1) 116 [ga a0,ga a1] (fun r=>.bool r):=ok1 (zG3.eq_1 a0 a1) Tryz.f116 []
attribute [local irreducible] zG3
def zaS5 (j2:Unit):Option Bool :=
 some true
def zU3 (a0:Central) (g1:Int):Option (Int⊕(Unit⊕Bool)) :=
 (if (decide (g1 < (a0.procs.length:Int)))=true then
  gd (0≤g1∧g1 < (a0.procs.length:Int)) <|
  (zG3 a0 (a0.procs.getD g1.toNat Proce.zero)).bind fun v3 =>
  gd ((v3&&decide (0 < g1))=true→0≤i64.wrap (g1 - 1)∧i64.wrap (g1 - 1) < (a0.procs.length:Int)) <|
  gd ((v3&&decide (0 < g1))=true→0≤g1∧g1 < (a0.procs.length:Int)) <|
  (if ((!v3)||(decide (0 < g1)&&decide (0≤zt4 ((a0.procs.getD ((i64.wrap (g1 - 1)).toNat) Proce.zero).proc) ((a0.procs.getD g1.toNat Proce.zero).proc))))=true then
   some (.inr (.inr false))
  else
   some (.inl (i64.wrap (g1+1))))
 else
  some (.inr (.inl ())))
def zae1 (a0:Central) (j1:Unit):Option Bool :=
 (zc0 (zU3 a0) 0).bind (fun|.inl z=>zaS5 z|.inr z=>some z)
def zU4 (a0:Central) (v2:(List Proc)) (g2:Int):Option (Int⊕(Unit⊕Bool)) :=
 (if (decide (g2 < (v2.length:Int)))=true then
  gd (0≤g2∧g2 < (v2.length:Int)) <|
  (zi4 a0.procs (v2.getD g2.toNat Proc.zero)).bind fun v4 =>
  (if (decide (v4 < 0))=true then
   some (.inr (.inr false))
  else
   some (.inl (i64.wrap (g2+1))))
 else
  some (.inr (.inl ())))
def zO9 (a0:Central):Option Bool :=
 ((if (!(decide (a0.now < 0)||decide (1073741824 < a0.now)))=true then zF8 a0.queues else some false)).bind fun v1 =>
 (if (((decide (a0.now < 0)||decide (1073741824 < a0.now))||(!v1))||decide (8 < (a0.procs.length:Int)))=true then
  some false
 else
  (zv3 a0.queues).bind fun v2 =>
  (zc0 (zU4 a0 v2) 0).bind (fun|.inl z=>zae1 a0 z|.inr z=>some z))
@[reducible,instance] def zdW5 a0 j1:=mkJ (zae1 a0 j1) 2 (@zaS5.eq_1) fun (j2:Unit)=>⟨[],[],0⟩
@[reducible,instance] def zdW6 (a0:Central) {T:Type} (x:T):=mkL x (@zU3.eq_1 a0) fun (g1:Int)=>⟨[(1,.ptr 0 0 0),(5,.int .i64 g1)],[(0,bx a0)],1⟩
@[reducible,instance] def zdW7 (a0:Central) {T1:Type} (v1:T1) {T2:Type} (v2:T2):=mkJ ((zO9 a0,v1),v2) 0 (@zae1.eq_1 a0) fun (j1:Unit)=>⟨[(1,.ptr 0 0 0)],[(0,bx a0)],1⟩
@[reducible,instance] def zdW8 (a0:Central) (v2:(List Proc)) {T:Type} (x:T):=mkL x (@zU4.eq_1 a0 v2) fun (g2:Int)=>⟨[(1,.ptr 0 0 0),(3,la v2),(4,.int .i64 g2)],[(0,bx a0)],1⟩
instance zbe1 (a0:Central):OkP (zO9 a0) 71 [ga a0] (fun r=>.bool r):=ok1 (zO9.eq_1 a0) Tryz.f71 []
attribute [local irreducible] zO9
def zaJ8 (j1:Queue×(List Hold)):Option (Queue×(List Hold)) :=
 some (j1.1,j1.2)
def zV4 (g1:Queue×(List Hold)) (v4:Wait×Bool) (j2:Queue):Option ((Queue×(List Hold))⊕(Queue×(List Hold))) :=
 (zr5 j2.holds v4.1.proc v4.1.amount).bind fun v5 =>
 gd (g1.2.length+1≤4294967296) <|
 some (.inl ({ j2 with holds:=v5 },(g1.2++[(⟨v4.1.proc,v4.1.amount⟩:Hold)])))
def zN9 (g1:Queue×(List Hold)):Option ((Queue×(List Hold))⊕(Queue×(List Hold))) :=
 (zD1 g1.1).bind fun v3 =>
 (if (!v3)=true then
  (zl9 g1.1).bind fun v4 =>
  (if (decide (0 < (g1.1.converts.length:Int)))=true then
   gd (0≤1∧1≤(g1.1.converts.length:Int)∧(g1.1.converts.length:Int)≤(g1.1.converts.length:Int)) <|
   zV4 g1 v4 ({ g1.1 with converts:=(g1.1.converts.drop 1) })
  else
   gd (0≤1∧1≤(g1.1.waits.length:Int)∧(g1.1.waits.length:Int)≤(g1.1.waits.length:Int)) <|
   zV4 g1 v4 ({ g1.1 with waits:=(g1.1.waits.drop 1) }))
 else
  some (.inr (g1.1,g1.2)))
def zL2 (a0:Queue):Option (Queue×(List Hold)) :=
 (zB2 a0).bind fun v1 =>
 (if (!v1)=true then
  some ({ Queue.zero with  },[])
 else
  (zk6 a0).bind fun v2 =>
  (zc0 zN9 (v2,[])).bind (fun z=>zaJ8 z))
@[reducible,instance] def zdW9 a0 {T1:Type} (v1:T1) {T2:Type} (v2:T2):=mkJ ((zL2 a0,v1),v2) 0 (@zaJ8.eq_1) fun (j1:Queue×(List Hold))=>⟨[(1,.ptr 0 0 0),(2,.ptr 1 0 0),(4,.own 2 0 j1.2.length)],[(0,bx j1.1),(1,bx Queue.zero),(2,sx j1.2)],3⟩
@[reducible,instance] def zdX0 (g1:Queue×(List Hold)) {T1:Type} (v3:T1) (v4:Wait×Bool):=mkJ ((zN9 g1,v3),v4) 999 (@zV4.eq_1 g1 v4) fun (j2:Queue)=>⟨[(1,.ptr 0 0 0),(2,.ptr 1 0 0),(4,.own 2 0 g1.2.length),(5,.ptr 3 0 0)],[(0,bx j2),(1,bx Queue.zero),(2,sx g1.2),(3,bx v4.1)],4⟩
@[reducible,instance] def zdX1 {T:Type} (x:T):=mkL x (@zN9.eq_1) fun (g1:Queue×(List Hold))=>⟨[(1,.ptr 0 0 0),(2,.ptr 1 0 0),(4,.own 2 0 g1.2.length)],[(0,bx g1.1),(1,bx Queue.zero),(2,sx g1.2)],3⟩
instance zcM2 (a0:Queue):OkP (zL2 a0) 282 [ga a0] (fun r=>.tup [ga r.1,la r.2]):=ok1 (zL2.eq_1 a0) Tryz.f282 [(4,1)]
attribute [local irreducible] zL2
def zA9 (a0:Queue):Option (Queue×(List Hold)×Int) :=
 (zL2 a0).bind fun v1 =>
 some ({ v1.1 with gen:=(zn8 a0.gen) },v1.2,0)
instance zaS6 (a0:Queue):OkP (zA9 a0) 278 [ga a0] (fun r=>.tup [ga r.1,la r.2.1,.int .i64 r.2.2]):=ok1 (zA9.eq_1 a0) Tryz.f278 []
attribute [local irreducible] zA9
def zV5 (a0:Queue) (a1:Proc):Option (Queue×(List Hold)×Int) :=
 (zF7 a0).bind fun v1 =>
 (if (!v1)=true then
  some ({ Queue.zero with  },[],2)
 else
  (zh4 a0 a1).bind fun v2 =>
  (if (!v2.2)=true then
   some ({ Queue.zero with  },[],10)
  else
   (zk6 a0).bind fun v3 =>
   (zg8 v3.converts a1).bind fun v4 =>
   (zg8 (({ v3 with converts:=v4.1 }).waits) a1).bind fun v5 =>
   (zA9 ({ { v3 with converts:=v4.1 } with waits:=v5.1 })).bind fun v6 =>
   some (v6.1,v6.2.1,v6.2.2)))
instance zcR6 (a0:Queue) (a1:Proc):OkP (zV5 a0 a1) 280 [ga a0,ga a1] (fun r=>.tup [ga r.1,la r.2.1,.int .i64 r.2.2]):=ok1 (zV5.eq_1 a0 a1) Tryz.f280 []
attribute [local irreducible] zV5
def zV6 (a0:List Queue) (a1:Proc) (a2:ByteArray):Option ((List Queue)×(List Event)×Int) :=
 (zF8 a0).bind fun v1 =>
 (if (!v1)=true then
  some ([],[],2)
 else
  (zh5 a0 a2).bind fun v2 =>
  (if (decide (v2 < 0))=true then
   some ([],[],10)
  else
   gd (0≤v2∧v2 < (a0.length:Int)) <|
   (zV5 (a0.getD v2.toNat Queue.zero) a1).bind fun v3 =>
   (if (!decide (v3.2.2=0))=true then
    some ([],[],v3.2.2)
   else
    (zf3 a0 v2 v3.1).bind fun v4 =>
    (zf8 a2 v3.2.1).bind fun v5 =>
    some (v4,v5,0))))
instance zcR7 (a0:List Queue) (a1:Proc) (a2:ByteArray):OkP (zV6 a0 a1 a2) 271 [la a0,ga a1,.str a2] (fun r=>.tup [la r.1,la r.2.1,.int .i64 r.2.2]):=ok1 (zV6.eq_1 a0 a1 a2) Tryz.f271 []
attribute [local irreducible] zV6
def zaa5 (a0:Queue) (a1:Proc) (a2:Amount):Option (Queue×(List Hold)×Int) :=
 (zF7 a0).bind fun v1 =>
 (if (!v1)=true then
  some ({ Queue.zero with  },[],2)
 else
  (zi2 a0 a1).bind fun v2 =>
  (if (zm0 v2)=true then
   some ({ Queue.zero with  },[],10)
  else
   (zh4 a0 a1).bind fun v3 =>
   (if v3.2=true then
    some ({ Queue.zero with  },[],14)
   else
    (if (!(zs9 a0.resource v2 a2))=true then
     some ({ Queue.zero with  },[],12)
    else
     (zk6 a0).bind fun v4 =>
     (if (decide (v2=a2))=true then
      some (v4,[],0)
     else
      (zr5 v4.holds a1 a2).bind fun v5 =>
      (zA9 ({ v4 with holds:=v5 })).bind fun v6 =>
      some (v6.1,v6.2.1,v6.2.2))))))
instance zbM8 (a0:Queue) (a1:Proc) (a2:Amount):OkP (zaa5 a0 a1 a2) 272 [ga a0,ga a1,ga a2] (fun r=>.tup [ga r.1,la r.2.1,.int .i64 r.2.2]):=ok1 (zaa5.eq_1 a0 a1 a2) Tryz.f272 []
attribute [local irreducible] zaa5
def zU5 (a0:List Queue) (a2:Atom) (v2:Int) (v4:Queue×(List Hold)×Int) (j1:(List Event)):Option ((List Queue)×(List Event)×Int) :=
 (zf3 a0 v2 v4.1).bind fun v5 =>
 (zf8 a2.name v4.2.1).bind fun v6 =>
 gd (j1.length+v6.length≤4294967296) <|
 some (v5,(j1++v6),0)
@[go_sem] def zdt4 (a0:List Queue) (a2:Atom) (v2:Int) (v4:Queue×(List Hold)×Int) (j1:(List Event)):St:=⟨[(0,la a0),(5,.ptr 0 0 0),(9,.int .i64 v2),(11,.ptr 1 0 0),(12,la v4.2.1),(14,.own 2 0 j1.length)],[(0,bx a2),(1,bx v4.1),(2,sx j1)],3⟩
def zI5 (a0:List Queue) (a1:Proc) (a2:Atom):Option ((List Queue)×(List Event)×Int) :=
 (zF8 a0).bind fun v1 =>
 (if (!v1)=true then
  some ([],[],2)
 else
  (zh5 a0 a2.name).bind fun v2 =>
  (if (decide (v2 < 0))=true then
   some ([],[],10)
  else
   gd (0≤v2∧v2 < (a0.length:Int)) <|
   (zi2 (a0.getD v2.toNat Queue.zero) a1).bind fun v3 =>
   gd (0≤v2∧v2 < (a0.length:Int)) <|
   (zaa5 (a0.getD v2.toNat Queue.zero) a1 a2.amount).bind fun v4 =>
   (if (!decide (v4.2.2=0))=true then
    some ([],[],v4.2.2)
   else
    (if (!decide (v3=a2.amount))=true then
     gd (1≤4294967296) <|
     zU5 a0 a2 v2 v4 [(⟨3,a1,a2.name,a2.amount⟩:Event)]
    else
     zU5 a0 a2 v2 v4 []))))
theorem zbe2 (a0:List Queue) (a1:Proc) (a2:Atom) (r:(List Queue)×(List Event)×Int) (h:zI5 a0 a1 a2=some r):PFn C 253 [la a0,ga a1,ga a2] (.tup [la r.1,la r.2.1,.int .i64 r.2.2]):=by
 refine zag9 Tryz.f253 [(14,1)] fun E hG hN hK=>?_
 unfold zI5 at h
 refine za2 (za9 hG ?_)
 refine za2 (za2 (za9 hG ?_))
 obtain ⟨v1,hv1,h⟩:=zf1 h
 refine zu6 (fun hg=>(zbM7 a0).ok _ hv1) ?_
 refine zo2 rfl hG h (fun _ h=>?_) (fun _ h=>?_)
 · refine za2 (za9 hG ?_)
   refine zw3 ?_
   exact zW9 h
 refine zn4 ?_
 refine za2 (za9 hG ?_)
 obtain ⟨v2,hv2,h⟩:=zf1 h
 refine zu6 (fun hg=>(zbk6 a0 a2.name).ok _ hv2) ?_
 refine za2 (za2 (za9 hG ?_))
 refine zo2 rfl hG h (fun _ h=>?_) (fun _ h=>?_)
 · refine za2 (za9 hG ?_)
   refine zw3 ?_
   exact zW9 h
 refine zn4 ?_
 refine za2 ?_
 obtain ⟨hb4,h⟩:=zg5 h
 refine zaF0 zL7 hG ?_
 obtain ⟨v3,hv3,h⟩:=zf1 h
 refine zal5 (fun hg=>(zaP5 (a0.getD v2.toNat Queue.zero) a1).ok _ hv3) ?_
 refine za2 ?_
 obtain ⟨hb3,h⟩:=zg5 h
 refine zaF0 zL7 hG ?_
 obtain ⟨v4,hv4,h⟩:=zf1 h
 refine zal5 (fun hg=>(zbM8 (a0.getD v2.toNat Queue.zero) a1 a2.amount).ok _ hv4) ?_
 refine za2 (za2 (za9 hG ?_))
 refine zo2 rfl hG h (fun _ h=>?_) (fun _ h=>?_)
 · refine za2 (za9 hG ?_)
   refine zw3 ?_
   exact zW9 h
 refine zn4 ?_
 refine za2 (za9 hG ?_)
 refine za2 (za2 (za9 hG ?_))
 refine zbh2 (zdt4 a0 a2 v2 v4) (fun v=>zU5 a0 a2 v2 v4 v=some r) rfl hG h ?_ (fun _ h=>?_) (fun _ h=>?_)
 · intro j1 h
   unfold zU5 at h
   refine g_st ?_
   refine za2 (zaF0 zL7 hG ?_)
   obtain ⟨v5,hv5,h⟩:=zf1 h
   refine zal5 (fun hg=>(zbw1 a0 v2 v4.1).ok _ hv5) ?_
   obtain ⟨v6,hv6,h⟩:=zf1 h
   obtain ⟨hb1,h⟩:=zg5 h
   refine zal5 (fun hg=>(zbE2 a2.name v4.2.1).ok _ hv6) ?_
   refine zw3 ?_
   exact zW9 h
 · obtain ⟨hb2,h⟩:=zg5 h
   refine za9 hG ?_
   exact zI1 hK [(0,1),(1,3),(2,5)] [(⟨3,a1,a2.name,a2.amount⟩:Event)] (by exact h)
 refine zn4 ?_
 exact zI1 hK [(0,1),(1,3),(2,4)] [] (by exact h)
instance zcR8 (a0:List Queue) (a1:Proc) (a2:Atom):OkP (zI5 a0 a1 a2) 253 [la a0,ga a1,ga a2] (fun r=>.tup [la r.1,la r.2.1,.int .i64 r.2.2]):=⟨zbe2 a0 a1 a2⟩
attribute [local irreducible] zI5
def zai7 (a0:work) (j1:Unit):Option (Int×Int×(List Queue)×(List Proce)×(List Event)) :=
 some ((-1),a0.c.now,a0.c.queues,a0.c.procs,a0.ev)
def zH8 (a0:work) (g1:Int):Option (Int⊕(Unit⊕(Int×Int×(List Queue)×(List Proce)×(List Event)))) :=
 (if (decide (g1 < ((a0.c.procs.length:Nat):Int)))=true then
  gd (0≤g1∧g1 < ((a0.c.procs.length:Nat):Int)) <|
  ((if ((a0.c.procs.getD g1.toNat Proce.zero).waiting)=true then zD2 a0.c.queues ((a0.c.procs.getD g1.toNat Proce.zero).proc) (((a0.c.procs.getD g1.toNat Proce.zero).request).expr) else some [])).bind fun v1 =>
  ((if ((a0.c.procs.getD g1.toNat Proce.zero).waiting)=true then zO7 (((a0.c.procs.getD g1.toNat Proce.zero).request).expr) v1 else some false)).bind fun v2 =>
  (if ((a0.c.procs.getD g1.toNat Proce.zero).waiting&&v2)=true then
   some (.inr (.inr (g1,a0.c.now,a0.c.queues,a0.c.procs,a0.ev)))
  else
   some (.inl (i64.wrap (g1+1))))
 else
  some (.inr (.inl ())))
def zr4 (a0:work):Option (Int×Int×(List Queue)×(List Proce)×(List Event)) :=
 (zc0 (zH8 a0) 0).bind (fun|.inl z=>zai7 a0 z|.inr z=>some z)
@[reducible,instance] def zdX2 (a0:work):=mkJ (zr4 a0) 0 (@zai7.eq_1 a0) fun (j1:Unit)=>⟨[],[(0,⟨false,4,work.enc work.zero,[[.int .i64 a0.c.now,la a0.c.queues,.own 1 0 a0.c.procs.length,.own 2 0 a0.ev.length]]⟩),(1,sx a0.c.procs),(2,sx a0.ev)],3⟩
@[reducible,instance] def zdX3 (a0:work) {T:Type} (x:T):=mkL x (@zH8.eq_1 a0) fun (g1:Int)=>⟨[(0,.ptr 0 0 0),(3,.int .i64 g1)],[(0,⟨false,4,work.enc work.zero,[[.int .i64 a0.c.now,la a0.c.queues,.own 1 0 a0.c.procs.length,.own 2 0 a0.ev.length]]⟩),(1,sx a0.c.procs),(2,sx a0.ev)],3⟩
instance zbM9 (a0:work):OkM (zr4 a0) 250 [.ptr 0 0 0] [(0,⟨false,4,work.enc work.zero,[[.int .i64 a0.c.now,la a0.c.queues,.own 1 0 a0.c.procs.length,.own 2 0 a0.ev.length]]⟩),(1,sx a0.c.procs),(2,sx a0.ev)] 3 (fun r=>.int .i64 r.1) (fun r=>[(0,⟨false,4,work.enc work.zero,[[.int .i64 r.2.1,la r.2.2.1,.own 1 0 r.2.2.2.1.length,.own 2 0 r.2.2.2.2.length]]⟩),(1,sx r.2.2.2.1),(2,sx r.2.2.2.2)]) 3:=okm (zr4.eq_1 a0) (fun r=>[.int .i64 r.1]) Tryz.f250 []
attribute [local irreducible] zr4
def zI6 (a0:Queue) (a1:Proc) (a2:Amount) (a3:Int):Option (Queue×(List Hold)×Int) :=
 (zF7 a0).bind fun v1 =>
 (if (!v1)=true then
  some ({ Queue.zero with  },[],2)
 else
  (if (((!(zm6 a1))||decide (a3 < 0))||decide (7 < a3))=true then
   some ({ Queue.zero with  },[],1)
  else
   (if (!(zt6 a0.resource a2))=true then
    some ({ Queue.zero with  },[],12)
   else
    (zh4 a0 a1).bind fun v2 =>
    (if v2.2=true then
     some ({ Queue.zero with  },[],14)
    else
     (zi7 a0).bind fun v3 =>
     (zi2 v3 a1).bind fun v4 =>
     (if (zs9 v3.resource v4 a2)=true then
      some (v3,[],0)
     else
      (if (!(zm0 v4))=true then
       (zA2 v3.resource v4 a2).bind fun v5 =>
       gd (v3.converts.length+1≤4294967296) <|
       (zA9 (⟨(⟨v3.resource.name,v3.resource.kind,v3.resource.units,v3.resource.home⟩:Resource),v3.holds,(v3.converts++[{ Wait.zero with proc:=a1,amount:=v5 }]),v3.waits,v3.gen⟩:Queue)).bind fun v6 =>
       some (v6.1,v6.2.1,v6.2.2)
      else
       (if (decide (8≤i64.wrap ((v3.holds.length:Int)+(v3.waits.length:Int))))=true then
        some ({ Queue.zero with  },[],4)
       else
        (zt0 v3.waits ({ Wait.zero with proc:=a1,amount:=a2,priority:=a3 })).bind fun v7 =>
        (if (!decide (v7.2.2=0))=true then
         some ({ Queue.zero with  },[],v7.2.2)
        else
         (zA9 (⟨(⟨v3.resource.name,v3.resource.kind,v3.resource.units,v3.resource.home⟩:Resource),v3.holds,v3.converts,v7.1,v3.gen⟩:Queue)).bind fun v8 =>
         some (v8.1,v8.2.1,v8.2.2)))))))))
instance zcZ9 (a0:Queue) (a1:Proc) (a2:Amount) (a3:Int):OkP (zI6 a0 a1 a2 a3) 268 [ga a0,ga a1,ga a2,.int .i64 a3] (fun r=>.tup [ga r.1,la r.2.1,.int .i64 r.2.2]):=⟨fun r h=>by
 refine zag9 Tryz.f268 [(48,1)] fun E hG hN hK=>?_
 have hm:Mk (zI6 a0 a1 a2 a3):=trivial
 unfold zI6 at h
 refine za2 (za9 hG ?_)
 refine za2 (za2 (za9 hG ?_))
 obtain ⟨v1,hv1,h⟩:=zf1 h
 have hm:=mkP hm v1
 refine zu6 (fun hg=>(zbM6 a0).ok _ hv1) ?_
 refine zo2 rfl hG h (fun _ h=>?_) (fun _ h=>?_)
 · exact gogo
 refine zn4 ?_
 refine za2 (za2 (za9 hG ?_))
 refine zu6 (fun hg=>(zbn1 a1).ok) ?_
 refine zo2 rfl hG h (fun _ h=>?_) (fun _ h=>?_)
 · exact gogo
 refine zn4 ?_
 refine za2 (za2 (za9 hG ?_))
 refine zu6 (fun hg=>(zbU9 a0.resource a2).ok) ?_
 refine zo2 rfl hG h (fun _ h=>?_) (fun _ h=>?_)
 · exact gogo
 refine zn4 ?_
 refine za2 (za2 (za9 hG ?_))
 obtain ⟨v2,hv2,h⟩:=zf1 h
 have hm:=mkP hm v2
 refine zu6 (fun hg=>(zbE5 a0 a1).ok _ hv2) ?_
 refine za2 (za9 hG ?_)
 refine zo2 rfl hG h (fun _ h=>?_) (fun _ h=>?_)
 · exact gogo
 refine zn4 ?_
 refine za2 (za9 hG ?_)
 obtain ⟨v3,hv3,h⟩:=zf1 h
 have hm:=mkP hm v3
 refine zu2 [] [(0,5),(1,6),(2,7)] [0,1,2] (zbw5 _ _ hv3) rfl rfl ?_
 refine g_gh (.fz [5,7]) ?_
 refine za2 (za9 hG ?_)
 obtain ⟨v4,hv4,h⟩:=zf1 h
 have hm:=mkP hm v4
 refine zu6 (fun hg=>(zaP5 v3 a1).ok _ hv4) ?_
 refine za2 (za2 (za9 hG ?_))
 refine zu6 (fun hg=>(zbE6 v3.resource v4 a2).ok) ?_
 refine zo2 rfl hG h (fun _ h=>?_) (fun _ h=>?_)
 · exact gogo
 refine zn4 ?_
 refine za2 (za2 (za9 hG ?_))
 refine zu6 (fun hg=>(zbU7 v4).ok) ?_
 refine zo2 rfl hG h (fun _ h=>?_) (fun _ h=>?_)
 · refine za2 (zaF0 zL7 hG ?_)
   obtain ⟨v5,hv5,h⟩:=zf1 h
   have hm:=mkP hm v5
   obtain ⟨hb1,h⟩:=zg5 h
   refine zal5 (fun hg=>(zbV1 v3.resource v4 a2).ok _ hv5) ?_
   refine za2 (za9 hG ?_)
   obtain ⟨v6,hv6,h⟩:=zf1 h
   have hm:=mkP hm v6
   have hc_v6:=(zaS6 (⟨(⟨v3.resource.name,v3.resource.kind,v3.resource.units,v3.resource.home⟩:Resource),v3.holds,(v3.converts++[{ Wait.zero with proc:=a1,amount:=v5 }]),v3.waits,v3.gen⟩:Queue)).ok _ hv6
   have el_v6:∀ x:Queue,Queue.enc x=[A.str x.resource.name,A.int .i64 x.resource.kind,A.int .i64 x.resource.units,A.int .i64 x.resource.home,A.sl (x.holds.map Hold.enc),A.sl (x.converts.map Wait.enc),A.sl (x.waits.map Wait.enc),A.int .i64 x.gen]:=fun x=>rfl
   try dsimp only [ga,la,En.e] at hc_v6
   rw [el_v6] at hc_v6
   dsimp only at hc_v6
   refine zu6 (fun hg=>by exact hc_v6) ?_
   exact gogo
 refine zn4 ?_
 refine za2 (za2 (za9 hG ?_))
 refine zo2 rfl hG h (fun _ h=>?_) (fun _ h=>?_)
 · exact gogo
 refine zn4 ?_
 refine za2 (za9 hG ?_)
 obtain ⟨v7,hv7,h⟩:=zf1 h
 have hm:=mkP hm v7
 refine zu6 (fun hg=>(zbE8 v3.waits ({ Wait.zero with proc:=a1,amount:=a2,priority:=a3 })).ok _ hv7) ?_
 refine za2 (za2 (za9 hG ?_))
 refine zo2 rfl hG h (fun _ h=>?_) (fun _ h=>?_)
 · exact gogo
 refine zn4 ?_
 refine za2 (za9 hG ?_)
 refine za2 (za9 hG ?_)
 obtain ⟨v8,hv8,h⟩:=zf1 h
 have hm:=mkP hm v8
 have hc_v8:=(zaS6 (⟨(⟨v3.resource.name,v3.resource.kind,v3.resource.units,v3.resource.home⟩:Resource),v3.holds,v3.converts,v7.1,v3.gen⟩:Queue)).ok _ hv8
 have el_v8:∀ x:Queue,Queue.enc x=[A.str x.resource.name,A.int .i64 x.resource.kind,A.int .i64 x.resource.units,A.int .i64 x.resource.home,A.sl (x.holds.map Hold.enc),A.sl (x.converts.map Wait.enc),A.sl (x.waits.map Wait.enc),A.int .i64 x.gen]:=fun x=>rfl
 try dsimp only [ga,la,En.e] at hc_v8
 rw [el_v8] at hc_v8
 dsimp only at hc_v8
 refine zu6 (fun hg=>by exact hc_v8) ?_
 exact gogo⟩
attribute [local irreducible] zI6
def zaa6 (a0:List Queue) (a1:Proc) (a2:Atom) (a3:Int):Option ((List Queue)×(List Event)×Int) :=
 (zF8 a0).bind fun v1 =>
 (if (!v1)=true then
  some ([],[],2)
 else
  (zh5 a0 a2.name).bind fun v2 =>
  (if (decide (v2 < 0))=true then
   some ([],[],10)
  else
   (zv3 a0).bind fun v3 =>
   ((if (decide ((v3.length:Int)=8))=true then zf7 v3 a1 else some false)).bind fun v4 =>
   (if (decide ((v3.length:Int)=8)&&(!v4))=true then
    some ([],[],4)
   else
    gd (0≤v2∧v2 < (a0.length:Int)) <|
    (zI6 (a0.getD v2.toNat Queue.zero) a1 a2.amount a3).bind fun v5 =>
    (if (!decide (v5.2.2=0))=true then
     some ([],[],v5.2.2)
    else
     (zf3 a0 v2 v5.1).bind fun v6 =>
     (zf8 a2.name v5.2.1).bind fun v7 =>
     some (v6,v7,0)))))
instance zda0 (a0:List Queue) (a1:Proc) (a2:Atom) (a3:Int):OkP (zaa6 a0 a1 a2 a3) 245 [la a0,ga a1,ga a2,.int .i64 a3] (fun r=>.tup [la r.1,la r.2.1,.int .i64 r.2.2]):=ok1 (zaa6.eq_1 a0 a1 a2 a3) Tryz.f245 []
attribute [local irreducible] zaa6
def zV7 (a0:Queue) (a1:Proc):Option (Queue×(List Hold)×Int) :=
 (zF7 a0).bind fun v1 =>
 (if (!v1)=true then
  some ({ Queue.zero with  },[],2)
 else
  (zs7 a0 a1).bind fun v2 =>
  (if (!v2)=true then
   some ({ Queue.zero with  },[],10)
  else
   (zk6 a0).bind fun v3 =>
   (zr5 v3.holds a1 ({ Amount.zero with  })).bind fun v4 =>
   (zg8 (({ v3 with holds:=v4 }).converts) a1).bind fun v5 =>
   (zg8 (({ { v3 with holds:=v4 } with converts:=v5.1 }).waits) a1).bind fun v6 =>
   (zA9 ({ { { v3 with holds:=v4 } with converts:=v5.1 } with waits:=v6.1 })).bind fun v7 =>
   some (v7.1,v7.2.1,v7.2.2)))
instance zcR9 (a0:Queue) (a1:Proc):OkP (zV7 a0 a1) 274 [ga a0,ga a1] (fun r=>.tup [ga r.1,la r.2.1,.int .i64 r.2.2]):=ok1 (zV7.eq_1 a0 a1) Tryz.f274 []
attribute [local irreducible] zV7
def zaN9 (j1:(List Queue)×(List Event)):Option ((List Queue)×(List Event)) :=
 some (j1.1,j1.2)
def zZ7 (a1:Proc) (g1:Int×(List Queue)×(List Event)) (j2:(List Event)):Option ((Int×(List Queue)×(List Event))⊕((List Queue)×(List Event))) :=
 gd (0≤g1.1∧g1.1 < ((g1.2.1.length:Nat):Int)) <|
 (zV7 (g1.2.1.getD g1.1.toNat Queue.zero) a1).bind fun v4 =>
 gd (0≤g1.1∧g1.1 < ((g1.2.1.length:Nat):Int)) <|
 (zf8 v4.1.resource.name v4.2.1).bind fun v5 =>
 gd (j2.length+v5.length≤4294967296) <|
 some (.inl ((i64.wrap (g1.1+1)),g1.2.1.set g1.1.toNat v4.1,(j2++v5)))
def zZ8 (a1:Proc) (g1:Int×(List Queue)×(List Event)):Option ((Int×(List Queue)×(List Event))⊕((List Queue)×(List Event))) :=
 (if (decide (g1.1 < ((g1.2.1.length:Nat):Int)))=true then
  gd (0≤g1.1∧g1.1 < ((g1.2.1.length:Nat):Int)) <|
  (zs7 (g1.2.1.getD g1.1.toNat Queue.zero) a1).bind fun v2 =>
  (if (!v2)=true then
   some (.inl ((i64.wrap (g1.1+1)),g1.2.1,g1.2.2))
  else
   gd (0≤g1.1∧g1.1 < ((g1.2.1.length:Nat):Int)) <|
   (zi2 (g1.2.1.getD g1.1.toNat Queue.zero) a1).bind fun v3 =>
   (if (!(zm0 v3))=true then
    gd (0≤g1.1∧g1.1 < ((g1.2.1.length:Nat):Int)) <|
    gd (g1.2.2.length+1≤4294967296) <|
    zZ7 a1 g1 (g1.2.2++[{ Event.zero with kind:=3,proc:=a1,name:=((g1.2.1.getD g1.1.toNat Queue.zero).resource).name }])
   else
    zZ7 a1 g1 g1.2.2))
 else
  some (.inr (g1.2.1,g1.2.2)))
def zQ0 (a0:List Queue) (a1:Proc):Option ((List Queue)×(List Event)) :=
 (zF8 a0).bind fun v1 =>
 (if (!v1)=true then
  some ([],[])
 else
  gd (a0.length≤4294967296) <|
  (zc0 (zZ8 a1) (0,a0,[])).bind (fun z=>zaN9 z))
@[reducible,instance] def zdX4 a0 a1 {T1:Type} (v1:T1):=mkJ (zQ0 a0 a1,v1) 0 (@zaN9.eq_1) fun (j1:(List Queue)×(List Event))=>⟨[(6,.own 0 0 j1.1.length),(7,.own 1 0 j1.2.length)],[(0,sx j1.1),(1,sx j1.2)],2⟩
@[reducible,instance] def zdX5 (a1:Proc) (g1:Int×(List Queue)×(List Event)) {T1:Type} (v2:T1) {T2:Type} (v3:T2):=mkJ ((zZ8 a1 g1,v2),v3) 999 (@zZ7.eq_1 a1 g1) fun (j2:(List Event))=>⟨[(3,.ptr 0 0 0),(6,.own 1 0 g1.2.1.length),(7,.own 2 0 j2.length),(8,.int .i64 g1.1)],[(0,bx a1),(1,sx g1.2.1),(2,sx j2)],3⟩
@[reducible,instance] def zdX6 (a1:Proc) {T:Type} (x:T):=mkL x (@zZ8.eq_1 a1) fun (g1:Int×(List Queue)×(List Event))=>⟨[(3,.ptr 0 0 0),(6,.own 1 0 g1.2.1.length),(7,.own 2 0 g1.2.2.length),(8,.int .i64 g1.1)],[(0,bx a1),(1,sx g1.2.1),(2,sx g1.2.2)],3⟩
instance zcS0 (a0:List Queue) (a1:Proc):OkP (zQ0 a0 a1) 256 [la a0,ga a1] (fun r=>.tup [la r.1,la r.2]):=ok1 (zQ0.eq_1 a0 a1) Tryz.f256 [(15,1),(7,1)]
attribute [local irreducible] zQ0
def zaz4 (a0:WaitState) (j1:Unit):Option Bool :=
 (zD0 a0).bind fun v2 =>
 some (decide ((v2.length:Int)≤8))
def zH6 (a0:WaitState) (g1:Int):Option (Int⊕(Unit⊕Bool)) :=
 (if (decide (g1 < (a0.needs.length:Int)))=true then
  gd (0≤g1∧g1 < (a0.needs.length:Int)) <|
  ((if (zm6 ((a0.needs.getD g1.toNat Need.zero).proc))=true then zx3 ((a0.needs.getD g1.toNat Need.zero).expr) else some false)).bind fun v3 =>
  gd (((!((((!(zm6 ((a0.needs.getD g1.toNat Need.zero).proc)))||(!v3))||decide ((a0.needs.getD g1.toNat Need.zero).gen < 0))||decide (1073741824 < (a0.needs.getD g1.toNat Need.zero).gen)))&&decide (0 < g1))=true→0≤i64.wrap (g1 - 1)∧i64.wrap (g1 - 1) < (a0.needs.length:Int)) <|
  (if (((((!(zm6 ((a0.needs.getD g1.toNat Need.zero).proc)))||(!v3))||decide ((a0.needs.getD g1.toNat Need.zero).gen < 0))||decide (1073741824 < (a0.needs.getD g1.toNat Need.zero).gen))||(decide (0 < g1)&&decide (0≤zt4 ((a0.needs.getD ((i64.wrap (g1 - 1)).toNat) Need.zero).proc) ((a0.needs.getD g1.toNat Need.zero).proc))))=true then
   some (.inr (.inr false))
  else
   some (.inl (i64.wrap (g1+1))))
 else
  some (.inr (.inl ())))
def zT4 (a0:WaitState):Option Bool :=
 (zO8 a0.queues).bind fun v1 =>
 (if ((!v1)||decide (8 < (a0.needs.length:Int)))=true then
  some false
 else
  (zc0 (zH6 a0) 0).bind (fun|.inl z=>zaz4 a0 z|.inr z=>some z))
@[reducible,instance] def zdX7 (a0:WaitState) {T1:Type} (v1:T1):=mkJ (zT4 a0,v1) 0 (@zaz4.eq_1 a0) fun (j1:Unit)=>⟨[(1,.ptr 0 0 0)],[(0,bx a0)],1⟩
@[reducible,instance] def zdX8 (a0:WaitState) {T:Type} (x:T):=mkL x (@zH6.eq_1 a0) fun (g1:Int)=>⟨[(1,.ptr 0 0 0),(3,.int .i64 g1)],[(0,bx a0)],1⟩
instance zda1 (a0:WaitState):OkP (zT4 a0) 49 [ga a0] (fun r=>.bool r):=ok1 (zT4.eq_1 a0) Tryz.f49 []
attribute [local irreducible] zT4
def zaJ9 (j1:(List Bool)):Option (List Bool) :=
 some j1
def zV8 (a0:WaitState) (a1:Proc) (v3:(List Atom)) (g1:Int×(List Bool)):Option ((Int×(List Bool))⊕(List Bool)) :=
 (if (decide (g1.1 < (v3.length:Int)))=true then
  gd (0≤g1.1∧g1.1 < (v3.length:Int)) <|
  (zp4 a0 a1 ((v3.getD g1.1.toNat Atom.zero).name)).bind fun v4 =>
  gd (0≤g1.1∧g1.1 < ((g1.2.length:Nat):Int)) <|
  some (.inl ((i64.wrap (g1.1+1)),g1.2.set g1.1.toNat (!v4)))
 else
  some (.inr g1.2))
def zL3 (a0:WaitState) (a1:Proc):Option (List Bool) :=
 (zl4 a0 a1).bind fun v1 =>
 ((if v1.2=true then zT4 a0 else some false)).bind fun v2 =>
 (if ((!v1.2)||(!v2))=true then
  some []
 else
  (zw2 v1.1.expr).bind fun v3 =>
  gd (0≤(v3.length:Int)∧(v3.length:Int)≤(v3.length:Int)∧(v3.length:Int)≤4294967296) <|
  (zc0 (zV8 a0 a1 v3) (0,List.replicate ((v3.length:Int).toNat) false)).bind (fun z=>zaJ9 z))
@[reducible,instance] def zdX9 a0 a1 {T1:Type} (v1:T1) {T2:Type} (v2:T2) {T3:Type} (v3:T3):=mkJ (((zL3 a0 a1,v1),v2),v3) 0 (@zaJ9.eq_1) fun (j1:(List Bool))=>⟨[(8,.own 0 0 j1.length)],[(0,⟨false,1,[A.bool false],j1.map eB⟩)],1⟩
@[reducible,instance] def zdY0 (a0:WaitState) (a1:Proc) (v3:(List Atom)) {T:Type} (x:T):=mkL x (@zV8.eq_1 a0 a1 v3) fun (g1:Int×(List Bool))=>⟨[(2,.ptr 0 0 0),(3,.ptr 1 0 0),(7,la v3),(8,.own 2 0 g1.2.length),(9,.int .i64 g1.1)],[(0,bx a0),(1,bx a1),(2,⟨false,1,[A.bool false],g1.2.map eB⟩)],3⟩
instance zcM3 (a0:WaitState) (a1:Proc):OkP (zL3 a0 a1) 15 [ga a0,ga a1] (fun r=>.sl (r.map eB)):=ok1 (zL3.eq_1 a0 a1) Tryz.f15 []
attribute [local irreducible] zL3
end
end Ab
end Go.Proofs.YtcggeefhhegeoaaGreatDoor
