import Derived.Test.YtcggeefhhegeoaaGreatDoorHm17
import Derived.Test.YtcggeefhhegeoaaGreatDoorHm19
import Derived.Test.YtcggeefhhegeoaaGreatDoorHm23
import Derived.Test.YtcggeefhhegeoaaGreatDoorHm25
namespace Go.Proofs.YtcggeefhhegeoaaGreatDoor
namespace Ab
open IntKind (i64 u64 u8)
set_option linter.unusedSimpArgs false
set_option linter.unusedVariables false
set_option linter.defProp false
set_option maxRecDepth 100000
set_option maxHeartbeats 1000000
noncomputable section
attribute [local irreducible] zj2 za4 zd1 za7 zf7 zi6 zk5 zg4 zk6 zf3 zd2 zd8 zh9 zd6 zk1 za6 za0 ze0 zj7 zl9 zi3 zh5 zg2 zg8 zf8 zc5 ze1 ze2 zg9 zf5 ze3 zb0 za8 zh0 zi4 ze4 zn1 f_ref08_holds zj3 zc2 zn6 zm4 zm1 zd9 ze8 zk2 zm5 zh1 zj9 zl7 zd0 zi7 zf0 zf9 zl4 zn9 zm7 zb2 zc1 zh4 zq0 zp1 zk4 zb9 zo8 zd4 zm2 zh2 za5 za1 zb4 zh7 ze9 zm8 zk9 zd7 zd3 zi8 ze6 zq1 zi2 zc8 zo4 zo5 zb5 zi9 zf4 zh8 ze7 zm9 zp0 zp4 zp6 zi1 zf2 zq4 zr5 zt1 zg6 zs7 ze5 zj5 zc3 zb7 zk3 zq2 zl0 zr6 zc9 zq8 zh3 zh6 zi0 zl1 zj6 zp5 zs0 zq3 zn2 zc7 zb8 zl6 zr3 zs5 zd5 za3 zk7 zs1 zp2 zl5 zj4 zj1 zs4 zi5 zo6 zq7 zn5 zt7 zu4 zt0 zx1 zp3 zw1 zg0 zt8 zu8 zx2 zp9 zo9 zn7 zw8
def zI3 (a0:Queue):Option Bool :=
 (ze5 a0.resource).bind fun v1 =>
 ((if v1=true then zq7 a0.resource a0.holds else some false)).bind fun v2 =>
 ((if (v1&&v2)=true then zp9 a0 else some false)).bind fun v3 =>
 ((if ((v1&&v2)&&v3)=true then zp3 a0 else some false)).bind fun v4 =>
 some (((((v1&&v2)&&v3)&&v4)&&decide (0≤a0.gen))&&decide (a0.gen≤1073741824))
instance zcZ3 (a0:Queue):OkP (zI3 a0) 139 [ga a0] (fun r=>.bool r):=ok1 (zI3.eq_1 a0) Tryz.f139 []
attribute [local irreducible] zI3
def zaS3 (j2:Unit):Option Bool :=
 some true
def zan1 (a0:Queue) (g1:Int):Option (Int⊕(Unit⊕Bool)) :=
 (if (decide (g1 < (a0.waits.length:Int)))=true then
  gd (0≤g1∧g1 < (a0.waits.length:Int)) <|
  gd (zt6 a0.resource ((a0.waits.getD g1.toNat Wait.zero).amount)=true→0≤g1∧g1 < (a0.waits.length:Int)) <|
  ((if (zt6 a0.resource ((a0.waits.getD g1.toNat Wait.zero).amount))=true then zm5 a0.holds ((a0.waits.getD g1.toNat Wait.zero).proc) else some Amount.zero)).bind fun v4 =>
  (if ((!(zt6 a0.resource ((a0.waits.getD g1.toNat Wait.zero).amount)))||(!(zm0 v4)))=true then
   some (.inr (.inr false))
  else
   some (.inl (i64.wrap (g1+1))))
 else
  some (.inr (.inl ())))
def zan2 (a0:Queue) (j1:Unit):Option Bool :=
 (zc0 (zan1 a0) 0).bind (fun|.inl z=>zaS3 z|.inr z=>some z)
def zU2 (a0:Queue) (g2:Int):Option (Int⊕(Unit⊕Bool)) :=
 (if (decide (g2 < (a0.converts.length:Int)))=true then
  gd (0≤g2∧g2 < (a0.converts.length:Int)) <|
  (zm5 a0.holds ((a0.converts.getD g2.toNat Wait.zero).proc)).bind fun v5 =>
  ((if (!(((((zm0 v5||(!(zt6 a0.resource ((a0.converts.getD g2.toNat Wait.zero).amount))))||(!(zs9 a0.resource ((a0.converts.getD g2.toNat Wait.zero).amount) v5)))||decide ((a0.converts.getD g2.toNat Wait.zero).amount=v5))||(!decide ((a0.converts.getD g2.toNat Wait.zero).priority=0)))||(!decide ((a0.converts.getD g2.toNat Wait.zero).passed=0))))=true then zj7 a0.converts ((a0.converts.getD g2.toNat Wait.zero).proc) else some 0)).bind fun v6 =>
  (if ((((((zm0 v5||(!(zt6 a0.resource ((a0.converts.getD g2.toNat Wait.zero).amount))))||(!(zs9 a0.resource ((a0.converts.getD g2.toNat Wait.zero).amount) v5)))||decide ((a0.converts.getD g2.toNat Wait.zero).amount=v5))||(!decide ((a0.converts.getD g2.toNat Wait.zero).priority=0)))||(!decide ((a0.converts.getD g2.toNat Wait.zero).passed=0)))||(!decide (v6=g2)))=true then
   some (.inr (.inr false))
  else
   some (.inl (i64.wrap (g2+1))))
 else
  some (.inr (.inl ())))
def zB2 (a0:Queue):Option Bool :=
 (zi5 a0.resource).bind fun v1 =>
 ((if v1=true then zt8 a0.resource a0.holds else some false)).bind fun v2 =>
 ((if (!(((!v1)||(!v2))||decide (8 < (a0.converts.length:Int))))=true then zr3 a0.waits else some false)).bind fun v3 =>
 (if (((((((!v1)||(!v2))||decide (8 < (a0.converts.length:Int)))||(!v3))||decide (8 < i64.wrap ((a0.holds.length:Int)+(a0.waits.length:Int))))||decide (a0.gen < 0))||decide (1073741824 < a0.gen))=true then
  some false
 else
  (zc0 (zU2 a0) 0).bind (fun|.inl z=>zan2 a0 z|.inr z=>some z))
@[reducible,instance] def zdU7 a0 j1:=mkJ (zan2 a0 j1) 2 (@zaS3.eq_1) fun (j2:Unit)=>⟨[],[],0⟩
@[reducible,instance] def zdU8 (a0:Queue) {T:Type} (x:T):=mkL x (@zan1.eq_1 a0) fun (g1:Int)=>⟨[(1,.ptr 0 0 0),(3,.ptr 1 0 0),(7,.int .i64 g1)],[(0,bx a0),(1,bx a0.resource)],2⟩
@[reducible,instance] def zdU9 (a0:Queue) {T1:Type} (v1:T1) {T2:Type} (v2:T2) {T3:Type} (v3:T3):=mkJ (((zB2 a0,v1),v2),v3) 0 (@zan2.eq_1 a0) fun (j1:Unit)=>⟨[(1,.ptr 0 0 0),(3,.ptr 1 0 0)],[(0,bx a0),(1,bx a0.resource)],2⟩
@[reducible,instance] def zdV0 (a0:Queue) {T:Type} (x:T):=mkL x (@zU2.eq_1 a0) fun (g2:Int)=>⟨[(1,.ptr 0 0 0),(3,.ptr 1 0 0),(4,.int .i64 g2)],[(0,bx a0),(1,bx a0.resource)],2⟩
instance zcZ4 (a0:Queue):OkP (zB2 a0) 168 [ga a0] (fun r=>.bool r):=ok1 (zB2.eq_1 a0) Tryz.f168 []
attribute [local irreducible] zB2
def zaz3 (j1:(List Proc)):Option (List Proc) :=
 (zh6 j1).bind fun v2 =>
 some v2
def zan3 (a0:WaitState) (g1:Int×(List Proc)):Option ((Int×(List Proc))⊕(List Proc)) :=
 (if (decide (g1.1 < (a0.needs.length:Int)))=true then
  gd (0≤g1.1∧g1.1 < (a0.needs.length:Int)) <|
  gd (g1.2.length+1≤4294967296) <|
  some (.inl ((i64.wrap (g1.1+1)),(g1.2++[(a0.needs.getD g1.1.toNat Need.zero).proc])))
 else
  some (.inr g1.2))
def zD0 (a0:WaitState):Option (List Proc) :=
 (zw8 a0.queues).bind fun v1 =>
 (zc0 (zan3 a0) (0,v1)).bind (fun z=>zaz3 z)
@[reducible,instance] def zdV1 a0 {T1:Type} (v1:T1):=mkJ (zD0 a0,v1) 0 (@zaz3.eq_1) fun (j1:(List Proc))=>⟨[(3,.own 0 0 j1.length)],[(0,sx j1)],1⟩
@[reducible,instance] def zdV2 (a0:WaitState) {T:Type} (x:T):=mkL x (@zan3.eq_1 a0) fun (g1:Int×(List Proc))=>⟨[(1,.ptr 0 0 0),(3,.own 1 0 g1.2.length),(4,.int .i64 g1.1)],[(0,bx a0),(1,sx g1.2)],2⟩
instance zcZ5 (a0:WaitState):OkP (zD0 a0) 12 [ga a0] (fun r=>la r):=ok1 (zD0.eq_1 a0) Tryz.f12 [(7,1)]
attribute [local irreducible] zD0
attribute [local irreducible] zb1 zt2 zv3 zA2 zy3 zB1 zn3 zy5 zv4 zL1 zJ4 zG2
def zak0 (j1:(List Proc)):Option (List Proc) :=
 (zl5 j1).bind fun v2 =>
 some v2
def zZ6 (a0:WaitState) (g1:Int×(List Proc)):Option ((Int×(List Proc))⊕(List Proc)) :=
 (if (decide (g1.1 < (a0.needs.length:Int)))=true then
  gd (0≤g1.1∧g1.1 < (a0.needs.length:Int)) <|
  gd (g1.2.length+1≤4294967296) <|
  some (.inl ((i64.wrap (g1.1+1)),(g1.2++[(a0.needs.getD g1.1.toNat Need.zero).proc])))
 else
  some (.inr g1.2))
def zv5 (a0:WaitState):Option (List Proc) :=
 (zB1 a0.queues).bind fun v1 =>
 gd (v1.length≤4294967296) <|
 (zc0 (zZ6 a0) (0,v1)).bind (fun z=>zak0 z)
@[reducible,instance] def zdV3 a0 {T1:Type} (v1:T1):=mkJ (zv5 a0,v1) 0 (@zak0.eq_1) fun (j1:(List Proc))=>⟨[(3,.own 0 0 j1.length)],[(0,sx j1)],1⟩
@[reducible,instance] def zdV4 (a0:WaitState) {T:Type} (x:T):=mkL x (@zZ6.eq_1 a0) fun (g1:Int×(List Proc))=>⟨[(3,.own 0 0 g1.2.length),(11,la a0.needs),(12,.int .i64 (a0.needs.length:Int)),(13,.int .i64 g1.1)],[(0,sx g1.2)],1⟩
instance zcy1 (a0:WaitState):OkP (zv5 a0) 25 [ga a0] (fun r=>la r):=ok1 (zv5.eq_1 a0) Tryz.f25 []
attribute [local irreducible] zv5
def zD1 (a0:Queue):Option Bool :=
 (zB2 a0).bind fun v1 =>
 (if (!v1)=true then
  some false
 else
  (zl9 a0).bind fun v2 =>
  ((if v2.2=true then zJ4 a0.resource a0.holds v2.1.proc v2.1.amount else some false)).bind fun v3 =>
  some ((!v2.2)||(!v3)))
instance zcL8 (a0:Queue):OkP (zD1 a0) 169 [ga a0] (fun r=>.bool r):=ok1 (zD1.eq_1 a0) Tryz.f169 []
attribute [local irreducible] zD1
def zx3 (a0:Expr):Option Bool :=
 (zn3 a0).bind fun v1 =>
 some v1.2
instance zcy2 (a0:Expr):OkP (zx3 a0) 93 [ga a0] (fun r=>.bool r):=ok1 (zx3.eq_1 a0) Tryz.f93 []
attribute [local irreducible] zx3
attribute [local irreducible] zz1 zw9 zs6 zz2
def zJ5 (a0:Resource) (a1:List Hold) (a2:Proc) (a3:Amount):Option Bool :=
 (zz1 a0 a1 a2 a3).bind fun v1 =>
 ((if v1=true then zp6 a1 a2 a3 else some [])).bind fun v2 =>
 ((if v1=true then zq7 a0 v2 else some false)).bind fun v3 =>
 some (v1&&v3)
instance zcR5 (a0:Resource) (a1:List Hold) (a2:Proc) (a3:Amount):OkP (zJ5 a0 a1 a2 a3) 141 [ga a0,la a1,ga a2,ga a3] (fun r=>.bool r):=ok1 (zJ5.eq_1 a0 a1 a2 a3) Tryz.f141 []
attribute [local irreducible] zJ5
def zaJ5 (j1:Unit):Option Int :=
 some 0
def zag2 (a0:List Resource) (v1:(List Atom)×Bool) (g1:Int):Option (Int⊕(Unit⊕Int)) :=
 (if (decide (g1 < (v1.1.length:Int)))=true then
  gd (0≤g1∧g1 < (v1.1.length:Int)) <|
  (zy5 a0 (v1.1.getD g1.toNat Atom.zero)).bind fun v2 =>
  (if (!decide (v2=0))=true then
   some (.inr (.inr v2))
  else
   some (.inl (i64.wrap (g1+1))))
 else
  some (.inr (.inl ())))
def zA8 (a0:List Resource) (a1:Expr):Option Int :=
 (zn3 a1).bind fun v1 =>
 (if (!v1.2)=true then
  some 1
 else
  (zc0 (zag2 a0 v1) 0).bind (fun|.inl z=>zaJ5 z|.inr z=>some z))
@[reducible,instance] def zdV5 a0 a1 {T1:Type} (v1:T1):=mkJ (zA8 a0 a1,v1) 0 (@zaJ5.eq_1) fun (j1:Unit)=>⟨[],[],0⟩
@[reducible,instance] def zdV6 (a0:List Resource) (v1:(List Atom)×Bool) {T:Type} (x:T):=mkL x (@zag2.eq_1 a0 v1) fun (g1:Int)=>⟨[(0,la a0),(5,la v1.1),(7,.int .i64 g1)],[],0⟩
instance zcL9 (a0:List Resource) (a1:Expr):OkP (zA8 a0 a1) 157 [la a0,ga a1] (fun r=>.int .i64 r):=ok1 (zA8.eq_1 a0 a1) Tryz.f157 []
attribute [local irreducible] zA8
def zw2 (a0:Expr):Option (List Atom) :=
 (zn3 a0).bind fun v1 =>
 some v1.1
instance zcZ6 (a0:Expr):OkP (zw2 a0) 50 [ga a0] (fun r=>la r):=ok1 (zw2.eq_1 a0) Tryz.f50 []
attribute [local irreducible] zw2
end
end Ab
end Go.Proofs.YtcggeefhhegeoaaGreatDoor
