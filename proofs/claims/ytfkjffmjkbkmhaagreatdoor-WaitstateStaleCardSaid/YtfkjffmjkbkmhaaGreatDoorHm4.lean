import Derived.Test.YtfkjffmjkbkmhaaGreatDoorSort
namespace Go.Proofs.YtfkjffmjkbkmhaaGreatDoor
namespace Ab
open IntKind (i64 u64 u8)
set_option linter.unusedSimpArgs false
set_option linter.defProp false
set_option linter.unusedVariables false
set_option maxRecDepth 100000
set_option maxHeartbeats 1000000
noncomputable section
def zak2 (a0:List Int):Bool :=
 (decide ((a0.length:Int)≤300))
instance zdg0 (a0:List Int):OkT 4 [.sl (a0.map (eI .i64))] (.bool (zak2 a0)):=ok2 (fun r=>.bool r) (zak2.eq_1 a0) Tryz.f4 []
def zu8 (a0:Int):Bool :=
 (decide (1≤a0)&&decide (a0≤5))
instance zdg1 (a0:Int):OkT 223 [.int .i64 a0] (.bool (zu8 a0)):=ok2 (fun r=>.bool r) (zu8.eq_1 a0) Tryz.f223 []
def zaI6 (a0:Int):(Arr Bool 6) :=
 (if (decide (a0=5))=true then
  (Arr.put (Arr.put (Arr.put (Arr.put (Arr.put (Arr.rep 6 false) 5 true) 4 true) 3 true) 2 true) 1 true)
 else
  (if (decide (a0=4))=true then
   (Arr.put (Arr.put (Arr.put (Arr.put (Arr.rep 6 false) 4 true) 3 true) 2 true) 1 true)
  else
   (if (decide (a0=2))=true then
    (Arr.put (Arr.put (Arr.rep 6 false) 2 true) 1 true)
   else
    (if (decide (a0=1))=true then
     (Arr.put (Arr.rep 6 false) 1 true)
    else
     (if (decide (a0=3))=true then
      (Arr.put (Arr.put (Arr.rep 6 false) 3 true) 1 true)
     else
      (Arr.rep 6 false))))))
instance zcQ2 (a0:Int):OkT 276 [.int .i64 a0] (.agg (Arr.enc eB (zaI6 a0))):=ok2 (fun r=>.agg (Arr.enc eB r)) (zaI6.eq_1 a0) Tryz.f276 []
def zaC9 (j1:(List aK)):Option (List aK) :=
 some j1
def zaD0 (a0:List aV) (g1:Int×(List aK)):Option ((Int×(List aK))⊕(List aK)) :=
 (if (decide (g1.1 < (a0.length:Int)))=true then
  gd (0≤g1.1∧g1.1 < (a0.length:Int)) <|
  gd (g1.2.length+1≤4294967296) <|
  some (.inl ((i64.wrap (g1.1+1)),(g1.2++[(a0.getD g1.1.toNat aV.zero).aJ])))
 else
  some (.inr g1.2))
def zf0 (a0:List aV):Option (List aK) :=
 (zb9 (zaD0 a0) (0,[])).bind (fun z=>zaC9 z)
@[reducible,instance] def zdE9 a0:=mkJ (zf0 a0) 0 (@zaC9.eq_1) fun (j1:(List aK))=>⟨[(3,.own 0 0 j1.length)],[(0,sx j1)],1⟩
@[reducible,instance] def zdF0 (a0:List aV) {T:Type} (x:T):=mkL x (@zaD0.eq_1 a0) fun (g1:Int×(List aK))=>⟨[(3,.own 0 0 g1.2.length),(6,la a0),(7,.int .i64 (a0.length:Int)),(8,.int .i64 g1.1)],[(0,sx g1.2)],1⟩
instance zct1 (a0:List aV):OkM (zf0 a0) 127 [la a0] [] 0 (fun r=>.own 0 0 r.length) (fun r=>[(0,sx r)]) 1:=okm (zf0.eq_1 a0) (fun r=>[.own 0 0 r.length]) Tryz.f127 [(2,1),(3,1)]
attribute [local irreducible] zf0
def zaY5 (j1:Unit):Option (Int×Int×Int) :=
 some (0,0,6)
def zaY6 (a0:List Int) (g1:Int×Int):Option ((Int×Int)⊕(Unit⊕(Int×Int×Int))) :=
 (if (decide (g1.2 < 10))=true then
  (if (decide ((a0.length:Int)≤g1.2))=true then
   some (.inr (.inr (0,0,5)))
  else
   gd (0≤g1.2∧g1.2 < (a0.length:Int)) <|
   (if (decide (g1.2=9)&&decide (1 < a0.getD g1.2.toNat 0))=true then
    some (.inr (.inr (0,0,6)))
   else
    gd (0≤i64.wrap (7 * g1.2)) <|
    (if (!decide (zaw8 .and .u8 (a0.getD g1.2.toNat 0) 128=0))=true then
     some (.inl ((zaw8 .or .u64 g1.1 (u64.wrap (u64.wrap (zaw8 .and .u8 (a0.getD g1.2.toNat 0) 127) * 2 ^ (Nat.min (i64.wrap (7 * g1.2)).toNat u64.bits)))),i64.wrap (g1.2+1)))
    else
     (if (decide (a0.getD g1.2.toNat 0=0)&&decide (0 < g1.2))=true then
      some (.inr (.inr (0,0,6)))
     else
      some (.inr (.inr ((zaw8 .or .u64 g1.1 (u64.wrap (u64.wrap (zaw8 .and .u8 (a0.getD g1.2.toNat 0) 127) * 2 ^ (Nat.min (i64.wrap (7 * g1.2)).toNat u64.bits)))),i64.wrap (g1.2+1),0)))))))
 else
  some (.inr (.inl ())))
def zl9 (a0:List Int):Option (Int×Int×Int) :=
 (zb9 (zaY6 a0) (0,0)).bind (fun|.inl z=>zaY5 z|.inr z=>some z)
@[reducible,instance] def zdF1 a0:=mkJ (zl9 a0) 0 (@zaY5.eq_1) fun (j1:Unit)=>⟨[],[],0⟩
@[reducible,instance] def zdF2 (a0:List Int) {T:Type} (x:T):=mkL x (@zaY6.eq_1 a0) fun (g1:Int×Int)=>⟨[(0,.sl (a0.map (eI .u8))),(5,.int .u64 g1.1),(8,.int .i64 g1.2)],[],0⟩
instance zdg2 (a0:List Int):OkP (zl9 a0) 117 [.sl (a0.map (eI .u8))] (fun r=>.tup [.int .u64 r.1,.int .i64 r.2.1,.int .i64 r.2.2]):=ok1 (zl9.eq_1 a0) Tryz.f117 []
attribute [local irreducible] zl9
def zM0 (a0 a1:Int):Int :=
 (if (decide (a0 < a1))=true then
  (-1)
 else
  (if (decide (a1 < a0))=true then
   1
  else
   0))
instance zcW4 (a0 a1:Int):OkT 149 [.int .i64 a0,.int .i64 a1] (.int .i64 (zM0 a0 a1)):=ok2 (fun r=>.int .i64 r) (zM0.eq_1 a0 a1) Tryz.f149 []
def zap8 (j1:(List aD)):Option (List aD) :=
 some j1
def zT0 (a0:List aV) (g1:Int×(List aD)):Option ((Int×(List aD))⊕(List aD)) :=
 (if (decide (g1.1 < (a0.length:Int)))=true then
  gd (0≤g1.1∧g1.1 < (a0.length:Int)) <|
  gd (g1.2.length+1≤4294967296) <|
  some (.inl ((i64.wrap (g1.1+1)),(g1.2++[(a0.getD g1.1.toNat aV.zero).aN])))
 else
  some (.inr g1.2))
def zh2 (a0:List aV):Option (List aD) :=
 (zb9 (zT0 a0) (0,[])).bind (fun z=>zap8 z)
@[reducible,instance] def zdF3 a0:=mkJ (zh2 a0) 0 (@zap8.eq_1) fun (j1:(List aD))=>⟨[(3,.own 0 0 j1.length)],[(0,sx j1)],1⟩
@[reducible,instance] def zdF4 (a0:List aV) {T:Type} (x:T):=mkL x (@zT0.eq_1 a0) fun (g1:Int×(List aD))=>⟨[(0,la a0),(3,.own 0 0 g1.2.length),(4,.int .i64 g1.1)],[(0,sx g1.2)],1⟩
instance zcJ7 (a0:List aV):OkP (zh2 a0) 278 [la a0] (fun r=>la r):=ok1 (zh2.eq_1 a0) Tryz.f278 [(3,1)]
attribute [local irreducible] zh2
def zm6 (a0:aA):Option (aT×Bool) :=
 (if (decide (0 < (a0.aO.length:Int)))=true then
  gd (0≤0∧0 < (a0.aO.length:Int)) <|
  some ((a0.aO.getD 0 aT.zero),true)
 else
  (if (decide (0 < (a0.aS.length:Int)))=true then
   gd (0≤0∧0 < (a0.aS.length:Int)) <|
   some ((a0.aS.getD 0 aT.zero),true)
  else
   some ({ aT.zero with  },false)))
instance zdg3 (a0:aA):OkP (zm6 a0) 265 [ga a0] (fun r=>.tup [ga r.1,.bool r.2]):=ok1 (zm6.eq_1 a0) Tryz.f265 []
attribute [local irreducible] zm6
def zaI7 (j1:(List aK)):Option (List aK) :=
 some j1
def zac7 (a0:List aV) (g1:Int×(List aK)):Option ((Int×(List aK))⊕(List aK)) :=
 (if (decide (g1.1 < (a0.length:Int)))=true then
  gd (0≤g1.1∧g1.1 < (a0.length:Int)) <|
  gd (g1.2.length+1≤4294967296) <|
  some (.inl ((i64.wrap (g1.1+1)),(g1.2++[(a0.getD g1.1.toNat aV.zero).aJ])))
 else
  some (.inr g1.2))
def zh3 (a0:List aV):Option (List aK) :=
 (zb9 (zac7 a0) (0,[])).bind (fun z=>zaI7 z)
@[reducible,instance] def zdF5 a0:=mkJ (zh3 a0) 0 (@zaI7.eq_1) fun (j1:(List aK))=>⟨[(3,.own 0 0 j1.length)],[(0,sx j1)],1⟩
@[reducible,instance] def zdF6 (a0:List aV) {T:Type} (x:T):=mkL x (@zac7.eq_1 a0) fun (g1:Int×(List aK))=>⟨[(0,la a0),(3,.own 0 0 g1.2.length),(4,.int .i64 g1.1)],[(0,sx g1.2)],1⟩
instance zcE2 (a0:List aV):OkM (zh3 a0) 181 [la a0] [] 0 (fun r=>.own 0 0 r.length) (fun r=>[(0,sx r)]) 1:=okm (zh3.eq_1 a0) (fun r=>[.own 0 0 r.length]) Tryz.f181 [(2,1),(3,1)]
attribute [local irreducible] zh3
def zaR3 (j1:Unit):Option Int :=
 some (-1)
def zak3 (a0:List aG) (a1:aK) (g1:Int):Option (Int⊕(Unit⊕Int)) :=
 (if (decide (g1 < (a0.length:Int)))=true then
  gd (0≤g1∧g1 < (a0.length:Int)) <|
  (if (decide ((a0.getD g1.toNat aG.zero).aJ=a1))=true then
   some (.inr (.inr g1))
  else
   some (.inl (i64.wrap (g1+1))))
 else
  some (.inr (.inl ())))
def zi2 (a0:List aG) (a1:aK):Option Int :=
 (zb9 (zak3 a0 a1) 0).bind (fun|.inl z=>zaR3 z|.inr z=>some z)
@[reducible,instance] def zdF7 a0 a1:=mkJ (zi2 a0 a1) 0 (@zaR3.eq_1) fun (j1:Unit)=>⟨[],[],0⟩
@[reducible,instance] def zdF8 (a0:List aG) (a1:aK) {T:Type} (x:T):=mkL x (@zak3.eq_1 a0 a1) fun (g1:Int)=>⟨[(0,la a0),(3,.ptr 0 0 0),(5,.int .i64 g1)],[(0,bx a1)],1⟩
instance zcW5 (a0:List aG) (a1:aK):OkP (zi2 a0 a1) 88 [la a0,ga a1] (fun r=>.int .i64 r):=ok1 (zi2.eq_1 a0 a1) Tryz.f88 []
attribute [local irreducible] zi2
def zaY7 (j1:Unit):Option Int :=
 some (-1)
def zao7 (a0:List bN) (a1 g1:Int):Option (Int⊕(Unit⊕Int)) :=
 (if (decide (g1 < (a0.length:Int)))=true then
  gd (0≤g1∧g1 < (a0.length:Int)) <|
  (if (decide ((a0.getD g1.toNat bN.zero).label=a1))=true then
   some (.inr (.inr g1))
  else
   some (.inl (i64.wrap (g1+1))))
 else
  some (.inr (.inl ())))
def zk8 (a0:List bN) (a1:Int):Option Int :=
 (zb9 (zao7 a0 a1) 0).bind (fun|.inl z=>zaY7 z|.inr z=>some z)
@[reducible,instance] def zdF9 a0 a1:=mkJ (zk8 a0 a1) 0 (@zaY7.eq_1) fun (j1:Unit)=>⟨[],[],0⟩
@[reducible,instance] def zdG0 (a0:List bN) (a1:Int) {T:Type} (x:T):=mkL x (@zao7.eq_1 a0 a1) fun (g1:Int)=>⟨[(0,la a0),(1,.int .i64 a1),(5,.int .i64 g1)],[],0⟩
instance zbS7 (a0:List bN) (a1:Int):OkP (zk8 a0 a1) 188 [la a0,.int .i64 a1] (fun r=>.int .i64 r):=ok1 (zk8.eq_1 a0 a1) Tryz.f188 []
attribute [local irreducible] zk8
def zaY8 (j1:Int×Int):Option (Int×Int) :=
 some (j1.1,i64.wrap (j1.2+1))
def zao8 (g1:Int×Int×Int) (v1:Int×Int) (j2:Int):Option ((Int×Int×Int)⊕((Int×Int)⊕(Int×Int))) :=
 (if (decide (24 < i64.wrap (g1.1+v1.1)))=true then
  some (.inr (.inr (25,0)))
 else
  some (.inl ((i64.wrap (g1.1+v1.1)),j2,i64.wrap (g1.2.2+1))))
def zU9 (a90:(aP→Int→Option (Int×Int))) (a0:aP) (a1:Int) (g1:Int×Int×Int):Option ((Int×Int×Int)⊕((Int×Int)⊕(Int×Int))) :=
 (if (decide (g1.2.2 < (a0.bE.length:Int)))=true then
  gd (0≤g1.2.2∧g1.2.2 < (a0.bE.length:Int)) <|
  (a90 (a0.bE.getD g1.2.2.toNat aP.zero) (i64.wrap (a1+1))).bind fun v1 =>
  (if (decide (g1.2.1 < v1.2))=true then
   zao8 g1 v1 v1.2
  else
   zao8 g1 v1 g1.2.1)
 else
  some (.inr (.inl (g1.1,g1.2.1))))
def zZ4 (a90:(aP→Int→Option (Int×Int))) (a0:aP) (a1:Int):Option (Int×Int) :=
 (if (decide (4 < a1)||decide (24 < (a0.bE.length:Int)))=true then
  some (25,0)
 else
  (zb9 (zU9 a90 a0 a1) (1,0,0)).bind (fun|.inl z=>zaY8 z|.inr z=>some z))
def zM1:Nat→(aP→Int→Option (Int×Int))
 | 0=>fun _ _=>none
 | n+1=>zZ4 (zM1 n)
def zn7 (a0:aP) (a1:Int):Option (Int×Int):=zM1 (_root_.SizeOf.sizeOf a0+1) a0 a1
@[reducible,instance] def zdG1 (a90:(aP→Int→Option (Int×Int))) (a0:aP) (a1:Int):=mkJ (zZ4 a90 a0 a1) 0 (@zaY8.eq_1) fun (j1:Int×Int)=>⟨[(6,.int .i64 j1.1),(7,.int .i64 j1.2)],[],0⟩
@[reducible,instance] def zdG2 (a90:(aP→Int→Option (Int×Int))) (a0:aP) (a1:Int) (g1:Int×Int×Int) (v1:Int×Int):=mkJ (zU9 a90 a0 a1 g1,v1) 999 (@zao8.eq_1 g1 v1) fun (j2:Int)=>⟨[(1,.int .i64 a1),(2,.ptr 0 0 0),(6,.int .i64 (i64.wrap (g1.1+v1.1))),(7,.int .i64 j2),(8,.int .i64 g1.2.2)],[(0,bx a0)],1⟩
@[reducible,instance] def zdG3 (a90:(aP→Int→Option (Int×Int))) (a0:aP) (a1:Int) {T:Type} (x:T):=mkL x (@zU9.eq_1 a90 a0 a1) fun (g1:Int×Int×Int)=>⟨[(1,.int .i64 a1),(2,.ptr 0 0 0),(6,.int .i64 g1.1),(7,.int .i64 g1.2.1),(8,.int .i64 g1.2.2)],[(0,bx a0)],1⟩
abbrev zaG6 (g:(aP→Int→Option (Int×Int))):Prop:=∀ (a0:aP) (a1:Int),OkP (g a0 a1) 267 [.agg (aP.enc a0),.int .i64 a1] (fun r=>.tup [.int .i64 r.1,.int .i64 r.2])
theorem zbK3 (a90:(aP→Int→Option (Int×Int))) (hrc:zaG6 a90):zaG6 (zZ4 a90):=fun a0 a1=>ok1 (zZ4.eq_1 a90 a0 a1) Tryz.f267 []
theorem zbK4:∀ n,zaG6 (zM1 n):=zaP2 (fun _ _=>⟨fun _ h=>nomatch h⟩) fun n=>zbK3 _
instance zdg4:zaG6 zn7:=fun a0 a1=>zbK4 _ a0 a1
attribute [local irreducible] zn7
def zaY9 (j1:Unit):Option (aI×Bool) :=
 some ({ aI.zero with  },false)
def zao9 (a0:List aI) (a1:ByteArray) (g1:Int):Option (Int⊕(Unit⊕(aI×Bool))) :=
 (if (decide (g1 < (a0.length:Int)))=true then
  gd (0≤g1∧g1 < (a0.length:Int)) <|
  (if (((a0.getD g1.toNat aI.zero).name).toList == a1.toList)=true then
   gd (0≤g1∧g1 < (a0.length:Int)) <|
   some (.inr (.inr ((a0.getD g1.toNat aI.zero),true)))
  else
   some (.inl (i64.wrap (g1+1))))
 else
  some (.inr (.inl ())))
def zm0 (a0:List aI) (a1:ByteArray):Option (aI×Bool) :=
 (zb9 (zao9 a0 a1) 0).bind (fun|.inl z=>zaY9 z|.inr z=>some z)
@[reducible,instance] def zdG4 a0 a1:=mkJ (zm0 a0 a1) 0 (@zaY9.eq_1) fun (j1:Unit)=>⟨[(4,.ptr 0 0 0)],[(0,bx aI.zero)],1⟩
@[reducible,instance] def zdG5 (a0:List aI) (a1:ByteArray) {T:Type} (x:T):=mkL x (@zao9.eq_1 a0 a1) fun (g1:Int)=>⟨[(0,la a0),(1,.str a1),(4,.ptr 0 0 0),(6,.int .i64 g1)],[(0,bx aI.zero)],1⟩
instance zdg5 (a0:List aI) (a1:ByteArray):OkP (zm0 a0 a1) 238 [la a0,.str a1] (fun r=>.tup [ga r.1,.bool r.2]):=ok1 (zm0.eq_1 a0 a1) Tryz.f238 []
attribute [local irreducible] zm0
def zay4 (j1:Unit):Option Bool :=
 some false
def zZ5 (a0:aP) (a1:List aM) (a2:List Bool) (g1:Int):Option (Int⊕(Unit⊕Bool)) :=
 (if (decide (g1 < (a1.length:Int)))=true then
  gd (0≤g1∧g1 < (a1.length:Int)) <|
  (if (decide (a1.getD g1.toNat aM.zero=a0.bF))=true then
   gd (decide (g1 < (a2.length:Int))=true→0≤g1∧g1 < (a2.length:Int)) <|
   some (.inr (.inr (decide (g1 < (a2.length:Int))&&a2.getD g1.toNat false)))
  else
   some (.inl (i64.wrap (g1+1))))
 else
  some (.inr (.inl ())))
def zaR4 (a0:aP) (j2:Int):Option Bool :=
 some (decide (a0.k≤j2))
def zak4 (a90:(aP→List aM→List Bool→Option Bool)) (a0:aP) (a1:List aM) (a2:List Bool) (g2:Int×Int):Option ((Int×Int)⊕Int) :=
 (if (decide (g2.2 < (a0.bE.length:Int)))=true then
  gd (0≤g2.2∧g2.2 < (a0.bE.length:Int)) <|
  (a90 (a0.bE.getD g2.2.toNat aP.zero) a1 a2).bind fun v1 =>
  (if v1=true then
   some (.inl ((i64.wrap (g2.1+1)),i64.wrap (g2.2+1)))
  else
   some (.inl (g2.1,i64.wrap (g2.2+1))))
 else
  some (.inr g2.1))
def zP1 (a90:(aP→List aM→List Bool→Option Bool)) (a0:aP) (a1:List aM) (a2:List Bool):Option Bool :=
 (if (decide (a0.k=0))=true then
  (zb9 (zZ5 a0 a1 a2) 0).bind (fun|.inl z=>zay4 z|.inr z=>some z)
 else
  (zb9 (zak4 a90 a0 a1 a2) (0,0)).bind (fun z=>zaR4 a0 z))
def fr_ref08_holds:Nat→(aP→List aM→List Bool→Option Bool)
 | 0=>fun _ _ _=>none
 | n+1=>zP1 (fr_ref08_holds n)
def f_ref08_holds (a0:aP) (a1:List aM) (a2:List Bool):Option Bool:=fr_ref08_holds (_root_.SizeOf.sizeOf a0+1) a0 a1 a2
@[reducible,instance] def zdG6 (a90:(aP→List aM→List Bool→Option Bool)) (a0:aP) (a1:List aM) (a2:List Bool):=mkJ (zP1 a90 a0 a1 a2) 0 (@zay4.eq_1) fun (j1:Unit)=>⟨[],[],0⟩
@[reducible,instance] def zdG7 (a0:aP) (a1:List aM) (a2:List Bool) {T:Type} (x:T):=mkL x (@zZ5.eq_1 a0 a1 a2) fun (g1:Int)=>⟨[(1,la a1),(2,.sl (a2.map eB)),(3,.ptr 0 0 0),(7,.int .i64 g1)],[(0,bx a0)],1⟩
@[reducible,instance] def zdG8 (a90:(aP→List aM→List Bool→Option Bool)) (a0:aP) (a1:List aM) (a2:List Bool):=mkJ (zP1 a90 a0 a1 a2) 2 (@zaR4.eq_1 a0) fun (j2:Int)=>⟨[(3,.ptr 0 0 0),(8,.int .i64 j2)],[(0,bx a0)],1⟩
@[reducible,instance] def zdG9 (a90:(aP→List aM→List Bool→Option Bool)) (a0:aP) (a1:List aM) (a2:List Bool) {T:Type} (x:T):=mkL x (@zak4.eq_1 a90 a0 a1 a2) fun (g2:Int×Int)=>⟨[(1,la a1),(2,.sl (a2.map eB)),(3,.ptr 0 0 0),(8,.int .i64 g2.1),(9,.int .i64 g2.2)],[(0,bx a0)],1⟩
abbrev zaB1 (g:(aP→List aM→List Bool→Option Bool)):Prop:=∀ (a0:aP) (a1:List aM) (a2:List Bool),OkP (g a0 a1 a2) 198 [.agg (aP.enc a0),.sl (a1.map aM.enc),.sl (a2.map eB)] (fun r=>.bool r)
theorem zbC9 (a90:(aP→List aM→List Bool→Option Bool)) (hrc:zaB1 a90):zaB1 (zP1 a90):=fun a0 a1 a2=>ok1 (zP1.eq_1 a90 a0 a1 a2) Tryz.f198 []
theorem zbD0:∀ n,zaB1 (fr_ref08_holds n):=zaP2 (fun _ _ _=>⟨fun _ h=>nomatch h⟩) fun n=>zbC9 _
instance zcW6:zaB1 f_ref08_holds:=fun a0 a1 a2=>zbD0 _ a0 a1 a2
attribute [local irreducible] f_ref08_holds
def zam3 (a0:aX) (j1:Int):Option (Int×Int×(List aA)×(List aG)×(List bJ)) :=
 some (j1,a0.c.now,a0.c.aC,a0.c.aF,a0.ev)
def zJ1 (a0:aX) (g1:Int×Int×Int):Option ((Int×Int×Int)⊕Int) :=
 (if (decide (g1.2.2 < ((a0.c.aF.length:Nat):Int)))=true then
  gd (0≤g1.2.2∧g1.2.2 < ((a0.c.aF.length:Nat):Int)) <|
  (if ((((a0.c.aF.getD g1.2.2.toNat aG.zero).bH&&(!decide (((a0.c.aF.getD g1.2.2.toNat aG.zero).aZ).limit=0)))&&decide (i64.wrap ((a0.c.aF.getD g1.2.2.toNat aG.zero).since+((a0.c.aF.getD g1.2.2.toNat aG.zero).aZ).limit)≤a0.c.now))&&(decide (g1.1 < 0)||decide (i64.wrap ((a0.c.aF.getD g1.2.2.toNat aG.zero).since+((a0.c.aF.getD g1.2.2.toNat aG.zero).aZ).limit) < g1.2.1)))=true then
   some (.inl (g1.2.2,i64.wrap ((a0.c.aF.getD g1.2.2.toNat aG.zero).since+((a0.c.aF.getD g1.2.2.toNat aG.zero).aZ).limit),i64.wrap (g1.2.2+1)))
  else
   some (.inl (g1.1,g1.2.1,i64.wrap (g1.2.2+1))))
 else
  some (.inr g1.1))
def zc3 (a0:aX):Option (Int×Int×(List aA)×(List aG)×(List bJ)) :=
 (zb9 (zJ1 a0) ((-1),0,0)).bind (fun z=>zam3 a0 z)
@[reducible,instance] def zdH0 (a0:aX):=mkJ (zc3 a0) 0 (@zam3.eq_1 a0) fun (j1:Int)=>⟨[(3,.int .i64 j1)],[(0,⟨false,4,aX.enc aX.zero,[[.int .i64 a0.c.now,la a0.c.aC,.own 1 0 a0.c.aF.length,.own 2 0 a0.ev.length]]⟩),(1,sx a0.c.aF),(2,sx a0.ev)],3⟩
@[reducible,instance] def zdH1 (a0:aX) {T:Type} (x:T):=mkL x (@zJ1.eq_1 a0) fun (g1:Int×Int×Int)=>⟨[(0,.ptr 0 0 0),(3,.int .i64 g1.1),(4,.int .i64 g1.2.1),(5,.int .i64 g1.2.2)],[(0,⟨false,4,aX.enc aX.zero,[[.int .i64 a0.c.now,la a0.c.aC,.own 1 0 a0.c.aF.length,.own 2 0 a0.ev.length]]⟩),(1,sx a0.c.aF),(2,sx a0.ev)],3⟩
instance zbS8 (a0:aX):OkM (zc3 a0) 243 [.ptr 0 0 0] [(0,⟨false,4,aX.enc aX.zero,[[.int .i64 a0.c.now,la a0.c.aC,.own 1 0 a0.c.aF.length,.own 2 0 a0.ev.length]]⟩),(1,sx a0.c.aF),(2,sx a0.ev)] 3 (fun r=>.int .i64 r.1) (fun r=>[(0,⟨false,4,aX.enc aX.zero,[[.int .i64 r.2.1,la r.2.2.1,.own 1 0 r.2.2.2.1.length,.own 2 0 r.2.2.2.2.length]]⟩),(1,sx r.2.2.2.1),(2,sx r.2.2.2.2)]) 3:=okm (zc3.eq_1 a0) (fun r=>[.int .i64 r.1]) Tryz.f243 []
attribute [local irreducible] zc3
def zk9 (a0:aA):Option aA :=
 gd (a0.aQ.length≤4294967296) <|
 gd (a0.aO.length≤4294967296) <|
 gd (a0.aS.length≤4294967296) <|
 some a0
instance zdg6 (a0:aA):OkP (zk9 a0) 281 [ga a0] (fun r=>ga r):=ok1 (zk9.eq_1 a0) Tryz.f281 [(3,1),(8,1),(13,1)]
attribute [local irreducible] zk9
def ze0 (a0:Int) (a1:aX):Option (Int×(List aA)×(List aG)×(List bJ)) :=
 gd (0≤a0∧a0 < ((a1.c.aF.length:Nat):Int)) <|
 gd (0≤a0∧a0 < ((a1.c.aF.length:Nat):Int)) <|
 gd (0≤a0∧a0 < ((a1.c.aF.length:Nat):Int)) <|
 some (a1.c.now,a1.c.aC,((a1.c.aF.set a0.toNat ({ (a1.c.aF.getD a0.toNat aG.zero) with bH:=false })).set a0.toNat ({ ((a1.c.aF.set a0.toNat ({ (a1.c.aF.getD a0.toNat aG.zero) with bH:=false })).getD a0.toNat aG.zero) with aZ:={ bK.zero with  } })).set a0.toNat ({ (((a1.c.aF.set a0.toNat ({ (a1.c.aF.getD a0.toNat aG.zero) with bH:=false })).set a0.toNat ({ ((a1.c.aF.set a0.toNat ({ (a1.c.aF.getD a0.toNat aG.zero) with bH:=false })).getD a0.toNat aG.zero) with aZ:={ bK.zero with  } })).getD a0.toNat aG.zero) with since:=0 }),a1.ev)
instance zch5 (a0:Int) (a1:aX):OkM (ze0 a0 a1) 248 [.ptr 0 0 0,.int .i64 a0] [(0,⟨false,4,aX.enc aX.zero,[[.int .i64 a1.c.now,la a1.c.aC,.own 1 0 a1.c.aF.length,.own 2 0 a1.ev.length]]⟩),(1,sx a1.c.aF),(2,sx a1.ev)] 3 (fun r=>.tup []) (fun r=>[(0,⟨false,4,aX.enc aX.zero,[[.int .i64 r.1,la r.2.1,.own 1 0 r.2.2.1.length,.own 2 0 r.2.2.2.length]]⟩),(1,sx r.2.2.1),(2,sx r.2.2.2)]) 3:=okm (ze0.eq_1 a0 a1) (fun r=>[]) Tryz.f248 []
attribute [local irreducible] ze0
def zj7 (a0:aD):Bool :=
 (decide (a0={ aD.zero with  }))
instance zbK5 (a0:aD):OkT 219 [.agg (aD.enc a0)] (.bool (zj7 a0)):=ok2 (fun r=>.bool r) (zj7.eq_1 a0) Tryz.f219 []
def zbc8 (j1:Unit):Option Int :=
 some (-1)
def zah1 (a0:List aT) (a1:aK) (g1:Int):Option (Int⊕(Unit⊕Int)) :=
 (if (decide (g1 < (a0.length:Int)))=true then
  gd (0≤g1∧g1 < (a0.length:Int)) <|
  (if (decide ((a0.getD g1.toNat aT.zero).aJ=a1))=true then
   some (.inr (.inr g1))
  else
   some (.inl (i64.wrap (g1+1))))
 else
  some (.inr (.inl ())))
def zm3 (a0:List aT) (a1:aK):Option Int :=
 (zb9 (zah1 a0 a1) 0).bind (fun|.inl z=>zbc8 z|.inr z=>some z)
@[reducible,instance] def zea1 a0 a1:=mkJ (zm3 a0 a1) 0 (@zbc8.eq_1) fun (j1:Unit)=>⟨[],[],0⟩
@[reducible,instance] def zea2 (a0:List aT) (a1:aK) {T:Type} (x:T):=mkL x (@zah1.eq_1 a0 a1) fun (g1:Int)=>⟨[(3,.ptr 0 0 0),(7,la a0),(8,.int .i64 (a0.length:Int)),(9,.int .i64 g1)],[(0,bx a1)],1⟩
instance zdk8 (a0:List aT) (a1:aK):OkP (zm3 a0 a1) 218 [la a0,ga a1] (fun r=>.int .i64 r):=ok1 (zm3.eq_1 a0 a1) Tryz.f218 []
attribute [local irreducible] zm3
def zam7 (a0:aM) (a1:List aM) (j1:Unit):Option (Int×(List aM)) :=
 (if (decide (((a1.length:Nat):Int)=8))=true then
  some (4,a1)
 else
  gd (a1.length+1≤4294967296) <|
  some (0,(a1++[a0])))
def zQ3 (a0:aM) (a1:List aM) (g1:Int):Option (Int⊕(Unit⊕(Int×(List aM)))) :=
 (if (decide (g1 < ((a1.length:Nat):Int)))=true then
  gd (0≤g1∧g1 < ((a1.length:Nat):Int)) <|
  (if (decide (a0=a1.getD g1.toNat aM.zero))=true then
   some (.inr (.inr (0,a1)))
  else
   (if (a0.name.toList == ((a1.getD g1.toNat aM.zero).name).toList)=true then
    some (.inr (.inr (13,a1)))
   else
    some (.inl (i64.wrap (g1+1)))))
 else
  some (.inr (.inl ())))
def zf7 (a0:aM) (a1:List aM):Option (Int×(List aM)) :=
 (zb9 (zQ3 a0 a1) 0).bind (fun|.inl z=>zam7 a0 a1 z|.inr z=>some z)
@[reducible,instance] def zdH2 (a0:aM) (a1:List aM):=mkJ (zf7 a0 a1) 0 (@zam7.eq_1 a0 a1) fun (j1:Unit)=>⟨[(0,.ptr 0 0 0),(3,.ptr 2 0 0)],[(0,⟨false,1,[A.sl ([].map aM.enc)],[[.own 3 0 a1.length]]⟩),(2,bx a0),(3,sx a1)],4⟩
@[reducible,instance] def zdH3 (a0:aM) (a1:List aM) {T:Type} (x:T):=mkL x (@zQ3.eq_1 a0 a1) fun (g1:Int)=>⟨[(0,.ptr 0 0 0),(3,.ptr 2 0 0),(9,.own 3 0 a1.length),(10,.int .i64 ((a1.length:Nat):Int)),(11,.int .i64 g1)],[(0,⟨false,1,[A.sl ([].map aM.enc)],[[.own 3 0 a1.length]]⟩),(2,bx a0),(3,sx a1)],4⟩
instance zbn9 (a0:aM) (a1:List aM):OkM (zf7 a0 a1) 126 [.ptr 0 0 0,ga a0] [(0,⟨false,1,[A.sl ([].map aM.enc)],[[.own 1 0 a1.length]]⟩),(1,sx a1)] 2 (fun r=>.int .i64 r.1) (fun r=>[(0,⟨false,1,[A.sl ([].map aM.enc)],[[.own 2 0 r.2.length]]⟩),(2,sx r.2)]) 3:=okm (zf7.eq_1 a0 a1) (fun r=>[.int .i64 r.1]) Tryz.f126 []
attribute [local irreducible] zf7
def zac8 (j1:Int×(List Int)):Option (List Int) :=
 gd (j1.2.length+1≤4294967296) <|
 some (j1.2++[(u8.wrap j1.1)])
@[go_sem] def zdr6 (j1:Int×(List Int)):St:=⟨[(1,.int .u64 j1.1),(5,.own 0 0 j1.2.length)],[(0,⟨false,1,[A.int .u8 0],j1.2.map (eI .u8)⟩)],1⟩
def zap9 (g1:Int×(List Int)):Option ((Int×(List Int))⊕(Int×(List Int))) :=
 (if (decide (127 < g1.1))=true then
  gd (g1.2.length+1≤4294967296) <|
  some (.inl ((g1.1.fdiv (2 ^ 7)),(g1.2++[(zaw8 .or .u8 (u8.wrap (zaw8 .and .u64 g1.1 127)) 128)])))
 else
  some (.inr (g1.1,g1.2)))
@[go_sem] def zdr7 (g1:Int×(List Int)):St:=⟨[(1,.int .u64 g1.1),(5,.own 0 0 g1.2.length)],[(0,⟨false,1,[A.int .u8 0],g1.2.map (eI .u8)⟩)],1⟩
def zh4 (a0:List Int) (a1:Int):Option (List Int) :=
 gd (0≤0∧0≤(a0.length:Int)∧(a0.length:Int)≤(a0.length:Int)∧(a0.length:Int)=(a0.length:Int)) <|
 (if (decide (127 < a1))=true then
  gd ((a0.take ((a0.length:Int).toNat)).length+1≤4294967296) <|
  (zb9 zap9 ((a1.fdiv (2 ^ 7)),(a0.take ((a0.length:Int).toNat)++[(zaw8 .or .u8 (u8.wrap (zaw8 .and .u64 a1 127)) 128)]))).bind (fun z=>zac8 z)
 else
  gd ((a0.take ((a0.length:Int).toNat)).length+1≤4294967296) <|
  some (a0.take ((a0.length:Int).toNat)++[(u8.wrap a1)]))
theorem zbw0 (a0:List Int) (a1:Int) (r:(List Int)) (h:zh4 a0 a1=some r):PFn C 71 [.sl (a0.map (eI .u8)),.int .u64 a1] (.sl (r.map (eI .u8))):=by
 refine zY9 Tryz.f71 [] fun E hG hN hK=>?_
 unfold zh4 at h
 refine za2 (za5 hG ?_)
 refine za2 ?_
 obtain ⟨hb5,h⟩:=ze1 h
 refine za5 hG ?_
 refine za2 ?_
 refine zbX0 zdr6 (fun v=>zac8 v=some r) ?_ ?_
 · intro j1 h
   unfold zac8 at h
   refine g_st ?_
   refine za2 ?_
   obtain ⟨hb1,h⟩:=ze1 h
   refine za5 hG ?_
   refine zt4 ?_
   exact zJ4 h
 refine zcU8 (body:=zap9) (kk:=fun z=>zac8 z) (r:=r) zdr7 hK ?_ (fun x_l1 h g1 y_l1 h_l1 hx_l1=>?_)
 · refine za2 (za2 (za5 hG ?_))
   refine zl4 rfl hG h (fun _ h=>?_) (fun _ h=>?_)
   · refine zk1 ?_
     refine zC3 (za2 ?_)
     obtain ⟨hb3,h⟩:=ze1 h
     refine za5 hG ?_
     refine za5 hG ?_
     exact zcD2 hK [(0,0)] h
   refine zG4 ?_
   refine .inr ?_
   refine za2 ?_
   obtain ⟨hb4,h⟩:=ze1 h
   refine za5 hG ?_
   refine zt4 ?_
   exact zJ4 h
 unfold zap9 at h_l1
 refine g_st ?_
 refine za2 (za2 (za5 hG ?_))
 refine zl4 rfl hG h_l1 (fun _ h_l1=>?_) (fun _ h_l1=>?_)
 · refine zk1 ?_
   refine zC3 (za2 ?_)
   obtain ⟨hb2,h_l1⟩:=ze1 h_l1
   refine za5 hG ?_
   refine za5 hG ?_
   exact zJ0 hK [(0,1)] h_l1
 refine zG4 ?_
 cases h_l1
 cases hx_l1 _ rfl
 refine .inl ?_
 exact zA9 hK [(0,0)] (g1.1,g1.2) (by exact h)
instance zcE3 (a0:List Int) (a1:Int):OkP (zh4 a0 a1) 71 [.sl (a0.map (eI .u8)),.int .u64 a1] (fun r=>.sl (r.map (eI .u8))):=⟨zbw0 a0 a1⟩
attribute [local irreducible] zh4
def zW0 (j1:Int×(List Int)):Option (List Int) :=
 gd (j1.2.length+1≤4294967296) <|
 some (j1.2++[(u8.wrap j1.1)])
@[go_sem] def zdr8  (j1:Int×(List Int)):St:=⟨[(1,.int .u64 j1.1),(5,.own 0 0 j1.2.length)],[(0,⟨false,1,[A.int .u8 0],j1.2.map (eI .u8)⟩)],1⟩
def zah2 (g1:Int×(List Int)):Option ((Int×(List Int))⊕(Int×(List Int))) :=
 (if (decide (127 < g1.1))=true then
  gd (g1.2.length+1≤4294967296) <|
  some (.inl ((g1.1.fdiv (2 ^ 7)),(g1.2++[(zaw8 .or .u8 (u8.wrap (zaw8 .and .u64 g1.1 127)) 128)])))
 else
  some (.inr (g1.1,g1.2)))
@[go_sem] def zdr9  (g1:Int×(List Int)):St:=⟨[(1,.int .u64 g1.1),(5,.own 0 0 g1.2.length)],[(0,⟨false,1,[A.int .u8 0],g1.2.map (eI .u8)⟩)],1⟩
def zf6 (a0:List Int) (a1:Int):Option (List Int) :=
 gd (0≤0∧0≤(a0.length:Int)∧(a0.length:Int)≤(a0.length:Int)∧(a0.length:Int)=(a0.length:Int)) <|
 (if (decide (127 < a1))=true then
  gd ((a0.take ((a0.length:Int).toNat)).length+1≤4294967296) <|
  (zb9 zah2 ((a1.fdiv (2 ^ 7)),(a0.take ((a0.length:Int).toNat)++[(zaw8 .or .u8 (u8.wrap (zaw8 .and .u64 a1 127)) 128)]))).bind (fun z=>zW0 z)
 else
  gd ((a0.take ((a0.length:Int).toNat)).length+1≤4294967296) <|
  some (a0.take ((a0.length:Int).toNat)++[(u8.wrap a1)]))
theorem zbi9 (a0:List Int) (a1:Int) (r:(List Int)) (h:zf6 a0 a1=some r):MFn C 71 [.sl (a0.map (eI .u8)),.int .u64 a1] [] 0 (.own 0 0 r.length) [(0,⟨false,1,[A.int .u8 0],r.map (eI .u8)⟩)] 1:=by
 refine zax1 Tryz.f71 [(4,1)] [.own 0 0 r.length] fun E hG hN hK=>?_
 unfold zf6 at h
 refine za2 (za5 hG ?_)
 refine za2 ?_
 obtain ⟨hb5,h⟩:=ze1 h
 refine za5 hG ?_
 refine za2 ?_
 refine zbX0 zdr8 (fun v=>zW0 v=some r) ?_ ?_
 · intro j1 h
   unfold zW0 at h
   refine g_st ?_
   refine za2 ?_
   obtain ⟨hb1,h⟩:=ze1 h
   refine za5 hG ?_
   refine zt4 ?_
   exact zO9 [(0,1)] h
 refine zcU8 (body:=zah2) (kk:=fun z=>zW0 z) (r:=r) zdr9 hK ?_ (fun x_l1 h g1 y_l1 h_l1 hx_l1=>?_)
 · refine za2 (za2 (za5 hG ?_))
   refine zl4 rfl hG h (fun _ h=>?_) (fun _ h=>?_)
   · refine zk1 ?_
     refine zC3 (za2 ?_)
     obtain ⟨hb3,h⟩:=ze1 h
     refine za5 hG ?_
     refine za5 hG ?_
     exact zcD2 hK [(0,1)] h
   refine zG4 ?_
   refine .inr ?_
   refine za2 ?_
   obtain ⟨hb4,h⟩:=ze1 h
   refine za5 hG ?_
   refine zt4 ?_
   exact zO9 [(0,1)] h
 unfold zah2 at h_l1
 refine g_st ?_
 refine za2 (za2 (za5 hG ?_))
 refine zl4 rfl hG h_l1 (fun _ h_l1=>?_) (fun _ h_l1=>?_)
 · refine zk1 ?_
   refine zC3 (za2 ?_)
   obtain ⟨hb2,h_l1⟩:=ze1 h_l1
   refine za5 hG ?_
   refine za5 hG ?_
   exact zJ0 hK [(0,1)] h_l1
 refine zG4 ?_
 cases h_l1
 cases hx_l1 _ rfl
 refine .inl ?_
 exact zA9 hK [(0,0)] (g1.1,g1.2) (by exact h)
instance zct2 (a0:List Int) (a1:Int):OkM (zf6 a0 a1) 71 [.sl (a0.map (eI .u8)),.int .u64 a1] [] 0 (fun r=>.own 0 0 r.length) (fun r=>[(0,⟨false,1,[A.int .u8 0],r.map (eI .u8)⟩)]) 1:=⟨zbi9 a0 a1⟩
attribute [local irreducible] zf6
def zR5 (j1:Unit):Option Int :=
 some (-1)
def zR6 (a0:List aM) (a1:aM) (g1:Int):Option (Int⊕(Unit⊕Int)) :=
 (if (decide (g1 < (a0.length:Int)))=true then
  gd (0≤g1∧g1 < (a0.length:Int)) <|
  (if (decide (a1=a0.getD g1.toNat aM.zero))=true then
   some (.inr (.inr g1))
  else
   some (.inl (i64.wrap (g1+1))))
 else
  some (.inr (.inl ())))
def zb3 (a0:List aM) (a1:aM):Option Int :=
 (zb9 (zR6 a0 a1) 0).bind (fun|.inl z=>zR5 z|.inr z=>some z)
@[reducible,instance] def zdH4 a0 a1:=mkJ (zb3 a0 a1) 0 (@zR5.eq_1) fun (j1:Unit)=>⟨[],[],0⟩
@[reducible,instance] def zdH5 (a0:List aM) (a1:aM) {T:Type} (x:T):=mkL x (@zR6.eq_1 a0 a1) fun (g1:Int)=>⟨[(0,la a0),(3,.ptr 0 0 0),(7,.int .i64 (a0.length:Int)),(8,.int .i64 g1)],[(0,bx a1)],1⟩
instance zbq5 (a0:List aM) (a1:aM):OkP (zb3 a0 a1) 162 [la a0,ga a1] (fun r=>.int .i64 r):=ok1 (zb3.eq_1 a0 a1) Tryz.f162 []
attribute [local irreducible] zb3
def zaZ0 (j1:Unit):Option Int :=
 some (-1)
def zap0 (a0:List aA) (a1:ByteArray) (g1:Int):Option (Int⊕(Unit⊕Int)) :=
 (if (decide (g1 < (a0.length:Int)))=true then
  gd (0≤g1∧g1 < (a0.length:Int)) <|
  (if ((((a0.getD g1.toNat aA.zero).aB).name).toList == a1.toList)=true then
   some (.inr (.inr g1))
  else
   some (.inl (i64.wrap (g1+1))))
 else
  some (.inr (.inl ())))
def zl0 (a0:List aA) (a1:ByteArray):Option Int :=
 (zb9 (zap0 a0 a1) 0).bind (fun|.inl z=>zaZ0 z|.inr z=>some z)
@[reducible,instance] def zdH6 a0 a1:=mkJ (zl0 a0 a1) 0 (@zaZ0.eq_1) fun (j1:Unit)=>⟨[],[],0⟩
@[reducible,instance] def zdH7 (a0:List aA) (a1:ByteArray) {T:Type} (x:T):=mkL x (@zap0.eq_1 a0 a1) fun (g1:Int)=>⟨[(1,.str a1),(7,la a0),(8,.int .i64 (a0.length:Int)),(9,.int .i64 g1)],[],0⟩
instance zbS9 (a0:List aA) (a1:ByteArray):OkP (zl0 a0 a1) 21 [la a0,.str a1] (fun r=>.int .i64 r):=ok1 (zl0.eq_1 a0 a1) Tryz.f21 []
attribute [local irreducible] zl0
def zM2 (a0 a1:aT):Bool :=
 (decide ({ a0 with bR:=0 }={ a1 with bR:=0 }))
instance zbS3 (a0 a1:aT):OkT 70 [.agg (aT.enc a0),.agg (aT.enc a1)] (.bool (zM2 a0 a1)):=ok2 (fun r=>.bool r) (zM2.eq_1 a0 a1) Tryz.f70 []
def zw7 (j1:Unit):Option Bool :=
 some true
def zo2 (a90:(aP→aP→Option Bool)) (a0 a1:List aP) (g1:Int):Option (Int⊕(Unit⊕Bool)) :=
 (if (decide (g1 < (a0.length:Int)))=true then
  gd (0≤g1∧g1 < (a0.length:Int)) <|
  gd (0≤g1∧g1 < (a1.length:Int)) <|
  (a90 (a0.getD g1.toNat aP.zero) (a1.getD g1.toNat aP.zero)).bind fun v1 =>
  (if (!v1)=true then
   some (.inr (.inr false))
  else
   some (.inl (i64.wrap (g1+1))))
 else
  some (.inr (.inl ())))
def za0 (a90:(aP→aP→Option Bool)) (a0 a1:List aP):Option Bool :=
 (if (!decide ((a0.length:Int)=(a1.length:Int)))=true then
  some false
 else
  (zb9 (zo2 a90 a0 a1) 0).bind (fun|.inl z=>zw7 z|.inr z=>some z))
@[reducible,instance] def zdH8 (a90:(aP→aP→Option Bool)) (a0 a1:List aP):=mkJ (za0 a90 a0 a1) 0 (@zw7.eq_1) fun (j1:Unit)=>⟨[],[],0⟩
@[reducible,instance] def zdH9 (a90:(aP→aP→Option Bool)) (a0 a1:List aP) {T:Type} (x:T):=mkL x (@zo2.eq_1 a90 a0 a1) fun (g1:Int)=>⟨[(1,la a1),(2,.clo 62 []),(15,la a0),(16,.int .i64 (a0.length:Int)),(17,.int .i64 g1)],[],0⟩
theorem zK2 (a90:(aP→aP→Option Bool)) (hrc:∀ (a0:aP) (a1:aP) (r:Bool),a90 a0 a1=some r→PFn C 62 [ga a0,ga a1] (.bool r)) (a0 a1:List aP) (r:Bool) (h:za0 a90 a0 a1=some r):MFn C 97 [la a0,la a1,.clo 62 []] [] 0 (.bool r) [] 0:=by
 refine zax1 Tryz.f97 [] [.bool r] fun E hG hN hK=>?_
 have hm:Mk (za0 a90 a0 a1):=trivial
 unfold za0 at h
 exact gogo
attribute [local irreducible] za0
def ze7 (a0:bL):Option (Bool×bL) :=
 some ((decide (a0.at_ < (a0.l.length:Int))),a0)
instance zcm2 (a0:bL):OkM (ze7 a0) 93 [.ptr 0 0 0] [(0,bx a0)] 1 (fun r=>.bool r.1) (fun r=>[(0,bx r.2)]) 1:=okm (ze7.eq_1 a0) (fun r=>[.bool r.1]) Tryz.f93 []
attribute [local irreducible] ze7
def zN0 (a0:Int):Bool :=
 (decide (97≤a0)&&decide (a0≤122))
instance zcQ3 (a0:Int):OkT 229 [.int .u8 a0] (.bool (zN0 a0)):=ok2 (fun r=>.bool r) (zN0.eq_1 a0) Tryz.f229 []
def zF1 (a0:ByteArray):Bool :=
 (((((a0.toList == (⟨#[97,108,108]⟩:ByteArray).toList)||(a0.toList == (⟨#[97,110,121]⟩:ByteArray).toList))||(a0.toList == (⟨#[111,102]⟩:ByteArray).toList))||(a0.toList == (⟨#[112,114,105,111]⟩:ByteArray).toList))||(a0.toList == (⟨#[108,105,109,105,116]⟩:ByteArray).toList))
instance zcE4 (a0:ByteArray):OkT 230 [.str a0] (.bool (zF1 a0)):=ok2 (fun r=>.bool r) (zF1.eq_1 a0) Tryz.f230 []
def zaZ1 (j1:aD):Option aD :=
 some j1
def zap1 (a0:List bG) (a1:ByteArray) (g1:Int×aD):Option ((Int×aD)⊕aD) :=
 (if (decide (g1.1 < (a0.length:Int)))=true then
  gd (0≤g1.1∧g1.1 < (a0.length:Int)) <|
  (if (((a0.getD g1.1.toNat bG.zero).name).toList == a1.toList)=true then
   gd (0≤g1.1∧g1.1 < (a0.length:Int)) <|
   some (.inl ((i64.wrap (g1.1+1)),(a0.getD g1.1.toNat bG.zero).after))
  else
   some (.inl ((i64.wrap (g1.1+1)),g1.2)))
 else
  some (.inr g1.2))
def zi5 (a0:List bG) (a1:ByteArray):Option aD :=
 (zb9 (zap1 a0 a1) (0,aD.zero)).bind (fun z=>zaZ1 z)
@[reducible,instance] def zdI0 a0 a1:=mkJ (zi5 a0 a1) 0 (@zaZ1.eq_1) fun (j1:aD)=>⟨[(4,.ptr 0 0 0),(5,.ptr 1 0 0)],[(0,bx aD.zero),(1,bx j1)],2⟩
@[reducible,instance] def zdI1 (a0:List bG) (a1:ByteArray) {T:Type} (x:T):=mkL x (@zap1.eq_1 a0 a1) fun (g1:Int×aD)=>⟨[(0,la a0),(1,.str a1),(4,.ptr 0 0 0),(5,.ptr 1 0 0),(6,.int .i64 g1.1)],[(0,bx aD.zero),(1,bx g1.2)],2⟩
instance zbT0 (a0:List bG) (a1:ByteArray):OkP (zi5 a0 a1) 185 [la a0,.str a1] (fun r=>ga r):=ok1 (zi5.eq_1 a0 a1) Tryz.f185 []
attribute [local irreducible] zi5
def zaD1 (j1:Unit):Option Bool :=
 some true
def zaD2 (a0 a1:List aM) (g1:Int):Option (Int⊕(Unit⊕Bool)) :=
 (if (decide (g1 < (a0.length:Int)))=true then
  gd (0≤g1∧g1 < (a0.length:Int)) <|
  gd (0≤g1∧g1 < (a1.length:Int)) <|
  (if (!decide (a0.getD g1.toNat aM.zero=a1.getD g1.toNat aM.zero))=true then
   some (.inr (.inr false))
  else
   some (.inl (i64.wrap (g1+1))))
 else
  some (.inr (.inl ())))
def ze8 (a0 a1:List aM):Option Bool :=
 (if (!decide ((a0.length:Int)=(a1.length:Int)))=true then
  some false
 else
  (zb9 (zaD2 a0 a1) 0).bind (fun|.inl z=>zaD1 z|.inr z=>some z))
@[reducible,instance] def zdI2 a0 a1:=mkJ (ze8 a0 a1) 0 (@zaD1.eq_1) fun (j1:Unit)=>⟨[],[],0⟩
@[reducible,instance] def zdI3 (a0 a1:List aM) {T:Type} (x:T):=mkL x (@zaD2.eq_1 a0 a1) fun (g1:Int)=>⟨[(0,la a0),(1,la a1),(5,.int .i64 g1)],[],0⟩
instance zcw0 (a0 a1:List aM):OkP (ze8 a0 a1) 139 [la a0,la a1] (fun r=>.bool r):=ok1 (ze8.eq_1 a0 a1) Tryz.f139 []
attribute [local irreducible] ze8
def zj3 (a0:bA):Option bA :=
 gd (a0.aC.length≤4294967296) <|
 gd (a0.aF.length≤4294967296) <|
 some a0
theorem zbw1 (a0 r:bA) (h:zj3 a0=some r):MFn C 152 [ga a0] [] 0 (.agg [.int .i64 r.now,.own 0 0 r.aC.length,.own 1 0 r.aF.length]) [(0,sx r.aC),(1,sx r.aF)] 2:=by
 refine zax1 Tryz.f152 [(3,1),(8,1)] [.agg [.int .i64 r.now,.own 0 0 r.aC.length,.own 1 0 r.aF.length]] fun E hG hN hK=>?_
 unfold zj3 at h
 refine za2 (za5 hG ?_)
 refine za2 ?_
 obtain ⟨hb2,h⟩:=ze1 h
 refine za5 hG ?_
 refine za2 ?_
 obtain ⟨hb1,h⟩:=ze1 h
 refine za5 hG ?_
 refine za2 (za5 hG ?_)
 refine zt4 ?_
 exact zO9 [(0,3),(1,5)] h
attribute [local irreducible] zj3
def zd7 (a0:Int) (a1:aK) (a2:aX):Option (Int×(List aA)×(List aG)×(List bJ)) :=
 gd (a2.ev.length+1≤4294967296) <|
 some (a2.c.now,a2.c.aC,a2.c.aF,(a2.ev++[{ bJ.zero with kind:=a0,aJ:=a1 }]))
instance zch6 (a0:Int) (a1:aK) (a2:aX):OkM (zd7 a0 a1 a2) 244 [.ptr 0 0 0,.int .i64 a0,ga a1] [(0,⟨false,4,aX.enc aX.zero,[[.int .i64 a2.c.now,la a2.c.aC,.own 1 0 a2.c.aF.length,.own 2 0 a2.ev.length]]⟩),(1,sx a2.c.aF),(2,sx a2.ev)] 3 (fun r=>.tup []) (fun r=>[(0,⟨false,4,aX.enc aX.zero,[[.int .i64 r.1,la r.2.1,.own 1 0 r.2.2.1.length,.own 3 0 r.2.2.2.length]]⟩),(1,sx r.2.2.1),(3,sx r.2.2.2)]) 4:=okm (zd7.eq_1 a0 a1 a2) (fun r=>[]) Tryz.f244 []
attribute [local irreducible] zd7
def zau2 (a0:List aT) (j1:(List aT)):Option ((List aT)×Bool) :=
 some (j1,decide (((j1.length:Nat):Int) < (a0.length:Int)))
def zW1 (a0:List aT) (a1:aK) (g1:Int×(List aT)):Option ((Int×(List aT))⊕(List aT)) :=
 (if (decide (g1.1 < (a0.length:Int)))=true then
  gd (0≤g1.1∧g1.1 < (a0.length:Int)) <|
  (if (!decide ((a0.getD g1.1.toNat aT.zero).aJ=a1))=true then
   gd (0≤g1.1∧g1.1 < (a0.length:Int)) <|
   gd (g1.2.length+1≤4294967296) <|
   some (.inl ((i64.wrap (g1.1+1)),(g1.2++[(a0.getD g1.1.toNat aT.zero)])))
  else
   some (.inl ((i64.wrap (g1.1+1)),g1.2)))
 else
  some (.inr g1.2))
def zg5 (a0:List aT) (a1:aK):Option ((List aT)×Bool) :=
 (zb9 (zW1 a0 a1) (0,[])).bind (fun z=>zau2 a0 z)
@[reducible,instance] def zdI4 (a0:List aT) a1:=mkJ (zg5 a0 a1) 0 (@zau2.eq_1 a0) fun (j1:(List aT))=>⟨[(0,la a0),(6,.own 0 0 j1.length)],[(0,sx j1)],1⟩
@[reducible,instance] def zdI5 (a0:List aT) (a1:aK) {T:Type} (x:T):=mkL x (@zW1.eq_1 a0 a1) fun (g1:Int×(List aT))=>⟨[(0,la a0),(3,.ptr 0 0 0),(6,.own 1 0 g1.2.length),(7,.int .i64 g1.1)],[(0,bx a1),(1,sx g1.2)],2⟩
instance zcQ4 (a0:List aT) (a1:aK):OkP (zg5 a0 a1) 285 [la a0,ga a1] (fun r=>.tup [la r.1,.bool r.2]):=ok1 (zg5.eq_1 a0 a1) Tryz.f285 [(6,1)]
attribute [local irreducible] zg5
end
end Ab
end Go.Proofs.YtfkjffmjkbkmhaaGreatDoor
