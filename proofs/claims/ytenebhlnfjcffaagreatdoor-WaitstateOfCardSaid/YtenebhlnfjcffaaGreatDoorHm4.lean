import Derived.Test.YtenebhlnfjcffaaGreatDoorHand
import Derived.Test.YtenebhlnfjcffaaGreatDoorStr
namespace Go.Proofs.YtenebhlnfjcffaaGreatDoor
namespace Ab
open IntKind (i64 u64 u8)
set_option linter.unusedSimpArgs false
set_option linter.defProp false
set_option linter.unusedVariables false
set_option maxRecDepth 100000
set_option maxHeartbeats 1000000
noncomputable section
def zp5 (a0 a1:Int):Option Int :=
 (if (decide (a1 < 1))=true then
  some 0
 else
  gd (a1≠0) <|
  (if (decide (a0.tmod a1 < 0))=true then
   some (i64.wrap (a0.tmod a1+a1))
  else
   some (a0.tmod a1)))
instance zcP2 (a0 a1:Int):OkP (zp5 a0 a1) 43 [.int .i64 a0,.int .i64 a1] (fun r=>.int .i64 r):=ok1 (zp5.eq_1 a0 a1) Tryz.f43 []
attribute [local irreducible] zp5
def zs5 (a0:Int):Bool :=
 (decide (1≤a0)&&decide (a0≤5))
instance zcH3 (a0:Int):OkT 166 [.int .i64 a0] (.bool (zs5 a0)):=ok2 (fun r=>.bool r) (zs5.eq_1 a0) Tryz.f166 []
def zaI6 (j1:Unit):Option (Int×Int×Int) :=
 some (0,0,6)
def zaI7 (a0:List Int) (g1:Int×Int):Option ((Int×Int)⊕(Unit⊕(Int×Int×Int))) :=
 (if (decide (g1.2 < 10))=true then
  (if (decide ((a0.length:Int)≤g1.2))=true then
   some (.inr (.inr (0,0,5)))
  else
   gd (0≤g1.2∧g1.2 < (a0.length:Int)) <|
   (if (decide (g1.2=9)&&decide (1 < a0.getD g1.2.toNat 0))=true then
    some (.inr (.inr (0,0,6)))
   else
    gd (0≤i64.wrap (7 * g1.2)) <|
    (if (!decide (zal5 .and .u8 (a0.getD g1.2.toNat 0) 128=0))=true then
     some (.inl ((zal5 .or .u64 g1.1 (u64.wrap (u64.wrap (zal5 .and .u8 (a0.getD g1.2.toNat 0) 127) * 2 ^ (Nat.min (i64.wrap (7 * g1.2)).toNat u64.bits)))),i64.wrap (g1.2+1)))
    else
     (if (decide (a0.getD g1.2.toNat 0=0)&&decide (0 < g1.2))=true then
      some (.inr (.inr (0,0,6)))
     else
      some (.inr (.inr ((zal5 .or .u64 g1.1 (u64.wrap (u64.wrap (zal5 .and .u8 (a0.getD g1.2.toNat 0) 127) * 2 ^ (Nat.min (i64.wrap (7 * g1.2)).toNat u64.bits)))),i64.wrap (g1.2+1),0)))))))
 else
  some (.inr (.inl ())))
def zk3 (a0:List Int):Option (Int×Int×Int) :=
 (zc6 (zaI7 a0) (0,0)).bind (fun|.inl z=>zaI6 z|.inr z=>some z)
@[reducible,instance] def zdg3 a0:=mkJ (zk3 a0) 0 (@zaI6.eq_1) fun (j1:Unit)=>⟨[],[],0⟩
@[reducible,instance] def zdg4 (a0:List Int) {T:Type} (x:T):=mkL x (@zaI7.eq_1 a0) fun (g1:Int×Int)=>⟨[(0,.sl (a0.map (eI .u8))),(5,.int .u64 g1.1),(8,.int .i64 g1.2)],[],0⟩
instance zcH4 (a0:List Int):OkP (zk3 a0) 149 [.sl (a0.map (eI .u8))] (fun r=>.tup [.int .u64 r.1,.int .i64 r.2.1,.int .i64 r.2.2]):=ok1 (zk3.eq_1 a0) Tryz.f149 []
attribute [local irreducible] zk3
def zav8 (j1:(List (ByteArray×aA))):Option (List (ByteArray×aA)) :=
 some j1
def zV9 (a0:List bB) (g1:Int×(List (ByteArray×aA))):Option ((Int×(List (ByteArray×aA)))⊕(List (ByteArray×aA))) :=
 (if (decide (g1.1 < (a0.length:Int)))=true then
  gd (0≤g1.1∧g1.1 < (a0.length:Int)) <|
  some (.inl ((i64.wrap (g1.1+1)),mput ((a0.getD g1.1.toNat bB.zero).name) ((a0.getD g1.1.toNat bB.zero).after) g1.2))
 else
  some (.inr g1.2))
def zf6 (a0:List bB):Option (List (ByteArray×aA)) :=
 (zc6 (zV9 a0) (0,[])).bind (fun z=>zav8 z)
@[reducible,instance] def zdg5 a0:=mkJ (zf6 a0) 0 (@zav8.eq_1) fun (j1:(List (ByteArray×aA)))=>⟨[(3,.mp 0)],[(0,⟨false,0,[A.str ⟨#[]⟩,A.bool true],j1.map (mS aA.enc)⟩)],1⟩
@[reducible,instance] def zdg6 (a0:List bB) {T:Type} (x:T):=mkL x (@zV9.eq_1 a0) fun (g1:Int×(List (ByteArray×aA)))=>⟨[(3,.mp 0),(7,la a0),(8,.int .i64 (a0.length:Int)),(9,.int .i64 g1.1)],[(0,⟨false,0,[A.str ⟨#[]⟩,A.bool true],g1.2.map (mS aA.enc)⟩)],1⟩
instance zaZ7 (a0:List bB):OkM (zf6 a0) 162 [la a0] [] 0 (fun r=>.mp 0) (fun r=>[(0,⟨false,0,[A.str ⟨#[]⟩,A.bool true],r.map (mS aA.enc)⟩)]) 1:=okm (zf6.eq_1 a0) (fun r=>[.mp 0]) Tryz.f162 []
attribute [local irreducible] zf6
def zf0 (a0 a1:ByteArray):Option Int:=some (Go.Lib.compareBytes a0.data.toList a1.data.toList)
theorem zaM5:Lays.n106 C.P ⟨fun|106=>229|213=>277|265=>303|n=>n,fun|3=>3|9=>9|n=>n,fun n=>n⟩ where
 mixed:=zab9
 f106:=Tryz.func229.trans (cW some (by kernel_rfl))
 f213:=Tryz.func277.trans (cW some (by kernel_rfl))
 f265:=Tryz.func303.trans (cW some (by kernel_rfl))
 t3:=Tryz.underlying3
 a3:=Tryz.isAgg3
 z3:=Tryz.sizeOf3
 v3:=Tryz.zeroValue3
 t9:=Tryz.underlying9
 a9:=Tryz.isAgg9
 z9:=Tryz.sizeOf9
 v9:=Tryz.zeroValue9
theorem zaV4 (a0 a1:ByteArray) (r:Int) (h:zf0 a0 a1=some r):PFn C 229 [.str a0,.str a1] (.int .i64 r):=by
 obtain rfl:=dG h
 exact zcm0 zaM5 rfl a0 a1
instance zbW2 (a0 a1:ByteArray):OkP (zf0 a0 a1) 229 [.str a0,.str a1] (fun r=>.int .i64 r):=⟨zaV4 a0 a1⟩
attribute [local irreducible] zf0
def zaj6 (j1:(List aC)):Option (List aC) :=
 some j1
def zM1 (a0:List aF) (g1:Int×(List aC)):Option ((Int×(List aC))⊕(List aC)) :=
 (if (decide (g1.1 < (a0.length:Int)))=true then
  gd (0≤g1.1∧g1.1 < (a0.length:Int)) <|
  gd (g1.2.length+1≤4294967296) <|
  some (.inl ((i64.wrap (g1.1+1)),(g1.2++[(a0.getD g1.1.toNat aF.zero).aB])))
 else
  some (.inr g1.2))
def zd1 (a0:List aF):Option (List aC) :=
 (zc6 (zM1 a0) (0,[])).bind (fun z=>zaj6 z)
@[reducible,instance] def zdg7 a0:=mkJ (zd1 a0) 0 (@zaj6.eq_1) fun (j1:(List aC))=>⟨[(3,.own 0 0 j1.length)],[(0,sx j1)],1⟩
@[reducible,instance] def zdg8 (a0:List aF) {T:Type} (x:T):=mkL x (@zM1.eq_1 a0) fun (g1:Int×(List aC))=>⟨[(3,.own 0 0 g1.2.length),(6,la a0),(7,.int .i64 (a0.length:Int)),(8,.int .i64 g1.1)],[(0,sx g1.2)],1⟩
instance zbR3 (a0:List aF):OkP (zd1 a0) 169 [la a0] (fun r=>la r):=ok1 (zd1.eq_1 a0) Tryz.f169 [(3,1)]
attribute [local irreducible] zd1
def zd7 (a0:Int) (a1:List aC) (a2:ByteArray):Option (Bool×(List aC)×ByteArray) :=
 gd (0≤a0∧a0 < (a1.length:Int)) <|
 some ((!Op.bytesLess ((a1.getD a0.toNat aC.zero).name).toList a2.toList),a1,a2)
instance zbM1 (a0:Int) (a1:List aC) (a2:ByteArray):OkM (zd7 a0 a1 a2) 305 [.int .i64 a0,.ptr 0 0 0,.ptr 1 0 0] [(0,⟨false,1,[A.sl ([].map aC.enc)],[[A.sl (a1.map aC.enc)]]⟩),(1,⟨false,1,[A.str ⟨#[]⟩],[[A.str a2]]⟩)] 2 (fun r=>.bool r.1) (fun r=>[(0,⟨false,1,[A.sl ([].map aC.enc)],[[A.sl (r.2.1.map aC.enc)]]⟩),(1,⟨false,1,[A.str ⟨#[]⟩],[[A.str r.2.2]]⟩)]) 2:=okm (zd7.eq_1 a0 a1 a2) (fun r=>[.bool r.1]) Tryz.f305 []
attribute [local irreducible] zd7
def zc3 (a0:aD) (a1:aF):Option (Bool×aF) :=
 some ((a0.name.toList == a1.aB.name.toList),a1)
instance zbs0 (a0:aD) (a1:aF):OkM (zc3 a0 a1) 236 [ga a0,.ptr 0 0 0] [(0,bx a1)] 1 (fun r=>.bool r.1) (fun r=>[(0,bx r.2)]) 1:=okm (zc3.eq_1 a0 a1) (fun r=>[.bool r.1]) Tryz.f236 []
attribute [local irreducible] zc3
def zC1 (j1:Unit):Option Bool :=
 some true
def zC2 (a0 a1:List aD) (g1:Int):Option (Int⊕(Unit⊕Bool)) :=
 (if (decide (g1 < (a0.length:Int)))=true then
  gd (0≤g1∧g1 < (a0.length:Int)) <|
  gd (0≤g1∧g1 < (a1.length:Int)) <|
  (if (!decide (a0.getD g1.toNat aD.zero=a1.getD g1.toNat aD.zero))=true then
   some (.inr (.inr false))
  else
   some (.inl (i64.wrap (g1+1))))
 else
  some (.inr (.inl ())))
def za6 (a0 a1:List aD):Option Bool :=
 (if (!decide ((a0.length:Int)=(a1.length:Int)))=true then
  some false
 else
  (zc6 (zC2 a0 a1) 0).bind (fun|.inl z=>zC1 z|.inr z=>some z))
@[reducible,instance] def zdg9 a0 a1:=mkJ (za6 a0 a1) 0 (@zC1.eq_1) fun (j1:Unit)=>⟨[],[],0⟩
@[reducible,instance] def zdh0 (a0 a1:List aD) {T:Type} (x:T):=mkL x (@zC2.eq_1 a0 a1) fun (g1:Int)=>⟨[(0,la a0),(1,la a1),(12,.int .i64 (a0.length:Int)),(13,.int .i64 g1)],[],0⟩
instance zaY1 (a0 a1:List aD):OkP (za6 a0 a1) 175 [la a0,la a1] (fun r=>.bool r):=ok1 (za6.eq_1 a0 a1) Tryz.f175 []
attribute [local irreducible] za6
def zI5 (a0 a1:Int):Int :=
 (if (decide (a0 < a1))=true then
  (-1)
 else
  (if (decide (a1 < a0))=true then
   1
  else
   0))
instance zcy6 (a0 a1:Int):OkT 129 [.int .i64 a0,.int .i64 a1] (.int .i64 (zI5 a0 a1)):=ok2 (fun r=>.int .i64 r) (zI5.eq_1 a0 a1) Tryz.f129 []
def zaI8 (j1:Unit):Option Int :=
 some (-1)
def zaI9 (a0:List aR) (a1:aH) (g1:Int):Option (Int⊕(Unit⊕Int)) :=
 (if (decide (g1 < (a0.length:Int)))=true then
  gd (0≤g1∧g1 < (a0.length:Int)) <|
  (if (decide ((a0.getD g1.toNat aR.zero).aN=a1))=true then
   some (.inr (.inr g1))
  else
   some (.inl (i64.wrap (g1+1))))
 else
  some (.inr (.inl ())))
def zi1 (a0:List aR) (a1:aH):Option Int :=
 (zc6 (zaI9 a0 a1) 0).bind (fun|.inl z=>zaI8 z|.inr z=>some z)
@[reducible,instance] def zdh1 a0 a1:=mkJ (zi1 a0 a1) 0 (@zaI8.eq_1) fun (j1:Unit)=>⟨[],[],0⟩
@[reducible,instance] def zdh2 (a0:List aR) (a1:aH) {T:Type} (x:T):=mkL x (@zaI9.eq_1 a0 a1) fun (g1:Int)=>⟨[(0,la a0),(3,.ptr 0 0 0),(5,.int .i64 g1)],[(0,bx a1)],1⟩
instance zcH5 (a0:List aR) (a1:aH):OkP (zi1 a0 a1) 240 [la a0,ga a1] (fun r=>.int .i64 r):=ok1 (zi1.eq_1 a0 a1) Tryz.f240 []
attribute [local irreducible] zi1
def zaf9 (j1:Unit):Option Bool :=
 some false
def zO4 (a0:List aH) (a1:aH) (g1:Int):Option (Int⊕(Unit⊕Bool)) :=
 (if (decide (g1 < (a0.length:Int)))=true then
  gd (0≤g1∧g1 < (a0.length:Int)) <|
  (if (decide (a0.getD g1.toNat aH.zero=a1))=true then
   some (.inr (.inr true))
  else
   some (.inl (i64.wrap (g1+1))))
 else
  some (.inr (.inl ())))
def zf8 (a0:List aH) (a1:aH):Option Bool :=
 (zc6 (zO4 a0 a1) 0).bind (fun|.inl z=>zaf9 z|.inr z=>some z)
@[reducible,instance] def zdh3 a0 a1:=mkJ (zf8 a0 a1) 0 (@zaf9.eq_1) fun (j1:Unit)=>⟨[],[],0⟩
@[reducible,instance] def zdh4 (a0:List aH) (a1:aH) {T:Type} (x:T):=mkL x (@zO4.eq_1 a0 a1) fun (g1:Int)=>⟨[(0,la a0),(3,.ptr 0 0 0),(5,.int .i64 g1)],[(0,bx a1)],1⟩
instance zcm1 (a0:List aH) (a1:aH):OkP (zf8 a0 a1) 180 [la a0,ga a1] (fun r=>.bool r):=ok1 (zf8.eq_1 a0 a1) Tryz.f180 []
attribute [local irreducible] zf8
def zaJ0 (j1:Int×Int):Option (Int×Int) :=
 some (j1.1,i64.wrap (j1.2+1))
def zaf3 (g1:Int×Int×Int) (v1:Int×Int) (j2:Int):Option ((Int×Int×Int)⊕((Int×Int)⊕(Int×Int))) :=
 (if (decide (24 < i64.wrap (g1.1+v1.1)))=true then
  some (.inr (.inr (25,0)))
 else
  some (.inl ((i64.wrap (g1.1+v1.1)),j2,i64.wrap (g1.2.2+1))))
def zP4 (a90:(aG→Int→Option (Int×Int))) (a0:aG) (a1:Int) (g1:Int×Int×Int):Option ((Int×Int×Int)⊕((Int×Int)⊕(Int×Int))) :=
 (if (decide (g1.2.2 < (a0.aV.length:Int)))=true then
  gd (0≤g1.2.2∧g1.2.2 < (a0.aV.length:Int)) <|
  (a90 (a0.aV.getD g1.2.2.toNat aG.zero) (i64.wrap (a1+1))).bind fun v1 =>
  (if (decide (g1.2.1 < v1.2))=true then
   zaf3 g1 v1 v1.2
  else
   zaf3 g1 v1 g1.2.1)
 else
  some (.inr (.inl (g1.1,g1.2.1))))
def zT0 (a90:(aG→Int→Option (Int×Int))) (a0:aG) (a1:Int):Option (Int×Int) :=
 (if (decide (4 < a1)||decide (24 < (a0.aV.length:Int)))=true then
  some (25,0)
 else
  (zc6 (zP4 a90 a0 a1) (1,0,0)).bind (fun|.inl z=>zaJ0 z|.inr z=>some z))
def zI6:Nat→(aG→Int→Option (Int×Int))
 | 0=>fun _ _=>none
 | n+1=>zT0 (zI6 n)
def zl9 (a0:aG) (a1:Int):Option (Int×Int):=zI6 (_root_.SizeOf.sizeOf a0+1) a0 a1
@[reducible,instance] def zdh5 (a90:(aG→Int→Option (Int×Int))) (a0:aG) (a1:Int):=mkJ (zT0 a90 a0 a1) 0 (@zaJ0.eq_1) fun (j1:Int×Int)=>⟨[(6,.int .i64 j1.1),(7,.int .i64 j1.2)],[],0⟩
@[reducible,instance] def zdh6 (a90:(aG→Int→Option (Int×Int))) (a0:aG) (a1:Int) (g1:Int×Int×Int) (v1:Int×Int):=mkJ (zP4 a90 a0 a1 g1,v1) 999 (@zaf3.eq_1 g1 v1) fun (j2:Int)=>⟨[(1,.int .i64 a1),(2,.ptr 0 0 0),(6,.int .i64 (i64.wrap (g1.1+v1.1))),(7,.int .i64 j2),(8,.int .i64 g1.2.2)],[(0,bx a0)],1⟩
@[reducible,instance] def zdh7 (a90:(aG→Int→Option (Int×Int))) (a0:aG) (a1:Int) {T:Type} (x:T):=mkL x (@zP4.eq_1 a90 a0 a1) fun (g1:Int×Int×Int)=>⟨[(1,.int .i64 a1),(2,.ptr 0 0 0),(6,.int .i64 g1.1),(7,.int .i64 g1.2.1),(8,.int .i64 g1.2.2)],[(0,bx a0)],1⟩
abbrev zau0 (g:(aG→Int→Option (Int×Int))):Prop:=∀ (a0:aG) (a1:Int),OkP (g a0 a1) 146 [.agg (aG.enc a0),.int .i64 a1] (fun r=>.tup [.int .i64 r.1,.int .i64 r.2])
theorem zbs1 (a90:(aG→Int→Option (Int×Int))) (hrc:zau0 a90):zau0 (zT0 a90):=fun a0 a1=>ok1 (zT0.eq_1 a90 a0 a1) Tryz.f146 []
theorem zbs2:∀ n,zau0 (zI6 n):=zav6 (fun _ _=>⟨fun _ h=>nomatch h⟩) fun n=>zbs1 _
instance zcH6:zau0 zl9:=fun a0 a1=>zbs2 _ a0 a1
attribute [local irreducible] zl9
def zav9 (j1:(List aC)):Option (List aC) :=
 some j1
def zW0 (a0:List aF) (g1:Int×(List aC)):Option ((Int×(List aC))⊕(List aC)) :=
 (if (decide (g1.1 < (a0.length:Int)))=true then
  gd (0≤g1.1∧g1.1 < (a0.length:Int)) <|
  gd (g1.2.length+1≤4294967296) <|
  some (.inl ((i64.wrap (g1.1+1)),(g1.2++[(a0.getD g1.1.toNat aF.zero).aB])))
 else
  some (.inr g1.2))
def zf9 (a0:List aF):Option (List aC) :=
 (zc6 (zW0 a0) (0,[])).bind (fun z=>zav9 z)
@[reducible,instance] def zdh8 a0:=mkJ (zf9 a0) 0 (@zav9.eq_1) fun (j1:(List aC))=>⟨[(3,.own 0 0 j1.length)],[(0,sx j1)],1⟩
@[reducible,instance] def zdh9 (a0:List aF) {T:Type} (x:T):=mkL x (@zW0.eq_1 a0) fun (g1:Int×(List aC))=>⟨[(0,la a0),(3,.own 0 0 g1.2.length),(4,.int .i64 g1.1)],[(0,sx g1.2)],1⟩
instance zcm2 (a0:List aF):OkP (zf9 a0) 127 [la a0] (fun r=>la r):=ok1 (zf9.eq_1 a0) Tryz.f127 [(3,1)]
attribute [local irreducible] zf9
def zT1 (j1:Unit):Option Bool :=
 some false
def zA0 (a0:aG) (a1:List aD) (a2:List Bool) (g1:Int):Option (Int⊕(Unit⊕Bool)) :=
 (if (decide (g1 < (a1.length:Int)))=true then
  gd (0≤g1∧g1 < (a1.length:Int)) <|
  (if (decide (a1.getD g1.toNat aD.zero=a0.aZ))=true then
   gd (decide (g1 < (a2.length:Int))=true→0≤g1∧g1 < (a2.length:Int)) <|
   some (.inr (.inr (decide (g1 < (a2.length:Int))&&a2.getD g1.toNat false)))
  else
   some (.inl (i64.wrap (g1+1))))
 else
  some (.inr (.inl ())))
def zaD8 (a0:aG) (j2:Int):Option Bool :=
 some (decide (a0.k≤j2))
def zN3 (a90:(aG→List aD→List Bool→Option Bool)) (a0:aG) (a1:List aD) (a2:List Bool) (g2:Int×Int):Option ((Int×Int)⊕Int) :=
 (if (decide (g2.2 < (a0.aV.length:Int)))=true then
  gd (0≤g2.2∧g2.2 < (a0.aV.length:Int)) <|
  (a90 (a0.aV.getD g2.2.toNat aG.zero) a1 a2).bind fun v1 =>
  (if v1=true then
   some (.inl ((i64.wrap (g2.1+1)),i64.wrap (g2.2+1)))
  else
   some (.inl (g2.1,i64.wrap (g2.2+1))))
 else
  some (.inr g2.1))
def zC4 (a90:(aG→List aD→List Bool→Option Bool)) (a0:aG) (a1:List aD) (a2:List Bool):Option Bool :=
 (if (decide (a0.k=0))=true then
  (zc6 (zA0 a0 a1 a2) 0).bind (fun|.inl z=>zT1 z|.inr z=>some z)
 else
  (zc6 (zN3 a90 a0 a1 a2) (0,0)).bind (fun z=>zaD8 a0 z))
def fr_ref08_holds:Nat→(aG→List aD→List Bool→Option Bool)
 | 0=>fun _ _ _=>none
 | n+1=>zC4 (fr_ref08_holds n)
def f_ref08_holds (a0:aG) (a1:List aD) (a2:List Bool):Option Bool:=fr_ref08_holds (_root_.SizeOf.sizeOf a0+1) a0 a1 a2
@[reducible,instance] def zdi0 (a90:(aG→List aD→List Bool→Option Bool)) (a0:aG) (a1:List aD) (a2:List Bool):=mkJ (zC4 a90 a0 a1 a2) 0 (@zT1.eq_1) fun (j1:Unit)=>⟨[],[],0⟩
@[reducible,instance] def zdi1 (a0:aG) (a1:List aD) (a2:List Bool) {T:Type} (x:T):=mkL x (@zA0.eq_1 a0 a1 a2) fun (g1:Int)=>⟨[(1,la a1),(2,.sl (a2.map eB)),(3,.ptr 0 0 0),(7,.int .i64 g1)],[(0,bx a0)],1⟩
@[reducible,instance] def zdi2 (a90:(aG→List aD→List Bool→Option Bool)) (a0:aG) (a1:List aD) (a2:List Bool):=mkJ (zC4 a90 a0 a1 a2) 2 (@zaD8.eq_1 a0) fun (j2:Int)=>⟨[(3,.ptr 0 0 0),(8,.int .i64 j2)],[(0,bx a0)],1⟩
@[reducible,instance] def zdi3 (a90:(aG→List aD→List Bool→Option Bool)) (a0:aG) (a1:List aD) (a2:List Bool) {T:Type} (x:T):=mkL x (@zN3.eq_1 a90 a0 a1 a2) fun (g2:Int×Int)=>⟨[(1,la a1),(2,.sl (a2.map eB)),(3,.ptr 0 0 0),(8,.int .i64 g2.1),(9,.int .i64 g2.2)],[(0,bx a0)],1⟩
abbrev zap1 (g:(aG→List aD→List Bool→Option Bool)):Prop:=∀ (a0:aG) (a1:List aD) (a2:List Bool),OkP (g a0 a1 a2) 42 [.agg (aG.enc a0),.sl (a1.map aD.enc),.sl (a2.map eB)] (fun r=>.bool r)
theorem zbk3 (a90:(aG→List aD→List Bool→Option Bool)) (hrc:zap1 a90):zap1 (zC4 a90):=fun a0 a1 a2=>ok1 (zC4.eq_1 a90 a0 a1 a2) Tryz.f42 []
theorem zbk4:∀ n,zap1 (fr_ref08_holds n):=zav6 (fun _ _ _=>⟨fun _ h=>nomatch h⟩) fun n=>zbk3 _
instance zcy7:zap1 f_ref08_holds:=fun a0 a1 a2=>zbk4 _ a0 a1 a2
attribute [local irreducible] f_ref08_holds
def zaq7 (j1:Unit):Option Bool :=
 some true
def zaq8 (a0 a1:List aT) (g1:Int):Option (Int⊕(Unit⊕Bool)) :=
 (if (decide (g1 < (a0.length:Int)))=true then
  gd (0≤g1∧g1 < (a0.length:Int)) <|
  gd (0≤g1∧g1 < (a1.length:Int)) <|
  (if (!decide (a0.getD g1.toNat aT.zero=a1.getD g1.toNat aT.zero))=true then
   some (.inr (.inr false))
  else
   some (.inl (i64.wrap (g1+1))))
 else
  some (.inr (.inl ())))
def ze5 (a0 a1:List aT):Option Bool :=
 (if (!decide ((a0.length:Int)=(a1.length:Int)))=true then
  some false
 else
  (zc6 (zaq8 a0 a1) 0).bind (fun|.inl z=>zaq7 z|.inr z=>some z))
@[reducible,instance] def zdi4 a0 a1:=mkJ (ze5 a0 a1) 0 (@zaq7.eq_1) fun (j1:Unit)=>⟨[],[],0⟩
@[reducible,instance] def zdi5 (a0 a1:List aT) {T:Type} (x:T):=mkL x (@zaq8.eq_1 a0 a1) fun (g1:Int)=>⟨[(0,la a0),(1,la a1),(5,.int .i64 g1)],[],0⟩
instance zbZ6 (a0 a1:List aT):OkP (ze5 a0 a1) 105 [la a0,la a1] (fun r=>.bool r):=ok1 (ze5.eq_1 a0 a1) Tryz.f105 []
attribute [local irreducible] ze5
def zy2 (j1:Bool):Bool :=
 (if j1=true then
  true
 else
  false)
def zG6 (a0:ByteArray):Bool :=
 (if (a0.toList == (⟨#[97,108,108]⟩:ByteArray).toList)=true then
  zy2 (a0.toList == (⟨#[97,108,108]⟩:ByteArray).toList)
 else
  (if (a0.toList == (⟨#[97,110,121]⟩:ByteArray).toList)=true then
   zy2 (a0.toList == (⟨#[97,110,121]⟩:ByteArray).toList)
  else
   (if (a0.toList == (⟨#[111,102]⟩:ByteArray).toList)=true then
    zy2 (a0.toList == (⟨#[111,102]⟩:ByteArray).toList)
   else
    (if (a0.toList == (⟨#[112,114,105,111]⟩:ByteArray).toList)=true then
     zy2 (a0.toList == (⟨#[112,114,105,111]⟩:ByteArray).toList)
    else
     zy2 (a0.toList == (⟨#[108,105,109,105,116]⟩:ByteArray).toList)))))
@[reducible,instance] def zdB4 a0:=mkJ (zG6 a0) 999 (@zy2.eq_1) fun (j1:Bool)=>⟨[(4,.bool j1)],[],0⟩
instance zbW3 (a0:ByteArray):OkT 224 [.str a0] (.bool (zG6 a0)):=ok2 (fun r=>.bool r) (zG6.eq_1 a0) Tryz.f224 []
def zk8 (a0:aC):Bool :=
 (if (decide (a0.kind=1))=true then
  (decide (a0.aP=1))
 else
  (if (decide (a0.kind=2))=true then
   (decide (1≤a0.aP)&&decide (a0.aP≤8))
  else
   false))
instance zbd0 (a0:aC):OkT 165 [.agg (aC.enc a0)] (.bool (zk8 a0)):=ok2 (fun r=>.bool r) (zk8.eq_1 a0) Tryz.f165 []
def zW1 (j1:Unit):Option Int :=
 some 0
def zn6 (a0 a1:Arr Int 3) (g1:Int):Option (Int⊕(Unit⊕Int)) :=
 (if (decide (g1 < 3))=true then
  gd (0≤g1∧g1 < 3) <|
  gd (0≤g1∧g1 < 3) <|
  (if (decide (Arr.get a0 g1.toNat 0 < Arr.get a1 g1.toNat 0))=true then
   some (.inr (.inr (-1)))
  else
   gd (0≤g1∧g1 < 3) <|
   (if (decide (Arr.get a1 g1.toNat 0 < Arr.get a0 g1.toNat 0))=true then
    some (.inr (.inr 1))
   else
    some (.inl (i64.wrap (g1+1)))))
 else
  some (.inr (.inl ())))
def zg0 (a0 a1:Arr Int 3):Option Int :=
 (zc6 (zn6 a0 a1) 0).bind (fun|.inl z=>zW1 z|.inr z=>some z)
@[reducible,instance] def zdB5 a0 a1:=mkJ (zg0 a0 a1) 0 (@zW1.eq_1) fun (j1:Unit)=>⟨[],[],0⟩
@[reducible,instance] def zdB6 (a0 a1:Arr Int 3) {T:Type} (x:T):=mkL x (@zn6.eq_1 a0 a1) fun (g1:Int)=>⟨[(3,.ptr 0 0 0),(7,.agg (Arr.enc (eI .i64) a0)),(8,.int .i64 g1)],[(0,⟨false,3,Arr.enc (eI .i64) (Arr.rep 3 0),[Arr.enc (eI .i64) a1]⟩)],1⟩
instance zcm3 (a0 a1:Arr Int 3):OkP (zg0 a0 a1) 82 [.agg (Arr.enc (eI .i64) a0),.agg (Arr.enc (eI .i64) a1)] (fun r=>.int .i64 r):=ok1 (zg0.eq_1 a0 a1) Tryz.f82 []
attribute [local irreducible] zg0
def zaM6 (j1:Unit):Option Int :=
 some (-1)
def zaa1 (a0:List aR) (a1:aH) (g1:Int):Option (Int⊕(Unit⊕Int)) :=
 (if (decide (g1 < (a0.length:Int)))=true then
  gd (0≤g1∧g1 < (a0.length:Int)) <|
  (if (decide ((a0.getD g1.toNat aR.zero).aN=a1))=true then
   some (.inr (.inr g1))
  else
   some (.inl (i64.wrap (g1+1))))
 else
  some (.inr (.inl ())))
def zl0 (a0:List aR) (a1:aH):Option Int :=
 (zc6 (zaa1 a0 a1) 0).bind (fun|.inl z=>zaM6 z|.inr z=>some z)
@[reducible,instance] def zdB7 a0 a1:=mkJ (zl0 a0 a1) 0 (@zaM6.eq_1) fun (j1:Unit)=>⟨[],[],0⟩
@[reducible,instance] def zdB8 (a0:List aR) (a1:aH) {T:Type} (x:T):=mkL x (@zaa1.eq_1 a0 a1) fun (g1:Int)=>⟨[(3,.ptr 0 0 0),(7,la a0),(8,.int .i64 (a0.length:Int)),(9,.int .i64 g1)],[(0,bx a1)],1⟩
instance zcM9 (a0:List aR) (a1:aH):OkP (zl0 a0 a1) 260 [la a0,ga a1] (fun r=>.int .i64 r):=ok1 (zl0.eq_1 a0 a1) Tryz.f260 []
attribute [local irreducible] zl0
def zaw0 (a0:Int):(Arr Bool 6) :=
 (if (decide (a0=5))=true then
  (Arr.put (Arr.put (Arr.put (Arr.put (Arr.put (Arr.rep 6 false) 5 true) 4 true) 3 true) 2 true) 1 true)
 else
  (if (decide (a0=4))=true then
   (Arr.put (Arr.put (Arr.put (Arr.put (Arr.rep 6 false) 4 true) 3 true) 2 true) 1 true)
  else
   (if (decide (a0=2))=true then
    (Arr.put (Arr.put (Arr.rep 6 false) 2 true) 1 true)
   else
    (if (decide (a0=1))=true then
     (Arr.put (Arr.rep 6 false) 1 true)
    else
     (if (decide (a0=3))=true then
      (Arr.put (Arr.put (Arr.rep 6 false) 3 true) 1 true)
     else
      (Arr.rep 6 false))))))
instance zcr8 (a0:Int):OkT 268 [.int .i64 a0] (.agg (Arr.enc eB (zaw0 a0))):=ok2 (fun r=>.agg (Arr.enc eB r)) (zaw0.eq_1 a0) Tryz.f268 []
def zad9 (a0:aD) (a1:List aD) (j1:Unit):Option (Int×(List aD)) :=
 (if (decide (((a1.length:Nat):Int)=8))=true then
  some (4,a1)
 else
  gd (a1.length+1≤4294967296) <|
  some (0,(a1++[a0])))
def zL8 (a0:aD) (a1:List aD) (g1:Int):Option (Int⊕(Unit⊕(Int×(List aD)))) :=
 (if (decide (g1 < ((a1.length:Nat):Int)))=true then
  gd (0≤g1∧g1 < ((a1.length:Nat):Int)) <|
  (if (decide (a0=a1.getD g1.toNat aD.zero))=true then
   some (.inr (.inr (0,a1)))
  else
   (if (a0.name.toList == ((a1.getD g1.toNat aD.zero).name).toList)=true then
    some (.inr (.inr (13,a1)))
   else
    some (.inl (i64.wrap (g1+1)))))
 else
  some (.inr (.inl ())))
def zf3 (a0:aD) (a1:List aD):Option (Int×(List aD)) :=
 (zc6 (zL8 a0 a1) 0).bind (fun|.inl z=>zad9 a0 a1 z|.inr z=>some z)
@[reducible,instance] def zdi6 (a0:aD) (a1:List aD):=mkJ (zf3 a0 a1) 0 (@zad9.eq_1 a0 a1) fun (j1:Unit)=>⟨[(0,.ptr 0 0 0),(3,.ptr 2 0 0)],[(0,⟨false,1,[A.sl ([].map aD.enc)],[[.own 3 0 a1.length]]⟩),(2,bx a0),(3,sx a1)],4⟩
@[reducible,instance] def zdi7 (a0:aD) (a1:List aD) {T:Type} (x:T):=mkL x (@zL8.eq_1 a0 a1) fun (g1:Int)=>⟨[(0,.ptr 0 0 0),(3,.ptr 2 0 0),(9,.own 3 0 a1.length),(10,.int .i64 ((a1.length:Nat):Int)),(11,.int .i64 g1)],[(0,⟨false,1,[A.sl ([].map aD.enc)],[[.own 3 0 a1.length]]⟩),(2,bx a0),(3,sx a1)],4⟩
instance zaV5 (a0:aD) (a1:List aD):OkM (zf3 a0 a1) 139 [.ptr 0 0 0,ga a0] [(0,⟨false,1,[A.sl ([].map aD.enc)],[[.own 1 0 a1.length]]⟩),(1,sx a1)] 2 (fun r=>.int .i64 r.1) (fun r=>[(0,⟨false,1,[A.sl ([].map aD.enc)],[[.own 2 0 r.2.length]]⟩),(2,sx r.2)]) 3:=okm (zf3.eq_1 a0 a1) (fun r=>[.int .i64 r.1]) Tryz.f139 []
attribute [local irreducible] zf3
def zW2 (j1:Int×(List Int)):Option (List Int) :=
 gd (j1.2.length+1≤4294967296) <|
 some (j1.2++[(u8.wrap j1.1)])
@[go_sem] def zcS6  (j1:Int×(List Int)):St:=⟨[(1,.int .u64 j1.1),(5,.own 0 0 j1.2.length)],[(0,⟨false,1,[A.int .u8 0],j1.2.map (eI .u8)⟩)],1⟩
def zag0 (g1:Int×(List Int)):Option ((Int×(List Int))⊕(Int×(List Int))) :=
 (if (decide (127 < g1.1))=true then
  gd (g1.2.length+1≤4294967296) <|
  some (.inl ((g1.1.fdiv (2 ^ 7)),(g1.2++[(zal5 .or .u8 (u8.wrap (zal5 .and .u64 g1.1 127)) 128)])))
 else
  some (.inr (g1.1,g1.2)))
@[go_sem] def zcS7  (g1:Int×(List Int)):St:=⟨[(1,.int .u64 g1.1),(5,.own 0 0 g1.2.length)],[(0,⟨false,1,[A.int .u8 0],g1.2.map (eI .u8)⟩)],1⟩
def zg5 (a0:List Int) (a1:Int):Option (List Int) :=
 gd (0≤0∧0≤(a0.length:Int)∧(a0.length:Int)≤(a0.length:Int)∧(a0.length:Int)=(a0.length:Int)) <|
 (if (decide (127 < a1))=true then
  gd ((a0.take ((a0.length:Int).toNat)).length+1≤4294967296) <|
  (zc6 zag0 ((a1.fdiv (2 ^ 7)),(a0.take ((a0.length:Int).toNat)++[(zal5 .or .u8 (u8.wrap (zal5 .and .u64 a1 127)) 128)]))).bind (fun z=>zW2 z)
 else
  gd ((a0.take ((a0.length:Int).toNat)).length+1≤4294967296) <|
  some (a0.take ((a0.length:Int).toNat)++[(u8.wrap a1)]))
theorem zbd1 (a0:List Int) (a1:Int) (r:(List Int)) (h:zg5 a0 a1=some r):PFn C 93 [.sl (a0.map (eI .u8)),.int .u64 a1] (.sl (r.map (eI .u8))):=by
 refine zae3 Tryz.f93 [] fun E hG hN hK=>?_
 unfold zg5 at h
 refine zb2 (zc0 hG ?_)
 refine zb2 ?_
 obtain ⟨hb5,h⟩:=zm3 h
 refine zc0 hG ?_
 refine zb2 ?_
 refine zbE0 zcS6 (fun v=>zW2 v=some r) ?_ ?_
 · intro j1 h
   unfold zW2 at h
   refine g_st ?_
   refine zb2 ?_
   obtain ⟨hb1,h⟩:=zm3 h
   refine zc0 hG ?_
   refine zy1 ?_
   exact zV4 h
 refine zcw7 (body:=zag0) (kk:=fun z=>zW2 z) (r:=r) zcS7 hK ?_ (fun x_l1 h g1 y_l1 h_l1 hx_l1=>?_)
 · refine zb2 (zb2 (zc0 hG ?_))
   refine zs2 rfl hG h (fun _ h=>?_) (fun _ h=>?_)
   · refine zr8 ?_
     refine zK3 (zb2 ?_)
     obtain ⟨hb3,h⟩:=zm3 h
     refine zc0 hG ?_
     refine zc0 hG ?_
     exact zcg4 hK [(0,0)] h
   refine zO2 ?_
   refine .inr ?_
   refine zb2 ?_
   obtain ⟨hb4,h⟩:=zm3 h
   refine zc0 hG ?_
   refine zy1 ?_
   exact zV4 h
 unfold zag0 at h_l1
 refine g_st ?_
 refine zb2 (zb2 (zc0 hG ?_))
 refine zs2 rfl hG h_l1 (fun _ h_l1=>?_) (fun _ h_l1=>?_)
 · refine zr8 ?_
   refine zK3 (zb2 ?_)
   obtain ⟨hb2,h_l1⟩:=zm3 h_l1
   refine zc0 hG ?_
   refine zc0 hG ?_
   exact zX8 hK [(0,1)] h_l1
 refine zO2 ?_
 cases h_l1
 cases hx_l1 _ rfl
 refine .inl ?_
 exact zS5 hK [(0,0)] (g1.1,g1.2) (by exact h)
instance zch7 (a0:List Int) (a1:Int):OkP (zg5 a0 a1) 93 [.sl (a0.map (eI .u8)),.int .u64 a1] (fun r=>.sl (r.map (eI .u8))):=⟨zbd1 a0 a1⟩
attribute [local irreducible] zg5
def zQ0 (j1:Int×(List Int)):Option (List Int) :=
 gd (j1.2.length+1≤4294967296) <|
 some (j1.2++[(u8.wrap j1.1)])
@[go_sem] def zcS8  (j1:Int×(List Int)):St:=⟨[(1,.int .u64 j1.1),(5,.own 0 0 j1.2.length)],[(0,⟨false,1,[A.int .u8 0],j1.2.map (eI .u8)⟩)],1⟩
def zaa2 (g1:Int×(List Int)):Option ((Int×(List Int))⊕(Int×(List Int))) :=
 (if (decide (127 < g1.1))=true then
  gd (g1.2.length+1≤4294967296) <|
  some (.inl ((g1.1.fdiv (2 ^ 7)),(g1.2++[(zal5 .or .u8 (u8.wrap (zal5 .and .u64 g1.1 127)) 128)])))
 else
  some (.inr (g1.1,g1.2)))
@[go_sem] def zcS9  (g1:Int×(List Int)):St:=⟨[(1,.int .u64 g1.1),(5,.own 0 0 g1.2.length)],[(0,⟨false,1,[A.int .u8 0],g1.2.map (eI .u8)⟩)],1⟩
def zf1 (a0:List Int) (a1:Int):Option (List Int) :=
 gd (0≤0∧0≤(a0.length:Int)∧(a0.length:Int)≤(a0.length:Int)∧(a0.length:Int)=(a0.length:Int)) <|
 (if (decide (127 < a1))=true then
  gd ((a0.take ((a0.length:Int).toNat)).length+1≤4294967296) <|
  (zc6 zaa2 ((a1.fdiv (2 ^ 7)),(a0.take ((a0.length:Int).toNat)++[(zal5 .or .u8 (u8.wrap (zal5 .and .u64 a1 127)) 128)]))).bind (fun z=>zQ0 z)
 else
  gd ((a0.take ((a0.length:Int).toNat)).length+1≤4294967296) <|
  some (a0.take ((a0.length:Int).toNat)++[(u8.wrap a1)]))
theorem zaR6 (a0:List Int) (a1:Int) (r:(List Int)) (h:zf1 a0 a1=some r):MFn C 93 [.sl (a0.map (eI .u8)),.int .u64 a1] [] 0 (.own 0 0 r.length) [(0,⟨false,1,[A.int .u8 0],r.map (eI .u8)⟩)] 1:=by
 refine zaM3 Tryz.f93 [(4,1)] [.own 0 0 r.length] fun E hG hN hK=>?_
 unfold zf1 at h
 refine zb2 (zc0 hG ?_)
 refine zb2 ?_
 obtain ⟨hb5,h⟩:=zm3 h
 refine zc0 hG ?_
 refine zb2 ?_
 refine zbE0 zcS8 (fun v=>zQ0 v=some r) ?_ ?_
 · intro j1 h
   unfold zQ0 at h
   refine g_st ?_
   refine zb2 ?_
   obtain ⟨hb1,h⟩:=zm3 h
   refine zc0 hG ?_
   refine zy1 ?_
   exact zZ9 [(0,1)] h
 refine zcw7 (body:=zaa2) (kk:=fun z=>zQ0 z) (r:=r) zcS9 hK ?_ (fun x_l1 h g1 y_l1 h_l1 hx_l1=>?_)
 · refine zb2 (zb2 (zc0 hG ?_))
   refine zs2 rfl hG h (fun _ h=>?_) (fun _ h=>?_)
   · refine zr8 ?_
     refine zK3 (zb2 ?_)
     obtain ⟨hb3,h⟩:=zm3 h
     refine zc0 hG ?_
     refine zc0 hG ?_
     exact zcg4 hK [(0,1)] h
   refine zO2 ?_
   refine .inr ?_
   refine zb2 ?_
   obtain ⟨hb4,h⟩:=zm3 h
   refine zc0 hG ?_
   refine zy1 ?_
   exact zZ9 [(0,1)] h
 unfold zaa2 at h_l1
 refine g_st ?_
 refine zb2 (zb2 (zc0 hG ?_))
 refine zs2 rfl hG h_l1 (fun _ h_l1=>?_) (fun _ h_l1=>?_)
 · refine zr8 ?_
   refine zK3 (zb2 ?_)
   obtain ⟨hb2,h_l1⟩:=zm3 h_l1
   refine zc0 hG ?_
   refine zc0 hG ?_
   exact zX8 hK [(0,1)] h_l1
 refine zO2 ?_
 cases h_l1
 cases hx_l1 _ rfl
 refine .inl ?_
 exact zS5 hK [(0,0)] (g1.1,g1.2) (by exact h)
instance zbW4 (a0:List Int) (a1:Int):OkM (zf1 a0 a1) 93 [.sl (a0.map (eI .u8)),.int .u64 a1] [] 0 (fun r=>.own 0 0 r.length) (fun r=>[(0,⟨false,1,[A.int .u8 0],r.map (eI .u8)⟩)]) 1:=⟨zaR6 a0 a1⟩
attribute [local irreducible] zf1
def zM6 (j1:Unit):Option Bool :=
 some true
def zM7 (a0 a1:List aR) (g1:Int):Option (Int⊕(Unit⊕Bool)) :=
 (if (decide (g1 < (a0.length:Int)))=true then
  gd (0≤g1∧g1 < (a0.length:Int)) <|
  gd (0≤g1∧g1 < (a1.length:Int)) <|
  (if (!decide (a0.getD g1.toNat aR.zero=a1.getD g1.toNat aR.zero))=true then
   some (.inr (.inr false))
  else
   some (.inl (i64.wrap (g1+1))))
 else
  some (.inr (.inl ())))
def zb0 (a0 a1:List aR):Option Bool :=
 (if (!decide ((a0.length:Int)=(a1.length:Int)))=true then
  some false
 else
  (zc6 (zM7 a0 a1) 0).bind (fun|.inl z=>zM6 z|.inr z=>some z))
@[reducible,instance] def zdi8 a0 a1:=mkJ (zb0 a0 a1) 0 (@zM6.eq_1) fun (j1:Unit)=>⟨[],[],0⟩
@[reducible,instance] def zdi9 (a0 a1:List aR) {T:Type} (x:T):=mkL x (@zM7.eq_1 a0 a1) fun (g1:Int)=>⟨[(0,la a0),(1,la a1),(12,.int .i64 (a0.length:Int)),(13,.int .i64 g1)],[],0⟩
instance zai3 (a0 a1:List aR):OkP (zb0 a0 a1) 100 [la a0,la a1] (fun r=>.bool r):=ok1 (zb0.eq_1 a0 a1) Tryz.f100 []
attribute [local irreducible] zb0
def zv5 (j1:Unit):Option Bool :=
 some true
def zo5 (a90:(aG→aG→Option Bool)) (a0 a1:List aG) (g1:Int):Option (Int⊕(Unit⊕Bool)) :=
 (if (decide (g1 < (a0.length:Int)))=true then
  gd (0≤g1∧g1 < (a0.length:Int)) <|
  gd (0≤g1∧g1 < (a1.length:Int)) <|
  (a90 (a0.getD g1.toNat aG.zero) (a1.getD g1.toNat aG.zero)).bind fun v1 =>
  (if (!v1)=true then
   some (.inr (.inr false))
  else
   some (.inl (i64.wrap (g1+1))))
 else
  some (.inr (.inl ())))
def za0 (a90:(aG→aG→Option Bool)) (a0 a1:List aG):Option Bool :=
 (if (!decide ((a0.length:Int)=(a1.length:Int)))=true then
  some false
 else
  (zc6 (zo5 a90 a0 a1) 0).bind (fun|.inl z=>zv5 z|.inr z=>some z))
@[reducible,instance] def zdj0 (a90:(aG→aG→Option Bool)) (a0 a1:List aG):=mkJ (za0 a90 a0 a1) 0 (@zv5.eq_1) fun (j1:Unit)=>⟨[],[],0⟩
@[reducible,instance] def zdj1 (a90:(aG→aG→Option Bool)) (a0 a1:List aG) {T:Type} (x:T):=mkL x (@zo5.eq_1 a90 a0 a1) fun (g1:Int)=>⟨[(1,la a1),(2,.clo 101 []),(15,la a0),(16,.int .i64 (a0.length:Int)),(17,.int .i64 g1)],[],0⟩
theorem zG7 (a90:(aG→aG→Option Bool)) (hrc:∀ (a0:aG) (a1:aG) (r:Bool),a90 a0 a1=some r→PFn C 101 [ga a0,ga a1] (.bool r)) (a0 a1:List aG) (r:Bool) (h:za0 a90 a0 a1=some r):MFn C 154 [la a0,la a1,.clo 101 []] [] 0 (.bool r) [] 0:=by
 refine zaM3 Tryz.f154 [] [.bool r] fun E hG hN hK=>?_
 have hm:Mk (za0 a90 a0 a1):=trivial
 unfold za0 at h
 exact gogo
attribute [local irreducible] za0
def zaz8 (j1:Unit):Option Int :=
 some (-1)
def zY5 (a0:List bI) (a1 g1:Int):Option (Int⊕(Unit⊕Int)) :=
 (if (decide (g1 < (a0.length:Int)))=true then
  gd (0≤g1∧g1 < (a0.length:Int)) <|
  (if (decide ((a0.getD g1.toNat bI.zero).label=a1))=true then
   some (.inr (.inr g1))
  else
   some (.inl (i64.wrap (g1+1))))
 else
  some (.inr (.inl ())))
def zh0 (a0:List bI) (a1:Int):Option Int :=
 (zc6 (zY5 a0 a1) 0).bind (fun|.inl z=>zaz8 z|.inr z=>some z)
@[reducible,instance] def zdj2 a0 a1:=mkJ (zh0 a0 a1) 0 (@zaz8.eq_1) fun (j1:Unit)=>⟨[],[],0⟩
@[reducible,instance] def zdj3 (a0:List bI) (a1:Int) {T:Type} (x:T):=mkL x (@zY5.eq_1 a0 a1) fun (g1:Int)=>⟨[(1,.int .i64 a1),(7,la a0),(8,.int .i64 (a0.length:Int)),(9,.int .i64 g1)],[],0⟩
instance zcr9 (a0:List bI) (a1:Int):OkP (zh0 a0 a1) 227 [la a0,.int .i64 a1] (fun r=>.int .i64 r):=ok1 (zh0.eq_1 a0 a1) Tryz.f227 []
attribute [local irreducible] zh0
def zE6 (a0:aC):Bool :=
 ((decide (a0.kind=1)&&decide (a0.aP=1))||((decide (a0.kind=2)&&decide (1≤a0.aP))&&decide (a0.aP≤8)))
instance zcs0 (a0:aC):OkT 185 [.agg (aC.enc a0)] (.bool (zE6 a0)):=ok2 (fun r=>.bool r) (zE6.eq_1 a0) Tryz.f185 []
def zx8 (a0:Int):Bool :=
 (decide (1≤a0)&&decide (a0≤5))
instance zcy8 (a0:Int):OkT 186 [.int .i64 a0] (.bool (zx8 a0)):=ok2 (fun r=>.bool r) (zx8.eq_1 a0) Tryz.f186 []
def zl2 (a0:aF):Option (aR×Bool) :=
 (if (decide (0 < (a0.aL.length:Int)))=true then
  gd (0≤0∧0 < (a0.aL.length:Int)) <|
  some ((a0.aL.getD 0 aR.zero),true)
 else
  (if (decide (0 < (a0.aS.length:Int)))=true then
   gd (0≤0∧0 < (a0.aS.length:Int)) <|
   some ((a0.aS.getD 0 aR.zero),true)
  else
   some ({ aR.zero with  },false)))
instance zcH7 (a0:aF):OkP (zl2 a0) 287 [ga a0] (fun r=>.tup [ga r.1,.bool r.2]):=ok1 (zl2.eq_1 a0) Tryz.f287 []
attribute [local irreducible] zl2
def zaJ1 (j1:Unit):Option Int :=
 some (-1)
def zaf4 (a0:List bI) (a1 g1:Int):Option (Int⊕(Unit⊕Int)) :=
 (if (decide (g1 < (a0.length:Int)))=true then
  gd (0≤g1∧g1 < (a0.length:Int)) <|
  (if (decide ((a0.getD g1.toNat bI.zero).label=a1))=true then
   some (.inr (.inr g1))
  else
   some (.inl (i64.wrap (g1+1))))
 else
  some (.inr (.inl ())))
def zk4 (a0:List bI) (a1:Int):Option Int :=
 (zc6 (zaf4 a0 a1) 0).bind (fun|.inl z=>zaJ1 z|.inr z=>some z)
@[reducible,instance] def zdj4 a0 a1:=mkJ (zk4 a0 a1) 0 (@zaJ1.eq_1) fun (j1:Unit)=>⟨[],[],0⟩
@[reducible,instance] def zdj5 (a0:List bI) (a1:Int) {T:Type} (x:T):=mkL x (@zaf4.eq_1 a0 a1) fun (g1:Int)=>⟨[(0,la a0),(1,.int .i64 a1),(5,.int .i64 g1)],[],0⟩
instance zcH8 (a0:List bI) (a1:Int):OkP (zk4 a0 a1) 184 [la a0,.int .i64 a1] (fun r=>.int .i64 r):=ok1 (zk4.eq_1 a0 a1) Tryz.f184 []
attribute [local irreducible] zk4
def zaa3 (j1:Unit):Option Bool :=
 some true
def zaa4 (a0 a1:List aD) (g1:Int):Option (Int⊕(Unit⊕Bool)) :=
 (if (decide (g1 < (a0.length:Int)))=true then
  gd (0≤g1∧g1 < (a0.length:Int)) <|
  gd (0≤g1∧g1 < (a1.length:Int)) <|
  (if (!decide (a0.getD g1.toNat aD.zero=a1.getD g1.toNat aD.zero))=true then
   some (.inr (.inr false))
  else
   some (.inl (i64.wrap (g1+1))))
 else
  some (.inr (.inl ())))
def ze4 (a0 a1:List aD):Option Bool :=
 (if (!decide ((a0.length:Int)=(a1.length:Int)))=true then
  some false
 else
  (zc6 (zaa4 a0 a1) 0).bind (fun|.inl z=>zaa3 z|.inr z=>some z))
@[reducible,instance] def zdj6 a0 a1:=mkJ (ze4 a0 a1) 0 (@zaa3.eq_1) fun (j1:Unit)=>⟨[],[],0⟩
@[reducible,instance] def zdj7 (a0 a1:List aD) {T:Type} (x:T):=mkL x (@zaa4.eq_1 a0 a1) fun (g1:Int)=>⟨[(0,la a0),(1,la a1),(5,.int .i64 g1)],[],0⟩
instance zbZ7 (a0 a1:List aD):OkP (ze4 a0 a1) 122 [la a0,la a1] (fun r=>.bool r):=ok1 (ze4.eq_1 a0 a1) Tryz.f122 []
attribute [local irreducible] ze4
end
end Ab
end Go.Proofs.YtenebhlnfjcffaaGreatDoor
