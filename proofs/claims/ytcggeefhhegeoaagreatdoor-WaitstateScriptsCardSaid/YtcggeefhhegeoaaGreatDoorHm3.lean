import Derived.Test.YtcggeefhhegeoaaGreatDoorAuto
import Derived.Test.YtcggeefhhegeoaaGreatDoorHand
namespace Go.Proofs.YtcggeefhhegeoaaGreatDoor
namespace Ab
open IntKind (i64 u64 u8)
set_option linter.unusedSimpArgs false
set_option linter.unusedVariables false
set_option linter.defProp false
set_option maxRecDepth 100000
set_option maxHeartbeats 1000000
noncomputable section
def zB6 (j1:Bool):Bool :=
 (if j1=true then
  true
 else
  false)
def zN1 (a0:ByteArray):Bool :=
 (if (a0.toList == (⟨#[97,108,108]⟩:ByteArray).toList)=true then
  zB6 (a0.toList == (⟨#[97,108,108]⟩:ByteArray).toList)
 else
  (if (a0.toList == (⟨#[97,110,121]⟩:ByteArray).toList)=true then
   zB6 (a0.toList == (⟨#[97,110,121]⟩:ByteArray).toList)
  else
   (if (a0.toList == (⟨#[111,102]⟩:ByteArray).toList)=true then
    zB6 (a0.toList == (⟨#[111,102]⟩:ByteArray).toList)
   else
    (if (a0.toList == (⟨#[112,114,105,111]⟩:ByteArray).toList)=true then
     zB6 (a0.toList == (⟨#[112,114,105,111]⟩:ByteArray).toList)
    else
     zB6 (a0.toList == (⟨#[108,105,109,105,116]⟩:ByteArray).toList)))))
@[reducible,instance] def zeb8 a0:=mkJ (zN1 a0) 999 (@zB6.eq_1) fun (j1:Bool)=>⟨[(4,.bool j1)],[],0⟩
instance zcu2 (a0:ByteArray):OkT 230 [.str a0] (.bool (zN1 a0)):=ok2 (fun r=>.bool r) (zN1.eq_1 a0) Tryz.f230 []
def zg3 (a0:Resource):Bool :=
 (if (decide (a0.kind=1))=true then
  (decide (a0.units=1))
 else
  (if (decide (a0.kind=2))=true then
   (decide (1≤a0.units)&&decide (a0.units≤8))
  else
   false))
instance zbw2 (a0:Resource):OkT 223 [.agg (Resource.enc a0)] (.bool (zg3 a0)):=ok2 (fun r=>.bool r) (zg3.eq_1 a0) Tryz.f223 []
def zaf4 (j1:Unit):Option Int :=
 some 0
def zo3 (a0 a1:Arr Int 3) (g1:Int):Option (Int⊕(Unit⊕Int)) :=
 (if (decide (g1 < 3))=true then
  gd (0≤g1∧g1 < 3) <|
  gd (0≤g1∧g1 < 3) <|
  (if (decide (Arr.get a0 g1.toNat 0 < Arr.get a1 g1.toNat 0))=true then
   some (.inr (.inr (-1)))
  else
   gd (0≤g1∧g1 < 3) <|
   (if (decide (Arr.get a1 g1.toNat 0 < Arr.get a0 g1.toNat 0))=true then
    some (.inr (.inr 1))
   else
    some (.inl (i64.wrap (g1+1)))))
 else
  some (.inr (.inl ())))
def zg9 (a0 a1:Arr Int 3):Option Int :=
 (zc0 (zo3 a0 a1) 0).bind (fun|.inl z=>zaf4 z|.inr z=>some z)
@[reducible,instance] def zeb9 a0 a1:=mkJ (zg9 a0 a1) 0 (@zaf4.eq_1) fun (j1:Unit)=>⟨[],[],0⟩
@[reducible,instance] def zec0 (a0 a1:Arr Int 3) {T:Type} (x:T):=mkL x (@zo3.eq_1 a0 a1) fun (g1:Int)=>⟨[(3,.ptr 0 0 0),(7,.agg (Arr.enc (eI .i64) a0)),(8,.int .i64 g1)],[(0,⟨false,3,Arr.enc (eI .i64) (Arr.rep 3 0),[Arr.enc (eI .i64) a1]⟩)],1⟩
instance zcK7 (a0 a1:Arr Int 3):OkP (zg9 a0 a1) 110 [.agg (Arr.enc (eI .i64) a0),.agg (Arr.enc (eI .i64) a1)] (fun r=>.int .i64 r):=ok1 (zg9.eq_1 a0 a1) Tryz.f110 []
attribute [local irreducible] zg9
def zao2 (a0:Atom) (a1:List Atom) (j1:Unit):Option (Int×(List Atom)) :=
 (if (decide (((a1.length:Nat):Int)=8))=true then
  some (4,a1)
 else
  gd (a1.length+1≤4294967296) <|
  some (0,(a1++[a0])))
def zS6 (a0:Atom) (a1:List Atom) (g1:Int):Option (Int⊕(Unit⊕(Int×(List Atom)))) :=
 (if (decide (g1 < ((a1.length:Nat):Int)))=true then
  gd (0≤g1∧g1 < ((a1.length:Nat):Int)) <|
  (if (decide (a0=a1.getD g1.toNat Atom.zero))=true then
   some (.inr (.inr (0,a1)))
  else
   (if (a0.name.toList == ((a1.getD g1.toNat Atom.zero).name).toList)=true then
    some (.inr (.inr (13,a1)))
   else
    some (.inl (i64.wrap (g1+1)))))
 else
  some (.inr (.inl ())))
def zf5 (a0:Atom) (a1:List Atom):Option (Int×(List Atom)) :=
 (zc0 (zS6 a0 a1) 0).bind (fun|.inl z=>zao2 a0 a1 z|.inr z=>some z)
@[reducible,instance] def zdE8 (a0:Atom) (a1:List Atom):=mkJ (zf5 a0 a1) 0 (@zao2.eq_1 a0 a1) fun (j1:Unit)=>⟨[(0,.ptr 0 0 0),(3,.ptr 2 0 0)],[(0,⟨false,1,[A.sl ([].map Atom.enc)],[[.own 3 0 a1.length]]⟩),(2,bx a0),(3,sx a1)],4⟩
@[reducible,instance] def zdE9 (a0:Atom) (a1:List Atom) {T:Type} (x:T):=mkL x (@zS6.eq_1 a0 a1) fun (g1:Int)=>⟨[(0,.ptr 0 0 0),(3,.ptr 2 0 0),(9,.own 3 0 a1.length),(10,.int .i64 ((a1.length:Nat):Int)),(11,.int .i64 g1)],[(0,⟨false,1,[A.sl ([].map Atom.enc)],[[.own 3 0 a1.length]]⟩),(2,bx a0),(3,sx a1)],4⟩
instance zbn0 (a0:Atom) (a1:List Atom):OkM (zf5 a0 a1) 144 [.ptr 0 0 0,ga a0] [(0,⟨false,1,[A.sl ([].map Atom.enc)],[[.own 1 0 a1.length]]⟩),(1,sx a1)] 2 (fun r=>.int .i64 r.1) (fun r=>[(0,⟨false,1,[A.sl ([].map Atom.enc)],[[.own 2 0 r.2.length]]⟩),(2,sx r.2)]) 3:=okm (zf5.eq_1 a0 a1) (fun r=>[.int .i64 r.1]) Tryz.f144 []
attribute [local irreducible] zf5
def zaD1 (j1:(List Proc)):Option (List Proc) :=
 some j1
def zaD2 (a0:List Hold) (g1:Int×(List Proc)):Option ((Int×(List Proc))⊕(List Proc)) :=
 (if (decide (g1.1 < (a0.length:Int)))=true then
  gd (0≤g1.1∧g1.1 < (a0.length:Int)) <|
  gd (g1.2.length+1≤4294967296) <|
  some (.inl ((i64.wrap (g1.1+1)),(g1.2++[(a0.getD g1.1.toNat Hold.zero).proc])))
 else
  some (.inr g1.2))
def ze3 (a0:List Hold):Option (List Proc) :=
 (zc0 (zaD2 a0) (0,[])).bind (fun z=>zaD1 z)
@[reducible,instance] def zdF0 a0:=mkJ (ze3 a0) 0 (@zaD1.eq_1) fun (j1:(List Proc))=>⟨[(3,.own 0 0 j1.length)],[(0,sx j1)],1⟩
@[reducible,instance] def zdF1 (a0:List Hold) {T:Type} (x:T):=mkL x (@zaD2.eq_1 a0) fun (g1:Int×(List Proc))=>⟨[(3,.own 0 0 g1.2.length),(6,la a0),(7,.int .i64 (a0.length:Int)),(8,.int .i64 g1.1)],[(0,sx g1.2)],1⟩
instance zcu3 (a0:List Hold):OkM (ze3 a0) 145 [la a0] [] 0 (fun r=>.own 0 0 r.length) (fun r=>[(0,sx r)]) 1:=okm (ze3.eq_1 a0) (fun r=>[.own 0 0 r.length]) Tryz.f145 [(2,1),(3,1)]
attribute [local irreducible] ze3
def zb0 (a0:Int):Option (List Wait):=gd (0≤a0∧a0≤4294967296) (some [])
theorem zar1:Lays8.n4 C.P ⟨fun|4=>167|n=>n,fun|22=>70|25=>110|n=>n,fun n=>n⟩ where
 mixed:=zL7
 f4:=⟨ "slices.Grow[[]clusterlocks/api.Wait,clusterlocks/api.Wait]",by decide,Tryz.func167.trans (congrArg some (by kernel_rfl))⟩
 t0:=Tryz.underlying0
 a0:=Tryz.isAgg0
 z0:=Tryz.sizeOf0
 v0:=Tryz.zeroValue0
 t3:=Tryz.underlying3
 a3:=Tryz.isAgg3
 z3:=Tryz.sizeOf3
 v3:=Tryz.zeroValue3
 t4:=Tryz.underlying4
 a4:=Tryz.isAgg4
 z4:=Tryz.sizeOf4
 v4:=Tryz.zeroValue4
 t9:=Tryz.underlying9
 a9:=Tryz.isAgg9
 z9:=Tryz.sizeOf9
 v9:=Tryz.zeroValue9
 t20:=Tryz.underlying20
 a20:=Tryz.isAgg20
 z20:=Tryz.sizeOf20
 v20:=Tryz.zeroValue20
 t22:=Tryz.underlying70
 a22:=Tryz.isAgg70
 z22:=Tryz.sizeOf70
 v22:=Tryz.zeroValue70
theorem zap0 (a0:Int) (r:List Wait) (h:zb0 a0=some r):MFn C 167 [.full [],.int .i64 a0] [] 0 (.own 0 0 r.length) [(0,sx r)] 1:=by
 obtain ⟨⟨h0,h1⟩,h⟩:=zg5 h
 obtain rfl:=Option.some.inj h
 exact zcW5 zar1 (by kernel_rfl) rfl _ a0 h0 h1
attribute [local irreducible] zb0
def zT3 (j1:Unit):Option Bool :=
 some true
def zz7 (a0 a1:List Hold) (g1:Int):Option (Int⊕(Unit⊕Bool)) :=
 (if (decide (g1 < (a0.length:Int)))=true then
  gd (0≤g1∧g1 < (a0.length:Int)) <|
  gd (0≤g1∧g1 < (a1.length:Int)) <|
  (if (!decide (a0.getD g1.toNat Hold.zero=a1.getD g1.toNat Hold.zero))=true then
   some (.inr (.inr false))
  else
   some (.inl (i64.wrap (g1+1))))
 else
  some (.inr (.inl ())))
def za8 (a0 a1:List Hold):Option Bool :=
 (if (!decide ((a0.length:Int)=(a1.length:Int)))=true then
  some false
 else
  (zc0 (zz7 a0 a1) 0).bind (fun|.inl z=>zT3 z|.inr z=>some z))
@[reducible,instance] def zdF2 a0 a1:=mkJ (za8 a0 a1) 0 (@zT3.eq_1) fun (j1:Unit)=>⟨[],[],0⟩
@[reducible,instance] def zdF3 (a0 a1:List Hold) {T:Type} (x:T):=mkL x (@zz7.eq_1 a0 a1) fun (g1:Int)=>⟨[(0,la a0),(1,la a1),(12,.int .i64 (a0.length:Int)),(13,.int .i64 g1)],[],0⟩
instance zau1 (a0 a1:List Hold):OkP (za8 a0 a1) 124 [la a0,la a1] (fun r=>.bool r):=ok1 (za8.eq_1 a0 a1) Tryz.f124 []
attribute [local irreducible] za8
def zH0 (a0:ByteArray):Bool :=
 (((((a0.toList == (⟨#[97,108,108]⟩:ByteArray).toList)||(a0.toList == (⟨#[97,110,121]⟩:ByteArray).toList))||(a0.toList == (⟨#[111,102]⟩:ByteArray).toList))||(a0.toList == (⟨#[112,114,105,111]⟩:ByteArray).toList))||(a0.toList == (⟨#[108,105,109,105,116]⟩:ByteArray).toList))
instance zcF4 (a0:ByteArray):OkT 221 [.str a0] (.bool (zH0 a0)):=ok2 (fun r=>.bool r) (zH0.eq_1 a0) Tryz.f221 []
def zJ0 (a0:Resource):Bool :=
 ((decide (a0.kind=1)&&decide (a0.units=1))||((decide (a0.kind=2)&&decide (1≤a0.units))&&decide (a0.units≤8)))
instance zcQ8 (a0:Resource):OkT 195 [.agg (Resource.enc a0)] (.bool (zJ0 a0)):=ok2 (fun r=>.bool r) (zJ0.eq_1 a0) Tryz.f195 []
def zar2 (j1:(List Amount)):Option (List Amount) :=
 some j1
def zV0 (a0:List Hold) (g1:Int×(List Amount)):Option ((Int×(List Amount))⊕(List Amount)) :=
 (if (decide (g1.1 < (a0.length:Int)))=true then
  gd (0≤g1.1∧g1.1 < (a0.length:Int)) <|
  gd (g1.2.length+1≤4294967296) <|
  some (.inl ((i64.wrap (g1.1+1)),(g1.2++[(a0.getD g1.1.toNat Hold.zero).amount])))
 else
  some (.inr g1.2))
def zh0 (a0:List Hold):Option (List Amount) :=
 (zc0 (zV0 a0) (0,[])).bind (fun z=>zar2 z)
@[reducible,instance] def zdF4 a0:=mkJ (zh0 a0) 0 (@zar2.eq_1) fun (j1:(List Amount))=>⟨[(3,.own 0 0 j1.length)],[(0,sx j1)],1⟩
@[reducible,instance] def zdF5 (a0:List Hold) {T:Type} (x:T):=mkL x (@zV0.eq_1 a0) fun (g1:Int×(List Amount))=>⟨[(0,la a0),(3,.own 0 0 g1.2.length),(4,.int .i64 g1.1)],[(0,sx g1.2)],1⟩
instance zcK8 (a0:List Hold):OkP (zh0 a0) 258 [la a0] (fun r=>la r):=ok1 (zh0.eq_1 a0) Tryz.f258 [(3,1)]
attribute [local irreducible] zh0
def zm0 (a0:Amount):Bool :=
 (decide (a0={ Amount.zero with  }))
instance zbU7 (a0:Amount):OkT 198 [.agg (Amount.enc a0)] (.bool (zm0 a0)):=ok2 (fun r=>.bool r) (zm0.eq_1 a0) Tryz.f198 []
def zaR3 (j1:Unit):Option Int :=
 some (-1)
def zal7 (a0:List Proce) (a1:Proc) (g1:Int):Option (Int⊕(Unit⊕Int)) :=
 (if (decide (g1 < (a0.length:Int)))=true then
  gd (0≤g1∧g1 < (a0.length:Int)) <|
  (if (decide ((a0.getD g1.toNat Proce.zero).proc=a1))=true then
   some (.inr (.inr g1))
  else
   some (.inl (i64.wrap (g1+1))))
 else
  some (.inr (.inl ())))
def zi4 (a0:List Proce) (a1:Proc):Option Int :=
 (zc0 (zal7 a0 a1) 0).bind (fun|.inl z=>zaR3 z|.inr z=>some z)
@[reducible,instance] def zdF6 a0 a1:=mkJ (zi4 a0 a1) 0 (@zaR3.eq_1) fun (j1:Unit)=>⟨[],[],0⟩
@[reducible,instance] def zdF7 (a0:List Proce) (a1:Proc) {T:Type} (x:T):=mkL x (@zal7.eq_1 a0 a1) fun (g1:Int)=>⟨[(0,la a0),(3,.ptr 0 0 0),(5,.int .i64 g1)],[(0,bx a1)],1⟩
instance zcW6 (a0:List Proce) (a1:Proc):OkP (zi4 a0 a1) 115 [la a0,ga a1] (fun r=>.int .i64 r):=ok1 (zi4.eq_1 a0 a1) Tryz.f115 []
attribute [local irreducible] zi4
def zaD3 (j1:Unit):Option Bool :=
 some true
def zaD4 (a0 a1:List Atom) (g1:Int):Option (Int⊕(Unit⊕Bool)) :=
 (if (decide (g1 < (a0.length:Int)))=true then
  gd (0≤g1∧g1 < (a0.length:Int)) <|
  gd (0≤g1∧g1 < (a1.length:Int)) <|
  (if (!decide (a0.getD g1.toNat Atom.zero=a1.getD g1.toNat Atom.zero))=true then
   some (.inr (.inr false))
  else
   some (.inl (i64.wrap (g1+1))))
 else
  some (.inr (.inl ())))
def ze4 (a0 a1:List Atom):Option Bool :=
 (if (!decide ((a0.length:Int)=(a1.length:Int)))=true then
  some false
 else
  (zc0 (zaD4 a0 a1) 0).bind (fun|.inl z=>zaD3 z|.inr z=>some z))
@[reducible,instance] def zdF8 a0 a1:=mkJ (ze4 a0 a1) 0 (@zaD3.eq_1) fun (j1:Unit)=>⟨[],[],0⟩
@[reducible,instance] def zdF9 (a0 a1:List Atom) {T:Type} (x:T):=mkL x (@zaD4.eq_1 a0 a1) fun (g1:Int)=>⟨[(0,la a0),(1,la a1),(5,.int .i64 g1)],[],0⟩
instance zcx2 (a0 a1:List Atom):OkP (ze4 a0 a1) 153 [la a0,la a1] (fun r=>.bool r):=ok1 (ze4.eq_1 a0 a1) Tryz.f153 []
attribute [local irreducible] ze4
def zaZ0 (j1:Int×Int):Option (Int×Int) :=
 some (j1.1,i64.wrap (j1.2+1))
def zaq3 (g1:Int×Int×Int) (v1:Int×Int) (j2:Int):Option ((Int×Int×Int)⊕((Int×Int)⊕(Int×Int))) :=
 (if (decide (24 < i64.wrap (g1.1+v1.1)))=true then
  some (.inr (.inr (25,0)))
 else
  some (.inl ((i64.wrap (g1.1+v1.1)),j2,i64.wrap (g1.2.2+1))))
def zX5 (a90:(Expr→Int→Option (Int×Int))) (a0:Expr) (a1:Int) (g1:Int×Int×Int):Option ((Int×Int×Int)⊕((Int×Int)⊕(Int×Int))) :=
 (if (decide (g1.2.2 < (a0.kids.length:Int)))=true then
  gd (0≤g1.2.2∧g1.2.2 < (a0.kids.length:Int)) <|
  (a90 (a0.kids.getD g1.2.2.toNat Expr.zero) (i64.wrap (a1+1))).bind fun v1 =>
  (if (decide (g1.2.1 < v1.2))=true then
   zaq3 g1 v1 v1.2
  else
   zaq3 g1 v1 g1.2.1)
 else
  some (.inr (.inl (g1.1,g1.2.1))))
def zac3 (a90:(Expr→Int→Option (Int×Int))) (a0:Expr) (a1:Int):Option (Int×Int) :=
 (if (decide (4 < a1)||decide (24 < (a0.kids.length:Int)))=true then
  some (25,0)
 else
  (zc0 (zX5 a90 a0 a1) (1,0,0)).bind (fun|.inl z=>zaZ0 z|.inr z=>some z))
def zO4:Nat→(Expr→Int→Option (Int×Int))
 | 0=>fun _ _=>none
 | n+1=>zac3 (zO4 n)
def zn1 (a0:Expr) (a1:Int):Option (Int×Int):=zO4 (_root_.SizeOf.sizeOf a0+1) a0 a1
@[reducible,instance] def zdG0 (a90:(Expr→Int→Option (Int×Int))) (a0:Expr) (a1:Int):=mkJ (zac3 a90 a0 a1) 0 (@zaZ0.eq_1) fun (j1:Int×Int)=>⟨[(6,.int .i64 j1.1),(7,.int .i64 j1.2)],[],0⟩
@[reducible,instance] def zdG1 (a90:(Expr→Int→Option (Int×Int))) (a0:Expr) (a1:Int) (g1:Int×Int×Int) (v1:Int×Int):=mkJ (zX5 a90 a0 a1 g1,v1) 999 (@zaq3.eq_1 g1 v1) fun (j2:Int)=>⟨[(1,.int .i64 a1),(2,.ptr 0 0 0),(6,.int .i64 (i64.wrap (g1.1+v1.1))),(7,.int .i64 j2),(8,.int .i64 g1.2.2)],[(0,bx a0)],1⟩
@[reducible,instance] def zdG2 (a90:(Expr→Int→Option (Int×Int))) (a0:Expr) (a1:Int) {T:Type} (x:T):=mkL x (@zX5.eq_1 a90 a0 a1) fun (g1:Int×Int×Int)=>⟨[(1,.int .i64 a1),(2,.ptr 0 0 0),(6,.int .i64 g1.1),(7,.int .i64 g1.2.1),(8,.int .i64 g1.2.2)],[(0,bx a0)],1⟩
abbrev zaG9 (g:(Expr→Int→Option (Int×Int))):Prop:=∀ (a0:Expr) (a1:Int),OkP (g a0 a1) 170 [.agg (Expr.enc a0),.int .i64 a1] (fun r=>.tup [.int .i64 r.1,.int .i64 r.2])
theorem zbM0 (a90:(Expr→Int→Option (Int×Int))) (hrc:zaG9 a90):zaG9 (zac3 a90):=fun a0 a1=>ok1 (zac3.eq_1 a90 a0 a1) Tryz.f170 []
theorem zbM1:∀ n,zaG9 (zO4 n):=zaP4 (fun _ _=>⟨fun _ h=>nomatch h⟩) fun n=>zbM0 _
instance zdg0:zaG9 zn1:=fun a0 a1=>zbM1 _ a0 a1
attribute [local irreducible] zn1
def zay4 (j1:Unit):Option Bool :=
 some false
def zac4 (a0:Expr) (a1:List Atom) (a2:List Bool) (g1:Int):Option (Int⊕(Unit⊕Bool)) :=
 (if (decide (g1 < (a1.length:Int)))=true then
  gd (0≤g1∧g1 < (a1.length:Int)) <|
  (if (decide (a1.getD g1.toNat Atom.zero=a0.atom))=true then
   gd (decide (g1 < (a2.length:Int))=true→0≤g1∧g1 < (a2.length:Int)) <|
   some (.inr (.inr (decide (g1 < (a2.length:Int))&&a2.getD g1.toNat false)))
  else
   some (.inl (i64.wrap (g1+1))))
 else
  some (.inr (.inl ())))
def zaR4 (a0:Expr) (j2:Int):Option Bool :=
 some (decide (a0.k≤j2))
def zal8 (a90:(Expr→List Atom→List Bool→Option Bool)) (a0:Expr) (a1:List Atom) (a2:List Bool) (g2:Int×Int):Option ((Int×Int)⊕Int) :=
 (if (decide (g2.2 < (a0.kids.length:Int)))=true then
  gd (0≤g2.2∧g2.2 < (a0.kids.length:Int)) <|
  (a90 (a0.kids.getD g2.2.toNat Expr.zero) a1 a2).bind fun v1 =>
  (if v1=true then
   some (.inl ((i64.wrap (g2.1+1)),i64.wrap (g2.2+1)))
  else
   some (.inl (g2.1,i64.wrap (g2.2+1))))
 else
  some (.inr g2.1))
def zR7 (a90:(Expr→List Atom→List Bool→Option Bool)) (a0:Expr) (a1:List Atom) (a2:List Bool):Option Bool :=
 (if (decide (a0.k=0))=true then
  (zc0 (zac4 a0 a1 a2) 0).bind (fun|.inl z=>zay4 z|.inr z=>some z)
 else
  (zc0 (zal8 a90 a0 a1 a2) (0,0)).bind (fun z=>zaR4 a0 z))
def fr_ref08_holds:Nat→(Expr→List Atom→List Bool→Option Bool)
 | 0=>fun _ _ _=>none
 | n+1=>zR7 (fr_ref08_holds n)
def f_ref08_holds (a0:Expr) (a1:List Atom) (a2:List Bool):Option Bool:=fr_ref08_holds (_root_.SizeOf.sizeOf a0+1) a0 a1 a2
@[reducible,instance] def zdG3 (a90:(Expr→List Atom→List Bool→Option Bool)) (a0:Expr) (a1:List Atom) (a2:List Bool):=mkJ (zR7 a90 a0 a1 a2) 0 (@zay4.eq_1) fun (j1:Unit)=>⟨[],[],0⟩
@[reducible,instance] def zdG4 (a0:Expr) (a1:List Atom) (a2:List Bool) {T:Type} (x:T):=mkL x (@zac4.eq_1 a0 a1 a2) fun (g1:Int)=>⟨[(1,la a1),(2,.sl (a2.map eB)),(3,.ptr 0 0 0),(7,.int .i64 g1)],[(0,bx a0)],1⟩
@[reducible,instance] def zdG5 (a90:(Expr→List Atom→List Bool→Option Bool)) (a0:Expr) (a1:List Atom) (a2:List Bool):=mkJ (zR7 a90 a0 a1 a2) 2 (@zaR4.eq_1 a0) fun (j2:Int)=>⟨[(3,.ptr 0 0 0),(8,.int .i64 j2)],[(0,bx a0)],1⟩
@[reducible,instance] def zdG6 (a90:(Expr→List Atom→List Bool→Option Bool)) (a0:Expr) (a1:List Atom) (a2:List Bool) {T:Type} (x:T):=mkL x (@zal8.eq_1 a90 a0 a1 a2) fun (g2:Int×Int)=>⟨[(1,la a1),(2,.sl (a2.map eB)),(3,.ptr 0 0 0),(8,.int .i64 g2.1),(9,.int .i64 g2.2)],[(0,bx a0)],1⟩
abbrev zaA9 (g:(Expr→List Atom→List Bool→Option Bool)):Prop:=∀ (a0:Expr) (a1:List Atom) (a2:List Bool),OkP (g a0 a1 a2) 200 [.agg (Expr.enc a0),.sl (a1.map Atom.enc),.sl (a2.map eB)] (fun r=>.bool r)
theorem zbE3 (a90:(Expr→List Atom→List Bool→Option Bool)) (hrc:zaA9 a90):zaA9 (zR7 a90):=fun a0 a1 a2=>ok1 (zR7.eq_1 a90 a0 a1 a2) Tryz.f200 []
theorem zbE4:∀ n,zaA9 (fr_ref08_holds n):=zaP4 (fun _ _ _=>⟨fun _ h=>nomatch h⟩) fun n=>zbE3 _
instance zcW7:zaA9 f_ref08_holds:=fun a0 a1 a2=>zbE4 _ a0 a1 a2
attribute [local irreducible] f_ref08_holds
def zj3 (a0:Central):Option Central :=
 gd (a0.queues.length≤4294967296) <|
 gd (a0.procs.length≤4294967296) <|
 some a0
theorem zbw3 (a0 r:Central) (h:zj3 a0=some r):MFn C 164 [ga a0] [] 0 (.agg [.int .i64 r.now,.own 0 0 r.queues.length,.own 1 0 r.procs.length]) [(0,sx r.queues),(1,sx r.procs)] 2:=by
 refine zaC5 Tryz.f164 [(3,1),(8,1)] [.agg [.int .i64 r.now,.own 0 0 r.queues.length,.own 1 0 r.procs.length]] fun E hG hN hK=>?_
 unfold zj3 at h
 refine za2 (za9 hG ?_)
 refine za2 ?_
 obtain ⟨hb2,h⟩:=zg5 h
 refine za9 hG ?_
 refine za2 ?_
 obtain ⟨hb1,h⟩:=zg5 h
 refine za9 hG ?_
 refine za2 (za9 hG ?_)
 refine zw3 ?_
 exact zS7 [(0,3),(1,5)] h
attribute [local irreducible] zj3
def zan8 (a0:work) (j1:Int):Option (Int×Int×(List Queue)×(List Proce)×(List Event)) :=
 some (j1,a0.c.now,a0.c.queues,a0.c.procs,a0.ev)
def zL8 (a0:work) (g1:Int×Int×Int):Option ((Int×Int×Int)⊕Int) :=
 (if (decide (g1.2.2 < ((a0.c.procs.length:Nat):Int)))=true then
  gd (0≤g1.2.2∧g1.2.2 < ((a0.c.procs.length:Nat):Int)) <|
  (if ((((a0.c.procs.getD g1.2.2.toNat Proce.zero).waiting&&(!decide (((a0.c.procs.getD g1.2.2.toNat Proce.zero).request).limit=0)))&&decide (i64.wrap ((a0.c.procs.getD g1.2.2.toNat Proce.zero).since+((a0.c.procs.getD g1.2.2.toNat Proce.zero).request).limit)≤a0.c.now))&&(decide (g1.1 < 0)||decide (i64.wrap ((a0.c.procs.getD g1.2.2.toNat Proce.zero).since+((a0.c.procs.getD g1.2.2.toNat Proce.zero).request).limit) < g1.2.1)))=true then
   some (.inl (g1.2.2,i64.wrap ((a0.c.procs.getD g1.2.2.toNat Proce.zero).since+((a0.c.procs.getD g1.2.2.toNat Proce.zero).request).limit),i64.wrap (g1.2.2+1)))
  else
   some (.inl (g1.1,g1.2.1,i64.wrap (g1.2.2+1))))
 else
  some (.inr g1.1))
def zc2 (a0:work):Option (Int×Int×(List Queue)×(List Proce)×(List Event)) :=
 (zc0 (zL8 a0) ((-1),0,0)).bind (fun z=>zan8 a0 z)
@[reducible,instance] def zdG7 (a0:work):=mkJ (zc2 a0) 0 (@zan8.eq_1 a0) fun (j1:Int)=>⟨[(3,.int .i64 j1)],[(0,⟨false,4,work.enc work.zero,[[.int .i64 a0.c.now,la a0.c.queues,.own 1 0 a0.c.procs.length,.own 2 0 a0.ev.length]]⟩),(1,sx a0.c.procs),(2,sx a0.ev)],3⟩
@[reducible,instance] def zdG8 (a0:work) {T:Type} (x:T):=mkL x (@zL8.eq_1 a0) fun (g1:Int×Int×Int)=>⟨[(0,.ptr 0 0 0),(3,.int .i64 g1.1),(4,.int .i64 g1.2.1),(5,.int .i64 g1.2.2)],[(0,⟨false,4,work.enc work.zero,[[.int .i64 a0.c.now,la a0.c.queues,.own 1 0 a0.c.procs.length,.own 2 0 a0.ev.length]]⟩),(1,sx a0.c.procs),(2,sx a0.ev)],3⟩
instance zbU8 (a0:work):OkM (zc2 a0) 243 [.ptr 0 0 0] [(0,⟨false,4,work.enc work.zero,[[.int .i64 a0.c.now,la a0.c.queues,.own 1 0 a0.c.procs.length,.own 2 0 a0.ev.length]]⟩),(1,sx a0.c.procs),(2,sx a0.ev)] 3 (fun r=>.int .i64 r.1) (fun r=>[(0,⟨false,4,work.enc work.zero,[[.int .i64 r.2.1,la r.2.2.1,.own 1 0 r.2.2.2.1.length,.own 2 0 r.2.2.2.2.length]]⟩),(1,sx r.2.2.2.1),(2,sx r.2.2.2.2)]) 3:=okm (zc2.eq_1 a0) (fun r=>[.int .i64 r.1]) Tryz.f243 []
attribute [local irreducible] zc2
def zn8 (a0:Int):Int :=
 (if (decide (a0 < 0)||decide (1073741824≤a0))=true then
  1
 else
  (i64.wrap (a0+1)))
instance zdg1 (a0:Int):OkT 249 [.int .i64 a0] (.int .i64 (zn8 a0)):=ok2 (fun r=>.int .i64 r) (zn8.eq_1 a0) Tryz.f249 []
end
end Ab
end Go.Proofs.YtcggeefhhegeoaaGreatDoor
