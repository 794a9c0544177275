import Derived.Test.YtcggeefhhegeoaaGreatDoorAuto
import Derived.Test.YtcggeefhhegeoaaGreatDoorHand
namespace Go.Proofs.YtcggeefhhegeoaaGreatDoor
namespace Ab
open IntKind (i64 u64 u8)
set_option linter.unusedSimpArgs false
set_option linter.unusedVariables false
set_option linter.defProp false
set_option maxRecDepth 100000
set_option maxHeartbeats 1000000
noncomputable section
def zD8 (j1:Bool):Bool :=
 (if j1=true then
  true
 else
  false)
def zP3 (a0:ByteArray):Bool :=
 (if (a0.toList == (⟨#[97,108,108]⟩:ByteArray).toList)=true then
  zD8 (a0.toList == (⟨#[97,108,108]⟩:ByteArray).toList)
 else
  (if (a0.toList == (⟨#[97,110,121]⟩:ByteArray).toList)=true then
   zD8 (a0.toList == (⟨#[97,110,121]⟩:ByteArray).toList)
  else
   (if (a0.toList == (⟨#[111,102]⟩:ByteArray).toList)=true then
    zD8 (a0.toList == (⟨#[111,102]⟩:ByteArray).toList)
   else
    (if (a0.toList == (⟨#[112,114,105,111]⟩:ByteArray).toList)=true then
     zD8 (a0.toList == (⟨#[112,114,105,111]⟩:ByteArray).toList)
    else
     zD8 (a0.toList == (⟨#[108,105,109,105,116]⟩:ByteArray).toList)))))
@[reducible,instance] def zel4 a0:=mkJ (zP3 a0) 999 (@zD8.eq_1) fun (j1:Bool)=>⟨[(4,.bool j1)],[],0⟩
instance zcz7 (a0:ByteArray):OkT 230 [.str a0] (.bool (zP3 a0)):=ok2 (fun r=>.bool r) (zP3.eq_1 a0) Tryz.f230 []
def zh0 (a0:aH):Bool :=
 (if (decide (a0.kind=1))=true then
  (decide (a0.aT=1))
 else
  (if (decide (a0.kind=2))=true then
   (decide (1≤a0.aT)&&decide (a0.aT≤8))
  else
   false))
instance zbB0 (a0:aH):OkT 223 [.agg (aH.enc a0)] (.bool (zh0 a0)):=ok2 (fun r=>.bool r) (zh0.eq_1 a0) Tryz.f223 []
def zai3 (j1:Unit):Option Int :=
 some 0
def zp4 (a0 a1:Arr Int 3) (g1:Int):Option (Int⊕(Unit⊕Int)) :=
 (if (decide (g1 < 3))=true then
  gd (0≤g1∧g1 < 3) <|
  gd (0≤g1∧g1 < 3) <|
  (if (decide (Arr.get a0 g1.toNat 0 < Arr.get a1 g1.toNat 0))=true then
   some (.inr (.inr (-1)))
  else
   gd (0≤g1∧g1 < 3) <|
   (if (decide (Arr.get a1 g1.toNat 0 < Arr.get a0 g1.toNat 0))=true then
    some (.inr (.inr 1))
   else
    some (.inl (i64.wrap (g1+1)))))
 else
  some (.inr (.inl ())))
def zh3 (a0 a1:Arr Int 3):Option Int :=
 (zc0 (zp4 a0 a1) 0).bind (fun|.inl z=>zai3 z|.inr z=>some z)
@[reducible,instance] def zel5 a0 a1:=mkJ (zh3 a0 a1) 0 (@zai3.eq_1) fun (j1:Unit)=>⟨[],[],0⟩
@[reducible,instance] def zel6 (a0 a1:Arr Int 3) {T:Type} (x:T):=mkL x (@zp4.eq_1 a0 a1) fun (g1:Int)=>⟨[(3,.ptr 0 0 0),(7,.agg (Arr.enc (eI .i64) a0)),(8,.int .i64 g1)],[(0,⟨false,3,Arr.enc (eI .i64) (Arr.rep 3 0),[Arr.enc (eI .i64) a1]⟩)],1⟩
instance zcQ2 (a0 a1:Arr Int 3):OkP (zh3 a0 a1) 110 [.agg (Arr.enc (eI .i64) a0),.agg (Arr.enc (eI .i64) a1)] (fun r=>.int .i64 r):=ok1 (zh3.eq_1 a0 a1) Tryz.f110 []
attribute [local irreducible] zh3
def zar6 (a0:aM) (a1:List aM) (j1:Unit):Option (Int×(List aM)) :=
 (if (decide (((a1.length:Nat):Int)=8))=true then
  some (4,a1)
 else
  gd (a1.length+1≤4294967296) <|
  some (0,(a1++[a0])))
def zV2 (a0:aM) (a1:List aM) (g1:Int):Option (Int⊕(Unit⊕(Int×(List aM)))) :=
 (if (decide (g1 < ((a1.length:Nat):Int)))=true then
  gd (0≤g1∧g1 < ((a1.length:Nat):Int)) <|
  (if (decide (a0=a1.getD g1.toNat aM.zero))=true then
   some (.inr (.inr (0,a1)))
  else
   (if (a0.name.toList == ((a1.getD g1.toNat aM.zero).name).toList)=true then
    some (.inr (.inr (13,a1)))
   else
    some (.inl (i64.wrap (g1+1)))))
 else
  some (.inr (.inl ())))
def zg3 (a0:aM) (a1:List aM):Option (Int×(List aM)) :=
 (zc0 (zV2 a0 a1) 0).bind (fun|.inl z=>zar6 a0 a1 z|.inr z=>some z)
@[reducible,instance] def zdN2 (a0:aM) (a1:List aM):=mkJ (zg3 a0 a1) 0 (@zar6.eq_1 a0 a1) fun (j1:Unit)=>⟨[(0,.ptr 0 0 0),(3,.ptr 2 0 0)],[(0,⟨false,1,[A.sl ([].map aM.enc)],[[.own 3 0 a1.length]]⟩),(2,bx a0),(3,sx a1)],4⟩
@[reducible,instance] def zdN3 (a0:aM) (a1:List aM) {T:Type} (x:T):=mkL x (@zV2.eq_1 a0 a1) fun (g1:Int)=>⟨[(0,.ptr 0 0 0),(3,.ptr 2 0 0),(9,.own 3 0 a1.length),(10,.int .i64 ((a1.length:Nat):Int)),(11,.int .i64 g1)],[(0,⟨false,1,[A.sl ([].map aM.enc)],[[.own 3 0 a1.length]]⟩),(2,bx a0),(3,sx a1)],4⟩
instance zbr7 (a0:aM) (a1:List aM):OkM (zg3 a0 a1) 144 [.ptr 0 0 0,ga a0] [(0,⟨false,1,[A.sl ([].map aM.enc)],[[.own 1 0 a1.length]]⟩),(1,sx a1)] 2 (fun r=>.int .i64 r.1) (fun r=>[(0,⟨false,1,[A.sl ([].map aM.enc)],[[.own 2 0 r.2.length]]⟩),(2,sx r.2)]) 3:=okm (zg3.eq_1 a0 a1) (fun r=>[.int .i64 r.1]) Tryz.f144 []
attribute [local irreducible] zg3
def zaG6 (j1:(List aJ)):Option (List aJ) :=
 some j1
def zaG7 (a0:List aY) (g1:Int×(List aJ)):Option ((Int×(List aJ))⊕(List aJ)) :=
 (if (decide (g1.1 < (a0.length:Int)))=true then
  gd (0≤g1.1∧g1.1 < (a0.length:Int)) <|
  gd (g1.2.length+1≤4294967296) <|
  some (.inl ((i64.wrap (g1.1+1)),(g1.2++[(a0.getD g1.1.toNat aY.zero).aP])))
 else
  some (.inr g1.2))
def zf1 (a0:List aY):Option (List aJ) :=
 (zc0 (zaG7 a0) (0,[])).bind (fun z=>zaG6 z)
@[reducible,instance] def zdN4 a0:=mkJ (zf1 a0) 0 (@zaG6.eq_1) fun (j1:(List aJ))=>⟨[(3,.own 0 0 j1.length)],[(0,sx j1)],1⟩
@[reducible,instance] def zdN5 (a0:List aY) {T:Type} (x:T):=mkL x (@zaG7.eq_1 a0) fun (g1:Int×(List aJ))=>⟨[(3,.own 0 0 g1.2.length),(6,la a0),(7,.int .i64 (a0.length:Int)),(8,.int .i64 g1.1)],[(0,sx g1.2)],1⟩
instance zcz8 (a0:List aY):OkM (zf1 a0) 145 [la a0] [] 0 (fun r=>.own 0 0 r.length) (fun r=>[(0,sx r)]) 1:=okm (zf1.eq_1 a0) (fun r=>[.own 0 0 r.length]) Tryz.f145 [(2,1),(3,1)]
attribute [local irreducible] zf1
def zb0 (a0:Int):Option (List aX):=gd (0≤a0∧a0≤4294967296) (some [])
theorem zau7:Lays8.n4 C.P ⟨fun|4=>167|n=>n,fun|22=>70|25=>110|n=>n,fun n=>n⟩ where
 mixed:=zN6
 f4:=⟨ "slices.Grow[[]clusterlocks/api.Wait,clusterlocks/api.Wait]",by decide,Tryz.func167.trans (dR some (by kernel_rfl))⟩
 t0:=Tryz.underlying0
 a0:=Tryz.isAgg0
 z0:=Tryz.sizeOf0
 v0:=Tryz.zeroValue0
 t3:=Tryz.underlying3
 a3:=Tryz.isAgg3
 z3:=Tryz.sizeOf3
 v3:=Tryz.zeroValue3
 t4:=Tryz.underlying4
 a4:=Tryz.isAgg4
 z4:=Tryz.sizeOf4
 v4:=Tryz.zeroValue4
 t9:=Tryz.underlying9
 a9:=Tryz.isAgg9
 z9:=Tryz.sizeOf9
 v9:=Tryz.zeroValue9
 t20:=Tryz.underlying20
 a20:=Tryz.isAgg20
 z20:=Tryz.sizeOf20
 v20:=Tryz.zeroValue20
 t22:=Tryz.underlying70
 a22:=Tryz.isAgg70
 z22:=Tryz.sizeOf70
 v22:=Tryz.zeroValue70
theorem zas5 (a0:Int) (r:List aX) (h:zb0 a0=some r):MFn C 167 [.full [],.int .i64 a0] [] 0 (.own 0 0 r.length) [(0,sx r)] 1:=by
 obtain ⟨⟨h0,h1⟩,h⟩:=zg0 h
 obtain rfl:=dN h
 exact zdd6 zau7 (by kernel_rfl) rfl _ a0 h0 h1
attribute [local irreducible] zb0
def zW1 (j1:Unit):Option Bool :=
 some true
def zW2 (a0 a1:List aY) (g1:Int):Option (Int⊕(Unit⊕Bool)) :=
 (if (decide (g1 < (a0.length:Int)))=true then
  gd (0≤g1∧g1 < (a0.length:Int)) <|
  gd (0≤g1∧g1 < (a1.length:Int)) <|
  (if (!decide (a0.getD g1.toNat aY.zero=a1.getD g1.toNat aY.zero))=true then
   some (.inr (.inr false))
  else
   some (.inl (i64.wrap (g1+1))))
 else
  some (.inr (.inl ())))
def zb1 (a0 a1:List aY):Option Bool :=
 (if (!decide ((a0.length:Int)=(a1.length:Int)))=true then
  some false
 else
  (zc0 (zW2 a0 a1) 0).bind (fun|.inl z=>zW1 z|.inr z=>some z))
@[reducible,instance] def zdN6 a0 a1:=mkJ (zb1 a0 a1) 0 (@zW1.eq_1) fun (j1:Unit)=>⟨[],[],0⟩
@[reducible,instance] def zdN7 (a0 a1:List aY) {T:Type} (x:T):=mkL x (@zW2.eq_1 a0 a1) fun (g1:Int)=>⟨[(0,la a0),(1,la a1),(12,.int .i64 (a0.length:Int)),(13,.int .i64 g1)],[],0⟩
instance zax1 (a0 a1:List aY):OkP (zb1 a0 a1) 124 [la a0,la a1] (fun r=>.bool r):=ok1 (zb1.eq_1 a0 a1) Tryz.f124 []
attribute [local irreducible] zb1
def zJ3 (a0:ByteArray):Bool :=
 (((((a0.toList == (⟨#[97,108,108]⟩:ByteArray).toList)||(a0.toList == (⟨#[97,110,121]⟩:ByteArray).toList))||(a0.toList == (⟨#[111,102]⟩:ByteArray).toList))||(a0.toList == (⟨#[112,114,105,111]⟩:ByteArray).toList))||(a0.toList == (⟨#[108,105,109,105,116]⟩:ByteArray).toList))
instance zcK9 (a0:ByteArray):OkT 221 [.str a0] (.bool (zJ3 a0)):=ok2 (fun r=>.bool r) (zJ3.eq_1 a0) Tryz.f221 []
def zL1 (a0:aH):Bool :=
 ((decide (a0.kind=1)&&decide (a0.aT=1))||((decide (a0.kind=2)&&decide (1≤a0.aT))&&decide (a0.aT≤8)))
instance zcX5 (a0:aH):OkT 195 [.agg (aH.enc a0)] (.bool (zL1 a0)):=ok2 (fun r=>.bool r) (zL1.eq_1 a0) Tryz.f195 []
def zau8 (j1:(List aC)):Option (List aC) :=
 some j1
def zY0 (a0:List aY) (g1:Int×(List aC)):Option ((Int×(List aC))⊕(List aC)) :=
 (if (decide (g1.1 < (a0.length:Int)))=true then
  gd (0≤g1.1∧g1.1 < (a0.length:Int)) <|
  gd (g1.2.length+1≤4294967296) <|
  some (.inl ((i64.wrap (g1.1+1)),(g1.2++[(a0.getD g1.1.toNat aY.zero).aK])))
 else
  some (.inr g1.2))
def zh4 (a0:List aY):Option (List aC) :=
 (zc0 (zY0 a0) (0,[])).bind (fun z=>zau8 z)
@[reducible,instance] def zdN8 a0:=mkJ (zh4 a0) 0 (@zau8.eq_1) fun (j1:(List aC))=>⟨[(3,.own 0 0 j1.length)],[(0,sx j1)],1⟩
@[reducible,instance] def zdN9 (a0:List aY) {T:Type} (x:T):=mkL x (@zY0.eq_1 a0) fun (g1:Int×(List aC))=>⟨[(0,la a0),(3,.own 0 0 g1.2.length),(4,.int .i64 g1.1)],[(0,sx g1.2)],1⟩
instance zcQ3 (a0:List aY):OkP (zh4 a0) 258 [la a0] (fun r=>la r):=ok1 (zh4.eq_1 a0) Tryz.f258 [(3,1)]
attribute [local irreducible] zh4
def zn2 (a0:aC):Bool :=
 (decide (a0={ aC.zero with  }))
instance zbZ9 (a0:aC):OkT 198 [.agg (aC.enc a0)] (.bool (zn2 a0)):=ok2 (fun r=>.bool r) (zn2.eq_1 a0) Tryz.f198 []
def zaV0 (j1:Unit):Option Int :=
 some (-1)
def zap0 (a0:List aG) (a1:aJ) (g1:Int):Option (Int⊕(Unit⊕Int)) :=
 (if (decide (g1 < (a0.length:Int)))=true then
  gd (0≤g1∧g1 < (a0.length:Int)) <|
  (if (decide ((a0.getD g1.toNat aG.zero).aP=a1))=true then
   some (.inr (.inr g1))
  else
   some (.inl (i64.wrap (g1+1))))
 else
  some (.inr (.inl ())))
def zj0 (a0:List aG) (a1:aJ):Option Int :=
 (zc0 (zap0 a0 a1) 0).bind (fun|.inl z=>zaV0 z|.inr z=>some z)
@[reducible,instance] def zdO0 a0 a1:=mkJ (zj0 a0 a1) 0 (@zaV0.eq_1) fun (j1:Unit)=>⟨[],[],0⟩
@[reducible,instance] def zdO1 (a0:List aG) (a1:aJ) {T:Type} (x:T):=mkL x (@zap0.eq_1 a0 a1) fun (g1:Int)=>⟨[(0,la a0),(3,.ptr 0 0 0),(5,.int .i64 g1)],[(0,bx a1)],1⟩
instance zdd7 (a0:List aG) (a1:aJ):OkP (zj0 a0 a1) 115 [la a0,ga a1] (fun r=>.int .i64 r):=ok1 (zj0.eq_1 a0 a1) Tryz.f115 []
attribute [local irreducible] zj0
def zaG8 (j1:Unit):Option Bool :=
 some true
def zaG9 (a0 a1:List aM) (g1:Int):Option (Int⊕(Unit⊕Bool)) :=
 (if (decide (g1 < (a0.length:Int)))=true then
  gd (0≤g1∧g1 < (a0.length:Int)) <|
  gd (0≤g1∧g1 < (a1.length:Int)) <|
  (if (!decide (a0.getD g1.toNat aM.zero=a1.getD g1.toNat aM.zero))=true then
   some (.inr (.inr false))
  else
   some (.inl (i64.wrap (g1+1))))
 else
  some (.inr (.inl ())))
def zf2 (a0 a1:List aM):Option Bool :=
 (if (!decide ((a0.length:Int)=(a1.length:Int)))=true then
  some false
 else
  (zc0 (zaG9 a0 a1) 0).bind (fun|.inl z=>zaG8 z|.inr z=>some z))
@[reducible,instance] def zdO2 a0 a1:=mkJ (zf2 a0 a1) 0 (@zaG8.eq_1) fun (j1:Unit)=>⟨[],[],0⟩
@[reducible,instance] def zdO3 (a0 a1:List aM) {T:Type} (x:T):=mkL x (@zaG9.eq_1 a0 a1) fun (g1:Int)=>⟨[(0,la a0),(1,la a1),(5,.int .i64 g1)],[],0⟩
instance zcC7 (a0 a1:List aM):OkP (zf2 a0 a1) 153 [la a0,la a1] (fun r=>.bool r):=ok1 (zf2.eq_1 a0 a1) Tryz.f153 []
attribute [local irreducible] zf2
def zbd1 (j1:Int×Int):Option (Int×Int) :=
 some (j1.1,i64.wrap (j1.2+1))
def zat8 (g1:Int×Int×Int) (v1:Int×Int) (j2:Int):Option ((Int×Int×Int)⊕((Int×Int)⊕(Int×Int))) :=
 (if (decide (24 < i64.wrap (g1.1+v1.1)))=true then
  some (.inr (.inr (25,0)))
 else
  some (.inl ((i64.wrap (g1.1+v1.1)),j2,i64.wrap (g1.2.2+1))))
def zaa0 (a90:(aN→Int→Option (Int×Int))) (a0:aN) (a1:Int) (g1:Int×Int×Int):Option ((Int×Int×Int)⊕((Int×Int)⊕(Int×Int))) :=
 (if (decide (g1.2.2 < (a0.bE.length:Int)))=true then
  gd (0≤g1.2.2∧g1.2.2 < (a0.bE.length:Int)) <|
  (a90 (a0.bE.getD g1.2.2.toNat aN.zero) (i64.wrap (a1+1))).bind fun v1 =>
  (if (decide (g1.2.1 < v1.2))=true then
   zat8 g1 v1 v1.2
  else
   zat8 g1 v1 g1.2.1)
 else
  some (.inr (.inl (g1.1,g1.2.1))))
def zaf4 (a90:(aN→Int→Option (Int×Int))) (a0:aN) (a1:Int):Option (Int×Int) :=
 (if (decide (4 < a1)||decide (24 < (a0.bE.length:Int)))=true then
  some (25,0)
 else
  (zc0 (zaa0 a90 a0 a1) (1,0,0)).bind (fun|.inl z=>zbd1 z|.inr z=>some z))
def zQ6:Nat→(aN→Int→Option (Int×Int))
 | 0=>fun _ _=>none
 | n+1=>zaf4 (zQ6 n)
def zo5 (a0:aN) (a1:Int):Option (Int×Int):=zQ6 (_root_.SizeOf.sizeOf a0+1) a0 a1
@[reducible,instance] def zdO4 (a90:(aN→Int→Option (Int×Int))) (a0:aN) (a1:Int):=mkJ (zaf4 a90 a0 a1) 0 (@zbd1.eq_1) fun (j1:Int×Int)=>⟨[(6,.int .i64 j1.1),(7,.int .i64 j1.2)],[],0⟩
@[reducible,instance] def zdO5 (a90:(aN→Int→Option (Int×Int))) (a0:aN) (a1:Int) (g1:Int×Int×Int) (v1:Int×Int):=mkJ (zaa0 a90 a0 a1 g1,v1) 999 (@zat8.eq_1 g1 v1) fun (j2:Int)=>⟨[(1,.int .i64 a1),(2,.ptr 0 0 0),(6,.int .i64 (i64.wrap (g1.1+v1.1))),(7,.int .i64 j2),(8,.int .i64 g1.2.2)],[(0,bx a0)],1⟩
@[reducible,instance] def zdO6 (a90:(aN→Int→Option (Int×Int))) (a0:aN) (a1:Int) {T:Type} (x:T):=mkL x (@zaa0.eq_1 a90 a0 a1) fun (g1:Int×Int×Int)=>⟨[(1,.int .i64 a1),(2,.ptr 0 0 0),(6,.int .i64 g1.1),(7,.int .i64 g1.2.1),(8,.int .i64 g1.2.2)],[(0,bx a0)],1⟩
abbrev zaK4 (g:(aN→Int→Option (Int×Int))):Prop:=∀ (a0:aN) (a1:Int),OkP (g a0 a1) 170 [.agg (aN.enc a0),.int .i64 a1] (fun r=>.tup [.int .i64 r.1,.int .i64 r.2])
theorem zbR0 (a90:(aN→Int→Option (Int×Int))) (hrc:zaK4 a90):zaK4 (zaf4 a90):=fun a0 a1=>ok1 (zaf4.eq_1 a90 a0 a1) Tryz.f170 []
theorem zbR1:∀ n,zaK4 (zQ6 n):=zaM3 (fun _ _=>⟨fun _ h=>nomatch h⟩) fun n=>zbR0 _
instance zdn3:zaK4 zo5:=fun a0 a1=>zbR1 _ a0 a1
attribute [local irreducible] zo5
def zaB9 (j1:Unit):Option Bool :=
 some false
def zaf5 (a0:aN) (a1:List aM) (a2:List Bool) (g1:Int):Option (Int⊕(Unit⊕Bool)) :=
 (if (decide (g1 < (a1.length:Int)))=true then
  gd (0≤g1∧g1 < (a1.length:Int)) <|
  (if (decide (a1.getD g1.toNat aM.zero=a0.bF))=true then
   gd (decide (g1 < (a2.length:Int))=true→0≤g1∧g1 < (a2.length:Int)) <|
   some (.inr (.inr (decide (g1 < (a2.length:Int))&&a2.getD g1.toNat false)))
  else
   some (.inl (i64.wrap (g1+1))))
 else
  some (.inr (.inl ())))
def zaV1 (a0:aN) (j2:Int):Option Bool :=
 some (decide (a0.k≤j2))
def zap1 (a90:(aN→List aM→List Bool→Option Bool)) (a0:aN) (a1:List aM) (a2:List Bool) (g2:Int×Int):Option ((Int×Int)⊕Int) :=
 (if (decide (g2.2 < (a0.bE.length:Int)))=true then
  gd (0≤g2.2∧g2.2 < (a0.bE.length:Int)) <|
  (a90 (a0.bE.getD g2.2.toNat aN.zero) a1 a2).bind fun v1 =>
  (if v1=true then
   some (.inl ((i64.wrap (g2.1+1)),i64.wrap (g2.2+1)))
  else
   some (.inl (g2.1,i64.wrap (g2.2+1))))
 else
  some (.inr g2.1))
def zU1 (a90:(aN→List aM→List Bool→Option Bool)) (a0:aN) (a1:List aM) (a2:List Bool):Option Bool :=
 (if (decide (a0.k=0))=true then
  (zc0 (zaf5 a0 a1 a2) 0).bind (fun|.inl z=>zaB9 z|.inr z=>some z)
 else
  (zc0 (zap1 a90 a0 a1 a2) (0,0)).bind (fun z=>zaV1 a0 z))
def fr_ref08_holds:Nat→(aN→List aM→List Bool→Option Bool)
 | 0=>fun _ _ _=>none
 | n+1=>zU1 (fr_ref08_holds n)
def f_ref08_holds (a0:aN) (a1:List aM) (a2:List Bool):Option Bool:=fr_ref08_holds (_root_.SizeOf.sizeOf a0+1) a0 a1 a2
@[reducible,instance] def zdO7 (a90:(aN→List aM→List Bool→Option Bool)) (a0:aN) (a1:List aM) (a2:List Bool):=mkJ (zU1 a90 a0 a1 a2) 0 (@zaB9.eq_1) fun (j1:Unit)=>⟨[],[],0⟩
@[reducible,instance] def zdO8 (a0:aN) (a1:List aM) (a2:List Bool) {T:Type} (x:T):=mkL x (@zaf5.eq_1 a0 a1 a2) fun (g1:Int)=>⟨[(1,la a1),(2,.sl (a2.map eB)),(3,.ptr 0 0 0),(7,.int .i64 g1)],[(0,bx a0)],1⟩
@[reducible,instance] def zdO9 (a90:(aN→List aM→List Bool→Option Bool)) (a0:aN) (a1:List aM) (a2:List Bool):=mkJ (zU1 a90 a0 a1 a2) 2 (@zaV1.eq_1 a0) fun (j2:Int)=>⟨[(3,.ptr 0 0 0),(8,.int .i64 j2)],[(0,bx a0)],1⟩
@[reducible,instance] def zdP0 (a90:(aN→List aM→List Bool→Option Bool)) (a0:aN) (a1:List aM) (a2:List Bool) {T:Type} (x:T):=mkL x (@zap1.eq_1 a90 a0 a1 a2) fun (g2:Int×Int)=>⟨[(1,la a1),(2,.sl (a2.map eB)),(3,.ptr 0 0 0),(8,.int .i64 g2.1),(9,.int .i64 g2.2)],[(0,bx a0)],1⟩
abbrev zaE6 (g:(aN→List aM→List Bool→Option Bool)):Prop:=∀ (a0:aN) (a1:List aM) (a2:List Bool),OkP (g a0 a1 a2) 200 [.agg (aN.enc a0),.sl (a1.map aM.enc),.sl (a2.map eB)] (fun r=>.bool r)
theorem zbJ3 (a90:(aN→List aM→List Bool→Option Bool)) (hrc:zaE6 a90):zaE6 (zU1 a90):=fun a0 a1 a2=>ok1 (zU1.eq_1 a90 a0 a1 a2) Tryz.f200 []
theorem zbJ4:∀ n,zaE6 (fr_ref08_holds n):=zaM3 (fun _ _ _=>⟨fun _ h=>nomatch h⟩) fun n=>zbJ3 _
instance zdd8:zaE6 f_ref08_holds:=fun a0 a1 a2=>zbJ4 _ a0 a1 a2
attribute [local irreducible] f_ref08_holds
def zk2 (a0:bD):Option bD :=
 gd (a0.aF.length≤4294967296) <|
 gd (a0.aD.length≤4294967296) <|
 some a0
theorem zbB1 (a0 r:bD) (h:zk2 a0=some r):MFn C 164 [ga a0] [] 0 (.agg [.int .i64 r.now,.own 0 0 r.aF.length,.own 1 0 r.aD.length]) [(0,sx r.aF),(1,sx r.aD)] 2:=by
 refine zay0 Tryz.f164 [(3,1),(8,1)] [.agg [.int .i64 r.now,.own 0 0 r.aF.length,.own 1 0 r.aD.length]] fun E hG hN hK=>?_
 unfold zk2 at h
 refine za2 (za5 hG ?_)
 refine za2 ?_
 obtain ⟨hb2,h⟩:=zg0 h
 refine za5 hG ?_
 refine za2 ?_
 obtain ⟨hb1,h⟩:=zg0 h
 refine za5 hG ?_
 refine za2 (za5 hG ?_)
 refine zx8 ?_
 exact zP0 [(0,3),(1,5)] h
attribute [local irreducible] zk2
def zar3 (a0:aZ) (j1:Int):Option (Int×Int×(List aB)×(List aG)×(List bL)) :=
 some (j1,a0.c.now,a0.c.aF,a0.c.aD,a0.ev)
def zN7 (a0:aZ) (g1:Int×Int×Int):Option ((Int×Int×Int)⊕Int) :=
 (if (decide (g1.2.2 < ((a0.c.aD.length:Nat):Int)))=true then
  gd (0≤g1.2.2∧g1.2.2 < ((a0.c.aD.length:Nat):Int)) <|
  (if ((((a0.c.aD.getD g1.2.2.toNat aG.zero).bI&&(!decide (((a0.c.aD.getD g1.2.2.toNat aG.zero).bJ).limit=0)))&&decide (i64.wrap ((a0.c.aD.getD g1.2.2.toNat aG.zero).since+((a0.c.aD.getD g1.2.2.toNat aG.zero).bJ).limit)≤a0.c.now))&&(decide (g1.1 < 0)||decide (i64.wrap ((a0.c.aD.getD g1.2.2.toNat aG.zero).since+((a0.c.aD.getD g1.2.2.toNat aG.zero).bJ).limit) < g1.2.1)))=true then
   some (.inl (g1.2.2,i64.wrap ((a0.c.aD.getD g1.2.2.toNat aG.zero).since+((a0.c.aD.getD g1.2.2.toNat aG.zero).bJ).limit),i64.wrap (g1.2.2+1)))
  else
   some (.inl (g1.1,g1.2.1,i64.wrap (g1.2.2+1))))
 else
  some (.inr g1.1))
def zc6 (a0:aZ):Option (Int×Int×(List aB)×(List aG)×(List bL)) :=
 (zc0 (zN7 a0) ((-1),0,0)).bind (fun z=>zar3 a0 z)
@[reducible,instance] def zdP1 (a0:aZ):=mkJ (zc6 a0) 0 (@zar3.eq_1 a0) fun (j1:Int)=>⟨[(3,.int .i64 j1)],[(0,⟨false,4,aZ.enc aZ.zero,[[.int .i64 a0.c.now,la a0.c.aF,.own 1 0 a0.c.aD.length,.own 2 0 a0.ev.length]]⟩),(1,sx a0.c.aD),(2,sx a0.ev)],3⟩
@[reducible,instance] def zdP2 (a0:aZ) {T:Type} (x:T):=mkL x (@zN7.eq_1 a0) fun (g1:Int×Int×Int)=>⟨[(0,.ptr 0 0 0),(3,.int .i64 g1.1),(4,.int .i64 g1.2.1),(5,.int .i64 g1.2.2)],[(0,⟨false,4,aZ.enc aZ.zero,[[.int .i64 a0.c.now,la a0.c.aF,.own 1 0 a0.c.aD.length,.own 2 0 a0.ev.length]]⟩),(1,sx a0.c.aD),(2,sx a0.ev)],3⟩
instance zca0 (a0:aZ):OkM (zc6 a0) 243 [.ptr 0 0 0] [(0,⟨false,4,aZ.enc aZ.zero,[[.int .i64 a0.c.now,la a0.c.aF,.own 1 0 a0.c.aD.length,.own 2 0 a0.ev.length]]⟩),(1,sx a0.c.aD),(2,sx a0.ev)] 3 (fun r=>.int .i64 r.1) (fun r=>[(0,⟨false,4,aZ.enc aZ.zero,[[.int .i64 r.2.1,la r.2.2.1,.own 1 0 r.2.2.2.1.length,.own 2 0 r.2.2.2.2.length]]⟩),(1,sx r.2.2.2.1),(2,sx r.2.2.2.2)]) 3:=okm (zc6.eq_1 a0) (fun r=>[.int .i64 r.1]) Tryz.f243 []
attribute [local irreducible] zc6
def zo7 (a0:Int):Int :=
 (if (decide (a0 < 0)||decide (1073741824≤a0))=true then
  1
 else
  (i64.wrap (a0+1)))
instance zdn4 (a0:Int):OkT 249 [.int .i64 a0] (.int .i64 (zo7 a0)):=ok2 (fun r=>.int .i64 r) (zo7.eq_1 a0) Tryz.f249 []
def zay3 (a0:List Int):Bool :=
 (decide ((a0.length:Int)≤300))
instance zdn5 (a0:List Int):OkT 5 [.sl (a0.map (eI .i64))] (.bool (zay3 a0)):=ok2 (fun r=>.bool r) (zay3.eq_1 a0) Tryz.f5 []
def zn7 (a0 a1:Int):Option Int :=
 (if (decide (a1 < 1))=true then
  some 0
 else
  gd (a1≠0) <|
  (if (decide (a0.tmod a1 < 0))=true then
   some (i64.wrap (a0.tmod a1+a1))
  else
   some (a0.tmod a1)))
instance zdw3 (a0 a1:Int):OkP (zn7 a0 a1) 18 [.int .i64 a0,.int .i64 a1] (fun r=>.int .i64 r):=ok1 (zn7.eq_1 a0 a1) Tryz.f18 []
attribute [local irreducible] zn7
def zF3 (a0 a1 a2:Int):Bool :=
 (decide (a1≤a0)&&decide (a0≤a2))
instance zcQ4 (a0 a1 a2:Int):OkT 107 [.int .i64 a0,.int .i64 a1,.int .i64 a2] (.bool (zF3 a0 a1 a2)):=ok2 (fun r=>.bool r) (zF3.eq_1 a0 a1 a2) Tryz.f107 []
def zx7 (a0:Int):Bool :=
 (decide (1≤a0)&&decide (a0≤5))
instance zdn6 (a0:Int):OkT 231 [.int .i64 a0] (.bool (zx7 a0)):=ok2 (fun r=>.bool r) (zx7.eq_1 a0) Tryz.f231 []
def zbh0 (j1:Unit):Option Int :=
 some (-1)
def zam6 (a0:List aX) (a1:aJ) (g1:Int):Option (Int⊕(Unit⊕Int)) :=
 (if (decide (g1 < (a0.length:Int)))=true then
  gd (0≤g1∧g1 < (a0.length:Int)) <|
  (if (decide ((a0.getD g1.toNat aX.zero).aP=a1))=true then
   some (.inr (.inr g1))
  else
   some (.inl (i64.wrap (g1+1))))
 else
  some (.inr (.inl ())))
def zn8 (a0:List aX) (a1:aJ):Option Int :=
 (zc0 (zam6 a0 a1) 0).bind (fun|.inl z=>zbh0 z|.inr z=>some z)
@[reducible,instance] def zel7 a0 a1:=mkJ (zn8 a0 a1) 0 (@zbh0.eq_1) fun (j1:Unit)=>⟨[],[],0⟩
@[reducible,instance] def zel8 (a0:List aX) (a1:aJ) {T:Type} (x:T):=mkL x (@zam6.eq_1 a0 a1) fun (g1:Int)=>⟨[(3,.ptr 0 0 0),(7,la a0),(8,.int .i64 (a0.length:Int)),(9,.int .i64 g1)],[(0,bx a1)],1⟩
instance zds5 (a0:List aX) (a1:aJ):OkP (zn8 a0 a1) 226 [la a0,ga a1] (fun r=>.int .i64 r):=ok1 (zn8.eq_1 a0 a1) Tryz.f226 []
attribute [local irreducible] zn8
def zn3 (a0:aB):Option (aX×Bool) :=
 (if (decide (0 < (a0.aI.length:Int)))=true then
  gd (0≤0∧0 < (a0.aI.length:Int)) <|
  some ((a0.aI.getD 0 aX.zero),true)
 else
  (if (decide (0 < (a0.aV.length:Int)))=true then
   gd (0≤0∧0 < (a0.aV.length:Int)) <|
   some ((a0.aV.getD 0 aX.zero),true)
  else
   some ({ aX.zero with  },false)))
instance zdn7 (a0:aB):OkP (zn3 a0) 140 [ga a0] (fun r=>.tup [ga r.1,.bool r.2]):=ok1 (zn3.eq_1 a0) Tryz.f140 []
attribute [local irreducible] zn3
def zai4 (j1:Int×(List Int)):Option (List Int) :=
 gd (j1.2.length+1≤4294967296) <|
 some (j1.2++[(u8.wrap j1.1)])
@[go_sem] def zdz0 (j1:Int×(List Int)):St:=⟨[(1,.int .u64 j1.1),(5,.own 0 0 j1.2.length)],[(0,⟨false,1,[A.int .u8 0],j1.2.map (eI .u8)⟩)],1⟩
def zP4 (g1:Int×(List Int)):Option ((Int×(List Int))⊕(Int×(List Int))) :=
 (if (decide (127 < g1.1))=true then
  gd (g1.2.length+1≤4294967296) <|
  some (.inl ((g1.1.fdiv (2 ^ 7)),(g1.2++[(zA9 .or .u8 (u8.wrap (zA9 .and .u64 g1.1 127)) 128)])))
 else
  some (.inr (g1.1,g1.2)))
@[go_sem] def zdz1 (g1:Int×(List Int)):St:=⟨[(1,.int .u64 g1.1),(5,.own 0 0 g1.2.length)],[(0,⟨false,1,[A.int .u8 0],g1.2.map (eI .u8)⟩)],1⟩
def ze6 (a0:List Int) (a1:Int):Option (List Int) :=
 gd (0≤0∧0≤(a0.length:Int)∧(a0.length:Int)≤(a0.length:Int)∧(a0.length:Int)=(a0.length:Int)) <|
 (if (decide (127 < a1))=true then
  gd ((a0.take ((a0.length:Int).toNat)).length+1≤4294967296) <|
  (zc0 zP4 ((a1.fdiv (2 ^ 7)),(a0.take ((a0.length:Int).toNat)++[(zA9 .or .u8 (u8.wrap (zA9 .and .u64 a1 127)) 128)]))).bind (fun z=>zai4 z)
 else
  gd ((a0.take ((a0.length:Int).toNat)).length+1≤4294967296) <|
  some (a0.take ((a0.length:Int).toNat)++[(u8.wrap a1)]))
theorem zbB2 (a0:List Int) (a1:Int) (r:(List Int)) (h:ze6 a0 a1=some r):PFn C 75 [.sl (a0.map (eI .u8)),.int .u64 a1] (.sl (r.map (eI .u8))):=by
 refine zak7 Tryz.f75 [] fun E hG hN hK=>?_
 unfold ze6 at h
 refine za2 (za5 hG ?_)
 refine za2 ?_
 obtain ⟨hb5,h⟩:=zg0 h
 refine za5 hG ?_
 refine za2 ?_
 refine zce5 zdz0 (fun v=>zai4 v=some r) ?_ ?_
 · intro j1 h
   unfold zai4 at h
   refine g_st ?_
   refine za2 ?_
   obtain ⟨hb1,h⟩:=zg0 h
   refine za5 hG ?_
   refine zx8 ?_
   exact zae1 h
 refine zdc2 (body:=zP4) (kk:=fun z=>zai4 z) (r:=r) zdz1 hK ?_ (fun x_l1 h g1 y_l1 h_l1 hx_l1=>?_)
 · refine za2 (za2 (za5 hG ?_))
   refine zp0 rfl hG h (fun _ h=>?_) (fun _ h=>?_)
   · refine zo3 ?_
     refine zK9 (za2 ?_)
     obtain ⟨hb3,h⟩:=zg0 h
     refine za5 hG ?_
     refine za5 hG ?_
     exact zcK2 hK [(0,0)] h
   refine zR8 ?_
   refine .inr ?_
   refine za2 ?_
   obtain ⟨hb4,h⟩:=zg0 h
   refine za5 hG ?_
   refine zx8 ?_
   exact zae1 h
 unfold zP4 at h_l1
 refine g_st ?_
 refine za2 (za2 (za5 hG ?_))
 refine zp0 rfl hG h_l1 (fun _ h_l1=>?_) (fun _ h_l1=>?_)
 · refine zo3 ?_
   refine zK9 (za2 ?_)
   obtain ⟨hb2,h_l1⟩:=zg0 h_l1
   refine za5 hG ?_
   refine za5 hG ?_
   exact zX7 hK [(0,1)] h_l1
 refine zR8 ?_
 cases h_l1
 cases hx_l1 _ rfl
 refine .inl ?_
 exact zG8 hK [(0,0)] (g1.1,g1.2) (by exact h)
instance zcL0 (a0:List Int) (a1:Int):OkP (ze6 a0 a1) 75 [.sl (a0.map (eI .u8)),.int .u64 a1] (fun r=>.sl (r.map (eI .u8))):=⟨zbB2 a0 a1⟩
attribute [local irreducible] ze6
def zab3 (j1:Int×(List Int)):Option (List Int) :=
 gd (j1.2.length+1≤4294967296) <|
 some (j1.2++[(u8.wrap j1.1)])
@[go_sem] def zdz2  (j1:Int×(List Int)):St:=⟨[(1,.int .u64 j1.1),(5,.own 0 0 j1.2.length)],[(0,⟨false,1,[A.int .u8 0],j1.2.map (eI .u8)⟩)],1⟩
def zam7 (g1:Int×(List Int)):Option ((Int×(List Int))⊕(Int×(List Int))) :=
 (if (decide (127 < g1.1))=true then
  gd (g1.2.length+1≤4294967296) <|
  some (.inl ((g1.1.fdiv (2 ^ 7)),(g1.2++[(zA9 .or .u8 (u8.wrap (zA9 .and .u64 g1.1 127)) 128)])))
 else
  some (.inr (g1.1,g1.2)))
@[go_sem] def zdz3  (g1:Int×(List Int)):St:=⟨[(1,.int .u64 g1.1),(5,.own 0 0 g1.2.length)],[(0,⟨false,1,[A.int .u8 0],g1.2.map (eI .u8)⟩)],1⟩
def zf6 (a0:List Int) (a1:Int):Option (List Int) :=
 gd (0≤0∧0≤(a0.length:Int)∧(a0.length:Int)≤(a0.length:Int)∧(a0.length:Int)=(a0.length:Int)) <|
 (if (decide (127 < a1))=true then
  gd ((a0.take ((a0.length:Int).toNat)).length+1≤4294967296) <|
  (zc0 zam7 ((a1.fdiv (2 ^ 7)),(a0.take ((a0.length:Int).toNat)++[(zA9 .or .u8 (u8.wrap (zA9 .and .u64 a1 127)) 128)]))).bind (fun z=>zab3 z)
 else
  gd ((a0.take ((a0.length:Int).toNat)).length+1≤4294967296) <|
  some (a0.take ((a0.length:Int).toNat)++[(u8.wrap a1)]))
theorem zbn6 (a0:List Int) (a1:Int) (r:(List Int)) (h:zf6 a0 a1=some r):MFn C 75 [.sl (a0.map (eI .u8)),.int .u64 a1] [] 0 (.own 0 0 r.length) [(0,⟨false,1,[A.int .u8 0],r.map (eI .u8)⟩)] 1:=by
 refine zay0 Tryz.f75 [(4,1)] [.own 0 0 r.length] fun E hG hN hK=>?_
 unfold zf6 at h
 refine za2 (za5 hG ?_)
 refine za2 ?_
 obtain ⟨hb5,h⟩:=zg0 h
 refine za5 hG ?_
 refine za2 ?_
 refine zce5 zdz2 (fun v=>zab3 v=some r) ?_ ?_
 · intro j1 h
   unfold zab3 at h
   refine g_st ?_
   refine za2 ?_
   obtain ⟨hb1,h⟩:=zg0 h
   refine za5 hG ?_
   refine zx8 ?_
   exact zP0 [(0,1)] h
 refine zdc2 (body:=zam7) (kk:=fun z=>zab3 z) (r:=r) zdz3 hK ?_ (fun x_l1 h g1 y_l1 h_l1 hx_l1=>?_)
 · refine za2 (za2 (za5 hG ?_))
   refine zp0 rfl hG h (fun _ h=>?_) (fun _ h=>?_)
   · refine zo3 ?_
     refine zK9 (za2 ?_)
     obtain ⟨hb3,h⟩:=zg0 h
     refine za5 hG ?_
     refine za5 hG ?_
     exact zcK2 hK [(0,1)] h
   refine zR8 ?_
   refine .inr ?_
   refine za2 ?_
   obtain ⟨hb4,h⟩:=zg0 h
   refine za5 hG ?_
   refine zx8 ?_
   exact zP0 [(0,1)] h
 unfold zam7 at h_l1
 refine g_st ?_
 refine za2 (za2 (za5 hG ?_))
 refine zp0 rfl hG h_l1 (fun _ h_l1=>?_) (fun _ h_l1=>?_)
 · refine zo3 ?_
   refine zK9 (za2 ?_)
   obtain ⟨hb2,h_l1⟩:=zg0 h_l1
   refine za5 hG ?_
   refine za5 hG ?_
   exact zX7 hK [(0,1)] h_l1
 refine zR8 ?_
 cases h_l1
 cases hx_l1 _ rfl
 refine .inl ?_
 exact zG8 hK [(0,0)] (g1.1,g1.2) (by exact h)
instance zcz9 (a0:List Int) (a1:Int):OkM (zf6 a0 a1) 75 [.sl (a0.map (eI .u8)),.int .u64 a1] [] 0 (fun r=>.own 0 0 r.length) (fun r=>[(0,⟨false,1,[A.int .u8 0],r.map (eI .u8)⟩)]) 1:=⟨zbn6 a0 a1⟩
attribute [local irreducible] zf6
def zbd2 (j1:Unit):Option Int :=
 some (-1)
def zaI5 (a0:List aB) (a1:ByteArray) (g1:Int):Option (Int⊕(Unit⊕Int)) :=
 (if (decide (g1 < (a0.length:Int)))=true then
  gd (0≤g1∧g1 < (a0.length:Int)) <|
  (if ((((a0.getD g1.toNat aB.zero).aA).name).toList == a1.toList)=true then
   some (.inr (.inr g1))
  else
   some (.inl (i64.wrap (g1+1))))
 else
  some (.inr (.inl ())))
def zm4 (a0:List aB) (a1:ByteArray):Option Int :=
 (zc0 (zaI5 a0 a1) 0).bind (fun|.inl z=>zbd2 z|.inr z=>some z)
@[reducible,instance] def zdP3 a0 a1:=mkJ (zm4 a0 a1) 0 (@zbd2.eq_1) fun (j1:Unit)=>⟨[],[],0⟩
@[reducible,instance] def zdP4 (a0:List aB) (a1:ByteArray) {T:Type} (x:T):=mkL x (@zaI5.eq_1 a0 a1) fun (g1:Int)=>⟨[(1,.str a1),(7,la a0),(8,.int .i64 (a0.length:Int)),(9,.int .i64 g1)],[],0⟩
instance zdn8 (a0:List aB) (a1:ByteArray):OkP (zm4 a0 a1) 46 [la a0,.str a1] (fun r=>.int .i64 r):=ok1 (zm4.eq_1 a0 a1) Tryz.f46 []
attribute [local irreducible] zm4
def zj6 (a0:aJ):Bool :=
 (((((decide (0≤a0.site)&&decide (a0.site < 4))&&decide (1≤a0.inc))&&decide (a0.inc≤99))&&decide (1≤a0.num))&&decide (a0.num≤999))
instance zbr8 (a0:aJ):OkT 92 [.agg (aJ.enc a0)] (.bool (zj6 a0)):=ok2 (fun r=>.bool r) (zj6.eq_1 a0) Tryz.f92 []
def zbh1 (j1:Unit):Option aC :=
 some ({ aC.zero with  })
def zay4 (a0:List aY) (a1:aJ) (g1:Int):Option (Int⊕(Unit⊕aC)) :=
 (if (decide (g1 < (a0.length:Int)))=true then
  gd (0≤g1∧g1 < (a0.length:Int)) <|
  (if (decide ((a0.getD g1.toNat aY.zero).aP=a1))=true then
   gd (0≤g1∧g1 < (a0.length:Int)) <|
   some (.inr (.inr ((a0.getD g1.toNat aY.zero).aK)))
  else
   some (.inl (i64.wrap (g1+1))))
 else
  some (.inr (.inl ())))
def zn9 (a0:List aY) (a1:aJ):Option aC :=
 (zc0 (zay4 a0 a1) 0).bind (fun|.inl z=>zbh1 z|.inr z=>some z)
@[reducible,instance] def zdP5 a0 a1:=mkJ (zn9 a0 a1) 0 (@zbh1.eq_1) fun (j1:Unit)=>⟨[(4,.ptr 0 0 0)],[(0,bx aC.zero)],1⟩
@[reducible,instance] def zdP6 (a0:List aY) (a1:aJ) {T:Type} (x:T):=mkL x (@zay4.eq_1 a0 a1) fun (g1:Int)=>⟨[(0,la a0),(3,.ptr 0 0 0),(4,.ptr 1 0 0),(5,.int .i64 g1)],[(0,bx a1),(1,bx aC.zero)],2⟩
instance zds6 (a0:List aY) (a1:aJ):OkP (zn9 a0 a1) 217 [la a0,ga a1] (fun r=>ga r):=ok1 (zn9.eq_1 a0 a1) Tryz.f217 []
attribute [local irreducible] zn9
def zaM6 (j1:(List aJ)):Option (List aJ) :=
 some j1
def zai5 (a0:List aY) (g1:Int×(List aJ)):Option ((Int×(List aJ))⊕(List aJ)) :=
 (if (decide (g1.1 < (a0.length:Int)))=true then
  gd (0≤g1.1∧g1.1 < (a0.length:Int)) <|
  gd (g1.2.length+1≤4294967296) <|
  some (.inl ((i64.wrap (g1.1+1)),(g1.2++[(a0.getD g1.1.toNat aY.zero).aP])))
 else
  some (.inr g1.2))
def zh5 (a0:List aY):Option (List aJ) :=
 (zc0 (zai5 a0) (0,[])).bind (fun z=>zaM6 z)
@[reducible,instance] def zdP7 a0:=mkJ (zh5 a0) 0 (@zaM6.eq_1) fun (j1:(List aJ))=>⟨[(3,.own 0 0 j1.length)],[(0,sx j1)],1⟩
@[reducible,instance] def zdP8 (a0:List aY) {T:Type} (x:T):=mkL x (@zai5.eq_1 a0) fun (g1:Int×(List aJ))=>⟨[(0,la a0),(3,.own 0 0 g1.2.length),(4,.int .i64 g1.1)],[(0,sx g1.2)],1⟩
instance zcL1 (a0:List aY):OkM (zh5 a0) 128 [la a0] [] 0 (fun r=>.own 0 0 r.length) (fun r=>[(0,sx r)]) 1:=okm (zh5.eq_1 a0) (fun r=>[.own 0 0 r.length]) Tryz.f128 [(2,1),(3,1)]
attribute [local irreducible] zh5
def zaC0 (j2:(List aJ)):Option (List aJ) :=
 some j2
def zap2 (a0:aB) (g1:Int×(List aJ)):Option ((Int×(List aJ))⊕(List aJ)) :=
 (if (decide (g1.1 < (a0.aV.length:Int)))=true then
  gd (0≤g1.1∧g1.1 < (a0.aV.length:Int)) <|
  gd (g1.2.length+1≤4294967296) <|
  some (.inl ((i64.wrap (g1.1+1)),(g1.2++[(a0.aV.getD g1.1.toNat aX.zero).aP])))
 else
  some (.inr g1.2))
def zap3 (a0:aB) (j1:(List aJ)):Option (List aJ) :=
 (zc0 (zap2 a0) (0,j1)).bind (fun z=>zaC0 z)
def zap4 (a0:aB) (g2:Int×(List aJ)):Option ((Int×(List aJ))⊕(List aJ)) :=
 (if (decide (g2.1 < (a0.aI.length:Int)))=true then
  gd (0≤g2.1∧g2.1 < (a0.aI.length:Int)) <|
  gd (g2.2.length+1≤4294967296) <|
  some (.inl ((i64.wrap (g2.1+1)),(g2.2++[(a0.aI.getD g2.1.toNat aX.zero).aP])))
 else
  some (.inr g2.2))
def zl1 (a0:aB):Option (List aJ) :=
 (zc0 (zap4 a0) (0,[])).bind (fun z=>zap3 a0 z)
@[reducible,instance] def zdP9 a0 j1:=mkJ (zap3 a0 j1) 2 (@zaC0.eq_1) fun (j2:(List aJ))=>⟨[(3,.own 0 0 j2.length)],[(0,sx j2)],1⟩
@[reducible,instance] def zdQ0 (a0:aB) {T:Type} (x:T):=mkL x (@zap2.eq_1 a0) fun (g1:Int×(List aJ))=>⟨[(1,.ptr 0 0 0),(3,.own 1 0 g1.2.length),(5,.int .i64 g1.1)],[(0,bx a0),(1,sx g1.2)],2⟩
@[reducible,instance] def zdQ1 (a0:aB):=mkJ (zl1 a0) 0 (@zap3.eq_1 a0) fun (j1:(List aJ))=>⟨[(1,.ptr 0 0 0),(3,.own 1 0 j1.length)],[(0,bx a0),(1,sx j1)],2⟩
@[reducible,instance] def zdQ2 (a0:aB) {T:Type} (x:T):=mkL x (@zap4.eq_1 a0) fun (g2:Int×(List aJ))=>⟨[(1,.ptr 0 0 0),(3,.own 1 0 g2.2.length),(4,.int .i64 g2.1)],[(0,bx a0),(1,sx g2.2)],2⟩
instance zdd9 (a0:aB):OkP (zl1 a0) 129 [ga a0] (fun r=>la r):=ok1 (zl1.eq_1 a0) Tryz.f129 [(3,1)]
attribute [local irreducible] zl1
def zbd3 (j1:Unit):Option (aH×Bool) :=
 some ({ aH.zero with  },false)
def zat9 (a0:List aH) (a1:ByteArray) (g1:Int):Option (Int⊕(Unit⊕(aH×Bool))) :=
 (if (decide (g1 < (a0.length:Int)))=true then
  gd (0≤g1∧g1 < (a0.length:Int)) <|
  (if (((a0.getD g1.toNat aH.zero).name).toList == a1.toList)=true then
   gd (0≤g1∧g1 < (a0.length:Int)) <|
   some (.inr (.inr ((a0.getD g1.toNat aH.zero),true)))
  else
   some (.inl (i64.wrap (g1+1))))
 else
  some (.inr (.inl ())))
def zm7 (a0:List aH) (a1:ByteArray):Option (aH×Bool) :=
 (zc0 (zat9 a0 a1) 0).bind (fun|.inl z=>zbd3 z|.inr z=>some z)
@[reducible,instance] def zdQ3 a0 a1:=mkJ (zm7 a0 a1) 0 (@zbd3.eq_1) fun (j1:Unit)=>⟨[(4,.ptr 0 0 0)],[(0,bx aH.zero)],1⟩
@[reducible,instance] def zdQ4 (a0:List aH) (a1:ByteArray) {T:Type} (x:T):=mkL x (@zat9.eq_1 a0 a1) fun (g1:Int)=>⟨[(0,la a0),(1,.str a1),(4,.ptr 0 0 0),(6,.int .i64 g1)],[(0,bx aH.zero)],1⟩
instance zdn9 (a0:List aH) (a1:ByteArray):OkP (zm7 a0 a1) 238 [la a0,.str a1] (fun r=>.tup [ga r.1,.bool r.2]):=ok1 (zm7.eq_1 a0 a1) Tryz.f238 []
attribute [local irreducible] zm7
def zd5 (a0:Int) (a1:aJ) (a2:aZ):Option (Int×(List aB)×(List aG)×(List bL)) :=
 gd (a2.ev.length+1≤4294967296) <|
 some (a2.c.now,a2.c.aF,a2.c.aD,(a2.ev++[{ bL.zero with kind:=a0,aP:=a1 }]))
instance zco7 (a0:Int) (a1:aJ) (a2:aZ):OkM (zd5 a0 a1 a2) 244 [.ptr 0 0 0,.int .i64 a0,ga a1] [(0,⟨false,4,aZ.enc aZ.zero,[[.int .i64 a2.c.now,la a2.c.aF,.own 1 0 a2.c.aD.length,.own 2 0 a2.ev.length]]⟩),(1,sx a2.c.aD),(2,sx a2.ev)] 3 (fun r=>.tup []) (fun r=>[(0,⟨false,4,aZ.enc aZ.zero,[[.int .i64 r.1,la r.2.1,.own 1 0 r.2.2.1.length,.own 3 0 r.2.2.2.length]]⟩),(1,sx r.2.2.1),(3,sx r.2.2.2)]) 4:=okm (zd5.eq_1 a0 a1 a2) (fun r=>[]) Tryz.f244 []
attribute [local irreducible] zd5
def zj5 (a0:aB):Option aB :=
 gd (a0.aS.length≤4294967296) <|
 gd (a0.aI.length≤4294967296) <|
 gd (a0.aV.length≤4294967296) <|
 some a0
theorem zbB3 (a0 r:aB) (h:zj5 a0=some r):MFn C 277 [ga a0] [] 0 (.agg [.str r.aA.name,.int .i64 r.aA.kind,.int .i64 r.aA.aT,.int .i64 r.aA.home,.own 0 0 r.aS.length,.own 1 0 r.aI.length,.own 2 0 r.aV.length,.int .i64 r.gen]) [(0,sx r.aS),(1,sx r.aI),(2,sx r.aV)] 3:=by
 refine zay0 Tryz.f277 [(3,1),(8,1),(13,1)] [.agg [.str r.aA.name,.int .i64 r.aA.kind,.int .i64 r.aA.aT,.int .i64 r.aA.home,.own 0 0 r.aS.length,.own 1 0 r.aI.length,.own 2 0 r.aV.length,.int .i64 r.gen]] fun E hG hN hK=>?_
 unfold zj5 at h
 refine za2 (za5 hG ?_)
 refine za2 ?_
 obtain ⟨hb3,h⟩:=zg0 h
 refine za5 hG ?_
 refine za2 ?_
 obtain ⟨hb2,h⟩:=zg0 h
 refine za5 hG ?_
 refine za2 ?_
 obtain ⟨hb1,h⟩:=zg0 h
 refine za5 hG ?_
 refine za2 (za5 hG ?_)
 refine zx8 ?_
 exact zP0 [(0,3),(1,5),(2,7)] h
attribute [local irreducible] zj5
def zY1 (j1:Int×(List Int)):Option (List Int) :=
 gd (j1.2.length+1≤4294967296) <|
 some (j1.2++[(u8.wrap j1.1)])
def zt4 (g1:Int×(List Int)):Option ((Int×(List Int))⊕(Int×(List Int))) :=
 (if (decide (128≤g1.1))=true then
  gd (g1.2.length+1≤4294967296) <|
  some (.inl ((g1.1.fdiv (2 ^ 7)),(g1.2++[(zA9 .or .u8 (u8.wrap (zA9 .and .u64 g1.1 127)) 128)])))
 else
  some (.inr (g1.1,g1.2)))
def ze7 (a0:List Int) (a1:Int):Option (List Int) :=
 gd (a0.length≤4294967296) <|
 (zc0 zt4 (a1,a0)).bind (fun z=>zY1 z)
@[reducible,instance] def zdQ5 a0 a1:=mkJ (ze7 a0 a1) 0 (@zY1.eq_1) fun (j1:Int×(List Int))=>⟨[(1,.int .u64 j1.1),(5,.own 0 0 j1.2.length)],[(0,⟨false,1,[A.int .u8 0],j1.2.map (eI .u8)⟩)],1⟩
@[reducible,instance] def zdQ6 {T:Type} (x:T):=mkL x (@zt4.eq_1) fun (g1:Int×(List Int))=>⟨[(1,.int .u64 g1.1),(5,.own 0 0 g1.2.length)],[(0,⟨false,1,[A.int .u8 0],g1.2.map (eI .u8)⟩)],1⟩
instance zcQ5 (a0:List Int) (a1:Int):OkP (ze7 a0 a1) 99 [.sl (a0.map (eI .u8)),.int .u64 a1] (fun r=>.sl (r.map (eI .u8))):=ok1 (ze7.eq_1 a0 a1) Tryz.f99 [(6,1)]
attribute [local irreducible] ze7
def zaH0 (j1:Int×(List Int)):Option (List Int) :=
 gd (j1.2.length+1≤4294967296) <|
 some (j1.2++[(u8.wrap j1.1)])
def zaH1 (g1:Int×(List Int)):Option ((Int×(List Int))⊕(Int×(List Int))) :=
 (if (decide (128≤g1.1))=true then
  gd (g1.2.length+1≤4294967296) <|
  some (.inl ((g1.1.fdiv (2 ^ 7)),(g1.2++[(zA9 .or .u8 (u8.wrap (zA9 .and .u64 g1.1 127)) 128)])))
 else
  some (.inr (g1.1,g1.2)))
def zf7 (a0:List Int) (a1:Int):Option (List Int) :=
 gd (a0.length≤4294967296) <|
 (zc0 zaH1 (a1,a0)).bind (fun z=>zaH0 z)
@[reducible,instance] def zdQ7 a0 a1:=mkJ (zf7 a0 a1) 0 (@zaH0.eq_1) fun (j1:Int×(List Int))=>⟨[(1,.int .u64 j1.1),(5,.own 0 0 j1.2.length)],[(0,⟨false,1,[A.int .u8 0],j1.2.map (eI .u8)⟩)],1⟩
@[reducible,instance] def zdQ8 {T:Type} (x:T):=mkL x (@zaH1.eq_1) fun (g1:Int×(List Int))=>⟨[(1,.int .u64 g1.1),(5,.own 0 0 g1.2.length)],[(0,⟨false,1,[A.int .u8 0],g1.2.map (eI .u8)⟩)],1⟩
instance zcA0 (a0:List Int) (a1:Int):OkM (zf7 a0 a1) 99 [.sl (a0.map (eI .u8)),.int .u64 a1] [] 0 (fun r=>.own 0 0 r.length) (fun r=>[(0,⟨false,1,[A.int .u8 0],r.map (eI .u8)⟩)]) 1:=okm (zf7.eq_1 a0 a1) (fun r=>[.own 0 0 r.length]) Tryz.f99 [(4,1),(6,1)]
attribute [local irreducible] zf7
end
end Ab
end Go.Proofs.YtcggeefhhegeoaaGreatDoor
