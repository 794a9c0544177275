import Derived.Test.YtenebhlnfjcffaaGreatDoorHand
import Derived.Test.YtenebhlnfjcffaaGreatDoorStr
namespace Go.Proofs.YtenebhlnfjcffaaGreatDoor
namespace Ab
open IntKind (i64 u64 u8)
set_option linter.unusedSimpArgs false
set_option linter.defProp false
set_option linter.unusedVariables false
set_option maxRecDepth 100000
set_option maxHeartbeats 1000000
noncomputable section
def zp2(a0 a1:Int):Option Int:=
 (if(decide (a1<1))=true then
  some 0
 else
  gd (a1≠0)<|
  (if(decide (a0.tmod a1<0))=true then
   some (i64.wrap (a0.tmod a1+a1))
  else
   some (a0.tmod a1)))
instance zdH4(a0 a1:Int):OkP (zp2 a0 a1) 43 [.int .i64 a0,.int .i64 a1] (λ r=>.int .i64 r):=ok1 (zp2.eq_1 a0 a1) Tryz.f43 []
attribute [local irreducible] zp2
def zw5(a0:Int):Bool:=
 (decide (1<=a0)&&decide (a0<=5))
instance zdy1(a0:Int):OkT 166 [.int .i64 a0] (.bool (zw5 a0)):=ok2 (λ r=>.bool r) (zw5.eq_1 a0) Tryz.f166 []
def zbi0(j1:Unit):Option (Int×Int×Int):=
 some (0,0,6)
def zbi1(a0:List Int)(g1:Int×Int):Option ((Int×Int)⊕(Unit⊕(Int×Int×Int))):=
 (if (decide (g1.2<10))=true then
  (if(decide ((a0.length:Int)<=g1.2))=true then
   some (.inr (.inr (0,0,5)))
  else
   gd (0<=g1.2/\g1.2<(a0.length:Int))<|
   (if(decide (g1.2=9)&&decide (1<a0.getD g1.2.toNat 0))=true then
    some (.inr (.inr (0,0,6)))
   else
    gd (0<=i64.wrap (7*g1.2))<|
    (if(!decide (zaE9 .and .u8 (a0.getD g1.2.toNat 0) 128=0))=true then
     some (.inl ((zaE9 .or .u64 g1.1 (u64.wrap (u64.wrap (zaE9 .and .u8 (a0.getD g1.2.toNat 0) 127)*2^(Nat.min (i64.wrap (7*g1.2)).toNat u64.bits)))),i64.wrap (g1.2+1)))
    else
     (if(decide (a0.getD g1.2.toNat 0=0)&&decide (0<g1.2))=true then
      some (.inr (.inr (0,0,6)))
     else
      some (.inr (.inr ((zaE9 .or .u64 g1.1 (u64.wrap (u64.wrap (zaE9 .and .u8 (a0.getD g1.2.toNat 0) 127)*2^(Nat.min (i64.wrap (7*g1.2)).toNat u64.bits)))),i64.wrap (g1.2+1),0)))))))
 else
  some (.inr (.inl ())))
def zm8(a0:List Int):Option (Int×Int×Int):=
 (zc2 (zbi1 a0) (0,0)).bind (λ|.inl z=>zbi0 z|.inr z=>some z)
@[reducible,instance] def zea1 a0:=mkJ (zm8 a0) 0 (@zbi0.eq_1) λ(j1:Unit)=>⟨[],[],0⟩
@[reducible,instance] def zea2 (a0:List Int) {T:Type} (x:T):=mkL x (@zbi1.eq_1 a0) λ(g1:Int×Int)=>⟨[(0,.sl (a0.map (eI .u8))),(5,.int .u64 g1.1),(8,.int .i64 g1.2)],[],0⟩
instance zdy2(a0:List Int):OkP (zm8 a0) 149 [.sl (a0.map (eI .u8))] (λ r=>.tup [.int .u64 r.1,.int .i64 r.2.1,.int .i64 r.2.2]):=ok1 (zm8.eq_1 a0) Tryz.f149 []
attribute [local irreducible] zm8
def zaQ9(j1:(List (ByteArray×aC))):Option (List (ByteArray×aC)):=
 some j1
def zaj2(a0:List bC)(g1:Int×(List (ByteArray×aC))):Option ((Int×(List (ByteArray×aC)))⊕(List (ByteArray×aC))):=
 (if(decide (g1.1<(a0.length:Int)))=true then
  gd (0<=g1.1/\g1.1<(a0.length:Int))<|
  some (.inl ((i64.wrap (g1.1+1)),mput ((a0.getD g1.1.toNat bC.zero).name) ((a0.getD g1.1.toNat bC.zero).after) g1.2))
 else
  some (.inr g1.2))
def zh0(a0:List bC):Option (List (ByteArray×aC)):=
 (zc2 (zaj2 a0) (0,[])).bind (λ z=>zaQ9 z)
@[reducible,instance] def zea3 a0:=mkJ (zh0 a0) 0 (@zaQ9.eq_1) λ(j1:(List (ByteArray×aC)))=>⟨[(3,.mp 0)],[(0,⟨false,0,[A.str ⟨#[]⟩,A.bool true],j1.map (mS aC.enc)⟩)],1⟩
@[reducible,instance] def zea4 (a0:List bC) {T:Type} (x:T):=mkL x (@zaj2.eq_1 a0) λ(g1:Int×(List (ByteArray×aC)))=>⟨[(3,.mp 0),(7,la a0),(8,.int .i64 (a0.length:Int)),(9,.int .i64 g1.1)],[(0,⟨false,0,[A.str ⟨#[]⟩,A.bool true],g1.2.map (mS aC.enc)⟩)],1⟩
instance zbB4(a0:List bC):OkM (zh0 a0) 162 [la a0] [] 0 (λ r=>.mp 0) (λ r=>[(0,⟨false,0,[A.str ⟨#[]⟩,A.bool true],r.map (mS aC.enc)⟩)]) 1:=okm (zh0.eq_1 a0) (λ r=>[.mp 0]) Tryz.f162 []
attribute [local irreducible] zh0
def zf8(a0 a1:ByteArray):Option Int:=some (Go.Lib.compareBytes a0.data.toList a1.data.toList)
theorem zbm0:Lays.n106 C.P ⟨λ|106=>229|213=>277|265=>303|n=>n,λ|3=>3|9=>9|n=>n,λ n=>n⟩ where
 mixed:=zM4
 f106:=Tryz.func229.trans (dG some (by kernel_rfl))
 f213:=Tryz.func277.trans (dG some (by kernel_rfl))
 f265:=Tryz.func303.trans (dG some (by kernel_rfl))
 t3:=Tryz.underlying3
 a3:=Tryz.isAgg3
 z3:=Tryz.sizeOf3
 v3:=Tryz.zeroValue3
 t9:=Tryz.underlying9
 a9:=Tryz.isAgg9
 z9:=Tryz.sizeOf9
 v9:=Tryz.zeroValue9
theorem zbw4(a0 a1:ByteArray)(r:Int)(h:zf8 a0 a1=some r):PFn C 229 [.str a0,.str a1] (.int .i64 r):=by obtain rfl:=dS h;exact zda6 zbm0 rfl a0 a1
instance zcH5(a0 a1:ByteArray):OkP (zf8 a0 a1) 229 [.str a0,.str a1] (λ r=>.int .i64 r):=⟨zbw4 a0 a1⟩
attribute [local irreducible] zf8
def zaB9(j1:(List aH)):Option (List aH):=
 some j1
def zV6(a0:List aB)(g1:Int×(List aH)):Option ((Int×(List aH))⊕(List aH)):=
 (if(decide (g1.1<(a0.length:Int)))=true then
  gd (0<=g1.1/\g1.1<(a0.length:Int))<|
  gd (g1.2.length+1<=4294967296)<|
  some (.inl ((i64.wrap (g1.1+1)),(g1.2++[(a0.getD g1.1.toNat aB.zero).aA])))
 else
  some (.inr g1.2))
def ze0(a0:List aB):Option (List aH):=
 (zc2 (zV6 a0) (0,[])).bind (λ z=>zaB9 z)
@[reducible,instance] def zea5 a0:=mkJ (ze0 a0) 0 (@zaB9.eq_1) λ(j1:(List aH))=>⟨[(3,.own 0 0 j1.length)],[(0,sx j1)],1⟩
@[reducible,instance] def zea6 (a0:List aB) {T:Type} (x:T):=mkL x (@zV6.eq_1 a0) λ(g1:Int×(List aH))=>⟨[(3,.own 0 0 g1.2.length),(6,la a0),(7,.int .i64 (a0.length:Int)),(8,.int .i64 g1.1)],[(0,sx g1.2)],1⟩
instance zcA6(a0:List aB):OkP (ze0 a0) 169 [la a0] (λ r=>la r):=ok1 (ze0.eq_1 a0) Tryz.f169 [(3,1)]
attribute [local irreducible] ze0
def ze4(a0:Int)(a1:List aH)(a2:ByteArray):Option (Bool×(List aH)×ByteArray):=
 gd (0<=a0/\a0<(a1.length:Int))<|
 some ((!Op.bytesLess ((a1.getD a0.toNat aH.zero).name).toList a2.toList),a1,a2)
instance zcv0(a0:Int)(a1:List aH)(a2:ByteArray):OkM (ze4 a0 a1 a2) 305 [.int .i64 a0,.ptr 0 0 0,.ptr 1 0 0] [(0,⟨false,1,[A.sl ([].map aH.enc)],[[A.sl (a1.map aH.enc)]]⟩),(1,⟨false,1,[A.str ⟨#[]⟩],[[A.str a2]]⟩)] 2 (λ r=>.bool r.1) (λ r=>[(0,⟨false,1,[A.sl ([].map aH.enc)],[[A.sl (r.2.1.map aH.enc)]]⟩),(1,⟨false,1,[A.str ⟨#[]⟩],[[A.str r.2.2]]⟩)]) 2:=okm (ze4.eq_1 a0 a1 a2) (λ r=>[.bool r.1]) Tryz.f305 []
attribute [local irreducible] ze4
def zc8(a0:aJ)(a1:aB):Option (Bool×aB):=
 some ((a0.name.toList==a1.aA.name.toList),a1)
instance zbW1(a0:aJ)(a1:aB):OkM (zc8 a0 a1) 236 [ga a0,.ptr 0 0 0] [(0,bx a1)] 1 (λ r=>.bool r.1) (λ r=>[(0,bx r.2)]) 1:=okm (zc8.eq_1 a0 a1) (λ r=>[.bool r.1]) Tryz.f236 []
attribute [local irreducible] zc8
def zH7(j1:Unit):Option Bool:=
 some true
def zH8(a0 a1:List aJ)(g1:Int):Option (Int⊕(Unit⊕Bool)):=
 (if(decide (g1<(a0.length:Int)))=true then
  gd (0<=g1/\g1<(a0.length:Int))<|
  gd (0<=g1/\g1<(a1.length:Int))<|
  (if(!decide (a0.getD g1.toNat aJ.zero=a1.getD g1.toNat aJ.zero))=true then
   some (.inr (.inr false))
  else
   some (.inl (i64.wrap (g1+1))))
 else
  some (.inr (.inl ())))
def za9(a0 a1:List aJ):Option Bool:=
 (if(!decide ((a0.length:Int)=(a1.length:Int)))=true then
  some false
 else
  (zc2 (zH8 a0 a1) 0).bind (λ|.inl z=>zH7 z|.inr z=>some z))
@[reducible,instance] def zea7 a0 a1:=mkJ (za9 a0 a1) 0 (@zH7.eq_1) λ(j1:Unit)=>⟨[],[],0⟩
@[reducible,instance] def zea8 (a0 a1:List aJ) {T:Type} (x:T):=mkL x (@zH8.eq_1 a0 a1) λ(g1:Int)=>⟨[(0,la a0),(1,la a1),(12,.int .i64 (a0.length:Int)),(13,.int .i64 g1)],[],0⟩
instance zbz7(a0 a1:List aJ):OkP (za9 a0 a1) 175 [la a0,la a1] (λ r=>.bool r):=ok1 (za9.eq_1 a0 a1) Tryz.f175 []
attribute [local irreducible] za9
def zR8(a0 a1:Int):Int:=
 (if(decide (a0<a1))=true then
  (-1)
 else
  (if(decide (a1<a0))=true then
   1
  else
   0))
instance zdp3(a0 a1:Int):OkT 129 [.int .i64 a0,.int .i64 a1] (.int .i64 (zR8 a0 a1)):=ok2 (λ r=>.int .i64 r) (zR8.eq_1 a0 a1) Tryz.f129 []
def zbi2(j1:Unit):Option Int:=
 some (-1)
def zbi3(a0:List aU)(a1:aL)(g1:Int):Option (Int⊕(Unit⊕Int)):=
 (if(decide (g1<(a0.length:Int)))=true then
  gd (0<=g1/\g1<(a0.length:Int))<|
  (if(decide ((a0.getD g1.toNat aU.zero).aK=a1))=true then
   some (.inr (.inr g1))
  else
   some (.inl (i64.wrap (g1+1))))
 else
  some (.inr (.inl ())))
def zk6(a0:List aU)(a1:aL):Option Int:=
 (zc2 (zbi3 a0 a1) 0).bind (λ|.inl z=>zbi2 z|.inr z=>some z)
@[reducible,instance] def zea9 a0 a1:=mkJ (zk6 a0 a1) 0 (@zbi2.eq_1) λ(j1:Unit)=>⟨[],[],0⟩
@[reducible,instance] def zeb0 (a0:List aU) (a1:aL) {T:Type} (x:T):=mkL x (@zbi3.eq_1 a0 a1) λ(g1:Int)=>⟨[(0,la a0),(3,.ptr 0 0 0),(5,.int .i64 g1)],[(0,bx a1)],1⟩
instance zdy3(a0:List aU)(a1:aL):OkP (zk6 a0 a1) 240 [la a0,ga a1] (λ r=>.int .i64 r):=ok1 (zk6.eq_1 a0 a1) Tryz.f240 []
attribute [local irreducible] zk6
def zax4(j1:Unit):Option Bool:=
 some false
def zY3(a0:List aL)(a1:aL)(g1:Int):Option (Int⊕(Unit⊕Bool)):=
 (if(decide (g1<(a0.length:Int)))=true then
  gd (0<=g1/\g1<(a0.length:Int))<|
  (if(decide (a0.getD g1.toNat aL.zero=a1))=true then
   some (.inr (.inr true))
  else
   some (.inl (i64.wrap (g1+1))))
 else
  some (.inr (.inl ())))
def zh1(a0:List aL)(a1:aL):Option Bool:=
 (zc2 (zY3 a0 a1) 0).bind (λ|.inl z=>zax4 z|.inr z=>some z)
@[reducible,instance] def zeb1 a0 a1:=mkJ (zh1 a0 a1) 0 (@zax4.eq_1) λ(j1:Unit)=>⟨[],[],0⟩
@[reducible,instance] def zeb2 (a0:List aL) (a1:aL) {T:Type} (x:T):=mkL x (@zY3.eq_1 a0 a1) λ(g1:Int)=>⟨[(0,la a0),(3,.ptr 0 0 0),(5,.int .i64 g1)],[(0,bx a1)],1⟩
instance zda7(a0:List aL)(a1:aL):OkP (zh1 a0 a1) 180 [la a0,ga a1] (λ r=>.bool r):=ok1 (zh1.eq_1 a0 a1) Tryz.f180 []
attribute [local irreducible] zh1
def zbi4(j1:Int×Int):Option (Int×Int):=
 some (j1.1,i64.wrap (j1.2+1))
def zaw8(g1:Int×Int×Int)(v1:Int×Int)(j2:Int):Option ((Int×Int×Int)⊕((Int×Int)⊕(Int×Int))):=
 (if(decide (24<i64.wrap (g1.1+v1.1)))=true then
  some (.inr (.inr (25,0)))
 else
  some (.inl ((i64.wrap (g1.1+v1.1)),j2,i64.wrap (g1.2.2+1))))
def zaa1(a90:(aO->Int->Option (Int×Int)))(a0:aO)(a1:Int)(g1:Int×Int×Int):Option ((Int×Int×Int)⊕((Int×Int)⊕(Int×Int))):=
 (if(decide (g1.2.2<(a0.bE.length:Int)))=true then
  gd (0<=g1.2.2/\g1.2.2<(a0.bE.length:Int))<|
  (a90 (a0.bE.getD g1.2.2.toNat aO.zero) (i64.wrap (a1+1))).bind λ v1=>
  (if(decide (g1.2.1<v1.2))=true then
   zaw8 g1 v1 v1.2
  else
   zaw8 g1 v1 g1.2.1)
 else
  some (.inr (.inl (g1.1,g1.2.1))))
def zaf4(a90:(aO->Int->Option (Int×Int)))(a0:aO)(a1:Int):Option (Int×Int):=
 (if(decide (4<a1)||decide (24<(a0.bE.length:Int)))=true then
  some (25,0)
 else
  (zc2 (zaa1 a90 a0 a1) (1,0,0)).bind (λ|.inl z=>zbi4 z|.inr z=>some z))
def zR9:Nat->(aO->Int->Option (Int×Int))
 |0=>λ _ _=>none
 |n+1=>zaf4 (zR9 n)
def zo5(a0:aO)(a1:Int):Option (Int×Int):=zR9 (_root_.SizeOf.sizeOf a0+1) a0 a1
@[reducible,instance] def zeb3 (a90:(aO->Int->Option (Int×Int))) (a0:aO) (a1:Int):=mkJ (zaf4 a90 a0 a1) 0 (@zbi4.eq_1) λ(j1:Int×Int)=>⟨[(6,.int .i64 j1.1),(7,.int .i64 j1.2)],[],0⟩
@[reducible,instance] def zeb4 (a90:(aO->Int->Option (Int×Int))) (a0:aO) (a1:Int) (g1:Int×Int×Int) (v1:Int×Int):=mkJ (zaa1 a90 a0 a1 g1,v1) 999 (@zaw8.eq_1 g1 v1) λ(j2:Int)=>⟨[(1,.int .i64 a1),(2,.ptr 0 0 0),(6,.int .i64 (i64.wrap (g1.1+v1.1))),(7,.int .i64 j2),(8,.int .i64 g1.2.2)],[(0,bx a0)],1⟩
@[reducible,instance] def zeb5 (a90:(aO->Int->Option (Int×Int))) (a0:aO) (a1:Int) {T:Type} (x:T):=mkL x (@zaa1.eq_1 a90 a0 a1) λ(g1:Int×Int×Int)=>⟨[(1,.int .i64 a1),(2,.ptr 0 0 0),(6,.int .i64 g1.1),(7,.int .i64 g1.2.1),(8,.int .i64 g1.2.2)],[(0,bx a0)],1⟩
abbrev zaO7(g:(aO->Int->Option (Int×Int))):Prop:=∀(a0:aO) (a1:Int),OkP (g a0 a1) 146 [.agg (aO.enc a0),.int .i64 a1] (λ r=>.tup [.int .i64 r.1,.int .i64 r.2])
theorem zbW2(a90:(aO->Int->Option (Int×Int)))(hrc:zaO7 a90):zaO7 (zaf4 a90):=λ a0 a1=>ok1 (zaf4.eq_1 a90 a0 a1) Tryz.f146 []
theorem zbW3:∀n,zaO7 (zR9 n):=zaQ7 (λ _ _=>⟨λ _ h=>nomatch h⟩) λ n=>zbW2 _
instance zdy4:zaO7 zo5:=λ a0 a1=>zbW3 _ a0 a1
attribute [local irreducible] zo5
def zaR0(j1:(List aH)):Option (List aH):=
 some j1
def zaj3(a0:List aB)(g1:Int×(List aH)):Option ((Int×(List aH))⊕(List aH)):=
 (if(decide (g1.1<(a0.length:Int)))=true then
  gd (0<=g1.1/\g1.1<(a0.length:Int))<|
  gd (g1.2.length+1<=4294967296)<|
  some (.inl ((i64.wrap (g1.1+1)),(g1.2++[(a0.getD g1.1.toNat aB.zero).aA])))
 else
  some (.inr g1.2))
def zh2(a0:List aB):Option (List aH):=
 (zc2 (zaj3 a0) (0,[])).bind (λ z=>zaR0 z)
@[reducible,instance] def zeb6 a0:=mkJ (zh2 a0) 0 (@zaR0.eq_1) λ(j1:(List aH))=>⟨[(3,.own 0 0 j1.length)],[(0,sx j1)],1⟩
@[reducible,instance] def zeb7 (a0:List aB) {T:Type} (x:T):=mkL x (@zaj3.eq_1 a0) λ(g1:Int×(List aH))=>⟨[(0,la a0),(3,.own 0 0 g1.2.length),(4,.int .i64 g1.1)],[(0,sx g1.2)],1⟩
instance zda8(a0:List aB):OkP (zh2 a0) 127 [la a0] (λ r=>la r):=ok1 (zh2.eq_1 a0) Tryz.f127 [(3,1)]
attribute [local irreducible] zh2
def zaf5(j1:Unit):Option Bool:=
 some false
def zF6(a0:aO)(a1:List aJ)(a2:List Bool)(g1:Int):Option (Int⊕(Unit⊕Bool)):=
 (if(decide (g1<(a1.length:Int)))=true then
  gd (0<=g1/\g1<(a1.length:Int))<|
  (if(decide (a1.getD g1.toNat aJ.zero=a0.bG))=true then
   gd (decide (g1<(a2.length:Int))=true->0<=g1/\g1<(a2.length:Int))<|
   some (.inr (.inr (decide (g1<(a2.length:Int))&&a2.getD g1.toNat false)))
  else
   some (.inl (i64.wrap (g1+1))))
 else
  some (.inr (.inl ())))
def zba6(a0:aO)(j2:Int):Option Bool:=
 some (decide (a0.k<=j2))
def zX2(a90:(aO->List aJ->List Bool->Option Bool))(a0:aO)(a1:List aJ)(a2:List Bool)(g2:Int×Int):Option ((Int×Int)⊕Int):=
 (if(decide (g2.2<(a0.bE.length:Int)))=true then
  gd (0<=g2.2/\g2.2<(a0.bE.length:Int))<|
  (a90 (a0.bE.getD g2.2.toNat aO.zero) a1 a2).bind λ v1=>
  (if v1=true then
   some (.inl ((i64.wrap (g2.1+1)),i64.wrap (g2.2+1)))
  else
   some (.inl (g2.1,i64.wrap (g2.2+1))))
 else
  some (.inr g2.1))
def zI6(a90:(aO->List aJ->List Bool->Option Bool))(a0:aO)(a1:List aJ)(a2:List Bool):Option Bool:=
 (if(decide (a0.k=0))=true then
  (zc2 (zF6 a0 a1 a2) 0).bind (λ|.inl z=>zaf5 z|.inr z=>some z)
 else
  (zc2 (zX2 a90 a0 a1 a2) (0,0)).bind (λ z=>zba6 a0 z))
def fr_ref08_holds:Nat->(aO->List aJ->List Bool->Option Bool)
 |0=>λ _ _ _=>none
 |n+1=>zI6 (fr_ref08_holds n)
def f_ref08_holds(a0:aO)(a1:List aJ)(a2:List Bool):Option Bool:=fr_ref08_holds (_root_.SizeOf.sizeOf a0+1) a0 a1 a2
@[reducible,instance] def zeb8 (a90:(aO->List aJ->List Bool->Option Bool)) (a0:aO) (a1:List aJ) (a2:List Bool):=mkJ (zI6 a90 a0 a1 a2) 0 (@zaf5.eq_1) λ(j1:Unit)=>⟨[],[],0⟩
@[reducible,instance] def zeb9 (a0:aO) (a1:List aJ) (a2:List Bool) {T:Type} (x:T):=mkL x (@zF6.eq_1 a0 a1 a2) λ(g1:Int)=>⟨[(1,la a1),(2,.sl (a2.map eB)),(3,.ptr 0 0 0),(7,.int .i64 g1)],[(0,bx a0)],1⟩
@[reducible,instance] def zec0 (a90:(aO->List aJ->List Bool->Option Bool)) (a0:aO) (a1:List aJ) (a2:List Bool):=mkJ (zI6 a90 a0 a1 a2) 2 (@zba6.eq_1 a0) λ(j2:Int)=>⟨[(3,.ptr 0 0 0),(8,.int .i64 j2)],[(0,bx a0)],1⟩
@[reducible,instance] def zec1 (a90:(aO->List aJ->List Bool->Option Bool)) (a0:aO) (a1:List aJ) (a2:List Bool) {T:Type} (x:T):=mkL x (@zX2.eq_1 a90 a0 a1 a2) λ(g2:Int×Int)=>⟨[(1,la a1),(2,.sl (a2.map eB)),(3,.ptr 0 0 0),(8,.int .i64 g2.1),(9,.int .i64 g2.2)],[(0,bx a0)],1⟩
abbrev zaJ0(g:(aO->List aJ->List Bool->Option Bool)):Prop:=∀(a0:aO) (a1:List aJ) (a2:List Bool),OkP (g a0 a1 a2) 42 [.agg (aO.enc a0),.sl (a1.map aJ.enc),.sl (a2.map eB)] (λ r=>.bool r)
theorem zbN2(a90:(aO->List aJ->List Bool->Option Bool))(hrc:zaJ0 a90):zaJ0 (zI6 a90):=λ a0 a1 a2=>ok1 (zI6.eq_1 a90 a0 a1 a2) Tryz.f42 []
theorem zbN3:∀n,zaJ0 (fr_ref08_holds n):=zaQ7 (λ _ _ _=>⟨λ _ h=>nomatch h⟩) λ n=>zbN2 _
instance zdp4:zaJ0 f_ref08_holds:=λ a0 a1 a2=>zbN3 _ a0 a1 a2
attribute [local irreducible] f_ref08_holds
def zar5(a0:List Int):Bool:=
 (decide ((a0.length:Int)<=300))
instance zdy5(a0:List Int):OkT 9 [.sl (a0.map (eI .i64))] (.bool (zar5 a0)):=ok2 (λ r=>.bool r) (zar5.eq_1 a0) Tryz.f9 []
def zat8(a0:bB)(j1:Int):Option (Int×Int×(List aB)×(List aF)×(List bJ)):=
 some (j1,a0.c.now,a0.c.aI,a0.c.aG,a0.ev)
def zO6(a0:bB)(g1:Int×Int×Int):Option ((Int×Int×Int)⊕Int):=
 (if(decide (g1.2.2<((a0.c.aG.length:Nat):Int)))=true then
  gd (0<=g1.2.2/\g1.2.2<((a0.c.aG.length:Nat):Int))<|
  (if((((a0.c.aG.getD g1.2.2.toNat aF.zero).bF&&(!decide (((a0.c.aG.getD g1.2.2.toNat aF.zero).aR).limit=0)))&&decide (i64.wrap ((a0.c.aG.getD g1.2.2.toNat aF.zero).since+((a0.c.aG.getD g1.2.2.toNat aF.zero).aR).limit)<=a0.c.now))&&(decide (g1.1<0)||decide (i64.wrap ((a0.c.aG.getD g1.2.2.toNat aF.zero).since+((a0.c.aG.getD g1.2.2.toNat aF.zero).aR).limit)<g1.2.1)))=true then
   some (.inl (g1.2.2,i64.wrap ((a0.c.aG.getD g1.2.2.toNat aF.zero).since+((a0.c.aG.getD g1.2.2.toNat aF.zero).aR).limit),i64.wrap (g1.2.2+1)))
  else
   some (.inl (g1.1,g1.2.1,i64.wrap (g1.2.2+1))))
 else
  some (.inr g1.1))
def zc7(a0:bB):Option (Int×Int×(List aB)×(List aF)×(List bJ)):=
 (zc2 (zO6 a0) ((-1),0,0)).bind (λ z=>zat8 a0 z)
@[reducible,instance] def zec2 (a0:bB):=mkJ (zc7 a0) 0 (@zat8.eq_1 a0) λ(j1:Int)=>⟨[(3,.int .i64 j1)],[(0,⟨false,4,bB.enc bB.zero,[[.int .i64 a0.c.now,la a0.c.aI,.own 1 0 a0.c.aG.length,.own 2 0 a0.ev.length]]⟩),(1,sx a0.c.aG),(2,sx a0.ev)],3⟩
@[reducible,instance] def zec3 (a0:bB) {T:Type} (x:T):=mkL x (@zO6.eq_1 a0) λ(g1:Int×Int×Int)=>⟨[(0,.ptr 0 0 0),(3,.int .i64 g1.1),(4,.int .i64 g1.2.1),(5,.int .i64 g1.2.2)],[(0,⟨false,4,bB.enc bB.zero,[[.int .i64 a0.c.now,la a0.c.aI,.own 1 0 a0.c.aG.length,.own 2 0 a0.ev.length]]⟩),(1,sx a0.c.aG),(2,sx a0.ev)],3⟩
instance zcf6(a0:bB):OkM (zc7 a0) 245 [.ptr 0 0 0] [(0,⟨false,4,bB.enc bB.zero,[[.int .i64 a0.c.now,la a0.c.aI,.own 1 0 a0.c.aG.length,.own 2 0 a0.ev.length]]⟩),(1,sx a0.c.aG),(2,sx a0.ev)] 3 (λ r=>.int .i64 r.1) (λ r=>[(0,⟨false,4,bB.enc bB.zero,[[.int .i64 r.2.1,la r.2.2.1,.own 1 0 r.2.2.2.1.length,.own 2 0 r.2.2.2.2.length]]⟩),(1,sx r.2.2.2.1),(2,sx r.2.2.2.2)]) 3:=okm (zc7.eq_1 a0) (λ r=>[.int .i64 r.1]) Tryz.f245 []
attribute [local irreducible] zc7
def zl8(a0:aB):Option aB:=
 gd (a0.aP.length<=4294967296)<|
 gd (a0.aN.length<=4294967296)<|
 gd (a0.aT.length<=4294967296)<|
 some a0
instance zdy6(a0:aB):OkP (zl8 a0) 310 [ga a0] (λ r=>ga r):=ok1 (zl8.eq_1 a0) Tryz.f310 [(3,1),(8,1),(13,1)]
attribute [local irreducible] zl8
def zaW2(j1:(List bJ)):Option (List bJ):=
 some j1
def zam1(a0:ByteArray)(a1:List bA)(g1:Int×(List bJ)):Option ((Int×(List bJ))⊕(List bJ)):=
 (if(decide (g1.1<(a1.length:Int)))=true then
  gd (0<=g1.1/\g1.1<(a1.length:Int))<|
  gd (0<=g1.1/\g1.1<(a1.length:Int))<|
  gd (g1.2.length+1<=4294967296)<|
  some (.inl ((i64.wrap (g1.1+1)),(g1.2++[(⟨1,(a1.getD g1.1.toNat bA.zero).aK,a0,(a1.getD g1.1.toNat bA.zero).aM⟩:bJ)])))
 else
  some (.inr g1.2))
def zg5(a0:ByteArray)(a1:List bA):Option (List bJ):=
 (zc2 (zam1 a0 a1) (0,[])).bind (λ z=>zaW2 z)
@[reducible,instance] def zec4 a0 a1:=mkJ (zg5 a0 a1) 0 (@zaW2.eq_1) λ(j1:(List bJ))=>⟨[(5,.own 0 0 j1.length)],[(0,sx j1)],1⟩
@[reducible,instance] def zec5 (a0:ByteArray) (a1:List bA) {T:Type} (x:T):=mkL x (@zam1.eq_1 a0 a1) λ(g1:Int×(List bJ))=>⟨[(0,.str a0),(1,la a1),(5,.own 0 0 g1.2.length),(6,.int .i64 g1.1)],[(0,sx g1.2)],1⟩
instance zbN4(a0:ByteArray)(a1:List bA):OkP (zg5 a0 a1) 292 [.str a0,la a1] (λ r=>la r):=ok1 (zg5.eq_1 a0 a1) Tryz.f292 [(5,1)]
attribute [local irreducible] zg5
end
end Ab
end Go.Proofs.YtenebhlnfjcffaaGreatDoor
