import Derived.Test.YtamndckemppjdaaGreatDoorAuto
namespace Go.Proofs.YtamndckemppjdaaGreatDoor
namespace Ab
open IntKind (i64 u64 u8 u32)
set_option linter.unusedSimpArgs false
set_option linter.defProp false
set_option linter.unusedVariables false
set_option maxRecDepth 100000
set_option maxHeartbeats 4000000
noncomputable section
def zG7(a0:Int):ByteArray:=
 (zaQ2 [(u8.wrap (i64.wrap (97+a0)))])
theorem zaK0(a0:Int):PFn C 16 [.int .i64 a0] (.str (zG7 a0)):=by generalize h:zG7 a0=r;refine zx6 Tryz.f16 [] λ E hG hN hK=>?_;unfold zG7 at h;refine za2 (za3 hG ?_);refine za2 (za3 hG ?_);refine zo3 ?_;exact zaZ1 h
instance zch1(a0:Int):OkT 16 [.int .i64 a0] (.str (zG7 a0)):=⟨zaK0 a0⟩
def zJ1(a0:aG):Bool:=
 (if(decide (a0.kind=1))=true then
  (decide (a0.bJ=1))
 else
  (if(decide (a0.kind=2))=true then
   (decide (1<=a0.bJ)&&decide (a0.bJ<=8))
  else
   false))
instance zaZ2(a0:aG):OkT 172 [.agg (aG.enc a0)] (.bool (zJ1 a0)):=ok2 (λ r=>.bool r) (zJ1.eq_1 a0) Tryz.f172 []
def zy8(a0:Int):Bool:=
 (decide (1<=a0)&&decide (a0<=5))
instance zcd0(a0:Int):OkT 159 [.int .i64 a0] (.bool (zy8 a0)):=ok2 (λ r=>.bool r) (zy8.eq_1 a0) Tryz.f159 []
def zaK1(j1:Unit):Option Int:=
 some (-1)
def zaK2(a0:List aW)(a1:aF)(g1:Int):Option (Int⊕(Unit⊕Int)):=
 (if(decide (g1<(a0.length:Int)))=true then
  gd (0<=g1/\g1<(a0.length:Int))<|
  (if(decide ((a0.getD g1.toNat aW.zero).aZ=a1))=true then
   some (.inr (.inr g1))
  else
   some (.inl (i64.wrap (g1+1))))
 else
  some (.inr (.inl ())))
def zn9(a0:List aW)(a1:aF):Option Int:=
 (zg8 (zaK2 a0 a1) 0).bind (λ|.inl z=>zaK1 z|.inr z=>some z)
@[reducible,instance] def zdI3 a0 a1:=mkJ (zn9 a0 a1) 0 (@zaK1.eq_1) λ(j1:Unit)=>⟨[],[],0⟩
@[reducible,instance] def zdI4 (a0:List aW) (a1:aF) {T:Type} (x:T):=mkL x (@zaK2.eq_1 a0 a1) λ(g1:Int)=>⟨[(3,.ptr 0 0 0),(7,la a0),(8,.int .i64 (a0.length:Int)),(9,.int .i64 g1)],[(0,bx a1)],1⟩
instance zbu7(a0:List aW)(a1:aF):OkP (zn9 a0 a1) 229 [la a0,ga a1] (λ r=>.int .i64 r):=ok1 (zn9.eq_1 a0 a1) Tryz.f229 []
attribute [local irreducible] zn9
def zaf2(j1:(List aG)):Option (List aG):=
 some j1
def zaf3(a0:List aC)(g1:Int×(List aG)):Option ((Int×(List aG))⊕(List aG)):=
 (if(decide (g1.1<(a0.length:Int)))=true then
  gd (0<=g1.1/\g1.1<(a0.length:Int))<|
  gd (g1.2.length+1<=4294967296)<|
  some (.inl ((i64.wrap (g1.1+1)),(g1.2++[(a0.getD g1.1.toNat aC.zero).aQ])))
 else
  some (.inr g1.2))
def zf4(a0:List aC):Option (List aG):=
 (zg8 (zaf3 a0) (0,[])).bind (λ z=>zaf2 z)
@[reducible,instance] def zdp6 a0:=mkJ (zf4 a0) 0 (@zaf2.eq_1) λ(j1:(List aG))=>⟨[(3,.own 0 0 j1.length)],[(0,sx j1)],1⟩
@[reducible,instance] def zdp7 (a0:List aC) {T:Type} (x:T):=mkL x (@zaf3.eq_1 a0) λ(g1:Int×(List aG))=>⟨[(3,.own 0 0 g1.2.length),(6,la a0),(7,.int .i64 (a0.length:Int)),(8,.int .i64 g1.1)],[(0,sx g1.2)],1⟩
instance zaK3(a0:List aC):OkP (zf4 a0) 150 [la a0] (λ r=>la r):=ok1 (zf4.eq_1 a0) Tryz.f150 [(3,1)]
attribute [local irreducible] zf4
def zK5(j1:Unit):Option Int:=
 some (-1)
def zK6(a0:List aF)(a1:aF)(g1:Int):Option (Int⊕(Unit⊕Int)):=
 (if(decide (g1<(a0.length:Int)))=true then
  gd (0<=g1/\g1<(a0.length:Int))<|
  (if(decide (a1=a0.getD g1.toNat aF.zero))=true then
   some (.inr (.inr g1))
  else
   some (.inl (i64.wrap (g1+1))))
 else
  some (.inr (.inl ())))
def zb7(a0:List aF)(a1:aF):Option Int:=
 (zg8 (zK6 a0 a1) 0).bind (λ|.inl z=>zK5 z|.inr z=>some z)
@[reducible,instance] def zdp8 a0 a1:=mkJ (zb7 a0 a1) 0 (@zK5.eq_1) λ(j1:Unit)=>⟨[],[],0⟩
@[reducible,instance] def zdp9 (a0:List aF) (a1:aF) {T:Type} (x:T):=mkL x (@zK6.eq_1 a0 a1) λ(g1:Int)=>⟨[(0,la a0),(3,.ptr 0 0 0),(7,.int .i64 (a0.length:Int)),(8,.int .i64 g1)],[(0,bx a1)],1⟩
instance zaT3(a0:List aF)(a1:aF):OkP (zb7 a0 a1) 134 [la a0,ga a1] (λ r=>.int .i64 r):=ok1 (zb7.eq_1 a0 a1) Tryz.f134 []
attribute [local irreducible] zb7
def zw1(a0:ByteArray)(a1:Int):aP:=
 {aP.zero with bV:=(⟨a0,{aJ.zero with mode:=a1}⟩:aO)}
theorem zW1(a0:ByteArray)(a1:Int):PFn C 9 [.str a0,.int .i64 a1] (ga (zw1 a0 a1)):=by generalize h:zw1 a0 a1=r;refine zx6 Tryz.f9 [] λ E hG hN hK=>?_;have hm:Mk (zw1 a0 a1):=trivial;unfold zw1 at h;refine za2 (za3 hG ?_);refine za2 (za3 hG ?_);refine zo3 ?_;exact zaZ1 h (by intro e;subst e;simp[aO.enc,aJ.enc])
instance zch2(a0:ByteArray)(a1:Int):OkT 9 [.str a0,.int .i64 a1] (.agg (aP.enc (zw1 a0 a1))):=⟨zW1 a0 a1⟩
def zaa5(a0:aP)(j1:(List aP)):Option aP:=
 some (⟨a0.k,(⟨a0.bV.name,(⟨a0.bV.aY.mode,a0.bV.aY.bJ⟩:aJ)⟩:aO),j1⟩:aP)
def zaa6(a90:(aP->Option aP))(a0:aP)(g1:Int×(List aP)):Option ((Int×(List aP))⊕(List aP)):=
 (if(decide (g1.1<(a0.bU.length:Int)))=true then
  gd (0<=g1.1/\g1.1<(a0.bU.length:Int))<|
  (a90 (a0.bU.getD g1.1.toNat aP.zero)).bind λ v1=>
  gd (g1.2.length+1<=4294967296)<|
  some (.inl ((i64.wrap (g1.1+1)),(g1.2++[v1])))
 else
  some (.inr g1.2))
def zC2(a90:(aP->Option aP))(a0:aP):Option aP:=
 (zg8 (zaa6 a90 a0) (0,[])).bind (λ z=>zaa5 a0 z)
def zS3:Nat->(aP->Option aP)
 |0=>λ _=>none
 |n+1=>zC2 (zS3 n)
def ze8(a0:aP):Option aP:=zS3 (_root_.SizeOf.sizeOf a0+1) a0
@[reducible,instance] def zdq0 (a90:(aP->Option aP)) (a0:aP):=mkJ (zC2 a90 a0) 0 (@zaa5.eq_1 a0) λ(j1:(List aP))=>⟨[(1,.ptr 0 0 0),(2,.ptr 1 0 0),(3,.own 2 0 j1.length)],[(0,bx a0),(1,bx aP.zero),(2,sx j1)],3⟩
@[reducible,instance] def zdq1 (a90:(aP->Option aP)) (a0:aP) {T:Type} (x:T):=mkL x (@zaa6.eq_1 a90 a0) λ(g1:Int×(List aP))=>⟨[(1,.ptr 0 0 0),(2,.ptr 1 0 0),(3,.own 2 0 g1.2.length),(7,la a0.bU),(8,.int .i64 (a0.bU.length:Int)),(9,.int .i64 g1.1)],[(0,bx a0),(1,bx aP.zero),(2,sx g1.2)],3⟩
abbrev zM8(g:(aP->Option aP)):Prop:=∀(a0:aP),OkP (g a0) 67 [.agg (aP.enc a0)] (λ r=>.agg (aP.enc r))
theorem zaA0(a90:(aP->Option aP))(hrc:zM8 a90):zM8 (zC2 a90):=λ a0=>⟨λ r h=>by
 refine zx6 Tryz.f67 [(3,1)] λ E hG hN hK=>?_;have hm:Mk (zC2 a90 a0):=trivial;unfold zC2 at h;refine za2 (za3 hG ?_);refine za2 (za3 hG ?_);refine za2 (za2 (za3 hG ?_));refine zQ7 hm h (λ j1 hm h=>?_) ?_
 · try refine g_st ?_
   refine za2 (za3 hG ?_);refine za2 (za3 hG ?_);refine zo3 ?_;exact zt5 h (by intro e;subst e;simp[aO.enc,aJ.enc])
 exact gogo⟩
theorem zaA1:∀n,zM8 (zS3 n):=zaE7 (λ _=>⟨λ _ h=>nomatch h⟩) λ n=>zaA0 _
instance zaE8:zM8 ze8:=λ a0=>zaA1 _ a0
attribute [local irreducible] ze8
def zl6(a0:aC):Option aC:=
 gd (a0.bR.length<=4294967296)<|
 gd (a0.aV.length<=4294967296)<|
 gd (a0.bO.length<=4294967296)<|
 some a0
instance zar5(a0:aC):OkP (zl6 a0) 195 [ga a0] (λ r=>ga r):=ok1 (zl6.eq_1 a0) Tryz.f195 []
attribute [local irreducible] zl6
def zaA2(a0:List aW)(j1:(List aW)):Option ((List aW)×Bool):=
 some (j1,decide (((j1.length:Nat):Int)<(a0.length:Int)))
def zaA3(a0:List aW)(a1:aF)(g1:Int×(List aW)):Option ((Int×(List aW))⊕(List aW)):=
 (if(decide (g1.1<(a0.length:Int)))=true then
  gd (0<=g1.1/\g1.1<(a0.length:Int))<|
  (if(!decide ((a0.getD g1.1.toNat aW.zero).aZ=a1))=true then
   gd (g1.2.length+1<=4294967296)<|
   some (.inl ((i64.wrap (g1.1+1)),(g1.2++[(a0.getD g1.1.toNat aW.zero)])))
  else
   some (.inl ((i64.wrap (g1.1+1)),g1.2)))
 else
  some (.inr g1.2))
def zk8(a0:List aW)(a1:aF):Option ((List aW)×Bool):=
 (zg8 (zaA3 a0 a1) (0,[])).bind (λ z=>zaA2 a0 z)
@[reducible,instance] def zdq2 (a0:List aW) a1:=mkJ (zk8 a0 a1) 0 (@zaA2.eq_1 a0) λ(j1:(List aW))=>⟨[(0,la a0),(6,.own 0 0 j1.length)],[(0,sx j1)],1⟩
@[reducible,instance] def zdq3 (a0:List aW) (a1:aF) {T:Type} (x:T):=mkL x (@zaA3.eq_1 a0 a1) λ(g1:Int×(List aW))=>⟨[(0,la a0),(3,.ptr 0 0 0),(6,.own 1 0 g1.2.length),(9,la a0),(10,.int .i64 (a0.length:Int)),(11,.int .i64 g1.1)],[(0,bx a1),(1,sx g1.2)],2⟩
instance zbZ4(a0:List aW)(a1:aF):OkP (zk8 a0 a1) 200 [la a0,ga a1] (λ r=>.tup [la r.1,.bool r.2]):=ok1 (zk8.eq_1 a0 a1) Tryz.f200 [(6,1)]
attribute [local irreducible] zk8
def zS4(a0:ByteArray):Bool:=
 (!(a0.toList==a0.toList))
instance zbD7(a0:ByteArray):OkT 293 [.str a0] (.bool (zS4 a0)):=ok2 (λ r=>.bool r) (zS4.eq_1 a0) Tryz.f293 []
def zd0(a0 a1:Int)(a2:List aD):Option (List aD):=
 gd (0<=a1/\a1<((a2.length:Nat):Int))<|
 gd (0<=a0/\a0<((a2.length:Nat):Int))<|
 gd (0<=a0/\a0<((a2.length:Nat):Int))<|
 gd (0<=a1/\a1<((a2.length:Nat):Int))<|
 some ((a2.set a0.toNat (a2.getD a1.toNat aD.zero)).set a1.toNat (a2.getD a0.toNat aD.zero))
instance zW2(a0 a1:Int)(a2:List aD):OkM (zd0 a0 a1 a2) 335 [.own 0 0 a2.length,.int .i64 a0,.int .i64 a1] [(0,sx a2)] 1 (λ r=>.tup []) (λ r=>[(0,sx r)]) 1:=okm (zd0.eq_1 a0 a1 a2) (λ r=>[]) Tryz.f335 []
attribute [local irreducible] zd0
def zz3(a0:Int):Int:=
 (zn0 .and .i64 (i64.wrap (u64.wrap (u64.wrap (u64.wrap (zn0 .and .u64 (u64.wrap ((u64.wrap (zn0 .and .u64 ((u64.wrap (zn0 .and .u64 (a0.fdiv (2^1)) 6148914691236517205+zn0 .and .u64 a0 6148914691236517205)).fdiv (2^2)) 3689348814741910323+zn0 .and .u64 (u64.wrap (zn0 .and .u64 (a0.fdiv (2^1)) 6148914691236517205+zn0 .and .u64 a0 6148914691236517205)) 3689348814741910323)).fdiv (2^4)+u64.wrap (zn0 .and .u64 ((u64.wrap (zn0 .and .u64 (a0.fdiv (2^1)) 6148914691236517205+zn0 .and .u64 a0 6148914691236517205)).fdiv (2^2)) 3689348814741910323+zn0 .and .u64 (u64.wrap (zn0 .and .u64 (a0.fdiv (2^1)) 6148914691236517205+zn0 .and .u64 a0 6148914691236517205)) 3689348814741910323))) 1085102592571150095+(zn0 .and .u64 (u64.wrap ((u64.wrap (zn0 .and .u64 ((u64.wrap (zn0 .and .u64 (a0.fdiv (2^1)) 6148914691236517205+zn0 .and .u64 a0 6148914691236517205)).fdiv (2^2)) 3689348814741910323+zn0 .and .u64 (u64.wrap (zn0 .and .u64 (a0.fdiv (2^1)) 6148914691236517205+zn0 .and .u64 a0 6148914691236517205)) 3689348814741910323)).fdiv (2^4)+u64.wrap (zn0 .and .u64 ((u64.wrap (zn0 .and .u64 (a0.fdiv (2^1)) 6148914691236517205+zn0 .and .u64 a0 6148914691236517205)).fdiv (2^2)) 3689348814741910323+zn0 .and .u64 (u64.wrap (zn0 .and .u64 (a0.fdiv (2^1)) 6148914691236517205+zn0 .and .u64 a0 6148914691236517205)) 3689348814741910323))) 1085102592571150095).fdiv (2^8))+(u64.wrap (zn0 .and .u64 (u64.wrap ((u64.wrap (zn0 .and .u64 ((u64.wrap (zn0 .and .u64 (a0.fdiv (2^1)) 6148914691236517205+zn0 .and .u64 a0 6148914691236517205)).fdiv (2^2)) 3689348814741910323+zn0 .and .u64 (u64.wrap (zn0 .and .u64 (a0.fdiv (2^1)) 6148914691236517205+zn0 .and .u64 a0 6148914691236517205)) 3689348814741910323)).fdiv (2^4)+u64.wrap (zn0 .and .u64 ((u64.wrap (zn0 .and .u64 (a0.fdiv (2^1)) 6148914691236517205+zn0 .and .u64 a0 6148914691236517205)).fdiv (2^2)) 3689348814741910323+zn0 .and .u64 (u64.wrap (zn0 .and .u64 (a0.fdiv (2^1)) 6148914691236517205+zn0 .and .u64 a0 6148914691236517205)) 3689348814741910323))) 1085102592571150095+(zn0 .and .u64 (u64.wrap ((u64.wrap (zn0 .and .u64 ((u64.wrap (zn0 .and .u64 (a0.fdiv (2^1)) 6148914691236517205+zn0 .and .u64 a0 6148914691236517205)).fdiv (2^2)) 3689348814741910323+zn0 .and .u64 (u64.wrap (zn0 .and .u64 (a0.fdiv (2^1)) 6148914691236517205+zn0 .and .u64 a0 6148914691236517205)) 3689348814741910323)).fdiv (2^4)+u64.wrap (zn0 .and .u64 ((u64.wrap (zn0 .and .u64 (a0.fdiv (2^1)) 6148914691236517205+zn0 .and .u64 a0 6148914691236517205)).fdiv (2^2)) 3689348814741910323+zn0 .and .u64 (u64.wrap (zn0 .and .u64 (a0.fdiv (2^1)) 6148914691236517205+zn0 .and .u64 a0 6148914691236517205)) 3689348814741910323))) 1085102592571150095).fdiv (2^8))).fdiv (2^16))+(u64.wrap (u64.wrap (zn0 .and .u64 (u64.wrap ((u64.wrap (zn0 .and .u64 ((u64.wrap (zn0 .and .u64 (a0.fdiv (2^1)) 6148914691236517205+zn0 .and .u64 a0 6148914691236517205)).fdiv (2^2)) 3689348814741910323+zn0 .and .u64 (u64.wrap (zn0 .and .u64 (a0.fdiv (2^1)) 6148914691236517205+zn0 .and .u64 a0 6148914691236517205)) 3689348814741910323)).fdiv (2^4)+u64.wrap (zn0 .and .u64 ((u64.wrap (zn0 .and .u64 (a0.fdiv (2^1)) 6148914691236517205+zn0 .and .u64 a0 6148914691236517205)).fdiv (2^2)) 3689348814741910323+zn0 .and .u64 (u64.wrap (zn0 .and .u64 (a0.fdiv (2^1)) 6148914691236517205+zn0 .and .u64 a0 6148914691236517205)) 3689348814741910323))) 1085102592571150095+(zn0 .and .u64 (u64.wrap ((u64.wrap (zn0 .and .u64 ((u64.wrap (zn0 .and .u64 (a0.fdiv (2^1)) 6148914691236517205+zn0 .and .u64 a0 6148914691236517205)).fdiv (2^2)) 3689348814741910323+zn0 .and .u64 (u64.wrap (zn0 .and .u64 (a0.fdiv (2^1)) 6148914691236517205+zn0 .and .u64 a0 6148914691236517205)) 3689348814741910323)).fdiv (2^4)+u64.wrap (zn0 .and .u64 ((u64.wrap (zn0 .and .u64 (a0.fdiv (2^1)) 6148914691236517205+zn0 .and .u64 a0 6148914691236517205)).fdiv (2^2)) 3689348814741910323+zn0 .and .u64 (u64.wrap (zn0 .and .u64 (a0.fdiv (2^1)) 6148914691236517205+zn0 .and .u64 a0 6148914691236517205)) 3689348814741910323))) 1085102592571150095).fdiv (2^8))+(u64.wrap (zn0 .and .u64 (u64.wrap ((u64.wrap (zn0 .and .u64 ((u64.wrap (zn0 .and .u64 (a0.fdiv (2^1)) 6148914691236517205+zn0 .and .u64 a0 6148914691236517205)).fdiv (2^2)) 3689348814741910323+zn0 .and .u64 (u64.wrap (zn0 .and .u64 (a0.fdiv (2^1)) 6148914691236517205+zn0 .and .u64 a0 6148914691236517205)) 3689348814741910323)).fdiv (2^4)+u64.wrap (zn0 .and .u64 ((u64.wrap (zn0 .and .u64 (a0.fdiv (2^1)) 6148914691236517205+zn0 .and .u64 a0 6148914691236517205)).fdiv (2^2)) 3689348814741910323+zn0 .and .u64 (u64.wrap (zn0 .and .u64 (a0.fdiv (2^1)) 6148914691236517205+zn0 .and .u64 a0 6148914691236517205)) 3689348814741910323))) 1085102592571150095+(zn0 .and .u64 (u64.wrap ((u64.wrap (zn0 .and .u64 ((u64.wrap (zn0 .and .u64 (a0.fdiv (2^1)) 6148914691236517205+zn0 .and .u64 a0 6148914691236517205)).fdiv (2^2)) 3689348814741910323+zn0 .and .u64 (u64.wrap (zn0 .and .u64 (a0.fdiv (2^1)) 6148914691236517205+zn0 .and .u64 a0 6148914691236517205)) 3689348814741910323)).fdiv (2^4)+u64.wrap (zn0 .and .u64 ((u64.wrap (zn0 .and .u64 (a0.fdiv (2^1)) 6148914691236517205+zn0 .and .u64 a0 6148914691236517205)).fdiv (2^2)) 3689348814741910323+zn0 .and .u64 (u64.wrap (zn0 .and .u64 (a0.fdiv (2^1)) 6148914691236517205+zn0 .and .u64 a0 6148914691236517205)) 3689348814741910323))) 1085102592571150095).fdiv (2^8))).fdiv (2^16))).fdiv (2^32)))) 127)
instance zaa7(a0:Int):OkT 337 [.int .u64 a0] (.int .i64 (zz3 a0)):=ok2 (λ r=>.int .i64 r) (zz3.eq_1 a0) Tryz.f337 []
def zd6(a0:List aD):Option (aD×(List aD)):=
 gd (0<=i64.wrap (((a0.length:Nat):Int)-1)/\i64.wrap (((a0.length:Nat):Int)-1)<((a0.length:Nat):Int))<|
 gd (0<=0/\0<=i64.wrap (((a0.length:Nat):Int)-1)/\i64.wrap (((a0.length:Nat):Int)-1)<=((a0.length:Nat):Int))<|
 some ((a0.getD ((i64.wrap (((a0.length:Nat):Int)-1)).toNat) aD.zero),a0.take ((i64.wrap (((a0.length:Nat):Int)-1)).toNat))
theorem zau6(a0:List aD)(r:aD×(List aD))(h:zd6 a0=some r):MFn C 333 [.ptr 0 0 0] [(0,⟨false,1,[A.sl ([].map aD.enc)],[[.own 1 0 a0.length]]⟩),(1,sx a0)] 2 (.ival 91 (aD.enc r.1)) [(0,⟨false,1,[A.sl ([].map aD.enc)],[[.own 1 0 r.2.length]]⟩),(1,sx r.2)] 2:=by refine zK4 Tryz.f333 [] [.ival 91 (aD.enc r.1)] λ E hG hN hK=>?_;unfold zd6 at h;refine za2 (za3 hG ?_);refine za2 (za3 hG ?_);refine za2 ?_;obtain⟨hb2,h⟩:=ze5 h;refine za3 hG ?_;refine za2 ?_;obtain⟨hb1,h⟩:=ze5 h;refine za3 hG ?_;refine za2 (za3 hG ?_);refine g_gh (.trim 1 ((i64.wrap (((a0.length:Nat):Int)-1)).toNat)) ?_;refine zo3 ?_;exact zw8 [(0,0),(1,1)] h
instance zbn1(a0:List aD):OkM (zd6 a0) 333 [.ptr 0 0 0] [(0,⟨false,1,[A.sl ([].map aD.enc)],[[.own 1 0 a0.length]]⟩),(1,sx a0)] 2 (λ r=>.ival 91 (aD.enc r.1)) (λ r=>[(0,⟨false,1,[A.sl ([].map aD.enc)],[[.own 1 0 r.2.length]]⟩),(1,sx r.2)]) 2:=⟨zau6 a0⟩
attribute [local irreducible] zd6
def zc8(a0:Int):Option Int:=
 (if(decide (a0=0))=true then
  some 64
 else
  gd (0<=(u64.wrap (zn0 .and .u64 a0 (u64.wrap (0-a0))*285870213051353865)).fdiv (2^58)/\(u64.wrap (zn0 .and .u64 a0 (u64.wrap (0-a0))*285870213051353865)).fdiv (2^58)<64)<|
  some (i64.wrap (Arr.get zbk4 (((u64.wrap (zn0 .and .u64 a0 (u64.wrap (0-a0))*285870213051353865)).fdiv (2^58)).toNat) 0)))
theorem zan7(a0 r:Int)(h:zc8 a0=some r):PFn C 57 [.int .u64 a0] (.int .i64 r):=by
 refine zx6 Tryz.f57 [] λ E hG hN hK=>?_;unfold zc8 at h;refine za2 (za3 hG ?_);refine za2 (za2 (za3 hG ?_));refine zh3 rfl hG h (λ _ h=>?_) (λ _ h=>?_)
 · refine za2 (za3 hG ?_)
   refine zo3 ?_;exact zt5 h
 refine zh0 ?_;refine za2 ?_;obtain⟨hb1,h⟩:=ze5 h;refine za3 hG ?_;refine zo3 ?_;exact zt5 h
instance zbc4(a0:Int):OkP (zc8 a0) 57 [.int .u64 a0] (λ r=>.int .i64 r):=⟨zan7 a0⟩
attribute [local irreducible] zc8
def zad1(a0:aP)(j1:(List aP)):Option aP:=
 some (⟨a0.k,(⟨a0.bV.name,(⟨a0.bV.aY.mode,a0.bV.aY.bJ⟩:aJ)⟩:aO),j1⟩:aP)
def zad2(a90:(aP->Option aP))(a0:aP)(g1:Int×(List aP)):Option ((Int×(List aP))⊕(List aP)):=
 (if(decide (g1.1<(a0.bU.length:Int)))=true then
  gd (0<=g1.1/\g1.1<(a0.bU.length:Int))<|
  (a90 (a0.bU.getD g1.1.toNat aP.zero)).bind λ v1=>
  gd (g1.2.length+1<=4294967296)<|
  some (.inl ((i64.wrap (g1.1+1)),(g1.2++[v1])))
 else
  some (.inr g1.2))
def zD8(a90:(aP->Option aP))(a0:aP):Option aP:=
 (zg8 (zad2 a90 a0) (0,[])).bind (λ z=>zad1 a0 z)
def zU1:Nat->(aP->Option aP)
 |0=>λ _=>none
 |n+1=>zD8 (zU1 n)
def zf7(a0:aP):Option aP:=zU1 (_root_.SizeOf.sizeOf a0+1) a0
@[reducible,instance] def zdq4 (a90:(aP->Option aP)) (a0:aP):=mkJ (zD8 a90 a0) 0 (@zad1.eq_1 a0) λ(j1:(List aP))=>⟨[(1,.ptr 0 0 0),(2,.ptr 1 0 0),(3,.own 2 0 j1.length)],[(0,bx a0),(1,bx aP.zero),(2,sx j1)],3⟩
@[reducible,instance] def zdq5 (a90:(aP->Option aP)) (a0:aP) {T:Type} (x:T):=mkL x (@zad2.eq_1 a90 a0) λ(g1:Int×(List aP))=>⟨[(1,.ptr 0 0 0),(2,.ptr 1 0 0),(3,.own 2 0 g1.2.length),(7,la a0.bU),(8,.int .i64 (a0.bU.length:Int)),(9,.int .i64 g1.1)],[(0,bx a0),(1,bx aP.zero),(2,sx g1.2)],3⟩
abbrev zN7(g:(aP->Option aP)):Prop:=∀(a0:aP),OkP (g a0) 108 [.agg (aP.enc a0)] (λ r=>.agg (aP.enc r))
theorem zaE9(a90:(aP->Option aP))(hrc:zN7 a90):zN7 (zD8 a90):=λ a0=>⟨λ r h=>by
 refine zx6 Tryz.f108 [(3,1)] λ E hG hN hK=>?_;have hm:Mk (zD8 a90 a0):=trivial;unfold zD8 at h;refine za2 (za3 hG ?_);refine za2 (za3 hG ?_);refine za2 (za2 (za3 hG ?_));refine zQ7 hm h (λ j1 hm h=>?_) ?_
 · try refine g_st ?_
   refine za2 (za3 hG ?_);refine za2 (za3 hG ?_);refine zo3 ?_;exact zt5 h (by intro e;subst e;simp[aO.enc,aJ.enc])
 exact gogo⟩
theorem zaF0:∀n,zN7 (zU1 n):=zaE7 (λ _=>⟨λ _ h=>nomatch h⟩) λ n=>zaE9 _
instance zbw7:zN7 zf7:=λ a0=>zaF0 _ a0
attribute [local irreducible] zf7
def zaG3(j1:(List aG)):Option (List aG):=
 some j1
def zaG4(a0:List aG)(a1:Int)(g1:Int×(List aG)):Option ((Int×(List aG))⊕(List aG)):=
 (if(decide (g1.1<(a0.length:Int)))=true then
  gd (0<=g1.1/\g1.1<(a0.length:Int))<|
  (if(decide ((a0.getD g1.1.toNat aG.zero).home=a1))=true then
   gd (g1.2.length+1<=4294967296)<|
   some (.inl ((i64.wrap (g1.1+1)),(g1.2++[(a0.getD g1.1.toNat aG.zero)])))
  else
   some (.inl ((i64.wrap (g1.1+1)),g1.2)))
 else
  some (.inr g1.2))
def zn2(a0:List aG)(a1:Int):Option (List aG):=
 (zg8 (zaG4 a0 a1) (0,[])).bind (λ z=>zaG3 z)
@[reducible,instance] def zdq6 a0 a1:=mkJ (zn2 a0 a1) 0 (@zaG3.eq_1) λ(j1:(List aG))=>⟨[(5,.own 0 0 j1.length)],[(0,sx j1)],1⟩
@[reducible,instance] def zdq7 (a0:List aG) (a1:Int) {T:Type} (x:T):=mkL x (@zaG4.eq_1 a0 a1) λ(g1:Int×(List aG))=>⟨[(1,.int .i64 a1),(5,.own 0 0 g1.2.length),(8,la a0),(9,.int .i64 (a0.length:Int)),(10,.int .i64 g1.1)],[(0,sx g1.2)],1⟩
instance zcd1(a0:List aG)(a1:Int):OkP (zn2 a0 a1) 136 [la a0,.int .i64 a1] (λ r=>la r):=ok1 (zn2.eq_1 a0 a1) Tryz.f136 [(5,1)]
attribute [local irreducible] zn2
def zb8(a0:List aF):Option (List aF):=
 gd (a0.length<=4294967296)<|
 some a0
theorem zae1(a0:List aF)(r:(List aF))(h:zb8 a0=some r):PFn C 42 [la a0] (la r):=by
 refine zx6 Tryz.f42 [(5,1)] λ E hG hN hK=>?_;unfold zb8 at h;refine za2 (za3 hG ?_);refine za2 (za2 (za3 hG ?_));intro b hnil;cases b
 · refine g_st ?_
   refine zaf1 rfl hG ?_;refine zh0 ?_;refine za2 ?_;obtain⟨hb1,h⟩:=ze5 h;refine za3 hG ?_;refine zo3 ?_;exact zt5 h
 have ha:a0=[]:=eX.1 (hnil rfl);subst ha
 replace h:some []=some r:=by simpa [gd]using h
 refine g_st ?_;refine zU6 rfl hG ?_;refine za2 (za3 hG ?_);refine zo3 ?_;exact zt5 h
instance zaR2(a0:List aF):OkP (zb8 a0) 42 [la a0] (λ r=>la r):=⟨zae1 a0⟩
attribute [local irreducible] zb8
end
end Ab
end Go.Proofs.YtamndckemppjdaaGreatDoor
