import Derived.Test.YtamndckemppjdaaGreatDoorAuto
import Derived.Test.YtamndckemppjdaaGreatDoorHand
namespace Go.Proofs.YtamndckemppjdaaGreatDoor
namespace Ab
open IntKind (i64 u64 u8 u32)
set_option linter.unusedSimpArgs false
set_option linter.defProp false
set_option linter.unusedVariables false
set_option maxRecDepth 100000
set_option maxHeartbeats 4000000
noncomputable section
def zq7(a0 a1:Int):Option Int:=
 (if(decide (a1<1))=true then
  some 0
 else
  gd (a1≠0)<|
  (if(decide (a0.tmod a1<0))=true then
   some (i64.wrap (a0.tmod a1+a1))
  else
   some (a0.tmod a1)))
instance zcn1(a0 a1:Int):OkP (zq7 a0 a1) 23 [.int .i64 a0,.int .i64 a1] (λ r=>.int .i64 r):=ok1 (zq7.eq_1 a0 a1) Tryz.f23 []
attribute [local irreducible] zq7
def zar6(a0:Int):(Arr Bool 6):=
 (if(decide (a0=5))=true then
  (Arr.put (Arr.put (Arr.put (Arr.put (Arr.put (Arr.rep 6 false) 5 true) 4 true) 3 true) 2 true) 1 true)
 else
  (if(decide (a0=4))=true then
   (Arr.put (Arr.put (Arr.put (Arr.put (Arr.rep 6 false) 4 true) 3 true) 2 true) 1 true)
  else
   (if(decide (a0=2))=true then
    (Arr.put (Arr.put (Arr.rep 6 false) 2 true) 1 true)
   else
    (if(decide (a0=1))=true then
     (Arr.put (Arr.rep 6 false) 1 true)
    else
     (if(decide (a0=3))=true then
      (Arr.put (Arr.put (Arr.rep 6 false) 3 true) 1 true)
     else
      (Arr.rep 6 false))))))
instance zbT2(a0:Int):OkT 236 [.int .i64 a0] (.agg (Arr.enc eB (zar6 a0))):=ok2 (λ r=>.agg (Arr.enc eB r)) (zar6.eq_1 a0) Tryz.f236 []
def zal5(j1:(List aF)):Option (List aF):=
 some j1
def zal6(a0:List bF)(g1:Int×(List aF)):Option ((Int×(List aF))⊕(List aF)):=
 (if(decide (g1.1<(a0.length:Int)))=true then
  gd (0<=g1.1/\g1.1<(a0.length:Int))<|
  gd (g1.2.length+1<=4294967296)<|
  some (.inl ((i64.wrap (g1.1+1)),(g1.2++[(a0.getD g1.1.toNat bF.zero).aZ])))
 else
  some (.inr g1.2))
def zh1(a0:List bF):Option (List aF):=
 (zg8 (zal6 a0) (0,[])).bind (λ z=>zal5 z)
@[reducible,instance] def zdq8 a0:=mkJ (zh1 a0) 0 (@zal5.eq_1) λ(j1:(List aF))=>⟨[(3,.own 0 0 j1.length)],[(0,sx j1)],1⟩
@[reducible,instance] def zdq9 (a0:List bF) {T:Type} (x:T):=mkL x (@zal6.eq_1 a0) λ(g1:Int×(List aF))=>⟨[(3,.own 0 0 g1.2.length),(6,la a0),(7,.int .i64 (a0.length:Int)),(8,.int .i64 g1.1)],[(0,sx g1.2)],1⟩
instance zbD8(a0:List bF):OkM (zh1 a0) 180 [la a0] [] 0 (λ r=>.own 0 0 r.length) (λ r=>[(0,sx r)]) 1:=okm (zh1.eq_1 a0) (λ r=>[.own 0 0 r.length]) Tryz.f180 [(2,1),(3,1)]
attribute [local irreducible] zh1
def zc1(a0:Int):Option (List aW):=gd (0<=a0/\a0<=4294967296) (some [])
theorem zab7:Lays8.n4 C.P ⟨λ|4=>311|n=>n,λ|22=>106|25=>191|n=>n,λ n=>n⟩ where
 mixed:=zv9
 f4:=⟨Tryz.f311.name,by decide,Tryz.func311.trans (dA some (by kernel_rfl))⟩
 t0:=Tryz.underlying0
 a0:=Tryz.isAgg0
 z0:=Tryz.sizeOf0
 v0:=Tryz.zeroValue0
 t3:=Tryz.underlying3
 a3:=Tryz.isAgg3
 z3:=Tryz.sizeOf3
 v3:=Tryz.zeroValue3
 t4:=Tryz.underlying4
 a4:=Tryz.isAgg4
 z4:=Tryz.sizeOf4
 v4:=Tryz.zeroValue4
 t9:=Tryz.underlying9
 a9:=Tryz.isAgg9
 z9:=Tryz.sizeOf9
 v9:=Tryz.zeroValue9
 t20:=Tryz.underlying20
 a20:=Tryz.isAgg20
 z20:=Tryz.sizeOf20
 v20:=Tryz.zeroValue20
 t22:=Tryz.underlying106
 a22:=Tryz.isAgg106
 z22:=Tryz.sizeOf106
 v22:=Tryz.zeroValue106
theorem zaa8(a0:Int)(r:List aW)(h:zc1 a0=some r):MFn C 311 [.full [],.int .i64 a0] [] 0 (.own 0 0 r.length) [(0,sx r)] 1:=by obtain⟨⟨h0,h1⟩,h⟩:=ze5 h;obtain rfl:=dP h;exact zbZ7 zab7 (by kernel_rfl) rfl _ a0 h0 h1
attribute [local irreducible] zc1
def zaw1(j1:Unit):Option Int:=
 some (-1)
def zaw2(a0:List bY)(a1 g1:Int):Option (Int⊕(Unit⊕Int)):=
 (if(decide (g1<(a0.length:Int)))=true then
  gd (0<=g1/\g1<(a0.length:Int))<|
  (if(decide ((a0.getD g1.toNat bY.zero).label=a1))=true then
   some (.inr (.inr g1))
  else
   some (.inl (i64.wrap (g1+1))))
 else
  some (.inr (.inl ())))
def zk5(a0:List bY)(a1:Int):Option Int:=
 (zg8 (zaw2 a0 a1) 0).bind (λ|.inl z=>zaw1 z|.inr z=>some z)
@[reducible,instance] def zdr0 a0 a1:=mkJ (zk5 a0 a1) 0 (@zaw1.eq_1) λ(j1:Unit)=>⟨[],[],0⟩
@[reducible,instance] def zdr1 (a0:List bY) (a1:Int) {T:Type} (x:T):=mkL x (@zaw2.eq_1 a0 a1) λ(g1:Int)=>⟨[(1,.int .i64 a1),(7,la a0),(8,.int .i64 (a0.length:Int)),(9,.int .i64 g1)],[],0⟩
instance zbT3(a0:List bY)(a1:Int):OkP (zk5 a0 a1) 183 [la a0,.int .i64 a1] (λ r=>.int .i64 r):=ok1 (zk5.eq_1 a0 a1) Tryz.f183 []
attribute [local irreducible] zk5
def zaG5(j1:Unit):Option Int:=
 some (-1)
def zaG6(a0:List aC)(a1:ByteArray)(g1:Int):Option (Int⊕(Unit⊕Int)):=
 (if(decide (g1<(a0.length:Int)))=true then
  gd (0<=g1/\g1<(a0.length:Int))<|
  (if((((a0.getD g1.toNat aC.zero).aQ).name).toList==a1.toList)=true then
   some (.inr (.inr g1))
  else
   some (.inl (i64.wrap (g1+1))))
 else
  some (.inr (.inl ())))
def zm2(a0:List aC)(a1:ByteArray):Option Int:=
 (zg8 (zaG6 a0 a1) 0).bind (λ|.inl z=>zaG5 z|.inr z=>some z)
@[reducible,instance] def zdr2 a0 a1:=mkJ (zm2 a0 a1) 0 (@zaG5.eq_1) λ(j1:Unit)=>⟨[],[],0⟩
@[reducible,instance] def zdr3 (a0:List aC) (a1:ByteArray) {T:Type} (x:T):=mkL x (@zaG6.eq_1 a0 a1) λ(g1:Int)=>⟨[(1,.str a1),(7,la a0),(8,.int .i64 (a0.length:Int)),(9,.int .i64 g1)],[],0⟩
instance zcd2(a0:List aC)(a1:ByteArray):OkP (zm2 a0 a1) 112 [la a0,.str a1] (λ r=>.int .i64 r):=ok1 (zm2.eq_1 a0 a1) Tryz.f112 []
attribute [local irreducible] zm2
def zK7(j1:Unit):Option Int:=
 some (-1)
def zK8(a0:List aO)(a1:aO)(g1:Int):Option (Int⊕(Unit⊕Int)):=
 (if(decide (g1<(a0.length:Int)))=true then
  gd (0<=g1/\g1<(a0.length:Int))<|
  (if(decide (a1=a0.getD g1.toNat aO.zero))=true then
   some (.inr (.inr g1))
  else
   some (.inl (i64.wrap (g1+1))))
 else
  some (.inr (.inl ())))
def zb4(a0:List aO)(a1:aO):Option Int:=
 (zg8 (zK8 a0 a1) 0).bind (λ|.inl z=>zK7 z|.inr z=>some z)
@[reducible,instance] def zdr4 a0 a1:=mkJ (zb4 a0 a1) 0 (@zK7.eq_1) λ(j1:Unit)=>⟨[],[],0⟩
@[reducible,instance] def zdr5 (a0:List aO) (a1:aO) {T:Type} (x:T):=mkL x (@zK8.eq_1 a0 a1) λ(g1:Int)=>⟨[(0,la a0),(3,.ptr 0 0 0),(7,.int .i64 (a0.length:Int)),(8,.int .i64 g1)],[(0,bx a1)],1⟩
instance zaT4(a0:List aO)(a1:aO):OkP (zb4 a0 a1) 287 [la a0,ga a1] (λ r=>.int .i64 r):=ok1 (zb4.eq_1 a0 a1) Tryz.f287 []
attribute [local irreducible] zb4
def zaf4(a0:aP)(j1:(List aP)):Option aP:=
 some (⟨a0.k,(⟨a0.bV.name,(⟨a0.bV.aY.mode,a0.bV.aY.bJ⟩:aJ)⟩:aO),j1⟩:aP)
def zaf5(a90:(aP->Option aP))(a0:aP)(g1:Int×(List aP)):Option ((Int×(List aP))⊕(List aP)):=
 (if(decide (g1.1<(a0.bU.length:Int)))=true then
  gd (0<=g1.1/\g1.1<(a0.bU.length:Int))<|
  (a90 (a0.bU.getD g1.1.toNat aP.zero)).bind λ v1=>
  gd (g1.2.length+1<=4294967296)<|
  some (.inl ((i64.wrap (g1.1+1)),(g1.2++[v1])))
 else
  some (.inr g1.2))
def zG2(a90:(aP->Option aP))(a0:aP):Option aP:=
 (zg8 (zaf5 a90 a0) (0,[])).bind (λ z=>zaf4 a0 z)
def zW3:Nat->(aP->Option aP)
 |0=>λ _=>none
 |n+1=>zG2 (zW3 n)
def zg1(a0:aP):Option aP:=zW3 (_root_.SizeOf.sizeOf a0+1) a0
@[reducible,instance] def zdr6 (a90:(aP->Option aP)) (a0:aP):=mkJ (zG2 a90 a0) 0 (@zaf4.eq_1 a0) λ(j1:(List aP))=>⟨[(1,.ptr 0 0 0),(2,.ptr 1 0 0),(3,.own 2 0 j1.length)],[(0,bx a0),(1,bx aP.zero),(2,sx j1)],3⟩
@[reducible,instance] def zdr7 (a90:(aP->Option aP)) (a0:aP) {T:Type} (x:T):=mkL x (@zaf5.eq_1 a90 a0) λ(g1:Int×(List aP))=>⟨[(1,.ptr 0 0 0),(2,.ptr 1 0 0),(3,.own 2 0 g1.2.length),(7,la a0.bU),(8,.int .i64 (a0.bU.length:Int)),(9,.int .i64 g1.1)],[(0,bx a0),(1,bx aP.zero),(2,sx g1.2)],3⟩
abbrev zQ1(g:(aP->Option aP)):Prop:=∀(a0:aP),OkP (g a0) 119 [.agg (aP.enc a0)] (λ r=>.agg (aP.enc r))
theorem zaH4(a90:(aP->Option aP))(hrc:zQ1 a90):zQ1 (zG2 a90):=λ a0=>⟨λ r h=>by
 refine zx6 Tryz.f119 [(3,1)] λ E hG hN hK=>?_;have hm:Mk (zG2 a90 a0):=trivial;unfold zG2 at h;refine za2 (za3 hG ?_);refine za2 (za3 hG ?_);refine za2 (za2 (za3 hG ?_));refine zQ7 hm h (λ j1 hm h=>?_) ?_
 · try refine g_st ?_
   refine za2 (za3 hG ?_);refine za2 (za3 hG ?_);refine zo3 ?_;exact zt5 h (by intro e;subst e;simp[aO.enc,aJ.enc])
 exact gogo⟩
theorem zaH5:∀n,zQ1 (zW3 n):=zaE7 (λ _=>⟨λ _ h=>nomatch h⟩) λ n=>zaH4 _
instance zal7:zQ1 zg1:=λ a0=>zaH5 _ a0
attribute [local irreducible] zg1
def za4(a0:Int)(a1 a2:List aH):Option (List aH):=
 gd (0<=a0/\a0<=((a2.length:Nat):Int)/\((a2.length:Nat):Int)<=((a2.length:Nat):Int))<|
 (if(decide ((a1.length:Int)=0))=true then
  some a2
 else
  (if(decide (a0=((a2.length:Nat):Int)))=true then
   gd (a2.length+a1.length<=4294967296)<|
   some (a2++a1)
  else
   none))
instance zB9(a0:Int)(a1 a2:List aH):OkM (za4 a0 a1 a2) 143 [.own 0 0 a2.length,.int .i64 a0,la a1] [(0,sx a2)] 1 (λ r=>.own 1 0 r.length) (λ r=>[(1,sx r)]) 2:=⟨λ r h=>by
 refine zK4 Tryz.f143 [(6,1),(2008,1)] [.own 1 0 r.length] λ E hG hN hK=>?_;have hm:Mk (za4 a0 a1 a2):=trivial;unfold za4 at h;refine za2 (za3 hG ?_);refine za2 ?_;obtain⟨hb2,h⟩:=ze5 h;refine za3 hG ?_;refine za2 (za3 hG ?_);refine za2 (za2 (za3 hG ?_));refine zh3 rfl hG h (λ _ h=>?_) (λ _ h=>?_)
 .exact gogo
 refine zh0 ?_;refine za2 (za3 hG ?_);refine za2 (za2 (za3 hG ?_));refine zh3 rfl hG h (λ _ h=>?_) (λ _ h=>?_)
 .exact gogo
 refine zh0 ?_;exact zV9 h⟩
attribute [local irreducible] za4
def zy9(a0:Int):Int:=
 (if(decide (a0<0)||decide (1073741824<=a0))=true then
  1
 else
  (i64.wrap (a0+1)))
instance zP2(a0:Int):OkT 147 [.int .i64 a0] (.int .i64 (zy9 a0)):=ok2 (λ r=>.int .i64 r) (zy9.eq_1 a0) Tryz.f147 []
def zaw3(j1:(List bI)):Option (List bI):=
 some j1
def zaw4(a0:ByteArray)(a1:List bF)(g1:Int×(List bI)):Option ((Int×(List bI))⊕(List bI)):=
 (if(decide (g1.1<(a1.length:Int)))=true then
  gd (0<=g1.1/\g1.1<(a1.length:Int))<|
  gd (g1.2.length+1<=4294967296)<|
  some (.inl ((i64.wrap (g1.1+1)),(g1.2++[(⟨1,(a1.getD g1.1.toNat bF.zero).aZ,a0,(a1.getD g1.1.toNat bF.zero).aY⟩:bI)])))
 else
  some (.inr g1.2))
def zk1(a0:ByteArray)(a1:List bF):Option (List bI):=
 (zg8 (zaw4 a0 a1) (0,[])).bind (λ z=>zaw3 z)
@[reducible,instance] def zdr8 (a0:ByteArray) (a1:List bF):=mkJ (zk1 a0 a1) 0 (@zaw3.eq_1) λ(j1:(List bI))=>⟨[(2,.own 0 0 j1.length)],[(0,sx j1)],1⟩
@[reducible,instance] def zdr9 (a0:ByteArray) (a1:List bF) {T:Type} (x:T):=mkL x (@zaw4.eq_1 a0 a1) λ(g1:Int×(List bI))=>⟨[(0,.str a0),(2,.own 0 0 g1.2.length),(9,la a1),(10,.int .i64 (a1.length:Int)),(11,.int .i64 g1.1)],[(0,sx g1.2)],1⟩
instance zbR0(a0:ByteArray)(a1:List bF):OkM (zk1 a0 a1) 219 [.str a0,la a1,.full ([].map bI.enc)] [] 0 (λ r=>la r) (λ r=>[]) 0:=⟨λ r h=>by
 refine zK4 Tryz.f219 [] [la r] λ E hG hN hK=>?_;have hm:Mk (zk1 a0 a1):=trivial;unfold zk1 at h;refine g_gh (.own0 2 7 (bI.enc bI.zero)) ?_;refine za2 (za3 hG ?_);refine za2 (za2 (za3 hG ?_));refine zQ7 hm h (λ j1 hm h=>?_) ?_
 · try refine g_st ?_
   refine za2 (za3 hG ?_);refine g_gh (.fz [0]) ?_;exact gogo
 exact gogo⟩
attribute [local irreducible] zk1
def ze6(a0:List aC)(a1:List bI)(a2:Int)(a3:bM):Option (Int×(List aC)×(List aH)×(List bI)):=
 (if(decide (a2=0))=true then
  gd (a3.events.length+a1.length<=4294967296)<|
  some (a3.central.now,a0,a3.central.bA,(a3.events++a1))
 else
  some (a3.central.now,a3.central.aB,a3.central.bA,a3.events))
instance zaA4(a0:List aC)(a1:List bI)(a2:Int)(a3:bM):OkM (ze6 a0 a1 a2 a3) 151 [.ptr 0 0 0,la a0,la a1,.int .i64 a2] [(0,⟨false,4,bM.enc bM.zero,[[.int .i64 a3.central.now,la a3.central.aB,.own 1 0 a3.central.bA.length,.own 2 0 a3.events.length]]⟩),(1,sx a3.central.bA),(2,sx a3.events)] 3 (λ r=>.tup []) (λ r=>[(0,⟨false,4,bM.enc bM.zero,[[.int .i64 r.1,la r.2.1,.own 1 0 r.2.2.1.length,.own 3 0 r.2.2.2.length]]⟩),(1,sx r.2.2.1),(3,sx r.2.2.2)]) 4:=okm (ze6.eq_1 a0 a1 a2 a3) (λ r=>[]) Tryz.f151 []
attribute [local irreducible] ze6
def zK9(a0:List ByteArray)(j1:Unit):Option ((List ByteArray)×(List ByteArray)):=
 some (a0,a0)
def zL0(j2:Int×(List ByteArray)):Option (Int⊕(Unit⊕((List ByteArray)×(List ByteArray)))):=
 gd (0<=j2.1/\j2.1<=((j2.2.length:Nat):Int)/\((j2.2.length:Nat):Int)<=((j2.2.length:Nat):Int))<|
 gd (0<=0/\0<=j2.1/\j2.1<=((j2.2.length:Nat):Int))<|
 some (.inr (.inr ((((j2.2.take j2.1.toNat++List.replicate (j2.2.length-j2.1.toNat) (⟨#[]⟩:ByteArray)++j2.2.drop (j2.1.toNat+(j2.2.length-j2.1.toNat))).drop 0).take j2.1.toNat),(j2.2.take j2.1.toNat++List.replicate (j2.2.length-j2.1.toNat) (⟨#[]⟩:ByteArray)++j2.2.drop (j2.1.toNat+(j2.2.length-j2.1.toNat))))))
def zL1(a0:List ByteArray)(g1:Int)(g2:Int×Int×(List ByteArray)):Option ((Int×Int×(List ByteArray))⊕(Int×(List ByteArray))):=
 (if(decide (g2.2.1<(((a0.length-g1.toNat):Nat):Int)))=true then
  gd (0<=g2.2.1/\g2.2.1<(((a0.length-g1.toNat):Nat):Int)/\g1.toNat+(a0.length-g1.toNat)<=g2.2.2.length)<|
  gd (0<=i64.wrap (g2.2.1-1)/\i64.wrap (g2.2.1-1)<(((a0.length-g1.toNat):Nat):Int)/\g1.toNat+(a0.length-g1.toNat)<=g2.2.2.length)<|
  (if(!((g2.2.2.getD (g1.toNat+g2.2.1.toNat) ⟨#[]⟩).toList==(g2.2.2.getD (g1.toNat+(i64.wrap (g2.2.1-1)).toNat) ⟨#[]⟩).toList))=true then
   gd (0<=g2.2.1/\g2.2.1<(((a0.length-g1.toNat):Nat):Int)/\g1.toNat+(a0.length-g1.toNat)<=g2.2.2.length)<|
   gd (0<=g2.1/\g2.1<((g2.2.2.length:Nat):Int))<|
   some (.inl ((i64.wrap (g2.1+1)),i64.wrap (g2.2.1+1),g2.2.2.set g2.1.toNat (g2.2.2.getD (g1.toNat+g2.2.1.toNat) ⟨#[]⟩)))
  else
   some (.inl (g2.1,i64.wrap (g2.2.1+1),g2.2.2)))
 else
  some (.inr (g2.1,g2.2.2)))
def zB7(a0:List ByteArray)(g1:Int):Option (Int⊕(Unit⊕((List ByteArray)×(List ByteArray)))):=
 (if(decide (g1<((a0.length:Nat):Int)))=true then
  gd (0<=g1/\g1<((a0.length:Nat):Int))<|
  gd (0<=i64.wrap (g1-1)/\i64.wrap (g1-1)<((a0.length:Nat):Int))<|
  (if((a0.getD g1.toNat ⟨#[]⟩).toList==(a0.getD ((i64.wrap (g1-1)).toNat) ⟨#[]⟩).toList)=true then
   gd (0<=g1/\g1<=((a0.length:Nat):Int)/\((a0.length:Nat):Int)<=((a0.length:Nat):Int))<|
   (zg8 (zL1 a0 g1) (g1,1,a0)).bind (λ z=>zL0 z)
  else
   some (.inl (i64.wrap (g1+1))))
 else
  some (.inr (.inl ())))
def zb5(a0:List ByteArray):Option ((List ByteArray)×(List ByteArray)):=
 (if(decide (((a0.length:Nat):Int)<2))=true then
  some (a0,a0)
 else
  (zg8 (zB7 a0) 1).bind (λ|.inl z=>zK9 a0 z|.inr z=>some z))
@[reducible,instance] def zds0 (a0:List ByteArray):=mkJ (zb5 a0) 0 (@zK9.eq_1 a0) λ(j1:Unit)=>⟨[(0,.own 0 0 a0.length)],[(0,⟨false,1,[A.str ⟨#[]⟩],a0.map eS⟩)],1⟩
@[reducible,instance] def zds1 (a0:List ByteArray) (g1:Int):=mkJ (zB7 a0 g1) 2 (@zL0.eq_1) λ(j2:Int×(List ByteArray))=>⟨[(0,.own 0 0 j2.2.length),(3,.int .i64 j2.1)],[(0,⟨false,1,[A.str ⟨#[]⟩],j2.2.map eS⟩)],1⟩
@[reducible,instance] def zds2 (a0:List ByteArray) (g1:Int) {T:Type} (x:T):=mkL x (@zL1.eq_1 a0 g1) λ(g2:Int×Int×(List ByteArray))=>⟨[(0,.own 0 0 g2.2.2.length),(3,.int .i64 g2.1),(4,.own 0 g1.toNat (a0.length-g1.toNat)),(5,.int .i64 g2.2.1)],[(0,⟨false,1,[A.str ⟨#[]⟩],g2.2.2.map eS⟩)],1⟩
@[reducible,instance] def zds3 (a0:List ByteArray) {T:Type} (x:T):=mkL x (@zB7.eq_1 a0) λ(g1:Int)=>⟨[(0,.own 0 0 a0.length),(3,.int .i64 g1)],[(0,⟨false,1,[A.str ⟨#[]⟩],a0.map eS⟩)],1⟩
instance zab8(a0:List ByteArray):OkM (zb5 a0) 127 [.own 0 0 a0.length] [(0,⟨false,1,[A.str ⟨#[]⟩],a0.map eS⟩)] 1 (λ r=>.sl (r.1.map eS)) (λ r=>[(0,⟨true,1,[A.str ⟨#[]⟩],r.2.map eS⟩)]) 1:=⟨λ r h=>by
 refine zK4 Tryz.f127 [] [.sl (r.1.map eS)] λ E hG hN hK=>?_;have hm:Mk (zb5 a0):=trivial;unfold zb5 at h;refine za2 (za3 hG ?_);refine za2 (za2 (za3 hG ?_));refine zh3 rfl hG h (λ _ h=>?_) (λ _ h=>?_)
 · refine za2 (za3 hG ?_)
   refine g_gh (.fz [0]) ?_;exact gogo
 refine zh0 ?_;refine za2 (za2 (za3 hG ?_));refine zQ7 hm h (λ j1 hm h=>?_) ?_
 · try refine g_st ?_
   refine za2 (za3 hG ?_);refine g_gh (.fz [0]) ?_;exact gogo
 refine zbu5 hm hK [(0,0)] h (λ g1 y hm kx h=>?_)
 try refine g_st ?_
 refine za2 (za2 (za3 hG ?_));refine zh3 rfl hG h (λ _ h=>?_) (λ _ h=>?_)
 · refine zh0 ?_
   refine za2 (zr6 (za2 ?_));obtain⟨hb8,h⟩:=ze5 h;obtain⟨hb9,h⟩:=ze5 h;refine zaj5 zv9 hG ?_;refine zh3 rfl hG h (λ _ h=>?_) (λ _ h=>?_)
   · refine za2 ?_
     obtain⟨hb7,h⟩:=ze5 h;refine za3 hG ?_;refine za2 (za2 (za3 hG ?_));refine zQ7 hm h (λ j2 hm h=>?_) ?_
     · try refine g_st ?_
       refine za2 ?_;obtain⟨hb2,h⟩:=ze5 h;refine za3 hG ?_;refine za2 ?_;obtain⟨hb1,h⟩:=ze5 h;refine za3 hG ?_;refine g_gh (.fz [0]) ?_;exact gogo
     exact gogo
   exact gogo
 exact gogo⟩
attribute [local irreducible] zb5
def zd3(a0:List aD):Option (Int×(List aD)):=
 some (((a0.length:Nat):Int),a0)
instance zau7(a0:List aD):OkM (zd3 a0) 27 [.own 0 0 a0.length] [(0,sx a0)] 1 (λ r=>.int .i64 r.1) (λ r=>[(0,sx r.2)]) 1:=okm (zd3.eq_1 a0) (λ r=>[.int .i64 r.1]) Tryz.f27 []
attribute [local irreducible] zd3
def zaa9(a0:aP)(j1:(List aP)):Option aP:=
 some (⟨a0.k,(⟨a0.bV.name,(⟨a0.bV.aY.mode,a0.bV.aY.bJ⟩:aJ)⟩:aO),j1⟩:aP)
def zab0(a90:(aP->Option aP))(a0:aP)(g1:Int×(List aP)):Option ((Int×(List aP))⊕(List aP)):=
 (if(decide (g1.1<(a0.bU.length:Int)))=true then
  gd (0<=g1.1/\g1.1<(a0.bU.length:Int))<|
  (a90 (a0.bU.getD g1.1.toNat aP.zero)).bind λ v1=>
  gd (g1.2.length+1<=4294967296)<|
  some (.inl ((i64.wrap (g1.1+1)),(g1.2++[v1])))
 else
  some (.inr g1.2))
def zC3(a90:(aP->Option aP))(a0:aP):Option aP:=
 (zg8 (zab0 a90 a0) (0,[])).bind (λ z=>zaa9 a0 z)
def zS5:Nat->(aP->Option aP)
 |0=>λ _=>none
 |n+1=>zC3 (zS5 n)
def ze9(a0:aP):Option aP:=zS5 (_root_.SizeOf.sizeOf a0+1) a0
@[reducible,instance] def zds4 (a90:(aP->Option aP)) (a0:aP):=mkJ (zC3 a90 a0) 0 (@zaa9.eq_1 a0) λ(j1:(List aP))=>⟨[(1,.ptr 0 0 0),(2,.ptr 1 0 0),(3,.own 2 0 j1.length)],[(0,bx a0),(1,bx aP.zero),(2,sx j1)],3⟩
@[reducible,instance] def zds5 (a90:(aP->Option aP)) (a0:aP) {T:Type} (x:T):=mkL x (@zab0.eq_1 a90 a0) λ(g1:Int×(List aP))=>⟨[(1,.ptr 0 0 0),(2,.ptr 1 0 0),(3,.own 2 0 g1.2.length),(7,la a0.bU),(8,.int .i64 (a0.bU.length:Int)),(9,.int .i64 g1.1)],[(0,bx a0),(1,bx aP.zero),(2,sx g1.2)],3⟩
abbrev zM9(g:(aP->Option aP)):Prop:=∀(a0:aP),OkP (g a0) 162 [.agg (aP.enc a0)] (λ r=>.agg (aP.enc r))
theorem zaA5(a90:(aP->Option aP))(hrc:zM9 a90):zM9 (zC3 a90):=λ a0=>⟨λ r h=>by
 refine zx6 Tryz.f162 [(3,1)] λ E hG hN hK=>?_;have hm:Mk (zC3 a90 a0):=trivial;unfold zC3 at h;refine za2 (za3 hG ?_);refine za2 (za3 hG ?_);refine za2 (za2 (za3 hG ?_));refine zQ7 hm h (λ j1 hm h=>?_) ?_
 · try refine g_st ?_
   refine za2 (za3 hG ?_);refine za2 (za3 hG ?_);refine zo3 ?_;exact zt5 h (by intro e;subst e;simp[aO.enc,aJ.enc])
 exact gogo⟩
theorem zaA6:∀n,zM9 (zS5 n):=zaE7 (λ _=>⟨λ _ h=>nomatch h⟩) λ n=>zaA5 _
instance zbu8:zM9 ze9:=λ a0=>zaA6 _ a0
attribute [local irreducible] ze9
def zd5(a0:aD)(a1:List aD):Option (List aD):=
 gd (a1.length+1<=4294967296)<|
 some (a1++[a0])
instance zar7(a0:aD)(a1:List aD):OkM (zd5 a0 a1) 334 [.ptr 0 0 0,.ival 91 (aD.enc a0)] [(0,⟨false,1,[A.sl ([].map aD.enc)],[[.own 1 0 a1.length]]⟩),(1,sx a1)] 2 (λ r=>.tup []) (λ r=>[(0,⟨false,1,[A.sl ([].map aD.enc)],[[.own 2 0 r.length]]⟩),(2,sx r)]) 3:=okm (zd5.eq_1 a0 a1) (λ r=>[]) Tryz.f334 []
attribute [local irreducible] zd5
def zaR3:cD:=
 {cD.zero with first:=1}
instance zcn2:OkT 81 [] (.agg (cD.enc zaR3)):=ok2 (λ r=>.agg (cD.enc r)) zaR3.eq_1 Tryz.f81 []
def zar8(a0 a1:Int):Bool:=
 (((decide (1<=a1)&&decide (a1<=4))&&decide (0<=a0))&&decide (a0<a1))
instance zbT4(a0 a1:Int):OkT 253 [.int .i64 a0,.int .i64 a1] (.bool (zar8 a0 a1)):=ok2 (λ r=>.bool r) (zar8.eq_1 a0 a1) Tryz.f253 []
end
end Ab
end Go.Proofs.YtamndckemppjdaaGreatDoor
