import Derived.Test.YtenebhlnfjcffaaGreatDoorHand
namespace Go.Proofs.YtenebhlnfjcffaaGreatDoor
namespace Ab
open IntKind (i64 u64 u8)
set_option linter.unusedSimpArgs false
set_option linter.defProp false
set_option linter.unusedVariables false
set_option maxRecDepth 100000
set_option maxHeartbeats 1000000
noncomputable section
def zk8(a0:aC):Bool:=
 (decide (a0={aC.zero with}))
instance zbV7(a0:aC):OkT 261 [.agg (aC.enc a0)] (.bool (zk8 a0)):=ok2 (λ r=>.bool r) (zk8.eq_1 a0) Tryz.f261 []
def zn8(a0:aB):Option (aU×Bool):=
 (if(decide (0<(a0.aN.length:Int)))=true then
  gd (0<=0/\0<(a0.aN.length:Int))<|
  some ((a0.aN.getD 0 aU.zero),true)
 else
  (if(decide (0<(a0.aT.length:Int)))=true then
   gd (0<=0/\0<(a0.aT.length:Int))<|
   some ((a0.aT.getD 0 aU.zero),true)
  else
   some ({aU.zero with},false)))
instance zdx8(a0:aB):OkP (zn8 a0) 135 [ga a0] (λ r=>.tup [ga r.1,.bool r.2]):=ok1 (zn8.eq_1 a0) Tryz.f135 []
attribute [local irreducible] zn8
def zaK7(j1:(List aL)):Option (List aL):=
 some j1
def zaK8(a0:List bA)(g1:Int×(List aL)):Option ((Int×(List aL))⊕(List aL)):=
 (if(decide (g1.1<(a0.length:Int)))=true then
  gd (0<=g1.1/\g1.1<(a0.length:Int))<|
  gd (g1.2.length+1<=4294967296)<|
  some (.inl ((i64.wrap (g1.1+1)),(g1.2++[(a0.getD g1.1.toNat bA.zero).aK])))
 else
  some (.inr g1.2))
def zf5(a0:List bA):Option (List aL):=
 (zc2 (zaK8 a0) (0,[])).bind (λ z=>zaK7 z)
@[reducible,instance] def zdW1 a0:=mkJ (zf5 a0) 0 (@zaK7.eq_1) λ(j1:(List aL))=>⟨[(3,.own 0 0 j1.length)],[(0,sx j1)],1⟩
@[reducible,instance] def zdW2 (a0:List bA) {T:Type} (x:T):=mkL x (@zaK8.eq_1 a0) λ(g1:Int×(List aL))=>⟨[(3,.own 0 0 g1.2.length),(6,la a0),(7,.int .i64 (a0.length:Int)),(8,.int .i64 g1.1)],[(0,sx g1.2)],1⟩
instance zcH4(a0:List bA):OkM (zf5 a0) 155 [la a0] [] 0 (λ r=>.own 0 0 r.length) (λ r=>[(0,sx r)]) 1:=okm (zf5.eq_1 a0) (λ r=>[.own 0 0 r.length]) Tryz.f155 [(2,1),(3,1)]
attribute [local irreducible] zf5
def zb5(a0:Int):Option (List aU):=gd (0<=a0/\a0<=4294967296) (some [])
theorem zax2:Lays8.n4 C.P ⟨λ|4=>210|n=>n,λ|22=>77|25=>134|n=>n,λ n=>n⟩ where
 mixed:=zM4
 f4:=⟨ "slices.Grow[[]clusterlocks/api.Wait,clusterlocks/api.Wait]",by decide,Tryz.func210.trans (dG some (by kernel_rfl))⟩
 t0:=Tryz.underlying0
 a0:=Tryz.isAgg0
 z0:=Tryz.sizeOf0
 v0:=Tryz.zeroValue0
 t3:=Tryz.underlying3
 a3:=Tryz.isAgg3
 z3:=Tryz.sizeOf3
 v3:=Tryz.zeroValue3
 t4:=Tryz.underlying4
 a4:=Tryz.isAgg4
 z4:=Tryz.sizeOf4
 v4:=Tryz.zeroValue4
 t9:=Tryz.underlying9
 a9:=Tryz.isAgg9
 z9:=Tryz.sizeOf9
 v9:=Tryz.zeroValue9
 t20:=Tryz.underlying20
 a20:=Tryz.isAgg20
 z20:=Tryz.sizeOf20
 v20:=Tryz.zeroValue20
 t22:=Tryz.underlying77
 a22:=Tryz.isAgg77
 z22:=Tryz.sizeOf77
 v22:=Tryz.zeroValue77
theorem zav1(a0:Int)(r:List aU)(h:zb5 a0=some r):MFn C 210 [.full [],.int .i64 a0] [] 0 (.own 0 0 r.length) [(0,sx r)] 1:=by obtain⟨⟨h0,h1⟩,h⟩:=zg8 h;obtain rfl:=dS h;exact zdo8 zax2 (by kernel_rfl) rfl _ a0 h0 h1
attribute [local irreducible] zb5
def zR6(a0:List aL)(j1:Unit):Option ((List aL)×(List aL)):=
 some (a0,a0)
def zE4(j2:Int×(List aL)):Option (Int⊕(Unit⊕((List aL)×(List aL)))):=
 gd (0<=j2.1/\j2.1<=((j2.2.length:Nat):Int)/\((j2.2.length:Nat):Int)<=((j2.2.length:Nat):Int))<|
 gd (0<=0/\0<=j2.1/\j2.1<=((j2.2.length:Nat):Int))<|
 some (.inr (.inr ((((j2.2.take j2.1.toNat++List.replicate (j2.2.length-j2.1.toNat) aL.zero++j2.2.drop (j2.1.toNat+(j2.2.length-j2.1.toNat))).drop 0).take j2.1.toNat),(j2.2.take j2.1.toNat++List.replicate (j2.2.length-j2.1.toNat) aL.zero++j2.2.drop (j2.1.toNat+(j2.2.length-j2.1.toNat))))))
def zz2(a0:List aL)(g1:Int)(g2:Int×Int×(List aL)):Option ((Int×Int×(List aL))⊕(Int×(List aL))):=
 (if(decide (g2.2.1<(((a0.length-g1.toNat):Nat):Int)))=true then
  gd (0<=g2.2.1/\g2.2.1<(((a0.length-g1.toNat):Nat):Int)/\g1.toNat+(a0.length-g1.toNat)<=g2.2.2.length)<|
  gd (0<=i64.wrap (g2.2.1-1)/\i64.wrap (g2.2.1-1)<(((a0.length-g1.toNat):Nat):Int)/\g1.toNat+(a0.length-g1.toNat)<=g2.2.2.length)<|
  (if(!decide (g2.2.2.getD (g1.toNat+g2.2.1.toNat) aL.zero=g2.2.2.getD (g1.toNat+(i64.wrap (g2.2.1-1)).toNat) aL.zero))=true then
   gd (0<=g2.2.1/\g2.2.1<(((a0.length-g1.toNat):Nat):Int)/\g1.toNat+(a0.length-g1.toNat)<=g2.2.2.length)<|
   gd (0<=g2.1/\g2.1<((g2.2.2.length:Nat):Int))<|
   some (.inl ((i64.wrap (g2.1+1)),i64.wrap (g2.2.1+1),g2.2.2.set g2.1.toNat (g2.2.2.getD (g1.toNat+g2.2.1.toNat) aL.zero)))
  else
   some (.inl (g2.1,i64.wrap (g2.2.1+1),g2.2.2)))
 else
  some (.inr (g2.1,g2.2.2)))
def zv3(a0:List aL)(g1:Int):Option (Int⊕(Unit⊕((List aL)×(List aL)))):=
 (if(decide (g1<((a0.length:Nat):Int)))=true then
  gd (0<=g1/\g1<((a0.length:Nat):Int))<|
  gd (0<=i64.wrap (g1-1)/\i64.wrap (g1-1)<((a0.length:Nat):Int))<|
  (if(decide (a0.getD g1.toNat aL.zero=a0.getD ((i64.wrap (g1-1)).toNat) aL.zero))=true then
   gd (0<=g1/\g1<=((a0.length:Nat):Int)/\((a0.length:Nat):Int)<=((a0.length:Nat):Int))<|
   (zc2 (zz2 a0 g1) (g1,1,a0)).bind (λ z=>zE4 z)
  else
   some (.inl (i64.wrap (g1+1))))
 else
  some (.inr (.inl ())))
def za4(a0:List aL):Option ((List aL)×(List aL)):=
 (if(decide (((a0.length:Nat):Int)<2))=true then
  some (a0,a0)
 else
  (zc2 (zv3 a0) 1).bind (λ|.inl z=>zR6 a0 z|.inr z=>some z))
@[reducible,instance] def zdW3 (a0:List aL):=mkJ (za4 a0) 0 (@zR6.eq_1 a0) λ(j1:Unit)=>⟨[(0,.own 0 0 a0.length)],[(0,sx a0)],1⟩
@[reducible,instance] def zdW4 (a0:List aL) (g1:Int):=mkJ (zv3 a0 g1) 2 (@zE4.eq_1) λ(j2:Int×(List aL))=>⟨[(0,.own 0 0 j2.2.length),(3,.int .i64 j2.1)],[(0,sx j2.2)],1⟩
@[reducible,instance] def zdW5 (a0:List aL) (g1:Int) {T:Type} (x:T):=mkL x (@zz2.eq_1 a0 g1) λ(g2:Int×Int×(List aL))=>⟨[(0,.own 0 0 g2.2.2.length),(3,.int .i64 g2.1),(4,.own 0 g1.toNat (a0.length-g1.toNat)),(5,.int .i64 g2.2.1)],[(0,sx g2.2.2)],1⟩
@[reducible,instance] def zdW6 (a0:List aL) {T:Type} (x:T):=mkL x (@zv3.eq_1 a0) λ(g1:Int)=>⟨[(0,.own 0 0 a0.length),(3,.int .i64 g1)],[(0,sx a0)],1⟩
instance zao1(a0:List aL):OkM (za4 a0) 104 [.own 0 0 a0.length] [(0,sx a0)] 1 (λ r=>la r.1) (λ r=>[(0,⟨true,3,aL.enc aL.zero,r.2.map aL.enc⟩)]) 1:=⟨λ r h=>by
 refine zaK6 Tryz.f104 [] [la r.1] λ E hG hN hK=>?_;have hm:Mk (za4 a0):=trivial;unfold za4 at h;refine za3 (za8 hG ?_);refine za3 (za3 (za8 hG ?_));refine zq4 rfl hG h (λ _ h=>?_) (λ _ h=>?_)
 · refine za3 (za8 hG ?_)
   refine g_gh (.fz [0]) ?_;exact gogo
 refine zo1 ?_;refine za3 (za3 (za8 hG ?_));refine zaB6 hm h (λ j1 hm h=>?_) ?_
 · try refine g_st ?_
   refine za3 (za8 hG ?_);refine g_gh (.fz [0]) ?_;exact gogo
 refine zdD2 hm hK [(0,0)] h (λ g1 y hm kx h=>?_)
 try refine g_st ?_
 refine za3 (za3 (za8 hG ?_));refine zq4 rfl hG h (λ _ h=>?_) (λ _ h=>?_)
 · refine zo1 ?_
   refine za3 (zM3 (za3 ?_));obtain⟨hb8,h⟩:=zg8 h;obtain⟨hb9,h⟩:=zg8 h;refine zbv8 zM4 hG ?_;refine zq4 rfl hG h (λ _ h=>?_) (λ _ h=>?_)
   · refine za3 ?_
     obtain⟨hb7,h⟩:=zg8 h;refine za8 hG ?_;refine za3 (za3 (za8 hG ?_));refine zaB6 hm h (λ j2 hm h=>?_) ?_
     · try refine g_st ?_
       refine za3 ?_;obtain⟨hb2,h⟩:=zg8 h;refine za8 hG ?_;refine za3 ?_;obtain⟨hb1,h⟩:=zg8 h;refine za8 hG ?_;refine g_gh (.fz [0]) ?_;exact gogo
     exact gogo
   exact gogo
 exact gogo⟩
attribute [local irreducible] za4
def zad1(a0:aO)(j1:(List aO)):Option aO:=
 some (⟨a0.k,(⟨a0.bG.name,(⟨a0.bG.aM.mode,a0.bG.aM.aS⟩:aC)⟩:aJ),j1⟩:aO)
def zR7(a90:(aO->Option aO))(a0:aO)(g1:Int×(List aO)):Option ((Int×(List aO))⊕(List aO)):=
 (if(decide (g1.1<(a0.bE.length:Int)))=true then
  gd (0<=g1.1/\g1.1<(a0.bE.length:Int))<|
  (a90 (a0.bE.getD g1.1.toNat aO.zero)).bind λ v1=>
  gd (g1.2.length+1<=4294967296)<|
  some (.inl ((i64.wrap (g1.1+1)),(g1.2++[v1])))
 else
  some (.inr g1.2))
def zB3(a90:(aO->Option aO))(a0:aO):Option aO:=
 (zc2 (zR7 a90 a0) (0,[])).bind (λ z=>zad1 a0 z)
def zF5:Nat->(aO->Option aO)
 |0=>λ _=>none
 |n+1=>zB3 (zF5 n)
def ze1(a0:aO):Option aO:=zF5 (_root_.SizeOf.sizeOf a0+1) a0
@[reducible,instance] def zdW7 (a90:(aO->Option aO)) (a0:aO):=mkJ (zB3 a90 a0) 0 (@zad1.eq_1 a0) λ(j1:(List aO))=>⟨[(1,.ptr 0 0 0),(2,.ptr 1 0 0),(3,.own 2 0 j1.length)],[(0,bx a0),(1,bx aO.zero),(2,sx j1)],3⟩
@[reducible,instance] def zdW8 (a90:(aO->Option aO)) (a0:aO) {T:Type} (x:T):=mkL x (@zR7.eq_1 a90 a0) λ(g1:Int×(List aO))=>⟨[(1,.ptr 0 0 0),(2,.ptr 1 0 0),(3,.own 2 0 g1.2.length),(7,la a0.bE),(8,.int .i64 (a0.bE.length:Int)),(9,.int .i64 g1.1)],[(0,bx a0),(1,bx aO.zero),(2,sx g1.2)],3⟩
abbrev zZ6(g:(aO->Option aO)):Prop:=∀(a0:aO),OkP (g a0) 66 [.agg (aO.enc a0)] (λ r=>.agg (aO.enc r))
theorem zba1(a90:(aO->Option aO))(hrc:zZ6 a90):zZ6 (zB3 a90):=λ a0=>⟨λ r h=>by
 refine zae9 Tryz.f66 [(3,1)] λ E hG hN hK=>?_;have hm:Mk (zB3 a90 a0):=trivial;unfold zB3 at h;refine za3 (za8 hG ?_);refine za3 (za8 hG ?_);refine za3 (za3 (za8 hG ?_));refine zaB6 hm h (λ j1 hm h=>?_) ?_
 · try refine g_st ?_
   refine za3 (za8 hG ?_);refine za3 (za8 hG ?_);refine zx6 ?_;exact zS5 h (by intro e;subst e;simp[aJ.enc,aC.enc])
 exact gogo⟩
theorem zba2:∀n,zZ6 (zF5 n):=zaQ7 (λ _=>⟨λ _ h=>nomatch h⟩) λ n=>zba1 _
instance zbe9:zZ6 ze1:=λ a0=>zba2 _ a0
attribute [local irreducible] ze1
def zbh5(j1:Unit):Option Int:=
 some (-1)
def zaw4(a0:List aB)(a1:ByteArray)(g1:Int):Option (Int⊕(Unit⊕Int)):=
 (if(decide (g1<(a0.length:Int)))=true then
  gd (0<=g1/\g1<(a0.length:Int))<|
  (if((((a0.getD g1.toNat aB.zero).aA).name).toList==a1.toList)=true then
   some (.inr (.inr g1))
  else
   some (.inl (i64.wrap (g1+1))))
 else
  some (.inr (.inl ())))
def zm5(a0:List aB)(a1:ByteArray):Option Int:=
 (zc2 (zaw4 a0 a1) 0).bind (λ|.inl z=>zbh5 z|.inr z=>some z)
@[reducible,instance] def zdW9 a0 a1:=mkJ (zm5 a0 a1) 0 (@zbh5.eq_1) λ(j1:Unit)=>⟨[],[],0⟩
@[reducible,instance] def zdX0 (a0:List aB) (a1:ByteArray) {T:Type} (x:T):=mkL x (@zaw4.eq_1 a0 a1) λ(g1:Int)=>⟨[(1,.str a1),(7,la a0),(8,.int .i64 (a0.length:Int)),(9,.int .i64 g1)],[],0⟩
instance zdx9(a0:List aB)(a1:ByteArray):OkP (zm5 a0 a1) 37 [la a0,.str a1] (λ r=>.int .i64 r):=ok1 (zm5.eq_1 a0 a1) Tryz.f37 []
attribute [local irreducible] zm5
def zW2(j1:Unit):Option Bool:=
 some true
def zW3(a0 a1:List bA)(g1:Int):Option (Int⊕(Unit⊕Bool)):=
 (if(decide (g1<(a0.length:Int)))=true then
  gd (0<=g1/\g1<(a0.length:Int))<|
  gd (0<=g1/\g1<(a1.length:Int))<|
  (if(!decide (a0.getD g1.toNat bA.zero=a1.getD g1.toNat bA.zero))=true then
   some (.inr (.inr false))
  else
   some (.inl (i64.wrap (g1+1))))
 else
  some (.inr (.inl ())))
def zb6(a0 a1:List bA):Option Bool:=
 (if(!decide ((a0.length:Int)=(a1.length:Int)))=true then
  some false
 else
  (zc2 (zW3 a0 a1) 0).bind (λ|.inl z=>zW2 z|.inr z=>some z))
@[reducible,instance] def zdX1 a0 a1:=mkJ (zb6 a0 a1) 0 (@zW2.eq_1) λ(j1:Unit)=>⟨[],[],0⟩
@[reducible,instance] def zdX2 (a0 a1:List bA) {T:Type} (x:T):=mkL x (@zW3.eq_1 a0 a1) λ(g1:Int)=>⟨[(0,la a0),(1,la a1),(12,.int .i64 (a0.length:Int)),(13,.int .i64 g1)],[],0⟩
instance zaA1(a0 a1:List bA):OkP (zb6 a0 a1) 151 [la a0,la a1] (λ r=>.bool r):=ok1 (zb6.eq_1 a0 a1) Tryz.f151 []
attribute [local irreducible] zb6
def zad2(a0 a1:aU):Bool:=
 (decide ({a0 with bR:=0}={a1 with bR:=0}))
instance zcf1(a0 a1:aU):OkT 153 [.agg (aU.enc a0),.agg (aU.enc a1)] (.bool (zad2 a0 a1)):=ok2 (λ r=>.bool r) (zad2.eq_1 a0 a1) Tryz.f153 []
def zb1(a0:List aU):Option (List aU):=
 gd (a0.length<=4294967296)<|
 some a0
theorem zaA2(a0:List aU)(r:(List aU))(h:zb1 a0=some r):PFn C 65 [la a0] (la r):=by
 refine zae9 Tryz.f65 [(5,1)] λ E hG hN hK=>?_;unfold zb1 at h;refine za3 (za8 hG ?_);refine za3 (za3 (za8 hG ?_));intro b hnil;cases b
 · try refine g_st ?_
   refine zbQ6 rfl hG ?_;refine zo1 ?_;refine za3 ?_;obtain⟨hb1,h⟩:=zg8 h;refine za8 hG ?_;refine zx6 ?_;exact zS5 h
 have ha:a0=[]:=jE.1 (hnil rfl);subst ha
 replace h:some []=some r:=by simpa [gd]using h
 try refine g_st ?_
 refine zbe8 rfl hG ?_;refine za3 (za8 hG ?_);refine zx6 ?_;exact zS5 h
instance zbv9(a0:List aU):OkP (zb1 a0) 65 [la a0] (λ r=>la r):=⟨zaA2 a0⟩
attribute [local irreducible] zb1
def zS6(a0:Int):Bool:=
 (decide (97<=a0)&&decide (a0<=122))
instance zdi0(a0:Int):OkT 211 [.int .u8 a0] (.bool (zS6 a0)):=ok2 (λ r=>.bool r) (zS6.eq_1 a0) Tryz.f211 []
def zbl9(j1:Unit):Option aC:=
 some ({aC.zero with})
def zaB7(a0:List bA)(a1:aL)(g1:Int):Option (Int⊕(Unit⊕aC)):=
 (if(decide (g1<(a0.length:Int)))=true then
  gd (0<=g1/\g1<(a0.length:Int))<|
  (if(decide ((a0.getD g1.toNat bA.zero).aK=a1))=true then
   gd (0<=g1/\g1<(a0.length:Int))<|
   some (.inr (.inr ((a0.getD g1.toNat bA.zero).aM)))
  else
   some (.inl (i64.wrap (g1+1))))
 else
  some (.inr (.inl ())))
def zo2(a0:List bA)(a1:aL):Option aC:=
 (zc2 (zaB7 a0 a1) 0).bind (λ|.inl z=>zbl9 z|.inr z=>some z)
@[reducible,instance] def zdX3 a0 a1:=mkJ (zo2 a0 a1) 0 (@zbl9.eq_1) λ(j1:Unit)=>⟨[(4,.ptr 0 0 0)],[(0,bx aC.zero)],1⟩
@[reducible,instance] def zdX4 (a0:List bA) (a1:aL) {T:Type} (x:T):=mkL x (@zaB7.eq_1 a0 a1) λ(g1:Int)=>⟨[(0,la a0),(3,.ptr 0 0 0),(4,.ptr 1 0 0),(5,.int .i64 g1)],[(0,bx a1),(1,bx aC.zero)],2⟩
instance zdD3(a0:List bA)(a1:aL):OkP (zo2 a0 a1) 145 [la a0,ga a1] (λ r=>ga r):=ok1 (zo2.eq_1 a0 a1) Tryz.f145 []
attribute [local irreducible] zo2
def zaQ8(j1:(List aL)):Option (List aL):=
 some j1
def zaj1(a0:List bA)(g1:Int×(List aL)):Option ((Int×(List aL))⊕(List aL)):=
 (if(decide (g1.1<(a0.length:Int)))=true then
  gd (0<=g1.1/\g1.1<(a0.length:Int))<|
  gd (g1.2.length+1<=4294967296)<|
  some (.inl ((i64.wrap (g1.1+1)),(g1.2++[(a0.getD g1.1.toNat bA.zero).aK])))
 else
  some (.inr g1.2))
def zi2(a0:List bA):Option (List aL):=
 (zc2 (zaj1 a0) (0,[])).bind (λ z=>zaQ8 z)
@[reducible,instance] def zdX5 a0:=mkJ (zi2 a0) 0 (@zaQ8.eq_1) λ(j1:(List aL))=>⟨[(3,.own 0 0 j1.length)],[(0,sx j1)],1⟩
@[reducible,instance] def zdX6 (a0:List bA) {T:Type} (x:T):=mkL x (@zaj1.eq_1 a0) λ(g1:Int×(List aL))=>⟨[(0,la a0),(3,.own 0 0 g1.2.length),(4,.int .i64 g1.1)],[(0,sx g1.2)],1⟩
instance zcU3(a0:List bA):OkM (zi2 a0) 178 [la a0] [] 0 (λ r=>.own 0 0 r.length) (λ r=>[(0,sx r)]) 1:=okm (zi2.eq_1 a0) (λ r=>[.own 0 0 r.length]) Tryz.f178 [(2,1),(3,1)]
attribute [local irreducible] zi2
def zaG2(j2:(List aL)):Option (List aL):=
 some j2
def zar0(a0:aB)(g1:Int×(List aL)):Option ((Int×(List aL))⊕(List aL)):=
 (if(decide (g1.1<(a0.aT.length:Int)))=true then
  gd (0<=g1.1/\g1.1<(a0.aT.length:Int))<|
  gd (g1.2.length+1<=4294967296)<|
  some (.inl ((i64.wrap (g1.1+1)),(g1.2++[(a0.aT.getD g1.1.toNat aU.zero).aK])))
 else
  some (.inr g1.2))
def zar1(a0:aB)(j1:(List aL)):Option (List aL):=
 (zc2 (zar0 a0) (0,j1)).bind (λ z=>zaG2 z)
def zar2(a0:aB)(g2:Int×(List aL)):Option ((Int×(List aL))⊕(List aL)):=
 (if(decide (g2.1<(a0.aN.length:Int)))=true then
  gd (0<=g2.1/\g2.1<(a0.aN.length:Int))<|
  gd (g2.2.length+1<=4294967296)<|
  some (.inl ((i64.wrap (g2.1+1)),(g2.2++[(a0.aN.getD g2.1.toNat aU.zero).aK])))
 else
  some (.inr g2.2))
def zl5(a0:aB):Option (List aL):=
 (zc2 (zar2 a0) (0,[])).bind (λ z=>zar1 a0 z)
@[reducible,instance] def zdX7 a0 j1:=mkJ (zar1 a0 j1) 2 (@zaG2.eq_1) λ(j2:(List aL))=>⟨[(3,.own 0 0 j2.length)],[(0,sx j2)],1⟩
@[reducible,instance] def zdX8 (a0:aB) {T:Type} (x:T):=mkL x (@zar0.eq_1 a0) λ(g1:Int×(List aL))=>⟨[(1,.ptr 0 0 0),(3,.own 1 0 g1.2.length),(5,.int .i64 g1.1)],[(0,bx a0),(1,sx g1.2)],2⟩
@[reducible,instance] def zdX9 (a0:aB):=mkJ (zl5 a0) 0 (@zar1.eq_1 a0) λ(j1:(List aL))=>⟨[(1,.ptr 0 0 0),(3,.own 1 0 j1.length)],[(0,bx a0),(1,sx j1)],2⟩
@[reducible,instance] def zdY0 (a0:aB) {T:Type} (x:T):=mkL x (@zar2.eq_1 a0) λ(g2:Int×(List aL))=>⟨[(1,.ptr 0 0 0),(3,.own 1 0 g2.2.length),(4,.int .i64 g2.1)],[(0,bx a0),(1,sx g2.2)],2⟩
instance zdo9(a0:aB):OkP (zl5 a0) 179 [ga a0] (λ r=>la r):=ok1 (zl5.eq_1 a0) Tryz.f179 [(3,1)]
attribute [local irreducible] zl5
def zba3(j1:Unit):Option Int:=
 some (-1)
def zar3(a0:List aF)(a1:aL)(g1:Int):Option (Int⊕(Unit⊕Int)):=
 (if(decide (g1<(a0.length:Int)))=true then
  gd (0<=g1/\g1<(a0.length:Int))<|
  (if(decide ((a0.getD g1.toNat aF.zero).aK=a1))=true then
   some (.inr (.inr g1))
  else
   some (.inl (i64.wrap (g1+1))))
 else
  some (.inr (.inl ())))
def zi9(a0:List aF)(a1:aL):Option Int:=
 (zc2 (zar3 a0 a1) 0).bind (λ|.inl z=>zba3 z|.inr z=>some z)
@[reducible,instance] def zdY1 a0 a1:=mkJ (zi9 a0 a1) 0 (@zba3.eq_1) λ(j1:Unit)=>⟨[],[],0⟩
@[reducible,instance] def zdY2 (a0:List aF) (a1:aL) {T:Type} (x:T):=mkL x (@zar3.eq_1 a0 a1) λ(g1:Int)=>⟨[(0,la a0),(3,.ptr 0 0 0),(5,.int .i64 g1)],[(0,bx a1)],1⟩
instance zbV8(a0:List aF)(a1:aL):OkP (zi9 a0 a1) 69 [la a0,ga a1] (λ r=>.int .i64 r):=ok1 (zi9.eq_1 a0 a1) Tryz.f69 []
attribute [local irreducible] zi9
def zbh6(j1:Unit):Option (aH×Bool):=
 some ({aH.zero with},false)
def zaw5(a0:List aH)(a1:ByteArray)(g1:Int):Option (Int⊕(Unit⊕(aH×Bool))):=
 (if(decide (g1<(a0.length:Int)))=true then
  gd (0<=g1/\g1<(a0.length:Int))<|
  (if(((a0.getD g1.toNat aH.zero).name).toList==a1.toList)=true then
   gd (0<=g1/\g1<(a0.length:Int))<|
   some (.inr (.inr ((a0.getD g1.toNat aH.zero),true)))
  else
   some (.inl (i64.wrap (g1+1))))
 else
  some (.inr (.inl ())))
def zn1(a0:List aH)(a1:ByteArray):Option (aH×Bool):=
 (zc2 (zaw5 a0 a1) 0).bind (λ|.inl z=>zbh6 z|.inr z=>some z)
@[reducible,instance] def zdY3 a0 a1:=mkJ (zn1 a0 a1) 0 (@zbh6.eq_1) λ(j1:Unit)=>⟨[(4,.ptr 0 0 0)],[(0,bx aH.zero)],1⟩
@[reducible,instance] def zdY4 (a0:List aH) (a1:ByteArray) {T:Type} (x:T):=mkL x (@zaw5.eq_1 a0 a1) λ(g1:Int)=>⟨[(0,la a0),(1,.str a1),(4,.ptr 0 0 0),(6,.int .i64 g1)],[(0,bx aH.zero)],1⟩
instance zdy0(a0:List aH)(a1:ByteArray):OkP (zn1 a0 a1) 241 [la a0,.str a1] (λ r=>.tup [ga r.1,.bool r.2]):=ok1 (zn1.eq_1 a0 a1) Tryz.f241 []
attribute [local irreducible] zn1
def zf4(a0:bL):Option (Bool×bL):=
 some ((decide (a0.at_<(a0.l.length:Int))),a0)
instance zcA2(a0:bL):OkM (zf4 a0) 74 [.ptr 0 0 0] [(0,bx a0)] 1 (λ r=>.bool r.1) (λ r=>[(0,bx r.2)]) 1:=okm (zf4.eq_1 a0) (λ r=>[.bool r.1]) Tryz.f74 []
attribute [local irreducible] zf4
def zd8(a0:Int)(a1:aL)(a2:bB):Option (Int×(List aB)×(List aF)×(List bJ)):=
 gd (a2.ev.length+1<=4294967296)<|
 some (a2.c.now,a2.c.aI,a2.c.aG,(a2.ev++[{bJ.zero with kind:=a0,aK:=a1}]))
instance zcu7(a0:Int)(a1:aL)(a2:bB):OkM (zd8 a0 a1 a2) 246 [.ptr 0 0 0,.int .i64 a0,ga a1] [(0,⟨false,4,bB.enc bB.zero,[[.int .i64 a2.c.now,la a2.c.aI,.own 1 0 a2.c.aG.length,.own 2 0 a2.ev.length]]⟩),(1,sx a2.c.aG),(2,sx a2.ev)] 3 (λ r=>.tup []) (λ r=>[(0,⟨false,4,bB.enc bB.zero,[[.int .i64 r.1,la r.2.1,.own 1 0 r.2.2.1.length,.own 3 0 r.2.2.2.length]]⟩),(1,sx r.2.2.1),(3,sx r.2.2.2)]) 4:=okm (zd8.eq_1 a0 a1 a2) (λ r=>[]) Tryz.f246 []
attribute [local irreducible] zd8
def zg3(a0:List aB)(a1:Int)(a2:aB):Option (List aB):=
 gd (a0.length<=4294967296)<|
 gd (0<=a1/\a1<((a0.length:Nat):Int))<|
 some (a0.set a1.toNat a2)
instance zbF1(a0:List aB)(a1:Int)(a2:aB):OkP (zg3 a0 a1 a2) 291 [la a0,.int .i64 a1,ga a2] (λ r=>la r):=ok1 (zg3.eq_1 a0 a1 a2) Tryz.f291 [(8,1)]
attribute [local irreducible] zg3
def zU1(a0 a1 a2:Int):Bool:=
 (decide (a1<=a0)&&decide (a0<=a2))
instance zda4(a0 a1 a2:Int):OkT 79 [.int .i64 a0,.int .i64 a1,.int .i64 a2] (.bool (zU1 a0 a1 a2)):=ok2 (λ r=>.bool r) (zU1.eq_1 a0 a1 a2) Tryz.f79 []
def zba4(j1:Unit):Option aC:=
 some ({aC.zero with})
def zP2(a0:List bA)(a1:aL)(g1:Int):Option (Int⊕(Unit⊕aC)):=
 (if(decide (g1<(a0.length:Int)))=true then
  gd (0<=g1/\g1<(a0.length:Int))<|
  (if(decide ((a0.getD g1.toNat bA.zero).aK=a1))=true then
   some (.inr (.inr ((a0.getD g1.toNat bA.zero).aM)))
  else
   some (.inl (i64.wrap (g1+1))))
 else
  some (.inr (.inl ())))
def zk3(a0:List bA)(a1:aL):Option aC:=
 (zc2 (zP2 a0 a1) 0).bind (λ|.inl z=>zba4 z|.inr z=>some z)
@[reducible,instance] def zey5 a0 a1:=mkJ (zk3 a0 a1) 0 (@zba4.eq_1) λ(j1:Unit)=>⟨[(4,.ptr 0 0 0)],[(0,bx aC.zero)],1⟩
@[reducible,instance] def zey6 (a0:List bA) (a1:aL) {T:Type} (x:T):=mkL x (@zP2.eq_1 a0 a1) λ(g1:Int)=>⟨[(3,.ptr 0 0 0),(4,.ptr 1 0 0),(7,la a0),(8,.int .i64 (a0.length:Int)),(9,.int .i64 g1)],[(0,bx a1),(1,bx aC.zero)],2⟩
instance zdp0(a0:List bA)(a1:aL):OkP (zk3 a0 a1) 283 [la a0,ga a1] (λ r=>ga r):=ok1 (zk3.eq_1 a0 a1) Tryz.f283 []
attribute [local irreducible] zk3
def zaB8(j1:Int×Int):Option (Int×Int):=
 some ((i64.wrap (j1.1+1)),j1.2)
def zM5(a90:(aO->Int->Int->Option (Int×Int)))(a0:aO)(a1:Int)(g1:Int×Int×Int):Option ((Int×Int×Int)⊕((Int×Int)⊕(Int×Int))):=
 (if(decide (g1.2.1<(a0.bE.length:Int)))=true then
  gd (0<=g1.2.1/\g1.2.1<(a0.bE.length:Int))<|
  (a90 (a0.bE.getD g1.2.1.toNat aO.zero) (i64.wrap (a1+1)) g1.2.2).bind λ v1=>
  (if(decide (v1.1=0))=true then
   some (.inr (.inr (0,v1.2)))
  else
   some (.inl ((if g1.1<v1.1 then v1.1 else g1.1),i64.wrap (g1.2.1+1),v1.2)))
 else
  some (.inr (.inl (g1.1,g1.2.2))))
def zH2(a90:(aO->Int->Int->Option (Int×Int)))(a0:aO)(a1 a2:Int):Option (Int×Int):=
 (if(decide (4<a1)||decide (24<i64.wrap (a2+1)))=true then
  some (0,i64.wrap (a2+1))
 else
  (zc2 (zM5 a90 a0 a1) (0,0,i64.wrap (a2+1))).bind (λ|.inl z=>zaB8 z|.inr z=>some z))
def zz8:Nat->(aO->Int->Int->Option (Int×Int))
 |0=>λ _ _ _=>none
 |n+1=>zH2 (zz8 n)
def ze8(a0:aO)(a1 a2:Int):Option (Int×Int):=zz8 (_root_.SizeOf.sizeOf a0+1) a0 a1 a2
@[reducible,instance] def zey7 (a90:(aO->Int->Int->Option (Int×Int))) (a0:aO) (a1 a2:Int):=mkJ (zH2 a90 a0 a1 a2) 0 (@zaB8.eq_1) λ(j1:Int×Int)=>⟨[(7,.int .i64 j1.1)],[(0,⟨false,1,[A.int .i64 0],[[A.int .i64 j1.2]]⟩)],1⟩
@[reducible,instance] def zey8 (a90:(aO->Int->Int->Option (Int×Int))) (a0:aO) (a1:Int) {T:Type} (x:T):=mkL x (@zM5.eq_1 a90 a0 a1) λ(g1:Int×Int×Int)=>⟨[(1,.int .i64 a1),(2,.ptr 0 0 0),(7,.int .i64 g1.1),(25,la a0.bE),(26,.int .i64 (a0.bE.length:Int)),(27,.int .i64 g1.2.1)],[(0,⟨false,1,[A.int .i64 0],[[A.int .i64 g1.2.2]]⟩)],1⟩
abbrev zae0(g:(aO->Int->Int->Option (Int×Int))):Prop:=∀(a0:aO) (a1:Int) (a2:Int),OkM (g a0 a1 a2) 137 [.agg (aO.enc a0),.int .i64 a1,.ptr 0 0 0] [(0,⟨false,1,[A.int .i64 0],[[A.int .i64 a2]]⟩)] 1 (λ r=>.int .i64 r.1) (λ r=>[(0,⟨false,1,[A.int .i64 0],[[A.int .i64 r.2]]⟩)]) 1
theorem zbj4(a90:(aO->Int->Int->Option (Int×Int)))(hrc:zae0 a90):zae0 (zH2 a90):=λ a0 a1 a2=>okm (zH2.eq_1 a90 a0 a1 a2) (λ r=>[.int .i64 r.1]) Tryz.f137 []
theorem zbj5:∀n,zae0 (zz8 n):=zaQ7 (λ _ _ _=>⟨λ _ h=>nomatch h⟩) λ n=>zbj4 _
instance zcu8:zae0 ze8:=λ a0 a1 a2=>zbj5 _ a0 a1 a2
attribute [local irreducible] ze8
def zH6(j1:Unit):Option Int:=
 some (-1)
def zu8(a0:List aJ)(a1:aJ)(g1:Int):Option (Int⊕(Unit⊕Int)):=
 (if(decide (g1<(a0.length:Int)))=true then
  gd (0<=g1/\g1<(a0.length:Int))<|
  (if(decide (a1=a0.getD g1.toNat aJ.zero))=true then
   some (.inr (.inr g1))
  else
   some (.inl (i64.wrap (g1+1))))
 else
  some (.inr (.inl ())))
def za7(a0:List aJ)(a1:aJ):Option Int:=
 (zc2 (zu8 a0 a1) 0).bind (λ|.inl z=>zH6 z|.inr z=>some z)
@[reducible,instance] def zdY5 a0 a1:=mkJ (za7 a0 a1) 0 (@zH6.eq_1) λ(j1:Unit)=>⟨[],[],0⟩
@[reducible,instance] def zdY6 (a0:List aJ) (a1:aJ) {T:Type} (x:T):=mkL x (@zu8.eq_1 a0 a1) λ(g1:Int)=>⟨[(0,la a0),(3,.ptr 0 0 0),(7,.int .i64 (a0.length:Int)),(8,.int .i64 g1)],[(0,bx a1)],1⟩
instance zbz6(a0:List aJ)(a1:aJ):OkP (za7 a0 a1) 209 [la a0,ga a1] (λ r=>.int .i64 r):=ok1 (za7.eq_1 a0 a1) Tryz.f209 []
attribute [local irreducible] za7
def zw7(a0:bH):Bool:=
 ((((decide (a0.aZ=0)&&decide (a0.limit=0))&&decide (a0.bN.k=0))&&decide (a0.bN.bG={aJ.zero with}))&&decide ((a0.bN.bE.length:Int)=0))
instance zcq6(a0:bH):OkT 173 [.agg (bH.enc a0)] (.bool (zw7 a0)):=ok2 (λ r=>.bool r) (zw7.eq_1 a0) Tryz.f173 []
def zb2(a0:List bA):Option (List bA):=
 gd (a0.length<=4294967296)<|
 some a0
theorem zaA3(a0:List bA)(r:(List bA))(h:zb2 a0=some r):PFn C 64 [la a0] (la r):=by
 refine zae9 Tryz.f64 [(5,1)] λ E hG hN hK=>?_;unfold zb2 at h;refine za3 (za8 hG ?_);refine za3 (za3 (za8 hG ?_));intro b hnil;cases b
 · try refine g_st ?_
   refine zbQ6 rfl hG ?_;refine zo1 ?_;refine za3 ?_;obtain⟨hb1,h⟩:=zg8 h;refine za8 hG ?_;refine zx6 ?_;exact zS5 h
 have ha:a0=[]:=jE.1 (hnil rfl);subst ha
 replace h:some []=some r:=by simpa [gd]using h
 try refine g_st ?_
 refine zbe8 rfl hG ?_;refine za3 (za8 hG ?_);refine zx6 ?_;exact zS5 h
instance zbw0(a0:List bA):OkP (zb2 a0) 64 [la a0] (λ r=>la r):=⟨zaA3 a0⟩
attribute [local irreducible] zb2
def zK5(a0:ByteArray):Bool:=
 (((((a0.toList==(⟨#[97,108,108]⟩:ByteArray).toList)||(a0.toList==(⟨#[97,110,121]⟩:ByteArray).toList))||(a0.toList==(⟨#[111,102]⟩:ByteArray).toList))||(a0.toList==(⟨#[112,114,105,111]⟩:ByteArray).toList))||(a0.toList==(⟨#[108,105,109,105,116]⟩:ByteArray).toList))
instance zcU4(a0:ByteArray):OkT 212 [.str a0] (.bool (zK5 a0)):=ok2 (λ r=>.bool r) (zK5.eq_1 a0) Tryz.f212 []
def zr5(a0:aL):Bool:=
 (((((decide (0<=a0.site)&&decide (a0.site<4))&&decide (1<=a0.inc))&&decide (a0.inc<=99))&&decide (1<=a0.num))&&decide (a0.num<=999))
instance zbw1(a0:aL):OkT 117 [.agg (aL.enc a0)] (.bool (zr5 a0)):=ok2 (λ r=>.bool r) (zr5.eq_1 a0) Tryz.f117 []
def zax3(j1:(List aC)):Option (List aC):=
 some j1
def zY2(a0:List bA)(g1:Int×(List aC)):Option ((Int×(List aC))⊕(List aC)):=
 (if(decide (g1.1<(a0.length:Int)))=true then
  gd (0<=g1.1/\g1.1<(a0.length:Int))<|
  gd (g1.2.length+1<=4294967296)<|
  some (.inl ((i64.wrap (g1.1+1)),(g1.2++[(a0.getD g1.1.toNat bA.zero).aM])))
 else
  some (.inr g1.2))
def zh7(a0:List bA):Option (List aC):=
 (zc2 (zY2 a0) (0,[])).bind (λ z=>zax3 z)
@[reducible,instance] def zdY7 a0:=mkJ (zh7 a0) 0 (@zax3.eq_1) λ(j1:(List aC))=>⟨[(3,.own 0 0 j1.length)],[(0,sx j1)],1⟩
@[reducible,instance] def zdY8 (a0:List bA) {T:Type} (x:T):=mkL x (@zY2.eq_1 a0) λ(g1:Int×(List aC))=>⟨[(0,la a0),(3,.own 0 0 g1.2.length),(4,.int .i64 g1.1)],[(0,sx g1.2)],1⟩
instance zda5(a0:List bA):OkP (zh7 a0) 307 [la a0] (λ r=>la r):=ok1 (zh7.eq_1 a0) Tryz.f307 [(3,1)]
attribute [local irreducible] zh7
def zn2(a0:aC):Bool:=
 (decide (a0={aC.zero with}))
instance zcf4(a0:aC):OkT 143 [.agg (aC.enc a0)] (.bool (zn2 a0)):=ok2 (λ r=>.bool r) (zn2.eq_1 a0) Tryz.f143 []
def zbh7(j1:aC):Option aC:=
 some j1
def zaw6(a0:List bC)(a1:ByteArray)(g1:Int×aC):Option ((Int×aC)⊕aC):=
 (if(decide (g1.1<(a0.length:Int)))=true then
  gd (0<=g1.1/\g1.1<(a0.length:Int))<|
  (if(((a0.getD g1.1.toNat bC.zero).name).toList==a1.toList)=true then
   gd (0<=g1.1/\g1.1<(a0.length:Int))<|
   some (.inl ((i64.wrap (g1.1+1)),(a0.getD g1.1.toNat bC.zero).after))
  else
   some (.inl ((i64.wrap (g1.1+1)),g1.2)))
 else
  some (.inr g1.2))
def zj7(a0:List bC)(a1:ByteArray):Option aC:=
 (zc2 (zaw6 a0 a1) (0,aC.zero)).bind (λ z=>zbh7 z)
@[reducible,instance] def zdY9 a0 a1:=mkJ (zj7 a0 a1) 0 (@zbh7.eq_1) λ(j1:aC)=>⟨[(4,.ptr 0 0 0),(5,.ptr 1 0 0)],[(0,bx aC.zero),(1,bx j1)],2⟩
@[reducible,instance] def zdZ0 (a0:List bC) (a1:ByteArray) {T:Type} (x:T):=mkL x (@zaw6.eq_1 a0 a1) λ(g1:Int×aC)=>⟨[(0,la a0),(1,.str a1),(4,.ptr 0 0 0),(5,.ptr 1 0 0),(6,.int .i64 g1.1)],[(0,bx aC.zero),(1,bx g1.2)],2⟩
instance zcf5(a0:List bC)(a1:ByteArray):OkP (zj7 a0 a1) 181 [la a0,.str a1] (λ r=>ga r):=ok1 (zj7.eq_1 a0 a1) Tryz.f181 []
attribute [local irreducible] zj7
def zba5(j1:(List ByteArray)):Option (List ByteArray):=
 some j1
def zaG3(g1:Int×(List ByteArray))(j3:(List ByteArray)):Option ((Int×(List ByteArray))⊕(List ByteArray)):=
 some (.inl ((i64.wrap (g1.1+1)),j3))
def zaf0(g2:Int×(List ByteArray)):Option ((Int×(List ByteArray))⊕(List ByteArray)):=
 gd (decide (0<g2.1)=true->0<=g2.1/\g2.1<((g2.2.length:Nat):Int))<|
 gd (decide (0<g2.1)=true->0<=i64.wrap (g2.1-1)/\i64.wrap (g2.1-1)<((g2.2.length:Nat):Int))<|
 (if(decide (0<g2.1)&&Op.bytesLess (g2.2.getD g2.1.toNat ⟨#[]⟩).toList (g2.2.getD ((i64.wrap (g2.1-1)).toNat) ⟨#[]⟩).toList)=true then
  gd (0<=g2.1/\g2.1<((g2.2.length:Nat):Int))<|
  gd (0<=i64.wrap (g2.1-1)/\i64.wrap (g2.1-1)<((g2.2.length:Nat):Int))<|
  gd (0<=g2.1/\g2.1<((g2.2.length:Nat):Int))<|
  gd (0<=i64.wrap (g2.1-1)/\i64.wrap (g2.1-1)<((g2.2.length:Nat):Int))<|
  some (.inl ((i64.wrap (g2.1-1)),(g2.2.set g2.1.toNat (g2.2.getD ((i64.wrap (g2.1-1)).toNat) ⟨#[]⟩)).set ((i64.wrap (g2.1-1)).toNat) (g2.2.getD g2.1.toNat ⟨#[]⟩)))
 else
  some (.inr g2.2))
def zaf1(a0:List bC)(g1:Int×(List ByteArray))(j2:Bool):Option ((Int×(List ByteArray))⊕(List ByteArray)):=
 (if j2=true then
  some (.inl ((i64.wrap (g1.1+1)),g1.2))
 else
  gd (0<=g1.1/\g1.1<(a0.length:Int))<|
  gd (g1.2.length+1<=4294967296)<|
  (zc2 zaf0 ((i64.wrap (((g1.2.length+1:Nat):Int)-1)),(g1.2++[(a0.getD g1.1.toNat bC.zero).name]))).bind (λ z=>zaG3 g1 z))
def zaf2(a0:List bC)(g1:Int×(List ByteArray))(g3:Bool×Int):Option ((Bool×Int)⊕Bool):=
 (if(decide (g3.2<((g1.2.length:Nat):Int)))=true then
  gd ((!g3.1)=true->0<=g3.2/\g3.2<((g1.2.length:Nat):Int))<|
  gd ((!g3.1)=true->0<=g1.1/\g1.1<(a0.length:Int))<|
  some (.inl ((g3.1||((g1.2.getD g3.2.toNat ⟨#[]⟩).toList==((a0.getD g1.1.toNat bC.zero).name).toList)),i64.wrap (g3.2+1)))
 else
  some (.inr g3.1))
def zaf3(a0:List bC)(g1:Int×(List ByteArray)):Option ((Int×(List ByteArray))⊕(List ByteArray)):=
 (if(decide (g1.1<(a0.length:Int)))=true then
  (zc2 (zaf2 a0 g1) (false,0)).bind (λ z=>zaf1 a0 g1 z)
 else
  some (.inr g1.2))
def zj3(a0:List bC):Option (List ByteArray):=
 (zc2 (zaf3 a0) (0,[])).bind (λ z=>zba5 z)
@[reducible,instance] def zdZ1 a0:=mkJ (zj3 a0) 0 (@zba5.eq_1) λ(j1:(List ByteArray))=>⟨[(3,.own 0 0 j1.length)],[(0,⟨false,1,[A.str ⟨#[]⟩],j1.map eS⟩)],1⟩
@[reducible,instance] def zdZ2 (a0:List bC) (g1:Int×(List ByteArray)) j2:=mkJ (zaf1 a0 g1 j2) 4 (@zaG3.eq_1 g1) λ(j3:(List ByteArray))=>⟨[(0,la a0),(3,.own 0 0 j3.length),(4,.int .i64 g1.1)],[(0,⟨false,1,[A.str ⟨#[]⟩],j3.map eS⟩)],1⟩
@[reducible,instance] def zdZ3 (a0:List bC) (g1:Int×(List ByteArray)) j2:=mkL (zaf1 a0 g1 j2) (@zaf0.eq_1) λ(g2:Int×(List ByteArray))=>⟨[(0,la a0),(3,.own 0 0 g2.2.length),(4,.int .i64 g1.1),(7,.int .i64 g2.1)],[(0,⟨false,1,[A.str ⟨#[]⟩],g2.2.map eS⟩)],1⟩
@[reducible,instance] def zdZ4 (a0:List bC) (g1:Int×(List ByteArray)):=mkJ (zaf3 a0 g1) 2 (@zaf1.eq_1 a0 g1) λ(j2:Bool)=>⟨[(0,la a0),(3,.own 0 0 g1.2.length),(4,.int .i64 g1.1),(5,.bool j2)],[(0,⟨false,1,[A.str ⟨#[]⟩],g1.2.map eS⟩)],1⟩
@[reducible,instance] def zdZ5 (a0:List bC) (g1:Int×(List ByteArray)) {T:Type} (x:T):=mkL x (@zaf2.eq_1 a0 g1) λ(g3:Bool×Int)=>⟨[(0,la a0),(3,.own 0 0 g1.2.length),(4,.int .i64 g1.1),(5,.bool g3.1),(6,.int .i64 g3.2)],[(0,⟨false,1,[A.str ⟨#[]⟩],g1.2.map eS⟩)],1⟩
@[reducible,instance] def zdZ6 (a0:List bC) {T:Type} (x:T):=mkL x (@zaf3.eq_1 a0) λ(g1:Int×(List ByteArray))=>⟨[(0,la a0),(3,.own 0 0 g1.2.length),(4,.int .i64 g1.1)],[(0,⟨false,1,[A.str ⟨#[]⟩],g1.2.map eS⟩)],1⟩
instance zbV9(a0:List bC):OkP (zj3 a0) 183 [la a0] (λ r=>.sl (r.map eS)):=ok1 (zj3.eq_1 a0) Tryz.f183 [(3,1)]
attribute [local irreducible] zj3
def zbh8(j1:Unit):Option Int:=
 some (-1)
def zaw7(a0:List aB)(a1:ByteArray)(g1:Int):Option (Int⊕(Unit⊕Int)):=
 (if(decide (g1<(a0.length:Int)))=true then
  gd (0<=g1/\g1<(a0.length:Int))<|
  (if((((a0.getD g1.toNat aB.zero).aA).name).toList==a1.toList)=true then
   some (.inr (.inr g1))
  else
   some (.inl (i64.wrap (g1+1))))
 else
  some (.inr (.inl ())))
def zi8(a0:List aB)(a1:ByteArray):Option Int:=
 (zc2 (zaw7 a0 a1) 0).bind (λ|.inl z=>zbh8 z|.inr z=>some z)
@[reducible,instance] def zdZ7 a0 a1:=mkJ (zi8 a0 a1) 0 (@zbh8.eq_1) λ(j1:Unit)=>⟨[],[],0⟩
@[reducible,instance] def zdZ8 (a0:List aB) (a1:ByteArray) {T:Type} (x:T):=mkL x (@zaw7.eq_1 a0 a1) λ(g1:Int)=>⟨[(0,la a0),(1,.str a1),(5,.int .i64 g1)],[],0⟩
instance zbt5(a0:List aB)(a1:ByteArray):OkP (zi8 a0 a1) 88 [la a0,.str a1] (λ r=>.int .i64 r):=ok1 (zi8.eq_1 a0 a1) Tryz.f88 []
attribute [local irreducible] zi8
def zaN8(j1:Unit):Option Bool:=
 some true
def zau3(a90:(aO->aO->Option Bool))(a0 a1:aO)(g1:Int):Option (Int⊕(Unit⊕Bool)):=
 (if(decide (g1<(a0.bE.length:Int)))=true then
  gd (0<=g1/\g1<(a0.bE.length:Int))<|
  gd (0<=g1/\g1<(a1.bE.length:Int))<|
  (a90 (a0.bE.getD g1.toNat aO.zero) (a1.bE.getD g1.toNat aO.zero)).bind λ v1=>
  (if(!v1)=true then
   some (.inr (.inr false))
  else
   some (.inl (i64.wrap (g1+1))))
 else
  some (.inr (.inl ())))
def zP3(a90:(aO->aO->Option Bool))(a0 a1:aO):Option Bool:=
 (if(((!decide (a0.k=a1.k))||(!decide (a0.bG=a1.bG)))||(!decide ((a0.bE.length:Int)=(a1.bE.length:Int))))=true then
  some false
 else
  (zc2 (zau3 a90 a0 a1) 0).bind (λ|.inl z=>zaN8 z|.inr z=>some z))
def zam0:Nat->(aO->aO->Option Bool)
 |0=>λ _ _=>none
 |n+1=>zP3 (zam0 n)
def zh4(a0 a1:aO):Option Bool:=zam0 (_root_.SizeOf.sizeOf a0+1) a0 a1
@[reducible,instance] def zdZ9 (a90:(aO->aO->Option Bool)) (a0 a1:aO):=mkJ (zP3 a90 a0 a1) 0 (@zaN8.eq_1) λ(j1:Unit)=>⟨[],[],0⟩
@[reducible,instance] def zea0 (a90:(aO->aO->Option Bool)) (a0 a1:aO) {T:Type} (x:T):=mkL x (@zau3.eq_1 a90 a0 a1) λ(g1:Int)=>⟨[(2,.ptr 0 0 0),(3,.ptr 1 0 0),(5,.int .i64 g1)],[(0,bx a0),(1,bx a1)],2⟩
abbrev zar4(g:(aO->aO->Option Bool)):Prop:=∀(a0:aO) (a1:aO),OkP (g a0 a1) 60 [.agg (aO.enc a0),.agg (aO.enc a1)] (λ r=>.bool r)
theorem zbw2(a90:(aO->aO->Option Bool))(hrc:zar4 a90):zar4 (zP3 a90):=λ a0 a1=>ok1 (zP3.eq_1 a90 a0 a1) Tryz.f60 []
theorem zbw3:∀n,zar4 (zam0 n):=zaQ7 (λ _ _=>⟨λ _ h=>nomatch h⟩) λ n=>zbw2 _
instance zcU5:zar4 zh4:=λ a0 a1=>zbw3 _ a0 a1
attribute [local irreducible] zh4
def zk4(a0:aV):Option aV:=
 gd (a0.aI.length<=4294967296)<|
 gd (a0.aG.length<=4294967296)<|
 some a0
theorem zbF2(a0 r:aV)(h:zk4 a0=some r):MFn C 132 [ga a0] [] 0 (.agg [.int .i64 r.now,.own 0 0 r.aI.length,.own 1 0 r.aG.length]) [(0,sx r.aI),(1,sx r.aG)] 2:=by refine zaK6 Tryz.f132 [(3,1),(8,1)] [.agg [.int .i64 r.now,.own 0 0 r.aI.length,.own 1 0 r.aG.length]] λ E hG hN hK=>?_;unfold zk4 at h;refine za3 (za8 hG ?_);refine za3 ?_;obtain⟨hb2,h⟩:=zg8 h;refine za8 hG ?_;refine za3 ?_;obtain⟨hb1,h⟩:=zg8 h;refine za8 hG ?_;refine za3 (za8 hG ?_);refine zx6 ?_;exact zV5 [(0,3),(1,5)] h
attribute [local irreducible] zk4
def zd0(a0:List aB)(a1:List bJ)(a2:bB):Option (Int×(List aB)×(List aF)×(List bJ)):=
 gd (a2.ev.length+a1.length<=4294967296)<|
 some (a2.c.now,a0,a2.c.aG,(a2.ev++a1))
instance zbj6(a0:List aB)(a1:List bJ)(a2:bB):OkM (zd0 a0 a1 a2) 248 [.ptr 0 0 0,la a0,la a1] [(0,⟨false,4,bB.enc bB.zero,[[.int .i64 a2.c.now,la a2.c.aI,.own 1 0 a2.c.aG.length,.own 2 0 a2.ev.length]]⟩),(1,sx a2.c.aG),(2,sx a2.ev)] 3 (λ r=>.tup []) (λ r=>[(0,⟨false,4,bB.enc bB.zero,[[.int .i64 r.1,la r.2.1,.own 1 0 r.2.2.1.length,.own 3 0 r.2.2.2.length]]⟩),(1,sx r.2.2.1),(3,sx r.2.2.2)]) 4:=okm (zd0.eq_1 a0 a1 a2) (λ r=>[]) Tryz.f248 []
attribute [local irreducible] zd0
def zd9(a0:Int)(a1:bB):Option (Int×(List aB)×(List aF)×(List bJ)):=
 gd (0<=a0/\a0<((a1.c.aG.length:Nat):Int))<|
 gd (0<=a0/\a0<((a1.c.aG.length:Nat):Int))<|
 gd (0<=a0/\a0<((a1.c.aG.length:Nat):Int))<|
 some (a1.c.now,a1.c.aI,((a1.c.aG.set a0.toNat ({(a1.c.aG.getD a0.toNat aF.zero)with bF:=false})).set a0.toNat ({((a1.c.aG.set a0.toNat ({(a1.c.aG.getD a0.toNat aF.zero)with bF:=false})).getD a0.toNat aF.zero)with aR:={bH.zero with}})).set a0.toNat ({(((a1.c.aG.set a0.toNat ({(a1.c.aG.getD a0.toNat aF.zero)with bF:=false})).set a0.toNat ({((a1.c.aG.set a0.toNat ({(a1.c.aG.getD a0.toNat aF.zero)with bF:=false})).getD a0.toNat aF.zero)with aR:={bH.zero with}})).getD a0.toNat aF.zero)with since:=0}),a1.ev)
instance zcu9(a0:Int)(a1:bB):OkM (zd9 a0 a1) 250 [.ptr 0 0 0,.int .i64 a0] [(0,⟨false,4,bB.enc bB.zero,[[.int .i64 a1.c.now,la a1.c.aI,.own 1 0 a1.c.aG.length,.own 2 0 a1.ev.length]]⟩),(1,sx a1.c.aG),(2,sx a1.ev)] 3 (λ r=>.tup []) (λ r=>[(0,⟨false,4,bB.enc bB.zero,[[.int .i64 r.1,la r.2.1,.own 1 0 r.2.2.1.length,.own 2 0 r.2.2.2.length]]⟩),(1,sx r.2.2.1),(2,sx r.2.2.2)]) 3:=okm (zd9.eq_1 a0 a1) (λ r=>[]) Tryz.f250 []
attribute [local irreducible] zd9
def zj9(a0:aB):Option aB:=
 gd (a0.aP.length<=4294967296)<|
 gd (a0.aN.length<=4294967296)<|
 gd (a0.aT.length<=4294967296)<|
 some a0
theorem zbF3(a0 r:aB)(h:zj9 a0=some r):MFn C 310 [ga a0] [] 0 (.agg [.str r.aA.name,.int .i64 r.aA.kind,.int .i64 r.aA.aS,.int .i64 r.aA.home,.own 0 0 r.aP.length,.own 1 0 r.aN.length,.own 2 0 r.aT.length,.int .i64 r.gen]) [(0,sx r.aP),(1,sx r.aN),(2,sx r.aT)] 3:=by refine zaK6 Tryz.f310 [(3,1),(8,1),(13,1)] [.agg [.str r.aA.name,.int .i64 r.aA.kind,.int .i64 r.aA.aS,.int .i64 r.aA.home,.own 0 0 r.aP.length,.own 1 0 r.aN.length,.own 2 0 r.aT.length,.int .i64 r.gen]] λ E hG hN hK=>?_;unfold zj9 at h;refine za3 (za8 hG ?_);refine za3 ?_;obtain⟨hb3,h⟩:=zg8 h;refine za8 hG ?_;refine za3 ?_;obtain⟨hb2,h⟩:=zg8 h;refine za8 hG ?_;refine za3 ?_;obtain⟨hb1,h⟩:=zg8 h;refine za8 hG ?_;refine za3 (za8 hG ?_);refine zx6 ?_;exact zV5 [(0,3),(1,5),(2,7)] h
attribute [local irreducible] zj9
end
end Ab
end Go.Proofs.YtenebhlnfjcffaaGreatDoor
