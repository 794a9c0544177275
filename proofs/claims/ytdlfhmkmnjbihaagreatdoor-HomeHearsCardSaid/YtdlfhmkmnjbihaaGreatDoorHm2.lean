import Derived.Test.YtdlfhmkmnjbihaaGreatDoorAuto
namespace Go.Proofs.YtdlfhmkmnjbihaaGreatDoor
namespace Ab
open IntKind (i64 u64 u8)
set_option linter.unusedSimpArgs false
set_option linter.defProp false
set_option linter.unusedVariables false
set_option maxRecDepth 100000
set_option maxHeartbeats 1000000
noncomputable section
def zbm1(j1:Unit):Option Bool:=
 some true
def zaA6(a90:(aZ->Int->Option Bool))(a0:aZ)(a1 g1:Int):Option (Int⊕(Unit⊕Bool)):=
 (if(decide (g1<(a0.bE.length:Int)))=true then
  gd (0<=g1/\g1<(a0.bE.length:Int))<|
  (a90 (a0.bE.getD g1.toNat aZ.zero) (i64.wrap (a1-1))).bind λ v1=>
  (if(!v1)=true then
   some (.inr (.inr false))
  else
   some (.inl (i64.wrap (g1+1))))
 else
  some (.inr (.inl ())))
def zaj1(a90:(aZ->Int->Option Bool))(a0:aZ)(a1:Int):Option Bool:=
 (if(decide (a1=0)||decide (10<(a0.bE.length:Int)))=true then
  some false
 else
  (zc1 (zaA6 a90 a0 a1) 0).bind (λ|.inl z=>zbm1 z|.inr z=>some z))
def zY1:Nat->(aZ->Int->Option Bool)
 |0=>λ _ _=>none
 |n+1=>zaj1 (zY1 n)
def zo3(a0:aZ)(a1:Int):Option Bool:=zY1 (_root_.SizeOf.sizeOf a0+1) a0 a1
@[reducible,instance] def zeH4 (a90:(aZ->Int->Option Bool)) (a0:aZ) (a1:Int):=mkJ (zaj1 a90 a0 a1) 0 (@zbm1.eq_1) λ(j1:Unit)=>⟨[],[],0⟩
@[reducible,instance] def zeH5 (a90:(aZ->Int->Option Bool)) (a0:aZ) (a1:Int) {T:Type} (x:T):=mkL x (@zaA6.eq_1 a90 a0 a1) λ(g1:Int)=>⟨[(1,.int .i64 a1),(2,.ptr 0 0 0),(5,.int .i64 g1)],[(0,bx a0)],1⟩
abbrev zaU4(g:(aZ->Int->Option Bool)):Prop:=∀(a0:aZ) (a1:Int),OkP (g a0 a1) 49 [.agg (aZ.enc a0),.int .i64 a1] (λ r=>.bool r)
theorem zcn0(a90:(aZ->Int->Option Bool))(hrc:zaU4 a90):zaU4 (zaj1 a90):=λ a0 a1=>ok1 (zaj1.eq_1 a90 a0 a1) Tryz.f49 []
theorem zcn1:∀n,zaU4 (zY1 n):=zbl7 (λ _ _=>⟨λ _ h=>nomatch h⟩) λ n=>zcn0 _
instance zdM3:zaU4 zo3:=λ a0 a1=>zcn1 _ a0 a1
attribute [local irreducible] zo3
def zaZ6:List aD:=[(⟨(⟨#[97]⟩:ByteArray),1,1,1⟩:aD)]
def zag2:(List aD):=
 zaZ6
theorem zcn2:PFn C 31 [] (la zag2):=by generalize h:zag2=r;refine zW4 Tryz.f31 [] λ E hG hN hK=>?_;have hm:Mk zag2:=trivial;unfold zag2 at h;refine za0 (za1 hG ?_);refine za0 (za1 hG ?_);refine g_gh (.cast 0 (.full (zaZ6.map aD.enc))) ?_;refine g_gh (.unfs 0) ?_;exact gogo
instance zdw4:OkT 31 [] (.sl ((zag2).map aD.enc)):=⟨zcn2⟩
def zv2(a0:Int):Bool:=
 (decide (1<=a0)&&decide (a0<=5))
instance zdG5(a0:Int):OkT 248 [.int .i64 a0] (.bool (zv2 a0)):=ok2 (λ r=>.bool r) (zv2.eq_1 a0) Tryz.f248 []
def zM6(a0:List aF)(j1:Unit):Option ((List aF)×(List aF)):=
 some (a0,a0)
def zC2(j2:Int×(List aF)):Option (Int⊕(Unit⊕((List aF)×(List aF)))):=
 gd (0<=j2.1/\j2.1<=((j2.2.length:Nat):Int)/\((j2.2.length:Nat):Int)<=((j2.2.length:Nat):Int))<|
 gd (0<=0/\0<=j2.1/\j2.1<=((j2.2.length:Nat):Int))<|
 some (.inr (.inr ((((j2.2.take j2.1.toNat++List.replicate (j2.2.length-j2.1.toNat) aF.zero++j2.2.drop (j2.1.toNat+(j2.2.length-j2.1.toNat))).drop 0).take j2.1.toNat),(j2.2.take j2.1.toNat++List.replicate (j2.2.length-j2.1.toNat) aF.zero++j2.2.drop (j2.1.toNat+(j2.2.length-j2.1.toNat))))))
def zx1(a0:List aF)(g1:Int)(g2:Int×Int×(List aF)):Option ((Int×Int×(List aF))⊕(Int×(List aF))):=
 (if(decide (g2.2.1<(((a0.length-g1.toNat):Nat):Int)))=true then
  gd (0<=g2.2.1/\g2.2.1<(((a0.length-g1.toNat):Nat):Int)/\g1.toNat+(a0.length-g1.toNat)<=g2.2.2.length)<|
  gd (0<=i64.wrap (g2.2.1-1)/\i64.wrap (g2.2.1-1)<(((a0.length-g1.toNat):Nat):Int)/\g1.toNat+(a0.length-g1.toNat)<=g2.2.2.length)<|
  (if(!decide (g2.2.2.getD (g1.toNat+g2.2.1.toNat) aF.zero=g2.2.2.getD (g1.toNat+(i64.wrap (g2.2.1-1)).toNat) aF.zero))=true then
   gd (0<=g2.2.1/\g2.2.1<(((a0.length-g1.toNat):Nat):Int)/\g1.toNat+(a0.length-g1.toNat)<=g2.2.2.length)<|
   gd (0<=g2.1/\g2.1<((g2.2.2.length:Nat):Int))<|
   some (.inl ((i64.wrap (g2.1+1)),i64.wrap (g2.2.1+1),g2.2.2.set g2.1.toNat (g2.2.2.getD (g1.toNat+g2.2.1.toNat) aF.zero)))
  else
   some (.inl (g2.1,i64.wrap (g2.2.1+1),g2.2.2)))
 else
  some (.inr (g2.1,g2.2.2)))
def zu5(a0:List aF)(g1:Int):Option (Int⊕(Unit⊕((List aF)×(List aF)))):=
 (if(decide (g1<((a0.length:Nat):Int)))=true then
  gd (0<=g1/\g1<((a0.length:Nat):Int))<|
  gd (0<=i64.wrap (g1-1)/\i64.wrap (g1-1)<((a0.length:Nat):Int))<|
  (if(decide (a0.getD g1.toNat aF.zero=a0.getD ((i64.wrap (g1-1)).toNat) aF.zero))=true then
   gd (0<=g1/\g1<=((a0.length:Nat):Int)/\((a0.length:Nat):Int)<=((a0.length:Nat):Int))<|
   (zc1 (zx1 a0 g1) (g1,1,a0)).bind (λ z=>zC2 z)
  else
   some (.inl (i64.wrap (g1+1))))
 else
  some (.inr (.inl ())))
def za2(a0:List aF):Option ((List aF)×(List aF)):=
 (if(decide (((a0.length:Nat):Int)<2))=true then
  some (a0,a0)
 else
  (zc1 (zu5 a0) 1).bind (λ|.inl z=>zM6 a0 z|.inr z=>some z))
@[reducible,instance] def zej7 (a0:List aF):=mkJ (za2 a0) 0 (@zM6.eq_1 a0) λ(j1:Unit)=>⟨[(0,.own 0 0 a0.length)],[(0,sx a0)],1⟩
@[reducible,instance] def zej8 (a0:List aF) (g1:Int):=mkJ (zu5 a0 g1) 2 (@zC2.eq_1) λ(j2:Int×(List aF))=>⟨[(0,.own 0 0 j2.2.length),(3,.int .i64 j2.1)],[(0,sx j2.2)],1⟩
@[reducible,instance] def zej9 (a0:List aF) (g1:Int) {T:Type} (x:T):=mkL x (@zx1.eq_1 a0 g1) λ(g2:Int×Int×(List aF))=>⟨[(0,.own 0 0 g2.2.2.length),(3,.int .i64 g2.1),(4,.own 0 g1.toNat (a0.length-g1.toNat)),(5,.int .i64 g2.2.1)],[(0,sx g2.2.2)],1⟩
@[reducible,instance] def zek0 (a0:List aF) {T:Type} (x:T):=mkL x (@zu5.eq_1 a0) λ(g1:Int)=>⟨[(0,.own 0 0 a0.length),(3,.int .i64 g1)],[(0,sx a0)],1⟩
instance zam9(a0:List aF):OkM (za2 a0) 135 [.own 0 0 a0.length] [(0,sx a0)] 1 (λ r=>la r.1) (λ r=>[(0,⟨true,3,aF.enc aF.zero,r.2.map aF.enc⟩)]) 1:=⟨λ r h=>by
 refine zU4 Tryz.f135 [] [la r.1] λ E hG hN hK=>?_;have hm:Mk (za2 a0):=trivial;unfold za2 at h;refine za0 (za1 hG ?_);refine za0 (za0 (za1 hG ?_));refine zh9 rfl hG h (λ _ h=>?_) (λ _ h=>?_)
 · refine za0 (za1 hG ?_)
   refine g_gh (.fz [0]) ?_;exact gogo
 refine zh7 ?_;refine za0 (za0 (za1 hG ?_));refine zaJ2 hm h (λ j1 hm h=>?_) ?_
 · try refine g_st ?_
   refine za0 (za1 hG ?_);refine g_gh (.fz [0]) ?_;exact gogo
 refine zdM0 hm hK [(0,0)] h (λ g1 y hm kx h=>?_)
 try refine g_st ?_
 refine za0 (za0 (za1 hG ?_));refine zh9 rfl hG h (λ _ h=>?_) (λ _ h=>?_)
 · refine zh7 ?_
   refine za0 (zy9 (za0 ?_));obtain⟨hb8,h⟩:=zg4 h;obtain⟨hb9,h⟩:=zg4 h;refine zby9 zK6 hG ?_;refine zh9 rfl hG h (λ _ h=>?_) (λ _ h=>?_)
   · refine za0 ?_
     obtain⟨hb7,h⟩:=zg4 h;refine za1 hG ?_;refine za0 (za0 (za1 hG ?_));refine zaJ2 hm h (λ j2 hm h=>?_) ?_
     · try refine g_st ?_
       refine za0 ?_;obtain⟨hb2,h⟩:=zg4 h;refine za1 hG ?_;refine za0 ?_;obtain⟨hb1,h⟩:=zg4 h;refine za1 hG ?_;refine g_gh (.fz [0]) ?_;exact gogo
     exact gogo
   exact gogo
 exact gogo⟩
attribute [local irreducible] za2
def zaU5(j1:Unit):Option (Int×Bool):=
 some (0,false)
def zal2(a0:List bF)(a1:aF)(a2:ByteArray)(g1:Int):Option (Int⊕(Unit⊕(Int×Bool))):=
 (if(decide (g1<(a0.length:Int)))=true then
  gd (0<=g1/\g1<(a0.length:Int))<|
  (if(decide (a0.getD g1.toNat bF.zero=(⟨a1,a2,(a0.getD g1.toNat bF.zero).gen⟩:bF)))=true then
   some (.inr (.inr ((a0.getD g1.toNat bF.zero).gen,true)))
  else
   some (.inl (i64.wrap (g1+1))))
 else
  some (.inr (.inl ())))
def zg8(a0:List bF)(a1:aF)(a2:ByteArray):Option (Int×Bool):=
 (zc1 (zal2 a0 a1 a2) 0).bind (λ|.inl z=>zaU5 z|.inr z=>some z)
@[reducible,instance] def zek1 a0 a1 a2:=mkJ (zg8 a0 a1 a2) 0 (@zaU5.eq_1) λ(j1:Unit)=>⟨[],[],0⟩
@[reducible,instance] def zek2 (a0:List bF) (a1:aF) (a2:ByteArray) {T:Type} (x:T):=mkL x (@zal2.eq_1 a0 a1 a2) λ(g1:Int)=>⟨[(2,.str a2),(4,.ptr 0 0 0),(10,la a0),(11,.int .i64 (a0.length:Int)),(12,.int .i64 g1)],[(0,bx a1)],1⟩
instance zdp7(a0:List bF)(a1:aF)(a2:ByteArray):OkP (zg8 a0 a1 a2) 44 [la a0,ga a1,.str a2] (λ r=>.tup [.int .i64 r.1,.bool r.2]):=ok1 (zg8.eq_1 a0 a1 a2) Tryz.f44 []
attribute [local irreducible] zg8
def zav4(a0:Int):Bool:=
 (decide (1<=a0)&&decide (a0<=15))
instance zbK8(a0:Int):OkT 139 [.int .i64 a0] (.bool (zav4 a0)):=ok2 (λ r=>.bool r) (zav4.eq_1 a0) Tryz.f139 []
def zg6(a0:aA):Option aA:=
 gd (a0.aL.length<=4294967296)<|
 gd (a0.aH.length<=4294967296)<|
 gd (a0.aU.length<=4294967296)<|
 some a0
theorem zbF4(a0 r:aA)(h:zg6 a0=some r):MFn C 202 [ga a0] [] 0 (.agg [.str r.aB.name,.int .i64 r.aB.kind,.int .i64 r.aB.aV,.int .i64 r.aB.home,.own 0 0 r.aL.length,.own 1 0 r.aH.length,.own 2 0 r.aU.length,.int .i64 r.gen]) [(0,sx r.aL),(1,sx r.aH),(2,sx r.aU)] 3:=by refine zU4 Tryz.f202 [] [.agg [.str r.aB.name,.int .i64 r.aB.kind,.int .i64 r.aB.aV,.int .i64 r.aB.home,.own 0 0 r.aL.length,.own 1 0 r.aH.length,.own 2 0 r.aU.length,.int .i64 r.gen]] λ E hG hN hK=>?_;unfold zg6 at h;refine za0 (za1 hG ?_);refine za0 ?_;obtain⟨hb3,h⟩:=zg4 h;refine za1 hG ?_;refine za0 ?_;obtain⟨hb2,h⟩:=zg4 h;refine za1 hG ?_;refine za0 ?_;obtain⟨hb1,h⟩:=zg4 h;refine za1 hG ?_;refine za0 (za1 hG ?_);refine zm8 ?_;exact zx8 [(0,2),(1,3),(2,4)] h
attribute [local irreducible] zg6
def zC9(a0:aK)(a1:aC)(a2:Bool):bD:=
 (⟨a0.aI.site,{aK.zero with kind:=3,aI:=a0.aI,gen:=a0.gen,aW:=(⟨a0.aW.name,a1⟩:aO),done:=a2}⟩:bD)
instance zcc5(a0:aK)(a1:aC)(a2:Bool):OkT 95 [.agg (aK.enc a0),.agg (aC.enc a1),.bool a2] (.agg (bD.enc (zC9 a0 a1 a2))):=ok2 (λ r=>.agg (bD.enc r)) (zC9.eq_1 a0 a1 a2) Tryz.f95 []
def za5(a0:List aT):Option (List aT):=
 gd (a0.length<=4294967296)<|
 some a0
theorem zay8(a0:List aT)(r:(List aT))(h:za5 a0=some r):PFn C 151 [la a0] (la r):=by
 refine zW4 Tryz.f151 [(5,1)] λ E hG hN hK=>?_;unfold za5 at h;refine za0 (za1 hG ?_);refine za0 (za0 (za1 hG ?_));intro b hnil;cases b
 · try refine g_st ?_
   refine zaH9 rfl hG ?_;refine zh7 ?_;refine za0 ?_;obtain⟨hb1,h⟩:=zg4 h;refine za1 hG ?_;refine zm8 ?_;exact zy2 h
 have ha:a0=[]:=gZ.1 (hnil rfl);subst ha
 replace h:some []=some r:=by simpa [gd]using h
 try refine g_st ?_
 refine zac1 rfl hG ?_;refine za0 (za1 hG ?_);refine zm8 ?_;exact zy2 h
instance zbz0(a0:List aT):OkP (za5 a0) 151 [la a0] (λ r=>la r):=⟨zay8 a0⟩
attribute [local irreducible] za5
def zaP7(j1:(List aY)):Option (List aY):=
 some j1
def zaP8(a0:ByteArray)(a1:List aT)(g1:Int×(List aY)):Option ((Int×(List aY))⊕(List aY)):=
 (if(decide (g1.1<(a1.length:Int)))=true then
  gd (0<=g1.1/\g1.1<(a1.length:Int))<|
  gd (g1.2.length+1<=4294967296)<|
  some (.inl ((i64.wrap (g1.1+1)),(g1.2++[(⟨1,(a1.getD g1.1.toNat aT.zero).aI,a0,(a1.getD g1.1.toNat aT.zero).aJ⟩:aY)])))
 else
  some (.inr g1.2))
def zf6(a0:ByteArray)(a1:List aT)(a2:List aY):Option (List aY):=
 (zc1 (zaP8 a0 a1) (0,a2)).bind (λ z=>zaP7 z)
@[reducible,instance] def zek3 a0 a1 a2:=mkJ (zf6 a0 a1 a2) 0 (@zaP7.eq_1) λ(j1:(List aY))=>⟨[(2,.own 1 0 j1.length)],[(1,sx j1)],2⟩
@[reducible,instance] def zek4 (a0:ByteArray) (a1:List aT) {T:Type} (x:T):=mkL x (@zaP8.eq_1 a0 a1) λ(g1:Int×(List aY))=>⟨[(0,.str a0),(2,.own 1 0 g1.2.length),(9,la a1),(10,.int .i64 (a1.length:Int)),(11,.int .i64 g1.1)],[(1,sx g1.2)],2⟩
instance zdb6(a0:ByteArray)(a1:List aT)(a2:List aY):OkM (zf6 a0 a1 a2) 149 [.str a0,la a1,.own 0 0 a2.length] [(0,sx a2)] 1 (λ r=>.own 1 0 r.length) (λ r=>[(1,sx r)]) 2:=okm (zf6.eq_1 a0 a1 a2) (λ r=>[.own 1 0 r.length]) Tryz.f149 [(6,1)]
attribute [local irreducible] zf6
def zl9(a0:aF):Bool:=
 (((((decide (0<=a0.site)&&decide (a0.site<4))&&decide (1<=a0.inc))&&decide (a0.inc<=99))&&decide (1<=a0.num))&&decide (a0.num<=999))
instance zbz1(a0:aF):OkT 46 [.agg (aF.enc a0)] (.bool (zl9 a0)):=ok2 (λ r=>.bool r) (zl9.eq_1 a0) Tryz.f46 []
def zM8(a0 a1:Int):Int:=
 (if(decide (a0<a1))=true then
  (-1)
 else
  (if(decide (a1<a0))=true then
   1
  else
   0))
instance zdw5(a0 a1:Int):OkT 138 [.int .i64 a0,.int .i64 a1] (.int .i64 (zM8 a0 a1)):=ok2 (λ r=>.int .i64 r) (zM8.eq_1 a0 a1) Tryz.f138 []
def zaw9(j1:Unit):Option Bool:=
 some false
def zU6(a0:List aF)(a1:aF)(g1:Int):Option (Int⊕(Unit⊕Bool)):=
 (if(decide (g1<(a0.length:Int)))=true then
  gd (0<=g1/\g1<(a0.length:Int))<|
  (if(decide (a0.getD g1.toNat aF.zero=a1))=true then
   some (.inr (.inr true))
  else
   some (.inl (i64.wrap (g1+1))))
 else
  some (.inr (.inl ())))
def ze4(a0:List aF)(a1:aF):Option Bool:=
 (zc1 (zU6 a0 a1) 0).bind (λ|.inl z=>zaw9 z|.inr z=>some z)
@[reducible,instance] def zek5 a0 a1:=mkJ (ze4 a0 a1) 0 (@zaw9.eq_1) λ(j1:Unit)=>⟨[],[],0⟩
@[reducible,instance] def zek6 (a0:List aF) (a1:aF) {T:Type} (x:T):=mkL x (@zU6.eq_1 a0 a1) λ(g1:Int)=>⟨[(0,la a0),(3,.ptr 0 0 0),(5,.int .i64 g1)],[(0,bx a1)],1⟩
instance zdi4(a0:List aF)(a1:aF):OkP (ze4 a0 a1) 111 [la a0,ga a1] (λ r=>.bool r):=ok1 (ze4.eq_1 a0 a1) Tryz.f111 []
attribute [local irreducible] ze4
def zat5(j1:Unit):Option Bool:=
 some true
def zac3(a90:(aZ->aZ->Option Bool))(a0 a1:aZ)(g1:Int):Option (Int⊕(Unit⊕Bool)):=
 (if(decide (g1<(a0.bE.length:Int)))=true then
  gd (0<=g1/\g1<(a0.bE.length:Int))<|
  gd (0<=g1/\g1<(a1.bE.length:Int))<|
  (a90 (a0.bE.getD g1.toNat aZ.zero) (a1.bE.getD g1.toNat aZ.zero)).bind λ v1=>
  (if(!v1)=true then
   some (.inr (.inr false))
  else
   some (.inl (i64.wrap (g1+1))))
 else
  some (.inr (.inl ())))
def zL4(a90:(aZ->aZ->Option Bool))(a0 a1:aZ):Option Bool:=
 (if(((!decide (a0.k=a1.k))||(!decide (a0.aW=a1.aW)))||(!decide ((a0.bE.length:Int)=(a1.bE.length:Int))))=true then
  some false
 else
  (zc1 (zac3 a90 a0 a1) 0).bind (λ|.inl z=>zat5 z|.inr z=>some z))
def zY2:Nat->(aZ->aZ->Option Bool)
 |0=>λ _ _=>none
 |n+1=>zL4 (zY2 n)
def zg3(a0 a1:aZ):Option Bool:=zY2 (_root_.SizeOf.sizeOf a0+1) a0 a1
@[reducible,instance] def zek7 (a90:(aZ->aZ->Option Bool)) (a0 a1:aZ):=mkJ (zL4 a90 a0 a1) 0 (@zat5.eq_1) λ(j1:Unit)=>⟨[],[],0⟩
@[reducible,instance] def zek8 (a90:(aZ->aZ->Option Bool)) (a0 a1:aZ) {T:Type} (x:T):=mkL x (@zac3.eq_1 a90 a0 a1) λ(g1:Int)=>⟨[(2,.ptr 0 0 0),(3,.ptr 1 0 0),(5,.int .i64 g1)],[(0,bx a0),(1,bx a1)],2⟩
abbrev zaq4(g:(aZ->aZ->Option Bool)):Prop:=∀(a0:aZ) (a1:aZ),OkP (g a0 a1) 228 [.agg (aZ.enc a0),.agg (aZ.enc a1)] (λ r=>.bool r)
theorem zbz2(a90:(aZ->aZ->Option Bool))(hrc:zaq4 a90):zaq4 (zL4 a90):=λ a0 a1=>ok1 (zL4.eq_1 a90 a0 a1) Tryz.f228 []
theorem zbz3:∀n,zaq4 (zY2 n):=zbl7 (λ _ _=>⟨λ _ h=>nomatch h⟩) λ n=>zbz2 _
instance zdb7:zaq4 zg3:=λ a0 a1=>zbz3 _ a0 a1
attribute [local irreducible] zg3
def zan0(j1:Unit):Option Bool:=
 some true
def zY3(a0 a1:List aO)(g1:Int):Option (Int⊕(Unit⊕Bool)):=
 (if(decide (g1<(a0.length:Int)))=true then
  gd (0<=g1/\g1<(a0.length:Int))<|
  gd (0<=g1/\g1<(a1.length:Int))<|
  (if(!decide (a0.getD g1.toNat aO.zero=a1.getD g1.toNat aO.zero))=true then
   some (.inr (.inr false))
  else
   some (.inl (i64.wrap (g1+1))))
 else
  some (.inr (.inl ())))
def zd7(a0 a1:List aO):Option Bool:=
 (if(!decide ((a0.length:Int)=(a1.length:Int)))=true then
  some false
 else
  (zc1 (zY3 a0 a1) 0).bind (λ|.inl z=>zan0 z|.inr z=>some z))
@[reducible,instance] def zek9 a0 a1:=mkJ (zd7 a0 a1) 0 (@zan0.eq_1) λ(j1:Unit)=>⟨[],[],0⟩
@[reducible,instance] def zel0 (a0 a1:List aO) {T:Type} (x:T):=mkL x (@zY3.eq_1 a0 a1) λ(g1:Int)=>⟨[(0,la a0),(1,la a1),(5,.int .i64 g1)],[],0⟩
instance zcT4(a0 a1:List aO):OkP (zd7 a0 a1) 229 [la a0,la a1] (λ r=>.bool r):=ok1 (zd7.eq_1 a0 a1) Tryz.f229 []
attribute [local irreducible] zd7
def zbh5(j1:Int×Int):Option (Int×Int):=
 some (j1.1,i64.wrap (j1.2+1))
def zav5(g1:Int×Int×Int)(v1:Int×Int)(j2:Int):Option ((Int×Int×Int)⊕((Int×Int)⊕(Int×Int))):=
 (if(decide (24<i64.wrap (g1.1+v1.1)))=true then
  some (.inr (.inr (25,0)))
 else
  some (.inl ((i64.wrap (g1.1+v1.1)),j2,i64.wrap (g1.2.2+1))))
def zW6(a90:(aZ->Int->Option (Int×Int)))(a0:aZ)(a1:Int)(g1:Int×Int×Int):Option ((Int×Int×Int)⊕((Int×Int)⊕(Int×Int))):=
 (if(decide (g1.2.2<(a0.bE.length:Int)))=true then
  gd (0<=g1.2.2/\g1.2.2<(a0.bE.length:Int))<|
  (a90 (a0.bE.getD g1.2.2.toNat aZ.zero) (i64.wrap (a1+1))).bind λ v1=>
  (if(decide (g1.2.1<v1.2))=true then
   zav5 g1 v1 v1.2
  else
   zav5 g1 v1 g1.2.1)
 else
  some (.inr (.inl (g1.1,g1.2.1))))
def zad2(a90:(aZ->Int->Option (Int×Int)))(a0:aZ)(a1:Int):Option (Int×Int):=
 (if(decide (4<a1)||decide (24<(a0.bE.length:Int)))=true then
  some (25,0)
 else
  (zc1 (zW6 a90 a0 a1) (1,0,0)).bind (λ|.inl z=>zbh5 z|.inr z=>some z))
def zM9:Nat->(aZ->Int->Option (Int×Int))
 |0=>λ _ _=>none
 |n+1=>zad2 (zM9 n)
def zn0(a0:aZ)(a1:Int):Option (Int×Int):=zM9 (_root_.SizeOf.sizeOf a0+1) a0 a1
@[reducible,instance] def zel1 (a90:(aZ->Int->Option (Int×Int))) (a0:aZ) (a1:Int):=mkJ (zad2 a90 a0 a1) 0 (@zbh5.eq_1) λ(j1:Int×Int)=>⟨[(6,.int .i64 j1.1),(7,.int .i64 j1.2)],[],0⟩
@[reducible,instance] def zel2 (a90:(aZ->Int->Option (Int×Int))) (a0:aZ) (a1:Int) (g1:Int×Int×Int) (v1:Int×Int):=mkJ (zW6 a90 a0 a1 g1,v1) 999 (@zav5.eq_1 g1 v1) λ(j2:Int)=>⟨[(1,.int .i64 a1),(2,.ptr 0 0 0),(6,.int .i64 (i64.wrap (g1.1+v1.1))),(7,.int .i64 j2),(8,.int .i64 g1.2.2)],[(0,bx a0)],1⟩
@[reducible,instance] def zel3 (a90:(aZ->Int->Option (Int×Int))) (a0:aZ) (a1:Int) {T:Type} (x:T):=mkL x (@zW6.eq_1 a90 a0 a1) λ(g1:Int×Int×Int)=>⟨[(1,.int .i64 a1),(2,.ptr 0 0 0),(6,.int .i64 g1.1),(7,.int .i64 g1.2.1),(8,.int .i64 g1.2.2)],[(0,bx a0)],1⟩
abbrev zaN4(g:(aZ->Int->Option (Int×Int))):Prop:=∀(a0:aZ) (a1:Int),OkP (g a0 a1) 286 [.agg (aZ.enc a0),.int .i64 a1] (λ r=>.tup [.int .i64 r.1,.int .i64 r.2])
theorem zcc6(a90:(aZ->Int->Option (Int×Int)))(hrc:zaN4 a90):zaN4 (zad2 a90):=λ a0 a1=>ok1 (zad2.eq_1 a90 a0 a1) Tryz.f286 []
theorem zcc7:∀n,zaN4 (zM9 n):=zbl7 (λ _ _=>⟨λ _ h=>nomatch h⟩) λ n=>zcc6 _
instance zdG6:zaN4 zn0:=λ a0 a1=>zcc7 _ a0 a1
attribute [local irreducible] zn0
def zU7(j1:Int×(List Int)):Option (List Int):=
 gd (j1.2.length+1<=4294967296)<|
 some (j1.2++[(u8.wrap j1.1)])
def zs7(g1:Int×(List Int)):Option ((Int×(List Int))⊕(Int×(List Int))):=
 (if(decide (128<=g1.1))=true then
  gd (g1.2.length+1<=4294967296)<|
  some (.inl ((g1.1.fdiv (2^7)),(g1.2++[(zah8 .or .u8 (u8.wrap (zah8 .and .u64 g1.1 127)) 128)])))
 else
  some (.inr (g1.1,g1.2)))
def zc9(a0:List Int)(a1:Int):Option (List Int):=
 gd (a0.length<=4294967296)<|
 (zc1 zs7 (a1,a0)).bind (λ z=>zU7 z)
@[reducible,instance] def zel4 a0 a1:=mkJ (zc9 a0 a1) 0 (@zU7.eq_1) λ(j1:Int×(List Int))=>⟨[(1,.int .u64 j1.1),(5,.own 0 0 j1.2.length)],[(0,⟨false,1,[A.int .u8 0],j1.2.map (eI .u8)⟩)],1⟩
@[reducible,instance] def zel5 {T:Type} (x:T):=mkL x (@zs7.eq_1) λ(g1:Int×(List Int))=>⟨[(1,.int .u64 g1.1),(5,.own 0 0 g1.2.length)],[(0,⟨false,1,[A.int .u8 0],g1.2.map (eI .u8)⟩)],1⟩
instance zdi5(a0:List Int)(a1:Int):OkP (zc9 a0 a1) 162 [.sl (a0.map (eI .u8)),.int .u64 a1] (λ r=>.sl (r.map (eI .u8))):=ok1 (zc9.eq_1 a0 a1) Tryz.f162 [(6,1)]
attribute [local irreducible] zc9
def zaN5(a0:Int):Int:=
 (if(decide (a0<0)||decide (1073741824<=a0))=true then
  1
 else
  (i64.wrap (a0+1)))
instance zdG7(a0:Int):OkT 225 [.int .i64 a0] (.int .i64 (zaN5 a0)):=ok2 (λ r=>.int .i64 r) (zaN5.eq_1 a0) Tryz.f225 []
def zaD5(j1:Unit):Option Bool:=
 some true
def zaD6(a0 a1:List aY)(g1:Int):Option (Int⊕(Unit⊕Bool)):=
 (if(decide (g1<(a0.length:Int)))=true then
  gd (0<=g1/\g1<(a0.length:Int))<|
  gd (0<=g1/\g1<(a1.length:Int))<|
  (if(!decide (a0.getD g1.toNat aY.zero=a1.getD g1.toNat aY.zero))=true then
   some (.inr (.inr false))
  else
   some (.inl (i64.wrap (g1+1))))
 else
  some (.inr (.inl ())))
def zc6(a0 a1:List aY):Option Bool:=
 (if(!decide ((a0.length:Int)=(a1.length:Int)))=true then
  some false
 else
  (zc1 (zaD6 a0 a1) 0).bind (λ|.inl z=>zaD5 z|.inr z=>some z))
@[reducible,instance] def zel6 a0 a1:=mkJ (zc6 a0 a1) 0 (@zaD5.eq_1) λ(j1:Unit)=>⟨[],[],0⟩
@[reducible,instance] def zel7 (a0 a1:List aY) {T:Type} (x:T):=mkL x (@zaD6.eq_1 a0 a1) λ(g1:Int)=>⟨[(0,la a0),(1,la a1),(5,.int .i64 g1)],[],0⟩
instance zcP8(a0 a1:List aY):OkP (zc6 a0 a1) 20 [la a0,la a1] (λ r=>.bool r):=ok1 (zc6.eq_1 a0 a1) Tryz.f20 []
attribute [local irreducible] zc6
def zp8(a0 a1:Int):Option Int:=
 (if(decide (a1<1))=true then
  some 0
 else
  gd (a1≠0)<|
  (if(decide (a0.tmod a1<0))=true then
   some (i64.wrap (a0.tmod a1+a1))
  else
   some (a0.tmod a1)))
instance zdR3(a0 a1:Int):OkP (zp8 a0 a1) 121 [.int .i64 a0,.int .i64 a1] (λ r=>.int .i64 r):=ok1 (zp8.eq_1 a0 a1) Tryz.f121 []
attribute [local irreducible] zp8
def zax0(j1:(List aF)):Option (List aF):=
 some j1
def zU8(a0:List aT)(g1:Int×(List aF)):Option ((Int×(List aF))⊕(List aF)):=
 (if(decide (g1.1<(a0.length:Int)))=true then
  gd (0<=g1.1/\g1.1<(a0.length:Int))<|
  gd (g1.2.length+1<=4294967296)<|
  some (.inl ((i64.wrap (g1.1+1)),(g1.2++[(a0.getD g1.1.toNat aT.zero).aI])))
 else
  some (.inr g1.2))
def zh0(a0:List aT):Option (List aF):=
 (zc1 (zU8 a0) (0,[])).bind (λ z=>zax0 z)
@[reducible,instance] def zel8 a0:=mkJ (zh0 a0) 0 (@zax0.eq_1) λ(j1:(List aF))=>⟨[(3,.own 0 0 j1.length)],[(0,sx j1)],1⟩
@[reducible,instance] def zel9 (a0:List aT) {T:Type} (x:T):=mkL x (@zU8.eq_1 a0) λ(g1:Int×(List aF))=>⟨[(3,.own 0 0 g1.2.length),(6,la a0),(7,.int .i64 (a0.length:Int)),(8,.int .i64 g1.1)],[(0,sx g1.2)],1⟩
attribute [local irreducible] zh0
end
end Ab
end Go.Proofs.YtdlfhmkmnjbihaaGreatDoor
