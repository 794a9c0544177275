import Derived.Test.YtenebhlnfjcffaaGreatDoorHm9
import Derived.Test.YtenebhlnfjcffaaGreatDoorHm16
namespace Go.Proofs.YtenebhlnfjcffaaGreatDoor
namespace Ab
open IntKind (i64 u64 u8)
set_option linter.unusedSimpArgs false
set_option linter.defProp false
set_option linter.unusedVariables false
set_option maxRecDepth 100000
set_option maxHeartbeats 1000000
noncomputable section
attribute [local irreducible] zn8 zf5 zb5 za4 ze1 zm5 zb6 zb1 zo2 zi2 zl5 zi9 zn1 zf4 zd8 zg3 zk3 ze8 za7 zb2 zh7 zj7 zj3 zi8 zh4 zk4 zd0 zd9 zj9 zp2 zm8 zh0 zf8 ze0 ze4 zc8 za9 zk6 zh1 zo5 zh2 f_ref08_holds zc7 zl8 zg5 zh8 zn7 zg1 zi3 zf9 zb3 za0 zj2 zn3 zl9 zf0 zh5 zf1 zb7 ze2 zf2 zi6 zj8 zo7 zd6 ze5 zh9 zn4 zm3 zk2 zn9 zd7 zb9 zq5 zr0 zd4 zk7 zd1 zl3 zs0 zb0 ze9 za6 zi7 zc6 za1 zg2 zl4 zf6 zs1 zr4 zu3 zh6 zj5 zg6 zp6 zx8 zs4 ze7 zj0 zd3 ze6 zc0 zt1 zk1 zm1 zq8 zc1 zp3 zn6 zl1 zi0 zr1 zg7 zt7 zm2 zl6 zj4 zk0 zp4 zv1 zl2 zk5 zp5 zu2 za5 zm6 zq7 zi5 zt9 zo6 zt4 zn5 zq6 f_formula_holds zm0 zc3 zl0 zs2 zu0 zb8 zs9 zo8 zm7 zf7 ze3 zc5 zs3 zu1
def zaF2(j1:Unit):Option Bool:=
 some true
def zE2(a0:aB)(g1:Int):Option (Int⊕(Unit⊕Bool)):=
 (if(decide (g1<(a0.aT.length:Int)))=true then
  gd (0<=g1/\g1<(a0.aT.length:Int))<|
  ((if(za2 a0.aA ((a0.aT.getD g1.toNat aU.zero).aM))=true then zn4 a0 ((a0.aT.getD g1.toNat aU.zero).aK)else some aC.zero)).bind λ v2=>
  (if((!(za2 a0.aA ((a0.aT.getD g1.toNat aU.zero).aM)))||(!(zk8 v2)))=true then
   some (.inr (.inr false))
  else
   some (.inl (i64.wrap (g1+1))))
 else
  some (.inr (.inl ())))
def zr2(a0:aB):Option Bool:=
 (zu2 a0.aT).bind λ v1=>
 (if((!v1)||decide (8<i64.wrap ((a0.aP.length:Int)+(a0.aT.length:Int))))=true then
  some false
 else
  (zc2 (zE2 a0) 0).bind (λ|.inl z=>zaF2 z|.inr z=>some z))
@[reducible,instance] def zez8 a0 {T1:Type} (v1:T1):=mkJ (zr2 a0,v1) 0 (@zaF2.eq_1) λ(j1:Unit)=>⟨[],[],0⟩
@[reducible,instance] def zez9 (a0:aB) {T:Type} (x:T):=mkL x (@zE2.eq_1 a0) λ(g1:Int)=>⟨[(1,.ptr 0 0 0),(20,la a0.aT),(21,.int .i64 (a0.aT.length:Int)),(22,.int .i64 g1)],[(0,bx a0)],1⟩
instance zcI1(a0:aB):OkP (zr2 a0) 206 [ga a0] (λ r=>.bool r):=ok1 (zr2.eq_1 a0) Tryz.f206 []
attribute [local irreducible] zr2
def zr7(a0:List bP)(a1:aL):Option Int:=
 (zc5 a0 a1).bind λ v1=>
 some v1.1
instance zbx0(a0:List bP)(a1:aL):OkP (zr7 a0 a1) 35 [la a0,ga a1] (λ r=>.int .i64 r):=ok1 (zr7.eq_1 a0 a1) Tryz.f35 []
attribute [local irreducible] zr7
def zaz4(j1:Unit):Option Bool:=
 some true
def zB5(a1:aF)(v4:Int×aB)(g1:Int):Option (Int⊕(Unit⊕Bool)):=
 (if(decide (g1<(v4.2.aT.length:Int)))=true then
  gd (0<=g1/\g1<(v4.2.aT.length:Int))<|
  (zd4 ((v4.2.aT.getD g1.toNat aU.zero).aK) a1.aK).bind λ v7=>
  (if(decide (v7=0)&&(!decide ((v4.2.aT.getD g1.toNat aU.zero).aZ=a1.aR.aZ)))=true then
   some (.inr (.inr false))
  else
   some (.inl (i64.wrap (g1+1))))
 else
  some (.inr (.inl ())))
def zo3(a0:aB)(a1:aF)(a2:List aJ):Option Bool:=
 (zn9 a1.aX a0.aA.name).bind λ v1=>
 (zn4 a0 a1.aK).bind λ v2=>
 (zq6 a0 a1.aK).bind λ v3=>
 (za6 a2 a0).bind λ v4=>
 gd ((!(decide (v4.1<0)))=true->0<=v4.1/\v4.1<(a2.length:Int))<|
 ((if(!(decide (v4.1<0)))=true then zp5 v4.2.aA v1 ((a2.getD v4.1.toNat aJ.zero).aM)else some false)).bind λ v5=>
 (if(decide (v4.1<0)||v5)=true then
  some (decide (v2=v1)&&(!v3.2))
 else
  gd (0<=v4.1/\v4.1<(a2.length:Int))<|
  (zu0 v4.2.aA v1 ((a2.getD v4.1.toNat aJ.zero).aM)).bind λ v6=>
  (if(!v3.2)=true then
   some (decide (v2=v6))
  else
   (if((!decide (v2=v1))||(!decide (v3.1=v6)))=true then
    some false
   else
    (zc2 (zB5 a1 v4) 0).bind (λ|.inl z=>zaz4 z|.inr z=>some z))))
@[reducible,instance] def zem6 a0 a1 a2 {T1:Type} (v1:T1) {T2:Type} (v2:T2) {T3:Type} (v3:T3) {T4:Type} (v4:T4) {T5:Type} (v5:T5) {T6:Type} (v6:T6):=mkJ ((((((zo3 a0 a1 a2,v1),v2),v3),v4),v5),v6) 0 (@zaz4.eq_1) λ(j1:Unit)=>⟨[],[],0⟩
@[reducible,instance] def zem7 (a1:aF) (v4:Int×aB) {T:Type} (x:T):=mkL x (@zB5.eq_1 a1 v4) λ(g1:Int)=>⟨[(4,.ptr 0 0 0),(78,la v4.2.aT),(79,.int .i64 (v4.2.aT.length:Int)),(80,.int .i64 g1)],[(0,bx a1)],1⟩
instance zcv9(a0:aB)(a1:aF)(a2:List aJ):OkP (zo3 a0 a1 a2) 172 [ga a0,ga a1,la a2] (λ r=>.bool r):=ok1 (zo3.eq_1 a0 a1 a2) Tryz.f172 []
attribute [local irreducible] zo3
def zaG8(j1:(List aL)):Option (List aL):=
 (zk1 j1).bind λ v1=>
 some v1
def zag4(a0:List aB)(g1:Int×(List aL)):Option ((Int×(List aL))⊕(List aL)):=
 (if(decide (g1.1<(a0.length:Int)))=true then
  gd (0<=g1.1/\g1.1<(a0.length:Int))<|
  (zt9 (a0.getD g1.1.toNat aB.zero)).bind λ v2=>
  gd (g1.2.length+v2.length<=4294967296)<|
  some (.inl ((i64.wrap (g1.1+1)),(g1.2++v2)))
 else
  some (.inr g1.2))
def zv8(a0:List aB):Option (List aL):=
 (zc2 (zag4 a0) (0,[])).bind (λ z=>zaG8 z)
@[reducible,instance] def zem8 a0:=mkJ (zv8 a0) 0 (@zaG8.eq_1) λ(j1:(List aL))=>⟨[(3,.own 0 0 j1.length)],[(0,sx j1)],1⟩
@[reducible,instance] def zem9 (a0:List aB) {T:Type} (x:T):=mkL x (@zag4.eq_1 a0) λ(g1:Int×(List aL))=>⟨[(0,la a0),(3,.own 0 0 g1.2.length),(4,.int .i64 g1.1)],[(0,sx g1.2)],1⟩
instance zdq8(a0:List aB):OkP (zv8 a0) 68 [la a0] (λ r=>la r):=ok1 (zv8.eq_1 a0) Tryz.f68 [(3,1)]
attribute [local irreducible] zv8
def zag5(a0:aO)(j1:Unit):Option (Nat⊕((List aJ)×Bool)):=
 gd (1<=4294967296)<|
 some (.inr ([a0.bG],true))
@[go_sem] def zdq9(a0:aO)(j1:Unit):St:=⟨[(0,.own 0 0 0),(3,.ptr 1 0 0)],[(0,⟨false,3,aJ.enc aJ.zero,[].map aJ.enc⟩),(1,bx a0)],2⟩
def zas0(a0:aO)(g1:Int):Option (Int⊕(Unit⊕(Nat⊕((List aJ)×Bool)))):=
 (if(decide (g1<0))=true then
  gd (0<=g1/\g1<(0:Int))<|
  (if(decide (([].getD g1.toNat aJ.zero)=a0.bG))=true then
   some (.inr (.inr (.inr ([],true))))
  else
   some (.inl (i64.wrap (g1+1))))
 else
  some (.inr (.inl ())))
@[go_sem] def zdr0(a0:aO)(g1:Int):St:=⟨[(0,.own 0 0 0),(3,.ptr 1 0 0),(6,.int .i64 g1)],[(0,⟨false,3,aJ.enc aJ.zero,[].map aJ.enc⟩),(1,bx a0)],2⟩
def zag6(j2:(List aJ)):Option (Nat⊕((List aJ)×Bool)):=
 some (.inr (j2,true))
@[go_sem] def zdr1(j2:(List aJ)):St:=⟨[(0,.own 0 0 j2.length)],[(0,sx j2)],1⟩
def zX4(a0:aO)(g2:Int×(List aJ)):Option ((Int×(List aJ))⊕((List aJ)⊕(Nat⊕((List aJ)×Bool)))):=
 (if(decide (g2.1<(a0.bE.length:Int)))=true then
  gd (0<=g2.1/\g2.1<(a0.bE.length:Int))<|
  (zs3 (a0.bE.getD g2.1.toNat aO.zero) g2.2).bind λ v2=>match v2 with
  | .inl v2=>
   some (.inr (.inr (.inl g2.2.length)))
  | .inr v2=>
   (if(!v2.1)=true then
    some (.inr (.inr (.inl g2.2.length)))
   else
    some (.inl ((i64.wrap (g2.1+1)),v2.2)))
 else
  some (.inr (.inl g2.2)))
@[go_sem] def zdr2(a0:aO)(g2:Int×(List aJ)):St:=⟨[(0,.own 0 0 g2.2.length),(3,.ptr 1 0 0),(7,.int .i64 g2.1)],[(0,sx g2.2),(1,bx a0)],2⟩
def zO0(a90:(aO->Option (Nat⊕((List aJ)×Bool))))(a0:aO):Option (Nat⊕((List aJ)×Bool)):=
 (if(decide ((a0.bE.length:Int)=0))=true then
  ((if(decide (a0.k=0))=true then zi0 a0.bG.name else some false)).bind λ v1=>
  (if(((!decide (a0.k=0))||(!v1))||(!(zn0 a0.bG.aM)))=true then
   some (.inr ([],false))
  else
   (zc2 (zas0 a0) 0).bind (λ|.inl z=>zag5 a0 z|.inr z=>some z))
 else
  (if((decide (a0.k<1)||decide ((a0.bE.length:Int)<a0.k))||(!decide (a0.bG={aJ.zero with})))=true then
   some (.inr ([],false))
  else
   (zc2 (zX4 a0) (0,[])).bind (λ|.inl z=>zag6 z|.inr z=>some z)))
def zag7:Nat->(aO->Option (Nat⊕((List aJ)×Bool)))
 |0=>λ _=>none
 |n+1=>zO0 (zag7 n)
def zy1(a0:aO):Option (Nat⊕((List aJ)×Bool)):=zag7 (_root_.SizeOf.sizeOf a0+1) a0
theorem zbF9(a90:(aO->Option (Nat⊕((List aJ)×Bool))))(hrc0:∀(a0:aO) (r:Nat),a90 a0=some (.inl r)->MFn C 92 [.full ([].map aJ.enc),ga a0] [] 0 (.tup [.own 0 0 r,.bool false]) [] 1)(hrc1:∀(a0:aO) (r:(List aJ)×Bool),a90 a0=some (.inr r)->MFn C 92 [.full ([].map aJ.enc),ga a0] [] 0 (.tup [la r.1,.bool r.2]) [] 0)(a0:aO)(r:Nat)(h:zO0 a90 a0=some (.inl r)):MFn C 92 [.full ([].map aJ.enc),ga a0] [] 0 (.tup [.own 0 0 r,.bool false]) [] 1:=by
 refine zaK6 Tryz.f92 [] [.own 0 0 r,.bool false] λ E hG hN hK=>?_;unfold zO0 at h;refine g_gh (.own0 0 3 (aJ.enc aJ.zero)) ?_;refine za3 (za8 hG ?_);refine za3 (za3 (za8 hG ?_));refine zq4 rfl hG h (λ _ h=>?_) (λ _ h=>?_)
 · refine za3 (za3 (za8 hG ?_))
   obtain⟨v1,hv1,h⟩:=zf3 h;refine zw9 (λ hg=>(zaR4 a0.bG.name).ok _ (zaZ9 hg hv1)) ?_;refine zw9 (λ hg=>(zbi6 a0.bG.aM).ok) ?_;refine zq4 rfl hG h (λ _ h=>?_) (λ _ h=>?_)
   · refine za3 (za8 hG ?_)
     refine g_gh (.fz [0]) ?_;refine zx6 ?_;exact nomatch h
   refine zo1 ?_;refine za3 (za3 (za8 hG ?_));refine zO8 (zdq9 a0) (λ v=>zag5 a0 v=some (.inl r)) ?_ ?_
   · intro j1 h
     unfold zag5 at h;refine g_st ?_;refine za3 ?_;obtain⟨hb1,h⟩:=zg8 h;refine za8 hG ?_;refine g_gh (.fz [2]) ?_;refine zx6 ?_;exact nomatch h
   refine zau2 (zdr0 a0) hK [(0,0),(1,1)] h (λ x_l1 h g1 y_l1 h_l1 hx_l1=>?_);unfold zas0 at h_l1;refine g_st ?_;refine za3 (za3 (za8 hG ?_));refine zq4 rfl hG h_l1 (λ _ h_l1=>?_) (λ _ h_l1=>?_)
   · refine zo1 ?_
     refine za3 (zM3 (za3 ?_));obtain⟨hb2,h_l1⟩:=zg8 h_l1;refine zbv8 zM4 hG ?_;refine zq4 rfl hG h_l1 (λ _ h_l1=>?_) (λ _ h_l1=>?_)
     · refine za3 (za8 hG ?_)
       refine g_gh (.fz [0]) ?_;refine zx6 ?_;cases h_l1;cases hx_l1 _ rfl;exact nomatch h
     refine zo1 ?_;refine za8 hG ?_;exact zZ9 hK [(0,0),(1,1)] h_l1
   refine zS4 ?_;cases h_l1;cases hx_l1 _ rfl;exact zJ8 hK [(0,0),(1,1)] () (by exact h)
 refine zo1 ?_;refine za3 (za3 (za8 hG ?_));refine zq4 rfl hG h (λ _ h=>?_) (λ _ h=>?_)
 · refine za3 (za8 hG ?_)
   refine g_gh (.fz [0]) ?_;refine zx6 ?_;exact nomatch h
 refine zo1 ?_;refine za3 (za3 (za8 hG ?_));refine zO8 zdr1 (λ v=>zag6 v=some (.inl r)) ?_ ?_
 · intro j2 h
   unfold zag6 at h;refine g_st ?_;refine za3 (za8 hG ?_);refine g_gh (.fz [0]) ?_;refine zx6 ?_;exact nomatch h
 refine zau2 (zdr2 a0) hK [(0,0),(1,1)] h (λ x_l2 h g2 y_l2 h_l2 hx_l2=>?_);unfold zX4 at h_l2;refine g_st ?_;refine za3 (za3 (za8 hG ?_));refine zq4 rfl hG h_l2 (λ _ h_l2=>?_) (λ _ h_l2=>?_)
 · refine zo1 ?_
   refine za3 (zM3 (za3 ?_));obtain⟨hb3,h_l2⟩:=zg8 h_l2;refine za8 hG ?_;obtain⟨v2,hv2,h_l2⟩:=zf3 h_l2;rcases v2 with v2|v2
   · dsimp only at h_l2
     refine zv5 [(0,0)] [(1,2)] [0,1] ((zaW7 (a0.bE.getD g2.1.toNat aO.zero) g2.2).ok _ hv2) rfl rfl ?_;refine za3 (za3 (za8 hG ?_));refine zbe8 rfl hG ?_;refine za3 (za8 hG ?_);refine zx6 ?_;cases h_l2;cases hx_l2 _ rfl;exact zV5 [(0,0)] (zcq3 h)
   dsimp only at h_l2;refine zv5 [(0,0)] [(1,2)] [0,1] ((zaW8 (a0.bE.getD g2.1.toNat aO.zero) g2.2).ok _ hv2) rfl rfl ?_;refine za3 (za3 (za8 hG ?_));refine zq4 rfl hG h_l2 (λ _ h_l2=>?_) (λ _ h_l2=>?_)
   · refine za3 (za8 hG ?_)
     refine zx6 ?_;cases h_l2;cases hx_l2 _ rfl;exact zV5 [(0,0)] (zcq3 h)
   refine zo1 ?_;refine za8 hG ?_;refine za8 hG ?_;exact zZ9 hK [(0,2),(1,1)] h_l2
 refine zS4 ?_;cases h_l2;cases hx_l2 _ rfl;exact zJ8 hK [(0,0)] g2.2 (by exact h)
theorem zbG0(a90:(aO->Option (Nat⊕((List aJ)×Bool))))(hrc0:∀(a0:aO) (r:Nat),a90 a0=some (.inl r)->MFn C 92 [.full ([].map aJ.enc),ga a0] [] 0 (.tup [.own 0 0 r,.bool false]) [] 1)(hrc1:∀(a0:aO) (r:(List aJ)×Bool),a90 a0=some (.inr r)->MFn C 92 [.full ([].map aJ.enc),ga a0] [] 0 (.tup [la r.1,.bool r.2]) [] 0)(a0:aO)(r:(List aJ)×Bool)(h:zO0 a90 a0=some (.inr r)):MFn C 92 [.full ([].map aJ.enc),ga a0] [] 0 (.tup [la r.1,.bool r.2]) [] 0:=by
 refine zaK6 Tryz.f92 [] [la r.1,.bool r.2] λ E hG hN hK=>?_;unfold zO0 at h;refine g_gh (.own0 0 3 (aJ.enc aJ.zero)) ?_;refine za3 (za8 hG ?_);refine za3 (za3 (za8 hG ?_));refine zq4 rfl hG h (λ _ h=>?_) (λ _ h=>?_)
 · refine za3 (za3 (za8 hG ?_))
   obtain⟨v1,hv1,h⟩:=zf3 h;refine zw9 (λ hg=>(zaR4 a0.bG.name).ok _ (zaZ9 hg hv1)) ?_;refine zw9 (λ hg=>(zbi6 a0.bG.aM).ok) ?_;refine zq4 rfl hG h (λ _ h=>?_) (λ _ h=>?_)
   · refine za3 (za8 hG ?_)
     refine g_gh (.fz [0]) ?_;refine zx6 ?_;exact zV5 [] (zbq4 h)
   refine zo1 ?_;refine za3 (za3 (za8 hG ?_));refine zO8 (zdq9 a0) (λ v=>zag5 a0 v=some (.inr r)) ?_ ?_
   · intro j1 h
     unfold zag5 at h;refine g_st ?_;refine za3 ?_;obtain⟨hb1,h⟩:=zg8 h;refine za8 hG ?_;refine g_gh (.fz [2]) ?_;refine zx6 ?_;exact zV5 [] (zbq4 h)
   refine zau2 (zdr0 a0) hK [(0,0),(1,1)] h (λ x_l1 h g1 y_l1 h_l1 hx_l1=>?_);unfold zas0 at h_l1;refine g_st ?_;refine za3 (za3 (za8 hG ?_));refine zq4 rfl hG h_l1 (λ _ h_l1=>?_) (λ _ h_l1=>?_)
   · refine zo1 ?_
     refine za3 (zM3 (za3 ?_));obtain⟨hb2,h_l1⟩:=zg8 h_l1;refine zbv8 zM4 hG ?_;refine zq4 rfl hG h_l1 (λ _ h_l1=>?_) (λ _ h_l1=>?_)
     · refine za3 (za8 hG ?_)
       refine g_gh (.fz [0]) ?_;refine zx6 ?_;cases h_l1;cases hx_l1 _ rfl;exact zV5 [] (zbq4 h)
     refine zo1 ?_;refine za8 hG ?_;exact zZ9 hK [(0,0),(1,1)] h_l1
   refine zS4 ?_;cases h_l1;cases hx_l1 _ rfl;exact zJ8 hK [(0,0),(1,1)] () (by exact h)
 refine zo1 ?_;refine za3 (za3 (za8 hG ?_));refine zq4 rfl hG h (λ _ h=>?_) (λ _ h=>?_)
 · refine za3 (za8 hG ?_)
   refine g_gh (.fz [0]) ?_;refine zx6 ?_;exact zV5 [] (zbq4 h)
 refine zo1 ?_;refine za3 (za3 (za8 hG ?_));refine zO8 zdr1 (λ v=>zag6 v=some (.inr r)) ?_ ?_
 · intro j2 h
   unfold zag6 at h;refine g_st ?_;refine za3 (za8 hG ?_);refine g_gh (.fz [0]) ?_;refine zx6 ?_;exact zV5 [] (zbq4 h)
 refine zau2 (zdr2 a0) hK [(0,0),(1,1)] h (λ x_l2 h g2 y_l2 h_l2 hx_l2=>?_);unfold zX4 at h_l2;refine g_st ?_;refine za3 (za3 (za8 hG ?_));refine zq4 rfl hG h_l2 (λ _ h_l2=>?_) (λ _ h_l2=>?_)
 · refine zo1 ?_
   refine za3 (zM3 (za3 ?_));obtain⟨hb3,h_l2⟩:=zg8 h_l2;refine za8 hG ?_;obtain⟨v2,hv2,h_l2⟩:=zf3 h_l2;rcases v2 with v2|v2
   · dsimp only at h_l2
     refine zv5 [(0,0)] [(1,2)] [0,1] ((zaW7 (a0.bE.getD g2.1.toNat aO.zero) g2.2).ok _ hv2) rfl rfl ?_;refine za3 (za3 (za8 hG ?_));refine zbe8 rfl hG ?_;refine za3 (za8 hG ?_);refine zx6 ?_;cases h_l2;cases hx_l2 _ rfl;exact nomatch h
   dsimp only at h_l2;refine zv5 [(0,0)] [(1,2)] [0,1] ((zaW8 (a0.bE.getD g2.1.toNat aO.zero) g2.2).ok _ hv2) rfl rfl ?_;refine za3 (za3 (za8 hG ?_));refine zq4 rfl hG h_l2 (λ _ h_l2=>?_) (λ _ h_l2=>?_)
   · refine za3 (za8 hG ?_)
     refine zx6 ?_;cases h_l2;cases hx_l2 _ rfl;exact nomatch h
   refine zo1 ?_;refine za8 hG ?_;refine za8 hG ?_;exact zZ9 hK [(0,2),(1,1)] h_l2
 refine zS4 ?_;cases h_l2;cases hx_l2 _ rfl;exact zJ8 hK [(0,0)] g2.2 (by exact h)
theorem zaa5:∀(n:Nat),(∀(a0:aO) (r:Nat),zag7 n a0=some (.inl r)->MFn C 92 [.full ([].map aJ.enc),ga a0] [] 0 (.tup [.own 0 0 r,.bool false]) [] 1)/\(∀(a0:aO) (r:(List aJ)×Bool),zag7 n a0=some (.inr r)->MFn C 92 [.full ([].map aJ.enc),ga a0] [] 0 (.tup [la r.1,.bool r.2]) [] 0)
 |0=>⟨(λ _ _ h=>nomatch h),(λ _ _ h=>nomatch h)⟩
 |n+1=>⟨zbF9 (zag7 n) (zaa5 n).1 (zaa5 n).2,zbG0 (zag7 n) (zaa5 n).1 (zaa5 n).2⟩
theorem zbG1(a0:aO)(r:Nat)(h:zy1 a0=some (.inl r)):MFn C 92 [.full ([].map aJ.enc),ga a0] [] 0 (.tup [.own 0 0 r,.bool false]) [] 1:=(zaa5 _).1 a0 r h
theorem zbG2(a0:aO)(r:(List aJ)×Bool)(h:zy1 a0=some (.inr r)):MFn C 92 [.full ([].map aJ.enc),ga a0] [] 0 (.tup [la r.1,.bool r.2]) [] 0:=(zaa5 _).2 a0 r h
attribute [local irreducible] zy1
def zw2(a0:aW)(a1:bC):Option (aW×Int):=
 (zo8 a0).bind λ v1=>
 (if(!v1)=true then
  some ({aW.zero with},2)
 else
  gd (a0.aD.length<=4294967296)<|
  gd (a0.aD.length+1<=4294967296)<|
  gd (a0.aY.length<=4294967296)<|
  (zo8 (⟨(a0.aD++[a1]),a0.aY⟩:aW)).bind λ v2=>
  (if(!v2)=true then
   some ({aW.zero with},1)
  else
   some ((⟨(a0.aD++[a1]),a0.aY⟩:aW),0)))
instance zdj1(a0:aW)(a1:bC):OkP (zw2 a0 a1) 254 [ga a0,ga a1] (λ r=>.tup [ga r.1,.int .i64 r.2]):=ok1 (zw2.eq_1 a0 a1) Tryz.f254 [(11,1),(18,1),(22,2)]
attribute [local irreducible] zw2
def zax7(a0:aH)(j1:(List aC)):Option Bool:=
 (zk5 a0 j1).bind λ v1=>
 some v1
def zY4(a0:aH)(a1:List bA)(g1:Int×(List aC)):Option ((Int×(List aC))⊕((List aC)⊕Bool)):=
 (if(decide (g1.1<(a1.length:Int)))=true then
  gd (0<=g1.1/\g1.1<(a1.length:Int))<|
  (if((!(zd2 ((a1.getD g1.1.toNat bA.zero).aK)))||(!(za2 a0 ((a1.getD g1.1.toNat bA.zero).aM))))=true then
   some (.inr (.inr false))
  else
   gd (decide (0<g1.1)=true->0<=i64.wrap (g1.1-1)/\i64.wrap (g1.1-1)<(a1.length:Int))<|
   ((if(decide (0<g1.1))=true then zd4 ((a1.getD ((i64.wrap (g1.1-1)).toNat) bA.zero).aK) ((a1.getD g1.1.toNat bA.zero).aK)else some 0)).bind λ v2=>
   (if(decide (0<g1.1)&&decide (0<=v2))=true then
    some (.inr (.inr false))
   else
    gd (g1.2.length+1<=4294967296)<|
    some (.inl ((i64.wrap (g1.1+1)),(g1.2++[(a1.getD g1.1.toNat bA.zero).aM])))))
 else
  some (.inr (.inl g1.2)))
def zs5(a0:aH)(a1:List bA):Option Bool:=
 (if((!(zg4 a0))||decide (8<(a1.length:Int)))=true then
  some false
 else
  (zc2 (zY4 a0 a1) (0,[])).bind (λ|.inl z=>zax7 a0 z|.inr z=>some z))
@[reducible,instance] def zeA0 (a0:aH) a1:=mkJ (zs5 a0 a1) 0 (@zax7.eq_1 a0) λ(j1:(List aC))=>⟨[(2,.ptr 0 0 0),(5,.own 1 0 j1.length)],[(0,bx a0),(1,sx j1)],2⟩
@[reducible,instance] def zeA1 (a0:aH) (a1:List bA) {T:Type} (x:T):=mkL x (@zY4.eq_1 a0 a1) λ(g1:Int×(List aC))=>⟨[(1,la a1),(2,.ptr 0 0 0),(5,.own 1 0 g1.2.length),(16,la a1),(17,.int .i64 (a1.length:Int)),(18,.int .i64 g1.1)],[(0,bx a0),(1,sx g1.2)],2⟩
instance zdb7(a0:aH)(a1:List bA):OkP (zs5 a0 a1) 204 [ga a0,la a1] (λ r=>.bool r):=ok1 (zs5.eq_1 a0 a1) Tryz.f204 [(5,1)]
attribute [local irreducible] zs5
def zp0(a0:List aL):Option (List aL):=
 gd (a0.length<=4294967296)<|
 (zc3 a0).bind λ v1=>
 (za4 v1).bind λ v2=>
 some v2.1
theorem zbx1(a0:List aL)(r:(List aL))(h:zp0 a0=some r):PFn C 58 [la a0] (la r):=by refine zae9 Tryz.f58 [] λ E hG hN hK=>?_;unfold zp0 at h;refine za3 (za8 hG ?_);refine za3 ?_;obtain⟨hb1,h⟩:=zg8 h;refine za8 hG ?_;refine za3 (za8 hG ?_);obtain⟨v1,hv1,h⟩:=zf3 h;have hl_v1:=zan8 a0 _ hv1;refine zv5 [(0,0)] [] [0] (zan9 _ _ hv1) rfl rfl ?_;refine za3 (za8 hG ?_);obtain⟨v2,hv2,h⟩:=zf3 h;refine zv5 [(0,0)] [] [0] ((zao1 v1).ok _ hv2) rfl rfl ?_;refine zx6 ?_;exact zS5 h
instance zcI2(a0:List aL):OkP (zp0 a0) 58 [la a0] (λ r=>la r):=⟨zbx1 a0⟩
attribute [local irreducible] zp0
def zag8(j3:bD×aB):Option (aB×bD):=
 some (j3.2,j3.1)
def zag9(g1:Int×bD×aB):Option ((Int×bD×aB)⊕(bD×aB)):=
 (if(decide (0<g1.1)&&decide (g1.2.1.bO.err=0))=true then
  (zf7 g1.2.1).bind λ v9=>
  (ze3 v9.2).bind λ v10=>
  (zc1 v10.2).bind λ v11=>
  (zc1 v11.2).bind λ v12=>
  gd (g1.2.2.aT.length+1<=4294967296)<|
  some (.inl ((i64.wrap (g1.1-1)),v12.2,(⟨(⟨g1.2.2.aA.name,g1.2.2.aA.kind,g1.2.2.aA.aS,g1.2.2.aA.home⟩:aH),g1.2.2.aP,g1.2.2.aN,(g1.2.2.aT++[{{{{aU.zero with aK:=v9.1}with aM:=v10.1}with aZ:=v11.1}with bR:=v12.1}]),g1.2.2.gen⟩:aB)))
 else
  some (.inr (g1.2.1,g1.2.2)))
def zQ1(j2:bD×aB):Option (aB×bD):=
 (zd3 8 j2.1).bind λ v8=>
 (zc2 zag9 (v8.1,v8.2,j2.2)).bind (λ z=>zag8 z)
def zah0(g2:Int×bD×aB):Option ((Int×bD×aB)⊕(bD×aB)):=
 (if(decide (0<g2.1)&&decide (g2.2.1.bO.err=0))=true then
  (zf7 g2.2.1).bind λ v13=>
  (ze3 v13.2).bind λ v14=>
  gd (g2.2.2.aN.length+1<=4294967296)<|
  some (.inl ((i64.wrap (g2.1-1)),v14.2,(⟨(⟨g2.2.2.aA.name,g2.2.2.aA.kind,g2.2.2.aA.aS,g2.2.2.aA.home⟩:aH),g2.2.2.aP,(g2.2.2.aN++[{aU.zero with aK:=v13.1,aM:=v14.1}]),g2.2.2.aT,g2.2.2.gen⟩:aB)))
 else
  some (.inr (g2.2.1,g2.2.2)))
def zQ2(j1:bD×aB):Option (aB×bD):=
 (zd3 8 j1.1).bind λ v7=>
 (zc2 zah0 (v7.1,v7.2,j1.2)).bind (λ z=>zQ1 z)
def zah1(g3:Int×bD×aB):Option ((Int×bD×aB)⊕(bD×aB)):=
 (if(decide (0<g3.1)&&decide (g3.2.1.bO.err=0))=true then
  (zf7 g3.2.1).bind λ v15=>
  (ze3 v15.2).bind λ v16=>
  gd (g3.2.2.aP.length+1<=4294967296)<|
  some (.inl ((i64.wrap (g3.1-1)),v16.2,(⟨(⟨g3.2.2.aA.name,g3.2.2.aA.kind,g3.2.2.aA.aS,g3.2.2.aA.home⟩:aH),(g3.2.2.aP++[(⟨v15.1,v16.1⟩:bA)]),g3.2.2.aN,g3.2.2.aT,g3.2.2.gen⟩:aB)))
 else
  some (.inr (g3.2.1,g3.2.2)))
def zi1(a0:bD):Option (aB×bD):=
 (ze6 a0).bind λ v1=>
 (zc1 v1.2).bind λ v2=>
 (zc1 v2.2).bind λ v3=>
 (zc1 v3.2).bind λ v4=>
 (zc1 v4.2).bind λ v5=>
 (zd3 8 v5.2).bind λ v6=>
 (zc2 zah1 (v6.1,v6.2,(⟨(⟨v1.1,v2.1,v3.1,v4.1⟩:aH),[],[],[],v5.1⟩:aB))).bind (λ z=>zQ2 z)
@[reducible,instance] def zen0 (j2:bD×aB) {T1:Type} (v8:T1):=mkJ (zQ1 j2,v8) 4 (@zag8.eq_1) λ(j3:bD×aB)=>⟨[(2,.ptr 1 0 0),(3,.ptr 2 0 0)],[(0,bx j3.1),(1,bx aB.zero),(2,⟨false,8,aB.enc aB.zero,[[.str j3.2.aA.name,.int .i64 j3.2.aA.kind,.int .i64 j3.2.aA.aS,.int .i64 j3.2.aA.home,.own 3 0 j3.2.aP.length,.own 4 0 j3.2.aN.length,.own 5 0 j3.2.aT.length,.int .i64 j3.2.gen]]⟩),(3,sx j3.2.aP),(4,sx j3.2.aN),(5,sx j3.2.aT)],6⟩
@[reducible,instance] def zen1 {T:Type} (x:T):=mkL x (@zag9.eq_1) λ(g1:Int×bD×aB)=>⟨[(0,.ptr 0 0 0),(2,.ptr 1 0 0),(3,.ptr 2 0 0),(8,.int .i64 g1.1)],[(0,bx g1.2.1),(1,bx aB.zero),(2,⟨false,8,aB.enc aB.zero,[[.str g1.2.2.aA.name,.int .i64 g1.2.2.aA.kind,.int .i64 g1.2.2.aA.aS,.int .i64 g1.2.2.aA.home,.own 3 0 g1.2.2.aP.length,.own 4 0 g1.2.2.aN.length,.own 5 0 g1.2.2.aT.length,.int .i64 g1.2.2.gen]]⟩),(3,sx g1.2.2.aP),(4,sx g1.2.2.aN),(5,sx g1.2.2.aT)],6⟩
@[reducible,instance] def zen2 (j1:bD×aB) {T1:Type} (v7:T1):=mkJ (zQ2 j1,v7) 2 (@zQ1.eq_1) λ(j2:bD×aB)=>⟨[(0,.ptr 0 0 0),(2,.ptr 1 0 0),(3,.ptr 2 0 0)],[(0,bx j2.1),(1,bx aB.zero),(2,⟨false,8,aB.enc aB.zero,[[.str j2.2.aA.name,.int .i64 j2.2.aA.kind,.int .i64 j2.2.aA.aS,.int .i64 j2.2.aA.home,.own 3 0 j2.2.aP.length,.own 4 0 j2.2.aN.length,.own 5 0 j2.2.aT.length,.int .i64 j2.2.gen]]⟩),(3,sx j2.2.aP),(4,sx j2.2.aN),(5,sx j2.2.aT)],6⟩
@[reducible,instance] def zen3 {T:Type} (x:T):=mkL x (@zah0.eq_1) λ(g2:Int×bD×aB)=>⟨[(0,.ptr 0 0 0),(2,.ptr 1 0 0),(3,.ptr 2 0 0),(6,.int .i64 g2.1)],[(0,bx g2.2.1),(1,bx aB.zero),(2,⟨false,8,aB.enc aB.zero,[[.str g2.2.2.aA.name,.int .i64 g2.2.2.aA.kind,.int .i64 g2.2.2.aA.aS,.int .i64 g2.2.2.aA.home,.own 3 0 g2.2.2.aP.length,.own 4 0 g2.2.2.aN.length,.own 5 0 g2.2.2.aT.length,.int .i64 g2.2.2.gen]]⟩),(3,sx g2.2.2.aP),(4,sx g2.2.2.aN),(5,sx g2.2.2.aT)],6⟩
@[reducible,instance] def zen4 (a0:bD) {T1:Type} (v1:T1) {T2:Type} (v2:T2) {T3:Type} (v3:T3) {T4:Type} (v4:T4) {T5:Type} (v5:T5) {T6:Type} (v6:T6):=mkJ ((((((zi1 a0,v1),v2),v3),v4),v5),v6) 0 (@zQ2.eq_1) λ(j1:bD×aB)=>⟨[(0,.ptr 0 0 0),(2,.ptr 1 0 0),(3,.ptr 2 0 0)],[(0,bx j1.1),(1,bx aB.zero),(2,⟨false,8,aB.enc aB.zero,[[.str j1.2.aA.name,.int .i64 j1.2.aA.kind,.int .i64 j1.2.aA.aS,.int .i64 j1.2.aA.home,.own 3 0 j1.2.aP.length,.own 4 0 j1.2.aN.length,.own 5 0 j1.2.aT.length,.int .i64 j1.2.gen]]⟩),(3,sx j1.2.aP),(4,sx j1.2.aN),(5,sx j1.2.aT)],6⟩
@[reducible,instance] def zen5 {T:Type} (x:T):=mkL x (@zah1.eq_1) λ(g3:Int×bD×aB)=>⟨[(0,.ptr 0 0 0),(2,.ptr 1 0 0),(3,.ptr 2 0 0),(4,.int .i64 g3.1)],[(0,bx g3.2.1),(1,bx aB.zero),(2,⟨false,8,aB.enc aB.zero,[[.str g3.2.2.aA.name,.int .i64 g3.2.2.aA.kind,.int .i64 g3.2.2.aA.aS,.int .i64 g3.2.2.aA.home,.own 3 0 g3.2.2.aP.length,.own 4 0 g3.2.2.aN.length,.own 5 0 g3.2.2.aT.length,.int .i64 g3.2.2.gen]]⟩),(3,sx g3.2.2.aP),(4,sx g3.2.2.aN),(5,sx g3.2.2.aT)],6⟩
instance zbL5(a0:bD):OkM (zi1 a0) 49 [.ptr 0 0 0] [(0,bx a0)] 1 (λ r=>ga r.1) (λ r=>[(0,bx r.2)]) 1:=⟨λ r h=>by
 refine zaK6 Tryz.f49 [(3,114)] [ga r.1] λ E hG hN hK=>?_;have hm:Mk (zi1 a0):=trivial;unfold zi1 at h;refine za3 (za8 hG ?_);refine za3 (za8 hG ?_);refine g_gh (.ownb 2 4 5 (bA.enc bA.zero)) ?_;refine g_gh (.ownb 2 5 7 (aU.enc aU.zero)) ?_;refine g_gh (.ownb 2 6 7 (aU.enc aU.zero)) ?_;refine za3 (za8 hG ?_);obtain⟨v1,hv1,h⟩:=zf3 h;have hm:=mkP hm v1;refine zv5 [(0,0)] [] [0] ((zam3 a0).ok _ hv1) rfl rfl ?_;refine za3 (za8 hG ?_);obtain⟨v2,hv2,h⟩:=zf3 h;have hm:=mkP hm v2;refine zv5 [(0,0)] [] [0] ((zC5 v1.2).ok _ hv2) rfl rfl ?_;refine za3 (za8 hG ?_);obtain⟨v3,hv3,h⟩:=zf3 h;have hm:=mkP hm v3;refine zv5 [(0,0)] [] [0] ((zC5 v2.2).ok _ hv3) rfl rfl ?_;refine za3 (za8 hG ?_);obtain⟨v4,hv4,h⟩:=zf3 h;have hm:=mkP hm v4;refine zv5 [(0,0)] [] [0] ((zC5 v3.2).ok _ hv4) rfl rfl ?_;refine za3 (za8 hG ?_);obtain⟨v5,hv5,h⟩:=zf3 h;have hm:=mkP hm v5;refine zv5 [(0,0)] [] [0] ((zC5 v4.2).ok _ hv5) rfl rfl ?_;refine za3 (za3 (za8 hG ?_));obtain⟨v6,hv6,h⟩:=zf3 h;have hm:=mkP hm v6;refine zv5 [(0,0)] [] [0] ((zI7 8 v5.2).ok _ hv6) rfl rfl ?_;refine zaB6 hm h (λ j1 hm h=>?_) ?_
 · try refine g_st ?_
   refine za3 (za3 (za8 hG ?_));obtain⟨v7,hv7,h⟩:=zf3 h;have hm:=mkP hm v7;refine zv5 [(0,0)] [] [0] ((zI7 8 j1.1).ok _ hv7) rfl rfl ?_;refine zaB6 hm h (λ j2 hm h=>?_) ?_
   · try refine g_st ?_
     refine za3 (za3 (za8 hG ?_));obtain⟨v8,hv8,h⟩:=zf3 h;have hm:=mkP hm v8;refine zv5 [(0,0)] [] [0] ((zI7 8 j2.1).ok _ hv8) rfl rfl ?_;refine zaB6 hm h (λ j3 hm h=>?_) ?_
     · try refine g_st ?_
       refine za3 (za8 hG ?_);refine g_gh (.fz [3,4,5]) ?_;exact gogo
     exact gogo
   exact gogo
 exact gogo⟩
attribute [local irreducible] zi1
def zbb2(j1:Unit):Option Bool:=
 some true
def zas1(a0:List aH)(g1:Int):Option (Int⊕(Unit⊕Bool)):=
 (if(decide (g1<(a0.length:Int)))=true then
  gd (0<=g1/\g1<(a0.length:Int))<|
  (zi5 (a0.getD g1.toNat aH.zero)).bind λ v1=>
  gd ((v1&&decide (0<g1))=true->0<=i64.wrap (g1-1)/\i64.wrap (g1-1)<(a0.length:Int))<|
  gd ((v1&&decide (0<g1))=true->0<=g1/\g1<(a0.length:Int))<|
  (if((!v1)||(decide (0<g1)&&(!Op.bytesLess ((a0.getD ((i64.wrap (g1-1)).toNat) aH.zero).name).toList ((a0.getD g1.toNat aH.zero).name).toList)))=true then
   some (.inr (.inr false))
  else
   some (.inl (i64.wrap (g1+1))))
 else
  some (.inr (.inl ())))
def zv9(a0:List aH):Option Bool:=
 (if(decide (8<(a0.length:Int)))=true then
  some false
 else
  (zc2 (zas1 a0) 0).bind (λ|.inl z=>zbb2 z|.inr z=>some z))
@[reducible,instance] def zen6 a0:=mkJ (zv9 a0) 0 (@zbb2.eq_1) λ(j1:Unit)=>⟨[],[],0⟩
@[reducible,instance] def zen7 (a0:List aH) {T:Type} (x:T):=mkL x (@zas1.eq_1 a0) λ(g1:Int)=>⟨[(0,la a0),(3,.int .i64 g1)],[],0⟩
instance zdr3(a0:List aH):OkP (zv9 a0) 131 [la a0] (λ r=>.bool r):=ok1 (zv9.eq_1 a0) Tryz.f131 []
attribute [local irreducible] zv9
def zy7(a0:aH)(a1 a2:aC):Option aC:=
 (if((!(zw6 a0 a1))||(!(zw6 a0 a2)))=true then
  some ({aC.zero with})
 else
  (if(zu4 a0 a1 a2)=true then
   some a1
  else
   (if(zu4 a0 a2 a1)=true then
    some a2
   else
    (zv1 a1.mode a2.mode).bind λ v1=>
    some ({aC.zero with mode:=v1}))))
instance zcg0(a0:aH)(a1 a2:aC):OkP (zy7 a0 a1 a2) 190 [ga a0,ga a1,ga a2] (λ r=>ga r):=ok1 (zy7.eq_1 a0 a1 a2) Tryz.f190 []
attribute [local irreducible] zy7
def zN7(a0:List aH)(j1:bL×bH):Option (bH×bL):=
 (zu1 a0 j1.1).bind λ v3=>
 some ({j1.2 with bN:=v3.1},v3.2)
@[go_sem] def zdM7(a0:List aH)(j1:bL×bH):St:=⟨[(0,.ptr 0 0 0),(1,la a0),(4,.ptr 1 0 0),(5,.ptr 2 0 0)],[(0,bx j1.1),(1,bx bH.zero),(2,bx j1.2)],3⟩
def zs8(a0:List aH)(a1:bL):Option (bH×bL):=
 (zb9 8 a1).bind λ v1=>
 (zb9 5 v1.2).bind λ v2=>
 (if(decide (v2.1=1))=true then
  (zb9 20 v2.2).bind λ v4=>
  zN7 a0 (v4.2,{{bH.zero with aZ:=v1.1}with limit:=(i64.wrap (1+v4.1))})
 else
  zN7 a0 (v2.2,{bH.zero with aZ:=v1.1}))
theorem zbx2(a0:List aH)(a1:bL)(r:bH×bL)(h:zs8 a0 a1=some r):MFn C 130 [.ptr 0 0 0,la a0] [(0,bx a1)] 1 (ga r.1) [(0,bx r.2)] 1:=by
 refine zaK6 Tryz.f130 [] [ga r.1] λ E hG hN hK=>?_;unfold zs8 at h;refine za3 (za8 hG ?_);refine za3 (za8 hG ?_);obtain⟨v1,hv1,h⟩:=zf3 h;refine zv5 [(0,0)] [] [0] ((zw1 8 a1).ok _ hv1) rfl rfl ?_;refine za3 (za3 (za8 hG ?_));obtain⟨v2,hv2,h⟩:=zf3 h;refine zv5 [(0,0)] [] [0] ((zw1 5 v1.2).ok _ hv2) rfl rfl ?_;refine zbq3 (zdM7 a0) (λ v=>zN7 a0 v=some r) rfl hG h ?_ (λ _ h=>?_) (λ _ h=>?_)
 · intro j1 h
   unfold zN7 at h;refine g_st ?_;refine za3 (za8 hG ?_);obtain⟨v3,hv3,h⟩:=zf3 h;refine zv5 [(0,0)] [] [0] ((zbN7 a0 j1.1).ok _ hv3) rfl rfl ?_;refine za3 (za8 hG ?_);refine zx6 ?_;exact zV5 [(0,0)] h
 · refine za8 hG ?_
   obtain⟨v4,hv4,h⟩:=zf3 h;refine zv5 [(0,0)] [] [0] ((zw1 20 v2.2).ok _ hv4) rfl rfl ?_;exact zJ8 hK [(0,0),(1,1),(2,2)] (v4.2,{{bH.zero with aZ:=v1.1}with limit:=(i64.wrap (1+v4.1))}) (by exact h)
 refine zo1 ?_;exact zJ8 hK [(0,0),(1,1),(2,2)] (v2.2,{bH.zero with aZ:=v1.1}) (by exact h)
instance zcL7(a0:List aH)(a1:bL):OkM (zs8 a0 a1) 130 [.ptr 0 0 0,la a0] [(0,bx a1)] 1 (λ r=>ga r.1) (λ r=>[(0,bx r.2)]) 1:=⟨zbx2 a0 a1⟩
attribute [local irreducible] zs8
end
end Ab
end Go.Proofs.YtenebhlnfjcffaaGreatDoor
