import Derived.Test.YtenebhlnfjcffaaGreatDoorHm10
import Derived.Test.YtenebhlnfjcffaaGreatDoorHm12
import Derived.Test.YtenebhlnfjcffaaGreatDoorHm6
namespace Go.Proofs.YtenebhlnfjcffaaGreatDoor
namespace Ab
open IntKind (i64 u64 u8)
set_option linter.unusedSimpArgs false
set_option linter.defProp false
set_option linter.unusedVariables false
set_option maxRecDepth 100000
set_option maxHeartbeats 1000000
noncomputable section
attribute [local irreducible] zn8 zf5 zb5 za4 ze1 zm5 zb6 zb1 zo2 zi2 zl5 zi9 zn1 zf4 zd8 zg3 zk3 ze8 za7 zb2 zh7 zj7 zj3 zi8 zh4 zk4 zd0 zd9 zj9 zp2 zm8 zh0 zf8 ze0 ze4 zc8 za9 zk6 zh1 zo5 zh2 f_ref08_holds zc7 zl8 zg5 zh8 zn7 zg1 zi3 zf9 zb3 za0 zj2 zn3 zl9 zf0 zh5 zf1 zb7 ze2 zf2 zi6 zj8 zo7 zd6 ze5 zh9 zn4 zm3 zk2 zn9 zd7 zb9 zq5 zr0 zd4 zk7 zd1 zl3 zs0 zb0 ze9 za6 zi7 zc6 za1 zg2 zl4 zf6 zs1 ze7 zj0 zd3 ze6 zc0 zt1 zk1 zm1 zq8 zc1 zp3 zn6 zl1 zi0 zr1 zg7 zt7 zm2 zl6 zj4 zk0 zp4 zv1 zl2
def zaj7(j1:Bool):Option Bool:=
 some j1
@[go_sem] def zdT1(j1:Bool):St:=⟨[(5,.bool j1)],[],0⟩
def zV8(a1:List aC)(g1:Int×Int×(Arr Bool 6))(j2:Unit):Option ((Int×Int×(Arr Bool 6))⊕Bool):=
 gd (0<=(a1.getD g1.2.1.toNat aC.zero).mode/\(a1.getD g1.2.1.toNat aC.zero).mode<6)<|
 some (.inl ((i64.wrap (g1.1+(a1.getD g1.2.1.toNat aC.zero).aS)),i64.wrap (g1.2.1+1),Arr.put g1.2.2 (((a1.getD g1.2.1.toNat aC.zero).mode).toNat) true))
@[go_sem] def zdT2(a0:aH)(a1:List aC)(g1:Int×Int×(Arr Bool 6))(j2:Unit):St:=⟨[(2,.ptr 0 0 0),(5,.bool true),(6,.ptr 1 0 0),(7,.int .i64 (i64.wrap (g1.1+(a1.getD g1.2.1.toNat aC.zero).aS))),(9,.ptr 2 0 0),(15,la a1),(16,.int .i64 (a1.length:Int)),(17,.int .i64 g1.2.1)],[(0,bx a0),(1,⟨false,6,Arr.enc eB (Arr.rep 6 false),[Arr.enc eB g1.2.2]⟩),(2,bx (a1.getD g1.2.1.toNat aC.zero))],3⟩
def zG0(a1:List aC)(g1:Int×Int×(Arr Bool 6))(g2:Int):Option (Int⊕(Unit⊕Bool)):=
 (if(decide (g2<6))=true then
  gd (0<=g2/\g2<6)<|
  ((if(Arr.get g1.2.2 g2.toNat false)=true then zh9 g2 ((a1.getD g1.2.1.toNat aC.zero).mode)else some false)).bind λ v1=>
  (if(Arr.get g1.2.2 g2.toNat false&&(!v1))=true then
   some (.inr (.inr false))
  else
   some (.inl (i64.wrap (g2+1))))
 else
  some (.inr (.inl ())))
@[go_sem] def zdT3(a0:aH)(a1:List aC)(g1:Int×Int×(Arr Bool 6))(g2:Int):St:=⟨[(2,.ptr 0 0 0),(5,.bool true),(6,.ptr 1 0 0),(7,.int .i64 (i64.wrap (g1.1+(a1.getD g1.2.1.toNat aC.zero).aS))),(9,.ptr 2 0 0),(15,la a1),(16,.int .i64 (a1.length:Int)),(17,.int .i64 g1.2.1),(41,.agg (Arr.enc eB g1.2.2)),(42,.int .i64 g2)],[(0,bx a0),(1,⟨false,6,Arr.enc eB (Arr.rep 6 false),[Arr.enc eB g1.2.2]⟩),(2,bx (a1.getD g1.2.1.toNat aC.zero))],3⟩
def zM8(a0:aH)(a1:List aC)(g1:Int×Int×(Arr Bool 6)):Option ((Int×Int×(Arr Bool 6))⊕Bool):=
 (if(decide (g1.2.1<(a1.length:Int)))=true then
  gd (0<=g1.2.1/\g1.2.1<(a1.length:Int))<|
  (if((!(zc9 a0 (a1.getD g1.2.1.toNat aC.zero)))||decide (a0.aS<i64.wrap (g1.1+(a1.getD g1.2.1.toNat aC.zero).aS)))=true then
   some (.inr false)
  else
   (if(decide ((a1.getD g1.2.1.toNat aC.zero).mode=0))=true then
    some (.inl ((i64.wrap (g1.1+(a1.getD g1.2.1.toNat aC.zero).aS)),i64.wrap (g1.2.1+1),g1.2.2))
   else
    (zc2 (zG0 a1 g1) 0).bind (λ|.inl z=>zV8 a1 g1 z|.inr z=>some (.inr z))))
 else
  some (.inr true))
@[go_sem] def zdT4(a0:aH)(a1:List aC)(g1:Int×Int×(Arr Bool 6)):St:=⟨[(2,.ptr 0 0 0),(5,.bool true),(6,.ptr 1 0 0),(7,.int .i64 g1.1),(15,la a1),(16,.int .i64 (a1.length:Int)),(17,.int .i64 g1.2.1)],[(0,bx a0),(1,⟨false,6,Arr.enc eB (Arr.rep 6 false),[Arr.enc eB g1.2.2]⟩)],2⟩
def zk5(a0:aH)(a1:List aC):Option Bool:=
 (if(!(zg4 a0))=true then
  some false
 else
  (zc2 (zM8 a0 a1) (0,0,Arr.rep 6 false)).bind (λ z=>zaj7 z))
theorem zbm4(a0:aH)(a1:List aC)(r:Bool)(h:zk5 a0 a1=some r):PFn C 259 [ga a0,la a1] (.bool r):=by
 refine zae9 Tryz.f259 [] λ E hG hN hK=>?_;unfold zk5 at h;refine za3 (za8 hG ?_);refine zdl9 ?_;refine za3 (za3 (za8 hG ?_));refine zw9 (λ hg=>(zbF4 a0).ok) ?_;refine zq4 rfl hG h (λ _ h=>?_) (λ _ h=>?_)
 · refine za3 (za8 hG ?_)
   refine zx6 ?_;exact zS5 h
 refine zo1 ?_;refine za3 (za8 hG ?_);refine za3 (za8 hG ?_);refine za3 (za8 hG ?_);refine za3 ?_;refine zdC7 ?_;refine za3 (za3 (za8 hG ?_));refine zO8 zdT1 (λ v=>zaj7 v=some r) ?_ ?_
 · intro j1 h
   unfold zaj7 at h;refine g_st ?_;refine za3 (za8 hG ?_);refine zx6 ?_;exact zS5 h
 refine zau2 (zdT4 a0 a1) hK [(0,0),(1,1)] h (λ x_l1 h g1 y_l1 h_l1 hx_l1=>?_);unfold zM8 at h_l1;refine g_st ?_;refine za3 (za8 hG ?_);refine za3 ?_;refine zq4 rfl hG h_l1 (λ _ h_l1=>?_) (λ _ h_l1=>?_)
 · refine zo1 ?_
   refine za3 (zM3 (za3 ?_));obtain⟨hb3,h_l1⟩:=zg8 h_l1;refine za8 hG ?_;refine za3 (za3 (za8 hG ?_));refine zw9 (λ hg=>(zbs1 a0 (a1.getD g1.2.1.toNat aC.zero)).ok) ?_;refine zq4 rfl hG h_l1 (λ _ h_l1=>?_) (λ _ h_l1=>?_)
   · refine za3 (za8 hG ?_)
     refine zS4 ?_;cases h_l1;cases hx_l1 _ rfl;exact zJ8 hK [] false (by exact h)
   refine zo1 ?_;refine za3 (za8 hG ?_);refine za3 (za3 (za8 hG ?_));refine zq4 rfl hG h_l1 (λ _ h_l1=>?_) (λ _ h_l1=>?_)
   · refine zS4 ?_
     refine za8 hG ?_;exact zZ9 hK [(0,0),(1,1)] h_l1
   refine zo1 ?_;refine za3 (za3 (za8 hG ?_));refine zO8 (zdT2 a0 a1 g1) (λ v=>zV8 a1 g1 v=some y_l1) ?_ ?_
   · intro j2 h_l1
     unfold zV8 at h_l1;refine g_st ?_;obtain⟨hb1,h_l1⟩:=zg8 h_l1;refine za8 hG ?_;refine za8 hG ?_;exact zZ9 hK [(0,0),(1,1)] h_l1
   refine zau2 (zdT3 a0 a1 g1) hK [(0,0),(1,1),(2,2)] h_l1 (λ x_l2 h_l1 g2 y_l2 h_l2 hx_l2=>?_);unfold zG0 at h_l2;refine g_st ?_;refine za3 (za8 hG ?_);refine za3 ?_;refine zq4 rfl hG h_l2 (λ _ h_l2=>?_) (λ _ h_l2=>?_)
   · refine zo1 ?_
     refine za3 (zM3 (za3 ?_));obtain⟨hb2,h_l2⟩:=zg8 h_l2;refine za8 hG ?_;refine za3 (za8 hG ?_);obtain⟨v1,hv1,h_l2⟩:=zf3 h_l2;refine zw9 (λ hg=>(zbw6 g2 ((a1.getD g1.2.1.toNat aC.zero).mode)).ok _ (zaZ9 hg hv1)) ?_;refine zq4 rfl hG h_l2 (λ _ h_l2=>?_) (λ _ h_l2=>?_)
     · refine za3 (za8 hG ?_)
       refine zS4 ?_;obtain rfl:=dS h_l2;have hx:=hx_l2 _ rfl;subst hx
       try dsimp only at h_l1
       cases h_l1;cases hx_l1 _ rfl;exact zJ8 hK [] false (by exact h)
     refine zo1 ?_;refine za8 hG ?_;exact zZ9 hK [(0,0),(1,1),(2,2)] h_l2
   refine zS4 ?_;obtain rfl:=dS h_l2;have hx:=hx_l2 _ rfl;subst hx
   try dsimp only at h_l1
   exact zJ8 hK [(0,0),(1,1),(2,2)] () (by exact h_l1)
 refine zS4 ?_;cases h_l1;cases hx_l1 _ rfl;exact zJ8 hK [] true (by exact h)
instance zcv6(a0:aH)(a1:List aC):OkP (zk5 a0 a1) 259 [ga a0,la a1] (λ r=>.bool r):=⟨zbm4 a0 a1⟩
attribute [local irreducible] zk5
def zp5(a0:aH)(a1 a2:aC):Option Bool:=
 (if((!(zc9 a0 a1))||(!(zc9 a0 a2)))=true then
  some false
 else
  (if(zk8 a1||zk8 a2)=true then
   some (zk8 a2)
  else
   (if(decide (a0.kind=1))=true then
    (zm3 a1.mode a2.mode).bind λ v1=>
    some v1
   else
    some (decide (a2.aS<=a1.aS)))))
instance zdb3(a0:aH)(a1 a2:aC):OkP (zp5 a0 a1 a2) 232 [ga a0,ga a1,ga a2] (λ r=>.bool r):=ok1 (zp5.eq_1 a0 a1 a2) Tryz.f232 []
attribute [local irreducible] zp5
def zbi7(j1:Unit):Option Bool:=
 some true
def zU3(a0:List aU)(g1:Int):Option (Int⊕(Unit⊕Bool)):=
 (if(decide (g1<(a0.length:Int)))=true then
  gd (0<=g1/\g1<(a0.length:Int))<|
  ((if(zm9 (a0.getD g1.toNat aU.zero))=true then zn7 a0 ((a0.getD g1.toNat aU.zero).aK)else some 0)).bind λ v1=>
  (if((!(zm9 (a0.getD g1.toNat aU.zero)))||(!decide (v1=g1)))=true then
   some (.inr (.inr false))
  else
   some (.inl (i64.wrap (g1+1))))
 else
  some (.inr (.inl ())))
def zu2(a0:List aU):Option Bool:=
 (if(decide (8<(a0.length:Int)))=true then
  some false
 else
  (zc2 (zU3 a0) 0).bind (λ|.inl z=>zbi7 z|.inr z=>some z))
@[reducible,instance] def zez6 a0:=mkJ (zu2 a0) 0 (@zbi7.eq_1) λ(j1:Unit)=>⟨[],[],0⟩
@[reducible,instance] def zez7 (a0:List aU) {T:Type} (x:T):=mkL x (@zU3.eq_1 a0) λ(g1:Int)=>⟨[(0,la a0),(8,la a0),(9,.int .i64 (a0.length:Int)),(10,.int .i64 g1)],[],0⟩
instance zdz3(a0:List aU):OkP (zu2 a0) 262 [la a0] (λ r=>.bool r):=ok1 (zu2.eq_1 a0) Tryz.f262 []
attribute [local irreducible] zu2
def zA9(j1:Unit):Option Bool:=
 some true
def zB0(a0 a1:List bP)(g1:Int):Option (Int⊕(Unit⊕Bool)):=
 (if(decide (g1<(a0.length:Int)))=true then
  gd (0<=g1/\g1<(a0.length:Int))<|
  gd (0<=g1/\g1<(a1.length:Int))<|
  (zj4 (a0.getD g1.toNat bP.zero) (a1.getD g1.toNat bP.zero)).bind λ v1=>
  (if(!v1)=true then
   some (.inr (.inr false))
  else
   some (.inl (i64.wrap (g1+1))))
 else
  some (.inr (.inl ())))
def za5(a0 a1:List bP):Option Bool:=
 (if(!decide ((a0.length:Int)=(a1.length:Int)))=true then
  some false
 else
  (zc2 (zB0 a0 a1) 0).bind (λ|.inl z=>zA9 z|.inr z=>some z))
@[reducible,instance] def zei1 a0 a1:=mkJ (za5 a0 a1) 0 (@zA9.eq_1) λ(j1:Unit)=>⟨[],[],0⟩
@[reducible,instance] def zei2 (a0 a1:List bP) {T:Type} (x:T):=mkL x (@zB0.eq_1 a0 a1) λ(g1:Int)=>⟨[(1,la a1),(2,.clo 56 []),(15,la a0),(16,.int .i64 (a0.length:Int)),(17,.int .i64 g1)],[],0⟩
instance zQ0(a0 a1:List bP):OkM (za5 a0 a1) 55 [la a0,la a1,.clo 56 []] [] 0 (λ r=>.bool r) (λ r=>[]) 0:=okm (za5.eq_1 a0 a1) (λ r=>[.bool r]) Tryz.f55 []
attribute [local irreducible] za5
@[go_sem] theorem zei3(s:List Nat)(P:A->Prop):(∀x∈s.map iE,∀a∈x,P a)=(∀i∈s,P (.int .i64 (i:Nat))):=propext ⟨λ h i hi=>h _ (cI.2 ⟨i,hi,rfl⟩) _ (.head _),λ h x hx a ha=>by
 obtain⟨i,hi,rfl⟩:=cI.1 hx;obtain rfl:a=.int .i64 (i:Nat):=by simpa [iE]using ha
 exact h i hi⟩
def zS8(j1:(List aJ)):Option (List aJ):=
 (zc0 j1).bind λ v2=>
 some v2
@[go_sem] def zdM3(j1:(List aJ)):St:=⟨[(3,.own 0 0 j1.length)],[(0,sx j1)],1⟩
def zS9(e0:ByteArray×aC)(g1:(List aJ)):Option ((List aJ)⊕(List aJ)):=
 (if(!decide (e0.2={aC.zero with}))=true then
  gd (g1.length+1<=4294967296)<|
  some (.inl (g1++[(⟨e0.1,e0.2⟩:aJ)]))
 else
  some (.inl g1))
@[go_sem] def zdM4(v1:(List (ByteArray×aC)))(s0:List Nat)(g1:(List aJ)):St:=⟨[(3,.own 0 0 g1.length),(9,.it 1)],[(0,sx g1),(1,⟨false,0,[],[.mp 2,.int .i64 (v1.length:Int)]::s0.map iE⟩),(2,⟨false,0,[A.str ⟨#[]⟩,A.bool true],v1.map (mS aC.enc)⟩)],3⟩
def zm6(a0:aW):Option (List aJ):=
 (zh0 a0.aD).bind λ v1=>
 rngO v1 (⟨#[]⟩,aC.zero) zS9 (λ g1:(List aJ)=>g1) [] (λ z=>zS8 z)
theorem zbw9(a0:aW)(r:(List aJ))(h:zm6 a0=some r):PFn C 108 [ga a0] (la r):=by
 refine zae9 Tryz.f108 [(3,1),(10,220),(12,220)] λ E hG hN hK=>?_;unfold zm6 at h;refine za3 (za8 hG ?_);refine za3 (za8 hG ?_);refine za3 (za3 (za8 hG ?_));obtain⟨v1,hv1,h⟩:=zf3 h;refine zv5 [] [(0,2)] [0] ((zbB4 a0.aD).ok _ hv1) rfl rfl ?_;refine zO8 zdM3 (λ v=>zS8 v=some r) ?_ ?_
 · intro j1 h
   unfold zS8 at h;refine g_st ?_;refine za3 (za8 hG ?_);obtain⟨v2,hv2,h⟩:=zf3 h;have hl_v2:=zan6 j1 _ hv2;refine zv5 [(0,0)] [] [0] (zan7 _ _ hv2) rfl rfl ?_;refine za3 (za8 hG ?_);refine zx6 ?_;exact zS5 h
 refine zdS7 (zdM4 v1) hK [(0,1),(1,3),(2,2)] h (λ s0 g1 hP_l1=>?_);refine g_st ?_;refine za3 (za8 hG ?_);refine⟨λ ix0 hi0 hns0=>?_,λ hall0=>?_⟩
 · obtain⟨y_l1,h_l1,hP1_l1,hx_l1⟩:=zdn8 hP_l1 hi0 hns0
   unfold zS9 at h_l1
   try refine g_st ?_
   refine za3 ?_;refine zbe8 rfl hG ?_;refine zo1 ?_;refine zM3 (za3 (za8 hG ?_));refine za3 (za8 hG ?_);refine zq4 rfl hG h_l1 (λ _ h_l1=>?_) (λ _ h_l1=>?_)
   · obtain⟨hb1,h_l1⟩:=zg8 h_l1
     refine za8 hG ?_;exact zcT7 hK [(0,4),(1,1),(2,2)] h_l1 hP1_l1
   refine zo1 ?_;exact zcT7 hK [(0,0),(1,1),(2,2)] h_l1 hP1_l1
 try refine g_st ?_
 refine za3 ?_;refine zbQ6 rfl hG ?_;refine zS4 ?_;have h:=zdC6 hP_l1 hall0
 try dsimp only at h
 exact zJ8 hK [(0,0)] g1 (by exact h)
instance zcH9(a0:aW):OkP (zm6 a0) 108 [ga a0] (λ r=>la r):=⟨zbw9 a0⟩
attribute [local irreducible] zm6
def zaR7(j1:Unit):Option Bool:=
 some true
def zaj8(a0:List aH)(g1:Int):Option (Int⊕(Unit⊕Bool)):=
 (if(decide (g1<(a0.length:Int)))=true then
  gd (0<=g1/\g1<(a0.length:Int))<|
  (ze7 (a0.getD g1.toNat aH.zero)).bind λ v1=>
  gd ((v1&&decide (0<g1))=true->0<=i64.wrap (g1-1)/\i64.wrap (g1-1)<(a0.length:Int))<|
  (if((!v1)||(decide (0<g1)&&(!Op.bytesLess ((a0.getD ((i64.wrap (g1-1)).toNat) aH.zero).name).toList ((a0.getD g1.toNat aH.zero).name).toList)))=true then
   some (.inr (.inr false))
  else
   some (.inl (i64.wrap (g1+1))))
 else
  some (.inr (.inl ())))
def zq7(a0:List aH):Option Bool:=
 (if(decide (8<(a0.length:Int)))=true then
  some false
 else
  (zc2 (zaj8 a0) 0).bind (λ|.inl z=>zaR7 z|.inr z=>some z))
@[reducible,instance] def zei4 a0:=mkJ (zq7 a0) 0 (@zaR7.eq_1) λ(j1:Unit)=>⟨[],[],0⟩
@[reducible,instance] def zei5 (a0:List aH) {T:Type} (x:T):=mkL x (@zaj8.eq_1 a0) λ(g1:Int)=>⟨[(0,la a0),(8,la a0),(9,.int .i64 (a0.length:Int)),(10,.int .i64 g1)],[],0⟩
instance zdb4(a0:List aH):OkP (zq7 a0) 278 [la a0] (λ r=>.bool r):=ok1 (zq7.eq_1 a0) Tryz.f278 []
attribute [local irreducible] zq7
def zi5(a0:aH):Option Bool:=
 (zi0 a0.name).bind λ v1=>
 some (((v1&&zM6 a0)&&decide (0<=a0.home))&&decide (a0.home<4))
instance zcq9(a0:aH):OkP (zi5 a0) 192 [ga a0] (λ r=>.bool r):=ok1 (zi5.eq_1 a0) Tryz.f192 []
attribute [local irreducible] zi5
def zt9(a0:aB):Option (List aL):=
 (zi2 a0.aP).bind λ v1=>
 (zl5 a0).bind λ v2=>
 gd (v1.length+v2.length<=4294967296)<|
 (zk1 (v1++v2)).bind λ v3=>
 some v3
instance zdq3(a0:aB):OkP (zt9 a0) 115 [ga a0] (λ r=>la r):=ok1 (zt9.eq_1 a0) Tryz.f115 []
attribute [local irreducible] zt9
def zar7(a1:aL)(a2:aC)(j1:Int×(List bA)):Option (List bA):=
 (if(zk8 a2)=true then
  some j1.2
 else
  (if(decide (j1.1<0))=true then
   gd (j1.2.length+1<=4294967296)<|
   gd (0<=i64.wrap (((j1.2.length:Nat):Int)+1)/\i64.wrap (((j1.2.length:Nat):Int)+1)<=((j1.2.length+1:Nat):Int)/\((j1.2.length+1:Nat):Int)<=((j1.2.length+1:Nat):Int))<|
   gd (0<=((j1.2.length:Nat):Int)/\((j1.2.length:Nat):Int)<=((j1.2.length+1:Nat):Int)/\((j1.2.length+1:Nat):Int)<=((j1.2.length+1:Nat):Int))<|
   gd (0<=((j1.2.length:Nat):Int)/\((j1.2.length:Nat):Int)<((j1.2.length+1:Nat):Int))<|
   some (((j1.2++[{bA.zero with}]).take (i64.wrap (((j1.2.length:Nat):Int)+1)).toNat++(((j1.2++[{bA.zero with}]).drop (((j1.2.length:Nat):Int).toNat)).take (j1.2.length+1-((j1.2.length:Nat):Int).toNat)).take (j1.2.length+1-(i64.wrap (((j1.2.length:Nat):Int)+1)).toNat)++(j1.2++[{bA.zero with}]).drop ((i64.wrap (((j1.2.length:Nat):Int)+1)).toNat+min (((j1.2++[{bA.zero with}]).drop (((j1.2.length:Nat):Int).toNat)).take (j1.2.length+1-((j1.2.length:Nat):Int).toNat)).length (j1.2.length+1-(i64.wrap (((j1.2.length:Nat):Int)+1)).toNat))).set (((j1.2.length:Nat):Int).toNat) (⟨a1,a2⟩:bA))
  else
   gd (j1.2.length+1<=4294967296)<|
   gd (0<=i64.wrap (j1.1+1)/\i64.wrap (j1.1+1)<=((j1.2.length+1:Nat):Int)/\((j1.2.length+1:Nat):Int)<=((j1.2.length+1:Nat):Int))<|
   gd (0<=j1.1/\j1.1<=((j1.2.length+1:Nat):Int)/\((j1.2.length+1:Nat):Int)<=((j1.2.length+1:Nat):Int))<|
   gd (0<=j1.1/\j1.1<((j1.2.length+1:Nat):Int))<|
   some (((j1.2++[{bA.zero with}]).take (i64.wrap (j1.1+1)).toNat++(((j1.2++[{bA.zero with}]).drop j1.1.toNat).take (j1.2.length+1-j1.1.toNat)).take (j1.2.length+1-(i64.wrap (j1.1+1)).toNat)++(j1.2++[{bA.zero with}]).drop ((i64.wrap (j1.1+1)).toNat+min (((j1.2++[{bA.zero with}]).drop j1.1.toNat).take (j1.2.length+1-j1.1.toNat)).length (j1.2.length+1-(i64.wrap (j1.1+1)).toNat))).set j1.1.toNat (⟨a1,a2⟩:bA))))
@[go_sem] def zdT5(a1:aL)(a2:aC)(j1:Int×(List bA)):St:=⟨[(4,.ptr 0 0 0),(5,.ptr 1 0 0),(7,.own 2 0 j1.2.length),(8,.int .i64 j1.1)],[(0,bx a1),(1,bx a2),(2,sx j1.2)],3⟩
def zX3(a0:List bA)(a1:aL)(g1:Int×Int×(List bA)):Option ((Int×Int×(List bA))⊕(Int×(List bA))):=
 (if(decide (g1.2.1<(a0.length:Int)))=true then
  gd (0<=g1.2.1/\g1.2.1<(a0.length:Int))<|
  (if(decide ((a0.getD g1.2.1.toNat bA.zero).aK=a1))=true then
   some (.inl (g1.1,i64.wrap (g1.2.1+1),g1.2.2))
  else
   ((if(decide (g1.1<0))=true then zd4 ((a0.getD g1.2.1.toNat bA.zero).aK) a1 else some 0)).bind λ v1=>
   (if(decide (g1.1<0)&&decide (0<v1))=true then
    gd (g1.2.2.length+1<=4294967296)<|
    some (.inl (((g1.2.2.length:Nat):Int),i64.wrap (g1.2.1+1),(g1.2.2++[(a0.getD g1.2.1.toNat bA.zero)])))
   else
    gd (g1.2.2.length+1<=4294967296)<|
    some (.inl (g1.1,i64.wrap (g1.2.1+1),(g1.2.2++[(a0.getD g1.2.1.toNat bA.zero)])))))
 else
  some (.inr (g1.1,g1.2.2)))
@[go_sem] def zdT6(a0:List bA)(a1:aL)(a2:aC)(g1:Int×Int×(List bA)):St:=⟨[(4,.ptr 0 0 0),(5,.ptr 1 0 0),(7,.own 2 0 g1.2.2.length),(8,.int .i64 g1.1),(15,la a0),(16,.int .i64 (a0.length:Int)),(17,.int .i64 g1.2.1)],[(0,bx a1),(1,bx a2),(2,sx g1.2.2)],3⟩
def zr4(a0:List bA)(a1:aL)(a2:aC):Option (List bA):=
 gd (0<=0/\0<=i64.wrap ((a0.length:Int)+1)/\i64.wrap ((a0.length:Int)+1)<=4294967296)<|
 (zc2 (zX3 a0 a1) ((-1),0,List.replicate 0 bA.zero)).bind (λ z=>zar7 a1 a2 z)
theorem zbW5(a0:List bA)(a1:aL)(a2:aC)(r:(List bA))(h:zr4 a0 a1 a2=some r):PFn C 208 [la a0,ga a1,ga a2] (la r):=by
 refine zae9 Tryz.f208 [] λ E hG hN hK=>?_;unfold zr4 at h;refine za3 (za8 hG ?_);refine za3 ?_;obtain⟨hb12,h⟩:=zg8 h;refine za8 hG ?_;refine za3 (za8 hG ?_);refine za3 (za3 (za8 hG ?_));refine zO8 (zdT5 a1 a2) (λ v=>zar7 a1 a2 v=some r) ?_ ?_
 · intro j1 h
   unfold zar7 at h;refine g_st ?_;refine za3 (za3 (za8 hG ?_));refine zw9 (λ hg=>(zbV7 a2).ok) ?_;refine zq4 rfl hG h (λ _ h=>?_) (λ _ h=>?_)
   · refine za3 (za8 hG ?_)
     refine zx6 ?_;exact zS5 h
   refine zo1 ?_;refine za3 (za3 (za8 hG ?_));refine zq4 rfl hG h (λ _ h=>?_) (λ _ h=>?_)
   · refine za8 hG ?_
     refine za3 ?_;obtain⟨hb4,h⟩:=zg8 h;refine za8 hG ?_;refine za3 ?_;obtain⟨hb2,h⟩:=zg8 h;obtain⟨hb3,h⟩:=zg8 h;refine zaM5 zM4 hG ?_;refine za3 ?_;obtain⟨hb1,h⟩:=zg8 h;refine za8 hG ?_;refine za3 (za8 hG ?_);refine zx6 ?_;exact zS5 h
   refine zo1 ?_;refine za3 ?_;obtain⟨hb8,h⟩:=zg8 h;refine za8 hG ?_;refine za3 ?_;obtain⟨hb6,h⟩:=zg8 h;obtain⟨hb7,h⟩:=zg8 h;refine zaM5 zM4 hG ?_;refine za3 ?_;obtain⟨hb5,h⟩:=zg8 h;refine za8 hG ?_;refine za3 (za8 hG ?_);refine zx6 ?_;exact zS5 h
 refine zau2 (zdT6 a0 a1 a2) hK [(0,0),(1,1),(2,2)] h (λ x_l1 h g1 y_l1 h_l1 hx_l1=>?_);unfold zX3 at h_l1;refine g_st ?_;refine za3 (za8 hG ?_);refine za3 ?_;refine zq4 rfl hG h_l1 (λ _ h_l1=>?_) (λ _ h_l1=>?_)
 · refine zo1 ?_
   refine za3 (zM3 (za3 ?_));obtain⟨hb11,h_l1⟩:=zg8 h_l1;refine za8 hG ?_;refine za3 (za3 (za8 hG ?_));refine zq4 rfl hG h_l1 (λ _ h_l1=>?_) (λ _ h_l1=>?_)
   · refine zS4 ?_
     refine za8 hG ?_;exact zZ9 hK [(0,0),(1,1),(2,2)] h_l1
   refine zo1 ?_;refine za3 (za3 (za8 hG ?_));obtain⟨v1,hv1,h_l1⟩:=zf3 h_l1;refine zw9 (λ hg=>(zaL0 ((a0.getD g1.2.1.toNat bA.zero).aK) a1).ok _ (zaZ9 hg hv1)) ?_;refine zq4 rfl hG h_l1 (λ _ h_l1=>?_) (λ _ h_l1=>?_)
   · refine za8 hG ?_
     obtain⟨hb9,h_l1⟩:=zg8 h_l1;refine za8 hG ?_;refine za8 hG ?_;exact zZ9 hK [(0,0),(1,1),(2,4)] h_l1
   refine zo1 ?_;obtain⟨hb10,h_l1⟩:=zg8 h_l1;refine za8 hG ?_;refine za8 hG ?_;exact zZ9 hK [(0,0),(1,1),(2,4)] h_l1
 refine zS4 ?_;cases h_l1;cases hx_l1 _ rfl;exact zJ8 hK [(0,0),(1,1),(2,2)] (g1.1,g1.2.2) (by exact h)
instance zdi8(a0:List bA)(a1:aL)(a2:aC):OkP (zr4 a0 a1 a2) 208 [la a0,ga a1,ga a2] (λ r=>la r):=⟨zbW5 a0 a1 a2⟩
attribute [local irreducible] zr4
def zbi8(j1:Int×(Arr Int 3)):Option (aL×Int×Int):=
 (if(!(zd2 (⟨(Arr.get j1.2 0 0),Arr.get j1.2 1 0,Arr.get j1.2 2 0⟩:aL)))=true then
  some ({aL.zero with},0,2)
 else
  some ((⟨(Arr.get j1.2 0 0),Arr.get j1.2 1 0,Arr.get j1.2 2 0⟩:aL),j1.1,0))
def zbi9(a0:List Int)(g1:Int×Int×(Arr Int 3)):Option ((Int×Int×(Arr Int 3))⊕((Int×(Arr Int 3))⊕(aL×Int×Int))):=
 (if(decide (g1.2.1<3))=true then
  gd (0<=g1.1/\g1.1<=(a0.length:Int)/\(a0.length:Int)<=(a0.length:Int))<|
  (zm8 (a0.drop g1.1.toNat)).bind λ v1=>
  (if(!decide (v1.2.2=0))=true then
   some (.inr (.inr ({aL.zero with},0,v1.2.2)))
  else
   gd (0<=g1.2.1/\g1.2.1<3)<|
   some (.inl ((i64.wrap (g1.1+v1.2.1)),i64.wrap (g1.2.1+1),Arr.put g1.2.2 g1.2.1.toNat (i64.wrap (if 1073741824<v1.1 then 1073741824 else v1.1)))))
 else
  some (.inr (.inl (g1.1,g1.2.2))))
def zu3(a0:List Int):Option (aL×Int×Int):=
 (zc2 (zbi9 a0) (0,0,Arr.rep 3 0)).bind (λ|.inl z=>zbi8 z|.inr z=>some z)
@[reducible,instance] def zei6 a0:=mkJ (zu3 a0) 0 (@zbi8.eq_1) λ(j1:Int×(Arr Int 3))=>⟨[(2,.ptr 0 0 0),(5,.ptr 1 0 0),(6,.int .i64 j1.1)],[(0,bx aL.zero),(1,⟨false,3,Arr.enc (eI .i64) (Arr.rep 3 0),[Arr.enc (eI .i64) j1.2]⟩)],2⟩
@[reducible,instance] def zei7 (a0:List Int) {T:Type} (x:T):=mkL x (@zbi9.eq_1 a0) λ(g1:Int×Int×(Arr Int 3))=>⟨[(0,.sl (a0.map (eI .u8))),(2,.ptr 0 0 0),(5,.ptr 1 0 0),(6,.int .i64 g1.1),(12,.int .i64 g1.2.1)],[(0,bx aL.zero),(1,⟨false,3,Arr.enc (eI .i64) (Arr.rep 3 0),[Arr.enc (eI .i64) g1.2.2]⟩)],2⟩
instance zdz4(a0:List Int):OkP (zu3 a0) 98 [.sl (a0.map (eI .u8))] (λ r=>.tup [ga r.1,.int .i64 r.2.1,.int .i64 r.2.2]):=ok1 (zu3.eq_1 a0) Tryz.f98 []
attribute [local irreducible] zu3
def zh6(a0:bP)(a1:aL):Option (Bool×aL):=
 (zd4 a0.aK a1).bind λ v1=>
 some ((decide (v1=0)),a1)
instance zck5(a0:bP)(a1:aL):OkM (zh6 a0 a1) 84 [ga a0,.ptr 0 0 0] [(0,bx a1)] 1 (λ r=>.bool r.1) (λ r=>[(0,bx r.2)]) 1:=okm (zh6.eq_1 a0 a1) (λ r=>[.bool r.1]) Tryz.f84 []
attribute [local irreducible] zh6
def zay9(j1:(List aJ)):Option (List aJ):=
 some j1
def zaf7(a90:(aO->List aJ->Option (List aJ)))(a0:aO)(g1:Int×(List aJ)):Option ((Int×(List aJ))⊕(List aJ)):=
 (if(decide (g1.1<(a0.bE.length:Int)))=true then
  gd (0<=g1.1/\g1.1<(a0.bE.length:Int))<|
  (a90 (a0.bE.getD g1.1.toNat aO.zero) g1.2).bind λ v2=>
  some (.inl ((i64.wrap (g1.1+1)),v2))
 else
  some (.inr g1.2))
def zG1(a90:(aO->List aJ->Option (List aJ)))(a0:aO)(a1:List aJ):Option (List aJ):=
 (if(decide ((a0.bE.length:Int)=0))=true then
  (zb0 a1 a0.bG).bind λ v1=>
  (if v1=true then
   some a1
  else
   gd (a1.length+1<=4294967296)<|
   some (a1++[a0.bG]))
 else
  (zc2 (zaf7 a90 a0) (0,a1)).bind (λ z=>zay9 z))
def zH4:Nat->(aO->List aJ->Option (List aJ))
 |0=>λ _ _=>none
 |n+1=>zG1 (zH4 n)
def zj5(a0:aO)(a1:List aJ):Option (List aJ):=zH4 (_root_.SizeOf.sizeOf a0+1) a0 a1
@[reducible,instance] def zei8 (a90:(aO->List aJ->Option (List aJ))) (a0:aO) (a1:List aJ):=mkJ (zG1 a90 a0 a1) 0 (@zay9.eq_1) λ(j1:(List aJ))=>⟨[(0,.own 1 0 j1.length)],[(1,sx j1)],2⟩
@[reducible,instance] def zei9 (a90:(aO->List aJ->Option (List aJ))) (a0:aO) {T:Type} (x:T):=mkL x (@zaf7.eq_1 a90 a0) λ(g1:Int×(List aJ))=>⟨[(0,.own 1 0 g1.2.length),(22,la a0.bE),(23,.int .i64 (a0.bE.length:Int)),(24,.int .i64 g1.1)],[(1,sx g1.2)],2⟩
abbrev zab5(g:(aO->List aJ->Option (List aJ))):Prop:=∀(a0:aO) (a1:List aJ),OkM (g a0 a1) 85 [.own 0 0 a1.length,.agg (aO.enc a0)] [(0,⟨false,3,aJ.enc aJ.zero,a1.map aJ.enc⟩)] 1 (λ r=>.own 1 0 r.length) (λ r=>[(1,⟨false,3,aJ.enc aJ.zero,r.map aJ.enc⟩)]) 2
theorem zbf3(a90:(aO->List aJ->Option (List aJ)))(hrc:zab5 a90):zab5 (zG1 a90):=λ a0 a1=>okm (zG1.eq_1 a90 a0 a1) (λ r=>[.own 1 0 r.length]) Tryz.f85 [(4,1)]
theorem zbf4:∀n,zab5 (zH4 n):=zaQ7 (λ _ _=>⟨λ _ h=>nomatch h⟩) λ n=>zbf3 _
instance zcr0:zab5 zj5:=λ a0 a1=>zbf4 _ a0 a1
attribute [local irreducible] zj5
def zg6(a0 a1:aB):Option Bool:=
 ((if(decide (a0.aA=a1.aA))=true then zb6 a0.aP a1.aP else some false)).bind λ v1=>
 ((if(decide (a0.aA=a1.aA)&&v1)=true then zb3 a0.aN a1.aN else some false)).bind λ v2=>
 ((if((decide (a0.aA=a1.aA)&&v1)&&v2)=true then za1 a0.aT a1.aT else some false)).bind λ v3=>
 some (((decide (a0.aA=a1.aA)&&v1)&&v2)&&v3)
instance zck6(a0 a1:aB):OkP (zg6 a0 a1) 99 [ga a0,ga a1] (λ r=>.bool r):=⟨λ r h=>by
 refine zae9 Tryz.f99 [] λ E hG hN hK=>?_;have hm:Mk (zg6 a0 a1):=trivial;unfold zg6 at h;refine za3 (za8 hG ?_);refine za3 (za8 hG ?_);obtain⟨v1,hv1,h⟩:=zf3 h;have hm:=mkP hm v1;refine zw9 (λ hg=>(zaA1 a0.aP a1.aP).ok _ (zaZ9 hg hv1)) ?_;obtain⟨v2,hv2,h⟩:=zf3 h;have hm:=mkP hm v2;refine zw9 (λ hg=>(zaA4 a0.aN a1.aN).ok _ (zaZ9 hg hv2)) ?_;obtain⟨v3,hv3,h⟩:=zf3 h;have hm:=mkP hm v3;refine zbB3 [] [] hv3 (λ hc=>(zP8 a0.aT a1.aT).ok _ hc) rfl ?_;exact gogo⟩
attribute [local irreducible] zg6
def zp6(a0:List aH)(a1:ByteArray):Option (Int×Bool):=
 (zk2 (a0.length:Int) a0 a1).bind λ v1=>
 gd (decide (v1.1<(v1.2.1.length:Int))=true->0<=v1.1/\v1.1<(v1.2.1.length:Int))<|
 some (v1.1,(decide (v1.1<(v1.2.1.length:Int))&&(((v1.2.1.getD v1.1.toNat aH.zero).name).toList==v1.2.2.toList)))
instance zdb5(a0:List aH)(a1:ByteArray):OkP (zp6 a0 a1) 279 [la a0,.str a1] (λ r=>.tup [.int .i64 r.1,.bool r.2]):=ok1 (zp6.eq_1 a0 a1) Tryz.f279 []
attribute [local irreducible] zp6
def zbt7(j1:Unit):Option Int:=
 some 0
def zal2(a0 a1 g1:Int):Option (Int⊕(Unit⊕Int)):=
 (if(decide (g1<=5))=true then
  (zm3 g1 a0).bind λ v1=>
  ((if v1=true then zm3 g1 a1 else some false)).bind λ v2=>
  (if(v1&&v2)=true then
   some (.inr (.inr g1))
  else
   some (.inl (i64.wrap (g1+1))))
 else
  some (.inr (.inl ())))
def zx8(a0 a1:Int):Option Int:=
 (zc2 (zal2 a0 a1) 1).bind (λ|.inl z=>zbt7 z|.inr z=>some z)
@[reducible,instance] def zej0 a0 a1:=mkJ (zx8 a0 a1) 0 (@zbt7.eq_1) λ(j1:Unit)=>⟨[],[],0⟩
@[reducible,instance] def zej1 (a0 a1:Int) {T:Type} (x:T):=mkL x (@zal2.eq_1 a0 a1) λ(g1:Int)=>⟨[(0,.int .i64 a0),(1,.int .i64 a1),(5,.int .i64 g1)],[],0⟩
instance zdH5(a0 a1:Int):OkP (zx8 a0 a1) 284 [.int .i64 a0,.int .i64 a1] (λ r=>.int .i64 r):=ok1 (zx8.eq_1 a0 a1) Tryz.f284 []
attribute [local irreducible] zx8
def zC0(a0:aU):Bool:=
 (((((zr5 a0.aK&&zn0 a0.aM)&&decide (0<=a0.aZ))&&decide (a0.aZ<=7))&&decide (0<=a0.bR))&&decide (a0.bR<=3))
instance zcL6(a0:aU):OkT 308 [.agg (aU.enc a0)] (.bool (zC0 a0)):=ok2 (λ r=>.bool r) (zC0.eq_1 a0) Tryz.f308 []
def zs4(a0:aH)(a1:Int):Option aC:=
 (if(decide (a0.kind=1))=true then
  (zs1 a1).bind λ v1=>
  some ({aC.zero with mode:=v1})
 else
  (zp2 a1 a0.aS).bind λ v2=>
  some ({aC.zero with aS:=(i64.wrap (1+v2))}))
instance zdq4(a0:aH)(a1:Int):OkP (zs4 a0 a1) 243 [ga a0,.int .i64 a1] (λ r=>ga r):=ok1 (zs4.eq_1 a0 a1) Tryz.f243 []
attribute [local irreducible] zs4
end
end Ab
end Go.Proofs.YtenebhlnfjcffaaGreatDoor
