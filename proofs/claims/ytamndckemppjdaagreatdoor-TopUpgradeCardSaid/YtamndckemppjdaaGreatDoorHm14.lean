import Derived.Test.YtamndckemppjdaaGreatDoorHm12
import Derived.Test.YtamndckemppjdaaGreatDoorHm7
namespace Go.Proofs.YtamndckemppjdaaGreatDoor
namespace Ab
open IntKind (i64 u64 u8 u32)
set_option linter.unusedSimpArgs false
set_option linter.defProp false
set_option linter.unusedVariables false
set_option maxRecDepth 100000
set_option maxHeartbeats 4000000
noncomputable section
attribute [local irreducible] zn9 zf4 zb7 ze8 zl6 zk8 zd0 zd6 zc8 zf7 zn2 zb8 zq7 zh1 zc1 zk5 zm2 zb4 zg1 za4 zk1 ze6 zb5 zd3 ze9 zd5 zm0 zn3 zi7 zg7 zg5 zh7 zg2 zd9 zh5 zi8 zk9 zb2 zg4 za6 zi9 za9 zb9 zf1 zj6 zf2 zi3 za8 za7 za5 zh2 zj2 zf3 zj8 zg3 zd7 zm3 zc5 zh9 zi0 zh4 zj1 zk2 zn8 zm1 zb6 zj0 zd8 zi5 zq5 zl0 zm9 zf0 zc3 zf5 zb0 zq0 zg9 zl7 zc0 zg6 zb1 zf8 zl8 zi1 zq6 zj3 zj5 zt8 zf9 zh8 zp0 zc7 ze2 ze4 ze3 zb3 zn4 zj9 zc6 zl9 zj4
def zS8(j1:Bool):Option Bool:=
 some j1
@[go_sem] def zcR6(j1:Bool):St:=⟨[(5,.bool j1)],[],0⟩
def zS9(a1:List aJ)(g1:Int×Int×(Arr Bool 6))(j2:Unit):Option ((Int×Int×(Arr Bool 6))⊕Bool):=
 gd (0<=(a1.getD g1.2.1.toNat aJ.zero).mode/\(a1.getD g1.2.1.toNat aJ.zero).mode<6)<|
 some (.inl ((i64.wrap (g1.1+(a1.getD g1.2.1.toNat aJ.zero).bJ)),i64.wrap (g1.2.1+1),Arr.put g1.2.2 (((a1.getD g1.2.1.toNat aJ.zero).mode).toNat) true))
@[go_sem] def zcR7(a0:aG)(a1:List aJ)(g1:Int×Int×(Arr Bool 6))(j2:Unit):St:=⟨[(2,.ptr 0 0 0),(5,.bool true),(6,.ptr 1 0 0),(7,.int .i64 (i64.wrap (g1.1+(a1.getD g1.2.1.toNat aJ.zero).bJ))),(9,.ptr 2 0 0),(15,la a1),(16,.int .i64 (a1.length:Int)),(17,.int .i64 g1.2.1)],[(0,bx a0),(1,⟨false,6,Arr.enc eB (Arr.rep 6 false),[Arr.enc eB g1.2.2]⟩),(2,bx (a1.getD g1.2.1.toNat aJ.zero))],3⟩
def zag6(a1:List aJ)(g1:Int×Int×(Arr Bool 6))(g2:Int):Option (Int⊕(Unit⊕Bool)):=
 (if(decide (g2<6))=true then
  gd (0<=g2/\g2<6)<|
  ((if(Arr.get g1.2.2 g2.toNat false)=true then zk2 g2 ((a1.getD g1.2.1.toNat aJ.zero).mode)else some false)).bind λ v1=>
  (if(Arr.get g1.2.2 g2.toNat false&&(!v1))=true then
   some (.inr (.inr false))
  else
   some (.inl (i64.wrap (g2+1))))
 else
  some (.inr (.inl ())))
@[go_sem] def zcR8(a0:aG)(a1:List aJ)(g1:Int×Int×(Arr Bool 6))(g2:Int):St:=⟨[(2,.ptr 0 0 0),(5,.bool true),(6,.ptr 1 0 0),(7,.int .i64 (i64.wrap (g1.1+(a1.getD g1.2.1.toNat aJ.zero).bJ))),(9,.ptr 2 0 0),(15,la a1),(16,.int .i64 (a1.length:Int)),(17,.int .i64 g1.2.1),(41,.agg (Arr.enc eB g1.2.2)),(42,.int .i64 g2)],[(0,bx a0),(1,⟨false,6,Arr.enc eB (Arr.rep 6 false),[Arr.enc eB g1.2.2]⟩),(2,bx (a1.getD g1.2.1.toNat aJ.zero))],3⟩
def zag7(a0:aG)(a1:List aJ)(g1:Int×Int×(Arr Bool 6)):Option ((Int×Int×(Arr Bool 6))⊕Bool):=
 (if(decide (g1.2.1<(a1.length:Int)))=true then
  gd (0<=g1.2.1/\g1.2.1<(a1.length:Int))<|
  (if((!(zC1 a0 (a1.getD g1.2.1.toNat aJ.zero)))||decide (a0.bJ<i64.wrap (g1.1+(a1.getD g1.2.1.toNat aJ.zero).bJ)))=true then
   some (.inr false)
  else
   (if(decide ((a1.getD g1.2.1.toNat aJ.zero).mode=0))=true then
    some (.inl ((i64.wrap (g1.1+(a1.getD g1.2.1.toNat aJ.zero).bJ)),i64.wrap (g1.2.1+1),g1.2.2))
   else
    (zg8 (zag6 a1 g1) 0).bind (λ|.inl z=>zS9 a1 g1 z|.inr z=>some (.inr z))))
 else
  some (.inr true))
@[go_sem] def zcR9(a0:aG)(a1:List aJ)(g1:Int×Int×(Arr Bool 6)):St:=⟨[(2,.ptr 0 0 0),(5,.bool true),(6,.ptr 1 0 0),(7,.int .i64 g1.1),(15,la a1),(16,.int .i64 (a1.length:Int)),(17,.int .i64 g1.2.1)],[(0,bx a0),(1,⟨false,6,Arr.enc eB (Arr.rep 6 false),[Arr.enc eB g1.2.2]⟩)],2⟩
def zl1(a0:aG)(a1:List aJ):Option Bool:=
 (if(!(zJ1 a0))=true then
  some false
 else
  (zg8 (zag7 a0 a1) (0,0,Arr.rep 6 false)).bind (λ z=>zS8 z))
theorem zaL3(a0:aG)(a1:List aJ)(r:Bool)(h:zl1 a0 a1=some r):PFn C 294 [ga a0,la a1] (.bool r):=by
 refine zx6 Tryz.f294 [] λ E hG hN hK=>?_;unfold zl1 at h;refine za2 (za3 hG ?_);refine zbi1 ?_;refine za2 (za2 (za3 hG ?_));refine zn1 (λ hg=>(zaZ2 a0).ok) ?_;refine zh3 rfl hG h (λ _ h=>?_) (λ _ h=>?_)
 · refine za2 (za3 hG ?_)
   refine zo3 ?_;exact zt5 h
 refine zh0 ?_;refine za2 (za3 hG ?_);refine za2 (za3 hG ?_);refine za2 (za3 hG ?_);refine za2 ?_;refine zbu4 ?_;refine za2 (za2 (za3 hG ?_));refine zs5 zcR6 (λ v=>zS8 v=some r) ?_ ?_
 · intro j1 h
   unfold zS8 at h;refine g_st ?_;refine za2 (za3 hG ?_);refine zo3 ?_;exact zt5 h
 refine zz0 (zcR9 a0 a1) hK [(0,0),(1,1)] h (λ x_l1 h g1 y_l1 h_l1 hx_l1=>?_);unfold zag7 at h_l1;refine g_st ?_;refine za2 (za3 hG ?_);refine za2 ?_;refine zh3 rfl hG h_l1 (λ _ h_l1=>?_) (λ _ h_l1=>?_)
 · refine zh0 ?_
   refine za2 (zr6 (za2 ?_));obtain⟨hb3,h_l1⟩:=ze5 h_l1;refine za3 hG ?_;refine za2 (za2 (za3 hG ?_));refine zn1 (λ hg=>(zaN5 a0 (a1.getD g1.2.1.toNat aJ.zero)).ok) ?_;refine zh3 rfl hG h_l1 (λ _ h_l1=>?_) (λ _ h_l1=>?_)
   · refine za2 (za3 hG ?_)
     refine zv7 ?_;cases h_l1;cases hx_l1 _ rfl;exact zs8 hK [] false (by exact h)
   refine zh0 ?_;refine za2 (za3 hG ?_);refine za2 (za2 (za3 hG ?_));refine zh3 rfl hG h_l1 (λ _ h_l1=>?_) (λ _ h_l1=>?_)
   · refine zv7 ?_
     refine za3 hG ?_;exact zy5 hK [(0,0),(1,1)] h_l1
   refine zh0 ?_;refine za2 (za2 (za3 hG ?_));refine zs5 (zcR7 a0 a1 g1) (λ v=>zS9 a1 g1 v=some y_l1) ?_ ?_
   · intro j2 h_l1
     unfold zS9 at h_l1;refine g_st ?_;obtain⟨hb1,h_l1⟩:=ze5 h_l1;refine za3 hG ?_;refine za3 hG ?_;exact zy5 hK [(0,0),(1,1)] h_l1
   refine zz0 (zcR8 a0 a1 g1) hK [(0,0),(1,1),(2,2)] h_l1 (λ x_l2 h_l1 g2 y_l2 h_l2 hx_l2=>?_);unfold zag6 at h_l2;refine g_st ?_;refine za2 (za3 hG ?_);refine za2 ?_;refine zh3 rfl hG h_l2 (λ _ h_l2=>?_) (λ _ h_l2=>?_)
   · refine zh0 ?_
     refine za2 (zr6 (za2 ?_));obtain⟨hb2,h_l2⟩:=ze5 h_l2;refine za3 hG ?_;refine za2 (za3 hG ?_);obtain⟨v1,hv1,h_l2⟩:=zd2 h_l2;refine zn1 (λ hg=>(zaS1 g2 ((a1.getD g1.2.1.toNat aJ.zero).mode)).ok _ (zar3 hg hv1)) ?_;refine zh3 rfl hG h_l2 (λ _ h_l2=>?_) (λ _ h_l2=>?_)
     · refine za2 (za3 hG ?_)
       refine zv7 ?_;obtain rfl:=dP h_l2;have hx:=hx_l2 _ rfl;subst hx
       try dsimp only at h_l1
       cases h_l1;cases hx_l1 _ rfl;exact zs8 hK [] false (by exact h)
     refine zh0 ?_;refine za3 hG ?_;exact zy5 hK [(0,0),(1,1),(2,2)] h_l2
   refine zv7 ?_;obtain rfl:=dP h_l2;have hx:=hx_l2 _ rfl;subst hx
   try dsimp only at h_l1
   exact zs8 hK [(0,0),(1,1),(2,2)] () (by exact h_l1)
 refine zv7 ?_;cases h_l1;cases hx_l1 _ rfl;exact zs8 hK [] true (by exact h)
instance zbx2(a0:aG)(a1:List aJ):OkP (zl1 a0 a1) 294 [ga a0,la a1] (λ r=>.bool r):=⟨zaL3 a0 a1⟩
attribute [local irreducible] zl1
def zm8(a0:aG)(a1 a2:aJ):Option Bool:=
 (if((!(zC1 a0 a1))||(!(zC1 a0 a2)))=true then
  some false
 else
  (if(zx9 a1||zx9 a2)=true then
   some (zx9 a2)
  else
   (if(decide (a0.kind=1))=true then
    (zn8 a1.mode a2.mode).bind λ v1=>
    some v1
   else
    some (decide (a2.bJ<=a1.bJ)))))
instance zaB1(a0:aG)(a1 a2:aJ):OkP (zm8 a0 a1 a2) 167 [ga a0,ga a1,ga a2] (λ r=>.bool r):=ok1 (zm8.eq_1 a0 a1 a2) Tryz.f167 []
attribute [local irreducible] zm8
def zaG9(j1:Unit):Option Bool:=
 some true
def zaH0(a0:List aW)(g1:Int):Option (Int⊕(Unit⊕Bool)):=
 (if(decide (g1<(a0.length:Int)))=true then
  gd (0<=g1/\g1<(a0.length:Int))<|
  ((if(zC4 (a0.getD g1.toNat aW.zero))=true then zn9 a0 ((a0.getD g1.toNat aW.zero).aZ)else some 0)).bind λ v1=>
  (if((!(zC4 (a0.getD g1.toNat aW.zero)))||(!decide (v1=g1)))=true then
   some (.inr (.inr false))
  else
   some (.inl (i64.wrap (g1+1))))
 else
  some (.inr (.inl ())))
def zs3(a0:List aW):Option Bool:=
 (if(decide (8<(a0.length:Int)))=true then
  some false
 else
  (zg8 (zaH0 a0) 0).bind (λ|.inl z=>zaG9 z|.inr z=>some z))
@[reducible,instance] def zdJ4 a0:=mkJ (zs3 a0) 0 (@zaG9.eq_1) λ(j1:Unit)=>⟨[],[],0⟩
@[reducible,instance] def zdJ5 (a0:List aW) {T:Type} (x:T):=mkL x (@zaH0.eq_1 a0) λ(g1:Int)=>⟨[(0,la a0),(8,la a0),(9,.int .i64 (a0.length:Int)),(10,.int .i64 g1)],[],0⟩
instance zcd6(a0:List aW):OkP (zs3 a0) 295 [la a0] (λ r=>.bool r):=ok1 (zs3.eq_1 a0) Tryz.f295 []
attribute [local irreducible] zs3
def zag8(j1:(List aO)):Option (List aO):=
 some j1
def zag9(a0:aP)(g1:Int×(List aO)):Option ((Int×(List aO))⊕(List aO)):=
 (if(decide (g1.1<(a0.bU.length:Int)))=true then
  gd (0<=g1.1/\g1.1<(a0.bU.length:Int))<|
  (zj5 (a0.bU.getD g1.1.toNat aP.zero) g1.2).bind λ v2=>
  some (.inl ((i64.wrap (g1.1+1)),v2))
 else
  some (.inr g1.2))
def zG4(a90:(aP->Option (List aO)))(a0:aP):Option (List aO):=
 (if(decide ((a0.bU.length:Int)=0))=true then
  (zc0 [] a0.bV).bind λ v1=>
  (if v1=true then
   some []
  else
   gd (1<=4294967296)<|
   some [a0.bV])
 else
  (zg8 (zag9 a0) (0,[])).bind (λ z=>zag8 z))
def zW8:Nat->(aP->Option (List aO))
 |0=>λ _=>none
 |n+1=>zG4 (zW8 n)
def zm4(a0:aP):Option (List aO):=zW8 (_root_.SizeOf.sizeOf a0+1) a0
@[reducible,instance] def zdx4 (a90:(aP->Option (List aO))) (a0:aP):=mkJ (zG4 a90 a0) 0 (@zag8.eq_1) λ(j1:(List aO))=>⟨[(0,.own 0 0 j1.length)],[(0,sx j1)],1⟩
@[reducible,instance] def zdx5 (a0:aP) {T:Type} (x:T):=mkL x (@zag9.eq_1 a0) λ(g1:Int×(List aO))=>⟨[(0,.own 0 0 g1.2.length),(22,la a0.bU),(23,.int .i64 (a0.bU.length:Int)),(24,.int .i64 g1.1)],[(0,sx g1.2)],1⟩
abbrev zQ3(g:(aP->Option (List aO))):Prop:=∀(a0:aP),OkM (g a0) 185 [.full ([].map aO.enc),.agg (aP.enc a0)] [] 0 (λ r=>.sl (r.map aO.enc)) (λ r=>[]) 0
theorem zaI1(a90:(aP->Option (List aO)))(hrc:zQ3 a90):zQ3 (zG4 a90):=λ a0=>⟨λ r h=>by
 refine zK4 Tryz.f185 [] [la r] λ E hG hN hK=>?_;have hm:Mk (zG4 a90 a0):=trivial;unfold zG4 at h;refine g_gh (.own0 0 3 (aO.enc aO.zero)) ?_;refine za2 (za3 hG ?_);refine za2 (za2 (za3 hG ?_));refine zh3 rfl hG h (λ _ h=>?_) (λ _ h=>?_)
 · refine za2 (za2 (za3 hG ?_))
   obtain⟨v1,hv1,h⟩:=zd2 h;have hm:=mkP hm v1;refine zn1 (λ hg=>(zZ6 [] a0.bV).ok _ hv1) ?_;refine zh3 rfl hG h (λ _ h=>?_) (λ _ h=>?_)
   · refine za2 (za3 hG ?_)
     refine g_gh (.fz [0]) ?_;exact gogo
   refine zh0 ?_;refine za2 ?_;obtain⟨hb1,h⟩:=ze5 h;refine za3 hG ?_;refine g_gh (.fz [2]) ?_;exact gogo
 refine zh0 ?_;refine za2 (za2 (za3 hG ?_));refine zQ7 hm h (λ j1 hm h=>?_) ?_
 · try refine g_st ?_
   refine za2 (za3 hG ?_);refine g_gh (.fz [0]) ?_;exact gogo
 exact gogo⟩
theorem zaI2:∀n,zQ3 (zW8 n):=zaE7 (λ _=>⟨λ _ h=>nomatch h⟩) λ n=>zaI1 _
instance zbx3:zQ3 zm4:=λ a0=>zaI2 _ a0
attribute [local irreducible] zm4
def zL5(a0 a1:Int)(a3:List ByteArray)(g1:Unit):Option (Unit⊕(List ByteArray)):=
 (if(decide (i64.wrap (a1-a0)<=12))=true then
  (zc6 a0 a1 a3).bind λ v1=>
  some (.inr v1)
 else
  none)
def ze1(a0 a1 a2:Int)(a3:List ByteArray):Option (List ByteArray):=
 (zg8 (zL5 a0 a1 a3) ()).bind (λ z=>some z)
@[reducible,instance] def zdx6 (a0 a1:Int) (a3:List ByteArray) {T:Type} (x:T):=mkL x (@zL5.eq_1 a0 a1 a3) λ(g1:Unit)=>⟨[(0,.own 0 0 a3.length),(1,.int .i64 a0),(2,.int .i64 a1)],[(0,⟨false,1,[A.str ⟨#[]⟩],a3.map eS⟩)],1⟩
instance zaS5(a0 a1 a2:Int)(a3:List ByteArray):OkM (ze1 a0 a1 a2 a3) 186 [.own 0 0 a3.length,.int .i64 a0,.int .i64 a1,.int .i64 a2] [(0,⟨false,1,[A.str ⟨#[]⟩],a3.map eS⟩)] 1 (λ r=>.tup []) (λ r=>[(0,⟨false,1,[A.str ⟨#[]⟩],r.map eS⟩)]) 1:=⟨λ r h=>by
 refine zK4 Tryz.f186 [(2005,1)] [] λ E hG hN hK=>?_;have hm:Mk (ze1 a0 a1 a2 a3):=trivial;unfold ze1 at h;refine za2 (za3 hG ?_);refine za2 (za3 hG ?_);refine zr6 ?_;refine zbu5 hm hK [(0,0)] h (λ g1 y hm kx h=>?_)
 try refine g_st ?_
 refine zr6 (za2 (za3 hG ?_));refine za2 (za2 (za3 hG ?_));refine zh3 rfl hG h (λ _ h=>?_) (λ _ h=>?_)
 .exact gogo
 refine zh0 ?_;exact zV9 h⟩
attribute [local irreducible] ze1
def zg0(a0:aG):Option Bool:=
 (zg3 a0.name).bind λ v1=>
 some (((v1&&zJ1 a0)&&decide (0<=a0.home))&&decide (a0.home<4))
instance zbn6(a0:aG):OkP (zg0 a0) 135 [ga a0] (λ r=>.bool r):=ok1 (zg0.eq_1 a0) Tryz.f135 []
attribute [local irreducible] zg0
def zaj6(a1:aF)(a2:aJ)(j1:Int×(List bF)):Option (List bF):=
 (if(zx9 a2)=true then
  some j1.2
 else
  (if(decide (j1.1<0))=true then
   gd (j1.2.length+1<=4294967296)<|
   gd (0<=i64.wrap (((j1.2.length:Nat):Int)+1)/\i64.wrap (((j1.2.length:Nat):Int)+1)<=((j1.2.length+1:Nat):Int)/\((j1.2.length+1:Nat):Int)<=((j1.2.length+1:Nat):Int))<|
   gd (0<=((j1.2.length:Nat):Int)/\((j1.2.length:Nat):Int)<=((j1.2.length+1:Nat):Int)/\((j1.2.length+1:Nat):Int)<=((j1.2.length+1:Nat):Int))<|
   gd (0<=((j1.2.length:Nat):Int)/\((j1.2.length:Nat):Int)<((j1.2.length+1:Nat):Int))<|
   some (((j1.2++[{bF.zero with}]).take (i64.wrap (((j1.2.length:Nat):Int)+1)).toNat++(((j1.2++[{bF.zero with}]).drop (((j1.2.length:Nat):Int).toNat)).take (j1.2.length+1-((j1.2.length:Nat):Int).toNat)).take (j1.2.length+1-(i64.wrap (((j1.2.length:Nat):Int)+1)).toNat)++(j1.2++[{bF.zero with}]).drop ((i64.wrap (((j1.2.length:Nat):Int)+1)).toNat+min (((j1.2++[{bF.zero with}]).drop (((j1.2.length:Nat):Int).toNat)).take (j1.2.length+1-((j1.2.length:Nat):Int).toNat)).length (j1.2.length+1-(i64.wrap (((j1.2.length:Nat):Int)+1)).toNat))).set (((j1.2.length:Nat):Int).toNat) (⟨a1,a2⟩:bF))
  else
   gd (j1.2.length+1<=4294967296)<|
   gd (0<=i64.wrap (j1.1+1)/\i64.wrap (j1.1+1)<=((j1.2.length+1:Nat):Int)/\((j1.2.length+1:Nat):Int)<=((j1.2.length+1:Nat):Int))<|
   gd (0<=j1.1/\j1.1<=((j1.2.length+1:Nat):Int)/\((j1.2.length+1:Nat):Int)<=((j1.2.length+1:Nat):Int))<|
   gd (0<=j1.1/\j1.1<((j1.2.length+1:Nat):Int))<|
   some (((j1.2++[{bF.zero with}]).take (i64.wrap (j1.1+1)).toNat++(((j1.2++[{bF.zero with}]).drop j1.1.toNat).take (j1.2.length+1-j1.1.toNat)).take (j1.2.length+1-(i64.wrap (j1.1+1)).toNat)++(j1.2++[{bF.zero with}]).drop ((i64.wrap (j1.1+1)).toNat+min (((j1.2++[{bF.zero with}]).drop j1.1.toNat).take (j1.2.length+1-j1.1.toNat)).length (j1.2.length+1-(i64.wrap (j1.1+1)).toNat))).set j1.1.toNat (⟨a1,a2⟩:bF))))
@[go_sem] def zcs9(a1:aF)(a2:aJ)(j1:Int×(List bF)):St:=⟨[(4,.ptr 0 0 0),(5,.ptr 1 0 0),(7,.own 2 0 j1.2.length),(8,.int .i64 j1.1)],[(0,bx a1),(1,bx a2),(2,sx j1.2)],3⟩
def zaB2(a0:List bF)(a1:aF)(g1:Int×Int×(List bF)):Option ((Int×Int×(List bF))⊕(Int×(List bF))):=
 (if(decide (g1.2.1<(a0.length:Int)))=true then
  gd (0<=g1.2.1/\g1.2.1<(a0.length:Int))<|
  (if(decide ((a0.getD g1.2.1.toNat bF.zero).aZ=a1))=true then
   some (.inl (g1.1,i64.wrap (g1.2.1+1),g1.2.2))
  else
   ((if(decide (g1.1<0))=true then zd7 ((a0.getD g1.2.1.toNat bF.zero).aZ) a1 else some 0)).bind λ v1=>
   (if(decide (g1.1<0)&&decide (0<v1))=true then
    gd (g1.2.2.length+1<=4294967296)<|
    some (.inl (((g1.2.2.length:Nat):Int),i64.wrap (g1.2.1+1),(g1.2.2++[(a0.getD g1.2.1.toNat bF.zero)])))
   else
    gd (g1.2.2.length+1<=4294967296)<|
    some (.inl (g1.1,i64.wrap (g1.2.1+1),(g1.2.2++[(a0.getD g1.2.1.toNat bF.zero)])))))
 else
  some (.inr (g1.1,g1.2.2)))
@[go_sem] def zct0(a0:List bF)(a1:aF)(a2:aJ)(g1:Int×Int×(List bF)):St:=⟨[(4,.ptr 0 0 0),(5,.ptr 1 0 0),(7,.own 2 0 g1.2.2.length),(8,.int .i64 g1.1),(15,la a0),(16,.int .i64 (a0.length:Int)),(17,.int .i64 g1.2.1)],[(0,bx a1),(1,bx a2),(2,sx g1.2.2)],3⟩
def zo7(a0:List bF)(a1:aF)(a2:aJ):Option (List bF):=
 gd (0<=0/\0<=i64.wrap ((a0.length:Int)+1)/\i64.wrap ((a0.length:Int)+1)<=4294967296)<|
 (zg8 (zaB2 a0 a1) ((-1),0,List.replicate 0 bF.zero)).bind (λ z=>zaj6 a1 a2 z)
theorem zaL4(a0:List bF)(a1:aF)(a2:aJ)(r:(List bF))(h:zo7 a0 a1 a2=some r):PFn C 198 [la a0,ga a1,ga a2] (la r):=by
 refine zx6 Tryz.f198 [] λ E hG hN hK=>?_;unfold zo7 at h;refine za2 (za3 hG ?_);refine za2 ?_;obtain⟨hb12,h⟩:=ze5 h;refine za3 hG ?_;refine za2 (za3 hG ?_);refine za2 (za2 (za3 hG ?_));refine zs5 (zcs9 a1 a2) (λ v=>zaj6 a1 a2 v=some r) ?_ ?_
 · intro j1 h
   unfold zaj6 at h;refine g_st ?_;refine za2 (za2 (za3 hG ?_));refine zn1 (λ hg=>(zas4 a2).ok) ?_;refine zh3 rfl hG h (λ _ h=>?_) (λ _ h=>?_)
   · refine za2 (za3 hG ?_)
     refine zo3 ?_;exact zt5 h
   refine zh0 ?_;refine za2 (za2 (za3 hG ?_));refine zh3 rfl hG h (λ _ h=>?_) (λ _ h=>?_)
   · refine za3 hG ?_
     refine za2 ?_;obtain⟨hb4,h⟩:=ze5 h;refine za3 hG ?_;refine za2 ?_;obtain⟨hb2,h⟩:=ze5 h;obtain⟨hb3,h⟩:=ze5 h;refine zP1 zv9 hG ?_;refine za2 ?_;obtain⟨hb1,h⟩:=ze5 h;refine za3 hG ?_;refine za2 (za3 hG ?_);refine zo3 ?_;exact zt5 h
   refine zh0 ?_;refine za2 ?_;obtain⟨hb8,h⟩:=ze5 h;refine za3 hG ?_;refine za2 ?_;obtain⟨hb6,h⟩:=ze5 h;obtain⟨hb7,h⟩:=ze5 h;refine zP1 zv9 hG ?_;refine za2 ?_;obtain⟨hb5,h⟩:=ze5 h;refine za3 hG ?_;refine za2 (za3 hG ?_);refine zo3 ?_;exact zt5 h
 refine zz0 (zct0 a0 a1 a2) hK [(0,0),(1,1),(2,2)] h (λ x_l1 h g1 y_l1 h_l1 hx_l1=>?_);unfold zaB2 at h_l1;refine g_st ?_;refine za2 (za3 hG ?_);refine za2 ?_;refine zh3 rfl hG h_l1 (λ _ h_l1=>?_) (λ _ h_l1=>?_)
 · refine zh0 ?_
   refine za2 (zr6 (za2 ?_));obtain⟨hb11,h_l1⟩:=ze5 h_l1;refine za3 hG ?_;refine za2 (za2 (za3 hG ?_));refine zh3 rfl hG h_l1 (λ _ h_l1=>?_) (λ _ h_l1=>?_)
   · refine zv7 ?_
     refine za3 hG ?_;exact zy5 hK [(0,0),(1,1),(2,2)] h_l1
   refine zh0 ?_;refine za2 (za2 (za3 hG ?_));obtain⟨v1,hv1,h_l1⟩:=zd2 h_l1;refine zn1 (λ hg=>(zO1 ((a0.getD g1.2.1.toNat bF.zero).aZ) a1).ok _ (zar3 hg hv1)) ?_;refine zh3 rfl hG h_l1 (λ _ h_l1=>?_) (λ _ h_l1=>?_)
   · refine za3 hG ?_
     obtain⟨hb9,h_l1⟩:=ze5 h_l1;refine za3 hG ?_;refine za3 hG ?_;exact zy5 hK [(0,0),(1,1),(2,4)] h_l1
   refine zh0 ?_;obtain⟨hb10,h_l1⟩:=ze5 h_l1;refine za3 hG ?_;refine za3 hG ?_;exact zy5 hK [(0,0),(1,1),(2,4)] h_l1
 refine zv7 ?_;cases h_l1;cases hx_l1 _ rfl;exact zs8 hK [(0,0),(1,1),(2,2)] (g1.1,g1.2.2) (by exact h)
instance zbT6(a0:List bF)(a1:aF)(a2:aJ):OkP (zo7 a0 a1 a2) 198 [la a0,ga a1,ga a2] (λ r=>la r):=⟨zaL4 a0 a1 a2⟩
attribute [local irreducible] zo7
def zo1(a0:List aG)(a1:ByteArray):Option (Int×Bool):=
 (zl0 (a0.length:Int) a0 a1).bind λ v1=>
 gd (decide (v1.1<(v1.2.1.length:Int))=true->0<=v1.1/\v1.1<(v1.2.1.length:Int))<|
 some (v1.1,(decide (v1.1<(v1.2.1.length:Int))&&(((v1.2.1.getD v1.1.toNat aG.zero).name).toList==v1.2.2.toList)))
instance zbR7(a0:List aG)(a1:ByteArray):OkP (zo1 a0 a1) 263 [la a0,.str a1] (λ r=>.tup [.int .i64 r.1,.bool r.2]):=ok1 (zo1.eq_1 a0 a1) Tryz.f263 []
attribute [local irreducible] zo1
def zao7(j1:(List aO)):Option (List aO):=
 some j1
def zao8(a0:List aC)(a1:aF)(g1:Int×(List aO)):Option ((Int×(List aO))⊕(List aO)):=
 (if(decide (g1.1<(a0.length:Int)))=true then
  gd (0<=g1.1/\g1.1<(a0.length:Int))<|
  (zm3 (a0.getD g1.1.toNat aC.zero) a1).bind λ v1=>
  (if(!decide (v1={aJ.zero with}))=true then
   gd (g1.2.length+1<=4294967296)<|
   some (.inl ((i64.wrap (g1.1+1)),(g1.2++[(⟨((a0.getD g1.1.toNat aC.zero).aQ).name,v1⟩:aO)])))
  else
   some (.inl ((i64.wrap (g1.1+1)),g1.2)))
 else
  some (.inr g1.2))
def zm5(a0:List aC)(a1:aF):Option (List aO):=
 (zg8 (zao8 a0 a1) (0,[])).bind (λ z=>zao7 z)
@[reducible,instance] def zdx7 a0 a1:=mkJ (zm5 a0 a1) 0 (@zao7.eq_1) λ(j1:(List aO))=>⟨[(5,.own 0 0 j1.length)],[(0,sx j1)],1⟩
@[reducible,instance] def zdx8 (a0:List aC) (a1:aF) {T:Type} (x:T):=mkL x (@zao8.eq_1 a0 a1) λ(g1:Int×(List aO))=>⟨[(3,.ptr 0 0 0),(5,.own 1 0 g1.2.length),(9,la a0),(10,.int .i64 (a0.length:Int)),(11,.int .i64 g1.1)],[(0,bx a1),(1,sx g1.2)],2⟩
instance zbM3(a0:List aC)(a1:aF):OkP (zm5 a0 a1) 179 [la a0,ga a1] (λ r=>la r):=ok1 (zm5.eq_1 a0 a1) Tryz.f179 [(5,1)]
attribute [local irreducible] zm5
def zl3(a0:Int)(a1:aP):Option aX:=
 (zq0 a0).bind λ v1=>
 some ({aX.zero with kind:=2,aZ:=v1,aR:={bL.zero with bQ:=a1}})
instance zQ8(a0:Int)(a1:aP):OkP (zl3 a0 a1) 8 [.int .i64 a0,ga a1] (λ r=>ga r):=⟨λ r h=>by
 refine zx6 Tryz.f8 [] λ E hG hN hK=>?_;have hm:Mk (zl3 a0 a1):=trivial;unfold zl3 at h;refine za2 (za3 hG ?_);refine za2 (zP1 zv9 hG ?_);obtain⟨v1,hv1,h⟩:=zd2 h;have hm:=mkP hm v1;refine zx8 (λ hg=>(zaW2 a0).ok _ hv1) ?_;refine zo3 ?_;exact zt5 h (by intro e;subst e;simp[aF.enc,aO.enc,aJ.enc])⟩
attribute [local irreducible] zl3
def zan9(j1:Unit):Option Int:=
 some 0
@[go_sem] def zct1(j1:Unit):St:=⟨[],[],0⟩
def zaH1(a0:List aF)(a1:aF)(g1:Int):Option (Int⊕(Unit⊕Int)):=
 (if(decide (g1<(a0.length:Int)))=true then
  gd (0<=g1/\g1<(a0.length:Int))<|
  (zd7 a1 (a0.getD g1.toNat aF.zero)).bind λ v1=>
  (if(decide (v1=0))=true then
   gd (0<=g1)<|
   some (.inr (.inr (i64.wrap (1*2^(Nat.min g1.toNat i64.bits)))))
  else
   some (.inl (i64.wrap (g1+1))))
 else
  some (.inr (.inl ())))
@[go_sem] def zct2(a0:List aF)(a1:aF)(g1:Int):St:=⟨[(3,.ptr 0 0 0),(7,la a0),(8,.int .i64 (a0.length:Int)),(9,.int .i64 g1)],[(0,bx a1)],1⟩
def zk4(a0:List aF)(a1:aF):Option Int:=
 (zg8 (zaH1 a0 a1) 0).bind (λ|.inl z=>zan9 z|.inr z=>some z)
theorem zay7(a0:List aF)(a1:aF)(r:Int)(h:zk4 a0 a1=some r):PFn C 30 [la a0,ga a1] (.int .i64 r):=by
 refine zx6 Tryz.f30 [] λ E hG hN hK=>?_;unfold zk4 at h;refine za2 (za3 hG ?_);refine za2 (za2 (za3 hG ?_));refine zs5 zct1 (λ v=>zan9 v=some r) ?_ ?_
 · intro j1 h
   unfold zan9 at h;refine g_st ?_;refine za2 (za3 hG ?_);refine zo3 ?_;exact zt5 h
 refine zz0 (zct2 a0 a1) hK [(0,0)] h (λ x_l1 h g1 y_l1 h_l1 hx_l1=>?_);unfold zaH1 at h_l1;refine g_st ?_;refine za2 (za3 hG ?_);refine za2 ?_;refine zh3 rfl hG h_l1 (λ _ h_l1=>?_) (λ _ h_l1=>?_)
 · refine zh0 ?_
   refine za2 (zr6 (za2 ?_));obtain⟨hb2,h_l1⟩:=ze5 h_l1;refine za3 hG ?_;refine za2 (za3 hG ?_);obtain⟨v1,hv1,h_l1⟩:=zd2 h_l1;refine zn1 (λ hg=>(zO1 a1 (a0.getD g1.toNat aF.zero)).ok _ hv1) ?_;refine zh3 rfl hG h_l1 (λ _ h_l1=>?_) (λ _ h_l1=>?_)
   · refine za2 ?_
     obtain⟨hb1,h_l1⟩:=ze5 h_l1;refine za3 hG ?_;refine zo3 ?_;cases h_l1;cases hx_l1 _ rfl;exact zt5 h
   refine zh0 ?_;refine za3 hG ?_;exact zy5 hK [(0,0)] h_l1
 refine zv7 ?_;cases h_l1;cases hx_l1 _ rfl;exact zs8 hK [] () (by exact h)
attribute [local irreducible] zk4
def zaw6(a0:bG)(j1:Unit):Option Bool:=
 (zg9 a0.cB (a0.bB.length:Int)).bind λ v1=>
 some v1
def zaw7(a0:bG)(g1:Int×(List (ByteArray×aJ))):Option ((Int×(List (ByteArray×aJ)))⊕(Unit⊕Bool)):=
 (if(decide (g1.1<(a0.bB.length:Int)))=true then
  gd (0<=g1.1/\g1.1<(a0.bB.length:Int))<|
  (zg3 ((a0.bB.getD g1.1.toNat bX.zero).name)).bind λ v2=>
  ((if(!((!v2)||(!decide ((a0.bB.getD g1.1.toNat bX.zero).before=(mget ((a0.bB.getD g1.1.toNat bX.zero).name) g1.2).getD aJ.zero))))=true then zp0 ((a0.bB.getD g1.1.toNat bX.zero).before) ((a0.bB.getD g1.1.toNat bX.zero).after)else some false)).bind λ v3=>
  (if(((!v2)||(!decide ((a0.bB.getD g1.1.toNat bX.zero).before=(mget ((a0.bB.getD g1.1.toNat bX.zero).name) g1.2).getD aJ.zero)))||(!v3))=true then
   some (.inr (.inr false))
  else
   (if(decide (8<((mput ((a0.bB.getD g1.1.toNat bX.zero).name) ((a0.bB.getD g1.1.toNat bX.zero).after) g1.2).length:Int)))=true then
    some (.inr (.inr false))
   else
    some (.inl ((i64.wrap (g1.1+1)),mput ((a0.bB.getD g1.1.toNat bX.zero).name) ((a0.bB.getD g1.1.toNat bX.zero).after) g1.2))))
 else
  some (.inr (.inl ())))
def zi4(a0:bG):Option Bool:=
 (zg8 (zaw7 a0) (0,[])).bind (λ|.inl z=>zaw6 a0 z|.inr z=>some z)
@[reducible,instance] def zdx9 (a0:bG):=mkJ (zi4 a0) 0 (@zaw6.eq_1 a0) λ(j1:Unit)=>⟨[(1,.ptr 0 0 0)],[(0,bx a0)],1⟩
@[reducible,instance] def zdy0 (a0:bG) {T:Type} (x:T):=mkL x (@zaw7.eq_1 a0) λ(g1:Int×(List (ByteArray×aJ)))=>⟨[(1,.ptr 0 0 0),(3,.mp 1),(8,la a0.bB),(9,.int .i64 (a0.bB.length:Int)),(10,.int .i64 g1.1)],[(0,bx a0),(1,⟨false,0,[A.str ⟨#[]⟩,A.bool true],g1.2.map (mS aJ.enc)⟩)],2⟩
instance zaH2(a0:bG):OkP (zi4 a0) 70 [ga a0] (λ r=>.bool r):=ok1 (zi4.eq_1 a0) Tryz.f70 []
attribute [local irreducible] zi4
def zU3(j1:(List aO)):Option (Bool×(List aO)):=
 some (true,j1)
@[go_sem] def zct3(j1:(List aO)):St:=⟨[],[(0,⟨false,1,[A.sl ([].map aO.enc)],[[.own 2 0 j1.length]]⟩),(2,sx j1)],3⟩
def zai1(a90:(aP->List aO->Option (Bool×(List aO))))(a0:aP)(g1:Int×(List aO)):Option ((Int×(List aO))⊕((List aO)⊕(Bool×(List aO)))):=
 (if(decide (g1.1<(a0.bU.length:Int)))=true then
  gd (0<=g1.1/\g1.1<(a0.bU.length:Int))<|
  (a90 (a0.bU.getD g1.1.toNat aP.zero) g1.2).bind λ v3=>
  (if(!v3.1)=true then
   some (.inr (.inr (false,v3.2)))
  else
   some (.inl ((i64.wrap (g1.1+1)),v3.2)))
 else
  some (.inr (.inl g1.2)))
@[go_sem] def zct4(a0:aP)(g1:Int×(List aO)):St:=⟨[(1,.ptr 0 0 0),(44,la a0.bU),(45,.int .i64 (a0.bU.length:Int)),(46,.int .i64 g1.1)],[(0,⟨false,1,[A.sl ([].map aO.enc)],[[.own 2 0 g1.2.length]]⟩),(2,sx g1.2)],3⟩
def zW9(a90:(aP->List aO->Option (Bool×(List aO))))(a0:aP)(a1:List aO):Option (Bool×(List aO)):=
 (if(decide ((a0.bU.length:Int)=0))=true then
  ((if(decide (a0.k=0))=true then zj3 a0.bV else some false)).bind λ v1=>
  (if(decide (a0.k=0)&&v1)=true then
   (zh7 a0.bV a1).bind λ v2=>
   some (((decide (a0.k=0)&&v1)&&decide (v2.1=0)),v2.2)
  else
   some (((decide (a0.k=0)&&v1)&&decide (0=0)),a1))
 else
  (if((decide (a0.k<1)||decide ((a0.bU.length:Int)<a0.k))||(!decide (a0.bV={aO.zero with})))=true then
   some (false,a1)
  else
   (zg8 (zai1 a90 a0) (0,a1)).bind (λ|.inl z=>zU3 z|.inr z=>some z)))
def zQ4:Nat->(aP->List aO->Option (Bool×(List aO)))
 |0=>λ _ _=>none
 |n+1=>zW9 (zQ4 n)
def zo8(a0:aP)(a1:List aO):Option (Bool×(List aO)):=zQ4 (_root_.SizeOf.sizeOf a0+1) a0 a1
theorem zaL5(a90:(aP->List aO->Option (Bool×(List aO))))(hrc:∀(a0:aP) (a1:List aO) (r:Bool×(List aO)),a90 a0 a1=some r->MFn C 131 [ga a0,.ptr 0 0 0] [(0,⟨false,1,[A.sl ([].map aO.enc)],[[.own 1 0 a1.length]]⟩),(1,sx a1)] 2 (.bool r.1) [(0,⟨false,1,[A.sl ([].map aO.enc)],[[.own 2 0 r.2.length]]⟩),(2,sx r.2)] 3)(a0:aP)(a1:List aO)(r:Bool×(List aO))(h:zW9 a90 a0 a1=some r):MFn C 131 [ga a0,.ptr 0 0 0] [(0,⟨false,1,[A.sl ([].map aO.enc)],[[.own 1 0 a1.length]]⟩),(1,sx a1)] 2 (.bool r.1) [(0,⟨false,1,[A.sl ([].map aO.enc)],[[.own 2 0 r.2.length]]⟩),(2,sx r.2)] 3:=by
 refine zK4 Tryz.f131 [] [.bool r.1] λ E hG hN hK=>?_;unfold zW9 at h;refine za2 (za3 hG ?_);refine za2 (za2 (za3 hG ?_));refine zh3 rfl hG h (λ _ h=>?_) (λ _ h=>?_)
 · refine za2 (za3 hG ?_)
   obtain⟨v1,hv1,h⟩:=zd2 h;refine zn1 (λ hg=>(zaL2 a0.bV).ok _ (zar3 hg hv1)) ?_;refine zbL4 h (λ hc h=>?_) (λ hc h=>?_)
   · obtain⟨v2,hv2,h⟩:=zd2 h
     refine zbB4 hc [(0,0),(1,1)] [(2,3)] [0,1,2] ((zaR6 a0.bV a1).ok _ hv2) rfl rfl ?_;refine zo3 ?_;exact zw8 [(0,0),(2,3)] h
   refine zbB5 hc (.int .i64 0) ?_;refine zo3 ?_;exact zw8 [(0,0),(2,1)] h
 refine zh0 ?_;refine za2 (za2 (za3 hG ?_));refine zh3 rfl hG h (λ _ h=>?_) (λ _ h=>?_)
 · refine za2 (za3 hG ?_)
   refine zo3 ?_;exact zw8 [(0,0),(2,1)] h
 refine zh0 ?_;refine za2 (za2 (za3 hG ?_));refine zs5 zct3 (λ v=>zU3 v=some r) ?_ ?_
 · intro j1 h
   unfold zU3 at h;refine g_st ?_;refine za2 (za3 hG ?_);refine zo3 ?_;exact zw8 [(0,0),(2,2)] h
 refine zz0 (zct4 a0) hK [(0,0),(2,1)] h (λ x_l1 h g1 y_l1 h_l1 hx_l1=>?_);unfold zai1 at h_l1;refine g_st ?_;refine za2 (za3 hG ?_);refine za2 ?_;refine zh3 rfl hG h_l1 (λ _ h_l1=>?_) (λ _ h_l1=>?_)
 · refine zh0 ?_
   refine za2 (zr6 (za2 ?_));obtain⟨hb1,h_l1⟩:=ze5 h_l1;refine za3 hG ?_;refine za2 (za3 hG ?_);obtain⟨v3,hv3,h_l1⟩:=zd2 h_l1;refine zs2 [(0,0),(1,2)] [(2,4)] [0,1,2] (hrc (a0.bU.getD g1.1.toNat aP.zero) g1.2 _ hv3) rfl rfl ?_;refine zh3 rfl hG h_l1 (λ _ h_l1=>?_) (λ _ h_l1=>?_)
   · refine za2 (za3 hG ?_)
     refine zo3 ?_;cases h_l1;cases hx_l1 _ rfl;exact zw8 [(0,0),(2,4)] h
   refine zh0 ?_;refine za3 hG ?_;exact zy5 hK [(0,0),(2,4)] h_l1
 refine zv7 ?_;cases h_l1;cases hx_l1 _ rfl;exact zs8 hK [(0,0),(2,2)] g1.2 (by exact h)
theorem zam1:∀(n:Nat) (a0:aP) (a1:List aO) (r:Bool×(List aO)),zQ4 n a0 a1=some r->MFn C 131 [ga a0,.ptr 0 0 0] [(0,⟨false,1,[A.sl ([].map aO.enc)],[[.own 1 0 a1.length]]⟩),(1,sx a1)] 2 (.bool r.1) [(0,⟨false,1,[A.sl ([].map aO.enc)],[[.own 2 0 r.2.length]]⟩),(2,sx r.2)] 3
 |0,_,_,_,h=>nomatch h
 |n+1,a0,a1,r,h=>zaL5 (zQ4 n) (zam1 n) a0 a1 r h
instance zaL6(a0:aP)(a1:List aO):OkM (zo8 a0 a1) 131 [ga a0,.ptr 0 0 0] [(0,⟨false,1,[A.sl ([].map aO.enc)],[[.own 1 0 a1.length]]⟩),(1,sx a1)] 2 (λ r=>.bool r.1) (λ r=>[(0,⟨false,1,[A.sl ([].map aO.enc)],[[.own 2 0 r.2.length]]⟩),(2,sx r.2)]) 3:=⟨λ r h=>zam1 _ a0 a1 r h⟩
attribute [local irreducible] zo8
def zaw8(j1:Unit):Option (aJ×Bool):=
 some ({aJ.zero with},false)
def zaw9(a1:aF)(v1:(List aW))(g1:Int):Option (Int⊕(Unit⊕(aJ×Bool))):=
 (if(decide (g1<(v1.length:Int)))=true then
  gd (0<=g1/\g1<(v1.length:Int))<|
  (if(decide ((v1.getD g1.toNat aW.zero).aZ=a1))=true then
   some (.inr (.inr ((v1.getD g1.toNat aW.zero).aY,true)))
  else
   some (.inl (i64.wrap (g1+1))))
 else
  some (.inr (.inl ())))
def zp7(a0:aC)(a1:aF):Option (aJ×Bool):=
 (zq6 a0).bind λ v1=>
 (zg8 (zaw9 a1 v1) 0).bind (λ|.inl z=>zaw8 z|.inr z=>some z)
@[reducible,instance] def zdy1 a0 a1 {T1:Type} (v1:T1):=mkJ (zp7 a0 a1,v1) 0 (@zaw8.eq_1) λ(j1:Unit)=>⟨[(4,.ptr 0 0 0)],[(0,bx aJ.zero)],1⟩
@[reducible,instance] def zdy2 (a1:aF) (v1:(List aW)) {T:Type} (x:T):=mkL x (@zaw9.eq_1 a1 v1) λ(g1:Int)=>⟨[(3,.ptr 0 0 0),(4,.ptr 1 0 0),(9,la v1),(10,.int .i64 (v1.length:Int)),(11,.int .i64 g1)],[(0,bx a1),(1,bx aJ.zero)],2⟩
instance zaH3(a0:aC)(a1:aF):OkP (zp7 a0 a1) 223 [ga a0,ga a1] (λ r=>.tup [ga r.1,.bool r.2]):=ok1 (zp7.eq_1 a0 a1) Tryz.f223 []
attribute [local irreducible] zp7
def zs6(a0:aG)(a1 a2:aJ):Option aJ:=
 (if((!(zC1 a0 a1))||(!(zC1 a0 a2)))=true then
  some ({aJ.zero with})
 else
  (if(zx9 a1)=true then
   some a2
  else
   (if(zx9 a2)=true then
    some a1
   else
    (if(decide (a0.kind=1))=true then
     (zt8 a1.mode a2.mode).bind λ v1=>
     some ({aJ.zero with mode:=v1})
    else
     some ({aJ.zero with bJ:=(if a1.bJ<a2.bJ then a2.bJ else a1.bJ)})))))
instance zca5(a0:aG)(a1 a2:aJ):OkP (zs6 a0 a1 a2) 234 [ga a0,ga a1,ga a2] (λ r=>ga r):=ok1 (zs6.eq_1 a0 a1 a2) Tryz.f234 []
attribute [local irreducible] zs6
def zo0(a0:aC)(a1:aF):Option (aC×aF):=
 (zo7 a0.bR a1 ({aJ.zero with})).bind λ v1=>
 some ({a0 with bR:=v1},a1)
instance zaL7(a0:aC)(a1:aF):OkM (zo0 a0 a1) 197 [.ptr 0 0 0,.ptr 1 0 0] [(0,bx a0),(1,bx a1)] 2 (λ r=>.tup []) (λ r=>[(0,bx r.1),(1,bx r.2)]) 2:=okm (zo0.eq_1 a0 a1) (λ r=>[]) Tryz.f197 []
attribute [local irreducible] zo0
def zP3(j1:(List aD)):Option (List aD):=
 some j1
@[go_sem] def zct5(j1:(List aD)):St:=⟨[],[(0,⟨false,1,[A.sl ([].map aD.enc)],[[.own 1 0 j1.length]]⟩),(1,sx j1)],2⟩
def zu3(g1:Int×(List aD)):Option ((Int×(List aD))⊕(List aD)):=
 ((if(!(decide (i64.wrap ((i64.wrap (g1.1-1)).tdiv 2)=g1.1)))=true then ze4 g1.1 (i64.wrap ((i64.wrap (g1.1-1)).tdiv 2)) g1.2 else some (false,g1.2))).bind λ v1=>
 gd (v1.2.length=g1.2.length)<|
 (if(decide (i64.wrap ((i64.wrap (g1.1-1)).tdiv 2)=g1.1)||(!v1.1))=true then
  some (.inr v1.2)
 else
  (zd0 (i64.wrap ((i64.wrap (g1.1-1)).tdiv 2)) g1.1 v1.2).bind λ v2=>
  gd (v2.length=v1.2.length)<|
  some (.inl ((i64.wrap ((i64.wrap (g1.1-1)).tdiv 2)),v2)))
@[go_sem] def zct6(g1:Int×(List aD)):St:=⟨[(0,.ipt 88 0 0 0),(1,.int .i64 g1.1)],[(0,⟨false,1,[A.sl ([].map aD.enc)],[[.own 1 0 g1.2.length]]⟩),(1,sx g1.2)],2⟩
def zk6(a0:Int)(a1:List aD):Option (List aD):=
 (zg8 zu3 (a0,a1)).bind (λ z=>zP3 z)
theorem zaB3(a0:Int)(a1:List aD)(r:(List aD))(h:zk6 a0 a1=some r):MFn C 60 [.ipt 88 0 0 0,.int .i64 a0] [(0,⟨false,1,[A.sl ([].map aD.enc)],[[.own 1 0 a1.length]]⟩),(1,sx a1)] 2 (.tup []) [(0,⟨false,1,[A.sl ([].map aD.enc)],[[.own 1 0 r.length]]⟩),(1,sx r)] 2:=by
 refine zK4 Tryz.f60 [(15,17600664),(21,17600670)] [] λ E hG hN hK=>?_;unfold zk6 at h;refine zs5 zct5 (λ v=>zP3 v=some r) ?_ ?_
 · intro j1 h
   unfold zP3 at h;refine g_st ?_;exact zw8 [(0,0),(1,1)] h
 refine zz0 zct6 hK [(0,0),(1,1)] h (λ x_l1 h g1 y_l1 h_l1 hx_l1=>?_);unfold zu3 at h_l1;refine g_st ?_;refine zr6 (za2 (za3 hG ?_));refine za2 (za2 (za3 hG ?_));obtain⟨v1,hv1,h_l1⟩:=zd2 h_l1;obtain⟨hb2,h_l1⟩:=ze5 h_l1;refine zbB3 [(0,1)] [0] hv1 (λ hc=>(zM1 g1.1 (i64.wrap ((i64.wrap (g1.1-1)).tdiv 2)) g1.2).ok _ hc) rfl ?_;refine zh3 rfl hG h_l1 (λ _ h_l1=>?_) (λ _ h_l1=>?_)
 · refine zv7 ?_
   cases h_l1;cases hx_l1 _ rfl;exact zs8 hK [(0,0),(1,1)] v1.2 (by exact h)
 refine zh0 ?_;refine za2 (za3 hG ?_);obtain⟨v2,hv2,h_l1⟩:=zd2 h_l1;obtain⟨hb1,h_l1⟩:=ze5 h_l1;refine zs2 [(0,1)] [] [0] ((zW2 (i64.wrap ((i64.wrap (g1.1-1)).tdiv 2)) g1.1 v1.2).ok _ hv2) rfl rfl ?_;refine za3 hG ?_;exact zy5 hK [(0,0),(1,1)] h_l1
attribute [local irreducible] zk6
end
end Ab
end Go.Proofs.YtamndckemppjdaaGreatDoor
