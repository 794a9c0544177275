import Derived.Test.YtenebhlnfjcffaaGreatDoorHm26
import Derived.Test.YtenebhlnfjcffaaGreatDoorHm30
namespace Go.Proofs.YtenebhlnfjcffaaGreatDoor
namespace Ab
open IntKind (i64 u64 u8)
set_option linter.unusedSimpArgs false
set_option linter.defProp false
set_option linter.unusedVariables false
set_option maxRecDepth 100000
set_option maxHeartbeats 1000000
noncomputable section
attribute [local irreducible] zn8 zf5 zb5 za4 ze1 zm5 zb6 zb1 zo2 zi2 zl5 zi9 zn1 zf4 zd8 zg3 zk3 ze8 za7 zb2 zh7 zj7 zj3 zi8 zh4 zk4 zd0 zd9 zj9 zp2 zm8 zh0 zf8 ze0 ze4 zc8 za9 zk6 zh1 zo5 zh2 f_ref08_holds zc7 zl8 zg5 zh8 zn7 zg1 zi3 zf9 zb3 za0 zj2 zn3 zl9 zf0 zh5 zf1 zb7 ze2 zf2 zi6 zj8 zo7 zd6 ze5 zh9 zn4 zm3 zk2 zn9 zd7 zb9 zq5 zr0 zd4 zk7 zd1 zl3 zs0 zb0 ze9 za6 zi7 zc6 za1 zg2 zl4 zf6 zs1 zr4 zu3 zh6 zj5 zg6 zp6 zx8 zs4 ze7 zj0 zd3 ze6 zc0 zt1 zk1 zm1 zq8 zc1 zp3 zn6 zl1 zi0 zr1 zg7 zt7 zm2 zl6 zj4 zk0 zp4 zv1 zl2 zk5 zp5 zu2 za5 zm6 zq7 zi5 zt9 zo6 zt4 zn5 zq6 f_formula_holds zm0 zc3 zl0 zs2 zu0 zb8 zs9 zo8 zm7 zf7 ze3 zc5 zs3 zu1 zr2 zr7 zo3 zv8 zy1 zw2 zs5 zp0 zi1 zv9 zy7 zs8 zo4 zp7 zx4 zx0 zx5 zC9 zl7 zb4 zs7 zu9 zx9 zy8 zy2 zz7 zi4 zF2 zt3 zA1 zB2 zF3 zt6 zG2 zK7 zy3 zD2 zN0 zB6 zI8 zE3 zL6 zT3 zM0 zai6 zF4 zC1 zw0 zC2 zI9 zD3 zw8 zI0 zW6 zI1 zS0 zx1 zJ0 zL7 zO1 zD4 zY7 zY8 zad3 zL8 zt0 zL9 zad4 zY9 zT2 zU6 zW7 zC3 zy5 zQ8 zK0 zz0 zW8 zz9 zy0 zO2
def zad5:Option Bool:=
 (zr0 0).bind λ v1=>
 (zQ8 (⟨[],[(⟨v1,{aO.zero with bG:=(⟨(⟨#[97]⟩:ByteArray),{aC.zero with mode:=5}⟩:aJ)},3⟩:bP)]⟩:aQ)).bind λ v2=>
 (zK0 v2.1).bind λ v3=>
 (zy3 v3.1 v1).bind λ v4=>
 (zz0 v3.1 v1).bind λ v5=>
 ((if((decide (v2.2=0)&&decide (v3.2=0))&&v4.2)=true then zz7 (⟨[],[(⟨v1,{aO.zero with bG:=(⟨(⟨#[97]⟩:ByteArray),{aC.zero with mode:=5}⟩:aJ)},3⟩:bP)]⟩:aQ) v3.1 else some false)).bind λ v6=>
 ((if(((decide (v2.2=0)&&decide (v3.2=0))&&v4.2)&&v6)=true then zy5 v3.1 else some false)).bind λ v7=>
 gd ((((((decide (v2.2=0)&&decide (v3.2=0))&&v4.2)&&v6)&&v7)&&decide ((v5.length:Int)=1))=true->0<=0/\0<(v5.length:Int))<|
 ((if((((((decide (v2.2=0)&&decide (v3.2=0))&&v4.2)&&v6)&&v7)&&decide ((v5.length:Int)=1))&&v5.getD 0 false)=true then zC3 v3.1 else some [])).bind λ v8=>
 some (((((((decide (v2.2=0)&&decide (v3.2=0))&&v4.2)&&v6)&&v7)&&decide ((v5.length:Int)=1))&&v5.getD 0 false)&&decide ((v8.length:Int)=1))
instance zds9:OkP zad5 5 [] (λ r=>.bool r):=⟨λ r h=>by
 refine zae9 Tryz.f5 [(17,2)] λ E hG hN hK=>?_;have hm:Mk zad5:=trivial;unfold zad5 at h;refine za3 (za8 hG ?_);refine za3 (za8 hG ?_);obtain⟨v1,hv1,h⟩:=zf3 h;have hm:=mkP hm v1;refine zw9 (λ hg=>(zcq8 0).ok _ hv1) ?_;refine za3 (za8 hG ?_);refine za3 (za8 hG ?_);obtain⟨v2,hv2,h⟩:=zf3 h;have hm:=mkP hm v2;have hc_v2:=(zbs2 (⟨[],[(⟨v1,{aO.zero with bG:=(⟨(⟨#[97]⟩:ByteArray),{aC.zero with mode:=5}⟩:aJ)},3⟩:bP)]⟩:aQ)).ok _ hv2;have el_v2:∀x:aQ,aQ.enc x=[A.sl (x.aI.map aB.enc),A.sl (x.bI.map bP.enc)]:=λ x=>rfl
 try dsimp only[ga,la,En.e]at hc_v2
 rw[el_v2]at hc_v2;dsimp only at hc_v2;refine zw9 (λ hg=>PFn.unfullA hc_v2) ?_;refine za3 (za8 hG ?_);obtain⟨v3,hv3,h⟩:=zf3 h;have hm:=mkP hm v3;refine zw9 (λ hg=>(zbs3 v2.1).ok _ hv3) ?_;refine za3 (za8 hG ?_);obtain⟨v4,hv4,h⟩:=zf3 h;have hm:=mkP hm v4;refine zw9 (λ hg=>(zbB8 v3.1 v1).ok _ hv4) ?_;refine za3 (za8 hG ?_);obtain⟨v5,hv5,h⟩:=zf3 h;have hm:=mkP hm v5;refine zw9 (λ hg=>(zbn1 v3.1 v1).ok _ hv5) ?_;refine za3 (za8 hG ?_);obtain⟨v6,hv6,h⟩:=zf3 h;have hm:=mkP hm v6;refine zw9 (λ hg=>PFn.unfullA ((zbB7 (⟨[],[(⟨v1,{aO.zero with bG:=(⟨(⟨#[97]⟩:ByteArray),{aC.zero with mode:=5}⟩:aJ)},3⟩:bP)]⟩:aQ) v3.1).ok _ (zaZ9 hg hv6))) ?_;exact gogo⟩
attribute [local irreducible] zad5
def zaX1(j2:aQ):Option aQ:=
 some j2
def zan1(a0:aV)(g1:Int×aQ):Option ((Int×aQ)⊕aQ):=
 (if(decide (g1.1<(a0.aG.length:Int)))=true then
  gd (0<=g1.1/\g1.1<(a0.aG.length:Int))<|
  (if(a0.aG.getD g1.1.toNat aF.zero).bF=true then
   (ze2 (⟨(a0.aG.getD g1.1.toNat aF.zero).aK,((a0.aG.getD g1.1.toNat aF.zero).aR).bN,(a0.aG.getD g1.1.toNat aF.zero).gen⟩:bP)).bind λ v2=>
   gd (g1.2.bI.length+1<=4294967296)<|
   some (.inl ((i64.wrap (g1.1+1)),(⟨g1.2.aI,(g1.2.bI++[v2])⟩:aQ)))
  else
   some (.inl ((i64.wrap (g1.1+1)),g1.2)))
 else
  some (.inr g1.2))
def zac9(a0:aV)(j1:aQ):Option aQ:=
 (zc2 (zan1 a0) (0,j1)).bind (λ z=>zaX1 z)
def zan2(a0:aV)(g2:Int×aQ):Option ((Int×aQ)⊕aQ):=
 (if(decide (g2.1<(a0.aI.length:Int)))=true then
  gd (0<=g2.1/\g2.1<(a0.aI.length:Int))<|
  (zd7 (a0.aI.getD g2.1.toNat aB.zero)).bind λ v3=>
  gd (g2.2.aI.length+1<=4294967296)<|
  some (.inl ((i64.wrap (g2.1+1)),(⟨(g2.2.aI++[v3]),g2.2.bI⟩:aQ)))
 else
  some (.inr g2.2))
def zT4(a0:aV):Option aQ:=
 (zO2 a0).bind λ v1=>
 (if(!v1)=true then
  some (⟨[],[]⟩:aQ)
 else
  (zc2 (zan2 a0) (0,(⟨[],[]⟩:aQ))).bind (λ z=>zac9 a0 z))
@[reducible,instance] def zew4 (a0:aV) (j1:aQ):=mkJ (zac9 a0 j1) 2 (@zaX1.eq_1) λ(j2:aQ)=>⟨[(2,.ptr 0 0 0),(3,.ptr 1 0 0)],[(0,bx aQ.zero),(1,⟨false,2,aQ.enc aQ.zero,[[.own 2 0 j2.aI.length,.own 3 0 j2.bI.length]]⟩),(2,sx j2.aI),(3,sx j2.bI)],4⟩
@[reducible,instance] def zew5 (a0:aV) {T:Type} (x:T):=mkL x (@zan1.eq_1 a0) λ(g1:Int×aQ)=>⟨[(2,.ptr 0 0 0),(3,.ptr 1 0 0),(28,la a0.aG),(29,.int .i64 (a0.aG.length:Int)),(30,.int .i64 g1.1)],[(0,bx aQ.zero),(1,⟨false,2,aQ.enc aQ.zero,[[.own 2 0 g1.2.aI.length,.own 3 0 g1.2.bI.length]]⟩),(2,sx g1.2.aI),(3,sx g1.2.bI)],4⟩
@[reducible,instance] def zew6 (a0:aV) {T1:Type} (v1:T1):=mkJ (zT4 a0,v1) 0 (@zac9.eq_1 a0) λ(j1:aQ)=>⟨[(1,.ptr 0 0 0),(2,.ptr 1 0 0),(3,.ptr 2 0 0)],[(0,bx a0),(1,bx aQ.zero),(2,⟨false,2,aQ.enc aQ.zero,[[.own 3 0 j1.aI.length,.own 4 0 j1.bI.length]]⟩),(3,sx j1.aI),(4,sx j1.bI)],5⟩
@[reducible,instance] def zew7 (a0:aV) {T:Type} (x:T):=mkL x (@zan2.eq_1 a0) λ(g2:Int×aQ)=>⟨[(1,.ptr 0 0 0),(2,.ptr 1 0 0),(3,.ptr 2 0 0),(13,la a0.aI),(14,.int .i64 (a0.aI.length:Int)),(15,.int .i64 g2.1)],[(0,bx a0),(1,bx aQ.zero),(2,⟨false,2,aQ.enc aQ.zero,[[.own 3 0 g2.2.aI.length,.own 4 0 g2.2.bI.length]]⟩),(3,sx g2.2.aI),(4,sx g2.2.bI)],5⟩
instance zdk0(a0:aV):OkP (zT4 a0) 7 [ga a0] (λ r=>ga r):=⟨λ r h=>by
 refine zae9 Tryz.f7 [(3,5)] λ E hG hN hK=>?_;have hm:Mk (zT4 a0):=trivial;unfold zT4 at h;refine za3 (za8 hG ?_);refine za3 (za8 hG ?_);refine g_gh (.ownb 2 0 8 (aB.enc aB.zero)) ?_;refine g_gh (.ownb 2 1 9 (bP.enc bP.zero)) ?_;exact gogo⟩
attribute [local irreducible] zT4
def zN1(a0:aF)(a1:ByteArray)(v1:Int)(j1:bB):Option bB:=
 (zj7 a0.aX.aD a1).bind λ v3=>
 gd (0<=v1/\v1<(j1.c.aI.length:Int))<|
 (zj8 (j1.c.aI.getD v1.toNat aB.zero) a0.aK).bind λ v4=>
 (if(!decide (v4=v3))=true then
  (zL8 j1.c.aI a0.aK (⟨a1,v3⟩:aJ)).bind λ v5=>
  (zd0 v5.1 v5.2.1 j1).bind λ v6=>
  some (⟨(⟨v6.1,v6.2.1,v6.2.2.1⟩:aV),v6.2.2.2⟩:bB)
 else
  some j1)
def zz1(a0:aF)(a1:ByteArray)(a2:bB):Option bB:=
 (zi8 a2.c.aI a1).bind λ v1=>
 gd (0<=v1/\v1<(a2.c.aI.length:Int))<|
 (zi7 (a2.c.aI.getD v1.toNat aB.zero) a0.aK).bind λ v2=>
 (if v2.2=true then
  (zY8 a2.c.aI a0.aK a1).bind λ v7=>
  (zd0 v7.1 v7.2.1 a2).bind λ v8=>
  zN1 a0 a1 v1 (⟨(⟨v8.1,v8.2.1,v8.2.2.1⟩:aV),v8.2.2.2⟩:bB)
 else
  zN1 a0 a1 v1 a2)
@[reducible,instance] def zew8 (a0:aF) (a1:ByteArray) a2 (v1:Int) {T1:Type} (v2:T1):=mkJ ((zz1 a0 a1 a2,v1),v2) 999 (@zN1.eq_1 a0 a1 v1) λ(j1:bB)=>⟨[(0,.ptr 0 0 0),(2,.str a1),(4,.ptr 3 0 0),(6,.int .i64 v1)],[(0,⟨false,4,bB.enc bB.zero,[[.int .i64 j1.c.now,la j1.c.aI,.own 4 0 j1.c.aG.length,.own 5 0 j1.ev.length]]⟩),(3,bx a0),(4,sx j1.c.aG),(5,sx j1.ev)],6⟩
instance zcw1(a0:aF)(a1:ByteArray)(a2:bB):OkM (zz1 a0 a1 a2) 249 [.ptr 0 0 0,ga a0,.str a1] [(0,⟨false,4,bB.enc bB.zero,[[.int .i64 a2.c.now,la a2.c.aI,.own 1 0 a2.c.aG.length,.own 2 0 a2.ev.length]]⟩),(1,sx a2.c.aG),(2,sx a2.ev)] 3 (λ r=>.tup []) (λ r=>[(0,⟨false,4,bB.enc bB.zero,[[.int .i64 r.c.now,la r.c.aI,.own 3 0 r.c.aG.length,.own 4 0 r.ev.length]]⟩),(3,sx r.c.aG),(4,sx r.ev)]) 5:=okm (zz1.eq_1 a0 a1 a2) (λ r=>[]) Tryz.f249 []
attribute [local irreducible] zz1
def zZ1(a0:Int)(j1:bB):Option bB:=
 (zd9 a0 j1).bind λ v2=>
 some (⟨(⟨v2.1,v2.2.1,v2.2.2.1⟩:aV),v2.2.2.2⟩:bB)
def zN2(a0:Int)(a1:bB)(v1:(List aJ))(g1:Int×bB):Option ((Int×bB)⊕bB):=
 (if(decide (g1.1<(v1.length:Int)))=true then
  gd (0<=g1.1/\g1.1<(v1.length:Int))<|
  (zz1 (a1.c.aG.getD a0.toNat aF.zero) ((v1.getD g1.1.toNat aJ.zero).name) g1.2).bind λ v3=>
  some (.inl ((i64.wrap (g1.1+1)),v3))
 else
  some (.inr g1.2))
def zv0(a0:Int)(a1:bB):Option bB:=
 gd (0<=a0/\a0<((a1.c.aG.length:Nat):Int))<|
 (zw8 (((a1.c.aG.getD a0.toNat aF.zero).aR).bN)).bind λ v1=>
 (zc2 (zN2 a0 a1 v1) (0,a1)).bind (λ z=>zZ1 a0 z)
@[reducible,instance] def zew9 (a0:Int) a1 {T1:Type} (v1:T1):=mkJ (zv0 a0 a1,v1) 0 (@zZ1.eq_1 a0) λ(j1:bB)=>⟨[(0,.ptr 0 0 0),(1,.int .i64 a0)],[(0,⟨false,4,bB.enc bB.zero,[[.int .i64 j1.c.now,la j1.c.aI,.own 3 0 j1.c.aG.length,.own 4 0 j1.ev.length]]⟩),(3,sx j1.c.aG),(4,sx j1.ev)],5⟩
@[reducible,instance] def zex0 (a0:Int) (a1:bB) (v1:(List aJ)) {T:Type} (x:T):=mkL x (@zN2.eq_1 a0 a1 v1) λ(g1:Int×bB)=>⟨[(0,.ptr 0 0 0),(1,.int .i64 a0),(4,.ptr 3 0 0),(5,la v1),(6,.int .i64 g1.1)],[(0,⟨false,4,bB.enc bB.zero,[[.int .i64 g1.2.c.now,la g1.2.c.aI,.own 4 0 g1.2.c.aG.length,.own 5 0 g1.2.ev.length]]⟩),(3,bx (a1.c.aG.getD a0.toNat aF.zero)),(4,sx g1.2.c.aG),(5,sx g1.2.ev)],6⟩
instance zaU9(a0:Int)(a1:bB):OkM (zv0 a0 a1) 196 [.ptr 0 0 0,.int .i64 a0] [(0,⟨false,4,bB.enc bB.zero,[[.int .i64 a1.c.now,la a1.c.aI,.own 1 0 a1.c.aG.length,.own 2 0 a1.ev.length]]⟩),(1,sx a1.c.aG),(2,sx a1.ev)] 3 (λ r=>.tup []) (λ r=>[(0,⟨false,4,bB.enc bB.zero,[[.int .i64 r.c.now,la r.c.aI,.own 3 0 r.c.aG.length,.own 4 0 r.ev.length]]⟩),(3,sx r.c.aG),(4,sx r.ev)]) 5:=okm (zv0.eq_1 a0 a1) (λ r=>[]) Tryz.f196 []
attribute [local irreducible] zv0
def zav3(j1:bB):Option bB:=
 some j1
def zad6(g1:Int×bB)(j2:bB):Option ((Int×bB)⊕bB):=
 (zd9 g1.1 j2).bind λ v6=>
 (zd6 g1.1 (⟨(⟨v6.1,v6.2.1,v6.2.2.1⟩:aV),v6.2.2.2⟩:bB)).bind λ v7=>
 (zt0 (⟨(⟨v7.1,v7.2.1,v7.2.2.1⟩:aV),v7.2.2.2⟩:bB)).bind λ v8=>
 some (.inl (v8.1,(⟨(⟨v8.2.1,v8.2.2.1,v8.2.2.2.1⟩:aV),v8.2.2.2.2⟩:bB)))
def zI2(g1:Int×bB)(v4:(List Bool))(v5:(List aJ))(g2:Int×bB):Option ((Int×bB)⊕bB):=
 (if(decide (g2.1<(v5.length:Int)))=true then
  gd (0<=g2.1/\g2.1<(v5.length:Int))<|
  gd (0<=g2.1/\g2.1<(v4.length:Int))<|
  (if(!(v4.getD g2.1.toNat false))=true then
   (zz1 (g1.2.c.aG.getD g1.1.toNat aF.zero) ((v5.getD g2.1.toNat aJ.zero).name) g2.2).bind λ v9=>
   some (.inl ((i64.wrap (g2.1+1)),v9))
  else
   (zi8 g2.2.c.aI ((v5.getD g2.1.toNat aJ.zero).name)).bind λ v10=>
   gd (0<=v10/\v10<(g2.2.c.aI.length:Int))<|
   (zj8 (g2.2.c.aI.getD v10.toNat aB.zero) ((g1.2.c.aG.getD g1.1.toNat aF.zero).aK)).bind λ v11=>
   gd (0<=g1.1/\g1.1<((g2.2.c.aG.length:Nat):Int))<|
   (zj7 (((g2.2.c.aG.getD g1.1.toNat aF.zero).aX).aD) ((v5.getD g2.1.toNat aJ.zero).name)).bind λ v12=>
   (if(!decide (v11=v12))=true then
    gd (0<=g1.1/\g1.1<((g2.2.c.aG.length:Nat):Int))<|
    (zw2 ((g2.2.c.aG.getD g1.1.toNat aF.zero).aX) (⟨(v5.getD g2.1.toNat aJ.zero).name,v12,v11⟩:bC)).bind λ v13=>
    gd (0<=g1.1/\g1.1<((g2.2.c.aG.length:Nat):Int))<|
    some (.inl ((i64.wrap (g2.1+1)),(⟨(⟨g2.2.c.now,g2.2.c.aI,g2.2.c.aG.set g1.1.toNat ({(g2.2.c.aG.getD g1.1.toNat aF.zero)with aX:=v13.1})⟩:aV),g2.2.ev⟩:bB)))
   else
    some (.inl ((i64.wrap (g2.1+1)),g2.2))))
 else
  some (.inr g2.2))
def zD7(g1:Int×bB):Option ((Int×bB)⊕bB):=
 (if(decide (0<=g1.1))=true then
  gd (0<=g1.1/\g1.1<((g1.2.c.aG.length:Nat):Int))<|
  (zd8 2 ((g1.2.c.aG.getD g1.1.toNat aF.zero).aK) g1.2).bind λ v2=>
  (zx1 v2.2.1 ((g1.2.c.aG.getD g1.1.toNat aF.zero).aK) (((g1.2.c.aG.getD g1.1.toNat aF.zero).aR).bN)).bind λ v3=>
  (zL6 (((g1.2.c.aG.getD g1.1.toNat aF.zero).aR).bN) v3).bind λ v4=>
  (zw8 (((g1.2.c.aG.getD g1.1.toNat aF.zero).aR).bN)).bind λ v5=>
  (zc2 (zI2 g1 v4 v5) (0,(⟨(⟨v2.1,v2.2.1,v2.2.2.1⟩:aV),v2.2.2.2⟩:bB))).bind (λ z=>zad6 g1 z)
 else
  some (.inr g1.2))
def zm4(a0:bB):Option bB:=
 (zt0 a0).bind λ v1=>
 (zc2 zD7 (v1.1,(⟨(⟨v1.2.1,v1.2.2.1,v1.2.2.2.1⟩:aV),v1.2.2.2.2⟩:bB))).bind (λ z=>zav3 z)
@[reducible,instance] def zex1 a0 {T1:Type} (v1:T1):=mkJ (zm4 a0,v1) 0 (@zav3.eq_1) λ(j1:bB)=>⟨[],[(0,⟨false,4,bB.enc bB.zero,[[.int .i64 j1.c.now,la j1.c.aI,.own 3 0 j1.c.aG.length,.own 4 0 j1.ev.length]]⟩),(3,sx j1.c.aG),(4,sx j1.ev)],5⟩
@[reducible,instance] def zex2 (g1:Int×bB) {T1:Type} (v2:T1) {T2:Type} (v3:T2) {T3:Type} (v4:T3) {T4:Type} (v5:T4):=mkJ ((((zD7 g1,v2),v3),v4),v5) 2 (@zad6.eq_1 g1) λ(j2:bB)=>⟨[(0,.ptr 0 0 0),(2,.int .i64 g1.1)],[(0,⟨false,4,bB.enc bB.zero,[[.int .i64 j2.c.now,la j2.c.aI,.own 3 0 j2.c.aG.length,.own 4 0 j2.ev.length]]⟩),(3,sx j2.c.aG),(4,sx j2.ev)],5⟩
@[reducible,instance] def zex3 (g1:Int×bB) (v4:(List Bool)) (v5:(List aJ)) {T:Type} (x:T):=mkL x (@zI2.eq_1 g1 v4 v5) λ(g2:Int×bB)=>⟨[(0,.ptr 0 0 0),(2,.int .i64 g1.1),(3,.ptr 3 0 0),(4,.sl (v4.map eB)),(5,la v5),(6,.int .i64 g2.1)],[(0,⟨false,4,bB.enc bB.zero,[[.int .i64 g2.2.c.now,la g2.2.c.aI,.own 4 0 g2.2.c.aG.length,.own 5 0 g2.2.ev.length]]⟩),(3,bx (g1.2.c.aG.getD g1.1.toNat aF.zero)),(4,sx g2.2.c.aG),(5,sx g2.2.ev)],6⟩
@[reducible,instance] def zex4 {T:Type} (x:T):=mkL x (@zD7.eq_1) λ(g1:Int×bB)=>⟨[(0,.ptr 0 0 0),(2,.int .i64 g1.1)],[(0,⟨false,4,bB.enc bB.zero,[[.int .i64 g1.2.c.now,la g1.2.c.aI,.own 3 0 g1.2.c.aG.length,.own 4 0 g1.2.ev.length]]⟩),(3,sx g1.2.c.aG),(4,sx g1.2.ev)],5⟩
instance zbb9(a0:bB):OkM (zm4 a0) 198 [.ptr 0 0 0] [(0,⟨false,4,bB.enc bB.zero,[[.int .i64 a0.c.now,la a0.c.aI,.own 1 0 a0.c.aG.length,.own 2 0 a0.ev.length]]⟩),(1,sx a0.c.aG),(2,sx a0.ev)] 3 (λ r=>.tup []) (λ r=>[(0,⟨false,4,bB.enc bB.zero,[[.int .i64 r.c.now,la r.c.aI,.own 3 0 r.c.aG.length,.own 4 0 r.ev.length]]⟩),(3,sx r.c.aG),(4,sx r.ev)]) 5:=okm (zm4.eq_1 a0) (λ r=>[]) Tryz.f198 []
attribute [local irreducible] zm4
def zaD6(j1:bB):Option (Int×bB):=
 some (0,j1)
def zW0(g1:Int×bB):Option ((Int×bB)⊕bB):=
 (if(decide (0<=g1.1))=true then
  gd (0<=g1.1/\g1.1<((g1.2.c.aG.length:Nat):Int))<|
  (zd8 4 ((g1.2.c.aG.getD g1.1.toNat aF.zero).aK) g1.2).bind λ v2=>
  (zv0 g1.1 (⟨(⟨v2.1,v2.2.1,v2.2.2.1⟩:aV),v2.2.2.2⟩:bB)).bind λ v3=>
  (zd6 g1.1 v3).bind λ v4=>
  (zm4 (⟨(⟨v4.1,v4.2.1,v4.2.2.1⟩:aV),v4.2.2.2⟩:bB)).bind λ v5=>
  (zc7 v5).bind λ v6=>
  some (.inl (v6.1,(⟨(⟨v6.2.1,v6.2.2.1,v6.2.2.2.1⟩:aV),v6.2.2.2.2⟩:bB)))
 else
  some (.inr g1.2))
def zG6(a0:Int)(a1:bB):Option (Int×bB):=
 (if(decide (a0<0)||decide (1000<a0))=true then
  some (1,a1)
 else
  (if(decide (i64.wrap (1073741824-a0)<a1.c.now))=true then
   some (16,a1)
  else
   (zc7 (⟨(⟨(i64.wrap (a1.c.now+a0)),a1.c.aI,a1.c.aG⟩:aV),a1.ev⟩:bB)).bind λ v1=>
   (zc2 zW0 (v1.1,(⟨(⟨v1.2.1,v1.2.2.1,v1.2.2.2.1⟩:aV),v1.2.2.2.2⟩:bB))).bind (λ z=>zaD6 z)))
@[reducible,instance] def zex5 a0 a1 {T1:Type} (v1:T1):=mkJ (zG6 a0 a1,v1) 0 (@zaD6.eq_1) λ(j1:bB)=>⟨[],[(0,⟨false,4,bB.enc bB.zero,[[.int .i64 j1.c.now,la j1.c.aI,.own 3 0 j1.c.aG.length,.own 4 0 j1.ev.length]]⟩),(3,sx j1.c.aG),(4,sx j1.ev)],5⟩
@[reducible,instance] def zex6 {T:Type} (x:T):=mkL x (@zW0.eq_1) λ(g1:Int×bB)=>⟨[(0,.ptr 0 0 0),(5,.int .i64 g1.1)],[(0,⟨false,4,bB.enc bB.zero,[[.int .i64 g1.2.c.now,la g1.2.c.aI,.own 3 0 g1.2.c.aG.length,.own 4 0 g1.2.ev.length]]⟩),(3,sx g1.2.c.aG),(4,sx g1.2.ev)],5⟩
instance zcw2(a0:Int)(a1:bB):OkM (zG6 a0 a1) 194 [.ptr 0 0 0,.int .i64 a0] [(0,⟨false,4,bB.enc bB.zero,[[.int .i64 a1.c.now,la a1.c.aI,.own 1 0 a1.c.aG.length,.own 2 0 a1.ev.length]]⟩),(1,sx a1.c.aG),(2,sx a1.ev)] 3 (λ r=>.int .i64 r.1) (λ r=>[(0,⟨false,4,bB.enc bB.zero,[[.int .i64 r.2.c.now,la r.2.c.aI,.own 3 0 r.2.c.aG.length,.own 4 0 r.2.ev.length]]⟩),(3,sx r.2.c.aG),(4,sx r.2.ev)]) 5:=okm (zG6.eq_1 a0 a1) (λ r=>[.int .i64 r.1]) Tryz.f194 []
attribute [local irreducible] zG6
def zaa0(j1:bB):Option (Int×bB):=
 (zm4 j1).bind λ v6=>
 some (0,v6)
def zz4(a0:Int)(a1:bH)(v5:(List aJ))(g1:Int×bB):Option ((Int×bB)⊕bB):=
 (if(decide (g1.1<(v5.length:Int)))=true then
  gd (0<=a0/\a0<((g1.2.c.aG.length:Nat):Int))<|
  gd (0<=g1.1/\g1.1<(v5.length:Int))<|
  (zad4 g1.2.c.aI ((g1.2.c.aG.getD a0.toNat aF.zero).aK) (v5.getD g1.1.toNat aJ.zero) a1.aZ).bind λ v7=>
  (zd0 v7.1 v7.2.1 g1.2).bind λ v8=>
  some (.inl ((i64.wrap (g1.1+1)),(⟨(⟨v8.1,v8.2.1,v8.2.2.1⟩:aV),v8.2.2.2⟩:bB)))
 else
  some (.inr g1.2))
def zD0(a0:Int)(a1:bH)(a2:bB):Option (Int×bB):=
 gd (0<=a0/\a0<((a2.c.aG.length:Nat):Int))<|
 (if(a2.c.aG.getD a0.toNat aF.zero).bF=true then
  some (14,a2)
 else
  (zS0 a1).bind λ v1=>
  (if(!v1)=true then
   some (1,a2)
  else
   (zh2 a2.c.aI).bind λ v2=>
   (zD3 v2 a1.bN).bind λ v3=>
   (if(!decide (v3=0))=true then
    some (v3,a2)
   else
    gd (0<=a0/\a0<((a2.c.aG.length:Nat):Int))<|
    gd (0<=a0/\a0<((a2.c.aG.length:Nat):Int))<|
    gd (0<=a0/\a0<((a2.c.aG.length:Nat):Int))<|
    (zd6 a0 (⟨(⟨a2.c.now,a2.c.aI,((a2.c.aG.set a0.toNat ({(a2.c.aG.getD a0.toNat aF.zero)with bF:=true})).set a0.toNat ({((a2.c.aG.set a0.toNat ({(a2.c.aG.getD a0.toNat aF.zero)with bF:=true})).getD a0.toNat aF.zero)with aR:=a1})).set a0.toNat ({(((a2.c.aG.set a0.toNat ({(a2.c.aG.getD a0.toNat aF.zero)with bF:=true})).set a0.toNat ({((a2.c.aG.set a0.toNat ({(a2.c.aG.getD a0.toNat aF.zero)with bF:=true})).getD a0.toNat aF.zero)with aR:=a1})).getD a0.toNat aF.zero)with since:=a2.c.now})⟩:aV),a2.ev⟩:bB)).bind λ v4=>
    (zw8 a1.bN).bind λ v5=>
    (zc2 (zz4 a0 a1 v5) (0,(⟨(⟨v4.1,v4.2.1,v4.2.2.1⟩:aV),v4.2.2.2⟩:bB))).bind (λ z=>zaa0 z))))
@[reducible,instance] def zex7 a0 a1 a2 {T1:Type} (v1:T1) {T2:Type} (v2:T2) {T3:Type} (v3:T3) {T4:Type} (v4:T4) {T5:Type} (v5:T5):=mkJ (((((zD0 a0 a1 a2,v1),v2),v3),v4),v5) 0 (@zaa0.eq_1) λ(j1:bB)=>⟨[(0,.ptr 0 0 0)],[(0,⟨false,4,bB.enc bB.zero,[[.int .i64 j1.c.now,la j1.c.aI,.own 3 0 j1.c.aG.length,.own 4 0 j1.ev.length]]⟩),(3,sx j1.c.aG),(4,sx j1.ev)],5⟩
@[reducible,instance] def zex8 (a0:Int) (a1:bH) (v5:(List aJ)) {T:Type} (x:T):=mkL x (@zz4.eq_1 a0 a1 v5) λ(g1:Int×bB)=>⟨[(0,.ptr 0 0 0),(1,.int .i64 a0),(5,.ptr 3 0 0),(8,la v5),(9,.int .i64 g1.1)],[(0,⟨false,4,bB.enc bB.zero,[[.int .i64 g1.2.c.now,la g1.2.c.aI,.own 4 0 g1.2.c.aG.length,.own 5 0 g1.2.ev.length]]⟩),(3,bx a1),(4,sx g1.2.c.aG),(5,sx g1.2.ev)],6⟩
instance zcg2(a0:Int)(a1:bH)(a2:bB):OkM (zD0 a0 a1 a2) 195 [.ptr 0 0 0,.int .i64 a0,ga a1] [(0,⟨false,4,bB.enc bB.zero,[[.int .i64 a2.c.now,la a2.c.aI,.own 1 0 a2.c.aG.length,.own 2 0 a2.ev.length]]⟩),(1,sx a2.c.aG),(2,sx a2.ev)] 3 (λ r=>.int .i64 r.1) (λ r=>[(0,⟨false,4,bB.enc bB.zero,[[.int .i64 r.2.c.now,la r.2.c.aI,.own 3 0 r.2.c.aG.length,.own 4 0 r.2.ev.length]]⟩),(3,sx r.2.c.aG),(4,sx r.2.ev)]) 5:=okm (zD0.eq_1 a0 a1 a2) (λ r=>[.int .i64 r.1]) Tryz.f195 []
attribute [local irreducible] zD0
def zG3(a0:Int)(a1:ByteArray)(a2:bB):Option (Int×bB):=
 gd (0<=a0/\a0<((a2.c.aG.length:Nat):Int))<|
 (if(a2.c.aG.getD a0.toNat aF.zero).bF=true then
  some (14,a2)
 else
  gd (0<=a0/\a0<((a2.c.aG.length:Nat):Int))<|
  (zj7 (((a2.c.aG.getD a0.toNat aF.zero).aX).aD) a1).bind λ v1=>
  (if(decide (v1={aC.zero with}))=true then
   some (10,a2)
  else
   gd (0<=a0/\a0<((a2.c.aG.length:Nat):Int))<|
   (zL8 a2.c.aI ((a2.c.aG.getD a0.toNat aF.zero).aK) ({aJ.zero with name:=a1})).bind λ v2=>
   (zd0 v2.1 v2.2.1 a2).bind λ v3=>
   gd (0<=a0/\a0<((v3.2.2.1.length:Nat):Int))<|
   (zx9 ((v3.2.2.1.getD a0.toNat aF.zero).aX) a1).bind λ v4=>
   gd (0<=a0/\a0<((v3.2.2.1.length:Nat):Int))<|
   (zd6 a0 (⟨(⟨v3.1,v3.2.1,v3.2.2.1.set a0.toNat ({(v3.2.2.1.getD a0.toNat aF.zero)with aX:=v4.1})⟩:aV),v3.2.2.2⟩:bB)).bind λ v5=>
   (zm4 (⟨(⟨v5.1,v5.2.1,v5.2.2.1⟩:aV),v5.2.2.2⟩:bB)).bind λ v6=>
   some (0,v6)))
instance zcg3(a0:Int)(a1:ByteArray)(a2:bB):OkM (zG3 a0 a1 a2) 199 [.ptr 0 0 0,.int .i64 a0,.str a1] [(0,⟨false,4,bB.enc bB.zero,[[.int .i64 a2.c.now,la a2.c.aI,.own 1 0 a2.c.aG.length,.own 2 0 a2.ev.length]]⟩),(1,sx a2.c.aG),(2,sx a2.ev)] 3 (λ r=>.int .i64 r.1) (λ r=>[(0,⟨false,4,bB.enc bB.zero,[[.int .i64 r.2.c.now,la r.2.c.aI,.own 3 0 r.2.c.aG.length,.own 4 0 r.2.ev.length]]⟩),(3,sx r.2.c.aG),(4,sx r.2.ev)]) 5:=okm (zG3.eq_1 a0 a1 a2) (λ r=>[.int .i64 r.1]) Tryz.f199 []
attribute [local irreducible] zG3
def zN3(a0:Int)(j2:bB):Option (Int×bB):=
 (zd6 a0 j2).bind λ v2=>
 (zm4 (⟨(⟨v2.1,v2.2.1,v2.2.2.1⟩:aV),v2.2.2.2⟩:bB)).bind λ v3=>
 some (0,v3)
@[go_sem] def zdN9(a0:Int)(j2:bB):St:=⟨[(0,.ptr 0 0 0),(1,.int .i64 a0)],[(0,⟨false,4,bB.enc bB.zero,[[.int .i64 j2.c.now,la j2.c.aI,.own 3 0 j2.c.aG.length,.own 4 0 j2.ev.length]]⟩),(3,sx j2.c.aG),(4,sx j2.ev)],5⟩
def zF0(a0:Int)(v1:aW×(List aJ)×Int)(j1:bB)(g1:Int×bB):Option ((Int×bB)⊕bB):=
 (if(decide (g1.1<(v1.2.1.length:Int)))=true then
  gd (0<=g1.1/\g1.1<(v1.2.1.length:Int))<|
  (zi8 g1.2.c.aI ((v1.2.1.getD g1.1.toNat aJ.zero).name)).bind λ v4=>
  gd (0<=v4/\v4<(g1.2.c.aI.length:Int))<|
  (zj8 (g1.2.c.aI.getD v4.toNat aB.zero) ((j1.c.aG.getD a0.toNat aF.zero).aK)).bind λ v5=>
  gd (0<=g1.1/\g1.1<(v1.2.1.length:Int))<|
  (if(!decide (v5=(v1.2.1.getD g1.1.toNat aJ.zero).aM))=true then
   gd (0<=g1.1/\g1.1<(v1.2.1.length:Int))<|
   (zL8 g1.2.c.aI ((j1.c.aG.getD a0.toNat aF.zero).aK) (v1.2.1.getD g1.1.toNat aJ.zero)).bind λ v6=>
   (zd0 v6.1 v6.2.1 g1.2).bind λ v7=>
   some (.inl ((i64.wrap (g1.1+1)),(⟨(⟨v7.1,v7.2.1,v7.2.2.1⟩:aV),v7.2.2.2⟩:bB)))
  else
   some (.inl ((i64.wrap (g1.1+1)),g1.2)))
 else
  some (.inr g1.2))
@[go_sem] def zdO0(a0:Int)(v1:aW×(List aJ)×Int)(j1:bB)(g1:Int×bB):St:=⟨[(0,.ptr 0 0 0),(1,.int .i64 a0),(8,la v1.2.1),(10,.ptr 3 0 0),(11,.int .i64 g1.1)],[(0,⟨false,4,bB.enc bB.zero,[[.int .i64 g1.2.c.now,la g1.2.c.aI,.own 4 0 g1.2.c.aG.length,.own 5 0 g1.2.ev.length]]⟩),(3,bx ((j1.c.aG.getD a0.toNat aF.zero).aK)),(4,sx g1.2.c.aG),(5,sx g1.2.ev)],6⟩
def zy6(a0:Int)(v1:aW×(List aJ)×Int)(j1:bB):Option (Int×bB):=
 gd (0<=a0/\a0<((j1.c.aG.length:Nat):Int))<|
 gd (0<=a0/\a0<((j1.c.aG.length:Nat):Int))<|
 (zc2 (zF0 a0 v1 j1) (0,(⟨(⟨j1.c.now,j1.c.aI,j1.c.aG.set a0.toNat ({(j1.c.aG.getD a0.toNat aF.zero)with aX:=v1.1})⟩:aV),j1.ev⟩:bB))).bind (λ z=>zN3 a0 z)
@[go_sem] def zdO1(a0:Int)(v1:aW×(List aJ)×Int)(j1:bB):St:=⟨[(0,.ptr 0 0 0),(1,.int .i64 a0),(7,.ptr 3 0 0),(8,la v1.2.1)],[(0,⟨false,4,bB.enc bB.zero,[[.int .i64 j1.c.now,la j1.c.aI,.own 4 0 j1.c.aG.length,.own 5 0 j1.ev.length]]⟩),(3,bx v1.1),(4,sx j1.c.aG),(5,sx j1.ev)],6⟩
def zB7(a0 a1:Int)(a2:bB):Option (Int×bB):=
 gd (0<=a0/\a0<((a2.c.aG.length:Nat):Int))<|
 (zy8 ((a2.c.aG.getD a0.toNat aF.zero).aX) a1).bind λ v1=>
 (if(!decide (v1.2.2=0))=true then
  some (v1.2.2,a2)
 else
  gd (0<=a0/\a0<((a2.c.aG.length:Nat):Int))<|
  (if(a2.c.aG.getD a0.toNat aF.zero).bF=true then
   (zv0 a0 a2).bind λ v8=>
   zy6 a0 v1 v8
  else
   zy6 a0 v1 a2))
theorem zaV0(a0 a1:Int)(a2:bB)(r:Int×bB)(h:zB7 a0 a1 a2=some r):MFn C 201 [.ptr 0 0 0,.int .i64 a0,.int .i64 a1] [(0,⟨false,4,bB.enc bB.zero,[[.int .i64 a2.c.now,la a2.c.aI,.own 1 0 a2.c.aG.length,.own 2 0 a2.ev.length]]⟩),(1,sx a2.c.aG),(2,sx a2.ev)] 3 (.int .i64 r.1) [(0,⟨false,4,bB.enc bB.zero,[[.int .i64 r.2.c.now,la r.2.c.aI,.own 3 0 r.2.c.aG.length,.own 4 0 r.2.ev.length]]⟩),(3,sx r.2.c.aG),(4,sx r.2.ev)] 5:=by
 refine zaK6 Tryz.f201 [] [.int .i64 r.1] λ E hG hN hK=>?_;unfold zB7 at h;refine za3 (za8 hG ?_);refine za3 ?_;obtain⟨hb8,h⟩:=zg8 h;refine za8 hG ?_;obtain⟨v1,hv1,h⟩:=zf3 h;refine zw9 (λ hg=>zcg1 _ _ _ hv1) ?_;refine za3 (za3 (za8 hG ?_));refine zq4 rfl hG h (λ _ h=>?_) (λ _ h=>?_)
 · refine za3 (za8 hG ?_)
   refine zx6 ?_;exact zV5 [(0,0),(3,1),(4,2)] h
 refine zo1 ?_;refine za3 (za3 ?_);obtain⟨hb7,h⟩:=zg8 h;refine za8 hG ?_;refine zbq3 (zdO1 a0 v1) (λ v=>zy6 a0 v1 v=some r) rfl hG h ?_ (λ _ h=>?_) (λ _ h=>?_)
 · intro j1 h
   unfold zy6 at h;refine g_st ?_;refine za3 ?_;obtain⟨hb6,h⟩:=zg8 h;refine za8 hG ?_;refine za3 ?_;obtain⟨hb5,h⟩:=zg8 h;refine zaM5 zM4 hG ?_;refine za3 (za3 (za8 hG ?_));refine zO8 (zdN9 a0) (λ v=>zN3 a0 v=some r) ?_ ?_
   · intro j2 h
     unfold zN3 at h;refine g_st ?_;refine za3 (za8 hG ?_);obtain⟨v2,hv2,h⟩:=zf3 h;refine zv5 [(0,0),(1,3),(2,4)] [] [0,1,2] ((zbj7 a0 j2).ok _ hv2) rfl rfl ?_;refine za3 (za8 hG ?_);obtain⟨v3,hv3,h⟩:=zf3 h;refine zv5 [(0,0),(1,3),(2,4)] [(3,5),(4,6)] [0,1,2,3,4] ((zbb9 (⟨(⟨v2.1,v2.2.1,v2.2.2.1⟩:aV),v2.2.2.2⟩:bB)).ok _ hv3) rfl rfl ?_;refine za3 (za8 hG ?_);refine zx6 ?_;exact zV5 [(0,0),(3,5),(4,6)] h
   refine zau2 (zdO0 a0 v1 j1) hK [(0,0),(3,6),(4,4),(5,5)] h (λ x_l1 h g1 y_l1 h_l1 hx_l1=>?_);unfold zF0 at h_l1;refine g_st ?_;refine za3 (za3 (za8 hG ?_));refine zq4 rfl hG h_l1 (λ _ h_l1=>?_) (λ _ h_l1=>?_)
   · refine zo1 ?_
     refine za3 (zM3 (za3 ?_));obtain⟨hb4,h_l1⟩:=zg8 h_l1;refine zbv8 zM4 hG ?_;obtain⟨v4,hv4,h_l1⟩:=zf3 h_l1;obtain⟨hb3,h_l1⟩:=zg8 h_l1;refine zaB5 (λ hg=>(zbt5 g1.2.c.aI ((v1.2.1.getD g1.1.toNat aJ.zero).name)).ok _ hv4) ?_;obtain⟨v5,hv5,h_l1⟩:=zf3 h_l1;obtain⟨hb2,h_l1⟩:=zg8 h_l1;refine zaB5 (λ hg=>(zaY6 (g1.2.c.aI.getD v4.toNat aB.zero) ((j1.c.aG.getD a0.toNat aF.zero).aK)).ok _ hv5) ?_;refine zq4 rfl hG h_l1 (λ _ h_l1=>?_) (λ _ h_l1=>?_)
     · refine za3 ?_
       obtain⟨hb1,h_l1⟩:=zg8 h_l1;refine zbv8 zM4 hG ?_;obtain⟨v6,hv6,h_l1⟩:=zf3 h_l1;refine zaB5 (λ hg=>zbn0 _ _ _ _ hv6) ?_;refine za8 hG ?_;obtain⟨v7,hv7,h_l1⟩:=zf3 h_l1;refine zv5 [(0,0),(1,4),(2,5)] [(3,6)] [0,1,2,3] ((zbj6 v6.1 v6.2.1 g1.2).ok _ hv7) rfl rfl ?_;refine za8 hG ?_;exact zZ9 hK [(0,0),(3,3),(4,4),(5,6)] h_l1
     refine zo1 ?_;refine za8 hG ?_;exact zZ9 hK [(0,0),(3,3),(4,4),(5,5)] h_l1
   refine zS4 ?_;cases h_l1;cases hx_l1 _ rfl;exact zJ8 hK [(0,0),(3,4),(4,5)] g1.2 (by exact h)
 · refine za8 hG ?_
   obtain⟨v8,hv8,h⟩:=zf3 h;refine zv5 [(0,0),(1,1),(2,2)] [(3,4),(4,5)] [0,1,2,3,4] ((zaU9 a0 a2).ok _ hv8) rfl rfl ?_;exact zJ8 hK [(0,0),(3,3),(4,4),(5,5)] v8 (by exact h)
 refine zo1 ?_;exact zJ8 hK [(0,0),(3,3),(4,1),(5,2)] a2 (by exact h)
instance zcf2(a0 a1:Int)(a2:bB):OkM (zB7 a0 a1 a2) 201 [.ptr 0 0 0,.int .i64 a0,.int .i64 a1] [(0,⟨false,4,bB.enc bB.zero,[[.int .i64 a2.c.now,la a2.c.aI,.own 1 0 a2.c.aG.length,.own 2 0 a2.ev.length]]⟩),(1,sx a2.c.aG),(2,sx a2.ev)] 3 (λ r=>.int .i64 r.1) (λ r=>[(0,⟨false,4,bB.enc bB.zero,[[.int .i64 r.2.c.now,la r.2.c.aI,.own 3 0 r.2.c.aG.length,.own 4 0 r.2.ev.length]]⟩),(3,sx r.2.c.aG),(4,sx r.2.ev)]) 5:=⟨zaV0 a0 a1 a2⟩
attribute [local irreducible] zB7
def zG7(a0:Int)(a1:bB):Option bB:=
 gd (0<=a0/\a0<((a1.c.aG.length:Nat):Int))<|
 (zT2 a1.c.aI ((a1.c.aG.getD a0.toNat aF.zero).aK)).bind λ v1=>
 (zd0 v1.1 v1.2 a1).bind λ v2=>
 gd (0<=0/\0<=a0/\a0<=((v2.2.2.1.length:Nat):Int)/\a0=a0)<|
 gd (0<=i64.wrap (a0+1)/\i64.wrap (a0+1)<=((v2.2.2.1.length:Nat):Int)/\((v2.2.2.1.length:Nat):Int)<=((v2.2.2.1.length:Nat):Int))<|
 gd (a0.toNat+((v2.2.2.1.drop ((i64.wrap (a0+1)).toNat)).take (v2.2.2.1.length-(i64.wrap (a0+1)).toNat)).length<=4294967296/\a0.toNat<=v2.2.2.1.length)<|
 (zd8 5 ((a1.c.aG.getD a0.toNat aF.zero).aK) (⟨(⟨v2.1,v2.2.1,(v2.2.2.1.take a0.toNat++(v2.2.2.1.drop ((i64.wrap (a0+1)).toNat)).take (v2.2.2.1.length-(i64.wrap (a0+1)).toNat))⟩:aV),v2.2.2.2⟩:bB)).bind λ v3=>
 (zm4 (⟨(⟨v3.1,v3.2.1,v3.2.2.1⟩:aV),v3.2.2.2⟩:bB)).bind λ v4=>
 some v4
instance zcw3(a0:Int)(a1:bB):OkM (zG7 a0 a1) 202 [.ptr 0 0 0,.int .i64 a0] [(0,⟨false,4,bB.enc bB.zero,[[.int .i64 a1.c.now,la a1.c.aI,.own 1 0 a1.c.aG.length,.own 2 0 a1.ev.length]]⟩),(1,sx a1.c.aG),(2,sx a1.ev)] 3 (λ r=>.tup []) (λ r=>[(0,⟨false,4,bB.enc bB.zero,[[.int .i64 r.c.now,la r.c.aI,.own 3 0 r.c.aG.length,.own 4 0 r.ev.length]]⟩),(3,sx r.c.aG),(4,sx r.ev)]) 5:=okm (zG7.eq_1 a0 a1) (λ r=>[]) Tryz.f202 [(42,1)]
attribute [local irreducible] zG7
def zN4 (a0:bM) (a1:bB):Option (Int×bB):=
 (if(decide (a0.kind<1)||decide (9<a0.kind))=true then
  some (1,a1)
 else
  (if(decide (a0.kind=1))=true then
   (zg7 a0.aK a0.n a1).bind λ v1=>
   some (v1.1,v1.2)
  else
   (if(decide (a0.kind=9))=true then
    (zG6 a0.n a1).bind λ v2=>
    some (v2.1,v2.2)
   else
    (zi9 a1.c.aG a0.aK).bind λ v3=>
    (if(decide (v3<0))=true then
     some (10,a1)
    else
     gd (0<=v3/\v3<((a1.c.aG.length:Nat):Int))<|
     (if(decide (a0.kind=2))=true then
      (zD0 v3 a0.aR a1).bind λ v4=>
      some (v4.1,v4.2)
     else
      (if(decide (a0.kind=3))=true then
       (if(!(a1.c.aG.getD v3.toNat aF.zero).bF)=true then
        some (14,a1)
       else
        (zv0 v3 a1).bind λ v5=>
        (zd6 v3 v5).bind λ v6=>
        (zm4 (⟨(⟨v6.1,v6.2.1,v6.2.2.1⟩:aV),v6.2.2.2⟩:bB)).bind λ v7=>
        some (0,v7))
      else
       (if(decide (a0.kind=4))=true then
        (zG3 v3 a0.name a1).bind λ v8=>
        some (v8.1,v8.2)
       else
        (if(decide (a0.kind=5))=true then
         (if(a1.c.aG.getD v3.toNat aF.zero).bF=true then
          some (14,a1)
         else
          gd (0<=v3/\v3<((a1.c.aG.length:Nat):Int))<|
          (zC9 ((a1.c.aG.getD v3.toNat aF.zero).aX) a0.n).bind λ v9=>
          (if(!decide (v9.2=0))=true then
           some (v9.2,a1)
          else
           gd (0<=v3/\v3<((a1.c.aG.length:Nat):Int))<|
           (zd6 v3 (⟨(⟨a1.c.now,a1.c.aI,a1.c.aG.set v3.toNat ({(a1.c.aG.getD v3.toNat aF.zero)with aX:=v9.1})⟩:aV),a1.ev⟩:bB)).bind λ v10=>
           some (0,(⟨(⟨v10.1,v10.2.1,v10.2.2.1⟩:aV),v10.2.2.2⟩:bB))))
        else
         (if(decide (a0.kind=6))=true then
          (zB7 v3 a0.n a1).bind λ v11=>
          some (v11.1,v11.2)
         else
          (if(decide (a0.kind=8))=true then
           (if(a1.c.aG.getD v3.toNat aF.zero).bF=true then
            some (14,a1)
           else
            (zG7 v3 a1).bind λ v12=>
            some (0,v12))
          else
           (if(decide (a0.kind=7))=true then
            (zG7 v3 a1).bind λ v13=>
            some (0,v13)
           else
            some (0,a1))))))))))))
instance zcI3(a0:bM)(a1:bB):OkM (zN4 a0 a1) 133 [.ptr 0 0 0,ga a0] [(0,⟨false,4,bB.enc bB.zero,[[.int .i64 a1.c.now,la a1.c.aI,.own 1 0 a1.c.aG.length,.own 2 0 a1.ev.length]]⟩),(1,sx a1.c.aG),(2,sx a1.ev)] 3 (λ r=>.int .i64 r.1) (λ r=>[(0,⟨false,4,bB.enc bB.zero,[[.int .i64 r.2.c.now,la r.2.c.aI,.own 3 0 r.2.c.aG.length,.own 4 0 r.2.ev.length]]⟩),(3,sx r.2.c.aG),(4,sx r.2.ev)]) 5:=okm (zN4.eq_1 a0 a1) (λ r=>[.int .i64 r.1]) Tryz.f133 []
attribute [local irreducible] zN4
def zax8(a0:aV)(a1:bM):Option (aV×(List bJ)×Int):=
 (zL7 a0).bind λ v1=>
 (if(!v1)=true then
  some ({aV.zero with},[],2)
 else
  (zk4 a0).bind λ v2=>
  (zN4 a1 (⟨(⟨v2.now,v2.aI,v2.aG⟩:aV),[]⟩:bB)).bind λ v3=>
  (if(!decide (v3.1=0))=true then
   some ({aV.zero with},[],v3.1)
  else
   some (v3.2.c,v3.2.ev,0)))
instance zdH6(a0:aV)(a1:bM):OkP (zax8 a0 a1) 77 [ga a0,ga a1] (λ r=>.tup [ga r.1,la r.2.1,.int .i64 r.2.2]):=⟨λ r h=>by
 refine zae9 Tryz.f77 [(15,14)] λ E hG hN hK=>?_;have hm:Mk (zax8 a0 a1):=trivial;unfold zax8 at h;refine za3 (za8 hG ?_);refine za3 (za3 (za8 hG ?_));obtain⟨v1,hv1,h⟩:=zf3 h;have hm:=mkP hm v1;refine zw9 (λ hg=>(zbW9 a0).ok _ hv1) ?_;refine zq4 rfl hG h (λ _ h=>?_) (λ _ h=>?_)
 .exact gogo
 refine zo1 ?_;refine za3 (za8 hG ?_);obtain⟨v2,hv2,h⟩:=zf3 h;have hm:=mkP hm v2;refine zv5 [] [(0,3),(1,4)] [0,1] (zbF2 _ _ hv2) rfl rfl ?_;refine g_gh (.fz [3]) ?_;refine g_gh (.ownb 5 3 7 (bJ.enc bJ.zero)) ?_;exact gogo⟩
attribute [local irreducible] zax8
def zbt8(j1:aV):Option aV:=
 some j1
def zaJ1(a1:List bM)(g1:Int×aV):Option ((Int×aV)⊕aV):=
 (if(decide (g1.1<(a1.length:Int)))=true then
  gd (0<=g1.1/\g1.1<(a1.length:Int))<|
  (zax8 g1.2 (a1.getD g1.1.toNat bM.zero)).bind λ v1=>
  (if(decide (v1.2.2=0))=true then
   some (.inl ((i64.wrap (g1.1+1)),v1.1))
  else
   some (.inl ((i64.wrap (g1.1+1)),g1.2)))
 else
  some (.inr g1.2))
def zax9(a0:aV)(a1:List bM):Option aV:=
 (zc2 (zaJ1 a1) (0,a0)).bind (λ z=>zbt8 z)
@[reducible,instance] def zex9 a0 a1:=mkJ (zax9 a0 a1) 0 (@zbt8.eq_1) λ(j1:aV)=>⟨[(2,.ptr 0 0 0),(4,.ptr 1 0 0)],[(0,bx j1),(1,bx aV.zero)],2⟩
@[reducible,instance] def zey0 (a1:List bM) {T:Type} (x:T):=mkL x (@zaJ1.eq_1 a1) λ(g1:Int×aV)=>⟨[(1,la a1),(2,.ptr 0 0 0),(4,.ptr 1 0 0),(5,.int .i64 g1.1)],[(0,bx g1.2),(1,bx aV.zero)],2⟩
instance zdH7(a0:aV)(a1:List bM):OkP (zax9 a0 a1) 30 [ga a0,la a1] (λ r=>ga r):=ok1 (zax9.eq_1 a0 a1) Tryz.f30 []
attribute [local irreducible] zax9
def zah7(a0:List Int):Option aV:=
 (zM0 a0).bind λ v1=>
 (zai6 v1.1).bind λ v2=>
 (zax9 v2.1 v1.2).bind λ v3=>
 some v3
instance zdk1(a0:List Int):OkP (zah7 a0) 10 [.sl (a0.map (eI .i64))] (λ r=>ga r):=ok1 (zah7.eq_1 a0) Tryz.f10 []
attribute [local irreducible] zah7
def zaa9(a0:aV)(a1:aL):Option (List Bool):=
 (zq5 a0 a1).bind λ v1=>
 (zL7 a0).bind λ v2=>
 (if(((!v2)||(!v1.2))||(!v1.1.bF))=true then
  some []
 else
  (zx1 a0.aI a1 v1.1.aR.bN).bind λ v3=>
  some v3)
instance zdd0(a0:aV)(a1:aL):OkP (zaa9 a0 a1) 15 [ga a0,ga a1] (λ r=>.sl (r.map eB)):=ok1 (zaa9.eq_1 a0 a1) Tryz.f15 []
attribute [local irreducible] zaa9
def zL3(v3:aQ)(j1:Int):Option Bool:=
 (zad5).bind λ v5=>
 some (v5&&decide (j1=(v3.bI.length:Int)))
def zL4(v2:aV)(v3:aQ)(g1:Int×Int):Option ((Int×Int)⊕(Int⊕Bool)):=
 (if(decide (g1.2<(v2.aG.length:Int)))=true then
  gd (0<=g1.2/\g1.2<(v2.aG.length:Int))<|
  (zy3 v3 ((v2.aG.getD g1.2.toNat aF.zero).aK)).bind λ v6=>
  (if(!decide (v6.2=(v2.aG.getD g1.2.toNat aF.zero).bF))=true then
   some (.inr (.inr false))
  else
   (if(!v6.2)=true then
    some (.inl (g1.1,i64.wrap (g1.2+1)))
   else
    ((if(decide (v6.1.gen=(v2.aG.getD g1.2.toNat aF.zero).gen))=true then zz0 v3 ((v2.aG.getD g1.2.toNat aF.zero).aK)else some [])).bind λ v7=>
    ((if(decide (v6.1.gen=(v2.aG.getD g1.2.toNat aF.zero).gen))=true then zaa9 v2 ((v2.aG.getD g1.2.toNat aF.zero).aK)else some [])).bind λ v8=>
    ((if(decide (v6.1.gen=(v2.aG.getD g1.2.toNat aF.zero).gen))=true then zf1 v7 v8 else some false)).bind λ v9=>
    ((if(!((!decide (v6.1.gen=(v2.aG.getD g1.2.toNat aF.zero).gen))||(!v9)))=true then zz0 v3 ((v2.aG.getD g1.2.toNat aF.zero).aK)else some [])).bind λ v10=>
    ((if(!((!decide (v6.1.gen=(v2.aG.getD g1.2.toNat aF.zero).gen))||(!v9)))=true then zw0 v6.1.bN v10 else some false)).bind λ v11=>
    (if(((!decide (v6.1.gen=(v2.aG.getD g1.2.toNat aF.zero).gen))||(!v9))||v11)=true then
     some (.inr (.inr false))
    else
     some (.inl ((i64.wrap (g1.1+1)),i64.wrap (g1.2+1))))))
 else
  some (.inr (.inl g1.1)))
def zD8(a0:List Int):Option Bool:=
 (if(!(zar5 a0))=true then
  (zad5).bind λ v1=>
  some v1
 else
  (zah7 a0).bind λ v2=>
  (zT4 v2).bind λ v3=>
  (zy5 v3).bind λ v4=>
  (if((!v4)||(!decide ((v3.aI.length:Int)=(v2.aI.length:Int))))=true then
   some false
  else
   (zc2 (zL4 v2 v3) (0,0)).bind (λ|.inl z=>zL3 v3 z|.inr z=>some z)))
@[reducible,instance] def zey1 a0 {T1:Type} (v2:T1) (v3:aQ) {T2:Type} (v4:T2):=mkJ (((zD8 a0,v2),v3),v4) 0 (@zL3.eq_1 v3) λ(j1:Int)=>⟨[(4,.ptr 0 0 0),(5,.int .i64 j1)],[(0,bx v3)],1⟩
@[reducible,instance] def zey2 (v2:aV) (v3:aQ) {T:Type} (x:T):=mkL x (@zL4.eq_1 v2 v3) λ(g1:Int×Int)=>⟨[(3,.ptr 0 0 0),(4,.ptr 1 0 0),(5,.int .i64 g1.1),(6,.int .i64 g1.2)],[(0,bx v2),(1,bx v3)],2⟩
instance zaV1(a0:List Int):OkP (zD8 a0) 4 [.sl (a0.map (eI .i64))] (λ r=>.bool r):=ok1 (zD8.eq_1 a0) Tryz.f4 []
attribute [local irreducible] zD8
end
end Ab
end Go.Proofs.YtenebhlnfjcffaaGreatDoor
