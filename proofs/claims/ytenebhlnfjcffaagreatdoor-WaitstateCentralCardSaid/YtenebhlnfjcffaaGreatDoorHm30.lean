import Derived.Test.YtenebhlnfjcffaaGreatDoorHm26
import Derived.Test.YtenebhlnfjcffaaGreatDoorHm28
namespace Go.Proofs.YtenebhlnfjcffaaGreatDoor
namespace Ab
open IntKind (i64 u64 u8)
set_option linter.unusedSimpArgs false
set_option linter.defProp false
set_option linter.unusedVariables false
set_option maxRecDepth 100000
set_option maxHeartbeats 1000000
noncomputable section
attribute [local irreducible] zn8 zf5 zb5 za4 ze1 zm5 zb6 zb1 zo2 zi2 zl5 zi9 zn1 zf4 zd8 zg3 zk3 ze8 za7 zb2 zh7 zj7 zj3 zi8 zh4 zk4 zd0 zd9 zj9 zp2 zm8 zh0 zf8 ze0 ze4 zc8 za9 zk6 zh1 zo5 zh2 f_ref08_holds zc7 zl8 zg5 zh8 zn7 zg1 zi3 zf9 zb3 za0 zj2 zn3 zl9 zf0 zh5 zf1 zb7 ze2 zf2 zi6 zj8 zo7 zd6 ze5 zh9 zn4 zm3 zk2 zn9 zd7 zb9 zq5 zr0 zd4 zk7 zd1 zl3 zs0 zb0 ze9 za6 zi7 zc6 za1 zg2 zl4 zf6 zs1 zr4 zu3 zh6 zj5 zg6 zp6 zx8 zs4 ze7 zj0 zd3 ze6 zc0 zt1 zk1 zm1 zq8 zc1 zp3 zn6 zl1 zi0 zr1 zg7 zt7 zm2 zl6 zj4 zk0 zp4 zv1 zl2 zk5 zp5 zu2 za5 zm6 zq7 zi5 zt9 zo6 zt4 zn5 zq6 f_formula_holds zm0 zc3 zl0 zs2 zu0 zb8 zs9 zo8 zm7 zf7 ze3 zc5 zs3 zu1 zr2 zr7 zo3 zv8 zy1 zw2 zs5 zp0 zi1 zv9 zy7 zs8 zo4 zp7 zx4 zx0 zx5 zC9 zl7 zb4 zs7 zu9 zx9 zy8 zy2 zz7 zi4 zF2 zt3 zA1 zB2 zF3 zt6 zG2 zK7 zy3 zD2 zN0 zB6 zT3 zM0 zai6 zF4 zC1 zw0 zC2 zI9 zD3 zw8
def zU6(a0:aB):Option Bool:=
 (zF3 a0).bind λ v1=>
 (if(!v1)=true then
  some false
 else
  (zn8 a0).bind λ v2=>
  ((if v2.2=true then zT3 a0.aA a0.aP v2.1.aK v2.1.aM else some false)).bind λ v3=>
  some ((!v2.2)||(!v3)))
instance zdc8(a0:aB):OkP (zU6 a0) 78 [ga a0] (λ r=>.bool r):=ok1 (zU6.eq_1 a0) Tryz.f78 []
attribute [local irreducible] zU6
def zW7(a0:aB):Option Bool:=
 (zU6 a0).bind λ v1=>
 some v1
instance zds7(a0:aB):OkP (zW7 a0) 31 [ga a0] (λ r=>.bool r):=ok1 (zW7.eq_1 a0) Tryz.f31 []
attribute [local irreducible] zW7
def zap1(j1:(List aL)):Option (List aL):=
 (zp0 j1).bind λ v2=>
 some v2
def zac6(a0:aQ)(g1:Int×(List aL)):Option ((Int×(List aL))⊕(List aL)):=
 (if(decide (g1.1<(a0.bI.length:Int)))=true then
  gd (0<=g1.1/\g1.1<(a0.bI.length:Int))<|
  gd (g1.2.length+1<=4294967296)<|
  some (.inl ((i64.wrap (g1.1+1)),(g1.2++[(a0.bI.getD g1.1.toNat bP.zero).aK])))
 else
  some (.inr g1.2))
def zC3(a0:aQ):Option (List aL):=
 (zF4 a0.aI).bind λ v1=>
 gd (v1.length<=4294967296)<|
 (zc2 (zac6 a0) (0,v1)).bind (λ z=>zap1 z)
@[reducible,instance] def zet8 a0 {T1:Type} (v1:T1):=mkJ (zC3 a0,v1) 0 (@zap1.eq_1) λ(j1:(List aL))=>⟨[(3,.own 0 0 j1.length)],[(0,sx j1)],1⟩
@[reducible,instance] def zet9 (a0:aQ) {T:Type} (x:T):=mkL x (@zac6.eq_1 a0) λ(g1:Int×(List aL))=>⟨[(3,.own 0 0 g1.2.length),(11,la a0.bI),(12,.int .i64 (a0.bI.length:Int)),(13,.int .i64 g1.1)],[(0,sx g1.2)],1⟩
instance zcM3(a0:aQ):OkP (zC3 a0) 21 [ga a0] (λ r=>la r):=ok1 (zC3.eq_1 a0) Tryz.f21 []
attribute [local irreducible] zC3
def zap2(a0:aQ)(j2:Unit):Option Bool:=
 (zC3 a0).bind λ v1=>
 some (decide ((v1.length:Int)<=8))
def zK8(a0:aQ)(g1:Int):Option (Int⊕(Unit⊕Bool)):=
 (if(decide (g1<(a0.bI.length:Int)))=true then
  gd (0<=g1/\g1<(a0.bI.length:Int))<|
  ((if(!(((!(zd2 ((a0.bI.getD g1.toNat bP.zero).aK)))||decide ((a0.bI.getD g1.toNat bP.zero).gen<0))||decide (1073741824<(a0.bI.getD g1.toNat bP.zero).gen)))=true then zl7 ((a0.bI.getD g1.toNat bP.zero).bN)else some false)).bind λ v2=>
  (if((((!(zd2 ((a0.bI.getD g1.toNat bP.zero).aK)))||decide ((a0.bI.getD g1.toNat bP.zero).gen<0))||decide (1073741824<(a0.bI.getD g1.toNat bP.zero).gen))||(!v2))=true then
   some (.inr (.inr false))
  else
   gd (decide (0<g1)=true->0<=i64.wrap (g1-1)/\i64.wrap (g1-1)<(a0.bI.length:Int))<|
   ((if(decide (0<g1))=true then zd4 ((a0.bI.getD ((i64.wrap (g1-1)).toNat) bP.zero).aK) ((a0.bI.getD g1.toNat bP.zero).aK)else some 0)).bind λ v3=>
   (if(decide (0<g1)&&decide (0<=v3))=true then
    some (.inr (.inr false))
   else
    some (.inl (i64.wrap (g1+1)))))
 else
  some (.inr (.inl ())))
def zac7(a0:aQ)(j1:Unit):Option Bool:=
 (zc2 (zK8 a0) 0).bind (λ|.inl z=>zap2 a0 z|.inr z=>some z)
def zac8(a0:aQ)(g2:Int):Option (Int⊕(Unit⊕Bool)):=
 (if(decide (g2<(a0.aI.length:Int)))=true then
  gd (0<=g2/\g2<(a0.aI.length:Int))<|
  (zW7 (a0.aI.getD g2.toNat aB.zero)).bind λ v4=>
  gd ((v4&&decide (0<g2))=true->0<=i64.wrap (g2-1)/\i64.wrap (g2-1)<(a0.aI.length:Int))<|
  (if((!v4)||(decide (0<g2)&&(!Op.bytesLess (((a0.aI.getD ((i64.wrap (g2-1)).toNat) aB.zero).aA).name).toList (((a0.aI.getD g2.toNat aB.zero).aA).name).toList)))=true then
   some (.inr (.inr false))
  else
   some (.inl (i64.wrap (g2+1))))
 else
  some (.inr (.inl ())))
def zy5(a0:aQ):Option Bool:=
 (if(decide (8<(a0.aI.length:Int))||decide (8<(a0.bI.length:Int)))=true then
  some false
 else
  (zc2 (zac8 a0) 0).bind (λ|.inl z=>zac7 a0 z|.inr z=>some z))
@[reducible,instance] def zeu0 (a0:aQ) j1:=mkJ (zac7 a0 j1) 2 (@zap2.eq_1 a0) λ(j2:Unit)=>⟨[(1,.ptr 0 0 0)],[(0,bx a0)],1⟩
@[reducible,instance] def zeu1 (a0:aQ) {T:Type} (x:T):=mkL x (@zK8.eq_1 a0) λ(g1:Int)=>⟨[(1,.ptr 0 0 0),(48,la a0.bI),(49,.int .i64 (a0.bI.length:Int)),(50,.int .i64 g1)],[(0,bx a0)],1⟩
@[reducible,instance] def zeu2 (a0:aQ):=mkJ (zy5 a0) 0 (@zac7.eq_1 a0) λ(j1:Unit)=>⟨[(1,.ptr 0 0 0)],[(0,bx a0)],1⟩
@[reducible,instance] def zeu3 (a0:aQ) {T:Type} (x:T):=mkL x (@zac8.eq_1 a0) λ(g2:Int)=>⟨[(1,.ptr 0 0 0),(18,la a0.aI),(19,.int .i64 (a0.aI.length:Int)),(20,.int .i64 g2)],[(0,bx a0)],1⟩
instance zcM4(a0:aQ):OkP (zy5 a0) 11 [ga a0] (λ r=>.bool r):=ok1 (zy5.eq_1 a0) Tryz.f11 []
attribute [local irreducible] zy5
def zaF3(j2:(List Int)):Option ((List Int)×Int):=
 some (j2,0)
def zaF4(a0:aQ)(g1:(List Int)×Int):Option (((List Int)×Int)⊕(List Int)):=
 (if(decide (g1.2<(a0.bI.length:Int)))=true then
  gd (0<=g1.2/\g1.2<(a0.bI.length:Int))<|
  (zm2 g1.1 ((a0.bI.getD g1.2.toNat bP.zero).aK)).bind λ v4=>
  (zd1 v4 [(a0.bI.getD g1.2.toNat bP.zero).gen]).bind λ v5=>
  (zl6 v5 ((a0.bI.getD g1.2.toNat bP.zero).bN)).bind λ v6=>
  some (.inl (v6,i64.wrap (g1.2+1)))
 else
  some (.inr g1.1))
def zal6(a0:aQ)(j1:(List Int)):Option ((List Int)×Int):=
 (zd1 j1 [(a0.bI.length:Int)]).bind λ v3=>
 (zc2 (zaF4 a0) (v3,0)).bind (λ z=>zaF3 z)
def zaF5(a0:aQ)(g2:(List Int)×Int):Option (((List Int)×Int)⊕(List Int)):=
 (if(decide (g2.2<(a0.aI.length:Int)))=true then
  gd (0<=g2.2/\g2.2<(a0.aI.length:Int))<|
  (zm7 g2.1 (a0.aI.getD g2.2.toNat aB.zero)).bind λ v7=>
  some (.inl (v7,i64.wrap (g2.2+1)))
 else
  some (.inr g2.1))
def zQ8(a0:aQ):Option ((List Int)×Int):=
 (zy5 a0).bind λ v1=>
 (if(!v1)=true then
  some ([],2)
 else
  (zd1 [] [(a0.aI.length:Int)]).bind λ v2=>
  (zc2 (zaF5 a0) (v2,0)).bind (λ z=>zal6 a0 z))
@[reducible,instance] def zeu4 a0 j1 {T1:Type} (v3:T1):=mkJ (zal6 a0 j1,v3) 2 (@zaF3.eq_1) λ(j2:(List Int))=>⟨[(4,.sl (j2.map (eI .u8)))],[],0⟩
@[reducible,instance] def zeu5 (a0:aQ) {T:Type} (x:T):=mkL x (@zaF4.eq_1 a0) λ(g1:(List Int)×Int)=>⟨[(4,.sl (g1.1.map (eI .u8))),(35,la a0.bI),(36,.int .i64 (a0.bI.length:Int)),(37,.int .i64 g1.2)],[],0⟩
@[reducible,instance] def zeu6 (a0:aQ) {T1:Type} (v1:T1) {T2:Type} (v2:T2):=mkJ ((zQ8 a0,v1),v2) 0 (@zal6.eq_1 a0) λ(j1:(List Int))=>⟨[(1,.ptr 0 0 0),(4,.sl (j1.map (eI .u8)))],[(0,bx a0)],1⟩
@[reducible,instance] def zeu7 (a0:aQ) {T:Type} (x:T):=mkL x (@zaF5.eq_1 a0) λ(g2:(List Int)×Int)=>⟨[(1,.ptr 0 0 0),(4,.sl (g2.1.map (eI .u8))),(18,la a0.aI),(19,.int .i64 (a0.aI.length:Int)),(20,.int .i64 g2.2)],[(0,bx a0)],1⟩
instance zbs2(a0:aQ):OkP (zQ8 a0) 18 [ga a0] (λ r=>.tup [.sl (r.1.map (eI .u8)),.int .i64 r.2]):=ok1 (zQ8.eq_1 a0) Tryz.f18 []
attribute [local irreducible] zQ8
def zaF6(j2:bD×aQ):Option (aQ×Int):=
 (if(!decide (j2.1.bO.err=0))=true then
  some ({aQ.zero with},j2.1.bO.err)
 else
  (if(decide (0<(j2.1.bO.rest.length:Int)))=true then
   some ({aQ.zero with},6)
  else
   (zy5 j2.2).bind λ v3=>
   (if(!v3)=true then
    some ({aQ.zero with},2)
   else
    some (j2.2,0))))
def zaF7(g1:Int×bD×aQ):Option ((Int×bD×aQ)⊕(bD×aQ)):=
 (if(decide (0<g1.1)&&decide (g1.2.1.bO.err=0))=true then
  (zf7 g1.2.1).bind λ v4=>
  (zc1 v4.2).bind λ v5=>
  (zp7 1 v5.2).bind λ v6=>
  gd (g1.2.2.bI.length+1<=4294967296)<|
  some (.inl ((i64.wrap (g1.1-1)),v6.2,(⟨g1.2.2.aI,(g1.2.2.bI++[{{{bP.zero with aK:=v4.1}with gen:=v5.1}with bN:=v6.1}])⟩:aQ)))
 else
  some (.inr (g1.2.1,g1.2.2)))
def zal7(j1:bD×aQ):Option (aQ×Int):=
 (zd3 8 j1.1).bind λ v2=>
 (zc2 zaF7 (v2.1,v2.2,j1.2)).bind (λ z=>zaF6 z)
def zaF8(g2:Int×bD×aQ):Option ((Int×bD×aQ)⊕(bD×aQ)):=
 (if(decide (0<g2.1)&&decide (g2.2.1.bO.err=0))=true then
  (zi1 g2.2.1).bind λ v7=>
  gd (g2.2.2.aI.length+1<=4294967296)<|
  some (.inl ((i64.wrap (g2.1-1)),v7.2,(⟨(g2.2.2.aI++[v7.1]),g2.2.2.bI⟩:aQ)))
 else
  some (.inr (g2.2.1,g2.2.2)))
def zK0(a0:List Int):Option (aQ×Int):=
 (zd3 8 (⟨{bQ.zero with rest:=a0}⟩:bD)).bind λ v1=>
 (zc2 zaF8 (v1.1,v1.2,(⟨[],[]⟩:aQ))).bind (λ z=>zal7 z)
@[reducible,instance] def zeu8 (j1:bD×aQ) {T1:Type} (v2:T1):=mkJ (zal7 j1,v2) 2 (@zaF6.eq_1) λ(j2:bD×aQ)=>⟨[(2,.ptr 0 0 0),(4,.ptr 1 0 0),(5,.ptr 2 0 0)],[(0,bx aQ.zero),(1,bx j2.1),(2,⟨false,2,aQ.enc aQ.zero,[[.own 3 0 j2.2.aI.length,.own 4 0 j2.2.bI.length]]⟩),(3,sx j2.2.aI),(4,sx j2.2.bI)],5⟩
@[reducible,instance] def zeu9 {T:Type} (x:T):=mkL x (@zaF7.eq_1) λ(g1:Int×bD×aQ)=>⟨[(2,.ptr 0 0 0),(4,.ptr 1 0 0),(5,.ptr 2 0 0),(7,.int .i64 g1.1)],[(0,bx aQ.zero),(1,bx g1.2.1),(2,⟨false,2,aQ.enc aQ.zero,[[.own 3 0 g1.2.2.aI.length,.own 4 0 g1.2.2.bI.length]]⟩),(3,sx g1.2.2.aI),(4,sx g1.2.2.bI)],5⟩
@[reducible,instance] def zev0 (a0:List Int) {T1:Type} (v1:T1):=mkJ (zK0 a0,v1) 0 (@zal7.eq_1) λ(j1:bD×aQ)=>⟨[(2,.ptr 0 0 0),(4,.ptr 1 0 0),(5,.ptr 2 0 0)],[(0,bx aQ.zero),(1,bx j1.1),(2,⟨false,2,aQ.enc aQ.zero,[[.own 3 0 j1.2.aI.length,.own 4 0 j1.2.bI.length]]⟩),(3,sx j1.2.aI),(4,sx j1.2.bI)],5⟩
@[reducible,instance] def zev1 {T:Type} (x:T):=mkL x (@zaF8.eq_1) λ(g2:Int×bD×aQ)=>⟨[(2,.ptr 0 0 0),(4,.ptr 1 0 0),(5,.ptr 2 0 0),(6,.int .i64 g2.1)],[(0,bx aQ.zero),(1,bx g2.2.1),(2,⟨false,2,aQ.enc aQ.zero,[[.own 3 0 g2.2.2.aI.length,.own 4 0 g2.2.2.bI.length]]⟩),(3,sx g2.2.2.aI),(4,sx g2.2.2.bI)],5⟩
instance zbs3(a0:List Int):OkP (zK0 a0) 19 [.sl (a0.map (eI .u8))] (λ r=>.tup [ga r.1,.int .i64 r.2]):=⟨λ r h=>by
 refine zae9 Tryz.f19 [(5,5)] λ E hG hN hK=>?_;have hm:Mk (zK0 a0):=trivial;unfold zK0 at h;refine za3 (za8 hG ?_);refine za3 (za8 hG ?_);refine za3 (za8 hG ?_);refine g_gh (.ownb 2 0 8 (aB.enc aB.zero)) ?_;refine g_gh (.ownb 2 1 9 (bP.enc bP.zero)) ?_;exact gogo⟩
attribute [local irreducible] zK0
def zaD5(j1:(List Bool)):Option (List Bool):=
 some j1
def zV9(a0:aQ)(a1:aL)(v3:(List aJ))(g1:Int×(List Bool)):Option ((Int×(List Bool))⊕(List Bool)):=
 (if(decide (g1.1<(v3.length:Int)))=true then
  gd (0<=g1.1/\g1.1<(v3.length:Int))<|
  (zm5 a0.aI ((v3.getD g1.1.toNat aJ.zero).name)).bind λ v4=>
  (if(decide (0<=v4))=true then
   gd (0<=v4/\v4<(a0.aI.length:Int))<|
   (zq6 (a0.aI.getD v4.toNat aB.zero) a1).bind λ v5=>
   gd (g1.2.length+1<=4294967296)<|
   some (.inl ((i64.wrap (g1.1+1)),(g1.2++[(!v5.2)])))
  else
   gd (g1.2.length+1<=4294967296)<|
   some (.inl ((i64.wrap (g1.1+1)),(g1.2++[true]))))
 else
  some (.inr g1.2))
def zz0(a0:aQ)(a1:aL):Option (List Bool):=
 (zr7 a0.bI a1).bind λ v1=>
 ((if(!(decide (v1<0)))=true then zy5 a0 else some false)).bind λ v2=>
 (if(decide (v1<0)||(!v2))=true then
  some []
 else
  gd (0<=v1/\v1<(a0.bI.length:Int))<|
  (zt6 ((a0.bI.getD v1.toNat bP.zero).bN)).bind λ v3=>
  (zc2 (zV9 a0 a1 v3) (0,[])).bind (λ z=>zaD5 z))
@[reducible,instance] def zev2 a0 a1 {T1:Type} (v1:T1) {T2:Type} (v2:T2) {T3:Type} (v3:T3):=mkJ (((zz0 a0 a1,v1),v2),v3) 0 (@zaD5.eq_1) λ(j1:(List Bool))=>⟨[(6,.own 0 0 j1.length)],[(0,⟨false,1,[A.bool false],j1.map eB⟩)],1⟩
@[reducible,instance] def zev3 (a0:aQ) (a1:aL) (v3:(List aJ)) {T:Type} (x:T):=mkL x (@zV9.eq_1 a0 a1 v3) λ(g1:Int×(List Bool))=>⟨[(2,.ptr 0 0 0),(3,.ptr 1 0 0),(6,.own 2 0 g1.2.length),(28,la v3),(29,.int .i64 (v3.length:Int)),(30,.int .i64 g1.1)],[(0,bx a0),(1,bx a1),(2,⟨false,1,[A.bool false],g1.2.map eB⟩)],3⟩
instance zbn1(a0:aQ)(a1:aL):OkP (zz0 a0 a1) 14 [ga a0,ga a1] (λ r=>.sl (r.map eB)):=ok1 (zz0.eq_1 a0 a1) Tryz.f14 [(6,1)]
attribute [local irreducible] zz0
def zaH2(a0:List aB)(j1:Unit):Option Bool:=
 (zF4 a0).bind λ v1=>
 some (decide ((v1.length:Int)<=8))
def zas9(a0:List aB)(g1:Int):Option (Int⊕(Unit⊕Bool)):=
 (if(decide (g1<(a0.length:Int)))=true then
  gd (0<=g1/\g1<(a0.length:Int))<|
  (zW7 (a0.getD g1.toNat aB.zero)).bind λ v2=>
  gd ((v2&&decide (0<g1))=true->0<=i64.wrap (g1-1)/\i64.wrap (g1-1)<(a0.length:Int))<|
  (if((!v2)||(decide (0<g1)&&(!Op.bytesLess (((a0.getD ((i64.wrap (g1-1)).toNat) aB.zero).aA).name).toList (((a0.getD g1.toNat aB.zero).aA).name).toList)))=true then
   some (.inr (.inr false))
  else
   some (.inl (i64.wrap (g1+1))))
 else
  some (.inr (.inl ())))
def zW8(a0:List aB):Option Bool:=
 (if(decide (8<(a0.length:Int)))=true then
  some false
 else
  (zc2 (zas9 a0) 0).bind (λ|.inl z=>zaH2 a0 z|.inr z=>some z))
@[reducible,instance] def zev4 (a0:List aB):=mkJ (zW8 a0) 0 (@zaH2.eq_1 a0) λ(j1:Unit)=>⟨[(0,la a0)],[],0⟩
@[reducible,instance] def zev5 (a0:List aB) {T:Type} (x:T):=mkL x (@zas9.eq_1 a0) λ(g1:Int)=>⟨[(0,la a0),(8,la a0),(9,.int .i64 (a0.length:Int)),(10,.int .i64 g1)],[],0⟩
instance zds8(a0:List aB):OkP (zW8 a0) 61 [la a0] (λ r=>.bool r):=ok1 (zW8.eq_1 a0) Tryz.f61 []
attribute [local irreducible] zW8
def zat9(j1:Unit):Option Bool:=
 some true
def zz3(a0:aV)(a1:aF)(v6:(List aJ))(g1:Int):Option (Int⊕(Unit⊕Bool)):=
 (if(decide (g1<(a0.aI.length:Int)))=true then
  gd (0<=g1/\g1<(a0.aI.length:Int))<|
  (zo3 (a0.aI.getD g1.toNat aB.zero) a1 v6).bind λ v7=>
  (if(!v7)=true then
   some (.inr (.inr false))
  else
   some (.inl (i64.wrap (g1+1))))
 else
  some (.inr (.inl ())))
def zz9(a0:aV)(a1:aF):Option Bool:=
 (zD2 a1.aR).bind λ v1=>
 ((if v1=true then ze0 a0.aI else some [])).bind λ v2=>
 ((if v1=true then zC2 v2 a1.aR.bN else some 0)).bind λ v3=>
 (if((!v1)||(!decide (v3=0)))=true then
  some false
 else
  (if((decide (a1.since<0)||decide (a0.now<a1.since))||((!decide (a1.aR.limit=0))&&decide (i64.wrap (a1.since+a1.aR.limit)<=a0.now)))=true then
   some false
  else
   (zC1 a0.aI a1).bind λ v4=>
   (zI9 a1.aR.bN v4).bind λ v5=>
   (if v5=true then
    some false
   else
    (zt6 a1.aR.bN).bind λ v6=>
    (zc2 (zz3 a0 a1 v6) 0).bind (λ|.inl z=>zat9 z|.inr z=>some z))))
@[reducible,instance] def zev6 a0 a1 {T1:Type} (v1:T1) {T2:Type} (v2:T2) {T3:Type} (v3:T3) {T4:Type} (v4:T4) {T5:Type} (v5:T5) {T6:Type} (v6:T6):=mkJ ((((((zz9 a0 a1,v1),v2),v3),v4),v5),v6) 0 (@zat9.eq_1) λ(j1:Unit)=>⟨[],[],0⟩
@[reducible,instance] def zev7 (a0:aV) (a1:aF) (v6:(List aJ)) {T:Type} (x:T):=mkL x (@zz3.eq_1 a0 a1 v6) λ(g1:Int)=>⟨[(3,.ptr 0 0 0),(6,la v6),(59,la a0.aI),(60,.int .i64 (a0.aI.length:Int)),(61,.int .i64 g1)],[(0,bx a1)],1⟩
instance zck8(a0:aV)(a1:aF):OkP (zz9 a0 a1) 110 [ga a0,ga a1] (λ r=>.bool r):=ok1 (zz9.eq_1 a0 a1) Tryz.f110 []
attribute [local irreducible] zz9
def zO7(a0:aV)(a1:aF)(j1:Unit):Option Bool:=
 (if a1.bF=true then
  (zz9 a0 a1).bind λ v3=>
  some v3
 else
  (zt3 a0 a1).bind λ v4=>
  some v4)
def zC6(a0:aV)(v2:(List aJ))(g1:Int):Option (Int⊕(Unit⊕Bool)):=
 (if(decide (g1<(v2.length:Int)))=true then
  gd (0<=g1/\g1<(v2.length:Int))<|
  (zm5 a0.aI ((v2.getD g1.toNat aJ.zero).name)).bind λ v5=>
  gd ((!(decide (v5<0)))=true->0<=v5/\v5<(a0.aI.length:Int))<|
  (if(decide (v5<0)||(!(za2 ((a0.aI.getD v5.toNat aB.zero).aA) ((v2.getD g1.toNat aJ.zero).aM))))=true then
   some (.inr (.inr false))
  else
   some (.inl (i64.wrap (g1+1))))
 else
  some (.inr (.inl ())))
def zy0(a0:aV)(a1:aF):Option Bool:=
 (if(((!(zd2 a1.aK))||decide (a1.cost<1))||decide (1000<a1.cost))=true then
  some false
 else
  ((if(!(decide (a1.gen<0)||decide (1073741824<a1.gen)))=true then zs2 a1.aX else some false)).bind λ v1=>
  (if((decide (a1.gen<0)||decide (1073741824<a1.gen))||(!v1))=true then
   some false
  else
   (zm6 a1.aX).bind λ v2=>
   (zc2 (zC6 a0 v2) 0).bind (λ|.inl z=>zO7 a0 a1 z|.inr z=>some z)))
@[reducible,instance] def zev8 (a0:aV) (a1:aF) {T1:Type} (v1:T1) {T2:Type} (v2:T2):=mkJ ((zy0 a0 a1,v1),v2) 0 (@zO7.eq_1 a0 a1) λ(j1:Unit)=>⟨[(2,.ptr 0 0 0),(3,.ptr 1 0 0)],[(0,bx a0),(1,bx a1)],2⟩
@[reducible,instance] def zev9 (a0:aV) (a1:aF) {T1:Type} (v1:T1) (v2:(List aJ)):=mkL ((zy0 a0 a1,v1),v2) (@zC6.eq_1 a0 v2) λ(g1:Int)=>⟨[(2,.ptr 0 0 0),(3,.ptr 1 0 0),(38,la v2),(39,.int .i64 (v2.length:Int)),(40,.int .i64 g1)],[(0,bx a0),(1,bx a1)],2⟩
instance zck9(a0:aV)(a1:aF):OkP (zy0 a0 a1) 62 [ga a0,ga a1] (λ r=>.bool r):=ok1 (zy0.eq_1 a0 a1) Tryz.f62 []
attribute [local irreducible] zy0
def zaS2(j2:Unit):Option Bool:=
 some true
def zK1(a0:aV)(v2:(List aL))(g1:Int):Option (Int⊕(Unit⊕Bool)):=
 (if(decide (g1<(v2.length:Int)))=true then
  gd (0<=g1/\g1<(v2.length:Int))<|
  (zx0 a0.aG (v2.getD g1.toNat aL.zero)).bind λ v3=>
  (if(decide (v3<0))=true then
   some (.inr (.inr false))
  else
   some (.inl (i64.wrap (g1+1))))
 else
  some (.inr (.inl ())))
def zZ0(a0:aV)(j1:Unit):Option Bool:=
 (zF4 a0.aI).bind λ v2=>
 (zc2 (zK1 a0 v2) 0).bind (λ|.inl z=>zaS2 z|.inr z=>some z)
def zQ9(a0:aV)(g2:Int):Option (Int⊕(Unit⊕Bool)):=
 (if(decide (g2<(a0.aG.length:Int)))=true then
  gd (0<=g2/\g2<(a0.aG.length:Int))<|
  gd (decide (0<g2)=true->0<=i64.wrap (g2-1)/\i64.wrap (g2-1)<(a0.aG.length:Int))<|
  ((if(decide (0<g2))=true then zd4 ((a0.aG.getD ((i64.wrap (g2-1)).toNat) aF.zero).aK) ((a0.aG.getD g2.toNat aF.zero).aK)else some 0)).bind λ v4=>
  (if(decide (0<g2)&&decide (0<=v4))=true then
   some (.inr (.inr false))
  else
   (zy0 a0 (a0.aG.getD g2.toNat aF.zero)).bind λ v5=>
   (if(!v5)=true then
    some (.inr (.inr false))
   else
    some (.inl (i64.wrap (g2+1)))))
 else
  some (.inr (.inl ())))
def zO2(a0:aV):Option Bool:=
 ((if(!(decide (a0.now<0)||decide (1073741824<a0.now)))=true then zW8 a0.aI else some false)).bind λ v1=>
 (if(((decide (a0.now<0)||decide (1073741824<a0.now))||(!v1))||decide (8<(a0.aG.length:Int)))=true then
  some false
 else
  (zc2 (zQ9 a0) 0).bind (λ|.inl z=>zZ0 a0 z|.inr z=>some z))
@[reducible,instance] def zew0 a0 j1 {T1:Type} (v2:T1):=mkJ (zZ0 a0 j1,v2) 2 (@zaS2.eq_1) λ(j2:Unit)=>⟨[],[],0⟩
@[reducible,instance] def zew1 (a0:aV) (v2:(List aL)) {T:Type} (x:T):=mkL x (@zK1.eq_1 a0 v2) λ(g1:Int)=>⟨[(1,.ptr 0 0 0),(57,la v2),(58,.int .i64 (v2.length:Int)),(59,.int .i64 g1)],[(0,bx a0)],1⟩
@[reducible,instance] def zew2 (a0:aV) {T1:Type} (v1:T1):=mkJ (zO2 a0,v1) 0 (@zZ0.eq_1 a0) λ(j1:Unit)=>⟨[(1,.ptr 0 0 0)],[(0,bx a0)],1⟩
@[reducible,instance] def zew3 (a0:aV) {T:Type} (x:T):=mkL x (@zQ9.eq_1 a0) λ(g2:Int)=>⟨[(1,.ptr 0 0 0),(28,la a0.aG),(29,.int .i64 (a0.aG.length:Int)),(30,.int .i64 g2)],[(0,bx a0)],1⟩
instance zdc9(a0:aV):OkP (zO2 a0) 24 [ga a0] (λ r=>.bool r):=ok1 (zO2.eq_1 a0) Tryz.f24 []
attribute [local irreducible] zO2
end
end Ab
end Go.Proofs.YtenebhlnfjcffaaGreatDoor
