import Derived.Test.YtenebhlnfjcffaaGreatDoorHm28
import Derived.Test.YtenebhlnfjcffaaGreatDoorHm19
namespace Go.Proofs.YtenebhlnfjcffaaGreatDoor
namespace Ab
open IntKind (i64 u64 u8)
set_option linter.unusedSimpArgs false
set_option linter.defProp false
set_option linter.unusedVariables false
set_option maxRecDepth 100000
set_option maxHeartbeats 1000000
noncomputable section
attribute [local irreducible] zn8 zf5 zb5 za4 ze1 zm5 zb6 zb1 zo2 zi2 zl5 zi9 zn1 zf4 zd8 zg3 zk3 ze8 za7 zb2 zh7 zj7 zj3 zi8 zh4 zk4 zd0 zd9 zj9 zp2 zm8 zh0 zf8 ze0 ze4 zc8 za9 zk6 zh1 zo5 zh2 f_ref08_holds zc7 zl8 zg5 zh8 zn7 zg1 zi3 zf9 zb3 za0 zj2 zn3 zl9 zf0 zh5 zf1 zb7 ze2 zf2 zi6 zj8 zo7 zd6 ze5 zh9 zn4 zm3 zk2 zn9 zd7 zb9 zq5 zr0 zd4 zk7 zd1 zl3 zs0 zb0 ze9 za6 zi7 zc6 za1 zg2 zl4 zf6 zs1 zr4 zu3 zh6 zj5 zg6 zp6 zx8 zs4 ze7 zj0 zd3 ze6 zc0 zt1 zk1 zm1 zq8 zc1 zp3 zn6 zl1 zi0 zr1 zg7 zt7 zm2 zl6 zj4 zk0 zp4 zv1 zl2 zk5 zp5 zu2 za5 zm6 zq7 zi5 zt9 zo6 zt4 zn5 zq6 f_formula_holds zm0 zc3 zl0 zs2 zu0 zb8 zs9 zo8 zm7 zf7 ze3 zc5 zs3 zu1 zr2 zr7 zo3 zv8 zy1 zw2 zs5 zp0 zi1 zv9 zy7 zs8 zo4 zp7 zx4 zx0 zx5 zC9 zl7 zb4 zs7 zu9 zx9 zy8 zy2 zz7 zi4 zF2 zt3 zA1 zB2 zF3 zt6 zG2 zK7 zy3 zD2 zN0 zB6 zI8 zE3 zL6 zF4 zC1 zw0 zC2 zI9 zD3 zw8
def zI0(a0:aB):Option Bool:=
 (zA1 a0).bind λ v1=>
 ((if v1=true then zI8 a0 else some false)).bind λ v2=>
 some (v1&&v2)
instance zbW7(a0:aB):OkP (zI0 a0) 177 [ga a0] (λ r=>.bool r):=ok1 (zI0.eq_1 a0) Tryz.f177 []
attribute [local irreducible] zI0
def zbb5(j1:Unit):Option Bool:=
 some true
def zas5(a0:List aB)(g1:Int):Option (Int⊕(Unit⊕Bool)):=
 (if(decide (g1<(a0.length:Int)))=true then
  gd (0<=g1/\g1<(a0.length:Int))<|
  (zI0 (a0.getD g1.toNat aB.zero)).bind λ v1=>
  gd ((v1&&decide (0<g1))=true->0<=i64.wrap (g1-1)/\i64.wrap (g1-1)<(a0.length:Int))<|
  gd ((v1&&decide (0<g1))=true->0<=g1/\g1<(a0.length:Int))<|
  (if((!v1)||(decide (0<g1)&&(!Op.bytesLess (((a0.getD ((i64.wrap (g1-1)).toNat) aB.zero).aA).name).toList (((a0.getD g1.toNat aB.zero).aA).name).toList)))=true then
   some (.inr (.inr false))
  else
   some (.inl (i64.wrap (g1+1))))
 else
  some (.inr (.inl ())))
def zW6(a0:List aB):Option Bool:=
 (if(decide (8<(a0.length:Int)))=true then
  some false
 else
  (zc2 (zas5 a0) 0).bind (λ|.inl z=>zbb5 z|.inr z=>some z))
@[reducible,instance] def zer4 a0:=mkJ (zW6 a0) 0 (@zbb5.eq_1) λ(j1:Unit)=>⟨[],[],0⟩
@[reducible,instance] def zer5 (a0:List aB) {T:Type} (x:T):=mkL x (@zas5.eq_1 a0) λ(g1:Int)=>⟨[(0,la a0),(3,.int .i64 g1)],[],0⟩
instance zds2(a0:List aB):OkP (zW6 a0) 114 [la a0] (λ r=>.bool r):=ok1 (zW6.eq_1 a0) Tryz.f114 []
attribute [local irreducible] zW6
def zI1(a0:List aB):Option Bool:=
 (zW6 a0).bind λ v1=>
 ((if v1=true then zv8 a0 else some [])).bind λ v2=>
 some (v1&&decide ((v2.length:Int)<=8))
instance zbW8(a0:List aB):OkP (zI1 a0) 67 [la a0] (λ r=>.bool r):=ok1 (zI1.eq_1 a0) Tryz.f67 []
attribute [local irreducible] zI1
def zS0(a0:bH):Option Bool:=
 (zE3 a0.bN).bind λ v1=>
 some ((((v1&&decide (0<=a0.aZ))&&decide (a0.aZ<=7))&&decide (0<=a0.limit))&&decide (a0.limit<=1000))
instance zds3(a0:bH):OkP (zS0 a0) 125 [ga a0] (λ r=>.bool r):=ok1 (zS0.eq_1 a0) Tryz.f125 []
attribute [local irreducible] zS0
def zaR9(j1:(List Bool)):Option (List Bool):=
 some j1
def zak1(a0:List aB)(a1:aL)(v1:(List aJ))(g1:Int×(List Bool)):Option ((Int×(List Bool))⊕(List Bool)):=
 (if(decide (g1.1<(v1.length:Int)))=true then
  gd (0<=g1.1/\g1.1<(v1.length:Int))<|
  (zi8 a0 ((v1.getD g1.1.toNat aJ.zero).name)).bind λ v2=>
  (if(decide (0<=v2))=true then
   gd (0<=v2/\v2<(a0.length:Int))<|
   gd (0<=v2/\v2<(a0.length:Int))<|
   (zj8 (a0.getD v2.toNat aB.zero) a1).bind λ v3=>
   gd (0<=g1.1/\g1.1<(v1.length:Int))<|
   gd (0<=g1.1/\g1.1<((g1.2.length:Nat):Int))<|
   some (.inl ((i64.wrap (g1.1+1)),g1.2.set g1.1.toNat (zu4 ((a0.getD v2.toNat aB.zero).aA) v3 ((v1.getD g1.1.toNat aJ.zero).aM))))
  else
   some (.inl ((i64.wrap (g1.1+1)),g1.2)))
 else
  some (.inr g1.2))
def zx1(a0:List aB)(a1:aL)(a2:aO):Option (List Bool):=
 (zw8 a2).bind λ v1=>
 gd (0<=(v1.length:Int)/\(v1.length:Int)<=(v1.length:Int)/\(v1.length:Int)<=4294967296)<|
 (zc2 (zak1 a0 a1 v1) (0,List.replicate ((v1.length:Int).toNat) false)).bind (λ z=>zaR9 z)
@[reducible,instance] def zer6 a0 a1 a2 {T1:Type} (v1:T1):=mkJ (zx1 a0 a1 a2,v1) 0 (@zaR9.eq_1) λ(j1:(List Bool))=>⟨[(8,.own 0 0 j1.length)],[(0,⟨false,1,[A.bool false],j1.map eB⟩)],1⟩
@[reducible,instance] def zer7 (a0:List aB) (a1:aL) (v1:(List aJ)) {T:Type} (x:T):=mkL x (@zak1.eq_1 a0 a1 v1) λ(g1:Int×(List Bool))=>⟨[(0,la a0),(4,.ptr 0 0 0),(7,la v1),(8,.own 1 0 g1.2.length),(9,.int .i64 g1.1)],[(0,bx a1),(1,⟨false,1,[A.bool false],g1.2.map eB⟩)],2⟩
instance zdc5(a0:List aB)(a1:aL)(a2:aO):OkP (zx1 a0 a1 a2) 40 [la a0,ga a1,ga a2] (λ r=>.sl (r.map eB)):=ok1 (zx1.eq_1 a0 a1 a2) Tryz.f40 []
attribute [local irreducible] zx1
def zaS0(j2:Unit):Option Bool:=
 some true
def zJ9(a0:aV)(a1:aF)(v12:(List aJ))(g1:Int):Option (Int⊕(Unit⊕Bool)):=
 (if(decide (g1<(a0.aI.length:Int)))=true then
  gd (0<=g1/\g1<(a0.aI.length:Int))<|
  (zG2 (a0.aI.getD g1.toNat aB.zero) a1 v12).bind λ v13=>
  (if(!v13)=true then
   some (.inr (.inr false))
  else
   some (.inl (i64.wrap (g1+1))))
 else
  some (.inr (.inl ())))
def zY5(a0:aV)(a1:aF)(v2:(List aJ))(j1:Unit):Option Bool:=
 (if(!a1.bF)=true then
  (zf6 a1.aR ({bH.zero with})).bind λ v3=>
  ((if(v3&&decide (a1.since=0))=true then zm1 a0.aI a1.aK else some [])).bind λ v4=>
  ((if(v3&&decide (a1.since=0))=true then zf0 v2 v4 else some false)).bind λ v5=>
  ((if((v3&&decide (a1.since=0))&&v5)=true then zp4 a0.aI a1.aK else some [])).bind λ v6=>
  some (((v3&&decide (a1.since=0))&&v5)&&decide ((v6.length:Int)=0))
 else
  (zS0 a1.aR).bind λ v7=>
  ((if v7=true then zh2 a0.aI else some [])).bind λ v8=>
  ((if v7=true then zD3 v8 a1.aR.bN else some 0)).bind λ v9=>
  ((if(!(((((!v7)||(!decide (v9=0)))||decide (a1.since<0))||decide (a0.now<a1.since))||((!decide (a1.aR.limit=0))&&decide (i64.wrap (a1.since+a1.aR.limit)<=a0.now))))=true then zx1 a0.aI a1.aK a1.aR.bN else some [])).bind λ v10=>
  ((if(!(((((!v7)||(!decide (v9=0)))||decide (a1.since<0))||decide (a0.now<a1.since))||((!decide (a1.aR.limit=0))&&decide (i64.wrap (a1.since+a1.aR.limit)<=a0.now))))=true then zw0 a1.aR.bN v10 else some false)).bind λ v11=>
  (if((((((!v7)||(!decide (v9=0)))||decide (a1.since<0))||decide (a0.now<a1.since))||((!decide (a1.aR.limit=0))&&decide (i64.wrap (a1.since+a1.aR.limit)<=a0.now)))||v11)=true then
   some false
  else
   (zw8 a1.aR.bN).bind λ v12=>
   (zc2 (zJ9 a0 a1 v12) 0).bind (λ|.inl z=>zaS0 z|.inr z=>some z)))
def zQ5(a0:aV)(v2:(List aJ))(g2:Int):Option (Int⊕(Unit⊕Bool)):=
 (if(decide (g2<(v2.length:Int)))=true then
  gd (0<=g2/\g2<(v2.length:Int))<|
  (zi8 a0.aI ((v2.getD g2.toNat aJ.zero).name)).bind λ v14=>
  gd ((!(decide (v14<0)))=true->0<=v14/\v14<(a0.aI.length:Int))<|
  gd ((!(decide (v14<0)))=true->0<=g2/\g2<(v2.length:Int))<|
  (if(decide (v14<0)||(!(zv6 ((a0.aI.getD v14.toNat aB.zero).aA) ((v2.getD g2.toNat aJ.zero).aM))))=true then
   some (.inr (.inr false))
  else
   some (.inl (i64.wrap (g2+1))))
 else
  some (.inr (.inl ())))
def zJ0(a0:aV)(a1:aF):Option Bool:=
 ((if(!(((!(zr5 a1.aK))||decide (a1.cost<1))||decide (1000<a1.cost)))=true then zo8 a1.aX else some false)).bind λ v1=>
 (if((((((!(zr5 a1.aK))||decide (a1.cost<1))||decide (1000<a1.cost))||(!v1))||decide (a1.gen<0))||decide (1073741824<a1.gen))=true then
  some false
 else
  (zi6 a1.aX).bind λ v2=>
  (zc2 (zQ5 a0 v2) 0).bind (λ|.inl z=>zY5 a0 a1 v2 z|.inr z=>some z))
@[reducible,instance] def zer8 a0 a1 v2 j1 {T1:Type} (v7:T1) {T2:Type} (v8:T2) {T3:Type} (v9:T3) {T4:Type} (v10:T4) {T5:Type} (v11:T5) {T6:Type} (v12:T6):=mkJ ((((((zY5 a0 a1 v2 j1,v7),v8),v9),v10),v11),v12) 2 (@zaS0.eq_1) λ(j2:Unit)=>⟨[],[],0⟩
@[reducible,instance] def zer9 (a0:aV) (a1:aF) (v12:(List aJ)) {T:Type} (x:T):=mkL x (@zJ9.eq_1 a0 a1 v12) λ(g1:Int)=>⟨[(2,.ptr 0 0 0),(3,.ptr 1 0 0),(9,la v12),(10,.int .i64 g1)],[(0,bx a0),(1,bx a1)],2⟩
@[reducible,instance] def zes0 (a0:aV) (a1:aF) {T1:Type} (v1:T1) (v2:(List aJ)):=mkJ ((zJ0 a0 a1,v1),v2) 0 (@zY5.eq_1 a0 a1 v2) λ(j1:Unit)=>⟨[(2,.ptr 0 0 0),(3,.ptr 1 0 0),(5,la v2)],[(0,bx a0),(1,bx a1)],2⟩
@[reducible,instance] def zes1 (a0:aV) (a1:aF) {T1:Type} (v1:T1) (v2:(List aJ)):=mkL ((zJ0 a0 a1,v1),v2) (@zQ5.eq_1 a0 v2) λ(g2:Int)=>⟨[(2,.ptr 0 0 0),(3,.ptr 1 0 0),(5,la v2),(6,.int .i64 g2)],[(0,bx a0),(1,bx a1)],2⟩
instance zdc6(a0:aV)(a1:aF):OkP (zJ0 a0 a1) 70 [ga a0,ga a1] (λ r=>.bool r):=ok1 (zJ0.eq_1 a0 a1) Tryz.f70 []
attribute [local irreducible] zJ0
def zbb6(j2:Unit):Option Bool:=
 some true
def zX7(a0:aV)(g1:Int):Option (Int⊕(Unit⊕Bool)):=
 (if(decide (g1<(a0.aG.length:Int)))=true then
  gd (0<=g1/\g1<(a0.aG.length:Int))<|
  (zJ0 a0 (a0.aG.getD g1.toNat aF.zero)).bind λ v3=>
  gd ((v3&&decide (0<g1))=true->0<=i64.wrap (g1-1)/\i64.wrap (g1-1)<(a0.aG.length:Int))<|
  gd ((v3&&decide (0<g1))=true->0<=g1/\g1<(a0.aG.length:Int))<|
  (if((!v3)||(decide (0<g1)&&decide (0<=zv4 ((a0.aG.getD ((i64.wrap (g1-1)).toNat) aF.zero).aK) ((a0.aG.getD g1.toNat aF.zero).aK))))=true then
   some (.inr (.inr false))
  else
   some (.inl (i64.wrap (g1+1))))
 else
  some (.inr (.inl ())))
def zah6(a0:aV)(j1:Unit):Option Bool:=
 (zc2 (zX7 a0) 0).bind (λ|.inl z=>zbb6 z|.inr z=>some z)
def zQ6(a0:aV)(v2:(List aL))(g2:Int):Option (Int⊕(Unit⊕Bool)):=
 (if(decide (g2<(v2.length:Int)))=true then
  gd (0<=g2/\g2<(v2.length:Int))<|
  (zi9 a0.aG (v2.getD g2.toNat aL.zero)).bind λ v4=>
  (if(decide (v4<0))=true then
   some (.inr (.inr false))
  else
   some (.inl (i64.wrap (g2+1))))
 else
  some (.inr (.inl ())))
def zL7(a0:aV):Option Bool:=
 ((if(!(decide (a0.now<0)||decide (1073741824<a0.now)))=true then zI1 a0.aI else some false)).bind λ v1=>
 (if(((decide (a0.now<0)||decide (1073741824<a0.now))||(!v1))||decide (8<(a0.aG.length:Int)))=true then
  some false
 else
  (zv8 a0.aI).bind λ v2=>
  (zc2 (zQ6 a0 v2) 0).bind (λ|.inl z=>zah6 a0 z|.inr z=>some z))
@[reducible,instance] def zes2 a0 j1:=mkJ (zah6 a0 j1) 2 (@zbb6.eq_1) λ(j2:Unit)=>⟨[],[],0⟩
@[reducible,instance] def zes3 (a0:aV) {T:Type} (x:T):=mkL x (@zX7.eq_1 a0) λ(g1:Int)=>⟨[(1,.ptr 0 0 0),(5,.int .i64 g1)],[(0,bx a0)],1⟩
@[reducible,instance] def zes4 (a0:aV) {T1:Type} (v1:T1) {T2:Type} (v2:T2):=mkJ ((zL7 a0,v1),v2) 0 (@zah6.eq_1 a0) λ(j1:Unit)=>⟨[(1,.ptr 0 0 0)],[(0,bx a0)],1⟩
@[reducible,instance] def zes5 (a0:aV) (v2:(List aL)) {T:Type} (x:T):=mkL x (@zQ6.eq_1 a0 v2) λ(g2:Int)=>⟨[(1,.ptr 0 0 0),(3,la v2),(4,.int .i64 g2)],[(0,bx a0)],1⟩
instance zbW9(a0:aV):OkP (zL7 a0) 27 [ga a0] (λ r=>.bool r):=ok1 (zL7.eq_1 a0) Tryz.f27 []
attribute [local irreducible] zL7
def zaS1(j1:aB×(List bA)):Option (aB×(List bA)):=
 some (j1.1,j1.2)
def zY6(g1:aB×(List bA))(v4:aU×Bool)(j2:aB):Option ((aB×(List bA))⊕(aB×(List bA))):=
 (zt1 j2.aP v4.1.aK v4.1.aM).bind λ v5=>
 gd (g1.2.length+1<=4294967296)<|
 some (.inl ({j2 with aP:=v5},(g1.2++[(⟨v4.1.aK,v4.1.aM⟩:bA)])))
def zQ7(g1:aB×(List bA)):Option ((aB×(List bA))⊕(aB×(List bA))):=
 (zI8 g1.1).bind λ v3=>
 (if(!v3)=true then
  (zn3 g1.1).bind λ v4=>
  (if(decide (0<(g1.1.aN.length:Int)))=true then
   gd (0<=1/\1<=(g1.1.aN.length:Int)/\(g1.1.aN.length:Int)<=(g1.1.aN.length:Int))<|
   zY6 g1 v4 ({g1.1 with aN:=(g1.1.aN.drop 1)})
  else
   gd (0<=1/\1<=(g1.1.aT.length:Int)/\(g1.1.aT.length:Int)<=(g1.1.aT.length:Int))<|
   zY6 g1 v4 ({g1.1 with aT:=(g1.1.aT.drop 1)}))
 else
  some (.inr (g1.1,g1.2)))
def zO1(a0:aB):Option (aB×(List bA)):=
 (zA1 a0).bind λ v1=>
 (if(!v1)=true then
  some ({aB.zero with},[])
 else
  (zl8 a0).bind λ v2=>
  (zc2 zQ7 (v2,[])).bind (λ z=>zaS1 z))
@[reducible,instance] def zes6 a0 {T1:Type} (v1:T1) {T2:Type} (v2:T2):=mkJ ((zO1 a0,v1),v2) 0 (@zaS1.eq_1) λ(j1:aB×(List bA))=>⟨[(1,.ptr 0 0 0),(2,.ptr 1 0 0),(4,.own 2 0 j1.2.length)],[(0,bx j1.1),(1,bx aB.zero),(2,sx j1.2)],3⟩
@[reducible,instance] def zes7 (g1:aB×(List bA)) {T1:Type} (v3:T1) (v4:aU×Bool):=mkJ ((zQ7 g1,v3),v4) 999 (@zY6.eq_1 g1 v4) λ(j2:aB)=>⟨[(1,.ptr 0 0 0),(2,.ptr 1 0 0),(4,.own 2 0 g1.2.length),(5,.ptr 3 0 0)],[(0,bx j2),(1,bx aB.zero),(2,sx g1.2),(3,bx v4.1)],4⟩
@[reducible,instance] def zes8 {T:Type} (x:T):=mkL x (@zQ7.eq_1) λ(g1:aB×(List bA))=>⟨[(1,.ptr 0 0 0),(2,.ptr 1 0 0),(4,.own 2 0 g1.2.length)],[(0,bx g1.1),(1,bx aB.zero),(2,sx g1.2)],3⟩
instance zdc7(a0:aB):OkP (zO1 a0) 317 [ga a0] (λ r=>.tup [ga r.1,la r.2]):=ok1 (zO1.eq_1 a0) Tryz.f317 [(4,1)]
attribute [local irreducible] zO1
def zD4(a0:aB):Option (aB×(List bA)×Int):=
 (zO1 a0).bind λ v1=>
 some ({v1.1 with gen:=(zp8 a0.gen)},v1.2,0)
instance zbb7(a0:aB):OkP (zD4 a0) 311 [ga a0] (λ r=>.tup [ga r.1,la r.2.1,.int .i64 r.2.2]):=ok1 (zD4.eq_1 a0) Tryz.f311 []
attribute [local irreducible] zD4
def zY7(a0:aB)(a1:aL):Option (aB×(List bA)×Int):=
 (zI0 a0).bind λ v1=>
 (if(!v1)=true then
  some ({aB.zero with},[],2)
 else
  (zi7 a0 a1).bind λ v2=>
  (if(!v2.2)=true then
   some ({aB.zero with},[],10)
  else
   (zl8 a0).bind λ v3=>
   (zh5 v3.aN a1).bind λ v4=>
   (zh5 (({v3 with aN:=v4.1}).aT) a1).bind λ v5=>
   (zD4 ({{v3 with aN:=v4.1}with aT:=v5.1})).bind λ v6=>
   some (v6.1,v6.2.1,v6.2.2)))
instance zdj4(a0:aB)(a1:aL):OkP (zY7 a0 a1) 313 [ga a0,ga a1] (λ r=>.tup [ga r.1,la r.2.1,.int .i64 r.2.2]):=ok1 (zY7.eq_1 a0 a1) Tryz.f313 []
attribute [local irreducible] zY7
def zY8(a0:List aB)(a1:aL)(a2:ByteArray):Option ((List aB)×(List bJ)×Int):=
 (zI1 a0).bind λ v1=>
 (if(!v1)=true then
  some ([],[],2)
 else
  (zi8 a0 a2).bind λ v2=>
  (if(decide (v2<0))=true then
   some ([],[],10)
  else
   gd (0<=v2/\v2<(a0.length:Int))<|
   (zY7 (a0.getD v2.toNat aB.zero) a1).bind λ v3=>
   (if(!decide (v3.2.2=0))=true then
    some ([],[],v3.2.2)
   else
    (zg3 a0 v2 v3.1).bind λ v4=>
    (zg5 a2 v3.2.1).bind λ v5=>
    some (v4,v5,0))))
instance zdj5(a0:List aB)(a1:aL)(a2:ByteArray):OkP (zY8 a0 a1 a2) 293 [la a0,ga a1,.str a2] (λ r=>.tup [la r.1,la r.2.1,.int .i64 r.2.2]):=ok1 (zY8.eq_1 a0 a1 a2) Tryz.f293 []
attribute [local irreducible] zY8
def zad3(a0:aB)(a1:aL)(a2:aC):Option (aB×(List bA)×Int):=
 (zI0 a0).bind λ v1=>
 (if(!v1)=true then
  some ({aB.zero with},[],2)
 else
  (zj8 a0 a1).bind λ v2=>
  (if(zn2 v2)=true then
   some ({aB.zero with},[],10)
  else
   (zi7 a0 a1).bind λ v3=>
   (if v3.2=true then
    some ({aB.zero with},[],14)
   else
    (if(!(zu4 a0.aA v2 a2))=true then
     some ({aB.zero with},[],12)
    else
     (zl8 a0).bind λ v4=>
     (if(decide (v2=a2))=true then
      some (v4,[],0)
     else
      (zt1 v4.aP a1 a2).bind λ v5=>
      (zD4 ({v4 with aP:=v5})).bind λ v6=>
      some (v6.1,v6.2.1,v6.2.2))))))
instance zbX0(a0:aB)(a1:aL)(a2:aC):OkP (zad3 a0 a1 a2) 294 [ga a0,ga a1,ga a2] (λ r=>.tup [ga r.1,la r.2.1,.int .i64 r.2.2]):=ok1 (zad3.eq_1 a0 a1 a2) Tryz.f294 []
attribute [local irreducible] zad3
def zX8(a0:List aB)(a2:aJ)(v2:Int)(v4:aB×(List bA)×Int)(j1:(List bJ)):Option ((List aB)×(List bJ)×Int):=
 (zg3 a0 v2 v4.1).bind λ v5=>
 (zg5 a2.name v4.2.1).bind λ v6=>
 gd (j1.length+v6.length<=4294967296)<|
 some (v5,(j1++v6),0)
@[go_sem] def zdN8(a0:List aB)(a2:aJ)(v2:Int)(v4:aB×(List bA)×Int)(j1:(List bJ)):St:=⟨[(0,la a0),(5,.ptr 0 0 0),(9,.int .i64 v2),(11,.ptr 1 0 0),(12,la v4.2.1),(14,.own 2 0 j1.length)],[(0,bx a2),(1,bx v4.1),(2,sx j1)],3⟩
def zL8(a0:List aB)(a1:aL)(a2:aJ):Option ((List aB)×(List bJ)×Int):=
 (zI1 a0).bind λ v1=>
 (if(!v1)=true then
  some ([],[],2)
 else
  (zi8 a0 a2.name).bind λ v2=>
  (if(decide (v2<0))=true then
   some ([],[],10)
  else
   gd (0<=v2/\v2<(a0.length:Int))<|
   (zj8 (a0.getD v2.toNat aB.zero) a1).bind λ v3=>
   gd (0<=v2/\v2<(a0.length:Int))<|
   (zad3 (a0.getD v2.toNat aB.zero) a1 a2.aM).bind λ v4=>
   (if(!decide (v4.2.2=0))=true then
    some ([],[],v4.2.2)
   else
    (if(!decide (v3=a2.aM))=true then
     gd (1<=4294967296)<|
     zX8 a0 a2 v2 v4 [(⟨3,a1,a2.name,a2.aM⟩:bJ)]
    else
     zX8 a0 a2 v2 v4 []))))
theorem zbn0(a0:List aB)(a1:aL)(a2:aJ)(r:(List aB)×(List bJ)×Int)(h:zL8 a0 a1 a2=some r):PFn C 255 [la a0,ga a1,ga a2] (.tup [la r.1,la r.2.1,.int .i64 r.2.2]):=by
 refine zae9 Tryz.f255 [(14,1)] λ E hG hN hK=>?_;unfold zL8 at h;refine za3 (za8 hG ?_);refine za3 (za3 (za8 hG ?_));obtain⟨v1,hv1,h⟩:=zf3 h;refine zw9 (λ hg=>(zbW8 a0).ok _ hv1) ?_;refine zq4 rfl hG h (λ _ h=>?_) (λ _ h=>?_)
 · refine za3 (za8 hG ?_)
   refine zx6 ?_;exact zS5 h
 refine zo1 ?_;refine za3 (za8 hG ?_);obtain⟨v2,hv2,h⟩:=zf3 h;refine zw9 (λ hg=>(zbt5 a0 a2.name).ok _ hv2) ?_;refine za3 (za3 (za8 hG ?_));refine zq4 rfl hG h (λ _ h=>?_) (λ _ h=>?_)
 · refine za3 (za8 hG ?_)
   refine zx6 ?_;exact zS5 h
 refine zo1 ?_;refine za3 ?_;obtain⟨hb4,h⟩:=zg8 h;refine zaM5 zM4 hG ?_;obtain⟨v3,hv3,h⟩:=zf3 h;refine zaq9 (λ hg=>(zaY6 (a0.getD v2.toNat aB.zero) a1).ok _ hv3) ?_;refine za3 ?_;obtain⟨hb3,h⟩:=zg8 h;refine zaM5 zM4 hG ?_;obtain⟨v4,hv4,h⟩:=zf3 h;refine zaq9 (λ hg=>(zbX0 (a0.getD v2.toNat aB.zero) a1 a2.aM).ok _ hv4) ?_;refine za3 (za3 (za8 hG ?_));refine zq4 rfl hG h (λ _ h=>?_) (λ _ h=>?_)
 · refine za3 (za8 hG ?_)
   refine zx6 ?_;exact zS5 h
 refine zo1 ?_;refine za3 (za8 hG ?_);refine za3 (za3 (za8 hG ?_));refine zbq3 (zdN8 a0 a2 v2 v4) (λ v=>zX8 a0 a2 v2 v4 v=some r) rfl hG h ?_ (λ _ h=>?_) (λ _ h=>?_)
 · intro j1 h
   unfold zX8 at h;refine g_st ?_;refine za3 (zaM5 zM4 hG ?_);obtain⟨v5,hv5,h⟩:=zf3 h;refine zaq9 (λ hg=>(zbF1 a0 v2 v4.1).ok _ hv5) ?_;obtain⟨v6,hv6,h⟩:=zf3 h;obtain⟨hb1,h⟩:=zg8 h;refine zaq9 (λ hg=>(zbN4 a2.name v4.2.1).ok _ hv6) ?_;refine zx6 ?_;exact zS5 h
 · obtain⟨hb2,h⟩:=zg8 h
   refine za8 hG ?_;exact zJ8 hK [(0,1),(1,3),(2,5)] [(⟨3,a1,a2.name,a2.aM⟩:bJ)] (by exact h)
 refine zo1 ?_;exact zJ8 hK [(0,1),(1,3),(2,4)] [] (by exact h)
instance zdj6(a0:List aB)(a1:aL)(a2:aJ):OkP (zL8 a0 a1 a2) 255 [la a0,ga a1,ga a2] (λ r=>.tup [la r.1,la r.2.1,.int .i64 r.2.2]):=⟨zbn0 a0 a1 a2⟩
attribute [local irreducible] zL8
def zan0(a0:bB)(j1:Unit):Option (Int×Int×(List aB)×(List aF)×(List bJ)):=
 some ((-1),a0.c.now,a0.c.aI,a0.c.aG,a0.ev)
def zL2(a0:bB)(g1:Int):Option (Int⊕(Unit⊕(Int×Int×(List aB)×(List aF)×(List bJ)))):=
 (if(decide (g1<((a0.c.aG.length:Nat):Int)))=true then
  gd (0<=g1/\g1<((a0.c.aG.length:Nat):Int))<|
  ((if((a0.c.aG.getD g1.toNat aF.zero).bF)=true then zx1 a0.c.aI ((a0.c.aG.getD g1.toNat aF.zero).aK) (((a0.c.aG.getD g1.toNat aF.zero).aR).bN)else some [])).bind λ v1=>
  ((if((a0.c.aG.getD g1.toNat aF.zero).bF)=true then zw0 (((a0.c.aG.getD g1.toNat aF.zero).aR).bN) v1 else some false)).bind λ v2=>
  (if((a0.c.aG.getD g1.toNat aF.zero).bF&&v2)=true then
   some (.inr (.inr (g1,a0.c.now,a0.c.aI,a0.c.aG,a0.ev)))
  else
   some (.inl (i64.wrap (g1+1))))
 else
  some (.inr (.inl ())))
def zt0(a0:bB):Option (Int×Int×(List aB)×(List aF)×(List bJ)):=
 (zc2 (zL2 a0) 0).bind (λ|.inl z=>zan0 a0 z|.inr z=>some z)
@[reducible,instance] def zes9 (a0:bB):=mkJ (zt0 a0) 0 (@zan0.eq_1 a0) λ(j1:Unit)=>⟨[],[(0,⟨false,4,bB.enc bB.zero,[[.int .i64 a0.c.now,la a0.c.aI,.own 1 0 a0.c.aG.length,.own 2 0 a0.ev.length]]⟩),(1,sx a0.c.aG),(2,sx a0.ev)],3⟩
@[reducible,instance] def zet0 (a0:bB) {T:Type} (x:T):=mkL x (@zL2.eq_1 a0) λ(g1:Int)=>⟨[(0,.ptr 0 0 0),(3,.int .i64 g1)],[(0,⟨false,4,bB.enc bB.zero,[[.int .i64 a0.c.now,la a0.c.aI,.own 1 0 a0.c.aG.length,.own 2 0 a0.ev.length]]⟩),(1,sx a0.c.aG),(2,sx a0.ev)],3⟩
instance zbX1(a0:bB):OkM (zt0 a0) 252 [.ptr 0 0 0] [(0,⟨false,4,bB.enc bB.zero,[[.int .i64 a0.c.now,la a0.c.aI,.own 1 0 a0.c.aG.length,.own 2 0 a0.ev.length]]⟩),(1,sx a0.c.aG),(2,sx a0.ev)] 3 (λ r=>.int .i64 r.1) (λ r=>[(0,⟨false,4,bB.enc bB.zero,[[.int .i64 r.2.1,la r.2.2.1,.own 1 0 r.2.2.2.1.length,.own 2 0 r.2.2.2.2.length]]⟩),(1,sx r.2.2.2.1),(2,sx r.2.2.2.2)]) 3:=okm (zt0.eq_1 a0) (λ r=>[.int .i64 r.1]) Tryz.f252 []
attribute [local irreducible] zt0
def zL9 (a0:aB) (a1:aL) (a2:aC) (a3:Int):Option (aB×(List bA)×Int):=
 (zI0 a0).bind λ v1=>
 (if(!v1)=true then
  some ({aB.zero with},[],2)
 else
  (if(((!(zr5 a1))||decide (a3<0))||decide (7<a3))=true then
   some ({aB.zero with},[],1)
  else
   (if(!(zv6 a0.aA a2))=true then
    some ({aB.zero with},[],12)
   else
    (zi7 a0 a1).bind λ v2=>
    (if v2.2=true then
     some ({aB.zero with},[],14)
    else
     (zj9 a0).bind λ v3=>
     (zj8 v3 a1).bind λ v4=>
     (if(zu4 v3.aA v4 a2)=true then
      some (v3,[],0)
     else
      (if(!(zn2 v4))=true then
       (zy7 v3.aA v4 a2).bind λ v5=>
       gd (v3.aN.length+1<=4294967296)<|
       (zD4 (⟨(⟨v3.aA.name,v3.aA.kind,v3.aA.aS,v3.aA.home⟩:aH),v3.aP,(v3.aN++[{aU.zero with aK:=a1,aM:=v5}]),v3.aT,v3.gen⟩:aB)).bind λ v6=>
       some (v6.1,v6.2.1,v6.2.2)
      else
       (if(decide (8<=i64.wrap ((v3.aP.length:Int)+(v3.aT.length:Int))))=true then
        some ({aB.zero with},[],4)
       else
        (zx5 v3.aT ({aU.zero with aK:=a1,aM:=a2,aZ:=a3})).bind λ v7=>
        (if(!decide (v7.2.2=0))=true then
         some ({aB.zero with},[],v7.2.2)
        else
         (zD4 (⟨(⟨v3.aA.name,v3.aA.kind,v3.aA.aS,v3.aA.home⟩:aH),v3.aP,v3.aN,v7.1,v3.gen⟩:aB)).bind λ v8=>
         some (v8.1,v8.2.1,v8.2.2)))))))))
instance zds4(a0:aB)(a1:aL)(a2:aC)(a3:Int):OkP (zL9 a0 a1 a2 a3) 290 [ga a0,ga a1,ga a2,.int .i64 a3] (λ r=>.tup [ga r.1,la r.2.1,.int .i64 r.2.2]):=⟨λ r h=>by
 refine zae9 Tryz.f290 [(48,1)] λ E hG hN hK=>?_;have hm:Mk (zL9 a0 a1 a2 a3):=trivial;unfold zL9 at h;refine za3 (za8 hG ?_);refine za3 (za3 (za8 hG ?_));obtain⟨v1,hv1,h⟩:=zf3 h;have hm:=mkP hm v1;refine zw9 (λ hg=>(zbW7 a0).ok _ hv1) ?_;refine zq4 rfl hG h (λ _ h=>?_) (λ _ h=>?_)
 .exact gogo
 refine zo1 ?_;refine za3 (za3 (za8 hG ?_));refine zw9 (λ hg=>(zbw1 a1).ok) ?_;refine zq4 rfl hG h (λ _ h=>?_) (λ _ h=>?_)
 .exact gogo
 refine zo1 ?_;refine za3 (za3 (za8 hG ?_));refine zw9 (λ hg=>(zcf8 a0.aA a2).ok) ?_;refine zq4 rfl hG h (λ _ h=>?_) (λ _ h=>?_)
 .exact gogo
 refine zo1 ?_;refine za3 (za3 (za8 hG ?_));obtain⟨v2,hv2,h⟩:=zf3 h;have hm:=mkP hm v2;refine zw9 (λ hg=>(zbN5 a0 a1).ok _ hv2) ?_;refine za3 (za8 hG ?_);refine zq4 rfl hG h (λ _ h=>?_) (λ _ h=>?_)
 .exact gogo
 refine zo1 ?_;refine za3 (za8 hG ?_);obtain⟨v3,hv3,h⟩:=zf3 h;have hm:=mkP hm v3;refine zv5 [] [(0,5),(1,6),(2,7)] [0,1,2] (zbF3 _ _ hv3) rfl rfl ?_;refine g_gh (.fz [5,7]) ?_;refine za3 (za8 hG ?_);obtain⟨v4,hv4,h⟩:=zf3 h;have hm:=mkP hm v4;refine zw9 (λ hg=>(zaY6 v3 a1).ok _ hv4) ?_;refine za3 (za3 (za8 hG ?_));refine zw9 (λ hg=>(zbN6 v3.aA v4 a2).ok) ?_;refine zq4 rfl hG h (λ _ h=>?_) (λ _ h=>?_)
 .exact gogo
 refine zo1 ?_;refine za3 (za3 (za8 hG ?_));refine zw9 (λ hg=>(zcf4 v4).ok) ?_;refine zq4 rfl hG h (λ _ h=>?_) (λ _ h=>?_)
 · refine za3 (zaM5 zM4 hG ?_)
   obtain⟨v5,hv5,h⟩:=zf3 h;have hm:=mkP hm v5;obtain⟨hb1,h⟩:=zg8 h;refine zaq9 (λ hg=>(zcg0 v3.aA v4 a2).ok _ hv5) ?_;refine za3 (za8 hG ?_);obtain⟨v6,hv6,h⟩:=zf3 h;have hm:=mkP hm v6;have hc_v6:=(zbb7 (⟨(⟨v3.aA.name,v3.aA.kind,v3.aA.aS,v3.aA.home⟩:aH),v3.aP,(v3.aN++[{aU.zero with aK:=a1,aM:=v5}]),v3.aT,v3.gen⟩:aB)).ok _ hv6;have el_v6:∀x:aB,aB.enc x=[A.str x.aA.name,A.int .i64 x.aA.kind,A.int .i64 x.aA.aS,A.int .i64 x.aA.home,A.sl (x.aP.map bA.enc),A.sl (x.aN.map aU.enc),A.sl (x.aT.map aU.enc),A.int .i64 x.gen]:=λ x=>rfl
   try dsimp only[ga,la,En.e]at hc_v6
   rw[el_v6]at hc_v6;dsimp only at hc_v6;refine zw9 (λ hg=>by exact hc_v6) ?_;exact gogo
 refine zo1 ?_;refine za3 (za3 (za8 hG ?_));refine zq4 rfl hG h (λ _ h=>?_) (λ _ h=>?_)
 .exact gogo
 refine zo1 ?_;refine za3 (za8 hG ?_);obtain⟨v7,hv7,h⟩:=zf3 h;have hm:=mkP hm v7;refine zw9 (λ hg=>(zbN9 v3.aT ({aU.zero with aK:=a1,aM:=a2,aZ:=a3})).ok _ hv7) ?_;refine za3 (za3 (za8 hG ?_));refine zq4 rfl hG h (λ _ h=>?_) (λ _ h=>?_)
 .exact gogo
 refine zo1 ?_;refine za3 (za8 hG ?_);refine za3 (za8 hG ?_);obtain⟨v8,hv8,h⟩:=zf3 h;have hm:=mkP hm v8;have hc_v8:=(zbb7 (⟨(⟨v3.aA.name,v3.aA.kind,v3.aA.aS,v3.aA.home⟩:aH),v3.aP,v3.aN,v7.1,v3.gen⟩:aB)).ok _ hv8;have el_v8:∀x:aB,aB.enc x=[A.str x.aA.name,A.int .i64 x.aA.kind,A.int .i64 x.aA.aS,A.int .i64 x.aA.home,A.sl (x.aP.map bA.enc),A.sl (x.aN.map aU.enc),A.sl (x.aT.map aU.enc),A.int .i64 x.gen]:=λ x=>rfl
 try dsimp only[ga,la,En.e]at hc_v8
 rw[el_v8]at hc_v8;dsimp only at hc_v8;refine zw9 (λ hg=>by exact hc_v8) ?_;exact gogo⟩
attribute [local irreducible] zL9
def zad4(a0:List aB)(a1:aL)(a2:aJ)(a3:Int):Option ((List aB)×(List bJ)×Int):=
 (zI1 a0).bind λ v1=>
 (if(!v1)=true then
  some ([],[],2)
 else
  (zi8 a0 a2.name).bind λ v2=>
  (if(decide (v2<0))=true then
   some ([],[],10)
  else
   (zv8 a0).bind λ v3=>
   ((if(decide ((v3.length:Int)=8))=true then zh1 v3 a1 else some false)).bind λ v4=>
   (if(decide ((v3.length:Int)=8)&&(!v4))=true then
    some ([],[],4)
   else
    gd (0<=v2/\v2<(a0.length:Int))<|
    (zL9 (a0.getD v2.toNat aB.zero) a1 a2.aM a3).bind λ v5=>
    (if(!decide (v5.2.2=0))=true then
     some ([],[],v5.2.2)
    else
     (zg3 a0 v2 v5.1).bind λ v6=>
     (zg5 a2.name v5.2.1).bind λ v7=>
     some (v6,v7,0)))))
instance zds5(a0:List aB)(a1:aL)(a2:aJ)(a3:Int):OkP (zad4 a0 a1 a2 a3) 247 [la a0,ga a1,ga a2,.int .i64 a3] (λ r=>.tup [la r.1,la r.2.1,.int .i64 r.2.2]):=ok1 (zad4.eq_1 a0 a1 a2 a3) Tryz.f247 []
attribute [local irreducible] zad4
def zY9(a0:aB)(a1:aL):Option (aB×(List bA)×Int):=
 (zI0 a0).bind λ v1=>
 (if(!v1)=true then
  some ({aB.zero with},[],2)
 else
  (zt7 a0 a1).bind λ v2=>
  (if(!v2)=true then
   some ({aB.zero with},[],10)
  else
   (zl8 a0).bind λ v3=>
   (zt1 v3.aP a1 ({aC.zero with})).bind λ v4=>
   (zh5 (({v3 with aP:=v4}).aN) a1).bind λ v5=>
   (zh5 (({{v3 with aP:=v4}with aN:=v5.1}).aT) a1).bind λ v6=>
   (zD4 ({{{v3 with aP:=v4}with aN:=v5.1}with aT:=v6.1})).bind λ v7=>
   some (v7.1,v7.2.1,v7.2.2)))
instance zdj7(a0:aB)(a1:aL):OkP (zY9 a0 a1) 296 [ga a0,ga a1] (λ r=>.tup [ga r.1,la r.2.1,.int .i64 r.2.2]):=ok1 (zY9.eq_1 a0 a1) Tryz.f296 []
attribute [local irreducible] zY9
def zaX0(j1:(List aB)×(List bJ)):Option ((List aB)×(List bJ)):=
 some (j1.1,j1.2)
def zac4(a1:aL)(g1:Int×(List aB)×(List bJ))(j2:(List bJ)):Option ((Int×(List aB)×(List bJ))⊕((List aB)×(List bJ))):=
 gd (0<=g1.1/\g1.1<((g1.2.1.length:Nat):Int))<|
 (zY9 (g1.2.1.getD g1.1.toNat aB.zero) a1).bind λ v4=>
 gd (0<=g1.1/\g1.1<((g1.2.1.length:Nat):Int))<|
 (zg5 v4.1.aA.name v4.2.1).bind λ v5=>
 gd (j2.length+v5.length<=4294967296)<|
 some (.inl ((i64.wrap (g1.1+1)),g1.2.1.set g1.1.toNat v4.1,(j2++v5)))
def zac5(a1:aL)(g1:Int×(List aB)×(List bJ)):Option ((Int×(List aB)×(List bJ))⊕((List aB)×(List bJ))):=
 (if(decide (g1.1<((g1.2.1.length:Nat):Int)))=true then
  gd (0<=g1.1/\g1.1<((g1.2.1.length:Nat):Int))<|
  (zt7 (g1.2.1.getD g1.1.toNat aB.zero) a1).bind λ v2=>
  (if(!v2)=true then
   some (.inl ((i64.wrap (g1.1+1)),g1.2.1,g1.2.2))
  else
   gd (0<=g1.1/\g1.1<((g1.2.1.length:Nat):Int))<|
   (zj8 (g1.2.1.getD g1.1.toNat aB.zero) a1).bind λ v3=>
   (if(!(zn2 v3))=true then
    gd (0<=g1.1/\g1.1<((g1.2.1.length:Nat):Int))<|
    gd (g1.2.2.length+1<=4294967296)<|
    zac4 a1 g1 (g1.2.2++[{bJ.zero with kind:=3,aK:=a1,name:=((g1.2.1.getD g1.1.toNat aB.zero).aA).name}])
   else
    zac4 a1 g1 g1.2.2))
 else
  some (.inr (g1.2.1,g1.2.2)))
def zT2(a0:List aB)(a1:aL):Option ((List aB)×(List bJ)):=
 (zI1 a0).bind λ v1=>
 (if(!v1)=true then
  some ([],[])
 else
  gd (a0.length<=4294967296)<|
  (zc2 (zac5 a1) (0,a0,[])).bind (λ z=>zaX0 z))
@[reducible,instance] def zet1 a0 a1 {T1:Type} (v1:T1):=mkJ (zT2 a0 a1,v1) 0 (@zaX0.eq_1) λ(j1:(List aB)×(List bJ))=>⟨[(6,.own 0 0 j1.1.length),(7,.own 1 0 j1.2.length)],[(0,sx j1.1),(1,sx j1.2)],2⟩
@[reducible,instance] def zet2 (a1:aL) (g1:Int×(List aB)×(List bJ)) {T1:Type} (v2:T1) {T2:Type} (v3:T2):=mkJ ((zac5 a1 g1,v2),v3) 999 (@zac4.eq_1 a1 g1) λ(j2:(List bJ))=>⟨[(3,.ptr 0 0 0),(6,.own 1 0 g1.2.1.length),(7,.own 2 0 j2.length),(8,.int .i64 g1.1)],[(0,bx a1),(1,sx g1.2.1),(2,sx j2)],3⟩
@[reducible,instance] def zet3 (a1:aL) {T:Type} (x:T):=mkL x (@zac5.eq_1 a1) λ(g1:Int×(List aB)×(List bJ))=>⟨[(3,.ptr 0 0 0),(6,.own 1 0 g1.2.1.length),(7,.own 2 0 g1.2.2.length),(8,.int .i64 g1.1)],[(0,bx a1),(1,sx g1.2.1),(2,sx g1.2.2)],3⟩
instance zdj8(a0:List aB)(a1:aL):OkP (zT2 a0 a1) 258 [la a0,ga a1] (λ r=>.tup [la r.1,la r.2]):=ok1 (zT2.eq_1 a0 a1) Tryz.f258 [(15,1),(7,1)]
attribute [local irreducible] zT2
def zT3(a0:aH)(a1:List bA)(a2:aL)(a3:aC):Option Bool:=
 (zy2 a0 a1 a2 a3).bind λ v1=>
 ((if v1=true then zr4 a1 a2 a3 else some [])).bind λ v2=>
 ((if v1=true then zs5 a0 v2 else some false)).bind λ v3=>
 some (v1&&v3)
instance zdj9(a0:aH)(a1:List bA)(a2:aL)(a3:aC):OkP (zT3 a0 a1 a2 a3) 136 [ga a0,la a1,ga a2,ga a3] (λ r=>.bool r):=ok1 (zT3.eq_1 a0 a1 a2 a3) Tryz.f136 []
attribute [local irreducible] zT3
def zbb8(v1:(List aH)×bL)(j2:(List bM)):Option ((List aH)×(List bM)):=
 some (v1.1,j2)
def zas6(v1:(List aH)×bL)(g1:bL×(List bM)):Option ((bL×(List bM))⊕(List bM)):=
 (zf4 g1.1).bind λ v2=>
 (if v2.1=true then
  (zB6 v1.1 v2.2).bind λ v3=>
  gd (g1.2.length+1<=4294967296)<|
  some (.inl (v3.2,(g1.2++[v3.1])))
 else
  some (.inr g1.2))
def zas7(v1:(List aH)×bL)(j1:bL×(List bM)):Option ((List aH)×(List bM)):=
 (zc2 (zas6 v1) (j1.1,j1.2)).bind (λ z=>zbb8 v1 z)
def zas8(g2:Int×bL×(List bM)):Option ((Int×bL×(List bM))⊕(bL×(List bM))):=
 (if(decide (g2.1<4))=true then
  (zr0 g2.1).bind λ v4=>
  (zb9 9 g2.2.1).bind λ v5=>
  gd (g2.2.2.length+1<=4294967296)<|
  some (.inl ((i64.wrap (g2.1+1)),v5.2,(g2.2.2++[{bM.zero with kind:=1,aK:=v4,n:=(i64.wrap (1+v5.1))}])))
 else
  some (.inr (g2.2.1,g2.2.2)))
def zM0(a0:List Int):Option ((List aH)×(List bM)):=
 (zl2 ({bL.zero with l:=a0})).bind λ v1=>
 (zc2 zas8 (0,v1.2,[])).bind (λ z=>zas7 v1 z)
@[reducible,instance] def zet4 (v1:(List aH)×bL) j1:=mkJ (zas7 v1 j1) 2 (@zbb8.eq_1 v1) λ(j2:(List bM))=>⟨[(5,la v1.1),(6,.own 0 0 j2.length)],[(0,sx j2)],1⟩
@[reducible,instance] def zet5 (v1:(List aH)×bL) {T:Type} (x:T):=mkL x (@zas6.eq_1 v1) λ(g1:bL×(List bM))=>⟨[(4,.ptr 0 0 0),(5,la v1.1),(6,.own 1 0 g1.2.length)],[(0,bx g1.1),(1,sx g1.2)],2⟩
@[reducible,instance] def zet6 a0 (v1:(List aH)×bL):=mkJ (zM0 a0,v1) 0 (@zas7.eq_1 v1) λ(j1:bL×(List bM))=>⟨[(4,.ptr 0 0 0),(5,la v1.1),(6,.own 1 0 j1.2.length)],[(0,bx j1.1),(1,sx j1.2)],2⟩
@[reducible,instance] def zet7 a0 (v1:(List aH)×bL):=mkL (zM0 a0,v1) (@zas8.eq_1) λ(g2:Int×bL×(List bM))=>⟨[(4,.ptr 0 0 0),(5,la v1.1),(6,.own 1 0 g2.2.2.length),(7,.int .i64 g2.1)],[(0,bx g2.2.1),(1,sx g2.2.2)],2⟩
instance zds6(a0:List Int):OkP (zM0 a0) 28 [.sl (a0.map (eI .i64))] (λ r=>.tup [la r.1,la r.2]):=ok1 (zM0.eq_1 a0) Tryz.f28 [(6,1)]
attribute [local irreducible] zM0
def zai6(a0:List aH):Option (aV×Int):=
 (zK7 a0).bind λ v1=>
 (if(!decide (v1.2=0))=true then
  some ({aV.zero with},v1.2)
 else
  some ({aV.zero with aI:=v1.1},0))
instance zdE3(a0:List aH):OkP (zai6 a0) 29 [la a0] (λ r=>.tup [ga r.1,.int .i64 r.2]):=ok1 (zai6.eq_1 a0) Tryz.f29 []
attribute [local irreducible] zai6
end
end Ab
end Go.Proofs.YtenebhlnfjcffaaGreatDoor
