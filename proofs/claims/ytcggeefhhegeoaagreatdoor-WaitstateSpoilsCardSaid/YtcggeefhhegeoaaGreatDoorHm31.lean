import Derived.Test.YtcggeefhhegeoaaGreatDoorHm28
import Derived.Test.YtcggeefhhegeoaaGreatDoorHm29
import Derived.Test.YtcggeefhhegeoaaGreatDoorHm30
namespace Go.Proofs.YtcggeefhhegeoaaGreatDoor
namespace Ab
open IntKind (i64 u64 u8)
set_option linter.unusedSimpArgs false
set_option linter.unusedVariables false
set_option linter.defProp false
set_option maxRecDepth 100000
set_option maxHeartbeats 1000000
noncomputable section
attribute [local irreducible] zk1 za4 zd6 za7 zg5 zj4 zl7 zg2 zl8 zg1 zd7 zk9 ze5 zi3 ze3 zi6 za8 za0 ze9 zl0 zn1 zi9 zi2 zg9 zh2 zg6 zc8 zf0 zh3 zg3 zf1 zb0 zb1 zh4 zj0 zf2 zo5 f_ref08_holds zk2 zc6 zn7 zn8 zn3 ze6 zf6 zm4 zn9 zh5 zl1 zm7 zd5 zj5 ze7 zf7 zo8 zo0 zb3 zc4 zi1 zj7 zp6 zq4 zl5 zb7 zn4 zd9 zj2 zp8 zh7 za6 za1 zb8 zi0 zf8 zo1 zj8 ze1 ze4 zd8 zj9 zf9 zr5 zi7 zd3 zp7 zi8 zq1 zb6 zk0 zg8 zj3 zg4 zo4 zm9 zf5 zq9 zi5 zg7 zr7 zt0 zu8 zh1 zu4 zf3 zk7 zb9 za9 zl2 zr6 zm0 ze8 zt1 zc7 zo9 zh8 zh9 zi4 zd4 zc5 zk8 zq8 zt5 zt9 zw6 zf4 zo6 zc3 zc1 zn5 zs8 zu3 zd1 za3 zl9 zt6 zq5 zm5 zk3 zm2 zu2 zj1 zq2 zv5 zr9 zr2 zv6 zw2 zu7 zz1 zb5 zu9 zw7 zB9 zA5 zn6 zq6 zy1 ze2 zv7 zw5 zz2 zr3 zq3 zm6 zy8 zu0 zD1 zp1 zA8 zK3 zD2 zI1 zA7 zN3 zL5 zI7 zB2 zy9 zx0 zB3 zR1 zK2 zR0 zan2 zx3 zF4 zz3 zL6 zC6 zD3 zI2 zR2 zI3 zK4 zF5 zI8 zR3 zN4 zC7 zY5 zY6 zad3 zK5 zs9 zK6 zad4 zY7 zS3 zK7 zS4 zC8 zU4 zad5 zx4 zx5 zq7 zD6
def zW3:Option Bool :=
 (zq4 0).bind fun v1 =>
 (zx5 (⟨[],[(⟨v1,{ aN.zero with bF:=(⟨(⟨#[97]⟩:ByteArray),{ aC.zero with mode:=5 }⟩:aM) },3⟩:bN)]⟩:aL)).bind fun v2 =>
 (zq7 v2.1).bind fun v3 =>
 (zy9 v3.1 v1).bind fun v4 =>
 (zD6 v3.1 v1).bind fun v5 =>
 ((if ((decide (v2.2=0)&&decide (v3.2=0))&&v4.2)=true then zx0 (⟨[],[(⟨v1,{ aN.zero with bF:=(⟨(⟨#[97]⟩:ByteArray),{ aC.zero with mode:=5 }⟩:aM) },3⟩:bN)]⟩:aL) v3.1 else some false)).bind fun v6 =>
 ((if (((decide (v2.2=0)&&decide (v3.2=0))&&v4.2)&&v6)=true then zx4 v3.1 else some false)).bind fun v7 =>
 gd ((((((decide (v2.2=0)&&decide (v3.2=0))&&v4.2)&&v6)&&v7)&&decide ((v5.length:Int)=1))=true→0≤0∧0 < (v5.length:Int)) <|
 ((if ((((((decide (v2.2=0)&&decide (v3.2=0))&&v4.2)&&v6)&&v7)&&decide ((v5.length:Int)=1))&&v5.getD 0 false)=true then zx3 v3.1 else some [])).bind fun v8 =>
 some (((((((decide (v2.2=0)&&decide (v3.2=0))&&v4.2)&&v6)&&v7)&&decide ((v5.length:Int)=1))&&v5.getD 0 false)&&decide ((v8.length:Int)=1))
instance zdh3 :OkP zW3 6 [] (fun r=>.bool r):=⟨fun r h=>by
 refine zak7 Tryz.f6 [(17,2)] fun E hG hN hK=>?_
 have hm:Mk zW3:=trivial
 unfold zW3 at h
 refine za2 (za5 hG ?_)
 refine za2 (za5 hG ?_)
 obtain ⟨v1,hv1,h⟩:=zc2 h
 have hm:=mkP hm v1
 refine zw4 (fun hg=>(zcl2 0).ok _ hv1) ?_
 refine za2 (za5 hG ?_)
 refine za2 (za5 hG ?_)
 obtain ⟨v2,hv2,h⟩:=zc2 h
 have hm:=mkP hm v2
 have hc_v2:=(zbn8 (⟨[],[(⟨v1,{ aN.zero with bF:=(⟨(⟨#[97]⟩:ByteArray),{ aC.zero with mode:=5 }⟩:aM) },3⟩:bN)]⟩:aL)).ok _ hv2
 have el_v2:∀ x:aL,aL.enc x=[A.sl (x.aF.map aB.enc),A.sl (x.bB.map bN.enc)]:=fun x=>rfl
 try dsimp only [ga,la,En.e] at hc_v2
 rw [el_v2] at hc_v2
 dsimp only at hc_v2
 refine zw4 (fun hg=>PFn.unfullA hc_v2) ?_
 refine za2 (za5 hG ?_)
 obtain ⟨v3,hv3,h⟩:=zc2 h
 have hm:=mkP hm v3
 refine zw4 (fun hg=>(zbn9 v2.1).ok _ hv3) ?_
 refine za2 (za5 hG ?_)
 obtain ⟨v4,hv4,h⟩:=zc2 h
 have hm:=mkP hm v4
 refine zw4 (fun hg=>(zbw4 v3.1 v1).ok _ hv4) ?_
 refine za2 (za5 hG ?_)
 obtain ⟨v5,hv5,h⟩:=zc2 h
 have hm:=mkP hm v5
 refine zw4 (fun hg=>(zbi3 v3.1 v1).ok _ hv5) ?_
 refine za2 (za5 hG ?_)
 obtain ⟨v6,hv6,h⟩:=zc2 h
 have hm:=mkP hm v6
 refine zw4 (fun hg=>PFn.unfullA ((zbw5 (⟨[],[(⟨v1,{ aN.zero with bF:=(⟨(⟨#[97]⟩:ByteArray),{ aC.zero with mode:=5 }⟩:aM) },3⟩:bN)]⟩:aL) v3.1).ok _ (zaU4 hg hv6))) ?_
 exact gogo⟩
attribute [local irreducible] zW3
def zL9 (a0:aG) (a1:ByteArray) (v1:Int) (j1:aZ):Option aZ :=
 (zj4 a0.bK.aQ a1).bind fun v3 =>
 gd (0≤v1∧v1 < (j1.c.aF.length:Int)) <|
 (zi7 (j1.c.aF.getD v1.toNat aB.zero) a0.aP).bind fun v4 =>
 (if (!decide (v4=v3))=true then
  (zK5 j1.c.aF a0.aP (⟨a1,v3⟩:aM)).bind fun v5 =>
  (zc8 v5.1 v5.2.1 j1).bind fun v6 =>
  some (⟨(⟨v6.1,v6.2.1,v6.2.2.1⟩:bD),v6.2.2.2⟩:aZ)
 else
  some j1)
def zA6 (a0:aG) (a1:ByteArray) (a2:aZ):Option aZ :=
 (zi2 a2.c.aF a1).bind fun v1 =>
 gd (0≤v1∧v1 < (a2.c.aF.length:Int)) <|
 (zi1 (a2.c.aF.getD v1.toNat aB.zero) a0.aP).bind fun v2 =>
 (if v2.2=true then
  (zY6 a2.c.aF a0.aP a1).bind fun v7 =>
  (zc8 v7.1 v7.2.1 a2).bind fun v8 =>
  zL9 a0 a1 v1 (⟨(⟨v8.1,v8.2.1,v8.2.2.1⟩:bD),v8.2.2.2⟩:aZ)
 else
  zL9 a0 a1 v1 a2)
@[reducible,instance] def zej2 (a0:aG) (a1:ByteArray) a2 (v1:Int) {T1:Type} (v2:T1):=mkJ ((zA6 a0 a1 a2,v1),v2) 999 (@zL9.eq_1 a0 a1 v1) fun (j1:aZ)=>⟨[(0,.ptr 0 0 0),(2,.str a1),(4,.ptr 3 0 0),(6,.int .i64 v1)],[(0,⟨false,4,aZ.enc aZ.zero,[[.int .i64 j1.c.now,la j1.c.aF,.own 4 0 j1.c.aD.length,.own 5 0 j1.ev.length]]⟩),(3,bx a0),(4,sx j1.c.aD),(5,sx j1.ev)],6⟩
instance zcp6 (a0:aG) (a1:ByteArray) (a2:aZ):OkM (zA6 a0 a1 a2) 247 [.ptr 0 0 0,ga a0,.str a1] [(0,⟨false,4,aZ.enc aZ.zero,[[.int .i64 a2.c.now,la a2.c.aF,.own 1 0 a2.c.aD.length,.own 2 0 a2.ev.length]]⟩),(1,sx a2.c.aD),(2,sx a2.ev)] 3 (fun r=>.tup []) (fun r=>[(0,⟨false,4,aZ.enc aZ.zero,[[.int .i64 r.c.now,la r.c.aF,.own 3 0 r.c.aD.length,.own 4 0 r.ev.length]]⟩),(3,sx r.c.aD),(4,sx r.ev)]) 5:=okm (zA6.eq_1 a0 a1 a2) (fun r=>[]) Tryz.f247 []
attribute [local irreducible] zA6
def zY8 (a0:Int) (j1:aZ):Option aZ :=
 (zd7 a0 j1).bind fun v2 =>
 some (⟨(⟨v2.1,v2.2.1,v2.2.2.1⟩:bD),v2.2.2.2⟩:aZ)
def zM0 (a0:Int) (a1:aZ) (v1:(List aM)) (g1:Int×aZ):Option ((Int×aZ)⊕aZ) :=
 (if (decide (g1.1 < (v1.length:Int)))=true then
  gd (0≤g1.1∧g1.1 < (v1.length:Int)) <|
  (zA6 (a1.c.aD.getD a0.toNat aG.zero) ((v1.getD g1.1.toNat aM.zero).name) g1.2).bind fun v3 =>
  some (.inl ((i64.wrap (g1.1+1)),v3))
 else
  some (.inr g1.2))
def zu5 (a0:Int) (a1:aZ):Option aZ :=
 gd (0≤a0∧a0 < ((a1.c.aD.length:Nat):Int)) <|
 (zD3 (((a1.c.aD.getD a0.toNat aG.zero).bJ).bS)).bind fun v1 =>
 (zc0 (zM0 a0 a1 v1) (0,a1)).bind (fun z=>zY8 a0 z)
@[reducible,instance] def zej3 (a0:Int) a1 {T1:Type} (v1:T1):=mkJ (zu5 a0 a1,v1) 0 (@zY8.eq_1 a0) fun (j1:aZ)=>⟨[(0,.ptr 0 0 0),(1,.int .i64 a0)],[(0,⟨false,4,aZ.enc aZ.zero,[[.int .i64 j1.c.now,la j1.c.aF,.own 3 0 j1.c.aD.length,.own 4 0 j1.ev.length]]⟩),(3,sx j1.c.aD),(4,sx j1.ev)],5⟩
@[reducible,instance] def zej4 (a0:Int) (a1:aZ) (v1:(List aM)) {T:Type} (x:T):=mkL x (@zM0.eq_1 a0 a1 v1) fun (g1:Int×aZ)=>⟨[(0,.ptr 0 0 0),(1,.int .i64 a0),(4,.ptr 3 0 0),(5,la v1),(6,.int .i64 g1.1)],[(0,⟨false,4,aZ.enc aZ.zero,[[.int .i64 g1.2.c.now,la g1.2.c.aF,.own 4 0 g1.2.c.aD.length,.own 5 0 g1.2.ev.length]]⟩),(3,bx (a1.c.aD.getD a0.toNat aG.zero)),(4,sx g1.2.c.aD),(5,sx g1.2.ev)],6⟩
instance zaP7 (a0:Int) (a1:aZ):OkM (zu5 a0 a1) 208 [.ptr 0 0 0,.int .i64 a0] [(0,⟨false,4,aZ.enc aZ.zero,[[.int .i64 a1.c.now,la a1.c.aF,.own 1 0 a1.c.aD.length,.own 2 0 a1.ev.length]]⟩),(1,sx a1.c.aD),(2,sx a1.ev)] 3 (fun r=>.tup []) (fun r=>[(0,⟨false,4,aZ.enc aZ.zero,[[.int .i64 r.c.now,la r.c.aF,.own 3 0 r.c.aD.length,.own 4 0 r.ev.length]]⟩),(3,sx r.c.aD),(4,sx r.ev)]) 5:=okm (zu5.eq_1 a0 a1) (fun r=>[]) Tryz.f208 []
attribute [local irreducible] zu5
def zas7 (j1:aZ):Option aZ :=
 some j1
def zad6 (g1:Int×aZ) (j2:aZ):Option ((Int×aZ)⊕aZ) :=
 (zd7 g1.1 j2).bind fun v6 =>
 (zd3 g1.1 (⟨(⟨v6.1,v6.2.1,v6.2.2.1⟩:bD),v6.2.2.2⟩:aZ)).bind fun v7 =>
 (zs9 (⟨(⟨v7.1,v7.2.1,v7.2.2.1⟩:bD),v7.2.2.2⟩:aZ)).bind fun v8 =>
 some (.inl (v8.1,(⟨(⟨v8.2.1,v8.2.2.1,v8.2.2.2.1⟩:bD),v8.2.2.2.2⟩:aZ)))
def zI4 (g1:Int×aZ) (v4:(List Bool)) (v5:(List aM)) (g2:Int×aZ):Option ((Int×aZ)⊕aZ) :=
 (if (decide (g2.1 < (v5.length:Int)))=true then
  gd (0≤g2.1∧g2.1 < (v5.length:Int)) <|
  gd (0≤g2.1∧g2.1 < (v4.length:Int)) <|
  (if (!(v4.getD g2.1.toNat false))=true then
   (zA6 (g1.2.c.aD.getD g1.1.toNat aG.zero) ((v5.getD g2.1.toNat aM.zero).name) g2.2).bind fun v9 =>
   some (.inl ((i64.wrap (g2.1+1)),v9))
  else
   (zi2 g2.2.c.aF ((v5.getD g2.1.toNat aM.zero).name)).bind fun v10 =>
   gd (0≤v10∧v10 < (g2.2.c.aF.length:Int)) <|
   (zi7 (g2.2.c.aF.getD v10.toNat aB.zero) ((g1.2.c.aD.getD g1.1.toNat aG.zero).aP)).bind fun v11 =>
   gd (0≤g1.1∧g1.1 < ((g2.2.c.aD.length:Nat):Int)) <|
   (zj4 (((g2.2.c.aD.getD g1.1.toNat aG.zero).bK).aQ) ((v5.getD g2.1.toNat aM.zero).name)).bind fun v12 =>
   (if (!decide (v11=v12))=true then
    gd (0≤g1.1∧g1.1 < ((g2.2.c.aD.length:Nat):Int)) <|
    (zw5 ((g2.2.c.aD.getD g1.1.toNat aG.zero).bK) (⟨(v5.getD g2.1.toNat aM.zero).name,v12,v11⟩:bM)).bind fun v13 =>
    gd (0≤g1.1∧g1.1 < ((g2.2.c.aD.length:Nat):Int)) <|
    some (.inl ((i64.wrap (g2.1+1)),(⟨(⟨g2.2.c.now,g2.2.c.aF,g2.2.c.aD.set g1.1.toNat ({ (g2.2.c.aD.getD g1.1.toNat aG.zero) with bK:=v13.1 })⟩:bD),g2.2.ev⟩:aZ)))
   else
    some (.inl ((i64.wrap (g2.1+1)),g2.2))))
 else
  some (.inr g2.2))
def zD4 (g1:Int×aZ):Option ((Int×aZ)⊕aZ) :=
 (if (decide (0≤g1.1))=true then
  gd (0≤g1.1∧g1.1 < ((g1.2.c.aD.length:Nat):Int)) <|
  (zd5 2 ((g1.2.c.aD.getD g1.1.toNat aG.zero).aP) g1.2).bind fun v2 =>
  (zF5 v2.2.1 ((g1.2.c.aD.getD g1.1.toNat aG.zero).aP) (((g1.2.c.aD.getD g1.1.toNat aG.zero).bJ).bS)).bind fun v3 =>
  (zK2 (((g1.2.c.aD.getD g1.1.toNat aG.zero).bJ).bS) v3).bind fun v4 =>
  (zD3 (((g1.2.c.aD.getD g1.1.toNat aG.zero).bJ).bS)).bind fun v5 =>
  (zc0 (zI4 g1 v4 v5) (0,(⟨(⟨v2.1,v2.2.1,v2.2.2.1⟩:bD),v2.2.2.2⟩:aZ))).bind (fun z=>zad6 g1 z)
 else
  some (.inr g1.2))
def zm3 (a0:aZ):Option aZ :=
 (zs9 a0).bind fun v1 =>
 (zc0 zD4 (v1.1,(⟨(⟨v1.2.1,v1.2.2.1,v1.2.2.2.1⟩:bD),v1.2.2.2.2⟩:aZ))).bind (fun z=>zas7 z)
@[reducible,instance] def zej5 a0 {T1:Type} (v1:T1):=mkJ (zm3 a0,v1) 0 (@zas7.eq_1) fun (j1:aZ)=>⟨[],[(0,⟨false,4,aZ.enc aZ.zero,[[.int .i64 j1.c.now,la j1.c.aF,.own 3 0 j1.c.aD.length,.own 4 0 j1.ev.length]]⟩),(3,sx j1.c.aD),(4,sx j1.ev)],5⟩
@[reducible,instance] def zej6 (g1:Int×aZ) {T1:Type} (v2:T1) {T2:Type} (v3:T2) {T3:Type} (v4:T3) {T4:Type} (v5:T4):=mkJ ((((zD4 g1,v2),v3),v4),v5) 2 (@zad6.eq_1 g1) fun (j2:aZ)=>⟨[(0,.ptr 0 0 0),(2,.int .i64 g1.1)],[(0,⟨false,4,aZ.enc aZ.zero,[[.int .i64 j2.c.now,la j2.c.aF,.own 3 0 j2.c.aD.length,.own 4 0 j2.ev.length]]⟩),(3,sx j2.c.aD),(4,sx j2.ev)],5⟩
@[reducible,instance] def zej7 (g1:Int×aZ) (v4:(List Bool)) (v5:(List aM)) {T:Type} (x:T):=mkL x (@zI4.eq_1 g1 v4 v5) fun (g2:Int×aZ)=>⟨[(0,.ptr 0 0 0),(2,.int .i64 g1.1),(3,.ptr 3 0 0),(4,.sl (v4.map eB)),(5,la v5),(6,.int .i64 g2.1)],[(0,⟨false,4,aZ.enc aZ.zero,[[.int .i64 g2.2.c.now,la g2.2.c.aF,.own 4 0 g2.2.c.aD.length,.own 5 0 g2.2.ev.length]]⟩),(3,bx (g1.2.c.aD.getD g1.1.toNat aG.zero)),(4,sx g2.2.c.aD),(5,sx g2.2.ev)],6⟩
@[reducible,instance] def zej8 {T:Type} (x:T):=mkL x (@zD4.eq_1) fun (g1:Int×aZ)=>⟨[(0,.ptr 0 0 0),(2,.int .i64 g1.1)],[(0,⟨false,4,aZ.enc aZ.zero,[[.int .i64 g1.2.c.now,la g1.2.c.aF,.own 3 0 g1.2.c.aD.length,.own 4 0 g1.2.ev.length]]⟩),(3,sx g1.2.c.aD),(4,sx g1.2.ev)],5⟩
instance zaW5 (a0:aZ):OkM (zm3 a0) 210 [.ptr 0 0 0] [(0,⟨false,4,aZ.enc aZ.zero,[[.int .i64 a0.c.now,la a0.c.aF,.own 1 0 a0.c.aD.length,.own 2 0 a0.ev.length]]⟩),(1,sx a0.c.aD),(2,sx a0.ev)] 3 (fun r=>.tup []) (fun r=>[(0,⟨false,4,aZ.enc aZ.zero,[[.int .i64 r.c.now,la r.c.aF,.own 3 0 r.c.aD.length,.own 4 0 r.ev.length]]⟩),(3,sx r.c.aD),(4,sx r.ev)]) 5:=okm (zm3.eq_1 a0) (fun r=>[]) Tryz.f210 []
attribute [local irreducible] zm3
def zaA4 (j1:aZ):Option (Int×aZ) :=
 some (0,j1)
def zV7 (g1:Int×aZ):Option ((Int×aZ)⊕aZ) :=
 (if (decide (0≤g1.1))=true then
  gd (0≤g1.1∧g1.1 < ((g1.2.c.aD.length:Nat):Int)) <|
  (zd5 4 ((g1.2.c.aD.getD g1.1.toNat aG.zero).aP) g1.2).bind fun v2 =>
  (zu5 g1.1 (⟨(⟨v2.1,v2.2.1,v2.2.2.1⟩:bD),v2.2.2.2⟩:aZ)).bind fun v3 =>
  (zd3 g1.1 v3).bind fun v4 =>
  (zm3 (⟨(⟨v4.1,v4.2.1,v4.2.2.1⟩:bD),v4.2.2.2⟩:aZ)).bind fun v5 =>
  (zc6 v5).bind fun v6 =>
  some (.inl (v6.1,(⟨(⟨v6.2.1,v6.2.2.1,v6.2.2.2.1⟩:bD),v6.2.2.2.2⟩:aZ)))
 else
  some (.inr g1.2))
def zH0 (a0:Int) (a1:aZ):Option (Int×aZ) :=
 (if (decide (a0 < 0)||decide (1000 < a0))=true then
  some (1,a1)
 else
  (if (decide (i64.wrap (1073741824 - a0) < a1.c.now))=true then
   some (16,a1)
  else
   (zc6 (⟨(⟨(i64.wrap (a1.c.now+a0)),a1.c.aF,a1.c.aD⟩:bD),a1.ev⟩:aZ)).bind fun v1 =>
   (zc0 zV7 (v1.1,(⟨(⟨v1.2.1,v1.2.2.1,v1.2.2.2.1⟩:bD),v1.2.2.2.2⟩:aZ))).bind (fun z=>zaA4 z)))
@[reducible,instance] def zej9 a0 a1 {T1:Type} (v1:T1):=mkJ (zH0 a0 a1,v1) 0 (@zaA4.eq_1) fun (j1:aZ)=>⟨[],[(0,⟨false,4,aZ.enc aZ.zero,[[.int .i64 j1.c.now,la j1.c.aF,.own 3 0 j1.c.aD.length,.own 4 0 j1.ev.length]]⟩),(3,sx j1.c.aD),(4,sx j1.ev)],5⟩
@[reducible,instance] def zek0 {T:Type} (x:T):=mkL x (@zV7.eq_1) fun (g1:Int×aZ)=>⟨[(0,.ptr 0 0 0),(5,.int .i64 g1.1)],[(0,⟨false,4,aZ.enc aZ.zero,[[.int .i64 g1.2.c.now,la g1.2.c.aF,.own 3 0 g1.2.c.aD.length,.own 4 0 g1.2.ev.length]]⟩),(3,sx g1.2.c.aD),(4,sx g1.2.ev)],5⟩
instance zcp7 (a0:Int) (a1:aZ):OkM (zH0 a0 a1) 206 [.ptr 0 0 0,.int .i64 a0] [(0,⟨false,4,aZ.enc aZ.zero,[[.int .i64 a1.c.now,la a1.c.aF,.own 1 0 a1.c.aD.length,.own 2 0 a1.ev.length]]⟩),(1,sx a1.c.aD),(2,sx a1.ev)] 3 (fun r=>.int .i64 r.1) (fun r=>[(0,⟨false,4,aZ.enc aZ.zero,[[.int .i64 r.2.c.now,la r.2.c.aF,.own 3 0 r.2.c.aD.length,.own 4 0 r.2.ev.length]]⟩),(3,sx r.2.c.aD),(4,sx r.2.ev)]) 5:=okm (zH0.eq_1 a0 a1) (fun r=>[.int .i64 r.1]) Tryz.f206 []
attribute [local irreducible] zH0
def zZ8 (j1:aZ):Option (Int×aZ) :=
 (zm3 j1).bind fun v6 =>
 some (0,v6)
def zG4 (a0:Int) (a1:bO) (v5:(List aM)) (g1:Int×aZ):Option ((Int×aZ)⊕aZ) :=
 (if (decide (g1.1 < (v5.length:Int)))=true then
  gd (0≤a0∧a0 < ((g1.2.c.aD.length:Nat):Int)) <|
  gd (0≤g1.1∧g1.1 < (v5.length:Int)) <|
  (zad4 g1.2.c.aF ((g1.2.c.aD.getD a0.toNat aG.zero).aP) (v5.getD g1.1.toNat aM.zero) a1.bH).bind fun v7 =>
  (zc8 v7.1 v7.2.1 g1.2).bind fun v8 =>
  some (.inl ((i64.wrap (g1.1+1)),(⟨(⟨v8.1,v8.2.1,v8.2.2.1⟩:bD),v8.2.2.2⟩:aZ)))
 else
  some (.inr g1.2))
def zC1 (a0:Int) (a1:bO) (a2:aZ):Option (Int×aZ) :=
 gd (0≤a0∧a0 < ((a2.c.aD.length:Nat):Int)) <|
 (if (a2.c.aD.getD a0.toNat aG.zero).bI=true then
  some (14,a2)
 else
  (zK4 a1).bind fun v1 =>
  (if (!v1)=true then
   some (1,a2)
  else
   (zg9 a2.c.aF).bind fun v2 =>
   (zC6 v2 a1.bS).bind fun v3 =>
   (if (!decide (v3=0))=true then
    some (v3,a2)
   else
    gd (0≤a0∧a0 < ((a2.c.aD.length:Nat):Int)) <|
    gd (0≤a0∧a0 < ((a2.c.aD.length:Nat):Int)) <|
    gd (0≤a0∧a0 < ((a2.c.aD.length:Nat):Int)) <|
    (zd3 a0 (⟨(⟨a2.c.now,a2.c.aF,((a2.c.aD.set a0.toNat ({ (a2.c.aD.getD a0.toNat aG.zero) with bI:=true })).set a0.toNat ({ ((a2.c.aD.set a0.toNat ({ (a2.c.aD.getD a0.toNat aG.zero) with bI:=true })).getD a0.toNat aG.zero) with bJ:=a1 })).set a0.toNat ({ (((a2.c.aD.set a0.toNat ({ (a2.c.aD.getD a0.toNat aG.zero) with bI:=true })).set a0.toNat ({ ((a2.c.aD.set a0.toNat ({ (a2.c.aD.getD a0.toNat aG.zero) with bI:=true })).getD a0.toNat aG.zero) with bJ:=a1 })).getD a0.toNat aG.zero) with since:=a2.c.now })⟩:bD),a2.ev⟩:aZ)).bind fun v4 =>
    (zD3 a1.bS).bind fun v5 =>
    (zc0 (zG4 a0 a1 v5) (0,(⟨(⟨v4.1,v4.2.1,v4.2.2.1⟩:bD),v4.2.2.2⟩:aZ))).bind (fun z=>zZ8 z))))
@[reducible,instance] def zek1 a0 a1 a2 {T1:Type} (v1:T1) {T2:Type} (v2:T2) {T3:Type} (v3:T3) {T4:Type} (v4:T4) {T5:Type} (v5:T5):=mkJ (((((zC1 a0 a1 a2,v1),v2),v3),v4),v5) 0 (@zZ8.eq_1) fun (j1:aZ)=>⟨[(0,.ptr 0 0 0)],[(0,⟨false,4,aZ.enc aZ.zero,[[.int .i64 j1.c.now,la j1.c.aF,.own 3 0 j1.c.aD.length,.own 4 0 j1.ev.length]]⟩),(3,sx j1.c.aD),(4,sx j1.ev)],5⟩
@[reducible,instance] def zek2 (a0:Int) (a1:bO) (v5:(List aM)) {T:Type} (x:T):=mkL x (@zG4.eq_1 a0 a1 v5) fun (g1:Int×aZ)=>⟨[(0,.ptr 0 0 0),(1,.int .i64 a0),(5,.ptr 3 0 0),(8,la v5),(9,.int .i64 g1.1)],[(0,⟨false,4,aZ.enc aZ.zero,[[.int .i64 g1.2.c.now,la g1.2.c.aF,.own 4 0 g1.2.c.aD.length,.own 5 0 g1.2.ev.length]]⟩),(3,bx a1),(4,sx g1.2.c.aD),(5,sx g1.2.ev)],6⟩
instance zca6 (a0:Int) (a1:bO) (a2:aZ):OkM (zC1 a0 a1 a2) 207 [.ptr 0 0 0,.int .i64 a0,ga a1] [(0,⟨false,4,aZ.enc aZ.zero,[[.int .i64 a2.c.now,la a2.c.aF,.own 1 0 a2.c.aD.length,.own 2 0 a2.ev.length]]⟩),(1,sx a2.c.aD),(2,sx a2.ev)] 3 (fun r=>.int .i64 r.1) (fun r=>[(0,⟨false,4,aZ.enc aZ.zero,[[.int .i64 r.2.c.now,la r.2.c.aF,.own 3 0 r.2.c.aD.length,.own 4 0 r.2.ev.length]]⟩),(3,sx r.2.c.aD),(4,sx r.2.ev)]) 5:=okm (zC1.eq_1 a0 a1 a2) (fun r=>[.int .i64 r.1]) Tryz.f207 []
attribute [local irreducible] zC1
def zG3 (a0:Int) (a1:ByteArray) (a2:aZ):Option (Int×aZ) :=
 gd (0≤a0∧a0 < ((a2.c.aD.length:Nat):Int)) <|
 (if (a2.c.aD.getD a0.toNat aG.zero).bI=true then
  some (14,a2)
 else
  gd (0≤a0∧a0 < ((a2.c.aD.length:Nat):Int)) <|
  (zj4 (((a2.c.aD.getD a0.toNat aG.zero).bK).aQ) a1).bind fun v1 =>
  (if (decide (v1={ aC.zero with  }))=true then
   some (10,a2)
  else
   gd (0≤a0∧a0 < ((a2.c.aD.length:Nat):Int)) <|
   (zK5 a2.c.aF ((a2.c.aD.getD a0.toNat aG.zero).aP) ({ aM.zero with name:=a1 })).bind fun v2 =>
   (zc8 v2.1 v2.2.1 a2).bind fun v3 =>
   gd (0≤a0∧a0 < ((v3.2.2.1.length:Nat):Int)) <|
   (zA5 ((v3.2.2.1.getD a0.toNat aG.zero).bK) a1).bind fun v4 =>
   gd (0≤a0∧a0 < ((v3.2.2.1.length:Nat):Int)) <|
   (zd3 a0 (⟨(⟨v3.1,v3.2.1,v3.2.2.1.set a0.toNat ({ (v3.2.2.1.getD a0.toNat aG.zero) with bK:=v4.1 })⟩:bD),v3.2.2.2⟩:aZ)).bind fun v5 =>
   (zm3 (⟨(⟨v5.1,v5.2.1,v5.2.2.1⟩:bD),v5.2.2.2⟩:aZ)).bind fun v6 =>
   some (0,v6)))
instance zca7 (a0:Int) (a1:ByteArray) (a2:aZ):OkM (zG3 a0 a1 a2) 211 [.ptr 0 0 0,.int .i64 a0,.str a1] [(0,⟨false,4,aZ.enc aZ.zero,[[.int .i64 a2.c.now,la a2.c.aF,.own 1 0 a2.c.aD.length,.own 2 0 a2.ev.length]]⟩),(1,sx a2.c.aD),(2,sx a2.ev)] 3 (fun r=>.int .i64 r.1) (fun r=>[(0,⟨false,4,aZ.enc aZ.zero,[[.int .i64 r.2.c.now,la r.2.c.aF,.own 3 0 r.2.c.aD.length,.own 4 0 r.2.ev.length]]⟩),(3,sx r.2.c.aD),(4,sx r.2.ev)]) 5:=okm (zG3.eq_1 a0 a1 a2) (fun r=>[.int .i64 r.1]) Tryz.f211 []
attribute [local irreducible] zG3
def zM1 (a0:Int) (j2:aZ):Option (Int×aZ) :=
 (zd3 a0 j2).bind fun v2 =>
 (zm3 (⟨(⟨v2.1,v2.2.1,v2.2.2.1⟩:bD),v2.2.2.2⟩:aZ)).bind fun v3 =>
 some (0,v3)
@[go_sem] def zdB7 (a0:Int) (j2:aZ):St:=⟨[(0,.ptr 0 0 0),(1,.int .i64 a0)],[(0,⟨false,4,aZ.enc aZ.zero,[[.int .i64 j2.c.now,la j2.c.aF,.own 3 0 j2.c.aD.length,.own 4 0 j2.ev.length]]⟩),(3,sx j2.c.aD),(4,sx j2.ev)],5⟩
def zF0 (a0:Int) (v1:bA×(List aM)×Int) (j1:aZ) (g1:Int×aZ):Option ((Int×aZ)⊕aZ) :=
 (if (decide (g1.1 < (v1.2.1.length:Int)))=true then
  gd (0≤g1.1∧g1.1 < (v1.2.1.length:Int)) <|
  (zi2 g1.2.c.aF ((v1.2.1.getD g1.1.toNat aM.zero).name)).bind fun v4 =>
  gd (0≤v4∧v4 < (g1.2.c.aF.length:Int)) <|
  (zi7 (g1.2.c.aF.getD v4.toNat aB.zero) ((j1.c.aD.getD a0.toNat aG.zero).aP)).bind fun v5 =>
  gd (0≤g1.1∧g1.1 < (v1.2.1.length:Int)) <|
  (if (!decide (v5=(v1.2.1.getD g1.1.toNat aM.zero).aK))=true then
   gd (0≤g1.1∧g1.1 < (v1.2.1.length:Int)) <|
   (zK5 g1.2.c.aF ((j1.c.aD.getD a0.toNat aG.zero).aP) (v1.2.1.getD g1.1.toNat aM.zero)).bind fun v6 =>
   (zc8 v6.1 v6.2.1 g1.2).bind fun v7 =>
   some (.inl ((i64.wrap (g1.1+1)),(⟨(⟨v7.1,v7.2.1,v7.2.2.1⟩:bD),v7.2.2.2⟩:aZ)))
  else
   some (.inl ((i64.wrap (g1.1+1)),g1.2)))
 else
  some (.inr g1.2))
@[go_sem] def zdB8 (a0:Int) (v1:bA×(List aM)×Int) (j1:aZ) (g1:Int×aZ):St:=⟨[(0,.ptr 0 0 0),(1,.int .i64 a0),(8,la v1.2.1),(10,.ptr 3 0 0),(11,.int .i64 g1.1)],[(0,⟨false,4,aZ.enc aZ.zero,[[.int .i64 g1.2.c.now,la g1.2.c.aF,.own 4 0 g1.2.c.aD.length,.own 5 0 g1.2.ev.length]]⟩),(3,bx ((j1.c.aD.getD a0.toNat aG.zero).aP)),(4,sx g1.2.c.aD),(5,sx g1.2.ev)],6⟩
def zB4 (a0:Int) (v1:bA×(List aM)×Int) (j1:aZ):Option (Int×aZ) :=
 gd (0≤a0∧a0 < ((j1.c.aD.length:Nat):Int)) <|
 gd (0≤a0∧a0 < ((j1.c.aD.length:Nat):Int)) <|
 (zc0 (zF0 a0 v1 j1) (0,(⟨(⟨j1.c.now,j1.c.aF,j1.c.aD.set a0.toNat ({ (j1.c.aD.getD a0.toNat aG.zero) with bK:=v1.1 })⟩:bD),j1.ev⟩:aZ))).bind (fun z=>zM1 a0 z)
@[go_sem] def zdB9 (a0:Int) (v1:bA×(List aM)×Int) (j1:aZ):St:=⟨[(0,.ptr 0 0 0),(1,.int .i64 a0),(7,.ptr 3 0 0),(8,la v1.2.1)],[(0,⟨false,4,aZ.enc aZ.zero,[[.int .i64 j1.c.now,la j1.c.aF,.own 4 0 j1.c.aD.length,.own 5 0 j1.ev.length]]⟩),(3,bx v1.1),(4,sx j1.c.aD),(5,sx j1.ev)],6⟩
def zB5 (a0 a1:Int) (a2:aZ):Option (Int×aZ) :=
 gd (0≤a0∧a0 < ((a2.c.aD.length:Nat):Int)) <|
 (zz2 ((a2.c.aD.getD a0.toNat aG.zero).bK) a1).bind fun v1 =>
 (if (!decide (v1.2.2=0))=true then
  some (v1.2.2,a2)
 else
  gd (0≤a0∧a0 < ((a2.c.aD.length:Nat):Int)) <|
  (if (a2.c.aD.getD a0.toNat aG.zero).bI=true then
   (zu5 a0 a2).bind fun v8 =>
   zB4 a0 v1 v8
  else
   zB4 a0 v1 a2))
theorem zaP8 (a0 a1:Int) (a2:aZ) (r:Int×aZ) (h:zB5 a0 a1 a2=some r):MFn C 213 [.ptr 0 0 0,.int .i64 a0,.int .i64 a1] [(0,⟨false,4,aZ.enc aZ.zero,[[.int .i64 a2.c.now,la a2.c.aF,.own 1 0 a2.c.aD.length,.own 2 0 a2.ev.length]]⟩),(1,sx a2.c.aD),(2,sx a2.ev)] 3 (.int .i64 r.1) [(0,⟨false,4,aZ.enc aZ.zero,[[.int .i64 r.2.c.now,la r.2.c.aF,.own 3 0 r.2.c.aD.length,.own 4 0 r.2.ev.length]]⟩),(3,sx r.2.c.aD),(4,sx r.2.ev)] 5:=by
 refine zay0 Tryz.f213 [] [.int .i64 r.1] fun E hG hN hK=>?_
 unfold zB5 at h
 refine za2 (za5 hG ?_)
 refine za2 ?_
 obtain ⟨hb8,h⟩:=zg0 h
 refine za5 hG ?_
 obtain ⟨v1,hv1,h⟩:=zc2 h
 refine zw4 (fun hg=>zca5 _ _ _ hv1) ?_
 refine za2 (za2 (za5 hG ?_))
 refine zp0 rfl hG h (fun _ h=>?_) (fun _ h=>?_)
 · refine za2 (za5 hG ?_)
   refine zx8 ?_
   exact zP0 [(0,0),(3,1),(4,2)] h
 refine zo3 ?_
 refine za2 (za2 ?_)
 obtain ⟨hb7,h⟩:=zg0 h
 refine za5 hG ?_
 refine zaZ3 (zdB9 a0 v1) (fun v=>zB4 a0 v1 v=some r) rfl hG h ?_ (fun _ h=>?_) (fun _ h=>?_)
 · intro j1 h
   unfold zB4 at h
   refine g_st ?_
   refine za2 ?_
   obtain ⟨hb6,h⟩:=zg0 h
   refine za5 hG ?_
   refine za2 ?_
   obtain ⟨hb5,h⟩:=zg0 h
   refine zaB7 zN6 hG ?_
   refine za2 (za2 (za5 hG ?_))
   refine zO2 (zdB7 a0) (fun v=>zM1 a0 v=some r) ?_ ?_
   · intro j2 h
     unfold zM1 at h
     refine g_st ?_
     refine za2 (za5 hG ?_)
     obtain ⟨v2,hv2,h⟩:=zc2 h
     refine zs1 [(0,0),(1,3),(2,4)] [] [0,1,2] ((zbe9 a0 j2).ok _ hv2) rfl rfl ?_
     refine za2 (za5 hG ?_)
     obtain ⟨v3,hv3,h⟩:=zc2 h
     refine zs1 [(0,0),(1,3),(2,4)] [(3,5),(4,6)] [0,1,2,3,4] ((zaW5 (⟨(⟨v2.1,v2.2.1,v2.2.2.1⟩:bD),v2.2.2.2⟩:aZ)).ok _ hv3) rfl rfl ?_
     refine za2 (za5 hG ?_)
     refine zx8 ?_
     exact zP0 [(0,0),(3,5),(4,6)] h
   refine zam4 (zdB8 a0 v1 j1) hK [(0,0),(3,6),(4,4),(5,5)] h (fun x_l1 h g1 y_l1 h_l1 hx_l1=>?_)
   unfold zF0 at h_l1
   refine g_st ?_
   refine za2 (za2 (za5 hG ?_))
   refine zp0 rfl hG h_l1 (fun _ h_l1=>?_) (fun _ h_l1=>?_)
   · refine zo3 ?_
     refine za2 (zK9 (za2 ?_))
     obtain ⟨hb4,h_l1⟩:=zg0 h_l1
     refine zbr4 zN6 hG ?_
     obtain ⟨v4,hv4,h_l1⟩:=zc2 h_l1
     obtain ⟨hb3,h_l1⟩:=zg0 h_l1
     refine zax9 (fun hg=>(zbp1 g1.2.c.aF ((v1.2.1.getD g1.1.toNat aM.zero).name)).ok _ hv4) ?_
     obtain ⟨v5,hv5,h_l1⟩:=zc2 h_l1
     obtain ⟨hb2,h_l1⟩:=zg0 h_l1
     refine zax9 (fun hg=>(zaS9 (g1.2.c.aF.getD v4.toNat aB.zero) ((j1.c.aD.getD a0.toNat aG.zero).aP)).ok _ hv5) ?_
     refine zp0 rfl hG h_l1 (fun _ h_l1=>?_) (fun _ h_l1=>?_)
     · refine za2 ?_
       obtain ⟨hb1,h_l1⟩:=zg0 h_l1
       refine zbr4 zN6 hG ?_
       obtain ⟨v6,hv6,h_l1⟩:=zc2 h_l1
       refine zax9 (fun hg=>zbi2 _ _ _ _ hv6) ?_
       refine za5 hG ?_
       obtain ⟨v7,hv7,h_l1⟩:=zc2 h_l1
       refine zs1 [(0,0),(1,4),(2,5)] [(3,6)] [0,1,2,3] ((zbe8 v6.1 v6.2.1 g1.2).ok _ hv7) rfl rfl ?_
       refine za5 hG ?_
       exact zX7 hK [(0,0),(3,3),(4,4),(5,6)] h_l1
     refine zo3 ?_
     refine za5 hG ?_
     exact zX7 hK [(0,0),(3,3),(4,4),(5,5)] h_l1
   refine zR8 ?_
   cases h_l1
   cases hx_l1 _ rfl
   exact zG8 hK [(0,0),(3,4),(4,5)] g1.2 (by exact h)
 · refine za5 hG ?_
   obtain ⟨v8,hv8,h⟩:=zc2 h
   refine zs1 [(0,0),(1,1),(2,2)] [(3,4),(4,5)] [0,1,2,3,4] ((zaP7 a0 a2).ok _ hv8) rfl rfl ?_
   exact zG8 hK [(0,0),(3,3),(4,4),(5,5)] v8 (by exact h)
 refine zo3 ?_
 exact zG8 hK [(0,0),(3,3),(4,1),(5,2)] a2 (by exact h)
instance zbZ5 (a0 a1:Int) (a2:aZ):OkM (zB5 a0 a1 a2) 213 [.ptr 0 0 0,.int .i64 a0,.int .i64 a1] [(0,⟨false,4,aZ.enc aZ.zero,[[.int .i64 a2.c.now,la a2.c.aF,.own 1 0 a2.c.aD.length,.own 2 0 a2.ev.length]]⟩),(1,sx a2.c.aD),(2,sx a2.ev)] 3 (fun r=>.int .i64 r.1) (fun r=>[(0,⟨false,4,aZ.enc aZ.zero,[[.int .i64 r.2.c.now,la r.2.c.aF,.own 3 0 r.2.c.aD.length,.own 4 0 r.2.ev.length]]⟩),(3,sx r.2.c.aD),(4,sx r.2.ev)]) 5:=⟨zaP8 a0 a1 a2⟩
attribute [local irreducible] zB5
def zH1 (a0:Int) (a1:aZ):Option aZ :=
 gd (0≤a0∧a0 < ((a1.c.aD.length:Nat):Int)) <|
 (zS3 a1.c.aF ((a1.c.aD.getD a0.toNat aG.zero).aP)).bind fun v1 =>
 (zc8 v1.1 v1.2 a1).bind fun v2 =>
 gd (0≤0∧0≤a0∧a0≤((v2.2.2.1.length:Nat):Int)∧a0=a0) <|
 gd (0≤i64.wrap (a0+1)∧i64.wrap (a0+1)≤((v2.2.2.1.length:Nat):Int)∧((v2.2.2.1.length:Nat):Int)≤((v2.2.2.1.length:Nat):Int)) <|
 gd (a0.toNat+((v2.2.2.1.drop ((i64.wrap (a0+1)).toNat)).take (v2.2.2.1.length - (i64.wrap (a0+1)).toNat)).length≤4294967296∧a0.toNat≤v2.2.2.1.length) <|
 (zd5 5 ((a1.c.aD.getD a0.toNat aG.zero).aP) (⟨(⟨v2.1,v2.2.1,(v2.2.2.1.take a0.toNat++(v2.2.2.1.drop ((i64.wrap (a0+1)).toNat)).take (v2.2.2.1.length - (i64.wrap (a0+1)).toNat))⟩:bD),v2.2.2.2⟩:aZ)).bind fun v3 =>
 (zm3 (⟨(⟨v3.1,v3.2.1,v3.2.2.1⟩:bD),v3.2.2.2⟩:aZ)).bind fun v4 =>
 some v4
instance zcp8 (a0:Int) (a1:aZ):OkM (zH1 a0 a1) 214 [.ptr 0 0 0,.int .i64 a0] [(0,⟨false,4,aZ.enc aZ.zero,[[.int .i64 a1.c.now,la a1.c.aF,.own 1 0 a1.c.aD.length,.own 2 0 a1.ev.length]]⟩),(1,sx a1.c.aD),(2,sx a1.ev)] 3 (fun r=>.tup []) (fun r=>[(0,⟨false,4,aZ.enc aZ.zero,[[.int .i64 r.c.now,la r.c.aF,.own 3 0 r.c.aD.length,.own 4 0 r.ev.length]]⟩),(3,sx r.c.aD),(4,sx r.ev)]) 5:=okm (zH1.eq_1 a0 a1) (fun r=>[]) Tryz.f214 [(42,1)]
attribute [local irreducible] zH1
def zM2 (a0:bQ) (a1:aZ):Option (Int×aZ) :=
 (if (decide (a0.kind < 1)||decide (9 < a0.kind))=true then
  some (1,a1)
 else
  (if (decide (a0.kind=1))=true then
   (zh1 a0.aP a0.n a1).bind fun v1 =>
   some (v1.1,v1.2)
  else
   (if (decide (a0.kind=9))=true then
    (zH0 a0.n a1).bind fun v2 =>
    some (v2.1,v2.2)
   else
    (zj0 a1.c.aD a0.aP).bind fun v3 =>
    (if (decide (v3 < 0))=true then
     some (10,a1)
    else
     gd (0≤v3∧v3 < ((a1.c.aD.length:Nat):Int)) <|
     (if (decide (a0.kind=2))=true then
      (zC1 v3 a0.bJ a1).bind fun v4 =>
      some (v4.1,v4.2)
     else
      (if (decide (a0.kind=3))=true then
       (if (!(a1.c.aD.getD v3.toNat aG.zero).bI)=true then
        some (14,a1)
       else
        (zu5 v3 a1).bind fun v5 =>
        (zd3 v3 v5).bind fun v6 =>
        (zm3 (⟨(⟨v6.1,v6.2.1,v6.2.2.1⟩:bD),v6.2.2.2⟩:aZ)).bind fun v7 =>
        some (0,v7))
      else
       (if (decide (a0.kind=4))=true then
        (zG3 v3 a0.name a1).bind fun v8 =>
        some (v8.1,v8.2)
       else
        (if (decide (a0.kind=5))=true then
         (if (a1.c.aD.getD v3.toNat aG.zero).bI=true then
          some (14,a1)
         else
          gd (0≤v3∧v3 < ((a1.c.aD.length:Nat):Int)) <|
          (zz1 ((a1.c.aD.getD v3.toNat aG.zero).bK) a0.n).bind fun v9 =>
          (if (!decide (v9.2=0))=true then
           some (v9.2,a1)
          else
           gd (0≤v3∧v3 < ((a1.c.aD.length:Nat):Int)) <|
           (zd3 v3 (⟨(⟨a1.c.now,a1.c.aF,a1.c.aD.set v3.toNat ({ (a1.c.aD.getD v3.toNat aG.zero) with bK:=v9.1 })⟩:bD),a1.ev⟩:aZ)).bind fun v10 =>
           some (0,(⟨(⟨v10.1,v10.2.1,v10.2.2.1⟩:bD),v10.2.2.2⟩:aZ))))
        else
         (if (decide (a0.kind=6))=true then
          (zB5 v3 a0.n a1).bind fun v11 =>
          some (v11.1,v11.2)
         else
          (if (decide (a0.kind=8))=true then
           (if (a1.c.aD.getD v3.toNat aG.zero).bI=true then
            some (14,a1)
           else
            (zH1 v3 a1).bind fun v12 =>
            some (0,v12))
          else
           (if (decide (a0.kind=7))=true then
            (zH1 v3 a1).bind fun v13 =>
            some (0,v13)
           else
            some (0,a1))))))))))))
instance zcA5 (a0:bQ) (a1:aZ):OkM (zM2 a0 a1) 165 [.ptr 0 0 0,ga a0] [(0,⟨false,4,aZ.enc aZ.zero,[[.int .i64 a1.c.now,la a1.c.aF,.own 1 0 a1.c.aD.length,.own 2 0 a1.ev.length]]⟩),(1,sx a1.c.aD),(2,sx a1.ev)] 3 (fun r=>.int .i64 r.1) (fun r=>[(0,⟨false,4,aZ.enc aZ.zero,[[.int .i64 r.2.c.now,la r.2.c.aF,.own 3 0 r.2.c.aD.length,.own 4 0 r.2.ev.length]]⟩),(3,sx r.2.c.aD),(4,sx r.2.ev)]) 5:=okm (zM2.eq_1 a0 a1) (fun r=>[.int .i64 r.1]) Tryz.f165 []
attribute [local irreducible] zM2
def zav1 (a0:bD) (a1:bQ):Option (bD×(List bL)×Int) :=
 (zR3 a0).bind fun v1 =>
 (if (!v1)=true then
  some ({ bD.zero with  },[],2)
 else
  (zk2 a0).bind fun v2 =>
  (zM2 a1 (⟨(⟨v2.now,v2.aF,v2.aD⟩:bD),[]⟩:aZ)).bind fun v3 =>
  (if (!decide (v3.1=0))=true then
   some ({ bD.zero with  },[],v3.1)
  else
   some (v3.2.c,v3.2.ev,0)))
instance zdw4 (a0:bD) (a1:bQ):OkP (zav1 a0 a1) 121 [ga a0,ga a1] (fun r=>.tup [ga r.1,la r.2.1,.int .i64 r.2.2]):=⟨fun r h=>by
 refine zak7 Tryz.f121 [(15,14)] fun E hG hN hK=>?_
 have hm:Mk (zav1 a0 a1):=trivial
 unfold zav1 at h
 refine za2 (za5 hG ?_)
 refine za2 (za2 (za5 hG ?_))
 obtain ⟨v1,hv1,h⟩:=zc2 h
 have hm:=mkP hm v1
 refine zw4 (fun hg=>(zbi1 a0).ok _ hv1) ?_
 refine zp0 rfl hG h (fun _ h=>?_) (fun _ h=>?_)
 · exact gogo
 refine zo3 ?_
 refine za2 (za5 hG ?_)
 obtain ⟨v2,hv2,h⟩:=zc2 h
 have hm:=mkP hm v2
 refine zs1 [] [(0,3),(1,4)] [0,1] (zbB1 _ _ hv2) rfl rfl ?_
 refine g_gh (.fz [3]) ?_
 refine g_gh (.ownb 5 3 7 (bL.enc bL.zero)) ?_
 exact gogo⟩
attribute [local irreducible] zav1
def zbp3 (j1:bD):Option bD :=
 some j1
def zaE7 (a1:List bQ) (g1:Int×bD):Option ((Int×bD)⊕bD) :=
 (if (decide (g1.1 < (a1.length:Int)))=true then
  gd (0≤g1.1∧g1.1 < (a1.length:Int)) <|
  (zav1 g1.2 (a1.getD g1.1.toNat bQ.zero)).bind fun v1 =>
  (if (decide (v1.2.2=0))=true then
   some (.inl ((i64.wrap (g1.1+1)),v1.1))
  else
   some (.inl ((i64.wrap (g1.1+1)),g1.2)))
 else
  some (.inr g1.2))
def zav2 (a0:bD) (a1:List bQ):Option bD :=
 (zc0 (zaE7 a1) (0,a0)).bind (fun z=>zbp3 z)
@[reducible,instance] def zek3 a0 a1:=mkJ (zav2 a0 a1) 0 (@zbp3.eq_1) fun (j1:bD)=>⟨[(2,.ptr 0 0 0),(4,.ptr 1 0 0)],[(0,bx j1),(1,bx bD.zero)],2⟩
@[reducible,instance] def zek4 (a1:List bQ) {T:Type} (x:T):=mkL x (@zaE7.eq_1 a1) fun (g1:Int×bD)=>⟨[(1,la a1),(2,.ptr 0 0 0),(4,.ptr 1 0 0),(5,.int .i64 g1.1)],[(0,bx g1.2),(1,bx bD.zero)],2⟩
instance zdw5 (a0:bD) (a1:List bQ):OkP (zav2 a0 a1) 74 [ga a0,la a1] (fun r=>ga r):=ok1 (zav2.eq_1 a0 a1) Tryz.f74 []
attribute [local irreducible] zav2
def zah2 (a0:List Int):Option bD :=
 (zR0 a0).bind fun v1 =>
 (zan2 v1.1).bind fun v2 =>
 (zav2 v2.1 v1.2).bind fun v3 =>
 some v3
instance zcZ1 (a0:List Int):OkP (zah2 a0) 28 [.sl (a0.map (eI .i64))] (fun r=>ga r):=ok1 (zah2.eq_1 a0) Tryz.f28 []
attribute [local irreducible] zah2
def zbp4 (j1:aL):Option aL :=
 some j1
def zaE8 (a0:bD) (g1:Int×aL):Option ((Int×aL)⊕aL) :=
 (if (decide (g1.1 < (a0.aD.length:Int)))=true then
  gd (0≤g1.1∧g1.1 < (a0.aD.length:Int)) <|
  (if (a0.aD.getD g1.1.toNat aG.zero).bI=true then
   gd (0≤g1.1∧g1.1 < (a0.aD.length:Int)) <|
   gd (0≤g1.1∧g1.1 < (a0.aD.length:Int)) <|
   gd (0≤g1.1∧g1.1 < (a0.aD.length:Int)) <|
   gd (g1.2.bB.length+1≤4294967296) <|
   some (.inl ((i64.wrap (g1.1+1)),(⟨g1.2.aF,(g1.2.bB++[(⟨(a0.aD.getD g1.1.toNat aG.zero).aP,((a0.aD.getD g1.1.toNat aG.zero).bJ).bS,(a0.aD.getD g1.1.toNat aG.zero).gen⟩:bN)])⟩:aL)))
  else
   some (.inl ((i64.wrap (g1.1+1)),g1.2)))
 else
  some (.inr g1.2))
def zan5 (a0:bD):Option aL :=
 (zR3 a0).bind fun v1 =>
 (if (!v1)=true then
  some ({ aL.zero with  })
 else
  gd (a0.aF.length≤4294967296) <|
  (zc0 (zaE8 a0) (0,(⟨a0.aF,[]⟩:aL))).bind (fun z=>zbp4 z))
@[reducible,instance] def zek5 (a0:bD) {T1:Type} (v1:T1):=mkJ (zan5 a0,v1) 0 (@zbp4.eq_1) fun (j1:aL)=>⟨[(2,.ptr 0 0 0),(3,.ptr 1 0 0)],[(0,bx aL.zero),(1,⟨false,2,aL.enc aL.zero,[[.own 2 0 j1.aF.length,.own 3 0 j1.bB.length]]⟩),(2,sx j1.aF),(3,sx j1.bB)],4⟩
@[reducible,instance] def zek6 (a0:bD) {T:Type} (x:T):=mkL x (@zaE8.eq_1 a0) fun (g1:Int×aL)=>⟨[(1,.ptr 0 0 0),(2,.ptr 1 0 0),(3,.ptr 2 0 0),(4,.int .i64 g1.1)],[(0,bx a0),(1,bx aL.zero),(2,⟨false,2,aL.enc aL.zero,[[.own 3 0 g1.2.aF.length,.own 4 0 g1.2.bB.length]]⟩),(3,sx g1.2.aF),(4,sx g1.2.bB)],5⟩
instance zdw6 (a0:bD):OkP (zan5 a0) 27 [ga a0] (fun r=>ga r):=⟨fun r h=>by
 refine zak7 Tryz.f27 [(9,1),(13,4),(3,4)] fun E hG hN hK=>?_
 have hm:Mk (zan5 a0):=trivial
 unfold zan5 at h
 refine za2 (za5 hG ?_)
 refine za2 (za2 (za5 hG ?_))
 obtain ⟨v1,hv1,h⟩:=zc2 h
 have hm:=mkP hm v1
 refine zw4 (fun hg=>(zbi1 a0).ok _ hv1) ?_
 refine zp0 rfl hG h (fun _ h=>?_) (fun _ h=>?_)
 · exact gogo
 refine zo3 ?_
 refine za2 ?_
 obtain ⟨hb6,h⟩:=zg0 h
 refine za5 hG ?_
 refine g_gh (.ownb 4 1 9 (bN.enc bN.zero)) ?_
 exact gogo⟩
attribute [local irreducible] zan5
def zaq8 (a0:List Int):Option aL :=
 (zah2 a0).bind fun v1 =>
 (zan5 v1).bind fun v2 =>
 some v2
instance zdp5 (a0:List Int):OkP (zaq8 a0) 8 [.sl (a0.map (eI .i64))] (fun r=>ga r):=ok1 (zaq8.eq_1 a0) Tryz.f8 []
attribute [local irreducible] zaq8
def zF1 (j1:(List Int)):Option Bool :=
 (zq7 j1).bind fun v5 =>
 (zC8 j1).bind fun v6 =>
 (zW3).bind fun v7 =>
 ((if (!((!v7)||(!decide (v5.2=v6.2))))=true then zv5 v5.1 v6.1 else some false)).bind fun v8 =>
 (if (((!v7)||(!decide (v5.2=v6.2)))||(!v8))=true then
  some false
 else
  (zx5 v5.1).bind fun v9 =>
  some ((!decide (v5.2=0))||(decide (v9.2=0)&&zas4 j1 v9.1)))
def zB6 (a0:List Int) (a1 a2 a3:Int) (a4:List Int):Option Bool :=
 (if ((!(zay3 a0))||decide (20 < (a4.length:Int)))=true then
  (zW3).bind fun v1 =>
  some v1
 else
  (zaq8 a0).bind fun v2 =>
  (zS4 v2).bind fun v3 =>
  (if ((!decide (v3.2=0))||decide ((v3.1.length:Int)=0))=true then
   some false
  else
   (zn7 a1 (i64.wrap ((v3.1.length:Int)+1))).bind fun v4 =>
   gd (0≤0∧0≤v4∧v4≤(v3.1.length:Int)) <|
   gd ((v3.1.take v4.toNat).length≤4294967296) <|
   gd ((v3.1.take v4.toNat).length+a4.length≤4294967296) <|
   (if (decide (0 < (((v3.1.take v4.toNat).length+a4.length:Nat):Int)))=true then
    (zn7 a2 (((v3.1.take v4.toNat).length+a4.length:Nat):Int)).bind fun v10 =>
    gd (0≤v10∧v10 < (((v3.1.take v4.toNat).length+a4.length:Nat):Int)) <|
    gd (0≤v10∧v10 < (((v3.1.take v4.toNat).length+a4.length:Nat):Int)) <|
    zF1 ((v3.1.take v4.toNat++a4).set v10.toNat (zA9 .xor .u8 ((v3.1.take v4.toNat++a4).getD v10.toNat 0) a3))
   else
    zF1 (v3.1.take v4.toNat++a4))))
@[reducible,instance] def zek7 a0 a1 a2 a3 a4 {T1:Type} (v2:T1) {T2:Type} (v3:T2) {T3:Type} (v4:T3):=mkJ (((zB6 a0 a1 a2 a3 a4,v2),v3),v4) 999 (@zF1.eq_1) fun (j1:(List Int))=>⟨[(11,.own 0 0 j1.length)],[(0,⟨false,1,[A.int .u8 0],j1.map (eI .u8)⟩)],1⟩
instance zaT0 (a0:List Int) (a1 a2 a3:Int) (a4:List Int):OkP (zB6 a0 a1 a2 a3 a4) 4 [.sl (a0.map (eI .i64)),.int .i64 a1,.int .i64 a2,.int .u8 a3,.sl (a4.map (eI .u8))] (fun r=>.bool r):=ok1 (zB6.eq_1 a0 a1 a2 a3 a4) Tryz.f4 [(42,1)]
attribute [local irreducible] zB6
end
end Ab
end Go.Proofs.YtcggeefhhegeoaaGreatDoor
