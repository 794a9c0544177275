import Derived.Test.YtfkjffmjkbkmhaaGreatDoorHm24
import Derived.Test.YtfkjffmjkbkmhaaGreatDoorHm28
namespace Go.Proofs.YtfkjffmjkbkmhaaGreatDoor
namespace Ab
open IntKind (i64 u64 u8)
set_option linter.unusedSimpArgs false
set_option linter.defProp false
set_option linter.unusedVariables false
set_option maxRecDepth 100000
set_option maxHeartbeats 1000000
noncomputable section
attribute [local irreducible] zl7 zl8 zb2 za3 zd9 za8 zm2 zj6 zg1 zg2 zf8 zb1 zf5 zg6 zj1 ze3 za9 zj4 zi1 zh6 zg4 zf2 zc4 zi7 zb0 zf0 zl9 zh2 zm6 zh3 zi2 zk8 zn7 zm0 f_ref08_holds zc3 zk9 ze0 zm3 zf7 zh4 zf6 zb3 zl0 za0 ze7 zi5 ze8 zj3 zd7 zg5 zb4 zb5 zf1 zh7 zm8 zd3 zh9 zn6 zk3 zc9 zq5 za1 zi6 zg3 zd8 zn8 zc0 zd5 zf3 zp8 zo8 ze4 zk2 zb7 zh8 zd6 zp2 zd0 zb8 zs6 zj0 zn9 zj2 zp3 zl1 zh1 zq0 zl5 zu2 zg8 zb6 ze6 zk4 zi9 zf9 zj5 zp4 zg9 zi3 ze5 ze2 zq7 zt2 zi4 zl2 zs8 zt1 zs9 zm1 zt7 zs2 zf4 zr3 zt8 zp5 zd4 zq8 zo0 zh5 zd2 zi8 za7 zu3 zc8 za6 zj9 zr0 zo6 zl6 zt9 zv1 zx1 zq6 zn5 zv8 zy2 zG9 zo7 zr1 zc1 zx5 zx6 zs3 zr2 zw3 zy6 zA0 zr7 zD1 zM3 zj8 zL0 zD2 zI5 zz3 zN5 zH1 zM4 zF3 zP6 zB5 zI6 zD3 zR7 zD4 zC5 zR8 zE1 zD5 zv9 zA7 zE2 zF9 zI7 zy9 zT4 zT5 zX2 zG0 zp6 zG1 zX3 zT6 zN6 zT7 zP7 zX4 zG2 zu5 zt6 zL5 zE7 zI2 zA8 zs4 zw1 zM5 zM6 zai0
def zX5:Option Bool :=
 (zo8 0).bind fun v1 =>
 (zL5 (⟨[],[(⟨v1,{ aP.zero with bF:=(⟨(⟨#[97]⟩:ByteArray),{ aD.zero with mode:=5 }⟩:aM) },3⟩:bI)]⟩:aL)).bind fun v2 =>
 (zE7 v2.1).bind fun v3 =>
 (zF3 v3.1 v1).bind fun v4 =>
 (zI2 v3.1 v1).bind fun v5 =>
 ((if ((decide (v2.2=0)&&decide (v3.2=0))&&v4.2)=true then zL0 (⟨[],[(⟨v1,{ aP.zero with bF:=(⟨(⟨#[97]⟩:ByteArray),{ aD.zero with mode:=5 }⟩:aM) },3⟩:bI)]⟩:aL) v3.1 else some false)).bind fun v6 =>
 ((if (((decide (v2.2=0)&&decide (v3.2=0))&&v4.2)&&v6)=true then zt6 v3.1 else some false)).bind fun v7 =>
 gd ((((((decide (v2.2=0)&&decide (v3.2=0))&&v4.2)&&v6)&&v7)&&decide ((v5.length:Int)=1))=true→0≤0∧0 < (v5.length:Int)) <|
 ((if ((((((decide (v2.2=0)&&decide (v3.2=0))&&v4.2)&&v6)&&v7)&&decide ((v5.length:Int)=1))&&v5.getD 0 false)=true then zu5 v3.1 else some [])).bind fun v8 =>
 some (((((((decide (v2.2=0)&&decide (v3.2=0))&&v4.2)&&v6)&&v7)&&decide ((v5.length:Int)=1))&&v5.getD 0 false)&&decide ((v8.length:Int)=1))
instance zcZ5 :OkP zX5 5 [] (fun r=>.bool r):=⟨fun r h=>by
 refine zY9 Tryz.f5 [(17,2)] fun E hG hN hK=>?_
 have hm:Mk zX5:=trivial
 unfold zX5 at h
 refine za2 (za5 hG ?_)
 refine za2 (za5 hG ?_)
 obtain ⟨v1,hv1,h⟩:=zc7 h
 have hm:=mkP hm v1
 refine zr9 (fun hg=>(zcd6 0).ok _ hv1) ?_
 refine za2 (za5 hG ?_)
 refine za2 (za5 hG ?_)
 obtain ⟨v2,hv2,h⟩:=zc7 h
 have hm:=mkP hm v2
 have hc_v2:=(zbj1 (⟨[],[(⟨v1,{ aP.zero with bF:=(⟨(⟨#[97]⟩:ByteArray),{ aD.zero with mode:=5 }⟩:aM) },3⟩:bI)]⟩:aL)).ok _ hv2
 have el_v2:∀ x:aL,aL.enc x=[A.sl (x.aC.map aA.enc),A.sl (x.aU.map bI.enc)]:=fun x=>rfl
 try dsimp only [ga,la,En.e] at hc_v2
 rw [el_v2] at hc_v2
 dsimp only at hc_v2
 refine zr9 (fun hg=>PFn.unfullA hc_v2) ?_
 refine za2 (za5 hG ?_)
 obtain ⟨v3,hv3,h⟩:=zc7 h
 have hm:=mkP hm v3
 refine zr9 (fun hg=>(zbj2 v2.1).ok _ hv3) ?_
 refine za2 (za5 hG ?_)
 obtain ⟨v4,hv4,h⟩:=zc7 h
 have hm:=mkP hm v4
 refine zr9 (fun hg=>(zbs3 v3.1 v1).ok _ hv4) ?_
 refine za2 (za5 hG ?_)
 obtain ⟨v5,hv5,h⟩:=zc7 h
 have hm:=mkP hm v5
 refine zr9 (fun hg=>(zbe1 v3.1 v1).ok _ hv5) ?_
 refine za2 (za5 hG ?_)
 obtain ⟨v6,hv6,h⟩:=zc7 h
 have hm:=mkP hm v6
 refine zr9 (fun hg=>PFn.unfullA ((zbs2 (⟨[],[(⟨v1,{ aP.zero with bF:=(⟨(⟨#[97]⟩:ByteArray),{ aD.zero with mode:=5 }⟩:aM) },3⟩:bI)]⟩:aL) v3.1).ok _ (zaN2 hg hv6))) ?_
 exact gogo⟩
attribute [local irreducible] zX5
def zH3 (a0:aG) (a1:ByteArray) (v1:Int) (j1:aX):Option aX :=
 (zi5 a0.bB.aH a1).bind fun v3 =>
 gd (0≤v1∧v1 < (j1.c.aC.length:Int)) <|
 (zi6 (j1.c.aC.getD v1.toNat aA.zero) a0.aJ).bind fun v4 =>
 (if (!decide (v4=v3))=true then
  (zG0 j1.c.aC a0.aJ (⟨a1,v3⟩:aM)).bind fun v5 =>
  (zc4 v5.1 v5.2.1 j1).bind fun v6 =>
  some (⟨(⟨v6.1,v6.2.1,v6.2.2.1⟩:bA),v6.2.2.2⟩:aX)
 else
  some j1)
def zv2 (a0:aG) (a1:ByteArray) (a2:aX):Option aX :=
 (zh6 a2.c.aC a1).bind fun v1 =>
 gd (0≤v1∧v1 < (a2.c.aC.length:Int)) <|
 (zh7 (a2.c.aC.getD v1.toNat aA.zero) a0.aJ).bind fun v2 =>
 (if v2.2=true then
  (zT5 a2.c.aC a0.aJ a1).bind fun v7 =>
  (zc4 v7.1 v7.2.1 a2).bind fun v8 =>
  zH3 a0 a1 v1 (⟨(⟨v8.1,v8.2.1,v8.2.2.1⟩:bA),v8.2.2.2⟩:aX)
 else
  zH3 a0 a1 v1 a2)
@[reducible,instance] def zdX7 (a0:aG) (a1:ByteArray) a2 (v1:Int) {T1:Type} (v2:T1):=mkJ ((zv2 a0 a1 a2,v1),v2) 999 (@zH3.eq_1 a0 a1 v1) fun (j1:aX)=>⟨[(0,.ptr 0 0 0),(2,.str a1),(4,.ptr 3 0 0),(6,.int .i64 v1)],[(0,⟨false,4,aX.enc aX.zero,[[.int .i64 j1.c.now,la j1.c.aC,.own 4 0 j1.c.aF.length,.own 5 0 j1.ev.length]]⟩),(3,bx a0),(4,sx j1.c.aF),(5,sx j1.ev)],6⟩
instance zci3 (a0:aG) (a1:ByteArray) (a2:aX):OkM (zv2 a0 a1 a2) 247 [.ptr 0 0 0,ga a0,.str a1] [(0,⟨false,4,aX.enc aX.zero,[[.int .i64 a2.c.now,la a2.c.aC,.own 1 0 a2.c.aF.length,.own 2 0 a2.ev.length]]⟩),(1,sx a2.c.aF),(2,sx a2.ev)] 3 (fun r=>.tup []) (fun r=>[(0,⟨false,4,aX.enc aX.zero,[[.int .i64 r.c.now,la r.c.aC,.own 3 0 r.c.aF.length,.own 4 0 r.ev.length]]⟩),(3,sx r.c.aF),(4,sx r.ev)]) 5:=okm (zv2.eq_1 a0 a1 a2) (fun r=>[]) Tryz.f247 []
attribute [local irreducible] zv2
def zT9 (a0:Int) (j1:aX):Option aX :=
 (ze0 a0 j1).bind fun v2 =>
 some (⟨(⟨v2.1,v2.2.1,v2.2.2.1⟩:bA),v2.2.2.2⟩:aX)
def zH4 (a0:Int) (a1:aX) (v1:(List aM)) (g1:Int×aX):Option ((Int×aX)⊕aX) :=
 (if (decide (g1.1 < (v1.length:Int)))=true then
  gd (0≤g1.1∧g1.1 < (v1.length:Int)) <|
  (zv2 (a1.c.aF.getD a0.toNat aG.zero) ((v1.getD g1.1.toNat aM.zero).name) g1.2).bind fun v3 =>
  some (.inl ((i64.wrap (g1.1+1)),v3))
 else
  some (.inr g1.2))
def zr5 (a0:Int) (a1:aX):Option aX :=
 gd (0≤a0∧a0 < ((a1.c.aF.length:Nat):Int)) <|
 (zD5 (((a1.c.aF.getD a0.toNat aG.zero).aZ).bP)).bind fun v1 =>
 (zb9 (zH4 a0 a1 v1) (0,a1)).bind (fun z=>zT9 a0 z)
@[reducible,instance] def zdX8 (a0:Int) a1 {T1:Type} (v1:T1):=mkJ (zr5 a0 a1,v1) 0 (@zT9.eq_1 a0) fun (j1:aX)=>⟨[(0,.ptr 0 0 0),(1,.int .i64 a0)],[(0,⟨false,4,aX.enc aX.zero,[[.int .i64 j1.c.now,la j1.c.aC,.own 3 0 j1.c.aF.length,.own 4 0 j1.ev.length]]⟩),(3,sx j1.c.aF),(4,sx j1.ev)],5⟩
@[reducible,instance] def zdX9 (a0:Int) (a1:aX) (v1:(List aM)) {T:Type} (x:T):=mkL x (@zH4.eq_1 a0 a1 v1) fun (g1:Int×aX)=>⟨[(0,.ptr 0 0 0),(1,.int .i64 a0),(4,.ptr 3 0 0),(5,la v1),(6,.int .i64 g1.1)],[(0,⟨false,4,aX.enc aX.zero,[[.int .i64 g1.2.c.now,la g1.2.c.aC,.own 4 0 g1.2.c.aF.length,.own 5 0 g1.2.ev.length]]⟩),(3,bx (a1.c.aF.getD a0.toNat aG.zero)),(4,sx g1.2.c.aF),(5,sx g1.2.ev)],6⟩
instance zaM1 (a0:Int) (a1:aX):OkM (zr5 a0 a1) 206 [.ptr 0 0 0,.int .i64 a0] [(0,⟨false,4,aX.enc aX.zero,[[.int .i64 a1.c.now,la a1.c.aC,.own 1 0 a1.c.aF.length,.own 2 0 a1.ev.length]]⟩),(1,sx a1.c.aF),(2,sx a1.ev)] 3 (fun r=>.tup []) (fun r=>[(0,⟨false,4,aX.enc aX.zero,[[.int .i64 r.c.now,la r.c.aC,.own 3 0 r.c.aF.length,.own 4 0 r.ev.length]]⟩),(3,sx r.c.aF),(4,sx r.ev)]) 5:=okm (zr5.eq_1 a0 a1) (fun r=>[]) Tryz.f206 []
attribute [local irreducible] zr5
def zan6 (j1:aX):Option aX :=
 some j1
def zX6 (g1:Int×aX) (j2:aX):Option ((Int×aX)⊕aX) :=
 (ze0 g1.1 j2).bind fun v6 =>
 (zd3 g1.1 (⟨(⟨v6.1,v6.2.1,v6.2.2.1⟩:bA),v6.2.2.2⟩:aX)).bind fun v7 =>
 (zp6 (⟨(⟨v7.1,v7.2.1,v7.2.2.1⟩:bA),v7.2.2.2⟩:aX)).bind fun v8 =>
 some (.inl (v8.1,(⟨(⟨v8.2.1,v8.2.2.1,v8.2.2.2.1⟩:bA),v8.2.2.2.2⟩:aX)))
def zD6 (g1:Int×aX) (v4:(List Bool)) (v5:(List aM)) (g2:Int×aX):Option ((Int×aX)⊕aX) :=
 (if (decide (g2.1 < (v5.length:Int)))=true then
  gd (0≤g2.1∧g2.1 < (v5.length:Int)) <|
  gd (0≤g2.1∧g2.1 < (v4.length:Int)) <|
  (if (!(v4.getD g2.1.toNat false))=true then
   (zv2 (g1.2.c.aF.getD g1.1.toNat aG.zero) ((v5.getD g2.1.toNat aM.zero).name) g2.2).bind fun v9 =>
   some (.inl ((i64.wrap (g2.1+1)),v9))
  else
   (zh6 g2.2.c.aC ((v5.getD g2.1.toNat aM.zero).name)).bind fun v10 =>
   gd (0≤v10∧v10 < (g2.2.c.aC.length:Int)) <|
   (zi6 (g2.2.c.aC.getD v10.toNat aA.zero) ((g1.2.c.aF.getD g1.1.toNat aG.zero).aJ)).bind fun v11 =>
   gd (0≤g1.1∧g1.1 < ((g2.2.c.aF.length:Nat):Int)) <|
   (zi5 (((g2.2.c.aF.getD g1.1.toNat aG.zero).bB).aH) ((v5.getD g2.1.toNat aM.zero).name)).bind fun v12 =>
   (if (!decide (v11=v12))=true then
    gd (0≤g1.1∧g1.1 < ((g2.2.c.aF.length:Nat):Int)) <|
    (zx5 ((g2.2.c.aF.getD g1.1.toNat aG.zero).bB) (⟨(v5.getD g2.1.toNat aM.zero).name,v12,v11⟩:bG)).bind fun v13 =>
    gd (0≤g1.1∧g1.1 < ((g2.2.c.aF.length:Nat):Int)) <|
    some (.inl ((i64.wrap (g2.1+1)),(⟨(⟨g2.2.c.now,g2.2.c.aC,g2.2.c.aF.set g1.1.toNat ({ (g2.2.c.aF.getD g1.1.toNat aG.zero) with bB:=v13.1 })⟩:bA),g2.2.ev⟩:aX)))
   else
    some (.inl ((i64.wrap (g2.1+1)),g2.2))))
 else
  some (.inr g2.2))
def zz4 (g1:Int×aX):Option ((Int×aX)⊕aX) :=
 (if (decide (0≤g1.1))=true then
  gd (0≤g1.1∧g1.1 < ((g1.2.c.aF.length:Nat):Int)) <|
  (zd7 2 ((g1.2.c.aF.getD g1.1.toNat aG.zero).aJ) g1.2).bind fun v2 =>
  (zv9 v2.2.1 ((g1.2.c.aF.getD g1.1.toNat aG.zero).aJ) (((g1.2.c.aF.getD g1.1.toNat aG.zero).aZ).bP)).bind fun v3 =>
  (zM5 (((g1.2.c.aF.getD g1.1.toNat aG.zero).aZ).bP) v3).bind fun v4 =>
  (zD5 (((g1.2.c.aF.getD g1.1.toNat aG.zero).aZ).bP)).bind fun v5 =>
  (zb9 (zD6 g1 v4 v5) (0,(⟨(⟨v2.1,v2.2.1,v2.2.2.1⟩:bA),v2.2.2.2⟩:aX))).bind (fun z=>zX6 g1 z)
 else
  some (.inr g1.2))
def zk0 (a0:aX):Option aX :=
 (zp6 a0).bind fun v1 =>
 (zb9 zz4 (v1.1,(⟨(⟨v1.2.1,v1.2.2.1,v1.2.2.2.1⟩:bA),v1.2.2.2.2⟩:aX))).bind (fun z=>zan6 z)
@[reducible,instance] def zdY0 a0 {T1:Type} (v1:T1):=mkJ (zk0 a0,v1) 0 (@zan6.eq_1) fun (j1:aX)=>⟨[],[(0,⟨false,4,aX.enc aX.zero,[[.int .i64 j1.c.now,la j1.c.aC,.own 3 0 j1.c.aF.length,.own 4 0 j1.ev.length]]⟩),(3,sx j1.c.aF),(4,sx j1.ev)],5⟩
@[reducible,instance] def zdY1 (g1:Int×aX) {T1:Type} (v2:T1) {T2:Type} (v3:T2) {T3:Type} (v4:T3) {T4:Type} (v5:T4):=mkJ ((((zz4 g1,v2),v3),v4),v5) 2 (@zX6.eq_1 g1) fun (j2:aX)=>⟨[(0,.ptr 0 0 0),(2,.int .i64 g1.1)],[(0,⟨false,4,aX.enc aX.zero,[[.int .i64 j2.c.now,la j2.c.aC,.own 3 0 j2.c.aF.length,.own 4 0 j2.ev.length]]⟩),(3,sx j2.c.aF),(4,sx j2.ev)],5⟩
@[reducible,instance] def zdY2 (g1:Int×aX) (v4:(List Bool)) (v5:(List aM)) {T:Type} (x:T):=mkL x (@zD6.eq_1 g1 v4 v5) fun (g2:Int×aX)=>⟨[(0,.ptr 0 0 0),(2,.int .i64 g1.1),(3,.ptr 3 0 0),(4,.sl (v4.map eB)),(5,la v5),(6,.int .i64 g2.1)],[(0,⟨false,4,aX.enc aX.zero,[[.int .i64 g2.2.c.now,la g2.2.c.aC,.own 4 0 g2.2.c.aF.length,.own 5 0 g2.2.ev.length]]⟩),(3,bx (g1.2.c.aF.getD g1.1.toNat aG.zero)),(4,sx g2.2.c.aF),(5,sx g2.2.ev)],6⟩
@[reducible,instance] def zdY3 {T:Type} (x:T):=mkL x (@zz4.eq_1) fun (g1:Int×aX)=>⟨[(0,.ptr 0 0 0),(2,.int .i64 g1.1)],[(0,⟨false,4,aX.enc aX.zero,[[.int .i64 g1.2.c.now,la g1.2.c.aC,.own 3 0 g1.2.c.aF.length,.own 4 0 g1.2.ev.length]]⟩),(3,sx g1.2.c.aF),(4,sx g1.2.ev)],5⟩
instance zaS8 (a0:aX):OkM (zk0 a0) 208 [.ptr 0 0 0] [(0,⟨false,4,aX.enc aX.zero,[[.int .i64 a0.c.now,la a0.c.aC,.own 1 0 a0.c.aF.length,.own 2 0 a0.ev.length]]⟩),(1,sx a0.c.aF),(2,sx a0.ev)] 3 (fun r=>.tup []) (fun r=>[(0,⟨false,4,aX.enc aX.zero,[[.int .i64 r.c.now,la r.c.aC,.own 3 0 r.c.aF.length,.own 4 0 r.ev.length]]⟩),(3,sx r.c.aF),(4,sx r.ev)]) 5:=okm (zk0.eq_1 a0) (fun r=>[]) Tryz.f208 []
attribute [local irreducible] zk0
def zav9 (j1:aX):Option (Int×aX) :=
 some (0,j1)
def zR0 (g1:Int×aX):Option ((Int×aX)⊕aX) :=
 (if (decide (0≤g1.1))=true then
  gd (0≤g1.1∧g1.1 < ((g1.2.c.aF.length:Nat):Int)) <|
  (zd7 4 ((g1.2.c.aF.getD g1.1.toNat aG.zero).aJ) g1.2).bind fun v2 =>
  (zr5 g1.1 (⟨(⟨v2.1,v2.2.1,v2.2.2.1⟩:bA),v2.2.2.2⟩:aX)).bind fun v3 =>
  (zd3 g1.1 v3).bind fun v4 =>
  (zk0 (⟨(⟨v4.1,v4.2.1,v4.2.2.1⟩:bA),v4.2.2.2⟩:aX)).bind fun v5 =>
  (zc3 v5).bind fun v6 =>
  some (.inl (v6.1,(⟨(⟨v6.2.1,v6.2.2.1,v6.2.2.2.1⟩:bA),v6.2.2.2.2⟩:aX)))
 else
  some (.inr g1.2))
def zB9 (a0:Int) (a1:aX):Option (Int×aX) :=
 (if (decide (a0 < 0)||decide (1000 < a0))=true then
  some (1,a1)
 else
  (if (decide (i64.wrap (1073741824 - a0) < a1.c.now))=true then
   some (16,a1)
  else
   (zc3 (⟨(⟨(i64.wrap (a1.c.now+a0)),a1.c.aC,a1.c.aF⟩:bA),a1.ev⟩:aX)).bind fun v1 =>
   (zb9 zR0 (v1.1,(⟨(⟨v1.2.1,v1.2.2.1,v1.2.2.2.1⟩:bA),v1.2.2.2.2⟩:aX))).bind (fun z=>zav9 z)))
@[reducible,instance] def zdY4 a0 a1 {T1:Type} (v1:T1):=mkJ (zB9 a0 a1,v1) 0 (@zav9.eq_1) fun (j1:aX)=>⟨[],[(0,⟨false,4,aX.enc aX.zero,[[.int .i64 j1.c.now,la j1.c.aC,.own 3 0 j1.c.aF.length,.own 4 0 j1.ev.length]]⟩),(3,sx j1.c.aF),(4,sx j1.ev)],5⟩
@[reducible,instance] def zdY5 {T:Type} (x:T):=mkL x (@zR0.eq_1) fun (g1:Int×aX)=>⟨[(0,.ptr 0 0 0),(5,.int .i64 g1.1)],[(0,⟨false,4,aX.enc aX.zero,[[.int .i64 g1.2.c.now,la g1.2.c.aC,.own 3 0 g1.2.c.aF.length,.own 4 0 g1.2.ev.length]]⟩),(3,sx g1.2.c.aF),(4,sx g1.2.ev)],5⟩
instance zci4 (a0:Int) (a1:aX):OkM (zB9 a0 a1) 204 [.ptr 0 0 0,.int .i64 a0] [(0,⟨false,4,aX.enc aX.zero,[[.int .i64 a1.c.now,la a1.c.aC,.own 1 0 a1.c.aF.length,.own 2 0 a1.ev.length]]⟩),(1,sx a1.c.aF),(2,sx a1.ev)] 3 (fun r=>.int .i64 r.1) (fun r=>[(0,⟨false,4,aX.enc aX.zero,[[.int .i64 r.2.c.now,la r.2.c.aC,.own 3 0 r.2.c.aF.length,.own 4 0 r.2.ev.length]]⟩),(3,sx r.2.c.aF),(4,sx r.2.ev)]) 5:=okm (zB9.eq_1 a0 a1) (fun r=>[.int .i64 r.1]) Tryz.f204 []
attribute [local irreducible] zB9
def zU8 (j1:aX):Option (Int×aX) :=
 (zk0 j1).bind fun v6 =>
 some (0,v6)
def zv5 (a0:Int) (a1:bK) (v5:(List aM)) (g1:Int×aX):Option ((Int×aX)⊕aX) :=
 (if (decide (g1.1 < (v5.length:Int)))=true then
  gd (0≤a0∧a0 < ((g1.2.c.aF.length:Nat):Int)) <|
  gd (0≤g1.1∧g1.1 < (v5.length:Int)) <|
  (zX3 g1.2.c.aC ((g1.2.c.aF.getD a0.toNat aG.zero).aJ) (v5.getD g1.1.toNat aM.zero) a1.bC).bind fun v7 =>
  (zc4 v7.1 v7.2.1 g1.2).bind fun v8 =>
  some (.inl ((i64.wrap (g1.1+1)),(⟨(⟨v8.1,v8.2.1,v8.2.2.1⟩:bA),v8.2.2.2⟩:aX)))
 else
  some (.inr g1.2))
def zy7 (a0:Int) (a1:bK) (a2:aX):Option (Int×aX) :=
 gd (0≤a0∧a0 < ((a2.c.aF.length:Nat):Int)) <|
 (if (a2.c.aF.getD a0.toNat aG.zero).bH=true then
  some (14,a2)
 else
  (zR8 a1).bind fun v1 =>
  (if (!v1)=true then
   some (1,a2)
  else
   (zg2 a2.c.aC).bind fun v2 =>
   (zE1 v2 a1.bP).bind fun v3 =>
   (if (!decide (v3=0))=true then
    some (v3,a2)
   else
    gd (0≤a0∧a0 < ((a2.c.aF.length:Nat):Int)) <|
    gd (0≤a0∧a0 < ((a2.c.aF.length:Nat):Int)) <|
    gd (0≤a0∧a0 < ((a2.c.aF.length:Nat):Int)) <|
    (zd3 a0 (⟨(⟨a2.c.now,a2.c.aC,((a2.c.aF.set a0.toNat ({ (a2.c.aF.getD a0.toNat aG.zero) with bH:=true })).set a0.toNat ({ ((a2.c.aF.set a0.toNat ({ (a2.c.aF.getD a0.toNat aG.zero) with bH:=true })).getD a0.toNat aG.zero) with aZ:=a1 })).set a0.toNat ({ (((a2.c.aF.set a0.toNat ({ (a2.c.aF.getD a0.toNat aG.zero) with bH:=true })).set a0.toNat ({ ((a2.c.aF.set a0.toNat ({ (a2.c.aF.getD a0.toNat aG.zero) with bH:=true })).getD a0.toNat aG.zero) with aZ:=a1 })).getD a0.toNat aG.zero) with since:=a2.c.now })⟩:bA),a2.ev⟩:aX)).bind fun v4 =>
    (zD5 a1.bP).bind fun v5 =>
    (zb9 (zv5 a0 a1 v5) (0,(⟨(⟨v4.1,v4.2.1,v4.2.2.1⟩:bA),v4.2.2.2⟩:aX))).bind (fun z=>zU8 z))))
@[reducible,instance] def zdY6 a0 a1 a2 {T1:Type} (v1:T1) {T2:Type} (v2:T2) {T3:Type} (v3:T3) {T4:Type} (v4:T4) {T5:Type} (v5:T5):=mkJ (((((zy7 a0 a1 a2,v1),v2),v3),v4),v5) 0 (@zU8.eq_1) fun (j1:aX)=>⟨[(0,.ptr 0 0 0)],[(0,⟨false,4,aX.enc aX.zero,[[.int .i64 j1.c.now,la j1.c.aC,.own 3 0 j1.c.aF.length,.own 4 0 j1.ev.length]]⟩),(3,sx j1.c.aF),(4,sx j1.ev)],5⟩
@[reducible,instance] def zdY7 (a0:Int) (a1:bK) (v5:(List aM)) {T:Type} (x:T):=mkL x (@zv5.eq_1 a0 a1 v5) fun (g1:Int×aX)=>⟨[(0,.ptr 0 0 0),(1,.int .i64 a0),(5,.ptr 3 0 0),(8,la v5),(9,.int .i64 g1.1)],[(0,⟨false,4,aX.enc aX.zero,[[.int .i64 g1.2.c.now,la g1.2.c.aC,.own 4 0 g1.2.c.aF.length,.own 5 0 g1.2.ev.length]]⟩),(3,bx a1),(4,sx g1.2.c.aF),(5,sx g1.2.ev)],6⟩
instance zbT5 (a0:Int) (a1:bK) (a2:aX):OkM (zy7 a0 a1 a2) 205 [.ptr 0 0 0,.int .i64 a0,ga a1] [(0,⟨false,4,aX.enc aX.zero,[[.int .i64 a2.c.now,la a2.c.aC,.own 1 0 a2.c.aF.length,.own 2 0 a2.ev.length]]⟩),(1,sx a2.c.aF),(2,sx a2.ev)] 3 (fun r=>.int .i64 r.1) (fun r=>[(0,⟨false,4,aX.enc aX.zero,[[.int .i64 r.2.c.now,la r.2.c.aC,.own 3 0 r.2.c.aF.length,.own 4 0 r.2.ev.length]]⟩),(3,sx r.2.c.aF),(4,sx r.2.ev)]) 5:=okm (zy7.eq_1 a0 a1 a2) (fun r=>[.int .i64 r.1]) Tryz.f205 []
attribute [local irreducible] zy7
def zB6 (a0:Int) (a1:ByteArray) (a2:aX):Option (Int×aX) :=
 gd (0≤a0∧a0 < ((a2.c.aF.length:Nat):Int)) <|
 (if (a2.c.aF.getD a0.toNat aG.zero).bH=true then
  some (14,a2)
 else
  gd (0≤a0∧a0 < ((a2.c.aF.length:Nat):Int)) <|
  (zi5 (((a2.c.aF.getD a0.toNat aG.zero).bB).aH) a1).bind fun v1 =>
  (if (decide (v1={ aD.zero with  }))=true then
   some (10,a2)
  else
   gd (0≤a0∧a0 < ((a2.c.aF.length:Nat):Int)) <|
   (zG0 a2.c.aC ((a2.c.aF.getD a0.toNat aG.zero).aJ) ({ aM.zero with name:=a1 })).bind fun v2 =>
   (zc4 v2.1 v2.2.1 a2).bind fun v3 =>
   gd (0≤a0∧a0 < ((v3.2.2.1.length:Nat):Int)) <|
   (zy6 ((v3.2.2.1.getD a0.toNat aG.zero).bB) a1).bind fun v4 =>
   gd (0≤a0∧a0 < ((v3.2.2.1.length:Nat):Int)) <|
   (zd3 a0 (⟨(⟨v3.1,v3.2.1,v3.2.2.1.set a0.toNat ({ (v3.2.2.1.getD a0.toNat aG.zero) with bB:=v4.1 })⟩:bA),v3.2.2.2⟩:aX)).bind fun v5 =>
   (zk0 (⟨(⟨v5.1,v5.2.1,v5.2.2.1⟩:bA),v5.2.2.2⟩:aX)).bind fun v6 =>
   some (0,v6)))
instance zbT6 (a0:Int) (a1:ByteArray) (a2:aX):OkM (zB6 a0 a1 a2) 209 [.ptr 0 0 0,.int .i64 a0,.str a1] [(0,⟨false,4,aX.enc aX.zero,[[.int .i64 a2.c.now,la a2.c.aC,.own 1 0 a2.c.aF.length,.own 2 0 a2.ev.length]]⟩),(1,sx a2.c.aF),(2,sx a2.ev)] 3 (fun r=>.int .i64 r.1) (fun r=>[(0,⟨false,4,aX.enc aX.zero,[[.int .i64 r.2.c.now,la r.2.c.aC,.own 3 0 r.2.c.aF.length,.own 4 0 r.2.ev.length]]⟩),(3,sx r.2.c.aF),(4,sx r.2.ev)]) 5:=okm (zB6.eq_1 a0 a1 a2) (fun r=>[.int .i64 r.1]) Tryz.f209 []
attribute [local irreducible] zB6
def zH5 (a0:Int) (j2:aX):Option (Int×aX) :=
 (zd3 a0 j2).bind fun v2 =>
 (zk0 (⟨(⟨v2.1,v2.2.1,v2.2.2.1⟩:bA),v2.2.2.2⟩:aX)).bind fun v3 =>
 some (0,v3)
@[go_sem] def zdu8 (a0:Int) (j2:aX):St:=⟨[(0,.ptr 0 0 0),(1,.int .i64 a0)],[(0,⟨false,4,aX.enc aX.zero,[[.int .i64 j2.c.now,la j2.c.aC,.own 3 0 j2.c.aF.length,.own 4 0 j2.ev.length]]⟩),(3,sx j2.c.aF),(4,sx j2.ev)],5⟩
def zA5 (a0:Int) (v1:aW×(List aM)×Int) (j1:aX) (g1:Int×aX):Option ((Int×aX)⊕aX) :=
 (if (decide (g1.1 < (v1.2.1.length:Int)))=true then
  gd (0≤g1.1∧g1.1 < (v1.2.1.length:Int)) <|
  (zh6 g1.2.c.aC ((v1.2.1.getD g1.1.toNat aM.zero).name)).bind fun v4 =>
  gd (0≤v4∧v4 < (g1.2.c.aC.length:Int)) <|
  (zi6 (g1.2.c.aC.getD v4.toNat aA.zero) ((j1.c.aF.getD a0.toNat aG.zero).aJ)).bind fun v5 =>
  gd (0≤g1.1∧g1.1 < (v1.2.1.length:Int)) <|
  (if (!decide (v5=(v1.2.1.getD g1.1.toNat aM.zero).aN))=true then
   gd (0≤g1.1∧g1.1 < (v1.2.1.length:Int)) <|
   (zG0 g1.2.c.aC ((j1.c.aF.getD a0.toNat aG.zero).aJ) (v1.2.1.getD g1.1.toNat aM.zero)).bind fun v6 =>
   (zc4 v6.1 v6.2.1 g1.2).bind fun v7 =>
   some (.inl ((i64.wrap (g1.1+1)),(⟨(⟨v7.1,v7.2.1,v7.2.2.1⟩:bA),v7.2.2.2⟩:aX)))
  else
   some (.inl ((i64.wrap (g1.1+1)),g1.2)))
 else
  some (.inr g1.2))
@[go_sem] def zdu9 (a0:Int) (v1:aW×(List aM)×Int) (j1:aX) (g1:Int×aX):St:=⟨[(0,.ptr 0 0 0),(1,.int .i64 a0),(8,la v1.2.1),(10,.ptr 3 0 0),(11,.int .i64 g1.1)],[(0,⟨false,4,aX.enc aX.zero,[[.int .i64 g1.2.c.now,la g1.2.c.aC,.own 4 0 g1.2.c.aF.length,.own 5 0 g1.2.ev.length]]⟩),(3,bx ((j1.c.aF.getD a0.toNat aG.zero).aJ)),(4,sx g1.2.c.aF),(5,sx g1.2.ev)],6⟩
def zu7 (a0:Int) (v1:aW×(List aM)×Int) (j1:aX):Option (Int×aX) :=
 gd (0≤a0∧a0 < ((j1.c.aF.length:Nat):Int)) <|
 gd (0≤a0∧a0 < ((j1.c.aF.length:Nat):Int)) <|
 (zb9 (zA5 a0 v1 j1) (0,(⟨(⟨j1.c.now,j1.c.aC,j1.c.aF.set a0.toNat ({ (j1.c.aF.getD a0.toNat aG.zero) with bB:=v1.1 })⟩:bA),j1.ev⟩:aX))).bind (fun z=>zH5 a0 z)
@[go_sem] def zdv0 (a0:Int) (v1:aW×(List aM)×Int) (j1:aX):St:=⟨[(0,.ptr 0 0 0),(1,.int .i64 a0),(7,.ptr 3 0 0),(8,la v1.2.1)],[(0,⟨false,4,aX.enc aX.zero,[[.int .i64 j1.c.now,la j1.c.aC,.own 4 0 j1.c.aF.length,.own 5 0 j1.ev.length]]⟩),(3,bx v1.1),(4,sx j1.c.aF),(5,sx j1.ev)],6⟩
def zx7 (a0 a1:Int) (a2:aX):Option (Int×aX) :=
 gd (0≤a0∧a0 < ((a2.c.aF.length:Nat):Int)) <|
 (zA0 ((a2.c.aF.getD a0.toNat aG.zero).bB) a1).bind fun v1 =>
 (if (!decide (v1.2.2=0))=true then
  some (v1.2.2,a2)
 else
  gd (0≤a0∧a0 < ((a2.c.aF.length:Nat):Int)) <|
  (if (a2.c.aF.getD a0.toNat aG.zero).bH=true then
   (zr5 a0 a2).bind fun v8 =>
   zu7 a0 v1 v8
  else
   zu7 a0 v1 a2))
theorem zaM2 (a0 a1:Int) (a2:aX) (r:Int×aX) (h:zx7 a0 a1 a2=some r):MFn C 211 [.ptr 0 0 0,.int .i64 a0,.int .i64 a1] [(0,⟨false,4,aX.enc aX.zero,[[.int .i64 a2.c.now,la a2.c.aC,.own 1 0 a2.c.aF.length,.own 2 0 a2.ev.length]]⟩),(1,sx a2.c.aF),(2,sx a2.ev)] 3 (.int .i64 r.1) [(0,⟨false,4,aX.enc aX.zero,[[.int .i64 r.2.c.now,la r.2.c.aC,.own 3 0 r.2.c.aF.length,.own 4 0 r.2.ev.length]]⟩),(3,sx r.2.c.aF),(4,sx r.2.ev)] 5:=by
 refine zax1 Tryz.f211 [] [.int .i64 r.1] fun E hG hN hK=>?_
 unfold zx7 at h
 refine za2 (za5 hG ?_)
 refine za2 ?_
 obtain ⟨hb8,h⟩:=ze1 h
 refine za5 hG ?_
 obtain ⟨v1,hv1,h⟩:=zc7 h
 refine zr9 (fun hg=>zbT4 _ _ _ hv1) ?_
 refine za2 (za2 (za5 hG ?_))
 refine zl4 rfl hG h (fun _ h=>?_) (fun _ h=>?_)
 · refine za2 (za5 hG ?_)
   refine zt4 ?_
   exact zO9 [(0,0),(3,1),(4,2)] h
 refine zk1 ?_
 refine za2 (za2 ?_)
 obtain ⟨hb7,h⟩:=ze1 h
 refine za5 hG ?_
 refine zbh3 (zdv0 a0 v1) (fun v=>zu7 a0 v1 v=some r) rfl hG h ?_ (fun _ h=>?_) (fun _ h=>?_)
 · intro j1 h
   unfold zu7 at h
   refine g_st ?_
   refine za2 ?_
   obtain ⟨hb6,h⟩:=ze1 h
   refine za5 hG ?_
   refine za2 ?_
   obtain ⟨hb5,h⟩:=ze1 h
   refine zam5 zz1 hG ?_
   refine za2 (za2 (za5 hG ?_))
   refine zD0 (zdu8 a0) (fun v=>zH5 a0 v=some r) ?_ ?_
   · intro j2 h
     unfold zH5 at h
     refine g_st ?_
     refine za2 (za5 hG ?_)
     obtain ⟨v2,hv2,h⟩:=zc7 h
     refine zr6 [(0,0),(1,3),(2,4)] [] [0,1,2] ((zba3 a0 j2).ok _ hv2) rfl rfl ?_
     refine za2 (za5 hG ?_)
     obtain ⟨v3,hv3,h⟩:=zc7 h
     refine zr6 [(0,0),(1,3),(2,4)] [(3,5),(4,6)] [0,1,2,3,4] ((zaS8 (⟨(⟨v2.1,v2.2.1,v2.2.2.1⟩:bA),v2.2.2.2⟩:aX)).ok _ hv3) rfl rfl ?_
     refine za2 (za5 hG ?_)
     refine zt4 ?_
     exact zO9 [(0,0),(3,5),(4,6)] h
   refine zY8 (zdu9 a0 v1 j1) hK [(0,0),(3,6),(4,4),(5,5)] h (fun x_l1 h g1 y_l1 h_l1 hx_l1=>?_)
   unfold zA5 at h_l1
   refine g_st ?_
   refine za2 (za2 (za5 hG ?_))
   refine zl4 rfl hG h_l1 (fun _ h_l1=>?_) (fun _ h_l1=>?_)
   · refine zk1 ?_
     refine za2 (zC3 (za2 ?_))
     obtain ⟨hb4,h_l1⟩:=ze1 h_l1
     refine zaW1 zz1 hG ?_
     obtain ⟨v4,hv4,h_l1⟩:=zc7 h_l1
     obtain ⟨hb3,h_l1⟩:=ze1 h_l1
     refine zaj7 (fun hg=>(zbk7 g1.2.c.aC ((v1.2.1.getD g1.1.toNat aM.zero).name)).ok _ hv4) ?_
     obtain ⟨v5,hv5,h_l1⟩:=zc7 h_l1
     obtain ⟨hb2,h_l1⟩:=ze1 h_l1
     refine zaj7 (fun hg=>(zaP3 (g1.2.c.aC.getD v4.toNat aA.zero) ((j1.c.aF.getD a0.toNat aG.zero).aJ)).ok _ hv5) ?_
     refine zl4 rfl hG h_l1 (fun _ h_l1=>?_) (fun _ h_l1=>?_)
     · refine za2 ?_
       obtain ⟨hb1,h_l1⟩:=ze1 h_l1
       refine zaW1 zz1 hG ?_
       obtain ⟨v6,hv6,h_l1⟩:=zc7 h_l1
       refine zaj7 (fun hg=>zbe0 _ _ _ _ hv6) ?_
       refine za5 hG ?_
       obtain ⟨v7,hv7,h_l1⟩:=zc7 h_l1
       refine zr6 [(0,0),(1,4),(2,5)] [(3,6)] [0,1,2,3] ((zba2 v6.1 v6.2.1 g1.2).ok _ hv7) rfl rfl ?_
       refine za5 hG ?_
       exact zJ0 hK [(0,0),(3,3),(4,4),(5,6)] h_l1
     refine zk1 ?_
     refine za5 hG ?_
     exact zJ0 hK [(0,0),(3,3),(4,4),(5,5)] h_l1
   refine zG4 ?_
   cases h_l1
   cases hx_l1 _ rfl
   exact zA9 hK [(0,0),(3,4),(4,5)] g1.2 (by exact h)
 · refine za5 hG ?_
   obtain ⟨v8,hv8,h⟩:=zc7 h
   refine zr6 [(0,0),(1,1),(2,2)] [(3,4),(4,5)] [0,1,2,3,4] ((zaM1 a0 a2).ok _ hv8) rfl rfl ?_
   exact zA9 hK [(0,0),(3,3),(4,4),(5,5)] v8 (by exact h)
 refine zk1 ?_
 exact zA9 hK [(0,0),(3,3),(4,1),(5,2)] a2 (by exact h)
instance zbS4 (a0 a1:Int) (a2:aX):OkM (zx7 a0 a1 a2) 211 [.ptr 0 0 0,.int .i64 a0,.int .i64 a1] [(0,⟨false,4,aX.enc aX.zero,[[.int .i64 a2.c.now,la a2.c.aC,.own 1 0 a2.c.aF.length,.own 2 0 a2.ev.length]]⟩),(1,sx a2.c.aF),(2,sx a2.ev)] 3 (fun r=>.int .i64 r.1) (fun r=>[(0,⟨false,4,aX.enc aX.zero,[[.int .i64 r.2.c.now,la r.2.c.aC,.own 3 0 r.2.c.aF.length,.own 4 0 r.2.ev.length]]⟩),(3,sx r.2.c.aF),(4,sx r.2.ev)]) 5:=⟨zaM2 a0 a1 a2⟩
attribute [local irreducible] zx7
def zC0 (a0:Int) (a1:aX):Option aX :=
 gd (0≤a0∧a0 < ((a1.c.aF.length:Nat):Int)) <|
 (zN6 a1.c.aC ((a1.c.aF.getD a0.toNat aG.zero).aJ)).bind fun v1 =>
 (zc4 v1.1 v1.2 a1).bind fun v2 =>
 gd (0≤0∧0≤a0∧a0≤((v2.2.2.1.length:Nat):Int)∧a0=a0) <|
 gd (0≤i64.wrap (a0+1)∧i64.wrap (a0+1)≤((v2.2.2.1.length:Nat):Int)∧((v2.2.2.1.length:Nat):Int)≤((v2.2.2.1.length:Nat):Int)) <|
 gd (a0.toNat+((v2.2.2.1.drop ((i64.wrap (a0+1)).toNat)).take (v2.2.2.1.length - (i64.wrap (a0+1)).toNat)).length≤4294967296∧a0.toNat≤v2.2.2.1.length) <|
 (zd7 5 ((a1.c.aF.getD a0.toNat aG.zero).aJ) (⟨(⟨v2.1,v2.2.1,(v2.2.2.1.take a0.toNat++(v2.2.2.1.drop ((i64.wrap (a0+1)).toNat)).take (v2.2.2.1.length - (i64.wrap (a0+1)).toNat))⟩:bA),v2.2.2.2⟩:aX)).bind fun v3 =>
 (zk0 (⟨(⟨v3.1,v3.2.1,v3.2.2.1⟩:bA),v3.2.2.2⟩:aX)).bind fun v4 =>
 some v4
instance zci5 (a0:Int) (a1:aX):OkM (zC0 a0 a1) 212 [.ptr 0 0 0,.int .i64 a0] [(0,⟨false,4,aX.enc aX.zero,[[.int .i64 a1.c.now,la a1.c.aC,.own 1 0 a1.c.aF.length,.own 2 0 a1.ev.length]]⟩),(1,sx a1.c.aF),(2,sx a1.ev)] 3 (fun r=>.tup []) (fun r=>[(0,⟨false,4,aX.enc aX.zero,[[.int .i64 r.c.now,la r.c.aC,.own 3 0 r.c.aF.length,.own 4 0 r.ev.length]]⟩),(3,sx r.c.aF),(4,sx r.ev)]) 5:=okm (zC0.eq_1 a0 a1) (fun r=>[]) Tryz.f212 [(42,1)]
attribute [local irreducible] zC0
def zH6 (a0:bM) (a1:aX):Option (Int×aX) :=
 (if (decide (a0.kind < 1)||decide (9 < a0.kind))=true then
  some (1,a1)
 else
  (if (decide (a0.kind=1))=true then
   (zg8 a0.aJ a0.n a1).bind fun v1 =>
   some (v1.1,v1.2)
  else
   (if (decide (a0.kind=9))=true then
    (zB9 a0.n a1).bind fun v2 =>
    some (v2.1,v2.2)
   else
    (zi2 a1.c.aF a0.aJ).bind fun v3 =>
    (if (decide (v3 < 0))=true then
     some (10,a1)
    else
     gd (0≤v3∧v3 < ((a1.c.aF.length:Nat):Int)) <|
     (if (decide (a0.kind=2))=true then
      (zy7 v3 a0.aZ a1).bind fun v4 =>
      some (v4.1,v4.2)
     else
      (if (decide (a0.kind=3))=true then
       (if (!(a1.c.aF.getD v3.toNat aG.zero).bH)=true then
        some (14,a1)
       else
        (zr5 v3 a1).bind fun v5 =>
        (zd3 v3 v5).bind fun v6 =>
        (zk0 (⟨(⟨v6.1,v6.2.1,v6.2.2.1⟩:bA),v6.2.2.2⟩:aX)).bind fun v7 =>
        some (0,v7))
      else
       (if (decide (a0.kind=4))=true then
        (zB6 v3 a0.name a1).bind fun v8 =>
        some (v8.1,v8.2)
       else
        (if (decide (a0.kind=5))=true then
         (if (a1.c.aF.getD v3.toNat aG.zero).bH=true then
          some (14,a1)
         else
          gd (0≤v3∧v3 < ((a1.c.aF.length:Nat):Int)) <|
          (zG9 ((a1.c.aF.getD v3.toNat aG.zero).bB) a0.n).bind fun v9 =>
          (if (!decide (v9.2=0))=true then
           some (v9.2,a1)
          else
           gd (0≤v3∧v3 < ((a1.c.aF.length:Nat):Int)) <|
           (zd3 v3 (⟨(⟨a1.c.now,a1.c.aC,a1.c.aF.set v3.toNat ({ (a1.c.aF.getD v3.toNat aG.zero) with bB:=v9.1 })⟩:bA),a1.ev⟩:aX)).bind fun v10 =>
           some (0,(⟨(⟨v10.1,v10.2.1,v10.2.2.1⟩:bA),v10.2.2.2⟩:aX))))
        else
         (if (decide (a0.kind=6))=true then
          (zx7 v3 a0.n a1).bind fun v11 =>
          some (v11.1,v11.2)
         else
          (if (decide (a0.kind=8))=true then
           (if (a1.c.aF.getD v3.toNat aG.zero).bH=true then
            some (14,a1)
           else
            (zC0 v3 a1).bind fun v12 =>
            some (0,v12))
          else
           (if (decide (a0.kind=7))=true then
            (zC0 v3 a1).bind fun v13 =>
            some (0,v13)
           else
            some (0,a1))))))))))))
instance zct8 (a0:bM) (a1:aX):OkM (zH6 a0 a1) 153 [.ptr 0 0 0,ga a0] [(0,⟨false,4,aX.enc aX.zero,[[.int .i64 a1.c.now,la a1.c.aC,.own 1 0 a1.c.aF.length,.own 2 0 a1.ev.length]]⟩),(1,sx a1.c.aF),(2,sx a1.ev)] 3 (fun r=>.int .i64 r.1) (fun r=>[(0,⟨false,4,aX.enc aX.zero,[[.int .i64 r.2.c.now,la r.2.c.aC,.own 3 0 r.2.c.aF.length,.own 4 0 r.2.ev.length]]⟩),(3,sx r.2.c.aF),(4,sx r.2.ev)]) 5:=okm (zH6.eq_1 a0 a1) (fun r=>[.int .i64 r.1]) Tryz.f153 []
attribute [local irreducible] zH6
def zaq3 (a0:bA) (a1:bM):Option (bA×(List bJ)×Int) :=
 (zF9 a0).bind fun v1 =>
 (if (!v1)=true then
  some ({ bA.zero with  },[],2)
 else
  (zj3 a0).bind fun v2 =>
  (zH6 a1 (⟨(⟨v2.now,v2.aC,v2.aF⟩:bA),[]⟩:aX)).bind fun v3 =>
  (if (!decide (v3.1=0))=true then
   some ({ bA.zero with  },[],v3.1)
  else
   some (v3.2.c,v3.2.ev,0)))
instance zdo7 (a0:bA) (a1:bM):OkP (zaq3 a0 a1) 96 [ga a0,ga a1] (fun r=>.tup [ga r.1,la r.2.1,.int .i64 r.2.2]):=⟨fun r h=>by
 refine zY9 Tryz.f96 [(15,14)] fun E hG hN hK=>?_
 have hm:Mk (zaq3 a0 a1):=trivial
 unfold zaq3 at h
 refine za2 (za5 hG ?_)
 refine za2 (za2 (za5 hG ?_))
 obtain ⟨v1,hv1,h⟩:=zc7 h
 have hm:=mkP hm v1
 refine zr9 (fun hg=>(zbd9 a0).ok _ hv1) ?_
 refine zl4 rfl hG h (fun _ h=>?_) (fun _ h=>?_)
 · exact gogo
 refine zk1 ?_
 refine za2 (za5 hG ?_)
 obtain ⟨v2,hv2,h⟩:=zc7 h
 have hm:=mkP hm v2
 refine zr6 [] [(0,3),(1,4)] [0,1] (zbw1 _ _ hv2) rfl rfl ?_
 refine g_gh (.fz [3]) ?_
 refine g_gh (.ownb 5 3 7 (bJ.enc bJ.zero)) ?_
 exact gogo⟩
attribute [local irreducible] zaq3
def zbk9 (j1:bA):Option bA :=
 some j1
def zaB2 (a1:List bM) (g1:Int×bA):Option ((Int×bA)⊕bA) :=
 (if (decide (g1.1 < (a1.length:Int)))=true then
  gd (0≤g1.1∧g1.1 < (a1.length:Int)) <|
  (zaq3 g1.2 (a1.getD g1.1.toNat bM.zero)).bind fun v1 =>
  (if (decide (v1.2.2=0))=true then
   some (.inl ((i64.wrap (g1.1+1)),v1.1))
  else
   some (.inl ((i64.wrap (g1.1+1)),g1.2)))
 else
  some (.inr g1.2))
def zaq4 (a0:bA) (a1:List bM):Option bA :=
 (zb9 (zaB2 a1) (0,a0)).bind (fun z=>zbk9 z)
@[reducible,instance] def zdY8 a0 a1:=mkJ (zaq4 a0 a1) 0 (@zbk9.eq_1) fun (j1:bA)=>⟨[(2,.ptr 0 0 0),(4,.ptr 1 0 0)],[(0,bx j1),(1,bx bA.zero)],2⟩
@[reducible,instance] def zdY9 (a1:List bM) {T:Type} (x:T):=mkL x (@zaB2.eq_1 a1) fun (g1:Int×bA)=>⟨[(1,la a1),(2,.ptr 0 0 0),(4,.ptr 1 0 0),(5,.int .i64 g1.1)],[(0,bx g1.2),(1,bx bA.zero)],2⟩
instance zdo8 (a0:bA) (a1:List bM):OkP (zaq4 a0 a1) 55 [ga a0,la a1] (fun r=>ga r):=ok1 (zaq4.eq_1 a0 a1) Tryz.f55 []
attribute [local irreducible] zaq4
def zU0 (a0:List Int):Option bA :=
 (zM6 a0).bind fun v1 =>
 (zai0 v1.1).bind fun v2 =>
 (zaq4 v2.1 v1.2).bind fun v3 =>
 some v3
instance zcR7 (a0:List Int):OkP (zU0 a0) 19 [.sl (a0.map (eI .i64))] (fun r=>ga r):=ok1 (zU0.eq_1 a0) Tryz.f19 []
attribute [local irreducible] zU0
def zbl0 (j1:aL):Option aL :=
 some j1
def zaB3 (a0:bA) (g1:Int×aL):Option ((Int×aL)⊕aL) :=
 (if (decide (g1.1 < (a0.aF.length:Int)))=true then
  gd (0≤g1.1∧g1.1 < (a0.aF.length:Int)) <|
  (if (a0.aF.getD g1.1.toNat aG.zero).bH=true then
   gd (0≤g1.1∧g1.1 < (a0.aF.length:Int)) <|
   gd (0≤g1.1∧g1.1 < (a0.aF.length:Int)) <|
   gd (0≤g1.1∧g1.1 < (a0.aF.length:Int)) <|
   gd (g1.2.aU.length+1≤4294967296) <|
   some (.inl ((i64.wrap (g1.1+1)),(⟨g1.2.aC,(g1.2.aU++[(⟨(a0.aF.getD g1.1.toNat aG.zero).aJ,((a0.aF.getD g1.1.toNat aG.zero).aZ).bP,(a0.aF.getD g1.1.toNat aG.zero).gen⟩:bI)])⟩:aL)))
  else
   some (.inl ((i64.wrap (g1.1+1)),g1.2)))
 else
  some (.inr g1.2))
def zai1 (a0:bA):Option aL :=
 (zF9 a0).bind fun v1 =>
 (if (!v1)=true then
  some ({ aL.zero with  })
 else
  gd (a0.aC.length≤4294967296) <|
  (zb9 (zaB3 a0) (0,(⟨a0.aC,[]⟩:aL))).bind (fun z=>zbl0 z))
@[reducible,instance] def zdZ0 (a0:bA) {T1:Type} (v1:T1):=mkJ (zai1 a0,v1) 0 (@zbl0.eq_1) fun (j1:aL)=>⟨[(2,.ptr 0 0 0),(3,.ptr 1 0 0)],[(0,bx aL.zero),(1,⟨false,2,aL.enc aL.zero,[[.own 2 0 j1.aC.length,.own 3 0 j1.aU.length]]⟩),(2,sx j1.aC),(3,sx j1.aU)],4⟩
@[reducible,instance] def zdZ1 (a0:bA) {T:Type} (x:T):=mkL x (@zaB3.eq_1 a0) fun (g1:Int×aL)=>⟨[(1,.ptr 0 0 0),(2,.ptr 1 0 0),(3,.ptr 2 0 0),(4,.int .i64 g1.1)],[(0,bx a0),(1,bx aL.zero),(2,⟨false,2,aL.enc aL.zero,[[.own 3 0 g1.2.aC.length,.own 4 0 g1.2.aU.length]]⟩),(3,sx g1.2.aC),(4,sx g1.2.aU)],5⟩
instance zdo9 (a0:bA):OkP (zai1 a0) 18 [ga a0] (fun r=>ga r):=⟨fun r h=>by
 refine zY9 Tryz.f18 [(9,1),(13,4),(3,4)] fun E hG hN hK=>?_
 have hm:Mk (zai1 a0):=trivial
 unfold zai1 at h
 refine za2 (za5 hG ?_)
 refine za2 (za2 (za5 hG ?_))
 obtain ⟨v1,hv1,h⟩:=zc7 h
 have hm:=mkP hm v1
 refine zr9 (fun hg=>(zbd9 a0).ok _ hv1) ?_
 refine zl4 rfl hG h (fun _ h=>?_) (fun _ h=>?_)
 · exact gogo
 refine zk1 ?_
 refine za2 ?_
 obtain ⟨hb6,h⟩:=ze1 h
 refine za5 hG ?_
 refine g_gh (.ownb 4 1 9 (bI.enc bI.zero)) ?_
 exact gogo⟩
attribute [local irreducible] zai1
def zal7 (a0:List Int):Option aL :=
 (zU0 a0).bind fun v1 =>
 (zai1 v1).bind fun v2 =>
 some v2
instance zdh6 (a0:List Int):OkP (zal7 a0) 6 [.sl (a0.map (eI .i64))] (fun r=>ga r):=ok1 (zal7.eq_1 a0) Tryz.f6 []
attribute [local irreducible] zal7
def zH7 (a0:List Int) (a1 a2:Int):Option Bool :=
 (if (!(zak2 a0))=true then
  (zX5).bind fun v1 =>
  some v1
 else
  (zal7 a0).bind fun v2 =>
  (if (decide ((v2.aC.length:Int)=0))=true then
   some false
  else
   gd (v2.aC.length≤4294967296) <|
   (zl7 a1 ((v2.aC.length:Nat):Int)).bind fun v3 =>
   (zl7 a2 1073741824).bind fun v4 =>
   gd (0≤v3∧v3 < ((v2.aC.length:Nat):Int)) <|
   (zw1 v2 (⟨(v2.aC.set v3.toNat ({ (v2.aC.getD v3.toNat aA.zero) with gen:=v4 })),v2.aU⟩:aL)).bind fun v5 =>
   (zX5).bind fun v6 =>
   gd (v6=true→0≤v3∧v3 < ((v2.aC.length:Nat):Int)) <|
   gd (v6=true→0≤v3∧v3 < (v2.aC.length:Int)) <|
   ((if ((v6&&decide (decide (v5.2=0)=decide (((v2.aC.set v3.toNat ({ (v2.aC.getD v3.toNat aA.zero) with gen:=v4 })).getD v3.toNat aA.zero).gen=(v2.aC.getD v3.toNat aA.zero).gen)))&&(decide (v5.2=0)||decide (v5.2=18)))=true then zr7 v2 (⟨(v2.aC.set v3.toNat ({ (v2.aC.getD v3.toNat aA.zero) with gen:=v4 })),v2.aU⟩:aL) else some false)).bind fun v7 =>
   some (((v6&&decide (decide (v5.2=0)=decide (((v2.aC.set v3.toNat ({ (v2.aC.getD v3.toNat aA.zero) with gen:=v4 })).getD v3.toNat aA.zero).gen=(v2.aC.getD v3.toNat aA.zero).gen)))&&(decide (v5.2=0)||decide (v5.2=18)))&&v7)))
instance zaS9 (a0:List Int) (a1 a2:Int):OkP (zH7 a0 a1 a2) 3 [.sl (a0.map (eI .i64)),.int .i64 a1,.int .i64 a2] (fun r=>.bool r):=ok1 (zH7.eq_1 a0 a1 a2) Tryz.f3 [(22,1),(28,3),(8,3)]
attribute [local irreducible] zH7
end
end Ab
end Go.Proofs.YtfkjffmjkbkmhaaGreatDoor
