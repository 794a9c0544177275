import Derived.Test.YtogpinppgncpmaaGreatDoorHm25
import Derived.Test.YtogpinppgncpmaaGreatDoorHm28
namespace Go.Proofs.YtogpinppgncpmaaGreatDoor
namespace Ab
open IntKind (i64 u64 u8)
set_option linter.unusedSimpArgs false
set_option linter.defProp false
set_option linter.unusedVariables false
set_option maxRecDepth 100000
set_option maxHeartbeats 1000000
noncomputable section
attribute [local irreducible] zb2 za4 zd4 za6 zh1 zm5 zm4 zh2 zk4 zi2 zd7 zg4 za7 zn9 zh3 zj7 ze3 za8 zg8 zi3 zg1 zl1 zj1 za9 zf9 ze4 zh8 ze5 zk7 zk0 zk1 zn8 zg9 zm3 f_ref08_holds zj9 zc5 zf8 zd0 zd9 ze6 zn2 zm9 zg7 ze7 zg0 zb3 za0 zf2 zj3 zl8 zh9 zf3 zh4 zo0 zn0 zk2 zb4 zd1 zd2 zd6 zg3 zd8 zc3 zo7 za1 zq1 zi0 zi5 zh5 zj5 zc1 zb0 ze9 zf4 zn1 zo8 zp1 ze8 zb8 zi6 zi4 zp7 zi7 zc6 ze0 zs0 zj6 zo2 zj8 zg5 zp8 zl2 zh0 zb5 zi8 zr5 zp9 zk3 zb9 zk8 zl4 zr3 zh7 zt3 zf1 zg2 zf0 zr9 zu3 zi9 zk9 ze2 zi1 za5 zm0 zt0 zq7 zu0 zv1 zq8 zd3 zq5 zu1 zl6 ze1 zu5 zu2 zr6 zt6 zc8 zc2 zj4 zr4 zq6 zm6 zu7 zw2 zr7 zl5 zv6 zy3 zB9 zo1 zm7 zb7 zA8 zv8 zs6 zp2 zw3 zy8 zD6 zA9 zG1 zP0 zo3 zz6 zG2 zL4 zz7 zQ3 zJ6 zP1 zz8 zC4 zD7 zL5 zG3 zU6 zG4 zB0 zI4 zG9 zG5 zC5 zU7 zH0 zP2 zL6 zz4 zW9 zX0 zab5 zI5 zq0 zI6 zab6 zX1 zQ4 zX2 zT0 zab7 zI7 zt7 zt8 zw4 zw5 zA1 zC6 zs7 zF3 zP3 zP4 zam0
def zU8:Option Bool :=
 (zp1 0).bind fun v1 =>
 (zw4 (⟨[],[(⟨v1,{ aO.zero with bB:=(⟨(⟨#[97]⟩:ByteArray),{ aC.zero with mode:=5 }⟩:aM) },3⟩:bC)]⟩:aD)).bind fun v2 =>
 (zw5 v2.1).bind fun v3 =>
 (zz8 v3.1 v1).bind fun v4 =>
 (zA1 v3.1 v1).bind fun v5 =>
 ((if ((decide (v2.2=0)&&decide (v3.2=0))&&v4.2)=true then zz6 (⟨[],[(⟨v1,{ aO.zero with bB:=(⟨(⟨#[97]⟩:ByteArray),{ aC.zero with mode:=5 }⟩:aM) },3⟩:bC)]⟩:aD) v3.1 else some false)).bind fun v6 =>
 ((if (((decide (v2.2=0)&&decide (v3.2=0))&&v4.2)&&v6)=true then zt8 v3.1 else some false)).bind fun v7 =>
 gd ((((((decide (v2.2=0)&&decide (v3.2=0))&&v4.2)&&v6)&&v7)&&decide ((v5.length:Int)=1))=true→0≤0∧0 < (v5.length:Int)) <|
 ((if ((((((decide (v2.2=0)&&decide (v3.2=0))&&v4.2)&&v6)&&v7)&&decide ((v5.length:Int)=1))&&v5.getD 0 false)=true then zt7 v3.1 else some [])).bind fun v8 =>
 some (((((((decide (v2.2=0)&&decide (v3.2=0))&&v4.2)&&v6)&&v7)&&decide ((v5.length:Int)=1))&&v5.getD 0 false)&&decide ((v8.length:Int)=1))
instance zbh2 :OkP zU8 5 [] (fun r=>.bool r):=⟨fun r h=>by
 refine zad2 Tryz.f5 [(17,2)] fun E hG hN hK=>?_
 have hm:Mk zU8:=trivial
 unfold zU8 at h
 refine za2 (za3 hG ?_)
 refine za2 (za3 hG ?_)
 obtain ⟨v1,hv1,h⟩:=zc9 h
 have hm:=mkP hm v1
 refine zq4 (fun hg=>(zci5 0).ok _ hv1) ?_
 refine za2 (za3 hG ?_)
 refine za2 (za3 hG ?_)
 obtain ⟨v2,hv2,h⟩:=zc9 h
 have hm:=mkP hm v2
 have hc_v2:=(zbm1 (⟨[],[(⟨v1,{ aO.zero with bB:=(⟨(⟨#[97]⟩:ByteArray),{ aC.zero with mode:=5 }⟩:aM) },3⟩:bC)]⟩:aD)).ok _ hv2
 have el_v2:∀ x:aD,aD.enc x=[A.sl (x.aF.map aA.enc),A.sl (x.aQ.map bC.enc)]:=fun x=>rfl
 try dsimp only [ga,la,En.e] at hc_v2
 rw [el_v2] at hc_v2
 dsimp only at hc_v2
 refine zq4 (fun hg=>PFn.unfullA hc_v2) ?_
 refine za2 (za3 hG ?_)
 obtain ⟨v3,hv3,h⟩:=zc9 h
 have hm:=mkP hm v3
 refine zq4 (fun hg=>(zbm2 v2.1).ok _ hv3) ?_
 refine za2 (za3 hG ?_)
 obtain ⟨v4,hv4,h⟩:=zc9 h
 have hm:=mkP hm v4
 refine zq4 (fun hg=>(zbv4 v3.1 v1).ok _ hv4) ?_
 refine za2 (za3 hG ?_)
 obtain ⟨v5,hv5,h⟩:=zc9 h
 have hm:=mkP hm v5
 refine zq4 (fun hg=>(zbh1 v3.1 v1).ok _ hv5) ?_
 refine za2 (za3 hG ?_)
 obtain ⟨v6,hv6,h⟩:=zc9 h
 have hm:=mkP hm v6
 refine zq4 (fun hg=>PFn.unfullA ((zbv3 (⟨[],[(⟨v1,{ aO.zero with bB:=(⟨(⟨#[97]⟩:ByteArray),{ aC.zero with mode:=5 }⟩:aM) },3⟩:bC)]⟩:aD) v3.1).ok _ (zaH9 hg hv6))) ?_
 exact gogo⟩
attribute [local irreducible] zU8
def zJ8 (a0:aH) (a1:ByteArray) (v1:Int) (j1:aW):Option aW :=
 (zj3 a0.bH.aP a1).bind fun v3 =>
 gd (0≤v1∧v1 < (j1.c.aF.length:Int)) <|
 (zi0 (j1.c.aF.getD v1.toNat aA.zero) a0.aN).bind fun v4 =>
 (if (!decide (v4=v3))=true then
  (zI5 j1.c.aF a0.aN (⟨a1,v3⟩:aM)).bind fun v5 =>
  (zd0 v5.1 v5.2.1 j1).bind fun v6 =>
  some (⟨(⟨v6.1,v6.2.1,v6.2.2.1⟩:aZ),v6.2.2.2⟩:aW)
 else
  some j1)
def zx3 (a0:aH) (a1:ByteArray) (a2:aW):Option aW :=
 (zh9 a2.c.aF a1).bind fun v1 =>
 gd (0≤v1∧v1 < (a2.c.aF.length:Int)) <|
 (zi4 (a2.c.aF.getD v1.toNat aA.zero) a0.aN).bind fun v2 =>
 (if v2.2=true then
  (zX0 a2.c.aF a0.aN a1).bind fun v7 =>
  (zd0 v7.1 v7.2.1 a2).bind fun v8 =>
  zJ8 a0 a1 v1 (⟨(⟨v8.1,v8.2.1,v8.2.2.1⟩:aZ),v8.2.2.2⟩:aW)
 else
  zJ8 a0 a1 v1 a2)
@[reducible,instance] def zed2 (a0:aH) (a1:ByteArray) a2 (v1:Int) {T1:Type} (v2:T1):=mkJ ((zx3 a0 a1 a2,v1),v2) 999 (@zJ8.eq_1 a0 a1 v1) fun (j1:aW)=>⟨[(0,.ptr 0 0 0),(2,.str a1),(4,.ptr 3 0 0),(6,.int .i64 v1)],[(0,⟨false,4,aW.enc aW.zero,[[.int .i64 j1.c.now,la j1.c.aF,.own 4 0 j1.c.aG.length,.own 5 0 j1.ev.length]]⟩),(3,bx a0),(4,sx j1.c.aG),(5,sx j1.ev)],6⟩
instance zcm3 (a0:aH) (a1:ByteArray) (a2:aW):OkM (zx3 a0 a1 a2) 252 [.ptr 0 0 0,ga a0,.str a1] [(0,⟨false,4,aW.enc aW.zero,[[.int .i64 a2.c.now,la a2.c.aF,.own 1 0 a2.c.aG.length,.own 2 0 a2.ev.length]]⟩),(1,sx a2.c.aG),(2,sx a2.ev)] 3 (fun r=>.tup []) (fun r=>[(0,⟨false,4,aW.enc aW.zero,[[.int .i64 r.c.now,la r.c.aF,.own 3 0 r.c.aG.length,.own 4 0 r.ev.length]]⟩),(3,sx r.c.aG),(4,sx r.ev)]) 5:=okm (zx3.eq_1 a0 a1 a2) (fun r=>[]) Tryz.f252 []
attribute [local irreducible] zx3
def zX4 (a0:Int) (j1:aW):Option aW :=
 (zd9 a0 j1).bind fun v2 =>
 some (⟨(⟨v2.1,v2.2.1,v2.2.2.1⟩:aZ),v2.2.2.2⟩:aW)
def zJ9 (a0:Int) (a1:aW) (v1:(List aM)) (g1:Int×aW):Option ((Int×aW)⊕aW) :=
 (if (decide (g1.1 < (v1.length:Int)))=true then
  gd (0≤g1.1∧g1.1 < (v1.length:Int)) <|
  (zx3 (a1.c.aG.getD a0.toNat aH.zero) ((v1.getD g1.1.toNat aM.zero).name) g1.2).bind fun v3 =>
  some (.inl ((i64.wrap (g1.1+1)),v3))
 else
  some (.inr g1.2))
def zs3 (a0:Int) (a1:aW):Option aW :=
 gd (0≤a0∧a0 < ((a1.c.aG.length:Nat):Int)) <|
 (zG5 (((a1.c.aG.getD a0.toNat aH.zero).bF).bO)).bind fun v1 =>
 (zc0 (zJ9 a0 a1 v1) (0,a1)).bind (fun z=>zX4 a0 z)
@[reducible,instance] def zed3 (a0:Int) a1 {T1:Type} (v1:T1):=mkJ (zs3 a0 a1,v1) 0 (@zX4.eq_1 a0) fun (j1:aW)=>⟨[(0,.ptr 0 0 0),(1,.int .i64 a0)],[(0,⟨false,4,aW.enc aW.zero,[[.int .i64 j1.c.now,la j1.c.aF,.own 3 0 j1.c.aG.length,.own 4 0 j1.ev.length]]⟩),(3,sx j1.c.aG),(4,sx j1.ev)],5⟩
@[reducible,instance] def zed4 (a0:Int) (a1:aW) (v1:(List aM)) {T:Type} (x:T):=mkL x (@zJ9.eq_1 a0 a1 v1) fun (g1:Int×aW)=>⟨[(0,.ptr 0 0 0),(1,.int .i64 a0),(4,.ptr 3 0 0),(5,la v1),(6,.int .i64 g1.1)],[(0,⟨false,4,aW.enc aW.zero,[[.int .i64 g1.2.c.now,la g1.2.c.aF,.own 4 0 g1.2.c.aG.length,.own 5 0 g1.2.ev.length]]⟩),(3,bx (a1.c.aG.getD a0.toNat aH.zero)),(4,sx g1.2.c.aG),(5,sx g1.2.ev)],6⟩
instance zaO0 (a0:Int) (a1:aW):OkM (zs3 a0 a1) 211 [.ptr 0 0 0,.int .i64 a0] [(0,⟨false,4,aW.enc aW.zero,[[.int .i64 a1.c.now,la a1.c.aF,.own 1 0 a1.c.aG.length,.own 2 0 a1.ev.length]]⟩),(1,sx a1.c.aG),(2,sx a1.ev)] 3 (fun r=>.tup []) (fun r=>[(0,⟨false,4,aW.enc aW.zero,[[.int .i64 r.c.now,la r.c.aF,.own 3 0 r.c.aG.length,.own 4 0 r.ev.length]]⟩),(3,sx r.c.aG),(4,sx r.ev)]) 5:=okm (zs3.eq_1 a0 a1) (fun r=>[]) Tryz.f211 []
attribute [local irreducible] zs3
def zaq9 (j1:aW):Option aW :=
 some j1
def zab8 (g1:Int×aW) (j2:aW):Option ((Int×aW)⊕aW) :=
 (zd9 g1.1 j2).bind fun v6 =>
 (zd2 g1.1 (⟨(⟨v6.1,v6.2.1,v6.2.2.1⟩:aZ),v6.2.2.2⟩:aW)).bind fun v7 =>
 (zq0 (⟨(⟨v7.1,v7.2.1,v7.2.2.1⟩:aZ),v7.2.2.2⟩:aW)).bind fun v8 =>
 some (.inl (v8.1,(⟨(⟨v8.2.1,v8.2.2.1,v8.2.2.2.1⟩:aZ),v8.2.2.2.2⟩:aW)))
def zG6 (g1:Int×aW) (v4:(List Bool)) (v5:(List aM)) (g2:Int×aW):Option ((Int×aW)⊕aW) :=
 (if (decide (g2.1 < (v5.length:Int)))=true then
  gd (0≤g2.1∧g2.1 < (v5.length:Int)) <|
  gd (0≤g2.1∧g2.1 < (v4.length:Int)) <|
  (if (!(v4.getD g2.1.toNat false))=true then
   (zx3 (g1.2.c.aG.getD g1.1.toNat aH.zero) ((v5.getD g2.1.toNat aM.zero).name) g2.2).bind fun v9 =>
   some (.inl ((i64.wrap (g2.1+1)),v9))
  else
   (zh9 g2.2.c.aF ((v5.getD g2.1.toNat aM.zero).name)).bind fun v10 =>
   gd (0≤v10∧v10 < (g2.2.c.aF.length:Int)) <|
   (zi0 (g2.2.c.aF.getD v10.toNat aA.zero) ((g1.2.c.aG.getD g1.1.toNat aH.zero).aN)).bind fun v11 =>
   gd (0≤g1.1∧g1.1 < ((g2.2.c.aG.length:Nat):Int)) <|
   (zj3 (((g2.2.c.aG.getD g1.1.toNat aH.zero).bH).aP) ((v5.getD g2.1.toNat aM.zero).name)).bind fun v12 =>
   (if (!decide (v11=v12))=true then
    gd (0≤g1.1∧g1.1 < ((g2.2.c.aG.length:Nat):Int)) <|
    (zB9 ((g2.2.c.aG.getD g1.1.toNat aH.zero).bH) (⟨(v5.getD g2.1.toNat aM.zero).name,v12,v11⟩:bK)).bind fun v13 =>
    gd (0≤g1.1∧g1.1 < ((g2.2.c.aG.length:Nat):Int)) <|
    some (.inl ((i64.wrap (g2.1+1)),(⟨(⟨g2.2.c.now,g2.2.c.aF,g2.2.c.aG.set g1.1.toNat ({ (g2.2.c.aG.getD g1.1.toNat aH.zero) with bH:=v13.1 })⟩:aZ),g2.2.ev⟩:aW)))
   else
    some (.inl ((i64.wrap (g2.1+1)),g2.2))))
 else
  some (.inr g2.2))
def zz9 (g1:Int×aW):Option ((Int×aW)⊕aW) :=
 (if (decide (0≤g1.1))=true then
  gd (0≤g1.1∧g1.1 < ((g1.2.c.aG.length:Nat):Int)) <|
  (zd7 2 ((g1.2.c.aG.getD g1.1.toNat aH.zero).aN) g1.2).bind fun v2 =>
  (zC5 v2.2.1 ((g1.2.c.aG.getD g1.1.toNat aH.zero).aN) (((g1.2.c.aG.getD g1.1.toNat aH.zero).bF).bO)).bind fun v3 =>
  (zP3 (((g1.2.c.aG.getD g1.1.toNat aH.zero).bF).bO) v3).bind fun v4 =>
  (zG5 (((g1.2.c.aG.getD g1.1.toNat aH.zero).bF).bO)).bind fun v5 =>
  (zc0 (zG6 g1 v4 v5) (0,(⟨(⟨v2.1,v2.2.1,v2.2.2.1⟩:aZ),v2.2.2.2⟩:aW))).bind (fun z=>zab8 g1 z)
 else
  some (.inr g1.2))
def zk6 (a0:aW):Option aW :=
 (zq0 a0).bind fun v1 =>
 (zc0 zz9 (v1.1,(⟨(⟨v1.2.1,v1.2.2.1,v1.2.2.2.1⟩:aZ),v1.2.2.2.2⟩:aW))).bind (fun z=>zaq9 z)
@[reducible,instance] def zed5 a0 {T1:Type} (v1:T1):=mkJ (zk6 a0,v1) 0 (@zaq9.eq_1) fun (j1:aW)=>⟨[],[(0,⟨false,4,aW.enc aW.zero,[[.int .i64 j1.c.now,la j1.c.aF,.own 3 0 j1.c.aG.length,.own 4 0 j1.ev.length]]⟩),(3,sx j1.c.aG),(4,sx j1.ev)],5⟩
@[reducible,instance] def zed6 (g1:Int×aW) {T1:Type} (v2:T1) {T2:Type} (v3:T2) {T3:Type} (v4:T3) {T4:Type} (v5:T4):=mkJ ((((zz9 g1,v2),v3),v4),v5) 2 (@zab8.eq_1 g1) fun (j2:aW)=>⟨[(0,.ptr 0 0 0),(2,.int .i64 g1.1)],[(0,⟨false,4,aW.enc aW.zero,[[.int .i64 j2.c.now,la j2.c.aF,.own 3 0 j2.c.aG.length,.own 4 0 j2.ev.length]]⟩),(3,sx j2.c.aG),(4,sx j2.ev)],5⟩
@[reducible,instance] def zed7 (g1:Int×aW) (v4:(List Bool)) (v5:(List aM)) {T:Type} (x:T):=mkL x (@zG6.eq_1 g1 v4 v5) fun (g2:Int×aW)=>⟨[(0,.ptr 0 0 0),(2,.int .i64 g1.1),(3,.ptr 3 0 0),(4,.sl (v4.map eB)),(5,la v5),(6,.int .i64 g2.1)],[(0,⟨false,4,aW.enc aW.zero,[[.int .i64 g2.2.c.now,la g2.2.c.aF,.own 4 0 g2.2.c.aG.length,.own 5 0 g2.2.ev.length]]⟩),(3,bx (g1.2.c.aG.getD g1.1.toNat aH.zero)),(4,sx g2.2.c.aG),(5,sx g2.2.ev)],6⟩
@[reducible,instance] def zed8 {T:Type} (x:T):=mkL x (@zz9.eq_1) fun (g1:Int×aW)=>⟨[(0,.ptr 0 0 0),(2,.int .i64 g1.1)],[(0,⟨false,4,aW.enc aW.zero,[[.int .i64 g1.2.c.now,la g1.2.c.aF,.own 3 0 g1.2.c.aG.length,.own 4 0 g1.2.ev.length]]⟩),(3,sx g1.2.c.aG),(4,sx g1.2.ev)],5⟩
instance zaU8 (a0:aW):OkM (zk6 a0) 213 [.ptr 0 0 0] [(0,⟨false,4,aW.enc aW.zero,[[.int .i64 a0.c.now,la a0.c.aF,.own 1 0 a0.c.aG.length,.own 2 0 a0.ev.length]]⟩),(1,sx a0.c.aG),(2,sx a0.ev)] 3 (fun r=>.tup []) (fun r=>[(0,⟨false,4,aW.enc aW.zero,[[.int .i64 r.c.now,la r.c.aF,.own 3 0 r.c.aG.length,.own 4 0 r.ev.length]]⟩),(3,sx r.c.aG),(4,sx r.ev)]) 5:=okm (zk6.eq_1 a0) (fun r=>[]) Tryz.f213 []
attribute [local irreducible] zk6
def zay7 (j1:aW):Option (Int×aW) :=
 some (0,j1)
def zU2 (g1:Int×aW):Option ((Int×aW)⊕aW) :=
 (if (decide (0≤g1.1))=true then
  gd (0≤g1.1∧g1.1 < ((g1.2.c.aG.length:Nat):Int)) <|
  (zd7 4 ((g1.2.c.aG.getD g1.1.toNat aH.zero).aN) g1.2).bind fun v2 =>
  (zs3 g1.1 (⟨(⟨v2.1,v2.2.1,v2.2.2.1⟩:aZ),v2.2.2.2⟩:aW)).bind fun v3 =>
  (zd2 g1.1 v3).bind fun v4 =>
  (zk6 (⟨(⟨v4.1,v4.2.1,v4.2.2.1⟩:aZ),v4.2.2.2⟩:aW)).bind fun v5 =>
  (zc5 v5).bind fun v6 =>
  some (.inl (v6.1,(⟨(⟨v6.2.1,v6.2.2.1,v6.2.2.2.1⟩:aZ),v6.2.2.2.2⟩:aW)))
 else
  some (.inr g1.2))
def zE9 (a0:Int) (a1:aW):Option (Int×aW) :=
 (if (decide (a0 < 0)||decide (1000 < a0))=true then
  some (1,a1)
 else
  (if (decide (i64.wrap (1073741824 - a0) < a1.c.now))=true then
   some (16,a1)
  else
   (zc5 (⟨(⟨(i64.wrap (a1.c.now+a0)),a1.c.aF,a1.c.aG⟩:aZ),a1.ev⟩:aW)).bind fun v1 =>
   (zc0 zU2 (v1.1,(⟨(⟨v1.2.1,v1.2.2.1,v1.2.2.2.1⟩:aZ),v1.2.2.2.2⟩:aW))).bind (fun z=>zay7 z)))
@[reducible,instance] def zed9 a0 a1 {T1:Type} (v1:T1):=mkJ (zE9 a0 a1,v1) 0 (@zay7.eq_1) fun (j1:aW)=>⟨[],[(0,⟨false,4,aW.enc aW.zero,[[.int .i64 j1.c.now,la j1.c.aF,.own 3 0 j1.c.aG.length,.own 4 0 j1.ev.length]]⟩),(3,sx j1.c.aG),(4,sx j1.ev)],5⟩
@[reducible,instance] def zee0 {T:Type} (x:T):=mkL x (@zU2.eq_1) fun (g1:Int×aW)=>⟨[(0,.ptr 0 0 0),(5,.int .i64 g1.1)],[(0,⟨false,4,aW.enc aW.zero,[[.int .i64 g1.2.c.now,la g1.2.c.aF,.own 3 0 g1.2.c.aG.length,.own 4 0 g1.2.ev.length]]⟩),(3,sx g1.2.c.aG),(4,sx g1.2.ev)],5⟩
instance zcm4 (a0:Int) (a1:aW):OkM (zE9 a0 a1) 209 [.ptr 0 0 0,.int .i64 a0] [(0,⟨false,4,aW.enc aW.zero,[[.int .i64 a1.c.now,la a1.c.aF,.own 1 0 a1.c.aG.length,.own 2 0 a1.ev.length]]⟩),(1,sx a1.c.aG),(2,sx a1.ev)] 3 (fun r=>.int .i64 r.1) (fun r=>[(0,⟨false,4,aW.enc aW.zero,[[.int .i64 r.2.c.now,la r.2.c.aF,.own 3 0 r.2.c.aG.length,.own 4 0 r.2.ev.length]]⟩),(3,sx r.2.c.aG),(4,sx r.2.ev)]) 5:=okm (zE9.eq_1 a0 a1) (fun r=>[.int .i64 r.1]) Tryz.f209 []
attribute [local irreducible] zE9
def zY5 (j1:aW):Option (Int×aW) :=
 (zk6 j1).bind fun v6 =>
 some (0,v6)
def zE1 (a0:Int) (a1:bL) (v5:(List aM)) (g1:Int×aW):Option ((Int×aW)⊕aW) :=
 (if (decide (g1.1 < (v5.length:Int)))=true then
  gd (0≤a0∧a0 < ((g1.2.c.aG.length:Nat):Int)) <|
  gd (0≤g1.1∧g1.1 < (v5.length:Int)) <|
  (zab6 g1.2.c.aF ((g1.2.c.aG.getD a0.toNat aH.zero).aN) (v5.getD g1.1.toNat aM.zero) a1.bG).bind fun v7 =>
  (zd0 v7.1 v7.2.1 g1.2).bind fun v8 =>
  some (.inl ((i64.wrap (g1.1+1)),(⟨(⟨v8.1,v8.2.1,v8.2.2.1⟩:aZ),v8.2.2.2⟩:aW)))
 else
  some (.inr g1.2))
def zy9 (a0:Int) (a1:bL) (a2:aW):Option (Int×aW) :=
 gd (0≤a0∧a0 < ((a2.c.aG.length:Nat):Int)) <|
 (if (a2.c.aG.getD a0.toNat aH.zero).bE=true then
  some (14,a2)
 else
  (zI4 a1).bind fun v1 =>
  (if (!v1)=true then
   some (1,a2)
  else
   (zg9 a2.c.aF).bind fun v2 =>
   (zG9 v2 a1.bO).bind fun v3 =>
   (if (!decide (v3=0))=true then
    some (v3,a2)
   else
    gd (0≤a0∧a0 < ((a2.c.aG.length:Nat):Int)) <|
    gd (0≤a0∧a0 < ((a2.c.aG.length:Nat):Int)) <|
    gd (0≤a0∧a0 < ((a2.c.aG.length:Nat):Int)) <|
    (zd2 a0 (⟨(⟨a2.c.now,a2.c.aF,((a2.c.aG.set a0.toNat ({ (a2.c.aG.getD a0.toNat aH.zero) with bE:=true })).set a0.toNat ({ ((a2.c.aG.set a0.toNat ({ (a2.c.aG.getD a0.toNat aH.zero) with bE:=true })).getD a0.toNat aH.zero) with bF:=a1 })).set a0.toNat ({ (((a2.c.aG.set a0.toNat ({ (a2.c.aG.getD a0.toNat aH.zero) with bE:=true })).set a0.toNat ({ ((a2.c.aG.set a0.toNat ({ (a2.c.aG.getD a0.toNat aH.zero) with bE:=true })).getD a0.toNat aH.zero) with bF:=a1 })).getD a0.toNat aH.zero) with since:=a2.c.now })⟩:aZ),a2.ev⟩:aW)).bind fun v4 =>
    (zG5 a1.bO).bind fun v5 =>
    (zc0 (zE1 a0 a1 v5) (0,(⟨(⟨v4.1,v4.2.1,v4.2.2.1⟩:aZ),v4.2.2.2⟩:aW))).bind (fun z=>zY5 z))))
@[reducible,instance] def zee1 a0 a1 a2 {T1:Type} (v1:T1) {T2:Type} (v2:T2) {T3:Type} (v3:T3) {T4:Type} (v4:T4) {T5:Type} (v5:T5):=mkJ (((((zy9 a0 a1 a2,v1),v2),v3),v4),v5) 0 (@zY5.eq_1) fun (j1:aW)=>⟨[(0,.ptr 0 0 0)],[(0,⟨false,4,aW.enc aW.zero,[[.int .i64 j1.c.now,la j1.c.aF,.own 3 0 j1.c.aG.length,.own 4 0 j1.ev.length]]⟩),(3,sx j1.c.aG),(4,sx j1.ev)],5⟩
@[reducible,instance] def zee2 (a0:Int) (a1:bL) (v5:(List aM)) {T:Type} (x:T):=mkL x (@zE1.eq_1 a0 a1 v5) fun (g1:Int×aW)=>⟨[(0,.ptr 0 0 0),(1,.int .i64 a0),(5,.ptr 3 0 0),(8,la v5),(9,.int .i64 g1.1)],[(0,⟨false,4,aW.enc aW.zero,[[.int .i64 g1.2.c.now,la g1.2.c.aF,.own 4 0 g1.2.c.aG.length,.own 5 0 g1.2.ev.length]]⟩),(3,bx a1),(4,sx g1.2.c.aG),(5,sx g1.2.ev)],6⟩
instance zbY1 (a0:Int) (a1:bL) (a2:aW):OkM (zy9 a0 a1 a2) 210 [.ptr 0 0 0,.int .i64 a0,ga a1] [(0,⟨false,4,aW.enc aW.zero,[[.int .i64 a2.c.now,la a2.c.aF,.own 1 0 a2.c.aG.length,.own 2 0 a2.ev.length]]⟩),(1,sx a2.c.aG),(2,sx a2.ev)] 3 (fun r=>.int .i64 r.1) (fun r=>[(0,⟨false,4,aW.enc aW.zero,[[.int .i64 r.2.c.now,la r.2.c.aF,.own 3 0 r.2.c.aG.length,.own 4 0 r.2.ev.length]]⟩),(3,sx r.2.c.aG),(4,sx r.2.ev)]) 5:=okm (zy9.eq_1 a0 a1 a2) (fun r=>[.int .i64 r.1]) Tryz.f210 []
attribute [local irreducible] zy9
def zD9 (a0:Int) (a1:ByteArray) (a2:aW):Option (Int×aW) :=
 gd (0≤a0∧a0 < ((a2.c.aG.length:Nat):Int)) <|
 (if (a2.c.aG.getD a0.toNat aH.zero).bE=true then
  some (14,a2)
 else
  gd (0≤a0∧a0 < ((a2.c.aG.length:Nat):Int)) <|
  (zj3 (((a2.c.aG.getD a0.toNat aH.zero).bH).aP) a1).bind fun v1 =>
  (if (decide (v1={ aC.zero with  }))=true then
   some (10,a2)
  else
   gd (0≤a0∧a0 < ((a2.c.aG.length:Nat):Int)) <|
   (zI5 a2.c.aF ((a2.c.aG.getD a0.toNat aH.zero).aN) ({ aM.zero with name:=a1 })).bind fun v2 =>
   (zd0 v2.1 v2.2.1 a2).bind fun v3 =>
   gd (0≤a0∧a0 < ((v3.2.2.1.length:Nat):Int)) <|
   (zy8 ((v3.2.2.1.getD a0.toNat aH.zero).bH) a1).bind fun v4 =>
   gd (0≤a0∧a0 < ((v3.2.2.1.length:Nat):Int)) <|
   (zd2 a0 (⟨(⟨v3.1,v3.2.1,v3.2.2.1.set a0.toNat ({ (v3.2.2.1.getD a0.toNat aH.zero) with bH:=v4.1 })⟩:aZ),v3.2.2.2⟩:aW)).bind fun v5 =>
   (zk6 (⟨(⟨v5.1,v5.2.1,v5.2.2.1⟩:aZ),v5.2.2.2⟩:aW)).bind fun v6 =>
   some (0,v6)))
instance zbY2 (a0:Int) (a1:ByteArray) (a2:aW):OkM (zD9 a0 a1 a2) 214 [.ptr 0 0 0,.int .i64 a0,.str a1] [(0,⟨false,4,aW.enc aW.zero,[[.int .i64 a2.c.now,la a2.c.aF,.own 1 0 a2.c.aG.length,.own 2 0 a2.ev.length]]⟩),(1,sx a2.c.aG),(2,sx a2.ev)] 3 (fun r=>.int .i64 r.1) (fun r=>[(0,⟨false,4,aW.enc aW.zero,[[.int .i64 r.2.c.now,la r.2.c.aF,.own 3 0 r.2.c.aG.length,.own 4 0 r.2.ev.length]]⟩),(3,sx r.2.c.aG),(4,sx r.2.ev)]) 5:=okm (zD9.eq_1 a0 a1 a2) (fun r=>[.int .i64 r.1]) Tryz.f214 []
attribute [local irreducible] zD9
def zK0 (a0:Int) (j2:aW):Option (Int×aW) :=
 (zd2 a0 j2).bind fun v2 =>
 (zk6 (⟨(⟨v2.1,v2.2.1,v2.2.2.1⟩:aZ),v2.2.2.2⟩:aW)).bind fun v3 =>
 some (0,v3)
@[go_sem] def zdy7 (a0:Int) (j2:aW):St:=⟨[(0,.ptr 0 0 0),(1,.int .i64 a0)],[(0,⟨false,4,aW.enc aW.zero,[[.int .i64 j2.c.now,la j2.c.aF,.own 3 0 j2.c.aG.length,.own 4 0 j2.ev.length]]⟩),(3,sx j2.c.aG),(4,sx j2.ev)],5⟩
def zC0 (a0:Int) (v1:aX×(List aM)×Int) (j1:aW) (g1:Int×aW):Option ((Int×aW)⊕aW) :=
 (if (decide (g1.1 < (v1.2.1.length:Int)))=true then
  gd (0≤g1.1∧g1.1 < (v1.2.1.length:Int)) <|
  (zh9 g1.2.c.aF ((v1.2.1.getD g1.1.toNat aM.zero).name)).bind fun v4 =>
  gd (0≤v4∧v4 < (g1.2.c.aF.length:Int)) <|
  (zi0 (g1.2.c.aF.getD v4.toNat aA.zero) ((j1.c.aG.getD a0.toNat aH.zero).aN)).bind fun v5 =>
  gd (0≤g1.1∧g1.1 < (v1.2.1.length:Int)) <|
  (if (!decide (v5=(v1.2.1.getD g1.1.toNat aM.zero).aK))=true then
   gd (0≤g1.1∧g1.1 < (v1.2.1.length:Int)) <|
   (zI5 g1.2.c.aF ((j1.c.aG.getD a0.toNat aH.zero).aN) (v1.2.1.getD g1.1.toNat aM.zero)).bind fun v6 =>
   (zd0 v6.1 v6.2.1 g1.2).bind fun v7 =>
   some (.inl ((i64.wrap (g1.1+1)),(⟨(⟨v7.1,v7.2.1,v7.2.2.1⟩:aZ),v7.2.2.2⟩:aW)))
  else
   some (.inl ((i64.wrap (g1.1+1)),g1.2)))
 else
  some (.inr g1.2))
@[go_sem] def zdy8 (a0:Int) (v1:aX×(List aM)×Int) (j1:aW) (g1:Int×aW):St:=⟨[(0,.ptr 0 0 0),(1,.int .i64 a0),(8,la v1.2.1),(10,.ptr 3 0 0),(11,.int .i64 g1.1)],[(0,⟨false,4,aW.enc aW.zero,[[.int .i64 g1.2.c.now,la g1.2.c.aF,.own 4 0 g1.2.c.aG.length,.own 5 0 g1.2.ev.length]]⟩),(3,bx ((j1.c.aG.getD a0.toNat aH.zero).aN)),(4,sx g1.2.c.aG),(5,sx g1.2.ev)],6⟩
def zx8 (a0:Int) (v1:aX×(List aM)×Int) (j1:aW):Option (Int×aW) :=
 gd (0≤a0∧a0 < ((j1.c.aG.length:Nat):Int)) <|
 gd (0≤a0∧a0 < ((j1.c.aG.length:Nat):Int)) <|
 (zc0 (zC0 a0 v1 j1) (0,(⟨(⟨j1.c.now,j1.c.aF,j1.c.aG.set a0.toNat ({ (j1.c.aG.getD a0.toNat aH.zero) with bH:=v1.1 })⟩:aZ),j1.ev⟩:aW))).bind (fun z=>zK0 a0 z)
@[go_sem] def zdy9 (a0:Int) (v1:aX×(List aM)×Int) (j1:aW):St:=⟨[(0,.ptr 0 0 0),(1,.int .i64 a0),(7,.ptr 3 0 0),(8,la v1.2.1)],[(0,⟨false,4,aW.enc aW.zero,[[.int .i64 j1.c.now,la j1.c.aF,.own 4 0 j1.c.aG.length,.own 5 0 j1.ev.length]]⟩),(3,bx v1.1),(4,sx j1.c.aG),(5,sx j1.ev)],6⟩
def zx9 (a0 a1:Int) (a2:aW):Option (Int×aW) :=
 gd (0≤a0∧a0 < ((a2.c.aG.length:Nat):Int)) <|
 (zA9 ((a2.c.aG.getD a0.toNat aH.zero).bH) a1).bind fun v1 =>
 (if (!decide (v1.2.2=0))=true then
  some (v1.2.2,a2)
 else
  gd (0≤a0∧a0 < ((a2.c.aG.length:Nat):Int)) <|
  (if (a2.c.aG.getD a0.toNat aH.zero).bE=true then
   (zs3 a0 a2).bind fun v8 =>
   zx8 a0 v1 v8
  else
   zx8 a0 v1 a2))
theorem zaO1 (a0 a1:Int) (a2:aW) (r:Int×aW) (h:zx9 a0 a1 a2=some r):MFn C 216 [.ptr 0 0 0,.int .i64 a0,.int .i64 a1] [(0,⟨false,4,aW.enc aW.zero,[[.int .i64 a2.c.now,la a2.c.aF,.own 1 0 a2.c.aG.length,.own 2 0 a2.ev.length]]⟩),(1,sx a2.c.aG),(2,sx a2.ev)] 3 (.int .i64 r.1) [(0,⟨false,4,aW.enc aW.zero,[[.int .i64 r.2.c.now,la r.2.c.aF,.own 3 0 r.2.c.aG.length,.own 4 0 r.2.ev.length]]⟩),(3,sx r.2.c.aG),(4,sx r.2.ev)] 5:=by
 refine zaz8 Tryz.f216 [] [.int .i64 r.1] fun E hG hN hK=>?_
 unfold zx9 at h
 refine za2 (za3 hG ?_)
 refine za2 ?_
 obtain ⟨hb8,h⟩:=zd5 h
 refine za3 hG ?_
 obtain ⟨v1,hv1,h⟩:=zc9 h
 refine zq4 (fun hg=>zbY0 _ _ _ hv1) ?_
 refine za2 (za2 (za3 hG ?_))
 refine zl0 rfl hG h (fun _ h=>?_) (fun _ h=>?_)
 · refine za2 (za3 hG ?_)
   refine zt2 ?_
   exact zS4 [(0,0),(3,1),(4,2)] h
 refine zj2 ?_
 refine za2 (za2 ?_)
 obtain ⟨hb7,h⟩:=zd5 h
 refine za3 hG ?_
 refine zaP1 (zdy9 a0 v1) (fun v=>zx8 a0 v1 v=some r) rfl hG h ?_ (fun _ h=>?_) (fun _ h=>?_)
 · intro j1 h
   unfold zx8 at h
   refine g_st ?_
   refine za2 ?_
   obtain ⟨hb6,h⟩:=zd5 h
   refine za3 hG ?_
   refine za2 ?_
   obtain ⟨hb5,h⟩:=zd5 h
   refine zad1 zw6 hG ?_
   refine za2 (za2 (za3 hG ?_))
   refine zB6 (zdy7 a0) (fun v=>zK0 a0 v=some r) ?_ ?_
   · intro j2 h
     unfold zK0 at h
     refine g_st ?_
     refine za2 (za3 hG ?_)
     obtain ⟨v2,hv2,h⟩:=zc9 h
     refine zs2 [(0,0),(1,3),(2,4)] [] [0,1,2] ((zbd2 a0 j2).ok _ hv2) rfl rfl ?_
     refine za2 (za3 hG ?_)
     obtain ⟨v3,hv3,h⟩:=zc9 h
     refine zs2 [(0,0),(1,3),(2,4)] [(3,5),(4,6)] [0,1,2,3,4] ((zaU8 (⟨(⟨v2.1,v2.2.1,v2.2.2.1⟩:aZ),v2.2.2.2⟩:aW)).ok _ hv3) rfl rfl ?_
     refine za2 (za3 hG ?_)
     refine zt2 ?_
     exact zS4 [(0,0),(3,5),(4,6)] h
   refine zY4 (zdy8 a0 v1 j1) hK [(0,0),(3,6),(4,4),(5,5)] h (fun x_l1 h g1 y_l1 h_l1 hx_l1=>?_)
   unfold zC0 at h_l1
   refine g_st ?_
   refine za2 (za2 (za3 hG ?_))
   refine zl0 rfl hG h_l1 (fun _ h_l1=>?_) (fun _ h_l1=>?_)
   · refine zj2 ?_
     refine za2 (zB5 (za2 ?_))
     obtain ⟨hb4,h_l1⟩:=zd5 h_l1
     refine zaX8 zw6 hG ?_
     obtain ⟨v4,hv4,h_l1⟩:=zc9 h_l1
     obtain ⟨hb3,h_l1⟩:=zd5 h_l1
     refine zan4 (fun hg=>(zbn7 g1.2.c.aF ((v1.2.1.getD g1.1.toNat aM.zero).name)).ok _ hv4) ?_
     obtain ⟨v5,hv5,h_l1⟩:=zc9 h_l1
     obtain ⟨hb2,h_l1⟩:=zd5 h_l1
     refine zan4 (fun hg=>(zaR6 (g1.2.c.aF.getD v4.toNat aA.zero) ((j1.c.aG.getD a0.toNat aH.zero).aN)).ok _ hv5) ?_
     refine zl0 rfl hG h_l1 (fun _ h_l1=>?_) (fun _ h_l1=>?_)
     · refine za2 ?_
       obtain ⟨hb1,h_l1⟩:=zd5 h_l1
       refine zaX8 zw6 hG ?_
       obtain ⟨v6,hv6,h_l1⟩:=zc9 h_l1
       refine zan4 (fun hg=>zbh0 _ _ _ _ hv6) ?_
       refine za3 hG ?_
       obtain ⟨v7,hv7,h_l1⟩:=zc9 h_l1
       refine zs2 [(0,0),(1,4),(2,5)] [(3,6)] [0,1,2,3] ((zbd1 v6.1 v6.2.1 g1.2).ok _ hv7) rfl rfl ?_
       refine za3 hG ?_
       exact zF8 hK [(0,0),(3,3),(4,4),(5,6)] h_l1
     refine zj2 ?_
     refine za3 hG ?_
     exact zF8 hK [(0,0),(3,3),(4,4),(5,5)] h_l1
   refine zH3 ?_
   cases h_l1
   cases hx_l1 _ rfl
   exact zy4 hK [(0,0),(3,4),(4,5)] g1.2 (by exact h)
 · refine za3 hG ?_
   obtain ⟨v8,hv8,h⟩:=zc9 h
   refine zs2 [(0,0),(1,1),(2,2)] [(3,4),(4,5)] [0,1,2,3,4] ((zaO0 a0 a2).ok _ hv8) rfl rfl ?_
   exact zy4 hK [(0,0),(3,3),(4,4),(5,5)] v8 (by exact h)
 refine zj2 ?_
 exact zy4 hK [(0,0),(3,3),(4,1),(5,2)] a2 (by exact h)
instance zbW9 (a0 a1:Int) (a2:aW):OkM (zx9 a0 a1 a2) 216 [.ptr 0 0 0,.int .i64 a0,.int .i64 a1] [(0,⟨false,4,aW.enc aW.zero,[[.int .i64 a2.c.now,la a2.c.aF,.own 1 0 a2.c.aG.length,.own 2 0 a2.ev.length]]⟩),(1,sx a2.c.aG),(2,sx a2.ev)] 3 (fun r=>.int .i64 r.1) (fun r=>[(0,⟨false,4,aW.enc aW.zero,[[.int .i64 r.2.c.now,la r.2.c.aF,.own 3 0 r.2.c.aG.length,.own 4 0 r.2.ev.length]]⟩),(3,sx r.2.c.aG),(4,sx r.2.ev)]) 5:=⟨zaO1 a0 a1 a2⟩
attribute [local irreducible] zx9
def zF0 (a0:Int) (a1:aW):Option aW :=
 gd (0≤a0∧a0 < ((a1.c.aG.length:Nat):Int)) <|
 (zQ4 a1.c.aF ((a1.c.aG.getD a0.toNat aH.zero).aN)).bind fun v1 =>
 (zd0 v1.1 v1.2 a1).bind fun v2 =>
 gd (0≤0∧0≤a0∧a0≤((v2.2.2.1.length:Nat):Int)∧a0=a0) <|
 gd (0≤i64.wrap (a0+1)∧i64.wrap (a0+1)≤((v2.2.2.1.length:Nat):Int)∧((v2.2.2.1.length:Nat):Int)≤((v2.2.2.1.length:Nat):Int)) <|
 gd (a0.toNat+((v2.2.2.1.drop ((i64.wrap (a0+1)).toNat)).take (v2.2.2.1.length - (i64.wrap (a0+1)).toNat)).length≤4294967296∧a0.toNat≤v2.2.2.1.length) <|
 (zd7 5 ((a1.c.aG.getD a0.toNat aH.zero).aN) (⟨(⟨v2.1,v2.2.1,(v2.2.2.1.take a0.toNat++(v2.2.2.1.drop ((i64.wrap (a0+1)).toNat)).take (v2.2.2.1.length - (i64.wrap (a0+1)).toNat))⟩:aZ),v2.2.2.2⟩:aW)).bind fun v3 =>
 (zk6 (⟨(⟨v3.1,v3.2.1,v3.2.2.1⟩:aZ),v3.2.2.2⟩:aW)).bind fun v4 =>
 some v4
instance zcm5 (a0:Int) (a1:aW):OkM (zF0 a0 a1) 217 [.ptr 0 0 0,.int .i64 a0] [(0,⟨false,4,aW.enc aW.zero,[[.int .i64 a1.c.now,la a1.c.aF,.own 1 0 a1.c.aG.length,.own 2 0 a1.ev.length]]⟩),(1,sx a1.c.aG),(2,sx a1.ev)] 3 (fun r=>.tup []) (fun r=>[(0,⟨false,4,aW.enc aW.zero,[[.int .i64 r.c.now,la r.c.aF,.own 3 0 r.c.aG.length,.own 4 0 r.ev.length]]⟩),(3,sx r.c.aG),(4,sx r.ev)]) 5:=okm (zF0.eq_1 a0 a1) (fun r=>[]) Tryz.f217 [(42,1)]
attribute [local irreducible] zF0
def zK1 (a0:bM) (a1:aW):Option (Int×aW) :=
 (if (decide (a0.kind < 1)||decide (9 < a0.kind))=true then
  some (1,a1)
 else
  (if (decide (a0.kind=1))=true then
   (zh0 a0.aN a0.n a1).bind fun v1 =>
   some (v1.1,v1.2)
  else
   (if (decide (a0.kind=9))=true then
    (zE9 a0.n a1).bind fun v2 =>
    some (v2.1,v2.2)
   else
    (zi2 a1.c.aG a0.aN).bind fun v3 =>
    (if (decide (v3 < 0))=true then
     some (10,a1)
    else
     gd (0≤v3∧v3 < ((a1.c.aG.length:Nat):Int)) <|
     (if (decide (a0.kind=2))=true then
      (zy9 v3 a0.bF a1).bind fun v4 =>
      some (v4.1,v4.2)
     else
      (if (decide (a0.kind=3))=true then
       (if (!(a1.c.aG.getD v3.toNat aH.zero).bE)=true then
        some (14,a1)
       else
        (zs3 v3 a1).bind fun v5 =>
        (zd2 v3 v5).bind fun v6 =>
        (zk6 (⟨(⟨v6.1,v6.2.1,v6.2.2.1⟩:aZ),v6.2.2.2⟩:aW)).bind fun v7 =>
        some (0,v7))
      else
       (if (decide (a0.kind=4))=true then
        (zD9 v3 a0.name a1).bind fun v8 =>
        some (v8.1,v8.2)
       else
        (if (decide (a0.kind=5))=true then
         (if (a1.c.aG.getD v3.toNat aH.zero).bE=true then
          some (14,a1)
         else
          gd (0≤v3∧v3 < ((a1.c.aG.length:Nat):Int)) <|
          (zD6 ((a1.c.aG.getD v3.toNat aH.zero).bH) a0.n).bind fun v9 =>
          (if (!decide (v9.2=0))=true then
           some (v9.2,a1)
          else
           gd (0≤v3∧v3 < ((a1.c.aG.length:Nat):Int)) <|
           (zd2 v3 (⟨(⟨a1.c.now,a1.c.aF,a1.c.aG.set v3.toNat ({ (a1.c.aG.getD v3.toNat aH.zero) with bH:=v9.1 })⟩:aZ),a1.ev⟩:aW)).bind fun v10 =>
           some (0,(⟨(⟨v10.1,v10.2.1,v10.2.2.1⟩:aZ),v10.2.2.2⟩:aW))))
        else
         (if (decide (a0.kind=6))=true then
          (zx9 v3 a0.n a1).bind fun v11 =>
          some (v11.1,v11.2)
         else
          (if (decide (a0.kind=8))=true then
           (if (a1.c.aG.getD v3.toNat aH.zero).bE=true then
            some (14,a1)
           else
            (zF0 v3 a1).bind fun v12 =>
            some (0,v12))
          else
           (if (decide (a0.kind=7))=true then
            (zF0 v3 a1).bind fun v13 =>
            some (0,v13)
           else
            some (0,a1))))))))))))
instance zcy0 (a0:bM) (a1:aW):OkM (zK1 a0 a1) 159 [.ptr 0 0 0,ga a0] [(0,⟨false,4,aW.enc aW.zero,[[.int .i64 a1.c.now,la a1.c.aF,.own 1 0 a1.c.aG.length,.own 2 0 a1.ev.length]]⟩),(1,sx a1.c.aG),(2,sx a1.ev)] 3 (fun r=>.int .i64 r.1) (fun r=>[(0,⟨false,4,aW.enc aW.zero,[[.int .i64 r.2.c.now,la r.2.c.aF,.own 3 0 r.2.c.aG.length,.own 4 0 r.2.ev.length]]⟩),(3,sx r.2.c.aG),(4,sx r.2.ev)]) 5:=okm (zK1.eq_1 a0 a1) (fun r=>[.int .i64 r.1]) Tryz.f159 []
attribute [local irreducible] zK1
def zat5 (a0:aZ) (a1:bM):Option (aZ×(List bI)×Int) :=
 (zP2 a0).bind fun v1 =>
 (if (!v1)=true then
  some ({ aZ.zero with  },[],2)
 else
  (zj9 a0).bind fun v2 =>
  (zK1 a1 (⟨(⟨v2.now,v2.aF,v2.aG⟩:aZ),[]⟩:aW)).bind fun v3 =>
  (if (!decide (v3.1=0))=true then
   some ({ aZ.zero with  },[],v3.1)
  else
   some (v3.2.c,v3.2.ev,0)))
instance zds7 (a0:aZ) (a1:bM):OkP (zat5 a0 a1) 97 [ga a0,ga a1] (fun r=>.tup [ga r.1,la r.2.1,.int .i64 r.2.2]):=⟨fun r h=>by
 refine zad2 Tryz.f97 [(15,14)] fun E hG hN hK=>?_
 have hm:Mk (zat5 a0 a1):=trivial
 unfold zat5 at h
 refine za2 (za3 hG ?_)
 refine za2 (za2 (za3 hG ?_))
 obtain ⟨v1,hv1,h⟩:=zc9 h
 have hm:=mkP hm v1
 refine zq4 (fun hg=>(zbg9 a0).ok _ hv1) ?_
 refine zl0 rfl hG h (fun _ h=>?_) (fun _ h=>?_)
 · exact gogo
 refine zj2 ?_
 refine za2 (za3 hG ?_)
 obtain ⟨v2,hv2,h⟩:=zc9 h
 have hm:=mkP hm v2
 refine zs2 [] [(0,3),(1,4)] [0,1] (zbA1 _ _ hv2) rfl rfl ?_
 refine g_gh (.fz [3]) ?_
 refine g_gh (.ownb 5 3 7 (bI.enc bI.zero)) ?_
 exact gogo⟩
attribute [local irreducible] zat5
def zbo0 (j1:aZ):Option aZ :=
 some j1
def zaD0 (a1:List bM) (g1:Int×aZ):Option ((Int×aZ)⊕aZ) :=
 (if (decide (g1.1 < (a1.length:Int)))=true then
  gd (0≤g1.1∧g1.1 < (a1.length:Int)) <|
  (zat5 g1.2 (a1.getD g1.1.toNat bM.zero)).bind fun v1 =>
  (if (decide (v1.2.2=0))=true then
   some (.inl ((i64.wrap (g1.1+1)),v1.1))
  else
   some (.inl ((i64.wrap (g1.1+1)),g1.2)))
 else
  some (.inr g1.2))
def zat6 (a0:aZ) (a1:List bM):Option aZ :=
 (zc0 (zaD0 a1) (0,a0)).bind (fun z=>zbo0 z)
@[reducible,instance] def zee3 a0 a1:=mkJ (zat6 a0 a1) 0 (@zbo0.eq_1) fun (j1:aZ)=>⟨[(2,.ptr 0 0 0),(4,.ptr 1 0 0)],[(0,bx j1),(1,bx aZ.zero)],2⟩
@[reducible,instance] def zee4 (a1:List bM) {T:Type} (x:T):=mkL x (@zaD0.eq_1 a1) fun (g1:Int×aZ)=>⟨[(1,la a1),(2,.ptr 0 0 0),(4,.ptr 1 0 0),(5,.int .i64 g1.1)],[(0,bx g1.2),(1,bx aZ.zero)],2⟩
instance zds8 (a0:aZ) (a1:List bM):OkP (zat6 a0 a1) 57 [ga a0,la a1] (fun r=>ga r):=ok1 (zat6.eq_1 a0 a1) Tryz.f57 []
attribute [local irreducible] zat6
def zaf5 (a0:List Int):Option aZ :=
 (zP4 a0).bind fun v1 =>
 (zam0 v1.1).bind fun v2 =>
 (zat6 v2.1 v1.2).bind fun v3 =>
 some v3
instance zcW2 (a0:List Int):OkP (zaf5 a0) 19 [.sl (a0.map (eI .i64))] (fun r=>ga r):=ok1 (zaf5.eq_1 a0) Tryz.f19 []
attribute [local irreducible] zaf5
def zbo1 (j1:aD):Option aD :=
 some j1
def zaD1 (a0:aZ) (g1:Int×aD):Option ((Int×aD)⊕aD) :=
 (if (decide (g1.1 < (a0.aG.length:Int)))=true then
  gd (0≤g1.1∧g1.1 < (a0.aG.length:Int)) <|
  (if (a0.aG.getD g1.1.toNat aH.zero).bE=true then
   gd (0≤g1.1∧g1.1 < (a0.aG.length:Int)) <|
   gd (0≤g1.1∧g1.1 < (a0.aG.length:Int)) <|
   gd (0≤g1.1∧g1.1 < (a0.aG.length:Int)) <|
   gd (g1.2.aQ.length+1≤4294967296) <|
   some (.inl ((i64.wrap (g1.1+1)),(⟨g1.2.aF,(g1.2.aQ++[(⟨(a0.aG.getD g1.1.toNat aH.zero).aN,((a0.aG.getD g1.1.toNat aH.zero).bF).bO,(a0.aG.getD g1.1.toNat aH.zero).gen⟩:bC)])⟩:aD)))
  else
   some (.inl ((i64.wrap (g1.1+1)),g1.2)))
 else
  some (.inr g1.2))
def zam1 (a0:aZ):Option aD :=
 (zP2 a0).bind fun v1 =>
 (if (!v1)=true then
  some ({ aD.zero with  })
 else
  gd (a0.aF.length≤4294967296) <|
  (zc0 (zaD1 a0) (0,(⟨a0.aF,[]⟩:aD))).bind (fun z=>zbo1 z))
@[reducible,instance] def zee5 (a0:aZ) {T1:Type} (v1:T1):=mkJ (zam1 a0,v1) 0 (@zbo1.eq_1) fun (j1:aD)=>⟨[(2,.ptr 0 0 0),(3,.ptr 1 0 0)],[(0,bx aD.zero),(1,⟨false,2,aD.enc aD.zero,[[.own 2 0 j1.aF.length,.own 3 0 j1.aQ.length]]⟩),(2,sx j1.aF),(3,sx j1.aQ)],4⟩
@[reducible,instance] def zee6 (a0:aZ) {T:Type} (x:T):=mkL x (@zaD1.eq_1 a0) fun (g1:Int×aD)=>⟨[(1,.ptr 0 0 0),(2,.ptr 1 0 0),(3,.ptr 2 0 0),(4,.int .i64 g1.1)],[(0,bx a0),(1,bx aD.zero),(2,⟨false,2,aD.enc aD.zero,[[.own 3 0 g1.2.aF.length,.own 4 0 g1.2.aQ.length]]⟩),(3,sx g1.2.aF),(4,sx g1.2.aQ)],5⟩
instance zds9 (a0:aZ):OkP (zam1 a0) 18 [ga a0] (fun r=>ga r):=⟨fun r h=>by
 refine zad2 Tryz.f18 [(9,1),(13,4),(3,4)] fun E hG hN hK=>?_
 have hm:Mk (zam1 a0):=trivial
 unfold zam1 at h
 refine za2 (za3 hG ?_)
 refine za2 (za2 (za3 hG ?_))
 obtain ⟨v1,hv1,h⟩:=zc9 h
 have hm:=mkP hm v1
 refine zq4 (fun hg=>(zbg9 a0).ok _ hv1) ?_
 refine zl0 rfl hG h (fun _ h=>?_) (fun _ h=>?_)
 · exact gogo
 refine zj2 ?_
 refine za2 ?_
 obtain ⟨hb6,h⟩:=zd5 h
 refine za3 hG ?_
 refine g_gh (.ownb 4 1 9 (bC.enc bC.zero)) ?_
 exact gogo⟩
attribute [local irreducible] zam1
def zap4 (a0:List Int):Option aD :=
 (zaf5 a0).bind fun v1 =>
 (zam1 v1).bind fun v2 =>
 some v2
instance zbY3 (a0:List Int):OkP (zap4 a0) 6 [.sl (a0.map (eI .i64))] (fun r=>ga r):=ok1 (zap4.eq_1 a0) Tryz.f6 []
attribute [local irreducible] zap4
@[go_sem] theorem zdA4 (a:Nat) (l k:List Nat):(a :: l)++k=a :: (l++k):=rfl
@[go_sem] theorem zdE1 (k:List Nat):[]++k=k:=rfl
def zL9 (v2:aD) (j2:aD×aD):Option Bool :=
 (zF3 j2.1 j2.2).bind fun v3 =>
 (zF3 j2.2 j2.1).bind fun v4 =>
 (zU8).bind fun v5 =>
 ((if ((v5&&decide (v3.2=0))&&decide (v4.2=0))=true then zt0 v3.1 v2 else some false)).bind fun v6 =>
 ((if (((v5&&decide (v3.2=0))&&decide (v4.2=0))&&v6)=true then zt0 v4.1 v2 else some false)).bind fun v7 =>
 some ((((v5&&decide (v3.2=0))&&decide (v4.2=0))&&v6)&&v7)
@[go_sem] def zdz0 (v2:aD) (j2:aD×aD):St:=⟨[(5,.ptr 0 0 0),(7,.ptr 1 0 0),(8,.ptr 2 0 0)],[(0,bx v2),(1,⟨false,2,aD.enc aD.zero,[[.own 3 0 j2.1.aF.length,.own 4 0 j2.1.aQ.length]]⟩),(2,⟨false,2,aD.enc aD.zero,[[.own 5 0 j2.2.aF.length,.own 6 0 j2.2.aQ.length]]⟩),(3,sx j2.1.aF),(4,sx j2.1.aQ),(5,sx j2.2.aF),(6,sx j2.2.aQ)],7⟩
def zE2 (v2:aD) (g1:Int×bJ×aD×aD) (v8:Int×bJ) (j3:aD):Option ((Int×bJ×aD×aD)⊕(aD×aD)) :=
 (if (!decide (v8.1=0))=true then
  gd (0≤g1.1∧g1.1 < (v2.aQ.length:Int)) <|
  gd (g1.2.2.2.aQ.length+1≤4294967296) <|
  some (.inl ((i64.wrap (g1.1+1)),v8.2,j3,(⟨g1.2.2.2.aF,(g1.2.2.2.aQ++[(v2.aQ.getD g1.1.toNat bC.zero)])⟩:aD)))
 else
  some (.inl ((i64.wrap (g1.1+1)),v8.2,j3,g1.2.2.2)))
@[go_sem] def zdz1 (v2:aD) (g1:Int×bJ×aD×aD) (v8:Int×bJ) (j3:aD):St:=⟨[(5,.ptr 0 0 0),(6,.ptr 1 0 0),(7,.ptr 2 0 0),(8,.ptr 3 0 0),(11,.int .i64 g1.1),(12,.int .i64 v8.1)],[(0,bx v2),(1,bx v8.2),(2,⟨false,2,aD.enc aD.zero,[[.own 4 0 j3.aF.length,.own 5 0 j3.aQ.length]]⟩),(3,⟨false,2,aD.enc aD.zero,[[.own 6 0 g1.2.2.2.aF.length,.own 7 0 g1.2.2.2.aQ.length]]⟩),(4,sx j3.aF),(5,sx j3.aQ),(6,sx g1.2.2.2.aF),(7,sx g1.2.2.2.aQ)],8⟩
def zE3 (v2:aD) (g1:Int×bJ×aD×aD):Option ((Int×bJ×aD×aD)⊕(aD×aD)) :=
 (if (decide (g1.1 < (v2.aQ.length:Int)))=true then
  (zb8 3 g1.2.1).bind fun v8 =>
  (if (!decide (v8.1=1))=true then
   gd (0≤g1.1∧g1.1 < (v2.aQ.length:Int)) <|
   gd (g1.2.2.1.aQ.length+1≤4294967296) <|
   zE2 v2 g1 v8 (⟨g1.2.2.1.aF,(g1.2.2.1.aQ++[(v2.aQ.getD g1.1.toNat bC.zero)])⟩:aD)
  else
   zE2 v2 g1 v8 g1.2.2.1)
 else
  some (.inr (g1.2.2.1,g1.2.2.2)))
@[go_sem] def zdz2 (v2:aD) (g1:Int×bJ×aD×aD):St:=⟨[(5,.ptr 0 0 0),(6,.ptr 1 0 0),(7,.ptr 2 0 0),(8,.ptr 3 0 0),(11,.int .i64 g1.1)],[(0,bx v2),(1,bx g1.2.1),(2,⟨false,2,aD.enc aD.zero,[[.own 4 0 g1.2.2.1.aF.length,.own 5 0 g1.2.2.1.aQ.length]]⟩),(3,⟨false,2,aD.enc aD.zero,[[.own 6 0 g1.2.2.2.aF.length,.own 7 0 g1.2.2.2.aQ.length]]⟩),(4,sx g1.2.2.1.aF),(5,sx g1.2.2.1.aQ),(6,sx g1.2.2.2.aF),(7,sx g1.2.2.2.aQ)],8⟩
def zM0 (v2:aD) (j1:bJ×aD×aD):Option Bool :=
 (zc0 (zE3 v2) (0,j1.1,j1.2.1,j1.2.2)).bind (fun z=>zL9 v2 z)
@[go_sem] def zdz3 (v2:aD) (j1:bJ×aD×aD):St:=⟨[(5,.ptr 0 0 0),(6,.ptr 1 0 0),(7,.ptr 2 0 0),(8,.ptr 3 0 0)],[(0,bx v2),(1,bx j1.1),(2,⟨false,2,aD.enc aD.zero,[[.own 4 0 j1.2.1.aF.length,.own 5 0 j1.2.1.aQ.length]]⟩),(3,⟨false,2,aD.enc aD.zero,[[.own 6 0 j1.2.2.aF.length,.own 7 0 j1.2.2.aQ.length]]⟩),(4,sx j1.2.1.aF),(5,sx j1.2.1.aQ),(6,sx j1.2.2.aF),(7,sx j1.2.2.aQ)],8⟩
def zE4 (v2:aD) (g2:Int×bJ×aD×aD) (v9:Int×bJ) (j4:aD):Option ((Int×bJ×aD×aD)⊕(bJ×aD×aD)) :=
 (if (!decide (v9.1=0))=true then
  gd (0≤g2.1∧g2.1 < (v2.aF.length:Int)) <|
  gd (g2.2.2.2.aF.length+1≤4294967296) <|
  some (.inl ((i64.wrap (g2.1+1)),v9.2,j4,(⟨(g2.2.2.2.aF++[(v2.aF.getD g2.1.toNat aA.zero)]),g2.2.2.2.aQ⟩:aD)))
 else
  some (.inl ((i64.wrap (g2.1+1)),v9.2,j4,g2.2.2.2)))
@[go_sem] def zdz4 (v2:aD) (g2:Int×bJ×aD×aD) (v9:Int×bJ) (j4:aD):St:=⟨[(5,.ptr 0 0 0),(6,.ptr 1 0 0),(7,.ptr 2 0 0),(8,.ptr 3 0 0),(9,.int .i64 g2.1),(10,.int .i64 v9.1)],[(0,bx v2),(1,bx v9.2),(2,⟨false,2,aD.enc aD.zero,[[.own 4 0 j4.aF.length,.own 5 0 j4.aQ.length]]⟩),(3,⟨false,2,aD.enc aD.zero,[[.own 6 0 g2.2.2.2.aF.length,.own 7 0 g2.2.2.2.aQ.length]]⟩),(4,sx j4.aF),(5,sx j4.aQ),(6,sx g2.2.2.2.aF),(7,sx g2.2.2.2.aQ)],8⟩
def zE5 (v2:aD) (g2:Int×bJ×aD×aD):Option ((Int×bJ×aD×aD)⊕(bJ×aD×aD)) :=
 (if (decide (g2.1 < (v2.aF.length:Int)))=true then
  (zb8 3 g2.2.1).bind fun v9 =>
  (if (!decide (v9.1=1))=true then
   gd (0≤g2.1∧g2.1 < (v2.aF.length:Int)) <|
   gd (g2.2.2.1.aF.length+1≤4294967296) <|
   zE4 v2 g2 v9 (⟨(g2.2.2.1.aF++[(v2.aF.getD g2.1.toNat aA.zero)]),g2.2.2.1.aQ⟩:aD)
  else
   zE4 v2 g2 v9 g2.2.2.1)
 else
  some (.inr (g2.2.1,g2.2.2.1,g2.2.2.2)))
@[go_sem] def zdz5 (v2:aD) (g2:Int×bJ×aD×aD):St:=⟨[(5,.ptr 0 0 0),(6,.ptr 1 0 0),(7,.ptr 2 0 0),(8,.ptr 3 0 0),(9,.int .i64 g2.1)],[(0,bx v2),(1,bx g2.2.1),(2,⟨false,2,aD.enc aD.zero,[[.own 4 0 g2.2.2.1.aF.length,.own 5 0 g2.2.2.1.aQ.length]]⟩),(3,⟨false,2,aD.enc aD.zero,[[.own 6 0 g2.2.2.2.aF.length,.own 7 0 g2.2.2.2.aQ.length]]⟩),(4,sx g2.2.2.1.aF),(5,sx g2.2.2.1.aQ),(6,sx g2.2.2.2.aF),(7,sx g2.2.2.2.aQ)],8⟩
def zK2 (a0 a1:List Int):Option Bool :=
 (if ((!(zao0 a0))||decide (40 < (a1.length:Int)))=true then
  (zU8).bind fun v1 =>
  some v1
 else
  (zap4 a0).bind fun v2 =>
  (zc0 (zE5 v2) (0,{ bJ.zero with l:=a1 },(⟨[],[]⟩:aD),(⟨[],[]⟩:aD))).bind (fun z=>zM0 v2 z))
theorem zaU9 (a0 a1:List Int) (r:Bool) (h:zK2 a0 a1=some r):PFn C 3 [.sl (a0.map (eI .i64)),.sl (a1.map (eI .i64))] (.bool r):=by
 refine zad2 Tryz.f3 [(7,5),(8,5)] fun E hG hN hK=>?_
 unfold zK2 at h
 refine za2 (za3 hG ?_)
 refine za2 (za2 (za3 hG ?_))
 refine zq4 (fun hg=>(zbX2 a0).ok) ?_
 refine zl0 rfl hG h (fun _ h=>?_) (fun _ h=>?_)
 · refine za2 (za3 hG ?_)
   obtain ⟨v1,hv1,h⟩:=zc9 h
   refine zq4 (fun hg=>(zbh2).ok _ hv1) ?_
   refine zt2 ?_
   exact zI9 h
 refine zj2 ?_
 refine za2 (za3 hG ?_)
 obtain ⟨v2,hv2,h⟩:=zc9 h
 refine zq4 (fun hg=>(zbY3 a0).ok _ hv2) ?_
 refine za2 (za3 hG ?_)
 refine za2 (za3 hG ?_)
 refine g_gh (.ownb 2 0 8 (aA.enc aA.zero)) ?_
 refine g_gh (.ownb 2 1 9 (bC.enc bC.zero)) ?_
 refine g_gh (.ownb 3 0 8 (aA.enc aA.zero)) ?_
 refine g_gh (.ownb 3 1 9 (bC.enc bC.zero)) ?_
 refine za2 (za2 (za3 hG ?_))
 refine zB6 (zdz3 v2) (fun v=>zM0 v2 v=some r) ?_ ?_
 · intro j1 h
   unfold zM0 at h
   refine g_st ?_
   refine za2 (za2 (za3 hG ?_))
   refine zB6 (zdz0 v2) (fun v=>zL9 v2 v=some r) ?_ ?_
   · intro j2 h
     unfold zL9 at h
     refine g_st ?_
     refine za2 (za3 hG ?_)
     obtain ⟨v3,hv3,h⟩:=zc9 h
     refine zq4 (fun hg=>zaL5 _ _ _ hv3) ?_
     refine za2 (za3 hG ?_)
     obtain ⟨v4,hv4,h⟩:=zc9 h
     refine zq4 (fun hg=>zaL5 _ _ _ hv4) ?_
     refine za2 (za3 hG ?_)
     obtain ⟨v5,hv5,h⟩:=zc9 h
     refine zq4 (fun hg=>(zbh2).ok _ hv5) ?_
     obtain ⟨v6,hv6,h⟩:=zc9 h
     refine zq4 (fun hg=>(zbn9 v3.1 v2).ok _ (zaH9 hg hv6)) ?_
     obtain ⟨v7,hv7,h⟩:=zc9 h
     refine zq4 (fun hg=>(zbn9 v4.1 v2).ok _ (zaH9 hg hv7)) ?_
     refine zt2 ?_
     exact zI9 h
   refine zY4 (zdz2 v2) hK [(0,0),(1,1),(2,2),(3,3),(4,4),(5,5),(6,6),(7,7)] h (fun x_l1 h g1 y_l1 h_l1 hx_l1=>?_)
   unfold zE3 at h_l1
   refine g_st ?_
   refine za2 (za2 (za3 hG ?_))
   refine zl0 rfl hG h_l1 (fun _ h_l1=>?_) (fun _ h_l1=>?_)
   · refine zj2 ?_
     refine za2 (zB5 (za2 (za3 hG ?_)))
     obtain ⟨v8,hv8,h_l1⟩:=zc9 h_l1
     refine zs2 [(0,1)] [] [0] ((zr0 3 g1.2.1).ok _ hv8) rfl rfl ?_
     refine za2 (za2 (za3 hG ?_))
     refine zaP1 (zdz1 v2 g1 v8) (fun v=>zE2 v2 g1 v8 v=some y_l1) rfl hG h_l1 ?_ (fun _ h_l1=>?_) (fun _ h_l1=>?_)
     · intro j3 h_l1
       unfold zE2 at h_l1
       refine g_st ?_
       refine za2 (za3 hG ?_)
       refine zl0 rfl hG h_l1 (fun _ h_l1=>?_) (fun _ h_l1=>?_)
       · obtain ⟨hb1,h_l1⟩:=zd5 h_l1
         obtain ⟨hb2,h_l1⟩:=zd5 h_l1
         refine zad1 zw6 hG ?_
         refine za3 hG ?_
         exact zF8 hK [(0,0),(1,1),(2,2),(3,3),(4,4),(5,5),(6,6),(7,8)] h_l1
       refine zj2 ?_
       refine za3 hG ?_
       exact zF8 hK [(0,0),(1,1),(2,2),(3,3),(4,4),(5,5),(6,6),(7,7)] h_l1
     · obtain ⟨hb3,h_l1⟩:=zd5 h_l1
       obtain ⟨hb4,h_l1⟩:=zd5 h_l1
       refine zad1 zw6 hG ?_
       exact zy4 hK [(0,0),(1,1),(2,2),(3,3),(4,4),(5,8),(6,6),(7,7)] (⟨g1.2.2.1.aF,(g1.2.2.1.aQ++[(v2.aQ.getD g1.1.toNat bC.zero)])⟩:aD) (by exact h_l1)
     refine zj2 ?_
     exact zy4 hK [(0,0),(1,1),(2,2),(3,3),(4,4),(5,5),(6,6),(7,7)] g1.2.2.1 (by exact h_l1)
   refine zH3 ?_
   cases h_l1
   cases hx_l1 _ rfl
   exact zy4 hK [(0,0),(1,2),(2,3),(3,4),(4,5),(5,6),(6,7)] (g1.2.2.1,g1.2.2.2) (by exact h)
 refine zY4 (zdz5 v2) hK [(0,0),(1,1),(2,2),(3,3),(4,4),(5,5),(6,6),(7,7)] h (fun x_l2 h g2 y_l2 h_l2 hx_l2=>?_)
 unfold zE5 at h_l2
 refine g_st ?_
 refine za2 (za2 (za3 hG ?_))
 refine zl0 rfl hG h_l2 (fun _ h_l2=>?_) (fun _ h_l2=>?_)
 · refine zj2 ?_
   refine za2 (zB5 (za2 (za3 hG ?_)))
   obtain ⟨v9,hv9,h_l2⟩:=zc9 h_l2
   refine zs2 [(0,1)] [] [0] ((zr0 3 g2.2.1).ok _ hv9) rfl rfl ?_
   refine za2 (za2 (za3 hG ?_))
   refine zaP1 (zdz4 v2 g2 v9) (fun v=>zE4 v2 g2 v9 v=some y_l2) rfl hG h_l2 ?_ (fun _ h_l2=>?_) (fun _ h_l2=>?_)
   · intro j4 h_l2
     unfold zE4 at h_l2
     refine g_st ?_
     refine za2 (za3 hG ?_)
     refine zl0 rfl hG h_l2 (fun _ h_l2=>?_) (fun _ h_l2=>?_)
     · obtain ⟨hb5,h_l2⟩:=zd5 h_l2
       obtain ⟨hb6,h_l2⟩:=zd5 h_l2
       refine zad1 zw6 hG ?_
       refine za3 hG ?_
       exact zF8 hK [(0,0),(1,1),(2,2),(3,3),(4,4),(5,5),(6,8),(7,7)] h_l2
     refine zj2 ?_
     refine za3 hG ?_
     exact zF8 hK [(0,0),(1,1),(2,2),(3,3),(4,4),(5,5),(6,6),(7,7)] h_l2
   · obtain ⟨hb7,h_l2⟩:=zd5 h_l2
     obtain ⟨hb8,h_l2⟩:=zd5 h_l2
     refine zad1 zw6 hG ?_
     exact zy4 hK [(0,0),(1,1),(2,2),(3,3),(4,8),(5,5),(6,6),(7,7)] (⟨(g2.2.2.1.aF++[(v2.aF.getD g2.1.toNat aA.zero)]),g2.2.2.1.aQ⟩:aD) (by exact h_l2)
   refine zj2 ?_
   exact zy4 hK [(0,0),(1,1),(2,2),(3,3),(4,4),(5,5),(6,6),(7,7)] g2.2.2.1 (by exact h_l2)
 refine zH3 ?_
 cases h_l2
 cases hx_l2 _ rfl
 exact zy4 hK [(0,0),(1,1),(2,2),(3,3),(4,4),(5,5),(6,6),(7,7)] (g2.2.1,g2.2.2.1,g2.2.2.2) (by exact h)
attribute [local irreducible] zK2
end
end Ab
end Go.Proofs.YtogpinppgncpmaaGreatDoor
