import Derived.Test.YtcggeefhhegeoaaGreatDoorHm25
import Derived.Test.YtcggeefhhegeoaaGreatDoorHm29
import Derived.Test.YtcggeefhhegeoaaGreatDoorHm30
namespace Go.Proofs.YtcggeefhhegeoaaGreatDoor
namespace Ab
open IntKind (i64 u64 u8)
set_option linter.unusedSimpArgs false
set_option linter.unusedVariables false
set_option linter.defProp false
set_option maxRecDepth 100000
set_option maxHeartbeats 1000000
noncomputable section
attribute [local irreducible] zj2 za4 zd1 za7 zf7 zi6 zk5 zg4 zk6 zf3 zd2 zd8 zh9 zd6 zk1 za6 za0 ze0 zj7 zl9 zi3 zh5 zg2 zg8 zf8 zc5 ze1 ze2 zg9 zf5 ze3 zb0 za8 zh0 zi4 ze4 zn1 f_ref08_holds zj3 zc2 zn6 zm4 zm1 zd9 ze8 zk2 zm5 zh1 zj9 zl7 zd0 zi7 zf0 zf9 zl4 zn9 zm7 zb2 zc1 zh4 zq0 zp1 zk4 zb9 zo8 zd4 zm2 zh2 za5 za1 zb4 zh7 ze9 zm8 zk9 zd7 zd3 zi8 ze6 zq1 zi2 zc8 zo4 zo5 zb5 zi9 zf4 zh8 ze7 zm9 zp0 zp4 zp6 zi1 zf2 zq4 zr5 zt1 zg6 zs7 ze5 zj5 zc3 zb7 zk3 zq2 zl0 zr6 zc9 zq8 zh3 zh6 zi0 zl1 zj6 zp5 zs0 zq3 zn2 zc7 zb8 zl6 zr3 zs5 zd5 za3 zk7 zs1 zp2 zl5 zj4 zj1 zs4 zi5 zo6 zq7 zn5 zt7 zu4 zt0 zx1 zb1 zt2 zv3 zA2 zy3 zp3 zw1 zg0 zt8 zu8 zx2 zp9 zo9 zn7 zw8 zB1 zn3 zy5 zI3 zB2 zD0 zv4 zL1 zJ4 zG2 zz1 zw9 zs6 zz2 zO7 zI2 zO6 zaj9 zv5 zD1 zx3 zJ5 zA8 zw2 zF7 zO8 zF8 zI4 zD2 zG3 zO9 zL2 zA9 zV5 zV6 zaa5 zI5 zr4 zI6 zaa6 zV7 zQ0 zT4 zL3 zS0 zaa7 zx4 zv6 zu7 zu9
def zT5:Option Bool :=
 (zp1 0).bind fun v1 =>
 (zv6 (⟨[],[(⟨v1,{ Expr.zero with atom:=(⟨(⟨#[97]⟩:ByteArray),{ Amount.zero with mode:=5 }⟩:Atom) },3⟩:Need)]⟩:WaitState)).bind fun v2 =>
 (zu7 v2.1).bind fun v3 =>
 (zw9 v3.1 v1).bind fun v4 =>
 (zu9 v3.1 v1).bind fun v5 =>
 ((if ((decide (v2.2=0)&&decide (v3.2=0))&&v4.2)=true then zs6 (⟨[],[(⟨v1,{ Expr.zero with atom:=(⟨(⟨#[97]⟩:ByteArray),{ Amount.zero with mode:=5 }⟩:Atom) },3⟩:Need)]⟩:WaitState) v3.1 else some false)).bind fun v6 =>
 ((if (((decide (v2.2=0)&&decide (v3.2=0))&&v4.2)&&v6)=true then zx4 v3.1 else some false)).bind fun v7 =>
 gd ((((((decide (v2.2=0)&&decide (v3.2=0))&&v4.2)&&v6)&&v7)&&decide ((v5.length:Int)=1))=true→0≤0∧0 < (v5.length:Int)) <|
 ((if ((((((decide (v2.2=0)&&decide (v3.2=0))&&v4.2)&&v6)&&v7)&&decide ((v5.length:Int)=1))&&v5.getD 0 false)=true then zv5 v3.1 else some [])).bind fun v8 =>
 some (((((((decide (v2.2=0)&&decide (v3.2=0))&&v4.2)&&v6)&&v7)&&decide ((v5.length:Int)=1))&&v5.getD 0 false)&&decide ((v8.length:Int)=1))
instance zda3 :OkP zT5 6 [] (fun r=>.bool r):=⟨fun r h=>by
 refine zag9 Tryz.f6 [(17,2)] fun E hG hN hK=>?_
 have hm:Mk zT5:=trivial
 unfold zT5 at h
 refine za2 (za9 hG ?_)
 refine za2 (za9 hG ?_)
 obtain ⟨v1,hv1,h⟩:=zf1 h
 have hm:=mkP hm v1
 refine zu6 (fun hg=>(zcf7 0).ok _ hv1) ?_
 refine za2 (za9 hG ?_)
 refine za2 (za9 hG ?_)
 obtain ⟨v2,hv2,h⟩:=zf1 h
 have hm:=mkP hm v2
 have hc_v2:=(zbj5 (⟨[],[(⟨v1,{ Expr.zero with atom:=(⟨(⟨#[97]⟩:ByteArray),{ Amount.zero with mode:=5 }⟩:Atom) },3⟩:Need)]⟩:WaitState)).ok _ hv2
 have el_v2:∀ x:WaitState,WaitState.enc x=[A.sl (x.queues.map Queue.enc),A.sl (x.needs.map Need.enc)]:=fun x=>rfl
 try dsimp only [ga,la,En.e] at hc_v2
 rw [el_v2] at hc_v2
 dsimp only at hc_v2
 refine zu6 (fun hg=>PFn.unfullA hc_v2) ?_
 refine za2 (za9 hG ?_)
 obtain ⟨v3,hv3,h⟩:=zf1 h
 have hm:=mkP hm v3
 refine zu6 (fun hg=>(zbj6 v2.1).ok _ hv3) ?_
 refine za2 (za9 hG ?_)
 obtain ⟨v4,hv4,h⟩:=zf1 h
 have hm:=mkP hm v4
 refine zu6 (fun hg=>(zbr7 v3.1 v1).ok _ hv4) ?_
 refine za2 (za9 hG ?_)
 obtain ⟨v5,hv5,h⟩:=zf1 h
 have hm:=mkP hm v5
 refine zu6 (fun hg=>(zbe3 v3.1 v1).ok _ hv5) ?_
 refine za2 (za9 hG ?_)
 obtain ⟨v6,hv6,h⟩:=zf1 h
 have hm:=mkP hm v6
 refine zu6 (fun hg=>PFn.unfullA ((zbr8 (⟨[],[(⟨v1,{ Expr.zero with atom:=(⟨(⟨#[97]⟩:ByteArray),{ Amount.zero with mode:=5 }⟩:Atom) },3⟩:Need)]⟩:WaitState) v3.1).ok _ (zaQ7 hg hv6))) ?_
 exact gogo⟩
attribute [local irreducible] zT5
def zJ6 (a0:Proce) (a1:ByteArray) (v1:Int) (j1:work):Option work :=
 (zi6 a0.ledger.entries a1).bind fun v3 =>
 gd (0≤v1∧v1 < (j1.c.queues.length:Int)) <|
 (zi2 (j1.c.queues.getD v1.toNat Queue.zero) a0.proc).bind fun v4 =>
 (if (!decide (v4=v3))=true then
  (zI5 j1.c.queues a0.proc (⟨a1,v3⟩:Atom)).bind fun v5 =>
  (zc5 v5.1 v5.2.1 j1).bind fun v6 =>
  some (⟨(⟨v6.1,v6.2.1,v6.2.2.1⟩:Central),v6.2.2.2⟩:work)
 else
  some j1)
def zy4 (a0:Proce) (a1:ByteArray) (a2:work):Option work :=
 (zh5 a2.c.queues a1).bind fun v1 =>
 gd (0≤v1∧v1 < (a2.c.queues.length:Int)) <|
 (zh4 (a2.c.queues.getD v1.toNat Queue.zero) a0.proc).bind fun v2 =>
 (if v2.2=true then
  (zV6 a2.c.queues a0.proc a1).bind fun v7 =>
  (zc5 v7.1 v7.2.1 a2).bind fun v8 =>
  zJ6 a0 a1 v1 (⟨(⟨v8.1,v8.2.1,v8.2.2.1⟩:Central),v8.2.2.2⟩:work)
 else
  zJ6 a0 a1 v1 a2)
@[reducible,instance] def zdZ5 (a0:Proce) (a1:ByteArray) a2 (v1:Int) {T1:Type} (v2:T1):=mkJ ((zy4 a0 a1 a2,v1),v2) 999 (@zJ6.eq_1 a0 a1 v1) fun (j1:work)=>⟨[(0,.ptr 0 0 0),(2,.str a1),(4,.ptr 3 0 0),(6,.int .i64 v1)],[(0,⟨false,4,work.enc work.zero,[[.int .i64 j1.c.now,la j1.c.queues,.own 4 0 j1.c.procs.length,.own 5 0 j1.ev.length]]⟩),(3,bx a0),(4,sx j1.c.procs),(5,sx j1.ev)],6⟩
instance zcj8 (a0:Proce) (a1:ByteArray) (a2:work):OkM (zy4 a0 a1 a2) 247 [.ptr 0 0 0,ga a0,.str a1] [(0,⟨false,4,work.enc work.zero,[[.int .i64 a2.c.now,la a2.c.queues,.own 1 0 a2.c.procs.length,.own 2 0 a2.ev.length]]⟩),(1,sx a2.c.procs),(2,sx a2.ev)] 3 (fun r=>.tup []) (fun r=>[(0,⟨false,4,work.enc work.zero,[[.int .i64 r.c.now,la r.c.queues,.own 3 0 r.c.procs.length,.own 4 0 r.ev.length]]⟩),(3,sx r.c.procs),(4,sx r.ev)]) 5:=okm (zy4.eq_1 a0 a1 a2) (fun r=>[]) Tryz.f247 []
attribute [local irreducible] zy4
def zV9 (a0:Int) (j1:work):Option work :=
 (zd2 a0 j1).bind fun v2 =>
 some (⟨(⟨v2.1,v2.2.1,v2.2.2.1⟩:Central),v2.2.2.2⟩:work)
def zJ7 (a0:Int) (a1:work) (v1:(List Atom)) (g1:Int×work):Option ((Int×work)⊕work) :=
 (if (decide (g1.1 < (v1.length:Int)))=true then
  gd (0≤g1.1∧g1.1 < (v1.length:Int)) <|
  (zy4 (a1.c.procs.getD a0.toNat Proce.zero) ((v1.getD g1.1.toNat Atom.zero).name) g1.2).bind fun v3 =>
  some (.inl ((i64.wrap (g1.1+1)),v3))
 else
  some (.inr g1.2))
def zs8 (a0:Int) (a1:work):Option work :=
 gd (0≤a0∧a0 < ((a1.c.procs.length:Nat):Int)) <|
 (zw2 (((a1.c.procs.getD a0.toNat Proce.zero).request).expr)).bind fun v1 =>
 (zc0 (zJ7 a0 a1 v1) (0,a1)).bind (fun z=>zV9 a0 z)
@[reducible,instance] def zdZ6 (a0:Int) a1 {T1:Type} (v1:T1):=mkJ (zs8 a0 a1,v1) 0 (@zV9.eq_1 a0) fun (j1:work)=>⟨[(0,.ptr 0 0 0),(1,.int .i64 a0)],[(0,⟨false,4,work.enc work.zero,[[.int .i64 j1.c.now,la j1.c.queues,.own 3 0 j1.c.procs.length,.own 4 0 j1.ev.length]]⟩),(3,sx j1.c.procs),(4,sx j1.ev)],5⟩
@[reducible,instance] def zdZ7 (a0:Int) (a1:work) (v1:(List Atom)) {T:Type} (x:T):=mkL x (@zJ7.eq_1 a0 a1 v1) fun (g1:Int×work)=>⟨[(0,.ptr 0 0 0),(1,.int .i64 a0),(4,.ptr 3 0 0),(5,la v1),(6,.int .i64 g1.1)],[(0,⟨false,4,work.enc work.zero,[[.int .i64 g1.2.c.now,la g1.2.c.queues,.own 4 0 g1.2.c.procs.length,.own 5 0 g1.2.ev.length]]⟩),(3,bx (a1.c.procs.getD a0.toNat Proce.zero)),(4,sx g1.2.c.procs),(5,sx g1.2.ev)],6⟩
instance zaM0 (a0:Int) (a1:work):OkM (zs8 a0 a1) 208 [.ptr 0 0 0,.int .i64 a0] [(0,⟨false,4,work.enc work.zero,[[.int .i64 a1.c.now,la a1.c.queues,.own 1 0 a1.c.procs.length,.own 2 0 a1.ev.length]]⟩),(1,sx a1.c.procs),(2,sx a1.ev)] 3 (fun r=>.tup []) (fun r=>[(0,⟨false,4,work.enc work.zero,[[.int .i64 r.c.now,la r.c.queues,.own 3 0 r.c.procs.length,.own 4 0 r.ev.length]]⟩),(3,sx r.c.procs),(4,sx r.ev)]) 5:=okm (zs8.eq_1 a0 a1) (fun r=>[]) Tryz.f208 []
attribute [local irreducible] zs8
def zap2 (j1:work):Option work :=
 some j1
def zaa8 (g1:Int×work) (j2:work):Option ((Int×work)⊕work) :=
 (zd2 g1.1 j2).bind fun v6 =>
 (zc8 g1.1 (⟨(⟨v6.1,v6.2.1,v6.2.2.1⟩:Central),v6.2.2.2⟩:work)).bind fun v7 =>
 (zr4 (⟨(⟨v7.1,v7.2.1,v7.2.2.1⟩:Central),v7.2.2.2⟩:work)).bind fun v8 =>
 some (.inl (v8.1,(⟨(⟨v8.2.1,v8.2.2.1,v8.2.2.2.1⟩:Central),v8.2.2.2.2⟩:work)))
def zF9 (g1:Int×work) (v4:(List Bool)) (v5:(List Atom)) (g2:Int×work):Option ((Int×work)⊕work) :=
 (if (decide (g2.1 < (v5.length:Int)))=true then
  gd (0≤g2.1∧g2.1 < (v5.length:Int)) <|
  gd (0≤g2.1∧g2.1 < (v4.length:Int)) <|
  (if (!(v4.getD g2.1.toNat false))=true then
   (zy4 (g1.2.c.procs.getD g1.1.toNat Proce.zero) ((v5.getD g2.1.toNat Atom.zero).name) g2.2).bind fun v9 =>
   some (.inl ((i64.wrap (g2.1+1)),v9))
  else
   (zh5 g2.2.c.queues ((v5.getD g2.1.toNat Atom.zero).name)).bind fun v10 =>
   gd (0≤v10∧v10 < (g2.2.c.queues.length:Int)) <|
   (zi2 (g2.2.c.queues.getD v10.toNat Queue.zero) ((g1.2.c.procs.getD g1.1.toNat Proce.zero).proc)).bind fun v11 =>
   gd (0≤g1.1∧g1.1 < ((g2.2.c.procs.length:Nat):Int)) <|
   (zi6 (((g2.2.c.procs.getD g1.1.toNat Proce.zero).ledger).entries) ((v5.getD g2.1.toNat Atom.zero).name)).bind fun v12 =>
   (if (!decide (v11=v12))=true then
    gd (0≤g1.1∧g1.1 < ((g2.2.c.procs.length:Nat):Int)) <|
    (zu8 ((g2.2.c.procs.getD g1.1.toNat Proce.zero).ledger) (⟨(v5.getD g2.1.toNat Atom.zero).name,v12,v11⟩:Entry)).bind fun v13 =>
    gd (0≤g1.1∧g1.1 < ((g2.2.c.procs.length:Nat):Int)) <|
    some (.inl ((i64.wrap (g2.1+1)),(⟨(⟨g2.2.c.now,g2.2.c.queues,g2.2.c.procs.set g1.1.toNat ({ (g2.2.c.procs.getD g1.1.toNat Proce.zero) with ledger:=v13.1 })⟩:Central),g2.2.ev⟩:work)))
   else
    some (.inl ((i64.wrap (g2.1+1)),g2.2))))
 else
  some (.inr g2.2))
def zB3 (g1:Int×work):Option ((Int×work)⊕work) :=
 (if (decide (0≤g1.1))=true then
  gd (0≤g1.1∧g1.1 < ((g1.2.c.procs.length:Nat):Int)) <|
  (zd0 2 ((g1.2.c.procs.getD g1.1.toNat Proce.zero).proc) g1.2).bind fun v2 =>
  (zD2 v2.2.1 ((g1.2.c.procs.getD g1.1.toNat Proce.zero).proc) (((g1.2.c.procs.getD g1.1.toNat Proce.zero).request).expr)).bind fun v3 =>
  (zI2 (((g1.2.c.procs.getD g1.1.toNat Proce.zero).request).expr) v3).bind fun v4 =>
  (zw2 (((g1.2.c.procs.getD g1.1.toNat Proce.zero).request).expr)).bind fun v5 =>
  (zc0 (zF9 g1 v4 v5) (0,(⟨(⟨v2.1,v2.2.1,v2.2.2.1⟩:Central),v2.2.2.2⟩:work))).bind (fun z=>zaa8 g1 z)
 else
  some (.inr g1.2))
def zl3 (a0:work):Option work :=
 (zr4 a0).bind fun v1 =>
 (zc0 zB3 (v1.1,(⟨(⟨v1.2.1,v1.2.2.1,v1.2.2.2.1⟩:Central),v1.2.2.2.2⟩:work))).bind (fun z=>zap2 z)
@[reducible,instance] def zdZ8 a0 {T1:Type} (v1:T1):=mkJ (zl3 a0,v1) 0 (@zap2.eq_1) fun (j1:work)=>⟨[],[(0,⟨false,4,work.enc work.zero,[[.int .i64 j1.c.now,la j1.c.queues,.own 3 0 j1.c.procs.length,.own 4 0 j1.ev.length]]⟩),(3,sx j1.c.procs),(4,sx j1.ev)],5⟩
@[reducible,instance] def zdZ9 (g1:Int×work) {T1:Type} (v2:T1) {T2:Type} (v3:T2) {T3:Type} (v4:T3) {T4:Type} (v5:T4):=mkJ ((((zB3 g1,v2),v3),v4),v5) 2 (@zaa8.eq_1 g1) fun (j2:work)=>⟨[(0,.ptr 0 0 0),(2,.int .i64 g1.1)],[(0,⟨false,4,work.enc work.zero,[[.int .i64 j2.c.now,la j2.c.queues,.own 3 0 j2.c.procs.length,.own 4 0 j2.ev.length]]⟩),(3,sx j2.c.procs),(4,sx j2.ev)],5⟩
@[reducible,instance] def zea0 (g1:Int×work) (v4:(List Bool)) (v5:(List Atom)) {T:Type} (x:T):=mkL x (@zF9.eq_1 g1 v4 v5) fun (g2:Int×work)=>⟨[(0,.ptr 0 0 0),(2,.int .i64 g1.1),(3,.ptr 3 0 0),(4,.sl (v4.map eB)),(5,la v5),(6,.int .i64 g2.1)],[(0,⟨false,4,work.enc work.zero,[[.int .i64 g2.2.c.now,la g2.2.c.queues,.own 4 0 g2.2.c.procs.length,.own 5 0 g2.2.ev.length]]⟩),(3,bx (g1.2.c.procs.getD g1.1.toNat Proce.zero)),(4,sx g2.2.c.procs),(5,sx g2.2.ev)],6⟩
@[reducible,instance] def zea1 {T:Type} (x:T):=mkL x (@zB3.eq_1) fun (g1:Int×work)=>⟨[(0,.ptr 0 0 0),(2,.int .i64 g1.1)],[(0,⟨false,4,work.enc work.zero,[[.int .i64 g1.2.c.now,la g1.2.c.queues,.own 3 0 g1.2.c.procs.length,.own 4 0 g1.2.ev.length]]⟩),(3,sx g1.2.c.procs),(4,sx g1.2.ev)],5⟩
instance zaS7 (a0:work):OkM (zl3 a0) 210 [.ptr 0 0 0] [(0,⟨false,4,work.enc work.zero,[[.int .i64 a0.c.now,la a0.c.queues,.own 1 0 a0.c.procs.length,.own 2 0 a0.ev.length]]⟩),(1,sx a0.c.procs),(2,sx a0.ev)] 3 (fun r=>.tup []) (fun r=>[(0,⟨false,4,work.enc work.zero,[[.int .i64 r.c.now,la r.c.queues,.own 3 0 r.c.procs.length,.own 4 0 r.ev.length]]⟩),(3,sx r.c.procs),(4,sx r.ev)]) 5:=okm (zl3.eq_1 a0) (fun r=>[]) Tryz.f210 []
attribute [local irreducible] zl3
def zax0 (j1:work):Option (Int×work) :=
 some (0,j1)
def zT1 (g1:Int×work):Option ((Int×work)⊕work) :=
 (if (decide (0≤g1.1))=true then
  gd (0≤g1.1∧g1.1 < ((g1.2.c.procs.length:Nat):Int)) <|
  (zd0 4 ((g1.2.c.procs.getD g1.1.toNat Proce.zero).proc) g1.2).bind fun v2 =>
  (zs8 g1.1 (⟨(⟨v2.1,v2.2.1,v2.2.2.1⟩:Central),v2.2.2.2⟩:work)).bind fun v3 =>
  (zc8 g1.1 v3).bind fun v4 =>
  (zl3 (⟨(⟨v4.1,v4.2.1,v4.2.2.1⟩:Central),v4.2.2.2⟩:work)).bind fun v5 =>
  (zc2 v5).bind fun v6 =>
  some (.inl (v6.1,(⟨(⟨v6.2.1,v6.2.2.1,v6.2.2.2.1⟩:Central),v6.2.2.2.2⟩:work)))
 else
  some (.inr g1.2))
def zE7 (a0:Int) (a1:work):Option (Int×work) :=
 (if (decide (a0 < 0)||decide (1000 < a0))=true then
  some (1,a1)
 else
  (if (decide (i64.wrap (1073741824 - a0) < a1.c.now))=true then
   some (16,a1)
  else
   (zc2 (⟨(⟨(i64.wrap (a1.c.now+a0)),a1.c.queues,a1.c.procs⟩:Central),a1.ev⟩:work)).bind fun v1 =>
   (zc0 zT1 (v1.1,(⟨(⟨v1.2.1,v1.2.2.1,v1.2.2.2.1⟩:Central),v1.2.2.2.2⟩:work))).bind (fun z=>zax0 z)))
@[reducible,instance] def zea2 a0 a1 {T1:Type} (v1:T1):=mkJ (zE7 a0 a1,v1) 0 (@zax0.eq_1) fun (j1:work)=>⟨[],[(0,⟨false,4,work.enc work.zero,[[.int .i64 j1.c.now,la j1.c.queues,.own 3 0 j1.c.procs.length,.own 4 0 j1.ev.length]]⟩),(3,sx j1.c.procs),(4,sx j1.ev)],5⟩
@[reducible,instance] def zea3 {T:Type} (x:T):=mkL x (@zT1.eq_1) fun (g1:Int×work)=>⟨[(0,.ptr 0 0 0),(5,.int .i64 g1.1)],[(0,⟨false,4,work.enc work.zero,[[.int .i64 g1.2.c.now,la g1.2.c.queues,.own 3 0 g1.2.c.procs.length,.own 4 0 g1.2.ev.length]]⟩),(3,sx g1.2.c.procs),(4,sx g1.2.ev)],5⟩
instance zcj9 (a0:Int) (a1:work):OkM (zE7 a0 a1) 206 [.ptr 0 0 0,.int .i64 a0] [(0,⟨false,4,work.enc work.zero,[[.int .i64 a1.c.now,la a1.c.queues,.own 1 0 a1.c.procs.length,.own 2 0 a1.ev.length]]⟩),(1,sx a1.c.procs),(2,sx a1.ev)] 3 (fun r=>.int .i64 r.1) (fun r=>[(0,⟨false,4,work.enc work.zero,[[.int .i64 r.2.c.now,la r.2.c.queues,.own 3 0 r.2.c.procs.length,.own 4 0 r.2.ev.length]]⟩),(3,sx r.2.c.procs),(4,sx r.2.ev)]) 5:=okm (zE7.eq_1 a0 a1) (fun r=>[.int .i64 r.1]) Tryz.f206 []
attribute [local irreducible] zE7
def zX2 (j1:work):Option (Int×work) :=
 (zl3 j1).bind fun v6 =>
 some (0,v6)
def zE3 (a0:Int) (a1:Request) (v5:(List Atom)) (g1:Int×work):Option ((Int×work)⊕work) :=
 (if (decide (g1.1 < (v5.length:Int)))=true then
  gd (0≤a0∧a0 < ((g1.2.c.procs.length:Nat):Int)) <|
  gd (0≤g1.1∧g1.1 < (v5.length:Int)) <|
  (zaa6 g1.2.c.queues ((g1.2.c.procs.getD a0.toNat Proce.zero).proc) (v5.getD g1.1.toNat Atom.zero) a1.priority).bind fun v7 =>
  (zc5 v7.1 v7.2.1 g1.2).bind fun v8 =>
  some (.inl ((i64.wrap (g1.1+1)),(⟨(⟨v8.1,v8.2.1,v8.2.2.1⟩:Central),v8.2.2.2⟩:work)))
 else
  some (.inr g1.2))
def zA3 (a0:Int) (a1:Request) (a2:work):Option (Int×work) :=
 gd (0≤a0∧a0 < ((a2.c.procs.length:Nat):Int)) <|
 (if (a2.c.procs.getD a0.toNat Proce.zero).waiting=true then
  some (14,a2)
 else
  (zI4 a1).bind fun v1 =>
  (if (!v1)=true then
   some (1,a2)
  else
   (zg2 a2.c.queues).bind fun v2 =>
   (zA8 v2 a1.expr).bind fun v3 =>
   (if (!decide (v3=0))=true then
    some (v3,a2)
   else
    gd (0≤a0∧a0 < ((a2.c.procs.length:Nat):Int)) <|
    gd (0≤a0∧a0 < ((a2.c.procs.length:Nat):Int)) <|
    gd (0≤a0∧a0 < ((a2.c.procs.length:Nat):Int)) <|
    (zc8 a0 (⟨(⟨a2.c.now,a2.c.queues,((a2.c.procs.set a0.toNat ({ (a2.c.procs.getD a0.toNat Proce.zero) with waiting:=true })).set a0.toNat ({ ((a2.c.procs.set a0.toNat ({ (a2.c.procs.getD a0.toNat Proce.zero) with waiting:=true })).getD a0.toNat Proce.zero) with request:=a1 })).set a0.toNat ({ (((a2.c.procs.set a0.toNat ({ (a2.c.procs.getD a0.toNat Proce.zero) with waiting:=true })).set a0.toNat ({ ((a2.c.procs.set a0.toNat ({ (a2.c.procs.getD a0.toNat Proce.zero) with waiting:=true })).getD a0.toNat Proce.zero) with request:=a1 })).getD a0.toNat Proce.zero) with since:=a2.c.now })⟩:Central),a2.ev⟩:work)).bind fun v4 =>
    (zw2 a1.expr).bind fun v5 =>
    (zc0 (zE3 a0 a1 v5) (0,(⟨(⟨v4.1,v4.2.1,v4.2.2.1⟩:Central),v4.2.2.2⟩:work))).bind (fun z=>zX2 z))))
@[reducible,instance] def zea4 a0 a1 a2 {T1:Type} (v1:T1) {T2:Type} (v2:T2) {T3:Type} (v3:T3) {T4:Type} (v4:T4) {T5:Type} (v5:T5):=mkJ (((((zA3 a0 a1 a2,v1),v2),v3),v4),v5) 0 (@zX2.eq_1) fun (j1:work)=>⟨[(0,.ptr 0 0 0)],[(0,⟨false,4,work.enc work.zero,[[.int .i64 j1.c.now,la j1.c.queues,.own 3 0 j1.c.procs.length,.own 4 0 j1.ev.length]]⟩),(3,sx j1.c.procs),(4,sx j1.ev)],5⟩
@[reducible,instance] def zea5 (a0:Int) (a1:Request) (v5:(List Atom)) {T:Type} (x:T):=mkL x (@zE3.eq_1 a0 a1 v5) fun (g1:Int×work)=>⟨[(0,.ptr 0 0 0),(1,.int .i64 a0),(5,.ptr 3 0 0),(8,la v5),(9,.int .i64 g1.1)],[(0,⟨false,4,work.enc work.zero,[[.int .i64 g1.2.c.now,la g1.2.c.queues,.own 4 0 g1.2.c.procs.length,.own 5 0 g1.2.ev.length]]⟩),(3,bx a1),(4,sx g1.2.c.procs),(5,sx g1.2.ev)],6⟩
instance zbV3 (a0:Int) (a1:Request) (a2:work):OkM (zA3 a0 a1 a2) 207 [.ptr 0 0 0,.int .i64 a0,ga a1] [(0,⟨false,4,work.enc work.zero,[[.int .i64 a2.c.now,la a2.c.queues,.own 1 0 a2.c.procs.length,.own 2 0 a2.ev.length]]⟩),(1,sx a2.c.procs),(2,sx a2.ev)] 3 (fun r=>.int .i64 r.1) (fun r=>[(0,⟨false,4,work.enc work.zero,[[.int .i64 r.2.c.now,la r.2.c.queues,.own 3 0 r.2.c.procs.length,.own 4 0 r.2.ev.length]]⟩),(3,sx r.2.c.procs),(4,sx r.2.ev)]) 5:=okm (zA3.eq_1 a0 a1 a2) (fun r=>[.int .i64 r.1]) Tryz.f207 []
attribute [local irreducible] zA3
def zE2 (a0:Int) (a1:ByteArray) (a2:work):Option (Int×work) :=
 gd (0≤a0∧a0 < ((a2.c.procs.length:Nat):Int)) <|
 (if (a2.c.procs.getD a0.toNat Proce.zero).waiting=true then
  some (14,a2)
 else
  gd (0≤a0∧a0 < ((a2.c.procs.length:Nat):Int)) <|
  (zi6 (((a2.c.procs.getD a0.toNat Proce.zero).ledger).entries) a1).bind fun v1 =>
  (if (decide (v1={ Amount.zero with  }))=true then
   some (10,a2)
  else
   gd (0≤a0∧a0 < ((a2.c.procs.length:Nat):Int)) <|
   (zI5 a2.c.queues ((a2.c.procs.getD a0.toNat Proce.zero).proc) ({ Atom.zero with name:=a1 })).bind fun v2 =>
   (zc5 v2.1 v2.2.1 a2).bind fun v3 =>
   gd (0≤a0∧a0 < ((v3.2.2.1.length:Nat):Int)) <|
   (zy3 ((v3.2.2.1.getD a0.toNat Proce.zero).ledger) a1).bind fun v4 =>
   gd (0≤a0∧a0 < ((v3.2.2.1.length:Nat):Int)) <|
   (zc8 a0 (⟨(⟨v3.1,v3.2.1,v3.2.2.1.set a0.toNat ({ (v3.2.2.1.getD a0.toNat Proce.zero) with ledger:=v4.1 })⟩:Central),v3.2.2.2⟩:work)).bind fun v5 =>
   (zl3 (⟨(⟨v5.1,v5.2.1,v5.2.2.1⟩:Central),v5.2.2.2⟩:work)).bind fun v6 =>
   some (0,v6)))
instance zbV4 (a0:Int) (a1:ByteArray) (a2:work):OkM (zE2 a0 a1 a2) 211 [.ptr 0 0 0,.int .i64 a0,.str a1] [(0,⟨false,4,work.enc work.zero,[[.int .i64 a2.c.now,la a2.c.queues,.own 1 0 a2.c.procs.length,.own 2 0 a2.ev.length]]⟩),(1,sx a2.c.procs),(2,sx a2.ev)] 3 (fun r=>.int .i64 r.1) (fun r=>[(0,⟨false,4,work.enc work.zero,[[.int .i64 r.2.c.now,la r.2.c.queues,.own 3 0 r.2.c.procs.length,.own 4 0 r.2.ev.length]]⟩),(3,sx r.2.c.procs),(4,sx r.2.ev)]) 5:=okm (zE2.eq_1 a0 a1 a2) (fun r=>[.int .i64 r.1]) Tryz.f211 []
attribute [local irreducible] zE2
def zJ8 (a0:Int) (j2:work):Option (Int×work) :=
 (zc8 a0 j2).bind fun v2 =>
 (zl3 (⟨(⟨v2.1,v2.2.1,v2.2.2.1⟩:Central),v2.2.2.2⟩:work)).bind fun v3 =>
 some (0,v3)
@[go_sem] def zdt5 (a0:Int) (j2:work):St:=⟨[(0,.ptr 0 0 0),(1,.int .i64 a0)],[(0,⟨false,4,work.enc work.zero,[[.int .i64 j2.c.now,la j2.c.queues,.own 3 0 j2.c.procs.length,.own 4 0 j2.ev.length]]⟩),(3,sx j2.c.procs),(4,sx j2.ev)],5⟩
def zC7 (a0:Int) (v1:Ledger×(List Atom)×Int) (j1:work) (g1:Int×work):Option ((Int×work)⊕work) :=
 (if (decide (g1.1 < (v1.2.1.length:Int)))=true then
  gd (0≤g1.1∧g1.1 < (v1.2.1.length:Int)) <|
  (zh5 g1.2.c.queues ((v1.2.1.getD g1.1.toNat Atom.zero).name)).bind fun v4 =>
  gd (0≤v4∧v4 < (g1.2.c.queues.length:Int)) <|
  (zi2 (g1.2.c.queues.getD v4.toNat Queue.zero) ((j1.c.procs.getD a0.toNat Proce.zero).proc)).bind fun v5 =>
  gd (0≤g1.1∧g1.1 < (v1.2.1.length:Int)) <|
  (if (!decide (v5=(v1.2.1.getD g1.1.toNat Atom.zero).amount))=true then
   gd (0≤g1.1∧g1.1 < (v1.2.1.length:Int)) <|
   (zI5 g1.2.c.queues ((j1.c.procs.getD a0.toNat Proce.zero).proc) (v1.2.1.getD g1.1.toNat Atom.zero)).bind fun v6 =>
   (zc5 v6.1 v6.2.1 g1.2).bind fun v7 =>
   some (.inl ((i64.wrap (g1.1+1)),(⟨(⟨v7.1,v7.2.1,v7.2.2.1⟩:Central),v7.2.2.2⟩:work)))
  else
   some (.inl ((i64.wrap (g1.1+1)),g1.2)))
 else
  some (.inr g1.2))
@[go_sem] def zdt6 (a0:Int) (v1:Ledger×(List Atom)×Int) (j1:work) (g1:Int×work):St:=⟨[(0,.ptr 0 0 0),(1,.int .i64 a0),(8,la v1.2.1),(10,.ptr 3 0 0),(11,.int .i64 g1.1)],[(0,⟨false,4,work.enc work.zero,[[.int .i64 g1.2.c.now,la g1.2.c.queues,.own 4 0 g1.2.c.procs.length,.own 5 0 g1.2.ev.length]]⟩),(3,bx ((j1.c.procs.getD a0.toNat Proce.zero).proc)),(4,sx g1.2.c.procs),(5,sx g1.2.ev)],6⟩
def zz3 (a0:Int) (v1:Ledger×(List Atom)×Int) (j1:work):Option (Int×work) :=
 gd (0≤a0∧a0 < ((j1.c.procs.length:Nat):Int)) <|
 gd (0≤a0∧a0 < ((j1.c.procs.length:Nat):Int)) <|
 (zc0 (zC7 a0 v1 j1) (0,(⟨(⟨j1.c.now,j1.c.queues,j1.c.procs.set a0.toNat ({ (j1.c.procs.getD a0.toNat Proce.zero) with ledger:=v1.1 })⟩:Central),j1.ev⟩:work))).bind (fun z=>zJ8 a0 z)
@[go_sem] def zdt7 (a0:Int) (v1:Ledger×(List Atom)×Int) (j1:work):St:=⟨[(0,.ptr 0 0 0),(1,.int .i64 a0),(7,.ptr 3 0 0),(8,la v1.2.1)],[(0,⟨false,4,work.enc work.zero,[[.int .i64 j1.c.now,la j1.c.queues,.own 4 0 j1.c.procs.length,.own 5 0 j1.ev.length]]⟩),(3,bx v1.1),(4,sx j1.c.procs),(5,sx j1.ev)],6⟩
def zz4 (a0 a1:Int) (a2:work):Option (Int×work) :=
 gd (0≤a0∧a0 < ((a2.c.procs.length:Nat):Int)) <|
 (zx2 ((a2.c.procs.getD a0.toNat Proce.zero).ledger) a1).bind fun v1 =>
 (if (!decide (v1.2.2=0))=true then
  some (v1.2.2,a2)
 else
  gd (0≤a0∧a0 < ((a2.c.procs.length:Nat):Int)) <|
  (if (a2.c.procs.getD a0.toNat Proce.zero).waiting=true then
   (zs8 a0 a2).bind fun v8 =>
   zz3 a0 v1 v8
  else
   zz3 a0 v1 a2))
theorem zaM1 (a0 a1:Int) (a2:work) (r:Int×work) (h:zz4 a0 a1 a2=some r):MFn C 213 [.ptr 0 0 0,.int .i64 a0,.int .i64 a1] [(0,⟨false,4,work.enc work.zero,[[.int .i64 a2.c.now,la a2.c.queues,.own 1 0 a2.c.procs.length,.own 2 0 a2.ev.length]]⟩),(1,sx a2.c.procs),(2,sx a2.ev)] 3 (.int .i64 r.1) [(0,⟨false,4,work.enc work.zero,[[.int .i64 r.2.c.now,la r.2.c.queues,.own 3 0 r.2.c.procs.length,.own 4 0 r.2.ev.length]]⟩),(3,sx r.2.c.procs),(4,sx r.2.ev)] 5:=by
 refine zaC5 Tryz.f213 [] [.int .i64 r.1] fun E hG hN hK=>?_
 unfold zz4 at h
 refine za2 (za9 hG ?_)
 refine za2 ?_
 obtain ⟨hb8,h⟩:=zg5 h
 refine za9 hG ?_
 obtain ⟨v1,hv1,h⟩:=zf1 h
 refine zu6 (fun hg=>zbV2 _ _ _ hv1) ?_
 refine za2 (za2 (za9 hG ?_))
 refine zo2 rfl hG h (fun _ h=>?_) (fun _ h=>?_)
 · refine za2 (za9 hG ?_)
   refine zw3 ?_
   exact zS7 [(0,0),(3,1),(4,2)] h
 refine zn4 ?_
 refine za2 (za2 ?_)
 obtain ⟨hb7,h⟩:=zg5 h
 refine za9 hG ?_
 refine zbh2 (zdt7 a0 v1) (fun v=>zz3 a0 v1 v=some r) rfl hG h ?_ (fun _ h=>?_) (fun _ h=>?_)
 · intro j1 h
   unfold zz3 at h
   refine g_st ?_
   refine za2 ?_
   obtain ⟨hb6,h⟩:=zg5 h
   refine za9 hG ?_
   refine za2 ?_
   obtain ⟨hb5,h⟩:=zg5 h
   refine zaF0 zL7 hG ?_
   refine za2 (za2 (za9 hG ?_))
   refine zP5 (zdt5 a0) (fun v=>zJ8 a0 v=some r) ?_ ?_
   · intro j2 h
     unfold zJ8 at h
     refine g_st ?_
     refine za2 (za9 hG ?_)
     obtain ⟨v2,hv2,h⟩:=zf1 h
     refine zu2 [(0,0),(1,3),(2,4)] [] [0,1,2] ((zba8 a0 j2).ok _ hv2) rfl rfl ?_
     refine za2 (za9 hG ?_)
     obtain ⟨v3,hv3,h⟩:=zf1 h
     refine zu2 [(0,0),(1,3),(2,4)] [(3,5),(4,6)] [0,1,2,3,4] ((zaS7 (⟨(⟨v2.1,v2.2.1,v2.2.2.1⟩:Central),v2.2.2.2⟩:work)).ok _ hv3) rfl rfl ?_
     refine za2 (za9 hG ?_)
     refine zw3 ?_
     exact zS7 [(0,0),(3,5),(4,6)] h
   refine zao1 (zdt6 a0 v1 j1) hK [(0,0),(3,6),(4,4),(5,5)] h (fun x_l1 h g1 y_l1 h_l1 hx_l1=>?_)
   unfold zC7 at h_l1
   refine g_st ?_
   refine za2 (za2 (za9 hG ?_))
   refine zo2 rfl hG h_l1 (fun _ h_l1=>?_) (fun _ h_l1=>?_)
   · refine zn4 ?_
     refine za2 (zI8 (za2 ?_))
     obtain ⟨hb4,h_l1⟩:=zg5 h_l1
     refine zbc9 zL7 hG ?_
     obtain ⟨v4,hv4,h_l1⟩:=zf1 h_l1
     obtain ⟨hb3,h_l1⟩:=zg5 h_l1
     refine zau9 (fun hg=>(zbk6 g1.2.c.queues ((v1.2.1.getD g1.1.toNat Atom.zero).name)).ok _ hv4) ?_
     obtain ⟨v5,hv5,h_l1⟩:=zf1 h_l1
     obtain ⟨hb2,h_l1⟩:=zg5 h_l1
     refine zau9 (fun hg=>(zaP5 (g1.2.c.queues.getD v4.toNat Queue.zero) ((j1.c.procs.getD a0.toNat Proce.zero).proc)).ok _ hv5) ?_
     refine zo2 rfl hG h_l1 (fun _ h_l1=>?_) (fun _ h_l1=>?_)
     · refine za2 ?_
       obtain ⟨hb1,h_l1⟩:=zg5 h_l1
       refine zbc9 zL7 hG ?_
       obtain ⟨v6,hv6,h_l1⟩:=zf1 h_l1
       refine zau9 (fun hg=>zbe2 _ _ _ _ hv6) ?_
       refine za9 hG ?_
       obtain ⟨v7,hv7,h_l1⟩:=zf1 h_l1
       refine zu2 [(0,0),(1,4),(2,5)] [(3,6)] [0,1,2,3] ((zba7 v6.1 v6.2.1 g1.2).ok _ hv7) rfl rfl ?_
       refine za9 hG ?_
       exact zX1 hK [(0,0),(3,3),(4,4),(5,6)] h_l1
     refine zn4 ?_
     refine za9 hG ?_
     exact zX1 hK [(0,0),(3,3),(4,4),(5,5)] h_l1
   refine zR6 ?_
   cases h_l1
   cases hx_l1 _ rfl
   exact zI1 hK [(0,0),(3,4),(4,5)] g1.2 (by exact h)
 · refine za9 hG ?_
   obtain ⟨v8,hv8,h⟩:=zf1 h
   refine zu2 [(0,0),(1,1),(2,2)] [(3,4),(4,5)] [0,1,2,3,4] ((zaM0 a0 a2).ok _ hv8) rfl rfl ?_
   exact zI1 hK [(0,0),(3,3),(4,4),(5,5)] v8 (by exact h)
 refine zn4 ?_
 exact zI1 hK [(0,0),(3,3),(4,1),(5,2)] a2 (by exact h)
instance zbU3 (a0 a1:Int) (a2:work):OkM (zz4 a0 a1 a2) 213 [.ptr 0 0 0,.int .i64 a0,.int .i64 a1] [(0,⟨false,4,work.enc work.zero,[[.int .i64 a2.c.now,la a2.c.queues,.own 1 0 a2.c.procs.length,.own 2 0 a2.ev.length]]⟩),(1,sx a2.c.procs),(2,sx a2.ev)] 3 (fun r=>.int .i64 r.1) (fun r=>[(0,⟨false,4,work.enc work.zero,[[.int .i64 r.2.c.now,la r.2.c.queues,.own 3 0 r.2.c.procs.length,.own 4 0 r.2.ev.length]]⟩),(3,sx r.2.c.procs),(4,sx r.2.ev)]) 5:=⟨zaM1 a0 a1 a2⟩
attribute [local irreducible] zz4
def zE8 (a0:Int) (a1:work):Option work :=
 gd (0≤a0∧a0 < ((a1.c.procs.length:Nat):Int)) <|
 (zQ0 a1.c.queues ((a1.c.procs.getD a0.toNat Proce.zero).proc)).bind fun v1 =>
 (zc5 v1.1 v1.2 a1).bind fun v2 =>
 gd (0≤0∧0≤a0∧a0≤((v2.2.2.1.length:Nat):Int)∧a0=a0) <|
 gd (0≤i64.wrap (a0+1)∧i64.wrap (a0+1)≤((v2.2.2.1.length:Nat):Int)∧((v2.2.2.1.length:Nat):Int)≤((v2.2.2.1.length:Nat):Int)) <|
 gd (a0.toNat+((v2.2.2.1.drop ((i64.wrap (a0+1)).toNat)).take (v2.2.2.1.length - (i64.wrap (a0+1)).toNat)).length≤4294967296∧a0.toNat≤v2.2.2.1.length) <|
 (zd0 5 ((a1.c.procs.getD a0.toNat Proce.zero).proc) (⟨(⟨v2.1,v2.2.1,(v2.2.2.1.take a0.toNat++(v2.2.2.1.drop ((i64.wrap (a0+1)).toNat)).take (v2.2.2.1.length - (i64.wrap (a0+1)).toNat))⟩:Central),v2.2.2.2⟩:work)).bind fun v3 =>
 (zl3 (⟨(⟨v3.1,v3.2.1,v3.2.2.1⟩:Central),v3.2.2.2⟩:work)).bind fun v4 =>
 some v4
instance zck0 (a0:Int) (a1:work):OkM (zE8 a0 a1) 214 [.ptr 0 0 0,.int .i64 a0] [(0,⟨false,4,work.enc work.zero,[[.int .i64 a1.c.now,la a1.c.queues,.own 1 0 a1.c.procs.length,.own 2 0 a1.ev.length]]⟩),(1,sx a1.c.procs),(2,sx a1.ev)] 3 (fun r=>.tup []) (fun r=>[(0,⟨false,4,work.enc work.zero,[[.int .i64 r.c.now,la r.c.queues,.own 3 0 r.c.procs.length,.own 4 0 r.ev.length]]⟩),(3,sx r.c.procs),(4,sx r.ev)]) 5:=okm (zE8.eq_1 a0 a1) (fun r=>[]) Tryz.f214 [(42,1)]
attribute [local irreducible] zE8
def zJ9 (a0:Command) (a1:work):Option (Int×work) :=
 (if (decide (a0.kind < 1)||decide (9 < a0.kind))=true then
  some (1,a1)
 else
  (if (decide (a0.kind=1))=true then
   (zg6 a0.proc a0.n a1).bind fun v1 =>
   some (v1.1,v1.2)
  else
   (if (decide (a0.kind=9))=true then
    (zE7 a0.n a1).bind fun v2 =>
    some (v2.1,v2.2)
   else
    (zi4 a1.c.procs a0.proc).bind fun v3 =>
    (if (decide (v3 < 0))=true then
     some (10,a1)
    else
     gd (0≤v3∧v3 < ((a1.c.procs.length:Nat):Int)) <|
     (if (decide (a0.kind=2))=true then
      (zA3 v3 a0.request a1).bind fun v4 =>
      some (v4.1,v4.2)
     else
      (if (decide (a0.kind=3))=true then
       (if (!(a1.c.procs.getD v3.toNat Proce.zero).waiting)=true then
        some (14,a1)
       else
        (zs8 v3 a1).bind fun v5 =>
        (zc8 v3 v5).bind fun v6 =>
        (zl3 (⟨(⟨v6.1,v6.2.1,v6.2.2.1⟩:Central),v6.2.2.2⟩:work)).bind fun v7 =>
        some (0,v7))
      else
       (if (decide (a0.kind=4))=true then
        (zE2 v3 a0.name a1).bind fun v8 =>
        some (v8.1,v8.2)
       else
        (if (decide (a0.kind=5))=true then
         (if (a1.c.procs.getD v3.toNat Proce.zero).waiting=true then
          some (14,a1)
         else
          gd (0≤v3∧v3 < ((a1.c.procs.length:Nat):Int)) <|
          (zx1 ((a1.c.procs.getD v3.toNat Proce.zero).ledger) a0.n).bind fun v9 =>
          (if (!decide (v9.2=0))=true then
           some (v9.2,a1)
          else
           gd (0≤v3∧v3 < ((a1.c.procs.length:Nat):Int)) <|
           (zc8 v3 (⟨(⟨a1.c.now,a1.c.queues,a1.c.procs.set v3.toNat ({ (a1.c.procs.getD v3.toNat Proce.zero) with ledger:=v9.1 })⟩:Central),a1.ev⟩:work)).bind fun v10 =>
           some (0,(⟨(⟨v10.1,v10.2.1,v10.2.2.1⟩:Central),v10.2.2.2⟩:work))))
        else
         (if (decide (a0.kind=6))=true then
          (zz4 v3 a0.n a1).bind fun v11 =>
          some (v11.1,v11.2)
         else
          (if (decide (a0.kind=8))=true then
           (if (a1.c.procs.getD v3.toNat Proce.zero).waiting=true then
            some (14,a1)
           else
            (zE8 v3 a1).bind fun v12 =>
            some (0,v12))
          else
           (if (decide (a0.kind=7))=true then
            (zE8 v3 a1).bind fun v13 =>
            some (0,v13)
           else
            some (0,a1))))))))))))
instance zcu9 (a0:Command) (a1:work):OkM (zJ9 a0 a1) 165 [.ptr 0 0 0,ga a0] [(0,⟨false,4,work.enc work.zero,[[.int .i64 a1.c.now,la a1.c.queues,.own 1 0 a1.c.procs.length,.own 2 0 a1.ev.length]]⟩),(1,sx a1.c.procs),(2,sx a1.ev)] 3 (fun r=>.int .i64 r.1) (fun r=>[(0,⟨false,4,work.enc work.zero,[[.int .i64 r.2.c.now,la r.2.c.queues,.own 3 0 r.2.c.procs.length,.own 4 0 r.2.ev.length]]⟩),(3,sx r.2.c.procs),(4,sx r.2.ev)]) 5:=okm (zJ9.eq_1 a0 a1) (fun r=>[.int .i64 r.1]) Tryz.f165 []
attribute [local irreducible] zJ9
def zar5 (a0:Central) (a1:Command):Option (Central×(List Event)×Int) :=
 (zO9 a0).bind fun v1 =>
 (if (!v1)=true then
  some ({ Central.zero with  },[],2)
 else
  (zj3 a0).bind fun v2 =>
  (zJ9 a1 (⟨(⟨v2.now,v2.queues,v2.procs⟩:Central),[]⟩:work)).bind fun v3 =>
  (if (!decide (v3.1=0))=true then
   some ({ Central.zero with  },[],v3.1)
  else
   some (v3.2.c,v3.2.ev,0)))
instance zdo5 (a0:Central) (a1:Command):OkP (zar5 a0 a1) 121 [ga a0,ga a1] (fun r=>.tup [ga r.1,la r.2.1,.int .i64 r.2.2]):=⟨fun r h=>by
 refine zag9 Tryz.f121 [(15,14)] fun E hG hN hK=>?_
 have hm:Mk (zar5 a0 a1):=trivial
 unfold zar5 at h
 refine za2 (za9 hG ?_)
 refine za2 (za2 (za9 hG ?_))
 obtain ⟨v1,hv1,h⟩:=zf1 h
 have hm:=mkP hm v1
 refine zu6 (fun hg=>(zbe1 a0).ok _ hv1) ?_
 refine zo2 rfl hG h (fun _ h=>?_) (fun _ h=>?_)
 · exact gogo
 refine zn4 ?_
 refine za2 (za9 hG ?_)
 obtain ⟨v2,hv2,h⟩:=zf1 h
 have hm:=mkP hm v2
 refine zu2 [] [(0,3),(1,4)] [0,1] (zbw3 _ _ hv2) rfl rfl ?_
 refine g_gh (.fz [3]) ?_
 refine g_gh (.ownb 5 3 7 (Event.enc Event.zero)) ?_
 exact gogo⟩
attribute [local irreducible] zar5
def zbk8 (j1:Central):Option Central :=
 some j1
def zaB1 (a1:List Command) (g1:Int×Central):Option ((Int×Central)⊕Central) :=
 (if (decide (g1.1 < (a1.length:Int)))=true then
  gd (0≤g1.1∧g1.1 < (a1.length:Int)) <|
  (zar5 g1.2 (a1.getD g1.1.toNat Command.zero)).bind fun v1 =>
  (if (decide (v1.2.2=0))=true then
   some (.inl ((i64.wrap (g1.1+1)),v1.1))
  else
   some (.inl ((i64.wrap (g1.1+1)),g1.2)))
 else
  some (.inr g1.2))
def zar6 (a0:Central) (a1:List Command):Option Central :=
 (zc0 (zaB1 a1) (0,a0)).bind (fun z=>zbk8 z)
@[reducible,instance] def zea6 a0 a1:=mkJ (zar6 a0 a1) 0 (@zbk8.eq_1) fun (j1:Central)=>⟨[(2,.ptr 0 0 0),(4,.ptr 1 0 0)],[(0,bx j1),(1,bx Central.zero)],2⟩
@[reducible,instance] def zea7 (a1:List Command) {T:Type} (x:T):=mkL x (@zaB1.eq_1 a1) fun (g1:Int×Central)=>⟨[(1,la a1),(2,.ptr 0 0 0),(4,.ptr 1 0 0),(5,.int .i64 g1.1)],[(0,bx g1.2),(1,bx Central.zero)],2⟩
instance zdo6 (a0:Central) (a1:List Command):OkP (zar6 a0 a1) 74 [ga a0,la a1] (fun r=>ga r):=ok1 (zar6.eq_1 a0 a1) Tryz.f74 []
attribute [local irreducible] zar6
def zae2 (a0:List Int):Option Central :=
 (zO6 a0).bind fun v1 =>
 (zaj9 v1.1).bind fun v2 =>
 (zar6 v2.1 v1.2).bind fun v3 =>
 some v3
instance zcS1 (a0:List Int):OkP (zae2 a0) 28 [.sl (a0.map (eI .i64))] (fun r=>ga r):=ok1 (zae2.eq_1 a0) Tryz.f28 []
attribute [local irreducible] zae2
def zbk9 (j1:WaitState):Option WaitState :=
 some j1
def zaB2 (a0:Central) (g1:Int×WaitState):Option ((Int×WaitState)⊕WaitState) :=
 (if (decide (g1.1 < (a0.procs.length:Int)))=true then
  gd (0≤g1.1∧g1.1 < (a0.procs.length:Int)) <|
  (if (a0.procs.getD g1.1.toNat Proce.zero).waiting=true then
   gd (0≤g1.1∧g1.1 < (a0.procs.length:Int)) <|
   gd (0≤g1.1∧g1.1 < (a0.procs.length:Int)) <|
   gd (0≤g1.1∧g1.1 < (a0.procs.length:Int)) <|
   gd (g1.2.needs.length+1≤4294967296) <|
   some (.inl ((i64.wrap (g1.1+1)),(⟨g1.2.queues,(g1.2.needs++[(⟨(a0.procs.getD g1.1.toNat Proce.zero).proc,((a0.procs.getD g1.1.toNat Proce.zero).request).expr,(a0.procs.getD g1.1.toNat Proce.zero).gen⟩:Need)])⟩:WaitState)))
  else
   some (.inl ((i64.wrap (g1.1+1)),g1.2)))
 else
  some (.inr g1.2))
def zak2 (a0:Central):Option WaitState :=
 (zO9 a0).bind fun v1 =>
 (if (!v1)=true then
  some ({ WaitState.zero with  })
 else
  gd (a0.queues.length≤4294967296) <|
  (zc0 (zaB2 a0) (0,(⟨a0.queues,[]⟩:WaitState))).bind (fun z=>zbk9 z))
@[reducible,instance] def zea8 (a0:Central) {T1:Type} (v1:T1):=mkJ (zak2 a0,v1) 0 (@zbk9.eq_1) fun (j1:WaitState)=>⟨[(2,.ptr 0 0 0),(3,.ptr 1 0 0)],[(0,bx WaitState.zero),(1,⟨false,2,WaitState.enc WaitState.zero,[[.own 2 0 j1.queues.length,.own 3 0 j1.needs.length]]⟩),(2,sx j1.queues),(3,sx j1.needs)],4⟩
@[reducible,instance] def zea9 (a0:Central) {T:Type} (x:T):=mkL x (@zaB2.eq_1 a0) fun (g1:Int×WaitState)=>⟨[(1,.ptr 0 0 0),(2,.ptr 1 0 0),(3,.ptr 2 0 0),(4,.int .i64 g1.1)],[(0,bx a0),(1,bx WaitState.zero),(2,⟨false,2,WaitState.enc WaitState.zero,[[.own 3 0 g1.2.queues.length,.own 4 0 g1.2.needs.length]]⟩),(3,sx g1.2.queues),(4,sx g1.2.needs)],5⟩
instance zdo7 (a0:Central):OkP (zak2 a0) 27 [ga a0] (fun r=>ga r):=⟨fun r h=>by
 refine zag9 Tryz.f27 [(9,1),(13,4),(3,4)] fun E hG hN hK=>?_
 have hm:Mk (zak2 a0):=trivial
 unfold zak2 at h
 refine za2 (za9 hG ?_)
 refine za2 (za2 (za9 hG ?_))
 obtain ⟨v1,hv1,h⟩:=zf1 h
 have hm:=mkP hm v1
 refine zu6 (fun hg=>(zbe1 a0).ok _ hv1) ?_
 refine zo2 rfl hG h (fun _ h=>?_) (fun _ h=>?_)
 · exact gogo
 refine zn4 ?_
 refine za2 ?_
 obtain ⟨hb6,h⟩:=zg5 h
 refine za9 hG ?_
 refine g_gh (.ownb 4 1 9 (Need.enc Need.zero)) ?_
 exact gogo⟩
attribute [local irreducible] zak2
def zan5 (a0:List Int):Option WaitState :=
 (zae2 a0).bind fun v1 =>
 (zak2 v1).bind fun v2 =>
 some v2
instance zdh9 (a0:List Int):OkP (zan5 a0) 8 [.sl (a0.map (eI .i64))] (fun r=>ga r):=ok1 (zan5.eq_1 a0) Tryz.f8 []
attribute [local irreducible] zan5
def zH9 (v3:WaitState) (v5:WaitState×Int) (j1:Unit):Option Bool :=
 (zT5).bind fun v8 =>
 ((if v8=true then zr6 v3.queues v5.1.queues else some false)).bind fun v9 =>
 some (v8&&v9)
def zI0 (v3:WaitState) (v5:WaitState×Int) (v7:(List Proc)) (g1:Int):Option (Int⊕(Unit⊕Bool)) :=
 (if (decide (g1 < (v7.length:Int)))=true then
  gd (0≤g1∧g1 < (v7.length:Int)) <|
  (zu9 v5.1 (v7.getD g1.toNat Proc.zero)).bind fun v10 =>
  gd (0≤g1∧g1 < (v7.length:Int)) <|
  (zL3 v3 (v7.getD g1.toNat Proc.zero)).bind fun v11 =>
  (ze2 v10 v11).bind fun v12 =>
  (if (!v12)=true then
   some (.inr (.inr false))
  else
   some (.inl (i64.wrap (g1+1))))
 else
  some (.inr (.inl ())))
def zB4 (a0 a1:List Int):Option Bool :=
 (if ((!(zav2 a0))||decide (40 < (a1.length:Int)))=true then
  (zT5).bind fun v1 =>
  some v1
 else
  (zan5 a0).bind fun v2 =>
  (zl1 v2 a1).bind fun v3 =>
  (zv6 v3).bind fun v4 =>
  (zu7 v4.1).bind fun v5 =>
  ((if (!((!decide (v4.2=0))||(!decide (v5.2=0))))=true then zs6 v3 v5.1 else some false)).bind fun v6 =>
  (if (((!decide (v4.2=0))||(!decide (v5.2=0)))||(!v6))=true then
   some false
  else
   (zD0 v3).bind fun v7 =>
   (zc0 (zI0 v3 v5 v7) 0).bind (fun|.inl z=>zH9 v3 v5 z|.inr z=>some z)))
@[reducible,instance] def zeb0 a0 a1 {T1:Type} (v2:T1) (v3:WaitState) {T2:Type} (v4:T2) (v5:WaitState×Int) {T3:Type} (v6:T3) {T4:Type} (v7:T4):=mkJ ((((((zB4 a0 a1,v2),v3),v4),v5),v6),v7) 0 (@zH9.eq_1 v3 v5) fun (j1:Unit)=>⟨[(5,.ptr 0 0 0),(8,.ptr 1 0 0)],[(0,bx v3),(1,bx v5.1)],2⟩
@[reducible,instance] def zeb1 (v3:WaitState) (v5:WaitState×Int) (v7:(List Proc)) {T:Type} (x:T):=mkL x (@zI0.eq_1 v3 v5 v7) fun (g1:Int)=>⟨[(5,.ptr 0 0 0),(8,.ptr 1 0 0),(10,la v7),(11,.int .i64 g1)],[(0,bx v3),(1,bx v5.1)],2⟩
instance zaM2 (a0 a1:List Int):OkP (zB4 a0 a1) 3 [.sl (a0.map (eI .i64)),.sl (a1.map (eI .i64))] (fun r=>.bool r):=ok1 (zB4.eq_1 a0 a1) Tryz.f3 []
attribute [local irreducible] zB4
end
end Ab
end Go.Proofs.YtcggeefhhegeoaaGreatDoor
