import Derived.Test.YtamndckemppjdaaGreatDoorHm21
import Derived.Test.YtamndckemppjdaaGreatDoorHm18
import Derived.Test.YtamndckemppjdaaGreatDoorHm27
import Derived.Test.YtamndckemppjdaaGreatDoorHm32
namespace Go.Proofs.YtamndckemppjdaaGreatDoor
namespace Ab
open IntKind (i64 u64 u8 u32)
set_option linter.unusedSimpArgs false
set_option linter.defProp false
set_option linter.unusedVariables false
set_option maxRecDepth 100000
set_option maxHeartbeats 4000000
noncomputable section
attribute [local irreducible] zn9 zf4 zb7 ze8 zl6 zk8 zd0 zd6 zc8 zf7 zn2 zb8 zq7 zh1 zc1 zk5 zm2 zb4 zg1 za4 zk1 ze6 zb5 zd3 ze9 zd5 zm0 zn3 zi7 zg7 zg5 zh7 zg2 zd9 zh5 zi8 zk9 zb2 zg4 za6 zi9 za9 zb9 zf1 zj6 zf2 zi3 za8 za7 za5 zh2 zj2 zf3 zj8 zg3 zd7 zm3 zc5 zh9 zi0 zh4 zj1 zk2 zn8 zm1 zb6 zj0 zd8 zi5 zq5 zl0 zm9 zf0 zc3 zf5 zb0 zq0 zg9 zl7 zc0 zg6 zb1 zf8 zl8 zi1 zg0 zo7 zo1 zm5 zl3 zk4 zq6 zj3 zj5 zt8 zf9 zh8 zp0 zc7 ze2 ze4 ze3 zb3 zn4 zj9 zc6 zl9 zj4 zl1 zm8 zs3 zm4 ze1 zi4 zo8 zp7 zs6 zo0 zk6 zv1 zs7 zn7 zi2 zp1 zc9 zn6 zd4 f_formula_holds zc2 ze0 zp8 zr9 zh6 zf6 zq1 zt3 zp4 zu5 zl2 zv6 zm6 zr1 zl4 zu4 zr4 zm7 zn5 zr2 zd1 zT1 zJ2 zq2 zr7 zr3 zt0 zt7 zq9 zi6 zt4 zu6 zv0 zt9 zk7 zp3 zo6 ze7
def zZ4(j1:Unit):Option Bool:=
 some true
def zZ5(a0:aM)(a1:aH)(v6:(List aO))(g1:Int):Option (Int⊕(Unit⊕Bool)):=
 (if(decide (g1<(a0.aB.length:Int)))=true then
  gd (0<=g1/\g1<(a0.aB.length:Int))<|
  (zn5 (a0.aB.getD g1.toNat aC.zero) a1 v6).bind λ v7=>
  (if(!v7)=true then
   some (.inr (.inr false))
  else
   some (.inl (i64.wrap (g1+1))))
 else
  some (.inr (.inl ())))
def zv5(a0:aM)(a1:aH):Option Bool:=
 (zk7 a1.aR).bind λ v1=>
 ((if v1=true then zf4 a0.aB else some [])).bind λ v2=>
 ((if v1=true then zr7 v2 a1.aR.bQ else some 0)).bind λ v3=>
 (if((!v1)||(!decide (v3=0)))=true then
  some false
 else
  (if((decide (a1.since<0)||decide (a0.now<a1.since))||((!decide (a1.aR.limit=0))&&decide (i64.wrap (a1.since+a1.aR.limit)<=a0.now)))=true then
   some false
  else
   (zr3 a0.aB a1).bind λ v4=>
   (zt0 a1.aR.bQ v4).bind λ v5=>
   (if v5=true then
    some false
   else
    (zq2 a1.aR.bQ).bind λ v6=>
    (zg8 (zZ5 a0 a1 v6) 0).bind (λ|.inl z=>zZ4 z|.inr z=>some z))))
@[reducible,instance] def zdE0 a0 a1 {T1:Type} (v1:T1) {T2:Type} (v2:T2) {T3:Type} (v3:T3) {T4:Type} (v4:T4) {T5:Type} (v5:T5) {T6:Type} (v6:T6):=mkJ ((((((zv5 a0 a1,v1),v2),v3),v4),v5),v6) 0 (@zZ4.eq_1) λ(j1:Unit)=>⟨[],[],0⟩
@[reducible,instance] def zdE1 (a0:aM) (a1:aH) (v6:(List aO)) {T:Type} (x:T):=mkL x (@zZ5.eq_1 a0 a1 v6) λ(g1:Int)=>⟨[(3,.ptr 0 0 0),(6,la v6),(59,la a0.aB),(60,.int .i64 (a0.aB.length:Int)),(61,.int .i64 g1)],[(0,bx a1)],1⟩
instance zbr0(a0:aM)(a1:aH):OkP (zv5 a0 a1) 114 [ga a0,ga a1] (λ r=>.bool r):=ok1 (zv5.eq_1 a0 a1) Tryz.f114 []
attribute [local irreducible] zv5
def zv2(a0:aH)(a1:bM):Option (Bool×Int×(List aC)×(List aH)×(List bI)):=
 ((if a0.bW=true then zr3 a1.central.aB a0 else some [])).bind λ v1=>
 ((if a0.bW=true then zt0 a0.aR.bQ v1 else some false)).bind λ v2=>
 some ((a0.bW&&v2),a1.central.now,a1.central.aB,a1.central.bA,a1.events)
instance zaq1(a0:aH)(a1:bM):OkM (zv2 a0 a1) 213 [ga a0,.ptr 0 0 0] [(0,⟨false,1,[A.any],[[.ptr 1 0 0]]⟩),(1,⟨false,4,bM.enc bM.zero,[[.int .i64 a1.central.now,la a1.central.aB,.own 2 0 a1.central.bA.length,.own 3 0 a1.events.length]]⟩),(2,sx a1.central.bA),(3,sx a1.events)] 4 (λ r=>.bool r.1) (λ r=>[(0,⟨false,1,[A.any],[[.ptr 1 0 0]]⟩),(1,⟨false,4,bM.enc bM.zero,[[.int .i64 r.2.1,la r.2.2.1,.own 2 0 r.2.2.2.1.length,.own 3 0 r.2.2.2.2.length]]⟩),(2,sx r.2.2.2.1),(3,sx r.2.2.2.2)]) 4:=okm (zv2.eq_1 a0 a1) (λ r=>[.bool r.1]) Tryz.f213 []
attribute [local irreducible] zv2
def zaC6(j1:bN):Option (bN×Int):=
 some (j1,0)
def zaC7(a0:List aG)(a1:Int)(g1:Int×bN):Option ((Int×bN)⊕(bN⊕(bN×Int))):=
 (if(decide (g1.1<a1))=true then
  (zJ2 a0 g1.1 a1).bind λ v2=>
  (if(!decide (v2.2=0))=true then
   some (.inr (.inr ({bN.zero with},v2.2)))
  else
   gd (g1.2.sites.length+1<=4294967296)<|
   some (.inl ((i64.wrap (g1.1+1)),(⟨g1.2.catalog,(g1.2.sites++[v2.1]),g1.2.channels⟩:bN))))
 else
  some (.inr (.inl g1.2)))
def zD7(a0:List aG)(a1:Int):Option (bN×Int):=
 (if(decide (a1<1)||decide (4<a1))=true then
  some ({bN.zero with},1)
 else
  (za6 a0).bind λ v1=>
  gd (0<=i64.wrap (a1*a1)/\i64.wrap (a1*a1)<=i64.wrap (a1*a1)/\i64.wrap (a1*a1)<=4294967296)<|
  (zg8 (zaC7 a0 a1) (0,(⟨v1,[],List.replicate ((i64.wrap (a1*a1)).toNat) []⟩:bN))).bind (λ|.inl z=>zaC6 z|.inr z=>some z))
@[reducible,instance] def zdE2 (a0:List aG) (a1:Int) {T1:Type} (v1:T1):=mkJ (zD7 a0 a1,v1) 0 (@zaC6.eq_1) λ(j1:bN)=>⟨[(4,.ptr 0 0 0),(6,.ptr 1 0 0)],[(0,bx bN.zero),(1,⟨false,3,bN.enc bN.zero,[[la j1.catalog,.own 2 0 j1.sites.length,.own 3 0 j1.channels.length]]⟩),(2,sx j1.sites),(3,⟨false,1,[A.sl ([].map (eL (eI .u8)))],j1.channels.map (eL (eL (eI .u8)))⟩)],4⟩
@[reducible,instance] def zdE3 (a0:List aG) (a1:Int) {T:Type} (x:T):=mkL x (@zaC7.eq_1 a0 a1) λ(g1:Int×bN)=>⟨[(0,la a0),(1,.int .i64 a1),(4,.ptr 0 0 0),(6,.ptr 1 0 0),(24,.int .i64 a1),(25,.int .i64 g1.1)],[(0,bx bN.zero),(1,⟨false,3,bN.enc bN.zero,[[la g1.2.catalog,.own 2 0 g1.2.sites.length,.own 3 0 g1.2.channels.length]]⟩),(2,sx g1.2.sites),(3,⟨false,1,[A.sl ([].map (eL (eI .u8)))],g1.2.channels.map (eL (eL (eI .u8)))⟩)],4⟩
instance zcb0(a0:List aG)(a1:Int):OkP (zD7 a0 a1) 19 [la a0,.int .i64 a1] (λ r=>.tup [ga r.1,.int .i64 r.2]):=⟨λ r h=>by
 refine zx6 Tryz.f19 [(23,4),(6,4)] λ E hG hN hK=>?_;have hm:Mk (zD7 a0 a1):=trivial;unfold zD7 at h;refine za2 (za3 hG ?_);refine za2 (za2 (za3 hG ?_));refine zh3 rfl hG h (λ _ h=>?_) (λ _ h=>?_)
 .exact gogo
 refine zh0 ?_;refine za2 (zP1 zv9 hG ?_);obtain⟨v1,hv1,h⟩:=zd2 h;have hm:=mkP hm v1;obtain⟨hb2,h⟩:=ze5 h;refine zx8 (λ hg=>zT4 _ _ hv1) ?_;refine g_gh (.ownb 2 1 37 (bE.enc bE.zero)) ?_;exact gogo⟩
attribute [local irreducible] zD7
def zF9(a0:aM)(a1:aH)(j1:Unit):Option Bool:=
 (if a1.bW=true then
  (zv5 a0 a1).bind λ v3=>
  some v3
 else
  (zp3 a0 a1).bind λ v4=>
  some v4)
def zG0(a0:aM)(v2:(List aO))(g1:Int):Option (Int⊕(Unit⊕Bool)):=
 (if(decide (g1<(v2.length:Int)))=true then
  gd (0<=g1/\g1<(v2.length:Int))<|
  (zm2 a0.aB ((v2.getD g1.toNat aO.zero).name)).bind λ v5=>
  gd ((!(decide (v5<0)))=true->0<=v5/\v5<(a0.aB.length:Int))<|
  (if(decide (v5<0)||(!(zw4 ((a0.aB.getD v5.toNat aC.zero).aQ) ((v2.getD g1.toNat aO.zero).aY))))=true then
   some (.inr (.inr false))
  else
   some (.inl (i64.wrap (g1+1))))
 else
  some (.inr (.inl ())))
def zs9(a0:aM)(a1:aH):Option Bool:=
 (if(((!(zj7 a1.aZ))||decide (a1.cost<1))||decide (1000<a1.cost))=true then
  some false
 else
  ((if(!(decide (a1.gen<0)||decide (1073741824<a1.gen)))=true then zi4 a1.bH else some false)).bind λ v1=>
  (if((decide (a1.gen<0)||decide (1073741824<a1.gen))||(!v1))=true then
   some false
  else
   (zn7 a1.bH).bind λ v2=>
   (zg8 (zG0 a0 v2) 0).bind (λ|.inl z=>zF9 a0 a1 z|.inr z=>some z)))
@[reducible,instance] def zdE4 (a0:aM) (a1:aH) {T1:Type} (v1:T1) {T2:Type} (v2:T2):=mkJ ((zs9 a0 a1,v1),v2) 0 (@zF9.eq_1 a0 a1) λ(j1:Unit)=>⟨[(2,.ptr 0 0 0),(3,.ptr 1 0 0)],[(0,bx a0),(1,bx a1)],2⟩
@[reducible,instance] def zdE5 (a0:aM) (a1:aH) {T1:Type} (v1:T1) (v2:(List aO)):=mkL ((zs9 a0 a1,v1),v2) (@zG0.eq_1 a0 v2) λ(g1:Int)=>⟨[(2,.ptr 0 0 0),(3,.ptr 1 0 0),(38,la v2),(39,.int .i64 (v2.length:Int)),(40,.int .i64 g1)],[(0,bx a0),(1,bx a1)],2⟩
instance zbr1(a0:aM)(a1:aH):OkP (zs9 a0 a1) 62 [ga a0,ga a1] (λ r=>.bool r):=ok1 (zs9.eq_1 a0 a1) Tryz.f62 []
attribute [local irreducible] zs9
def zw5(j1:(List aH)×Int×(List aC)×(List bI)):Option (Int×(List aH)×Int×(List aC)×(List bI)):=
 some ((-1),j1.1,j1.2.1,j1.2.2.1,j1.2.2.2)
@[go_sem] def zcx9(j1:(List aH)×Int×(List aC)×(List bI)):St:=⟨[],[(0,sx j1.1),(1,⟨false,1,[A.any],[[.ptr 2 0 0]]⟩),(2,⟨false,4,bM.enc bM.zero,[[.int .i64 j1.2.1,la j1.2.2.1,.own 0 0 j1.1.length,.own 3 0 j1.2.2.2.length]]⟩),(3,sx j1.2.2.2)],4⟩
def zA4(a0:List aH)(g1:Int×(List aH)×Int×(List aC)×(List bI)):Option ((Int×(List aH)×Int×(List aC)×(List bI))⊕(((List aH)×Int×(List aC)×(List bI))⊕(Int×(List aH)×Int×(List aC)×(List bI)))):=
 (if(decide (g1.1<((a0.length:Nat):Int)))=true then
  gd (0<=g1.1/\g1.1<((g1.2.1.length:Nat):Int))<|
  (zv2 (g1.2.1.getD g1.1.toNat aH.zero) (⟨(⟨g1.2.2.1,g1.2.2.2.1,g1.2.1⟩:aM),g1.2.2.2.2⟩:bM)).bind λ v1=>
  gd (v1.2.2.2.1.length=g1.2.1.length)<|
  (if v1.1=true then
   some (.inr (.inr (g1.1,v1.2.2.2.1,v1.2.1,v1.2.2.1,v1.2.2.2.2)))
  else
   some (.inl ((i64.wrap (g1.1+1)),v1.2.2.2.1,v1.2.1,v1.2.2.1,v1.2.2.2.2)))
 else
  some (.inr (.inl (g1.2.1,g1.2.2.1,g1.2.2.2.1,g1.2.2.2.2))))
@[go_sem] def zcy0(a0:List aH)(g1:Int×(List aH)×Int×(List aC)×(List bI)):St:=⟨[(0,.own 0 0 g1.2.1.length),(1,.clo 213 [.ptr 1 0 0]),(7,.int .i64 ((a0.length:Nat):Int)),(8,.int .i64 g1.1)],[(0,sx g1.2.1),(1,⟨false,1,[A.any],[[.ptr 2 0 0]]⟩),(2,⟨false,4,bM.enc bM.zero,[[.int .i64 g1.2.2.1,la g1.2.2.2.1,.own 0 0 g1.2.1.length,.own 3 0 g1.2.2.2.2.length]]⟩),(3,sx g1.2.2.2.2)],4⟩
def zp2(a0:List aH)(a1:Int)(a2:List aC)(a3:List bI):Option (Int×(List aH)×Int×(List aC)×(List bI)):=
 (zg8 (zA4 a0) (0,a0,a1,a2,a3)).bind (λ|.inl z=>zw5 z|.inr z=>some z)
theorem zO7(a0:List aH)(a1:Int)(a2:List aC)(a3:List bI)(r:Int×(List aH)×Int×(List aC)×(List bI))(h:zp2 a0 a1 a2 a3=some r):MFn C 117 [.own 0 0 a0.length,.clo 213 [.ptr 1 0 0]] [(0,sx a0),(1,⟨false,1,[A.any],[[.ptr 2 0 0]]⟩),(2,⟨false,4,bM.enc bM.zero,[[.int .i64 a1,la a2,.own 0 0 a0.length,.own 3 0 a3.length]]⟩),(3,sx a3)] 4 (.int .i64 r.1) [(0,sx r.2.1),(1,⟨false,1,[A.any],[[.ptr 2 0 0]]⟩),(2,⟨false,4,bM.enc bM.zero,[[.int .i64 r.2.2.1,la r.2.2.2.1,.own 0 0 r.2.1.length,.own 3 0 r.2.2.2.2.length]]⟩),(3,sx r.2.2.2.2)] 4:=by
 refine zK4 Tryz.f117 [(16,1)] [.int .i64 r.1] λ E hG hN hK=>?_;unfold zp2 at h;refine za2 (za3 hG ?_);refine za2 (za2 (za3 hG ?_));refine zs5 zcx9 (λ v=>zw5 v=some r) ?_ ?_
 · intro j1 h
   unfold zw5 at h;refine g_st ?_;refine za2 (za3 hG ?_);refine zo3 ?_;exact zw8 [(0,0),(1,1),(2,2),(3,3)] h
 refine zz0 (zcy0 a0) hK [(0,0),(1,1),(2,2),(3,3)] h (λ x_l1 h g1 y_l1 h_l1 hx_l1=>?_);unfold zA4 at h_l1;refine g_st ?_;refine za2 (za3 hG ?_);refine za2 ?_;refine zh3 rfl hG h_l1 (λ _ h_l1=>?_) (λ _ h_l1=>?_)
 · refine zh0 ?_
   refine za2 (zr6 (za2 (za3 hG ?_)));refine za2 ?_;obtain⟨hb2,h_l1⟩:=ze5 h_l1;refine za3 hG ?_;obtain⟨v1,hv1,h_l1⟩:=zd2 h_l1;obtain⟨hb1,h_l1⟩:=ze5 h_l1;refine zs2 [(0,1),(1,2),(2,0),(3,3)] [] [0,1,2,3] ((zaq1 (g1.2.1.getD g1.1.toNat aH.zero) (⟨(⟨g1.2.2.1,g1.2.2.2.1,g1.2.1⟩:aM),g1.2.2.2.2⟩:bM)).ok _ hv1) rfl rfl ?_;refine zh3 rfl hG h_l1 (λ _ h_l1=>?_) (λ _ h_l1=>?_)
   · refine za2 (za3 hG ?_)
     refine zo3 ?_;cases h_l1;cases hx_l1 _ rfl;exact zw8 [(0,0),(1,1),(2,2),(3,3)] h
   refine zh0 ?_;refine za3 hG ?_;exact zy5 hK [(0,0),(1,1),(2,2),(3,3)] h_l1
 refine zv7 ?_;cases h_l1;cases hx_l1 _ rfl;exact zs8 hK [(0,0),(1,1),(2,2),(3,3)] (g1.2.1,g1.2.2.1,g1.2.2.2.1,g1.2.2.2.2) (by exact h)
attribute [local irreducible] zp2
attribute [local irreducible] zq8 zD5 zt1 zp9 zD6 zB8 zu2 zu9 zr8 zu1 zw2 zG8 zy0 zy1 zE4 zE5 zz7 zE6 zE7
def zaC8(a0:List aC)(j1:Unit):Option Bool:=
 (zt9 a0).bind λ v1=>
 some (decide ((v1.length:Int)<=8))
def zaC9(a0:List aC)(g1:Int):Option (Int⊕(Unit⊕Bool)):=
 (if(decide (g1<(a0.length:Int)))=true then
  gd (0<=g1/\g1<(a0.length:Int))<|
  (zz7 (a0.getD g1.toNat aC.zero)).bind λ v2=>
  gd ((v2&&decide (0<g1))=true->0<=i64.wrap (g1-1)/\i64.wrap (g1-1)<(a0.length:Int))<|
  (if((!v2)||(decide (0<g1)&&(!Op.bytesLess (((a0.getD ((i64.wrap (g1-1)).toNat) aC.zero).aQ).name).toList (((a0.getD g1.toNat aC.zero).aQ).name).toList)))=true then
   some (.inr (.inr false))
  else
   some (.inl (i64.wrap (g1+1))))
 else
  some (.inr (.inl ())))
def zP5(a0:List aC):Option Bool:=
 (if(decide (8<(a0.length:Int)))=true then
  some false
 else
  (zg8 (zaC9 a0) 0).bind (λ|.inl z=>zaC8 a0 z|.inr z=>some z))
@[reducible,instance] def zdE6 (a0:List aC):=mkJ (zP5 a0) 0 (@zaC8.eq_1 a0) λ(j1:Unit)=>⟨[(0,la a0)],[],0⟩
@[reducible,instance] def zdE7 (a0:List aC) {T:Type} (x:T):=mkL x (@zaC9.eq_1 a0) λ(g1:Int)=>⟨[(0,la a0),(8,la a0),(9,.int .i64 (a0.length:Int)),(10,.int .i64 g1)],[],0⟩
instance zcb1(a0:List aC):OkP (zP5 a0) 61 [la a0] (λ r=>.bool r):=ok1 (zP5.eq_1 a0) Tryz.f61 []
attribute [local irreducible] zP5
def zat8(j2:Unit):Option Bool:=
 some true
def zM4(a0:aM)(v2:(List aF))(g1:Int):Option (Int⊕(Unit⊕Bool)):=
 (if(decide (g1<(v2.length:Int)))=true then
  gd (0<=g1/\g1<(v2.length:Int))<|
  (zp4 a0.bA (v2.getD g1.toNat aF.zero)).bind λ v3=>
  (if(decide (v3<0))=true then
   some (.inr (.inr false))
  else
   some (.inl (i64.wrap (g1+1))))
 else
  some (.inr (.inl ())))
def zG9(a0:aM)(j1:Unit):Option Bool:=
 (zt9 a0.aB).bind λ v2=>
 (zg8 (zM4 a0 v2) 0).bind (λ|.inl z=>zat8 z|.inr z=>some z)
def zM5(a0:aM)(g2:Int):Option (Int⊕(Unit⊕Bool)):=
 (if(decide (g2<(a0.bA.length:Int)))=true then
  gd (0<=g2/\g2<(a0.bA.length:Int))<|
  gd (decide (0<g2)=true->0<=i64.wrap (g2-1)/\i64.wrap (g2-1)<(a0.bA.length:Int))<|
  ((if(decide (0<g2))=true then zd7 ((a0.bA.getD ((i64.wrap (g2-1)).toNat) aH.zero).aZ) ((a0.bA.getD g2.toNat aH.zero).aZ)else some 0)).bind λ v4=>
  (if(decide (0<g2)&&decide (0<=v4))=true then
   some (.inr (.inr false))
  else
   (zs9 a0 (a0.bA.getD g2.toNat aH.zero)).bind λ v5=>
   (if(!v5)=true then
    some (.inr (.inr false))
   else
    some (.inl (i64.wrap (g2+1)))))
 else
  some (.inr (.inl ())))
def zx7(a0:aM):Option Bool:=
 ((if(!(decide (a0.now<0)||decide (1073741824<a0.now)))=true then zP5 a0.aB else some false)).bind λ v1=>
 (if(((decide (a0.now<0)||decide (1073741824<a0.now))||(!v1))||decide (8<(a0.bA.length:Int)))=true then
  some false
 else
  (zg8 (zM5 a0) 0).bind (λ|.inl z=>zG9 a0 z|.inr z=>some z))
@[reducible,instance] def zdE8 a0 j1 {T1:Type} (v2:T1):=mkJ (zG9 a0 j1,v2) 2 (@zat8.eq_1) λ(j2:Unit)=>⟨[],[],0⟩
@[reducible,instance] def zdE9 (a0:aM) (v2:(List aF)) {T:Type} (x:T):=mkL x (@zM4.eq_1 a0 v2) λ(g1:Int)=>⟨[(1,.ptr 0 0 0),(57,la v2),(58,.int .i64 (v2.length:Int)),(59,.int .i64 g1)],[(0,bx a0)],1⟩
@[reducible,instance] def zdF0 (a0:aM) {T1:Type} (v1:T1):=mkJ (zx7 a0,v1) 0 (@zG9.eq_1 a0) λ(j1:Unit)=>⟨[(1,.ptr 0 0 0)],[(0,bx a0)],1⟩
@[reducible,instance] def zdF1 (a0:aM) {T:Type} (x:T):=mkL x (@zM5.eq_1 a0) λ(g2:Int)=>⟨[(1,.ptr 0 0 0),(28,la a0.bA),(29,.int .i64 (a0.bA.length:Int)),(30,.int .i64 g2)],[(0,bx a0)],1⟩
instance zaZ8(a0:aM):OkP (zx7 a0) 34 [ga a0] (λ r=>.bool r):=ok1 (zx7.eq_1 a0) Tryz.f34 []
attribute [local irreducible] zx7
def zat9(a0:List aC)(a1:ByteArray):Option (Int×Int):=
 (zP5 a0).bind λ v1=>
 (if(!v1)=true then
  some (0,2)
 else
  (zm2 a0 a1).bind λ v2=>
  (if(decide (v2<0))=true then
   some (0,10)
  else
   some (v2,0)))
instance zcn6(a0:List aC)(a1:ByteArray):OkP (zat9 a0 a1) 216 [la a0,.str a1] (λ r=>.tup [.int .i64 r.1,.int .i64 r.2]):=ok1 (zat9.eq_1 a0 a1) Tryz.f216 []
attribute [local irreducible] zat9
def zT9 (a0:aC) (a1:aF) (a2:aJ) (a3:Int):Option (aC×(List bF)×Int):=
 (zz7 a0).bind λ v1=>
 (if(!v1)=true then
  some ({aC.zero with},[],2)
 else
  (if(((!(zj7 a1))||decide (a3<0))||decide (7<a3))=true then
   some ({aC.zero with},[],1)
  else
   (if(!(zw4 a0.aQ a2))=true then
    some ({aC.zero with},[],12)
   else
    (zp7 a0 a1).bind λ v2=>
    (if v2.2=true then
     some ({aC.zero with},[],14)
    else
     (zj6 a0).bind λ v3=>
     (zm3 a0 a1).bind λ v4=>
     (zm8 a0.aQ v4 a2).bind λ v5=>
     (if v5=true then
      some (v3,[],0)
     else
      (if(!(zx9 v4))=true then
       (zG8 v3 v4 a2 a1).bind λ v6=>
       some (v6.1,v6.2.1,v6.2.2.1)
      else
       (if(decide (8<=i64.wrap ((a0.bR.length:Int)+(a0.bO.length:Int))))=true then
        some ({aC.zero with},[],4)
       else
        (zu5 a0.bO ({aW.zero with aZ:=a1,aY:=a2,bT:=a3})).bind λ v7=>
        (if(!decide (v7.2.2=0))=true then
         some ({aC.zero with},[],v7.2.2)
        else
         (zE4 v3 v7.1).bind λ v8=>
         some (v8.1,v8.2.1,v8.2.2.1)))))))))
theorem zbl6(a0:aC)(a1:aF)(a2:aJ)(a3:Int)(r:aC×(List bF)×Int)(h:zT9 a0 a1 a2 a3=some r):PFn C 217 [ga a0,ga a1,ga a2,.int .i64 a3] (.tup [ga r.1,la r.2.1,.int .i64 r.2.2]):=by
 refine zx6 Tryz.f217 [(49,1),(63,1),(93,1)] λ E hG hN hK=>?_;unfold zT9 at h;refine za2 (za3 hG ?_);refine za2 (za2 (za3 hG ?_));obtain⟨v1,hv1,h⟩:=zd2 h;refine zn1 (λ hg=>(zah3 a0).ok _ hv1) ?_;refine zh3 rfl hG h (λ _ h=>?_) (λ _ h=>?_)
 · refine za2 (za3 hG ?_)
   refine zo3 ?_;exact zt5 h
 refine zh0 ?_;refine za2 (za2 (za3 hG ?_));refine zn1 (λ hg=>(zac1 a1).ok) ?_;refine zh3 rfl hG h (λ _ h=>?_) (λ _ h=>?_)
 · refine za2 (za3 hG ?_)
   refine zo3 ?_;exact zt5 h
 refine zh0 ?_;refine za2 (za2 (za3 hG ?_));refine zn1 (λ hg=>(zbk8 a0.aQ a2).ok) ?_;refine zh3 rfl hG h (λ _ h=>?_) (λ _ h=>?_)
 · refine za2 (za3 hG ?_)
   refine zo3 ?_;exact zt5 h
 refine zh0 ?_;refine za2 (za2 (za3 hG ?_));obtain⟨v2,hv2,h⟩:=zd2 h;refine zn1 (λ hg=>(zaH3 a0 a1).ok _ hv2) ?_;refine za2 (za3 hG ?_);refine zh3 rfl hG h (λ _ h=>?_) (λ _ h=>?_)
 · refine za2 (za3 hG ?_)
   refine zo3 ?_;exact zt5 h
 refine zh0 ?_;refine za2 (zP1 zv9 hG ?_);obtain⟨v3,hv3,h⟩:=zd2 h;refine zar4 [] [(0,5),(1,6),(2,7)] [0,1,2] (zaV8 _ _ hv3) rfl rfl ?_;obtain⟨v4,hv4,h⟩:=zd2 h;refine zx8 (λ hg=>(zaP2 a0 a1).ok _ hv4) ?_;refine za2 (za2 (za3 hG ?_));obtain⟨v5,hv5,h⟩:=zd2 h;refine zn1 (λ hg=>(zaB1 a0.aQ v4 a2).ok _ hv5) ?_;refine zh3 rfl hG h (λ _ h=>?_) (λ _ h=>?_)
 · refine za2 (za3 hG ?_)
   refine zo3 ?_;exact zt5 h
 refine zh0 ?_;refine za2 (za2 (za3 hG ?_));refine zn1 (λ hg=>(zas4 v4).ok) ?_;refine zh3 rfl hG h (λ _ h=>?_) (λ _ h=>?_)
 · refine za2 (za3 hG ?_)
   obtain⟨v6,hv6,h⟩:=zd2 h;refine zs2 [(0,8),(1,10),(2,5),(3,6),(4,7),(5,9),(6,2),(7,1)] [] [0,1,2,3,4,5,6,7] (zaT1 _ _ _ _ _ hv6) rfl rfl ?_;refine zo3 ?_;exact zt5 h
 refine zh0 ?_;refine za2 (za2 (za3 hG ?_));refine zh3 rfl hG h (λ _ h=>?_) (λ _ h=>?_)
 · refine za2 (za3 hG ?_)
   refine zo3 ?_;exact zt5 h
 refine zh0 ?_;refine za2 (za3 hG ?_);obtain⟨v7,hv7,h⟩:=zd2 h;refine zn1 (λ hg=>(zbl1 a0.bO ({aW.zero with aZ:=a1,aY:=a2,bT:=a3})).ok _ hv7) ?_;refine za2 (za2 (za3 hG ?_));refine zh3 rfl hG h (λ _ h=>?_) (λ _ h=>?_)
 · refine za2 (za3 hG ?_)
   refine zo3 ?_;exact zt5 h
 refine zh0 ?_;refine za2 (za3 hG ?_);obtain⟨v8,hv8,h⟩:=zd2 h;refine zs2 [(0,8),(1,11),(2,5),(3,6),(4,7),(5,10)] [] [0,1,2,3,4,5] (zaO0 _ _ _ hv8) rfl rfl ?_;refine zo3 ?_;exact zt5 h
instance zbU0(a0:aC)(a1:aF)(a2:aJ)(a3:Int):OkP (zT9 a0 a1 a2 a3) 217 [ga a0,ga a1,ga a2,.int .i64 a3] (λ r=>.tup [ga r.1,la r.2.1,.int .i64 r.2.2]):=⟨zbl6 a0 a1 a2 a3⟩
attribute [local irreducible] zT9
def zab5(a0:List aC)(a1:aF)(a2:aO)(a3:Int):Option ((List aC)×(List bI)×Int):=
 (zat9 a0 a2.name).bind λ v1=>
 (if(!decide (v1.2=0))=true then
  some ([],[],v1.2)
 else
  (zt9 a0).bind λ v2=>
  (ze2 v2 a1).bind λ v3=>
  (if((!v3)&&decide (8<=(v2.length:Int)))=true then
   some ([],[],4)
  else
   gd (0<=v1.1/\v1.1<(a0.length:Int))<|
   (zT9 (a0.getD v1.1.toNat aC.zero) a1 a2.aY a3).bind λ v4=>
   (if(!decide (v4.2.2=0))=true then
    some ([],[],v4.2.2)
   else
    (zi8 a0 v1.1 v4.1).bind λ v5=>
    (zk1 a2.name v4.2.1).bind λ v6=>
    some (v5,v6,0))))
instance zbl7(a0:List aC)(a1:aF)(a2:aO)(a3:Int):OkP (zab5 a0 a1 a2 a3) 152 [la a0,ga a1,ga a2,.int .i64 a3] (λ r=>.tup [la r.1,la r.2.1,.int .i64 r.2.2]):=ok1 (zab5.eq_1 a0 a1 a2 a3) Tryz.f152 []
attribute [local irreducible] zab5
def zax2(j2:aA):Option aA:=
 some j2
def zO8(a0:aM)(g1:Int×aA):Option ((Int×aA)⊕aA):=
 (if(decide (g1.1<(a0.bA.length:Int)))=true then
  gd (0<=g1.1/\g1.1<(a0.bA.length:Int))<|
  (if(a0.bA.getD g1.1.toNat aH.zero).bW=true then
   (zf8 (⟨(a0.bA.getD g1.1.toNat aH.zero).aZ,((a0.bA.getD g1.1.toNat aH.zero).aR).bQ,(a0.bA.getD g1.1.toNat aH.zero).gen⟩:bK)).bind λ v2=>
   gd (g1.2.aK.length+1<=4294967296)<|
   some (.inl ((i64.wrap (g1.1+1)),(⟨g1.2.aB,(g1.2.aK++[v2])⟩:aA)))
  else
   some (.inl ((i64.wrap (g1.1+1)),g1.2)))
 else
  some (.inr g1.2))
def zI7(a0:aM)(j1:aA):Option aA:=
 (zg8 (zO8 a0) (0,j1)).bind (λ z=>zax2 z)
def zU9(a0:aM)(g2:Int×aA):Option ((Int×aA)⊕aA):=
 (if(decide (g2.1<(a0.aB.length:Int)))=true then
  gd (0<=g2.1/\g2.1<(a0.aB.length:Int))<|
  (zf5 (a0.aB.getD g2.1.toNat aC.zero)).bind λ v3=>
  gd (g2.2.aB.length+1<=4294967296)<|
  some (.inl ((i64.wrap (g2.1+1)),(⟨(g2.2.aB++[v3]),g2.2.aK⟩:aA)))
 else
  some (.inr g2.2))
def zo4(a0:aM):Option aA:=
 (zx7 a0).bind λ v1=>
 (if(!v1)=true then
  some (⟨[],[]⟩:aA)
 else
  (zg8 (zU9 a0) (0,(⟨[],[]⟩:aA))).bind (λ z=>zI7 a0 z))
@[reducible,instance] def zdF2 (a0:aM) (j1:aA):=mkJ (zI7 a0 j1) 2 (@zax2.eq_1) λ(j2:aA)=>⟨[(2,.ptr 0 0 0),(3,.ptr 1 0 0)],[(0,bx aA.zero),(1,⟨false,2,aA.enc aA.zero,[[.own 2 0 j2.aB.length,.own 3 0 j2.aK.length]]⟩),(2,sx j2.aB),(3,sx j2.aK)],4⟩
@[reducible,instance] def zdF3 (a0:aM) {T:Type} (x:T):=mkL x (@zO8.eq_1 a0) λ(g1:Int×aA)=>⟨[(2,.ptr 0 0 0),(3,.ptr 1 0 0),(28,la a0.bA),(29,.int .i64 (a0.bA.length:Int)),(30,.int .i64 g1.1)],[(0,bx aA.zero),(1,⟨false,2,aA.enc aA.zero,[[.own 2 0 g1.2.aB.length,.own 3 0 g1.2.aK.length]]⟩),(2,sx g1.2.aB),(3,sx g1.2.aK)],4⟩
@[reducible,instance] def zdF4 (a0:aM) {T1:Type} (v1:T1):=mkJ (zo4 a0,v1) 0 (@zI7.eq_1 a0) λ(j1:aA)=>⟨[(1,.ptr 0 0 0),(2,.ptr 1 0 0),(3,.ptr 2 0 0)],[(0,bx a0),(1,bx aA.zero),(2,⟨false,2,aA.enc aA.zero,[[.own 3 0 j1.aB.length,.own 4 0 j1.aK.length]]⟩),(3,sx j1.aB),(4,sx j1.aK)],5⟩
@[reducible,instance] def zdF5 (a0:aM) {T:Type} (x:T):=mkL x (@zU9.eq_1 a0) λ(g2:Int×aA)=>⟨[(1,.ptr 0 0 0),(2,.ptr 1 0 0),(3,.ptr 2 0 0),(13,la a0.aB),(14,.int .i64 (a0.aB.length:Int)),(15,.int .i64 g2.1)],[(0,bx a0),(1,bx aA.zero),(2,⟨false,2,aA.enc aA.zero,[[.own 3 0 g2.2.aB.length,.own 4 0 g2.2.aK.length]]⟩),(3,sx g2.2.aB),(4,sx g2.2.aK)],5⟩
instance zbd7(a0:aM):OkP (zo4 a0) 13 [ga a0] (λ r=>ga r):=⟨λ r h=>by
 refine zx6 Tryz.f13 [(3,5)] λ E hG hN hK=>?_;have hm:Mk (zo4 a0):=trivial;unfold zo4 at h;refine za2 (za3 hG ?_);refine za2 (za3 hG ?_);refine g_gh (.ownb 2 0 8 (aC.enc aC.zero)) ?_;refine g_gh (.ownb 2 1 9 (bK.enc bK.zero)) ?_;exact gogo⟩
attribute [local irreducible] zo4
def zY2(g1:Int×(List aC)×(List aH)×(List bI)):Option ((Int×(List aC)×(List aH)×(List bI))⊕(Int×(List aC)×(List aH)×(List bI))):=
 (zp2 g1.2.2.1 g1.1 g1.2.1 g1.2.2.2).bind λ v1=>
 (if(decide (v1.1<0))=true then
  some (.inr (v1.2.2.1,v1.2.2.2.1,v1.2.1,v1.2.2.2.2))
 else
  gd (0<=v1.1/\v1.1<((v1.2.1.length:Nat):Int))<|
  (zu9 v1.1.toNat v1.2.2.1 v1.2.2.2.1 v1.2.1 v1.2.2.2.2).bind λ v2=>
  some (.inl (v2.1,v2.2.1,v2.2.2.1,v2.2.2.2)))
@[go_sem] def zcy1(g1:Int×(List aC)×(List aH)×(List bI)):St:=⟨[(1,.ptr 3 0 0)],[(0,⟨false,4,bM.enc bM.zero,[[.int .i64 g1.1,la g1.2.1,.own 1 0 g1.2.2.1.length,.own 4 0 g1.2.2.2.length]]⟩),(1,sx g1.2.2.1),(3,⟨false,1,[A.any],[[.ptr 0 0 0]]⟩),(4,sx g1.2.2.2)],5⟩
def zC8(a0:bM):Option (Int×(List aC)×(List aH)×(List bI)):=
 (zg8 zY2 (a0.central.now,a0.central.aB,a0.central.bA,a0.events)).bind (λ z=>some z)
theorem zav2(a0:bM)(r:Int×(List aC)×(List aH)×(List bI))(h:zC8 a0=some r):MFn C 148 [.ptr 0 0 0] [(0,⟨false,4,bM.enc bM.zero,[[.int .i64 a0.central.now,la a0.central.aB,.own 1 0 a0.central.bA.length,.own 2 0 a0.events.length]]⟩),(1,sx a0.central.bA),(2,sx a0.events)] 3 (.tup []) [(0,⟨false,4,bM.enc bM.zero,[[.int .i64 r.1,la r.2.1,.own 1 0 r.2.2.1.length,.own 3 0 r.2.2.2.length]]⟩),(1,sx r.2.2.1),(3,sx r.2.2.2)] 4:=by
 refine zK4 Tryz.f148 [] [] λ E hG hN hK=>?_;unfold zC8 at h;refine za2 (za3 hG ?_);refine zr6 ?_;refine zz0 zcy1 hK [(0,0),(1,1),(3,3),(4,2)] h (λ x_l1 h g1 y_l1 h_l1 hx_l1=>?_);unfold zY2 at h_l1;refine g_st ?_;refine zr6 (za2 (za3 hG ?_));obtain⟨v1,hv1,h_l1⟩:=zd2 h_l1;refine zs2 [(0,1),(1,3),(2,0),(3,4)] [] [0,1,2,3] (zO7 _ _ _ _ _ hv1) rfl rfl ?_;refine za2 (za2 (za3 hG ?_));refine zh3 rfl hG h_l1 (λ _ h_l1=>?_) (λ _ h_l1=>?_)
 · refine zo3 ?_
   cases h_l1;cases hx_l1 _ rfl;exact zw8 [(0,0),(1,1),(3,4)] h
 refine zh0 ?_;obtain⟨hb1,h_l1⟩:=ze5 h_l1;refine zP1 zv9 hG ?_;obtain⟨v2,hv2,h_l1⟩:=zd2 h_l1;refine zar4 [(0,0),(1,1),(2,4)] [(3,5)] [0,1,2,3] (zav1 _ _ _ _ _ _ hv2) rfl rfl ?_;exact zy5 hK [(0,0),(1,1),(3,3),(4,5)] h_l1
attribute [local irreducible] zC8
end
end Ab
end Go.Proofs.YtamndckemppjdaaGreatDoor
