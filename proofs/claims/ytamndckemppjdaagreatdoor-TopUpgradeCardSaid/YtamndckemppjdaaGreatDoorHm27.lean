import Derived.Test.YtamndckemppjdaaGreatDoorHm19
import Derived.Test.YtamndckemppjdaaGreatDoorHm18
import Derived.Test.YtamndckemppjdaaGreatDoorIns
namespace Go.Proofs.YtamndckemppjdaaGreatDoor
namespace Ab
open IntKind (i64 u64 u8 u32)
set_option linter.unusedSimpArgs false
set_option linter.defProp false
set_option linter.unusedVariables false
set_option maxRecDepth 100000
set_option maxHeartbeats 4000000
noncomputable section
attribute [local irreducible] zn9 zf4 zb7 ze8 zl6 zk8 zd0 zd6 zc8 zf7 zn2 zb8 zq7 zh1 zc1 zk5 zm2 zb4 zg1 za4 zk1 ze6 zb5 zd3 ze9 zd5 zm0 zn3 zi7 zg7 zg5 zh7 zg2 zd9 zh5 zi8 zk9 zb2 zg4 za6 zi9 za9 zb9 zf1 zj6 zf2 zi3 za8 za7 za5 zh2 zj2 zf3 zj8 zg3 zd7 zm3 zc5 zh9 zi0 zh4 zj1 zk2 zn8 zm1 zb6 zj0 zd8 zi5 zq5 zl0 zm9 zf0 zc3 zf5 zb0 zq0 zg9 zl7 zc0 zg6 zb1 zf8 zl8 zi1 zg0 zo7 zo1 zm5 zl3 zk4 zq6 zj3 zj5 zt8 zf9 zh8 zp0 zc7 ze2 ze4 ze3 zb3 zn4 zj9 zc6 zl9 zj4 zl1 zm8 zs3 zm4 ze1 zi4 zo8 zp7 zs6 zo0 zk6 zv1 zs7 zn7 zi2 zp1 zc9 zn6 zd4 f_formula_holds zc2 ze0 zp8 zr9 zh6 zf6 zq1 zt3 zp4 zu5 zl2 zv6 zm6 zr1 zl4 zu4 zr4 zm7 zn5 zr2 zd1
def zq8(a0:List aG):Option (aM×Int):=
 (zv6 a0).bind λ v1=>
 (if(!decide (v1.2=0))=true then
  some ({aM.zero with},1)
 else
  some ({aM.zero with aB:=v1.1},0))
instance zca7(a0:List aG):OkP (zq8 a0) 21 [la a0] (λ r=>.tup [ga r.1,.int .i64 r.2]):=ok1 (zq8.eq_1 a0) Tryz.f21 []
attribute [local irreducible] zq8
def zD5(a0:aC):Option Bool:=
 (zg0 a0.aQ).bind λ v1=>
 ((if v1=true then zr4 a0.aQ a0.bR else some false)).bind λ v2=>
 ((if(v1&&v2)=true then zm6 a0 else some false)).bind λ v3=>
 ((if((v1&&v2)&&v3)=true then zp8 a0 else some false)).bind λ v4=>
 some (((((v1&&v2)&&v3)&&v4)&&decide (0<=a0.gen))&&decide (a0.gen<=1073741824))
instance zca8(a0:aC):OkP (zD5 a0) 188 [ga a0] (λ r=>.bool r):=ok1 (zD5.eq_1 a0) Tryz.f188 []
attribute [local irreducible] zD5
def zH5(a0:aF)(a1:Int)(a2:bM)(j1:Int):Option (Int×Int×(List aC)×(List bI)×(List aH)):=
 (zb1 j1 [{aH.zero with aZ:=a0,cost:=a1}] a2.central.bA).bind λ v2=>
 some (0,a2.central.now,a2.central.aB,a2.events,v2)
@[go_sem] def zcv9(a0:aF)(a1:Int)(a2:bM)(j1:Int):St:=⟨[(0,.ptr 0 0 0),(2,.int .i64 a1),(4,.ptr 3 0 0),(7,.int .i64 j1)],[(0,⟨false,4,bM.enc bM.zero,[[.int .i64 a2.central.now,la a2.central.aB,.own 4 0 a2.central.bA.length,.own 2 0 a2.events.length]]⟩),(2,sx a2.events),(3,bx a0),(4,sx a2.central.bA)],5⟩
def zP4(a0:aF)(a2:bM)(g1:Int):Option (Int⊕Int):=
 gd (decide (g1<((a2.central.bA.length:Nat):Int))=true->0<=g1/\g1<((a2.central.bA.length:Nat):Int))<|
 ((if(decide (g1<((a2.central.bA.length:Nat):Int)))=true then zd7 ((a2.central.bA.getD g1.toNat aH.zero).aZ) a0 else some 0)).bind λ v3=>
 (if(decide (g1<((a2.central.bA.length:Nat):Int))&&decide (v3<0))=true then
  some (.inl (i64.wrap (g1+1)))
 else
  some (.inr g1))
@[go_sem] def zcw0(a0:aF)(a1:Int)(a2:bM)(g1:Int):St:=⟨[(0,.ptr 0 0 0),(2,.int .i64 a1),(4,.ptr 3 0 0),(7,.int .i64 g1)],[(0,⟨false,4,bM.enc bM.zero,[[.int .i64 a2.central.now,la a2.central.aB,.own 4 0 a2.central.bA.length,.own 2 0 a2.events.length]]⟩),(2,sx a2.events),(3,bx a0),(4,sx a2.central.bA)],5⟩
def zt1(a0:aF)(a1:Int)(a2:bM):Option (Int×Int×(List aC)×(List bI)×(List aH)):=
 (if(((!(zj7 a0))||decide (a1<1))||decide (1000<a1))=true then
  some (1,a2.central.now,a2.central.aB,a2.events,a2.central.bA)
 else
  (zp4 a2.central.bA a0).bind λ v1=>
  (if(decide (0<=v1))=true then
   some (11,a2.central.now,a2.central.aB,a2.events,a2.central.bA)
  else
   (if(decide (8<=((a2.central.bA.length:Nat):Int)))=true then
    some (4,a2.central.now,a2.central.aB,a2.events,a2.central.bA)
   else
    (zg8 (zP4 a0 a2) 0).bind (λ z=>zH5 a0 a1 a2 z))))
theorem zaC0(a0:aF)(a1:Int)(a2:bM)(r:Int×Int×(List aC)×(List bI)×(List aH))(h:zt1 a0 a1 a2=some r):MFn C 95 [.ptr 0 0 0,ga a0,.int .i64 a1] [(0,⟨false,4,bM.enc bM.zero,[[.int .i64 a2.central.now,la a2.central.aB,.own 1 0 a2.central.bA.length,.own 2 0 a2.events.length]]⟩),(1,sx a2.central.bA),(2,sx a2.events)] 3 (.int .i64 r.1) [(0,⟨false,4,bM.enc bM.zero,[[.int .i64 r.2.1,la r.2.2.1,.own 3 0 r.2.2.2.2.length,.own 2 0 r.2.2.2.1.length]]⟩),(2,sx r.2.2.2.1),(3,sx r.2.2.2.2)] 4:=by
 refine zK4 Tryz.f95 [] [.int .i64 r.1] λ E hG hN hK=>?_;unfold zt1 at h;refine za2 (za3 hG ?_);refine za2 (zr6 (za2 (za3 hG ?_)));refine zn1 (λ hg=>(zac1 a0).ok) ?_;refine zh3 rfl hG h (λ _ h=>?_) (λ _ h=>?_)
 · refine za2 (za3 hG ?_)
   refine zo3 ?_;exact zw8 [(0,0),(2,2),(3,1)] h
 refine za2 (zaj5 zv9 hG ?_);obtain⟨v1,hv1,h⟩:=zd2 h;refine zD0 (λ hg=>(zaj9 a2.central.bA a0).ok _ hv1) ?_;refine zh3 rfl hG h (λ _ h=>?_) (λ _ h=>?_)
 · refine za2 (za3 hG ?_)
   refine zo3 ?_;exact zw8 [(0,0),(2,2),(3,1)] h
 refine za2 (za3 hG ?_);refine zh3 rfl hG h (λ _ h=>?_) (λ _ h=>?_)
 · refine za2 (za3 hG ?_)
   refine zo3 ?_;exact zw8 [(0,0),(2,2),(3,1)] h
 refine zh0 ?_;refine za2 (za3 hG ?_);refine za2 ?_;refine zs5 (zcv9 a0 a1 a2) (λ v=>zH5 a0 a1 a2 v=some r) ?_ ?_
 · intro j1 h
   unfold zH5 at h;refine g_st ?_;refine za2 (zP1 zv9 hG ?_);obtain⟨v2,hv2,h⟩:=zd2 h;refine zar4 [(0,4)] [(1,5)] [0,1] (zbR5 (zR4 _ _ _ _ hv2)) rfl rfl ?_;refine za2 (za3 hG ?_);refine zo3 ?_;exact zw8 [(0,0),(2,2),(3,5)] h
 refine zz0 (zcw0 a0 a1 a2) hK [(0,0),(2,2),(3,3),(4,1)] h (λ x_l1 h g1 y_l1 h_l1 hx_l1=>?_);unfold zP4 at h_l1;refine g_st ?_;refine za2 (za2 ?_);obtain⟨hb1,h_l1⟩:=ze5 h_l1;refine zaj5 zv9 hG ?_;obtain⟨v3,hv3,h_l1⟩:=zd2 h_l1;refine zD0 (λ hg=>(zO1 ((a2.central.bA.getD g1.toNat aH.zero).aZ) a0).ok _ (zar3 hg hv3)) ?_;refine zh3 rfl hG h_l1 (λ _ h_l1=>?_) (λ _ h_l1=>?_)
 · refine zh0 ?_
   refine zr6 (za3 hG ?_);exact zy5 hK [(0,0),(2,2),(3,3),(4,4)] h_l1
 refine zv7 ?_;cases h_l1;have hx:=hx_l1 _ rfl;subst hx;exact zs8 hK [(0,0),(2,2),(3,3),(4,4)] g1 (by exact h)
attribute [local irreducible] zt1
def zp9(a0:aM)(a1:aF):Option (aH×Bool):=
 (zp4 a0.bA a1).bind λ v1=>
 (if(decide (0<=v1))=true then
  gd (0<=v1/\v1<(a0.bA.length:Int))<|
  (zf0 (a0.bA.getD v1.toNat aH.zero)).bind λ v2=>
  some (v2,true)
 else
  some ({aH.zero with},false))
instance zbT8(a0:aM)(a1:aF):OkP (zp9 a0 a1) 37 [ga a0,ga a1] (λ r=>.tup [ga r.1,.bool r.2]):=⟨λ r h=>by
 refine zx6 Tryz.f37 [] λ E hG hN hK=>?_;have hm:Mk (zp9 a0 a1):=trivial;unfold zp9 at h;refine za2 (za3 hG ?_);refine za2 (za2 (za3 hG ?_));obtain⟨v1,hv1,h⟩:=zd2 h;have hm:=mkP hm v1;refine zn1 (λ hg=>(zaj9 a0.bA a1).ok _ hv1) ?_;refine za2 (za3 hG ?_);refine zh3 rfl hG h (λ _ h=>?_) (λ _ h=>?_)
 · refine za2 ?_
   obtain⟨hb1,h⟩:=ze5 h;refine za3 hG ?_;obtain⟨v2,hv2,h⟩:=zd2 h;have hm:=mkP hm v2;refine zn1 (λ hg=>zad3 _ _ hv2) ?_;refine zo3 ?_;exact zt5 h (by intro e;subst e;simp[aF.enc,bG.enc,aO.enc,aJ.enc])
 refine zh0 ?_;refine za2 (za3 hG ?_);refine zo3 ?_;exact zt5 h (by intro e;subst e;simp[aF.enc,bG.enc,aO.enc,aJ.enc])⟩
attribute [local irreducible] zp9
def zak0(j1:Unit):Option ((List bK)×(List aI)):=
 some ([],[])
@[go_sem] def zcw1(j1:Unit):St:=⟨[(6,.sl ([].map bK.enc)),(7,.sl ([].map aI.enc))],[],0⟩
def zaC1(a0:bC)(g1:Unit):Option (Unit⊕Unit):=
 (if(decide (0<(a0.jobs.length:Int)))=true then
  none
 else
  some (.inr ()))
@[go_sem] def zcw2(a0:bC)(g1:Unit):St:=⟨[(6,.sl ([].map bK.enc)),(7,.sl ([].map aI.enc)),(17,.int .i64 (a0.jobs.length:Int)),(18,.int .i64 0)],[],0⟩
def zD6(a0:bC)(a1:List aG):Option ((List bK)×(List aI)):=
 (zu4 a0 a1).bind λ v1=>
 (if(!v1)=true then
  some ([],[])
 else
  (zg8 (zaC1 a0) ()).bind (λ z=>zak0 z))
theorem zbl2(a0:bC)(a1:List aG)(r:(List bK)×(List aI))(h:zD6 a0 a1=some r):PFn C 87 [ga a0,la a1] (.tup [la r.1,la r.2]):=by
 refine zx6 Tryz.f87 [(2007,1)] λ E hG hN hK=>?_;unfold zD6 at h;refine za2 (za3 hG ?_);refine za2 (za2 (za3 hG ?_));obtain⟨v1,hv1,h⟩:=zd2 h;refine zn1 (λ hg=>zbl0 _ _ _ hv1) ?_;refine zh3 rfl hG h (λ _ h=>?_) (λ _ h=>?_)
 · refine za2 (za3 hG ?_)
   refine zo3 ?_;exact zt5 h
 refine zh0 ?_;refine za2 (za3 hG ?_);refine za2 (za3 hG ?_);refine za2 (za2 (za3 hG ?_));refine zs5 zcw1 (λ v=>zak0 v=some r) ?_ ?_
 · intro j1 h
   unfold zak0 at h;refine g_st ?_;refine za2 (za3 hG ?_);refine zo3 ?_;exact zt5 h
 refine zz0 (zcw2 a0) hK [] h (λ x_l1 h g1 y_l1 h_l1 hx_l1=>?_);unfold zaC1 at h_l1;refine g_st ?_;refine za2 (za3 hG ?_);refine za2 ?_;refine zh3 rfl hG h_l1 (λ _ h_l1=>?_) (λ _ h_l1=>?_)
 · refine zh0 ?_
   refine za2 (zr6 ?_);exact zV9 h_l1
 refine zv7 ?_;cases h_l1;cases hx_l1 _ rfl;exact zs8 hK [] () (by exact h)
attribute [local irreducible] zD6
def zt4(a0:aG)(a1:List bF)(a2:aF)(a3:aJ):Option Bool:=
 (zr4 a0 a1).bind λ v1=>
 some ((v1&&zj7 a2)&&zw4 a0 a3)
instance zbM4(a0:aG)(a1:List bF)(a2:aF)(a3:aJ):OkP (zt4 a0 a1 a2 a3) 251 [ga a0,la a1,ga a2,ga a3] (λ r=>.bool r):=ok1 (zt4.eq_1 a0 a1 a2 a3) Tryz.f251 []
attribute [local irreducible] zt4
def zu6(a0:aG)(a1:List bF)(a2:aF)(a3:aJ):Option Bool:=
 (zt4 a0 a1 a2 a3).bind λ v1=>
 ((if v1=true then zo7 a1 a2 a3 else some [])).bind λ v2=>
 ((if v1=true then zr4 a0 v2 else some false)).bind λ v3=>
 some (v1&&v3)
instance zbd4(a0:aG)(a1:List bF)(a2:aF)(a3:aJ):OkP (zu6 a0 a1 a2 a3) 190 [ga a0,la a1,ga a2,ga a3] (λ r=>.bool r):=ok1 (zu6.eq_1 a0 a1 a2 a3) Tryz.f190 []
attribute [local irreducible] zu6
def zv0(a0:aC):Option (List aF):=
 (zh1 a0.bR).bind λ v1=>
 (zs7 a0).bind λ v2=>
 gd (v1.length+v2.length<=4294967296)<|
 (zq1 (v1++v2)).bind λ v3=>
 some v3
instance zbl3(a0:aC):OkP (zv0 a0) 116 [ga a0] (λ r=>la r):=ok1 (zv0.eq_1 a0) Tryz.f116 []
attribute [local irreducible] zv0
def zaC2(j1:(List aF)):Option (List aF):=
 (zq1 j1).bind λ v1=>
 some v1
def zaC3(a0:List aC)(g1:Int×(List aF)):Option ((Int×(List aF))⊕(List aF)):=
 (if(decide (g1.1<(a0.length:Int)))=true then
  gd (0<=g1.1/\g1.1<(a0.length:Int))<|
  (zv0 (a0.getD g1.1.toNat aC.zero)).bind λ v2=>
  gd (g1.2.length+v2.length<=4294967296)<|
  some (.inl ((i64.wrap (g1.1+1)),(g1.2++v2)))
 else
  some (.inr g1.2))
def zt9(a0:List aC):Option (List aF):=
 (zg8 (zaC3 a0) (0,[])).bind (λ z=>zaC2 z)
@[reducible,instance] def zdA7 a0:=mkJ (zt9 a0) 0 (@zaC2.eq_1) λ(j1:(List aF))=>⟨[(3,.own 0 0 j1.length)],[(0,sx j1)],1⟩
@[reducible,instance] def zdA8 (a0:List aC) {T:Type} (x:T):=mkL x (@zaC3.eq_1 a0) λ(g1:Int×(List aF))=>⟨[(3,.own 0 0 g1.2.length),(6,la a0),(7,.int .i64 (a0.length:Int)),(8,.int .i64 g1.1)],[(0,sx g1.2)],1⟩
instance zca9(a0:List aC):OkP (zt9 a0) 63 [la a0] (λ r=>la r):=ok1 (zt9.eq_1 a0) Tryz.f63 [(3,1)]
attribute [local irreducible] zt9
def zk7(a0:bL):Option Bool:=
 (zm7 a0.bQ).bind λ v1=>
 some ((((v1&&decide (0<=a0.bT))&&decide (a0.bT<=7))&&decide (0<=a0.limit))&&decide (a0.limit<=1000))
instance zaC4(a0:bL):OkP (zk7 a0) 71 [ga a0] (λ r=>.bool r):=ok1 (zk7.eq_1 a0) Tryz.f71 []
attribute [local irreducible] zk7
def zp3(a0:aM)(a1:aH):Option Bool:=
 ((if(zy6 a1.aR&&decide (a1.since=0))=true then zt3 a0.aB a1.aZ else some [])).bind λ v1=>
 ((if((zy6 a1.aR&&decide (a1.since=0))&&decide ((v1.length:Int)=0))=true then zm5 a0.aB a1.aZ else some [])).bind λ v2=>
 ((if((zy6 a1.aR&&decide (a1.since=0))&&decide ((v1.length:Int)=0))=true then zn7 a1.bH else some [])).bind λ v3=>
 ((if((zy6 a1.aR&&decide (a1.since=0))&&decide ((v1.length:Int)=0))=true then zb9 v2 v3 else some false)).bind λ v4=>
 some (((zy6 a1.aR&&decide (a1.since=0))&&decide ((v1.length:Int)=0))&&v4)
instance zbq9(a0:aM)(a1:aH):OkP (zp3 a0 a1) 115 [ga a0,ga a1] (λ r=>.bool r):=ok1 (zp3.eq_1 a0 a1) Tryz.f115 []
attribute [local irreducible] zp3
def zo6(a0:Nat)(a1:ByteArray)(a2:Int)(a3:List aC)(a4:List aH)(a5:List bI):Option (Int×(List aC)×(List aH)×(List bI)):=
 (zm2 a3 a1).bind λ v1=>
 (if(decide (v1<0))=true then
  some (a2,a3,a4,a5)
 else
  gd (a0<a4.length)<|
  (zm9 ((a4.getD a0 aH.zero).bH) a1).bind λ v2=>
  gd (0<=v1/\v1<(a3.length:Int))<|
  gd (a0<a4.length)<|
  (zm3 (a3.getD v1.toNat aC.zero) ((a4.getD a0 aH.zero).aZ)).bind λ v3=>
  (if(decide ((⟨a1,v2,v3⟩:bX).before=(⟨a1,v2,v3⟩:bX).after))=true then
   some (a2,a3,a4,a5)
  else
   gd (a0<a4.length)<|
   (zr9 ((a4.getD a0 aH.zero).bH) (⟨a1,v2,v3⟩:bX)).bind λ v4=>
   (if(decide (v4.2=0))=true then
    gd (a0<a4.length)<|
    some (a2,a3,a4.set a0 ({(a4.getD a0 aH.zero)with bH:=v4.1}),a5)
   else
    some (a2,a3,a4,a5))))
instance zav0(a0:Nat)(a1:ByteArray)(a2:Int)(a3:List aC)(a4:List aH)(a5:List bI):OkM (zo6 a0 a1 a2 a3 a4 a5) 262 [.ptr 0 0 0,.ptr 1 a0 0,.str a1] [(0,⟨false,4,bM.enc bM.zero,[[.int .i64 a2,la a3,.own 1 0 a4.length,.own 2 0 a5.length]]⟩),(1,sx a4),(2,sx a5)] 3 (λ r=>.tup []) (λ r=>[(0,⟨false,4,bM.enc bM.zero,[[.int .i64 r.1,la r.2.1,.own 1 0 r.2.2.1.length,.own 2 0 r.2.2.2.length]]⟩),(1,sx r.2.2.1),(2,sx r.2.2.2)]) 3:=okm (zo6.eq_1 a0 a1 a2 a3 a4 a5) (λ r=>[]) Tryz.f262 []
attribute [local irreducible] zo6
def ze7(a0:List bK):Option (List bK):=
 (zf6 ((a0.length:Nat):Int) a0).bind λ v1=>
 gd (v1.length=a0.length)<|
 some v1
instance zP8(a0:List bK):OkM (ze7 a0) 91 [.own 0 0 a0.length,.clo 92 []] [(0,sx a0)] 1 (λ r=>.tup []) (λ r=>[(0,sx r)]) 1:=okm (ze7.eq_1 a0) (λ r=>[]) Tryz.f91 []
attribute [local irreducible] ze7
attribute [local irreducible] zq2 zr7 zr3 zt0 zt7 zq9 zi6
def zB8(a0:aC):Option Bool:=
 (zD5 a0).bind λ v1=>
 (if(!v1)=true then
  some false
 else
  (zn3 a0).bind λ v2=>
  ((if v2.2=true then zu6 a0.aQ a0.bR v2.1.aZ v2.1.aY else some false)).bind λ v3=>
  some ((!v2.2)||(!v3)))
instance zbS3(a0:aC):OkP (zB8 a0) 129 [ga a0] (λ r=>.bool r):=ok1 (zB8.eq_1 a0) Tryz.f129 []
attribute [local irreducible] zB8
def zG5(j1:(List aI)):Option (List aI):=
 some j1
@[go_sem] def zcw3(j1:(List aI)):St:=⟨[(6,.own 0 0 j1.length)],[(0,sx j1)],1⟩
def zN1(g1:Int×(List aI))(j2:(List aI)):Option ((Int×(List aI))⊕(List aI)):=
 some (.inl ((i64.wrap (g1.1+1)),j2))
@[go_sem] def zcw4(a0:aH)(g1:Int×(List aI))(j2:(List aI)):St:=⟨[(1,.ptr 0 0 0),(6,.own 1 0 j2.length),(55,.agg (Arr.enc (eL (eI .i64)) (⟨[[],[(-1)]],rfl⟩:Arr (List Int) 2))),(56,.int .i64 g1.1)],[(0,bx a0),(1,sx j2)],2⟩
def zB4(a0:aH)(g1 g2:Int×(List aI)):Option ((Int×(List aI))⊕((List aI)⊕(List aI))):=
 (if(decide (g2.1<((Arr.get (⟨[[],[(-1)]],rfl⟩:Arr (List Int) 2) g1.1.toNat []).length:Int)))=true then
  gd (0<=g2.1/\g2.1<((Arr.get (⟨[[],[(-1)]],rfl⟩:Arr (List Int) 2) g1.1.toNat []).length:Int))<|
  (zi6 a0 g1.1 ((Arr.get (⟨[[],[(-1)]],rfl⟩:Arr (List Int) 2) g1.1.toNat []).getD g2.1.toNat 0)).bind λ v5=>
  (zh8 v5).bind λ v6=>
  (if(!v6)=true then
   some (.inr (.inr []))
  else
   gd (g2.2.length+1<=4294967296)<|
   some (.inl ((i64.wrap (g2.1+1)),(g2.2++[v5]))))
 else
  some (.inr (.inl g2.2)))
@[go_sem] def zcw5(a0:aH)(g1 g2:Int×(List aI)):St:=⟨[(1,.ptr 0 0 0),(6,.own 1 0 g2.2.length),(7,.int .i64 g1.1),(55,.agg (Arr.enc (eL (eI .i64)) (⟨[[],[(-1)]],rfl⟩:Arr (List Int) 2))),(56,.int .i64 g1.1),(60,.sl ((Arr.get (⟨[[],[(-1)]],rfl⟩:Arr (List Int) 2) g1.1.toNat []).map (eI .i64))),(61,.int .i64 ((Arr.get (⟨[[],[(-1)]],rfl⟩:Arr (List Int) 2) g1.1.toNat []).length:Int)),(62,.int .i64 g2.1)],[(0,bx a0),(1,sx g2.2)],2⟩
def zy7(a0:aH)(g1:Int×(List aI)):Option ((Int×(List aI))⊕(List aI)):=
 (if(decide (g1.1<2))=true then
  gd (0<=g1.1/\g1.1<2)<|
  (zg8 (zB4 a0 g1) (0,g1.2)).bind (λ|.inl z=>zN1 g1 z|.inr z=>some (.inr z))
 else
  some (.inr g1.2))
@[go_sem] def zcw6(a0:aH)(g1:Int×(List aI)):St:=⟨[(1,.ptr 0 0 0),(6,.own 1 0 g1.2.length),(55,.agg (Arr.enc (eL (eI .i64)) (⟨[[],[(-1)]],rfl⟩:Arr (List Int) 2))),(56,.int .i64 g1.1)],[(0,bx a0),(1,sx g1.2)],2⟩
def zu2(a0:aH):Option (List aI):=
 ((if(!(((!(zj7 a0.aZ))||decide (a0.cost<1))||decide (1000<a0.cost)))=true then zi4 a0.bH else some false)).bind λ v1=>
 (if((((!(zj7 a0.aZ))||decide (a0.cost<1))||decide (1000<a0.cost))||(!v1))=true then
  some []
 else
  ((if a0.bW=true then zk7 a0.aR else some false)).bind λ v2=>
  (if(a0.bW&&(!v2))=true then
   some []
  else
   (za7 a0.bH.cB).bind λ v3=>
   (za5 v3).bind λ v4=>
   (zg8 (zy7 a0) (0,[])).bind (λ z=>zG5 z)))
theorem zaN9(a0:aH)(r:(List aI))(h:zu2 a0=some r):PFn C 38 [ga a0] (la r):=by
 refine zcr5 Tryz.f38 [(6,1),(6,1)] λ E hG hN hK hdf=>?_;unfold zu2 at h;refine za2 (za3 hG ?_);refine zbi1 ?_;refine za2 (za2 (za3 hG ?_));refine zn1 (λ hg=>(zac1 a0.aZ).ok) ?_;obtain⟨v1,hv1,h⟩:=zd2 h;refine zn1 (λ hg=>(zaH2 a0.bH).ok _ (zar3 hg hv1)) ?_;refine zh3 rfl hG h (λ _ h=>?_) (λ _ h=>?_)
 · refine za2 (za3 hG ?_)
   refine zo3 ?_;exact zt5 h
 refine zh0 ?_;refine za2 (za2 (za3 hG ?_));obtain⟨v2,hv2,h⟩:=zd2 h;refine zn1 (λ hg=>(zaC4 a0.aR).ok _ (zar3 hg hv2)) ?_;refine zh3 rfl hG h (λ _ h=>?_) (λ _ h=>?_)
 · refine za2 (za3 hG ?_)
   refine zo3 ?_;exact zt5 h
 refine zh0 ?_;refine za2 (za3 hG ?_);have hu:∀x:aH,Ab.unfCs x.enc=x.enc:=by
  intro x;cases x with
  |mk p c l w q s g=>
   cases q with
   |mk e u v=>cases e;simp only[aH.enc,aF.enc,bG.enc,bL.enc,aP.enc,aO.enc,aJ.enc,List.cons_append,List.nil_append,eN,Ab.unfCs,Ab.unfA]
 refine g_gh .unf ?_;rw[hu];refine za2 (za2 (za3 hG ?_));obtain⟨v3,hv3,h⟩:=zd2 h;refine zs2 [] [(0,2)] [0] ((zV1 a0.bH.cB).ok _ hv3) rfl rfl ?_;refine zr6 ?_;obtain⟨v4,hv4,h⟩:=zd2 h;refine g_rf hdf hG [(0,2)] [] [0] (zT6 _ _ hv4) rfl rfl ?_;refine za2 (za3 hG ?_);refine za2 ?_;refine zbu4 ?_;refine za2 (za2 (za3 hG ?_));refine zs5 zcw3 (λ v=>zG5 v=some r) ?_ ?_
 · intro j1 h
   unfold zG5 at h;refine g_st ?_;refine za2 (za3 hG ?_);refine zo3 ?_;exact zt5 h
 refine zz0 (zcw6 a0) hK [(0,0),(1,3)] h (λ x_l1 h g1 y_l1 h_l1 hx_l1=>?_);unfold zy7 at h_l1;refine g_st ?_;refine za2 (za3 hG ?_);refine za2 ?_;refine zh3 rfl hG h_l1 (λ _ h_l1=>?_) (λ _ h_l1=>?_)
 · refine zh0 ?_
   refine za2 (zr6 (za2 ?_));obtain⟨hb3,h_l1⟩:=ze5 h_l1;refine za3 hG ?_;refine za2 (za3 hG ?_);refine zs5 (zcw4 a0 g1) (λ v=>zN1 g1 v=some y_l1) ?_ ?_
   · intro j2 h_l1
     unfold zN1 at h_l1;refine g_st ?_;refine za3 hG ?_;exact zy5 hK [(0,0),(1,1)] h_l1
   refine zz0 (zcw5 a0 g1) hK [(0,0),(1,1)] h_l1 (λ x_l2 h_l1 g2 y_l2 h_l2 hx_l2=>?_);unfold zB4 at h_l2;refine g_st ?_;refine za2 (za3 hG ?_);refine za2 ?_;refine zh3 rfl hG h_l2 (λ _ h_l2=>?_) (λ _ h_l2=>?_)
   · refine zh0 ?_
     refine za2 (zr6 (za2 ?_));obtain⟨hb2,h_l2⟩:=ze5 h_l2;refine za3 hG ?_;refine za2 (za3 hG ?_);obtain⟨v5,hv5,h_l2⟩:=zd2 h_l2;refine zn1 (λ hg=>zaS9 _ _ _ _ hv5) ?_;refine za2 (za2 (za3 hG ?_));obtain⟨v6,hv6,h_l2⟩:=zd2 h_l2;refine zn1 (λ hg=>(zaw5 v5).ok _ hv6) ?_;refine zh3 rfl hG h_l2 (λ _ h_l2=>?_) (λ _ h_l2=>?_)
     · refine za2 (za3 hG ?_)
       refine zv7 ?_;obtain rfl:=dP h_l2;have hx:=hx_l2 _ rfl;subst hx
       try dsimp only at h_l1
       cases h_l1;cases hx_l1 _ rfl;exact zs8 hK [(0,3)] [] (by exact h)
     refine zh0 ?_;obtain⟨hb1,h_l2⟩:=ze5 h_l2;refine za3 hG ?_;refine za3 hG ?_;exact zy5 hK [(0,0),(1,3)] h_l2
   refine zv7 ?_;obtain rfl:=dP h_l2;have hx:=hx_l2 _ rfl;subst hx
   try dsimp only at h_l1
   exact zs8 hK [(0,0),(1,1)] g2.2 (by exact h_l1)
 refine zv7 ?_;cases h_l1;cases hx_l1 _ rfl;exact zs8 hK [(0,1)] g1.2 (by exact h)
instance zbC6(a0:aH):OkP (zu2 a0) 38 [ga a0] (λ r=>la r):=⟨zaN9 a0⟩
attribute [local irreducible] zu2
def zM2(a0:Nat)(j1:Int×(List aC)×(List aH)×(List bI)):Option (Int×(List aC)×(List aH)×(List bI)):=
 (zi3 a0 j1.2.2.1).bind λ v5=>
 gd (v5.length=j1.2.2.1.length)<|
 gd (a0<v5.length)<|
 gd (a0<v5.length)<|
 some (j1.1,j1.2.1,v5.set a0 ({(v5.getD a0 aH.zero)with gen:=(zy9 ((v5.getD a0 aH.zero).gen))}),j1.2.2.2)
@[go_sem] def zcw7(a0:Nat)(j1:Int×(List aC)×(List aH)×(List bI)):St:=⟨[(1,.ptr 1 a0 0)],[(0,⟨false,4,bM.enc bM.zero,[[.int .i64 j1.1,la j1.2.1,.own 1 0 j1.2.2.1.length,.own 3 0 j1.2.2.2.length]]⟩),(1,sx j1.2.2.1),(3,sx j1.2.2.2)],4⟩
def zX5(a0:Nat)(v3:(List Bool))(v4:(List aO))(g1:Int×Int×(List aC)×(List aH)×(List bI)):Option ((Int×Int×(List aC)×(List aH)×(List bI))⊕(Int×(List aC)×(List aH)×(List bI))):=
 (if(decide (g1.1<(v4.length:Int)))=true then
  gd (0<=g1.1/\g1.1<(v4.length:Int))<|
  gd (decide (g1.1<(v3.length:Int))=true->0<=g1.1/\g1.1<(v3.length:Int))<|
  (if(decide (g1.1<(v3.length:Int))&&v3.getD g1.1.toNat false)=true then
   (zo6 a0 ((v4.getD g1.1.toNat aO.zero).name) g1.2.1 g1.2.2.1 g1.2.2.2.1 g1.2.2.2.2).bind λ v6=>
   some (.inl ((i64.wrap (g1.1+1)),v6.1,v6.2.1,v6.2.2.1,v6.2.2.2))
  else
   none)
 else
  some (.inr (g1.2.1,g1.2.2.1,g1.2.2.2.1,g1.2.2.2.2)))
@[go_sem] def zcw8(a0:Nat)(v3:(List Bool))(v4:(List aO))(g1:Int×Int×(List aC)×(List aH)×(List bI)):St:=⟨[(0,.ptr 0 0 0),(1,.ptr 1 a0 0),(4,.sl (v3.map eB)),(33,la v4),(34,.int .i64 (v4.length:Int)),(35,.int .i64 g1.1)],[(0,⟨false,4,bM.enc bM.zero,[[.int .i64 g1.2.1,la g1.2.2.1,.own 1 0 g1.2.2.2.1.length,.own 3 0 g1.2.2.2.2.length]]⟩),(1,sx g1.2.2.2.1),(3,sx g1.2.2.2.2)],4⟩
def zu9(a0:Nat)(a1:Int)(a2:List aC)(a3:List aH)(a4:List bI):Option (Int×(List aC)×(List aH)×(List bI)):=
 gd (a0<a3.length)<|
 (zf2 2 ((a3.getD a0 aH.zero).aZ) (⟨(⟨a1,a2,a3⟩:aM),a4⟩:bM)).bind λ v1=>
 gd (a0<v1.2.2.1.length)<|
 (zr3 v1.2.1 (v1.2.2.1.getD a0 aH.zero)).bind λ v2=>
 (zt7 (((v1.2.2.1.getD a0 aH.zero).aR).bQ) v2).bind λ v3=>
 gd (a0<v1.2.2.1.length)<|
 (zq2 (((v1.2.2.1.getD a0 aH.zero).aR).bQ)).bind λ v4=>
 (zg8 (zX5 a0 v3 v4) (0,v1.1,v1.2.1,v1.2.2.1,v1.2.2.2)).bind (λ z=>zM2 a0 z)
theorem zav1(a0:Nat)(a1:Int)(a2:List aC)(a3:List aH)(a4:List bI)(r:Int×(List aC)×(List aH)×(List bI))(h:zu9 a0 a1 a2 a3 a4=some r):MFn C 214 [.ptr 0 0 0,.ptr 1 a0 0] [(0,⟨false,4,bM.enc bM.zero,[[.int .i64 a1,la a2,.own 1 0 a3.length,.own 2 0 a4.length]]⟩),(1,sx a3),(2,sx a4)] 3 (.tup []) [(0,⟨false,4,bM.enc bM.zero,[[.int .i64 r.1,la r.2.1,.own 1 0 r.2.2.1.length,.own 3 0 r.2.2.2.length]]⟩),(1,sx r.2.2.1),(3,sx r.2.2.2)] 4:=by
 refine zK4 Tryz.f214 [(2007,1)] [] λ E hG hN hK=>?_;unfold zu9 at h;refine za2 ?_;obtain⟨hb8,h⟩:=ze5 h;refine za3 hG ?_;obtain⟨v1,hv1,h⟩:=zd2 h;refine zs2 [(0,0),(1,1),(2,2)] [(3,3)] [0,1,2,3] ((zaF2 2 ((a3.getD a0 aH.zero).aZ) (⟨(⟨a1,a2,a3⟩:aM),a4⟩:bM)).ok _ hv1) rfl rfl ?_;refine za2 ?_;obtain⟨hb7,h⟩:=ze5 h;refine zaj5 zv9 hG ?_;obtain⟨v2,hv2,h⟩:=zd2 h;refine zD0 (λ hg=>(zaS8 v1.2.1 (v1.2.2.1.getD a0 aH.zero)).ok _ hv2) ?_;obtain⟨v3,hv3,h⟩:=zd2 h;refine zD0 (λ hg=>(zaZ6 (((v1.2.2.1.getD a0 aH.zero).aR).bQ) v2).ok _ hv3) ?_;refine za2 (za2 ?_);obtain⟨hb6,h⟩:=ze5 h;refine za3 hG ?_;obtain⟨v4,hv4,h⟩:=zd2 h;refine zn1 (λ hg=>(zaj8 (((v1.2.2.1.getD a0 aH.zero).aR).bQ)).ok _ hv4) ?_;refine zs5 (zcw7 a0) (λ v=>zM2 a0 v=some r) ?_ ?_
 · intro j1 h
   unfold zM2 at h;refine g_st ?_;refine za2 (za3 hG ?_);obtain⟨v5,hv5,h⟩:=zd2 h;obtain⟨hb3,h⟩:=ze5 h;refine zs2 [(0,1)] [] [0] (zaR8 _ _ _ hv5) rfl rfl ?_;obtain⟨hb2,h⟩:=ze5 h;refine za3 hG ?_;obtain⟨hb1,h⟩:=ze5 h;refine zn1 (λ hg=>(zP2 ((v5.getD a0 aH.zero).gen)).ok) ?_;exact zw8 [(0,0),(1,1),(2,2),(3,3)] h
 refine zz0 (zcw8 a0 v3 v4) hK [(0,0),(1,1),(2,2),(3,3)] h (λ x_l1 h g1 y_l1 h_l1 hx_l1=>?_);unfold zX5 at h_l1;refine g_st ?_;refine za2 (za3 hG ?_);refine za2 ?_;refine zh3 rfl hG h_l1 (λ _ h_l1=>?_) (λ _ h_l1=>?_)
 · refine zh0 ?_
   refine za2 (zr6 (za2 ?_));obtain⟨hb5,h_l1⟩:=ze5 h_l1;refine za3 hG ?_;refine za2 ?_;obtain⟨hb4,h_l1⟩:=ze5 h_l1;refine za3 hG ?_;refine zh3 rfl hG h_l1 (λ _ h_l1=>?_) (λ _ h_l1=>?_)
   · refine za3 hG ?_
     obtain⟨v6,hv6,h_l1⟩:=zd2 h_l1;refine zs2 [(0,0),(1,1),(2,3)] [] [0,1,2] ((zav0 a0 ((v4.getD g1.1.toNat aO.zero).name) g1.2.1 g1.2.2.1 g1.2.2.2.1 g1.2.2.2.2).ok _ hv6) rfl rfl ?_;refine za3 hG ?_;exact zy5 hK [(0,0),(1,1),(2,2),(3,3)] h_l1
   exact zV9 h_l1
 refine zv7 ?_;cases h_l1;cases hx_l1 _ rfl;exact zs8 hK [(0,0),(1,1),(2,2),(3,3)] (g1.2.1,g1.2.2.1,g1.2.2.2.1,g1.2.2.2.2) (by exact h)
attribute [local irreducible] zu9
def zan0(j1:(List aF)):Option (List aF):=
 (zq1 j1).bind λ v2=>
 some v2
def zan1(a0:aA)(g1:Int×(List aF)):Option ((Int×(List aF))⊕(List aF)):=
 (if(decide (g1.1<(a0.aK.length:Int)))=true then
  gd (0<=g1.1/\g1.1<(a0.aK.length:Int))<|
  gd (g1.2.length+1<=4294967296)<|
  some (.inl ((i64.wrap (g1.1+1)),(g1.2++[(a0.aK.getD g1.1.toNat bK.zero).aZ])))
 else
  some (.inr g1.2))
def zr8(a0:aA):Option (List aF):=
 (zt9 a0.aB).bind λ v1=>
 gd (v1.length<=4294967296)<|
 (zg8 (zan1 a0) (0,v1)).bind (λ z=>zan0 z)
@[reducible,instance] def zdA9 a0 {T1:Type} (v1:T1):=mkJ (zr8 a0,v1) 0 (@zan0.eq_1) λ(j1:(List aF))=>⟨[(3,.own 0 0 j1.length)],[(0,sx j1)],1⟩
@[reducible,instance] def zdB0 (a0:aA) {T:Type} (x:T):=mkL x (@zan1.eq_1 a0) λ(g1:Int×(List aF))=>⟨[(3,.own 0 0 g1.2.length),(11,la a0.aK),(12,.int .i64 (a0.aK.length:Int)),(13,.int .i64 g1.1)],[(0,sx g1.2)],1⟩
instance zat5(a0:aA):OkP (zr8 a0) 54 [ga a0] (λ r=>la r):=ok1 (zr8.eq_1 a0) Tryz.f54 []
attribute [local irreducible] zr8
def zX6(j1:aC×(List bF)):Option ((List bF)×aC):=
 some (j1.2,j1.1)
@[go_sem] def zcw9(j1:aC×(List bF)):St:=⟨[(3,.own 1 0 j1.2.length)],[(0,bx j1.1),(1,sx j1.2)],2⟩
def zO6(g1:aC×(List bF))(v1:aW×Bool)(j2:aC):Option ((aC×(List bF))⊕(aC×(List bF))):=
 (zo7 j2.bR v1.1.aZ v1.1.aY).bind λ v2=>
 gd (g1.2.length+1<=4294967296)<|
 some (.inl ({j2 with bR:=v2},(g1.2++[(⟨v1.1.aZ,v1.1.aY⟩:bF)])))
@[go_sem] def zcx0(g1:aC×(List bF))(v1:aW×Bool)(j2:aC):St:=⟨[(0,.ptr 0 0 0),(3,.own 1 0 g1.2.length),(4,.ptr 2 0 0)],[(0,bx j2),(1,sx g1.2),(2,bx v1.1)],3⟩
def zan2(g1:aC×(List bF)):Option ((aC×(List bF))⊕(aC×(List bF))):=
 (zn3 g1.1).bind λ v1=>
 ((if v1.2=true then zu6 g1.1.aQ g1.1.bR v1.1.aZ v1.1.aY else some false)).bind λ v3=>
 (if((!v1.2)||(!v3))=true then
  some (.inr (g1.1,g1.2))
 else
  (if(decide (0<(g1.1.aV.length:Int)))=true then
   gd (0<=1/\1<=(g1.1.aV.length:Int)/\(g1.1.aV.length:Int)<=(g1.1.aV.length:Int))<|
   zO6 g1 v1 ({g1.1 with aV:=(g1.1.aV.drop 1)})
  else
   gd (0<=1/\1<=(g1.1.bO.length:Int)/\(g1.1.bO.length:Int)<=(g1.1.bO.length:Int))<|
   zO6 g1 v1 ({g1.1 with bO:=(g1.1.bO.drop 1)})))
@[go_sem] def zcx1(g1:aC×(List bF)):St:=⟨[(0,.ptr 0 0 0),(3,.own 1 0 g1.2.length)],[(0,bx g1.1),(1,sx g1.2)],2⟩
def zu1(a0:aC):Option ((List bF)×aC):=
 (zg8 zan2 (a0,[])).bind (λ z=>zX6 z)
theorem zJ7(a0:aC)(r:(List bF)×aC)(h:zu1 a0=some r):MFn C 252 [.ptr 0 0 0] [(0,bx a0)] 1 (la r.1) [(0,bx r.2)] 1:=by
 refine zK4 Tryz.f252 [(3,1)] [la r.1] λ E hG hN hK=>?_;unfold zu1 at h;refine za2 (za3 hG ?_);refine zbi1 ?_;refine za2 (za3 hG ?_);refine za2 ?_;refine zbu4 ?_;refine za2 ?_;refine zs5 zcw9 (λ v=>zX6 v=some r) ?_ ?_
 · intro j1 h
   unfold zX6 at h;refine g_st ?_;refine za2 (za3 hG ?_);refine g_gh (.fz [1]) ?_;refine zo3 ?_;exact zw8 [(0,0)] h
 refine zz0 zcx1 hK [(0,0),(1,1)] h (λ x_l1 h g1 y_l1 h_l1 hx_l1=>?_);unfold zan2 at h_l1;refine g_st ?_;refine zr6 (za2 (za3 hG ?_));obtain⟨v1,hv1,h_l1⟩:=zd2 h_l1;refine zn1 (λ hg=>(zbn4 g1.1).ok _ hv1) ?_;refine za2 ?_;refine zs5 (zcx0 g1 v1) (λ v=>zO6 g1 v1 v=some y_l1) ?_ ?_
 · intro j2 h_l1
   unfold zO6 at h_l1;refine g_st ?_;refine za2 (zP1 zv9 hG ?_);obtain⟨v2,hv2,h_l1⟩:=zd2 h_l1;refine zx8 (λ hg=>zaL4 _ _ _ _ hv2) ?_;obtain⟨hb1,h_l1⟩:=ze5 h_l1;refine za3 hG ?_;exact zy5 hK [(0,0),(1,3)] h_l1
 refine za2 (zaj5 zv9 hG ?_);obtain⟨v3,hv3,h_l1⟩:=zd2 h_l1;refine zD0 (λ hg=>(zbd4 g1.1.aQ g1.1.bR v1.1.aZ v1.1.aY).ok _ (zar3 hg hv3)) ?_;refine zh3 rfl hG h_l1 (λ _ h_l1=>?_) (λ _ h_l1=>?_)
 · refine zv7 ?_
   cases h_l1;cases hx_l1 _ rfl;exact zs8 hK [(0,0),(1,1)] (g1.1,g1.2) (by exact h)
 refine za2 (za3 hG ?_);refine zh3 rfl hG h_l1 (λ _ h_l1=>?_) (λ _ h_l1=>?_)
 · obtain⟨hb2,h_l1⟩:=ze5 h_l1
   refine za3 hG ?_;exact zs8 hK [(0,0),(1,1),(2,2)] ({g1.1 with aV:=(g1.1.aV.drop 1)}) (by exact h_l1)
 obtain⟨hb3,h_l1⟩:=ze5 h_l1;refine za3 hG ?_;exact zs8 hK [(0,0),(1,1),(2,2)] ({g1.1 with bO:=(g1.1.bO.drop 1)}) (by exact h_l1)
attribute [local irreducible] zu1
def zai4(j1:Unit):Option Bool:=
 some true
def zai5(a0:aA)(a1:aF)(g1:Int):Option (Int⊕(Unit⊕Bool)):=
 (if(decide (g1<(a0.aK.length:Int)))=true then
  gd (0<=g1/\g1<(a0.aK.length:Int))<|
  (zd7 ((a0.aK.getD g1.toNat bK.zero).aZ) a1).bind λ v1=>
  (if(decide (v1=0))=true then
   (zq9 a0 (a0.aK.getD g1.toNat bK.zero)).bind λ v2=>
   (zt0 ((a0.aK.getD g1.toNat bK.zero).bQ) v2).bind λ v3=>
   some (.inr (.inr v3))
  else
   some (.inl (i64.wrap (g1+1))))
 else
  some (.inr (.inl ())))
def zw2(a0:aA)(a1:aF):Option Bool:=
 (zg8 (zai5 a0 a1) 0).bind (λ|.inl z=>zai4 z|.inr z=>some z)
@[reducible,instance] def zdB1 a0 a1:=mkJ (zw2 a0 a1) 0 (@zai4.eq_1) λ(j1:Unit)=>⟨[],[],0⟩
@[reducible,instance] def zdB2 (a0:aA) (a1:aF) {T:Type} (x:T):=mkL x (@zai5.eq_1 a0 a1) λ(g1:Int)=>⟨[(2,.ptr 0 0 0),(3,.ptr 1 0 0),(8,la a0.aK),(9,.int .i64 (a0.aK.length:Int)),(10,.int .i64 g1)],[(0,bx a0),(1,bx a1)],2⟩
instance zbE6(a0:aA)(a1:aF):OkP (zw2 a0 a1) 132 [ga a0,ga a1] (λ r=>.bool r):=ok1 (zw2.eq_1 a0 a1) Tryz.f132 []
attribute [local irreducible] zw2
end
end Ab
end Go.Proofs.YtamndckemppjdaaGreatDoor
