import Derived.Test.YtamndckemppjdaaGreatDoorHm33
import Derived.Test.YtamndckemppjdaaGreatDoorHm35
namespace Go.Proofs.YtamndckemppjdaaGreatDoor
namespace Ab
open IntKind (i64 u64 u8 u32)
set_option linter.unusedSimpArgs false
set_option linter.defProp false
set_option linter.unusedVariables false
set_option maxRecDepth 100000
set_option maxHeartbeats 4000000
noncomputable section
attribute [local irreducible] zn9 zf4 zb7 ze8 zl6 zk8 zd0 zd6 zc8 zf7 zn2 zb8 zq7 zh1 zc1 zk5 zm2 zb4 zg1 za4 zk1 ze6 zb5 zd3 ze9 zd5 zm0 zn3 zi7 zg7 zg5 zh7 zg2 zd9 zh5 zi8 zk9 zb2 zg4 za6 zi9 za9 zb9 zf1 zj6 zf2 zi3 za8 za7 za5 zh2 zj2 zf3 zj8 zg3 zd7 zm3 zc5 zh9 zi0 zh4 zj1 zk2 zn8 zm1 zb6 zj0 zd8 zi5 zq5 zl0 zm9 zf0 zc3 zf5 zb0 zq0 zg9 zl7 zc0 zg6 zb1 zf8 zl8 zi1 zg0 zo7 zo1 zm5 zl3 zk4 zq6 zj3 zj5 zt8 zf9 zh8 zp0 zc7 ze2 ze4 ze3 zb3 zn4 zj9 zc6 zl9 zj4 zl1 zm8 zs3 zm4 ze1 zi4 zo8 zp7 zs6 zo0 zk6 zv1 zs7 zn7 zi2 zp1 zc9 zn6 zd4 f_formula_holds zc2 ze0 zp8 zr9 zh6 zf6 zq1 zt3 zp4 zu5 zl2 zv6 zm6 zr1 zl4 zu4 zr4 zm7 zn5 zr2 zd1 zT1 zJ2 zq2 zr7 zr3 zt0 zt7 zq9 zi6 zq8 zD5 zt1 zp9 zD6 zt4 zu6 zv0 zt9 zk7 zp3 zo6 ze7 zB8 zu2 zu9 zr8 zu1 zw2 zv5 zv2 zD7 zG8 zy0 zy1 zs9 zp2 zE4 zE5 zz7 zE6 zE7 zk3 zQ9 zx5 zz4 zz5 zR0 zT8 zL8 zy2 zR1 zM3 zN3 zP5 zx7 zat9 zT9 zab5 zo4 zC8
class InR {α:Type} (i:Nat) (l:List α):Prop where
  lt:i<l.length
@[go_sem] theorem zdn9{α:Type}{i:Nat}{l:List α}[h:InR i l](x d:α):(l.set i x).getD i d=x:=by rw[cK,List.getElem?_set_self h.lt];rfl
@[go_sem] theorem zdF6{α:Type}(i:Nat)(l:List α)(x y:α):(l.set i x).set i y=l.set i y:=by simp
def zK3(j1:Int×(List aC)×(List aH)×(List bI)):Option (Int×Int×(List aC)×(List aH)×(List bI)):=
 (zC8 (⟨(⟨j1.1,j1.2.1,j1.2.2.1⟩:aM),j1.2.2.2⟩:bM)).bind λ v6=>
 some (0,v6.1,v6.2.1,v6.2.2.1,v6.2.2.2)
@[go_sem] def zcy2(j1:Int×(List aC)×(List aH)×(List bI)):St:=⟨[(0,.ptr 0 0 0)],[(0,⟨false,4,bM.enc bM.zero,[[.int .i64 j1.1,la j1.2.1,.own 1 0 j1.2.2.1.length,.own 3 0 j1.2.2.2.length]]⟩),(1,sx j1.2.2.1),(3,sx j1.2.2.2)],4⟩
def zV0(a0:Nat)(a1:bL)(v4:aP)(v5:(List aO))(g1:Int×Int×(List aC)×(List aH)×(List bI)):Option ((Int×Int×(List aC)×(List aH)×(List bI))⊕(Int×(List aC)×(List aH)×(List bI))):=
 (if(decide (g1.1<(v5.length:Int)))=true then
  gd (0<=g1.1/\g1.1<(v5.length:Int))<|
  gd (a0<g1.2.2.2.1.length)<|
  (zab5 g1.2.2.1 ((g1.2.2.2.1.getD a0 aH.zero).aZ) (v5.getD g1.1.toNat aO.zero) (({a1 with bQ:=v4}).bT)).bind λ v7=>
  (ze6 v7.1 v7.2.1 v7.2.2 (⟨(⟨g1.2.1,g1.2.2.1,g1.2.2.2.1⟩:aM),g1.2.2.2.2⟩:bM)).bind λ v8=>
  some (.inl ((i64.wrap (g1.1+1)),v8.1,v8.2.1,v8.2.2.1,v8.2.2.2))
 else
  some (.inr (g1.2.1,g1.2.2.1,g1.2.2.2.1,g1.2.2.2.2)))
@[go_sem] def zcy3(a0:Nat)(a1:bL)(v4:aP)(v5:(List aO))(g1:Int×Int×(List aC)×(List aH)×(List bI)):St:=⟨[(0,.ptr 0 0 0),(1,.ptr 1 a0 0),(5,.ptr 3 0 0),(58,la v5),(59,.int .i64 (v5.length:Int)),(60,.int .i64 g1.1)],[(0,⟨false,4,bM.enc bM.zero,[[.int .i64 g1.2.1,la g1.2.2.1,.own 1 0 g1.2.2.2.1.length,.own 4 0 g1.2.2.2.2.length]]⟩),(1,sx g1.2.2.2.1),(3,bx ({a1 with bQ:=v4})),(4,sx g1.2.2.2.2)],5⟩
def zH6(a0:Nat)(a1:bL)(a2:Int)(a3:List aC)(a4:List aH)(a5:List bI):Option (Int×Int×(List aC)×(List aH)×(List bI)):=
 gd (a0<a4.length)<|
 (if(a4.getD a0 aH.zero).bW=true then
  some (14,a2,a3,a4,a5)
 else
  (zk7 a1).bind λ v1=>
  (if(!v1)=true then
   some (1,a2,a3,a4,a5)
  else
   (zf4 a3).bind λ v2=>
   (zr7 v2 a1.bQ).bind λ v3=>
   (if(!decide (v3=0))=true then
    some (v3,a2,a3,a4,a5)
   else
    (zg1 a1.bQ).bind λ v4=>
    gd (a0<a4.length)<|
    gd (a0<a4.length)<|
    (zq2 (({a1 with bQ:=v4}).bQ)).bind λ v5=>
    (zg8 (zV0 a0 a1 v4 v5) (0,a2,a3,a4.set a0 ({(a4.getD a0 aH.zero)with bW:=true,aR:={a1 with bQ:=v4},since:=a2,gen:=(zy9 ((a4.getD a0 aH.zero).gen))}),a5)).bind (λ z=>zK3 z))))
theorem zau0(a0:Nat)(a1:bL)(a2:Int)(a3:List aC)(a4:List aH)(a5:List bI)(r:Int×Int×(List aC)×(List aH)×(List bI))(h:zH6 a0 a1 a2 a3 a4 a5=some r):MFn C 97 [.ptr 0 0 0,.ptr 1 a0 0,ga a1] [(0,⟨false,4,bM.enc bM.zero,[[.int .i64 a2,la a3,.own 1 0 a4.length,.own 2 0 a5.length]]⟩),(1,sx a4),(2,sx a5)] 3 (.int .i64 r.1) [(0,⟨false,4,bM.enc bM.zero,[[.int .i64 r.2.1,la r.2.2.1,.own 1 0 r.2.2.2.1.length,.own 3 0 r.2.2.2.2.length]]⟩),(1,sx r.2.2.2.1),(3,sx r.2.2.2.2)] 4:=by
 refine zK4 Tryz.f97 [] [.int .i64 r.1] λ E hG hN hK=>?_;unfold zH6 at h;refine za2 (za3 hG ?_);refine za2 (za2 ?_);obtain⟨hb5,h⟩:=ze5 h;refine za3 hG ?_;refine zh3 rfl hG h (λ _ h=>?_) (λ _ h=>?_)
 · refine za2 (za3 hG ?_)
   refine zo3 ?_;exact zw8 [(0,0),(1,1),(3,2)] h
 refine zh0 ?_;refine za2 (za2 (za3 hG ?_));obtain⟨v1,hv1,h⟩:=zd2 h;refine zn1 (λ hg=>(zaC4 a1).ok _ hv1) ?_;refine zh3 rfl hG h (λ _ h=>?_) (λ _ h=>?_)
 · refine za2 (za3 hG ?_)
   refine zo3 ?_;exact zw8 [(0,0),(1,1),(3,2)] h
 refine zh0 ?_;refine za2 (za2 (zaj5 zv9 hG ?_));obtain⟨v2,hv2,h⟩:=zd2 h;refine zD0 (λ hg=>(zaK3 a3).ok _ hv2) ?_;obtain⟨v3,hv3,h⟩:=zd2 h;refine zD0 (λ hg=>(zaS7 v2 a1.bQ).ok _ hv3) ?_;refine za2 (za3 hG ?_);refine zh3 rfl hG h (λ _ h=>?_) (λ _ h=>?_)
 · refine za2 (za3 hG ?_)
   refine zo3 ?_;exact zw8 [(0,0),(1,1),(3,2)] h
 refine zh0 ?_;refine za2 (za3 hG ?_);obtain⟨v4,hv4,h⟩:=zd2 h;refine zn1 (λ hg=>(zal7 a1.bQ).ok _ hv4) ?_;refine za2 ?_;obtain⟨hb4,h⟩:=ze5 h;haveI:InR a0 a4:=⟨hb4⟩;refine zP1 zv9 hG ?_;obtain⟨hb3,h⟩:=ze5 h;refine zx8 (λ hg=>(zP2 ((a4.getD a0 aH.zero).gen)).ok) ?_;refine za2 (za2 (za3 hG ?_));obtain⟨v5,hv5,h⟩:=zd2 h;refine zn1 (λ hg=>(zaj8 (({a1 with bQ:=v4}).bQ)).ok _ hv5) ?_;refine zs5 zcy2 (λ v=>zK3 v=some r) ?_ ?_
 · intro j1 h
   unfold zK3 at h;refine g_st ?_;refine za2 (za3 hG ?_);obtain⟨v6,hv6,h⟩:=zd2 h;refine zs2 [(0,0),(1,1),(2,3)] [(3,4)] [0,1,2,3] (zav2 _ _ hv6) rfl rfl ?_;refine za2 (za3 hG ?_);refine zo3 ?_;exact zw8 [(0,0),(1,1),(3,4)] h
 refine zz0 (zcy3 a0 a1 v4 v5) hK [(0,0),(1,1),(3,3),(4,2)] h (λ x_l1 h g1 y_l1 h_l1 hx_l1=>?_);unfold zV0 at h_l1;refine g_st ?_;refine za2 (za3 hG ?_);refine za2 ?_;refine zh3 rfl hG h_l1 (λ _ h_l1=>?_) (λ _ h_l1=>?_)
 · refine zh0 ?_
   refine za2 (zr6 (za2 ?_));obtain⟨hb2,h_l1⟩:=ze5 h_l1;refine za3 hG ?_;obtain⟨hb1,h_l1⟩:=ze5 h_l1;refine zP1 zv9 hG ?_;obtain⟨v7,hv7,h_l1⟩:=zd2 h_l1;refine zx8 (λ hg=>(zbl7 g1.2.2.1 ((g1.2.2.2.1.getD a0 aH.zero).aZ) (v5.getD g1.1.toNat aO.zero) (({a1 with bQ:=v4}).bT)).ok _ hv7) ?_;obtain⟨v8,hv8,h_l1⟩:=zd2 h_l1;refine zar4 [(0,0),(1,1),(2,4)] [(3,6)] [0,1,2,3] ((zaA4 v7.1 v7.2.1 v7.2.2 (⟨(⟨g1.2.1,g1.2.2.1,g1.2.2.2.1⟩:aM),g1.2.2.2.2⟩:bM)).ok _ hv8) rfl rfl ?_;refine za3 hG ?_;exact zy5 hK [(0,0),(1,1),(3,3),(4,6)] h_l1
 refine zv7 ?_;cases h_l1;cases hx_l1 _ rfl;exact zs8 hK [(0,0),(1,1),(3,4)] (g1.2.1,g1.2.2.1,g1.2.2.2.1,g1.2.2.2.2) (by exact h)
attribute [local irreducible] zH6
def zu0 (a0:aX) (a1:bM) (j1:Bool):Option (Int×bM):=
 (if j1=true then
  (zp4 a1.central.bA a0.aZ).bind λ v2=>
  (if(decide (v2<0))=true then
   some (10,a1)
  else
   gd (0<=v2/\v2<((a1.central.bA.length:Nat):Int))<|
   (if(decide (a0.kind=2))=true then
    (zH6 v2.toNat a0.aR a1.central.now a1.central.aB a1.central.bA a1.events).bind λ v3=>
    some (v3.1,(⟨(⟨v3.2.1,v3.2.2.1,v3.2.2.2.1⟩:aM),v3.2.2.2.2⟩:bM))
   else
    (if(decide (a0.kind=3))=true then
     none
    else
     (if(decide (a0.kind=4))=true then
      none
     else
      (if(decide (a0.kind=5))=true then
       none
      else
       (if(decide (a0.kind=6))=true then
        none
       else
        (if(decide (a0.kind=8))=true then
         (if(a1.central.bA.getD v2.toNat aH.zero).bW=true then
          some (14,a1)
         else
          none)
        else
         none)))))))
 else
  some (1,a1))
@[go_sem] def zcy4(a0:aX)(a1:bM)(j1:Bool):St:=⟨[(0,.ptr 0 0 0),(3,.ptr 3 0 0),(4,.int .i64 0),(23,.bool j1)],[(0,⟨false,4,bM.enc bM.zero,[[.int .i64 a1.central.now,la a1.central.aB,.own 4 0 a1.central.bA.length,.own 5 0 a1.events.length]]⟩),(3,bx a0),(4,sx a1.central.bA),(5,sx a1.events)],6⟩
def zw7 (a0:aX) (a1:bM):Option (Int×bM):=
 (if(decide (a0.kind=1))=true then
  (zt1 a0.aZ a0.n a1).bind λ v1=>
  some (v1.1,(⟨(⟨v1.2.1,v1.2.2.1,v1.2.2.2.2⟩:aM),v1.2.2.2.1⟩:bM))
 else
  (if(decide (a0.kind=9))=true then
   none
  else
   (if(decide (a0.kind=2))=true then
    zu0 a0 a1 (decide (a0.kind=2))
   else
    (if(decide (a0.kind=3))=true then
     zu0 a0 a1 (decide (a0.kind=3))
    else
     (if(decide (a0.kind=4))=true then
      zu0 a0 a1 (decide (a0.kind=4))
     else
      (if(decide (a0.kind=5))=true then
       zu0 a0 a1 (decide (a0.kind=5))
      else
       (if(decide (a0.kind=6))=true then
        zu0 a0 a1 (decide (a0.kind=6))
       else
        (if(decide (a0.kind=7))=true then
         zu0 a0 a1 (decide (a0.kind=7))
        else
         zu0 a0 a1 (decide (a0.kind=8))))))))))
theorem zaz0(a0:aX)(a1:bM)(r:Int×bM)(h:zw7 a0 a1=some r):MFn C 51 [.ptr 0 0 0,ga a0] [(0,⟨false,4,bM.enc bM.zero,[[.int .i64 a1.central.now,la a1.central.aB,.own 1 0 a1.central.bA.length,.own 2 0 a1.events.length]]⟩),(1,sx a1.central.bA),(2,sx a1.events)] 3 (.int .i64 r.1) [(0,⟨false,4,bM.enc bM.zero,[[.int .i64 r.2.central.now,la r.2.central.aB,.own 3 0 r.2.central.bA.length,.own 4 0 r.2.events.length]]⟩),(3,sx r.2.central.bA),(4,sx r.2.events)] 5:=by
 refine zK4 Tryz.f51 [(2006,1),(2022,1),(2024,1),(2026,1),(2028,1),(2032,1)] [.int .i64 r.1] λ E hG hN hK=>?_;unfold zw7 at h;refine za2 (za3 hG ?_);refine za2 (za2 (za3 hG ?_));refine zr6 (za2 (za3 hG ?_));refine zh3 rfl hG h (λ _ h=>?_) (λ _ h=>?_)
 · refine za2 (za3 hG ?_)
   obtain⟨v1,hv1,h⟩:=zd2 h;refine zs2 [(0,0),(1,1),(2,2)] [(3,4)] [0,1,2,3] (zaC0 _ _ _ _ hv1) rfl rfl ?_;refine zo3 ?_;exact zw8 [(0,0),(3,4),(4,2)] h
 refine za2 (za3 hG ?_);refine zh3 rfl hG h (λ _ h=>?_) (λ _ h=>?_)
 .exact zV9 h
 refine za2 (za2 (za3 hG ?_));refine zaE6 (zcy4 a0 a1) (λ v=>zu0 a0 a1 v=some r) rfl hG h ?_ (λ _ h=>?_) (λ _ h=>?_)
 · intro j1 h
   unfold zu0 at h;refine g_st ?_;refine zh3 rfl hG h (λ _ h=>?_) (λ _ h=>?_)
   · refine zh0 ?_
     refine za2 (zaj5 zv9 hG ?_);obtain⟨v2,hv2,h⟩:=zd2 h;refine zD0 (λ hg=>(zaj9 a1.central.bA a0.aZ).ok _ hv2) ?_;refine za2 (za2 (za3 hG ?_));refine zh3 rfl hG h (λ _ h=>?_) (λ _ h=>?_)
     · refine za2 (za3 hG ?_)
       refine zo3 ?_;exact zw8 [(0,0),(3,4),(4,5)] h
     refine zh0 ?_;refine za2 ?_;obtain⟨hb1,h⟩:=ze5 h;refine za3 hG ?_;refine za2 (za2 (za3 hG ?_));refine zr6 (za2 (za3 hG ?_));refine zh3 rfl hG h (λ _ h=>?_) (λ _ h=>?_)
     · refine za2 (za3 hG ?_)
       obtain⟨v3,hv3,h⟩:=zd2 h;refine zs2 [(0,0),(1,4),(2,5)] [(3,6)] [0,1,2,3] (zau0 _ _ _ _ _ _ _ hv3) rfl rfl ?_;refine zo3 ?_;exact zw8 [(0,0),(3,4),(4,6)] h
     refine za2 (za3 hG ?_);refine zh3 rfl hG h (λ _ h=>?_) (λ _ h=>?_)
     .exact zV9 h
     refine za2 (za3 hG ?_);refine zh3 rfl hG h (λ _ h=>?_) (λ _ h=>?_)
     .exact zV9 h
     refine za2 (za3 hG ?_);refine zh3 rfl hG h (λ _ h=>?_) (λ _ h=>?_)
     .exact zV9 h
     refine za2 (za3 hG ?_);refine zh3 rfl hG h (λ _ h=>?_) (λ _ h=>?_)
     .exact zV9 h
     refine za2 (za3 hG ?_);refine zh3 rfl hG h (λ _ h=>?_) (λ _ h=>?_)
     · refine za2 (za3 hG ?_)
       refine zh3 rfl hG h (λ _ h=>?_) (λ _ h=>?_)
       · refine za2 (za3 hG ?_)
         refine zo3 ?_;exact zw8 [(0,0),(3,4),(4,5)] h
       refine zh0 ?_;exact zV9 h
     refine zh0 ?_;exact zV9 h
   refine za2 (za3 hG ?_);refine zo3 ?_;exact zw8 [(0,0),(3,4),(4,5)] h
 · refine zh0 ?_
   exact zs8 hK [(0,0),(3,3),(4,1),(5,2)] (decide (a0.kind=2)) (by exact h)
 refine za2 (za3 hG ?_);refine zh3 rfl hG h (λ _ h=>?_) (λ _ h=>?_)
 · refine zh0 ?_
   exact zs8 hK [(0,0),(3,3),(4,1),(5,2)] (decide (a0.kind=3)) (by exact h)
 refine za2 (za3 hG ?_);refine zh3 rfl hG h (λ _ h=>?_) (λ _ h=>?_)
 · refine zh0 ?_
   exact zs8 hK [(0,0),(3,3),(4,1),(5,2)] (decide (a0.kind=4)) (by exact h)
 refine za2 (za3 hG ?_);refine zh3 rfl hG h (λ _ h=>?_) (λ _ h=>?_)
 · refine zh0 ?_
   exact zs8 hK [(0,0),(3,3),(4,1),(5,2)] (decide (a0.kind=5)) (by exact h)
 refine za2 (za3 hG ?_);refine zh3 rfl hG h (λ _ h=>?_) (λ _ h=>?_)
 · refine zh0 ?_
   exact zs8 hK [(0,0),(3,3),(4,1),(5,2)] (decide (a0.kind=6)) (by exact h)
 refine za2 (za3 hG ?_);refine zh3 rfl hG h (λ _ h=>?_) (λ _ h=>?_)
 · refine zh0 ?_
   exact zs8 hK [(0,0),(3,3),(4,1),(5,2)] (decide (a0.kind=7)) (by exact h)
 refine za3 hG ?_;exact zs8 hK [(0,0),(3,3),(4,1),(5,2)] (decide (a0.kind=8)) (by exact h)
instance zbn7(a0:aX)(a1:bM):OkM (zw7 a0 a1) 51 [.ptr 0 0 0,ga a0] [(0,⟨false,4,bM.enc bM.zero,[[.int .i64 a1.central.now,la a1.central.aB,.own 1 0 a1.central.bA.length,.own 2 0 a1.events.length]]⟩),(1,sx a1.central.bA),(2,sx a1.events)] 3 (λ r=>.int .i64 r.1) (λ r=>[(0,⟨false,4,bM.enc bM.zero,[[.int .i64 r.2.central.now,la r.2.central.aB,.own 3 0 r.2.central.bA.length,.own 4 0 r.2.events.length]]⟩),(3,sx r.2.central.bA),(4,sx r.2.events)]) 5:=⟨zaz0 a0 a1⟩
attribute [local irreducible] zw7
def zT2(a0:aM)(a1:aX):Option (aM×(List bI)×Int):=
 (zx7 a0).bind λ v1=>
 (if(!v1)=true then
  some ({aM.zero with},[],2)
 else
  (zf9 a0).bind λ v2=>
  (zw7 a1 (⟨(⟨v2.now,v2.aB,v2.bA⟩:aM),[]⟩:bM)).bind λ v3=>
  (if(!decide (v3.1=0))=true then
   some ({aM.zero with},[],v3.1)
  else
   some (v3.2.central,v3.2.events,0)))
instance zcd7(a0:aM)(a1:aX):OkP (zT2 a0 a1) 22 [ga a0,ga a1] (λ r=>.tup [ga r.1,la r.2.1,.int .i64 r.2.2]):=⟨λ r h=>by
 refine zx6 Tryz.f22 [(15,14)] λ E hG hN hK=>?_;have hm:Mk (zT2 a0 a1):=trivial;unfold zT2 at h;refine za2 (za3 hG ?_);refine za2 (za2 (za3 hG ?_));obtain⟨v1,hv1,h⟩:=zd2 h;have hm:=mkP hm v1;refine zn1 (λ hg=>(zaZ8 a0).ok _ hv1) ?_;refine zh3 rfl hG h (λ _ h=>?_) (λ _ h=>?_)
 .exact gogo
 refine zh0 ?_;refine za2 (za3 hG ?_);obtain⟨v2,hv2,h⟩:=zd2 h;have hm:=mkP hm v2;refine zs2 [] [(0,3),(1,4)] [0,1] (zas8 _ _ hv2) rfl rfl ?_;refine g_gh (.fz [3]) ?_;refine g_gh (.ownb 5 3 7 (bI.enc bI.zero)) ?_;exact gogo⟩
attribute [local irreducible] zT2
def zbc5(j1:aM):Option (aM×Bool):=
 some (j1,true)
def zae0(a1:List aX)(g1:Int×aM):Option ((Int×aM)⊕(aM⊕(aM×Bool))):=
 (if(decide (g1.1<(a1.length:Int)))=true then
  gd (0<=g1.1/\g1.1<(a1.length:Int))<|
  (zT2 g1.2 (a1.getD g1.1.toNat aX.zero)).bind λ v1=>
  (if(!decide (v1.2.2=0))=true then
   some (.inr (.inr (g1.2,false)))
  else
   some (.inl ((i64.wrap (g1.1+1)),v1.1)))
 else
  some (.inr (.inl g1.2)))
def zY3(a0:aM)(a1:List aX):Option (aM×Bool):=
 (zg8 (zae0 a1) (0,a0)).bind (λ|.inl z=>zbc5 z|.inr z=>some z)
@[reducible,instance] def zdF7 a0 a1:=mkJ (zY3 a0 a1) 0 (@zbc5.eq_1) λ(j1:aM)=>⟨[(2,.ptr 0 0 0),(4,.ptr 1 0 0)],[(0,bx j1),(1,bx aM.zero)],2⟩
@[reducible,instance] def zdF8 (a1:List aX) {T:Type} (x:T):=mkL x (@zae0.eq_1 a1) λ(g1:Int×aM)=>⟨[(1,la a1),(2,.ptr 0 0 0),(4,.ptr 1 0 0),(6,.int .i64 g1.1)],[(0,bx g1.2),(1,bx aM.zero)],2⟩
instance zaZ9(a0:aM)(a1:List aX):OkP (zY3 a0 a1) 10 [ga a0,la a1] (λ r=>.tup [ga r.1,.bool r.2]):=ok1 (zY3.eq_1 a0 a1) Tryz.f10 []
attribute [local irreducible] zY3
def zau1(v1:aM×Int)(j1:(List aX)):Option (aM×Bool):=
 (zY3 v1.1 j1).bind λ v2=>
 some (v2.1,v2.2)
def zR2(a1:Int)(a2:List Int)(g1:Int×(List aX)):Option ((Int×(List aX))⊕(List aX)):=
 (if(decide (g1.1<a1))=true then
  (zq0 g1.1).bind λ v3=>
  (zq5 a2 g1.1).bind λ v4=>
  gd (g1.2.length+1<=4294967296)<|
  some (.inl ((i64.wrap (g1.1+1)),(g1.2++[{aX.zero with kind:=1,aZ:=v3,n:=v4}])))
 else
  some (.inr g1.2))
def zL6(a0:List aG)(a1:Int)(a2:List Int):Option (aM×Bool):=
 (zq8 a0).bind λ v1=>
 (if(!decide (v1.2=0))=true then
  some (v1.1,false)
 else
  (zg8 (zR2 a1 a2) (0,[])).bind (λ z=>zau1 v1 z))
@[reducible,instance] def zdF9 a0 a1 a2 (v1:aM×Int):=mkJ (zL6 a0 a1 a2,v1) 0 (@zau1.eq_1 v1) λ(j1:(List aX))=>⟨[(6,.ptr 0 0 0),(8,.ptr 1 0 0),(10,.own 2 0 j1.length)],[(0,bx aM.zero),(1,bx v1.1),(2,sx j1)],3⟩
@[reducible,instance] def zdG0 a0 (a1:Int) (a2:List Int) (v1:aM×Int):=mkL (zL6 a0 a1 a2,v1) (@zR2.eq_1 a1 a2) λ(g1:Int×(List aX))=>⟨[(1,.int .i64 a1),(2,.sl (a2.map (eI .i64))),(6,.ptr 0 0 0),(8,.ptr 1 0 0),(10,.own 2 0 g1.2.length),(11,.int .i64 g1.1)],[(0,bx aM.zero),(1,bx v1.1),(2,sx g1.2)],3⟩
instance zaW4(a0:List aG)(a1:Int)(a2:List Int):OkP (zL6 a0 a1 a2) 6 [la a0,.int .i64 a1,.sl (a2.map (eI .i64))] (λ r=>.tup [ga r.1,.bool r.2]):=ok1 (zL6.eq_1 a0 a1 a2) Tryz.f6 [(10,1)]
attribute [local irreducible] zL6
def zl5(a0:aA):Option ((List aF)×(List aF)):=
 (zk3 a0).bind λ v1=>
 (if(!v1)=true then
  some ([],[])
 else
  (zz4 a0).bind λ v2=>
  some (v2.1,v2.2))
instance zap4(a0:aA):OkP (zl5 a0) 25 [ga a0] (λ r=>.tup [la r.1,la r.2]):=ok1 (zl5.eq_1 a0) Tryz.f25 []
attribute [local irreducible] zl5
def zu7(a0:aM):Option (List aF):=
 (zo4 a0).bind λ v1=>
 (zl5 v1).bind λ v2=>
 some v2.2
instance zaF5(a0:aM):OkP (zu7 a0) 15 [ga a0] (λ r=>la r):=ok1 (zu7.eq_1 a0) Tryz.f15 []
attribute [local irreducible] zu7
def zax3(j1:Unit):Option Bool:=
 some true
def zI8(a1:List aI)(v2:(List aF)×(List aF))(g1:Int):Option (Int⊕(Unit⊕Bool)):=
 (if(decide (g1<(a1.length:Int)))=true then
  gd (0<=g1/\g1<(a1.length:Int))<|
  (zh8 (a1.getD g1.toNat aI.zero)).bind λ v3=>
  ((if v3=true then ze2 v2.2 ((a1.getD g1.toNat aI.zero).aZ)else some false)).bind λ v4=>
  (if((!v3)||(!v4))=true then
   some (.inr (.inr false))
  else
   some (.inl (i64.wrap (g1+1))))
 else
  some (.inr (.inl ())))
def zI0(a0:aA)(a1:List aI):Option Bool:=
 (zk3 a0).bind λ v1=>
 (if((!v1)||decide (40<(a1.length:Int)))=true then
  some false
 else
  (zl5 a0).bind λ v2=>
  (zg8 (zI8 a1 v2) 0).bind (λ|.inl z=>zax3 z|.inr z=>some z))
@[reducible,instance] def zdG1 a0 a1 {T1:Type} (v1:T1) {T2:Type} (v2:T2):=mkJ ((zI0 a0 a1,v1),v2) 0 (@zax3.eq_1) λ(j1:Unit)=>⟨[],[],0⟩
@[reducible,instance] def zdG2 (a1:List aI) (v2:(List aF)×(List aF)) {T:Type} (x:T):=mkL x (@zI8.eq_1 a1 v2) λ(g1:Int)=>⟨[(6,la v2.2),(22,la a1),(23,.int .i64 (a1.length:Int)),(24,.int .i64 g1)],[],0⟩
instance zbd8(a0:aA)(a1:List aI):OkP (zI0 a0 a1) 24 [ga a0,la a1] (λ r=>.bool r):=ok1 (zI0.eq_1 a0 a1) Tryz.f24 []
attribute [local irreducible] zI0
def zI1(a0:aA)(a1:List aF):Option (aA×Int):=
 (zk3 a0).bind λ v1=>
 (if(!v1)=true then
  some ({aA.zero with},2)
 else
  (zz5 a0 a1).bind λ v2=>
  (zi5 v2).bind λ v3=>
  some (v3,0))
instance zaI3(a0:aA)(a1:List aF):OkP (zI1 a0 a1) 55 [ga a0,la a1] (λ r=>.tup [ga r.1,.int .i64 r.2]):=ok1 (zI1.eq_1 a0 a1) Tryz.f55 []
attribute [local irreducible] zI1
@[go_sem] theorem zcN0(q:IntKind)(l:List (Int×Bool)):pureEs (l.map (mI q eB))=true:=by
  induction l with
  |nil=>rfl
  |cons p l ih=>simp[pureEs,mI,eB,zk0,A.pure1]at ih⊢;exact ih
@[go_sem] theorem zdo0(q:IntKind)(k:Int)(v:Bool)(l:List (Int×Bool)):mins (.int q k) [A.bool v] (l.map (mI q eB))=(zaP0 k v l).map (mI q eB):=zcr1 q eB k v l
@[go_sem] theorem zdo1(o:Option Bool):mval false [A.bool false] (o.map eB)=A.bool (o.getD false):=by cases o<;>rfl
def zO9(a0:Int)(a1:aA)(a2:List aF)(a3:List (Int×Bool))(j1:(List aF)):Option (Bool×aA×(List aF)×(List (Int×Bool))):=
 (zI1 a1 j1).bind λ v2=>
 (if(decide (v2.2=0))=true then
  (zl5 v2.1).bind λ v3=>
  some ((decide ((v3.2.length:Int)=0)),a1,a2,zaP0 a0 (decide ((v3.2.length:Int)=0)) a3)
 else
  some (((zao2 a0 a3).getD false),a1,a2,zaP0 a0 ((zao2 a0 a3).getD false) a3))
@[go_sem] def zcy5(a0:Int)(a1:aA)(a2:List aF)(a3:List (Int×Bool))(j1:(List aF)):St:=⟨[(0,.int .i64 a0),(1,.ptr 0 0 0),(2,.ptr 1 0 0),(6,.bool ((zao2 a0 a3).getD false)),(8,.own 4 0 j1.length)],[(0,⟨false,1,[A.clo zF2 []],[[.mp 3]]⟩),(1,bx a1),(2,⟨false,1,[A.sl ([].map aF.enc)],[[A.sl (a2.map aF.enc)]]⟩),(3,⟨false,0,[A.int .i64 0,A.bool false],a3.map (mI .i64 eB)⟩),(4,sx j1)],5⟩
def zY4(a0:Int)(a2:List aF)(v1:(List aF))(g1:Int×(List aF)):Option ((Int×(List aF))⊕(List aF)):=
 (if(decide (g1.1<(v1.length:Int)))=true then
  gd (0<=g1.1/\g1.1<(v1.length:Int))<|
  (zk4 a2 (v1.getD g1.1.toNat aF.zero)).bind λ v4=>
  (if(decide (zn0 .and .i64 a0 v4=0))=true then
   gd (g1.2.length+1<=4294967296)<|
   some (.inl ((i64.wrap (g1.1+1)),(g1.2++[(v1.getD g1.1.toNat aF.zero)])))
  else
   some (.inl ((i64.wrap (g1.1+1)),g1.2)))
 else
  some (.inr g1.2))
@[go_sem] def zcy6(a0:Int)(a1:aA)(a2:List aF)(a3:List (Int×Bool))(v1:(List aF))(g1:Int×(List aF)):St:=⟨[(0,.int .i64 a0),(1,.ptr 0 0 0),(2,.ptr 1 0 0),(3,.ptr 2 0 0),(6,.bool ((zao2 a0 a3).getD false)),(8,.own 4 0 g1.2.length),(24,la v1),(25,.int .i64 (v1.length:Int)),(26,.int .i64 g1.1)],[(0,⟨false,1,[A.clo zF2 []],[[.mp 3]]⟩),(1,bx a1),(2,⟨false,1,[A.sl ([].map aF.enc)],[[A.sl (a2.map aF.enc)]]⟩),(3,⟨false,0,[A.int .i64 0,A.bool false],a3.map (mI .i64 eB)⟩),(4,sx g1.2)],5⟩
def zE8(a0:Int)(a1:aA)(a2:List aF)(a3:List (Int×Bool)):Option (Bool×aA×(List aF)×(List (Int×Bool))):=
 (if(!(zao2 a0 a3).isSome)=true then
  (zr8 a1).bind λ v1=>
  (zg8 (zY4 a0 a2 v1) (0,[])).bind (λ z=>zO9 a0 a1 a2 a3 z)
 else
  some (((zao2 a0 a3).getD false),a1,a2,a3))
theorem zaO4(a0:Int)(a1:aA)(a2:List aF)(a3:List (Int×Bool))(r:Bool×aA×(List aF)×(List (Int×Bool)))(h:zE8 a0 a1 a2 a3=some r):MFn C 53 [.int .i64 a0,.ptr 0 0 0,.ptr 1 0 0,.ptr 2 0 0] [(0,⟨false,1,[A.clo zF2 []],[[.mp 3]]⟩),(1,bx a1),(2,⟨false,1,[A.sl ([].map aF.enc)],[[A.sl (a2.map aF.enc)]]⟩),(3,⟨false,0,[A.int .i64 0,A.bool false],a3.map (mI .i64 eB)⟩)] 4 (.bool r.1) [(0,⟨false,1,[A.clo zF2 []],[[.mp 3]]⟩),(1,bx r.2.1),(2,⟨false,1,[A.sl ([].map aF.enc)],[[A.sl (r.2.2.1.map aF.enc)]]⟩),(3,⟨false,0,[A.int .i64 0,A.bool false],r.2.2.2.map (mI .i64 eB)⟩)] 4:=by
 refine zK4 Tryz.f53 [(8,1)] [.bool r.1] λ E hG hN hK=>?_;unfold zE8 at h;refine za2 (za3 hG ?_);refine za2 (za3 hG ?_);refine za2 (za2 (za3 hG ?_));refine zh3 rfl hG h (λ _ h=>?_) (λ _ h=>?_)
 · refine za2 (za3 hG ?_)
   refine za2 (za2 (za3 hG ?_));obtain⟨v1,hv1,h⟩:=zd2 h;refine zn1 (λ hg=>(zat5 a1).ok _ hv1) ?_;refine zs5 (zcy5 a0 a1 a2 a3) (λ v=>zO9 a0 a1 a2 a3 v=some r) ?_ ?_
   · intro j1 h
     unfold zO9 at h;refine g_st ?_;refine za2 (za2 (za3 hG ?_));obtain⟨v2,hv2,h⟩:=zd2 h;refine zn1 (λ hg=>(zaI3 a1 j1).ok _ hv2) ?_;refine za2 (za3 hG ?_);refine zh3 rfl hG h (λ _ h=>?_) (λ _ h=>?_)
     · refine za2 (za3 hG ?_)
       obtain⟨v3,hv3,h⟩:=zd2 h;refine zn1 (λ hg=>(zap4 v2.1).ok _ hv3) ?_;refine za3 hG ?_;refine za3 hG ?_;refine za2 (za3 hG ?_);refine zo3 ?_;exact zw8 [(0,0),(1,1),(2,2),(3,3)] h
     refine zh0 ?_;refine za3 hG ?_;refine za2 (za3 hG ?_);refine zo3 ?_;exact zw8 [(0,0),(1,1),(2,2),(3,3)] h
   refine zz0 (zcy6 a0 a1 a2 a3 v1) hK [(0,0),(1,1),(2,2),(3,3),(4,4)] h (λ x_l1 h g1 y_l1 h_l1 hx_l1=>?_);unfold zY4 at h_l1;refine g_st ?_;refine za2 (za3 hG ?_);refine za2 ?_;refine zh3 rfl hG h_l1 (λ _ h_l1=>?_) (λ _ h_l1=>?_)
   · refine zh0 ?_
     refine za2 (zr6 (za2 ?_));obtain⟨hb2,h_l1⟩:=ze5 h_l1;refine za3 hG ?_;refine za2 (za3 hG ?_);obtain⟨v4,hv4,h_l1⟩:=zd2 h_l1;refine zn1 (λ hg=>zay7 _ _ _ hv4) ?_;refine zh3 rfl hG h_l1 (λ _ h_l1=>?_) (λ _ h_l1=>?_)
     · obtain⟨hb1,h_l1⟩:=ze5 h_l1
       refine za3 hG ?_;refine za3 hG ?_;exact zy5 hK [(0,0),(1,1),(2,2),(3,3),(4,6)] h_l1
     refine zh0 ?_;refine za3 hG ?_;exact zy5 hK [(0,0),(1,1),(2,2),(3,3),(4,4)] h_l1
   refine zv7 ?_;cases h_l1;cases hx_l1 _ rfl;exact zs8 hK [(0,0),(1,1),(2,2),(3,3),(4,4)] g1.2 (by exact h)
 refine zh0 ?_;refine za2 (za3 hG ?_);refine zo3 ?_;exact zw8 [(0,0),(1,1),(2,2),(3,3)] h
attribute [local irreducible] zE8
def zax4(j1:Bool×aA):Option (aA⊕((List aF)×Int)):=
 (if(!j1.1)=true then
  (zr8 j1.2).bind λ v3=>
  some (.inr (v3,0))
 else
  some (.inl j1.2))
def zax5(a1:List aF)(g1:aA)(v2:(List aF))(g2:Int):Option (Int⊕(Bool×aA)):=
 (if(decide (g2<(v2.length:Int)))=true then
  gd (0<=g2/\g2<(v2.length:Int))<|
  (ze2 a1 (v2.getD g2.toNat aF.zero)).bind λ v4=>
  (if v4=true then
   some (.inl (i64.wrap (g2+1)))
  else
   (zM3 g1 (v2.getD g2.toNat aF.zero)).bind λ v5=>
   (if(decide (v5.2=0))=true then
    some (.inr (true,v5.1))
   else
    some (.inr (false,g1))))
 else
  some (.inr (false,g1)))
def zah4(a1:List aF)(g1:aA):Option (aA⊕((List aF)×Int)):=
 (zR1 g1).bind λ v2=>
 (zg8 (zax5 a1 g1 v2) 0).bind (λ z=>zax4 z)
def zah5(a0:aA)(a1:List aF):Option ((List aF)×Int):=
 (zk3 a0).bind λ v1=>
 (if(!v1)=true then
  some ([],2)
 else
  (zg8 (zah4 a1) a0).bind (λ z=>some z))
@[reducible,instance] def zdG3 (a1:List aF) g1 {T1:Type} (v2:T1):=mkJ (zah4 a1 g1,v2) 2 (@zax4.eq_1) λ(j1:Bool×aA)=>⟨[(1,la a1),(2,.ptr 0 0 0),(6,.bool j1.1)],[(0,bx j1.2)],1⟩
@[reducible,instance] def zdG4 (a1:List aF) (g1:aA) (v2:(List aF)) {T:Type} (x:T):=mkL x (@zax5.eq_1 a1 g1 v2) λ(g2:Int)=>⟨[(1,la a1),(2,.ptr 0 0 0),(6,.bool false),(15,la v2),(16,.int .i64 (v2.length:Int)),(17,.int .i64 g2)],[(0,bx g1)],1⟩
@[reducible,instance] def zdG5 (a1:List aF) {T:Type} (x:T):=mkL x (@zah4.eq_1 a1) λ(g1:aA)=>⟨[(1,la a1),(2,.ptr 0 0 0)],[(0,bx g1)],1⟩
instance zbU1(a0:aA)(a1:List aF):OkP (zah5 a0 a1) 59 [ga a0,la a1] (λ r=>.tup [la r.1,.int .i64 r.2]):=ok1 (zah5.eq_1 a0 a1) Tryz.f59 []
attribute [local irreducible] zah5
def zau2(j2:Unit):Option Bool:=
 some true
def zau3(j1:aA×(List aF))(v1:(List aF)×Int)(g1:Int):Option (Int⊕(Unit⊕Bool)):=
 (if(decide (g1<(v1.1.length:Int)))=true then
  gd (0<=g1/\g1<(v1.1.length:Int))<|
  (ze2 j1.2 (v1.1.getD g1.toNat aF.zero)).bind λ v2=>
  (if(!v2)=true then
   some (.inr (.inr false))
  else
   some (.inl (i64.wrap (g1+1))))
 else
  some (.inr (.inl ())))
def zac3(j1:aA×(List aF)):Option Bool:=
 (zah5 j1.1 j1.2).bind λ v1=>
 (if(!decide (v1.2=0))=true then
  some false
 else
  (zg8 (zau3 j1 v1) 0).bind (λ|.inl z=>zau2 z|.inr z=>some z))
def zM6(a1:List aI)(a2:List Int)(g2:Int×aA×(List aF)):Option ((Int×aA×(List aF))⊕((aA×(List aF))⊕Bool)):=
 (if(decide (g2.1<(a2.length:Int)))=true then
  gd (0<=g2.1/\g2.1<(a2.length:Int))<|
  gd (0<=a2.getD g2.1.toNat 0/\a2.getD g2.1.toNat 0<(a1.length:Int))<|
  (zy2 g2.2.1 (a1.getD ((a2.getD g2.1.toNat 0).toNat) aI.zero)).bind λ v3=>
  (if(!decide (v3.2=0))=true then
   some (.inr (.inr false))
  else
   gd (0<=a2.getD g2.1.toNat 0/\a2.getD g2.1.toNat 0<(a1.length:Int))<|
   gd (g2.2.2.length+1<=4294967296)<|
   some (.inl ((i64.wrap (g2.1+1)),v3.1,(g2.2.2++[(a1.getD ((a2.getD g2.1.toNat 0).toNat) aI.zero).aZ]))))
 else
  some (.inr (.inl (g2.2.1,g2.2.2))))
def zc4(a0:aA)(a1:List aI)(a2:List Int):Option Bool:=
 (zg8 (zM6 a1 a2) (0,a0,[])).bind (λ|.inl z=>zac3 z|.inr z=>some z)
@[reducible,instance] def zdG6 j1 {T1:Type} (v1:T1):=mkJ (zac3 j1,v1) 2 (@zau2.eq_1) λ(j2:Unit)=>⟨[],[],0⟩
@[reducible,instance] def zdG7 (j1:aA×(List aF)) (v1:(List aF)×Int) {T:Type} (x:T):=mkL x (@zau3.eq_1 j1 v1) λ(g1:Int)=>⟨[(7,.own 0 0 j1.2.length),(51,la v1.1),(52,.int .i64 (v1.1.length:Int)),(53,.int .i64 g1)],[(0,⟨true,3,aF.enc aF.zero,j1.2.map aF.enc⟩)],1⟩
@[reducible,instance] def zdG8 a0 a1 a2:=mkJ (zc4 a0 a1 a2) 0 (@zac3.eq_1) λ(j1:aA×(List aF))=>⟨[(3,.ptr 0 0 0),(7,.own 1 0 j1.2.length)],[(0,bx j1.1),(1,sx j1.2)],2⟩
@[reducible,instance] def zdG9 (a1:List aI) (a2:List Int) {T:Type} (x:T):=mkL x (@zM6.eq_1 a1 a2) λ(g2:Int×aA×(List aF))=>⟨[(1,la a1),(3,.ptr 0 0 0),(7,.own 1 0 g2.2.2.length),(16,.sl (a2.map (eI .i64))),(17,.int .i64 (a2.length:Int)),(18,.int .i64 g2.1)],[(0,bx g2.2.1),(1,sx g2.2.2)],2⟩
instance zba0(a0:aA)(a1:List aI)(a2:List Int):OkP (zc4 a0 a1 a2) 31 [ga a0,la a1,.sl (a2.map (eI .i64))] (λ r=>.bool r):=ok1 (zc4.eq_1 a0 a1 a2) Tryz.f31 [(7,1)]
attribute [local irreducible] zc4
def zac4(j1:Unit):Option (cA×Int):=
 some ({cA.zero with},10)
@[go_sem] def zcy7(j1:Unit):St:=⟨[(4,.ptr 0 0 0)],[(0,bx cA.zero)],1⟩
def zT3(v6:Bool×aA×(List aF)×(List (Int×Bool)))(j3:(List aD)):Option ((aA×(List aF)×(List (Int×Bool))×(List aD))⊕(Unit⊕(cA×Int))):=
 some (.inl (v6.2.1,v6.2.2.1,v6.2.2.2,j3))
@[go_sem] def zcy8(a0:aA)(a1:List aI)(v2:(List aF)×(List aF))(v6:Bool×aA×(List aF)×(List (Int×Bool)))(j3:(List aD)):St:=⟨[(1,la a1),(2,.ptr 0 0 0),(4,.ptr 1 0 0),(7,la v2.2),(8,.clo 53 [.ptr 2 0 0,.ptr 3 0 0,.ptr 4 0 0]),(9,.ptr 5 0 0)],[(0,bx a0),(1,bx cA.zero),(2,⟨false,1,[A.clo zF2 []],[[.mp 6]]⟩),(3,bx v6.2.1),(4,⟨false,1,[A.sl ([].map aF.enc)],[[A.sl (v6.2.2.1.map aF.enc)]]⟩),(5,⟨false,1,[A.sl ([].map aD.enc)],[[.own 7 0 j3.length]]⟩),(6,⟨false,0,[A.int .i64 0,A.bool false],v6.2.2.2.map (mI .i64 eB)⟩),(7,sx j3)],8⟩
def zH0(a1:List aI)(v2:(List aF)×(List aF))(v4:aD×(List aD))(j2:Int)(g2:Int×(List aD)):Option ((Int×(List aD))⊕(List aD)):=
 (if(decide (g2.1<(a1.length:Int)))=true then
  gd (0<=g2.1/\g2.1<(a1.length:Int))<|
  (zk4 v2.2 ((a1.getD g2.1.toNat aI.zero).aZ)).bind λ v9=>
  (if(decide (zn0 .and .i64 j2 v9=0))=true then
   gd (0<=g2.1/\g2.1<(a1.length:Int))<|
   gd (0<=g2.1)<|
   (zl2 (⟨(i64.wrap (v4.1.cost+(a1.getD g2.1.toNat aI.zero).cost)),zn0 .or .u64 v4.1.set (u64.wrap (1*2^(Nat.min g2.1.toNat u64.bits)))⟩:aD) g2.2).bind λ v10=>
   some (.inl ((i64.wrap (g2.1+1)),v10))
  else
   some (.inl ((i64.wrap (g2.1+1)),g2.2)))
 else
  some (.inr g2.2))
@[go_sem] def zcy9(a0:aA)(a1:List aI)(v2:(List aF)×(List aF))(v4:aD×(List aD))(j2:Int)(v6:Bool×aA×(List aF)×(List (Int×Bool)))(g2:Int×(List aD)):St:=⟨[(1,la a1),(2,.ptr 0 0 0),(4,.ptr 1 0 0),(7,la v2.2),(8,.clo 53 [.ptr 2 0 0,.ptr 3 0 0,.ptr 4 0 0]),(9,.ptr 5 0 0),(10,.ptr 6 0 0),(12,.int .i64 j2),(15,.int .i64 g2.1)],[(0,bx a0),(1,bx cA.zero),(2,⟨false,1,[A.clo zF2 []],[[.mp 7]]⟩),(3,bx v6.2.1),(4,⟨false,1,[A.sl ([].map aF.enc)],[[A.sl (v6.2.2.1.map aF.enc)]]⟩),(5,⟨false,1,[A.sl ([].map aD.enc)],[[.own 8 0 g2.2.length]]⟩),(6,bx v4.1),(7,⟨false,0,[A.int .i64 0,A.bool false],v6.2.2.2.map (mI .i64 eB)⟩),(8,sx g2.2)],9⟩
def zz6(a0:aA)(a1:List aI)(v2:(List aF)×(List aF))(g1:aA×(List aF)×(List (Int×Bool))×(List aD))(v4:aD×(List aD))(v5:(List Int))(j2:Int):Option ((aA×(List aF)×(List (Int×Bool))×(List aD))⊕(Unit⊕(cA×Int))):=
 (zE8 j2 g1.1 g1.2.1 g1.2.2.1).bind λ v6=>
 ((if v6.1=true then zc4 a0 a1 v5 else some false)).bind λ v7=>
 (if(v6.1&&v7)=true then
  some (.inr (.inr ((⟨v5,v4.1.cost⟩:cA),0)))
 else
  (zg4 v4.1.set).bind λ v8=>
  (zg8 (zH0 a1 v2 v4 j2) (v8,v4.2)).bind (λ z=>zT3 v6 z))
@[go_sem] def zcz0(a0:aA)(a1:List aI)(v2:(List aF)×(List aF))(g1:aA×(List aF)×(List (Int×Bool))×(List aD))(v4:aD×(List aD))(v5:(List Int))(j2:Int):St:=⟨[(1,la a1),(2,.ptr 0 0 0),(4,.ptr 1 0 0),(7,la v2.2),(8,.clo 53 [.ptr 2 0 0,.ptr 3 0 0,.ptr 4 0 0]),(9,.ptr 5 0 0),(10,.ptr 6 0 0),(11,.sl (v5.map (eI .i64))),(12,.int .i64 j2)],[(0,bx a0),(1,bx cA.zero),(2,⟨false,1,[A.clo zF2 []],[[.mp 7]]⟩),(3,bx g1.1),(4,⟨false,1,[A.sl ([].map aF.enc)],[[A.sl (g1.2.1.map aF.enc)]]⟩),(5,⟨false,1,[A.sl ([].map aD.enc)],[[.own 8 0 v4.2.length]]⟩),(6,bx v4.1),(7,⟨false,0,[A.int .i64 0,A.bool false],g1.2.2.1.map (mI .i64 eB)⟩),(8,sx v4.2)],9⟩
def zr0(a1:List aI)(v2:(List aF)×(List aF))(v5:(List Int))(g3:Int×Int):Option ((Int×Int)⊕Int):=
 (if(decide (g3.2<(v5.length:Int)))=true then
  gd (0<=g3.2/\g3.2<(v5.length:Int))<|
  gd (0<=v5.getD g3.2.toNat 0/\v5.getD g3.2.toNat 0<(a1.length:Int))<|
  (zk4 v2.2 ((a1.getD ((v5.getD g3.2.toNat 0).toNat) aI.zero).aZ)).bind λ v11=>
  some (.inl ((zn0 .or .i64 g3.1 v11),i64.wrap (g3.2+1)))
 else
  some (.inr g3.1))
@[go_sem] def zcz1(a0:aA)(a1:List aI)(v2:(List aF)×(List aF))(g1:aA×(List aF)×(List (Int×Bool))×(List aD))(v4:aD×(List aD))(v5:(List Int))(g3:Int×Int):St:=⟨[(1,la a1),(2,.ptr 0 0 0),(4,.ptr 1 0 0),(7,la v2.2),(8,.clo 53 [.ptr 2 0 0,.ptr 3 0 0,.ptr 4 0 0]),(9,.ptr 5 0 0),(10,.ptr 6 0 0),(11,.sl (v5.map (eI .i64))),(12,.int .i64 g3.1),(47,.sl (v5.map (eI .i64))),(48,.int .i64 (v5.length:Int)),(49,.int .i64 g3.2)],[(0,bx a0),(1,bx cA.zero),(2,⟨false,1,[A.clo zF2 []],[[.mp 7]]⟩),(3,bx g1.1),(4,⟨false,1,[A.sl ([].map aF.enc)],[[A.sl (g1.2.1.map aF.enc)]]⟩),(5,⟨false,1,[A.sl ([].map aD.enc)],[[.own 8 0 v4.2.length]]⟩),(6,bx v4.1),(7,⟨false,0,[A.int .i64 0,A.bool false],g1.2.2.1.map (mI .i64 eB)⟩),(8,sx v4.2)],9⟩
def zM7(a0:aA)(a1:List aI)(v2:(List aF)×(List aF))(g1:aA×(List aF)×(List (Int×Bool))×(List aD)):Option ((aA×(List aF)×(List (Int×Bool))×(List aD))⊕(Unit⊕(cA×Int))):=
 (if(decide (0<zG3 g1.2.2.2))=true then
  (zl4 g1.2.2.2).bind λ v4=>
  (zd8 v4.1).bind λ v5=>
  (zg8 (zr0 a1 v2 v5) (0,0)).bind (λ z=>zz6 a0 a1 v2 g1 v4 v5 z)
 else
  some (.inr (.inl ())))
@[go_sem] def zcz2(a0:aA)(a1:List aI)(v2:(List aF)×(List aF))(g1:aA×(List aF)×(List (Int×Bool))×(List aD)):St:=⟨[(1,la a1),(2,.ptr 0 0 0),(4,.ptr 1 0 0),(7,la v2.2),(8,.clo 53 [.ptr 2 0 0,.ptr 3 0 0,.ptr 4 0 0]),(9,.ptr 5 0 0)],[(0,bx a0),(1,bx cA.zero),(2,⟨false,1,[A.clo zF2 []],[[.mp 6]]⟩),(3,bx g1.1),(4,⟨false,1,[A.sl ([].map aF.enc)],[[A.sl (g1.2.1.map aF.enc)]]⟩),(5,⟨false,1,[A.sl ([].map aD.enc)],[[.own 7 0 g1.2.2.2.length]]⟩),(6,⟨false,0,[A.int .i64 0,A.bool false],g1.2.2.1.map (mI .i64 eB)⟩),(7,sx g1.2.2.2)],8⟩
def zz8(a0:aA)(a1:List aI):Option (cA×Int):=
 (zI0 a0 a1).bind λ v1=>
 (if(!v1)=true then
  some ({cA.zero with},2)
 else
  (zl5 a0).bind λ v2=>
  (if(decide ((v2.2.length:Int)=0))=true then
   some ({cA.zero with},14)
  else
   (zj2 a0 v2.2).bind λ v3=>
   (zg8 (zM7 a0 a1 v2) (v3.1,v3.2.1,v3.2.2,[{aD.zero with}])).bind (λ|.inl z=>zac4 z|.inr z=>some z)))
theorem zaD0(a0:aA)(a1:List aI)(r:cA×Int)(h:zz8 a0 a1=some r):PFn C 12 [ga a0,la a1] (.tup [ga r.1,.int .i64 r.2]):=by
 refine zx6 Tryz.f12 [(34,1),(65,1)] λ E hG hN hK=>?_;unfold zz8 at h;refine za2 (za3 hG ?_);refine za2 (za2 (za3 hG ?_));obtain⟨v1,hv1,h⟩:=zd2 h;refine zn1 (λ hg=>(zbd8 a0 a1).ok _ hv1) ?_;refine zh3 rfl hG h (λ _ h=>?_) (λ _ h=>?_)
 · refine za2 (za3 hG ?_)
   refine zo3 ?_;exact zt5 h
 refine zh0 ?_;refine za2 (za3 hG ?_);obtain⟨v2,hv2,h⟩:=zd2 h;refine zn1 (λ hg=>(zap4 a0).ok _ hv2) ?_;refine za2 (za2 (za3 hG ?_));refine zh3 rfl hG h (λ _ h=>?_) (λ _ h=>?_)
 · refine za2 (za3 hG ?_)
   refine zo3 ?_;exact zt5 h
 refine zh0 ?_;refine za2 (za3 hG ?_);obtain⟨v3,hv3,h⟩:=zd2 h;refine zs2 [] [(0,2),(1,3),(2,4),(3,5)] [0,1,2,3] (zaV9 _ _ _ hv3) rfl rfl ?_;refine za2 (za3 hG ?_);refine za2 ?_;refine zs5 zcy7 (λ v=>zac4 v=some r) ?_ ?_
 · intro j1 h
   unfold zac4 at h;refine g_st ?_;refine za2 (za3 hG ?_);refine zo3 ?_;exact zt5 h
 refine zz0 (zcz2 a0 a1 v2) hK [(0,0),(1,1),(2,2),(3,3),(4,4),(5,7),(6,5),(7,6)] h (λ x_l1 h g1 y_l1 h_l1 hx_l1=>?_);unfold zM7 at h_l1;refine g_st ?_;refine za2 (za2 (za3 hG ?_));refine zn1 (λ hg=>(zaF1 g1.2.2.2).ok) ?_;refine zh3 rfl hG h_l1 (λ _ h_l1=>?_) (λ _ h_l1=>?_)
 · refine zh0 ?_
   refine zr6 (za2 (za3 hG ?_));obtain⟨v4,hv4,h_l1⟩:=zd2 h_l1;refine zs2 [(0,5),(1,7)] [] [0,1] ((zay9 g1.2.2.2).ok _ hv4) rfl rfl ?_;refine za2 (za3 hG ?_);obtain⟨v5,hv5,h_l1⟩:=zd2 h_l1;refine zn1 (λ hg=>(zaq0 v4.1).ok _ hv5) ?_;refine za2 (za3 hG ?_);refine za2 (za2 (za3 hG ?_));refine zs5 (zcz0 a0 a1 v2 g1 v4 v5) (λ v=>zz6 a0 a1 v2 g1 v4 v5 v=some y_l1) ?_ ?_
   · intro j2 h_l1
     unfold zz6 at h_l1;refine g_st ?_;refine za2 (za2 (za3 hG ?_));obtain⟨v6,hv6,h_l1⟩:=zd2 h_l1;refine zs2 [(0,2),(1,3),(2,4),(3,7)] [] [0,1,2,3] (zaO4 _ _ _ _ _ hv6) rfl rfl ?_;obtain⟨v7,hv7,h_l1⟩:=zd2 h_l1;refine zn1 (λ hg=>(zba0 a0 a1 v5).ok _ (zar3 hg hv7)) ?_;refine zh3 rfl hG h_l1 (λ _ h_l1=>?_) (λ _ h_l1=>?_)
     · refine za2 (za3 hG ?_)
       refine zo3 ?_;cases h_l1;cases hx_l1 _ rfl;exact zt5 h
     refine zh0 ?_;refine za2 (za3 hG ?_);obtain⟨v8,hv8,h_l1⟩:=zd2 h_l1;refine zn1 (λ hg=>zas3 _ _ hv8) ?_;refine zs5 (zcy8 a0 a1 v2 v6) (λ v=>zT3 v6 v=some y_l1) ?_ ?_
     · intro j3 h_l1
       unfold zT3 at h_l1;refine g_st ?_;exact zy5 hK [(0,0),(1,1),(2,2),(3,3),(4,4),(5,5),(6,6),(7,7)] h_l1
     refine zz0 (zcy9 a0 a1 v2 v4 j2 v6) hK [(0,0),(1,1),(2,2),(3,3),(4,4),(5,5),(6,6),(7,7),(8,8)] h_l1 (λ x_l2 h_l1 g2 y_l2 h_l2 hx_l2=>?_);unfold zH0 at h_l2;refine g_st ?_;refine za2 (za2 (za3 hG ?_));refine zh3 rfl hG h_l2 (λ _ h_l2=>?_) (λ _ h_l2=>?_)
     · refine zh0 ?_
       refine za2 (zr6 (za2 ?_));obtain⟨hb3,h_l2⟩:=ze5 h_l2;refine za3 hG ?_;obtain⟨v9,hv9,h_l2⟩:=zd2 h_l2;refine zn1 (λ hg=>zay7 _ _ _ hv9) ?_;refine zh3 rfl hG h_l2 (λ _ h_l2=>?_) (λ _ h_l2=>?_)
       · obtain⟨hb1,h_l2⟩:=ze5 h_l2
         obtain⟨hb2,h_l2⟩:=ze5 h_l2;refine zP1 zv9 hG ?_;obtain⟨v10,hv10,h_l2⟩:=zd2 h_l2;refine zar4 [(0,5),(1,8)] [(2,9)] [0,1,2] (zau9 _ _ _ hv10) rfl rfl ?_;refine za3 hG ?_;exact zy5 hK [(0,0),(1,1),(2,2),(3,3),(4,4),(5,5),(6,6),(7,7),(8,9)] h_l2
       refine zh0 ?_;refine za3 hG ?_;exact zy5 hK [(0,0),(1,1),(2,2),(3,3),(4,4),(5,5),(6,6),(7,7),(8,8)] h_l2
     refine zv7 ?_;obtain rfl:=dP h_l2;have hx:=hx_l2 _ rfl;subst hx
     try dsimp only at h_l1
     exact zs8 hK [(0,0),(1,1),(2,2),(3,3),(4,4),(5,5),(6,7),(7,8)] g2.2 (by exact h_l1)
   refine zz0 (zcz1 a0 a1 v2 g1 v4 v5) hK [(0,0),(1,1),(2,2),(3,3),(4,4),(5,5),(6,8),(7,6),(8,7)] h_l1 (λ x_l3 h_l1 g3 y_l3 h_l3 hx_l3=>?_);unfold zr0 at h_l3;refine g_st ?_;refine za2 (za3 hG ?_);refine za2 ?_;refine zh3 rfl hG h_l3 (λ _ h_l3=>?_) (λ _ h_l3=>?_)
   · refine zh0 ?_
     refine za2 (zr6 (za2 ?_));obtain⟨hb5,h_l3⟩:=ze5 h_l3;refine za3 hG ?_;obtain⟨hb4,h_l3⟩:=ze5 h_l3;refine za3 hG ?_;obtain⟨v11,hv11,h_l3⟩:=zd2 h_l3;refine zn1 (λ hg=>zay7 _ _ _ hv11) ?_;refine za3 hG ?_;exact zy5 hK [(0,0),(1,1),(2,2),(3,3),(4,4),(5,5),(6,6),(7,7),(8,8)] h_l3
   refine zv7 ?_;obtain rfl:=dP h_l3;have hx:=hx_l3 _ rfl;subst hx
   try dsimp only at h_l1
   exact zs8 hK [(0,0),(1,1),(2,2),(3,3),(4,4),(5,5),(6,6),(7,7),(8,8)] g3.1 (by exact h_l1)
 refine zv7 ?_;cases h_l1;cases hx_l1 _ rfl;exact zs8 hK [(0,1)] () (by exact h)
instance zbN0(a0:aA)(a1:List aI):OkP (zz8 a0 a1) 12 [ga a0,la a1] (λ r=>.tup [ga r.1,.int .i64 r.2]):=⟨zaD0 a0 a1⟩
attribute [local irreducible] zz8
def zax6(a0:bN)(j1:Unit):Option Bool:=
 (zN3 a0).bind λ v1=>
 (if(!v1.2)=true then
  some false
 else
  (zl5 v1.1).bind λ v2=>
  some (decide ((v2.2.length:Int)=0)))
def zax7(g1:Int)(j2:Unit):Option (Int⊕(Unit⊕Bool)):=
 some (.inl (i64.wrap (g1+1)))
def zax8(a0:bN)(g1 g2:Int):Option (Int⊕(Unit⊕Bool)):=
 (if(decide (g2<((((a0.sites.getD g1.toNat bE.zero).owner).jobs).length:Int)))=true then
  gd (0<=g2/\g2<((((a0.sites.getD g1.toNat bE.zero).owner).jobs).length:Int))<|
  (if(!decide (((((a0.sites.getD g1.toNat bE.zero).owner).jobs).getD g2.toNat Job.zero).pending=0))=true then
   some (.inr (.inr false))
  else
   some (.inl (i64.wrap (g2+1))))
 else
  some (.inr (.inl ())))
def zah6(a0:bN)(g1:Int):Option (Int⊕(Unit⊕Bool)):=
 (if(decide (g1<(a0.sites.length:Int)))=true then
  gd (0<=g1/\g1<(a0.sites.length:Int))<|
  (if(!(a0.sites.getD g1.toNat bE.zero).up)=true then
   some (.inr (.inr false))
  else
   (zg8 (zax8 a0 g1) 0).bind (λ|.inl z=>zax7 g1 z|.inr z=>some (.inr (.inr z))))
 else
  some (.inr (.inl ())))
def zY5(a0:bN):Option Bool:=
 (zg8 (zah6 a0) 0).bind (λ|.inl z=>zax6 a0 z|.inr z=>some z)
@[reducible,instance] def zdH0 (a0:bN):=mkJ (zY5 a0) 0 (@zax6.eq_1 a0) λ(j1:Unit)=>⟨[(1,.ptr 0 0 0)],[(0,bx a0)],1⟩
@[reducible,instance] def zdH1 (a0:bN) (g1:Int):=mkJ (zah6 a0 g1) 2 (@zax7.eq_1 g1) λ(j2:Unit)=>⟨[(1,.ptr 0 0 0),(12,la a0.sites),(13,.int .i64 (a0.sites.length:Int)),(14,.int .i64 g1)],[(0,bx a0)],1⟩
@[reducible,instance] def zdH2 (a0:bN) (g1:Int) {T:Type} (x:T):=mkL x (@zax8.eq_1 a0 g1) λ(g2:Int)=>⟨[(1,.ptr 0 0 0),(12,la a0.sites),(13,.int .i64 (a0.sites.length:Int)),(14,.int .i64 g1),(23,la (((a0.sites.getD g1.toNat bE.zero).owner).jobs)),(24,.int .i64 ((((a0.sites.getD g1.toNat bE.zero).owner).jobs).length:Int)),(25,.int .i64 g2)],[(0,bx a0)],1⟩
@[reducible,instance] def zdH3 (a0:bN) {T:Type} (x:T):=mkL x (@zah6.eq_1 a0) λ(g1:Int)=>⟨[(1,.ptr 0 0 0),(12,la a0.sites),(13,.int .i64 (a0.sites.length:Int)),(14,.int .i64 g1)],[(0,bx a0)],1⟩
instance zbU2(a0:bN):OkP (zY5 a0) 20 [ga a0] (λ r=>.bool r):=ok1 (zY5.eq_1 a0) Tryz.f20 []
attribute [local irreducible] zY5
def zP0:Option Bool:=
 (zj8 2).bind λ v1=>
 (zL6 v1 2 [4,2]).bind λ v2=>
 (if(!v2.2)=true then
  some false
 else
  (zl3 0 (zw1 (⟨#[97]⟩:ByteArray) 5)).bind λ v3=>
  (zl3 1 (zw1 (⟨#[98]⟩:ByteArray) 5)).bind λ v4=>
  (zl3 0 (zw1 (⟨#[98]⟩:ByteArray) 5)).bind λ v5=>
  (zl3 1 (zw1 (⟨#[97]⟩:ByteArray) 5)).bind λ v6=>
  (zY3 v2.1 [v3,v4,v5,v6]).bind λ v7=>
  (zu7 v7.1).bind λ v8=>
  (zo4 v7.1).bind λ v9=>
  (zy1 v7.1 v8).bind λ v10=>
  (zz8 v9 v10).bind λ v11=>
  (zj8 2).bind λ v12=>
  (zD7 v12 2).bind λ v13=>
  ((if((((((v7.2&&decide ((v8.length:Int)=2))&&decide (v11.2=0))&&decide ((v11.1.options.length:Int)=1))&&decide (v11.1.cost=6))&&decide (v13.2=0))&&decide ((v13.1.sites.length:Int)=2))=true then zY5 v13.1 else some false)).bind λ v14=>
  some (((((((v7.2&&decide ((v8.length:Int)=2))&&decide (v11.2=0))&&decide ((v11.1.options.length:Int)=1))&&decide (v11.1.cost=6))&&decide (v13.2=0))&&decide ((v13.1.sites.length:Int)=2))&&v14))
instance zaW5:OkP zP0 5 [] (λ r=>.bool r):=⟨λ r h=>by
 refine zx6 Tryz.f5 [] λ E hG hN hK=>?_;have hm:Mk zP0:=trivial;unfold zP0 at h;refine za2 (za3 hG ?_);refine za2 (za3 hG ?_);obtain⟨v1,hv1,h⟩:=zd2 h;have hm:=mkP hm v1;refine zn1 (λ hg=>(zaW1 2).ok _ hv1) ?_;obtain⟨v2,hv2,h⟩:=zd2 h;have hm:=mkP hm v2;refine zn1 (λ hg=>PFn.unfull ((zaW4 v1 2 [4,2]).ok _ hv2)) ?_;refine za2 (za2 (za3 hG ?_));refine zh3 rfl hG h (λ _ h=>?_) (λ _ h=>?_)
 .exact gogo
 refine zh0 ?_;refine za2 (zP1 zv9 hG ?_);refine zx8 (λ hg=>zW1 (⟨#[97]⟩:ByteArray) 5) ?_;obtain⟨v3,hv3,h⟩:=zd2 h;have hm:=mkP hm v3;refine zx8 (λ hg=>(zQ8 0 (zw1 (⟨#[97]⟩:ByteArray) 5)).ok _ hv3) ?_;refine zx8 (λ hg=>zW1 (⟨#[98]⟩:ByteArray) 5) ?_;obtain⟨v4,hv4,h⟩:=zd2 h;have hm:=mkP hm v4;refine zx8 (λ hg=>(zQ8 1 (zw1 (⟨#[98]⟩:ByteArray) 5)).ok _ hv4) ?_;refine zx8 (λ hg=>zW1 (⟨#[98]⟩:ByteArray) 5) ?_;obtain⟨v5,hv5,h⟩:=zd2 h;have hm:=mkP hm v5;refine zx8 (λ hg=>(zQ8 0 (zw1 (⟨#[98]⟩:ByteArray) 5)).ok _ hv5) ?_;refine zx8 (λ hg=>zW1 (⟨#[97]⟩:ByteArray) 5) ?_;obtain⟨v6,hv6,h⟩:=zd2 h;have hm:=mkP hm v6;refine zx8 (λ hg=>(zQ8 1 (zw1 (⟨#[97]⟩:ByteArray) 5)).ok _ hv6) ?_;obtain⟨v7,hv7,h⟩:=zd2 h;have hm:=mkP hm v7;refine zx8 (λ hg=>PFn.unfull ((zaZ9 v2.1 [v3,v4,v5,v6]).ok _ hv7)) ?_;exact gogo⟩
attribute [local irreducible] zP0
def zap5(j1:(List aF)):Option ((List aF)×Int):=
 some (j1,0)
def zap6(a0:aA)(a1:aF)(v2:(List aF)×(List aF))(g1:(List aF)×Int):Option (((List aF)×Int)⊕(List aF)):=
 (if(decide (g1.2<(v2.2.length:Int)))=true then
  gd (0<=g1.2/\g1.2<(v2.2.length:Int))<|
  (zd7 (v2.2.getD g1.2.toNat aF.zero) a1).bind λ v5=>
  ((if(!(decide (v5=0)))=true then ze2 g1.1 (v2.2.getD g1.2.toNat aF.zero)else some false)).bind λ v6=>
  (if(decide (v5=0)||(!v6))=true then
   some (.inl (g1.1,i64.wrap (g1.2+1)))
  else
   (zj4 g1.1 (v2.2.getD g1.2.toNat aF.zero)).bind λ v7=>
   (zz5 a0 v7).bind λ v8=>
   (zz4 v8).bind λ v9=>
   (ze2 v9.2 a1).bind λ v10=>
   (if v10=true then
    some (.inl (v9.2,i64.wrap (g1.2+1)))
   else
    some (.inl (g1.1,i64.wrap (g1.2+1)))))
 else
  some (.inr g1.1))
def zv8(a0:aA)(a1:aF):Option ((List aF)×Int):=
 (zk3 a0).bind λ v1=>
 (if(!v1)=true then
  some ([],2)
 else
  (zz4 a0).bind λ v2=>
  (ze2 v2.2 a1).bind λ v3=>
  (if(!v3)=true then
   some ([],14)
  else
   (zb8 v2.2).bind λ v4=>
   (zg8 (zap6 a0 a1 v2) (v4,0)).bind (λ z=>zap5 z)))
@[reducible,instance] def zdH4 a0 a1 {T1:Type} (v1:T1) {T2:Type} (v2:T2) {T3:Type} (v3:T3) {T4:Type} (v4:T4):=mkJ ((((zv8 a0 a1,v1),v2),v3),v4) 0 (@zap5.eq_1) λ(j1:(List aF))=>⟨[(8,la j1)],[],0⟩
@[reducible,instance] def zdH5 (a0:aA) (a1:aF) (v2:(List aF)×(List aF)) {T:Type} (x:T):=mkL x (@zap6.eq_1 a0 a1 v2) λ(g1:(List aF)×Int)=>⟨[(2,.ptr 0 0 0),(3,.ptr 1 0 0),(7,la v2.2),(8,la g1.1),(28,.int .i64 (v2.2.length:Int)),(29,.int .i64 g1.2)],[(0,bx a0),(1,bx a1)],2⟩
instance zaW6(a0:aA)(a1:aF):OkP (zv8 a0 a1) 17 [ga a0,ga a1] (λ r=>.tup [la r.1,.int .i64 r.2]):=ok1 (zv8.eq_1 a0 a1) Tryz.f17 []
attribute [local irreducible] zv8
def zZ1(a0:Int)(v3:aM×Bool)(j1:Int×(List aX))(j2:(List aX)):Option Bool:=
 gd (0<=0/\0<=i64.wrap (i64.wrap (2*a0)-1)/\i64.wrap (i64.wrap (2*a0)-1)<=((j2.length:Nat):Int))<|
 (zY3 v3.1 ((j2.drop 0).take ((i64.wrap (i64.wrap (2*a0)-1)).toNat))).bind λ v4=>
 ((if v4.2=true then zu7 v4.1 else some [])).bind λ v5=>
 (if((!v4.2)||(!decide ((v5.length:Int)=0)))=true then
  some false
 else
  gd (0<=i64.wrap (i64.wrap (2*a0)-1)/\i64.wrap (i64.wrap (2*a0)-1)<=((j2.length:Nat):Int)/\((j2.length:Nat):Int)<=((j2.length:Nat):Int))<|
  (zY3 v4.1 ((j2.drop ((i64.wrap (i64.wrap (2*a0)-1)).toNat)).take (j2.length-(i64.wrap (i64.wrap (2*a0)-1)).toNat))).bind λ v6=>
  (if(!v6.2)=true then
   some false
  else
   (zo4 v6.1).bind λ v7=>
   (zq0 0).bind λ v8=>
   (zv8 v7 v8).bind λ v9=>
   (zu7 v6.1).bind λ v10=>
   (zy1 v6.1 v10).bind λ v11=>
   (zz8 v7 v11).bind λ v12=>
   (zP0).bind λ v13=>
   ((if v13=true then zu7 v6.1 else some [])).bind λ v14=>
   some ((((((v13&&decide ((v14.length:Int)=a0))&&decide (v9.2=0))&&decide ((v9.1.length:Int)=a0))&&decide (v12.2=0))&&decide ((v12.1.options.length:Int)=1))&&decide (v12.1.cost=i64.wrap (2*j1.1)))))
@[go_sem] def zcz3(a0:Int)(v3:aM×Bool)(j1:Int×(List aX))(j2:(List aX)):St:=⟨[(0,.int .i64 a0),(5,.ptr 0 0 0),(7,.own 1 0 j2.length),(8,.int .i64 j1.1)],[(0,bx v3.1),(1,sx j2)],2⟩
def zy3(a0:Int)(g1:Int×(List aX)):Option ((Int×(List aX))⊕(List aX)):=
 (if(decide (g1.1<a0))=true then
  gd (a0≠0)<|
  (zl3 g1.1 (zw1 (zG7 ((i64.wrap (g1.1+1)).tmod a0)) 5)).bind λ v15=>
  gd (g1.2.length+1<=4294967296)<|
  some (.inl ((i64.wrap (g1.1+1)),(g1.2++[v15])))
 else
  some (.inr g1.2))
@[go_sem] def zcz4(a0:Int)(v3:aM×Bool)(j1 g1:Int×(List aX)):St:=⟨[(0,.int .i64 a0),(5,.ptr 0 0 0),(7,.own 1 0 g1.2.length),(8,.int .i64 j1.1),(10,.int .i64 g1.1)],[(0,bx v3.1),(1,sx g1.2)],2⟩
def zZ2(a0:Int)(v3:aM×Bool)(j1:Int×(List aX)):Option Bool:=
 (zg8 (zy3 a0) (0,j1.2)).bind (λ z=>zZ1 a0 v3 j1 z)
@[go_sem] def zcz5(a0:Int)(v3:aM×Bool)(j1:Int×(List aX)):St:=⟨[(0,.int .i64 a0),(5,.ptr 0 0 0),(7,.own 1 0 j1.2.length),(8,.int .i64 j1.1)],[(0,bx v3.1),(1,sx j1.2)],2⟩
def zL9(a0:Int)(a1:List Int)(g2:Int×Int×(List aX)):Option ((Int×Int×(List aX))⊕(Int×(List aX))):=
 (if(decide (g2.2.1<a0))=true then
  (zl3 g2.2.1 (zw1 (zG7 g2.2.1) 5)).bind λ v16=>
  gd (g2.2.2.length+1<=4294967296)<|
  (zq5 a1 g2.2.1).bind λ v17=>
  some (.inl ((if v17<g2.1 then v17 else g2.1),i64.wrap (g2.2.1+1),(g2.2.2++[v16])))
 else
  some (.inr (g2.1,g2.2.2)))
@[go_sem] def zcz6(a0:Int)(a1:List Int)(v3:aM×Bool)(g2:Int×Int×(List aX)):St:=⟨[(0,.int .i64 a0),(1,.sl (a1.map (eI .i64))),(5,.ptr 0 0 0),(7,.own 1 0 g2.2.2.length),(8,.int .i64 g2.1),(9,.int .i64 g2.2.1)],[(0,bx v3.1),(1,sx g2.2.2)],2⟩
def zP6(a0:Int)(a1:List Int):Option Bool:=
 (if(decide (a0<2)||decide (8<a0))=true then
  (zP0).bind λ v1=>
  some v1
 else
  (zj8 a0).bind λ v2=>
  (zL6 v2 a0 a1).bind λ v3=>
  (if(!v3.2)=true then
   some false
  else
   (zg8 (zL9 a0 a1) (1000,0,[])).bind (λ z=>zZ2 a0 v3 z)))
theorem zbl8(a0:Int)(a1:List Int)(r:Bool)(h:zP6 a0 a1=some r):PFn C 4 [.int .i64 a0,.sl (a1.map (eI .i64))] (.bool r):=by
 refine zx6 Tryz.f4 [(7,1)] λ E hG hN hK=>?_;unfold zP6 at h;refine za2 (za3 hG ?_);refine za2 (za2 (za3 hG ?_));refine zh3 rfl hG h (λ _ h=>?_) (λ _ h=>?_)
 · refine za2 (za3 hG ?_)
   obtain⟨v1,hv1,h⟩:=zd2 h;refine zn1 (λ hg=>(zaW5).ok _ hv1) ?_;refine zo3 ?_;exact zt5 h
 refine zh0 ?_;refine za2 (za3 hG ?_);obtain⟨v2,hv2,h⟩:=zd2 h;refine zn1 (λ hg=>(zaW1 a0).ok _ hv2) ?_;obtain⟨v3,hv3,h⟩:=zd2 h;refine zn1 (λ hg=>(zaW4 v2 a0 a1).ok _ hv3) ?_;refine za2 (za2 (za3 hG ?_));refine zh3 rfl hG h (λ _ h=>?_) (λ _ h=>?_)
 · refine za2 (za3 hG ?_)
   refine zo3 ?_;exact zt5 h
 refine zh0 ?_;refine za2 (za3 hG ?_);refine za2 (za3 hG ?_);refine za2 (za2 (za3 hG ?_));refine zs5 (zcz5 a0 v3) (λ v=>zZ2 a0 v3 v=some r) ?_ ?_
 · intro j1 h
   unfold zZ2 at h;refine g_st ?_;refine za2 (za2 (za3 hG ?_));refine zs5 (zcz3 a0 v3 j1) (λ v=>zZ1 a0 v3 j1 v=some r) ?_ ?_
   · intro j2 h
     unfold zZ1 at h;refine g_st ?_;refine za2 ?_;obtain⟨hb2,h⟩:=ze5 h;refine zP1 zv9 hG ?_;obtain⟨v4,hv4,h⟩:=zd2 h;refine zx8 (λ hg=>(zaZ9 v3.1 ((j2.drop 0).take ((i64.wrap (i64.wrap (2*a0)-1)).toNat))).ok _ hv4) ?_ (ho:=by intro;omega);refine za2 (za2 (za3 hG ?_));obtain⟨v5,hv5,h⟩:=zd2 h;refine zn1 (λ hg=>(zaF5 v4.1).ok _ (zar3 hg hv5)) ?_;refine zh3 rfl hG h (λ _ h=>?_) (λ _ h=>?_)
     · refine za2 (za3 hG ?_)
       refine zo3 ?_;exact zt5 h
     refine zh0 ?_;refine za2 ?_;obtain⟨hb1,h⟩:=ze5 h;refine zP1 zv9 hG ?_;obtain⟨v6,hv6,h⟩:=zd2 h;refine zx8 (λ hg=>(zaZ9 v4.1 ((j2.drop ((i64.wrap (i64.wrap (2*a0)-1)).toNat)).take (j2.length-(i64.wrap (i64.wrap (2*a0)-1)).toNat))).ok _ hv6) ?_ (ho:=by intro;omega);refine za2 (za2 (za3 hG ?_));refine zh3 rfl hG h (λ _ h=>?_) (λ _ h=>?_)
     · refine za2 (za3 hG ?_)
       refine zo3 ?_;exact zt5 h
     refine zh0 ?_;refine za2 (za3 hG ?_);obtain⟨v7,hv7,h⟩:=zd2 h;refine zn1 (λ hg=>(zbd7 v6.1).ok _ hv7) ?_;refine za2 (zaj5 zv9 hG ?_);obtain⟨v8,hv8,h⟩:=zd2 h;refine zD0 (λ hg=>(zaW2 0).ok _ hv8) ?_;obtain⟨v9,hv9,h⟩:=zd2 h;refine zD0 (λ hg=>(zaW6 v7 v8).ok _ hv9) ?_;refine za2 (zP1 zv9 hG ?_);obtain⟨v10,hv10,h⟩:=zd2 h;refine zx8 (λ hg=>(zaF5 v6.1).ok _ hv10) ?_;obtain⟨v11,hv11,h⟩:=zd2 h;refine zx8 (λ hg=>(zbl4 v6.1 v10).ok _ hv11) ?_;obtain⟨v12,hv12,h⟩:=zd2 h;refine zx8 (λ hg=>zaD0 _ _ _ hv12) ?_;refine za2 (za3 hG ?_);obtain⟨v13,hv13,h⟩:=zd2 h;refine zn1 (λ hg=>(zaW5).ok _ hv13) ?_;obtain⟨v14,hv14,h⟩:=zd2 h;refine zn1 (λ hg=>(zaF5 v6.1).ok _ (zar3 hg hv14)) ?_;refine zo3 ?_;exact zt5 h
   refine zz0 (zcz4 a0 v3 j1) hK [(0,0),(1,1)] h (λ x_l1 h g1 y_l1 h_l1 hx_l1=>?_);unfold zy3 at h_l1;refine g_st ?_;refine za2 (za2 (za3 hG ?_));refine zh3 rfl hG h_l1 (λ _ h_l1=>?_) (λ _ h_l1=>?_)
   · refine zh0 ?_
     refine za2 (zr6 ?_);obtain⟨hb4,h_l1⟩:=ze5 h_l1;refine za3 hG ?_;refine zn1 (λ hg=>zaK0 ((i64.wrap (g1.1+1)).tmod a0)) ?_;refine zn1 (λ hg=>zW1 (zG7 ((i64.wrap (g1.1+1)).tmod a0)) 5) ?_;obtain⟨v15,hv15,h_l1⟩:=zd2 h_l1;obtain⟨hb3,h_l1⟩:=ze5 h_l1;refine zn1 (λ hg=>(zQ8 g1.1 (zw1 (zG7 ((i64.wrap (g1.1+1)).tmod a0)) 5)).ok _ hv15) ?_;refine za3 hG ?_;exact zy5 hK [(0,0),(1,2)] h_l1
   refine zv7 ?_;cases h_l1;cases hx_l1 _ rfl;exact zs8 hK [(0,0),(1,1)] g1.2 (by exact h)
 refine zz0 (zcz6 a0 a1 v3) hK [(0,0),(1,1)] h (λ x_l2 h g2 y_l2 h_l2 hx_l2=>?_);unfold zL9 at h_l2;refine g_st ?_;refine za2 (za2 (za3 hG ?_));refine zh3 rfl hG h_l2 (λ _ h_l2=>?_) (λ _ h_l2=>?_)
 · refine zh0 ?_
   refine za2 (zr6 (za2 (za3 hG ?_)));refine zn1 (λ hg=>zaK0 g2.2.1) ?_;refine zn1 (λ hg=>zW1 (zG7 g2.2.1) 5) ?_;obtain⟨v16,hv16,h_l2⟩:=zd2 h_l2;obtain⟨hb5,h_l2⟩:=ze5 h_l2;refine zn1 (λ hg=>(zQ8 g2.2.1 (zw1 (zG7 g2.2.1) 5)).ok _ hv16) ?_;refine za3 hG ?_;obtain⟨v17,hv17,h_l2⟩:=zd2 h_l2;refine zn1 (λ hg=>(zbC2 a1 g2.2.1).ok _ hv17) ?_;refine za3 hG ?_;exact zy5 hK [(0,0),(1,2)] h_l2
 refine zv7 ?_;cases h_l2;cases hx_l2 _ rfl;exact zs8 hK [(0,0),(1,1)] (g2.1,g2.2.2) (by exact h)
attribute [local irreducible] zP6
def zaa3(a0:Int)(v4:aM×Bool)(j3:Int×Int):Option Bool:=
 (zo4 v4.1).bind λ v5=>
 (zu7 v4.1).bind λ v6=>
 (zy1 v4.1 v6).bind λ v7=>
 (zz8 v5 v7).bind λ v8=>
 (zP0).bind λ v9=>
 ((if v9=true then zu7 v4.1 else some [])).bind λ v10=>
 some ((((v9&&decide ((v10.length:Int)=a0))&&decide (v8.2=0))&&decide ((v8.1.options.length:Int)=i64.wrap (a0-1)))&&decide (v8.1.cost=i64.wrap (j3.1-j3.2)))
def zE9(a0:Int)(a1:List Int)(g1:Int×Int×Int):Option ((Int×Int×Int)⊕(Int×Int)):=
 (if(decide (g1.2.2<a0))=true then
  (zq5 a1 g1.2.2).bind λ v11=>
  (zq5 a1 g1.2.2).bind λ v12=>
  some (.inl ((i64.wrap (g1.1+i64.wrap (2*v11))),(if g1.2.1<(i64.wrap (2*v12))then(i64.wrap (2*v12))else g1.2.1),i64.wrap (g1.2.2+1)))
 else
  some (.inr (g1.1,g1.2.1)))
def zJ8(a0:Int)(a1:List Int)(v3:aM×Bool)(j2:(List aX)):Option Bool:=
 (if(!v3.2)=true then
  some false
 else
  (zY3 v3.1 j2).bind λ v4=>
  (if(!v4.2)=true then
   some false
  else
   (zg8 (zE9 a0 a1) (0,0,0)).bind (λ z=>zaa3 a0 v4 z)))
def zF0(a0:Int)(g2:Int×(List aX)):Option ((Int×(List aX))⊕(List aX)):=
 (if(decide (g2.1<a0))=true then
  (zl3 g2.1 (zw1 (⟨#[97]⟩:ByteArray) 5)).bind λ v13=>
  gd (g2.2.length+1<=4294967296)<|
  some (.inl ((i64.wrap (g2.1+1)),(g2.2++[v13])))
 else
  some (.inr g2.2))
def zJ9(a0:Int)(a1:List Int)(v3:aM×Bool)(j1:(List aX)):Option Bool:=
 (zg8 (zF0 a0) (0,j1)).bind (λ z=>zJ8 a0 a1 v3 z)
def zF1(a0:Int)(g3:Int×(List aX)):Option ((Int×(List aX))⊕(List aX)):=
 (if(decide (g3.1<a0))=true then
  (zl3 g3.1 (zw1 (⟨#[97]⟩:ByteArray) 3)).bind λ v14=>
  gd (g3.2.length+1<=4294967296)<|
  some (.inl ((i64.wrap (g3.1+1)),(g3.2++[v14])))
 else
  some (.inr g3.2))
def zA2(a0:Int)(a1:List Int):Option Bool:=
 (if(decide (a0<2)||decide (8<a0))=true then
  (zP0).bind λ v1=>
  some v1
 else
  (zj8 1).bind λ v2=>
  (zL6 v2 a0 a1).bind λ v3=>
  (zg8 (zF1 a0) (0,[])).bind (λ z=>zJ9 a0 a1 v3 z))
@[reducible,instance] def zdH6 (a0:Int) a1 v3 j2 (v4:aM×Bool):=mkJ (zJ8 a0 a1 v3 j2,v4) 4 (@zaa3.eq_1 a0 v4) λ(j3:Int×Int)=>⟨[(0,.int .i64 a0),(5,.ptr 0 0 0),(8,.int .i64 j3.1),(9,.int .i64 j3.2)],[(0,bx v4.1)],1⟩
@[reducible,instance] def zdH7 (a0:Int) (a1:List Int) v3 j2 (v4:aM×Bool):=mkL (zJ8 a0 a1 v3 j2,v4) (@zE9.eq_1 a0 a1) λ(g1:Int×Int×Int)=>⟨[(0,.int .i64 a0),(1,.sl (a1.map (eI .i64))),(5,.ptr 0 0 0),(8,.int .i64 g1.1),(9,.int .i64 g1.2.1),(12,.int .i64 g1.2.2)],[(0,bx v4.1)],1⟩
@[reducible,instance] def zdH8 (a0:Int) (a1:List Int) (v3:aM×Bool) j1:=mkJ (zJ9 a0 a1 v3 j1) 2 (@zJ8.eq_1 a0 a1 v3) λ(j2:(List aX))=>⟨[(0,.int .i64 a0),(1,.sl (a1.map (eI .i64))),(5,.ptr 0 0 0),(6,.bool v3.2),(7,.own 1 0 j2.length),(8,.int .i64 0),(9,.int .i64 0)],[(0,bx v3.1),(1,sx j2)],2⟩
@[reducible,instance] def zdH9 (a0:Int) (a1:List Int) (v3:aM×Bool) j1:=mkL (zJ9 a0 a1 v3 j1) (@zF0.eq_1 a0) λ(g2:Int×(List aX))=>⟨[(0,.int .i64 a0),(1,.sl (a1.map (eI .i64))),(5,.ptr 0 0 0),(6,.bool v3.2),(7,.own 1 0 g2.2.length),(8,.int .i64 0),(9,.int .i64 0),(11,.int .i64 g2.1)],[(0,bx v3.1),(1,sx g2.2)],2⟩
@[reducible,instance] def zdI0 (a0:Int) (a1:List Int) {T1:Type} (v2:T1) (v3:aM×Bool):=mkJ ((zA2 a0 a1,v2),v3) 0 (@zJ9.eq_1 a0 a1 v3) λ(j1:(List aX))=>⟨[(0,.int .i64 a0),(1,.sl (a1.map (eI .i64))),(5,.ptr 0 0 0),(6,.bool v3.2),(7,.own 1 0 j1.length),(8,.int .i64 0),(9,.int .i64 0)],[(0,bx v3.1),(1,sx j1)],2⟩
@[reducible,instance] def zdI1 (a0:Int) (a1:List Int) {T1:Type} (v2:T1) (v3:aM×Bool):=mkL ((zA2 a0 a1,v2),v3) (@zF1.eq_1 a0) λ(g3:Int×(List aX))=>⟨[(0,.int .i64 a0),(1,.sl (a1.map (eI .i64))),(5,.ptr 0 0 0),(6,.bool v3.2),(7,.own 1 0 g3.2.length),(8,.int .i64 0),(9,.int .i64 0),(10,.int .i64 g3.1)],[(0,bx v3.1),(1,sx g3.2)],2⟩
instance zaW7(a0:Int)(a1:List Int):OkP (zA2 a0 a1) 3 [.int .i64 a0,.sl (a1.map (eI .i64))] (λ r=>.bool r):=ok1 (zA2.eq_1 a0 a1) Tryz.f3 [(7,1)]
attribute [local irreducible] zA2
end
end Ab
end Go.Proofs.YtamndckemppjdaaGreatDoor
