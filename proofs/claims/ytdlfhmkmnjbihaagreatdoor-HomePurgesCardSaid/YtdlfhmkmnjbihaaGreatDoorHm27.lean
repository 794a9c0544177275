import Derived.Test.YtdlfhmkmnjbihaaGreatDoorHm22
import Derived.Test.YtdlfhmkmnjbihaaGreatDoorHm25
import Derived.Test.YtdlfhmkmnjbihaaGreatDoorHm26
namespace Go.Proofs.YtdlfhmkmnjbihaaGreatDoor
namespace Ab
open IntKind (i64 u64 u8)
set_option linter.unusedSimpArgs false
set_option linter.defProp false
set_option linter.unusedVariables false
set_option maxRecDepth 100000
set_option maxHeartbeats 1000000
noncomputable section
attribute [local irreducible] zk2 zd1 za7 zd5 zd8 za4 zo7 ze9 zl8 zi1 zc1 zk8 zh8 zd4 zk5 za2 zf9 zc9 zf7 za3 zh5 zc5 zc7 zf6 zk9 zd9 zm9 zh3 zf0 zh1 zd7 za5 ze0 zc8 zd2 zl5 ze1 zo2 zb3 zj1 zj0 ze8 zp1 zi2 zk6 zh0 zc2 zb7 zb9 zj3 zg6 zi3 zf1 zi5 ze6 zg0 zm7 zl0 zf2 za9 za8 zf3 zg7 zb4 zp2 zm8 zc3 zj4 zj8 zf4 zn5 zh2 zg2 zg3 zl6 zj6 zg4 zn8 zg8 zh9 zi6 zn9 zc6 zg5 ze4 zf5 zo0 zn3 zl4 zu5 zq3 zn1 zi0 zp7 zq1 zo8 zn0 zo9 zp0 zi7 zj7 zs6 zc4 zi8 zi9 zh6 zh7 zo4 zo5 zn7 zi4 zt4 zj9 zq9 zk4 zs7 zr8 zp9 zr2 zr3 zr4 zy9 zt6 zq0 zq4 zp8 zv3 zs8 zr1 zb5 zn6 zn2 zk7 zt5 zr9 zs9 zw9 zo1 zx2 zC6 zv5 zD9 zs0 zq5 zx0 zv8 zq6 zv9 zt7 zz4 zN4 zz5 zP8 zT1 zT2 zJ2 zz1 zx3 zC7 zA1 zB8 zB9 zH0 zz2 zz3 zC8 zV0 zr7 zI6 zF4 zJ3 zF5 zF6 zF7 zJ4 zF8 zF9 zG0 zz6 zJ5 zx4 zC0 zC9 zv4 zC1 zJ6 zL2 zL3 zO3 zJ7 zL4 zG1
def zV1(a0:List aA)(a1:aF)(a2:bF)(a3:Int):Option ((List aA)×(List aS)×Int):=
 (zV0 a0 a2.name).bind λ v1=>
 (if(!decide (v1.2=0))=true then
  some ([],[],v1.2)
 else
  (zx3 a0).bind λ v2=>
  (zi9 v2 a1).bind λ v3=>
  (if((!v3)&&decide (8<=(v2.length:Int)))=true then
   some ([],[],4)
  else
   gd (0<=v1.1/\v1.1<(a0.length:Int))<|
   (zJ3 (a0.getD v1.1.toNat aA.zero) a1 a2.aK a3).bind λ v4=>
   (if(!decide (v4.2.2=0))=true then
    some ([],[],v4.2.2)
   else
    (zc9 a0 v1.1 v4.1).bind λ v5=>
    (zf7 a2.name v4.2.1).bind λ v6=>
    some (v5,v6,0))))
instance zdd3(a0:List aA)(a1:aF)(a2:bF)(a3:Int):OkP (zV1 a0 a1 a2 a3) 91 [la a0,ga a1,ga a2,.int .i64 a3] (λ r=>.tup [la r.1,la r.2.1,.int .i64 r.2.2]):=ok1 (zV1.eq_1 a0 a1 a2 a3) Tryz.f91 []
attribute [local irreducible] zV1
def zal3(a0:aX)(a1:aJ)(v1:(List aA)×(List aS)×Int)(j1:Bool×aC):Option (aX×(List aW)×(List aS)×Int):=
 (zj8 a0.tags v1.2.1 a1.aI).bind λ v3=>
 gd (1+v3.length<=4294967296)<|
 (zr8 a0.tags (⟨a1.aI,a1.aY.name,a1.gen⟩:bA)).bind λ v4=>
 some ((⟨v1.1,v4⟩:aX),([(zr0 a1 j1.2 (!j1.1))]++v3),v1.2.1,0)
def zU3(a0:aX)(a1:aJ):Option (aX×(List aW)×(List aS)×Int):=
 (zV1 a0.aG a1.aI a1.aY a1.aV).bind λ v1=>
 (if(!decide (v1.2.2=0))=true then
  some ({aX.zero with},[],[],v1.2.2)
 else
  (zj3 v1.1 a1.aY.name).bind λ v2=>
  (if(decide (0<=v2))=true then
   gd (0<=v2/\v2<(v1.1.length:Int))<|
   (zj4 (v1.1.getD v2.toNat aA.zero) a1.aI).bind λ v5=>
   gd (0<=v2/\v2<(v1.1.length:Int))<|
   (zn6 (v1.1.getD v2.toNat aA.zero) a1.aI).bind λ v6=>
   zal3 a0 a1 v1 (v6.2,v5)
  else
   zal3 a0 a1 v1 (false,aC.zero)))
@[reducible,instance] def zdZ3 (a0:aX) (a1:aJ) (v1:(List aA)×(List aS)×Int) {T1:Type} (v2:T1):=mkJ ((zU3 a0 a1,v1),v2) 999 (@zal3.eq_1 a0 a1 v1) λ(j1:Bool×aC)=>⟨[(2,.ptr 0 0 0),(3,.ptr 1 0 0),(4,.ptr 2 0 0),(8,la v1.1),(9,la v1.2.1),(11,.ptr 3 0 0),(12,.bool j1.1)],[(0,bx a0),(1,bx a1),(2,bx aX.zero),(3,bx j1.2)],4⟩
instance zdj3(a0:aX)(a1:aJ):OkP (zU3 a0 a1) 51 [ga a0,ga a1] (λ r=>.tup [ga r.1,la r.2.1,la r.2.2.1,.int .i64 r.2.2.2]):=ok1 (zU3.eq_1 a0 a1) Tryz.f51 [(62,1)]
attribute [local irreducible] zU3
def zQ0(a0:List aA)(a1:aF)(a2:ByteArray):Option ((List aA)×(List aS)×Int):=
 (zV0 a0 a2).bind λ v1=>
 (if(!decide (v1.2=0))=true then
  some ([],[],v1.2)
 else
  gd (0<=v1.1/\v1.1<(a0.length:Int))<|
  (zF6 (a0.getD v1.1.toNat aA.zero) a1).bind λ v2=>
  (if(!decide (v2.2.2=0))=true then
   some ([],[],v2.2.2)
  else
   (zc9 a0 v1.1 v2.1).bind λ v3=>
   (zf7 a2 v2.2.1).bind λ v4=>
   some (v3,v4,0)))
instance zbE4(a0:List aA)(a1:aF)(a2:ByteArray):OkP (zQ0 a0 a1 a2) 99 [la a0,ga a1,.str a2] (λ r=>.tup [la r.1,la r.2.1,.int .i64 r.2.2]):=ok1 (zQ0.eq_1 a0 a1 a2) Tryz.f99 []
attribute [local irreducible] zQ0
def zV2(a0:List aA)(a1:aF)(a2:bF):Option ((List aA)×(List aS)×Int):=
 (zV0 a0 a2.name).bind λ v1=>
 (if(!decide (v1.2=0))=true then
  some ([],[],v1.2)
 else
  gd (0<=v1.1/\v1.1<(a0.length:Int))<|
  (zJ4 (a0.getD v1.1.toNat aA.zero) a1 a2.aK).bind λ v2=>
  (if(!decide (v2.2.2=0))=true then
   some ([],[],v2.2.2)
  else
   gd (0<=v1.1/\v1.1<(a0.length:Int))<|
   (zj4 (a0.getD v1.1.toNat aA.zero) a1).bind λ v3=>
   (if(decide (a2.aK=v3))=true then
    (zc9 a0 v1.1 v2.1).bind λ v4=>
    some (v4,[],0)
   else
    (zc9 a0 v1.1 v2.1).bind λ v5=>
    (ze0 a2.name v2.2.1 [(zaB2 a1 a2.name a2.aK)]).bind λ v6=>
    some (v5,v6,0))))
instance zbO8(a0:List aA)(a1:aF)(a2:bF):OkP (zV2 a0 a1 a2) 100 [la a0,ga a1,ga a2] (λ r=>.tup [la r.1,la r.2.1,.int .i64 r.2.2]):=ok1 (zV2.eq_1 a0 a1 a2) Tryz.f100 [(64,1)]
attribute [local irreducible] zV2
def zI8(a0:aX)(a1:aJ)(v1:Int)(j2:(List aA)×(List aS)):Option (aX×(List aW)×(List aS)×Int):=
 gd (0<=v1/\v1<(j2.1.length:Int))<|
 (zz1 (j2.1.getD v1.toNat aA.zero)).bind λ v5=>
 (zi9 v5 a1.aI).bind λ v6=>
 (ze4 a0.tags (!v6) ({bA.zero with aI:=a1.aI,name:=a1.aY.name})).bind λ v7=>
 gd (0<=v1/\v1<(j2.1.length:Int))<|
 (zj4 (j2.1.getD v1.toNat aA.zero) a1.aI).bind λ v8=>
 (zj8 a0.tags j2.2 a1.aI).bind λ v9=>
 gd (1+v9.length<=4294967296)<|
 some ((⟨j2.1,v7.1⟩:aX),([(zr0 a1 v8 true)]++v9),j2.2,0)
@[go_sem] def zdy1(a0:aX)(a1:aJ)(v1:Int)(j2:(List aA)×(List aS)):St:=⟨[(2,.ptr 0 0 0),(3,.ptr 1 0 0),(4,.ptr 2 0 0),(8,.int .i64 v1),(9,la j2.1),(10,.own 3 0 j2.2.length)],[(0,bx a0),(1,bx a1),(2,bx aX.zero),(3,sx j2.2)],4⟩
def zI9(a0:aX)(a1:aJ)(v1:Int)(j1:(List aA)×(List aS)):Option (aX×(List aW)×(List aS)×Int):=
 (zV2 j1.1 a1.aI a1.aY).bind λ v4=>
 (if(decide (v4.2.2=0))=true then
  gd (j1.2.length+v4.2.1.length<=4294967296)<|
  zI8 a0 a1 v1 (v4.1,(j1.2++v4.2.1))
 else
  zI8 a0 a1 v1 (j1.1,j1.2))
@[go_sem] def zdy2(a0:aX)(a1:aJ)(v1:Int)(j1:(List aA)×(List aS)):St:=⟨[(2,.ptr 0 0 0),(3,.ptr 1 0 0),(4,.ptr 2 0 0),(8,.int .i64 v1),(9,la j1.1),(10,.own 3 0 j1.2.length)],[(0,bx a0),(1,bx a1),(2,bx aX.zero),(3,sx j1.2)],4⟩
def zH1(a0:aX)(a1:aJ):Option (aX×(List aW)×(List aS)×Int):=
 (zj3 a0.aG a1.aY.name).bind λ v1=>
 (if(decide (v1<0))=true then
  some ({aX.zero with},[],[],10)
 else
  (zn8 a0.aG).bind λ v2=>
  gd (0<=v1/\v1<(v2.length:Int))<|
  (zn6 (v2.getD v1.toNat aA.zero) a1.aI).bind λ v3=>
  (if v3.2=true then
   (zQ0 v2 a1.aI a1.aY.name).bind λ v10=>
   (if(!decide (v10.2.2=0))=true then
    some ({aX.zero with},[],[],v10.2.2)
   else
    gd (v10.2.1.length<=4294967296)<|
    zI9 a0 a1 v1 (v10.1,v10.2.1))
  else
   zI9 a0 a1 v1 (v2,[])))
theorem zbv6(a0:aX)(a1:aJ)(r:aX×(List aW)×(List aS)×Int)(h:zH1 a0 a1=some r):PFn C 52 [ga a0,ga a1] (.tup [ga r.1,la r.2.1,la r.2.2.1,.int .i64 r.2.2.2]):=by
 refine zW0 Tryz.f52 [(10,1),(109,1)] λ E hG hN hK=>?_;unfold zH1 at h;refine za0 (za1 hG ?_);refine za0 (za1 hG ?_);obtain⟨v1,hv1,h⟩:=zb8 h;refine zm4 (λ hg=>(zbW8 a0.aG a1.aY.name).ok _ hv1) ?_;refine za0 (za0 (za1 hG ?_));refine ze5 rfl hG h (λ _ h=>?_) (λ _ h=>?_)
 · refine za0 (za1 hG ?_)
   refine zm2 ?_;exact zt1 h
 refine ze2 ?_;refine za0 (za1 hG ?_);obtain⟨v2,hv2,h⟩:=zb8 h;refine zm4 (λ hg=>(zbX0 a0.aG).ok _ hv2) ?_;refine za0 (za1 hG ?_);refine za0 (za0 ?_);obtain⟨hb6,h⟩:=ze3 h;refine zai3 zC5 hG ?_;obtain⟨v3,hv3,h⟩:=zb8 h;refine zH5 (λ hg=>(zaz3 (v2.getD v1.toNat aA.zero) a1.aI).ok _ hv3) ?_;refine za0 (za1 hG ?_);refine zak2 (zdy2 a0 a1 v1) (λ v=>zI9 a0 a1 v1 v=some r) rfl hG h ?_ (λ _ h=>?_) (λ _ h=>?_)
 · intro j1 h
   unfold zI9 at h;refine g_st ?_;refine za0 (za0 (za1 hG ?_));obtain⟨v4,hv4,h⟩:=zb8 h;refine zm4 (λ hg=>(zbO8 j1.1 a1.aI a1.aY).ok _ hv4) ?_;refine za0 (za1 hG ?_);refine zak2 (zdy1 a0 a1 v1) (λ v=>zI8 a0 a1 v1 v=some r) rfl hG h ?_ (λ _ h=>?_) (λ _ h=>?_)
   · intro j2 h
     unfold zI8 at h;refine g_st ?_;refine za0 ?_;obtain⟨hb3,h⟩:=ze3 h;refine zai3 zC5 hG ?_;obtain⟨v5,hv5,h⟩:=zb8 h;refine zH5 (λ hg=>(zaZ9 (j2.1.getD v1.toNat aA.zero)).ok _ hv5) ?_;obtain⟨v6,hv6,h⟩:=zb8 h;refine zH5 (λ hg=>(zaM8 v5 a1.aI).ok _ hv6) ?_;refine za0 (za1 hG ?_);refine za0 (za1 hG ?_);obtain⟨v7,hv7,h⟩:=zb8 h;refine zp6 [(0,4),(1,5)] [] [0,1] ((zbh2 a0.tags (!v6) ({bA.zero with aI:=a1.aI,name:=a1.aY.name})).ok _ hv7) rfl rfl ?_;refine za0 ?_;obtain⟨hb2,h⟩:=ze3 h;refine zai3 zC5 hG ?_;obtain⟨v8,hv8,h⟩:=zb8 h;refine zH5 (λ hg=>(zaK1 (j2.1.getD v1.toNat aA.zero) a1.aI).ok _ hv8) ?_;refine zH5 (λ hg=>(zbN5 a1 v8 true).ok) ?_;refine za0 (za1 hG ?_);obtain⟨v9,hv9,h⟩:=zb8 h;obtain⟨hb1,h⟩:=ze3 h;refine zm4 (λ hg=>(zaY8 a0.tags j2.2 a1.aI).ok _ hv9) ?_;refine za0 (za1 hG ?_);refine zm2 ?_;exact zt1 h
   · refine za0 (za1 hG ?_)
     obtain⟨hb4,h⟩:=ze3 h;refine za1 hG ?_;exact zs2 hK [(0,0),(1,1),(2,2),(3,4)] (v4.1,(j1.2++v4.2.1)) (by exact h)
   refine ze2 ?_;exact zs2 hK [(0,0),(1,1),(2,2),(3,3)] (j1.1,j1.2) (by exact h)
 · refine za0 (za1 hG ?_)
   obtain⟨v10,hv10,h⟩:=zb8 h;refine zm4 (λ hg=>(zbE4 v2 a1.aI a1.aY.name).ok _ hv10) ?_;refine za0 (za0 (za1 hG ?_));refine ze5 rfl hG h (λ _ h=>?_) (λ _ h=>?_)
   · refine za0 (za1 hG ?_)
     refine zm2 ?_;exact zt1 h
   refine ze2 ?_;refine za0 (za1 hG ?_);obtain⟨hb5,h⟩:=ze3 h;refine za1 hG ?_;exact zs2 hK [(0,0),(1,1),(2,2),(3,5)] (v10.1,v10.2.1) (by exact h)
 refine ze2 ?_;exact zs2 hK [(0,0),(1,1),(2,2),(3,3)] (v2,[]) (by exact h)
instance zcH9(a0:aX)(a1:aJ):OkP (zH1 a0 a1) 52 [ga a0,ga a1] (λ r=>.tup [ga r.1,la r.2.1,la r.2.2.1,.int .i64 r.2.2.2]):=⟨zbv6 a0 a1⟩
attribute [local irreducible] zH1
def zaO0(j1:(List aA)×(List aS)):Option ((List aA)×(List aS)):=
 some (j1.1,j1.2)
def zah4(a1 a2:Int)(v3:(List aF))(g1:(List aA)×Int×(List aS)):Option (((List aA)×Int×(List aS))⊕((List aA)×(List aS))):=
 (if(decide (g1.2.1<(v3.length:Int)))=true then
  gd (0<=g1.2.1/\g1.2.1<(v3.length:Int))<|
  (if((!decide ((v3.getD g1.2.1.toNat aF.zero).site=a1))||decide (a2<=(v3.getD g1.2.1.toNat aF.zero).inc))=true then
   some (.inl (g1.1,i64.wrap (g1.2.1+1),g1.2.2))
  else
   (zG0 g1.1 (v3.getD g1.2.1.toNat aF.zero)).bind λ v4=>
   gd (g1.2.2.length+v4.2.length<=4294967296)<|
   some (.inl (v4.1,i64.wrap (g1.2.1+1),(g1.2.2++v4.2))))
 else
  some (.inr (g1.1,g1.2.2)))
def zO4(a0:List aA)(a1 a2:Int):Option ((List aA)×(List aS)):=
 (zz3 a0).bind λ v1=>
 (if(!v1)=true then
  some ([],[])
 else
  (zc9 a0 (-1) ({aA.zero with})).bind λ v2=>
  (zx3 a0).bind λ v3=>
  (zc0 (zah4 a1 a2 v3) (v2,0,[])).bind (λ z=>zaO0 z))
@[reducible,instance] def zdZ4 a0 a1 a2 {T1:Type} (v1:T1) {T2:Type} (v2:T2) {T3:Type} (v3:T3):=mkJ (((zO4 a0 a1 a2,v1),v2),v3) 0 (@zaO0.eq_1) λ(j1:(List aA)×(List aS))=>⟨[(8,la j1.1),(9,.own 0 0 j1.2.length)],[(0,sx j1.2)],1⟩
@[reducible,instance] def zdZ5 (a1 a2:Int) (v3:(List aF)) {T:Type} (x:T):=mkL x (@zah4.eq_1 a1 a2 v3) λ(g1:(List aA)×Int×(List aS))=>⟨[(1,.int .i64 a1),(2,.int .i64 a2),(8,la g1.1),(9,.own 0 0 g1.2.2.length),(21,la v3),(22,.int .i64 (v3.length:Int)),(23,.int .i64 g1.2.1)],[(0,sx g1.2.2)],1⟩
instance zbO9(a0:List aA)(a1 a2:Int):OkP (zO4 a0 a1 a2) 104 [la a0,.int .i64 a1,.int .i64 a2] (λ r=>.tup [la r.1,la r.2]):=ok1 (zO4.eq_1 a0 a1 a2) Tryz.f104 [(9,1)]
attribute [local irreducible] zO4
def zU4(a0:aX)(a1:aJ):Option (aX×(List aW)×(List aS)×Int):=
 (zO4 a0.aG a1.site a1.inc).bind λ v1=>
 (zx3 v1.1).bind λ v2=>
 (zq6 a0.tags v2).bind λ v3=>
 (zj8 a0.tags v1.2 ({aF.zero with})).bind λ v4=>
 some ((⟨v1.1,v3.1⟩:aX),v4,v1.2,0)
theorem zbX5(a0:aX)(a1:aJ)(r:aX×(List aW)×(List aS)×Int)(h:zU4 a0 a1=some r):PFn C 53 [ga a0,ga a1] (.tup [ga r.1,la r.2.1,la r.2.2.1,.int .i64 r.2.2.2]):=by refine zW0 Tryz.f53 [] λ E hG hN hK=>?_;unfold zU4 at h;refine za0 (za1 hG ?_);refine za0 (za1 hG ?_);obtain⟨v1,hv1,h⟩:=zb8 h;refine zm4 (λ hg=>(zbO9 a0.aG a1.site a1.inc).ok _ hv1) ?_;refine za0 (za1 hG ?_);obtain⟨v2,hv2,h⟩:=zb8 h;refine zm4 (λ hg=>(zbO1 v1.1).ok _ hv2) ?_;refine za0 (za1 hG ?_);obtain⟨v3,hv3,h⟩:=zb8 h;refine zp6 [(0,3)] [] [0] ((zaZ8 a0.tags v2).ok _ hv3) rfl rfl ?_;refine za0 (za1 hG ?_);obtain⟨v4,hv4,h⟩:=zb8 h;refine zm4 (λ hg=>(zaY8 a0.tags v1.2 ({aF.zero with})).ok _ hv4) ?_;refine zm2 ?_;exact zt1 h
instance zdd4(a0:aX)(a1:aJ):OkP (zU4 a0 a1) 53 [ga a0,ga a1] (λ r=>.tup [ga r.1,la r.2.1,la r.2.2.1,.int .i64 r.2.2.2]):=⟨zbX5 a0 a1⟩
attribute [local irreducible] zU4
def zz0(a0:aX)(a1:aJ):Option (aX×(List aW)×(List aS)×Int):=
 (zC8 a0).bind λ v1=>
 (if(!v1)=true then
  some ({aX.zero with},[],[],2)
 else
  (zC7 a1).bind λ v2=>
  (if(!v2)=true then
   some ({aX.zero with},[],[],1)
  else
   (if(decide (a1.kind=1))=true then
    (zU3 a0 a1).bind λ v3=>
    some (v3.1,v3.2.1,v3.2.2.1,v3.2.2.2)
   else
    (if(decide (a1.kind=2))=true then
     (zH1 a0 a1).bind λ v4=>
     some (v4.1,v4.2.1,v4.2.2.1,v4.2.2.2)
    else
     (if(decide (a1.kind=5))=true then
      (zU4 a0 a1).bind λ v5=>
      some (v5.1,v5.2.1,v5.2.2.1,v5.2.2.2)
     else
      some ({aX.zero with},[],[],1))))))
instance zbq8(a0:aX)(a1:aJ):OkP (zz0 a0 a1) 17 [ga a0,ga a1] (λ r=>.tup [ga r.1,la r.2.1,la r.2.2.1,.int .i64 r.2.2.2]):=ok1 (zz0.eq_1 a0 a1) Tryz.f17 []
attribute [local irreducible] zz0
def zw0:Option Bool:=
 (zP8 zY1 1).bind λ v1=>
 (zz0 v1.1 (zO2 (⟨0,1,1⟩:aF) 1 5)).bind λ v2=>
 (zz0 v2.1 (zO2 (⟨1,1,1⟩:aF) 4 3)).bind λ v3=>
 (zz0 v3.1 ({aJ.zero with kind:=2,aI:=(⟨0,1,1⟩:aF),gen:=2,aY:={bF.zero with name:=(⟨#[97]⟩:ByteArray)}})).bind λ v4=>
 (if((((((((!decide (v1.2=0))||(!decide (v2.2.2.2=0)))||(!decide (v3.2.2.2=0)))||(!decide (v4.2.2.2=0)))||(!decide ((v2.2.1.length:Int)=1)))||(!decide ((v3.2.1.length:Int)=1)))||(!decide ((v4.2.1.length:Int)=2)))||(!decide ((v4.2.2.1.length:Int)=2)))=true then
  some false
 else
  gd (0<=0/\0<(v2.2.1.length:Int))<|
  gd (((v2.2.1.getD 0 aW.zero).message).done=true->0<=0/\0<(v3.2.1.length:Int))<|
  gd ((((v2.2.1.getD 0 aW.zero).message).done&&(!((v3.2.1.getD 0 aW.zero).message).done))=true->0<=1/\1<(v4.2.1.length:Int))<|
  gd (((((v2.2.1.getD 0 aW.zero).message).done&&(!((v3.2.1.getD 0 aW.zero).message).done))&&decide ((v4.2.1.getD 1 aW.zero).to=1))=true->0<=1/\1<(v4.2.1.length:Int))<|
  gd ((((((v2.2.1.getD 0 aW.zero).message).done&&(!((v3.2.1.getD 0 aW.zero).message).done))&&decide ((v4.2.1.getD 1 aW.zero).to=1))&&decide (((v4.2.1.getD 1 aW.zero).message).kind=4))=true->0<=1/\1<(v4.2.1.length:Int))<|
  ((if((((((v2.2.1.getD 0 aW.zero).message).done&&(!((v3.2.1.getD 0 aW.zero).message).done))&&decide ((v4.2.1.getD 1 aW.zero).to=1))&&decide (((v4.2.1.getD 1 aW.zero).message).kind=4))&&decide (((v4.2.1.getD 1 aW.zero).message).gen=4))=true then zC8 v4.1 else some false)).bind λ v5=>
  some (((((((v2.2.1.getD 0 aW.zero).message).done&&(!((v3.2.1.getD 0 aW.zero).message).done))&&decide ((v4.2.1.getD 1 aW.zero).to=1))&&decide (((v4.2.1.getD 1 aW.zero).message).kind=4))&&decide (((v4.2.1.getD 1 aW.zero).message).gen=4))&&v5))
instance zap8:OkP zw0 9 [] (λ r=>.bool r):=ok1 zw0.eq_1 Tryz.f9 []
attribute [local irreducible] zw0
def zS2(a0:List aD)(a1:Int)(a2:aX):Option Bool:=
 ((if(!(decide (20<(a0.length:Int))))=true then zo9 a2 else some false)).bind λ v1=>
 (if(decide (20<(a0.length:Int))||(!v1))=true then
  (zw0).bind λ v2=>
  some v2
 else
  (zP8 a0 a1).bind λ v3=>
  (zT2 a0 a1).bind λ v4=>
  (zw0).bind λ v5=>
  ((if(v5&&decide (v3.2=v4.2))=true then zt4 v3.1 v4.1 else some false)).bind λ v6=>
  ((if((v5&&decide (v3.2=v4.2))&&v6)=true then zC8 a2 else some false)).bind λ v7=>
  ((if((v5&&decide (v3.2=v4.2))&&v6)=true then zC0 a2 else some false)).bind λ v8=>
  some (((v5&&decide (v3.2=v4.2))&&v6)&&decide (v7=v8)))
instance zbv7(a0:List aD)(a1:Int)(a2:aX):OkP (zS2 a0 a1 a2) 3 [la a0,.int .i64 a1,ga a2] (λ r=>.bool r):=ok1 (zS2.eq_1 a0 a1 a2) Tryz.f3 []
attribute [local irreducible] zS2
def zQ2(j1:Unit):Option Bool:=
 (zw0).bind λ v4=>
 some v4
@[go_sem] def zdy3(j1:Unit):St:=⟨[],[],0⟩
def zaa4(v6:aJ×bB)(v7:aX×(List aW)×(List aS)×Int)(j2:Unit):Option ((bB×aX)⊕(Unit⊕Bool)):=
 some (.inl (v6.2,v7.1))
@[go_sem] def zdy4(v2:(List aD)×bB)(g1:bB×aX)(v6:aJ×bB)(v7:aX×(List aW)×(List aS)×Int)(j2:Unit):St:=⟨[(3,.ptr 0 0 0),(4,la v2.1),(5,.ptr 1 0 0),(7,.ptr 2 0 0)],[(0,bx v6.2),(1,bx g1.2),(2,bx v7.1)],3⟩
def zQ3(g2:Int)(j3:Unit):Option (Int⊕(Unit⊕Bool)):=
 some (.inl (i64.wrap (g2+1)))
@[go_sem] def zdy5(v2:(List aD)×bB)(g1:bB×aX)(v6:aJ×bB)(v7:aX×(List aW)×(List aS)×Int)(g2:Int)(j3:Unit):St:=⟨[(3,.ptr 0 0 0),(4,la v2.1),(5,.ptr 1 0 0),(7,.ptr 2 0 0),(9,la v7.2.2.1),(62,la v7.1.aG),(63,.int .i64 (v7.1.aG.length:Int)),(64,.int .i64 g2)],[(0,bx v6.2),(1,bx g1.2),(2,bx v7.1)],3⟩
def zQ4(v7:aX×(List aW)×(List aS)×Int)(g2:Int)(v9 v10:(List aF))(g3:Int)(j4:aC):Option (Int⊕(Unit⊕Bool)):=
 (zg7 (v7.1.aG.getD g2.toNat aA.zero) ((v9++v10).getD g3.toNat aF.zero)).bind λ v12=>
 (if(!decide (v12=j4))=true then
  some (.inr (.inr false))
 else
  some (.inl (i64.wrap (g3+1))))
@[go_sem] def zdy6(v2:(List aD)×bB)(g1:bB×aX)(v6:aJ×bB)(v7:aX×(List aW)×(List aS)×Int)(g2:Int)(v9 v10:(List aF))(g3:Int)(j4:aC):St:=⟨[(3,.ptr 0 0 0),(4,la v2.1),(5,.ptr 1 0 0),(7,.ptr 2 0 0),(9,la v7.2.2.1),(11,.int .i64 g2),(12,.ptr 3 0 0),(15,.ptr 4 0 0),(16,.ptr 5 0 0),(62,la v7.1.aG),(63,.int .i64 (v7.1.aG.length:Int)),(64,.int .i64 g2),(78,.own 6 0 ((v9++v10).length)),(79,.int .i64 ((v9.length+v10.length:Nat):Int)),(80,.int .i64 g3)],[(0,bx v6.2),(1,bx g1.2),(2,bx v7.1),(3,bx (v7.1.aG.getD g2.toNat aA.zero)),(4,bx ((v9++v10).getD g3.toNat aF.zero)),(5,bx j4),(6,sx (v9++v10))],7⟩
def zB4(v7:aX×(List aW)×(List aS)×Int)(g2:Int)(v9 v10:(List aF))(g3:Int)(g4:Int×aC):Option ((Int×aC)⊕aC):=
 (if(decide (g4.1<(v7.2.2.1.length:Int)))=true then
  gd (0<=g4.1/\g4.1<(v7.2.2.1.length:Int))<|
  (if(decide ((v7.2.2.1.getD g4.1.toNat aS.zero).aI=(v9++v10).getD g3.toNat aF.zero)&&(((v7.2.2.1.getD g4.1.toNat aS.zero).name).toList==(((v7.1.aG.getD g2.toNat aA.zero).aB).name).toList))=true then
   some (.inl ((i64.wrap (g4.1+1)),(v7.2.2.1.getD g4.1.toNat aS.zero).aK))
  else
   some (.inl ((i64.wrap (g4.1+1)),g4.2)))
 else
  some (.inr g4.2))
@[go_sem] def zdy7(v2:(List aD)×bB)(g1:bB×aX)(v6:aJ×bB)(v7:aX×(List aW)×(List aS)×Int)(g2:Int)(v9 v10:(List aF))(g3:Int)(g4:Int×aC):St:=⟨[(3,.ptr 0 0 0),(4,la v2.1),(5,.ptr 1 0 0),(7,.ptr 2 0 0),(9,la v7.2.2.1),(11,.int .i64 g2),(12,.ptr 3 0 0),(15,.ptr 4 0 0),(16,.ptr 5 0 0),(62,la v7.1.aG),(63,.int .i64 (v7.1.aG.length:Int)),(64,.int .i64 g2),(78,.own 6 0 ((v9++v10).length)),(79,.int .i64 ((v9.length+v10.length:Nat):Int)),(80,.int .i64 g3),(91,la v7.2.2.1),(92,.int .i64 (v7.2.2.1.length:Int)),(93,.int .i64 g4.1)],[(0,bx v6.2),(1,bx g1.2),(2,bx v7.1),(3,bx (v7.1.aG.getD g2.toNat aA.zero)),(4,bx ((v9++v10).getD g3.toNat aF.zero)),(5,bx g4.2),(6,sx (v9++v10))],7⟩
def zQ5(g1:bB×aX)(v7:aX×(List aW)×(List aS)×Int)(g2:Int)(v9 v10:(List aF))(g3:Int):Option (Int⊕(Unit⊕Bool)):=
 (if(decide (g3<((v9.length+v10.length:Nat):Int)))=true then
  gd (0<=g3/\g3<(((v9++v10).length:Nat):Int))<|
  gd (0<=g2/\g2<(g1.2.aG.length:Int))<|
  (zg7 (g1.2.aG.getD g2.toNat aA.zero) ((v9++v10).getD g3.toNat aF.zero)).bind λ v11=>
  (zc0 (zB4 v7 g2 v9 v10 g3) (0,v11)).bind (λ z=>zQ4 v7 g2 v9 v10 g3 z)
 else
  some (.inr (.inl ())))
@[go_sem] def zdy8(v2:(List aD)×bB)(g1:bB×aX)(v6:aJ×bB)(v7:aX×(List aW)×(List aS)×Int)(g2:Int)(v9 v10:(List aF))(g3:Int):St:=⟨[(3,.ptr 0 0 0),(4,la v2.1),(5,.ptr 1 0 0),(7,.ptr 2 0 0),(9,la v7.2.2.1),(11,.int .i64 g2),(12,.ptr 3 0 0),(62,la v7.1.aG),(63,.int .i64 (v7.1.aG.length:Int)),(64,.int .i64 g2),(78,.own 4 0 ((v9++v10).length)),(79,.int .i64 ((v9.length+v10.length:Nat):Int)),(80,.int .i64 g3)],[(0,bx v6.2),(1,bx g1.2),(2,bx v7.1),(3,bx (v7.1.aG.getD g2.toNat aA.zero)),(4,sx (v9++v10))],5⟩
def zH9(g1:bB×aX)(v7:aX×(List aW)×(List aS)×Int)(g2:Int):Option (Int⊕(Unit⊕Bool)):=
 (if(decide (g2<(v7.1.aG.length:Int)))=true then
  gd (0<=g2/\g2<(v7.1.aG.length:Int))<|
  (zq9 (v7.1.aG.getD g2.toNat aA.zero)).bind λ v9=>
  gd (0<=g2/\g2<(g1.2.aG.length:Int))<|
  (zr3 (g1.2.aG.getD g2.toNat aA.zero)).bind λ v10=>
  gd (v9.length+v10.length<=4294967296)<|
  (zc0 (zQ5 g1 v7 g2 v9 v10) 0).bind (λ|.inl z=>zQ3 g2 z|.inr z=>some (.inr (.inr z)))
 else
  some (.inr (.inl ())))
@[go_sem] def zdy9(v2:(List aD)×bB)(g1:bB×aX)(v6:aJ×bB)(v7:aX×(List aW)×(List aS)×Int)(g2:Int):St:=⟨[(3,.ptr 0 0 0),(4,la v2.1),(5,.ptr 1 0 0),(7,.ptr 2 0 0),(9,la v7.2.2.1),(62,la v7.1.aG),(63,.int .i64 (v7.1.aG.length:Int)),(64,.int .i64 g2)],[(0,bx v6.2),(1,bx g1.2),(2,bx v7.1)],3⟩
def zQ6(v2:(List aD)×bB)(g1:bB×aX):Option ((bB×aX)⊕(Unit⊕Bool)):=
 (zc1 g1.1).bind λ v5=>
 (if v5.1=true then
  (zj9 v2.1 v5.2).bind λ v6=>
  (zz0 g1.2 v6.1).bind λ v7=>
  (if(!decide (v7.2.2.2=0))=true then
   some (.inl (v6.2,g1.2))
  else
   (zC8 v7.1).bind λ v8=>
   (if((!v8)||(!decide ((v7.1.aG.length:Int)=(g1.2.aG.length:Int))))=true then
    some (.inr (.inr false))
   else
    (zc0 (zH9 g1 v7) 0).bind (λ|.inl z=>zaa4 v6 v7 z|.inr z=>some (.inr (.inr z)))))
 else
  some (.inr (.inl ())))
@[go_sem] def zdz0(v2:(List aD)×bB)(g1:bB×aX):St:=⟨[(3,.ptr 0 0 0),(4,la v2.1),(5,.ptr 1 0 0)],[(0,bx g1.1),(1,bx g1.2)],2⟩
def zD3(a0:List Int):Option Bool:=
 (if(!(zF0 a0))=true then
  (zw0).bind λ v1=>
  some v1
 else
  (zp8 ({bB.zero with l:=a0})).bind λ v2=>
  (zP8 v2.1 0).bind λ v3=>
  (if(!decide (v3.2=0))=true then
   some false
  else
   (zc0 (zQ6 v2) (v2.2,v3.1)).bind (λ|.inl z=>zQ2 z|.inr z=>some z)))
theorem zbi1(a0:List Int)(r:Bool)(h:zD3 a0=some r):PFn C 5 [.sl (a0.map (eI .i64))] (.bool r):=by
 refine zW0 Tryz.f5 [(70,1)] λ E hG hN hK=>?_;unfold zD3 at h;refine za0 (za1 hG ?_);refine za0 (za0 (za1 hG ?_));refine zm4 (λ hg=>(zbj6 a0).ok) ?_;refine ze5 rfl hG h (λ _ h=>?_) (λ _ h=>?_)
 · refine za0 (za1 hG ?_)
   obtain⟨v1,hv1,h⟩:=zb8 h;refine zm4 (λ hg=>(zap8).ok _ hv1) ?_;refine zm2 ?_;exact zt1 h
 refine ze2 ?_;refine za0 (za1 hG ?_);refine za0 (za1 hG ?_);obtain⟨v2,hv2,h⟩:=zb8 h;refine zp6 [(0,0)] [] [0] ((zaN3 ({bB.zero with l:=a0})).ok _ hv2) rfl rfl ?_;refine za0 (za1 hG ?_);obtain⟨v3,hv3,h⟩:=zb8 h;refine zm4 (λ hg=>(zbB9 v2.1 0).ok _ hv3) ?_;refine za0 (za0 (za1 hG ?_));refine ze5 rfl hG h (λ _ h=>?_) (λ _ h=>?_)
 · refine za0 (za1 hG ?_)
   refine zm2 ?_;exact zt1 h
 refine ze2 ?_;refine za0 ?_;refine zy5 zdy3 (λ v=>zQ2 v=some r) ?_ ?_
 · intro j1 h
   unfold zQ2 at h;refine g_st ?_;refine za0 (za1 hG ?_);obtain⟨v4,hv4,h⟩:=zb8 h;refine zm4 (λ hg=>(zap8).ok _ hv4) ?_;refine zm2 ?_;exact zt1 h
 refine zal7 (zdz0 v2) hK [(0,0),(1,1)] h (λ x_l1 h g1 y_l1 h_l1 hx_l1=>?_);unfold zQ6 at h_l1;refine g_st ?_;refine za0 (za0 (za1 hG ?_));obtain⟨v5,hv5,h_l1⟩:=zb8 h_l1;refine zp6 [(0,0)] [] [0] ((zax0 g1.1).ok _ hv5) rfl rfl ?_;refine ze5 rfl hG h_l1 (λ _ h_l1=>?_) (λ _ h_l1=>?_)
 · refine ze2 ?_
   refine zw6 (za0 (zai3 zC5 hG ?_));obtain⟨v6,hv6,h_l1⟩:=zb8 h_l1;refine zaM3 [(0,0)] [] [0] ((zaA2 v2.1 v5.2).ok _ hv6) rfl rfl ?_;obtain⟨v7,hv7,h_l1⟩:=zb8 h_l1;refine zH5 (λ hg=>(zbq8 g1.2 v6.1).ok _ hv7) ?_;refine za0 (za0 (za1 hG ?_));refine ze5 rfl hG h_l1 (λ _ h_l1=>?_) (λ _ h_l1=>?_)
   · refine zA6 ?_
     exact zM4 hK [(0,0),(1,1)] h_l1
   refine ze2 ?_;refine za0 (za0 (za1 hG ?_));obtain⟨v8,hv8,h_l1⟩:=zb8 h_l1;refine zm4 (λ hg=>(zbX4 v7.1).ok _ hv8) ?_;refine ze5 rfl hG h_l1 (λ _ h_l1=>?_) (λ _ h_l1=>?_)
   · refine za0 (za1 hG ?_)
     refine zm2 ?_;cases h_l1;cases hx_l1 _ rfl;exact zt1 h
   refine ze2 ?_;refine za0 (za0 (za1 hG ?_));refine zy5 (zdy4 v2 g1 v6 v7) (λ v=>zaa4 v6 v7 v=some y_l1) ?_ ?_
   · intro j2 h_l1
     unfold zaa4 at h_l1;refine g_st ?_;refine za1 hG ?_;exact zM4 hK [(0,0),(1,1)] h_l1
   refine zal7 (zdy9 v2 g1 v6 v7) hK [(0,0),(1,1),(2,2)] h_l1 (λ x_l2 h_l1 g2 y_l2 h_l2 hx_l2=>?_);unfold zH9 at h_l2;refine g_st ?_;refine za0 (za1 hG ?_);refine za0 ?_;refine ze5 rfl hG h_l2 (λ _ h_l2=>?_) (λ _ h_l2=>?_)
   · refine ze2 ?_
     refine za0 (zw6 (za0 ?_));obtain⟨hb6,h_l2⟩:=ze3 h_l2;refine za1 hG ?_;refine za0 (zai3 zC5 hG ?_);obtain⟨v9,hv9,h_l2⟩:=zb8 h_l2;obtain⟨hb5,h_l2⟩:=ze3 h_l2;refine zaM3 [] [(0,4)] [0] ((zbq6 (v7.1.aG.getD g2.toNat aA.zero)).ok _ hv9) rfl rfl ?_;obtain⟨v10,hv10,h_l2⟩:=zb8 h_l2;obtain⟨hb4,h_l2⟩:=ze3 h_l2;refine zH5 (λ hg=>(zbN9 (g1.2.aG.getD g2.toNat aA.zero)).ok _ hv10) ?_;refine za0 (za1 hG ?_);refine zy5 (zdy5 v2 g1 v6 v7 g2) (λ v=>zQ3 g2 v=some y_l2) ?_ ?_
     · intro j3 h_l2
       unfold zQ3 at h_l2;refine g_st ?_;refine za1 hG ?_;exact zM4 hK [(0,0),(1,1),(2,2)] h_l2
     refine zal7 (zdy8 v2 g1 v6 v7 g2 v9 v10) hK [(0,0),(1,1),(2,2),(3,3),(4,5)] h_l2 (λ x_l3 h_l2 g3 y_l3 h_l3 hx_l3=>?_);unfold zQ5 at h_l3;refine g_st ?_;refine za0 (za1 hG ?_);refine za0 ?_;refine ze5 rfl hG h_l3 (λ _ h_l3=>?_) (λ _ h_l3=>?_)
     · refine ze2 ?_
       refine za0 (zw6 (za0 ?_));obtain⟨hb3,h_l3⟩:=ze3 h_l3;refine za1 hG ?_;refine za0 ?_;obtain⟨hb2,h_l3⟩:=ze3 h_l3;refine zai3 zC5 hG ?_;obtain⟨v11,hv11,h_l3⟩:=zb8 h_l3;refine zH5 (λ hg=>(zaj3 (g1.2.aG.getD g2.toNat aA.zero) ((v9++v10).getD g3.toNat aF.zero)).ok _ hv11) ?_;refine za0 (za0 (za1 hG ?_));refine zy5 (zdy6 v2 g1 v6 v7 g2 v9 v10 g3) (λ v=>zQ4 v7 g2 v9 v10 g3 v=some y_l3) ?_ ?_
       · intro j4 h_l3
         unfold zQ4 at h_l3;refine g_st ?_;refine za0 (zbl3 zC5 hG ?_);obtain⟨v12,hv12,h_l3⟩:=zb8 h_l3;refine zaf4 (λ hg=>(zaj3 (v7.1.aG.getD g2.toNat aA.zero) ((v9++v10).getD g3.toNat aF.zero)).ok _ hv12) ?_;refine ze5 rfl hG h_l3 (λ _ h_l3=>?_) (λ _ h_l3=>?_)
         · refine za0 (za1 hG ?_)
           refine zm2 ?_;obtain rfl:=cR h_l3;have hx:=hx_l3 _ rfl;subst hx
           try dsimp only at h_l2
           obtain rfl:=cR h_l2;have hx:=hx_l2 _ rfl;subst hx
           try dsimp only at h_l1
           cases h_l1;cases hx_l1 _ rfl;exact zt1 h
         refine ze2 ?_;refine za1 hG ?_;exact zM4 hK [(0,0),(1,1),(2,2),(3,3),(4,6)] h_l3
       refine zal7 (zdy7 v2 g1 v6 v7 g2 v9 v10 g3) hK [(0,0),(1,1),(2,2),(3,3),(4,5),(5,6),(6,4)] h_l3 (λ x_l4 h_l3 g4 y_l4 h_l4 hx_l4=>?_);unfold zB4 at h_l4;refine g_st ?_;refine za0 (za1 hG ?_);refine za0 ?_;refine ze5 rfl hG h_l4 (λ _ h_l4=>?_) (λ _ h_l4=>?_)
       · refine ze2 ?_
         refine za0 (zw6 (za0 ?_));obtain⟨hb1,h_l4⟩:=ze3 h_l4;refine za1 hG ?_;refine za0 (za1 hG ?_);refine ze5 rfl hG h_l4 (λ _ h_l4=>?_) (λ _ h_l4=>?_)
         · refine za1 hG ?_
           refine za1 hG ?_;exact zM4 hK [(0,0),(1,1),(2,2),(3,3),(4,4),(5,5),(6,6)] h_l4
         refine ze2 ?_;refine za1 hG ?_;exact zM4 hK [(0,0),(1,1),(2,2),(3,3),(4,4),(5,5),(6,6)] h_l4
       refine zA6 ?_;obtain rfl:=cR h_l4;have hx:=hx_l4 _ rfl;subst hx
       try dsimp only at h_l3
       exact zs2 hK [(0,0),(1,1),(2,2),(3,3),(4,4),(5,5),(6,6)] g4.2 (by exact h_l3)
     refine zA6 ?_;obtain rfl:=cR h_l3;have hx:=hx_l3 _ rfl;subst hx
     try dsimp only at h_l2
     exact zs2 hK [(0,0),(1,1),(2,2)] () (by exact h_l2)
   refine zA6 ?_;obtain rfl:=cR h_l2;have hx:=hx_l2 _ rfl;subst hx
   try dsimp only at h_l1
   exact zs2 hK [(0,0),(1,1),(2,2)] () (by exact h_l1)
 refine zA6 ?_;cases h_l1;cases hx_l1 _ rfl;exact zs2 hK [] () (by exact h)
instance zba0(a0:List Int):OkP (zD3 a0) 5 [.sl (a0.map (eI .i64))] (λ r=>.bool r):=⟨zbi1 a0⟩
attribute [local irreducible] zD3
def zaO1(j1:(List aA)×(List aS)):Option ((List aA)×(List aS)):=
 some (j1.1,j1.2)
def zah5(a1 a2:Int)(v2:(List aF))(g1:(List aA)×Int×(List aS)):Option (((List aA)×Int×(List aS))⊕((List aA)×(List aS))):=
 (if(decide (g1.2.1<(v2.length:Int)))=true then
  gd (0<=g1.2.1/\g1.2.1<(v2.length:Int))<|
  gd (decide ((v2.getD g1.2.1.toNat aF.zero).site=a1)=true->0<=g1.2.1/\g1.2.1<(v2.length:Int))<|
  (if(decide ((v2.getD g1.2.1.toNat aF.zero).site=a1)&&decide ((v2.getD g1.2.1.toNat aF.zero).inc<a2))=true then
   gd (0<=g1.2.1/\g1.2.1<(v2.length:Int))<|
   (zG1 g1.1 (v2.getD g1.2.1.toNat aF.zero)).bind λ v3=>
   gd (g1.2.2.length+v3.2.length<=4294967296)<|
   some (.inl (v3.1,i64.wrap (g1.2.1+1),(g1.2.2++v3.2)))
  else
   some (.inl (g1.1,i64.wrap (g1.2.1+1),g1.2.2)))
 else
  some (.inr (g1.1,g1.2.2)))
def zV3(a0:List aA)(a1 a2:Int):Option ((List aA)×(List aS)):=
 (zx4 a0).bind λ v1=>
 (if(!v1)=true then
  some ([],[])
 else
  (zt7 a0).bind λ v2=>
  (zc0 (zah5 a1 a2 v2) (a0,0,[])).bind (λ z=>zaO1 z))
@[reducible,instance] def zdZ6 a0 a1 a2 {T1:Type} (v1:T1) {T2:Type} (v2:T2):=mkJ ((zV3 a0 a1 a2,v1),v2) 0 (@zaO1.eq_1) λ(j1:(List aA)×(List aS))=>⟨[(0,la j1.1),(8,.own 0 0 j1.2.length)],[(0,sx j1.2)],1⟩
@[reducible,instance] def zdZ7 (a1 a2:Int) (v2:(List aF)) {T:Type} (x:T):=mkL x (@zah5.eq_1 a1 a2 v2) λ(g1:(List aA)×Int×(List aS))=>⟨[(0,la g1.1),(1,.int .i64 a1),(2,.int .i64 a2),(8,.own 0 0 g1.2.2.length),(9,la v2),(10,.int .i64 g1.2.1)],[(0,sx g1.2.2)],1⟩
instance zdd5(a0:List aA)(a1 a2:Int):OkP (zV3 a0 a1 a2) 63 [la a0,.int .i64 a1,.int .i64 a2] (λ r=>.tup [la r.1,la r.2]):=ok1 (zV3.eq_1 a0 a1 a2) Tryz.f63 [(8,1)]
attribute [local irreducible] zV3
def zZ6(a1:aJ)(j2:aX×(List aS)):Option (aX×(List aW)×(List aS)×Int):=
 (zn1 j2.1 a1 true).bind λ v13=>
 (zi6 j2.1 j2.2 a1.aI).bind λ v14=>
 gd (1+v14.length<=4294967296)<|
 (zr4 j2.1).bind λ v15=>
 some (v15,([v13]++v14),j2.2,0)
def zS3(a1:aJ)(v10:Int)(j1:aX×(List aS)):Option (aX×(List aW)×(List aS)×Int):=
 gd (0<=v10/\v10<(j1.1.aG.length:Int))<|
 (zg7 (j1.1.aG.getD v10.toNat aA.zero) a1.aI).bind λ v12=>
 gd (((!decide (v12=a1.aY.aK))&&(!(zd6 a1.aY.aK)))=true->0<=v10/\v10<(j1.1.aG.length:Int))<|
 (if((!decide (v12=a1.aY.aK))&&(zd6 a1.aY.aK||zk3 ((j1.1.aG.getD v10.toNat aA.zero).aB) v12 a1.aY.aK))=true then
  (zJ7 j1.1.aG a1.aI a1.aY).bind λ v16=>
  (if(!decide (v16.2.2=0))=true then
   some ({aX.zero with},[],[],v16.2.2)
  else
   gd (j1.2.length+v16.2.1.length<=4294967296)<|
   zZ6 a1 ({j1.1 with aG:=v16.1},(j1.2++v16.2.1)))
 else
  zZ6 a1 (j1.1,j1.2))
def zZ0(a0:aX)(a1:aJ):Option (aX×(List aW)×(List aS)×Int):=
 (zC0 a0).bind λ v1=>
 (if(!v1)=true then
  some ({aX.zero with},[],[],2)
 else
  (zB9 a1).bind λ v2=>
  (if((!v2)||(((!decide (a1.kind=1))&&(!decide (a1.kind=2)))&&(!decide (a1.kind=5))))=true then
   some ({aX.zero with},[],[],1)
  else
   (zm8 a0).bind λ v3=>
   (if(decide (a1.kind=1))=true then
    (zJ6 v3.aG a1.aI a1.aY a1.aV).bind λ v4=>
    (if(!decide (v4.2.2=0))=true then
     some ({aX.zero with},[],[],v4.2.2)
    else
     (zt5 (({v3 with aG:=v4.1}).tags) (⟨a1.aI,a1.aY.name,a1.gen⟩:bA)).bind λ v5=>
     (zf6 (({{v3 with aG:=v4.1}with tags:=v5}).aG) a1.aY.name).bind λ v6=>
     gd (0<=v6/\v6<((({{v3 with aG:=v4.1}with tags:=v5}).aG).length:Int))<|
     (zg7 ((({{v3 with aG:=v4.1}with tags:=v5}).aG).getD v6.toNat aA.zero) a1.aI).bind λ v7=>
     (zn1 ({{v3 with aG:=v4.1}with tags:=v5}) a1 ((!(zd6 v7))&&zk3 (((({{v3 with aG:=v4.1}with tags:=v5}).aG).getD v6.toNat aA.zero).aB) v7 a1.aY.aK)).bind λ v8=>
     (zi6 ({{v3 with aG:=v4.1}with tags:=v5}) v4.2.1 a1.aI).bind λ v9=>
     gd (1+v9.length<=4294967296)<|
     some ({{v3 with aG:=v4.1}with tags:=v5},([v8]++v9),v4.2.1,0))
   else
    (if(decide (a1.kind=2))=true then
     (zf6 v3.aG a1.aY.name).bind λ v10=>
     (if(decide (v10<0))=true then
      some ({aX.zero with},[],[],10)
     else
      gd (0<=v10/\v10<(v3.aG.length:Int))<|
      (zh9 (v3.aG.getD v10.toNat aA.zero) a1.aI).bind λ v11=>
      (if v11.2=true then
       (zL3 v3.aG a1.aI a1.aY.name).bind λ v17=>
       (if(!decide (v17.2.2=0))=true then
        some ({aX.zero with},[],[],v17.2.2)
       else
        gd (v17.2.1.length<=4294967296)<|
        zS3 a1 v10 ({v3 with aG:=v17.1},v17.2.1))
      else
       zS3 a1 v10 (v3,[])))
    else
     (zV3 v3.aG a1.site a1.inc).bind λ v18=>
     (zi6 ({v3 with aG:=v18.1}) v18.2 ({aF.zero with})).bind λ v19=>
     (zr4 ({v3 with aG:=v18.1})).bind λ v20=>
     some (v20,v19,v18.2,0)))))
@[reducible,instance] def zdZ8 (a1:aJ) v10 j1 {T1:Type} (v12:T1):=mkJ (zS3 a1 v10 j1,v12) 999 (@zZ6.eq_1 a1) λ(j2:aX×(List aS))=>⟨[(2,.ptr 0 0 0),(3,.ptr 1 0 0),(4,.ptr 2 0 0),(15,.own 3 0 j2.2.length)],[(0,bx j2.1),(1,bx a1),(2,bx aX.zero),(3,sx j2.2)],4⟩
@[reducible,instance] def zdZ9 a0 (a1:aJ) {T1:Type} (v1:T1) {T2:Type} (v2:T2) {T3:Type} (v3:T3) (v10:Int) {T4:Type} (v11:T4):=mkJ (((((zZ0 a0 a1,v1),v2),v3),v10),v11) 999 (@zS3.eq_1 a1 v10) λ(j1:aX×(List aS))=>⟨[(2,.ptr 0 0 0),(3,.ptr 1 0 0),(4,.ptr 2 0 0),(14,.int .i64 v10),(15,.own 3 0 j1.2.length)],[(0,bx j1.1),(1,bx a1),(2,bx aX.zero),(3,sx j1.2)],4⟩
instance zdj4(a0:aX)(a1:aJ):OkP (zZ0 a0 a1) 18 [ga a0,ga a1] (λ r=>.tup [ga r.1,la r.2.1,la r.2.2.1,.int .i64 r.2.2.2]):=ok1 (zZ0.eq_1 a0 a1) Tryz.f18 [(122,1),(15,1),(229,1)]
attribute [local irreducible] zZ0
def zaa5(j4:Unit):Option Bool:=
 (zw0).bind λ v7=>
 some v7
def zQ7(v4:aX×(List aW)×(List aS)×Int)(g1:Int):Option (Int⊕(Unit⊕Bool)):=
 (if(decide (g1<(v4.2.1.length:Int)))=true then
  gd (0<=g1/\g1<(v4.2.1.length:Int))<|
  (if(!decide (((v4.2.1.getD g1.toNat aW.zero).message).kind=4))=true then
   some (.inr (.inr false))
  else
   some (.inl (i64.wrap (g1+1))))
 else
  some (.inr (.inl ())))
def zQ8(v4:aX×(List aW)×(List aS)×Int)(j3:Unit):Option Bool:=
 (zc0 (zQ7 v4) 0).bind (λ|.inl z=>zaa5 z|.inr z=>some z)
def zaa6(g2:Int)(j5:Unit):Option (Int⊕(Unit⊕Bool)):=
 some (.inl (i64.wrap (g2+1)))
def zQ9(j1:aX)(v4:aX×(List aW)×(List aS)×Int)(v6:(List aF))(g2 g3:Int):Option (Int⊕(Unit⊕Bool)):=
 (if(decide (g3<(j1.aG.length:Int)))=true then
  gd (0<=g3/\g3<(j1.aG.length:Int))<|
  (zg7 (j1.aG.getD g3.toNat aA.zero) (v6.getD g2.toNat aF.zero)).bind λ v8=>
  gd (0<=g3/\g3<(v4.1.aG.length:Int))<|
  (zg7 (v4.1.aG.getD g3.toNat aA.zero) (v6.getD g2.toNat aF.zero)).bind λ v9=>
  (if((!(zd6 v8))&&(zd6 v9||(!(zk3 ((j1.aG.getD g3.toNat aA.zero).aB) v9 v8))))=true then
   some (.inr (.inr false))
  else
   some (.inl (i64.wrap (g3+1))))
 else
  some (.inr (.inl ())))
def zB5(a1 a2:Int)(j1:aX)(v4:aX×(List aW)×(List aS)×Int)(v6:(List aF))(g2:Int):Option (Int⊕(Unit⊕Bool)):=
 (if(decide (g2<(v6.length:Int)))=true then
  gd (0<=g2/\g2<(v6.length:Int))<|
  (if(decide ((v6.getD g2.toNat aF.zero).site=({aJ.zero with kind:=5,inc:=(i64.wrap (1+(i64.wrap a2).tmod 3)),site:=((i64.wrap a1).tmod 3)}).site)&&decide ((v6.getD g2.toNat aF.zero).inc<({aJ.zero with kind:=5,inc:=(i64.wrap (1+(i64.wrap a2).tmod 3)),site:=((i64.wrap a1).tmod 3)}).inc))=true then
   some (.inl (i64.wrap (g2+1)))
  else
   (zc0 (zQ9 j1 v4 v6 g2) 0).bind (λ|.inl z=>zaa6 g2 z|.inr z=>some (.inr (.inr z))))
 else
  some (.inr (.inl ())))
def zR0(a1 a2:Int)(j1:aX)(v4:aX×(List aW)×(List aS)×Int)(j2:Unit):Option Bool:=
 (zt7 j1.aG).bind λ v6=>
 (zc0 (zB5 a1 a2 j1 v4 v6) 0).bind (λ|.inl z=>zQ8 v4 z|.inr z=>some z)
def zR1(a1 a2:Int)(v5:(List aF))(g4:Int):Option (Int⊕(Unit⊕Bool)):=
 (if(decide (g4<(v5.length:Int)))=true then
  gd (0<=g4/\g4<(v5.length:Int))<|
  (if(decide ((v5.getD g4.toNat aF.zero).site=({aJ.zero with kind:=5,inc:=(i64.wrap (1+(i64.wrap a2).tmod 3)),site:=((i64.wrap a1).tmod 3)}).site)&&decide ((v5.getD g4.toNat aF.zero).inc<({aJ.zero with kind:=5,inc:=(i64.wrap (1+(i64.wrap a2).tmod 3)),site:=((i64.wrap a1).tmod 3)}).inc))=true then
   some (.inr (.inr false))
  else
   some (.inl (i64.wrap (g4+1))))
 else
  some (.inr (.inl ())))
def zB6(a1 a2:Int)(j1:aX):Option Bool:=
 (zz0 j1 ({aJ.zero with kind:=5,inc:=(i64.wrap (1+(i64.wrap a2).tmod 3)),site:=((i64.wrap a1).tmod 3)})).bind λ v4=>
 (if((!decide (v4.2.2.2=0))||(!decide ((v4.1.aG.length:Int)=(j1.aG.length:Int))))=true then
  some false
 else
  (zt7 v4.1.aG).bind λ v5=>
  (zc0 (zR1 a1 a2 v5) 0).bind (λ|.inl z=>zR0 a1 a2 j1 v4 z|.inr z=>some z))
def zR2(v2:(List aD)×bB)(g5:bB×aX):Option ((bB×aX)⊕aX):=
 (zc1 g5.1).bind λ v10=>
 (if v10.1=true then
  (zj9 v2.1 v10.2).bind λ v11=>
  (zZ0 g5.2 v11.1).bind λ v12=>
  (if(decide (v12.2.2.2=0))=true then
   some (.inl (v11.2,v12.1))
  else
   some (.inl (v11.2,g5.2)))
 else
  some (.inr g5.2))
def zD4(a0:List Int)(a1 a2:Int):Option Bool:=
 (if(!(zF0 a0))=true then
  (zw0).bind λ v1=>
  some v1
 else
  (zp8 ({bB.zero with l:=a0})).bind λ v2=>
  (zT2 v2.1 0).bind λ v3=>
  (zc0 (zR2 v2) (v2.2,v3.1)).bind (λ z=>zB6 a1 a2 z))
@[reducible,instance] def zea0 v4 j3:=mkJ (zQ8 v4 j3) 8 (@zaa5.eq_1) λ(j4:Unit)=>⟨[],[],0⟩
@[reducible,instance] def zea1 (v4:aX×(List aW)×(List aS)×Int) {T:Type} (x:T):=mkL x (@zQ7.eq_1 v4) λ(g1:Int)=>⟨[(162,la v4.2.1),(163,.int .i64 (v4.2.1.length:Int)),(164,.int .i64 g1)],[],0⟩
@[reducible,instance] def zea2 a1 a2 j1 (v4:aX×(List aW)×(List aS)×Int) j2 {T1:Type} (v6:T1):=mkJ (zR0 a1 a2 j1 v4 j2,v6) 4 (@zQ8.eq_1 v4) λ(j3:Unit)=>⟨[(17,la v4.2.1)],[],0⟩
@[reducible,instance] def zea3 (a1 a2:Int) (j1:aX) (v4:aX×(List aW)×(List aS)×Int) (v6:(List aF)) (g2:Int):=mkJ (zB5 a1 a2 j1 v4 v6 g2) 6 (@zaa6.eq_1 g2) λ(j5:Unit)=>⟨[(9,.ptr 0 0 0),(15,.ptr 1 0 0),(16,.ptr 2 0 0),(17,la v4.2.1),(109,la v6),(110,.int .i64 (v6.length:Int)),(111,.int .i64 g2)],[(0,bx j1),(1,bx ({aJ.zero with kind:=5,inc:=(i64.wrap (1+(i64.wrap a2).tmod 3)),site:=((i64.wrap a1).tmod 3)})),(2,bx v4.1)],3⟩
@[reducible,instance] def zea4 (a1 a2:Int) (j1:aX) (v4:aX×(List aW)×(List aS)×Int) (v6:(List aF)) (g2:Int):=mkL (zB5 a1 a2 j1 v4 v6 g2) (@zQ9.eq_1 j1 v4 v6 g2) λ(g3:Int)=>⟨[(9,.ptr 0 0 0),(15,.ptr 1 0 0),(16,.ptr 2 0 0),(17,la v4.2.1),(23,.ptr 3 0 0),(109,la v6),(110,.int .i64 (v6.length:Int)),(111,.int .i64 g2),(128,la j1.aG),(129,.int .i64 (j1.aG.length:Int)),(130,.int .i64 g3)],[(0,bx j1),(1,bx ({aJ.zero with kind:=5,inc:=(i64.wrap (1+(i64.wrap a2).tmod 3)),site:=((i64.wrap a1).tmod 3)})),(2,bx v4.1),(3,bx (v6.getD g2.toNat aF.zero))],4⟩
@[reducible,instance] def zea5 (a1 a2:Int) (j1:aX) (v4:aX×(List aW)×(List aS)×Int) (v6:(List aF)) {T:Type} (x:T):=mkL x (@zB5.eq_1 a1 a2 j1 v4 v6) λ(g2:Int)=>⟨[(9,.ptr 0 0 0),(15,.ptr 1 0 0),(16,.ptr 2 0 0),(17,la v4.2.1),(109,la v6),(110,.int .i64 (v6.length:Int)),(111,.int .i64 g2)],[(0,bx j1),(1,bx ({aJ.zero with kind:=5,inc:=(i64.wrap (1+(i64.wrap a2).tmod 3)),site:=((i64.wrap a1).tmod 3)})),(2,bx v4.1)],3⟩
@[reducible,instance] def zea6 (a1 a2:Int) (j1:aX) (v4:aX×(List aW)×(List aS)×Int) {T1:Type} (v5:T1):=mkJ ((zB6 a1 a2 j1,v4),v5) 2 (@zR0.eq_1 a1 a2 j1 v4) λ(j2:Unit)=>⟨[(9,.ptr 0 0 0),(15,.ptr 1 0 0),(16,.ptr 2 0 0),(17,la v4.2.1)],[(0,bx j1),(1,bx ({aJ.zero with kind:=5,inc:=(i64.wrap (1+(i64.wrap a2).tmod 3)),site:=((i64.wrap a1).tmod 3)})),(2,bx v4.1)],3⟩
@[reducible,instance] def zea7 (a1 a2:Int) (j1:aX) (v4:aX×(List aW)×(List aS)×Int) (v5:(List aF)):=mkL ((zB6 a1 a2 j1,v4),v5) (@zR1.eq_1 a1 a2 v5) λ(g4:Int)=>⟨[(9,.ptr 0 0 0),(15,.ptr 1 0 0),(16,.ptr 2 0 0),(17,la v4.2.1),(88,la v5),(89,.int .i64 (v5.length:Int)),(90,.int .i64 g4)],[(0,bx j1),(1,bx ({aJ.zero with kind:=5,inc:=(i64.wrap (1+(i64.wrap a2).tmod 3)),site:=((i64.wrap a1).tmod 3)})),(2,bx v4.1)],3⟩
@[reducible,instance] def zea8 a0 (a1 a2:Int) {T1:Type} (v2:T1) {T2:Type} (v3:T2):=mkJ ((zD4 a0 a1 a2,v2),v3) 0 (@zB6.eq_1 a1 a2) λ(j1:aX)=>⟨[(1,.int .u8 a1),(2,.int .u8 a2),(9,.ptr 0 0 0)],[(0,bx j1)],1⟩
@[reducible,instance] def zea9 a0 (a1 a2:Int) (v2:(List aD)×bB) {T1:Type} (v3:T1):=mkL ((zD4 a0 a1 a2,v2),v3) (@zR2.eq_1 v2) λ(g5:bB×aX)=>⟨[(1,.int .u8 a1),(2,.int .u8 a2),(7,.ptr 0 0 0),(8,la v2.1),(9,.ptr 1 0 0)],[(0,bx g5.1),(1,bx g5.2)],2⟩
instance zbi2(a0:List Int)(a1 a2:Int):OkP (zD4 a0 a1 a2) 7 [.sl (a0.map (eI .i64)),.int .u8 a1,.int .u8 a2] (λ r=>.bool r):=ok1 (zD4.eq_1 a0 a1 a2) Tryz.f7 []
attribute [local irreducible] zD4
end
end Ab
end Go.Proofs.YtdlfhmkmnjbihaaGreatDoor
