import Derived.Test.YtdlfhmkmnjbihaaGreatDoorHm27
import Derived.Test.YtdlfhmkmnjbihaaGreatDoorHm24
import Derived.Test.YtdlfhmkmnjbihaaGreatDoorHm26
namespace Go.Proofs.YtdlfhmkmnjbihaaGreatDoor
namespace Ab
open IntKind (i64 u64 u8)
set_option linter.unusedSimpArgs false
set_option linter.defProp false
set_option linter.unusedVariables false
set_option maxRecDepth 100000
set_option maxHeartbeats 1000000
noncomputable section
attribute [local irreducible] zl5 zj8 zl7 zd1 zg5 zi1 zf5 zm6 zl8 zk4 ze1 ze6 zn5 zd4 zo3 za2 zg8 zg6 za5 zf6 ze4 zg3 zd7 zn0 zc9 zc6 zp8 zh0 zf7 zl6 zd5 zb1 ze0 zd6 za4 zj9 ze5 zh4 zd2 zb3 zf9 zd8 za8 zc3 ze2 zb9 zb2 zk9 za6 zc8 zd3 zk3 zf8 zd9 zk6 zi5 zq5 zc4 za9 ze7 zi3 zg0 zn1 zb7 zq4 zl4 zf1 zb6 zl1 ze8 zk7 zn7 zf2 zl0 zk0 zn8 ze9 zi6 zp3 zj5 zj0 zh2 zi7 zm7 zc5 zg1 zk1 zj1 za7 ze3 zf0 zo7 zm3 zo8 zm4 zo9 zj6 zf4 zm0 zc7 zg2 zr1 zt3 zp4 zf3 zj2 zk2 zr2 zq0 zg7 zj7 zh8 zi2 zj3 zu9 zh6 zm1 zn2 zv0 zj4 zs0 zo6 zt9 zm2 zs3 zn3 zs4 zr4 zr0 zv4 zq2 zn4 zt0 zm5 zl2 zr5 zq3 zr6 zo2 zb5 zi8 zo4 zn9 zg9 zr7 zs6 zw3 zu6 zz3 zq8 zo0 zs1 zt5 zu1 zr9 zp7 zw8 zu7 zw9 zB1 zo5 zq6 zv6 zv7 zy6 zD4 zA8 zx0 zx5 zB0 zH8 zC8 zD3 zy5 zt6 zE1 zB8 zB9 zC0 zC1 zz7 zy1
def zaF7(a0:List aA)(j1:Unit):Option Bool:=
 (zz7 a0).bind λ v1=>
 some (decide ((v1.length:Int)<=8))
def zas1(a0:List aA)(g1:Int):Option (Int⊕(Unit⊕Bool)):=
 (if(decide (g1<(a0.length:Int)))=true then
  gd (0<=g1/\g1<(a0.length:Int))<|
  (zy5 (a0.getD g1.toNat aA.zero)).bind λ v2=>
  gd ((v2&&decide (0<g1))=true->0<=i64.wrap (g1-1)/\i64.wrap (g1-1)<(a0.length:Int))<|
  (if((!v2)||(decide (0<g1)&&(!Op.bytesLess (((a0.getD ((i64.wrap (g1-1)).toNat) aA.zero).aB).name).toList (((a0.getD g1.toNat aA.zero).aB).name).toList)))=true then
   some (.inr (.inr false))
  else
   some (.inl (i64.wrap (g1+1))))
 else
  some (.inr (.inl ())))
def zG3(a0:List aA):Option Bool:=
 (if(decide (8<(a0.length:Int)))=true then
  some false
 else
  (zc1 (zas1 a0) 0).bind (λ|.inl z=>zaF7 a0 z|.inr z=>some z))
@[reducible,instance] def zeB7 (a0:List aA):=mkJ (zG3 a0) 0 (@zaF7.eq_1 a0) λ(j1:Unit)=>⟨[(0,la a0)],[],0⟩
@[reducible,instance] def zeB8 (a0:List aA) {T:Type} (x:T):=mkL x (@zas1.eq_1 a0) λ(g1:Int)=>⟨[(0,la a0),(8,la a0),(9,.int .i64 (a0.length:Int)),(10,.int .i64 g1)],[],0⟩
instance zdA1(a0:List aA):OkP (zG3 a0) 40 [la a0] (λ r=>.bool r):=ok1 (zG3.eq_1 a0) Tryz.f40 []
attribute [local irreducible] zG3
def zbi7(a0:bC)(j2:Int):Option Bool:=
 some (decide (j2=(a0.tags.length:Int)))
def zaM2(g1:Int×Int)(j3:Int):Option ((Int×Int)⊕(Int⊕Bool)):=
 some (.inl (j3,i64.wrap (g1.2+1)))
def zX4(a0:bC)(g1:Int×Int)(v2:(List aF))(g2:Int×Int):Option ((Int×Int)⊕(Int⊕Bool)):=
 (if(decide (g2.2<(v2.length:Int)))=true then
  gd (0<=g2.2/\g2.2<(v2.length:Int))<|
  (zg8 a0.tags (v2.getD g2.2.toNat aF.zero) (((a0.aG.getD g1.2.toNat aA.zero).aB).name)).bind λ v3=>
  (if(!v3.2)=true then
   some (.inr (.inr false))
  else
   some (.inl ((i64.wrap (g2.1+1)),i64.wrap (g2.2+1))))
 else
  some (.inr (.inl g2.1)))
def zX5(a0:bC)(g1:Int×Int):Option ((Int×Int)⊕(Int⊕Bool)):=
 (if(decide (g1.2<(a0.aG.length:Int)))=true then
  gd (0<=g1.2/\g1.2<(a0.aG.length:Int))<|
  (zy6 (a0.aG.getD g1.2.toNat aA.zero)).bind λ v2=>
  (zc1 (zX4 a0 g1 v2) (g1.1,0)).bind (λ|.inl z=>zaM2 g1 z|.inr z=>some (.inr (.inr z)))
 else
  some (.inr (.inl g1.1)))
def zaw0(a0:bC)(j1:Unit):Option Bool:=
 (zc1 (zX5 a0) (0,0)).bind (λ|.inl z=>zbi7 a0 z|.inr z=>some z)
def zaw1(a0:bC)(g3:Int):Option (Int⊕(Unit⊕Bool)):=
 (if(decide (g3<(a0.tags.length:Int)))=true then
  gd (0<=g3/\g3<(a0.tags.length:Int))<|
  (if(((!(za3 ((a0.tags.getD g3.toNat bF.zero).aI)))||decide ((a0.tags.getD g3.toNat bF.zero).gen<0))||decide (1073741824<(a0.tags.getD g3.toNat bF.zero).gen))=true then
   some (.inr (.inr false))
  else
   gd (decide (0<g3)=true->0<=i64.wrap (g3-1)/\i64.wrap (g3-1)<(a0.tags.length:Int))<|
   ((if(decide (0<g3))=true then zh8 (a0.tags.getD ((i64.wrap (g3-1)).toNat) bF.zero) (a0.tags.getD g3.toNat bF.zero)else some 0)).bind λ v4=>
   (if(decide (0<g3)&&decide (0<=v4))=true then
    some (.inr (.inr false))
   else
    some (.inl (i64.wrap (g3+1)))))
 else
  some (.inr (.inl ())))
def zS3(a0:bC):Option Bool:=
 (zG3 a0.aG).bind λ v1=>
 (if(!v1)=true then
  some false
 else
  (zc1 (zaw1 a0) 0).bind (λ|.inl z=>zaw0 a0 z|.inr z=>some z))
@[reducible,instance] def zeB9 (a0:bC) j1:=mkJ (zaw0 a0 j1) 2 (@zbi7.eq_1 a0) λ(j2:Int)=>⟨[(1,.ptr 0 0 0),(5,.int .i64 j2)],[(0,bx a0)],1⟩
@[reducible,instance] def zeC0 (a0:bC) (g1:Int×Int) {T1:Type} (v2:T1):=mkJ (zX5 a0 g1,v2) 4 (@zaM2.eq_1 g1) λ(j3:Int)=>⟨[(1,.ptr 0 0 0),(5,.int .i64 j3),(53,la a0.aG),(54,.int .i64 (a0.aG.length:Int)),(55,.int .i64 g1.2)],[(0,bx a0)],1⟩
@[reducible,instance] def zeC1 (a0:bC) (g1:Int×Int) (v2:(List aF)) {T:Type} (x:T):=mkL x (@zX4.eq_1 a0 g1 v2) λ(g2:Int×Int)=>⟨[(1,.ptr 0 0 0),(5,.int .i64 g2.1),(7,.ptr 1 0 0),(53,la a0.aG),(54,.int .i64 (a0.aG.length:Int)),(55,.int .i64 g1.2),(60,la v2),(61,.int .i64 (v2.length:Int)),(62,.int .i64 g2.2)],[(0,bx a0),(1,bx (a0.aG.getD g1.2.toNat aA.zero))],2⟩
@[reducible,instance] def zeC2 (a0:bC) {T:Type} (x:T):=mkL x (@zX5.eq_1 a0) λ(g1:Int×Int)=>⟨[(1,.ptr 0 0 0),(5,.int .i64 g1.1),(53,la a0.aG),(54,.int .i64 (a0.aG.length:Int)),(55,.int .i64 g1.2)],[(0,bx a0)],1⟩
@[reducible,instance] def zeC3 (a0:bC) {T1:Type} (v1:T1):=mkJ (zS3 a0,v1) 0 (@zaw0.eq_1 a0) λ(j1:Unit)=>⟨[(1,.ptr 0 0 0)],[(0,bx a0)],1⟩
@[reducible,instance] def zeC4 (a0:bC) {T:Type} (x:T):=mkL x (@zaw1.eq_1 a0) λ(g3:Int)=>⟨[(1,.ptr 0 0 0),(17,la a0.tags),(18,.int .i64 (a0.tags.length:Int)),(19,.int .i64 g3)],[(0,bx a0)],1⟩
instance zdI4(a0:bC):OkP (zS3 a0) 13 [ga a0] (λ r=>.bool r):=ok1 (zS3.eq_1 a0) Tryz.f13 []
attribute [local irreducible] zS3
def zah2(a0:List aA)(a1:ByteArray):Option (Int×Int):=
 (zG3 a0).bind λ v1=>
 (if(!v1)=true then
  some (0,2)
 else
  (zk9 a0 a1).bind λ v2=>
  (if(decide (v2<0))=true then
   some (0,10)
  else
   some (v2,0)))
instance zdR7(a0:List aA)(a1:ByteArray):OkP (zah2 a0 a1) 146 [la a0,.str a1] (λ r=>.tup [.int .i64 r.1,.int .i64 r.2]):=ok1 (zah2.eq_1 a0 a1) Tryz.f146 []
attribute [local irreducible] zah2
def zO7(a0:aA)(a1:aF):Option (aA×(List aT)×Int):=
 (zy5 a0).bind λ v1=>
 (if(!v1)=true then
  some ({aA.zero with},[],2)
 else
  (zo4 a0 a1).bind λ v2=>
  (if(!v2.2)=true then
   some ({aA.zero with},[],10)
  else
   (zj9 a0).bind λ v3=>
   (zB9 v3 a1).bind λ v4=>
   some (v4.1,v4.2.1,v4.2.2.1)))
theorem zbU0(a0:aA)(a1:aF)(r:aA×(List aT)×Int)(h:zO7 a0 a1=some r):PFn C 153 [ga a0,ga a1] (.tup [ga r.1,la r.2.1,.int .i64 r.2.2]):=by
 refine zW4 Tryz.f153 [(27,1)] λ E hG hN hK=>?_;unfold zO7 at h;refine za0 (za1 hG ?_);refine za0 (za0 (za1 hG ?_));obtain⟨v1,hv1,h⟩:=zd0 h;refine zr3 (λ hg=>(zaB8 a0).ok _ hv1) ?_;refine zh9 rfl hG h (λ _ h=>?_) (λ _ h=>?_)
 · refine za0 (za1 hG ?_)
   refine zm8 ?_;exact zy2 h
 refine zh7 ?_;refine za0 (za0 (za1 hG ?_));obtain⟨v2,hv2,h⟩:=zd0 h;refine zr3 (λ hg=>(zaM1 a0 a1).ok _ hv2) ?_;refine za0 (za1 hG ?_);refine zh9 rfl hG h (λ _ h=>?_) (λ _ h=>?_)
 · refine za0 (za1 hG ?_)
   refine zm8 ?_;exact zy2 h
 refine zh7 ?_;refine za0 (za1 hG ?_);obtain⟨v3,hv3,h⟩:=zd0 h;refine zr3 (λ hg=>(zaP9 a0).ok _ hv3) ?_;refine za0 (za1 hG ?_);obtain⟨v4,hv4,h⟩:=zd0 h;refine zs8 [(0,4),(1,5),(2,1)] [] [0,1,2] (zbv4 _ _ _ hv4) rfl rfl ?_;refine zm8 ?_;exact zy2 h
instance zdj9(a0:aA)(a1:aF):OkP (zO7 a0 a1) 153 [ga a0,ga a1] (λ r=>.tup [ga r.1,la r.2.1,.int .i64 r.2.2]):=⟨zbU0 a0 a1⟩
attribute [local irreducible] zO7
def zO8(a0:aA)(a1:aF):Option (aA×(List aT)×Int):=
 (zy5 a0).bind λ v1=>
 (if(!v1)=true then
  some ({aA.zero with},[],2)
 else
  (zy6 a0).bind λ v2=>
  (zk2 v2 a1).bind λ v3=>
  (if(!v3)=true then
   some ({aA.zero with},[],10)
  else
   (zj9 a0).bind λ v4=>
   (zC1 v4 a1).bind λ v5=>
   some (v5.1,v5.2.1,v5.2.2.1)))
theorem zbU1(a0:aA)(a1:aF)(r:aA×(List aT)×Int)(h:zO8 a0 a1=some r):PFn C 217 [ga a0,ga a1] (.tup [ga r.1,la r.2.1,.int .i64 r.2.2]):=by
 refine zW4 Tryz.f217 [(23,1)] λ E hG hN hK=>?_;unfold zO8 at h;refine za0 (za1 hG ?_);refine za0 (za0 (za1 hG ?_));obtain⟨v1,hv1,h⟩:=zd0 h;refine zr3 (λ hg=>(zaB8 a0).ok _ hv1) ?_;refine zh9 rfl hG h (λ _ h=>?_) (λ _ h=>?_)
 · refine za0 (za1 hG ?_)
   refine zm8 ?_;exact zy2 h
 refine zh7 ?_;refine za0 (za0 (zby9 zK6 hG ?_));obtain⟨v2,hv2,h⟩:=zd0 h;refine zaA1 (λ hg=>(zbn8 a0).ok _ hv2) ?_;obtain⟨v3,hv3,h⟩:=zd0 h;refine zaA1 (λ hg=>(zaZ9 v2 a1).ok _ hv3) ?_;refine zh9 rfl hG h (λ _ h=>?_) (λ _ h=>?_)
 · refine za0 (za1 hG ?_)
   refine zm8 ?_;exact zy2 h
 refine zh7 ?_;refine za0 (za1 hG ?_);obtain⟨v4,hv4,h⟩:=zd0 h;refine zr3 (λ hg=>(zaP9 a0).ok _ hv4) ?_;refine za0 (za1 hG ?_);obtain⟨v5,hv5,h⟩:=zd0 h;refine zs8 [(0,3),(1,4),(2,1)] [] [0,1,2] (zbv6 _ _ _ hv5) rfl rfl ?_;refine zm8 ?_;exact zy2 h
instance zdk0(a0:aA)(a1:aF):OkP (zO8 a0 a1) 217 [ga a0,ga a1] (λ r=>.tup [ga r.1,la r.2.1,.int .i64 r.2.2]):=⟨zbU1 a0 a1⟩
attribute [local irreducible] zO8
def zaV3(j1:(List aA)×(List aY)):Option ((List aA)×(List aY)):=
 some (j1.1,j1.2)
def zaa0(a0:List aA)(g1:Int×(List aA)×(List aY))(v3:aA×(List aT)×Int)(j2:(List aY)):Option ((Int×(List aA)×(List aY))⊕((List aA)×(List aY))):=
 (zf6 (((a0.getD g1.1.toNat aA.zero).aB).name) v3.2.1 j2).bind λ v5=>
 gd (0<=g1.1/\g1.1<((g1.2.1.length:Nat):Int))<|
 some (.inl ((i64.wrap (g1.1+1)),g1.2.1.set g1.1.toNat v3.1,v5))
def zaa1(a0:List aA)(a1:aF)(g1:Int×(List aA)×(List aY)):Option ((Int×(List aA)×(List aY))⊕((List aA)×(List aY))):=
 (if(decide (g1.1<(a0.length:Int)))=true then
  gd (0<=g1.1/\g1.1<(a0.length:Int))<|
  (zO8 (a0.getD g1.1.toNat aA.zero) a1).bind λ v3=>
  (if(!decide (v3.2.2=0))=true then
   some (.inl ((i64.wrap (g1.1+1)),g1.2.1,g1.2.2))
  else
   (zl0 (a0.getD g1.1.toNat aA.zero) a1).bind λ v4=>
   (if(!decide (v4={aC.zero with}))=true then
    gd (g1.2.2.length+1<=4294967296)<|
    zaa0 a0 g1 v3 (g1.2.2++[(zaN3 a1 (((a0.getD g1.1.toNat aA.zero).aB).name) ({aC.zero with}))])
   else
    zaa0 a0 g1 v3 g1.2.2))
 else
  some (.inr (g1.2.1,g1.2.2)))
def zO9(a0:List aA)(a1:aF):Option ((List aA)×(List aY)):=
 (zG3 a0).bind λ v1=>
 (if(!v1)=true then
  some ([],[])
 else
  (zd3 a0 (-1) ({aA.zero with})).bind λ v2=>
  (zc1 (zaa1 a0 a1) (0,v2,[])).bind (λ z=>zaV3 z))
@[reducible,instance] def zeC5 a0 a1 {T1:Type} (v1:T1) {T2:Type} (v2:T2):=mkJ ((zO9 a0 a1,v1),v2) 0 (@zaV3.eq_1) λ(j1:(List aA)×(List aY))=>⟨[(6,.own 0 0 j1.1.length),(7,.own 1 0 j1.2.length)],[(0,sx j1.1),(1,sx j1.2)],2⟩
@[reducible,instance] def zeC6 (a0:List aA) (a1:aF) (g1:Int×(List aA)×(List aY)) (v3:aA×(List aT)×Int) {T1:Type} (v4:T1):=mkJ ((zaa1 a0 a1 g1,v3),v4) 999 (@zaa0.eq_1 a0 g1 v3) λ(j2:(List aY))=>⟨[(3,.ptr 0 0 0),(6,.own 1 0 g1.2.1.length),(7,.own 2 0 j2.length),(8,.int .i64 g1.1),(9,.ptr 3 0 0),(10,.ptr 4 0 0),(11,la v3.2.1),(19,la a0),(20,.int .i64 (a0.length:Int)),(21,.int .i64 g1.1)],[(0,bx a1),(1,sx g1.2.1),(2,sx j2),(3,bx (a0.getD g1.1.toNat aA.zero)),(4,bx v3.1)],5⟩
@[reducible,instance] def zeC7 (a0:List aA) (a1:aF) {T:Type} (x:T):=mkL x (@zaa1.eq_1 a0 a1) λ(g1:Int×(List aA)×(List aY))=>⟨[(3,.ptr 0 0 0),(6,.own 1 0 g1.2.1.length),(7,.own 2 0 g1.2.2.length),(19,la a0),(20,.int .i64 (a0.length:Int)),(21,.int .i64 g1.1)],[(0,bx a1),(1,sx g1.2.1),(2,sx g1.2.2)],3⟩
instance zdr2(a0:List aA)(a1:aF):OkP (zO9 a0 a1) 157 [la a0,ga a1] (λ r=>.tup [la r.1,la r.2]):=ok1 (zO9.eq_1 a0 a1) Tryz.f157 [(18,1),(7,1)]
attribute [local irreducible] zO9
def zF4(a0:aZ):Option Bool:=
 (zD4 a0).bind λ v1=>
 some v1.2
instance zcU6(a0:aZ):OkP (zF4 a0) 218 [ga a0] (λ r=>.bool r):=ok1 (zF4.eq_1 a0) Tryz.f218 []
attribute [local irreducible] zF4
def zaf6(a0:List aD)(a1:Int):Option (bC×Int):=
 (zu1 a0).bind λ v1=>
 (if(((!v1)||decide (a1<0))||decide (4<=a1))=true then
  some ({bC.zero with},1)
 else
  (zq5 a0 a1).bind λ v2=>
  (zH8 v2).bind λ v3=>
  (if(!decide (v3.2=0))=true then
   some ({bC.zero with},1)
  else
   some ({bC.zero with aG:=v3.1},0)))
instance zdN6(a0:List aD)(a1:Int):OkP (zaf6 a0 a1) 11 [la a0,.int .i64 a1] (λ r=>.tup [ga r.1,.int .i64 r.2]):=ok1 (zaf6.eq_1 a0 a1) Tryz.f11 []
attribute [local irreducible] zaf6
attribute [local irreducible] zab4 zN0 zv5 zD0 zA9 zG2 zD1 zx4
def zT0(a0:aA)(a1:aF)(a2:aC):Option (aA×(List aT)×Int):=
 (zy5 a0).bind λ v1=>
 (if(!v1)=true then
  some ({aA.zero with},[],2)
 else
  (zl0 a0 a1).bind λ v2=>
  (if(zk5 v2)=true then
   some ({aA.zero with},[],10)
  else
   (zl7 a0.aH a1).bind λ v3=>
   (if(decide (0<=v3))=true then
    some ({aA.zero with},[],14)
   else
    (zo2 a0.aB v2 a2).bind λ v4=>
    (if(!v4)=true then
     some ({aA.zero with},[],12)
    else
     (zj9 a0).bind λ v5=>
     (if(decide (a2=v2))=true then
      some (v5,[],0)
     else
      (zC0 v5 a1 a2).bind λ v6=>
      some (v6.1,v6.2.1,v6.2.2.1))))))
theorem zce0(a0:aA)(a1:aF)(a2:aC)(r:aA×(List aT)×Int)(h:zT0 a0 a1 a2=some r):PFn C 154 [ga a0,ga a1,ga a2] (.tup [ga r.1,la r.2.1,.int .i64 r.2.2]):=by
 refine zW4 Tryz.f154 [(41,1)] λ E hG hN hK=>?_;unfold zT0 at h;refine za0 (za1 hG ?_);refine za0 (za0 (za1 hG ?_));obtain⟨v1,hv1,h⟩:=zd0 h;refine zr3 (λ hg=>(zaB8 a0).ok _ hv1) ?_;refine zh9 rfl hG h (λ _ h=>?_) (λ _ h=>?_)
 · refine za0 (za1 hG ?_)
   refine zm8 ?_;exact zy2 h
 refine zh7 ?_;refine za0 (za1 hG ?_);obtain⟨v2,hv2,h⟩:=zd0 h;refine zr3 (λ hg=>(zaX4 a0 a1).ok _ hv2) ?_;refine za0 (za0 (za1 hG ?_));refine zr3 (λ hg=>(zaQ1 v2).ok) ?_;refine zh9 rfl hG h (λ _ h=>?_) (λ _ h=>?_)
 · refine za0 (za1 hG ?_)
   refine zm8 ?_;exact zy2 h
 refine zh7 ?_;refine za0 (za0 (za1 hG ?_));obtain⟨v3,hv3,h⟩:=zd0 h;refine zr3 (λ hg=>(zcy3 a0.aH a1).ok _ hv3) ?_;refine zh9 rfl hG h (λ _ h=>?_) (λ _ h=>?_)
 · refine za0 (za1 hG ?_)
   refine zm8 ?_;exact zy2 h
 refine zh7 ?_;refine za0 (za0 (za1 hG ?_));obtain⟨v4,hv4,h⟩:=zd0 h;refine zr3 (λ hg=>(zba3 a0.aB v2 a2).ok _ hv4) ?_;refine zh9 rfl hG h (λ _ h=>?_) (λ _ h=>?_)
 · refine za0 (za1 hG ?_)
   refine zm8 ?_;exact zy2 h
 refine zh7 ?_;refine za0 (za1 hG ?_);obtain⟨v5,hv5,h⟩:=zd0 h;refine zr3 (λ hg=>(zaP9 a0).ok _ hv5) ?_;refine za0 (za0 (za1 hG ?_));refine zh9 rfl hG h (λ _ h=>?_) (λ _ h=>?_)
 · refine za0 (za1 hG ?_)
   refine zm8 ?_;exact zy2 h
 refine zh7 ?_;refine za0 (za1 hG ?_);obtain⟨v6,hv6,h⟩:=zd0 h;refine zs8 [(0,5),(1,6),(2,1),(3,2)] [] [0,1,2,3] (zbv5 _ _ _ _ hv6) rfl rfl ?_;refine zm8 ?_;exact zy2 h
instance zdr3(a0:aA)(a1:aF)(a2:aC):OkP (zT0 a0 a1 a2) 154 [ga a0,ga a1,ga a2] (λ r=>.tup [ga r.1,la r.2.1,.int .i64 r.2.2]):=⟨zce0 a0 a1 a2⟩
attribute [local irreducible] zT0
def zaF8(a0:aS)(j1:Unit):Option Bool:=
 (zB0 a0).bind λ v2=>
 some (decide ((v2.length:Int)<=8))
def zas2(a0:aS)(g1:Int):Option (Int⊕(Unit⊕Bool)):=
 (if(decide (g1<(a0.bA.length:Int)))=true then
  gd (0<=g1/\g1<(a0.bA.length:Int))<|
  ((if(zl9 ((a0.bA.getD g1.toNat bI.zero).aI))=true then zF4 ((a0.bA.getD g1.toNat bI.zero).bK)else some false)).bind λ v3=>
  gd (((!((((!(zl9 ((a0.bA.getD g1.toNat bI.zero).aI)))||(!v3))||decide ((a0.bA.getD g1.toNat bI.zero).gen<0))||decide (1073741824<(a0.bA.getD g1.toNat bI.zero).gen)))&&decide (0<g1))=true->0<=i64.wrap (g1-1)/\i64.wrap (g1-1)<(a0.bA.length:Int))<|
  (if(((((!(zl9 ((a0.bA.getD g1.toNat bI.zero).aI)))||(!v3))||decide ((a0.bA.getD g1.toNat bI.zero).gen<0))||decide (1073741824<(a0.bA.getD g1.toNat bI.zero).gen))||(decide (0<g1)&&decide (0<=zt7 ((a0.bA.getD ((i64.wrap (g1-1)).toNat) bI.zero).aI) ((a0.bA.getD g1.toNat bI.zero).aI))))=true then
   some (.inr (.inr false))
  else
   some (.inl (i64.wrap (g1+1))))
 else
  some (.inr (.inl ())))
def zN2(a0:aS):Option Bool:=
 (zG2 a0.aG).bind λ v1=>
 (if((!v1)||decide (8<(a0.bA.length:Int)))=true then
  some false
 else
  (zc1 (zas2 a0) 0).bind (λ|.inl z=>zaF8 a0 z|.inr z=>some z))
@[reducible,instance] def zeC8 (a0:aS) {T1:Type} (v1:T1):=mkJ (zN2 a0,v1) 0 (@zaF8.eq_1 a0) λ(j1:Unit)=>⟨[(1,.ptr 0 0 0)],[(0,bx a0)],1⟩
@[reducible,instance] def zeC9 (a0:aS) {T:Type} (x:T):=mkL x (@zas2.eq_1 a0) λ(g1:Int)=>⟨[(1,.ptr 0 0 0),(3,.int .i64 g1)],[(0,bx a0)],1⟩
instance zdA2(a0:aS):OkP (zN2 a0) 160 [ga a0] (λ r=>.bool r):=ok1 (zN2.eq_1 a0) Tryz.f160 []
attribute [local irreducible] zN2
def zbb0(j1:Unit):Option Bool:=
 some true
def zas3(a0:aK)(g1:Int):Option (Int⊕(Unit⊕Bool)):=
 (if(decide (g1<(a0.options.length:Int)))=true then
  gd (0<=g1/\g1<(a0.options.length:Int))<|
  (zr7 (a0.options.getD g1.toNat bB.zero)).bind λ v3=>
  (if(!v3)=true then
   some (.inr (.inr false))
  else
   some (.inl (i64.wrap (g1+1))))
 else
  some (.inr (.inl ())))
def zG4 (a0:aK) (a1:Int):Option Bool:=
 (if(decide (a1=80))=true then
  some (zl9 a0.aI)
 else
  (if(decide (a1=71))=true then
   some (zam8 a0.gen)
  else
   (if(decide (a1=65))=true then
    (zg2 a0.aW.name).bind λ v1=>
    some (v1&&(((zh5 a0.aW.aJ&&(!decide (a0.kind=1)))&&(!decide (a0.kind=4)))||zu4 a0.aW.aJ))
   else
    (if(decide (a1=89))=true then
     some (decide (0<=a0.aX)&&decide (a0.aX<=7))
    else
     (if(decide (a1=83))=true then
      some (decide (0<=a0.site)&&decide (a0.site<4))
     else
      (if(decide (a1=73))=true then
       some (decide (1<=a0.inc)&&decide (a0.inc<=99))
      else
       (if(decide (a1=82))=true then
        some (zam8 a0.round)
       else
        (if(decide (a1=69))=true then
         some (zam8 a0.epoch)
        else
         (if(decide (a1=76))=true then
          some (decide (a0.label=(-1))||(decide (1<=a0.label)&&decide (a0.label<=99)))
         else
          (if(decide (a1=87))=true then
           (zN2 a0.state).bind λ v2=>
           some ((v2&&((!decide (a0.kind=7))||decide ((a0.state.aG.length:Int)=0)))&&((!decide (a0.kind=9))||decide ((a0.state.bA.length:Int)=0)))
          else
           (if(decide (a1=79))=true then
            (if(decide (40<(a0.options.length:Int)))=true then
             some false
            else
             (zc1 (zas3 a0) 0).bind (λ|.inl z=>zbb0 z|.inr z=>some z))
           else
            some true)))))))))))
@[reducible,instance] def zeD0 a0 a1:=mkJ (zG4 a0 a1) 1 (@zbb0.eq_1) λ(j1:Unit)=>⟨[],[],0⟩
@[reducible,instance] def zeD1 (a0:aK) {T:Type} (x:T):=mkL x (@zas3.eq_1 a0) λ(g1:Int)=>⟨[(139,la a0.options),(140,.int .i64 (a0.options.length:Int)),(141,.int .i64 g1)],[],0⟩
instance zdA3(a0:aK)(a1:Int):OkP (zG4 a0 a1) 108 [ga a0,.int .u8 a1] (λ r=>.bool r):=ok1 (zG4.eq_1 a0 a1) Tryz.f108 []
attribute [local irreducible] zG4
def zaB9(j2:(List Int)):Option ((List Int)×Int):=
 some (j2,0)
def zaa2(a0:aS)(g1:(List Int)×Int):Option (((List Int)×Int)⊕(List Int)):=
 (if(decide (g1.2<(a0.bA.length:Int)))=true then
  gd (0<=g1.2/\g1.2<(a0.bA.length:Int))<|
  (zh2 g1.1 ((a0.bA.getD g1.2.toNat bI.zero).aI)).bind λ v4=>
  gd (0<=g1.2/\g1.2<(a0.bA.length:Int))<|
  (zj5 v4 ((a0.bA.getD g1.2.toNat bI.zero).gen)).bind λ v5=>
  gd (0<=g1.2/\g1.2<(a0.bA.length:Int))<|
  (zv4 v5 ((a0.bA.getD g1.2.toNat bI.zero).bK)).bind λ v6=>
  some (.inl (v6,i64.wrap (g1.2+1)))
 else
  some (.inr g1.1))
def zal6(a0:aS)(j1:(List Int)):Option ((List Int)×Int):=
 (zj5 j1 (a0.bA.length:Int)).bind λ v3=>
 (zc1 (zaa2 a0) (v3,0)).bind (λ z=>zaB9 z)
def zaC0(g2:(List Int)×Int)(j5:(List Int)):Option (((List Int)×Int)⊕(List Int)):=
 some (.inl (j5,i64.wrap (g2.2+1)))
def zaa3(a0:aS)(g2 g3:(List Int)×Int):Option (((List Int)×Int)⊕(List Int)):=
 (if(decide (g3.2<(((a0.aG.getD g2.2.toNat aA.zero).aU).length:Int)))=true then
  gd (0<=g3.2/\g3.2<(((a0.aG.getD g2.2.toNat aA.zero).aU).length:Int))<|
  (zh2 g3.1 ((((a0.aG.getD g2.2.toNat aA.zero).aU).getD g3.2.toNat aM.zero).aI)).bind λ v15=>
  (zm1 v15 ((((a0.aG.getD g2.2.toNat aA.zero).aU).getD g3.2.toNat aM.zero).aJ)).bind λ v16=>
  (zj5 v16 ((((a0.aG.getD g2.2.toNat aA.zero).aU).getD g3.2.toNat aM.zero).aX)).bind λ v17=>
  (zj5 v17 ((((a0.aG.getD g2.2.toNat aA.zero).aU).getD g3.2.toNat aM.zero).bG)).bind λ v18=>
  some (.inl (v18,i64.wrap (g3.2+1)))
 else
  some (.inr g3.1))
def zal7(a0:aS)(g2:(List Int)×Int)(j4:(List Int)):Option (((List Int)×Int)⊕(List Int)):=
 (zj5 j4 (((a0.aG.getD g2.2.toNat aA.zero).aU).length:Int)).bind λ v14=>
 (zc1 (zaa3 a0 g2) (v14,0)).bind (λ z=>zaC0 g2 z)
def zaa4(a0:aS)(g2 g4:(List Int)×Int):Option (((List Int)×Int)⊕(List Int)):=
 (if(decide (g4.2<(((a0.aG.getD g2.2.toNat aA.zero).aH).length:Int)))=true then
  gd (0<=g4.2/\g4.2<(((a0.aG.getD g2.2.toNat aA.zero).aH).length:Int))<|
  (zh2 g4.1 ((((a0.aG.getD g2.2.toNat aA.zero).aH).getD g4.2.toNat aM.zero).aI)).bind λ v19=>
  gd (0<=g4.2/\g4.2<(((a0.aG.getD g2.2.toNat aA.zero).aH).length:Int))<|
  (zm1 v19 ((((a0.aG.getD g2.2.toNat aA.zero).aH).getD g4.2.toNat aM.zero).aJ)).bind λ v20=>
  some (.inl (v20,i64.wrap (g4.2+1)))
 else
  some (.inr g4.1))
def zal8(a0:aS)(g2:(List Int)×Int)(j3:(List Int)):Option (((List Int)×Int)⊕(List Int)):=
 (zj5 j3 (((a0.aG.getD g2.2.toNat aA.zero).aH).length:Int)).bind λ v13=>
 (zc1 (zaa4 a0 g2) (v13,0)).bind (λ z=>zal7 a0 g2 z)
def zaa5(a0:aS)(g2 g5:(List Int)×Int):Option (((List Int)×Int)⊕(List Int)):=
 (if(decide (g5.2<(((a0.aG.getD g2.2.toNat aA.zero).aL).length:Int)))=true then
  gd (0<=g5.2/\g5.2<(((a0.aG.getD g2.2.toNat aA.zero).aL).length:Int))<|
  (zh2 g5.1 ((((a0.aG.getD g2.2.toNat aA.zero).aL).getD g5.2.toNat aT.zero).aI)).bind λ v21=>
  gd (0<=g5.2/\g5.2<(((a0.aG.getD g2.2.toNat aA.zero).aL).length:Int))<|
  (zm1 v21 ((((a0.aG.getD g2.2.toNat aA.zero).aL).getD g5.2.toNat aT.zero).aJ)).bind λ v22=>
  some (.inl (v22,i64.wrap (g5.2+1)))
 else
  some (.inr g5.1))
def zQ6(a0:aS)(g2:(List Int)×Int):Option (((List Int)×Int)⊕(List Int)):=
 (if(decide (g2.2<(a0.aG.length:Int)))=true then
  gd (0<=g2.2/\g2.2<(a0.aG.length:Int))<|
  (zj0 g2.1 (((a0.aG.getD g2.2.toNat aA.zero).aB).name)).bind λ v7=>
  (zj5 v7 (((a0.aG.getD g2.2.toNat aA.zero).aB).kind)).bind λ v8=>
  (zj5 v8 (((a0.aG.getD g2.2.toNat aA.zero).aB).aV)).bind λ v9=>
  (zj5 v9 (((a0.aG.getD g2.2.toNat aA.zero).aB).home)).bind λ v10=>
  (zj5 v10 ((a0.aG.getD g2.2.toNat aA.zero).gen)).bind λ v11=>
  (zj5 v11 (((a0.aG.getD g2.2.toNat aA.zero).aL).length:Int)).bind λ v12=>
  (zc1 (zaa5 a0 g2) (v12,0)).bind (λ z=>zal8 a0 g2 z)
 else
  some (.inr g2.1))
def zP0(a0:aS):Option ((List Int)×Int):=
 (zN2 a0).bind λ v1=>
 (if(!v1)=true then
  some ([],2)
 else
  (zj5 [] (a0.aG.length:Int)).bind λ v2=>
  (zc1 (zQ6 a0) (v2,0)).bind (λ z=>zal6 a0 z))
@[reducible,instance] def zeD2 a0 j1 {T1:Type} (v3:T1):=mkJ (zal6 a0 j1,v3) 8 (@zaB9.eq_1) λ(j2:(List Int))=>⟨[(4,.sl (j2.map (eI .u8)))],[],0⟩
@[reducible,instance] def zeD3 (a0:aS) {T:Type} (x:T):=mkL x (@zaa2.eq_1 a0) λ(g1:(List Int)×Int)=>⟨[(1,.ptr 0 0 0),(4,.sl (g1.1.map (eI .u8))),(12,.int .i64 g1.2)],[(0,bx a0)],1⟩
@[reducible,instance] def zeD4 (a0:aS) {T1:Type} (v1:T1) {T2:Type} (v2:T2):=mkJ ((zP0 a0,v1),v2) 0 (@zal6.eq_1 a0) λ(j1:(List Int))=>⟨[(1,.ptr 0 0 0),(4,.sl (j1.map (eI .u8)))],[(0,bx a0)],1⟩
@[reducible,instance] def zeD5 (a0:aS) (g2:(List Int)×Int) j4 {T1:Type} (v14:T1):=mkJ (zal7 a0 g2 j4,v14) 6 (@zaC0.eq_1 g2) λ(j5:(List Int))=>⟨[(1,.ptr 0 0 0),(4,.sl (j5.map (eI .u8))),(5,.int .i64 g2.2)],[(0,bx a0)],1⟩
@[reducible,instance] def zeD6 (a0:aS) (g2:(List Int)×Int) {T:Type} (x:T):=mkL x (@zaa3.eq_1 a0 g2) λ(g3:(List Int)×Int)=>⟨[(1,.ptr 0 0 0),(4,.sl (g3.1.map (eI .u8))),(5,.int .i64 g2.2),(6,.ptr 1 0 0),(10,.int .i64 g3.2)],[(0,bx a0),(1,bx (a0.aG.getD g2.2.toNat aA.zero))],2⟩
@[reducible,instance] def zeD7 (a0:aS) (g2:(List Int)×Int) j3 {T1:Type} (v13:T1):=mkJ (zal8 a0 g2 j3,v13) 4 (@zal7.eq_1 a0 g2) λ(j4:(List Int))=>⟨[(1,.ptr 0 0 0),(4,.sl (j4.map (eI .u8))),(5,.int .i64 g2.2),(6,.ptr 1 0 0)],[(0,bx a0),(1,bx (a0.aG.getD g2.2.toNat aA.zero))],2⟩
@[reducible,instance] def zeD8 (a0:aS) (g2:(List Int)×Int) {T:Type} (x:T):=mkL x (@zaa4.eq_1 a0 g2) λ(g4:(List Int)×Int)=>⟨[(1,.ptr 0 0 0),(4,.sl (g4.1.map (eI .u8))),(5,.int .i64 g2.2),(6,.ptr 1 0 0),(9,.int .i64 g4.2)],[(0,bx a0),(1,bx (a0.aG.getD g2.2.toNat aA.zero))],2⟩
@[reducible,instance] def zeD9 (a0:aS) (g2:(List Int)×Int) {T1:Type} (v7:T1) {T2:Type} (v8:T2) {T3:Type} (v9:T3) {T4:Type} (v10:T4) {T5:Type} (v11:T5) {T6:Type} (v12:T6):=mkJ ((((((zQ6 a0 g2,v7),v8),v9),v10),v11),v12) 2 (@zal8.eq_1 a0 g2) λ(j3:(List Int))=>⟨[(1,.ptr 0 0 0),(4,.sl (j3.map (eI .u8))),(5,.int .i64 g2.2),(6,.ptr 1 0 0)],[(0,bx a0),(1,bx (a0.aG.getD g2.2.toNat aA.zero))],2⟩
@[reducible,instance] def zeE0 (a0:aS) (g2:(List Int)×Int) {T:Type} (x:T):=mkL x (@zaa5.eq_1 a0 g2) λ(g5:(List Int)×Int)=>⟨[(1,.ptr 0 0 0),(4,.sl (g5.1.map (eI .u8))),(5,.int .i64 g2.2),(6,.ptr 1 0 0),(8,.int .i64 g5.2)],[(0,bx a0),(1,bx (a0.aG.getD g2.2.toNat aA.zero))],2⟩
@[reducible,instance] def zeE1 (a0:aS) {T:Type} (x:T):=mkL x (@zQ6.eq_1 a0) λ(g2:(List Int)×Int)=>⟨[(1,.ptr 0 0 0),(4,.sl (g2.1.map (eI .u8))),(5,.int .i64 g2.2)],[(0,bx a0)],1⟩
instance zdr4(a0:aS):OkP (zP0 a0) 165 [ga a0] (λ r=>.tup [.sl (r.1.map (eI .u8)),.int .i64 r.2]):=ok1 (zP0.eq_1 a0) Tryz.f165 []
attribute [local irreducible] zP0
def zan9(a0:aS)(j2:Unit):Option Bool:=
 (zy1 a0).bind λ v1=>
 some (decide ((v1.length:Int)<=8))
def zA2(a0:aS)(g1:Int):Option (Int⊕(Unit⊕Bool)):=
 (if(decide (g1<(a0.bA.length:Int)))=true then
  gd (0<=g1/\g1<(a0.bA.length:Int))<|
  ((if(!(((!(za3 ((a0.bA.getD g1.toNat bI.zero).aI)))||decide ((a0.bA.getD g1.toNat bI.zero).gen<0))||decide (1073741824<(a0.bA.getD g1.toNat bI.zero).gen)))=true then zp7 ((a0.bA.getD g1.toNat bI.zero).bK)else some false)).bind λ v2=>
  (if((((!(za3 ((a0.bA.getD g1.toNat bI.zero).aI)))||decide ((a0.bA.getD g1.toNat bI.zero).gen<0))||decide (1073741824<(a0.bA.getD g1.toNat bI.zero).gen))||(!v2))=true then
   some (.inr (.inr false))
  else
   gd (decide (0<g1)=true->0<=i64.wrap (g1-1)/\i64.wrap (g1-1)<(a0.bA.length:Int))<|
   ((if(decide (0<g1))=true then zc4 ((a0.bA.getD ((i64.wrap (g1-1)).toNat) bI.zero).aI) ((a0.bA.getD g1.toNat bI.zero).aI)else some 0)).bind λ v3=>
   (if(decide (0<g1)&&decide (0<=v3))=true then
    some (.inr (.inr false))
   else
    some (.inl (i64.wrap (g1+1)))))
 else
  some (.inr (.inl ())))
def zaa6(a0:aS)(j1:Unit):Option Bool:=
 (zc1 (zA2 a0) 0).bind (λ|.inl z=>zan9 a0 z|.inr z=>some z)
def zaa7(a0:aS)(g2:Int):Option (Int⊕(Unit⊕Bool)):=
 (if(decide (g2<(a0.aG.length:Int)))=true then
  gd (0<=g2/\g2<(a0.aG.length:Int))<|
  (zy5 (a0.aG.getD g2.toNat aA.zero)).bind λ v4=>
  gd ((v4&&decide (0<g2))=true->0<=i64.wrap (g2-1)/\i64.wrap (g2-1)<(a0.aG.length:Int))<|
  (if((!v4)||(decide (0<g2)&&(!Op.bytesLess (((a0.aG.getD ((i64.wrap (g2-1)).toNat) aA.zero).aB).name).toList (((a0.aG.getD g2.toNat aA.zero).aB).name).toList)))=true then
   some (.inr (.inr false))
  else
   some (.inl (i64.wrap (g2+1))))
 else
  some (.inr (.inl ())))
def zz8(a0:aS):Option Bool:=
 (if(decide (8<(a0.aG.length:Int))||decide (8<(a0.bA.length:Int)))=true then
  some false
 else
  (zc1 (zaa7 a0) 0).bind (λ|.inl z=>zaa6 a0 z|.inr z=>some z))
@[reducible,instance] def zeE2 (a0:aS) j1:=mkJ (zaa6 a0 j1) 2 (@zan9.eq_1 a0) λ(j2:Unit)=>⟨[(1,.ptr 0 0 0)],[(0,bx a0)],1⟩
@[reducible,instance] def zeE3 (a0:aS) {T:Type} (x:T):=mkL x (@zA2.eq_1 a0) λ(g1:Int)=>⟨[(1,.ptr 0 0 0),(48,la a0.bA),(49,.int .i64 (a0.bA.length:Int)),(50,.int .i64 g1)],[(0,bx a0)],1⟩
@[reducible,instance] def zeE4 (a0:aS):=mkJ (zz8 a0) 0 (@zaa6.eq_1 a0) λ(j1:Unit)=>⟨[(1,.ptr 0 0 0)],[(0,bx a0)],1⟩
@[reducible,instance] def zeE5 (a0:aS) {T:Type} (x:T):=mkL x (@zaa7.eq_1 a0) λ(g2:Int)=>⟨[(1,.ptr 0 0 0),(18,la a0.aG),(19,.int .i64 (a0.aG.length:Int)),(20,.int .i64 g2)],[(0,bx a0)],1⟩
instance zcU7(a0:aS):OkP (zz8 a0) 195 [ga a0] (λ r=>.bool r):=ok1 (zz8.eq_1 a0) Tryz.f195 []
attribute [local irreducible] zz8
def zaV4(j1:Unit):Option Bool:=
 some true
def zal9(a0:aK)(g1:Int):Option (Int⊕(Unit⊕Bool)):=
 (if(decide (g1<(a0.options.length:Int)))=true then
  gd (0<=g1/\g1<(a0.options.length:Int))<|
  (zj6 (a0.options.getD g1.toNat bB.zero)).bind λ v5=>
  (if(!v5)=true then
   some (.inr (.inr false))
  else
   some (.inl (i64.wrap (g1+1))))
 else
  some (.inr (.inl ())))
def zw4(a0:aK)(a1:Int):Option Bool:=
 (if(decide (a1=80))=true then
  some (za3 a0.aI)
 else
  (if(decide (a1=65))=true then
   (zc5 a0.aW.name).bind λ v1=>
   some (v1&&zab3 a0.aW.aJ)
  else
   (if(decide (a1=97))=true then
    (zc5 a0.aW.name).bind λ v2=>
    some (v2&&(decide (a0.aW.aJ={aC.zero with})||zab3 a0.aW.aJ))
   else
    (if(decide (a1=78))=true then
     ((if(decide ((a0.state.aG.length:Int)=0))=true then zz8 a0.state else some false)).bind λ v3=>
     some (decide ((a0.state.aG.length:Int)=0)&&v3)
    else
     (if(decide (a1=76))=true then
      ((if(decide ((a0.state.bA.length:Int)=0))=true then zz8 a0.state else some false)).bind λ v4=>
      some (decide ((a0.state.bA.length:Int)=0)&&v4)
     else
      (if(decide (a1=79))=true then
       (if(decide (40<(a0.options.length:Int)))=true then
        some false
       else
        (zc1 (zal9 a0) 0).bind (λ|.inl z=>zaV4 z|.inr z=>some z))
      else
       some true))))))
@[reducible,instance] def zeE6 a0 a1:=mkJ (zw4 a0 a1) 1 (@zaV4.eq_1) λ(j1:Unit)=>⟨[],[],0⟩
@[reducible,instance] def zeE7 (a0:aK) {T:Type} (x:T):=mkL x (@zal9.eq_1 a0) λ(g1:Int)=>⟨[(77,la a0.options),(78,.int .i64 (a0.options.length:Int)),(79,.int .i64 g1)],[],0⟩
instance zbU2(a0:aK)(a1:Int):OkP (zw4 a0 a1) 141 [ga a0,.int .u8 a1] (λ r=>.bool r):=ok1 (zw4.eq_1 a0 a1) Tryz.f141 []
attribute [local irreducible] zw4
def zak2(j2:(List Int)):Option ((List Int)×Int):=
 some (j2,0)
def zL1(a0:aS)(g1:(List Int)×Int):Option (((List Int)×Int)⊕(List Int)):=
 (if(decide (g1.2<(a0.bA.length:Int)))=true then
  gd (0<=g1.2/\g1.2<(a0.bA.length:Int))<|
  (zj2 g1.1 ((a0.bA.getD g1.2.toNat bI.zero).aI)).bind λ v4=>
  (zb6 v4 [(a0.bA.getD g1.2.toNat bI.zero).gen]).bind λ v5=>
  (zj3 v5 ((a0.bA.getD g1.2.toNat bI.zero).bK)).bind λ v6=>
  some (.inl (v6,i64.wrap (g1.2+1)))
 else
  some (.inr g1.1))
def zW0(a0:aS)(j1:(List Int)):Option ((List Int)×Int):=
 (zb6 j1 [(a0.bA.length:Int)]).bind λ v3=>
 (zc1 (zL1 a0) (v3,0)).bind (λ z=>zak2 z)
def zL2(a0:aS)(g2:(List Int)×Int):Option (((List Int)×Int)⊕(List Int)):=
 (if(decide (g2.2<(a0.aG.length:Int)))=true then
  gd (0<=g2.2/\g2.2<(a0.aG.length:Int))<|
  (zi8 g2.1 (a0.aG.getD g2.2.toNat aA.zero)).bind λ v7=>
  some (.inl (v7,i64.wrap (g2.2+1)))
 else
  some (.inr g2.1))
def zA4(a0:aS):Option ((List Int)×Int):=
 (zz8 a0).bind λ v1=>
 (if(!v1)=true then
  some ([],2)
 else
  (zb6 [] [(a0.aG.length:Int)]).bind λ v2=>
  (zc1 (zL2 a0) (v2,0)).bind (λ z=>zW0 a0 z))
@[reducible,instance] def zeE8 a0 j1 {T1:Type} (v3:T1):=mkJ (zW0 a0 j1,v3) 2 (@zak2.eq_1) λ(j2:(List Int))=>⟨[(4,.sl (j2.map (eI .u8)))],[],0⟩
@[reducible,instance] def zeE9 (a0:aS) {T:Type} (x:T):=mkL x (@zL1.eq_1 a0) λ(g1:(List Int)×Int)=>⟨[(4,.sl (g1.1.map (eI .u8))),(35,la a0.bA),(36,.int .i64 (a0.bA.length:Int)),(37,.int .i64 g1.2)],[],0⟩
@[reducible,instance] def zeF0 (a0:aS) {T1:Type} (v1:T1) {T2:Type} (v2:T2):=mkJ ((zA4 a0,v1),v2) 0 (@zW0.eq_1 a0) λ(j1:(List Int))=>⟨[(1,.ptr 0 0 0),(4,.sl (j1.map (eI .u8)))],[(0,bx a0)],1⟩
@[reducible,instance] def zeF1 (a0:aS) {T:Type} (x:T):=mkL x (@zL2.eq_1 a0) λ(g2:(List Int)×Int)=>⟨[(1,.ptr 0 0 0),(4,.sl (g2.1.map (eI .u8))),(18,la a0.aG),(19,.int .i64 (a0.aG.length:Int)),(20,.int .i64 g2.2)],[(0,bx a0)],1⟩
instance zbv7(a0:aS):OkP (zA4 a0) 199 [ga a0] (λ r=>.tup [.sl (r.1.map (eI .u8)),.int .i64 r.2]):=ok1 (zA4.eq_1 a0) Tryz.f199 []
attribute [local irreducible] zA4
def zT1 (a0:aA) (a1:aF) (a2:aC) (a3:Int):Option (aA×(List aT)×Int):=
 (zy5 a0).bind λ v1=>
 (if(!v1)=true then
  some ({aA.zero with},[],2)
 else
  (if(((!(za3 a1))||decide (a3<0))||decide (7<a3))=true then
   some ({aA.zero with},[],1)
  else
   (if(!(zb4 a0.aB a2))=true then
    some ({aA.zero with},[],12)
   else
    (zo4 a0 a1).bind λ v2=>
    (if v2.2=true then
     some ({aA.zero with},[],14)
    else
     (zg6 a0).bind λ v3=>
     (zl0 a0 a1).bind λ v4=>
     (zo2 a0.aB v4 a2).bind λ v5=>
     (if v5=true then
      some (v3,[],0)
     else
      (if(!(zk5 v4))=true then
       (zE1 v3 v4 a2 a1).bind λ v6=>
       some (v6.1,v6.2.1,v6.2.2.1)
      else
       (if(decide (8<=i64.wrap ((a0.aL.length:Int)+(a0.aU.length:Int))))=true then
        some ({aA.zero with},[],4)
       else
        (zw8 a0.aU ({aM.zero with aI:=a1,aJ:=a2,aX:=a3})).bind λ v7=>
        (if(!decide (v7.2.2=0))=true then
         some ({aA.zero with},[],v7.2.2)
        else
         (zB8 v3 v7.1).bind λ v8=>
         some (v8.1,v8.2.1,v8.2.2.1)))))))))
theorem zce1(a0:aA)(a1:aF)(a2:aC)(a3:Int)(r:aA×(List aT)×Int)(h:zT1 a0 a1 a2 a3=some r):PFn C 147 [ga a0,ga a1,ga a2,.int .i64 a3] (.tup [ga r.1,la r.2.1,.int .i64 r.2.2]):=by
 refine zW4 Tryz.f147 [(49,1),(63,1),(93,1)] λ E hG hN hK=>?_;unfold zT1 at h;refine za0 (za1 hG ?_);refine za0 (za0 (za1 hG ?_));obtain⟨v1,hv1,h⟩:=zd0 h;refine zr3 (λ hg=>(zaB8 a0).ok _ hv1) ?_;refine zh9 rfl hG h (λ _ h=>?_) (λ _ h=>?_)
 · refine za0 (za1 hG ?_)
   refine zm8 ?_;exact zy2 h
 refine zh7 ?_;refine za0 (za0 (za1 hG ?_));refine zr3 (λ hg=>(zbz6 a1).ok) ?_;refine zh9 rfl hG h (λ _ h=>?_) (λ _ h=>?_)
 · refine za0 (za1 hG ?_)
   refine zm8 ?_;exact zy2 h
 refine zh7 ?_;refine za0 (za0 (za1 hG ?_));refine zr3 (λ hg=>(zcc8 a0.aB a2).ok) ?_;refine zh9 rfl hG h (λ _ h=>?_) (λ _ h=>?_)
 · refine za0 (za1 hG ?_)
   refine zm8 ?_;exact zy2 h
 refine zh7 ?_;refine za0 (za0 (za1 hG ?_));obtain⟨v2,hv2,h⟩:=zd0 h;refine zr3 (λ hg=>(zaM1 a0 a1).ok _ hv2) ?_;refine za0 (za1 hG ?_);refine zh9 rfl hG h (λ _ h=>?_) (λ _ h=>?_)
 · refine za0 (za1 hG ?_)
   refine zm8 ?_;exact zy2 h
 refine zh7 ?_;refine za0 (zaE3 zK6 hG ?_);obtain⟨v3,hv3,h⟩:=zd0 h;refine zbF3 [] [(0,5),(1,6),(2,7)] [0,1,2] (zbF4 _ _ hv3) rfl rfl ?_;obtain⟨v4,hv4,h⟩:=zd0 h;refine zS0 (λ hg=>(zaX4 a0 a1).ok _ hv4) ?_;refine za0 (za0 (za1 hG ?_));obtain⟨v5,hv5,h⟩:=zd0 h;refine zr3 (λ hg=>(zba3 a0.aB v4 a2).ok _ hv5) ?_;refine zh9 rfl hG h (λ _ h=>?_) (λ _ h=>?_)
 · refine za0 (za1 hG ?_)
   refine zm8 ?_;exact zy2 h
 refine zh7 ?_;refine za0 (za0 (za1 hG ?_));refine zr3 (λ hg=>(zaQ1 v4).ok) ?_;refine zh9 rfl hG h (λ _ h=>?_) (λ _ h=>?_)
 · refine za0 (za1 hG ?_)
   obtain⟨v6,hv6,h⟩:=zd0 h;refine zs8 [(0,8),(1,10),(2,5),(3,6),(4,7),(5,9),(6,2),(7,1)] [] [0,1,2,3,4,5,6,7] (zbA1 _ _ _ _ _ hv6) rfl rfl ?_;refine zm8 ?_;exact zy2 h
 refine zh7 ?_;refine za0 (za0 (za1 hG ?_));refine zh9 rfl hG h (λ _ h=>?_) (λ _ h=>?_)
 · refine za0 (za1 hG ?_)
   refine zm8 ?_;exact zy2 h
 refine zh7 ?_;refine za0 (za1 hG ?_);obtain⟨v7,hv7,h⟩:=zd0 h;refine zr3 (λ hg=>(zcd3 a0.aU ({aM.zero with aI:=a1,aJ:=a2,aX:=a3})).ok _ hv7) ?_;refine za0 (za0 (za1 hG ?_));refine zh9 rfl hG h (λ _ h=>?_) (λ _ h=>?_)
 · refine za0 (za1 hG ?_)
   refine zm8 ?_;exact zy2 h
 refine zh7 ?_;refine za0 (za1 hG ?_);obtain⟨v8,hv8,h⟩:=zd0 h;refine zs8 [(0,8),(1,11),(2,5),(3,6),(4,7),(5,10)] [] [0,1,2,3,4,5] (zbv3 _ _ _ hv8) rfl rfl ?_;refine zm8 ?_;exact zy2 h
instance zdr5(a0:aA)(a1:aF)(a2:aC)(a3:Int):OkP (zT1 a0 a1 a2 a3) 147 [ga a0,ga a1,ga a2,.int .i64 a3] (λ r=>.tup [ga r.1,la r.2.1,.int .i64 r.2.2]):=⟨zce1 a0 a1 a2 a3⟩
attribute [local irreducible] zT1
end
end Ab
end Go.Proofs.YtdlfhmkmnjbihaaGreatDoor
