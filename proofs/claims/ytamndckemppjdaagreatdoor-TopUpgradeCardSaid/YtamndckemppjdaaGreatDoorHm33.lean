import Derived.Test.YtamndckemppjdaaGreatDoorHm32
namespace Go.Proofs.YtamndckemppjdaaGreatDoor
namespace Ab
open IntKind (i64 u64 u8 u32)
set_option linter.unusedSimpArgs false
set_option linter.defProp false
set_option linter.unusedVariables false
set_option maxRecDepth 100000
set_option maxHeartbeats 4000000
noncomputable section
attribute [local irreducible] zn9 zf4 zb7 ze8 zl6 zk8 zd0 zd6 zc8 zf7 zn2 zb8 zq7 zh1 zc1 zk5 zm2 zb4 zg1 za4 zk1 ze6 zb5 zd3 ze9 zd5 zm0 zn3 zi7 zg7 zg5 zh7 zg2 zd9 zh5 zi8 zk9 zb2 zg4 za6 zi9 za9 zb9 zf1 zj6 zf2 zi3 za8 za7 za5 zh2 zj2 zf3 zj8 zg3 zd7 zm3 zc5 zh9 zi0 zh4 zj1 zk2 zn8 zm1 zb6 zj0 zd8 zi5 zq5 zl0 zm9 zf0 zc3 zf5 zb0 zq0 zg9 zl7 zc0 zg6 zb1 zf8 zl8 zi1 zg0 zo7 zo1 zm5 zl3 zk4 zq6 zj3 zj5 zt8 zf9 zh8 zp0 zc7 ze2 ze4 ze3 zb3 zn4 zj9 zc6 zl9 zj4 zl1 zm8 zs3 zm4 ze1 zi4 zo8 zp7 zs6 zo0 zk6 zv1 zs7 zn7 zi2 zp1 zc9 zn6 zd4 f_formula_holds zc2 ze0 zp8 zr9 zh6 zf6 zq1 zt3 zp4 zu5 zl2 zv6 zm6 zr1 zl4 zu4 zr4 zm7 zn5 zr2 zd1 zq2 zr7 zr3 zt0 zt7 zq9 zi6 zq8 zD5 zt1 zp9 zD6 zt4 zu6 zv0 zt9 zk7 zp3 zo6 ze7 zB8 zu2 zu9 zr8 zu1 zw2 zG8 zy0 zy1 zE4 zE5 zz7 zE6 zE7
def zan3(a0:aA)(j2:Unit):Option Bool:=
 (zr8 a0).bind λ v1=>
 some (decide ((v1.length:Int)<=8))
def zan4(a0:aA)(g1:Int):Option (Int⊕(Unit⊕Bool)):=
 (if(decide (g1<(a0.aK.length:Int)))=true then
  gd (0<=g1/\g1<(a0.aK.length:Int))<|
  ((if(!(((!(zj7 ((a0.aK.getD g1.toNat bK.zero).aZ)))||decide ((a0.aK.getD g1.toNat bK.zero).gen<0))||decide (1073741824<(a0.aK.getD g1.toNat bK.zero).gen)))=true then zm7 ((a0.aK.getD g1.toNat bK.zero).bQ)else some false)).bind λ v2=>
  (if((((!(zj7 ((a0.aK.getD g1.toNat bK.zero).aZ)))||decide ((a0.aK.getD g1.toNat bK.zero).gen<0))||decide (1073741824<(a0.aK.getD g1.toNat bK.zero).gen))||(!v2))=true then
   some (.inr (.inr false))
  else
   gd (decide (0<g1)=true->0<=i64.wrap (g1-1)/\i64.wrap (g1-1)<(a0.aK.length:Int))<|
   ((if(decide (0<g1))=true then zd7 ((a0.aK.getD ((i64.wrap (g1-1)).toNat) bK.zero).aZ) ((a0.aK.getD g1.toNat bK.zero).aZ)else some 0)).bind λ v3=>
   (if(decide (0<g1)&&decide (0<=v3))=true then
    some (.inr (.inr false))
   else
    some (.inl (i64.wrap (g1+1)))))
 else
  some (.inr (.inl ())))
def zY1(a0:aA)(j1:Unit):Option Bool:=
 (zg8 (zan4 a0) 0).bind (λ|.inl z=>zan3 a0 z|.inr z=>some z)
def zan5(a0:aA)(g2:Int):Option (Int⊕(Unit⊕Bool)):=
 (if(decide (g2<(a0.aB.length:Int)))=true then
  gd (0<=g2/\g2<(a0.aB.length:Int))<|
  (zz7 (a0.aB.getD g2.toNat aC.zero)).bind λ v4=>
  gd ((v4&&decide (0<g2))=true->0<=i64.wrap (g2-1)/\i64.wrap (g2-1)<(a0.aB.length:Int))<|
  (if((!v4)||(decide (0<g2)&&(!Op.bytesLess (((a0.aB.getD ((i64.wrap (g2-1)).toNat) aC.zero).aQ).name).toList (((a0.aB.getD g2.toNat aC.zero).aQ).name).toList)))=true then
   some (.inr (.inr false))
  else
   some (.inl (i64.wrap (g2+1))))
 else
  some (.inr (.inl ())))
def zk3(a0:aA):Option Bool:=
 (if(decide (8<(a0.aB.length:Int))||decide (8<(a0.aK.length:Int)))=true then
  some false
 else
  (zg8 (zan5 a0) 0).bind (λ|.inl z=>zY1 a0 z|.inr z=>some z))
@[reducible,instance] def zdB7 (a0:aA) j1:=mkJ (zY1 a0 j1) 2 (@zan3.eq_1 a0) λ(j2:Unit)=>⟨[(1,.ptr 0 0 0)],[(0,bx a0)],1⟩
@[reducible,instance] def zdB8 (a0:aA) {T:Type} (x:T):=mkL x (@zan4.eq_1 a0) λ(g1:Int)=>⟨[(1,.ptr 0 0 0),(48,la a0.aK),(49,.int .i64 (a0.aK.length:Int)),(50,.int .i64 g1)],[(0,bx a0)],1⟩
@[reducible,instance] def zdB9 (a0:aA):=mkJ (zk3 a0) 0 (@zY1.eq_1 a0) λ(j1:Unit)=>⟨[(1,.ptr 0 0 0)],[(0,bx a0)],1⟩
@[reducible,instance] def zdC0 (a0:aA) {T:Type} (x:T):=mkL x (@zan5.eq_1 a0) λ(g2:Int)=>⟨[(1,.ptr 0 0 0),(18,la a0.aB),(19,.int .i64 (a0.aB.length:Int)),(20,.int .i64 g2)],[(0,bx a0)],1⟩
instance zat6(a0:aA):OkP (zk3 a0) 39 [ga a0] (λ r=>.bool r):=ok1 (zk3.eq_1 a0) Tryz.f39 []
attribute [local irreducible] zk3
def zQ9(a0:aC)(a1:aF):Option (aC×(List bF)×Int):=
 (zz7 a0).bind λ v1=>
 (if(!v1)=true then
  some ({aC.zero with},[],2)
 else
  (zv0 a0).bind λ v2=>
  (ze2 v2 a1).bind λ v3=>
  (if(!v3)=true then
   some ({aC.zero with},[],10)
  else
   (zl6 a0).bind λ v4=>
   (zE6 v4 a1).bind λ v5=>
   some (v5.1,v5.2.1,v5.2.2.1)))
theorem zbd5(a0:aC)(a1:aF)(r:aC×(List bF)×Int)(h:zQ9 a0 a1=some r):PFn C 133 [ga a0,ga a1] (.tup [ga r.1,la r.2.1,.int .i64 r.2.2]):=by
 refine zx6 Tryz.f133 [(23,1)] λ E hG hN hK=>?_;unfold zQ9 at h;refine za2 (za3 hG ?_);refine za2 (za2 (za3 hG ?_));obtain⟨v1,hv1,h⟩:=zd2 h;refine zn1 (λ hg=>(zah3 a0).ok _ hv1) ?_;refine zh3 rfl hG h (λ _ h=>?_) (λ _ h=>?_)
 · refine za2 (za3 hG ?_)
   refine zo3 ?_;exact zt5 h
 refine zh0 ?_;refine za2 (za2 (zaj5 zv9 hG ?_));obtain⟨v2,hv2,h⟩:=zd2 h;refine zD0 (λ hg=>(zbl3 a0).ok _ hv2) ?_;obtain⟨v3,hv3,h⟩:=zd2 h;refine zD0 (λ hg=>(zaA9 v2 a1).ok _ hv3) ?_;refine zh3 rfl hG h (λ _ h=>?_) (λ _ h=>?_)
 · refine za2 (za3 hG ?_)
   refine zo3 ?_;exact zt5 h
 refine zh0 ?_;refine za2 (za3 hG ?_);obtain⟨v4,hv4,h⟩:=zd2 h;refine zn1 (λ hg=>(zar5 a0).ok _ hv4) ?_;refine za2 (za3 hG ?_);obtain⟨v5,hv5,h⟩:=zd2 h;refine zs2 [(0,3),(1,4),(2,1)] [] [0,1,2] (zaO2 _ _ _ hv5) rfl rfl ?_;refine zo3 ?_;exact zt5 h
instance zbS4(a0:aC)(a1:aF):OkP (zQ9 a0 a1) 133 [ga a0,ga a1] (λ r=>.tup [ga r.1,la r.2.1,.int .i64 r.2.2]):=⟨zbd5 a0 a1⟩
attribute [local irreducible] zQ9
def zai6(j2:aA):Option aA:=
 some j2
def zai7(a0:aA)(a1:aF)(g1:Int×aA):Option ((Int×aA)⊕aA):=
 (if(decide (g1.1<(a0.aK.length:Int)))=true then
  gd (0<=g1.1/\g1.1<(a0.aK.length:Int))<|
  (zd7 ((a0.aK.getD g1.1.toNat bK.zero).aZ) a1).bind λ v1=>
  (if(!decide (v1=0))=true then
   gd (g1.2.aK.length+1<=4294967296)<|
   some (.inl ((i64.wrap (g1.1+1)),(⟨g1.2.aB,(g1.2.aK++[(a0.aK.getD g1.1.toNat bK.zero)])⟩:aA)))
  else
   some (.inl ((i64.wrap (g1.1+1)),g1.2)))
 else
  some (.inr g1.2))
def zU4(a0:aA)(a1:aF)(j1:aA):Option aA:=
 (zg8 (zai7 a0 a1) (0,j1)).bind (λ z=>zai6 z)
def zai8(a0:aA)(a1:aF)(g2:Int×aA):Option ((Int×aA)⊕aA):=
 (if(decide (g2.1<(a0.aB.length:Int)))=true then
  gd (0<=g2.1/\g2.1<(a0.aB.length:Int))<|
  (zv0 (a0.aB.getD g2.1.toNat aC.zero)).bind λ v2=>
  (ze2 v2 a1).bind λ v3=>
  (if v3=true then
   (zQ9 (a0.aB.getD g2.1.toNat aC.zero) a1).bind λ v4=>
   (if(decide (v4.2.2=0))=true then
    gd (g2.2.aB.length+1<=4294967296)<|
    some (.inl ((i64.wrap (g2.1+1)),(⟨(g2.2.aB++[{v4.1 with gen:=(a0.aB.getD g2.1.toNat aC.zero).gen}]),g2.2.aK⟩:aA)))
   else
    gd (g2.2.aB.length+1<=4294967296)<|
    some (.inl ((i64.wrap (g2.1+1)),(⟨(g2.2.aB++[(a0.aB.getD g2.1.toNat aC.zero)]),g2.2.aK⟩:aA))))
  else
   gd (g2.2.aB.length+1<=4294967296)<|
   some (.inl ((i64.wrap (g2.1+1)),(⟨(g2.2.aB++[(a0.aB.getD g2.1.toNat aC.zero)]),g2.2.aK⟩:aA))))
 else
  some (.inr g2.2))
def zx5(a0:aA)(a1:aF):Option aA:=
 (zg8 (zai8 a0 a1) (0,(⟨[],[]⟩:aA))).bind (λ z=>zU4 a0 a1 z)
@[reducible,instance] def zdC1 (a0:aA) (a1:aF) (j1:aA):=mkJ (zU4 a0 a1 j1) 2 (@zai6.eq_1) λ(j2:aA)=>⟨[(4,.ptr 0 0 0),(5,.ptr 1 0 0)],[(0,bx aA.zero),(1,⟨false,2,aA.enc aA.zero,[[.own 2 0 j2.aB.length,.own 3 0 j2.aK.length]]⟩),(2,sx j2.aB),(3,sx j2.aK)],4⟩
@[reducible,instance] def zdC2 (a0:aA) (a1:aF) {T:Type} (x:T):=mkL x (@zai7.eq_1 a0 a1) λ(g1:Int×aA)=>⟨[(3,.ptr 0 0 0),(4,.ptr 1 0 0),(5,.ptr 2 0 0),(47,la a0.aK),(48,.int .i64 (a0.aK.length:Int)),(49,.int .i64 g1.1)],[(0,bx a1),(1,bx aA.zero),(2,⟨false,2,aA.enc aA.zero,[[.own 3 0 g1.2.aB.length,.own 4 0 g1.2.aK.length]]⟩),(3,sx g1.2.aB),(4,sx g1.2.aK)],5⟩
@[reducible,instance] def zdC3 (a0:aA) (a1:aF):=mkJ (zx5 a0 a1) 0 (@zU4.eq_1 a0 a1) λ(j1:aA)=>⟨[(2,.ptr 0 0 0),(3,.ptr 1 0 0),(4,.ptr 2 0 0),(5,.ptr 3 0 0)],[(0,bx a0),(1,bx a1),(2,bx aA.zero),(3,⟨false,2,aA.enc aA.zero,[[.own 4 0 j1.aB.length,.own 5 0 j1.aK.length]]⟩),(4,sx j1.aB),(5,sx j1.aK)],6⟩
@[reducible,instance] def zdC4 (a0:aA) (a1:aF) {T:Type} (x:T):=mkL x (@zai8.eq_1 a0 a1) λ(g2:Int×aA)=>⟨[(2,.ptr 0 0 0),(3,.ptr 1 0 0),(4,.ptr 2 0 0),(5,.ptr 3 0 0),(15,la a0.aB),(16,.int .i64 (a0.aB.length:Int)),(17,.int .i64 g2.1)],[(0,bx a0),(1,bx a1),(2,bx aA.zero),(3,⟨false,2,aA.enc aA.zero,[[.own 4 0 g2.2.aB.length,.own 5 0 g2.2.aK.length]]⟩),(4,sx g2.2.aB),(5,sx g2.2.aK)],6⟩
instance zbE7(a0:aA)(a1:aF):OkP (zx5 a0 a1) 77 [ga a0,ga a1] (λ r=>ga r):=⟨λ r h=>by
 refine zx6 Tryz.f77 [(5,5)] λ E hG hN hK=>?_;have hm:Mk (zx5 a0 a1):=trivial;unfold zx5 at h;refine za2 (za3 hG ?_);refine za2 (za3 hG ?_);refine g_gh (.ownb 3 0 8 (aC.enc aC.zero)) ?_;refine g_gh (.ownb 3 1 9 (bK.enc bK.zero)) ?_;exact gogo⟩
attribute [local irreducible] zx5
def zai9(j1:aA×(List aF)):Option ((List aF)×(List aF)):=
 (zr8 j1.1).bind λ v2=>
 some (j1.2,v2)
def zaj0(g1:(List aF)×aA×(List aF)):Option (((List aF)×aA×(List aF))⊕(aA×(List aF))):=
 (if(decide (0<(g1.1.length:Int)))=true then
  gd (0<=0/\0<(g1.1.length:Int))<|
  (zx5 g1.2.1 (g1.1.getD 0 aF.zero)).bind λ v3=>
  gd (0<=0/\0<(g1.1.length:Int))<|
  gd (g1.2.2.length+1<=4294967296)<|
  (zy0 v3).bind λ v4=>
  some (.inl (v4,v3,(g1.2.2++[(g1.1.getD 0 aF.zero)])))
 else
  some (.inr (g1.2.1,g1.2.2)))
def zz4(a0:aA):Option ((List aF)×(List aF)):=
 (zy0 a0).bind λ v1=>
 (zg8 zaj0 (v1,a0,[])).bind (λ z=>zai9 z)
@[reducible,instance] def zdC5 a0 {T1:Type} (v1:T1):=mkJ (zz4 a0,v1) 0 (@zai9.eq_1) λ(j1:aA×(List aF))=>⟨[(1,.ptr 0 0 0),(4,.own 1 0 j1.2.length)],[(0,bx j1.1),(1,sx j1.2)],2⟩
@[reducible,instance] def zdC6 {T:Type} (x:T):=mkL x (@zaj0.eq_1) λ(g1:(List aF)×aA×(List aF))=>⟨[(1,.ptr 0 0 0),(4,.own 1 0 g1.2.2.length),(5,la g1.1)],[(0,bx g1.2.1),(1,sx g1.2.2)],2⟩
instance zbE8(a0:aA):OkP (zz4 a0) 40 [ga a0] (λ r=>.tup [la r.1,la r.2]):=ok1 (zz4.eq_1 a0) Tryz.f40 [(4,1)]
attribute [local irreducible] zz4
def zad8(j1:aA):Option aA:=
 some j1
def zad9(a1:List aF)(v1:(List aF))(g1:Int×aA):Option ((Int×aA)⊕aA):=
 (if(decide (g1.1<(v1.length:Int)))=true then
  gd (0<=g1.1/\g1.1<(v1.length:Int))<|
  (ze2 a1 (v1.getD g1.1.toNat aF.zero)).bind λ v2=>
  (if(!v2)=true then
   (zx5 g1.2 (v1.getD g1.1.toNat aF.zero)).bind λ v3=>
   some (.inl ((i64.wrap (g1.1+1)),v3))
  else
   some (.inl ((i64.wrap (g1.1+1)),g1.2)))
 else
  some (.inr g1.2))
def zz5(a0:aA)(a1:List aF):Option aA:=
 (zr8 a0).bind λ v1=>
 (zg8 (zad9 a1 v1) (0,a0)).bind (λ z=>zad8 z)
@[reducible,instance] def zdC7 a0 a1 {T1:Type} (v1:T1):=mkJ (zz5 a0 a1,v1) 0 (@zad8.eq_1) λ(j1:aA)=>⟨[(2,.ptr 0 0 0),(4,.ptr 1 0 0)],[(0,bx j1),(1,bx aA.zero)],2⟩
@[reducible,instance] def zdC8 (a1:List aF) (v1:(List aF)) {T:Type} (x:T):=mkL x (@zad9.eq_1 a1 v1) λ(g1:Int×aA)=>⟨[(1,la a1),(2,.ptr 0 0 0),(4,.ptr 1 0 0),(8,la v1),(9,.int .i64 (v1.length:Int)),(10,.int .i64 g1.1)],[(0,bx g1.2),(1,bx aA.zero)],2⟩
instance zbx6(a0:aA)(a1:List aF):OkP (zz5 a0 a1) 44 [ga a0,la a1] (λ r=>ga r):=ok1 (zz5.eq_1 a0 a1) Tryz.f44 []
attribute [local irreducible] zz5
def zR0(a0:aC)(a1:aF):Option (aC×(List bF)×Int):=
 (zz7 a0).bind λ v1=>
 (if(!v1)=true then
  some ({aC.zero with},[],2)
 else
  (zp7 a0 a1).bind λ v2=>
  (if(!v2.2)=true then
   some ({aC.zero with},[],10)
  else
   (zl6 a0).bind λ v3=>
   (zE7 v3 a1).bind λ v4=>
   some (v4.1,v4.2.1,v4.2.2.1)))
theorem zbd6(a0:aC)(a1:aF)(r:aC×(List bF)×Int)(h:zR0 a0 a1=some r):PFn C 163 [ga a0,ga a1] (.tup [ga r.1,la r.2.1,.int .i64 r.2.2]):=by
 refine zx6 Tryz.f163 [(27,1)] λ E hG hN hK=>?_;unfold zR0 at h;refine za2 (za3 hG ?_);refine za2 (za2 (za3 hG ?_));obtain⟨v1,hv1,h⟩:=zd2 h;refine zn1 (λ hg=>(zah3 a0).ok _ hv1) ?_;refine zh3 rfl hG h (λ _ h=>?_) (λ _ h=>?_)
 · refine za2 (za3 hG ?_)
   refine zo3 ?_;exact zt5 h
 refine zh0 ?_;refine za2 (za2 (za3 hG ?_));obtain⟨v2,hv2,h⟩:=zd2 h;refine zn1 (λ hg=>(zaH3 a0 a1).ok _ hv2) ?_;refine za2 (za3 hG ?_);refine zh3 rfl hG h (λ _ h=>?_) (λ _ h=>?_)
 · refine za2 (za3 hG ?_)
   refine zo3 ?_;exact zt5 h
 refine zh0 ?_;refine za2 (za3 hG ?_);obtain⟨v3,hv3,h⟩:=zd2 h;refine zn1 (λ hg=>(zar5 a0).ok _ hv3) ?_;refine za2 (za3 hG ?_);obtain⟨v4,hv4,h⟩:=zd2 h;refine zs2 [(0,4),(1,5),(2,1)] [] [0,1,2] (zaO3 _ _ _ hv4) rfl rfl ?_;refine zo3 ?_;exact zt5 h
instance zbS5(a0:aC)(a1:aF):OkP (zR0 a0 a1) 163 [ga a0,ga a1] (λ r=>.tup [ga r.1,la r.2.1,.int .i64 r.2.2]):=⟨zbd6 a0 a1⟩
attribute [local irreducible] zR0
def zT8(a0:aC)(a1:aF)(a2:aJ):Option (aC×(List bF)×Int):=
 (zz7 a0).bind λ v1=>
 (if(!v1)=true then
  some ({aC.zero with},[],2)
 else
  (zm3 a0 a1).bind λ v2=>
  (if(zx9 v2)=true then
   some ({aC.zero with},[],10)
  else
   (zn9 a0.aV a1).bind λ v3=>
   (if(decide (0<=v3))=true then
    some ({aC.zero with},[],14)
   else
    (zm8 a0.aQ v2 a2).bind λ v4=>
    (if(!v4)=true then
     some ({aC.zero with},[],12)
    else
     (zl6 a0).bind λ v5=>
     (if(decide (a2=v2))=true then
      some (v5,[],0)
     else
      (zE5 v5 a1 a2).bind λ v6=>
      some (v6.1,v6.2.1,v6.2.2.1))))))
theorem zbl5(a0:aC)(a1:aF)(a2:aJ)(r:aC×(List bF)×Int)(h:zT8 a0 a1 a2=some r):PFn C 168 [ga a0,ga a1,ga a2] (.tup [ga r.1,la r.2.1,.int .i64 r.2.2]):=by
 refine zx6 Tryz.f168 [(41,1)] λ E hG hN hK=>?_;unfold zT8 at h;refine za2 (za3 hG ?_);refine za2 (za2 (za3 hG ?_));obtain⟨v1,hv1,h⟩:=zd2 h;refine zn1 (λ hg=>(zah3 a0).ok _ hv1) ?_;refine zh3 rfl hG h (λ _ h=>?_) (λ _ h=>?_)
 · refine za2 (za3 hG ?_)
   refine zo3 ?_;exact zt5 h
 refine zh0 ?_;refine za2 (za3 hG ?_);obtain⟨v2,hv2,h⟩:=zd2 h;refine zn1 (λ hg=>(zaP2 a0 a1).ok _ hv2) ?_;refine za2 (za2 (za3 hG ?_));refine zn1 (λ hg=>(zas4 v2).ok) ?_;refine zh3 rfl hG h (λ _ h=>?_) (λ _ h=>?_)
 · refine za2 (za3 hG ?_)
   refine zo3 ?_;exact zt5 h
 refine zh0 ?_;refine za2 (za2 (za3 hG ?_));obtain⟨v3,hv3,h⟩:=zd2 h;refine zn1 (λ hg=>(zbu7 a0.aV a1).ok _ hv3) ?_;refine zh3 rfl hG h (λ _ h=>?_) (λ _ h=>?_)
 · refine za2 (za3 hG ?_)
   refine zo3 ?_;exact zt5 h
 refine zh0 ?_;refine za2 (za2 (za3 hG ?_));obtain⟨v4,hv4,h⟩:=zd2 h;refine zn1 (λ hg=>(zaB1 a0.aQ v2 a2).ok _ hv4) ?_;refine zh3 rfl hG h (λ _ h=>?_) (λ _ h=>?_)
 · refine za2 (za3 hG ?_)
   refine zo3 ?_;exact zt5 h
 refine zh0 ?_;refine za2 (za3 hG ?_);obtain⟨v5,hv5,h⟩:=zd2 h;refine zn1 (λ hg=>(zar5 a0).ok _ hv5) ?_;refine za2 (za2 (za3 hG ?_));refine zh3 rfl hG h (λ _ h=>?_) (λ _ h=>?_)
 · refine za2 (za3 hG ?_)
   refine zo3 ?_;exact zt5 h
 refine zh0 ?_;refine za2 (za3 hG ?_);obtain⟨v6,hv6,h⟩:=zd2 h;refine zs2 [(0,5),(1,6),(2,1),(3,2)] [] [0,1,2,3] (zaO1 _ _ _ _ hv6) rfl rfl ?_;refine zo3 ?_;exact zt5 h
instance zbT9(a0:aC)(a1:aF)(a2:aJ):OkP (zT8 a0 a1 a2) 168 [ga a0,ga a1,ga a2] (λ r=>.tup [ga r.1,la r.2.1,.int .i64 r.2.2]):=⟨zbl5 a0 a1 a2⟩
attribute [local irreducible] zT8
def zaa1(a0:aC)(a1:aI)(j1:aC):Option aC:=
 (zb0 a1.lower j1).bind λ v5=>
 (if(decide (0<=v5.1))=true then
  gd (0<=v5.1/\v5.1<(a1.lower.length:Int))<|
  (zm3 v5.2 a1.aZ).bind λ v6=>
  ((if((!decide (v6={aJ.zero with}))&&(!decide (v6=(a1.lower.getD v5.1.toNat aO.zero).aY)))=true then zm8 v5.2.aQ v6 ((a1.lower.getD v5.1.toNat aO.zero).aY)else some false)).bind λ v7=>
  (if(((!decide (v6={aJ.zero with}))&&(!decide (v6=(a1.lower.getD v5.1.toNat aO.zero).aY)))&&v7)=true then
   (zT8 v5.2 a1.aZ ((a1.lower.getD v5.1.toNat aO.zero).aY)).bind λ v8=>
   (if(decide (v8.2.2=0))=true then
    some ({v8.1 with gen:=a0.gen})
   else
    some ({v5.2 with gen:=a0.gen}))
  else
   some ({v5.2 with gen:=a0.gen}))
 else
  some ({v5.2 with gen:=a0.gen}))
def zL8(a0:aC)(a1:aI):Option aC:=
 (zb2 a0.bR).bind λ v1=>
 (za8 a0.aV).bind λ v2=>
 (za8 a0.bO).bind λ v3=>
 (zR0 ({{{a0 with bR:=v1}with aV:=v2}with bO:=v3}) a1.aZ).bind λ v4=>
 (if(decide (v4.2.2=0))=true then
  zaa1 a0 a1 v4.1
 else
  zaa1 a0 a1 ({{{a0 with bR:=v1}with aV:=v2}with bO:=v3}))
@[reducible,instance] def zdC9 (a0:aC) (a1:aI) {T1:Type} (v1:T1) {T2:Type} (v2:T2) {T3:Type} (v3:T3) {T4:Type} (v4:T4):=mkJ ((((zL8 a0 a1,v1),v2),v3),v4) 999 (@zaa1.eq_1 a0 a1) λ(j1:aC)=>⟨[(2,.ptr 0 0 0),(3,.ptr 1 0 0),(4,.ptr 2 0 0),(5,.int .i64 a0.gen)],[(0,bx j1),(1,bx a1),(2,bx aC.zero)],3⟩
instance zbM6(a0:aC)(a1:aI):OkP (zL8 a0 a1) 107 [ga a0,ga a1] (λ r=>ga r):=ok1 (zL8.eq_1 a0 a1) Tryz.f107 []
attribute [local irreducible] zL8
def zap1(j2:aA):Option (aA×Int):=
 some (j2,0)
def zap2(a0:aA)(a1:aI)(g1:Int×aA):Option ((Int×aA)⊕aA):=
 (if(decide (g1.1<(a0.aK.length:Int)))=true then
  gd (0<=g1.1/\g1.1<(a0.aK.length:Int))<|
  (zd7 ((a0.aK.getD g1.1.toNat bK.zero).aZ) a1.aZ).bind λ v5=>
  (if(!decide (v5=0))=true then
   (zf7 ((a0.aK.getD g1.1.toNat bK.zero).bQ)).bind λ v6=>
   gd (g1.2.aK.length+1<=4294967296)<|
   some (.inl ((i64.wrap (g1.1+1)),(⟨g1.2.aB,(g1.2.aK++[{(a0.aK.getD g1.1.toNat bK.zero)with bQ:=v6}])⟩:aA)))
  else
   some (.inl ((i64.wrap (g1.1+1)),g1.2)))
 else
  some (.inr g1.2))
def zaa2(a0:aA)(a1:aI)(j1:aA):Option (aA×Int):=
 (zg8 (zap2 a0 a1) (0,j1)).bind (λ z=>zap1 z)
def zap3(a0:aA)(a1:aI)(g2:Int×aA):Option ((Int×aA)⊕aA):=
 (if(decide (g2.1<(a0.aB.length:Int)))=true then
  gd (0<=g2.1/\g2.1<(a0.aB.length:Int))<|
  (zL8 (a0.aB.getD g2.1.toNat aC.zero) a1).bind λ v7=>
  gd (g2.2.aB.length+1<=4294967296)<|
  some (.inl ((i64.wrap (g2.1+1)),(⟨(g2.2.aB++[v7]),g2.2.aK⟩:aA)))
 else
  some (.inr g2.2))
def zy2(a0:aA)(a1:aI):Option (aA×Int):=
 (zk3 a0).bind λ v1=>
 (if(!v1)=true then
  some ({aA.zero with},2)
 else
  (zh8 a1).bind λ v2=>
  (if(!v2)=true then
   some ({aA.zero with},1)
  else
   (zr8 a0).bind λ v3=>
   (ze2 v3 a1.aZ).bind λ v4=>
   (if(!v4)=true then
    some ({aA.zero with},10)
   else
    (zg8 (zap3 a0 a1) (0,(⟨[],[]⟩:aA))).bind (λ z=>zaa2 a0 a1 z))))
@[reducible,instance] def zdD0 (a0:aA) (a1:aI) (j1:aA):=mkJ (zaa2 a0 a1 j1) 3 (@zap1.eq_1) λ(j2:aA)=>⟨[(4,.ptr 0 0 0),(6,.ptr 1 0 0)],[(0,bx aA.zero),(1,⟨false,2,aA.enc aA.zero,[[.own 2 0 j2.aB.length,.own 3 0 j2.aK.length]]⟩),(2,sx j2.aB),(3,sx j2.aK)],4⟩
@[reducible,instance] def zdD1 (a0:aA) (a1:aI) {T:Type} (x:T):=mkL x (@zap2.eq_1 a0 a1) λ(g1:Int×aA)=>⟨[(3,.ptr 0 0 0),(4,.ptr 1 0 0),(6,.ptr 2 0 0),(46,la a0.aK),(47,.int .i64 (a0.aK.length:Int)),(48,.int .i64 g1.1)],[(0,bx a1),(1,bx aA.zero),(2,⟨false,2,aA.enc aA.zero,[[.own 3 0 g1.2.aB.length,.own 4 0 g1.2.aK.length]]⟩),(3,sx g1.2.aB),(4,sx g1.2.aK)],5⟩
@[reducible,instance] def zdD2 (a0:aA) (a1:aI) {T1:Type} (v1:T1) {T2:Type} (v2:T2) {T3:Type} (v3:T3) {T4:Type} (v4:T4):=mkJ ((((zy2 a0 a1,v1),v2),v3),v4) 1 (@zaa2.eq_1 a0 a1) λ(j1:aA)=>⟨[(2,.ptr 0 0 0),(3,.ptr 1 0 0),(4,.ptr 2 0 0),(6,.ptr 3 0 0)],[(0,bx a0),(1,bx a1),(2,bx aA.zero),(3,⟨false,2,aA.enc aA.zero,[[.own 4 0 j1.aB.length,.own 5 0 j1.aK.length]]⟩),(4,sx j1.aB),(5,sx j1.aK)],6⟩
@[reducible,instance] def zdD3 (a0:aA) (a1:aI) {T:Type} (x:T):=mkL x (@zap3.eq_1 a0 a1) λ(g2:Int×aA)=>⟨[(2,.ptr 0 0 0),(3,.ptr 1 0 0),(4,.ptr 2 0 0),(6,.ptr 3 0 0),(30,la a0.aB),(31,.int .i64 (a0.aB.length:Int)),(32,.int .i64 g2.1)],[(0,bx a0),(1,bx a1),(2,bx aA.zero),(3,⟨false,2,aA.enc aA.zero,[[.own 4 0 g2.2.aB.length,.own 5 0 g2.2.aK.length]]⟩),(4,sx g2.2.aB),(5,sx g2.2.aK)],6⟩
instance zbM7(a0:aA)(a1:aI):OkP (zy2 a0 a1) 58 [ga a0,ga a1] (λ r=>.tup [ga r.1,.int .i64 r.2]):=⟨λ r h=>by
 refine zx6 Tryz.f58 [(6,5)] λ E hG hN hK=>?_;have hm:Mk (zy2 a0 a1):=trivial;unfold zy2 at h;refine za2 (za3 hG ?_);refine za2 (zr6 (za2 (za3 hG ?_)));obtain⟨v1,hv1,h⟩:=zd2 h;have hm:=mkP hm v1;refine zn1 (λ hg=>(zat6 a0).ok _ hv1) ?_;refine zh3 rfl hG h (λ _ h=>?_) (λ _ h=>?_)
 .exact gogo
 refine za2 (za3 hG ?_);obtain⟨v2,hv2,h⟩:=zd2 h;have hm:=mkP hm v2;refine zn1 (λ hg=>(zaw5 a1).ok _ hv2) ?_;refine zh3 rfl hG h (λ _ h=>?_) (λ _ h=>?_)
 .exact gogo
 refine za2 (zaj5 zv9 hG ?_);obtain⟨v3,hv3,h⟩:=zd2 h;have hm:=mkP hm v3;refine zD0 (λ hg=>(zat5 a0).ok _ hv3) ?_;obtain⟨v4,hv4,h⟩:=zd2 h;have hm:=mkP hm v4;refine zD0 (λ hg=>(zaA9 v3 a1.aZ).ok _ hv4) ?_;refine zh3 rfl hG h (λ _ h=>?_) (λ _ h=>?_)
 .exact gogo
 refine zh0 ?_;refine za2 (za3 hG ?_);refine g_gh (.ownb 3 0 8 (aC.enc aC.zero)) ?_;refine g_gh (.ownb 3 1 9 (bK.enc bK.zero)) ?_;exact gogo⟩
attribute [local irreducible] zy2
def zR1(a0:aA):Option (List aF):=
 (zk3 a0).bind λ v1=>
 (if(!v1)=true then
  some []
 else
  (zy0 a0).bind λ v2=>
  some v2)
instance zbM8(a0:aA):OkP (zR1 a0) 109 [ga a0] (λ r=>la r):=ok1 (zR1.eq_1 a0) Tryz.f109 []
attribute [local irreducible] zR1
def zM3(a0:aA)(a1:aF):Option (aA×Int):=
 (zk3 a0).bind λ v1=>
 (if(!v1)=true then
  some ({aA.zero with},2)
 else
  (zr8 a0).bind λ v2=>
  (ze2 v2 a1).bind λ v3=>
  (if(!v3)=true then
   some ({aA.zero with},10)
  else
   (zx5 a0 a1).bind λ v4=>
   (zi5 v4).bind λ v5=>
   some (v5,0)))
instance zbE9(a0:aA)(a1:aF):OkP (zM3 a0 a1) 110 [ga a0,ga a1] (λ r=>.tup [ga r.1,.int .i64 r.2]):=ok1 (zM3.eq_1 a0 a1) Tryz.f110 []
attribute [local irreducible] zM3
def zac2(j1:aA):Option (aA×Bool):=
 (zd1 j1.aB).bind λ v1=>
 gd (v1.length=j1.aB.length)<|
 (ze7 j1.aK).bind λ v2=>
 gd (v2.length=j1.aK.length)<|
 (zk3 (⟨v1,v2⟩:aA)).bind λ v3=>
 (if(!v3)=true then
  some ({aA.zero with},false)
 else
  some ((⟨v1,v2⟩:aA),true))
@[go_sem] def zcx7(j1:aA):St:=⟨[(2,.ptr 0 0 0),(4,.ptr 1 0 0)],[(0,bx aA.zero),(1,⟨false,2,aA.enc aA.zero,[[.own 2 0 j1.aB.length,.own 3 0 j1.aK.length]]⟩),(2,sx j1.aB),(3,sx j1.aK)],4⟩
def zat7(a0:bN)(g1:Int×aA):Option ((Int×aA)⊕aA):=
 (if(decide (g1.1<(a0.sites.length:Int)))=true then
  gd (0<=g1.1/\g1.1<(a0.sites.length:Int))<|
  (ze3 ((((a0.sites.getD g1.1.toNat bE.zero).durable).home).aB)).bind λ v4=>
  gd (g1.2.aB.length+v4.length<=4294967296)<|
  (if(a0.sites.getD g1.1.toNat bE.zero).up=true then
   (zD6 ((a0.sites.getD g1.1.toNat bE.zero).owner) a0.catalog).bind λ v5=>
   gd (g1.2.aK.length+v5.1.length<=4294967296)<|
   some (.inl ((i64.wrap (g1.1+1)),(⟨(g1.2.aB++v4),(g1.2.aK++v5.1)⟩:aA)))
  else
   some (.inl ((i64.wrap (g1.1+1)),(⟨(g1.2.aB++v4),g1.2.aK⟩:aA))))
 else
  some (.inr g1.2))
@[go_sem] def zcx8(a0:bN)(g1:Int×aA):St:=⟨[(1,.ptr 0 0 0),(2,.ptr 1 0 0),(4,.ptr 2 0 0),(10,la a0.sites),(11,.int .i64 (a0.sites.length:Int)),(12,.int .i64 g1.1)],[(0,bx a0),(1,bx aA.zero),(2,⟨false,2,aA.enc aA.zero,[[.own 3 0 g1.2.aB.length,.own 4 0 g1.2.aK.length]]⟩),(3,sx g1.2.aB),(4,sx g1.2.aK)],5⟩
def zN3(a0:bN):Option (aA×Bool):=
 (zg8 (zat7 a0) (0,(⟨[],[]⟩:aA))).bind (λ z=>zac2 z)
theorem zaZ7(a0:bN)(r:aA×Bool)(h:zN3 a0=some r):PFn C 48 [ga a0] (.tup [ga r.1,.bool r.2]):=by
 refine zx6 Tryz.f48 [(4,5)] λ E hG hN hK=>?_;unfold zN3 at h;refine za2 (za3 hG ?_);refine za2 (za3 hG ?_);refine g_gh (.ownb 2 0 8 (aC.enc aC.zero)) ?_;refine g_gh (.ownb 2 1 9 (bK.enc bK.zero)) ?_;refine za2 (za2 (za3 hG ?_));refine zs5 zcx7 (λ v=>zac2 v=some r) ?_ ?_
 · intro j1 h
   unfold zac2 at h;refine g_st ?_;refine za2 (za3 hG ?_);obtain⟨v1,hv1,h⟩:=zd2 h;obtain⟨hb2,h⟩:=ze5 h;refine zs2 [(0,2)] [] [0] ((zO4 j1.aB).ok _ hv1) rfl rfl ?_;refine za2 (za3 hG ?_);obtain⟨v2,hv2,h⟩:=zd2 h;obtain⟨hb1,h⟩:=ze5 h;refine zs2 [(0,3)] [] [0] ((zP8 j1.aK).ok _ hv2) rfl rfl ?_;rw[<-hb2,<-hb1];refine za2 (za2 (za3 hG ?_));obtain⟨v3,hv3,h⟩:=zd2 h;refine zn1 (λ hg=>(zat6 (⟨v1,v2⟩:aA)).ok _ hv3) ?_;refine zh3 rfl hG h (λ _ h=>?_) (λ _ h=>?_)
   · refine za2 (za3 hG ?_)
     refine zo3 ?_;exact zt5 h
   refine zh0 ?_;refine za2 (za3 hG ?_);refine zo3 ?_;exact zt5 h
 refine zz0 (zcx8 a0) hK [(0,0),(1,1),(2,2),(3,3),(4,4)] h (λ x_l1 h g1 y_l1 h_l1 hx_l1=>?_);unfold zat7 at h_l1;refine g_st ?_;refine za2 (za3 hG ?_);refine za2 ?_;refine zh3 rfl hG h_l1 (λ _ h_l1=>?_) (λ _ h_l1=>?_)
 · refine zh0 ?_
   refine za2 (zr6 (za2 ?_));obtain⟨hb5,h_l1⟩:=ze5 h_l1;refine za3 hG ?_;refine za2 (zP1 zv9 hG ?_);obtain⟨v4,hv4,h_l1⟩:=zd2 h_l1;obtain⟨hb4,h_l1⟩:=ze5 h_l1;refine zar4 [] [] [] ((zan8 ((((a0.sites.getD g1.1.toNat bE.zero).durable).home).aB)).ok _ hv4) rfl rfl ?_;refine za2 (za3 hG ?_);refine zh3 rfl hG h_l1 (λ _ h_l1=>?_) (λ _ h_l1=>?_)
   · refine za2 (za3 hG ?_)
     obtain⟨v5,hv5,h_l1⟩:=zd2 h_l1;refine zn1 (λ hg=>zbl2 _ _ _ hv5) ?_;obtain⟨hb3,h_l1⟩:=ze5 h_l1;refine za3 hG ?_;refine za3 hG ?_;exact zy5 hK [(0,0),(1,1),(2,2),(3,6),(4,7)] h_l1
   refine zh0 ?_;refine za3 hG ?_;exact zy5 hK [(0,0),(1,1),(2,2),(3,6),(4,4)] h_l1
 refine zv7 ?_;cases h_l1;cases hx_l1 _ rfl;exact zs8 hK [(0,1),(1,2),(2,3),(3,4)] g1.2 (by exact h)
instance zbM9(a0:bN):OkP (zN3 a0) 48 [ga a0] (λ r=>.tup [ga r.1,.bool r.2]):=⟨zaZ7 a0⟩
attribute [local irreducible] zN3
end
end Ab
end Go.Proofs.YtamndckemppjdaaGreatDoor
