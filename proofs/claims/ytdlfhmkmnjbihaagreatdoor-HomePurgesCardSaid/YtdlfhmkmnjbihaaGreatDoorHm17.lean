import Derived.Test.YtdlfhmkmnjbihaaGreatDoorHm8
import Derived.Test.YtdlfhmkmnjbihaaGreatDoorHm13
import Derived.Test.YtdlfhmkmnjbihaaGreatDoorSort
namespace Go.Proofs.YtdlfhmkmnjbihaaGreatDoor
namespace Ab
open IntKind (i64 u64 u8)
set_option linter.unusedSimpArgs false
set_option linter.defProp false
set_option linter.unusedVariables false
set_option maxRecDepth 100000
set_option maxHeartbeats 1000000
noncomputable section
attribute [local irreducible] zk2 zd1 za7 zd5 zd8 za4 zo7 ze9 zl8 zi1 zc1 zk8 zh8 zd4 zk5 za2 zf9 zc9 zf7 za3 zh5 zc5 zc7 zf6 zk9 zd9 zm9 zh3 zf0 zh1 zd7 za5 ze0 zc8 zd2 zl5 ze1 zo2 zb3 zj1 zj0 ze8 zp1 zi2 zk6 zh0 zc2 zb7 zb9 zj3 zg6 zi3 zf1 zi5 ze6 zg0 zm7 zl0 zf2 za9 za8 zf3 zg7 zb4 zp2 zm8 zc3 zj4 zj8 zf4 zn5 zh2 zg2 zg3 zl6 zj6 zg4 zn8 zg8 zh9 zi6 zn9 zc6 zg5 ze4 zf5 zo0
def zag1(a1:aF)(a2:aC)(j1:Int×(List aO)):Option (List aO):=
 (if(zf8 a2)=true then
  some j1.2
 else
  (if(decide (j1.1<0))=true then
   gd (j1.2.length+1<=4294967296)<|
   gd (0<=i64.wrap (((j1.2.length:Nat):Int)+1)/\i64.wrap (((j1.2.length:Nat):Int)+1)<=((j1.2.length+1:Nat):Int)/\((j1.2.length+1:Nat):Int)<=((j1.2.length+1:Nat):Int))<|
   gd (0<=((j1.2.length:Nat):Int)/\((j1.2.length:Nat):Int)<=((j1.2.length+1:Nat):Int)/\((j1.2.length+1:Nat):Int)<=((j1.2.length+1:Nat):Int))<|
   gd (0<=((j1.2.length:Nat):Int)/\((j1.2.length:Nat):Int)<((j1.2.length+1:Nat):Int))<|
   some (((j1.2++[{aO.zero with}]).take (i64.wrap (((j1.2.length:Nat):Int)+1)).toNat++(((j1.2++[{aO.zero with}]).drop (((j1.2.length:Nat):Int).toNat)).take (j1.2.length+1-((j1.2.length:Nat):Int).toNat)).take (j1.2.length+1-(i64.wrap (((j1.2.length:Nat):Int)+1)).toNat)++(j1.2++[{aO.zero with}]).drop ((i64.wrap (((j1.2.length:Nat):Int)+1)).toNat+min (((j1.2++[{aO.zero with}]).drop (((j1.2.length:Nat):Int).toNat)).take (j1.2.length+1-((j1.2.length:Nat):Int).toNat)).length (j1.2.length+1-(i64.wrap (((j1.2.length:Nat):Int)+1)).toNat))).set (((j1.2.length:Nat):Int).toNat) (⟨a1,a2⟩:aO))
  else
   gd (j1.2.length+1<=4294967296)<|
   gd (0<=i64.wrap (j1.1+1)/\i64.wrap (j1.1+1)<=((j1.2.length+1:Nat):Int)/\((j1.2.length+1:Nat):Int)<=((j1.2.length+1:Nat):Int))<|
   gd (0<=j1.1/\j1.1<=((j1.2.length+1:Nat):Int)/\((j1.2.length+1:Nat):Int)<=((j1.2.length+1:Nat):Int))<|
   gd (0<=j1.1/\j1.1<((j1.2.length+1:Nat):Int))<|
   some (((j1.2++[{aO.zero with}]).take (i64.wrap (j1.1+1)).toNat++(((j1.2++[{aO.zero with}]).drop j1.1.toNat).take (j1.2.length+1-j1.1.toNat)).take (j1.2.length+1-(i64.wrap (j1.1+1)).toNat)++(j1.2++[{aO.zero with}]).drop ((i64.wrap (j1.1+1)).toNat+min (((j1.2++[{aO.zero with}]).drop j1.1.toNat).take (j1.2.length+1-j1.1.toNat)).length (j1.2.length+1-(i64.wrap (j1.1+1)).toNat))).set j1.1.toNat (⟨a1,a2⟩:aO))))
@[go_sem] def zdw6(a1:aF)(a2:aC)(j1:Int×(List aO)):St:=⟨[(4,.ptr 0 0 0),(5,.ptr 1 0 0),(7,.own 2 0 j1.2.length),(8,.int .i64 j1.1)],[(0,bx a1),(1,bx a2),(2,sx j1.2)],3⟩
def zO6(a0:List aO)(a1:aF)(g1:Int×Int×(List aO)):Option ((Int×Int×(List aO))⊕(Int×(List aO))):=
 (if(decide (g1.2.1<(a0.length:Int)))=true then
  gd (0<=g1.2.1/\g1.2.1<(a0.length:Int))<|
  (if(decide ((a0.getD g1.2.1.toNat aO.zero).aI=a1))=true then
   some (.inl (g1.1,i64.wrap (g1.2.1+1),g1.2.2))
  else
   ((if(decide (g1.1<0))=true then zc3 ((a0.getD g1.2.1.toNat aO.zero).aI) a1 else some 0)).bind λ v1=>
   (if(decide (g1.1<0)&&decide (0<v1))=true then
    gd (g1.2.2.length+1<=4294967296)<|
    some (.inl (((g1.2.2.length:Nat):Int),i64.wrap (g1.2.1+1),(g1.2.2++[(a0.getD g1.2.1.toNat aO.zero)])))
   else
    gd (g1.2.2.length+1<=4294967296)<|
    some (.inl (g1.1,i64.wrap (g1.2.1+1),(g1.2.2++[(a0.getD g1.2.1.toNat aO.zero)])))))
 else
  some (.inr (g1.1,g1.2.2)))
@[go_sem] def zdw7(a0:List aO)(a1:aF)(a2:aC)(g1:Int×Int×(List aO)):St:=⟨[(4,.ptr 0 0 0),(5,.ptr 1 0 0),(7,.own 2 0 g1.2.2.length),(8,.int .i64 g1.1),(15,la a0),(16,.int .i64 (a0.length:Int)),(17,.int .i64 g1.2.1)],[(0,bx a1),(1,bx a2),(2,sx g1.2.2)],3⟩
def zn3(a0:List aO)(a1:aF)(a2:aC):Option (List aO):=
 gd (0<=0/\0<=i64.wrap ((a0.length:Int)+1)/\i64.wrap ((a0.length:Int)+1)<=4294967296)<|
 (zc0 (zO6 a0 a1) ((-1),0,List.replicate 0 aO.zero)).bind (λ z=>zag1 a1 a2 z)
theorem zaZ3(a0:List aO)(a1:aF)(a2:aC)(r:(List aO))(h:zn3 a0 a1 a2=some r):PFn C 215 [la a0,ga a1,ga a2] (la r):=by
 refine zW0 Tryz.f215 [] λ E hG hN hK=>?_;unfold zn3 at h;refine za0 (za1 hG ?_);refine za0 ?_;obtain⟨hb12,h⟩:=ze3 h;refine za1 hG ?_;refine za0 (za1 hG ?_);refine za0 (za0 (za1 hG ?_));refine zy5 (zdw6 a1 a2) (λ v=>zag1 a1 a2 v=some r) ?_ ?_
 · intro j1 h
   unfold zag1 at h;refine g_st ?_;refine za0 (za0 (za1 hG ?_));refine zm4 (λ hg=>(zaD7 a2).ok) ?_;refine ze5 rfl hG h (λ _ h=>?_) (λ _ h=>?_)
   · refine za0 (za1 hG ?_)
     refine zm2 ?_;exact zt1 h
   refine ze2 ?_;refine za0 (za0 (za1 hG ?_));refine ze5 rfl hG h (λ _ h=>?_) (λ _ h=>?_)
   · refine za1 hG ?_
     refine za0 ?_;obtain⟨hb4,h⟩:=ze3 h;refine za1 hG ?_;refine za0 ?_;obtain⟨hb2,h⟩:=ze3 h;obtain⟨hb3,h⟩:=ze3 h;refine zai3 zC5 hG ?_;refine za0 ?_;obtain⟨hb1,h⟩:=ze3 h;refine za1 hG ?_;refine za0 (za1 hG ?_);refine zm2 ?_;exact zt1 h
   refine ze2 ?_;refine za0 ?_;obtain⟨hb8,h⟩:=ze3 h;refine za1 hG ?_;refine za0 ?_;obtain⟨hb6,h⟩:=ze3 h;obtain⟨hb7,h⟩:=ze3 h;refine zai3 zC5 hG ?_;refine za0 ?_;obtain⟨hb5,h⟩:=ze3 h;refine za1 hG ?_;refine za0 (za1 hG ?_);refine zm2 ?_;exact zt1 h
 refine zal7 (zdw7 a0 a1 a2) hK [(0,0),(1,1),(2,2)] h (λ x_l1 h g1 y_l1 h_l1 hx_l1=>?_);unfold zO6 at h_l1;refine g_st ?_;refine za0 (za1 hG ?_);refine za0 ?_;refine ze5 rfl hG h_l1 (λ _ h_l1=>?_) (λ _ h_l1=>?_)
 · refine ze2 ?_
   refine za0 (zw6 (za0 ?_));obtain⟨hb11,h_l1⟩:=ze3 h_l1;refine za1 hG ?_;refine za0 (za0 (za1 hG ?_));refine ze5 rfl hG h_l1 (λ _ h_l1=>?_) (λ _ h_l1=>?_)
   · refine zA6 ?_
     refine za1 hG ?_;exact zM4 hK [(0,0),(1,1),(2,2)] h_l1
   refine ze2 ?_;refine za0 (za0 (za1 hG ?_));obtain⟨v1,hv1,h_l1⟩:=zb8 h_l1;refine zm4 (λ hg=>(zax8 ((a0.getD g1.2.1.toNat aO.zero).aI) a1).ok _ (zcc6 hg hv1)) ?_;refine ze5 rfl hG h_l1 (λ _ h_l1=>?_) (λ _ h_l1=>?_)
   · refine za1 hG ?_
     obtain⟨hb9,h_l1⟩:=ze3 h_l1;refine za1 hG ?_;refine za1 hG ?_;exact zM4 hK [(0,0),(1,1),(2,4)] h_l1
   refine ze2 ?_;obtain⟨hb10,h_l1⟩:=ze3 h_l1;refine za1 hG ?_;refine za1 hG ?_;exact zM4 hK [(0,0),(1,1),(2,4)] h_l1
 refine zA6 ?_;cases h_l1;cases hx_l1 _ rfl;exact zs2 hK [(0,0),(1,1),(2,2)] (g1.1,g1.2.2) (by exact h)
instance zcU1(a0:List aO)(a1:aF)(a2:aC):OkP (zn3 a0 a1 a2) 215 [la a0,ga a1,ga a2] (λ r=>la r):=⟨zaZ3 a0 a1 a2⟩
attribute [local irreducible] zn3
def zaI0(j1:Unit):Option Bool:=
 some true
def zaI1(a0:aJ)(g1:Int):Option (Int⊕(Unit⊕Bool)):=
 (if(decide (g1<(a0.options.length:Int)))=true then
  gd (0<=g1/\g1<(a0.options.length:Int))<|
  (zf9 (a0.options.getD g1.toNat bC.zero)).bind λ v5=>
  (if(!v5)=true then
   some (.inr (.inr false))
  else
   some (.inl (i64.wrap (g1+1))))
 else
  some (.inr (.inl ())))
def zl4(a0:aJ)(a1:Int):Option Bool:=
 (if(decide (a1=80))=true then
  some (zb6 a0.aI)
 else
  (if(decide (a1=65))=true then
   (zc6 a0.aY.name).bind λ v1=>
   some (v1&&zU9 a0.aY.aK)
  else
   (if(decide (a1=97))=true then
    (zc6 a0.aY.name).bind λ v2=>
    some (v2&&(decide (a0.aY.aK={aC.zero with})||zU9 a0.aY.aK))
   else
    (if(decide (a1=78))=true then
     ((if(decide ((a0.state.aG.length:Int)=0))=true then zd5 a0.state else some false)).bind λ v3=>
     some (decide ((a0.state.aG.length:Int)=0)&&v3)
    else
     (if(decide (a1=76))=true then
      ((if(decide ((a0.state.bG.length:Int)=0))=true then zd5 a0.state else some false)).bind λ v4=>
      some (decide ((a0.state.bG.length:Int)=0)&&v4)
     else
      (if(decide (a1=79))=true then
       (if(decide (40<(a0.options.length:Int)))=true then
        some false
       else
        (zc0 (zaI1 a0) 0).bind (λ|.inl z=>zaI0 z|.inr z=>some z))
      else
       some true))))))
@[reducible,instance] def zdR9 a0 a1:=mkJ (zl4 a0 a1) 1 (@zaI0.eq_1) λ(j1:Unit)=>⟨[],[],0⟩
@[reducible,instance] def zdS0 (a0:aJ) {T:Type} (x:T):=mkL x (@zaI1.eq_1 a0) λ(g1:Int)=>⟨[(77,la a0.options),(78,.int .i64 (a0.options.length:Int)),(79,.int .i64 g1)],[],0⟩
instance zbD8(a0:aJ)(a1:Int):OkP (zl4 a0 a1) 141 [ga a0,.int .u8 a1] (λ r=>.bool r):=ok1 (zl4.eq_1 a0 a1) Tryz.f141 []
attribute [local irreducible] zl4
def zbj8(j1:Unit):Option Int:=
 some 0
def zZ9(a0 a1 g1:Int):Option (Int⊕(Unit⊕Int)):=
 (if(decide (g1<=5))=true then
  (zl6 g1 a0).bind λ v1=>
  ((if v1=true then zl6 g1 a1 else some false)).bind λ v2=>
  (if(v1&&v2)=true then
   some (.inr (.inr g1))
  else
   some (.inl (i64.wrap (g1+1))))
 else
  some (.inr (.inl ())))
def zu5(a0 a1:Int):Option Int:=
 (zc0 (zZ9 a0 a1) 1).bind (λ|.inl z=>zbj8 z|.inr z=>some z)
@[reducible,instance] def zdS1 a0 a1:=mkJ (zu5 a0 a1) 0 (@zbj8.eq_1) λ(j1:Unit)=>⟨[],[],0⟩
@[reducible,instance] def zdS2 (a0 a1:Int) {T:Type} (x:T):=mkL x (@zZ9.eq_1 a0 a1) λ(g1:Int)=>⟨[(0,.int .i64 a0),(1,.int .i64 a1),(5,.int .i64 g1)],[],0⟩
instance zdr3(a0 a1:Int):OkP (zu5 a0 a1) 259 [.int .i64 a0,.int .i64 a1] (λ r=>.int .i64 r):=ok1 (zu5.eq_1 a0 a1) Tryz.f259 []
attribute [local irreducible] zu5
def zr6(a0:aD)(a1:aC):Bool:=
 (zE9 a0&&(zd6 a1||zu3 a0 a1))
instance zcB4(a0:aD)(a1:aC):OkT 73 [.agg (aD.enc a0),.agg (aC.enc a1)] (.bool (zr6 a0 a1)):=ok2 (λ r=>.bool r) (zr6.eq_1 a0 a1) Tryz.f73 []
def zq3(a0:aA)(a1:aF):Option Bool:=
 (zh9 a0 a1).bind λ v1=>
 ((if(!v1.2)=true then zg7 a0 a1 else some aC.zero)).bind λ v2=>
 some (v1.2||(!(zd6 v2)))
instance zdn9(a0:aA)(a1:aF):OkP (zq3 a0 a1) 48 [ga a0,ga a1] (λ r=>.bool r):=ok1 (zq3.eq_1 a0 a1) Tryz.f48 []
attribute [local irreducible] zq3
def zn1(a0:aX)(a1:aJ)(a2:Bool):Option aW:=
 (zf6 a0.aG a1.aY.name).bind λ v1=>
 gd (0<=v1/\v1<(a0.aG.length:Int))<|
 (zg7 (a0.aG.getD v1.toNat aA.zero) a1.aI).bind λ v2=>
 some (⟨a1.aI.site,{aJ.zero with kind:=3,aI:=a1.aI,gen:=a1.gen,aY:=(⟨a1.aY.name,v2⟩:bF),done:=a2}⟩:aW)
instance zcU2(a0:aX)(a1:aJ)(a2:Bool):OkP (zn1 a0 a1 a2) 58 [ga a0,ga a1,.bool a2] (λ r=>ga r):=ok1 (zn1.eq_1 a0 a1 a2) Tryz.f58 []
attribute [local irreducible] zn1
attribute [local irreducible] zo9 zp0 zi7 zj7 zs6 zc4 zi8 zi9 zh6 zh7
def zaV8(j1:Unit):Option Bool:=
 some true
def zM6(a0:List aM)(g1:Int):Option (Int⊕(Unit⊕Bool)):=
 (if(decide (g1<(a0.length:Int)))=true then
  gd (0<=g1/\g1<(a0.length:Int))<|
  ((if(zg1 (a0.getD g1.toNat aM.zero))=true then zk2 a0 ((a0.getD g1.toNat aM.zero).aI)else some 0)).bind λ v1=>
  (if((!(zg1 (a0.getD g1.toNat aM.zero)))||(!decide (v1=g1)))=true then
   some (.inr (.inr false))
  else
   some (.inl (i64.wrap (g1+1))))
 else
  some (.inr (.inl ())))
def zr1(a0:List aM):Option Bool:=
 (if(decide (8<(a0.length:Int)))=true then
  some false
 else
  (zc0 (zM6 a0) 0).bind (λ|.inl z=>zaV8 z|.inr z=>some z))
@[reducible,instance] def zed2 a0:=mkJ (zr1 a0) 0 (@zaV8.eq_1) λ(j1:Unit)=>⟨[],[],0⟩
@[reducible,instance] def zed3 (a0:List aM) {T:Type} (x:T):=mkL x (@zM6.eq_1 a0) λ(g1:Int)=>⟨[(0,la a0),(8,la a0),(9,.int .i64 (a0.length:Int)),(10,.int .i64 g1)],[],0⟩
instance zdj0(a0:List aM):OkP (zr1 a0) 260 [la a0] (λ r=>.bool r):=ok1 (zr1.eq_1 a0) Tryz.f260 []
attribute [local irreducible] zr1
theorem zad3:SlLaysF0.n6 C.P ⟨λ|6=>134|15=>183|14=>182|28=>242|29=>243|20=>234|21=>235|22=>236|23=>237|24=>238|25=>239|26=>240|27=>241|46=>268|47=>269|48=>270|49=>271|50=>272|57=>281|n=>n,λ|22=>67|24=>35|25=>134|39=>213|53=>238|55=>181|46=>232|45=>231|50=>96|66=>253|70=>177|76=>265|77=>266|n=>n,λ n=>n⟩ where
 mixed:=zC5
 f6:=⟨Tryz.f134.name,by decide,Tryz.func134.trans (cU some (by kernel_rfl))⟩
 f14:=⟨Tryz.f182.name,by decide,Tryz.func182.trans (cU some (by kernel_rfl))⟩
 f15:=Tryz.func183.trans (cU some (by kernel_rfl))
 f20:=⟨Tryz.f234.name,by decide,Tryz.func234.trans (cU some (by kernel_rfl))⟩
 f21:=⟨Tryz.f235.name,by decide,Tryz.func235.trans (cU some (by kernel_rfl))⟩
 f22:=⟨Tryz.f236.name,by decide,Tryz.func236.trans (cU some (by kernel_rfl))⟩
 f23:=⟨Tryz.f237.name,by decide,Tryz.func237.trans (cU some (by kernel_rfl))⟩
 f24:=⟨Tryz.f238.name,by decide,Tryz.func238.trans (cU some (by kernel_rfl))⟩
 f25:=⟨Tryz.f239.name,by decide,Tryz.func239.trans (cU some (by kernel_rfl))⟩
 f26:=⟨Tryz.f240.name,by decide,Tryz.func240.trans (cU some (by kernel_rfl))⟩
 f27:=⟨Tryz.f241.name,by decide,Tryz.func241.trans (cU some (by kernel_rfl))⟩
 f28:=Tryz.func242.trans (cU some (by kernel_rfl))
 f29:=Tryz.func243.trans (cU some (by kernel_rfl))
 f46:=⟨Tryz.f268.name,by decide,Tryz.func268.trans (cU some (by kernel_rfl))⟩
 f47:=Tryz.func269.trans (cU some (by kernel_rfl))
 f48:=Tryz.func270.trans (cU some (by kernel_rfl))
 f49:=⟨Tryz.f271.name,by decide,Tryz.func271.trans (cU some (by kernel_rfl))⟩
 f50:=⟨Tryz.f272.name,by decide,Tryz.func272.trans (cU some (by kernel_rfl))⟩
 f57:=⟨Tryz.f281.name,by decide,Tryz.func281.trans (cU some (by kernel_rfl))⟩
 t0:=Tryz.underlying0
 a0:=Tryz.isAgg0
 z0:=Tryz.sizeOf0
 v0:=Tryz.zeroValue0
 t3:=Tryz.underlying3
 a3:=Tryz.isAgg3
 z3:=Tryz.sizeOf3
 v3:=Tryz.zeroValue3
 t4:=Tryz.underlying4
 a4:=Tryz.isAgg4
 z4:=Tryz.sizeOf4
 v4:=Tryz.zeroValue4
 t5:=Tryz.underlying5
 a5:=Tryz.isAgg5
 z5:=Tryz.sizeOf5
 v5:=Tryz.zeroValue5
 t9:=Tryz.underlying9
 a9:=Tryz.isAgg9
 z9:=Tryz.sizeOf9
 v9:=Tryz.zeroValue9
 t22:=Tryz.underlying67
 a22:=Tryz.isAgg67
 z22:=Tryz.sizeOf67
 v22:=Tryz.zeroValue67
 t25:=Tryz.underlying134
 a25:=Tryz.isAgg134
 z25:=Tryz.sizeOf134
 v25:=Tryz.zeroValue134
 t39:=Tryz.underlying213
 a39:=Tryz.isAgg213
 z39:=Tryz.sizeOf213
 v39:=Tryz.zeroValue213
 t45:=Tryz.underlying231
 a45:=Tryz.isAgg231
 z45:=Tryz.sizeOf231
 v45:=Tryz.zeroValue231
 t46:=Tryz.underlying232
 a46:=Tryz.isAgg232
 z46:=Tryz.sizeOf232
 v46:=Tryz.zeroValue232
 t50:=Tryz.underlying96
 a50:=Tryz.isAgg96
 z50:=Tryz.sizeOf96
 v50:=Tryz.zeroValue96
 t53:=Tryz.underlying238
 a53:=Tryz.isAgg238
 z53:=Tryz.sizeOf238
 v53:=Tryz.zeroValue238
 t55:=Tryz.underlying181
 a55:=Tryz.isAgg181
 z55:=Tryz.sizeOf181
 v55:=Tryz.zeroValue181
 t66:=Tryz.underlying253
 a66:=Tryz.isAgg253
 z66:=Tryz.sizeOf253
 v66:=Tryz.zeroValue253
 t70:=Tryz.underlying177
 a70:=Tryz.isAgg177
 z70:=Tryz.sizeOf177
 v70:=Tryz.zeroValue177
 t76:=Tryz.underlying265
 a76:=Tryz.isAgg265
 z76:=Tryz.sizeOf265
 v76:=Tryz.zeroValue265
 t77:=Tryz.underlying266
 a77:=Tryz.isAgg266
 z77:=Tryz.sizeOf266
 v77:=Tryz.zeroValue266
def zb5(a0:List aF):Option (List aF):=gd (a0.length<=4294967296) (some (a0.mergeSort λ x y=>!decide (y.site<x.site\/y.site=x.site/\(y.inc<x.inc\/y.inc=x.inc/\y.num<x.num))))
theorem zac1(a0 r:List aF)(h:zb5 a0=some r):r.length=a0.length:=by obtain⟨_,h⟩:=ze3 h;obtain rfl:=cR h;exact List.length_mergeSort _
theorem zac2(a0 r:List aF)(h:zb5 a0=some r):MFn C 134 [.own 0 0 a0.length,.clo 82 []] [(0,sx a0)] 1 (.tup []) [(0,sx r)] 1:=by
 obtain⟨hl,h⟩:=ze3 h;obtain rfl:=cR h;haveI:Inhabited aF:=⟨aF.zero⟩;have e:(λ x y:aF=>!decide (y.site<x.site\/y.site=x.site/\(y.inc<x.inc\/y.inc=x.inc/\y.num<x.num)))=λ x y=>!(ltOf cmpS) y x:=by funext x y;rw[zaM7];exact cU not (fQ.2 kF)
 rw[e];exact zdb1 zad3 aF.enc 3 aF.len (by decide) (λ x=>(aF.laws x).2.1) Tryz.isAgg35 Tryz.sizeOf35 cmpS zdb4 82 (λ x y=>(zax8 x y).ok _ (zdn7 x y)) (enters_of Tryz.func82 (by kernel_rfl) rfl) rfl _ a0 hl (λ x _ y _=>zcB0 x y)
attribute [local irreducible] zb5
def zaI2(j1:Unit):Option (aC×Bool):=
 some ({aC.zero with},false)
def zT0(a1:aF)(v1:(List aM))(g1:Int):Option (Int⊕(Unit⊕(aC×Bool))):=
 (if(decide (g1<(v1.length:Int)))=true then
  gd (0<=g1/\g1<(v1.length:Int))<|
  (if(decide ((v1.getD g1.toNat aM.zero).aI=a1))=true then
   some (.inr (.inr ((v1.getD g1.toNat aM.zero).aK,true)))
  else
   some (.inl (i64.wrap (g1+1))))
 else
  some (.inr (.inl ())))
def zn6(a0:aA)(a1:aF):Option (aC×Bool):=
 (zp0 a0).bind λ v1=>
 (zc0 (zT0 a1 v1) 0).bind (λ|.inl z=>zaI2 z|.inr z=>some z)
@[reducible,instance] def zdS3 a0 a1 {T1:Type} (v1:T1):=mkJ (zn6 a0 a1,v1) 0 (@zaI2.eq_1) λ(j1:Unit)=>⟨[(4,.ptr 0 0 0)],[(0,bx aC.zero)],1⟩
@[reducible,instance] def zdS4 (a1:aF) (v1:(List aM)) {T:Type} (x:T):=mkL x (@zT0.eq_1 a1 v1) λ(g1:Int)=>⟨[(3,.ptr 0 0 0),(4,.ptr 1 0 0),(9,la v1),(10,.int .i64 (v1.length:Int)),(11,.int .i64 g1)],[(0,bx a1),(1,bx aC.zero)],2⟩
instance zaz3(a0:aA)(a1:aF):OkP (zn6 a0 a1) 94 [ga a0,ga a1] (λ r=>.tup [ga r.1,.bool r.2]):=ok1 (zn6.eq_1 a0 a1) Tryz.f94 []
attribute [local irreducible] zn6
def zn2(a0:aA)(a1:aF):Option (aA×aF):=
 (zn3 a0.aL a1 ({aC.zero with})).bind λ v1=>
 some ({a0 with aL:=v1},a1)
instance zaZ4(a0:aA)(a1:aF):OkM (zn2 a0 a1) 263 [.ptr 0 0 0,.ptr 1 0 0] [(0,bx a0),(1,bx a1)] 2 (λ r=>.tup []) (λ r=>[(0,bx r.1),(1,bx r.2)]) 2:=okm (zn2.eq_1 a0 a1) (λ r=>[]) Tryz.f263 []
attribute [local irreducible] zn2
def zar8(j1:Unit):Option Bool:=
 some true
def zaa3(g1:Int×Int)(j2:Unit):Option ((Int×Int)⊕(Unit⊕Bool)):=
 some (.inl (g1.1,i64.wrap (g1.2+1)))
def zB3(a1:List aC)(g1:Int×Int)(g2:Int):Option (Int⊕(Unit⊕Bool)):=
 (if(decide (g2<g1.2))=true then
  gd (0<=g1.2/\g1.2<(a1.length:Int))<|
  gd ((!(zd6 (a1.getD g1.2.toNat aC.zero)))=true->0<=g2/\g2<(a1.length:Int))<|
  gd (((!(zd6 (a1.getD g1.2.toNat aC.zero)))&&(!(zd6 (a1.getD g2.toNat aC.zero))))=true->0<=g1.2/\g1.2<(a1.length:Int))<|
  gd (((!(zd6 (a1.getD g1.2.toNat aC.zero)))&&(!(zd6 (a1.getD g2.toNat aC.zero))))=true->0<=g2/\g2<(a1.length:Int))<|
  (if(((!(zd6 (a1.getD g1.2.toNat aC.zero)))&&(!(zd6 (a1.getD g2.toNat aC.zero))))&&(!(zI3 ((a1.getD g1.2.toNat aC.zero).mode) ((a1.getD g2.toNat aC.zero).mode))))=true then
   some (.inr (.inr false))
  else
   some (.inl (i64.wrap (g2+1))))
 else
  some (.inr (.inl ())))
def zx8(a0:aD)(a1:List aC)(g1:Int×Int):Option ((Int×Int)⊕(Unit⊕Bool)):=
 (if(decide (g1.2<(a1.length:Int)))=true then
  gd (0<=g1.2/\g1.2<(a1.length:Int))<|
  (if(!(zr6 a0 (a1.getD g1.2.toNat aC.zero)))=true then
   some (.inr (.inr false))
  else
   (if(decide (a0.kind=2))=true then
    gd (0<=g1.2/\g1.2<(a1.length:Int))<|
    (if(decide (a0.aU<i64.wrap (g1.1+(a1.getD g1.2.toNat aC.zero).aU)))=true then
     some (.inr (.inr false))
    else
     some (.inl ((i64.wrap (g1.1+(a1.getD g1.2.toNat aC.zero).aU)),i64.wrap (g1.2+1))))
   else
    (zc0 (zB3 a1 g1) 0).bind (λ|.inl z=>zaa3 g1 z|.inr z=>some (.inr (.inr z)))))
 else
  some (.inr (.inl ())))
def zk7(a0:aD)(a1:List aC):Option Bool:=
 (if(!(zE9 a0))=true then
  some false
 else
  (zc0 (zx8 a0 a1) (0,0)).bind (λ|.inl z=>zar8 z|.inr z=>some z))
@[reducible,instance] def zdS5 a0 a1:=mkJ (zk7 a0 a1) 0 (@zar8.eq_1) λ(j1:Unit)=>⟨[],[],0⟩
@[reducible,instance] def zdS6 (a0:aD) (a1:List aC) (g1:Int×Int):=mkJ (zx8 a0 a1 g1) 2 (@zaa3.eq_1 g1) λ(j2:Unit)=>⟨[(1,la a1),(2,.ptr 0 0 0),(5,.int .i64 g1.1),(6,.int .i64 g1.2)],[(0,bx a0)],1⟩
@[reducible,instance] def zdS7 (a0:aD) (a1:List aC) (g1:Int×Int):=mkL (zx8 a0 a1 g1) (@zB3.eq_1 a1 g1) λ(g2:Int)=>⟨[(1,la a1),(2,.ptr 0 0 0),(5,.int .i64 g1.1),(6,.int .i64 g1.2),(7,.int .i64 g2)],[(0,bx a0)],1⟩
@[reducible,instance] def zdS8 (a0:aD) (a1:List aC) {T:Type} (x:T):=mkL x (@zx8.eq_1 a0 a1) λ(g1:Int×Int)=>⟨[(1,la a1),(2,.ptr 0 0 0),(5,.int .i64 g1.1),(6,.int .i64 g1.2)],[(0,bx a0)],1⟩
instance zcx9(a0:aD)(a1:List aC):OkP (zk7 a0 a1) 273 [ga a0,la a1] (λ r=>.bool r):=ok1 (zk7.eq_1 a0 a1) Tryz.f273 []
attribute [local irreducible] zk7
def zk3(a0:aD)(a1 a2:aC):Bool:=
 (if((!(zr6 a0 a1))||(!(zr6 a0 a2)))=true then
  false
 else
  (if(zd6 a2)=true then
   true
  else
   (if(zd6 a1)=true then
    false
   else
    (if(decide (a0.kind=1))=true then
     (zP6 a1.mode a2.mode)
    else
     (decide (a2.aU<=a1.aU))))))
instance zbD9(a0:aD)(a1 a2:aC):OkT 30 [.agg (aD.enc a0),.agg (aC.enc a1),.agg (aC.enc a2)] (.bool (zk3 a0 a1 a2)):=ok2 (λ r=>.bool r) (zk3.eq_1 a0 a1 a2) Tryz.f30 []
def zaE8(a1:bA)(j1:Bool×(List bA)):Option (List bA):=
 (if(!j1.1)=true then
  gd (j1.2.length+1<=4294967296)<|
  some (j1.2++[a1])
 else
  some j1.2)
def zw8(a0:List bA)(a1:bA)(g1:Bool×Int×(List bA)):Option ((Bool×Int×(List bA))⊕(Bool×(List bA))):=
 (if(decide (g1.2.1<(a0.length:Int)))=true then
  gd (0<=g1.2.1/\g1.2.1<(a0.length:Int))<|
  (if(decide ((a0.getD g1.2.1.toNat bA.zero).aI=a1.aI)&&(((a0.getD g1.2.1.toNat bA.zero).name).toList==a1.name.toList))=true then
   some (.inl (g1.1,i64.wrap (g1.2.1+1),g1.2.2))
  else
   (if((!g1.1)&&zag0 a1 (a0.getD g1.2.1.toNat bA.zero))=true then
    gd (g1.2.2.length+1<=4294967296)<|
    gd (g1.2.2.length+1+1<=4294967296)<|
    some (.inl (true,i64.wrap (g1.2.1+1),((g1.2.2++[a1])++[(a0.getD g1.2.1.toNat bA.zero)])))
   else
    gd (g1.2.2.length+1<=4294967296)<|
    some (.inl (g1.1,i64.wrap (g1.2.1+1),(g1.2.2++[(a0.getD g1.2.1.toNat bA.zero)])))))
 else
  some (.inr (g1.1,g1.2.2)))
def zt5(a0:List bA)(a1:bA):Option (List bA):=
 (zc0 (zw8 a0 a1) (false,0,[])).bind (λ z=>zaE8 a1 z)
@[reducible,instance] def zdS9 a0 (a1:bA):=mkJ (zt5 a0 a1) 0 (@zaE8.eq_1 a1) λ(j1:Bool×(List bA))=>⟨[(3,.ptr 0 0 0),(5,.own 1 0 j1.2.length),(6,.bool j1.1)],[(0,bx a1),(1,sx j1.2)],2⟩
@[reducible,instance] def zdT0 (a0:List bA) (a1:bA) {T:Type} (x:T):=mkL x (@zw8.eq_1 a0 a1) λ(g1:Bool×Int×(List bA))=>⟨[(3,.ptr 0 0 0),(5,.own 1 0 g1.2.2.length),(6,.bool g1.1),(9,la a0),(10,.int .i64 (a0.length:Int)),(11,.int .i64 g1.2.1)],[(0,bx a1),(1,sx g1.2.2)],2⟩
instance zdo0(a0:List bA)(a1:bA):OkP (zt5 a0 a1) 57 [la a0,ga a1] (λ r=>la r):=ok1 (zt5.eq_1 a0 a1) Tryz.f57 [(5,1)]
attribute [local irreducible] zt5
attribute [local irreducible] zi0 zp7 zq1 zo8 zn0 zo4 zo5 zn7 zi4 zt4 zj9 zq9
def zar9(j1:Unit):Option Bool:=
 some true
def zx9(a0:aA)(g1:Int):Option (Int⊕(Unit⊕Bool)):=
 (if(decide (g1<(a0.aT.length:Int)))=true then
  gd (0<=g1/\g1<(a0.aT.length:Int))<|
  ((if(zb0 a0.aB ((a0.aT.getD g1.toNat aM.zero).aK))=true then zj4 a0 ((a0.aT.getD g1.toNat aM.zero).aI)else some aC.zero)).bind λ v2=>
  (if((!(zb0 a0.aB ((a0.aT.getD g1.toNat aM.zero).aK)))||(!(zf8 v2)))=true then
   some (.inr (.inr false))
  else
   some (.inl (i64.wrap (g1+1))))
 else
  some (.inr (.inl ())))
def zr9(a0:aA):Option Bool:=
 (zr1 a0.aT).bind λ v1=>
 (if((!v1)||decide (8<i64.wrap ((a0.aL.length:Int)+(a0.aT.length:Int))))=true then
  some false
 else
  (zc0 (zx9 a0) 0).bind (λ|.inl z=>zar9 z|.inr z=>some z))
@[reducible,instance] def zed4 a0 {T1:Type} (v1:T1):=mkJ (zr9 a0,v1) 0 (@zar9.eq_1) λ(j1:Unit)=>⟨[],[],0⟩
@[reducible,instance] def zed5 (a0:aA) {T:Type} (x:T):=mkL x (@zx9.eq_1 a0) λ(g1:Int)=>⟨[(1,.ptr 0 0 0),(20,la a0.aT),(21,.int .i64 (a0.aT.length:Int)),(22,.int .i64 g1)],[(0,bx a0)],1⟩
instance zcy0(a0:aA):OkP (zr9 a0) 232 [ga a0] (λ r=>.bool r):=ok1 (zr9.eq_1 a0) Tryz.f232 []
attribute [local irreducible] zr9
def zad4(j1:(List Int)):Option (List Int):=
 some j1
@[go_sem] def zdw8(j1:(List Int)):St:=⟨[(4,.own 0 0 j1.length)],[(0,⟨false,1,[A.int .u8 0],j1.map (eI .u8)⟩)],1⟩
def zL0(a0:aJ)(v1:(List (Int×bD)))(g1:Int×(List Int)):Option ((Int×(List Int))⊕(List Int)):=
 (if(decide (g1.1<((Arr.get zu2 a0.kind.toNat ⟨#[]⟩).size:Int)))=true then
  gd (0<=a0.kind/\a0.kind<16)<|
  gd (0<=g1.1/\g1.1<((Arr.get zu2 a0.kind.toNat ⟨#[]⟩).size:Int))<|
  (if(zZ3 (((Arr.get zu2 a0.kind.toNat ⟨#[]⟩).toList.getD g1.1.toNat 0).toNat:Int) v1).isSome=true then
   (zq2 (((zZ3 (((Arr.get zu2 a0.kind.toNat ⟨#[]⟩).toList.getD g1.1.toNat 0).toNat:Int) v1).getD bD.zero).of)).bind λ v3=>
   (zb9 g1.2 (u64.wrap (i64.wrap (zm3 a0 v3+((zZ3 (((Arr.get zu2 a0.kind.toNat ⟨#[]⟩).toList.getD g1.1.toNat 0).toNat:Int) v1).getD bD.zero).plus)))).bind λ v4=>
   some (.inl ((i64.wrap (g1.1+1)),v4))
  else
   (zn7 a0 (((Arr.get zu2 a0.kind.toNat ⟨#[]⟩).toList.getD g1.1.toNat 0).toNat:Int) g1.2).bind λ v5=>
   some (.inl ((i64.wrap (g1.1+1)),v5)))
 else
  some (.inr g1.2))
@[go_sem] def zdw9(a0:aJ)(v1:(List (Int×bD)))(g1:Int×(List Int)):St:=⟨[(1,.ptr 0 0 0),(3,.mp 1),(4,.own 2 0 g1.2.length),(18,.int .i64 ((Arr.get zu2 a0.kind.toNat ⟨#[]⟩).size:Int)),(19,.int .i64 g1.1)],[(0,bx a0),(1,⟨false,0,[A.int .u8 0,A.bool true],v1.map (mI .u8 bD.enc)⟩),(2,⟨false,1,[A.int .u8 0],g1.2.map (eI .u8)⟩)],3⟩
def zs9(a0:aJ):Option (List Int):=
 (zc2).bind λ v1=>
 (zb9 [] (u64.wrap a0.kind)).bind λ v2=>
 gd (0<=a0.kind/\a0.kind<16)<|
 (zc0 (zL0 a0 v1) (0,v2)).bind (λ z=>zad4 z)
theorem zbm3(a0:aJ)(r:(List Int))(h:zs9 a0=some r):PFn C 90 [ga a0] (.sl (r.map (eI .u8))):=by
 refine zW0 Tryz.f90 [(38,1)] λ E hG hN hK=>?_;unfold zs9 at h;refine za0 (za1 hG ?_);refine za0 (za1 hG ?_);obtain⟨v1,hv1,h⟩:=zb8 h;refine zp6 [] [(0,1)] [0] ((zaa2).ok _ hv1) rfl rfl ?_;refine za0 (za1 hG ?_);obtain⟨v2,hv2,h⟩:=zb8 h;refine zp6 [] [(0,2)] [0] (MFn.unfull1 (zA7 _ _ _ hv2)) rfl rfl ?_;refine za0 (za0 ?_);obtain⟨hb3,h⟩:=ze3 h;refine za1 hG ?_;refine zy5 zdw8 (λ v=>zad4 v=some r) ?_ ?_
 · intro j1 h
   unfold zad4 at h;refine g_st ?_;refine za0 (za1 hG ?_);refine zm2 ?_;exact zt1 h
 refine zal7 (zdw9 a0 v1) hK [(0,0),(1,1),(2,2)] h (λ x_l1 h g1 y_l1 h_l1 hx_l1=>?_);unfold zL0 at h_l1;refine g_st ?_;refine za0 (za1 hG ?_);refine za0 ?_;refine ze5 rfl hG h_l1 (λ _ h_l1=>?_) (λ _ h_l1=>?_)
 · refine ze2 ?_
   refine za0 (zw6 (za0 (za1 hG ?_)));refine za0 ?_;obtain⟨hb1,h_l1⟩:=ze3 h_l1;obtain⟨hb2,h_l1⟩:=ze3 h_l1;refine za1 hG ?_;refine za0 (za0 (za1 hG ?_));refine za0 (za1 hG ?_);refine ze5 rfl hG h_l1 (λ _ h_l1=>?_) (λ _ h_l1=>?_)
   · refine za0 (zai3 zC5 hG ?_)
     obtain⟨v3,hv3,h_l1⟩:=zb8 h_l1;refine zaM3 [(0,0)] [] [0] (zab1 _ _ _ hv3) rfl rfl ?_ (ho:=by first|exact⟨by trivial,zy6 hv3⟩|exact zy6 hv3);obtain⟨v4,hv4,h_l1⟩:=zb8 h_l1;refine zaM3 [] [(0,4)] [0] (zA7 _ _ _ hv4) rfl rfl ?_;refine zA6 ?_;refine za1 hG ?_;exact zM4 hK [(0,0),(1,1),(2,4)] h_l1
   refine ze2 ?_;refine za1 hG ?_;obtain⟨v5,hv5,h_l1⟩:=zb8 h_l1;refine zp6 [(0,2)] [(1,4)] [0,1] (zbq5 _ _ _ _ hv5) rfl rfl ?_;refine za1 hG ?_;exact zM4 hK [(0,0),(1,1),(2,4)] h_l1
 refine zA6 ?_;cases h_l1;cases hx_l1 _ rfl;exact zs2 hK [(0,2)] g1.2 (by exact h)
instance zcy1(a0:aJ):OkP (zs9 a0) 90 [ga a0] (λ r=>.sl (r.map (eI .u8))):=⟨zbm3 a0⟩
attribute [local irreducible] zs9
def zaN0(j1:Unit):Option Bool:=
 some true
def zag2(a0:List aD)(g1:Int):Option (Int⊕(Unit⊕Bool)):=
 (if(decide (g1<(a0.length:Int)))=true then
  gd (0<=g1/\g1<(a0.length:Int))<|
  (zi4 (a0.getD g1.toNat aD.zero)).bind λ v1=>
  gd ((v1&&decide (0<g1))=true->0<=i64.wrap (g1-1)/\i64.wrap (g1-1)<(a0.length:Int))<|
  gd ((v1&&decide (0<g1))=true->0<=g1/\g1<(a0.length:Int))<|
  (if((!v1)||(decide (0<g1)&&(!Op.bytesLess ((a0.getD ((i64.wrap (g1-1)).toNat) aD.zero).name).toList ((a0.getD g1.toNat aD.zero).name).toList)))=true then
   some (.inr (.inr false))
  else
   some (.inl (i64.wrap (g1+1))))
 else
  some (.inr (.inl ())))
def zw9(a0:List aD):Option Bool:=
 (if(decide (8<(a0.length:Int)))=true then
  some false
 else
  (zc0 (zag2 a0) 0).bind (λ|.inl z=>zaN0 z|.inr z=>some z))
@[reducible,instance] def zdT1 a0:=mkJ (zw9 a0) 0 (@zaN0.eq_1) λ(j1:Unit)=>⟨[],[],0⟩
@[reducible,instance] def zdT2 (a0:List aD) {T:Type} (x:T):=mkL x (@zag2.eq_1 a0) λ(g1:Int)=>⟨[(0,la a0),(3,.int .i64 g1)],[],0⟩
instance zdb5(a0:List aD):OkP (zw9 a0) 36 [la a0] (λ r=>.bool r):=ok1 (zw9.eq_1 a0) Tryz.f36 []
attribute [local irreducible] zw9
end
end Ab
end Go.Proofs.YtdlfhmkmnjbihaaGreatDoor
