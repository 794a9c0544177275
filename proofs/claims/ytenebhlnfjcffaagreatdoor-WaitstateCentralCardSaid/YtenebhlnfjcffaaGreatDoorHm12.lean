import Derived.Test.YtenebhlnfjcffaaGreatDoorHm6
import Derived.Test.YtenebhlnfjcffaaGreatDoorHm10
namespace Go.Proofs.YtenebhlnfjcffaaGreatDoor
namespace Ab
open IntKind (i64 u64 u8)
set_option linter.unusedSimpArgs false
set_option linter.defProp false
set_option linter.unusedVariables false
set_option maxRecDepth 100000
set_option maxHeartbeats 1000000
noncomputable section
attribute [local irreducible] zn8 zf5 zb5 za4 ze1 zm5 zb6 zb1 zo2 zi2 zl5 zi9 zn1 zf4 zd8 zg3 zk3 ze8 za7 zb2 zh7 zj7 zj3 zi8 zh4 zk4 zd0 zd9 zj9 zp2 zm8 zh0 zf8 ze0 ze4 zc8 za9 zk6 zh1 zo5 zh2 f_ref08_holds zc7 zl8 zg5 zh8 zn7 zg1 zi3 zf9 zb3 za0 zj2 zn3 zl9 zf0 zh5 zf1 zb7 ze2 zf2 zi6 zj8 zo7 zd6 ze5 zh9 zn4 zm3 zk2 zn9 zd7 zb9 zq5 zr0 zd4 zk7 zd1 zl3 zs0 zb0 ze9 za6 zi7 zc6 za1 zg2 zl4 zf6 zs1
def zm9(a0:aU):Bool:=
 (((((zd2 a0.aK&&(za2 ({aH.zero with kind:=1,aS:=1}) a0.aM||za2 ({aH.zero with kind:=2,aS:=8}) a0.aM))&&decide (0<=a0.aZ))&&decide (a0.aZ<=7))&&decide (0<=a0.bR))&&decide (a0.bR<=3))
instance zcV3(a0:aU):OkT 298 [.agg (aU.enc a0)] (.bool (zm9 a0)):=ok2 (λ r=>.bool r) (zm9.eq_1 a0) Tryz.f298 []
def zq8(a0:aB):Option (List aU):=
 (zb7 [a0.aN,a0.aT]).bind λ v1=>
 some v1
instance zdq0(a0:aB):OkP (zq8 a0) 86 [ga a0] (λ r=>la r):=ok1 (zq8.eq_1 a0) Tryz.f86 []
attribute [local irreducible] zq8
def zc1(a0:bD):Option (Int×bD):=
 (zc6 1073741824 16 a0).bind λ v1=>
 some (v1.1,v1.2)
instance zC5(a0:bD):OkM (zc1 a0) 51 [.ptr 0 0 0] [(0,bx a0)] 1 (λ r=>.int .i64 r.1) (λ r=>[(0,bx r.2)]) 1:=okm (zc1.eq_1 a0) (λ r=>[.int .i64 r.1]) Tryz.f51 []
attribute [local irreducible] zc1
def zp3(a0 a1:aC):Option Bool:=
 (if((!(zal1 a1))||decide (a0=a1))=true then
  some false
 else
  (if(decide (a0={aC.zero with}))=true then
   some true
  else
   (if(!(zal1 a0))=true then
    some false
   else
    (if((!decide (a0.mode=0))||(!decide (a1.mode=0)))=true then
     ((if((!decide (a0.mode=0))&&(!decide (a1.mode=0)))=true then zm3 a1.mode a0.mode else some false)).bind λ v1=>
     some (((!decide (a0.mode=0))&&(!decide (a1.mode=0)))&&v1)
    else
     some (decide (a0.aS<a1.aS))))))
instance zdi6(a0 a1:aC):OkP (zp3 a0 a1) 160 [ga a0,ga a1] (λ r=>.bool r):=ok1 (zp3.eq_1 a0 a1) Tryz.f160 []
attribute [local irreducible] zp3
def zaO1(a0:aO)(j1:Int):Option Bool:=
 some (decide (a0.k<=j1))
def zae3(a90:(aO->bS->Option Bool))(a0:aO)(a1:bS)(g1:Int×Int):Option ((Int×Int)⊕Int):=
 (if(decide (g1.2<(a0.bE.length:Int)))=true then
  gd (0<=g1.2/\g1.2<(a0.bE.length:Int))<|
  (a90 (a0.bE.getD g1.2.toNat aO.zero) a1).bind λ v2=>
  (if v2=true then
   some (.inl ((i64.wrap (g1.1+1)),i64.wrap (g1.2+1)))
  else
   some (.inl (g1.1,i64.wrap (g1.2+1))))
 else
  some (.inr g1.1))
def zP9(a90:(aO->bS->Option Bool))(a0:aO)(a1:bS):Option Bool:=
 (if(decide ((a0.bE.length:Int)=0))=true then
  (zf2 a1 a0.bG).bind λ v1=>
  some v1
 else
  (zc2 (zae3 a90 a0 a1) (0,0)).bind (λ z=>zaO1 a0 z))
def zT9:Nat->(aO->bS->Option Bool)
 |0=>λ _ _=>none
 |n+1=>zP9 (zT9 n)
def zn6(a0:aO)(a1:bS):Option Bool:=zT9 (_root_.SizeOf.sizeOf a0+1) a0 a1
@[reducible,instance] def zeg3 (a90:(aO->bS->Option Bool)) (a0:aO) (a1:bS):=mkJ (zP9 a90 a0 a1) 0 (@zaO1.eq_1 a0) λ(j1:Int)=>⟨[(2,.ptr 0 0 0),(5,.int .i64 j1)],[(0,bx a0)],1⟩
@[reducible,instance] def zeg4 (a90:(aO->bS->Option Bool)) (a0:aO) (a1:bS) {T:Type} (x:T):=mkL x (@zae3.eq_1 a90 a0 a1) λ(g1:Int×Int)=>⟨[(1,.bnd 280 (bS.enc a1)),(2,.ptr 0 0 0),(5,.int .i64 g1.1),(17,la a0.bE),(18,.int .i64 (a0.bE.length:Int)),(19,.int .i64 g1.2)],[(0,bx a0)],1⟩
abbrev zar6(g:(aO->bS->Option Bool)):Prop:=∀(a0:aO) (a1:bS),OkM (g a0 a1) 281 [.agg (aO.enc a0),.bnd 280 (bS.enc a1)] [] 0 (λ r=>.bool r) (λ r=>[]) 0
theorem zbw7(a90:(aO->bS->Option Bool))(hrc:zar6 a90):zar6 (zP9 a90):=λ a0 a1=>okm (zP9.eq_1 a90 a0 a1) (λ r=>[.bool r]) Tryz.f281 [(15,2)]
theorem zbw8:∀n,zar6 (zT9 n):=zaQ7 (λ _ _=>⟨λ _ h=>nomatch h⟩) λ n=>zbw7 _
instance zcL3:zar6 zn6:=λ a0 a1=>zbw8 _ a0 a1
attribute [local irreducible] zn6
def zaO2(j1:(List aJ)):Option (List aJ):=
 some j1
def zae4(a0:List aB)(a1:aL)(g1:Int×(List aJ)):Option ((Int×(List aJ))⊕(List aJ)):=
 (if(decide (g1.1<(a0.length:Int)))=true then
  gd (0<=g1.1/\g1.1<(a0.length:Int))<|
  (zn4 (a0.getD g1.1.toNat aB.zero) a1).bind λ v1=>
  (if(!decide (v1={aC.zero with}))=true then
   gd (g1.2.length+1<=4294967296)<|
   some (.inl ((i64.wrap (g1.1+1)),(g1.2++[(⟨((a0.getD g1.1.toNat aB.zero).aA).name,v1⟩:aJ)])))
  else
   some (.inl ((i64.wrap (g1.1+1)),g1.2)))
 else
  some (.inr g1.2))
def zl1(a0:List aB)(a1:aL):Option (List aJ):=
 (zc2 (zae4 a0 a1) (0,[])).bind (λ z=>zaO2 z)
@[reducible,instance] def zeg5 a0 a1:=mkJ (zl1 a0 a1) 0 (@zaO2.eq_1) λ(j1:(List aJ))=>⟨[(5,.own 0 0 j1.length)],[(0,sx j1)],1⟩
@[reducible,instance] def zeg6 (a0:List aB) (a1:aL) {T:Type} (x:T):=mkL x (@zae4.eq_1 a0 a1) λ(g1:Int×(List aJ))=>⟨[(3,.ptr 0 0 0),(5,.own 1 0 g1.2.length),(9,la a0),(10,.int .i64 (a0.length:Int)),(11,.int .i64 g1.1)],[(0,bx a1),(1,sx g1.2)],2⟩
instance zcV4(a0:List aB)(a1:aL):OkP (zl1 a0 a1) 176 [la a0,ga a1] (λ r=>la r):=ok1 (zl1.eq_1 a0 a1) Tryz.f176 [(5,1)]
attribute [local irreducible] zl1
def zaL2(j1:Unit):Option Bool:=
 some true
def zK6(a0:ByteArray)(g1:Int):Option (Int⊕(Unit⊕Bool)):=
 (if(decide (g1<(a0.size:Int)))=true then
  gd (0<=g1/\g1<(a0.size:Int))<|
  (if(!(zF9 ((a0.toList.getD g1.toNat 0).toNat:Int)))=true then
   some (.inr (.inr false))
  else
   some (.inl (i64.wrap (g1+1))))
 else
  some (.inr (.inl ())))
def zi0(a0:ByteArray):Option Bool:=
 gd ((!(decide ((a0.size:Int)<1)||decide (12<(a0.size:Int))))=true->0<=0/\0<(a0.size:Int))<|
 (if(((decide ((a0.size:Int)<1)||decide (12<(a0.size:Int)))||(!(zS6 ((a0.toList.getD 0 0).toNat:Int))))||zK5 a0)=true then
  some false
 else
  (zc2 (zK6 a0) 0).bind (λ|.inl z=>zaL2 z|.inr z=>some z))
@[reducible,instance] def zeg7 a0:=mkJ (zi0 a0) 0 (@zaL2.eq_1) λ(j1:Unit)=>⟨[],[],0⟩
@[reducible,instance] def zeg8 (a0:ByteArray) {T:Type} (x:T):=mkL x (@zK6.eq_1 a0) λ(g1:Int)=>⟨[(0,.str a0),(3,.int .i64 g1)],[],0⟩
instance zaR4(a0:ByteArray):OkP (zi0 a0) 147 [.str a0] (λ r=>.bool r):=ok1 (zi0.eq_1 a0) Tryz.f147 []
attribute [local irreducible] zi0
def zaC6(j1:bL×aO):Option (aO×bL):=
 some (j1.2,j1.1)
@[go_sem] def zdM1(j1:bL×aO):St:=⟨[(6,.ptr 1 0 0),(8,.ptr 2 0 0)],[(0,bx j1.1),(1,bx aO.zero),(2,⟨false,5,aO.enc aO.zero,[[.int .i64 j1.2.k,.str j1.2.bG.name,.int .i64 j1.2.bG.aM.mode,.int .i64 j1.2.bG.aM.aS,.own 3 0 j1.2.bE.length]]⟩),(3,sx j1.2.bE)],4⟩
def zam4(a90:(List aJ->Int->bL->Option (aO×bL)))(a0:List aJ)(a1:Int)(v3:Int×bL)(g1:Int×bL×aO):Option ((Int×bL×aO)⊕(bL×aO)):=
 (if(decide (g1.1<i64.wrap (1+v3.1)))=true then
  (a90 a0 (i64.wrap (a1-1)) g1.2.1).bind λ v5=>
  gd (g1.2.2.bE.length+1<=4294967296)<|
  some (.inl ((i64.wrap (g1.1+1)),v5.2,(⟨g1.2.2.k,(⟨g1.2.2.bG.name,(⟨g1.2.2.bG.aM.mode,g1.2.2.bG.aM.aS⟩:aC)⟩:aJ),(g1.2.2.bE++[v5.1])⟩:aO)))
 else
  some (.inr (g1.2.1,g1.2.2)))
@[go_sem] def zdM2(a0:List aJ)(a1:Int)(v3:Int×bL)(g1:Int×bL×aO):St:=⟨[(0,.ptr 0 0 0),(1,la a0),(2,.int .i64 a1),(6,.ptr 1 0 0),(7,.int .i64 (i64.wrap (1+v3.1))),(8,.ptr 2 0 0),(9,.int .i64 g1.1)],[(0,bx g1.2.1),(1,bx aO.zero),(2,⟨false,5,aO.enc aO.zero,[[.int .i64 g1.2.2.k,.str g1.2.2.bG.name,.int .i64 g1.2.2.bG.aM.mode,.int .i64 g1.2.2.bG.aM.aS,.own 3 0 g1.2.2.bE.length]]⟩),(3,sx g1.2.2.bE)],4⟩
def zaf6(a90:(List aJ->Int->bL->Option (aO×bL)))(a0:List aJ)(a1:Int)(a2:bL):Option (aO×bL):=
 ((if(!(decide (a1=0)))=true then zb9 4 a2 else some (0,a2))).bind λ v1=>
 (if(decide (a1=0)||decide (v1.1=0))=true then
  (zb9 (a0.length:Int) v1.2).bind λ v2=>
  gd (0<=v2.1/\v2.1<(a0.length:Int))<|
  some ({aO.zero with bG:=(a0.getD v2.1.toNat aJ.zero)},v2.2)
 else
  (zb9 3 v1.2).bind λ v3=>
  (zb9 (i64.wrap (1+v3.1)) v3.2).bind λ v4=>
  (zc2 (zam4 a90 a0 a1 v3) (0,v4.2,(⟨(i64.wrap (1+v4.1)),(⟨aJ.zero.name,(⟨aJ.zero.aM.mode,aJ.zero.aM.aS⟩:aC)⟩:aJ),[]⟩:aO))).bind (λ z=>zaC6 z))
def zU2:Nat->(List aJ->Int->bL->Option (aO×bL))
 |0=>λ _ _ _=>none
 |n+1=>zaf6 (zU2 n)
def zr1(a0:List aJ)(a1:Int)(a2:bL):Option (aO×bL):=zU2 (a1.toNat+1) a0 a1 a2
theorem zbF8(a90:(List aJ->Int->bL->Option (aO×bL)))(hrc:∀(a0:List aJ) (a1:Int) (a2:bL) (r:aO×bL),a90 a0 a1 a2=some r->MFn C 244 [.ptr 0 0 0,la a0,.int .i64 a1] [(0,bx a2)] 1 (ga r.1) [(0,bx r.2)] 1)(a0:List aJ)(a1:Int)(a2:bL)(r:aO×bL)(h:zaf6 a90 a0 a1 a2=some r):MFn C 244 [.ptr 0 0 0,la a0,.int .i64 a1] [(0,bx a2)] 1 (ga r.1) [(0,bx r.2)] 1:=by
 refine zaK6 Tryz.f244 [(32,18),(8,18)] [ga r.1] λ E hG hN hK=>?_;unfold zaf6 at h;refine za3 (za8 hG ?_);refine za3 (za3 (za8 hG ?_));obtain⟨v1,hv1,h⟩:=zf3 h;refine zbB3 [(0,0)] [0] hv1 (λ hc=>(zw1 4 a2).ok _ hc) rfl ?_;refine zq4 rfl hG h (λ _ h=>?_) (λ _ h=>?_)
 · refine za3 (za8 hG ?_)
   obtain⟨v2,hv2,h⟩:=zf3 h;obtain⟨hb1,h⟩:=zg8 h;refine zv5 [(0,0)] [] [0] ((zw1 (a0.length:Int) v1.2).ok _ hv2) rfl rfl ?_;refine zx6 ?_;exact zV5 [(0,0)] h
 refine zo1 ?_;refine za3 (za8 hG ?_);obtain⟨v3,hv3,h⟩:=zf3 h;refine zv5 [(0,0)] [] [0] ((zw1 3 v1.2).ok _ hv3) rfl rfl ?_;refine za3 (za8 hG ?_);obtain⟨v4,hv4,h⟩:=zf3 h;refine zv5 [(0,0)] [] [0] ((zw1 (i64.wrap (1+v3.1)) v3.2).ok _ hv4) rfl rfl ?_;refine g_gh (.ownb 2 4 5 (aO.enc aO.zero)) ?_;refine za3 (za3 (za8 hG ?_));refine zO8 zdM1 (λ v=>zaC6 v=some r) ?_ ?_
 · intro j1 h
   unfold zaC6 at h;refine g_st ?_;refine za3 (za8 hG ?_);refine g_gh (.fz [3]) ?_;refine zx6 ?_;exact zV5 [(0,0)] h
 refine zau2 (zdM2 a0 a1 v3) hK [(0,0),(1,1),(2,2),(3,3)] h (λ x_l1 h g1 y_l1 h_l1 hx_l1=>?_);unfold zam4 at h_l1;refine g_st ?_;refine za3 (za3 (za8 hG ?_));refine zq4 rfl hG h_l1 (λ _ h_l1=>?_) (λ _ h_l1=>?_)
 · refine zo1 ?_
   refine za3 (zM3 (zaM5 zM4 hG ?_));obtain⟨v5,hv5,h_l1⟩:=zf3 h_l1;obtain⟨hb2,h_l1⟩:=zg8 h_l1;refine zbV6 [(0,0)] [] [0] (hrc a0 (i64.wrap (a1-1)) g1.2.1 _ hv5) rfl rfl ?_;refine za8 hG ?_;exact zZ9 hK [(0,0),(1,1),(2,2),(3,4)] h_l1
 refine zS4 ?_;cases h_l1;cases hx_l1 _ rfl;exact zJ8 hK [(0,0),(1,1),(2,2),(3,3)] (g1.2.1,g1.2.2) (by exact h)
theorem zba7:∀(n:Nat) (a0:List aJ) (a1:Int) (a2:bL) (r:aO×bL),zU2 n a0 a1 a2=some r->MFn C 244 [.ptr 0 0 0,la a0,.int .i64 a1] [(0,bx a2)] 1 (ga r.1) [(0,bx r.2)] 1
 |0,_,_,_,_,h=>nomatch h
 |n+1,a0,a1,a2,r,h=>zbF8 (zU2 n) (zba7 n) a0 a1 a2 r h
instance zdb1(a0:List aJ)(a1:Int)(a2:bL):OkM (zr1 a0 a1 a2) 244 [.ptr 0 0 0,la a0,.int .i64 a1] [(0,bx a2)] 1 (λ r=>ga r.1) (λ r=>[(0,bx r.2)]) 1:=⟨λ r h=>zba7 _ a0 a1 a2 r h⟩
attribute [local irreducible] zr1
def zaC7(a2:bB)(j1:(List aF)):Option (Int×bB):=
 some (0,(⟨(⟨a2.c.now,a2.c.aI,j1⟩:aV),a2.ev⟩:bB))
def zM7(g1:Int×(List aF)):Option ((Int×(List aF))⊕(List aF)):=
 gd (decide (0<g1.1)=true->0<=i64.wrap (g1.1-1)/\i64.wrap (g1.1-1)<((g1.2.length:Nat):Int))<|
 gd (decide (0<g1.1)=true->0<=g1.1/\g1.1<((g1.2.length:Nat):Int))<|
 (if(decide (0<g1.1)&&decide (0<zv4 ((g1.2.getD ((i64.wrap (g1.1-1)).toNat) aF.zero).aK) ((g1.2.getD g1.1.toNat aF.zero).aK)))=true then
  gd (0<=g1.1/\g1.1<((g1.2.length:Nat):Int))<|
  gd (0<=i64.wrap (g1.1-1)/\i64.wrap (g1.1-1)<((g1.2.length:Nat):Int))<|
  gd (0<=g1.1/\g1.1<((g1.2.length:Nat):Int))<|
  gd (0<=i64.wrap (g1.1-1)/\i64.wrap (g1.1-1)<((g1.2.length:Nat):Int))<|
  some (.inl ((i64.wrap (g1.1-1)),(g1.2.set g1.1.toNat (g1.2.getD ((i64.wrap (g1.1-1)).toNat) aF.zero)).set ((i64.wrap (g1.1-1)).toNat) (g1.2.getD g1.1.toNat aF.zero)))
 else
  some (.inr g1.2))
def zg7(a0:aL)(a1:Int)(a2:bB):Option (Int×bB):=
 (if(((!(zr5 a0))||decide (a1<1))||decide (1000<a1))=true then
  some (1,a2)
 else
  (zi9 a2.c.aG a0).bind λ v1=>
  (if(decide (0<=v1))=true then
   some (11,a2)
  else
   (if(decide (((a2.c.aG.length:Nat):Int)=8))=true then
    some (4,a2)
   else
    gd (a2.c.aG.length+1<=4294967296)<|
    (zc2 zM7 ((i64.wrap (((a2.c.aG.length+1:Nat):Int)-1)),(a2.c.aG++[{aF.zero with aK:=a0,cost:=a1}]))).bind (λ z=>zaC7 a2 z))))
@[reducible,instance] def zeg9 a0 a1 (a2:bB) {T1:Type} (v1:T1):=mkJ (zg7 a0 a1 a2,v1) 0 (@zaC7.eq_1 a2) λ(j1:(List aF))=>⟨[(0,.ptr 0 0 0),(7,.own 3 0 j1.length)],[(0,⟨false,4,bB.enc bB.zero,[[.int .i64 a2.c.now,la a2.c.aI,.own 1 0 a2.c.aG.length,.own 4 0 a2.ev.length]]⟩),(3,sx j1),(4,sx a2.ev)],5⟩
@[reducible,instance] def zeh0 a0 a1 (a2:bB) {T1:Type} (v1:T1):=mkL (zg7 a0 a1 a2,v1) (@zM7.eq_1) λ(g1:Int×(List aF))=>⟨[(0,.ptr 0 0 0),(7,.own 3 0 g1.2.length),(8,.int .i64 g1.1)],[(0,⟨false,4,bB.enc bB.zero,[[.int .i64 a2.c.now,la a2.c.aI,.own 1 0 a2.c.aG.length,.own 4 0 a2.ev.length]]⟩),(3,sx g1.2),(4,sx a2.ev)],5⟩
instance zcv3(a0:aL)(a1:Int)(a2:bB):OkM (zg7 a0 a1 a2) 193 [.ptr 0 0 0,ga a0,.int .i64 a1] [(0,⟨false,4,bB.enc bB.zero,[[.int .i64 a2.c.now,la a2.c.aI,.own 1 0 a2.c.aG.length,.own 2 0 a2.ev.length]]⟩),(1,sx a2.c.aG),(2,sx a2.ev)] 3 (λ r=>.int .i64 r.1) (λ r=>[(0,⟨false,4,bB.enc bB.zero,[[.int .i64 r.2.c.now,la r.2.c.aI,.own 3 0 r.2.c.aG.length,.own 4 0 r.2.ev.length]]⟩),(3,sx r.2.c.aG),(4,sx r.2.ev)]) 5:=okm (zg7.eq_1 a0 a1 a2) (λ r=>[.int .i64 r.1]) Tryz.f193 []
attribute [local irreducible] zg7
def zt7(a0:aB)(a1:aL):Option Bool:=
 (zi7 a0 a1).bind λ v1=>
 ((if(!v1.2)=true then zj8 a0 a1 else some aC.zero)).bind λ v2=>
 some (v1.2||(!(zn2 v2)))
instance zdD9(a0:aB)(a1:aL):OkP (zt7 a0 a1) 295 [ga a0,ga a1] (λ r=>.bool r):=ok1 (zt7.eq_1 a0 a1) Tryz.f295 []
attribute [local irreducible] zt7
def zc9(a0:aH)(a1:aC):Bool:=
 (zg4 a0&&(zk8 a1||za2 a0 a1))
instance zbs1(a0:aH)(a1:aC):OkT 282 [.agg (aH.enc a0),.agg (aC.enc a1)] (.bool (zc9 a0 a1)):=ok2 (λ r=>.bool r) (zc9.eq_1 a0 a1) Tryz.f282 []
def ltS(x y:aL):Prop:=x.site<y.site\/x.site=y.site/\(x.inc<y.inc\/x.inc=y.inc/\x.num<y.num)
instance(x y:aL):Decidable (ltS x y):=by unfold ltS;infer_instance
def cmpS(x y:aL):Int:=if ltS x y then-1 else if ltS y x then 1 else 0
theorem zba8(x y:aL):ltOf cmpS x y=decide (ltS x y):=by
 unfold ltOf cmpS
 by_cases h:ltS x y
 .simp[h]
 .by_cases h2:ltS y x<;>simp[h,h2]
theorem zdq1:Go.Sort.SWO (ltOf cmpS) where
 irrefl x:=by rw[zba8];simp[ltS]
 trans x y z h1 h2:=by rw[zba8,bY]at*;unfold ltS at*;omega
 ntrans x y z h1 h2:=by rw[zba8,cL]at*;unfold ltS at*;omega
theorem zcL4(x y:aL)(h1:ltOf cmpS x y=false)(h2:ltOf cmpS y x=false):x=y:=by rw[zba8,cL]at*;unfold ltS at*;rw[aL.ext_iff];omega
theorem zdE0(p q:aL):zd4 p q=some (cmpS p q):=by
 unfold zd4 zh8;have e:∀(x y z:Int) (i:Nat) (h:[x,y,z].length=3),Arr.get (⟨[x,y,z],h⟩:Arr Int 3) i 0=match i with|0=>x|1=>y|_=>z:=by
  intro x y z i h
  match i with
  |0=>rfl
  |1=>rfl
  |2=>rfl
  |n+3=>
    have:¬(n+3<3):=by omega
    simp[Arr.get,zO4,this]
 have w1:i64.wrap (0+1)=1:=by decide
 have w2:i64.wrap (1+1)=2:=by decide
 have w3:i64.wrap (2+1)=3:=by decide
 have s3:zq2 ⟨[p.site,p.inc,p.num],rfl⟩ ⟨[q.site,q.inc,q.num],rfl⟩ 3=some (.inr (.inl ())):=by unfold zq2;simp
 have s2:zq2 ⟨[p.site,p.inc,p.num],rfl⟩ ⟨[q.site,q.inc,q.num],rfl⟩ 2=some (if p.num<q.num then .inr (.inr (-1))else if q.num<p.num then .inr (.inr 1)else .inl 3):=by
  unfold zq2;rw[bX (by decide),zh3 (by decide),zh3 (by decide),zh3 (by decide)];simp only[e,show(2:Int).toNat=2 from rfl,bY,w3]
  by_cases h:p.num<q.num
  .simp[h]
  .by_cases h2:q.num<p.num<;>simp[h,h2]
 have s1:zq2 ⟨[p.site,p.inc,p.num],rfl⟩ ⟨[q.site,q.inc,q.num],rfl⟩ 1=some (if p.inc<q.inc then .inr (.inr (-1))else if q.inc<p.inc then .inr (.inr 1)else .inl 2):=by
  unfold zq2;rw[bX (by decide),zh3 (by decide),zh3 (by decide),zh3 (by decide)];simp only[e,show(1:Int).toNat=1 from rfl,bY,w2]
  by_cases h:p.inc<q.inc
  .simp[h]
  .by_cases h2:q.inc<p.inc<;>simp[h,h2]
 have s0:zq2 ⟨[p.site,p.inc,p.num],rfl⟩ ⟨[q.site,q.inc,q.num],rfl⟩ 0=some (if p.site<q.site then .inr (.inr (-1))else if q.site<p.site then .inr (.inr 1)else .inl 1):=by
  unfold zq2;rw[bX (by decide),zh3 (by decide),zh3 (by decide),zh3 (by decide)];simp only[e,show(0:Int).toNat=0 from rfl,bY,w1]
  by_cases h:p.site<q.site
  .simp[h]
  .by_cases h2:q.site<p.site<;>simp[h,h2]
 unfold cmpS ltS
 by_cases a1:p.site<q.site
 .rw[zq3,s0];simp[a1]
 · by_cases a2:q.site<p.site
   · rw[zq3,s0]
     have:¬p.site=q.site:=by omega
     simp[a1,a2,this]
   · have h1:p.site=q.site:=by omega
     by_cases b1:p.inc<q.inc
     .rw[zq3,s0];simp only[a1,a2,cB];rw[zq3,s1];simp[b1,h1]
     · by_cases b2:q.inc<p.inc
       · have:¬p.inc=q.inc:=by omega
         rw[zq3,s0];simp only[a1,a2,cB];rw[zq3,s1];simp[b1,b2,h1,this]
       · have h2:p.inc=q.inc:=by omega
         rw[zq3,s0];simp only[a1,a2,cB];rw[zq3,s1];simp only[b1,b2,cB];rw[zq3,s2]
         by_cases c1:p.num<q.num
         .simp[c1,h1,h2]
         · by_cases c2:q.num<p.num
           .simp[c1,c2,h1,h2]
           .simp only[c1,c2,cB];rw[zq3,s3];simp[h1,h2,zaj4]
def zaR5(j1:(List Int)):Option (List Int):=
 some j1
def zaR6(a1:aL)(g1:(List Int)×Int):Option (((List Int)×Int)⊕(List Int)):=
 (if(decide (g1.2<3))=true then
  gd (0<=g1.2/\g1.2<3)<|
  (zi3 g1.1 (u64.wrap (Arr.get (⟨[a1.site,a1.inc,a1.num],rfl⟩:Arr Int 3) g1.2.toNat 0))).bind λ v1=>
  some (.inl (v1,i64.wrap (g1.2+1)))
 else
  some (.inr g1.1))
def zm2(a0:List Int)(a1:aL):Option (List Int):=
 gd (a0.length<=4294967296)<|
 (if(!(zd2 a1))=true then
  some a0
 else
  (zc2 (zaR6 a1) (a0,0)).bind (λ z=>zaR5 z))
@[reducible,instance] def zeh1 (a0:List Int) (a1:aL):=mkJ (zm2 a0 a1) 0 (@zaR5.eq_1) λ(j1:(List Int))=>⟨[(5,.sl (j1.map (eI .u8)))],[],0⟩
@[reducible,instance] def zeh2 (a1:aL) {T:Type} (x:T):=mkL x (@zaR6.eq_1 a1) λ(g1:(List Int)×Int)=>⟨[(5,.sl (g1.1.map (eI .u8))),(20,.agg (Arr.enc (eI .i64) (⟨[a1.site,a1.inc,a1.num],rfl⟩:Arr Int 3))),(21,.int .i64 g1.2)],[],0⟩
instance zdb2(a0:List Int)(a1:aL):OkP (zm2 a0 a1) 47 [.sl (a0.map (eI .u8)),ga a1] (λ r=>.sl (r.map (eI .u8))):=⟨λ r h=>by
 refine zae9 Tryz.f47 [] λ E hG hN hK=>?_;have hm:Mk (zm2 a0 a1):=trivial;unfold zm2 at h;refine za3 (za8 hG ?_);refine za3 ?_;obtain⟨hb2,h⟩:=zg8 h;refine za8 hG ?_;refine g_gh (.fz [1]) ?_;exact gogo⟩
attribute [local irreducible] zm2
def zaC8(j1:(List Int)):Option (List Int):=
 some j1
def zaC9(a90:(List Int->aO->Option (List Int)))(a1:aO)(g1:(List Int)×Int):Option (((List Int)×Int)⊕(List Int)):=
 (if(decide (g1.2<(a1.bE.length:Int)))=true then
  gd (0<=g1.2/\g1.2<(a1.bE.length:Int))<|
  (a90 g1.1 (a1.bE.getD g1.2.toNat aO.zero)).bind λ v5=>
  some (.inl (v5,i64.wrap (g1.2+1)))
 else
  some (.inr g1.1))
def zZ7(a90:(List Int->aO->Option (List Int)))(a0:List Int)(a1:aO):Option (List Int):=
 (zd1 a0 [a1.k]).bind λ v1=>
 (if(decide (a1.k=0))=true then
  (zl3 v1 a1.bG.name).bind λ v2=>
  (zd1 v2 [a1.bG.aM.mode,a1.bG.aM.aS]).bind λ v3=>
  some v3
 else
  (zd1 v1 [(a1.bE.length:Int)]).bind λ v4=>
  (zc2 (zaC9 a90 a1) (v4,0)).bind (λ z=>zaC8 z))
def zao9:Nat->(List Int->aO->Option (List Int))
 |0=>λ _ _=>none
 |n+1=>zZ7 (zao9 n)
def zl6(a0:List Int)(a1:aO):Option (List Int):=zao9 (_root_.SizeOf.sizeOf a1+1) a0 a1
@[reducible,instance] def zeh3 (a90:(List Int->aO->Option (List Int))) (a0:List Int) (a1:aO) {T1:Type} (v1:T1) {T2:Type} (v4:T2):=mkJ ((zZ7 a90 a0 a1,v1),v4) 0 (@zaC8.eq_1) λ(j1:(List Int))=>⟨[(0,.sl (j1.map (eI .u8)))],[],0⟩
@[reducible,instance] def zeh4 (a90:(List Int->aO->Option (List Int))) (a1:aO) {T:Type} (x:T):=mkL x (@zaC9.eq_1 a90 a1) λ(g1:(List Int)×Int)=>⟨[(0,.sl (g1.1.map (eI .u8))),(37,la a1.bE),(38,.int .i64 (a1.bE.length:Int)),(39,.int .i64 g1.2)],[],0⟩
abbrev zae5(g:(List Int->aO->Option (List Int))):Prop:=∀(a0:List Int) (a1:aO),OkP (g a0 a1) 46 [.sl (a0.map (eI .u8)),.agg (aO.enc a1)] (λ r=>.sl (r.map (eI .u8)))
theorem zbj9(a90:(List Int->aO->Option (List Int)))(hrc:zae5 a90):zae5 (zZ7 a90):=λ a0 a1=>ok1 (zZ7.eq_1 a90 a0 a1) Tryz.f46 []
theorem zbk0:∀n,zae5 (zao9 n):=zaQ7 (λ _ _=>⟨λ _ h=>nomatch h⟩) λ n=>zbj9 _
instance zcB2:zae5 zl6:=λ a0 a1=>zbk0 _ a0 a1
attribute [local irreducible] zl6
def zj4(a0 a1:bP):Option Bool:=
 ((if(decide (a0.aK=a1.aK)&&decide (a0.gen=a1.gen))=true then zg2 a0.bN a1.bN else some false)).bind λ v1=>
 some ((decide (a0.aK=a1.aK)&&decide (a0.gen=a1.gen))&&v1)
instance zcv4(a0 a1:bP):OkP (zj4 a0 a1) 56 [ga a0,ga a1] (λ r=>.bool r):=ok1 (zj4.eq_1 a0 a1) Tryz.f56 []
attribute [local irreducible] zj4
def zk0(a0:aF)(a1:aL):Option (Bool×aL):=
 (zd4 a0.aK a1).bind λ v1=>
 some ((decide (v1=0)),a1)
instance zcv5(a0:aF)(a1:aL):OkM (zk0 a0 a1) 113 [ga a0,.ptr 0 0 0] [(0,bx a1)] 1 (λ r=>.bool r.1) (λ r=>[(0,bx r.2)]) 1:=okm (zk0.eq_1 a0 a1) (λ r=>[.bool r.1]) Tryz.f113 []
attribute [local irreducible] zk0
def zv7(a0 a1:aC):Bool:=
 (if((!(zn0 a1))||decide (a0=a1))=true then
  false
 else
  (if(decide (a0={aC.zero with}))=true then
   true
  else
   (if(!(zn0 a0))=true then
    false
   else
    (if(!decide (a0.mode=0))=true then
     (zH9 a1.mode a0.mode)
    else
     (decide (a0.aS<a1.aS))))))
instance zdq2(a0 a1:aC):OkT 182 [.agg (aC.enc a0),.agg (aC.enc a1)] (.bool (zv7 a0 a1)):=ok2 (λ r=>.bool r) (zv7.eq_1 a0 a1) Tryz.f182 []
def zaW4(j1:(List aJ)):Option (List aJ):=
 some j1
def zam5(a0:List aB)(a1:aL)(g1:Int×(List aJ)):Option ((Int×(List aJ))⊕(List aJ)):=
 (if(decide (g1.1<(a0.length:Int)))=true then
  gd (0<=g1.1/\g1.1<(a0.length:Int))<|
  (zi7 (a0.getD g1.1.toNat aB.zero) a1).bind λ v1=>
  (if v1.2=true then
   gd (0<=g1.1/\g1.1<(a0.length:Int))<|
   gd (g1.2.length+1<=4294967296)<|
   some (.inl ((i64.wrap (g1.1+1)),(g1.2++[(⟨((a0.getD g1.1.toNat aB.zero).aA).name,v1.1⟩:aJ)])))
  else
   some (.inl ((i64.wrap (g1.1+1)),g1.2)))
 else
  some (.inr g1.2))
def zp4(a0:List aB)(a1:aL):Option (List aJ):=
 (zc2 (zam5 a0 a1) (0,[])).bind (λ z=>zaW4 z)
@[reducible,instance] def zeh5 a0 a1:=mkJ (zp4 a0 a1) 0 (@zaW4.eq_1) λ(j1:(List aJ))=>⟨[(5,.own 0 0 j1.length)],[(0,sx j1)],1⟩
@[reducible,instance] def zeh6 (a0:List aB) (a1:aL) {T:Type} (x:T):=mkL x (@zam5.eq_1 a0 a1) λ(g1:Int×(List aJ))=>⟨[(0,la a0),(3,.ptr 0 0 0),(5,.own 1 0 g1.2.length),(6,.int .i64 g1.1)],[(0,bx a1),(1,sx g1.2)],2⟩
instance zdi7(a0:List aB)(a1:aL):OkP (zp4 a0 a1) 124 [la a0,ga a1] (λ r=>la r):=ok1 (zp4.eq_1 a0 a1) Tryz.f124 [(5,1)]
attribute [local irreducible] zp4
def zbm3(j1:Unit):Option Int:=
 some 0
def zaD0(a0 a1 g1:Int):Option (Int⊕(Unit⊕Int)):=
 (if(decide (g1<=5))=true then
  (if(zH9 g1 a0&&zH9 g1 a1)=true then
   some (.inr (.inr g1))
  else
   some (.inl (i64.wrap (g1+1))))
 else
  some (.inr (.inl ())))
def zv1(a0 a1:Int):Option Int:=
 (zc2 (zaD0 a0 a1) 1).bind (λ|.inl z=>zbm3 z|.inr z=>some z)
@[reducible,instance] def zeh7 a0 a1:=mkJ (zv1 a0 a1) 0 (@zbm3.eq_1) λ(j1:Unit)=>⟨[],[],0⟩
@[reducible,instance] def zeh8 (a0 a1:Int) {T:Type} (x:T):=mkL x (@zaD0.eq_1 a0 a1) λ(g1:Int)=>⟨[(0,.int .i64 a0),(1,.int .i64 a1),(5,.int .i64 g1)],[],0⟩
instance zdE1(a0 a1:Int):OkP (zv1 a0 a1) 242 [.int .i64 a0,.int .i64 a1] (λ r=>.int .i64 r):=ok1 (zv1.eq_1 a0 a1) Tryz.f242 []
attribute [local irreducible] zv1
def zt5:List ByteArray:=[(⟨#[97]⟩:ByteArray),(⟨#[98]⟩:ByteArray),(⟨#[99]⟩:ByteArray),(⟨#[100]⟩:ByteArray)]
def zau6(j1:bL×(List aH)):Option ((List aH)×bL):=
 (zb9 8 j1.1).bind λ v1=>
 (zb9 4 v1.2).bind λ v2=>
 gd (j1.2.length+1<=4294967296)<|
 (zb9 3 v2.2).bind λ v3=>
 (zb9 4 v3.2).bind λ v4=>
 gd (j1.2.length+1+1<=4294967296)<|
 some (((j1.2++[(⟨(⟨#[112]⟩:ByteArray),2,i64.wrap (1+v1.1),v2.1⟩:aH)])++[(⟨(⟨#[113]⟩:ByteArray),2,i64.wrap (1+v3.1),v4.1⟩:aH)]),v4.2)
def zN6(g1:Int×bL×(List aH)):Option ((Int×bL×(List aH))⊕(bL×(List aH))):=
 (if(decide (g1.1<(zt5.length:Int)))=true then
  gd (0<=g1.1/\g1.1<(zt5.length:Int))<|
  (zb9 4 g1.2.1).bind λ v5=>
  gd (g1.2.2.length+1<=4294967296)<|
  some (.inl ((i64.wrap (g1.1+1)),v5.2,(g1.2.2++[(⟨(zt5.getD g1.1.toNat ⟨#[]⟩),1,1,v5.1⟩:aH)])))
 else
  some (.inr (g1.2.1,g1.2.2)))
def zl2(a0:bL):Option ((List aH)×bL):=
 (zc2 zN6 (0,a0,[])).bind (λ z=>zau6 z)
@[reducible,instance] def zeh9 (a0:bL):=mkJ (zl2 a0) 0 (@zau6.eq_1) λ(j1:bL×(List aH))=>⟨[(0,.ptr 0 0 0),(3,.own 1 0 j1.2.length)],[(0,bx j1.1),(1,sx j1.2)],2⟩
@[reducible,instance] def zei0 {T:Type} (x:T):=mkL x (@zN6.eq_1) λ(g1:Int×bL×(List aH))=>⟨[(0,.ptr 0 0 0),(3,.own 1 0 g1.2.2.length),(4,.full (zt5.map eS)),(5,.int .i64 g1.1)],[(0,bx g1.2.1),(1,sx g1.2.2)],2⟩
instance zcL5(a0:bL):OkM (zl2 a0) 72 [.ptr 0 0 0] [(0,bx a0)] 1 (λ r=>la r.1) (λ r=>[(0,bx r.2)]) 1:=⟨λ r h=>by
 refine zaK6 Tryz.f72 [(3,1)] [la r.1] λ E hG hN hK=>?_;have hm:Mk (zl2 a0):=trivial;unfold zl2 at h;refine za3 (za8 hG ?_);refine za3 (za8 hG ?_);refine za3 (za8 hG ?_);refine g_gh (.cast 4 (.full (zt5.map eS))) ?_;refine za3 (za3 (za8 hG ?_));refine zaB6 hm h (λ j1 hm h=>?_) ?_
 · try refine g_st ?_
   refine za3 (za8 hG ?_);obtain⟨v1,hv1,h⟩:=zf3 h;have hm:=mkP hm v1;refine zv5 [(0,0)] [] [0] ((zw1 8 j1.1).ok _ hv1) rfl rfl ?_;obtain⟨v2,hv2,h⟩:=zf3 h;have hm:=mkP hm v2;obtain⟨hb2,h⟩:=zg8 h;refine zv5 [(0,0)] [] [0] ((zw1 4 v1.2).ok _ hv2) rfl rfl ?_;refine za3 (za8 hG ?_);obtain⟨v3,hv3,h⟩:=zf3 h;have hm:=mkP hm v3;refine zv5 [(0,0)] [] [0] ((zw1 3 v2.2).ok _ hv3) rfl rfl ?_;obtain⟨v4,hv4,h⟩:=zf3 h;have hm:=mkP hm v4;obtain⟨hb1,h⟩:=zg8 h;refine zv5 [(0,0)] [] [0] ((zw1 4 v3.2).ok _ hv4) rfl rfl ?_;refine g_gh (.fz [3]) ?_;exact gogo
 exact gogo⟩
attribute [local irreducible] zl2
end
end Ab
end Go.Proofs.YtenebhlnfjcffaaGreatDoor
