import Derived.Test.YtdlfhmkmnjbihaaGreatDoorHm9
import Derived.Test.YtdlfhmkmnjbihaaGreatDoorHm12
namespace Go.Proofs.YtdlfhmkmnjbihaaGreatDoor
namespace Ab
open IntKind (i64 u64 u8)
set_option linter.unusedSimpArgs false
set_option linter.defProp false
set_option linter.unusedVariables false
set_option maxRecDepth 100000
set_option maxHeartbeats 1000000
noncomputable section
attribute [local irreducible] zl5 zj8 zl7 zd1 zg5 zi1 zf5 zm6 zl8 zk4 ze1 ze6 zn5 zd4 zo3 za2 zg8 zg6 za5 zf6 ze4 zg3 zd7 zn0 zc9 zc6 zp8 zh0 zf7 zl6 zd5 zb1 ze0 zd6 za4 zj9 ze5 zh4 zd2 zb3 zf9 zd8 za8 zc3 ze2 zb9 zb2 zk9 za6 zc8 zd3 zk3 zf8 zd9 zk6 zi5 zq5 zc4 za9 ze7 zi3 zg0 zn1 zb7 zq4 zl4 zf1 zb6 zl1 ze8 zk7 zn7 zf2 zl0 zk0 zn8 ze9 zi6 zp3 zj5 zj0 zh2 zi7 zm7 zc5 zg1 zk1 zj1 za7 ze3 zf0 zo7 zm3 zo8 zm4 zo9 zj6 zf4 zm0 zc7 zg2 zr1 zt3 zp4 zf3 zj2 zk2 zr2 zq0 zg7 zj7 zh8 zi2 zj3 zu9 zh6 zm1
def zaQ6(j1:Unit):Option Bool:=
 some true
def zah0(a0:List aD)(g1:Int):Option (Int⊕(Unit⊕Bool)):=
 (if(decide (g1<(a0.length:Int)))=true then
  gd (0<=g1/\g1<(a0.length:Int))<|
  (zc7 (a0.getD g1.toNat aD.zero)).bind λ v1=>
  gd ((v1&&decide (0<g1))=true->0<=i64.wrap (g1-1)/\i64.wrap (g1-1)<(a0.length:Int))<|
  (if((!v1)||(decide (0<g1)&&(!Op.bytesLess ((a0.getD ((i64.wrap (g1-1)).toNat) aD.zero).name).toList ((a0.getD g1.toNat aD.zero).name).toList)))=true then
   some (.inr (.inr false))
  else
   some (.inl (i64.wrap (g1+1))))
 else
  some (.inr (.inl ())))
def zn2(a0:List aD):Option Bool:=
 (if(decide (8<(a0.length:Int)))=true then
  some false
 else
  (zc1 (zah0 a0) 0).bind (λ|.inl z=>zaQ6 z|.inr z=>some z))
@[reducible,instance] def zeI5 a0:=mkJ (zn2 a0) 0 (@zaQ6.eq_1) λ(j1:Unit)=>⟨[],[],0⟩
@[reducible,instance] def zeI6 (a0:List aD) {T:Type} (x:T):=mkL x (@zah0.eq_1 a0) λ(g1:Int)=>⟨[(0,la a0),(8,la a0),(9,.int .i64 (a0.length:Int)),(10,.int .i64 g1)],[],0⟩
instance zdj3(a0:List aD):OkP (zn2 a0) 33 [la a0] (λ r=>.bool r):=ok1 (zn2.eq_1 a0) Tryz.f33 []
attribute [local irreducible] zn2
def zv0(a0:aD):Option (aA×Int):=
 (zc7 a0).bind λ v1=>
 (if(!v1)=true then
  some ({aA.zero with},1)
 else
  some ({aA.zero with aB:=a0},0))
instance zdN2(a0:aD):OkP (zv0 a0) 76 [ga a0] (λ r=>.tup [ga r.1,.int .i64 r.2]):=ok1 (zv0.eq_1 a0) Tryz.f76 []
attribute [local irreducible] zv0
def zah1(j1:Bool):Option Bool:=
 some j1
@[go_sem] def zee7(j1:Bool):St:=⟨[(5,.bool j1)],[],0⟩
def zS2(a1:List aC)(g1:Int×Int×(Arr Bool 6))(j2:Unit):Option ((Int×Int×(Arr Bool 6))⊕Bool):=
 gd (0<=(a1.getD g1.2.1.toNat aC.zero).mode/\(a1.getD g1.2.1.toNat aC.zero).mode<6)<|
 some (.inl ((i64.wrap (g1.1+(a1.getD g1.2.1.toNat aC.zero).aV)),i64.wrap (g1.2.1+1),Arr.put g1.2.2 (((a1.getD g1.2.1.toNat aC.zero).mode).toNat) true))
@[go_sem] def zee8(a0:aD)(a1:List aC)(g1:Int×Int×(Arr Bool 6))(j2:Unit):St:=⟨[(2,.ptr 0 0 0),(5,.bool true),(6,.ptr 1 0 0),(7,.int .i64 (i64.wrap (g1.1+(a1.getD g1.2.1.toNat aC.zero).aV))),(9,.ptr 2 0 0),(15,la a1),(16,.int .i64 (a1.length:Int)),(17,.int .i64 g1.2.1)],[(0,bx a0),(1,⟨false,6,Arr.enc eB (Arr.rep 6 false),[Arr.enc eB g1.2.2]⟩),(2,bx (a1.getD g1.2.1.toNat aC.zero))],3⟩
def zE0(a1:List aC)(g1:Int×Int×(Arr Bool 6))(g2:Int):Option (Int⊕(Unit⊕Bool)):=
 (if(decide (g2<6))=true then
  gd (0<=g2/\g2<6)<|
  ((if(Arr.get g1.2.2 g2.toNat false)=true then zg1 g2 ((a1.getD g1.2.1.toNat aC.zero).mode)else some false)).bind λ v1=>
  (if(Arr.get g1.2.2 g2.toNat false&&(!v1))=true then
   some (.inr (.inr false))
  else
   some (.inl (i64.wrap (g2+1))))
 else
  some (.inr (.inl ())))
@[go_sem] def zee9(a0:aD)(a1:List aC)(g1:Int×Int×(Arr Bool 6))(g2:Int):St:=⟨[(2,.ptr 0 0 0),(5,.bool true),(6,.ptr 1 0 0),(7,.int .i64 (i64.wrap (g1.1+(a1.getD g1.2.1.toNat aC.zero).aV))),(9,.ptr 2 0 0),(15,la a1),(16,.int .i64 (a1.length:Int)),(17,.int .i64 g1.2.1),(41,.agg (Arr.enc eB g1.2.2)),(42,.int .i64 g2)],[(0,bx a0),(1,⟨false,6,Arr.enc eB (Arr.rep 6 false),[Arr.enc eB g1.2.2]⟩),(2,bx (a1.getD g1.2.1.toNat aC.zero))],3⟩
def zJ3(a0:aD)(a1:List aC)(g1:Int×Int×(Arr Bool 6)):Option ((Int×Int×(Arr Bool 6))⊕Bool):=
 (if(decide (g1.2.1<(a1.length:Int)))=true then
  gd (0<=g1.2.1/\g1.2.1<(a1.length:Int))<|
  (if((!(zc0 a0 (a1.getD g1.2.1.toNat aC.zero)))||decide (a0.aV<i64.wrap (g1.1+(a1.getD g1.2.1.toNat aC.zero).aV)))=true then
   some (.inr false)
  else
   (if(decide ((a1.getD g1.2.1.toNat aC.zero).mode=0))=true then
    some (.inl ((i64.wrap (g1.1+(a1.getD g1.2.1.toNat aC.zero).aV)),i64.wrap (g1.2.1+1),g1.2.2))
   else
    (zc1 (zE0 a1 g1) 0).bind (λ|.inl z=>zS2 a1 g1 z|.inr z=>some (.inr z))))
 else
  some (.inr true))
@[go_sem] def zef0(a0:aD)(a1:List aC)(g1:Int×Int×(Arr Bool 6)):St:=⟨[(2,.ptr 0 0 0),(5,.bool true),(6,.ptr 1 0 0),(7,.int .i64 g1.1),(15,la a1),(16,.int .i64 (a1.length:Int)),(17,.int .i64 g1.2.1)],[(0,bx a0),(1,⟨false,6,Arr.enc eB (Arr.rep 6 false),[Arr.enc eB g1.2.2]⟩)],2⟩
def zj4(a0:aD)(a1:List aC):Option Bool:=
 (if(!(zh1 a0))=true then
  some false
 else
  (zc1 (zJ3 a0 a1) (0,0,Arr.rep 6 false)).bind (λ z=>zah1 z))
theorem zbn0(a0:aD)(a1:List aC)(r:Bool)(h:zj4 a0 a1=some r):PFn C 267 [ga a0,la a1] (.bool r):=by
 refine zW4 Tryz.f267 [] λ E hG hN hK=>?_;unfold zj4 at h;refine za0 (za1 hG ?_);refine zcE7 ?_;refine za0 (za0 (za1 hG ?_));refine zr3 (λ hg=>(zbK9 a0).ok) ?_;refine zh9 rfl hG h (λ _ h=>?_) (λ _ h=>?_)
 · refine za0 (za1 hG ?_)
   refine zm8 ?_;exact zy2 h
 refine zh7 ?_;refine za0 (za1 hG ?_);refine za0 (za1 hG ?_);refine za0 (za1 hG ?_);refine za0 ?_;refine zda9 ?_;refine za0 (za0 (za1 hG ?_));refine zB7 zee7 (λ v=>zah1 v=some r) ?_ ?_
 · intro j1 h
   unfold zah1 at h;refine g_st ?_;refine za0 (za1 hG ?_);refine zm8 ?_;exact zy2 h
 refine zat4 (zef0 a0 a1) hK [(0,0),(1,1)] h (λ x_l1 h g1 y_l1 h_l1 hx_l1=>?_);unfold zJ3 at h_l1;refine g_st ?_;refine za0 (za1 hG ?_);refine za0 ?_;refine zh9 rfl hG h_l1 (λ _ h_l1=>?_) (λ _ h_l1=>?_)
 · refine zh7 ?_
   refine za0 (zy9 (za0 ?_));obtain⟨hb3,h_l1⟩:=zg4 h_l1;refine za1 hG ?_;refine za0 (za0 (za1 hG ?_));refine zr3 (λ hg=>(zbu9 a0 (a1.getD g1.2.1.toNat aC.zero)).ok) ?_;refine zh9 rfl hG h_l1 (λ _ h_l1=>?_) (λ _ h_l1=>?_)
   · refine za0 (za1 hG ?_)
     refine zE5 ?_;cases h_l1;cases hx_l1 _ rfl;exact zv9 hK [] false (by exact h)
   refine zh7 ?_;refine za0 (za1 hG ?_);refine za0 (za0 (za1 hG ?_));refine zh9 rfl hG h_l1 (λ _ h_l1=>?_) (λ _ h_l1=>?_)
   · refine zE5 ?_
     refine za1 hG ?_;exact zU3 hK [(0,0),(1,1)] h_l1
   refine zh7 ?_;refine za0 (za0 (za1 hG ?_));refine zB7 (zee8 a0 a1 g1) (λ v=>zS2 a1 g1 v=some y_l1) ?_ ?_
   · intro j2 h_l1
     unfold zS2 at h_l1;refine g_st ?_;obtain⟨hb1,h_l1⟩:=zg4 h_l1;refine za1 hG ?_;refine za1 hG ?_;exact zU3 hK [(0,0),(1,1)] h_l1
   refine zat4 (zee9 a0 a1 g1) hK [(0,0),(1,1),(2,2)] h_l1 (λ x_l2 h_l1 g2 y_l2 h_l2 hx_l2=>?_);unfold zE0 at h_l2;refine g_st ?_;refine za0 (za1 hG ?_);refine za0 ?_;refine zh9 rfl hG h_l2 (λ _ h_l2=>?_) (λ _ h_l2=>?_)
   · refine zh7 ?_
     refine za0 (zy9 (za0 ?_));obtain⟨hb2,h_l2⟩:=zg4 h_l2;refine za1 hG ?_;refine za0 (za1 hG ?_);obtain⟨v1,hv1,h_l2⟩:=zd0 h_l2;refine zr3 (λ hg=>(zbz7 g2 ((a1.getD g1.2.1.toNat aC.zero).mode)).ok _ (zbw6 hg hv1)) ?_;refine zh9 rfl hG h_l2 (λ _ h_l2=>?_) (λ _ h_l2=>?_)
     · refine za0 (za1 hG ?_)
       refine zE5 ?_;obtain rfl:=dP h_l2;have hx:=hx_l2 _ rfl;subst hx
       try dsimp only at h_l1
       cases h_l1;cases hx_l1 _ rfl;exact zv9 hK [] false (by exact h)
     refine zh7 ?_;refine za1 hG ?_;exact zU3 hK [(0,0),(1,1),(2,2)] h_l2
   refine zE5 ?_;obtain rfl:=dP h_l2;have hx:=hx_l2 _ rfl;subst hx
   try dsimp only at h_l1
   exact zv9 hK [(0,0),(1,1),(2,2)] () (by exact h_l1)
 refine zE5 ?_;cases h_l1;cases hx_l1 _ rfl;exact zv9 hK [] true (by exact h)
instance zcC9(a0:aD)(a1:List aC):OkP (zj4 a0 a1) 267 [ga a0,la a1] (λ r=>.bool r):=⟨zbn0 a0 a1⟩
attribute [local irreducible] zj4
def zbi3(j1:Unit):Option Bool:=
 some true
def zR1(a0:List aM)(g1:Int):Option (Int⊕(Unit⊕Bool)):=
 (if(decide (g1<(a0.length:Int)))=true then
  gd (0<=g1/\g1<(a0.length:Int))<|
  ((if(zi4 (a0.getD g1.toNat aM.zero))=true then zl7 a0 ((a0.getD g1.toNat aM.zero).aI)else some 0)).bind λ v1=>
  (if((!(zi4 (a0.getD g1.toNat aM.zero)))||(!decide (v1=g1)))=true then
   some (.inr (.inr false))
  else
   some (.inl (i64.wrap (g1+1))))
 else
  some (.inr (.inl ())))
def zs0(a0:List aM):Option Bool:=
 (if(decide (8<(a0.length:Int)))=true then
  some false
 else
  (zc1 (zR1 a0) 0).bind (λ|.inl z=>zbi3 z|.inr z=>some z))
@[reducible,instance] def zeI7 a0:=mkJ (zs0 a0) 0 (@zbi3.eq_1) λ(j1:Unit)=>⟨[],[],0⟩
@[reducible,instance] def zeI8 (a0:List aM) {T:Type} (x:T):=mkL x (@zR1.eq_1 a0) λ(g1:Int)=>⟨[(0,la a0),(8,la a0),(9,.int .i64 (a0.length:Int)),(10,.int .i64 g1)],[],0⟩
instance zdH9(a0:List aM):OkP (zs0 a0) 260 [la a0] (λ r=>.bool r):=ok1 (zs0.eq_1 a0) Tryz.f260 []
attribute [local irreducible] zs0
def zo6(a0:bF)(a1:List aF):Option (Bool×(List aF)):=
 (zk2 a1 a0.aI).bind λ v1=>
 some ((!v1),a1)
instance zcU3(a0:bF)(a1:List aF):OkM (zo6 a0 a1) 105 [ga a0,.ptr 0 0 0] [(0,⟨false,1,[A.sl ([].map aF.enc)],[[A.sl (a1.map aF.enc)]]⟩)] 1 (λ r=>.bool r.1) (λ r=>[(0,⟨false,1,[A.sl ([].map aF.enc)],[[A.sl (r.2.map aF.enc)]]⟩)]) 1:=okm (zo6.eq_1 a0 a1) (λ r=>[.bool r.1]) Tryz.f105 []
attribute [local irreducible] zo6
def zq1(a0:aD)(a1 a2:aC):Bool:=
 (if((!(zv3 a0 a1))||(!(zv3 a0 a2)))=true then
  false
 else
  (if(zh5 a2)=true then
   true
  else
   (if(zh5 a1)=true then
    false
   else
    (if(decide (a0.kind=1))=true then
     (zV0 a1.mode a2.mode)
    else
     (decide (a2.aV<=a1.aV))))))
instance zbT7(a0:aD)(a1 a2:aC):OkT 30 [.agg (aD.enc a0),.agg (aC.enc a1),.agg (aC.enc a2)] (.bool (zq1 a0 a1 a2)):=ok2 (λ r=>.bool r) (zq1.eq_1 a0 a1 a2) Tryz.f30 []
def zaQ7(a1:bF)(j1:Bool×(List bF)):Option (List bF):=
 (if(!j1.1)=true then
  gd (j1.2.length+1<=4294967296)<|
  some (j1.2++[a1])
 else
  some j1.2)
def zA5(a0:List bF)(a1:bF)(g1:Bool×Int×(List bF)):Option ((Bool×Int×(List bF))⊕(Bool×(List bF))):=
 (if(decide (g1.2.1<(a0.length:Int)))=true then
  gd (0<=g1.2.1/\g1.2.1<(a0.length:Int))<|
  (if(decide ((a0.getD g1.2.1.toNat bF.zero).aI=a1.aI)&&(((a0.getD g1.2.1.toNat bF.zero).name).toList==a1.name.toList))=true then
   some (.inl (g1.1,i64.wrap (g1.2.1+1),g1.2.2))
  else
   (if((!g1.1)&&zaq7 a1 (a0.getD g1.2.1.toNat bF.zero))=true then
    gd (g1.2.2.length+1<=4294967296)<|
    gd (g1.2.2.length+1+1<=4294967296)<|
    some (.inl (true,i64.wrap (g1.2.1+1),((g1.2.2++[a1])++[(a0.getD g1.2.1.toNat bF.zero)])))
   else
    gd (g1.2.2.length+1<=4294967296)<|
    some (.inl (g1.1,i64.wrap (g1.2.1+1),(g1.2.2++[(a0.getD g1.2.1.toNat bF.zero)])))))
 else
  some (.inr (g1.1,g1.2.2)))
def zt9(a0:List bF)(a1:bF):Option (List bF):=
 (zc1 (zA5 a0 a1) (false,0,[])).bind (λ z=>zaQ7 a1 z)
@[reducible,instance] def zet4 a0 (a1:bF):=mkJ (zt9 a0 a1) 0 (@zaQ7.eq_1 a1) λ(j1:Bool×(List bF))=>⟨[(3,.ptr 0 0 0),(5,.own 1 0 j1.2.length),(6,.bool j1.1)],[(0,bx a1),(1,sx j1.2)],2⟩
@[reducible,instance] def zet5 (a0:List bF) (a1:bF) {T:Type} (x:T):=mkL x (@zA5.eq_1 a0 a1) λ(g1:Bool×Int×(List bF))=>⟨[(3,.ptr 0 0 0),(5,.own 1 0 g1.2.2.length),(6,.bool g1.1),(9,la a0),(10,.int .i64 (a0.length:Int)),(11,.int .i64 g1.2.1)],[(0,bx a1),(1,sx g1.2.2)],2⟩
instance zdN3(a0:List bF)(a1:bF):OkP (zt9 a0 a1) 57 [la a0,ga a1] (λ r=>la r):=ok1 (zt9.eq_1 a0 a1) Tryz.f57 [(5,1)]
attribute [local irreducible] zt9
def zm2(a0:List aD)(a1:bJ):Option (aK×bJ):=
 (zb7 (a0.length:Int) a1).bind λ v1=>
 gd (0<=v1.1/\v1.1<(a0.length:Int))<|
 (zb7 3 v1.2).bind λ v2=>
 (zb7 2 v2.2).bind λ v3=>
 (zb7 2 v3.2).bind λ v4=>
 (zb7 9 v4.2).bind λ v5=>
 (zb7 9 v5.2).bind λ v6=>
 (if(decide (v6.1<5))=true then
  (zb7 8 v6.2).bind λ v7=>
  (zp4 (a0.getD v1.1.toNat aD.zero) v7.1).bind λ v8=>
  (zb7 3 v7.2).bind λ v9=>
  some ({{{aK.zero with kind:=1,aI:=(⟨v2.1,i64.wrap (1+v3.1),i64.wrap (1+v4.1)⟩:aF),gen:=v5.1,aW:={aO.zero with name:=(a0.getD v1.1.toNat aD.zero).name}}with aW:={({aK.zero with kind:=1,aI:=(⟨v2.1,i64.wrap (1+v3.1),i64.wrap (1+v4.1)⟩:aF),gen:=v5.1,aW:={aO.zero with name:=(a0.getD v1.1.toNat aD.zero).name}}).aW with aJ:=v8}}with aX:=v9.1},v9.2)
 else
  (if(decide (v6.1<8))=true then
   (if(decide (v6.1=7))=true then
    (zb7 8 v6.2).bind λ v10=>
    (zp4 (a0.getD v1.1.toNat aD.zero) v10.1).bind λ v11=>
    some ({{{aK.zero with kind:=1,aI:=(⟨v2.1,i64.wrap (1+v3.1),i64.wrap (1+v4.1)⟩:aF),gen:=v5.1,aW:={aO.zero with name:=(a0.getD v1.1.toNat aD.zero).name}}with kind:=2}with aW:={({{aK.zero with kind:=1,aI:=(⟨v2.1,i64.wrap (1+v3.1),i64.wrap (1+v4.1)⟩:aF),gen:=v5.1,aW:={aO.zero with name:=(a0.getD v1.1.toNat aD.zero).name}}with kind:=2}).aW with aJ:=v11}},v10.2)
   else
    some ({{aK.zero with kind:=1,aI:=(⟨v2.1,i64.wrap (1+v3.1),i64.wrap (1+v4.1)⟩:aF),gen:=v5.1,aW:={aO.zero with name:=(a0.getD v1.1.toNat aD.zero).name}}with kind:=2},v6.2))
  else
   (zb7 3 v6.2).bind λ v12=>
   (zb7 3 v12.2).bind λ v13=>
   some ({aK.zero with kind:=5,inc:=(i64.wrap (1+v13.1)),site:=v12.1},v13.2)))
instance zcQ8(a0:List aD)(a1:bJ):OkM (zm2 a0 a1) 23 [.ptr 0 0 0,la a0] [(0,bx a1)] 1 (λ r=>ga r.1) (λ r=>[(0,bx r.2)]) 1:=okm (zm2.eq_1 a0 a1) (λ r=>[ga r.1]) Tryz.f23 []
attribute [local irreducible] zm2
def zaE7(j1:(List aF)):Option (List aF):=
 some j1
def zad3(v1:(List aM))(g1:Int×(List aF)):Option ((Int×(List aF))⊕(List aF)):=
 (if(decide (g1.1<(v1.length:Int)))=true then
  gd (0<=g1.1/\g1.1<(v1.length:Int))<|
  gd (g1.2.length+1<=4294967296)<|
  some (.inl ((i64.wrap (g1.1+1)),(g1.2++[(v1.getD g1.1.toNat aM.zero).aI])))
 else
  some (.inr g1.2))
def zs3(a0:aA):Option (List aF):=
 (zo9 a0).bind λ v1=>
 (zc1 (zad3 v1) (0,[])).bind (λ z=>zaE7 z)
@[reducible,instance] def zet6 a0 {T1:Type} (v1:T1):=mkJ (zs3 a0,v1) 0 (@zaE7.eq_1) λ(j1:(List aF))=>⟨[(3,.own 0 0 j1.length)],[(0,sx j1)],1⟩
@[reducible,instance] def zet7 (v1:(List aM)) {T:Type} (x:T):=mkL x (@zad3.eq_1 v1) λ(g1:Int×(List aF))=>⟨[(3,.own 0 0 g1.2.length),(7,la v1),(8,.int .i64 (v1.length:Int)),(9,.int .i64 g1.1)],[(0,sx g1.2)],1⟩
instance zdx9(a0:aA):OkP (zs3 a0) 86 [ga a0] (λ r=>la r):=ok1 (zs3.eq_1 a0) Tryz.f86 [(3,1)]
attribute [local irreducible] zs3
def zak0(j1:(List aO)):Option (Bool×(List aO)):=
 some (true,j1)
@[go_sem] def zdW8(j1:(List aO)):St:=⟨[],[(0,⟨false,1,[A.sl ([].map aO.enc)],[[.own 2 0 j1.length]]⟩),(2,sx j1)],3⟩
def zK9(a90:(aZ->List aO->Option (Bool×(List aO))))(a0:aZ)(g1:Int×(List aO)):Option ((Int×(List aO))⊕((List aO)⊕(Bool×(List aO)))):=
 (if(decide (g1.1<(a0.bE.length:Int)))=true then
  gd (0<=g1.1/\g1.1<(a0.bE.length:Int))<|
  (a90 (a0.bE.getD g1.1.toNat aZ.zero) g1.2).bind λ v3=>
  (if(!v3.1)=true then
   some (.inr (.inr (false,v3.2)))
  else
   some (.inl ((i64.wrap (g1.1+1)),v3.2)))
 else
  some (.inr (.inl g1.2)))
@[go_sem] def zdW9(a0:aZ)(g1:Int×(List aO)):St:=⟨[(1,.ptr 0 0 0),(44,la a0.bE),(45,.int .i64 (a0.bE.length:Int)),(46,.int .i64 g1.1)],[(0,⟨false,1,[A.sl ([].map aO.enc)],[[.own 2 0 g1.2.length]]⟩),(2,sx g1.2)],3⟩
def zO4(a90:(aZ->List aO->Option (Bool×(List aO))))(a0:aZ)(a1:List aO):Option (Bool×(List aO)):=
 (if(decide ((a0.bE.length:Int)=0))=true then
  ((if(decide (a0.k=0))=true then zf3 a0.aW else some false)).bind λ v1=>
  (if(decide (a0.k=0)&&v1)=true then
   (ze2 a0.aW a1).bind λ v2=>
   some (((decide (a0.k=0)&&v1)&&decide (v2.1=0)),v2.2)
  else
   some (((decide (a0.k=0)&&v1)&&decide (0=0)),a1))
 else
  (if((decide (a0.k<1)||decide ((a0.bE.length:Int)<a0.k))||(!decide (a0.aW={aO.zero with})))=true then
   some (false,a1)
  else
   (zc1 (zK9 a90 a0) (0,a1)).bind (λ|.inl z=>zak0 z|.inr z=>some z)))
def zw7:Nat->(aZ->List aO->Option (Bool×(List aO)))
 |0=>λ _ _=>none
 |n+1=>zO4 (zw7 n)
def zn3(a0:aZ)(a1:List aO):Option (Bool×(List aO)):=zw7 (_root_.SizeOf.sizeOf a0+1) a0 a1
theorem zbn1(a90:(aZ->List aO->Option (Bool×(List aO))))(hrc:∀(a0:aZ) (a1:List aO) (r:Bool×(List aO)),a90 a0 a1=some r->MFn C 276 [ga a0,.ptr 0 0 0] [(0,⟨false,1,[A.sl ([].map aO.enc)],[[.own 1 0 a1.length]]⟩),(1,sx a1)] 2 (.bool r.1) [(0,⟨false,1,[A.sl ([].map aO.enc)],[[.own 2 0 r.2.length]]⟩),(2,sx r.2)] 3)(a0:aZ)(a1:List aO)(r:Bool×(List aO))(h:zO4 a90 a0 a1=some r):MFn C 276 [ga a0,.ptr 0 0 0] [(0,⟨false,1,[A.sl ([].map aO.enc)],[[.own 1 0 a1.length]]⟩),(1,sx a1)] 2 (.bool r.1) [(0,⟨false,1,[A.sl ([].map aO.enc)],[[.own 2 0 r.2.length]]⟩),(2,sx r.2)] 3:=by
 refine zU4 Tryz.f276 [] [.bool r.1] λ E hG hN hK=>?_;unfold zO4 at h;refine za0 (za1 hG ?_);refine za0 (za0 (za1 hG ?_));refine zh9 rfl hG h (λ _ h=>?_) (λ _ h=>?_)
 · refine za0 (za1 hG ?_)
   obtain⟨v1,hv1,h⟩:=zd0 h;refine zr3 (λ hg=>(zbm9 a0.aW).ok _ (zbw6 hg hv1)) ?_;refine zdb1 h (λ hc h=>?_) (λ hc h=>?_)
   · obtain⟨v2,hv2,h⟩:=zd0 h
     refine zcH0 hc [(0,0),(1,1)] [(2,3)] [0,1,2] ((zbz5 a0.aW a1).ok _ hv2) rfl rfl ?_;refine zm8 ?_;exact zx8 [(0,0),(2,3)] h
   refine zcH1 hc (.int .i64 0) ?_;refine zm8 ?_;exact zx8 [(0,0),(2,1)] h
 refine zh7 ?_;refine za0 (za0 (za1 hG ?_));refine zh9 rfl hG h (λ _ h=>?_) (λ _ h=>?_)
 · refine za0 (za1 hG ?_)
   refine zm8 ?_;exact zx8 [(0,0),(2,1)] h
 refine zh7 ?_;refine za0 (za0 (za1 hG ?_));refine zB7 zdW8 (λ v=>zak0 v=some r) ?_ ?_
 · intro j1 h
   unfold zak0 at h;refine g_st ?_;refine za0 (za1 hG ?_);refine zm8 ?_;exact zx8 [(0,0),(2,2)] h
 refine zat4 (zdW9 a0) hK [(0,0),(2,1)] h (λ x_l1 h g1 y_l1 h_l1 hx_l1=>?_);unfold zK9 at h_l1;refine g_st ?_;refine za0 (za1 hG ?_);refine za0 ?_;refine zh9 rfl hG h_l1 (λ _ h_l1=>?_) (λ _ h_l1=>?_)
 · refine zh7 ?_
   refine za0 (zy9 (za0 ?_));obtain⟨hb1,h_l1⟩:=zg4 h_l1;refine za1 hG ?_;refine za0 (za1 hG ?_);obtain⟨v3,hv3,h_l1⟩:=zd0 h_l1;refine zs8 [(0,0),(1,2)] [(2,4)] [0,1,2] (hrc (a0.bE.getD g1.1.toNat aZ.zero) g1.2 _ hv3) rfl rfl ?_;refine zh9 rfl hG h_l1 (λ _ h_l1=>?_) (λ _ h_l1=>?_)
   · refine za0 (za1 hG ?_)
     refine zm8 ?_;cases h_l1;cases hx_l1 _ rfl;exact zx8 [(0,0),(2,4)] h
   refine zh7 ?_;refine za1 hG ?_;exact zU3 hK [(0,0),(2,4)] h_l1
 refine zE5 ?_;cases h_l1;cases hx_l1 _ rfl;exact zv9 hK [(0,0),(2,2)] g1.2 (by exact h)
theorem zaK9:∀(n:Nat) (a0:aZ) (a1:List aO) (r:Bool×(List aO)),zw7 n a0 a1=some r->MFn C 276 [ga a0,.ptr 0 0 0] [(0,⟨false,1,[A.sl ([].map aO.enc)],[[.own 1 0 a1.length]]⟩),(1,sx a1)] 2 (.bool r.1) [(0,⟨false,1,[A.sl ([].map aO.enc)],[[.own 2 0 r.2.length]]⟩),(2,sx r.2)] 3
 |0,_,_,_,h=>nomatch h
 |n+1,a0,a1,r,h=>zbn1 (zw7 n) (zaK9 n) a0 a1 r h
instance zbn2(a0:aZ)(a1:List aO):OkM (zn3 a0 a1) 276 [ga a0,.ptr 0 0 0] [(0,⟨false,1,[A.sl ([].map aO.enc)],[[.own 1 0 a1.length]]⟩),(1,sx a1)] 2 (λ r=>.bool r.1) (λ r=>[(0,⟨false,1,[A.sl ([].map aO.enc)],[[.own 2 0 r.2.length]]⟩),(2,sx r.2)]) 3:=⟨λ r h=>zaK9 _ a0 a1 r h⟩
attribute [local irreducible] zn3
def zaE8(a1:bF)(j1:Bool×(List bF)):Option (List bF):=
 (if(!j1.1)=true then
  gd (j1.2.length+1<=4294967296)<|
  some (j1.2++[a1])
 else
  some j1.2)
def zaq8(a0:List bF)(g1:Bool×Int×(List bF))(v1:Int)(j2:Bool×(List bF)):Option ((Bool×Int×(List bF))⊕(Bool×(List bF))):=
 (if(!decide (v1=0))=true then
  gd (j2.2.length+1<=4294967296)<|
  some (.inl (j2.1,i64.wrap (g1.2.1+1),(j2.2++[(a0.getD g1.2.1.toNat bF.zero)])))
 else
  some (.inl (j2.1,i64.wrap (g1.2.1+1),j2.2)))
def zL9(a0:List bF)(a1:bF)(g1:Bool×Int×(List bF)):Option ((Bool×Int×(List bF))⊕(Bool×(List bF))):=
 (if(decide (g1.2.1<(a0.length:Int)))=true then
  gd (0<=g1.2.1/\g1.2.1<(a0.length:Int))<|
  (zh8 (a0.getD g1.2.1.toNat bF.zero) a1).bind λ v1=>
  (if(decide (0<=v1)&&(!g1.1))=true then
   gd (g1.2.2.length+1<=4294967296)<|
   zaq8 a0 g1 v1 (true,(g1.2.2++[a1]))
  else
   zaq8 a0 g1 v1 (g1.1,g1.2.2))
 else
  some (.inr (g1.1,g1.2.2)))
def zs4(a0:List bF)(a1:bF):Option (List bF):=
 (zc1 (zL9 a0 a1) (false,0,[])).bind (λ z=>zaE8 a1 z)
@[reducible,instance] def zet8 a0 (a1:bF):=mkJ (zs4 a0 a1) 0 (@zaE8.eq_1 a1) λ(j1:Bool×(List bF))=>⟨[(3,.ptr 0 0 0),(5,.own 1 0 j1.2.length),(6,.bool j1.1)],[(0,bx a1),(1,sx j1.2)],2⟩
@[reducible,instance] def zet9 (a0:List bF) (a1:bF) (g1:Bool×Int×(List bF)) (v1:Int):=mkJ (zL9 a0 a1 g1,v1) 999 (@zaq8.eq_1 a0 g1 v1) λ(j2:Bool×(List bF))=>⟨[(3,.ptr 0 0 0),(5,.own 1 0 j2.2.length),(6,.bool j2.1),(8,.ptr 2 0 0),(9,.int .i64 v1),(10,la a0),(11,.int .i64 (a0.length:Int)),(12,.int .i64 g1.2.1)],[(0,bx a1),(1,sx j2.2),(2,bx (a0.getD g1.2.1.toNat bF.zero))],3⟩
@[reducible,instance] def zeu0 (a0:List bF) (a1:bF) {T:Type} (x:T):=mkL x (@zL9.eq_1 a0 a1) λ(g1:Bool×Int×(List bF))=>⟨[(3,.ptr 0 0 0),(5,.own 1 0 g1.2.2.length),(6,.bool g1.1),(10,la a0),(11,.int .i64 (a0.length:Int)),(12,.int .i64 g1.2.1)],[(0,bx a1),(1,sx g1.2.2)],2⟩
instance zdy0(a0:List bF)(a1:bF):OkP (zs4 a0 a1) 97 [la a0,ga a1] (λ r=>la r):=ok1 (zs4.eq_1 a0 a1) Tryz.f97 [(5,1)]
attribute [local irreducible] zs4
def zr4(a0:aA):Option (List aF):=
 (zf8 a0.aL).bind λ v1=>
 (zk4 a0).bind λ v2=>
 gd (v1.length+v2.length<=4294967296)<|
 (zh6 (v1++v2)).bind λ v3=>
 some v3
instance zdy1(a0:aA):OkP (zr4 a0) 24 [ga a0] (λ r=>la r):=ok1 (zr4.eq_1 a0) Tryz.f24 []
attribute [local irreducible] zr4
def zav9(j1:Unit):Option Bool:=
 some true
def zai3(a0 a1:aS)(g1:Int):Option (Int⊕(Unit⊕Bool)):=
 (if(decide (g1<(a0.bA.length:Int)))=true then
  gd (0<=g1/\g1<(a0.bA.length:Int))<|
  gd (0<=g1/\g1<(a1.bA.length:Int))<|
  (zi3 (a0.bA.getD g1.toNat bI.zero) (a1.bA.getD g1.toNat bI.zero)).bind λ v2=>
  (if(!v2)=true then
   some (.inr (.inr false))
  else
   some (.inl (i64.wrap (g1+1))))
 else
  some (.inr (.inl ())))
def zr0(a0 a1:aS):Option Bool:=
 (zq0 a0.aG a1.aG).bind λ v1=>
 (if((!v1)||(!decide ((a0.bA.length:Int)=(a1.bA.length:Int))))=true then
  some false
 else
  (zc1 (zai3 a0 a1) 0).bind (λ|.inl z=>zav9 z|.inr z=>some z))
@[reducible,instance] def zeu1 a0 a1 {T1:Type} (v1:T1):=mkJ (zr0 a0 a1,v1) 0 (@zav9.eq_1) λ(j1:Unit)=>⟨[],[],0⟩
@[reducible,instance] def zeu2 (a0 a1:aS) {T:Type} (x:T):=mkL x (@zai3.eq_1 a0 a1) λ(g1:Int)=>⟨[(2,.ptr 0 0 0),(3,.ptr 1 0 0),(5,.int .i64 g1)],[(0,bx a0),(1,bx a1)],2⟩
instance zdI0(a0 a1:aS):OkP (zr0 a0 a1) 119 [ga a0,ga a1] (λ r=>.bool r):=ok1 (zr0.eq_1 a0 a1) Tryz.f119 []
attribute [local irreducible] zr0
def zbi4(j1:(List Int)):Option (List Int):=
 some j1
def zai4(a90:(List Int->aZ->Option (List Int)))(a1:aZ)(g1:(List Int)×Int):Option (((List Int)×Int)⊕(List Int)):=
 (if(decide (g1.2<(a1.bE.length:Int)))=true then
  gd (0<=g1.2/\g1.2<(a1.bE.length:Int))<|
  (a90 g1.1 (a1.bE.getD g1.2.toNat aZ.zero)).bind λ v5=>
  some (.inl (v5,i64.wrap (g1.2+1)))
 else
  some (.inr g1.1))
def zad4(a90:(List Int->aZ->Option (List Int)))(a0:List Int)(a1:aZ):Option (List Int):=
 (zj5 a0 a1.k).bind λ v1=>
 (if(decide (a1.k=0))=true then
  (zj0 v1 a1.aW.name).bind λ v2=>
  (zm1 v2 a1.aW.aJ).bind λ v3=>
  some v3
 else
  (zj5 v1 (a1.bE.length:Int)).bind λ v4=>
  (zc1 (zai4 a90 a1) (v4,0)).bind (λ z=>zbi4 z))
def zaj3:Nat->(List Int->aZ->Option (List Int))
 |0=>λ _ _=>none
 |n+1=>zad4 (zaj3 n)
def zv4(a0:List Int)(a1:aZ):Option (List Int):=zaj3 (_root_.SizeOf.sizeOf a1+1) a0 a1
@[reducible,instance] def zeu3 (a90:(List Int->aZ->Option (List Int))) (a0:List Int) (a1:aZ) {T1:Type} (v1:T1) {T2:Type} (v4:T2):=mkJ ((zad4 a90 a0 a1,v1),v4) 0 (@zbi4.eq_1) λ(j1:(List Int))=>⟨[(0,.sl (j1.map (eI .u8)))],[],0⟩
@[reducible,instance] def zeu4 (a90:(List Int->aZ->Option (List Int))) (a1:aZ) {T:Type} (x:T):=mkL x (@zai4.eq_1 a90 a1) λ(g1:(List Int)×Int)=>⟨[(0,.sl (g1.1.map (eI .u8))),(3,.ptr 0 0 0),(5,.int .i64 g1.2)],[(0,bx a1)],1⟩
abbrev zaN6(g:(List Int->aZ->Option (List Int))):Prop:=∀(a0:List Int) (a1:aZ),OkP (g a0 a1) 222 [.sl (a0.map (eI .u8)),.agg (aZ.enc a1)] (λ r=>.sl (r.map (eI .u8)))
theorem zcd1(a90:(List Int->aZ->Option (List Int)))(hrc:zaN6 a90):zaN6 (zad4 a90):=λ a0 a1=>ok1 (zad4.eq_1 a90 a0 a1) Tryz.f222 []
theorem zcd2:∀n,zaN6 (zaj3 n):=zbl7 (λ _ _=>⟨λ _ h=>nomatch h⟩) λ n=>zcd1 _
instance zdI1:zaN6 zv4:=λ a0 a1=>zcd2 _ a0 a1
attribute [local irreducible] zv4
def zaU7(v1:bJ×(List aD))(j1:(List aD)):Option ((List aD)×bJ):=
 some (j1,v1.1)
def zJ4(v1:bJ×(List aD))(g1:Int×(List aD)):Option ((Int×(List aD))⊕(List aD)):=
 (if(decide (g1.1<((v1.2.length:Nat):Int)))=true then
  gd (0<=g1.1/\g1.1<((g1.2.length:Nat):Int))<|
  some (.inl ((i64.wrap (g1.1+1)),g1.2.set g1.1.toNat ({(g1.2.getD g1.1.toNat aD.zero)with home:=0})))
 else
  some (.inr g1.2))
def zq2(a0:bJ):Option ((List aD)×bJ):=
 (zj7 a0).bind λ v1=>
 (zc1 (zJ4 v1) (0,v1.2)).bind (λ z=>zaU7 v1 z)
@[reducible,instance] def zeu5 (a0:bJ) (v1:bJ×(List aD)):=mkJ (zq2 a0,v1) 0 (@zaU7.eq_1 v1) λ(j1:(List aD))=>⟨[(3,.own 1 0 j1.length)],[(0,bx v1.1),(1,sx j1)],2⟩
@[reducible,instance] def zeu6 (v1:bJ×(List aD)) {T:Type} (x:T):=mkL x (@zJ4.eq_1 v1) λ(g1:Int×(List aD))=>⟨[(3,.own 1 0 g1.2.length),(8,.int .i64 ((v1.2.length:Nat):Int)),(9,.int .i64 g1.1)],[(0,bx v1.1),(1,sx g1.2)],2⟩
instance zdj4(a0:bJ):OkM (zq2 a0) 21 [.ptr 0 0 0] [(0,bx a0)] 1 (λ r=>la r.1) (λ r=>[(0,bx r.2)]) 1:=⟨λ r h=>by
 refine zU4 Tryz.f21 [] [la r.1] λ E hG hN hK=>?_;have hm:Mk (zq2 a0):=trivial;unfold zq2 at h;refine za0 (za1 hG ?_);refine za0 (za1 hG ?_);obtain⟨v1,hv1,h⟩:=zd0 h;have hm:=mkP hm v1;refine zs8 [(0,0)] [(1,1)] [0,1] ((zbz8 a0).ok _ hv1) rfl rfl ?_;refine za0 (za0 (za1 hG ?_));refine zaJ2 hm h (λ j1 hm h=>?_) ?_
 · try refine g_st ?_
   refine za0 (za1 hG ?_);refine g_gh (.fz [1]) ?_;exact gogo
 exact gogo⟩
attribute [local irreducible] zq2
end
end Ab
end Go.Proofs.YtdlfhmkmnjbihaaGreatDoor
