import Derived.Test.YtdlfhmkmnjbihaaGreatDoorHm17
import Derived.Test.YtdlfhmkmnjbihaaGreatDoorHm10
import Derived.Test.YtdlfhmkmnjbihaaGreatDoorHm13
namespace Go.Proofs.YtdlfhmkmnjbihaaGreatDoor
namespace Ab
open IntKind (i64 u64 u8)
set_option linter.unusedSimpArgs false
set_option linter.defProp false
set_option linter.unusedVariables false
set_option maxRecDepth 100000
set_option maxHeartbeats 1000000
noncomputable section
attribute [local irreducible] zk2 zd1 za7 zd5 zd8 za4 zo7 ze9 zl8 zi1 zc1 zk8 zh8 zd4 zk5 za2 zf9 zc9 zf7 za3 zh5 zc5 zc7 zf6 zk9 zd9 zm9 zh3 zf0 zh1 zd7 za5 ze0 zc8 zd2 zl5 ze1 zo2 zb3 zj1 zj0 ze8 zp1 zi2 zk6 zh0 zc2 zb7 zb9 zj3 zg6 zi3 zf1 zi5 ze6 zg0 zm7 zl0 zf2 za9 za8 zf3 zg7 zb4 zp2 zm8 zc3 zj4 zj8 zf4 zn5 zh2 zg2 zg3 zl6 zj6 zg4 zn8 zg8 zh9 zi6 zn9 zc6 zg5 ze4 zf5 zo0 zn3 zl4 zu5 zq3 zn1 zi0 zp7 zq1 zo8 zn0 zc4 zi8 zi9 zh6 zh7
def zY9(j1:Bool):Option Bool:=
 some j1
@[go_sem] def zdE6(j1:Bool):St:=⟨[(5,.bool j1)],[],0⟩
def zN3(a1:List aC)(g1:Int×Int×(Arr Bool 6))(j2:Unit):Option ((Int×Int×(Arr Bool 6))⊕Bool):=
 gd (0<=(a1.getD g1.2.1.toNat aC.zero).mode/\(a1.getD g1.2.1.toNat aC.zero).mode<6)<|
 some (.inl ((i64.wrap (g1.1+(a1.getD g1.2.1.toNat aC.zero).aU)),i64.wrap (g1.2.1+1),Arr.put g1.2.2 (((a1.getD g1.2.1.toNat aC.zero).mode).toNat) true))
@[go_sem] def zdE7(a0:aD)(a1:List aC)(g1:Int×Int×(Arr Bool 6))(j2:Unit):St:=⟨[(2,.ptr 0 0 0),(5,.bool true),(6,.ptr 1 0 0),(7,.int .i64 (i64.wrap (g1.1+(a1.getD g1.2.1.toNat aC.zero).aU))),(9,.ptr 2 0 0),(15,la a1),(16,.int .i64 (a1.length:Int)),(17,.int .i64 g1.2.1)],[(0,bx a0),(1,⟨false,6,Arr.enc eB (Arr.rep 6 false),[Arr.enc eB g1.2.2]⟩),(2,bx (a1.getD g1.2.1.toNat aC.zero))],3⟩
def zA0(a1:List aC)(g1:Int×Int×(Arr Bool 6))(g2:Int):Option (Int⊕(Unit⊕Bool)):=
 (if(decide (g2<6))=true then
  gd (0<=g2/\g2<6)<|
  ((if(Arr.get g1.2.2 g2.toNat false)=true then zg5 g2 ((a1.getD g1.2.1.toNat aC.zero).mode)else some false)).bind λ v1=>
  (if(Arr.get g1.2.2 g2.toNat false&&(!v1))=true then
   some (.inr (.inr false))
  else
   some (.inl (i64.wrap (g2+1))))
 else
  some (.inr (.inl ())))
@[go_sem] def zdE8(a0:aD)(a1:List aC)(g1:Int×Int×(Arr Bool 6))(g2:Int):St:=⟨[(2,.ptr 0 0 0),(5,.bool true),(6,.ptr 1 0 0),(7,.int .i64 (i64.wrap (g1.1+(a1.getD g1.2.1.toNat aC.zero).aU))),(9,.ptr 2 0 0),(15,la a1),(16,.int .i64 (a1.length:Int)),(17,.int .i64 g1.2.1),(41,.agg (Arr.enc eB g1.2.2)),(42,.int .i64 g2)],[(0,bx a0),(1,⟨false,6,Arr.enc eB (Arr.rep 6 false),[Arr.enc eB g1.2.2]⟩),(2,bx (a1.getD g1.2.1.toNat aC.zero))],3⟩
def zF2(a0:aD)(a1:List aC)(g1:Int×Int×(Arr Bool 6)):Option ((Int×Int×(Arr Bool 6))⊕Bool):=
 (if(decide (g1.2.1<(a1.length:Int)))=true then
  gd (0<=g1.2.1/\g1.2.1<(a1.length:Int))<|
  (if((!(zb2 a0 (a1.getD g1.2.1.toNat aC.zero)))||decide (a0.aU<i64.wrap (g1.1+(a1.getD g1.2.1.toNat aC.zero).aU)))=true then
   some (.inr false)
  else
   (if(decide ((a1.getD g1.2.1.toNat aC.zero).mode=0))=true then
    some (.inl ((i64.wrap (g1.1+(a1.getD g1.2.1.toNat aC.zero).aU)),i64.wrap (g1.2.1+1),g1.2.2))
   else
    (zc0 (zA0 a1 g1) 0).bind (λ|.inl z=>zN3 a1 g1 z|.inr z=>some (.inr z))))
 else
  some (.inr true))
@[go_sem] def zdE9(a0:aD)(a1:List aC)(g1:Int×Int×(Arr Bool 6)):St:=⟨[(2,.ptr 0 0 0),(5,.bool true),(6,.ptr 1 0 0),(7,.int .i64 g1.1),(15,la a1),(16,.int .i64 (a1.length:Int)),(17,.int .i64 g1.2.1)],[(0,bx a0),(1,⟨false,6,Arr.enc eB (Arr.rep 6 false),[Arr.enc eB g1.2.2]⟩)],2⟩
def zk4(a0:aD)(a1:List aC):Option Bool:=
 (if(!(zd3 a0))=true then
  some false
 else
  (zc0 (zF2 a0 a1) (0,0,Arr.rep 6 false)).bind (λ z=>zY9 z))
theorem zaZ5(a0:aD)(a1:List aC)(r:Bool)(h:zk4 a0 a1=some r):PFn C 267 [ga a0,la a1] (.bool r):=by
 refine zW0 Tryz.f267 [] λ E hG hN hK=>?_;unfold zk4 at h;refine za0 (za1 hG ?_);refine zcn1 ?_;refine za0 (za0 (za1 hG ?_));refine zm4 (λ hg=>(zbv3 a0).ok) ?_;refine ze5 rfl hG h (λ _ h=>?_) (λ _ h=>?_)
 · refine za0 (za1 hG ?_)
   refine zm2 ?_;exact zt1 h
 refine ze2 ?_;refine za0 (za1 hG ?_);refine za0 (za1 hG ?_);refine za0 (za1 hG ?_);refine za0 ?_;refine zcG8 ?_;refine za0 (za0 (za1 hG ?_));refine zy5 zdE6 (λ v=>zY9 v=some r) ?_ ?_
 · intro j1 h
   unfold zY9 at h;refine g_st ?_;refine za0 (za1 hG ?_);refine zm2 ?_;exact zt1 h
 refine zal7 (zdE9 a0 a1) hK [(0,0),(1,1)] h (λ x_l1 h g1 y_l1 h_l1 hx_l1=>?_);unfold zF2 at h_l1;refine g_st ?_;refine za0 (za1 hG ?_);refine za0 ?_;refine ze5 rfl hG h_l1 (λ _ h_l1=>?_) (λ _ h_l1=>?_)
 · refine ze2 ?_
   refine za0 (zw6 (za0 ?_));obtain⟨hb3,h_l1⟩:=ze3 h_l1;refine za1 hG ?_;refine za0 (za0 (za1 hG ?_));refine zm4 (λ hg=>(zbh3 a0 (a1.getD g1.2.1.toNat aC.zero)).ok) ?_;refine ze5 rfl hG h_l1 (λ _ h_l1=>?_) (λ _ h_l1=>?_)
   · refine za0 (za1 hG ?_)
     refine zA6 ?_;cases h_l1;cases hx_l1 _ rfl;exact zs2 hK [] false (by exact h)
   refine ze2 ?_;refine za0 (za1 hG ?_);refine za0 (za0 (za1 hG ?_));refine ze5 rfl hG h_l1 (λ _ h_l1=>?_) (λ _ h_l1=>?_)
   · refine zA6 ?_
     refine za1 hG ?_;exact zM4 hK [(0,0),(1,1)] h_l1
   refine ze2 ?_;refine za0 (za0 (za1 hG ?_));refine zy5 (zdE7 a0 a1 g1) (λ v=>zN3 a1 g1 v=some y_l1) ?_ ?_
   · intro j2 h_l1
     unfold zN3 at h_l1;refine g_st ?_;obtain⟨hb1,h_l1⟩:=ze3 h_l1;refine za1 hG ?_;refine za1 hG ?_;exact zM4 hK [(0,0),(1,1)] h_l1
   refine zal7 (zdE8 a0 a1 g1) hK [(0,0),(1,1),(2,2)] h_l1 (λ x_l2 h_l1 g2 y_l2 h_l2 hx_l2=>?_);unfold zA0 at h_l2;refine g_st ?_;refine za0 (za1 hG ?_);refine za0 ?_;refine ze5 rfl hG h_l2 (λ _ h_l2=>?_) (λ _ h_l2=>?_)
   · refine ze2 ?_
     refine za0 (zw6 (za0 ?_));obtain⟨hb2,h_l2⟩:=ze3 h_l2;refine za1 hG ?_;refine za0 (za1 hG ?_);obtain⟨v1,hv1,h_l2⟩:=zb8 h_l2;refine zm4 (λ hg=>(zbm1 g2 ((a1.getD g1.2.1.toNat aC.zero).mode)).ok _ (zcc6 hg hv1)) ?_;refine ze5 rfl hG h_l2 (λ _ h_l2=>?_) (λ _ h_l2=>?_)
     · refine za0 (za1 hG ?_)
       refine zA6 ?_;obtain rfl:=cR h_l2;have hx:=hx_l2 _ rfl;subst hx
       try dsimp only at h_l1
       cases h_l1;cases hx_l1 _ rfl;exact zs2 hK [] false (by exact h)
     refine ze2 ?_;refine za1 hG ?_;exact zM4 hK [(0,0),(1,1),(2,2)] h_l2
   refine zA6 ?_;obtain rfl:=cR h_l2;have hx:=hx_l2 _ rfl;subst hx
   try dsimp only at h_l1
   exact zs2 hK [(0,0),(1,1),(2,2)] () (by exact h_l1)
 refine zA6 ?_;cases h_l1;cases hx_l1 _ rfl;exact zs2 hK [] true (by exact h)
instance zcl5(a0:aD)(a1:List aC):OkP (zk4 a0 a1) 267 [ga a0,la a1] (λ r=>.bool r):=⟨zaZ5 a0 a1⟩
attribute [local irreducible] zk4
def zs7(a0:aD)(a1 a2:aC):Option aC:=
 (if((!(zb2 a0 a1))||(!(zb2 a0 a2)))=true then
  some ({aC.zero with})
 else
  (if(zf8 a1)=true then
   some a2
  else
   (if(zf8 a2)=true then
    some a1
   else
    (if(decide (a0.kind=1))=true then
     (zu5 a1.mode a2.mode).bind λ v1=>
     some ({aC.zero with mode:=v1})
    else
     some ({aC.zero with aU:=(if a1.aU<a2.aU then a2.aU else a1.aU)})))))
instance zdb6(a0:aD)(a1 a2:aC):OkP (zs7 a0 a1 a2) 207 [ga a0,ga a1,ga a2] (λ r=>ga r):=ok1 (zs7.eq_1 a0 a1 a2) Tryz.f207 []
attribute [local irreducible] zs7
def zas7(a1:bA)(j1:Bool×(List bA)):Option (List bA):=
 (if(!j1.1)=true then
  gd (j1.2.length+1<=4294967296)<|
  some (j1.2++[a1])
 else
  some j1.2)
def zag3(a0:List bA)(g1:Bool×Int×(List bA))(v1:Int)(j2:Bool×(List bA)):Option ((Bool×Int×(List bA))⊕(Bool×(List bA))):=
 (if(!decide (v1=0))=true then
  gd (j2.2.length+1<=4294967296)<|
  some (.inl (j2.1,i64.wrap (g1.2.1+1),(j2.2++[(a0.getD g1.2.1.toNat bA.zero)])))
 else
  some (.inl (j2.1,i64.wrap (g1.2.1+1),j2.2)))
def zI5(a0:List bA)(a1:bA)(g1:Bool×Int×(List bA)):Option ((Bool×Int×(List bA))⊕(Bool×(List bA))):=
 (if(decide (g1.2.1<(a0.length:Int)))=true then
  gd (0<=g1.2.1/\g1.2.1<(a0.length:Int))<|
  (zi0 (a0.getD g1.2.1.toNat bA.zero) a1).bind λ v1=>
  (if(decide (0<=v1)&&(!g1.1))=true then
   gd (g1.2.2.length+1<=4294967296)<|
   zag3 a0 g1 v1 (true,(g1.2.2++[a1]))
  else
   zag3 a0 g1 v1 (g1.1,g1.2.2))
 else
  some (.inr (g1.1,g1.2.2)))
def zr8(a0:List bA)(a1:bA):Option (List bA):=
 (zc0 (zI5 a0 a1) (false,0,[])).bind (λ z=>zas7 a1 z)
@[reducible,instance] def zdT3 a0 (a1:bA):=mkJ (zr8 a0 a1) 0 (@zas7.eq_1 a1) λ(j1:Bool×(List bA))=>⟨[(3,.ptr 0 0 0),(5,.own 1 0 j1.2.length),(6,.bool j1.1)],[(0,bx a1),(1,sx j1.2)],2⟩
@[reducible,instance] def zdT4 (a0:List bA) (a1:bA) (g1:Bool×Int×(List bA)) (v1:Int):=mkJ (zI5 a0 a1 g1,v1) 999 (@zag3.eq_1 a0 g1 v1) λ(j2:Bool×(List bA))=>⟨[(3,.ptr 0 0 0),(5,.own 1 0 j2.2.length),(6,.bool j2.1),(8,.ptr 2 0 0),(9,.int .i64 v1),(10,la a0),(11,.int .i64 (a0.length:Int)),(12,.int .i64 g1.2.1)],[(0,bx a1),(1,sx j2.2),(2,bx (a0.getD g1.2.1.toNat bA.zero))],3⟩
@[reducible,instance] def zdT5 (a0:List bA) (a1:bA) {T:Type} (x:T):=mkL x (@zI5.eq_1 a0 a1) λ(g1:Bool×Int×(List bA))=>⟨[(3,.ptr 0 0 0),(5,.own 1 0 g1.2.2.length),(6,.bool g1.1),(10,la a0),(11,.int .i64 (a0.length:Int)),(12,.int .i64 g1.2.1)],[(0,bx a1),(1,sx g1.2.2)],2⟩
instance zdb7(a0:List bA)(a1:bA):OkP (zr8 a0 a1) 97 [la a0,ga a1] (λ r=>la r):=ok1 (zr8.eq_1 a0 a1) Tryz.f97 [(5,1)]
attribute [local irreducible] zr8
def zp9(a0:bA)(a1:List aF):Option (Bool×(List aF)):=
 (zi9 a1 a0.aI).bind λ v1=>
 some ((!v1),a1)
instance zcB5(a0:bA)(a1:List aF):OkM (zp9 a0 a1) 105 [ga a0,.ptr 0 0 0] [(0,⟨false,1,[A.sl ([].map aF.enc)],[[A.sl (a1.map aF.enc)]]⟩)] 1 (λ r=>.bool r.1) (λ r=>[(0,⟨false,1,[A.sl ([].map aF.enc)],[[A.sl (r.2.map aF.enc)]]⟩)]) 1:=okm (zp9.eq_1 a0 a1) (λ r=>[.bool r.1]) Tryz.f105 []
attribute [local irreducible] zp9
def zaN1(j1:Unit):Option Bool:=
 some true
def zag4(a0:List aM)(g1:Int):Option (Int⊕(Unit⊕Bool)):=
 (if(decide (g1<(a0.length:Int)))=true then
  gd (0<=g1/\g1<(a0.length:Int))<|
  gd (zy1 (a0.getD g1.toNat aM.zero)=true->0<=g1/\g1<(a0.length:Int))<|
  ((if(zy1 (a0.getD g1.toNat aM.zero))=true then zi5 a0 ((a0.getD g1.toNat aM.zero).aI)else some 0)).bind λ v1=>
  (if((!(zy1 (a0.getD g1.toNat aM.zero)))||(!decide (v1=g1)))=true then
   some (.inr (.inr false))
  else
   some (.inl (i64.wrap (g1+1))))
 else
  some (.inr (.inl ())))
def zr2(a0:List aM):Option Bool:=
 (if(decide (8<(a0.length:Int)))=true then
  some false
 else
  (zc0 (zag4 a0) 0).bind (λ|.inl z=>zaN1 z|.inr z=>some z))
@[reducible,instance] def zdT6 a0:=mkJ (zr2 a0) 0 (@zaN1.eq_1) λ(j1:Unit)=>⟨[],[],0⟩
@[reducible,instance] def zdT7 (a0:List aM) {T:Type} (x:T):=mkL x (@zag4.eq_1 a0) λ(g1:Int)=>⟨[(0,la a0),(3,.int .i64 g1)],[],0⟩
instance zdb8(a0:List aM):OkP (zr2 a0) 226 [la a0] (λ r=>.bool r):=ok1 (zr2.eq_1 a0) Tryz.f226 []
attribute [local irreducible] zr2
def zr3(a0:aA):Option (List aF):=
 (ze6 a0.aL).bind λ v1=>
 (zi1 a0).bind λ v2=>
 gd (v1.length+v2.length<=4294967296)<|
 (zh6 (v1++v2)).bind λ v3=>
 some v3
instance zbN9(a0:aA):OkP (zr3 a0) 24 [ga a0] (λ r=>la r):=ok1 (zr3.eq_1 a0) Tryz.f24 []
attribute [local irreducible] zr3
def zaN2(a0:aX)(j1:(List bA)):Option aX:=
 some (⟨a0.aG,j1⟩:aX)
def zag5(a0:aX)(g1:Int×(List bA)):Option ((Int×(List bA))⊕(List bA)):=
 (if(decide (g1.1<(a0.tags.length:Int)))=true then
  gd (0<=g1.1/\g1.1<(a0.tags.length:Int))<|
  (zf6 a0.aG ((a0.tags.getD g1.1.toNat bA.zero).name)).bind λ v1=>
  gd (decide (0<=v1)=true->0<=v1/\v1<(a0.aG.length:Int))<|
  ((if(decide (0<=v1))=true then zq3 (a0.aG.getD v1.toNat aA.zero) ((a0.tags.getD g1.1.toNat bA.zero).aI)else some false)).bind λ v2=>
  (if(decide (0<=v1)&&v2)=true then
   gd (g1.2.length+1<=4294967296)<|
   some (.inl ((i64.wrap (g1.1+1)),(g1.2++[(a0.tags.getD g1.1.toNat bA.zero)])))
  else
   some (.inl ((i64.wrap (g1.1+1)),g1.2)))
 else
  some (.inr g1.2))
def zr4(a0:aX):Option aX:=
 (zc0 (zag5 a0) (0,[])).bind (λ z=>zaN2 a0 z)
@[reducible,instance] def zdT8 (a0:aX):=mkJ (zr4 a0) 0 (@zaN2.eq_1 a0) λ(j1:(List bA))=>⟨[(1,.ptr 0 0 0),(2,.ptr 1 0 0),(3,.own 2 0 j1.length)],[(0,bx a0),(1,bx aX.zero),(2,sx j1)],3⟩
@[reducible,instance] def zdT9 (a0:aX) {T:Type} (x:T):=mkL x (@zag5.eq_1 a0) λ(g1:Int×(List bA))=>⟨[(1,.ptr 0 0 0),(2,.ptr 1 0 0),(3,.own 2 0 g1.2.length),(8,la a0.tags),(9,.int .i64 (a0.tags.length:Int)),(10,.int .i64 g1.1)],[(0,bx a0),(1,bx aX.zero),(2,sx g1.2)],3⟩
instance zdb9(a0:aX):OkP (zr4 a0) 62 [ga a0] (λ r=>ga r):=ok1 (zr4.eq_1 a0) Tryz.f62 [(3,1)]
attribute [local irreducible] zr4
attribute [local irreducible] zo9 zp0 zi7 zj7 zs6
def zy9(a0:aD):Option (aA×Int):=
 (zc4 a0).bind λ v1=>
 (if(!v1)=true then
  some ({aA.zero with},1)
 else
  some ({aA.zero with aB:=a0},0))
instance zdo1(a0:aD):OkP (zy9 a0) 76 [ga a0] (λ r=>.tup [ga r.1,.int .i64 r.2]):=ok1 (zy9.eq_1 a0) Tryz.f76 []
attribute [local irreducible] zy9
def zas8(j1:(List aF)):Option (List aF):=
 some j1
def zW2(v1:(List aM))(g1:Int×(List aF)):Option ((Int×(List aF))⊕(List aF)):=
 (if(decide (g1.1<(v1.length:Int)))=true then
  gd (0<=g1.1/\g1.1<(v1.length:Int))<|
  gd (g1.2.length+1<=4294967296)<|
  some (.inl ((i64.wrap (g1.1+1)),(g1.2++[(v1.getD g1.1.toNat aM.zero).aI])))
 else
  some (.inr g1.2))
def zt6(a0:aA):Option (List aF):=
 (zp0 a0).bind λ v1=>
 (zc0 (zW2 v1) (0,[])).bind (λ z=>zas8 z)
@[reducible,instance] def zdU0 a0 {T1:Type} (v1:T1):=mkJ (zt6 a0,v1) 0 (@zas8.eq_1) λ(j1:(List aF))=>⟨[(3,.own 0 0 j1.length)],[(0,sx j1)],1⟩
@[reducible,instance] def zdU1 (v1:(List aM)) {T:Type} (x:T):=mkL x (@zW2.eq_1 v1) λ(g1:Int×(List aF))=>⟨[(3,.own 0 0 g1.2.length),(7,la v1),(8,.int .i64 (v1.length:Int)),(9,.int .i64 g1.1)],[(0,sx g1.2)],1⟩
instance zdc0(a0:aA):OkP (zt6 a0) 86 [ga a0] (λ r=>la r):=ok1 (zt6.eq_1 a0) Tryz.f86 [(3,1)]
attribute [local irreducible] zt6
def zV7(j1:aJ):Option Bool:=
 (zj6 j1).bind λ v2=>
 some v2
@[go_sem] def zdx0(j1:aJ):St:=⟨[(4,.ptr 0 0 0)],[(0,bx j1)],1⟩
def zG7(a0:aJ)(v1:(List (Int×bD)))(g1:Int×aJ):Option ((Int×aJ)⊕(aJ⊕Bool)):=
 (if(decide (g1.1<((Arr.get zu2 a0.kind.toNat ⟨#[]⟩).size:Int)))=true then
  gd (0<=a0.kind/\a0.kind<16)<|
  gd (0<=g1.1/\g1.1<((Arr.get zu2 a0.kind.toNat ⟨#[]⟩).size:Int))<|
  (if(zZ3 (((Arr.get zu2 a0.kind.toNat ⟨#[]⟩).toList.getD g1.1.toNat 0).toNat:Int) v1).isSome=true then
   (zq2 (((zZ3 (((Arr.get zu2 a0.kind.toNat ⟨#[]⟩).toList.getD g1.1.toNat 0).toNat:Int) v1).getD bD.zero).of)).bind λ v3=>
   (if((decide (zm3 a0 v3<((zZ3 (((Arr.get zu2 a0.kind.toNat ⟨#[]⟩).toList.getD g1.1.toNat 0).toNat:Int) v1).getD bD.zero).low)||decide (((zZ3 (((Arr.get zu2 a0.kind.toNat ⟨#[]⟩).toList.getD g1.1.toNat 0).toNat:Int) v1).getD bD.zero).high<zm3 a0 v3))||(decide ((((Arr.get zu2 a0.kind.toNat ⟨#[]⟩).toList.getD g1.1.toNat 0).toNat:Int)=66)&&decide (zm3 a0 v3=0)))=true then
    some (.inr (.inr false))
   else
    (zq2 (((zZ3 (((Arr.get zu2 a0.kind.toNat ⟨#[]⟩).toList.getD g1.1.toNat 0).toNat:Int) v1).getD bD.zero).of)).bind λ v4=>
    some (.inl ((i64.wrap (g1.1+1)),zK2 g1.2 v4 0)))
  else
   (zl4 a0 (((Arr.get zu2 a0.kind.toNat ⟨#[]⟩).toList.getD g1.1.toNat 0).toNat:Int)).bind λ v5=>
   (if(!v5)=true then
    some (.inr (.inr false))
   else
    (zb7 (((Arr.get zu2 a0.kind.toNat ⟨#[]⟩).toList.getD g1.1.toNat 0).toNat:Int) g1.2).bind λ v6=>
    some (.inl ((i64.wrap (g1.1+1)),v6))))
 else
  some (.inr (.inl g1.2)))
@[go_sem] def zdx1(a0:aJ)(v1:(List (Int×bD)))(g1:Int×aJ):St:=⟨[(1,.ptr 0 0 0),(3,.mp 1),(4,.ptr 2 0 0),(21,.int .i64 ((Arr.get zu2 a0.kind.toNat ⟨#[]⟩).size:Int)),(22,.int .i64 g1.1)],[(0,bx a0),(1,⟨false,0,[A.int .u8 0,A.bool true],v1.map (mI .u8 bD.enc)⟩),(2,bx g1.2)],3⟩
def zq0(a0:aJ):Option Bool:=
 (if(!(zak6 a0.kind))=true then
  some false
 else
  (zc2).bind λ v1=>
  gd (0<=a0.kind/\a0.kind<16)<|
  (zc0 (zG7 a0 v1) (0,{a0 with kind:=0})).bind (λ|.inl z=>zV7 z|.inr z=>some z))
theorem zbq7(a0:aJ)(r:Bool)(h:zq0 a0=some r):PFn C 89 [ga a0] (.bool r):=by
 refine zW0 Tryz.f89 [(40,1),(63,1)] λ E hG hN hK=>?_;unfold zq0 at h;refine za0 (za1 hG ?_);refine za0 (za0 (za1 hG ?_));refine zm4 (λ hg=>(zbv4 a0.kind).ok) ?_;refine ze5 rfl hG h (λ _ h=>?_) (λ _ h=>?_)
 · refine za0 (za1 hG ?_)
   refine zm2 ?_;exact zt1 h
 refine ze2 ?_;refine za0 (za1 hG ?_);obtain⟨v1,hv1,h⟩:=zb8 h;refine zp6 [] [(0,1)] [0] ((zaa2).ok _ hv1) rfl rfl ?_;refine za0 (za1 hG ?_);refine za0 (za1 hG ?_);refine za0 (za0 ?_);obtain⟨hb3,h⟩:=ze3 h;refine za1 hG ?_;refine zy5 zdx0 (λ v=>zV7 v=some r) ?_ ?_
 · intro j1 h
   unfold zV7 at h;refine g_st ?_;refine za0 (za1 hG ?_);obtain⟨v2,hv2,h⟩:=zb8 h;refine zm4 (λ hg=>zbv5 _ _ hv2) ?_;refine zm2 ?_;exact zt1 h
 refine zal7 (zdx1 a0 v1) hK [(0,0),(1,1),(2,2)] h (λ x_l1 h g1 y_l1 h_l1 hx_l1=>?_);unfold zG7 at h_l1;refine g_st ?_;refine za0 (za1 hG ?_);refine za0 ?_;refine ze5 rfl hG h_l1 (λ _ h_l1=>?_) (λ _ h_l1=>?_)
 · refine ze2 ?_
   refine za0 (zw6 (za0 (za1 hG ?_)));refine za0 ?_;obtain⟨hb1,h_l1⟩:=ze3 h_l1;obtain⟨hb2,h_l1⟩:=ze3 h_l1;refine za1 hG ?_;refine za0 (za0 (za1 hG ?_));refine za0 (za1 hG ?_);refine ze5 rfl hG h_l1 (λ _ h_l1=>?_) (λ _ h_l1=>?_)
   · refine za0 (za1 hG ?_)
     obtain⟨v3,hv3,h_l1⟩:=zb8 h_l1;refine zp6 [(0,0)] [] [0] (zab1 _ _ _ hv3) rfl rfl ?_ (ho:=by first|exact⟨by trivial,zy6 hv3⟩|exact zy6 hv3);refine za0 (za0 (za1 hG ?_));refine ze5 rfl hG h_l1 (λ _ h_l1=>?_) (λ _ h_l1=>?_)
     · refine za0 (za1 hG ?_)
       refine zm2 ?_;cases h_l1;cases hx_l1 _ rfl;exact zt1 h
     refine ze2 ?_;refine za0 (za1 hG ?_);obtain⟨v4,hv4,h_l1⟩:=zb8 h_l1;refine zp6 [(0,2)] [] [0] (zab1 _ _ _ hv4) rfl rfl ?_ (ho:=by first|exact⟨by trivial,zy6 hv4⟩|exact zy6 hv4);refine zA6 ?_;refine za1 hG ?_;exact zM4 hK [(0,0),(1,1),(2,2)] h_l1
   refine ze2 ?_;refine za0 (za0 (za1 hG ?_));obtain⟨v5,hv5,h_l1⟩:=zb8 h_l1;refine zm4 (λ hg=>(zbD8 a0 (((Arr.get zu2 a0.kind.toNat ⟨#[]⟩).toList.getD g1.1.toNat 0).toNat:Int)).ok _ hv5) ?_;refine ze5 rfl hG h_l1 (λ _ h_l1=>?_) (λ _ h_l1=>?_)
   · refine za0 (za1 hG ?_)
     refine zm2 ?_;cases h_l1;cases hx_l1 _ rfl;exact zt1 h
   refine ze2 ?_;refine za1 hG ?_;obtain⟨v6,hv6,h_l1⟩:=zb8 h_l1;refine zp6 [(0,2)] [] [0] (zaK0 _ _ _ hv6) rfl rfl ?_;refine za1 hG ?_;exact zM4 hK [(0,0),(1,1),(2,2)] h_l1
 refine zA6 ?_;cases h_l1;cases hx_l1 _ rfl;exact zs2 hK [(0,2)] g1.2 (by exact h)
instance zcB6(a0:aJ):OkP (zq0 a0) 89 [ga a0] (λ r=>.bool r):=⟨zbq7 a0⟩
attribute [local irreducible] zq0
def zq4(a0:aA)(a1:aF)(a2:aC):Option (aA×aF×aC):=
 (zn3 a0.aL a1 a2).bind λ v1=>
 some ({a0 with aL:=v1},a1,a2)
instance zbh5(a0:aA)(a1:aF)(a2:aC):OkM (zq4 a0 a1 a2) 214 [.ptr 0 0 0,.ptr 1 0 0,.ptr 2 0 0] [(0,bx a0),(1,bx a1),(2,bx a2)] 3 (λ r=>.tup []) (λ r=>[(0,bx r.1),(1,bx r.2.1),(2,bx r.2.2)]) 3:=okm (zq4.eq_1 a0 a1 a2) (λ r=>[]) Tryz.f214 []
attribute [local irreducible] zq4
def zaI3(v1:bB×(List aD))(j1:(List aD)):Option ((List aD)×bB):=
 some (j1,v1.1)
def zF3(v1:bB×(List aD))(g1:Int×(List aD)):Option ((Int×(List aD))⊕(List aD)):=
 (if(decide (g1.1<((v1.2.length:Nat):Int)))=true then
  gd (0<=g1.1/\g1.1<((g1.2.length:Nat):Int))<|
  some (.inl ((i64.wrap (g1.1+1)),g1.2.set g1.1.toNat ({(g1.2.getD g1.1.toNat aD.zero)with home:=0})))
 else
  some (.inr g1.2))
def zp8(a0:bB):Option ((List aD)×bB):=
 (zj7 a0).bind λ v1=>
 (zc0 (zF3 v1) (0,v1.2)).bind (λ z=>zaI3 v1 z)
@[reducible,instance] def zdU2 (a0:bB) (v1:bB×(List aD)):=mkJ (zp8 a0,v1) 0 (@zaI3.eq_1 v1) λ(j1:(List aD))=>⟨[(3,.own 1 0 j1.length)],[(0,bx v1.1),(1,sx j1)],2⟩
@[reducible,instance] def zdU3 (v1:bB×(List aD)) {T:Type} (x:T):=mkL x (@zF3.eq_1 v1) λ(g1:Int×(List aD))=>⟨[(3,.own 1 0 g1.2.length),(8,.int .i64 ((v1.2.length:Nat):Int)),(9,.int .i64 g1.1)],[(0,bx v1.1),(1,sx g1.2)],2⟩
instance zaN3(a0:bB):OkM (zp8 a0) 21 [.ptr 0 0 0] [(0,bx a0)] 1 (λ r=>la r.1) (λ r=>[(0,bx r.2)]) 1:=⟨λ r h=>by
 refine zZ4 Tryz.f21 [] [la r.1] λ E hG hN hK=>?_;have hm:Mk (zp8 a0):=trivial;unfold zp8 at h;refine za0 (za1 hG ?_);refine za0 (za1 hG ?_);obtain⟨v1,hv1,h⟩:=zb8 h;have hm:=mkP hm v1;refine zp6 [(0,0)] [(1,1)] [0,1] ((zbm2 a0).ok _ hv1) rfl rfl ?_;refine za0 (za0 (za1 hG ?_));refine zaw7 hm h (λ j1 hm h=>?_) ?_
 · try refine g_st ?_
   refine za0 (za1 hG ?_);refine g_gh (.fz [1]) ?_;exact gogo
 exact gogo⟩
attribute [local irreducible] zp8
def zaz4(j1:Unit):Option Bool:=
 some true
def zaz5(a0 a1:aZ)(g1:Int):Option (Int⊕(Unit⊕Bool)):=
 (if(decide (g1<(a0.bG.length:Int)))=true then
  gd (0<=g1/\g1<(a0.bG.length:Int))<|
  gd (0<=g1/\g1<(a1.bG.length:Int))<|
  (zg0 (a0.bG.getD g1.toNat bI.zero) (a1.bG.getD g1.toNat bI.zero)).bind λ v2=>
  (if(!v2)=true then
   some (.inr (.inr false))
  else
   some (.inl (i64.wrap (g1+1))))
 else
  some (.inr (.inl ())))
def zv3(a0 a1:aZ):Option Bool:=
 (zp7 a0.aG a1.aG).bind λ v1=>
 (if((!v1)||(!decide ((a0.bG.length:Int)=(a1.bG.length:Int))))=true then
  some false
 else
  (zc0 (zaz5 a0 a1) 0).bind (λ|.inl z=>zaz4 z|.inr z=>some z))
@[reducible,instance] def zdU4 a0 a1 {T1:Type} (v1:T1):=mkJ (zv3 a0 a1,v1) 0 (@zaz4.eq_1) λ(j1:Unit)=>⟨[],[],0⟩
@[reducible,instance] def zdU5 (a0 a1:aZ) {T:Type} (x:T):=mkL x (@zaz5.eq_1 a0 a1) λ(g1:Int)=>⟨[(2,.ptr 0 0 0),(3,.ptr 1 0 0),(5,.int .i64 g1)],[(0,bx a0),(1,bx a1)],2⟩
instance zdj1(a0 a1:aZ):OkP (zv3 a0 a1) 119 [ga a0,ga a1] (λ r=>.bool r):=ok1 (zv3.eq_1 a0 a1) Tryz.f119 []
attribute [local irreducible] zv3
def zaN4(j1:Unit):Option Bool:=
 some true
def zaN5(a0:aJ)(g1:Int):Option (Int⊕(Unit⊕Bool)):=
 (if(decide (g1<(a0.options.length:Int)))=true then
  gd (0<=g1/\g1<(a0.options.length:Int))<|
  (zl0 (a0.options.getD g1.toNat bC.zero)).bind λ v3=>
  (if(!v3)=true then
   some (.inr (.inr false))
  else
   some (.inl (i64.wrap (g1+1))))
 else
  some (.inr (.inl ())))
def zs8 (a0:aJ) (a1:Int):Option Bool:=
 (if(decide (a1=80))=true then
  some (zn4 a0.aI)
 else
  (if(decide (a1=71))=true then
   some (zac8 a0.gen)
  else
   (if(decide (a1=65))=true then
    (zi7 a0.aY.name).bind λ v1=>
    some (v1&&(((zd6 a0.aY.aK&&(!decide (a0.kind=1)))&&(!decide (a0.kind=4)))||zK6 a0.aY.aK))
   else
    (if(decide (a1=89))=true then
     some (decide (0<=a0.aV)&&decide (a0.aV<=7))
    else
     (if(decide (a1=83))=true then
      some (decide (0<=a0.site)&&decide (a0.site<4))
     else
      (if(decide (a1=73))=true then
       some (decide (1<=a0.inc)&&decide (a0.inc<=99))
      else
       (if(decide (a1=82))=true then
        some (zac8 a0.round)
       else
        (if(decide (a1=69))=true then
         some (zac8 a0.epoch)
        else
         (if(decide (a1=76))=true then
          some (decide (a0.label=(-1))||(decide (1<=a0.label)&&decide (a0.label<=99)))
         else
          (if(decide (a1=87))=true then
           (zk8 a0.state).bind λ v2=>
           some ((v2&&((!decide (a0.kind=7))||decide ((a0.state.aG.length:Int)=0)))&&((!decide (a0.kind=9))||decide ((a0.state.bG.length:Int)=0)))
          else
           (if(decide (a1=79))=true then
            (if(decide (40<(a0.options.length:Int)))=true then
             some false
            else
             (zc0 (zaN5 a0) 0).bind (λ|.inl z=>zaN4 z|.inr z=>some z))
           else
            some true)))))))))))
@[reducible,instance] def zdU6 a0 a1:=mkJ (zs8 a0 a1) 1 (@zaN4.eq_1) λ(j1:Unit)=>⟨[],[],0⟩
@[reducible,instance] def zdU7 (a0:aJ) {T:Type} (x:T):=mkL x (@zaN5.eq_1 a0) λ(g1:Int)=>⟨[(139,la a0.options),(140,.int .i64 (a0.options.length:Int)),(141,.int .i64 g1)],[],0⟩
instance zdc1(a0:aJ)(a1:Int):OkP (zs8 a0 a1) 108 [ga a0,.int .u8 a1] (λ r=>.bool r):=ok1 (zs8.eq_1 a0 a1) Tryz.f108 []
attribute [local irreducible] zs8
attribute [local irreducible] zo4 zo5 zn7 zi4 zt4 zj9 zq9 zr1 zb5 zn6 zn2 zk7 zt5
def zaZ6(j1:(List aA)):Option ((List aA)×Int):=
 some (j1,0)
def zad5(a0:List aD)(g1:Int×(List aA)):Option ((Int×(List aA))⊕((List aA)⊕((List aA)×Int))):=
 (if(decide (g1.1<(a0.length:Int)))=true then
  gd (0<=g1.1/\g1.1<(a0.length:Int))<|
  (zy9 (a0.getD g1.1.toNat aD.zero)).bind λ v2=>
  (if(!decide (v2.2=0))=true then
   some (.inr (.inr ([],v2.2)))
  else
   gd (g1.2.length+1<=4294967296)<|
   some (.inl ((i64.wrap (g1.1+1)),(g1.2++[v2.1]))))
 else
  some (.inr (.inl g1.2)))
def zD9(a0:List aD):Option ((List aA)×Int):=
 (zo4 a0).bind λ v1=>
 (if(!v1)=true then
  some ([],1)
 else
  (zc0 (zad5 a0) (0,[])).bind (λ|.inl z=>zaZ6 z|.inr z=>some z))
@[reducible,instance] def zed6 a0 {T1:Type} (v1:T1):=mkJ (zD9 a0,v1) 0 (@zaZ6.eq_1) λ(j1:(List aA))=>⟨[(4,.own 0 0 j1.length)],[(0,sx j1)],1⟩
@[reducible,instance] def zed7 (a0:List aD) {T:Type} (x:T):=mkL x (@zad5.eq_1 a0) λ(g1:Int×(List aA))=>⟨[(4,.own 0 0 g1.2.length),(12,la a0),(13,.int .i64 (a0.length:Int)),(14,.int .i64 g1.1)],[(0,sx g1.2)],1⟩
instance zdo2(a0:List aD):OkP (zD9 a0) 34 [la a0] (λ r=>.tup [la r.1,.int .i64 r.2]):=ok1 (zD9.eq_1 a0) Tryz.f34 [(4,1)]
attribute [local irreducible] zD9
def zam5(a0:aD)(j1:(List aC)):Option Bool:=
 (zk4 a0 j1).bind λ v1=>
 some v1
def zP7(a0:aD)(a1:List aO)(g1:Int×(List aC)):Option ((Int×(List aC))⊕((List aC)⊕Bool)):=
 (if(decide (g1.1<(a1.length:Int)))=true then
  gd (0<=g1.1/\g1.1<(a1.length:Int))<|
  (if((!(zb6 ((a1.getD g1.1.toNat aO.zero).aI)))||(!(zb0 a0 ((a1.getD g1.1.toNat aO.zero).aK))))=true then
   some (.inr (.inr false))
  else
   gd (decide (0<g1.1)=true->0<=i64.wrap (g1.1-1)/\i64.wrap (g1.1-1)<(a1.length:Int))<|
   ((if(decide (0<g1.1))=true then zc3 ((a1.getD ((i64.wrap (g1.1-1)).toNat) aO.zero).aI) ((a1.getD g1.1.toNat aO.zero).aI)else some 0)).bind λ v2=>
   (if(decide (0<g1.1)&&decide (0<=v2))=true then
    some (.inr (.inr false))
   else
    gd (g1.2.length+1<=4294967296)<|
    some (.inl ((i64.wrap (g1.1+1)),(g1.2++[(a1.getD g1.1.toNat aO.zero).aK])))))
 else
  some (.inr (.inl g1.2)))
def zs0(a0:aD)(a1:List aO):Option Bool:=
 (if((!(zd3 a0))||decide (8<(a1.length:Int)))=true then
  some false
 else
  (zc0 (zP7 a0 a1) (0,[])).bind (λ|.inl z=>zam5 a0 z|.inr z=>some z))
@[reducible,instance] def zed8 (a0:aD) a1:=mkJ (zs0 a0 a1) 0 (@zam5.eq_1 a0) λ(j1:(List aC))=>⟨[(2,.ptr 0 0 0),(5,.own 1 0 j1.length)],[(0,bx a0),(1,sx j1)],2⟩
@[reducible,instance] def zed9 (a0:aD) (a1:List aO) {T:Type} (x:T):=mkL x (@zP7.eq_1 a0 a1) λ(g1:Int×(List aC))=>⟨[(1,la a1),(2,.ptr 0 0 0),(5,.own 1 0 g1.2.length),(16,la a1),(17,.int .i64 (a1.length:Int)),(18,.int .i64 g1.1)],[(0,bx a0),(1,sx g1.2)],2⟩
instance zcN8(a0:aD)(a1:List aO):OkP (zs0 a0 a1) 230 [ga a0,la a1] (λ r=>.bool r):=ok1 (zs0.eq_1 a0 a1) Tryz.f230 [(5,1)]
attribute [local irreducible] zs0
def zq5(a0:List aF):Option (List aF):=
 gd (a0.length<=4294967296)<|
 (zb5 a0).bind λ v1=>
 (za2 v1).bind λ v2=>
 some v2.1
theorem zbm4(a0:List aF)(r:(List aF))(h:zq5 a0=some r):PFn C 84 [la a0] (la r):=by refine zW0 Tryz.f84 [] λ E hG hN hK=>?_;unfold zq5 at h;refine za0 (za1 hG ?_);refine za0 ?_;obtain⟨hb1,h⟩:=ze3 h;refine za1 hG ?_;refine za0 (za1 hG ?_);obtain⟨v1,hv1,h⟩:=zb8 h;have hl_v1:=zac1 a0 _ hv1;refine zp6 [(0,0)] [] [0] (zac2 _ _ hv1) rfl rfl ?_;refine za0 (za1 hG ?_);obtain⟨v2,hv2,h⟩:=zb8 h;refine zp6 [(0,0)] [] [0] ((zac9 v1).ok _ hv2) rfl rfl ?_;refine zm2 ?_;exact zt1 h
instance zcy2(a0:List aF):OkP (zq5 a0) 84 [la a0] (λ r=>la r):=⟨zbm4 a0⟩
attribute [local irreducible] zq5
def zas9(a1:aM)(j1:Int×(List aM)):Option ((List aM)×Int×Int):=
 gd (0<=j1.1/\j1.1<((j1.2.length:Nat):Int))<|
 some ((j1.2.set j1.1.toNat a1),j1.1,0)
def zag6(a1:aM)(g1:Int×(List aM)):Option ((Int×(List aM))⊕(Int×(List aM))):=
 gd (decide (0<g1.1)=true->0<=i64.wrap (g1.1-1)/\i64.wrap (g1.1-1)<((g1.2.length:Nat):Int))<|
 (if(decide (0<g1.1)&&decide (zax7 a1 (g1.2.getD ((i64.wrap (g1.1-1)).toNat) aM.zero)=1))=true then
  gd (0<=i64.wrap (g1.1-1)/\i64.wrap (g1.1-1)<((g1.2.length:Nat):Int))<|
  gd (0<=g1.1/\g1.1<((g1.2.length:Nat):Int))<|
  gd (0<=g1.1/\g1.1<((g1.2.length:Nat):Int))<|
  gd (0<=g1.1/\g1.1<((g1.2.length:Nat):Int))<|
  some (.inl ((i64.wrap (g1.1-1)),(g1.2.set g1.1.toNat (g1.2.getD ((i64.wrap (g1.1-1)).toNat) aM.zero)).set g1.1.toNat ({((g1.2.set g1.1.toNat (g1.2.getD ((i64.wrap (g1.1-1)).toNat) aM.zero)).getD g1.1.toNat aM.zero)with bE:=(i64.wrap (((g1.2.set g1.1.toNat (g1.2.getD ((i64.wrap (g1.1-1)).toNat) aM.zero)).getD g1.1.toNat aM.zero).bE+1))})))
 else
  some (.inr (g1.1,g1.2)))
def zx0(a0:List aM)(a1:aM):Option ((List aM)×Int×Int):=
 (zr1 a0).bind λ v1=>
 (if(!v1)=true then
  some ([],0,2)
 else
  (if((!(zg1 a1))||(!decide (a1.bE=0)))=true then
   some ([],0,1)
  else
   (zk2 a0 a1.aI).bind λ v2=>
   (if(decide (0<=v2))=true then
    some ([],0,11)
   else
    (if(decide ((a0.length:Int)=8))=true then
     some ([],0,4)
    else
     gd (0<=i64.wrap ((a0.length:Int)+1)/\i64.wrap ((a0.length:Int)+1)<=i64.wrap ((a0.length:Int)+1)/\i64.wrap ((a0.length:Int)+1)<=4294967296)<|
     (zc0 (zag6 a1) ((a0.length:Int),((List.replicate ((i64.wrap ((a0.length:Int)+1)).toNat) aM.zero).take 0++a0.take ((i64.wrap ((a0.length:Int)+1)).toNat)++(List.replicate ((i64.wrap ((a0.length:Int)+1)).toNat) aM.zero).drop (0+min a0.length ((i64.wrap ((a0.length:Int)+1)).toNat))))).bind (λ z=>zas9 a1 z)))))
@[reducible,instance] def zdU8 a0 (a1:aM) {T1:Type} (v1:T1) {T2:Type} (v2:T2):=mkJ ((zx0 a0 a1,v1),v2) 1 (@zas9.eq_1 a1) λ(j1:Int×(List aM))=>⟨[(3,.ptr 0 0 0),(7,.own 1 0 j1.2.length),(8,.int .i64 j1.1)],[(0,bx a1),(1,sx j1.2)],2⟩
@[reducible,instance] def zdU9 (a1:aM) {T:Type} (x:T):=mkL x (@zag6.eq_1 a1) λ(g1:Int×(List aM))=>⟨[(3,.ptr 0 0 0),(7,.own 1 0 g1.2.length),(8,.int .i64 g1.1)],[(0,bx a1),(1,sx g1.2)],2⟩
instance zbO0(a0:List aM)(a1:aM):OkP (zx0 a0 a1) 208 [la a0,ga a1] (λ r=>.tup [la r.1,.int .i64 r.2.1,.int .i64 r.2.2]):=ok1 (zx0.eq_1 a0 a1) Tryz.f208 []
attribute [local irreducible] zx0
attribute [local irreducible] zr9 zs9 zw9
def zP8(a0:List aD)(a1:Int):Option (aX×Int):=
 (zo4 a0).bind λ v1=>
 (if(((!v1)||decide (a1<0))||decide (4<=a1))=true then
  some ({aX.zero with},1)
 else
  (zk5 a0 a1).bind λ v2=>
  (zD9 v2).bind λ v3=>
  (if(!decide (v3.2=0))=true then
   some ({aX.zero with},v3.2)
  else
   some ({aX.zero with aG:=v3.1},0)))
instance zbB9(a0:List aD)(a1:Int):OkP (zP8 a0 a1) 10 [la a0,.int .i64 a1] (λ r=>.tup [ga r.1,.int .i64 r.2]):=ok1 (zP8.eq_1 a0 a1) Tryz.f10 []
attribute [local irreducible] zP8
def zaZ7(j1:(List aA)):Option ((List aA)×Int):=
 some (j1,0)
def zap5(a0:List aD)(g1:Int×(List aA)):Option ((Int×(List aA))⊕(List aA)):=
 (if(decide (g1.1<(a0.length:Int)))=true then
  gd (0<=g1.1/\g1.1<(a0.length:Int))<|
  gd (g1.2.length+1<=4294967296)<|
  some (.inl ((i64.wrap (g1.1+1)),(g1.2++[{aA.zero with aB:=(a0.getD g1.1.toNat aD.zero)}])))
 else
  some (.inr g1.2))
def zT1(a0:List aD):Option ((List aA)×Int):=
 (zw9 a0).bind λ v1=>
 (if(!v1)=true then
  some ([],1)
 else
  (zc0 (zap5 a0) (0,[])).bind (λ z=>zaZ7 z))
@[reducible,instance] def zdV0 a0 {T1:Type} (v1:T1):=mkJ (zT1 a0,v1) 0 (@zaZ7.eq_1) λ(j1:(List aA))=>⟨[(4,.own 0 0 j1.length)],[(0,sx j1)],1⟩
@[reducible,instance] def zdV1 (a0:List aD) {T:Type} (x:T):=mkL x (@zap5.eq_1 a0) λ(g1:Int×(List aA))=>⟨[(0,la a0),(4,.own 0 0 g1.2.length),(5,.int .i64 g1.1)],[(0,sx g1.2)],1⟩
instance zdo3(a0:List aD):OkP (zT1 a0) 37 [la a0] (λ r=>.tup [la r.1,.int .i64 r.2]):=ok1 (zT1.eq_1 a0) Tryz.f37 [(4,1)]
attribute [local irreducible] zT1
def zT2(a0:List aD)(a1:Int):Option (aX×Int):=
 (zw9 a0).bind λ v1=>
 (if(((!v1)||decide (a1<0))||decide (4<=a1))=true then
  some ({aX.zero with},1)
 else
  (zo7 a0 a1).bind λ v2=>
  (zT1 v2).bind λ v3=>
  (if(!decide (v3.2=0))=true then
   some ({aX.zero with},1)
  else
   some ({aX.zero with aG:=v3.1},0)))
instance zdo4(a0:List aD)(a1:Int):OkP (zT2 a0 a1) 11 [la a0,.int .i64 a1] (λ r=>.tup [ga r.1,.int .i64 r.2]):=ok1 (zT2.eq_1 a0 a1) Tryz.f11 []
attribute [local irreducible] zT2
end
end Ab
end Go.Proofs.YtdlfhmkmnjbihaaGreatDoor
