import Derived.Test.YtamndckemppjdaaGreatDoorHm14
import Derived.Test.YtamndckemppjdaaGreatDoorHm12
import Derived.Test.YtamndckemppjdaaGreatDoorSort
namespace Go.Proofs.YtamndckemppjdaaGreatDoor
namespace Ab
open IntKind (i64 u64 u8 u32)
set_option linter.unusedSimpArgs false
set_option linter.defProp false
set_option linter.unusedVariables false
set_option maxRecDepth 100000
set_option maxHeartbeats 4000000
noncomputable section
attribute [local irreducible] zn9 zf4 zb7 ze8 zl6 zk8 zd0 zd6 zc8 zf7 zn2 zb8 zq7 zh1 zc1 zk5 zm2 zb4 zg1 za4 zk1 ze6 zb5 zd3 ze9 zd5 zm0 zn3 zi7 zg7 zg5 zh7 zg2 zd9 zh5 zi8 zk9 zb2 zg4 za6 zi9 za9 zb9 zf1 zj6 zf2 zi3 za8 za7 za5 zh2 zj2 zf3 zj8 zg3 zd7 zm3 zc5 zh9 zi0 zh4 zj1 zk2 zn8 zm1 zb6 zj0 zd8 zi5 zq5 zl0 zm9 zf0 zc3 zf5 zb0 zq0 zg9 zl7 zc0 zg6 zb1 zf8 zl8 zi1 zg0 zo7 zo1 zm5 zl3 zk4 zq6 zj3 zj5 zt8 zf9 zh8 zp0 zc7 ze2 ze4 ze3 zb3 zn4 zj9 zc6 zl9 zj4
def zv1(a0:aG):Option (aC×Int):=
 (zg0 a0).bind λ v1=>
 (if(!v1)=true then
  some ({aC.zero with},1)
 else
  some ({aC.zero with aQ:=a0},0))
instance zch8(a0:aG):OkP (zv1 a0) 93 [ga a0] (λ r=>.tup [ga r.1,.int .i64 r.2]):=ok1 (zv1.eq_1 a0) Tryz.f93 []
attribute [local irreducible] zv1
def zaB4(j1:(List aF)):Option (List aF):=
 some j1
def zaB5(v1:(List aW))(g1:Int×(List aF)):Option ((Int×(List aF))⊕(List aF)):=
 (if(decide (g1.1<(v1.length:Int)))=true then
  gd (0<=g1.1/\g1.1<(v1.length:Int))<|
  gd (g1.2.length+1<=4294967296)<|
  some (.inl ((i64.wrap (g1.1+1)),(g1.2++[(v1.getD g1.1.toNat aW.zero).aZ])))
 else
  some (.inr g1.2))
def zs7(a0:aC):Option (List aF):=
 (zq6 a0).bind λ v1=>
 (zg8 (zaB5 v1) (0,[])).bind (λ z=>zaB4 z)
@[reducible,instance] def zdy3 a0 {T1:Type} (v1:T1):=mkJ (zs7 a0,v1) 0 (@zaB4.eq_1) λ(j1:(List aF))=>⟨[(3,.own 0 0 j1.length)],[(0,sx j1)],1⟩
@[reducible,instance] def zdy4 (v1:(List aW)) {T:Type} (x:T):=mkL x (@zaB5.eq_1 v1) λ(g1:Int×(List aF))=>⟨[(3,.own 0 0 g1.2.length),(7,la v1),(8,.int .i64 (v1.length:Int)),(9,.int .i64 g1.1)],[(0,sx g1.2)],1⟩
instance zca6(a0:aC):OkP (zs7 a0) 181 [ga a0] (λ r=>la r):=ok1 (zs7.eq_1 a0) Tryz.f181 [(3,1)]
attribute [local irreducible] zs7
def zX0(j1:(List aO)):Option (List aO):=
 (zc7 j1).bind λ v2=>
 some v2
@[go_sem] def zct7(j1:(List aO)):St:=⟨[(3,.own 0 0 j1.length)],[(0,sx j1)],1⟩
def zam2(e0:ByteArray×aJ)(g1:(List aO)):Option ((List aO)⊕(List aO)):=
 (if(!decide (e0.2={aJ.zero with}))=true then
  gd (g1.length+1<=4294967296)<|
  some (.inl (g1++[(⟨e0.1,e0.2⟩:aO)]))
 else
  some (.inl g1))
@[go_sem] def zct8(v1:(List (ByteArray×aJ)))(s0:List Nat)(g1:(List aO)):St:=⟨[(3,.own 0 0 g1.length),(9,.it 1)],[(0,sx g1),(1,⟨false,0,[],[.mp 2,.int .i64 (v1.length:Int)]::s0.map iE⟩),(2,⟨false,0,[A.str ⟨#[]⟩,A.bool true],v1.map (mS aJ.enc)⟩)],3⟩
def zn7(a0:bG):Option (List aO):=
 (zi7 a0.bB).bind λ v1=>
 rngO v1 (⟨#[]⟩,aJ.zero) zam2 (λ g1:(List aO)=>g1) [] (λ z=>zX0 z)
theorem zaS6(a0:bG)(r:(List aO))(h:zn7 a0=some r):PFn C 111 [ga a0] (la r):=by
 refine zx6 Tryz.f111 [(3,1),(10,252),(12,252)] λ E hG hN hK=>?_;unfold zn7 at h;refine za2 (za3 hG ?_);refine za2 (za3 hG ?_);refine za2 (za2 (za3 hG ?_));obtain⟨v1,hv1,h⟩:=zd2 h;refine zs2 [] [(0,2)] [0] ((zaV7 a0.bB).ok _ hv1) rfl rfl ?_;refine zs5 zct7 (λ v=>zX0 v=some r) ?_ ?_
 · intro j1 h
   unfold zX0 at h;refine g_st ?_;refine za2 (za3 hG ?_);obtain⟨v2,hv2,h⟩:=zd2 h;have hl_v2:=zV3 j1 _ hv2;refine zs2 [(0,0)] [] [0] (zV4 _ _ hv2) rfl rfl ?_;refine za2 (za3 hG ?_);refine zo3 ?_;exact zt5 h
 refine zcR0 (zct8 v1) hK [(0,1),(1,3),(2,2)] h (λ s0 g1 hP_l1=>?_);refine g_st ?_;refine za2 (za3 hG ?_);refine⟨λ ix0 hi0 hns0=>?_,λ hall0=>?_⟩
 · obtain⟨y_l1,h_l1,hP1_l1,hx_l1⟩:=zbY3 hP_l1 hi0 hns0
   unfold zam2 at h_l1
   try refine g_st ?_
   refine za2 ?_;refine zU6 rfl hG ?_;refine zh0 ?_;refine zr6 (za2 (za3 hG ?_));refine za2 (za3 hG ?_);refine zh3 rfl hG h_l1 (λ _ h_l1=>?_) (λ _ h_l1=>?_)
   · obtain⟨hb1,h_l1⟩:=ze5 h_l1
     refine za3 hG ?_;exact zbL3 hK [(0,4),(1,1),(2,2)] h_l1 hP1_l1
   refine zh0 ?_;exact zbL3 hK [(0,0),(1,1),(2,2)] h_l1 hP1_l1
 try refine g_st ?_
 refine za2 ?_;refine zaf1 rfl hG ?_;refine zv7 ?_;have h:=zcg6 hP_l1 hall0
 try dsimp only at h
 exact zs8 hK [(0,0)] g1 (by exact h)
instance zbE3(a0:bG):OkP (zn7 a0) 111 [ga a0] (λ r=>la r):=⟨zaS6 a0⟩
attribute [local irreducible] zn7
def zE2(a0:Int)(j1:Int×(List aD)):Option (Bool×(List aD)):=
 some ((decide (a0<j1.1)),j1.2)
@[go_sem] def zct9(a0:Int)(j1:Int×(List aD)):St:=⟨[(1,.int .i64 a0),(7,.int .i64 j1.1)],[(0,⟨false,1,[A.sl ([].map aD.enc)],[[.own 1 0 j1.2.length]]⟩),(1,sx j1.2)],2⟩
def zt2(g1:Int×(List aD))(v1:Bool×(List aD))(j2:Int):Option ((Int×(List aD))⊕(Int×(List aD))):=
 (ze4 j2 g1.1 v1.2).bind λ v2=>
 gd (v2.2.length=v1.2.length)<|
 (if(!v2.1)=true then
  some (.inr (g1.1,v2.2))
 else
  (zd0 g1.1 j2 v2.2).bind λ v3=>
  gd (v3.length=v2.2.length)<|
  some (.inl (j2,v3)))
@[go_sem] def zcu0(a0 a1:Int)(g1:Int×(List aD))(v1:Bool×(List aD))(j2:Int):St:=⟨[(0,.ipt 88 0 0 0),(1,.int .i64 a0),(2,.int .i64 a1),(7,.int .i64 g1.1),(9,.int .i64 j2)],[(0,⟨false,1,[A.sl ([].map aD.enc)],[[.own 1 0 v1.2.length]]⟩),(1,sx v1.2)],2⟩
def zr5(a1:Int)(g1:Int×(List aD)):Option ((Int×(List aD))⊕(Int×(List aD))):=
 (if(decide (a1<=i64.wrap (i64.wrap (2*g1.1)+1))||decide (i64.wrap (i64.wrap (2*g1.1)+1)<0))=true then
  some (.inr (g1.1,g1.2))
 else
  ((if(decide (i64.wrap (i64.wrap (i64.wrap (2*g1.1)+1)+1)<a1))=true then ze4 (i64.wrap (i64.wrap (i64.wrap (2*g1.1)+1)+1)) (i64.wrap (i64.wrap (2*g1.1)+1)) g1.2 else some (false,g1.2))).bind λ v1=>
  gd (v1.2.length=g1.2.length)<|
  (if(decide (i64.wrap (i64.wrap (i64.wrap (2*g1.1)+1)+1)<a1)&&v1.1)=true then
   zt2 g1 v1 (i64.wrap (i64.wrap (i64.wrap (2*g1.1)+1)+1))
  else
   zt2 g1 v1 (i64.wrap (i64.wrap (2*g1.1)+1))))
@[go_sem] def zcu1(a0 a1:Int)(g1:Int×(List aD)):St:=⟨[(0,.ipt 88 0 0 0),(1,.int .i64 a0),(2,.int .i64 a1),(7,.int .i64 g1.1)],[(0,⟨false,1,[A.sl ([].map aD.enc)],[[.own 1 0 g1.2.length]]⟩),(1,sx g1.2)],2⟩
def zi2(a0 a1:Int)(a2:List aD):Option (Bool×(List aD)):=
 (zg8 (zr5 a1) (a0,a2)).bind (λ z=>zE2 a0 z)
theorem zau8(a0 a1:Int)(a2:List aD)(r:Bool×(List aD))(h:zi2 a0 a1 a2=some r):MFn C 56 [.ipt 88 0 0 0,.int .i64 a0,.int .i64 a1] [(0,⟨false,1,[A.sl ([].map aD.enc)],[[.own 1 0 a2.length]]⟩),(1,sx a2)] 2 (.bool r.1) [(0,⟨false,1,[A.sl ([].map aD.enc)],[[.own 1 0 r.2.length]]⟩),(1,sx r.2)] 2:=by
 refine zK4 Tryz.f56 [(32,17600664),(38,17600664),(43,17600670)] [.bool r.1] λ E hG hN hK=>?_;unfold zi2 at h;refine za2 (za3 hG ?_);refine za2 (za3 hG ?_);refine za2 ?_;refine zs5 (zct9 a0) (λ v=>zE2 a0 v=some r) ?_ ?_
 · intro j1 h
   unfold zE2 at h;refine g_st ?_;refine za2 (za3 hG ?_);refine zo3 ?_;exact zw8 [(0,0),(1,1)] h
 refine zz0 (zcu1 a0 a1) hK [(0,0),(1,1)] h (λ x_l1 h g1 y_l1 h_l1 hx_l1=>?_);unfold zr5 at h_l1;refine g_st ?_;refine zr6 (za2 (za3 hG ?_));refine za2 (za2 (za3 hG ?_));refine zh3 rfl hG h_l1 (λ _ h_l1=>?_) (λ _ h_l1=>?_)
 · refine zv7 ?_
   cases h_l1;cases hx_l1 _ rfl;exact zs8 hK [(0,0),(1,1)] (g1.1,g1.2) (by exact h)
 refine zh0 ?_;refine za2 (za3 hG ?_);refine za2 (za2 (za3 hG ?_));refine za2 (za3 hG ?_);obtain⟨v1,hv1,h_l1⟩:=zd2 h_l1;obtain⟨hb3,h_l1⟩:=ze5 h_l1;refine zbB3 [(0,1)] [0] hv1 (λ hc=>(zM1 (i64.wrap (i64.wrap (i64.wrap (2*g1.1)+1)+1)) (i64.wrap (i64.wrap (2*g1.1)+1)) g1.2).ok _ hc) rfl ?_;refine zaE6 (zcu0 a0 a1 g1 v1) (λ v=>zt2 g1 v1 v=some y_l1) rfl hG h_l1 ?_ (λ _ h_l1=>?_) (λ _ h_l1=>?_)
 · intro j2 h_l1
   unfold zt2 at h_l1;refine g_st ?_;refine za2 (za2 (za3 hG ?_));obtain⟨v2,hv2,h_l1⟩:=zd2 h_l1;obtain⟨hb2,h_l1⟩:=ze5 h_l1;refine zs2 [(0,1)] [] [0] ((zM1 j2 g1.1 v1.2).ok _ hv2) rfl rfl ?_;refine zh3 rfl hG h_l1 (λ _ h_l1=>?_) (λ _ h_l1=>?_)
   · refine zv7 ?_
     cases h_l1;cases hx_l1 _ rfl;exact zs8 hK [(0,0),(1,1)] (g1.1,v2.2) (by exact h)
   refine zh0 ?_;refine za2 (za3 hG ?_);obtain⟨v3,hv3,h_l1⟩:=zd2 h_l1;obtain⟨hb1,h_l1⟩:=ze5 h_l1;refine zs2 [(0,1)] [] [0] ((zW2 g1.1 j2 v2.2).ok _ hv3) rfl rfl ?_;refine za3 hG ?_;exact zy5 hK [(0,0),(1,1)] h_l1
 · refine za3 hG ?_
   exact zs8 hK [(0,0),(1,1)] (i64.wrap (i64.wrap (i64.wrap (2*g1.1)+1)+1)) (by exact h_l1)
 refine zh0 ?_;exact zs8 hK [(0,0),(1,1)] (i64.wrap (i64.wrap (2*g1.1)+1)) (by exact h_l1)
instance zbn2(a0 a1:Int)(a2:List aD):OkM (zi2 a0 a1 a2) 56 [.ipt 88 0 0 0,.int .i64 a0,.int .i64 a1] [(0,⟨false,1,[A.sl ([].map aD.enc)],[[.own 1 0 a2.length]]⟩),(1,sx a2)] 2 (λ r=>.bool r.1) (λ r=>[(0,⟨false,1,[A.sl ([].map aD.enc)],[[.own 1 0 r.2.length]]⟩),(1,sx r.2)]) 2:=⟨zau8 a0 a1 a2⟩
attribute [local irreducible] zi2
def zp1(a0:aC)(a1:aF)(a2:aJ):Option (aC×aF×aJ):=
 (zo7 a0.bR a1 a2).bind λ v1=>
 some ({a0 with bR:=v1},a1,a2)
instance zaN6(a0:aC)(a1:aF)(a2:aJ):OkM (zp1 a0 a1 a2) 230 [.ptr 0 0 0,.ptr 1 0 0,.ptr 2 0 0] [(0,bx a0),(1,bx a1),(2,bx a2)] 3 (λ r=>.tup []) (λ r=>[(0,bx r.1),(1,bx r.2.1),(2,bx r.2.2)]) 3:=okm (zp1.eq_1 a0 a1 a2) (λ r=>[]) Tryz.f230 []
attribute [local irreducible] zp1
def zD2(j1:(List bK)):Option (List bK):=
 some j1
def zD3(g1:Int×(List bK))(j2:(List bK)):Option ((Int×(List bK))⊕(List bK)):=
 some (.inl ((i64.wrap (g1.1+1)),j2))
def zD4(a0:Int)(g2:Int×(List bK)):Option ((Int×(List bK))⊕(List bK)):=
 gd (decide (a0<g2.1)=true->0<=g2.1/\g2.1<((g2.2.length:Nat):Int))<|
 gd (decide (a0<g2.1)=true->0<=i64.wrap (g2.1-1)/\i64.wrap (g2.1-1)<((g2.2.length:Nat):Int))<|
 ((if(decide (a0<g2.1))=true then zl9 (g2.2.getD g2.1.toNat bK.zero) (g2.2.getD ((i64.wrap (g2.1-1)).toNat) bK.zero)else some 0)).bind λ v1=>
 (if(decide (a0<g2.1)&&decide (v1<0))=true then
  gd (0<=i64.wrap (g2.1-1)/\i64.wrap (g2.1-1)<((g2.2.length:Nat):Int))<|
  gd (0<=g2.1/\g2.1<((g2.2.length:Nat):Int))<|
  gd (0<=g2.1/\g2.1<((g2.2.length:Nat):Int))<|
  gd (0<=i64.wrap (g2.1-1)/\i64.wrap (g2.1-1)<((g2.2.length:Nat):Int))<|
  some (.inl ((i64.wrap (g2.1-1)),(g2.2.set g2.1.toNat (g2.2.getD ((i64.wrap (g2.1-1)).toNat) bK.zero)).set ((i64.wrap (g2.1-1)).toNat) (g2.2.getD g2.1.toNat bK.zero)))
 else
  some (.inr g2.2))
def zv3(a0 a1:Int)(g1:Int×(List bK)):Option ((Int×(List bK))⊕(List bK)):=
 (if(decide (g1.1<a1))=true then
  (zg8 (zD4 a0) (g1.1,g1.2)).bind (λ z=>zD3 g1 z)
 else
  some (.inr g1.2))
def zc9(a0 a1:Int)(a2:List bK):Option (List bK):=
 (zg8 (zv3 a0 a1) ((i64.wrap (a0+1)),a2)).bind (λ z=>zD2 z)
@[reducible,instance] def zdy5 a0 a1 a2:=mkJ (zc9 a0 a1 a2) 0 (@zD2.eq_1) λ(j1:(List bK))=>⟨[],[(0,sx j1)],1⟩
@[reducible,instance] def zdy6 (a0 a1:Int) (g1:Int×(List bK)):=mkJ (zv3 a0 a1 g1) 2 (@zD3.eq_1 g1) λ(j2:(List bK))=>⟨[(0,.own 0 0 j2.length),(1,.int .i64 a0),(2,.int .i64 a1),(3,.clo 92 []),(8,.int .i64 g1.1)],[(0,sx j2)],1⟩
@[reducible,instance] def zdy7 (a0 a1:Int) (g1:Int×(List bK)):=mkL (zv3 a0 a1 g1) (@zD4.eq_1 a0) λ(g2:Int×(List bK))=>⟨[(0,.own 0 0 g2.2.length),(1,.int .i64 a0),(2,.int .i64 a1),(3,.clo 92 []),(8,.int .i64 g1.1),(9,.int .i64 g2.1)],[(0,sx g2.2)],1⟩
@[reducible,instance] def zdy8 (a0 a1:Int) {T:Type} (x:T):=mkL x (@zv3.eq_1 a0 a1) λ(g1:Int×(List bK))=>⟨[(0,.own 0 0 g1.2.length),(1,.int .i64 a0),(2,.int .i64 a1),(3,.clo 92 []),(8,.int .i64 g1.1)],[(0,sx g1.2)],1⟩
instance zE3(a0 a1:Int)(a2:List bK):OkM (zc9 a0 a1 a2) 207 [.own 0 0 a2.length,.int .i64 a0,.int .i64 a1,.clo 92 []] [(0,sx a2)] 1 (λ r=>.tup []) (λ r=>[(0,sx r)]) 1:=okm (zc9.eq_1 a0 a1 a2) (λ r=>[]) Tryz.f207 []
attribute [local irreducible] zc9
attribute [local irreducible] zl1 zm8 zs3 zm4 ze1 zi4 zo8 zp7 zs6 zo0 zk6
def zai2(j1:Unit):Option Bool:=
 some true
def zai3(a0:aC)(g1:Int):Option (Int⊕(Unit⊕Bool)):=
 (if(decide (g1<(a0.bO.length:Int)))=true then
  gd (0<=g1/\g1<(a0.bO.length:Int))<|
  ((if(zw4 a0.aQ ((a0.bO.getD g1.toNat aW.zero).aY))=true then zm3 a0 ((a0.bO.getD g1.toNat aW.zero).aZ)else some aJ.zero)).bind λ v2=>
  (if((!(zw4 a0.aQ ((a0.bO.getD g1.toNat aW.zero).aY)))||(!(zx9 v2)))=true then
   some (.inr (.inr false))
  else
   some (.inl (i64.wrap (g1+1))))
 else
  some (.inr (.inl ())))
def zp8(a0:aC):Option Bool:=
 (zs3 a0.bO).bind λ v1=>
 (if((!v1)||decide (8<i64.wrap ((a0.bR.length:Int)+(a0.bO.length:Int))))=true then
  some false
 else
  (zg8 (zai3 a0) 0).bind (λ|.inl z=>zai2 z|.inr z=>some z))
@[reducible,instance] def zdJ6 a0 {T1:Type} (v1:T1):=mkJ (zp8 a0,v1) 0 (@zai2.eq_1) λ(j1:Unit)=>⟨[],[],0⟩
@[reducible,instance] def zdJ7 (a0:aC) {T:Type} (x:T):=mkL x (@zai3.eq_1 a0) λ(g1:Int)=>⟨[(1,.ptr 0 0 0),(20,la a0.bO),(21,.int .i64 (a0.bO.length:Int)),(22,.int .i64 g1)],[(0,bx a0)],1⟩
instance zbE4(a0:aC):OkP (zp8 a0) 250 [ga a0] (λ r=>.bool r):=ok1 (zp8.eq_1 a0) Tryz.f250 []
attribute [local irreducible] zp8
def zr9(a0:bG)(a1:bX):Option (bG×Int):=
 (zi4 a0).bind λ v1=>
 (if(!v1)=true then
  some ({bG.zero with},2)
 else
  (zk9 a0 (a0.bB.length:Int) (a0.cB.length:Int)).bind λ v2=>
  gd (v2.bB.length+1<=4294967296)<|
  (zi4 (⟨(v2.bB++[a1]),v2.cB⟩:bG)).bind λ v3=>
  (if(!v3)=true then
   some ({bG.zero with},1)
  else
   some ((⟨(v2.bB++[a1]),v2.cB⟩:bG),0)))
instance zbR8(a0:bG)(a1:bX):OkP (zr9 a0 a1) 300 [ga a0,ga a1] (λ r=>.tup [ga r.1,.int .i64 r.2]):=⟨λ r h=>by
 refine zx6 Tryz.f300 [(6,3)] λ E hG hN hK=>?_;have hm:Mk (zr9 a0 a1):=trivial;unfold zr9 at h;refine za2 (za3 hG ?_);refine za2 (za2 (za3 hG ?_));obtain⟨v1,hv1,h⟩:=zd2 h;have hm:=mkP hm v1;refine zn1 (λ hg=>(zaH2 a0).ok _ hv1) ?_;refine zh3 rfl hG h (λ _ h=>?_) (λ _ h=>?_)
 .exact gogo
 refine zh0 ?_;refine za2 (za3 hG ?_);obtain⟨v2,hv2,h⟩:=zd2 h;have hm:=mkP hm v2;refine zs2 [] [(0,3),(1,4)] [0,1] (zaZ3 _ _ _ _ hv2) rfl rfl ?_;refine g_gh (.fz [4]) ?_;exact gogo⟩
attribute [local irreducible] zr9
def zh6(a0:List ByteArray):Option (List ByteArray):=
 (zl8 (u64.wrap ((a0.length:Nat):Int))).bind λ v1=>
 (ze1 0 ((a0.length:Nat):Int) v1 a0).bind λ v2=>
 some v2
instance zah7(a0:List ByteArray):OkM (zh6 a0) 126 [.own 0 0 a0.length] [(0,⟨false,1,[A.str ⟨#[]⟩],a0.map eS⟩)] 1 (λ r=>.tup []) (λ r=>[(0,⟨false,1,[A.str ⟨#[]⟩],r.map eS⟩)]) 1:=okm (zh6.eq_1 a0) (λ r=>[]) Tryz.f126 []
attribute [local irreducible] zh6
def zA8(v1:(List bK))(j2:Unit):Option (List bK):=
 some v1
@[go_sem] def zcu2(v1:(List bK))(j2:Unit):St:=⟨[],[(0,sx v1)],1⟩
def zJ5(a0:Int)(g1:Unit):Option (Unit⊕Unit):=
 (if(decide (20<a0))=true then
  none
 else
  some (.inr ()))
@[go_sem] def zcu3(a0:Int)(v1:(List bK))(g1:Unit):St:=⟨[(1,.int .i64 a0),(6,.int .i64 20)],[(0,sx v1)],1⟩
def zA9(a0:Int)(j1:Int×(List bK)):Option (List bK):=
 (zc9 j1.1 a0 j1.2).bind λ v1=>
 gd (v1.length=j1.2.length)<|
 (zg8 (zJ5 a0) ()).bind (λ z=>zA8 v1 z)
@[go_sem] def zcu4(a0:Int)(j1:Int×(List bK)):St:=⟨[(0,.own 0 0 j1.2.length),(1,.int .i64 a0),(2,.clo 92 []),(6,.int .i64 20),(7,.int .i64 j1.1)],[(0,sx j1.2)],1⟩
def zJ6(a0:Int)(g2:Int×Int×(List bK)):Option ((Int×Int×(List bK))⊕(Int×(List bK))):=
 (if(decide (g2.2.1<=a0))=true then
  (zc9 g2.1 g2.2.1 g2.2.2).bind λ v2=>
  gd (v2.length=g2.2.2.length)<|
  some (.inl (g2.2.1,i64.wrap (g2.2.1+20),v2))
 else
  some (.inr (g2.1,g2.2.2)))
@[go_sem] def zcu5(a0:Int)(g2:Int×Int×(List bK)):St:=⟨[(0,.own 0 0 g2.2.2.length),(1,.int .i64 a0),(2,.clo 92 []),(6,.int .i64 20),(7,.int .i64 g2.1),(8,.int .i64 g2.2.1)],[(0,sx g2.2.2)],1⟩
def zf6(a0:Int)(a1:List bK):Option (List bK):=
 (zg8 (zJ6 a0) (0,20,a1)).bind (λ z=>zA9 a0 z)
theorem zab2(a0:Int)(a1:List bK)(r:(List bK))(h:zf6 a0 a1=some r):MFn C 142 [.own 0 0 a1.length,.int .i64 a0,.clo 92 []] [(0,sx a1)] 1 (.tup []) [(0,sx r)] 1:=by
 refine zK4 Tryz.f142 [(2008,1)] [] λ E hG hN hK=>?_;unfold zf6 at h;refine za2 (za3 hG ?_);refine za2 (za3 hG ?_);refine za2 ?_;refine zs5 (zcu4 a0) (λ v=>zA9 a0 v=some r) ?_ ?_
 · intro j1 h
   unfold zA9 at h;refine g_st ?_;refine za2 (za3 hG ?_);obtain⟨v1,hv1,h⟩:=zd2 h;obtain⟨hb1,h⟩:=ze5 h;refine zs2 [(0,0)] [] [0] ((zE3 j1.1 a0 j1.2).ok _ hv1) rfl rfl ?_;refine zs5 (zcu2 v1) (λ v=>zA8 v1 v=some r) ?_ ?_
   · intro j2 h
     unfold zA8 at h;refine g_st ?_;exact zw8 [(0,0)] h
   refine zz0 (zcu3 a0 v1) hK [(0,0)] h (λ x_l1 h g1 y_l1 h_l1 hx_l1=>?_);unfold zJ5 at h_l1;refine g_st ?_;refine za2 (za2 (za3 hG ?_));refine zh3 rfl hG h_l1 (λ _ h_l1=>?_) (λ _ h_l1=>?_)
   · refine zh0 ?_
     refine zr6 ?_;exact zV9 h_l1
   refine zv7 ?_;cases h_l1;cases hx_l1 _ rfl;exact zs8 hK [(0,0)] () (by exact h)
 refine zz0 (zcu5 a0) hK [(0,0)] h (λ x_l2 h g2 y_l2 h_l2 hx_l2=>?_);unfold zJ6 at h_l2;refine g_st ?_;refine za2 (za2 (za3 hG ?_));refine zh3 rfl hG h_l2 (λ _ h_l2=>?_) (λ _ h_l2=>?_)
 · refine zh0 ?_
   refine zr6 (za2 (za3 hG ?_));obtain⟨v2,hv2,h_l2⟩:=zd2 h_l2;obtain⟨hb2,h_l2⟩:=ze5 h_l2;refine zs2 [(0,0)] [] [0] ((zE3 g2.1 g2.2.1 g2.2.2).ok _ hv2) rfl rfl ?_;refine za2 (za3 hG ?_);refine za3 hG ?_;exact zy5 hK [(0,0)] h_l2
 refine zv7 ?_;cases h_l2;cases hx_l2 _ rfl;exact zs8 hK [(0,0)] (g2.1,g2.2.2) (by exact h)
instance zaP6(a0:Int)(a1:List bK):OkM (zf6 a0 a1) 142 [.own 0 0 a1.length,.int .i64 a0,.clo 92 []] [(0,sx a1)] 1 (λ r=>.tup []) (λ r=>[(0,sx r)]) 1:=⟨zab2 a0 a1⟩
attribute [local irreducible] zf6
def zas9(j1:Unit):Option Bool:=
 some true
def zat0(a0:List aG)(g1:Int):Option (Int⊕(Unit⊕Bool)):=
 (if(decide (g1<(a0.length:Int)))=true then
  gd (0<=g1/\g1<(a0.length:Int))<|
  (zg0 (a0.getD g1.toNat aG.zero)).bind λ v1=>
  gd ((v1&&decide (0<g1))=true->0<=i64.wrap (g1-1)/\i64.wrap (g1-1)<(a0.length:Int))<|
  (if((!v1)||(decide (0<g1)&&(!Op.bytesLess ((a0.getD ((i64.wrap (g1-1)).toNat) aG.zero).name).toList ((a0.getD g1.toNat aG.zero).name).toList)))=true then
   some (.inr (.inr false))
  else
   some (.inl (i64.wrap (g1+1))))
 else
  some (.inr (.inl ())))
def zn6(a0:List aG):Option Bool:=
 (if(decide (8<(a0.length:Int)))=true then
  some false
 else
  (zg8 (zat0 a0) 0).bind (λ|.inl z=>zas9 z|.inr z=>some z))
@[reducible,instance] def zdJ8 a0:=mkJ (zn6 a0) 0 (@zas9.eq_1) λ(j1:Unit)=>⟨[],[],0⟩
@[reducible,instance] def zdJ9 (a0:List aG) {T:Type} (x:T):=mkL x (@zat0.eq_1 a0) λ(g1:Int)=>⟨[(0,la a0),(8,la a0),(9,.int .i64 (a0.length:Int)),(10,.int .i64 g1)],[],0⟩
instance zaB6(a0:List aG):OkP (zn6 a0) 80 [la a0] (λ r=>.bool r):=ok1 (zn6.eq_1 a0) Tryz.f80 []
attribute [local irreducible] zn6
theorem zX1:SlLaysF0.n6 C.P ⟨λ|6=>160|15=>187|14=>222|28=>247|29=>32|20=>267|21=>268|22=>269|23=>270|24=>271|25=>272|26=>273|27=>274|46=>305|47=>289|48=>290|49=>306|50=>307|57=>314|n=>n,λ|22=>61|24=>34|25=>126|39=>179|53=>369|55=>89|46=>361|45=>360|50=>366|66=>395|70=>319|76=>416|77=>417|n=>n,λ n=>n⟩ where
 mixed:=zv9
 f6:=⟨Tryz.f160.name,by decide,Tryz.func160.trans (dA some (by kernel_rfl))⟩
 f14:=⟨Tryz.f222.name,by decide,Tryz.func222.trans (dA some (by kernel_rfl))⟩
 f15:=Tryz.func187.trans (dA some (by kernel_rfl))
 f20:=⟨Tryz.f267.name,by decide,Tryz.func267.trans (dA some (by kernel_rfl))⟩
 f21:=⟨Tryz.f268.name,by decide,Tryz.func268.trans (dA some (by kernel_rfl))⟩
 f22:=⟨Tryz.f269.name,by decide,Tryz.func269.trans (dA some (by kernel_rfl))⟩
 f23:=⟨Tryz.f270.name,by decide,Tryz.func270.trans (dA some (by kernel_rfl))⟩
 f24:=⟨Tryz.f271.name,by decide,Tryz.func271.trans (dA some (by kernel_rfl))⟩
 f25:=⟨Tryz.f272.name,by decide,Tryz.func272.trans (dA some (by kernel_rfl))⟩
 f26:=⟨Tryz.f273.name,by decide,Tryz.func273.trans (dA some (by kernel_rfl))⟩
 f27:=⟨Tryz.f274.name,by decide,Tryz.func274.trans (dA some (by kernel_rfl))⟩
 f28:=Tryz.func247.trans (dA some (by kernel_rfl))
 f29:=Tryz.func32.trans (dA some (by kernel_rfl))
 f46:=⟨Tryz.f305.name,by decide,Tryz.func305.trans (dA some (by kernel_rfl))⟩
 f47:=Tryz.func289.trans (dA some (by kernel_rfl))
 f48:=Tryz.func290.trans (dA some (by kernel_rfl))
 f49:=⟨Tryz.f306.name,by decide,Tryz.func306.trans (dA some (by kernel_rfl))⟩
 f50:=⟨Tryz.f307.name,by decide,Tryz.func307.trans (dA some (by kernel_rfl))⟩
 f57:=⟨Tryz.f314.name,by decide,Tryz.func314.trans (dA some (by kernel_rfl))⟩
 t0:=Tryz.underlying0
 a0:=Tryz.isAgg0
 z0:=Tryz.sizeOf0
 v0:=Tryz.zeroValue0
 t3:=Tryz.underlying3
 a3:=Tryz.isAgg3
 z3:=Tryz.sizeOf3
 v3:=Tryz.zeroValue3
 t4:=Tryz.underlying4
 a4:=Tryz.isAgg4
 z4:=Tryz.sizeOf4
 v4:=Tryz.zeroValue4
 t5:=Tryz.underlying5
 a5:=Tryz.isAgg5
 z5:=Tryz.sizeOf5
 v5:=Tryz.zeroValue5
 t9:=Tryz.underlying9
 a9:=Tryz.isAgg9
 z9:=Tryz.sizeOf9
 v9:=Tryz.zeroValue9
 t22:=Tryz.underlying61
 a22:=Tryz.isAgg61
 z22:=Tryz.sizeOf61
 v22:=Tryz.zeroValue61
 t25:=Tryz.underlying126
 a25:=Tryz.isAgg126
 z25:=Tryz.sizeOf126
 v25:=Tryz.zeroValue126
 t39:=Tryz.underlying179
 a39:=Tryz.isAgg179
 z39:=Tryz.sizeOf179
 v39:=Tryz.zeroValue179
 t45:=Tryz.underlying360
 a45:=Tryz.isAgg360
 z45:=Tryz.sizeOf360
 v45:=Tryz.zeroValue360
 t46:=Tryz.underlying361
 a46:=Tryz.isAgg361
 z46:=Tryz.sizeOf361
 v46:=Tryz.zeroValue361
 t50:=Tryz.underlying366
 a50:=Tryz.isAgg366
 z50:=Tryz.sizeOf366
 v50:=Tryz.zeroValue366
 t53:=Tryz.underlying369
 a53:=Tryz.isAgg369
 z53:=Tryz.sizeOf369
 v53:=Tryz.zeroValue369
 t55:=Tryz.underlying89
 a55:=Tryz.isAgg89
 z55:=Tryz.sizeOf89
 v55:=Tryz.zeroValue89
 t66:=Tryz.underlying395
 a66:=Tryz.isAgg395
 z66:=Tryz.sizeOf395
 v66:=Tryz.zeroValue395
 t70:=Tryz.underlying319
 a70:=Tryz.isAgg319
 z70:=Tryz.sizeOf319
 v70:=Tryz.zeroValue319
 t76:=Tryz.underlying416
 a76:=Tryz.isAgg416
 z76:=Tryz.sizeOf416
 v76:=Tryz.zeroValue416
 t77:=Tryz.underlying417
 a77:=Tryz.isAgg417
 z77:=Tryz.sizeOf417
 v77:=Tryz.zeroValue417
def zd4(a0:List aF):Option (List aF):=gd (a0.length<=4294967296) (some (zbY1 a0 λ x y=>!decide (y.site<x.site\/y.site=x.site/\(y.inc<x.inc\/y.inc=x.inc/\y.num<x.num))))
theorem zV5(a0 r:List aF)(h:zd4 a0=some r):r.length=a0.length:=by obtain⟨_,h⟩:=ze5 h;obtain rfl:=dP h;rw[zaV6];exact List.length_mergeSort _
theorem zV6(a0 r:List aF)(h:zd4 a0=some r):MFn C 160 [.own 0 0 a0.length,.clo 43 []] [(0,sx a0)] 1 (.tup []) [(0,sx r)] 1:=by
 obtain⟨hl,h⟩:=ze5 h;obtain rfl:=dP h;haveI:Inhabited aF:=⟨aF.zero⟩;have e:(λ x y:aF=>!decide (y.site<x.site\/y.site=x.site/\(y.inc<x.inc\/y.inc=x.inc/\y.num<x.num)))=λ x y=>!(ltOf cmpS) y x:=by funext x y;rw[zaB0];exact dA not (decide_eq_decide.2 jD)
 rw[zaV6,e];exact zbB8 zX1 aF.enc 3 aF.len (by decide) (λ x=>(aF.laws x).2.1) Tryz.isAgg34 Tryz.sizeOf34 cmpS zca4 43 (λ x y=>(zO1 x y).ok _ (zch7 x y)) (enters_of Tryz.func43 (by kernel_rfl) rfl) rfl _ a0 hl (λ x _ y _=>zbH7 x y)
attribute [local irreducible] zd4
def f_formula_holds(a0:aP)(a1:List aO)(a2:List Bool):Option Bool:=
 (zn4 a0 (⟨a1,a2⟩:bZ)).bind λ v1=>
 some v1
instance zbR9(a0:aP)(a1:List aO)(a2:List Bool):OkP (f_formula_holds a0 a1 a2) 232 [ga a0,la a1,.sl (a2.map eB)] (λ r=>.bool r):=ok1 (f_formula_holds.eq_1 a0 a1 a2) Tryz.f232 []
attribute [local irreducible] f_formula_holds
def zB2(j1:aF):Option (Int×aF):=
 some ((-1),j1)
def zs4(a0:List aH)(g1:Int×aF):Option ((Int×aF)⊕(aF⊕(Int×aF))):=
 (if(decide (g1.1<(a0.length:Int)))=true then
  gd (0<=g1.1/\g1.1<(a0.length:Int))<|
  (zj9 (a0.getD g1.1.toNat aH.zero) g1.2).bind λ v1=>
  (if v1.1=true then
   some (.inr (.inr (g1.1,v1.2)))
  else
   some (.inl ((i64.wrap (g1.1+1)),v1.2)))
 else
  some (.inr (.inl g1.2)))
def zc2(a0:List aH)(a1:aF):Option (Int×aF):=
 (zg8 (zs4 a0) (0,a1)).bind (λ|.inl z=>zB2 z|.inr z=>some z)
@[reducible,instance] def zdy9 a0 a1:=mkJ (zc2 a0 a1) 0 (@zB2.eq_1) λ(j1:aF)=>⟨[],[(0,bx j1)],1⟩
@[reducible,instance] def zdz0 (a0:List aH) {T:Type} (x:T):=mkL x (@zs4.eq_1 a0) λ(g1:Int×aF)=>⟨[(0,la a0),(1,.clo 118 [.ptr 0 0 0]),(7,.int .i64 (a0.length:Int)),(8,.int .i64 g1.1)],[(0,bx g1.2)],1⟩
instance zay8(a0:List aH)(a1:aF):OkM (zc2 a0 a1) 117 [la a0,.clo 118 [.ptr 0 0 0]] [(0,bx a1)] 1 (λ r=>.int .i64 r.1) (λ r=>[(0,bx r.2)]) 1:=okm (zc2.eq_1 a0 a1) (λ r=>[.int .i64 r.1]) Tryz.f117 [(16,1)]
attribute [local irreducible] zc2
def za0(a0 a1:Int):aN×Int:=
 (if(!decide ((zO3 a0 a1).2=0))=true then
  ({aN.zero with},1)
 else
  ({aN.zero with regen:=(zO3 a0 a1).1},0))
theorem zbd3(a0 a1:Int):PFn C 84 [.int .i64 a0,.int .i64 a1] (.tup [ga ((za0 a0 a1).1),.int .i64 ((za0 a0 a1).2)]):=by generalize h:za0 a0 a1=r;refine zx6 Tryz.f84 [] λ E hG hN hK=>?_;have hm:Mk (za0 a0 a1):=trivial;unfold za0 at h;exact gogo
instance zbS0(a0 a1:Int):OkT 84 [.int .i64 a0,.int .i64 a1] (.tup [.agg (aN.enc ((za0 a0 a1).1)),.int .i64 ((za0 a0 a1).2)]):=⟨zbd3 a0 a1⟩
def zA0(v1:(List aC))(j2:Unit):Option (List aC):=
 some v1
@[go_sem] def zcu6(v1:(List aC))(j2:Unit):St:=⟨[],[(0,sx v1)],1⟩
def zI5(a0:Int)(g1:Unit):Option (Unit⊕Unit):=
 (if(decide (20<a0))=true then
  none
 else
  some (.inr ()))
@[go_sem] def zcu7(a0:Int)(v1:(List aC))(g1:Unit):St:=⟨[(1,.int .i64 a0),(6,.int .i64 20)],[(0,sx v1)],1⟩
def zA1(a0:Int)(j1:Int×(List aC)):Option (List aC):=
 (zb3 j1.1 a0 j1.2).bind λ v1=>
 gd (v1.length=j1.2.length)<|
 (zg8 (zI5 a0) ()).bind (λ z=>zA0 v1 z)
@[go_sem] def zcu8(a0:Int)(j1:Int×(List aC)):St:=⟨[(0,.own 0 0 j1.2.length),(1,.int .i64 a0),(2,.clo 89 []),(6,.int .i64 20),(7,.int .i64 j1.1)],[(0,sx j1.2)],1⟩
def zI6(a0:Int)(g2:Int×Int×(List aC)):Option ((Int×Int×(List aC))⊕(Int×(List aC))):=
 (if(decide (g2.2.1<=a0))=true then
  (zb3 g2.1 g2.2.1 g2.2.2).bind λ v2=>
  gd (v2.length=g2.2.2.length)<|
  some (.inl (g2.2.1,i64.wrap (g2.2.1+20),v2))
 else
  some (.inr (g2.1,g2.2.2)))
@[go_sem] def zcu9(a0:Int)(g2:Int×Int×(List aC)):St:=⟨[(0,.own 0 0 g2.2.2.length),(1,.int .i64 a0),(2,.clo 89 []),(6,.int .i64 20),(7,.int .i64 g2.1),(8,.int .i64 g2.2.1)],[(0,sx g2.2.2)],1⟩
def ze0(a0:Int)(a1:List aC):Option (List aC):=
 (zg8 (zI6 a0) (0,20,a1)).bind (λ z=>zA1 a0 z)
theorem zZ9(a0:Int)(a1:List aC)(r:(List aC))(h:ze0 a0 a1=some r):MFn C 140 [.own 0 0 a1.length,.int .i64 a0,.clo 89 []] [(0,sx a1)] 1 (.tup []) [(0,sx r)] 1:=by
 refine zK4 Tryz.f140 [(2008,1)] [] λ E hG hN hK=>?_;unfold ze0 at h;refine za2 (za3 hG ?_);refine za2 (za3 hG ?_);refine za2 ?_;refine zs5 (zcu8 a0) (λ v=>zA1 a0 v=some r) ?_ ?_
 · intro j1 h
   unfold zA1 at h;refine g_st ?_;refine za2 (za3 hG ?_);obtain⟨v1,hv1,h⟩:=zd2 h;obtain⟨hb1,h⟩:=ze5 h;refine zs2 [(0,0)] [] [0] ((zD1 j1.1 a0 j1.2).ok _ hv1) rfl rfl ?_;refine zs5 (zcu6 v1) (λ v=>zA0 v1 v=some r) ?_ ?_
   · intro j2 h
     unfold zA0 at h;refine g_st ?_;exact zw8 [(0,0)] h
   refine zz0 (zcu7 a0 v1) hK [(0,0)] h (λ x_l1 h g1 y_l1 h_l1 hx_l1=>?_);unfold zI5 at h_l1;refine g_st ?_;refine za2 (za2 (za3 hG ?_));refine zh3 rfl hG h_l1 (λ _ h_l1=>?_) (λ _ h_l1=>?_)
   · refine zh0 ?_
     refine zr6 ?_;exact zV9 h_l1
   refine zv7 ?_;cases h_l1;cases hx_l1 _ rfl;exact zs8 hK [(0,0)] () (by exact h)
 refine zz0 (zcu9 a0) hK [(0,0)] h (λ x_l2 h g2 y_l2 h_l2 hx_l2=>?_);unfold zI6 at h_l2;refine g_st ?_;refine za2 (za2 (za3 hG ?_));refine zh3 rfl hG h_l2 (λ _ h_l2=>?_) (λ _ h_l2=>?_)
 · refine zh0 ?_
   refine zr6 (za2 (za3 hG ?_));obtain⟨v2,hv2,h_l2⟩:=zd2 h_l2;obtain⟨hb2,h_l2⟩:=ze5 h_l2;refine zs2 [(0,0)] [] [0] ((zD1 g2.1 g2.2.1 g2.2.2).ok _ hv2) rfl rfl ?_;refine za2 (za3 hG ?_);refine za3 hG ?_;exact zy5 hK [(0,0)] h_l2
 refine zv7 ?_;cases h_l2;cases hx_l2 _ rfl;exact zs8 hK [(0,0)] (g2.1,g2.2.2) (by exact h)
instance zaN7(a0:Int)(a1:List aC):OkM (ze0 a0 a1) 140 [.own 0 0 a1.length,.int .i64 a0,.clo 89 []] [(0,sx a1)] 1 (λ r=>.tup []) (λ r=>[(0,sx r)]) 1:=⟨zZ9 a0 a1⟩
attribute [local irreducible] ze0
def zaL8(j1:(List aC)):Option ((List aC)×Int):=
 some (j1,0)
def zaL9(a0:List aG)(g1:Int×(List aC)):Option ((Int×(List aC))⊕((List aC)⊕((List aC)×Int))):=
 (if(decide (g1.1<(a0.length:Int)))=true then
  gd (0<=g1.1/\g1.1<(a0.length:Int))<|
  (zv1 (a0.getD g1.1.toNat aG.zero)).bind λ v2=>
  (if(!decide (v2.2=0))=true then
   some (.inr (.inr ([],v2.2)))
  else
   gd (g1.2.length+1<=4294967296)<|
   some (.inl ((i64.wrap (g1.1+1)),(g1.2++[v2.1]))))
 else
  some (.inr (.inl g1.2)))
def zv6(a0:List aG):Option ((List aC)×Int):=
 (zn6 a0).bind λ v1=>
 (if(!v1)=true then
  some ([],1)
 else
  (zg8 (zaL9 a0) (0,[])).bind (λ|.inl z=>zaL8 z|.inr z=>some z))
@[reducible,instance] def zdK0 a0 {T1:Type} (v1:T1):=mkJ (zv6 a0,v1) 0 (@zaL8.eq_1) λ(j1:(List aC))=>⟨[(4,.own 0 0 j1.length)],[(0,sx j1)],1⟩
@[reducible,instance] def zdK1 (a0:List aG) {T:Type} (x:T):=mkL x (@zaL9.eq_1 a0) λ(g1:Int×(List aC))=>⟨[(4,.own 0 0 g1.2.length),(12,la a0),(13,.int .i64 (a0.length:Int)),(14,.int .i64 g1.1)],[(0,sx g1.2)],1⟩
instance zch9(a0:List aG):OkP (zv6 a0) 49 [la a0] (λ r=>.tup [la r.1,.int .i64 r.2]):=ok1 (zv6.eq_1 a0) Tryz.f49 [(4,1)]
attribute [local irreducible] zv6
def zab3(j1:Unit):Option Bool:=
 some true
def zab4(a0:aC)(g1:Int):Option (Int⊕(Unit⊕Bool)):=
 (if(decide (g1<(a0.aV.length:Int)))=true then
  gd (0<=g1/\g1<(a0.aV.length:Int))<|
  (zm3 a0 ((a0.aV.getD g1.toNat aW.zero).aZ)).bind λ v1=>
  (zn9 a0.aV ((a0.aV.getD g1.toNat aW.zero).aZ)).bind λ v2=>
  (if((!decide (v2=g1))||zx9 v1)=true then
   some (.inr (.inr false))
  else
   ((if(zw4 a0.aQ ((a0.aV.getD g1.toNat aW.zero).aY))=true then zm8 a0.aQ ((a0.aV.getD g1.toNat aW.zero).aY) v1 else some false)).bind λ v3=>
   (if(((!(zw4 a0.aQ ((a0.aV.getD g1.toNat aW.zero).aY)))||(!v3))||decide ((a0.aV.getD g1.toNat aW.zero).aY=v1))=true then
    some (.inr (.inr false))
   else
    (if((!decide ((a0.aV.getD g1.toNat aW.zero).bT=0))||(!decide ((a0.aV.getD g1.toNat aW.zero).cC=0)))=true then
     some (.inr (.inr false))
    else
     some (.inl (i64.wrap (g1+1))))))
 else
  some (.inr (.inl ())))
def zm6(a0:aC):Option Bool:=
 (if(decide (8<(a0.aV.length:Int)))=true then
  some false
 else
  (zg8 (zab4 a0) 0).bind (λ|.inl z=>zab3 z|.inr z=>some z))
@[reducible,instance] def zdK2 a0:=mkJ (zm6 a0) 0 (@zab3.eq_1) λ(j1:Unit)=>⟨[],[],0⟩
@[reducible,instance] def zdK3 (a0:aC) {T:Type} (x:T):=mkL x (@zab4.eq_1 a0) λ(g1:Int)=>⟨[(1,.ptr 0 0 0),(11,la a0.aV),(12,.int .i64 (a0.aV.length:Int)),(13,.int .i64 g1)],[(0,bx a0)],1⟩
instance zbv6(a0:aC):OkP (zm6 a0) 249 [ga a0] (λ r=>.bool r):=ok1 (zm6.eq_1 a0) Tryz.f249 []
attribute [local irreducible] zm6
def zr1(a0:List aG)(a1:aO):Option Int:=
 (zn6 a0).bind λ v1=>
 (if(!v1)=true then
  some 2
 else
  (zo1 a0 a1.name).bind λ v2=>
  (if(!v2.2)=true then
   some 10
  else
   gd (0<=v2.1/\v2.1<(a0.length:Int))<|
   (if(!(zw4 (a0.getD v2.1.toNat aG.zero) a1.aY))=true then
    some 12
   else
    some 0)))
instance zbI0(a0:List aG)(a1:aO):OkP (zr1 a0 a1) 215 [la a0,ga a1] (λ r=>.int .i64 r):=ok1 (zr1.eq_1 a0 a1) Tryz.f215 []
attribute [local irreducible] zr1
def zl4(a0:List aD):Option (aD×(List aD)):=
 (zd3 a0).bind λ v1=>
 gd (v1.2.length=a0.length)<|
 (zd0 0 (i64.wrap (v1.1-1)) v1.2).bind λ v2=>
 gd (v2.length=v1.2.length)<|
 (zi2 0 (i64.wrap (v1.1-1)) v2).bind λ v3=>
 (zd6 v3.2).bind λ v4=>
 some (v4.1,v4.2)
instance zay9(a0:List aD):OkM (zl4 a0) 28 [.ipt 88 0 0 0] [(0,⟨false,1,[A.sl ([].map aD.enc)],[[.own 1 0 a0.length]]⟩),(1,sx a0)] 2 (λ r=>.ival 91 (aD.enc r.1)) (λ r=>[(0,⟨false,1,[A.sl ([].map aD.enc)],[[.own 1 0 r.2.length]]⟩),(1,sx r.2)]) 2:=okm (zl4.eq_1 a0) (λ r=>[.ival 91 (aD.enc r.1)]) Tryz.f28 [(5,17600054),(9,17600670),(14,17600667)]
attribute [local irreducible] zl4
def zaj7(j1:Unit):Option Bool:=
 some true
@[go_sem] def zcv0(j1:Unit):St:=⟨[],[],0⟩
def zaB7(a0:bC)(g1:Unit):Option (Unit⊕Unit):=
 (if(decide (0<(a0.jobs.length:Int)))=true then
  none
 else
  some (.inr ()))
@[go_sem] def zcv1(a0:bC)(g1:Unit):St:=⟨[(49,.int .i64 (a0.jobs.length:Int)),(50,.int .i64 0)],[],0⟩
def zu4(a0:bC)(a1:List aG):Option Bool:=
 (zn6 a1).bind λ v1=>
 (if(!v1)=true then
  some false
 else
  (if(!decide ((za1 a0.site a0.inc).2=0))=true then
   some false
  else
   (if((((decide (a0.now<0)||decide (1073741824<a0.now))||decide (a0.last<0))||decide (999<a0.last))||decide (2<(a0.jobs.length:Int)))=true then
    some false
   else
    (zg8 (zaB7 a0) ()).bind (λ z=>zaj7 z))))
theorem zbl0(a0:bC)(a1:List aG)(r:Bool)(h:zu4 a0 a1=some r):PFn C 138 [ga a0,la a1] (.bool r):=by
 refine zx6 Tryz.f138 [(2010,1)] λ E hG hN hK=>?_;unfold zu4 at h;refine za2 (za3 hG ?_);refine za2 (za2 (za3 hG ?_));obtain⟨v1,hv1,h⟩:=zd2 h;refine zn1 (λ hg=>(zaB6 a1).ok _ hv1) ?_;refine zh3 rfl hG h (λ _ h=>?_) (λ _ h=>?_)
 · refine za2 (za3 hG ?_)
   refine zo3 ?_;exact zt5 h
 refine zh0 ?_;refine za2 (za2 (za3 hG ?_));refine zn1 (λ hg=>zaW0 a0.site a0.inc) ?_;refine za2 (za3 hG ?_);refine zh3 rfl hG h (λ _ h=>?_) (λ _ h=>?_)
 · refine za2 (za3 hG ?_)
   refine zo3 ?_;exact zt5 h
 refine zh0 ?_;refine za2 (za2 (za3 hG ?_));refine zh3 rfl hG h (λ _ h=>?_) (λ _ h=>?_)
 · refine za2 (za3 hG ?_)
   refine zo3 ?_;exact zt5 h
 refine zh0 ?_;refine za2 (za2 (za3 hG ?_));refine zs5 zcv0 (λ v=>zaj7 v=some r) ?_ ?_
 · intro j1 h
   unfold zaj7 at h;refine g_st ?_;refine za2 (za3 hG ?_);refine zo3 ?_;exact zt5 h
 refine zz0 (zcv1 a0) hK [] h (λ x_l1 h g1 y_l1 h_l1 hx_l1=>?_);unfold zaB7 at h_l1;refine g_st ?_;refine za2 (za3 hG ?_);refine za2 ?_;refine zh3 rfl hG h_l1 (λ _ h_l1=>?_) (λ _ h_l1=>?_)
 · refine zh0 ?_
   refine za2 (zr6 ?_);exact zV9 h_l1
 refine zv7 ?_;cases h_l1;cases hx_l1 _ rfl;exact zs8 hK [] () (by exact h)
attribute [local irreducible] zu4
end
end Ab
end Go.Proofs.YtamndckemppjdaaGreatDoor
