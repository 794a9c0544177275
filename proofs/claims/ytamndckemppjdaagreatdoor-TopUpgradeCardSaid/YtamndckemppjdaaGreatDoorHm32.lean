import Derived.Test.YtamndckemppjdaaGreatDoorHm27
namespace Go.Proofs.YtamndckemppjdaaGreatDoor
namespace Ab
open IntKind (i64 u64 u8 u32)
set_option linter.unusedSimpArgs false
set_option linter.defProp false
set_option linter.unusedVariables false
set_option maxRecDepth 100000
set_option maxHeartbeats 4000000
noncomputable section
attribute [local irreducible] zn9 zf4 zb7 ze8 zl6 zk8 zd0 zd6 zc8 zf7 zn2 zb8 zq7 zh1 zc1 zk5 zm2 zb4 zg1 za4 zk1 ze6 zb5 zd3 ze9 zd5 zm0 zn3 zi7 zg7 zg5 zh7 zg2 zd9 zh5 zi8 zk9 zb2 zg4 za6 zi9 za9 zb9 zf1 zj6 zf2 zi3 za8 za7 za5 zh2 zj2 zf3 zj8 zg3 zd7 zm3 zc5 zh9 zi0 zh4 zj1 zk2 zn8 zm1 zb6 zj0 zd8 zi5 zq5 zl0 zm9 zf0 zc3 zf5 zb0 zq0 zg9 zl7 zc0 zg6 zb1 zf8 zl8 zi1 zg0 zo7 zo1 zm5 zl3 zk4 zq6 zj3 zj5 zt8 zf9 zh8 zp0 zc7 ze2 ze4 ze3 zb3 zn4 zj9 zc6 zl9 zj4 zl1 zm8 zs3 zm4 ze1 zi4 zo8 zp7 zs6 zo0 zk6 zv1 zs7 zn7 zi2 zp1 zc9 zn6 zd4 f_formula_holds zc2 ze0 zp8 zr9 zh6 zf6 zq1 zt3 zp4 zu5 zl2 zv6 zm6 zr1 zl4 zu4 zr4 zm7 zn5 zr2 zd1 zq2 zr7 zr3 zt0 zt7 zq9 zi6 zq8 zD5 zt1 zp9 zD6 zt4 zu6 zv0 zt9 zk7 zp3 zo6 ze7 zB8 zu2 zu9 zr8 zu1 zw2
def zaa0(j1:ByteArray×Int×Int×Int×Int×(List bF)×(List aW)×aJ×aJ×aF×(List aW)):Option (aC×(List bF)×Int×aC×(List bF)×(List aW)×aJ×aJ×aF):=
 (zu1 (⟨(⟨j1.1,j1.2.1,j1.2.2.1,j1.2.2.2.1⟩:aG),j1.2.2.2.2.2.1,j1.2.2.2.2.2.2.2.2.2.2,j1.2.2.2.2.2.2.1,j1.2.2.2.2.1⟩:aC)).bind λ v1=>
 some ({v1.2 with gen:=(zy9 v1.2.gen)},v1.1,0,{v1.2 with gen:=(zy9 v1.2.gen)},j1.2.2.2.2.2.1,j1.2.2.2.2.2.2.1,j1.2.2.2.2.2.2.2.1,j1.2.2.2.2.2.2.2.2.1,j1.2.2.2.2.2.2.2.2.2.1)
@[go_sem] def zcx2(j1:ByteArray×Int×Int×Int×Int×(List bF)×(List aW)×aJ×aJ×aF×(List aW)):St:=⟨[(0,.ptr 0 0 0),(4,.ptr 8 0 0)],[(0,⟨false,8,aC.enc aC.zero,[[.str j1.1,.int .i64 j1.2.1,.int .i64 j1.2.2.1,.int .i64 j1.2.2.2.1,.own 2 0 j1.2.2.2.2.2.1.length,.own 9 0 j1.2.2.2.2.2.2.2.2.2.2.length,.own 4 0 j1.2.2.2.2.2.2.1.length,.int .i64 j1.2.2.2.2.1]]⟩),(1,⟨false,1,[A.clo zF2 []],[[.clo 264 [.ptr 0 0 0,.ptr 5 0 0,.ptr 6 0 0,.ptr 7 0 0]]]⟩),(2,sx j1.2.2.2.2.2.1),(4,sx j1.2.2.2.2.2.2.1),(5,bx j1.2.2.2.2.2.2.2.1),(6,bx j1.2.2.2.2.2.2.2.2.1),(7,bx j1.2.2.2.2.2.2.2.2.2.1),(8,bx aC.zero),(9,sx j1.2.2.2.2.2.2.2.2.2.2)],10⟩
def zG8(a0:aC)(a1 a2:aJ)(a3:aF):Option (aC×(List bF)×Int×aC×(List bF)×(List aW)×aJ×aJ×aF):=
 gd (0<=0/\0<(1:Int))<|
 (zr2 a0 a1 a2 a3).bind λ v2=>
 zaa0 (v2.1,v2.2.1,v2.2.2.1,v2.2.2.2.1,v2.2.2.2.2.1,v2.2.2.2.2.2.2.2.2.1,v2.2.2.2.2.2.2.2.2.2.1,v2.2.2.2.2.2.1,v2.2.2.2.2.2.2.1,v2.2.2.2.2.2.2.2.1,v2.2.2.2.2.2.2.2.2.2.2)
theorem zaT1(a0:aC)(a1 a2:aJ)(a3:aF)(r:aC×(List bF)×Int×aC×(List bF)×(List aW)×aJ×aJ×aF)(h:zG8 a0 a1 a2 a3=some r):MFn C 196 [.ptr 0 0 0,.own 1 0 1] [(0,⟨false,8,aC.enc aC.zero,[[.str a0.aQ.name,.int .i64 a0.aQ.kind,.int .i64 a0.aQ.bJ,.int .i64 a0.aQ.home,.own 2 0 a0.bR.length,.own 3 0 a0.aV.length,.own 4 0 a0.bO.length,.int .i64 a0.gen]]⟩),(1,⟨false,1,[A.clo zF2 []],[[.clo 264 [.ptr 0 0 0,.ptr 5 0 0,.ptr 6 0 0,.ptr 7 0 0]]]⟩),(2,sx a0.bR),(3,sx a0.aV),(4,sx a0.bO),(5,bx a1),(6,bx a2),(7,bx a3)] 8 (.tup [ga r.1,la r.2.1,.int .i64 r.2.2.1]) [(0,bx r.2.2.2.1),(1,⟨false,1,[A.clo zF2 []],[[.clo 264 [.ptr 0 0 0,.ptr 5 0 0,.ptr 6 0 0,.ptr 7 0 0]]]⟩),(2,⟨true,5,bF.enc bF.zero,r.2.2.2.2.1.map bF.enc⟩),(4,⟨true,7,aW.enc aW.zero,r.2.2.2.2.2.1.map aW.enc⟩),(5,bx r.2.2.2.2.2.2.1),(6,bx r.2.2.2.2.2.2.2.1),(7,bx r.2.2.2.2.2.2.2.2)] 8:=by
 refine zK4 Tryz.f196 [(17,1)] [ga r.1,la r.2.1,.int .i64 r.2.2.1] λ E hG hN hK=>?_;unfold zG8 at h;refine za2 (za3 hG ?_);refine za2 (za2 (za3 hG ?_));refine zs5 zcx2 (λ v=>zaa0 v=some r) ?_ ?_
 · intro j1 h
   unfold zaa0 at h;refine g_st ?_;refine za2 ?_;refine g_gh (.fz [2,4,9]) ?_;refine za3 hG ?_;obtain⟨v1,hv1,h⟩:=zd2 h;refine zs2 [(0,0)] [] [0] (zJ7 _ _ hv1) rfl rfl ?_;refine za2 (za3 hG ?_);refine zn1 (λ hg=>(zP2 v1.2.gen).ok) ?_;refine za2 (za3 hG ?_);refine zo3 ?_;exact zw8 [(0,0),(1,1),(2,2),(3,3),(4,4),(5,5),(6,6),(7,7)] h
 refine zaz8 3 ?_;refine zY8 ?_;refine za2 (za3 hG ?_);refine za2 ?_;refine zU6 rfl hG ?_;refine zh0 ?_;refine za2 (zr6 (za2 ?_));obtain⟨hb1,h⟩:=ze5 h;refine za3 hG ?_;refine za3 hG ?_;obtain⟨v2,hv2,h⟩:=zd2 h;refine zs2 [(0,0),(1,5),(2,6),(3,7),(4,2),(5,3),(6,4)] [(7,9)] [0,1,2,3,4,5,6,7] ((zaN8 a0 a1 a2 a3).ok _ hv2) rfl rfl ?_;refine za3 hG ?_;refine zY8 ?_;refine za2 (za3 hG ?_);refine za2 ?_;refine zaf1 rfl hG ?_;refine zv7 ?_;exact zs8 hK [(0,0),(1,1),(2,2),(3,3),(4,4),(5,5),(6,6),(7,7),(8,8),(9,9)] (v2.1,v2.2.1,v2.2.2.1,v2.2.2.2.1,v2.2.2.2.2.1,v2.2.2.2.2.2.2.2.2.1,v2.2.2.2.2.2.2.2.2.2.1,v2.2.2.2.2.2.1,v2.2.2.2.2.2.2.1,v2.2.2.2.2.2.2.2.1,v2.2.2.2.2.2.2.2.2.2.2) (by exact h)
attribute [local irreducible] zG8
def zao9(j1:(List aF)):Option (List aF):=
 some j1
def zap0(a0:aA)(v1:(List aF))(g1:Int×(List aF)):Option ((Int×(List aF))⊕(List aF)):=
 (if(decide (g1.1<(v1.length:Int)))=true then
  gd (0<=g1.1/\g1.1<(v1.length:Int))<|
  (zw2 a0 (v1.getD g1.1.toNat aF.zero)).bind λ v2=>
  (if v2=true then
   gd (g1.2.length+1<=4294967296)<|
   some (.inl ((i64.wrap (g1.1+1)),(g1.2++[(v1.getD g1.1.toNat aF.zero)])))
  else
   some (.inl ((i64.wrap (g1.1+1)),g1.2)))
 else
  some (.inr g1.2))
def zy0(a0:aA):Option (List aF):=
 (zr8 a0).bind λ v1=>
 (zg8 (zap0 a0 v1) (0,[])).bind (λ z=>zao9 z)
@[reducible,instance] def zdB3 a0 {T1:Type} (v1:T1):=mkJ (zy0 a0,v1) 0 (@zao9.eq_1) λ(j1:(List aF))=>⟨[(3,.own 0 0 j1.length)],[(0,sx j1)],1⟩
@[reducible,instance] def zdB4 (a0:aA) (v1:(List aF)) {T:Type} (x:T):=mkL x (@zap0.eq_1 a0 v1) λ(g1:Int×(List aF))=>⟨[(1,.ptr 0 0 0),(3,.own 1 0 g1.2.length),(7,la v1),(8,.int .i64 (v1.length:Int)),(9,.int .i64 g1.1)],[(0,bx a0),(1,sx g1.2)],2⟩
instance zbM5(a0:aA):OkP (zy0 a0) 76 [ga a0] (λ r=>la r):=ok1 (zy0.eq_1 a0) Tryz.f76 [(3,1)]
attribute [local irreducible] zy0
def zaC5(j1:(List aI)):Option (List aI):=
 some j1
def zL7(a0:aM)(a1:List aF)(g1:Int×(List aI)):Option ((Int×(List aI))⊕(List aI)):=
 (if(decide (g1.1<(a1.length:Int)))=true then
  gd (0<=g1.1/\g1.1<(a1.length:Int))<|
  (zp9 a0 (a1.getD g1.1.toNat aF.zero)).bind λ v1=>
  (zu2 v1.1).bind λ v2=>
  gd (g1.2.length+v2.length<=4294967296)<|
  some (.inl ((i64.wrap (g1.1+1)),(g1.2++v2)))
 else
  some (.inr g1.2))
def zy1(a0:aM)(a1:List aF):Option (List aI):=
 (zg8 (zL7 a0 a1) (0,[])).bind (λ z=>zaC5 z)
@[reducible,instance] def zdB5 a0 a1:=mkJ (zy1 a0 a1) 0 (@zaC5.eq_1) λ(j1:(List aI))=>⟨[(5,.own 0 0 j1.length)],[(0,sx j1)],1⟩
@[reducible,instance] def zdB6 (a0:aM) (a1:List aF) {T:Type} (x:T):=mkL x (@zL7.eq_1 a0 a1) λ(g1:Int×(List aI))=>⟨[(1,la a1),(2,.ptr 0 0 0),(5,.own 1 0 g1.2.length),(6,.int .i64 g1.1)],[(0,bx a0),(1,sx g1.2)],2⟩
instance zbl4(a0:aM)(a1:List aF):OkP (zy1 a0 a1) 14 [ga a0,la a1] (λ r=>la r):=ok1 (zy1.eq_1 a0 a1) Tryz.f14 [(5,1)]
attribute [local irreducible] zy1
def zX7(j1:ByteArray×Int×Int×Int×(List aW)×Int×(List bF)×(List aW)×(List aW)×(List aW)):Option (aC×(List bF)×Int×aC×(List bF)×(List aW)×(List aW)×(List aW)):=
 (zu1 (⟨(⟨j1.1,j1.2.1,j1.2.2.1,j1.2.2.2.1⟩:aG),j1.2.2.2.2.2.2.1,j1.2.2.2.2.2.2.2.1,j1.2.2.2.2.1,j1.2.2.2.2.2.1⟩:aC)).bind λ v1=>
 some ({v1.2 with gen:=(zy9 v1.2.gen)},v1.1,0,{v1.2 with gen:=(zy9 v1.2.gen)},j1.2.2.2.2.2.2.1,j1.2.2.2.2.2.2.2.1,j1.2.2.2.2.2.2.2.2.1,j1.2.2.2.2.2.2.2.2.2)
@[go_sem] def zcx3(j1:ByteArray×Int×Int×Int×(List aW)×Int×(List bF)×(List aW)×(List aW)×(List aW)):St:=⟨[(0,.ptr 0 0 0),(4,.ptr 6 0 0)],[(0,⟨false,8,aC.enc aC.zero,[[.str j1.1,.int .i64 j1.2.1,.int .i64 j1.2.2.1,.int .i64 j1.2.2.2.1,.own 2 0 j1.2.2.2.2.2.2.1.length,.own 3 0 j1.2.2.2.2.2.2.2.1.length,la j1.2.2.2.2.1,.int .i64 j1.2.2.2.2.2.1]]⟩),(1,⟨false,1,[A.clo zF2 []],[[.clo 266 [.ptr 5 0 0,.ptr 0 0 0]]]⟩),(2,sx j1.2.2.2.2.2.2.1),(3,sx j1.2.2.2.2.2.2.2.1),(4,sx j1.2.2.2.2.2.2.2.2.1),(5,⟨false,1,[A.sl ([].map aW.enc)],[[A.sl (j1.2.2.2.2.2.2.2.2.2.map aW.enc)]]⟩),(6,bx aC.zero)],7⟩
def zE4(a0:aC)(a1:List aW):Option (aC×(List bF)×Int×aC×(List bF)×(List aW)×(List aW)×(List aW)):=
 gd (0<=0/\0<(1:Int))<|
 (zh5 a1 a0).bind λ v2=>
 zX7 (v2.2.1,v2.2.2.1,v2.2.2.2.1,v2.2.2.2.2.1,v2.2.2.2.2.2.1,v2.2.2.2.2.2.2.1,v2.2.2.2.2.2.2.2.1,v2.2.2.2.2.2.2.2.2.1,v2.2.2.2.2.2.2.2.2.2,v2.1)
theorem zaO0(a0:aC)(a1:List aW)(r:aC×(List bF)×Int×aC×(List bF)×(List aW)×(List aW)×(List aW))(h:zE4 a0 a1=some r):MFn C 196 [.ptr 0 0 0,.own 1 0 1] [(0,⟨false,8,aC.enc aC.zero,[[.str a0.aQ.name,.int .i64 a0.aQ.kind,.int .i64 a0.aQ.bJ,.int .i64 a0.aQ.home,.own 2 0 a0.bR.length,.own 3 0 a0.aV.length,.own 4 0 a0.bO.length,.int .i64 a0.gen]]⟩),(1,⟨false,1,[A.clo zF2 []],[[.clo 266 [.ptr 5 0 0,.ptr 0 0 0]]]⟩),(2,sx a0.bR),(3,sx a0.aV),(4,sx a0.bO),(5,⟨false,1,[A.sl ([].map aW.enc)],[[A.sl (a1.map aW.enc)]]⟩)] 6 (.tup [ga r.1,la r.2.1,.int .i64 r.2.2.1]) [(0,bx r.2.2.2.1),(1,⟨false,1,[A.clo zF2 []],[[.clo 266 [.ptr 5 0 0,.ptr 0 0 0]]]⟩),(2,⟨true,5,bF.enc bF.zero,r.2.2.2.2.1.map bF.enc⟩),(3,⟨true,7,aW.enc aW.zero,r.2.2.2.2.2.1.map aW.enc⟩),(4,sx r.2.2.2.2.2.2.1),(5,⟨false,1,[A.sl ([].map aW.enc)],[[A.sl (r.2.2.2.2.2.2.2.map aW.enc)]]⟩)] 6:=by
 refine zK4 Tryz.f196 [(17,1)] [ga r.1,la r.2.1,.int .i64 r.2.2.1] λ E hG hN hK=>?_;unfold zE4 at h;refine za2 (za3 hG ?_);refine za2 (za2 (za3 hG ?_));refine zs5 zcx3 (λ v=>zX7 v=some r) ?_ ?_
 · intro j1 h
   unfold zX7 at h;refine g_st ?_;refine za2 ?_;refine g_gh (.fz [2,3]) ?_;refine za3 hG ?_;obtain⟨v1,hv1,h⟩:=zd2 h;refine zs2 [(0,0)] [] [0] (zJ7 _ _ hv1) rfl rfl ?_;refine za2 (za3 hG ?_);refine zn1 (λ hg=>(zP2 v1.2.gen).ok) ?_;refine za2 (za3 hG ?_);refine zo3 ?_;exact zw8 [(0,0),(1,1),(2,2),(3,3),(4,4),(5,5)] h
 refine zaz8 3 ?_;refine zY8 ?_;refine za2 (za3 hG ?_);refine za2 ?_;refine zU6 rfl hG ?_;refine zh0 ?_;refine za2 (zr6 (za2 ?_));obtain⟨hb1,h⟩:=ze5 h;refine za3 hG ?_;refine za3 hG ?_;obtain⟨v2,hv2,h⟩:=zd2 h;refine zs2 [(0,5),(1,0),(2,2),(3,3),(4,4)] [] [0,1,2,3,4] ((zaN3 a1 a0).ok _ hv2) rfl rfl ?_;refine za3 hG ?_;refine zY8 ?_;refine za2 (za3 hG ?_);refine za2 ?_;refine zaf1 rfl hG ?_;refine zv7 ?_;exact zs8 hK [(0,0),(1,1),(2,2),(3,3),(4,4),(5,5),(6,6)] (v2.2.1,v2.2.2.1,v2.2.2.2.1,v2.2.2.2.2.1,v2.2.2.2.2.2.1,v2.2.2.2.2.2.2.1,v2.2.2.2.2.2.2.2.1,v2.2.2.2.2.2.2.2.2.1,v2.2.2.2.2.2.2.2.2.2,v2.1) (by exact h)
attribute [local irreducible] zE4
def zX8(j1:aC×aF×aJ):Option (aC×(List bF)×Int×aC×aF×aJ):=
 (zu1 j1.1).bind λ v1=>
 some ({v1.2 with gen:=(zy9 v1.2.gen)},v1.1,0,{v1.2 with gen:=(zy9 v1.2.gen)},j1.2.1,j1.2.2)
@[go_sem] def zcx4(j1:aC×aF×aJ):St:=⟨[(0,.ptr 0 0 0),(4,.ptr 4 0 0)],[(0,bx j1.1),(1,⟨false,1,[A.clo zF2 []],[[.clo 230 [.ptr 0 0 0,.ptr 2 0 0,.ptr 3 0 0]]]⟩),(2,bx j1.2.1),(3,bx j1.2.2),(4,bx aC.zero)],5⟩
def zE5(a0:aC)(a1:aF)(a2:aJ):Option (aC×(List bF)×Int×aC×aF×aJ):=
 gd (0<=0/\0<(1:Int))<|
 (zp1 a0 a1 a2).bind λ v2=>
 zX8 (v2.1,v2.2.1,v2.2.2)
theorem zaO1(a0:aC)(a1:aF)(a2:aJ)(r:aC×(List bF)×Int×aC×aF×aJ)(h:zE5 a0 a1 a2=some r):MFn C 196 [.ptr 0 0 0,.own 1 0 1] [(0,bx a0),(1,⟨false,1,[A.clo zF2 []],[[.clo 230 [.ptr 0 0 0,.ptr 2 0 0,.ptr 3 0 0]]]⟩),(2,bx a1),(3,bx a2)] 4 (.tup [ga r.1,la r.2.1,.int .i64 r.2.2.1]) [(0,bx r.2.2.2.1),(1,⟨false,1,[A.clo zF2 []],[[.clo 230 [.ptr 0 0 0,.ptr 2 0 0,.ptr 3 0 0]]]⟩),(2,bx r.2.2.2.2.1),(3,bx r.2.2.2.2.2)] 4:=by
 refine zK4 Tryz.f196 [(17,1)] [ga r.1,la r.2.1,.int .i64 r.2.2.1] λ E hG hN hK=>?_;unfold zE5 at h;refine za2 (za3 hG ?_);refine za2 (za2 (za3 hG ?_));refine zs5 zcx4 (λ v=>zX8 v=some r) ?_ ?_
 · intro j1 h
   unfold zX8 at h;refine g_st ?_;refine za2 (za3 hG ?_);obtain⟨v1,hv1,h⟩:=zd2 h;refine zs2 [(0,0)] [] [0] (zJ7 _ _ hv1) rfl rfl ?_;refine za2 (za3 hG ?_);refine zn1 (λ hg=>(zP2 v1.2.gen).ok) ?_;refine za2 (za3 hG ?_);refine zo3 ?_;exact zw8 [(0,0),(1,1),(2,2),(3,3)] h
 refine zaz8 3 ?_;refine zY8 ?_;refine za2 (za3 hG ?_);refine za2 ?_;refine zU6 rfl hG ?_;refine zh0 ?_;refine za2 (zr6 (za2 ?_));obtain⟨hb1,h⟩:=ze5 h;refine za3 hG ?_;refine za3 hG ?_;obtain⟨v2,hv2,h⟩:=zd2 h;refine zs2 [(0,0),(1,2),(2,3)] [] [0,1,2] ((zaN6 a0 a1 a2).ok _ hv2) rfl rfl ?_;refine za3 hG ?_;refine zY8 ?_;refine za2 (za3 hG ?_);refine za2 ?_;refine zaf1 rfl hG ?_;refine zv7 ?_;exact zs8 hK [(0,0),(1,1),(2,2),(3,3),(4,4)] (v2.1,v2.2.1,v2.2.2) (by exact h)
attribute [local irreducible] zE5
def zz7(a0:aC):Option Bool:=
 (zB8 a0).bind λ v1=>
 some v1
instance zah3(a0:aC):OkP (zz7 a0) 74 [ga a0] (λ r=>.bool r):=ok1 (zz7.eq_1 a0) Tryz.f74 []
attribute [local irreducible] zz7
def zX9(j1:aC×aF):Option (aC×(List bF)×Int×aC×aF):=
 (zu1 j1.1).bind λ v1=>
 some ({v1.2 with gen:=(zy9 v1.2.gen)},v1.1,0,{v1.2 with gen:=(zy9 v1.2.gen)},j1.2)
@[go_sem] def zcx5(j1:aC×aF):St:=⟨[(0,.ptr 0 0 0),(4,.ptr 3 0 0)],[(0,bx j1.1),(1,⟨false,1,[A.clo zF2 []],[[.clo 197 [.ptr 0 0 0,.ptr 2 0 0]],[.clo 199 [.ptr 0 0 0,.ptr 2 0 0]],[.clo 201 [.ptr 0 0 0,.ptr 2 0 0]]]⟩),(2,bx j1.2),(3,bx aC.zero)],4⟩
def zE6(a0:aC)(a1:aF):Option (aC×(List bF)×Int×aC×aF):=
 gd (0<=0/\0<(3:Int))<|
 (zo0 a0 a1).bind λ v2=>
 gd (0<=1/\1<(3:Int))<|
 (zh9 v2.1 v2.2).bind λ v3=>
 gd (0<=2/\2<(3:Int))<|
 (zj0 v3.1 v3.2).bind λ v4=>
 zX9 (v4.1,v4.2)
theorem zaO2(a0:aC)(a1:aF)(r:aC×(List bF)×Int×aC×aF)(h:zE6 a0 a1=some r):MFn C 196 [.ptr 0 0 0,.own 1 0 3] [(0,bx a0),(1,⟨false,1,[A.clo zF2 []],[[.clo 197 [.ptr 0 0 0,.ptr 2 0 0]],[.clo 199 [.ptr 0 0 0,.ptr 2 0 0]],[.clo 201 [.ptr 0 0 0,.ptr 2 0 0]]]⟩),(2,bx a1)] 3 (.tup [ga r.1,la r.2.1,.int .i64 r.2.2.1]) [(0,bx r.2.2.2.1),(1,⟨false,1,[A.clo zF2 []],[[.clo 197 [.ptr 0 0 0,.ptr 2 0 0]],[.clo 199 [.ptr 0 0 0,.ptr 2 0 0]],[.clo 201 [.ptr 0 0 0,.ptr 2 0 0]]]⟩),(2,bx r.2.2.2.2)] 3:=by
 refine zK4 Tryz.f196 [(17,1)] [ga r.1,la r.2.1,.int .i64 r.2.2.1] λ E hG hN hK=>?_;unfold zE6 at h;refine za2 (za3 hG ?_);refine za2 (za2 (za3 hG ?_));refine zs5 zcx5 (λ v=>zX9 v=some r) ?_ ?_
 · intro j1 h
   unfold zX9 at h;refine g_st ?_;refine za2 (za3 hG ?_);obtain⟨v1,hv1,h⟩:=zd2 h;refine zs2 [(0,0)] [] [0] (zJ7 _ _ hv1) rfl rfl ?_;refine za2 (za3 hG ?_);refine zn1 (λ hg=>(zP2 v1.2.gen).ok) ?_;refine za2 (za3 hG ?_);refine zo3 ?_;exact zw8 [(0,0),(1,1),(2,2)] h
 refine zaz8 5 ?_;refine zY8 ?_;refine za2 (za3 hG ?_);refine za2 ?_;refine zU6 rfl hG ?_;refine zh0 ?_;refine za2 (zr6 (za2 ?_));obtain⟨hb3,h⟩:=ze5 h;refine za3 hG ?_;refine za3 hG ?_;obtain⟨v2,hv2,h⟩:=zd2 h;refine zs2 [(0,0),(1,2)] [] [0,1] ((zaL7 a0 a1).ok _ hv2) rfl rfl ?_;refine za3 hG ?_;refine zY8 ?_;refine za2 (za3 hG ?_);refine za2 ?_;refine zU6 rfl hG ?_;refine zh0 ?_;refine za2 (zr6 (za2 ?_));obtain⟨hb2,h⟩:=ze5 h;refine za3 hG ?_;refine za3 hG ?_;obtain⟨v3,hv3,h⟩:=zd2 h;refine zs2 [(0,0),(1,2)] [] [0,1] ((zaK8 v2.1 v2.2).ok _ hv3) rfl rfl ?_;refine za3 hG ?_;refine zY8 ?_;refine za2 (za3 hG ?_);refine za2 ?_;refine zU6 rfl hG ?_;refine zh0 ?_;refine za2 (zr6 (za2 ?_));obtain⟨hb1,h⟩:=ze5 h;refine za3 hG ?_;refine za3 hG ?_;obtain⟨v4,hv4,h⟩:=zd2 h;refine zs2 [(0,0),(1,2)] [] [0,1] ((zaL0 v3.1 v3.2).ok _ hv4) rfl rfl ?_;refine za3 hG ?_;refine zY8 ?_;refine za2 (za3 hG ?_);refine za2 ?_;refine zaf1 rfl hG ?_;refine zv7 ?_;exact zs8 hK [(0,0),(1,1),(2,2),(3,3)] (v4.1,v4.2) (by exact h)
attribute [local irreducible] zE6
def zY0(j1:aC×aF):Option (aC×(List bF)×Int×aC×aF):=
 (zu1 j1.1).bind λ v1=>
 some ({v1.2 with gen:=(zy9 v1.2.gen)},v1.1,0,{v1.2 with gen:=(zy9 v1.2.gen)},j1.2)
@[go_sem] def zcx6(j1:aC×aF):St:=⟨[(0,.ptr 0 0 0),(4,.ptr 3 0 0)],[(0,bx j1.1),(1,⟨false,1,[A.clo zF2 []],[[.clo 224 [.ptr 0 0 0,.ptr 2 0 0]],[.clo 225 [.ptr 0 0 0,.ptr 2 0 0]]]⟩),(2,bx j1.2),(3,bx aC.zero)],4⟩
def zE7(a0:aC)(a1:aF):Option (aC×(List bF)×Int×aC×aF):=
 gd (0<=0/\0<(2:Int))<|
 (zi1 a0 a1).bind λ v2=>
 gd (0<=1/\1<(2:Int))<|
 (zi0 v2.1 v2.2).bind λ v3=>
 zY0 (v3.1,v3.2)
theorem zaO3(a0:aC)(a1:aF)(r:aC×(List bF)×Int×aC×aF)(h:zE7 a0 a1=some r):MFn C 196 [.ptr 0 0 0,.own 1 0 2] [(0,bx a0),(1,⟨false,1,[A.clo zF2 []],[[.clo 224 [.ptr 0 0 0,.ptr 2 0 0]],[.clo 225 [.ptr 0 0 0,.ptr 2 0 0]]]⟩),(2,bx a1)] 3 (.tup [ga r.1,la r.2.1,.int .i64 r.2.2.1]) [(0,bx r.2.2.2.1),(1,⟨false,1,[A.clo zF2 []],[[.clo 224 [.ptr 0 0 0,.ptr 2 0 0]],[.clo 225 [.ptr 0 0 0,.ptr 2 0 0]]]⟩),(2,bx r.2.2.2.2)] 3:=by
 refine zK4 Tryz.f196 [(17,1)] [ga r.1,la r.2.1,.int .i64 r.2.2.1] λ E hG hN hK=>?_;unfold zE7 at h;refine za2 (za3 hG ?_);refine za2 (za2 (za3 hG ?_));refine zs5 zcx6 (λ v=>zY0 v=some r) ?_ ?_
 · intro j1 h
   unfold zY0 at h;refine g_st ?_;refine za2 (za3 hG ?_);obtain⟨v1,hv1,h⟩:=zd2 h;refine zs2 [(0,0)] [] [0] (zJ7 _ _ hv1) rfl rfl ?_;refine za2 (za3 hG ?_);refine zn1 (λ hg=>(zP2 v1.2.gen).ok) ?_;refine za2 (za3 hG ?_);refine zo3 ?_;exact zw8 [(0,0),(1,1),(2,2)] h
 refine zaz8 4 ?_;refine zY8 ?_;refine za2 (za3 hG ?_);refine za2 ?_;refine zU6 rfl hG ?_;refine zh0 ?_;refine za2 (zr6 (za2 ?_));obtain⟨hb2,h⟩:=ze5 h;refine za3 hG ?_;refine za3 hG ?_;obtain⟨v2,hv2,h⟩:=zd2 h;refine zs2 [(0,0),(1,2)] [] [0,1] ((zaL1 a0 a1).ok _ hv2) rfl rfl ?_;refine za3 hG ?_;refine zY8 ?_;refine za2 (za3 hG ?_);refine za2 ?_;refine zU6 rfl hG ?_;refine zh0 ?_;refine za2 (zr6 (za2 ?_));obtain⟨hb1,h⟩:=ze5 h;refine za3 hG ?_;refine za3 hG ?_;obtain⟨v3,hv3,h⟩:=zd2 h;refine zs2 [(0,0),(1,2)] [] [0,1] ((zaK9 v2.1 v2.2).ok _ hv3) rfl rfl ?_;refine za3 hG ?_;refine zY8 ?_;refine za2 (za3 hG ?_);refine za2 ?_;refine zaf1 rfl hG ?_;refine zv7 ?_;exact zs8 hK [(0,0),(1,1),(2,2),(3,3)] (v3.1,v3.2) (by exact h)
attribute [local irreducible] zE7
end
end Ab
end Go.Proofs.YtamndckemppjdaaGreatDoor
