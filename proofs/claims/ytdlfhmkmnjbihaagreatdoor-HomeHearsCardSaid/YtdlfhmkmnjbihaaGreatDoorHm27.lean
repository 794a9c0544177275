import Derived.Test.YtdlfhmkmnjbihaaGreatDoorHm26
import Derived.Test.YtdlfhmkmnjbihaaGreatDoorHm24
import Derived.Test.YtdlfhmkmnjbihaaGreatDoorHm16
namespace Go.Proofs.YtdlfhmkmnjbihaaGreatDoor
namespace Ab
open IntKind (i64 u64 u8)
set_option linter.unusedSimpArgs false
set_option linter.defProp false
set_option linter.unusedVariables false
set_option maxRecDepth 100000
set_option maxHeartbeats 1000000
noncomputable section
attribute [local irreducible] zl5 zj8 zl7 zd1 zg5 zi1 zf5 zm6 zl8 zk4 ze1 ze6 zn5 zd4 zo3 za2 zg8 zg6 za5 zf6 ze4 zg3 zd7 zn0 zc9 zc6 zp8 zh0 zf7 zl6 zd5 zb1 ze0 zd6 za4 zj9 ze5 zh4 zd2 zb3 zf9 zd8 za8 zc3 ze2 zb9 zb2 zk9 za6 zc8 zd3 zk3 zf8 zd9 zk6 zi5 zq5 zc4 za9 ze7 zi3 zg0 zn1 zb7 zq4 zl4 zf1 zb6 zl1 ze8 zk7 zn7 zf2 zl0 zk0 zn8 ze9 zi6 zp3 zj5 zj0 zh2 zi7 zm7 zc5 zg1 zk1 zj1 za7 ze3 zf0 zo7 zm3 zo8 zm4 zo9 zj6 zf4 zm0 zc7 zg2 zr1 zt3 zp4 zf3 zj2 zk2 zr2 zq0 zg7 zj7 zh8 zi2 zj3 zu9 zh6 zm1 zn2 zv0 zj4 zs0 zo6 zt9 zm2 zs3 zn3 zs4 zr4 zr0 zv4 zq2 zn4 zt0 zm5 zl2 zr5 zq3 zr6 zo2 zb5 zi8 zo4 zn9 zg9 zr7 zs6 zw3 zu6 zz3 zq8 zo0 zs1 zt5 zu1 zr9 zp7 zw8 zu7 zw9 zB1 zo5 zq6 zv6 zv7 zA8 zx0 zx5 zB0 zH8
def zC8(a0:aD)(a1:List aT)(a2:aF)(a3:aC):Option Bool:=
 (zx5 a0 a1 a2 a3).bind λ v1=>
 ((if v1=true then zm4 a1 a2 a3 else some [])).bind λ v2=>
 ((if v1=true then zq8 a0 v2 else some false)).bind λ v3=>
 some (v1&&v3)
instance zbT9(a0:aD)(a1:List aT)(a2:aF)(a3:aC):OkP (zC8 a0 a1 a2 a3) 181 [ga a0,la a1,ga a2,ga a3] (λ r=>.bool r):=ok1 (zC8.eq_1 a0 a1 a2 a3) Tryz.f181 []
attribute [local irreducible] zC8
def zD3(a0:aA):Option Bool:=
 (zA8 a0).bind λ v1=>
 (if(!v1)=true then
  some false
 else
  (zl6 a0).bind λ v2=>
  ((if v2.2=true then zC8 a0.aB a0.aL v2.1.aI v2.1.aJ else some false)).bind λ v3=>
  some ((!v2.2)||(!v3)))
instance zdj8(a0:aA):OkP (zD3 a0) 131 [ga a0] (λ r=>.bool r):=ok1 (zD3.eq_1 a0) Tryz.f131 []
attribute [local irreducible] zD3
def zy5(a0:aA):Option Bool:=
 (zD3 a0).bind λ v1=>
 some v1
instance zaB8(a0:aA):OkP (zy5 a0) 79 [ga a0] (λ r=>.bool r):=ok1 (zy5.eq_1 a0) Tryz.f79 []
attribute [local irreducible] zy5
def zan7(j1:aA×(List aT)):Option ((List aT)×aA):=
 some (j1.2,j1.1)
@[go_sem] def zdX1(j1:aA×(List aT)):St:=⟨[(3,.own 1 0 j1.2.length)],[(0,bx j1.1),(1,sx j1.2)],2⟩
def zH9(g1:aA×(List aT))(v1:aM×Bool)(j2:aA):Option ((aA×(List aT))⊕(aA×(List aT))):=
 (zm4 j2.aL v1.1.aI v1.1.aJ).bind λ v2=>
 gd (g1.2.length+1<=4294967296)<|
 some (.inl ({j2 with aL:=v2},(g1.2++[(⟨v1.1.aI,v1.1.aJ⟩:aT)])))
@[go_sem] def zdX2(g1:aA×(List aT))(v1:aM×Bool)(j2:aA):St:=⟨[(0,.ptr 0 0 0),(3,.own 1 0 g1.2.length),(4,.ptr 2 0 0)],[(0,bx j2),(1,sx g1.2),(2,bx v1.1)],3⟩
def zO6(g1:aA×(List aT)):Option ((aA×(List aT))⊕(aA×(List aT))):=
 (zl6 g1.1).bind λ v1=>
 ((if v1.2=true then zC8 g1.1.aB g1.1.aL v1.1.aI v1.1.aJ else some false)).bind λ v3=>
 (if((!v1.2)||(!v3))=true then
  some (.inr (g1.1,g1.2))
 else
  (if(decide (0<(g1.1.aH.length:Int)))=true then
   gd (0<=1/\1<=(g1.1.aH.length:Int)/\(g1.1.aH.length:Int)<=(g1.1.aH.length:Int))<|
   zH9 g1 v1 ({g1.1 with aH:=(g1.1.aH.drop 1)})
  else
   gd (0<=1/\1<=(g1.1.aU.length:Int)/\(g1.1.aU.length:Int)<=(g1.1.aU.length:Int))<|
   zH9 g1 v1 ({g1.1 with aU:=(g1.1.aU.drop 1)})))
@[go_sem] def zdX3(g1:aA×(List aT)):St:=⟨[(0,.ptr 0 0 0),(3,.own 1 0 g1.2.length)],[(0,bx g1.1),(1,sx g1.2)],2⟩
def zt6(a0:aA):Option ((List aT)×aA):=
 (zc1 zO6 (a0,[])).bind (λ z=>zan7 z)
theorem zR9(a0:aA)(r:(List aT)×aA)(h:zt6 a0=some r):MFn C 257 [.ptr 0 0 0] [(0,bx a0)] 1 (la r.1) [(0,bx r.2)] 1:=by
 refine zU4 Tryz.f257 [(3,1)] [la r.1] λ E hG hN hK=>?_;unfold zt6 at h;refine za0 (za1 hG ?_);refine zcE7 ?_;refine za0 (za1 hG ?_);refine za0 ?_;refine zda9 ?_;refine za0 ?_;refine zB7 zdX1 (λ v=>zan7 v=some r) ?_ ?_
 · intro j1 h
   unfold zan7 at h;refine g_st ?_;refine za0 (za1 hG ?_);refine g_gh (.fz [1]) ?_;refine zm8 ?_;exact zx8 [(0,0)] h
 refine zat4 zdX3 hK [(0,0),(1,1)] h (λ x_l1 h g1 y_l1 h_l1 hx_l1=>?_);unfold zO6 at h_l1;refine g_st ?_;refine zy9 (za0 (za1 hG ?_));obtain⟨v1,hv1,h_l1⟩:=zd0 h_l1;refine zr3 (λ hg=>(zcn3 g1.1).ok _ hv1) ?_;refine za0 ?_;refine zB7 (zdX2 g1 v1) (λ v=>zH9 g1 v1 v=some y_l1) ?_ ?_
 · intro j2 h_l1
   unfold zH9 at h_l1;refine g_st ?_;refine za0 (zaE3 zK6 hG ?_);obtain⟨v2,hv2,h_l1⟩:=zd0 h_l1;refine zS0 (λ hg=>zbm7 _ _ _ _ hv2) ?_;obtain⟨hb1,h_l1⟩:=zg4 h_l1;refine za1 hG ?_;exact zU3 hK [(0,0),(1,3)] h_l1
 refine za0 (zby9 zK6 hG ?_);obtain⟨v3,hv3,h_l1⟩:=zd0 h_l1;refine zaA1 (λ hg=>(zbT9 g1.1.aB g1.1.aL v1.1.aI v1.1.aJ).ok _ (zbw6 hg hv3)) ?_;refine zh9 rfl hG h_l1 (λ _ h_l1=>?_) (λ _ h_l1=>?_)
 · refine zE5 ?_
   cases h_l1;cases hx_l1 _ rfl;exact zv9 hK [(0,0),(1,1)] (g1.1,g1.2) (by exact h)
 refine za0 (za1 hG ?_);refine zh9 rfl hG h_l1 (λ _ h_l1=>?_) (λ _ h_l1=>?_)
 · obtain⟨hb2,h_l1⟩:=zg4 h_l1
   refine za1 hG ?_;exact zv9 hK [(0,0),(1,1),(2,2)] ({g1.1 with aH:=(g1.1.aH.drop 1)}) (by exact h_l1)
 obtain⟨hb3,h_l1⟩:=zg4 h_l1;refine za1 hG ?_;exact zv9 hK [(0,0),(1,1),(2,2)] ({g1.1 with aU:=(g1.1.aU.drop 1)}) (by exact h_l1)
attribute [local irreducible] zt6
def zac7(j1:ByteArray×Int×Int×Int×Int×(List aT)×(List aM)×aC×aC×aF×(List aM)):Option (aA×(List aT)×Int×aA×(List aT)×(List aM)×aC×aC×aF):=
 (zt6 (⟨(⟨j1.1,j1.2.1,j1.2.2.1,j1.2.2.2.1⟩:aD),j1.2.2.2.2.2.1,j1.2.2.2.2.2.2.2.2.2.2,j1.2.2.2.2.2.2.1,j1.2.2.2.2.1⟩:aA)).bind λ v1=>
 some ({v1.2 with gen:=(zw6 v1.2.gen)},v1.1,0,{v1.2 with gen:=(zw6 v1.2.gen)},j1.2.2.2.2.2.1,j1.2.2.2.2.2.2.1,j1.2.2.2.2.2.2.2.1,j1.2.2.2.2.2.2.2.2.1,j1.2.2.2.2.2.2.2.2.2.1)
@[go_sem] def zdX4(j1:ByteArray×Int×Int×Int×Int×(List aT)×(List aM)×aC×aC×aF×(List aM)):St:=⟨[(0,.ptr 0 0 0),(4,.ptr 8 0 0)],[(0,⟨false,8,aA.enc aA.zero,[[.str j1.1,.int .i64 j1.2.1,.int .i64 j1.2.2.1,.int .i64 j1.2.2.2.1,.own 2 0 j1.2.2.2.2.2.1.length,.own 9 0 j1.2.2.2.2.2.2.2.2.2.2.length,.own 4 0 j1.2.2.2.2.2.2.1.length,.int .i64 j1.2.2.2.2.1]]⟩),(1,⟨false,1,[A.clo zak5 []],[[.clo 206 [.ptr 0 0 0,.ptr 5 0 0,.ptr 6 0 0,.ptr 7 0 0]]]⟩),(2,sx j1.2.2.2.2.2.1),(4,sx j1.2.2.2.2.2.2.1),(5,bx j1.2.2.2.2.2.2.2.1),(6,bx j1.2.2.2.2.2.2.2.2.1),(7,bx j1.2.2.2.2.2.2.2.2.2.1),(8,bx aA.zero),(9,sx j1.2.2.2.2.2.2.2.2.2.2)],10⟩
def zE1(a0:aA)(a1 a2:aC)(a3:aF):Option (aA×(List aT)×Int×aA×(List aT)×(List aM)×aC×aC×aF):=
 gd (0<=0/\0<(1:Int))<|
 (zs1 a0 a1 a2 a3).bind λ v2=>
 zac7 (v2.1,v2.2.1,v2.2.2.1,v2.2.2.2.1,v2.2.2.2.2.1,v2.2.2.2.2.2.2.2.2.1,v2.2.2.2.2.2.2.2.2.2.1,v2.2.2.2.2.2.1,v2.2.2.2.2.2.2.1,v2.2.2.2.2.2.2.2.1,v2.2.2.2.2.2.2.2.2.2.2)
theorem zbA1(a0:aA)(a1 a2:aC)(a3:aF)(r:aA×(List aT)×Int×aA×(List aT)×(List aM)×aC×aC×aF)(h:zE1 a0 a1 a2 a3=some r):MFn C 205 [.ptr 0 0 0,.own 1 0 1] [(0,⟨false,8,aA.enc aA.zero,[[.str a0.aB.name,.int .i64 a0.aB.kind,.int .i64 a0.aB.aV,.int .i64 a0.aB.home,.own 2 0 a0.aL.length,.own 3 0 a0.aH.length,.own 4 0 a0.aU.length,.int .i64 a0.gen]]⟩),(1,⟨false,1,[A.clo zak5 []],[[.clo 206 [.ptr 0 0 0,.ptr 5 0 0,.ptr 6 0 0,.ptr 7 0 0]]]⟩),(2,sx a0.aL),(3,sx a0.aH),(4,sx a0.aU),(5,bx a1),(6,bx a2),(7,bx a3)] 8 (.tup [ga r.1,la r.2.1,.int .i64 r.2.2.1]) [(0,bx r.2.2.2.1),(1,⟨false,1,[A.clo zak5 []],[[.clo 206 [.ptr 0 0 0,.ptr 5 0 0,.ptr 6 0 0,.ptr 7 0 0]]]⟩),(2,⟨true,5,aT.enc aT.zero,r.2.2.2.2.1.map aT.enc⟩),(4,⟨true,7,aM.enc aM.zero,r.2.2.2.2.2.1.map aM.enc⟩),(5,bx r.2.2.2.2.2.2.1),(6,bx r.2.2.2.2.2.2.2.1),(7,bx r.2.2.2.2.2.2.2.2)] 8:=by
 refine zU4 Tryz.f205 [(17,1)] [ga r.1,la r.2.1,.int .i64 r.2.2.1] λ E hG hN hK=>?_;unfold zE1 at h;refine za0 (za1 hG ?_);refine za0 (za0 (za1 hG ?_));refine zB7 zdX4 (λ v=>zac7 v=some r) ?_ ?_
 · intro j1 h
   unfold zac7 at h;refine g_st ?_;refine za0 ?_;refine g_gh (.fz [2,4,9]) ?_;refine za1 hG ?_;obtain⟨v1,hv1,h⟩:=zd0 h;refine zs8 [(0,0)] [] [0] (zR9 _ _ hv1) rfl rfl ?_;refine za0 (za1 hG ?_);refine zr3 (λ hg=>(zau2 v1.2.gen).ok) ?_;refine za0 (za1 hG ?_);refine zm8 ?_;exact zx8 [(0,0),(1,1),(2,2),(3,3),(4,4),(5,5),(6,6),(7,7)] h
 refine zaZ3 3 ?_;refine zap9 ?_;refine za0 (za1 hG ?_);refine za0 ?_;refine zac1 rfl hG ?_;refine zh7 ?_;refine za0 (zy9 (za0 ?_));obtain⟨hb1,h⟩:=zg4 h;refine za1 hG ?_;refine za1 hG ?_;obtain⟨v2,hv2,h⟩:=zd0 h;refine zs8 [(0,0),(1,5),(2,6),(3,7),(4,2),(5,3),(6,4)] [(7,9)] [0,1,2,3,4,5,6,7] ((zbv2 a0 a1 a2 a3).ok _ hv2) rfl rfl ?_;refine za1 hG ?_;refine zap9 ?_;refine za0 (za1 hG ?_);refine za0 ?_;refine zaH9 rfl hG ?_;refine zE5 ?_;exact zv9 hK [(0,0),(1,1),(2,2),(3,3),(4,4),(5,5),(6,6),(7,7),(8,8),(9,9)] (v2.1,v2.2.1,v2.2.2.1,v2.2.2.2.1,v2.2.2.2.2.1,v2.2.2.2.2.2.2.2.2.1,v2.2.2.2.2.2.2.2.2.2.1,v2.2.2.2.2.2.1,v2.2.2.2.2.2.2.1,v2.2.2.2.2.2.2.2.1,v2.2.2.2.2.2.2.2.2.2.2) (by exact h)
attribute [local irreducible] zE1
def zZ5(j1:ByteArray×Int×Int×Int×(List aM)×Int×(List aT)×(List aM)×(List aM)×(List aM)):Option (aA×(List aT)×Int×aA×(List aT)×(List aM)×(List aM)×(List aM)):=
 (zt6 (⟨(⟨j1.1,j1.2.1,j1.2.2.1,j1.2.2.2.1⟩:aD),j1.2.2.2.2.2.2.1,j1.2.2.2.2.2.2.2.1,j1.2.2.2.2.1,j1.2.2.2.2.2.1⟩:aA)).bind λ v1=>
 some ({v1.2 with gen:=(zw6 v1.2.gen)},v1.1,0,{v1.2 with gen:=(zw6 v1.2.gen)},j1.2.2.2.2.2.2.1,j1.2.2.2.2.2.2.2.1,j1.2.2.2.2.2.2.2.2.1,j1.2.2.2.2.2.2.2.2.2)
@[go_sem] def zdX5(j1:ByteArray×Int×Int×Int×(List aM)×Int×(List aT)×(List aM)×(List aM)×(List aM)):St:=⟨[(0,.ptr 0 0 0),(4,.ptr 6 0 0)],[(0,⟨false,8,aA.enc aA.zero,[[.str j1.1,.int .i64 j1.2.1,.int .i64 j1.2.2.1,.int .i64 j1.2.2.2.1,.own 2 0 j1.2.2.2.2.2.2.1.length,.own 3 0 j1.2.2.2.2.2.2.2.1.length,la j1.2.2.2.2.1,.int .i64 j1.2.2.2.2.2.1]]⟩),(1,⟨false,1,[A.clo zak5 []],[[.clo 209 [.ptr 5 0 0,.ptr 0 0 0]]]⟩),(2,sx j1.2.2.2.2.2.2.1),(3,sx j1.2.2.2.2.2.2.2.1),(4,sx j1.2.2.2.2.2.2.2.2.1),(5,⟨false,1,[A.sl ([].map aM.enc)],[[A.sl (j1.2.2.2.2.2.2.2.2.2.map aM.enc)]]⟩),(6,bx aA.zero)],7⟩
def zB8(a0:aA)(a1:List aM):Option (aA×(List aT)×Int×aA×(List aT)×(List aM)×(List aM)×(List aM)):=
 gd (0<=0/\0<(1:Int))<|
 (ze0 a1 a0).bind λ v2=>
 zZ5 (v2.2.1,v2.2.2.1,v2.2.2.2.1,v2.2.2.2.2.1,v2.2.2.2.2.2.1,v2.2.2.2.2.2.2.1,v2.2.2.2.2.2.2.2.1,v2.2.2.2.2.2.2.2.2.1,v2.2.2.2.2.2.2.2.2.2,v2.1)
theorem zbv3(a0:aA)(a1:List aM)(r:aA×(List aT)×Int×aA×(List aT)×(List aM)×(List aM)×(List aM))(h:zB8 a0 a1=some r):MFn C 205 [.ptr 0 0 0,.own 1 0 1] [(0,⟨false,8,aA.enc aA.zero,[[.str a0.aB.name,.int .i64 a0.aB.kind,.int .i64 a0.aB.aV,.int .i64 a0.aB.home,.own 2 0 a0.aL.length,.own 3 0 a0.aH.length,.own 4 0 a0.aU.length,.int .i64 a0.gen]]⟩),(1,⟨false,1,[A.clo zak5 []],[[.clo 209 [.ptr 5 0 0,.ptr 0 0 0]]]⟩),(2,sx a0.aL),(3,sx a0.aH),(4,sx a0.aU),(5,⟨false,1,[A.sl ([].map aM.enc)],[[A.sl (a1.map aM.enc)]]⟩)] 6 (.tup [ga r.1,la r.2.1,.int .i64 r.2.2.1]) [(0,bx r.2.2.2.1),(1,⟨false,1,[A.clo zak5 []],[[.clo 209 [.ptr 5 0 0,.ptr 0 0 0]]]⟩),(2,⟨true,5,aT.enc aT.zero,r.2.2.2.2.1.map aT.enc⟩),(3,⟨true,7,aM.enc aM.zero,r.2.2.2.2.2.1.map aM.enc⟩),(4,sx r.2.2.2.2.2.2.1),(5,⟨false,1,[A.sl ([].map aM.enc)],[[A.sl (r.2.2.2.2.2.2.2.map aM.enc)]]⟩)] 6:=by
 refine zU4 Tryz.f205 [(17,1)] [ga r.1,la r.2.1,.int .i64 r.2.2.1] λ E hG hN hK=>?_;unfold zB8 at h;refine za0 (za1 hG ?_);refine za0 (za0 (za1 hG ?_));refine zB7 zdX5 (λ v=>zZ5 v=some r) ?_ ?_
 · intro j1 h
   unfold zZ5 at h;refine g_st ?_;refine za0 ?_;refine g_gh (.fz [2,3]) ?_;refine za1 hG ?_;obtain⟨v1,hv1,h⟩:=zd0 h;refine zs8 [(0,0)] [] [0] (zR9 _ _ hv1) rfl rfl ?_;refine za0 (za1 hG ?_);refine zr3 (λ hg=>(zau2 v1.2.gen).ok) ?_;refine za0 (za1 hG ?_);refine zm8 ?_;exact zx8 [(0,0),(1,1),(2,2),(3,3),(4,4),(5,5)] h
 refine zaZ3 3 ?_;refine zap9 ?_;refine za0 (za1 hG ?_);refine za0 ?_;refine zac1 rfl hG ?_;refine zh7 ?_;refine za0 (zy9 (za0 ?_));obtain⟨hb1,h⟩:=zg4 h;refine za1 hG ?_;refine za1 hG ?_;obtain⟨v2,hv2,h⟩:=zd0 h;refine zs8 [(0,5),(1,0),(2,2),(3,3),(4,4)] [] [0,1,2,3,4] ((zbu4 a1 a0).ok _ hv2) rfl rfl ?_;refine za1 hG ?_;refine zap9 ?_;refine za0 (za1 hG ?_);refine za0 ?_;refine zaH9 rfl hG ?_;refine zE5 ?_;exact zv9 hK [(0,0),(1,1),(2,2),(3,3),(4,4),(5,5),(6,6)] (v2.2.1,v2.2.2.1,v2.2.2.2.1,v2.2.2.2.2.1,v2.2.2.2.2.2.1,v2.2.2.2.2.2.2.1,v2.2.2.2.2.2.2.2.1,v2.2.2.2.2.2.2.2.2.1,v2.2.2.2.2.2.2.2.2.2,v2.1) (by exact h)
attribute [local irreducible] zB8
def zZ6(j1:aA×aF):Option (aA×(List aT)×Int×aA×aF):=
 (zt6 j1.1).bind λ v1=>
 some ({v1.2 with gen:=(zw6 v1.2.gen)},v1.1,0,{v1.2 with gen:=(zw6 v1.2.gen)},j1.2)
@[go_sem] def zdX6(j1:aA×aF):St:=⟨[(0,.ptr 0 0 0),(4,.ptr 3 0 0)],[(0,bx j1.1),(1,⟨false,1,[A.clo zak5 []],[[.clo 210 [.ptr 0 0 0,.ptr 2 0 0]],[.clo 212 [.ptr 0 0 0,.ptr 2 0 0]]]⟩),(2,bx j1.2),(3,bx aA.zero)],4⟩
def zB9(a0:aA)(a1:aF):Option (aA×(List aT)×Int×aA×aF):=
 gd (0<=0/\0<(2:Int))<|
 (ze7 a0 a1).bind λ v2=>
 gd (0<=1/\1<(2:Int))<|
 (ze9 v2.1 v2.2).bind λ v3=>
 zZ6 (v3.1,v3.2)
theorem zbv4(a0:aA)(a1:aF)(r:aA×(List aT)×Int×aA×aF)(h:zB9 a0 a1=some r):MFn C 205 [.ptr 0 0 0,.own 1 0 2] [(0,bx a0),(1,⟨false,1,[A.clo zak5 []],[[.clo 210 [.ptr 0 0 0,.ptr 2 0 0]],[.clo 212 [.ptr 0 0 0,.ptr 2 0 0]]]⟩),(2,bx a1)] 3 (.tup [ga r.1,la r.2.1,.int .i64 r.2.2.1]) [(0,bx r.2.2.2.1),(1,⟨false,1,[A.clo zak5 []],[[.clo 210 [.ptr 0 0 0,.ptr 2 0 0]],[.clo 212 [.ptr 0 0 0,.ptr 2 0 0]]]⟩),(2,bx r.2.2.2.2)] 3:=by
 refine zU4 Tryz.f205 [(17,1)] [ga r.1,la r.2.1,.int .i64 r.2.2.1] λ E hG hN hK=>?_;unfold zB9 at h;refine za0 (za1 hG ?_);refine za0 (za0 (za1 hG ?_));refine zB7 zdX6 (λ v=>zZ6 v=some r) ?_ ?_
 · intro j1 h
   unfold zZ6 at h;refine g_st ?_;refine za0 (za1 hG ?_);obtain⟨v1,hv1,h⟩:=zd0 h;refine zs8 [(0,0)] [] [0] (zR9 _ _ hv1) rfl rfl ?_;refine za0 (za1 hG ?_);refine zr3 (λ hg=>(zau2 v1.2.gen).ok) ?_;refine za0 (za1 hG ?_);refine zm8 ?_;exact zx8 [(0,0),(1,1),(2,2)] h
 refine zaZ3 4 ?_;refine zap9 ?_;refine za0 (za1 hG ?_);refine za0 ?_;refine zac1 rfl hG ?_;refine zh7 ?_;refine za0 (zy9 (za0 ?_));obtain⟨hb2,h⟩:=zg4 h;refine za1 hG ?_;refine za1 hG ?_;obtain⟨v2,hv2,h⟩:=zd0 h;refine zs8 [(0,0),(1,2)] [] [0,1] ((zbm2 a0 a1).ok _ hv2) rfl rfl ?_;refine za1 hG ?_;refine zap9 ?_;refine za0 (za1 hG ?_);refine za0 ?_;refine zac1 rfl hG ?_;refine zh7 ?_;refine za0 (zy9 (za0 ?_));obtain⟨hb1,h⟩:=zg4 h;refine za1 hG ?_;refine za1 hG ?_;obtain⟨v3,hv3,h⟩:=zd0 h;refine zs8 [(0,0),(1,2)] [] [0,1] ((zbm5 v2.1 v2.2).ok _ hv3) rfl rfl ?_;refine za1 hG ?_;refine zap9 ?_;refine za0 (za1 hG ?_);refine za0 ?_;refine zaH9 rfl hG ?_;refine zE5 ?_;exact zv9 hK [(0,0),(1,1),(2,2),(3,3)] (v3.1,v3.2) (by exact h)
attribute [local irreducible] zB9
def zZ7(j1:aA×aF×aC):Option (aA×(List aT)×Int×aA×aF×aC):=
 (zt6 j1.1).bind λ v1=>
 some ({v1.2 with gen:=(zw6 v1.2.gen)},v1.1,0,{v1.2 with gen:=(zw6 v1.2.gen)},j1.2.1,j1.2.2)
@[go_sem] def zdX7(j1:aA×aF×aC):St:=⟨[(0,.ptr 0 0 0),(4,.ptr 4 0 0)],[(0,bx j1.1),(1,⟨false,1,[A.clo zak5 []],[[.clo 214 [.ptr 0 0 0,.ptr 2 0 0,.ptr 3 0 0]]]⟩),(2,bx j1.2.1),(3,bx j1.2.2),(4,bx aA.zero)],5⟩
def zC0(a0:aA)(a1:aF)(a2:aC):Option (aA×(List aT)×Int×aA×aF×aC):=
 gd (0<=0/\0<(1:Int))<|
 (zn9 a0 a1 a2).bind λ v2=>
 zZ7 (v2.1,v2.2.1,v2.2.2)
theorem zbv5(a0:aA)(a1:aF)(a2:aC)(r:aA×(List aT)×Int×aA×aF×aC)(h:zC0 a0 a1 a2=some r):MFn C 205 [.ptr 0 0 0,.own 1 0 1] [(0,bx a0),(1,⟨false,1,[A.clo zak5 []],[[.clo 214 [.ptr 0 0 0,.ptr 2 0 0,.ptr 3 0 0]]]⟩),(2,bx a1),(3,bx a2)] 4 (.tup [ga r.1,la r.2.1,.int .i64 r.2.2.1]) [(0,bx r.2.2.2.1),(1,⟨false,1,[A.clo zak5 []],[[.clo 214 [.ptr 0 0 0,.ptr 2 0 0,.ptr 3 0 0]]]⟩),(2,bx r.2.2.2.2.1),(3,bx r.2.2.2.2.2)] 4:=by
 refine zU4 Tryz.f205 [(17,1)] [ga r.1,la r.2.1,.int .i64 r.2.2.1] λ E hG hN hK=>?_;unfold zC0 at h;refine za0 (za1 hG ?_);refine za0 (za0 (za1 hG ?_));refine zB7 zdX7 (λ v=>zZ7 v=some r) ?_ ?_
 · intro j1 h
   unfold zZ7 at h;refine g_st ?_;refine za0 (za1 hG ?_);obtain⟨v1,hv1,h⟩:=zd0 h;refine zs8 [(0,0)] [] [0] (zR9 _ _ hv1) rfl rfl ?_;refine za0 (za1 hG ?_);refine zr3 (λ hg=>(zau2 v1.2.gen).ok) ?_;refine za0 (za1 hG ?_);refine zm8 ?_;exact zx8 [(0,0),(1,1),(2,2),(3,3)] h
 refine zaZ3 3 ?_;refine zap9 ?_;refine za0 (za1 hG ?_);refine za0 ?_;refine zac1 rfl hG ?_;refine zh7 ?_;refine za0 (zy9 (za0 ?_));obtain⟨hb1,h⟩:=zg4 h;refine za1 hG ?_;refine za1 hG ?_;obtain⟨v2,hv2,h⟩:=zd0 h;refine zs8 [(0,0),(1,2),(2,3)] [] [0,1,2] ((zbv1 a0 a1 a2).ok _ hv2) rfl rfl ?_;refine za1 hG ?_;refine zap9 ?_;refine za0 (za1 hG ?_);refine za0 ?_;refine zaH9 rfl hG ?_;refine zE5 ?_;exact zv9 hK [(0,0),(1,1),(2,2),(3,3),(4,4)] (v2.1,v2.2.1,v2.2.2) (by exact h)
attribute [local irreducible] zC0
def zZ8(j1:aA×aF):Option (aA×(List aT)×Int×aA×aF):=
 (zt6 j1.1).bind λ v1=>
 some ({v1.2 with gen:=(zw6 v1.2.gen)},v1.1,0,{v1.2 with gen:=(zw6 v1.2.gen)},j1.2)
@[go_sem] def zdX8(j1:aA×aF):St:=⟨[(0,.ptr 0 0 0),(4,.ptr 3 0 0)],[(0,bx j1.1),(1,⟨false,1,[A.clo zak5 []],[[.clo 263 [.ptr 0 0 0,.ptr 2 0 0]],[.clo 264 [.ptr 0 0 0,.ptr 2 0 0]],[.clo 265 [.ptr 0 0 0,.ptr 2 0 0]]]⟩),(2,bx j1.2),(3,bx aA.zero)],4⟩
def zC1(a0:aA)(a1:aF):Option (aA×(List aT)×Int×aA×aF):=
 gd (0<=0/\0<(3:Int))<|
 (zm5 a0 a1).bind λ v2=>
 gd (0<=1/\1<(3:Int))<|
 (zf0 v2.1 v2.2).bind λ v3=>
 gd (0<=2/\2<(3:Int))<|
 (ze8 v3.1 v3.2).bind λ v4=>
 zZ8 (v4.1,v4.2)
theorem zbv6(a0:aA)(a1:aF)(r:aA×(List aT)×Int×aA×aF)(h:zC1 a0 a1=some r):MFn C 205 [.ptr 0 0 0,.own 1 0 3] [(0,bx a0),(1,⟨false,1,[A.clo zak5 []],[[.clo 263 [.ptr 0 0 0,.ptr 2 0 0]],[.clo 264 [.ptr 0 0 0,.ptr 2 0 0]],[.clo 265 [.ptr 0 0 0,.ptr 2 0 0]]]⟩),(2,bx a1)] 3 (.tup [ga r.1,la r.2.1,.int .i64 r.2.2.1]) [(0,bx r.2.2.2.1),(1,⟨false,1,[A.clo zak5 []],[[.clo 263 [.ptr 0 0 0,.ptr 2 0 0]],[.clo 264 [.ptr 0 0 0,.ptr 2 0 0]],[.clo 265 [.ptr 0 0 0,.ptr 2 0 0]]]⟩),(2,bx r.2.2.2.2)] 3:=by
 refine zU4 Tryz.f205 [(17,1)] [ga r.1,la r.2.1,.int .i64 r.2.2.1] λ E hG hN hK=>?_;unfold zC1 at h;refine za0 (za1 hG ?_);refine za0 (za0 (za1 hG ?_));refine zB7 zdX8 (λ v=>zZ8 v=some r) ?_ ?_
 · intro j1 h
   unfold zZ8 at h;refine g_st ?_;refine za0 (za1 hG ?_);obtain⟨v1,hv1,h⟩:=zd0 h;refine zs8 [(0,0)] [] [0] (zR9 _ _ hv1) rfl rfl ?_;refine za0 (za1 hG ?_);refine zr3 (λ hg=>(zau2 v1.2.gen).ok) ?_;refine za0 (za1 hG ?_);refine zm8 ?_;exact zx8 [(0,0),(1,1),(2,2)] h
 refine zaZ3 5 ?_;refine zap9 ?_;refine za0 (za1 hG ?_);refine za0 ?_;refine zac1 rfl hG ?_;refine zh7 ?_;refine za0 (zy9 (za0 ?_));obtain⟨hb3,h⟩:=zg4 h;refine za1 hG ?_;refine za1 hG ?_;obtain⟨v2,hv2,h⟩:=zd0 h;refine zs8 [(0,0),(1,2)] [] [0,1] ((zbn3 a0 a1).ok _ hv2) rfl rfl ?_;refine za1 hG ?_;refine zap9 ?_;refine za0 (za1 hG ?_);refine za0 ?_;refine zac1 rfl hG ?_;refine zh7 ?_;refine za0 (zy9 (za0 ?_));obtain⟨hb2,h⟩:=zg4 h;refine za1 hG ?_;refine za1 hG ?_;obtain⟨v3,hv3,h⟩:=zd0 h;refine zs8 [(0,0),(1,2)] [] [0,1] ((zbm6 v2.1 v2.2).ok _ hv3) rfl rfl ?_;refine za1 hG ?_;refine zap9 ?_;refine za0 (za1 hG ?_);refine za0 ?_;refine zac1 rfl hG ?_;refine zh7 ?_;refine za0 (zy9 (za0 ?_));obtain⟨hb1,h⟩:=zg4 h;refine za1 hG ?_;refine za1 hG ?_;obtain⟨v4,hv4,h⟩:=zd0 h;refine zs8 [(0,0),(1,2)] [] [0,1] ((zbm4 v3.1 v3.2).ok _ hv4) rfl rfl ?_;refine za1 hG ?_;refine zap9 ?_;refine za0 (za1 hG ?_);refine za0 ?_;refine zaH9 rfl hG ?_;refine zE5 ?_;exact zv9 hK [(0,0),(1,1),(2,2),(3,3)] (v4.1,v4.2) (by exact h)
attribute [local irreducible] zC1
def zy6(a0:aA):Option (List aF):=
 (zd8 a0.aL).bind λ v1=>
 (zs3 a0).bind λ v2=>
 gd (v1.length+v2.length<=4294967296)<|
 (zo0 (v1++v2)).bind λ v3=>
 some v3
instance zbn8(a0:aA):OkP (zy6 a0) 43 [ga a0] (λ r=>la r):=ok1 (zy6.eq_1 a0) Tryz.f43 []
attribute [local irreducible] zy6
def zaF4(v2:(List aO)×Bool)(j1:Unit):Option ((List aO)×Bool):=
 some (v2.1,true)
@[go_sem] def zdX9(v2:(List aO)×Bool)(j1:Unit):St:=⟨[(4,la v2.1)],[],0⟩
def zaF5(g1:Int)(j2:Unit):Option (Int⊕(Unit⊕((List aO)×Bool))):=
 some (.inl (i64.wrap (g1+1)))
@[go_sem] def zdY0(v2:(List aO)×Bool)(g1:Int)(j2:Unit):St:=⟨[(4,la v2.1),(6,.int .i64 g1)],[],0⟩
def zT8(v2:(List aO)×Bool)(g1 g2:Int):Option (Int⊕(Unit⊕((List aO)×Bool))):=
 (if(decide (g2<g1))=true then
  gd (0<=g1/\g1<(v2.1.length:Int))<|
  gd (0<=g2/\g2<(v2.1.length:Int))<|
  (if(((v2.1.getD g1.toNat aO.zero).name).toList==((v2.1.getD g2.toNat aO.zero).name).toList)=true then
   some (.inr (.inr ([],false)))
  else
   some (.inl (i64.wrap (g2+1))))
 else
  some (.inr (.inl ())))
@[go_sem] def zdY1(v2:(List aO)×Bool)(g1 g2:Int):St:=⟨[(4,la v2.1),(6,.int .i64 g1),(7,.int .i64 g2)],[],0⟩
def zM1(v2:(List aO)×Bool)(g1:Int):Option (Int⊕(Unit⊕((List aO)×Bool))):=
 (if(decide (g1<(v2.1.length:Int)))=true then
  (zc1 (zT8 v2 g1) 0).bind (λ|.inl z=>zaF5 g1 z|.inr z=>some (.inr (.inr z)))
 else
  some (.inr (.inl ())))
@[go_sem] def zdY2(v2:(List aO)×Bool)(g1:Int):St:=⟨[(4,la v2.1),(6,.int .i64 g1)],[],0⟩
def zD4(a0:aZ):Option ((List aO)×Bool):=
 (zm3 a0).bind λ v1=>
 (if(decide (v1=0))=true then
  some ([],false)
 else
  (zw3 a0).bind λ v2=>match v2 with
  | .inl v2=>
   some ([],false)
  | .inr v2=>
   (if((!v2.2)||decide (8<(v2.1.length:Int)))=true then
    some ([],false)
   else
    (zc1 (zM1 v2) 0).bind (λ|.inl z=>zaF4 v2 z|.inr z=>some z)))
theorem zcd8(a0:aZ)(r:(List aO)×Bool)(h:zD4 a0=some r):PFn C 266 [ga a0] (.tup [la r.1,.bool r.2]):=by
 refine zW4 Tryz.f266 [] λ E hG hN hK=>?_;unfold zD4 at h;refine za0 (za1 hG ?_);refine za0 (za0 (za1 hG ?_));obtain⟨v1,hv1,h⟩:=zd0 h;refine zr3 (λ hg=>(zcc9 a0).ok _ hv1) ?_;refine zh9 rfl hG h (λ _ h=>?_) (λ _ h=>?_)
 · refine za0 (za1 hG ?_)
   refine zm8 ?_;exact zy2 h
 refine zh7 ?_;refine za0 (za1 hG ?_);obtain⟨v2,hv2,h⟩:=zd0 h;rcases v2 with v2|v2
 · dsimp only at h
   refine zs8 [] [(0,1)] [0] (zbL6 _ _ hv2) rfl rfl ?_;refine za0 (za0 (za1 hG ?_));refine zac1 rfl hG ?_;refine za0 (za1 hG ?_);refine zm8 ?_;exact zy2 h
 dsimp only at h;refine zs8 [] [] [] (zbL7 _ _ hv2) rfl rfl ?_;refine za0 (za0 (za1 hG ?_));refine zh9 rfl hG h (λ _ h=>?_) (λ _ h=>?_)
 · refine za0 (za1 hG ?_)
   refine zm8 ?_;exact zy2 h
 refine zh7 ?_;refine za0 (za0 (za1 hG ?_));refine zB7 (zdX9 v2) (λ v=>zaF4 v2 v=some r) ?_ ?_
 · intro j1 h
   unfold zaF4 at h;refine g_st ?_;refine za0 (za1 hG ?_);refine zm8 ?_;exact zy2 h
 refine zat4 (zdY2 v2) hK [] h (λ x_l1 h g1 y_l1 h_l1 hx_l1=>?_);unfold zM1 at h_l1;refine g_st ?_;refine za0 (za0 (za1 hG ?_));refine zh9 rfl hG h_l1 (λ _ h_l1=>?_) (λ _ h_l1=>?_)
 · refine zh7 ?_
   refine za0 (zy9 (za0 (za1 hG ?_)));refine zB7 (zdY0 v2 g1) (λ v=>zaF5 g1 v=some y_l1) ?_ ?_
   · intro j2 h_l1
     unfold zaF5 at h_l1;refine g_st ?_;refine za1 hG ?_;exact zU3 hK [] h_l1
   refine zat4 (zdY1 v2 g1) hK [] h_l1 (λ x_l2 h_l1 g2 y_l2 h_l2 hx_l2=>?_);unfold zT8 at h_l2;refine g_st ?_;refine za0 (za0 (za1 hG ?_));refine zh9 rfl hG h_l2 (λ _ h_l2=>?_) (λ _ h_l2=>?_)
   · refine zh7 ?_
     refine za0 (zy9 (za0 ?_));obtain⟨hb1,h_l2⟩:=zg4 h_l2;obtain⟨hb2,h_l2⟩:=zg4 h_l2;refine zby9 zK6 hG ?_;refine zh9 rfl hG h_l2 (λ _ h_l2=>?_) (λ _ h_l2=>?_)
     · refine za0 (za1 hG ?_)
       refine zm8 ?_;obtain rfl:=dP h_l2;have hx:=hx_l2 _ rfl;subst hx
       try dsimp only at h_l1
       cases h_l1;cases hx_l1 _ rfl;exact zy2 h
     refine zh7 ?_;refine za1 hG ?_;exact zU3 hK [] h_l2
   refine zE5 ?_;obtain rfl:=dP h_l2;have hx:=hx_l2 _ rfl;subst hx
   try dsimp only at h_l1
   exact zv9 hK [] () (by exact h_l1)
 refine zE5 ?_;cases h_l1;cases hx_l1 _ rfl;exact zv9 hK [] () (by exact h)
instance zdr1(a0:aZ):OkP (zD4 a0) 266 [ga a0] (λ r=>.tup [la r.1,.bool r.2]):=⟨zcd8 a0⟩
attribute [local irreducible] zD4
def zaF6(j1:(List aF)):Option (List aF):=
 (zo0 j1).bind λ v1=>
 some v1
def zae3(a0:List aA)(g1:Int×(List aF)):Option ((Int×(List aF))⊕(List aF)):=
 (if(decide (g1.1<(a0.length:Int)))=true then
  gd (0<=g1.1/\g1.1<(a0.length:Int))<|
  (zy6 (a0.getD g1.1.toNat aA.zero)).bind λ v2=>
  gd (g1.2.length+v2.length<=4294967296)<|
  some (.inl ((i64.wrap (g1.1+1)),(g1.2++v2)))
 else
  some (.inr g1.2))
def zz7(a0:List aA):Option (List aF):=
 (zc1 (zae3 a0) (0,[])).bind (λ z=>zaF6 z)
@[reducible,instance] def zeB3 a0:=mkJ (zz7 a0) 0 (@zaF6.eq_1) λ(j1:(List aF))=>⟨[(3,.own 0 0 j1.length)],[(0,sx j1)],1⟩
@[reducible,instance] def zeB4 (a0:List aA) {T:Type} (x:T):=mkL x (@zae3.eq_1 a0) λ(g1:Int×(List aF))=>⟨[(3,.own 0 0 g1.2.length),(6,la a0),(7,.int .i64 (a0.length:Int)),(8,.int .i64 g1.1)],[(0,sx g1.2)],1⟩
instance zcd9(a0:List aA):OkP (zz7 a0) 80 [la a0] (λ r=>la r):=ok1 (zz7.eq_1 a0) Tryz.f80 [(3,1)]
attribute [local irreducible] zz7
def zan8(j1:(List aF)):Option (List aF):=
 (zo0 j1).bind λ v2=>
 some v2
def zZ9(a0:aS)(g1:Int×(List aF)):Option ((Int×(List aF))⊕(List aF)):=
 (if(decide (g1.1<(a0.bA.length:Int)))=true then
  gd (0<=g1.1/\g1.1<(a0.bA.length:Int))<|
  gd (g1.2.length+1<=4294967296)<|
  some (.inl ((i64.wrap (g1.1+1)),(g1.2++[(a0.bA.getD g1.1.toNat bI.zero).aI])))
 else
  some (.inr g1.2))
def zy1(a0:aS):Option (List aF):=
 (zz7 a0.aG).bind λ v1=>
 gd (v1.length<=4294967296)<|
 (zc1 (zZ9 a0) (0,v1)).bind (λ z=>zan8 z)
@[reducible,instance] def zeB5 a0 {T1:Type} (v1:T1):=mkJ (zy1 a0,v1) 0 (@zan8.eq_1) λ(j1:(List aF))=>⟨[(3,.own 0 0 j1.length)],[(0,sx j1)],1⟩
@[reducible,instance] def zeB6 (a0:aS) {T:Type} (x:T):=mkL x (@zZ9.eq_1 a0) λ(g1:Int×(List aF))=>⟨[(3,.own 0 0 g1.2.length),(11,la a0.bA),(12,.int .i64 (a0.bA.length:Int)),(13,.int .i64 g1.1)],[(0,sx g1.2)],1⟩
instance zcU5(a0:aS):OkP (zy1 a0) 250 [ga a0] (λ r=>la r):=ok1 (zy1.eq_1 a0) Tryz.f250 []
attribute [local irreducible] zy1
end
end Ab
end Go.Proofs.YtdlfhmkmnjbihaaGreatDoor
