import Derived.Test.YtdlfhmkmnjbihaaGreatDoorHm24
namespace Go.Proofs.YtdlfhmkmnjbihaaGreatDoor
namespace Ab
open IntKind (i64 u64 u8)
set_option linter.unusedSimpArgs false
set_option linter.defProp false
set_option linter.unusedVariables false
set_option maxRecDepth 100000
set_option maxHeartbeats 1000000
noncomputable section
attribute [local irreducible] zk2 zd1 za7 zd5 zd8 za4 zo7 ze9 zl8 zi1 zc1 zk8 zh8 zd4 zk5 za2 zf9 zc9 zf7 za3 zh5 zc5 zc7 zf6 zk9 zd9 zm9 zh3 zf0 zh1 zd7 za5 ze0 zc8 zd2 zl5 ze1 zo2 zb3 zj1 zj0 ze8 zp1 zi2 zk6 zh0 zc2 zb7 zb9 zj3 zg6 zi3 zf1 zi5 ze6 zg0 zm7 zl0 zf2 za9 za8 zf3 zg7 zb4 zp2 zm8 zc3 zj4 zj8 zf4 zn5 zh2 zg2 zg3 zl6 zj6 zg4 zn8 zg8 zh9 zi6 zn9 zc6 zg5 ze4 zf5 zo0 zn3 zl4 zu5 zq3 zn1 zi0 zp7 zq1 zo8 zn0 zo9 zp0 zi7 zj7 zs6 zc4 zi8 zi9 zh6 zh7 zo4 zo5 zn7 zi4 zt4 zj9 zq9 zk4 zs7 zr8 zp9 zr2 zr3 zr4 zy9 zt6 zq0 zq4 zp8 zv3 zs8 zr1 zb5 zn6 zn2 zk7 zt5 zr9 zs9 zw9 zo1 zx2 zC6 zv5 zD9 zs0 zq5 zx0 zv8 zq6 zv9 zt7 zJ2 zz1 zx3 zC7 zA1 zB8 zB9
def zH0(a0:aA):Option Bool:=
 (zJ2 a0).bind λ v1=>
 (if(!v1)=true then
  some false
 else
  (zk6 a0).bind λ v2=>
  ((if v2.2=true then zB8 a0.aB a0.aL v2.1.aI v2.1.aK else some false)).bind λ v3=>
  some ((!v2.2)||(!v3)))
instance zcO0(a0:aA):OkP (zH0 a0) 131 [ga a0] (λ r=>.bool r):=ok1 (zH0.eq_1 a0) Tryz.f131 []
attribute [local irreducible] zH0
def zz2(a0:aA):Option Bool:=
 (zH0 a0).bind λ v1=>
 some v1
instance zap7(a0:aA):OkP (zz2 a0) 79 [ga a0] (λ r=>.bool r):=ok1 (zz2.eq_1 a0) Tryz.f79 []
attribute [local irreducible] zz2
def zat4(a0:List aA)(j1:Unit):Option Bool:=
 (zx3 a0).bind λ v1=>
 some (decide ((v1.length:Int)<=8))
def zag8(a0:List aA)(g1:Int):Option (Int⊕(Unit⊕Bool)):=
 (if(decide (g1<(a0.length:Int)))=true then
  gd (0<=g1/\g1<(a0.length:Int))<|
  (zz2 (a0.getD g1.toNat aA.zero)).bind λ v2=>
  gd ((v2&&decide (0<g1))=true->0<=i64.wrap (g1-1)/\i64.wrap (g1-1)<(a0.length:Int))<|
  (if((!v2)||(decide (0<g1)&&(!Op.bytesLess (((a0.getD ((i64.wrap (g1-1)).toNat) aA.zero).aB).name).toList (((a0.getD g1.toNat aA.zero).aB).name).toList)))=true then
   some (.inr (.inr false))
  else
   some (.inl (i64.wrap (g1+1))))
 else
  some (.inr (.inl ())))
def zz3(a0:List aA):Option Bool:=
 (if(decide (8<(a0.length:Int)))=true then
  some false
 else
  (zc0 (zag8 a0) 0).bind (λ|.inl z=>zat4 a0 z|.inr z=>some z))
@[reducible,instance] def zdW6 (a0:List aA):=mkJ (zz3 a0) 0 (@zat4.eq_1 a0) λ(j1:Unit)=>⟨[(0,la a0)],[],0⟩
@[reducible,instance] def zdW7 (a0:List aA) {T:Type} (x:T):=mkL x (@zag8.eq_1 a0) λ(g1:Int)=>⟨[(0,la a0),(8,la a0),(9,.int .i64 (a0.length:Int)),(10,.int .i64 g1)],[],0⟩
instance zdc7(a0:List aA):OkP (zz3 a0) 40 [la a0] (λ r=>.bool r):=ok1 (zz3.eq_1 a0) Tryz.f40 []
attribute [local irreducible] zz3
def zaV9(a0:aX)(j2:Int):Option Bool:=
 some (decide (j2=(a0.tags.length:Int)))
def zaz6(g1:Int×Int)(j3:Int):Option ((Int×Int)⊕(Int⊕Bool)):=
 some (.inl (j3,i64.wrap (g1.2+1)))
def zS0(a0:aX)(g1:Int×Int)(v2:(List aF))(g2:Int×Int):Option ((Int×Int)⊕(Int⊕Bool)):=
 (if(decide (g2.2<(v2.length:Int)))=true then
  gd (0<=g2.2/\g2.2<(v2.length:Int))<|
  (zh0 a0.tags (v2.getD g2.2.toNat aF.zero) (((a0.aG.getD g1.2.toNat aA.zero).aB).name)).bind λ v3=>
  (if(!v3.2)=true then
   some (.inr (.inr false))
  else
   some (.inl ((i64.wrap (g2.1+1)),i64.wrap (g2.2+1))))
 else
  some (.inr (.inl g2.1)))
def zS1(a0:aX)(g1:Int×Int):Option ((Int×Int)⊕(Int⊕Bool)):=
 (if(decide (g1.2<(a0.aG.length:Int)))=true then
  gd (0<=g1.2/\g1.2<(a0.aG.length:Int))<|
  (zz1 (a0.aG.getD g1.2.toNat aA.zero)).bind λ v2=>
  (zc0 (zS0 a0 g1 v2) (g1.1,0)).bind (λ|.inl z=>zaz6 g1 z|.inr z=>some (.inr (.inr z)))
 else
  some (.inr (.inl g1.1)))
def zal1(a0:aX)(j1:Unit):Option Bool:=
 (zc0 (zS1 a0) (0,0)).bind (λ|.inl z=>zaV9 a0 z|.inr z=>some z)
def zal2(a0:aX)(g3:Int):Option (Int⊕(Unit⊕Bool)):=
 (if(decide (g3<(a0.tags.length:Int)))=true then
  gd (0<=g3/\g3<(a0.tags.length:Int))<|
  (if(((!(zb6 ((a0.tags.getD g3.toNat bA.zero).aI)))||decide ((a0.tags.getD g3.toNat bA.zero).gen<0))||decide (1073741824<(a0.tags.getD g3.toNat bA.zero).gen))=true then
   some (.inr (.inr false))
  else
   gd (decide (0<g3)=true->0<=i64.wrap (g3-1)/\i64.wrap (g3-1)<(a0.tags.length:Int))<|
   ((if(decide (0<g3))=true then zi0 (a0.tags.getD ((i64.wrap (g3-1)).toNat) bA.zero) (a0.tags.getD g3.toNat bA.zero)else some 0)).bind λ v4=>
   (if(decide (0<g3)&&decide (0<=v4))=true then
    some (.inr (.inr false))
   else
    some (.inl (i64.wrap (g3+1)))))
 else
  some (.inr (.inl ())))
def zC8(a0:aX):Option Bool:=
 (zz3 a0.aG).bind λ v1=>
 (if(!v1)=true then
  some false
 else
  (zc0 (zal2 a0) 0).bind (λ|.inl z=>zal1 a0 z|.inr z=>some z))
@[reducible,instance] def zdW8 (a0:aX) j1:=mkJ (zal1 a0 j1) 2 (@zaV9.eq_1 a0) λ(j2:Int)=>⟨[(1,.ptr 0 0 0),(5,.int .i64 j2)],[(0,bx a0)],1⟩
@[reducible,instance] def zdW9 (a0:aX) (g1:Int×Int) {T1:Type} (v2:T1):=mkJ (zS1 a0 g1,v2) 4 (@zaz6.eq_1 g1) λ(j3:Int)=>⟨[(1,.ptr 0 0 0),(5,.int .i64 j3),(53,la a0.aG),(54,.int .i64 (a0.aG.length:Int)),(55,.int .i64 g1.2)],[(0,bx a0)],1⟩
@[reducible,instance] def zdX0 (a0:aX) (g1:Int×Int) (v2:(List aF)) {T:Type} (x:T):=mkL x (@zS0.eq_1 a0 g1 v2) λ(g2:Int×Int)=>⟨[(1,.ptr 0 0 0),(5,.int .i64 g2.1),(7,.ptr 1 0 0),(53,la a0.aG),(54,.int .i64 (a0.aG.length:Int)),(55,.int .i64 g1.2),(60,la v2),(61,.int .i64 (v2.length:Int)),(62,.int .i64 g2.2)],[(0,bx a0),(1,bx (a0.aG.getD g1.2.toNat aA.zero))],2⟩
@[reducible,instance] def zdX1 (a0:aX) {T:Type} (x:T):=mkL x (@zS1.eq_1 a0) λ(g1:Int×Int)=>⟨[(1,.ptr 0 0 0),(5,.int .i64 g1.1),(53,la a0.aG),(54,.int .i64 (a0.aG.length:Int)),(55,.int .i64 g1.2)],[(0,bx a0)],1⟩
@[reducible,instance] def zdX2 (a0:aX) {T1:Type} (v1:T1):=mkJ (zC8 a0,v1) 0 (@zal1.eq_1 a0) λ(j1:Unit)=>⟨[(1,.ptr 0 0 0)],[(0,bx a0)],1⟩
@[reducible,instance] def zdX3 (a0:aX) {T:Type} (x:T):=mkL x (@zal2.eq_1 a0) λ(g3:Int)=>⟨[(1,.ptr 0 0 0),(17,la a0.tags),(18,.int .i64 (a0.tags.length:Int)),(19,.int .i64 g3)],[(0,bx a0)],1⟩
instance zbX4(a0:aX):OkP (zC8 a0) 13 [ga a0] (λ r=>.bool r):=ok1 (zC8.eq_1 a0) Tryz.f13 []
attribute [local irreducible] zC8
def zV0(a0:List aA)(a1:ByteArray):Option (Int×Int):=
 (zz3 a0).bind λ v1=>
 (if(!v1)=true then
  some (0,2)
 else
  (zj3 a0 a1).bind λ v2=>
  (if(decide (v2<0))=true then
   some (0,10)
  else
   some (v2,0)))
instance zdr4(a0:List aA)(a1:ByteArray):OkP (zV0 a0 a1) 146 [la a0,.str a1] (λ r=>.tup [.int .i64 r.1,.int .i64 r.2]):=ok1 (zV0.eq_1 a0 a1) Tryz.f146 []
attribute [local irreducible] zV0
def zad6(j1:aA×(List aO)):Option ((List aO)×aA):=
 some (j1.2,j1.1)
@[go_sem] def zdx2(j1:aA×(List aO)):St:=⟨[(3,.own 1 0 j1.2.length)],[(0,bx j1.1),(1,sx j1.2)],2⟩
def zE0(g1:aA×(List aO))(v1:aM×Bool)(j2:aA):Option ((aA×(List aO))⊕(aA×(List aO))):=
 (zn3 j2.aL v1.1.aI v1.1.aK).bind λ v2=>
 gd (g1.2.length+1<=4294967296)<|
 some (.inl ({j2 with aL:=v2},(g1.2++[(⟨v1.1.aI,v1.1.aK⟩:aO)])))
@[go_sem] def zdx3(g1:aA×(List aO))(v1:aM×Bool)(j2:aA):St:=⟨[(0,.ptr 0 0 0),(3,.own 1 0 g1.2.length),(4,.ptr 2 0 0)],[(0,bx j2),(1,sx g1.2),(2,bx v1.1)],3⟩
def zL1(g1:aA×(List aO)):Option ((aA×(List aO))⊕(aA×(List aO))):=
 (zk6 g1.1).bind λ v1=>
 ((if v1.2=true then zB8 g1.1.aB g1.1.aL v1.1.aI v1.1.aK else some false)).bind λ v3=>
 (if((!v1.2)||(!v3))=true then
  some (.inr (g1.1,g1.2))
 else
  (if(decide (0<(g1.1.aH.length:Int)))=true then
   gd (0<=1/\1<=(g1.1.aH.length:Int)/\(g1.1.aH.length:Int)<=(g1.1.aH.length:Int))<|
   zE0 g1 v1 ({g1.1 with aH:=(g1.1.aH.drop 1)})
  else
   gd (0<=1/\1<=(g1.1.aT.length:Int)/\(g1.1.aT.length:Int)<=(g1.1.aT.length:Int))<|
   zE0 g1 v1 ({g1.1 with aT:=(g1.1.aT.drop 1)})))
@[go_sem] def zdx4(g1:aA×(List aO)):St:=⟨[(0,.ptr 0 0 0),(3,.own 1 0 g1.2.length)],[(0,bx g1.1),(1,sx g1.2)],2⟩
def zr7(a0:aA):Option ((List aO)×aA):=
 (zc0 zL1 (a0,[])).bind (λ z=>zad6 z)
theorem zN0(a0:aA)(r:(List aO)×aA)(h:zr7 a0=some r):MFn C 257 [.ptr 0 0 0] [(0,bx a0)] 1 (la r.1) [(0,bx r.2)] 1:=by
 refine zZ4 Tryz.f257 [(3,1)] [la r.1] λ E hG hN hK=>?_;unfold zr7 at h;refine za0 (za1 hG ?_);refine zcn1 ?_;refine za0 (za1 hG ?_);refine za0 ?_;refine zcG8 ?_;refine za0 ?_;refine zy5 zdx2 (λ v=>zad6 v=some r) ?_ ?_
 · intro j1 h
   unfold zad6 at h;refine g_st ?_;refine za0 (za1 hG ?_);refine g_gh (.fz [1]) ?_;refine zm2 ?_;exact zE4 [(0,0)] h
 refine zal7 zdx4 hK [(0,0),(1,1)] h (λ x_l1 h g1 y_l1 h_l1 hx_l1=>?_);unfold zL1 at h_l1;refine g_st ?_;refine zw6 (za0 (za1 hG ?_));obtain⟨v1,hv1,h_l1⟩:=zb8 h_l1;refine zm4 (λ hg=>(zbW7 g1.1).ok _ hv1) ?_;refine za0 ?_;refine zy5 (zdx3 g1 v1) (λ v=>zE0 g1 v1 v=some y_l1) ?_ ?_
 · intro j2 h_l1
   unfold zE0 at h_l1;refine g_st ?_;refine za0 (zai3 zC5 hG ?_);obtain⟨v2,hv2,h_l1⟩:=zb8 h_l1;refine zH5 (λ hg=>zaZ3 _ _ _ _ hv2) ?_;obtain⟨hb1,h_l1⟩:=ze3 h_l1;refine za1 hG ?_;exact zM4 hK [(0,0),(1,3)] h_l1
 refine za0 (zbl3 zC5 hG ?_);obtain⟨v3,hv3,h_l1⟩:=zb8 h_l1;refine zaf4 (λ hg=>(zbE1 g1.1.aB g1.1.aL v1.1.aI v1.1.aK).ok _ (zcc6 hg hv3)) ?_;refine ze5 rfl hG h_l1 (λ _ h_l1=>?_) (λ _ h_l1=>?_)
 · refine zA6 ?_
   cases h_l1;cases hx_l1 _ rfl;exact zs2 hK [(0,0),(1,1)] (g1.1,g1.2) (by exact h)
 refine za0 (za1 hG ?_);refine ze5 rfl hG h_l1 (λ _ h_l1=>?_) (λ _ h_l1=>?_)
 · obtain⟨hb2,h_l1⟩:=ze3 h_l1
   refine za1 hG ?_;exact zs2 hK [(0,0),(1,1),(2,2)] ({g1.1 with aH:=(g1.1.aH.drop 1)}) (by exact h_l1)
 obtain⟨hb3,h_l1⟩:=ze3 h_l1;refine za1 hG ?_;exact zs2 hK [(0,0),(1,1),(2,2)] ({g1.1 with aT:=(g1.1.aT.drop 1)}) (by exact h_l1)
attribute [local irreducible] zr7
def zV8(j1:ByteArray×Int×Int×Int×Int×(List aO)×(List aM)×aC×aC×aF×(List aM)):Option (aA×(List aO)×Int×aA×(List aO)×(List aM)×aC×aC×aF):=
 (zr7 (⟨(⟨j1.1,j1.2.1,j1.2.2.1,j1.2.2.2.1⟩:aD),j1.2.2.2.2.2.1,j1.2.2.2.2.2.2.2.2.2.2,j1.2.2.2.2.2.2.1,j1.2.2.2.2.1⟩:aA)).bind λ v1=>
 some ({v1.2 with gen:=(zt3 v1.2.gen)},v1.1,0,{v1.2 with gen:=(zt3 v1.2.gen)},j1.2.2.2.2.2.1,j1.2.2.2.2.2.2.1,j1.2.2.2.2.2.2.2.1,j1.2.2.2.2.2.2.2.2.1,j1.2.2.2.2.2.2.2.2.2.1)
@[go_sem] def zdx5(j1:ByteArray×Int×Int×Int×Int×(List aO)×(List aM)×aC×aC×aF×(List aM)):St:=⟨[(0,.ptr 0 0 0),(4,.ptr 8 0 0)],[(0,⟨false,8,aA.enc aA.zero,[[.str j1.1,.int .i64 j1.2.1,.int .i64 j1.2.2.1,.int .i64 j1.2.2.2.1,.own 2 0 j1.2.2.2.2.2.1.length,.own 9 0 j1.2.2.2.2.2.2.2.2.2.2.length,.own 4 0 j1.2.2.2.2.2.2.1.length,.int .i64 j1.2.2.2.2.1]]⟩),(1,⟨false,1,[A.clo zaa8 []],[[.clo 206 [.ptr 0 0 0,.ptr 5 0 0,.ptr 6 0 0,.ptr 7 0 0]]]⟩),(2,sx j1.2.2.2.2.2.1),(4,sx j1.2.2.2.2.2.2.1),(5,bx j1.2.2.2.2.2.2.2.1),(6,bx j1.2.2.2.2.2.2.2.2.1),(7,bx j1.2.2.2.2.2.2.2.2.2.1),(8,bx aA.zero),(9,sx j1.2.2.2.2.2.2.2.2.2.2)],10⟩
def zI6(a0:aA)(a1 a2:aC)(a3:aF):Option (aA×(List aO)×Int×aA×(List aO)×(List aM)×aC×aC×aF):=
 gd (0<=0/\0<(1:Int))<|
 (zv8 a0 a1 a2 a3).bind λ v2=>
 zV8 (v2.1,v2.2.1,v2.2.2.1,v2.2.2.2.1,v2.2.2.2.2.1,v2.2.2.2.2.2.2.2.2.1,v2.2.2.2.2.2.2.2.2.2.1,v2.2.2.2.2.2.1,v2.2.2.2.2.2.2.1,v2.2.2.2.2.2.2.2.1,v2.2.2.2.2.2.2.2.2.2.2)
theorem zbm5(a0:aA)(a1 a2:aC)(a3:aF)(r:aA×(List aO)×Int×aA×(List aO)×(List aM)×aC×aC×aF)(h:zI6 a0 a1 a2 a3=some r):MFn C 205 [.ptr 0 0 0,.own 1 0 1] [(0,⟨false,8,aA.enc aA.zero,[[.str a0.aB.name,.int .i64 a0.aB.kind,.int .i64 a0.aB.aU,.int .i64 a0.aB.home,.own 2 0 a0.aL.length,.own 3 0 a0.aH.length,.own 4 0 a0.aT.length,.int .i64 a0.gen]]⟩),(1,⟨false,1,[A.clo zaa8 []],[[.clo 206 [.ptr 0 0 0,.ptr 5 0 0,.ptr 6 0 0,.ptr 7 0 0]]]⟩),(2,sx a0.aL),(3,sx a0.aH),(4,sx a0.aT),(5,bx a1),(6,bx a2),(7,bx a3)] 8 (.tup [ga r.1,la r.2.1,.int .i64 r.2.2.1]) [(0,bx r.2.2.2.1),(1,⟨false,1,[A.clo zaa8 []],[[.clo 206 [.ptr 0 0 0,.ptr 5 0 0,.ptr 6 0 0,.ptr 7 0 0]]]⟩),(2,⟨true,5,aO.enc aO.zero,r.2.2.2.2.1.map aO.enc⟩),(4,⟨true,7,aM.enc aM.zero,r.2.2.2.2.2.1.map aM.enc⟩),(5,bx r.2.2.2.2.2.2.1),(6,bx r.2.2.2.2.2.2.2.1),(7,bx r.2.2.2.2.2.2.2.2)] 8:=by
 refine zZ4 Tryz.f205 [(17,1)] [ga r.1,la r.2.1,.int .i64 r.2.2.1] λ E hG hN hK=>?_;unfold zI6 at h;refine za0 (za1 hG ?_);refine za0 (za0 (za1 hG ?_));refine zy5 zdx5 (λ v=>zV8 v=some r) ?_ ?_
 · intro j1 h
   unfold zV8 at h;refine g_st ?_;refine za0 ?_;refine g_gh (.fz [2,4,9]) ?_;refine za1 hG ?_;obtain⟨v1,hv1,h⟩:=zb8 h;refine zp6 [(0,0)] [] [0] (zN0 _ _ hv1) rfl rfl ?_;refine za0 (za1 hG ?_);refine zm4 (λ hg=>(zaj2 v1.2.gen).ok) ?_;refine za0 (za1 hG ?_);refine zm2 ?_;exact zE4 [(0,0),(1,1),(2,2),(3,3),(4,4),(5,5),(6,6),(7,7)] h
 refine zaM1 3 ?_;refine zaf3 ?_;refine za0 (za1 hG ?_);refine za0 ?_;refine zak3 rfl hG ?_;refine ze2 ?_;refine za0 (zw6 (za0 ?_));obtain⟨hb1,h⟩:=ze3 h;refine za1 hG ?_;refine za1 hG ?_;obtain⟨v2,hv2,h⟩:=zb8 h;refine zp6 [(0,0),(1,5),(2,6),(3,7),(4,2),(5,3),(6,4)] [(7,9)] [0,1,2,3,4,5,6,7] ((zbh6 a0 a1 a2 a3).ok _ hv2) rfl rfl ?_;refine za1 hG ?_;refine zaf3 ?_;refine za0 (za1 hG ?_);refine za0 ?_;refine zaB0 rfl hG ?_;refine zA6 ?_;exact zs2 hK [(0,0),(1,1),(2,2),(3,3),(4,4),(5,5),(6,6),(7,7),(8,8),(9,9)] (v2.1,v2.2.1,v2.2.2.1,v2.2.2.2.1,v2.2.2.2.2.1,v2.2.2.2.2.2.2.2.2.1,v2.2.2.2.2.2.2.2.2.2.1,v2.2.2.2.2.2.1,v2.2.2.2.2.2.2.1,v2.2.2.2.2.2.2.2.1,v2.2.2.2.2.2.2.2.2.2.2) (by exact h)
attribute [local irreducible] zI6
def zT5(j1:ByteArray×Int×Int×Int×(List aM)×Int×(List aO)×(List aM)×(List aM)×(List aM)):Option (aA×(List aO)×Int×aA×(List aO)×(List aM)×(List aM)×(List aM)):=
 (zr7 (⟨(⟨j1.1,j1.2.1,j1.2.2.1,j1.2.2.2.1⟩:aD),j1.2.2.2.2.2.2.1,j1.2.2.2.2.2.2.2.1,j1.2.2.2.2.1,j1.2.2.2.2.2.1⟩:aA)).bind λ v1=>
 some ({v1.2 with gen:=(zt3 v1.2.gen)},v1.1,0,{v1.2 with gen:=(zt3 v1.2.gen)},j1.2.2.2.2.2.2.1,j1.2.2.2.2.2.2.2.1,j1.2.2.2.2.2.2.2.2.1,j1.2.2.2.2.2.2.2.2.2)
@[go_sem] def zdx6(j1:ByteArray×Int×Int×Int×(List aM)×Int×(List aO)×(List aM)×(List aM)×(List aM)):St:=⟨[(0,.ptr 0 0 0),(4,.ptr 6 0 0)],[(0,⟨false,8,aA.enc aA.zero,[[.str j1.1,.int .i64 j1.2.1,.int .i64 j1.2.2.1,.int .i64 j1.2.2.2.1,.own 2 0 j1.2.2.2.2.2.2.1.length,.own 3 0 j1.2.2.2.2.2.2.2.1.length,la j1.2.2.2.2.1,.int .i64 j1.2.2.2.2.2.1]]⟩),(1,⟨false,1,[A.clo zaa8 []],[[.clo 209 [.ptr 5 0 0,.ptr 0 0 0]]]⟩),(2,sx j1.2.2.2.2.2.2.1),(3,sx j1.2.2.2.2.2.2.2.1),(4,sx j1.2.2.2.2.2.2.2.2.1),(5,⟨false,1,[A.sl ([].map aM.enc)],[[A.sl (j1.2.2.2.2.2.2.2.2.2.map aM.enc)]]⟩),(6,bx aA.zero)],7⟩
def zF4(a0:aA)(a1:List aM):Option (aA×(List aO)×Int×aA×(List aO)×(List aM)×(List aM)×(List aM)):=
 gd (0<=0/\0<(1:Int))<|
 (zd7 a1 a0).bind λ v2=>
 zT5 (v2.2.1,v2.2.2.1,v2.2.2.2.1,v2.2.2.2.2.1,v2.2.2.2.2.2.1,v2.2.2.2.2.2.2.1,v2.2.2.2.2.2.2.2.1,v2.2.2.2.2.2.2.2.2.1,v2.2.2.2.2.2.2.2.2.2,v2.1)
theorem zbh7(a0:aA)(a1:List aM)(r:aA×(List aO)×Int×aA×(List aO)×(List aM)×(List aM)×(List aM))(h:zF4 a0 a1=some r):MFn C 205 [.ptr 0 0 0,.own 1 0 1] [(0,⟨false,8,aA.enc aA.zero,[[.str a0.aB.name,.int .i64 a0.aB.kind,.int .i64 a0.aB.aU,.int .i64 a0.aB.home,.own 2 0 a0.aL.length,.own 3 0 a0.aH.length,.own 4 0 a0.aT.length,.int .i64 a0.gen]]⟩),(1,⟨false,1,[A.clo zaa8 []],[[.clo 209 [.ptr 5 0 0,.ptr 0 0 0]]]⟩),(2,sx a0.aL),(3,sx a0.aH),(4,sx a0.aT),(5,⟨false,1,[A.sl ([].map aM.enc)],[[A.sl (a1.map aM.enc)]]⟩)] 6 (.tup [ga r.1,la r.2.1,.int .i64 r.2.2.1]) [(0,bx r.2.2.2.1),(1,⟨false,1,[A.clo zaa8 []],[[.clo 209 [.ptr 5 0 0,.ptr 0 0 0]]]⟩),(2,⟨true,5,aO.enc aO.zero,r.2.2.2.2.1.map aO.enc⟩),(3,⟨true,7,aM.enc aM.zero,r.2.2.2.2.2.1.map aM.enc⟩),(4,sx r.2.2.2.2.2.2.1),(5,⟨false,1,[A.sl ([].map aM.enc)],[[A.sl (r.2.2.2.2.2.2.2.map aM.enc)]]⟩)] 6:=by
 refine zZ4 Tryz.f205 [(17,1)] [ga r.1,la r.2.1,.int .i64 r.2.2.1] λ E hG hN hK=>?_;unfold zF4 at h;refine za0 (za1 hG ?_);refine za0 (za0 (za1 hG ?_));refine zy5 zdx6 (λ v=>zT5 v=some r) ?_ ?_
 · intro j1 h
   unfold zT5 at h;refine g_st ?_;refine za0 ?_;refine g_gh (.fz [2,3]) ?_;refine za1 hG ?_;obtain⟨v1,hv1,h⟩:=zb8 h;refine zp6 [(0,0)] [] [0] (zN0 _ _ hv1) rfl rfl ?_;refine za0 (za1 hG ?_);refine zm4 (λ hg=>(zaj2 v1.2.gen).ok) ?_;refine za0 (za1 hG ?_);refine zm2 ?_;exact zE4 [(0,0),(1,1),(2,2),(3,3),(4,4),(5,5)] h
 refine zaM1 3 ?_;refine zaf3 ?_;refine za0 (za1 hG ?_);refine za0 ?_;refine zak3 rfl hG ?_;refine ze2 ?_;refine za0 (zw6 (za0 ?_));obtain⟨hb1,h⟩:=ze3 h;refine za1 hG ?_;refine za1 hG ?_;obtain⟨v2,hv2,h⟩:=zb8 h;refine zp6 [(0,5),(1,0),(2,2),(3,3),(4,4)] [] [0,1,2,3,4] ((zbg8 a1 a0).ok _ hv2) rfl rfl ?_;refine za1 hG ?_;refine zaf3 ?_;refine za0 (za1 hG ?_);refine za0 ?_;refine zaB0 rfl hG ?_;refine zA6 ?_;exact zs2 hK [(0,0),(1,1),(2,2),(3,3),(4,4),(5,5),(6,6)] (v2.2.1,v2.2.2.1,v2.2.2.2.1,v2.2.2.2.2.1,v2.2.2.2.2.2.1,v2.2.2.2.2.2.2.1,v2.2.2.2.2.2.2.2.1,v2.2.2.2.2.2.2.2.2.1,v2.2.2.2.2.2.2.2.2.2,v2.1) (by exact h)
attribute [local irreducible] zF4
def zJ3 (a0:aA) (a1:aF) (a2:aC) (a3:Int):Option (aA×(List aO)×Int):=
 (zz2 a0).bind λ v1=>
 (if(!v1)=true then
  some ({aA.zero with},[],2)
 else
  (if(((!(zb6 a1))||decide (a3<0))||decide (7<a3))=true then
   some ({aA.zero with},[],1)
  else
   (if(!(zb0 a0.aB a2))=true then
    some ({aA.zero with},[],12)
   else
    (zn6 a0 a1).bind λ v2=>
    (if v2.2=true then
     some ({aA.zero with},[],14)
    else
     (zg6 a0).bind λ v3=>
     (zj4 a0 a1).bind λ v4=>
     (zo5 a0.aB v4 a2).bind λ v5=>
     (if v5=true then
      some (v3,[],0)
     else
      (if(!(zf8 v4))=true then
       (zI6 v3 v4 a2 a1).bind λ v6=>
       some (v6.1,v6.2.1,v6.2.2.1)
      else
       (if(decide (8<=i64.wrap ((a0.aL.length:Int)+(a0.aT.length:Int))))=true then
        some ({aA.zero with},[],4)
       else
        (zx0 a0.aT ({aM.zero with aI:=a1,aK:=a2,aV:=a3})).bind λ v7=>
        (if(!decide (v7.2.2=0))=true then
         some ({aA.zero with},[],v7.2.2)
        else
         (zF4 v3 v7.1).bind λ v8=>
         some (v8.1,v8.2.1,v8.2.2.1)))))))))
theorem zbO2(a0:aA)(a1:aF)(a2:aC)(a3:Int)(r:aA×(List aO)×Int)(h:zJ3 a0 a1 a2 a3=some r):PFn C 147 [ga a0,ga a1,ga a2,.int .i64 a3] (.tup [ga r.1,la r.2.1,.int .i64 r.2.2]):=by
 refine zW0 Tryz.f147 [(49,1),(63,1),(93,1)] λ E hG hN hK=>?_;unfold zJ3 at h;refine za0 (za1 hG ?_);refine za0 (za0 (za1 hG ?_));obtain⟨v1,hv1,h⟩:=zb8 h;refine zm4 (λ hg=>(zap7 a0).ok _ hv1) ?_;refine ze5 rfl hG h (λ _ h=>?_) (λ _ h=>?_)
 · refine za0 (za1 hG ?_)
   refine zm2 ?_;exact zt1 h
 refine ze2 ?_;refine za0 (za0 (za1 hG ?_));refine zm4 (λ hg=>(zbm0 a1).ok) ?_;refine ze5 rfl hG h (λ _ h=>?_) (λ _ h=>?_)
 · refine za0 (za1 hG ?_)
   refine zm2 ?_;exact zt1 h
 refine ze2 ?_;refine za0 (za0 (za1 hG ?_));refine zm4 (λ hg=>(zbN7 a0.aB a2).ok) ?_;refine ze5 rfl hG h (λ _ h=>?_) (λ _ h=>?_)
 · refine za0 (za1 hG ?_)
   refine zm2 ?_;exact zt1 h
 refine ze2 ?_;refine za0 (za0 (za1 hG ?_));obtain⟨v2,hv2,h⟩:=zb8 h;refine zm4 (λ hg=>(zaz3 a0 a1).ok _ hv2) ?_;refine za0 (za1 hG ?_);refine ze5 rfl hG h (λ _ h=>?_) (λ _ h=>?_)
 · refine za0 (za1 hG ?_)
   refine zm2 ?_;exact zt1 h
 refine ze2 ?_;refine za0 (zai3 zC5 hG ?_);obtain⟨v3,hv3,h⟩:=zb8 h;refine zaM3 [] [(0,5),(1,6),(2,7)] [0,1,2] (zbq2 _ _ hv3) rfl rfl ?_;obtain⟨v4,hv4,h⟩:=zb8 h;refine zH5 (λ hg=>(zaK1 a0 a1).ok _ hv4) ?_;refine za0 (za0 (za1 hG ?_));obtain⟨v5,hv5,h⟩:=zb8 h;refine zm4 (λ hg=>(zaM9 a0.aB v4 a2).ok _ hv5) ?_;refine ze5 rfl hG h (λ _ h=>?_) (λ _ h=>?_)
 · refine za0 (za1 hG ?_)
   refine zm2 ?_;exact zt1 h
 refine ze2 ?_;refine za0 (za0 (za1 hG ?_));refine zm4 (λ hg=>(zaD7 v4).ok) ?_;refine ze5 rfl hG h (λ _ h=>?_) (λ _ h=>?_)
 · refine za0 (za1 hG ?_)
   obtain⟨v6,hv6,h⟩:=zb8 h;refine zp6 [(0,8),(1,10),(2,5),(3,6),(4,7),(5,9),(6,2),(7,1)] [] [0,1,2,3,4,5,6,7] (zbm5 _ _ _ _ _ hv6) rfl rfl ?_;refine zm2 ?_;exact zt1 h
 refine ze2 ?_;refine za0 (za0 (za1 hG ?_));refine ze5 rfl hG h (λ _ h=>?_) (λ _ h=>?_)
 · refine za0 (za1 hG ?_)
   refine zm2 ?_;exact zt1 h
 refine ze2 ?_;refine za0 (za1 hG ?_);obtain⟨v7,hv7,h⟩:=zb8 h;refine zm4 (λ hg=>(zbO0 a0.aT ({aM.zero with aI:=a1,aK:=a2,aV:=a3})).ok _ hv7) ?_;refine za0 (za0 (za1 hG ?_));refine ze5 rfl hG h (λ _ h=>?_) (λ _ h=>?_)
 · refine za0 (za1 hG ?_)
   refine zm2 ?_;exact zt1 h
 refine ze2 ?_;refine za0 (za1 hG ?_);obtain⟨v8,hv8,h⟩:=zb8 h;refine zp6 [(0,8),(1,11),(2,5),(3,6),(4,7),(5,10)] [] [0,1,2,3,4,5] (zbh7 _ _ _ hv8) rfl rfl ?_;refine zm2 ?_;exact zt1 h
instance zcU3(a0:aA)(a1:aF)(a2:aC)(a3:Int):OkP (zJ3 a0 a1 a2 a3) 147 [ga a0,ga a1,ga a2,.int .i64 a3] (λ r=>.tup [ga r.1,la r.2.1,.int .i64 r.2.2]):=⟨zbO2 a0 a1 a2 a3⟩
attribute [local irreducible] zJ3
def zT6(j1:aA×aF):Option (aA×(List aO)×Int×aA×aF):=
 (zr7 j1.1).bind λ v1=>
 some ({v1.2 with gen:=(zt3 v1.2.gen)},v1.1,0,{v1.2 with gen:=(zt3 v1.2.gen)},j1.2)
@[go_sem] def zdx7(j1:aA×aF):St:=⟨[(0,.ptr 0 0 0),(4,.ptr 3 0 0)],[(0,bx j1.1),(1,⟨false,1,[A.clo zaa8 []],[[.clo 210 [.ptr 0 0 0,.ptr 2 0 0]],[.clo 212 [.ptr 0 0 0,.ptr 2 0 0]]]⟩),(2,bx j1.2),(3,bx aA.zero)],4⟩
def zF5(a0:aA)(a1:aF):Option (aA×(List aO)×Int×aA×aF):=
 gd (0<=0/\0<(2:Int))<|
 (zf3 a0 a1).bind λ v2=>
 gd (0<=1/\1<(2:Int))<|
 (zg8 v2.1 v2.2).bind λ v3=>
 zT6 (v3.1,v3.2)
theorem zbh8(a0:aA)(a1:aF)(r:aA×(List aO)×Int×aA×aF)(h:zF5 a0 a1=some r):MFn C 205 [.ptr 0 0 0,.own 1 0 2] [(0,bx a0),(1,⟨false,1,[A.clo zaa8 []],[[.clo 210 [.ptr 0 0 0,.ptr 2 0 0]],[.clo 212 [.ptr 0 0 0,.ptr 2 0 0]]]⟩),(2,bx a1)] 3 (.tup [ga r.1,la r.2.1,.int .i64 r.2.2.1]) [(0,bx r.2.2.2.1),(1,⟨false,1,[A.clo zaa8 []],[[.clo 210 [.ptr 0 0 0,.ptr 2 0 0]],[.clo 212 [.ptr 0 0 0,.ptr 2 0 0]]]⟩),(2,bx r.2.2.2.2)] 3:=by
 refine zZ4 Tryz.f205 [(17,1)] [ga r.1,la r.2.1,.int .i64 r.2.2.1] λ E hG hN hK=>?_;unfold zF5 at h;refine za0 (za1 hG ?_);refine za0 (za0 (za1 hG ?_));refine zy5 zdx7 (λ v=>zT6 v=some r) ?_ ?_
 · intro j1 h
   unfold zT6 at h;refine g_st ?_;refine za0 (za1 hG ?_);obtain⟨v1,hv1,h⟩:=zb8 h;refine zp6 [(0,0)] [] [0] (zN0 _ _ hv1) rfl rfl ?_;refine za0 (za1 hG ?_);refine zm4 (λ hg=>(zaj2 v1.2.gen).ok) ?_;refine za0 (za1 hG ?_);refine zm2 ?_;exact zE4 [(0,0),(1,1),(2,2)] h
 refine zaM1 4 ?_;refine zaf3 ?_;refine za0 (za1 hG ?_);refine za0 ?_;refine zak3 rfl hG ?_;refine ze2 ?_;refine za0 (zw6 (za0 ?_));obtain⟨hb2,h⟩:=ze3 h;refine za1 hG ?_;refine za1 hG ?_;obtain⟨v2,hv2,h⟩:=zb8 h;refine zp6 [(0,0),(1,2)] [] [0,1] ((zaY7 a0 a1).ok _ hv2) rfl rfl ?_;refine za1 hG ?_;refine zaf3 ?_;refine za0 (za1 hG ?_);refine za0 ?_;refine zak3 rfl hG ?_;refine ze2 ?_;refine za0 (zw6 (za0 ?_));obtain⟨hb1,h⟩:=ze3 h;refine za1 hG ?_;refine za1 hG ?_;obtain⟨v3,hv3,h⟩:=zb8 h;refine zp6 [(0,0),(1,2)] [] [0,1] ((zaZ0 v2.1 v2.2).ok _ hv3) rfl rfl ?_;refine za1 hG ?_;refine zaf3 ?_;refine za0 (za1 hG ?_);refine za0 ?_;refine zaB0 rfl hG ?_;refine zA6 ?_;exact zs2 hK [(0,0),(1,1),(2,2),(3,3)] (v3.1,v3.2) (by exact h)
attribute [local irreducible] zF5
def zF6(a0:aA)(a1:aF):Option (aA×(List aO)×Int):=
 (zz2 a0).bind λ v1=>
 (if(!v1)=true then
  some ({aA.zero with},[],2)
 else
  (zn6 a0 a1).bind λ v2=>
  (if(!v2.2)=true then
   some ({aA.zero with},[],10)
  else
   (zi3 a0).bind λ v3=>
   (zF5 v3 a1).bind λ v4=>
   some (v4.1,v4.2.1,v4.2.2.1)))
theorem zbE2(a0:aA)(a1:aF)(r:aA×(List aO)×Int)(h:zF6 a0 a1=some r):PFn C 153 [ga a0,ga a1] (.tup [ga r.1,la r.2.1,.int .i64 r.2.2]):=by
 refine zW0 Tryz.f153 [(27,1)] λ E hG hN hK=>?_;unfold zF6 at h;refine za0 (za1 hG ?_);refine za0 (za0 (za1 hG ?_));obtain⟨v1,hv1,h⟩:=zb8 h;refine zm4 (λ hg=>(zap7 a0).ok _ hv1) ?_;refine ze5 rfl hG h (λ _ h=>?_) (λ _ h=>?_)
 · refine za0 (za1 hG ?_)
   refine zm2 ?_;exact zt1 h
 refine ze2 ?_;refine za0 (za0 (za1 hG ?_));obtain⟨v2,hv2,h⟩:=zb8 h;refine zm4 (λ hg=>(zaz3 a0 a1).ok _ hv2) ?_;refine za0 (za1 hG ?_);refine ze5 rfl hG h (λ _ h=>?_) (λ _ h=>?_)
 · refine za0 (za1 hG ?_)
   refine zm2 ?_;exact zt1 h
 refine ze2 ?_;refine za0 (za1 hG ?_);obtain⟨v3,hv3,h⟩:=zb8 h;refine zm4 (λ hg=>(zaD9 a0).ok _ hv3) ?_;refine za0 (za1 hG ?_);obtain⟨v4,hv4,h⟩:=zb8 h;refine zp6 [(0,4),(1,5),(2,1)] [] [0,1,2] (zbh8 _ _ _ hv4) rfl rfl ?_;refine zm2 ?_;exact zt1 h
instance zcO1(a0:aA)(a1:aF):OkP (zF6 a0 a1) 153 [ga a0,ga a1] (λ r=>.tup [ga r.1,la r.2.1,.int .i64 r.2.2]):=⟨zbE2 a0 a1⟩
attribute [local irreducible] zF6
def zT7(j1:aA×aF×aC):Option (aA×(List aO)×Int×aA×aF×aC):=
 (zr7 j1.1).bind λ v1=>
 some ({v1.2 with gen:=(zt3 v1.2.gen)},v1.1,0,{v1.2 with gen:=(zt3 v1.2.gen)},j1.2.1,j1.2.2)
@[go_sem] def zdx8(j1:aA×aF×aC):St:=⟨[(0,.ptr 0 0 0),(4,.ptr 4 0 0)],[(0,bx j1.1),(1,⟨false,1,[A.clo zaa8 []],[[.clo 214 [.ptr 0 0 0,.ptr 2 0 0,.ptr 3 0 0]]]⟩),(2,bx j1.2.1),(3,bx j1.2.2),(4,bx aA.zero)],5⟩
def zF7(a0:aA)(a1:aF)(a2:aC):Option (aA×(List aO)×Int×aA×aF×aC):=
 gd (0<=0/\0<(1:Int))<|
 (zq4 a0 a1 a2).bind λ v2=>
 zT7 (v2.1,v2.2.1,v2.2.2)
theorem zbh9(a0:aA)(a1:aF)(a2:aC)(r:aA×(List aO)×Int×aA×aF×aC)(h:zF7 a0 a1 a2=some r):MFn C 205 [.ptr 0 0 0,.own 1 0 1] [(0,bx a0),(1,⟨false,1,[A.clo zaa8 []],[[.clo 214 [.ptr 0 0 0,.ptr 2 0 0,.ptr 3 0 0]]]⟩),(2,bx a1),(3,bx a2)] 4 (.tup [ga r.1,la r.2.1,.int .i64 r.2.2.1]) [(0,bx r.2.2.2.1),(1,⟨false,1,[A.clo zaa8 []],[[.clo 214 [.ptr 0 0 0,.ptr 2 0 0,.ptr 3 0 0]]]⟩),(2,bx r.2.2.2.2.1),(3,bx r.2.2.2.2.2)] 4:=by
 refine zZ4 Tryz.f205 [(17,1)] [ga r.1,la r.2.1,.int .i64 r.2.2.1] λ E hG hN hK=>?_;unfold zF7 at h;refine za0 (za1 hG ?_);refine za0 (za0 (za1 hG ?_));refine zy5 zdx8 (λ v=>zT7 v=some r) ?_ ?_
 · intro j1 h
   unfold zT7 at h;refine g_st ?_;refine za0 (za1 hG ?_);obtain⟨v1,hv1,h⟩:=zb8 h;refine zp6 [(0,0)] [] [0] (zN0 _ _ hv1) rfl rfl ?_;refine za0 (za1 hG ?_);refine zm4 (λ hg=>(zaj2 v1.2.gen).ok) ?_;refine za0 (za1 hG ?_);refine zm2 ?_;exact zE4 [(0,0),(1,1),(2,2),(3,3)] h
 refine zaM1 3 ?_;refine zaf3 ?_;refine za0 (za1 hG ?_);refine za0 ?_;refine zak3 rfl hG ?_;refine ze2 ?_;refine za0 (zw6 (za0 ?_));obtain⟨hb1,h⟩:=ze3 h;refine za1 hG ?_;refine za1 hG ?_;obtain⟨v2,hv2,h⟩:=zb8 h;refine zp6 [(0,0),(1,2),(2,3)] [] [0,1,2] ((zbh5 a0 a1 a2).ok _ hv2) rfl rfl ?_;refine za1 hG ?_;refine zaf3 ?_;refine za0 (za1 hG ?_);refine za0 ?_;refine zaB0 rfl hG ?_;refine zA6 ?_;exact zs2 hK [(0,0),(1,1),(2,2),(3,3),(4,4)] (v2.1,v2.2.1,v2.2.2) (by exact h)
attribute [local irreducible] zF7
def zJ4(a0:aA)(a1:aF)(a2:aC):Option (aA×(List aO)×Int):=
 (zz2 a0).bind λ v1=>
 (if(!v1)=true then
  some ({aA.zero with},[],2)
 else
  (zj4 a0 a1).bind λ v2=>
  (if(zf8 v2)=true then
   some ({aA.zero with},[],10)
  else
   (zk2 a0.aH a1).bind λ v3=>
   (if(decide (0<=v3))=true then
    some ({aA.zero with},[],14)
   else
    (zo5 a0.aB v2 a2).bind λ v4=>
    (if(!v4)=true then
     some ({aA.zero with},[],12)
    else
     (zi3 a0).bind λ v5=>
     (if(decide (a2=v2))=true then
      some (v5,[],0)
     else
      (zF7 v5 a1 a2).bind λ v6=>
      some (v6.1,v6.2.1,v6.2.2.1))))))
theorem zbO3(a0:aA)(a1:aF)(a2:aC)(r:aA×(List aO)×Int)(h:zJ4 a0 a1 a2=some r):PFn C 154 [ga a0,ga a1,ga a2] (.tup [ga r.1,la r.2.1,.int .i64 r.2.2]):=by
 refine zW0 Tryz.f154 [(41,1)] λ E hG hN hK=>?_;unfold zJ4 at h;refine za0 (za1 hG ?_);refine za0 (za0 (za1 hG ?_));obtain⟨v1,hv1,h⟩:=zb8 h;refine zm4 (λ hg=>(zap7 a0).ok _ hv1) ?_;refine ze5 rfl hG h (λ _ h=>?_) (λ _ h=>?_)
 · refine za0 (za1 hG ?_)
   refine zm2 ?_;exact zt1 h
 refine ze2 ?_;refine za0 (za1 hG ?_);obtain⟨v2,hv2,h⟩:=zb8 h;refine zm4 (λ hg=>(zaK1 a0 a1).ok _ hv2) ?_;refine za0 (za0 (za1 hG ?_));refine zm4 (λ hg=>(zaD7 v2).ok) ?_;refine ze5 rfl hG h (λ _ h=>?_) (λ _ h=>?_)
 · refine za0 (za1 hG ?_)
   refine zm2 ?_;exact zt1 h
 refine ze2 ?_;refine za0 (za0 (za1 hG ?_));obtain⟨v3,hv3,h⟩:=zb8 h;refine zm4 (λ hg=>(zci0 a0.aH a1).ok _ hv3) ?_;refine ze5 rfl hG h (λ _ h=>?_) (λ _ h=>?_)
 · refine za0 (za1 hG ?_)
   refine zm2 ?_;exact zt1 h
 refine ze2 ?_;refine za0 (za0 (za1 hG ?_));obtain⟨v4,hv4,h⟩:=zb8 h;refine zm4 (λ hg=>(zaM9 a0.aB v2 a2).ok _ hv4) ?_;refine ze5 rfl hG h (λ _ h=>?_) (λ _ h=>?_)
 · refine za0 (za1 hG ?_)
   refine zm2 ?_;exact zt1 h
 refine ze2 ?_;refine za0 (za1 hG ?_);obtain⟨v5,hv5,h⟩:=zb8 h;refine zm4 (λ hg=>(zaD9 a0).ok _ hv5) ?_;refine za0 (za0 (za1 hG ?_));refine ze5 rfl hG h (λ _ h=>?_) (λ _ h=>?_)
 · refine za0 (za1 hG ?_)
   refine zm2 ?_;exact zt1 h
 refine ze2 ?_;refine za0 (za1 hG ?_);obtain⟨v6,hv6,h⟩:=zb8 h;refine zp6 [(0,5),(1,6),(2,1),(3,2)] [] [0,1,2,3] (zbh9 _ _ _ _ hv6) rfl rfl ?_;refine zm2 ?_;exact zt1 h
instance zcU4(a0:aA)(a1:aF)(a2:aC):OkP (zJ4 a0 a1 a2) 154 [ga a0,ga a1,ga a2] (λ r=>.tup [ga r.1,la r.2.1,.int .i64 r.2.2]):=⟨zbO3 a0 a1 a2⟩
attribute [local irreducible] zJ4
def zT8(j1:aA×aF):Option (aA×(List aO)×Int×aA×aF):=
 (zr7 j1.1).bind λ v1=>
 some ({v1.2 with gen:=(zt3 v1.2.gen)},v1.1,0,{v1.2 with gen:=(zt3 v1.2.gen)},j1.2)
@[go_sem] def zdx9(j1:aA×aF):St:=⟨[(0,.ptr 0 0 0),(4,.ptr 3 0 0)],[(0,bx j1.1),(1,⟨false,1,[A.clo zaa8 []],[[.clo 263 [.ptr 0 0 0,.ptr 2 0 0]],[.clo 264 [.ptr 0 0 0,.ptr 2 0 0]],[.clo 265 [.ptr 0 0 0,.ptr 2 0 0]]]⟩),(2,bx j1.2),(3,bx aA.zero)],4⟩
def zF8(a0:aA)(a1:aF):Option (aA×(List aO)×Int×aA×aF):=
 gd (0<=0/\0<(3:Int))<|
 (zn2 a0 a1).bind λ v2=>
 gd (0<=1/\1<(3:Int))<|
 (zf5 v2.1 v2.2).bind λ v3=>
 gd (0<=2/\2<(3:Int))<|
 (zf4 v3.1 v3.2).bind λ v4=>
 zT8 (v4.1,v4.2)
theorem zbi0(a0:aA)(a1:aF)(r:aA×(List aO)×Int×aA×aF)(h:zF8 a0 a1=some r):MFn C 205 [.ptr 0 0 0,.own 1 0 3] [(0,bx a0),(1,⟨false,1,[A.clo zaa8 []],[[.clo 263 [.ptr 0 0 0,.ptr 2 0 0]],[.clo 264 [.ptr 0 0 0,.ptr 2 0 0]],[.clo 265 [.ptr 0 0 0,.ptr 2 0 0]]]⟩),(2,bx a1)] 3 (.tup [ga r.1,la r.2.1,.int .i64 r.2.2.1]) [(0,bx r.2.2.2.1),(1,⟨false,1,[A.clo zaa8 []],[[.clo 263 [.ptr 0 0 0,.ptr 2 0 0]],[.clo 264 [.ptr 0 0 0,.ptr 2 0 0]],[.clo 265 [.ptr 0 0 0,.ptr 2 0 0]]]⟩),(2,bx r.2.2.2.2)] 3:=by
 refine zZ4 Tryz.f205 [(17,1)] [ga r.1,la r.2.1,.int .i64 r.2.2.1] λ E hG hN hK=>?_;unfold zF8 at h;refine za0 (za1 hG ?_);refine za0 (za0 (za1 hG ?_));refine zy5 zdx9 (λ v=>zT8 v=some r) ?_ ?_
 · intro j1 h
   unfold zT8 at h;refine g_st ?_;refine za0 (za1 hG ?_);obtain⟨v1,hv1,h⟩:=zb8 h;refine zp6 [(0,0)] [] [0] (zN0 _ _ hv1) rfl rfl ?_;refine za0 (za1 hG ?_);refine zm4 (λ hg=>(zaj2 v1.2.gen).ok) ?_;refine za0 (za1 hG ?_);refine zm2 ?_;exact zE4 [(0,0),(1,1),(2,2)] h
 refine zaM1 5 ?_;refine zaf3 ?_;refine za0 (za1 hG ?_);refine za0 ?_;refine zak3 rfl hG ?_;refine ze2 ?_;refine za0 (zw6 (za0 ?_));obtain⟨hb3,h⟩:=ze3 h;refine za1 hG ?_;refine za1 hG ?_;obtain⟨v2,hv2,h⟩:=zb8 h;refine zp6 [(0,0),(1,2)] [] [0,1] ((zaZ4 a0 a1).ok _ hv2) rfl rfl ?_;refine za1 hG ?_;refine zaf3 ?_;refine za0 (za1 hG ?_);refine za0 ?_;refine zak3 rfl hG ?_;refine ze2 ?_;refine za0 (zw6 (za0 ?_));obtain⟨hb2,h⟩:=ze3 h;refine za1 hG ?_;refine za1 hG ?_;obtain⟨v3,hv3,h⟩:=zb8 h;refine zp6 [(0,0),(1,2)] [] [0,1] ((zaZ1 v2.1 v2.2).ok _ hv3) rfl rfl ?_;refine za1 hG ?_;refine zaf3 ?_;refine za0 (za1 hG ?_);refine za0 ?_;refine zak3 rfl hG ?_;refine ze2 ?_;refine za0 (zw6 (za0 ?_));obtain⟨hb1,h⟩:=ze3 h;refine za1 hG ?_;refine za1 hG ?_;obtain⟨v4,hv4,h⟩:=zb8 h;refine zp6 [(0,0),(1,2)] [] [0,1] ((zaY9 v3.1 v3.2).ok _ hv4) rfl rfl ?_;refine za1 hG ?_;refine zaf3 ?_;refine za0 (za1 hG ?_);refine za0 ?_;refine zaB0 rfl hG ?_;refine zA6 ?_;exact zs2 hK [(0,0),(1,1),(2,2),(3,3)] (v4.1,v4.2) (by exact h)
attribute [local irreducible] zF8
def zF9(a0:aA)(a1:aF):Option (aA×(List aO)×Int):=
 (zz2 a0).bind λ v1=>
 (if(!v1)=true then
  some ({aA.zero with},[],2)
 else
  (zz1 a0).bind λ v2=>
  (zi9 v2 a1).bind λ v3=>
  (if(!v3)=true then
   some ({aA.zero with},[],10)
  else
   (zi3 a0).bind λ v4=>
   (zF8 v4 a1).bind λ v5=>
   some (v5.1,v5.2.1,v5.2.2.1)))
theorem zbE3(a0:aA)(a1:aF)(r:aA×(List aO)×Int)(h:zF9 a0 a1=some r):PFn C 217 [ga a0,ga a1] (.tup [ga r.1,la r.2.1,.int .i64 r.2.2]):=by
 refine zW0 Tryz.f217 [(23,1)] λ E hG hN hK=>?_;unfold zF9 at h;refine za0 (za1 hG ?_);refine za0 (za0 (za1 hG ?_));obtain⟨v1,hv1,h⟩:=zb8 h;refine zm4 (λ hg=>(zap7 a0).ok _ hv1) ?_;refine ze5 rfl hG h (λ _ h=>?_) (λ _ h=>?_)
 · refine za0 (za1 hG ?_)
   refine zm2 ?_;exact zt1 h
 refine ze2 ?_;refine za0 (za0 (zbl3 zC5 hG ?_));obtain⟨v2,hv2,h⟩:=zb8 h;refine zaf4 (λ hg=>(zaZ9 a0).ok _ hv2) ?_;obtain⟨v3,hv3,h⟩:=zb8 h;refine zaf4 (λ hg=>(zaM8 v2 a1).ok _ hv3) ?_;refine ze5 rfl hG h (λ _ h=>?_) (λ _ h=>?_)
 · refine za0 (za1 hG ?_)
   refine zm2 ?_;exact zt1 h
 refine ze2 ?_;refine za0 (za1 hG ?_);obtain⟨v4,hv4,h⟩:=zb8 h;refine zm4 (λ hg=>(zaD9 a0).ok _ hv4) ?_;refine za0 (za1 hG ?_);obtain⟨v5,hv5,h⟩:=zb8 h;refine zp6 [(0,3),(1,4),(2,1)] [] [0,1,2] (zbi0 _ _ _ hv5) rfl rfl ?_;refine zm2 ?_;exact zt1 h
instance zcO2(a0:aA)(a1:aF):OkP (zF9 a0 a1) 217 [ga a0,ga a1] (λ r=>.tup [ga r.1,la r.2.1,.int .i64 r.2.2]):=⟨zbE3 a0 a1⟩
attribute [local irreducible] zF9
def zaI4(j1:(List aA)×(List aS)):Option ((List aA)×(List aS)):=
 some (j1.1,j1.2)
def zT9(a0:List aA)(g1:Int×(List aA)×(List aS))(v3:aA×(List aO)×Int)(j2:(List aS)):Option ((Int×(List aA)×(List aS))⊕((List aA)×(List aS))):=
 (zf1 (((a0.getD g1.1.toNat aA.zero).aB).name) v3.2.1 j2).bind λ v5=>
 gd (0<=g1.1/\g1.1<((g1.2.1.length:Nat):Int))<|
 some (.inl ((i64.wrap (g1.1+1)),g1.2.1.set g1.1.toNat v3.1,v5))
def zU0(a0:List aA)(a1:aF)(g1:Int×(List aA)×(List aS)):Option ((Int×(List aA)×(List aS))⊕((List aA)×(List aS))):=
 (if(decide (g1.1<(a0.length:Int)))=true then
  gd (0<=g1.1/\g1.1<(a0.length:Int))<|
  (zF9 (a0.getD g1.1.toNat aA.zero) a1).bind λ v3=>
  (if(!decide (v3.2.2=0))=true then
   some (.inl ((i64.wrap (g1.1+1)),g1.2.1,g1.2.2))
  else
   (zj4 (a0.getD g1.1.toNat aA.zero) a1).bind λ v4=>
   (if(!decide (v4={aC.zero with}))=true then
    gd (g1.2.2.length+1<=4294967296)<|
    zT9 a0 g1 v3 (g1.2.2++[(zaB2 a1 (((a0.getD g1.1.toNat aA.zero).aB).name) ({aC.zero with}))])
   else
    zT9 a0 g1 v3 g1.2.2))
 else
  some (.inr (g1.2.1,g1.2.2)))
def zG0(a0:List aA)(a1:aF):Option ((List aA)×(List aS)):=
 (zz3 a0).bind λ v1=>
 (if(!v1)=true then
  some ([],[])
 else
  (zc8 a0 (-1) ({aA.zero with})).bind λ v2=>
  (zc0 (zU0 a0 a1) (0,v2,[])).bind (λ z=>zaI4 z))
@[reducible,instance] def zdX4 a0 a1 {T1:Type} (v1:T1) {T2:Type} (v2:T2):=mkJ ((zG0 a0 a1,v1),v2) 0 (@zaI4.eq_1) λ(j1:(List aA)×(List aS))=>⟨[(6,.own 0 0 j1.1.length),(7,.own 1 0 j1.2.length)],[(0,sx j1.1),(1,sx j1.2)],2⟩
@[reducible,instance] def zdX5 (a0:List aA) (a1:aF) (g1:Int×(List aA)×(List aS)) (v3:aA×(List aO)×Int) {T1:Type} (v4:T1):=mkJ ((zU0 a0 a1 g1,v3),v4) 999 (@zT9.eq_1 a0 g1 v3) λ(j2:(List aS))=>⟨[(3,.ptr 0 0 0),(6,.own 1 0 g1.2.1.length),(7,.own 2 0 j2.length),(8,.int .i64 g1.1),(9,.ptr 3 0 0),(10,.ptr 4 0 0),(11,la v3.2.1),(19,la a0),(20,.int .i64 (a0.length:Int)),(21,.int .i64 g1.1)],[(0,bx a1),(1,sx g1.2.1),(2,sx j2),(3,bx (a0.getD g1.1.toNat aA.zero)),(4,bx v3.1)],5⟩
@[reducible,instance] def zdX6 (a0:List aA) (a1:aF) {T:Type} (x:T):=mkL x (@zU0.eq_1 a0 a1) λ(g1:Int×(List aA)×(List aS))=>⟨[(3,.ptr 0 0 0),(6,.own 1 0 g1.2.1.length),(7,.own 2 0 g1.2.2.length),(19,la a0),(20,.int .i64 (a0.length:Int)),(21,.int .i64 g1.1)],[(0,bx a1),(1,sx g1.2.1),(2,sx g1.2.2)],3⟩
instance zcU5(a0:List aA)(a1:aF):OkP (zG0 a0 a1) 157 [la a0,ga a1] (λ r=>.tup [la r.1,la r.2]):=ok1 (zG0.eq_1 a0 a1) Tryz.f157 [(18,1),(7,1)]
attribute [local irreducible] zG0
end
end Ab
end Go.Proofs.YtdlfhmkmnjbihaaGreatDoor
