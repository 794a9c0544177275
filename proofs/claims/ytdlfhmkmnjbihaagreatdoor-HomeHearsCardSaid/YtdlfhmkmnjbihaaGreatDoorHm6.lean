import Derived.Test.YtdlfhmkmnjbihaaGreatDoorAuto
import Derived.Test.YtdlfhmkmnjbihaaGreatDoorHand
import Derived.Test.YtdlfhmkmnjbihaaGreatDoorHm1
import Derived.Test.YtdlfhmkmnjbihaaGreatDoorHm2
import Derived.Test.YtdlfhmkmnjbihaaGreatDoorHm3
namespace Go.Proofs.YtdlfhmkmnjbihaaGreatDoor
namespace Ab
open IntKind (i64 u64 u8)
set_option linter.unusedSimpArgs false
set_option linter.defProp false
set_option linter.unusedVariables false
set_option maxRecDepth 100000
set_option maxHeartbeats 1000000
noncomputable section
def zS6(a0:aF)(a1 a2:Int):aK:=
 {aK.zero with kind:=1,aI:=a0,gen:=a1,aW:=(⟨(⟨#[97]⟩:ByteArray),{aC.zero with mode:=a2}⟩:aO)}
instance zdx0(a0:aF)(a1 a2:Int):OkT 32 [.agg (aF.enc a0),.int .i64 a1,.int .i64 a2] (.agg (aK.enc (zS6 a0 a1 a2))):=ok2 (λ r=>.agg (aK.enc r)) (zS6.eq_1 a0 a1 a2) Tryz.f32 []
def zk5(a0:aC):Bool:=
 (decide (a0={aC.zero with}))
instance zaQ1(a0:aC):OkT 204 [.agg (aC.enc a0)] (.bool (zk5 a0)):=ok2 (λ r=>.bool r) (zk5.eq_1 a0) Tryz.f204 []
def zaJ8(j1:(List aF)):Option (List aF):=
 some j1
def zaJ9(a0:List aT)(g1:Int×(List aF)):Option ((Int×(List aF))⊕(List aF)):=
 (if(decide (g1.1<(a0.length:Int)))=true then
  gd (0<=g1.1/\g1.1<(a0.length:Int))<|
  gd (g1.2.length+1<=4294967296)<|
  some (.inl ((i64.wrap (g1.1+1)),(g1.2++[(a0.getD g1.1.toNat aT.zero).aI])))
 else
  some (.inr g1.2))
def zd8(a0:List aT):Option (List aF):=
 (zc1 (zaJ9 a0) (0,[])).bind (λ z=>zaJ8 z)
@[reducible,instance] def zen2 a0:=mkJ (zd8 a0) 0 (@zaJ8.eq_1) λ(j1:(List aF))=>⟨[(3,.own 0 0 j1.length)],[(0,sx j1)],1⟩
@[reducible,instance] def zen3 (a0:List aT) {T:Type} (x:T):=mkL x (@zaJ9.eq_1 a0) λ(g1:Int×(List aF))=>⟨[(3,.own 0 0 g1.2.length),(6,la a0),(7,.int .i64 (a0.length:Int)),(8,.int .i64 g1.1)],[(0,sx g1.2)],1⟩
instance zcQ1(a0:List aT):OkM (zd8 a0) 85 [la a0] [] 0 (λ r=>.own 0 0 r.length) (λ r=>[(0,sx r)]) 1:=okm (zd8.eq_1 a0) (λ r=>[.own 0 0 r.length]) Tryz.f85 [(2,1),(3,1)]
attribute [local irreducible] zd8
def za8(a0:Int):Option (List aM):=gd (0<=a0/\a0<=4294967296) (some [])
theorem zax2:Lays8.n4 C.P ⟨λ|4=>244|n=>n,λ|22=>64|25=>125|n=>n,λ n=>n⟩ where
 mixed:=zK6
 f4:=⟨Tryz.f244.name,by decide,Tryz.func244.trans (dC some (by kernel_rfl))⟩
 t0:=Tryz.underlying0
 a0:=Tryz.isAgg0
 z0:=Tryz.sizeOf0
 v0:=Tryz.zeroValue0
 t3:=Tryz.underlying3
 a3:=Tryz.isAgg3
 z3:=Tryz.sizeOf3
 v3:=Tryz.zeroValue3
 t4:=Tryz.underlying4
 a4:=Tryz.isAgg4
 z4:=Tryz.sizeOf4
 v4:=Tryz.zeroValue4
 t9:=Tryz.underlying9
 a9:=Tryz.isAgg9
 z9:=Tryz.sizeOf9
 v9:=Tryz.zeroValue9
 t20:=Tryz.underlying20
 a20:=Tryz.isAgg20
 z20:=Tryz.sizeOf20
 v20:=Tryz.zeroValue20
 t22:=Tryz.underlying64
 a22:=Tryz.isAgg64
 z22:=Tryz.sizeOf64
 v22:=Tryz.zeroValue64
theorem zau1(a0:Int)(r:List aM)(h:za8 a0=some r):MFn C 244 [.full [],.int .i64 a0] [] 0 (.own 0 0 r.length) [(0,sx r)] 1:=by obtain⟨⟨h0,h1⟩,h⟩:=zg4 h;obtain rfl:=dP h;exact zdw9 zax2 (by kernel_rfl) rfl _ a0 h0 h1
attribute [local irreducible] za8
def zc3:Option (List (Int×bH)):=
 some (zbR2 66 (⟨193,(-1),99,1⟩:bH) (zbR2 73 ({bH.zero with of:=192,low:=1,high:=99}) (zbR2 83 ({bH.zero with of:=191,high:=3}) (zbR2 89 ({bH.zero with of:=190,high:=7}) (zbR2 69 ({bH.zero with of:=189,high:=1073741824}) (zbR2 82 ({bH.zero with of:=188,high:=1073741824}) (zbR2 71 ({bH.zero with of:=187,high:=1073741824}) ([]:List (Int×bH)))))))))
instance zaj9:OkM zc3 140 [] [] 0 (λ r=>.mp 0) (λ r=>[(0,⟨false,0,[A.int .u8 0,A.bool true],r.map (mI .u8 bH.enc)⟩)]) 1:=okm zc3.eq_1 (λ r=>[.mp 0]) Tryz.f140 []
attribute [local irreducible] zc3
def zat6(a0:aO)(a1:List aO)(j1:Unit):Option (Int×(List aO)):=
 (if(decide (((a1.length:Nat):Int)=8))=true then
  some (4,a1)
 else
  gd (a1.length+1<=4294967296)<|
  some (0,(a1++[a0])))
def zR6(a0:aO)(a1:List aO)(g1:Int):Option (Int⊕(Unit⊕(Int×(List aO)))):=
 (if(decide (g1<((a1.length:Nat):Int)))=true then
  gd (0<=g1/\g1<((a1.length:Nat):Int))<|
  (if(decide (a0=a1.getD g1.toNat aO.zero))=true then
   some (.inr (.inr (0,a1)))
  else
   (if(a0.name.toList==((a1.getD g1.toNat aO.zero).name).toList)=true then
    some (.inr (.inr (13,a1)))
   else
    some (.inl (i64.wrap (g1+1)))))
 else
  some (.inr (.inl ())))
def ze2(a0:aO)(a1:List aO):Option (Int×(List aO)):=
 (zc1 (zR6 a0 a1) 0).bind (λ|.inl z=>zat6 a0 a1 z|.inr z=>some z)
@[reducible,instance] def zen4 (a0:aO) (a1:List aO):=mkJ (ze2 a0 a1) 0 (@zat6.eq_1 a0 a1) λ(j1:Unit)=>⟨[(0,.ptr 0 0 0),(3,.ptr 2 0 0)],[(0,⟨false,1,[A.sl ([].map aO.enc)],[[.own 3 0 a1.length]]⟩),(2,bx a0),(3,sx a1)],4⟩
@[reducible,instance] def zen5 (a0:aO) (a1:List aO) {T:Type} (x:T):=mkL x (@zR6.eq_1 a0 a1) λ(g1:Int)=>⟨[(0,.ptr 0 0 0),(3,.ptr 2 0 0),(9,.own 3 0 a1.length),(10,.int .i64 ((a1.length:Nat):Int)),(11,.int .i64 g1)],[(0,⟨false,1,[A.sl ([].map aO.enc)],[[.own 3 0 a1.length]]⟩),(2,bx a0),(3,sx a1)],4⟩
instance zbz5(a0:aO)(a1:List aO):OkM (ze2 a0 a1) 285 [.ptr 0 0 0,ga a0] [(0,⟨false,1,[A.sl ([].map aO.enc)],[[.own 1 0 a1.length]]⟩),(1,sx a1)] 2 (λ r=>.int .i64 r.1) (λ r=>[(0,⟨false,1,[A.sl ([].map aO.enc)],[[.own 2 0 r.2.length]]⟩),(2,sx r.2)]) 3:=okm (ze2.eq_1 a0 a1) (λ r=>[.int .i64 r.1]) Tryz.f285 []
attribute [local irreducible] ze2
def zK7(a0:Int)(a1:aK)(j2:Bool):Option aK:=
 (if j2=true then
  some ({a1 with state:={aS.zero with}})
 else
  (if(decide (a0=79))=true then
   some ({a1 with options:=[]})
  else
   some a1))
@[go_sem] def zdV6(a0:Int)(a1:aK)(j2:Bool):St:=⟨[(0,.ptr 0 0 0),(4,.int .u8 a0),(23,.bool j2)],[(0,bx a1)],1⟩
def zK8(a0:Int)(a1:aK)(j1:Bool):Option aK:=
 (if j1=true then
  some ({a1 with aW:={aO.zero with}})
 else
  (if(decide (a0=68))=true then
   some ({a1 with done:=false})
  else
   (if(decide (a0=78))=true then
    zK7 a0 a1 (decide (a0=78))
   else
    zK7 a0 a1 (decide (a0=76)))))
@[go_sem] def zdV7(a0:Int)(a1:aK)(j1:Bool):St:=⟨[(0,.ptr 0 0 0),(4,.int .u8 a0),(11,.bool j1)],[(0,bx a1)],1⟩
def zb9(a0:Int)(a1:aK):Option aK:=
 (if(decide (a0=80))=true then
  some ({a1 with aI:={aF.zero with}})
 else
  (if(decide (a0=65))=true then
   zK8 a0 a1 (decide (a0=65))
  else
   zK8 a0 a1 (decide (a0=97))))
theorem zaX3(a0:Int)(a1 r:aK)(h:zb9 a0 a1=some r):MFn C 142 [.ptr 0 0 0,.int .u8 a0] [(0,bx a1)] 1 (.tup []) [(0,bx r)] 1:=by
 refine zU4 Tryz.f142 [] [] λ E hG hN hK=>?_;unfold zb9 at h;refine za0 (za1 hG ?_);refine zy9 (za0 (za1 hG ?_));refine zh9 rfl hG h (λ _ h=>?_) (λ _ h=>?_)
 · refine za1 hG ?_
   exact zx8 [(0,0)] h
 refine za0 (za0 (za1 hG ?_));refine zaA2 (zdV7 a0 a1) (λ v=>zK8 a0 a1 v=some r) rfl hG h ?_ (λ _ h=>?_) (λ _ h=>?_)
 · intro j1 h
   unfold zK8 at h;refine g_st ?_;refine zh9 rfl hG h (λ _ h=>?_) (λ _ h=>?_)
   · refine za1 hG ?_
     exact zx8 [(0,0)] h
   refine za0 (za1 hG ?_);refine zh9 rfl hG h (λ _ h=>?_) (λ _ h=>?_)
   · refine za1 hG ?_
     exact zx8 [(0,0)] h
   refine za0 (za0 (za1 hG ?_));refine zaA2 (zdV6 a0 a1) (λ v=>zK7 a0 a1 v=some r) rfl hG h ?_ (λ _ h=>?_) (λ _ h=>?_)
   · intro j2 h
     unfold zK7 at h;refine g_st ?_;refine zh9 rfl hG h (λ _ h=>?_) (λ _ h=>?_)
     · refine za1 hG ?_
       exact zx8 [(0,0)] h
     refine za0 (za1 hG ?_);refine zh9 rfl hG h (λ _ h=>?_) (λ _ h=>?_)
     · refine za1 hG ?_
       exact zx8 [(0,0)] h
     refine zh7 ?_;exact zx8 [(0,0)] h
   · refine zh7 ?_
     exact zv9 hK [(0,0)] (decide (a0=78)) (by exact h)
   refine za1 hG ?_;exact zv9 hK [(0,0)] (decide (a0=76)) (by exact h)
 · refine zh7 ?_
   exact zv9 hK [(0,0)] (decide (a0=65)) (by exact h)
 refine za1 hG ?_;exact zv9 hK [(0,0)] (decide (a0=97)) (by exact h)
attribute [local irreducible] zb9
def zY7(j1:Int×(List Int)):Option (List Int):=
 gd (j1.2.length+1<=4294967296)<|
 some (j1.2++[(u8.wrap j1.1)])
@[go_sem] def zdV8(j1:Int×(List Int)):St:=⟨[(1,.int .u64 j1.1),(5,.own 0 0 j1.2.length)],[(0,⟨false,1,[A.int .u8 0],j1.2.map (eI .u8)⟩)],1⟩
def zan1(g1:Int×(List Int)):Option ((Int×(List Int))⊕(Int×(List Int))):=
 (if(decide (127<g1.1))=true then
  gd (g1.2.length+1<=4294967296)<|
  some (.inl ((g1.1.fdiv (2^7)),(g1.2++[(zah8 .or .u8 (u8.wrap (zah8 .and .u64 g1.1 127)) 128)])))
 else
  some (.inr (g1.1,g1.2)))
@[go_sem] def zdV9(g1:Int×(List Int)):St:=⟨[(1,.int .u64 g1.1),(5,.own 0 0 g1.2.length)],[(0,⟨false,1,[A.int .u8 0],g1.2.map (eI .u8)⟩)],1⟩
def zb2(a0:List Int)(a1:Int):Option (List Int):=
 gd (0<=0/\0<=(a0.length:Int)/\(a0.length:Int)<=(a0.length:Int)/\(a0.length:Int)=(a0.length:Int))<|
 (if(decide (127<a1))=true then
  gd ((a0.take ((a0.length:Int).toNat)).length+1<=4294967296)<|
  (zc1 zan1 ((a1.fdiv (2^7)),(a0.take ((a0.length:Int).toNat)++[(zah8 .or .u8 (u8.wrap (zah8 .and .u64 a1 127)) 128)]))).bind (λ z=>zY7 z)
 else
  gd ((a0.take ((a0.length:Int).toNat)).length+1<=4294967296)<|
  some (a0.take ((a0.length:Int).toNat)++[(u8.wrap a1)]))
theorem zE6(a0:List Int)(a1:Int)(r:(List Int))(h:zb2 a0 a1=some r):MFn C 144 [.sl (a0.map (eI .u8)),.int .u64 a1] [] 0 (.own 0 0 r.length) [(0,⟨false,1,[A.int .u8 0],r.map (eI .u8)⟩)] 1:=by
 refine zU4 Tryz.f144 [(4,1)] [.own 0 0 r.length] λ E hG hN hK=>?_;unfold zb2 at h;refine za0 (za1 hG ?_);refine za0 ?_;obtain⟨hb5,h⟩:=zg4 h;refine za1 hG ?_;refine za0 ?_;refine zcs8 zdV8 (λ v=>zY7 v=some r) ?_ ?_
 · intro j1 h
   unfold zY7 at h;refine g_st ?_;refine za0 ?_;obtain⟨hb1,h⟩:=zg4 h;refine za1 hG ?_;refine zm8 ?_;exact zx8 [(0,1)] h
 refine zdv1 (body:=zan1) (kk:=λ z=>zY7 z) (r:=r) zdV9 hK ?_ (λ x_l1 h g1 y_l1 h_l1 hx_l1=>?_)
 · refine za0 (za0 (za1 hG ?_))
   refine zh9 rfl hG h (λ _ h=>?_) (λ _ h=>?_)
   · refine zh7 ?_
     refine zy9 (za0 ?_);obtain⟨hb3,h⟩:=zg4 h;refine za1 hG ?_;refine za1 hG ?_;exact zdb0 hK [(0,1)] h
   refine zE5 ?_;refine .inr ?_;refine za0 ?_;obtain⟨hb4,h⟩:=zg4 h;refine za1 hG ?_;refine zm8 ?_;exact zx8 [(0,1)] h
 unfold zan1 at h_l1;refine g_st ?_;refine za0 (za0 (za1 hG ?_));refine zh9 rfl hG h_l1 (λ _ h_l1=>?_) (λ _ h_l1=>?_)
 · refine zh7 ?_
   refine zy9 (za0 ?_);obtain⟨hb2,h_l1⟩:=zg4 h_l1;refine za1 hG ?_;refine za1 hG ?_;exact zU3 hK [(0,1)] h_l1
 refine zE5 ?_;cases h_l1;cases hx_l1 _ rfl;refine .inl ?_;exact zv9 hK [(0,0)] (g1.1,g1.2) (by exact h)
instance zcQ2(a0:List Int)(a1:Int):OkM (zb2 a0 a1) 144 [.sl (a0.map (eI .u8)),.int .u64 a1] [] 0 (λ r=>.own 0 0 r.length) (λ r=>[(0,⟨false,1,[A.int .u8 0],r.map (eI .u8)⟩)]) 1:=⟨zE6 a0 a1⟩
attribute [local irreducible] zb2
def zbh7(j1:Unit):Option Int:=
 some (-1)
def zav7(a0:List aA)(a1:ByteArray)(g1:Int):Option (Int⊕(Unit⊕Int)):=
 (if(decide (g1<(a0.length:Int)))=true then
  gd (0<=g1/\g1<(a0.length:Int))<|
  (if((((a0.getD g1.toNat aA.zero).aB).name).toList==a1.toList)=true then
   some (.inr (.inr g1))
  else
   some (.inl (i64.wrap (g1+1))))
 else
  some (.inr (.inl ())))
def zk9(a0:List aA)(a1:ByteArray):Option Int:=
 (zc1 (zav7 a0 a1) 0).bind (λ|.inl z=>zbh7 z|.inr z=>some z)
@[reducible,instance] def zen6 a0 a1:=mkJ (zk9 a0 a1) 0 (@zbh7.eq_1) λ(j1:Unit)=>⟨[],[],0⟩
@[reducible,instance] def zen7 (a0:List aA) (a1:ByteArray) {T:Type} (x:T):=mkL x (@zav7.eq_1 a0 a1) λ(g1:Int)=>⟨[(1,.str a1),(7,la a0),(8,.int .i64 (a0.length:Int)),(9,.int .i64 g1)],[],0⟩
instance zcn5(a0:List aA)(a1:ByteArray):OkP (zk9 a0 a1) 92 [la a0,.str a1] (λ r=>.int .i64 r):=ok1 (zk9.eq_1 a0 a1) Tryz.f92 []
attribute [local irreducible] zk9
def zS7(j1:Unit):Option Int:=
 some (-1)
def zw1(a0:List aF)(a1:aF)(g1:Int):Option (Int⊕(Unit⊕Int)):=
 (if(decide (g1<(a0.length:Int)))=true then
  gd (0<=g1/\g1<(a0.length:Int))<|
  (if(decide (a1=a0.getD g1.toNat aF.zero))=true then
   some (.inr (.inr g1))
  else
   some (.inl (i64.wrap (g1+1))))
 else
  some (.inr (.inl ())))
def za6(a0:List aF)(a1:aF):Option Int:=
 (zc1 (zw1 a0 a1) 0).bind (λ|.inl z=>zS7 z|.inr z=>some z)
@[reducible,instance] def zen8 a0 a1:=mkJ (za6 a0 a1) 0 (@zS7.eq_1) λ(j1:Unit)=>⟨[],[],0⟩
@[reducible,instance] def zen9 (a0:List aF) (a1:aF) {T:Type} (x:T):=mkL x (@zw1.eq_1 a0 a1) λ(g1:Int)=>⟨[(0,la a0),(3,.ptr 0 0 0),(7,.int .i64 (a0.length:Int)),(8,.int .i64 g1)],[(0,bx a1)],1⟩
instance zbD8(a0:List aF)(a1:aF):OkP (za6 a0 a1) 216 [la a0,ga a1] (λ r=>.int .i64 r):=ok1 (za6.eq_1 a0 a1) Tryz.f216 []
attribute [local irreducible] za6
def zw6(a0:Int):Int:=
 (if(decide (a0<0)||decide (1073741824<=a0))=true then
  1
 else
  (i64.wrap (a0+1)))
instance zau2(a0:Int):OkT 258 [.int .i64 a0] (.int .i64 (zw6 a0)):=ok2 (λ r=>.int .i64 r) (zw6.eq_1 a0) Tryz.f258 []
def zc8(a0:bF)(a1:Bool)(a2:bF):Option (Bool×Bool×bF):=
 some ((a1&&decide ({a0 with gen:=0}=a2)),a1,a2)
instance zcC6(a0:bF)(a1:Bool)(a2:bF):OkM (zc8 a0 a1 a2) 103 [ga a0,.ptr 0 0 0,.ptr 1 0 0] [(0,⟨false,1,[A.bool false],[[A.bool a1]]⟩),(1,bx a2)] 2 (λ r=>.bool r.1) (λ r=>[(0,⟨false,1,[A.bool false],[[A.bool r.2.1]]⟩),(1,bx r.2.2)]) 2:=okm (zc8.eq_1 a0 a1 a2) (λ r=>[.bool r.1]) Tryz.f103 []
attribute [local irreducible] zc8
def zaK0(a1:Int)(a2:aA)(j1:(List aA)):Option (List aA):=
 (if(decide (0<=a1))=true then
  gd (0<=a1/\a1<((j1.length:Nat):Int))<|
  some (j1.set a1.toNat a2)
 else
  some j1)
def zaK1(a0:List aA)(g1:Int×(List aA)):Option ((Int×(List aA))⊕(List aA)):=
 (if(decide (g1.1<(a0.length:Int)))=true then
  gd (0<=g1.1/\g1.1<(a0.length:Int))<|
  gd (((a0.getD g1.1.toNat aA.zero).aL).length<=4294967296)<|
  gd ((({(a0.getD g1.1.toNat aA.zero)with aL:=(a0.getD g1.1.toNat aA.zero).aL}).aH).length<=4294967296)<|
  gd ((({{(a0.getD g1.1.toNat aA.zero)with aL:=(a0.getD g1.1.toNat aA.zero).aL}with aH:=({(a0.getD g1.1.toNat aA.zero)with aL:=(a0.getD g1.1.toNat aA.zero).aL}).aH}).aU).length<=4294967296)<|
  gd (0<=g1.1/\g1.1<((g1.2.length:Nat):Int))<|
  some (.inl ((i64.wrap (g1.1+1)),g1.2.set g1.1.toNat ({{{(a0.getD g1.1.toNat aA.zero)with aL:=(a0.getD g1.1.toNat aA.zero).aL}with aH:=({(a0.getD g1.1.toNat aA.zero)with aL:=(a0.getD g1.1.toNat aA.zero).aL}).aH}with aU:=({{(a0.getD g1.1.toNat aA.zero)with aL:=(a0.getD g1.1.toNat aA.zero).aL}with aH:=({(a0.getD g1.1.toNat aA.zero)with aL:=(a0.getD g1.1.toNat aA.zero).aL}).aH}).aU})))
 else
  some (.inr g1.2))
def zd3(a0:List aA)(a1:Int)(a2:aA):Option (List aA):=
 gd (0<=(a0.length:Int)/\(a0.length:Int)<=(a0.length:Int)/\(a0.length:Int)<=4294967296)<|
 (zc1 (zaK1 a0) (0,List.replicate ((a0.length:Int).toNat) aA.zero)).bind (λ z=>zaK0 a1 a2 z)
@[reducible,instance] def zeo0 a0 (a1:Int) (a2:aA):=mkJ (zd3 a0 a1 a2) 0 (@zaK0.eq_1 a1 a2) λ(j1:(List aA))=>⟨[(1,.int .i64 a1),(5,.ptr 0 0 0),(7,.own 1 0 j1.length)],[(0,bx a2),(1,sx j1)],2⟩
@[reducible,instance] def zeo1 (a0:List aA) (a1:Int) (a2:aA):=mkL (zd3 a0 a1 a2) (@zaK1.eq_1 a0) λ(g1:Int×(List aA))=>⟨[(1,.int .i64 a1),(5,.ptr 0 0 0),(7,.own 1 0 g1.2.length),(13,la a0),(14,.int .i64 (a0.length:Int)),(15,.int .i64 g1.1)],[(0,bx a2),(1,sx g1.2)],2⟩
instance zcQ3(a0:List aA)(a1:Int)(a2:aA):OkM (zd3 a0 a1 a2) 148 [la a0,.int .i64 a1,ga a2] [] 0 (λ r=>.own 0 0 r.length) (λ r=>[(0,sx r)]) 1:=okm (zd3.eq_1 a0 a1 a2) (λ r=>[.own 0 0 r.length]) Tryz.f148 [(6,1),(22,2),(26,2),(30,2)]
attribute [local irreducible] zd3
def zJ1(a0:aD):Bool:=
 ((decide (a0.kind=1)&&decide (a0.aV=1))||((decide (a0.kind=2)&&decide (1<=a0.aV))&&decide (a0.aV<=8)))
instance zdp9(a0:aD):OkT 123 [.agg (aD.enc a0)] (.bool (zJ1 a0)):=ok2 (λ r=>.bool r) (zJ1.eq_1 a0) Tryz.f123 []
def zh5(a0:aC):Bool:=
 (decide (a0={aC.zero with}))
instance zcn6(a0:aC):OkT 29 [.agg (aC.enc a0)] (.bool (zh5 a0)):=ok2 (λ r=>.bool r) (zh5.eq_1 a0) Tryz.f29 []
def zbh8(j1:Unit):Option Int:=
 some (-1)
def zbh9(a0:List aM)(a1:aF)(g1:Int):Option (Int⊕(Unit⊕Int)):=
 (if(decide (g1<(a0.length:Int)))=true then
  gd (0<=g1/\g1<(a0.length:Int))<|
  (if(decide ((a0.getD g1.toNat aM.zero).aI=a1))=true then
   some (.inr (.inr g1))
  else
   some (.inl (i64.wrap (g1+1))))
 else
  some (.inr (.inl ())))
def zk3(a0:List aM)(a1:aF):Option Int:=
 (zc1 (zbh9 a0 a1) 0).bind (λ|.inl z=>zbh8 z|.inr z=>some z)
@[reducible,instance] def zeo2 a0 a1:=mkJ (zk3 a0 a1) 0 (@zbh8.eq_1) λ(j1:Unit)=>⟨[],[],0⟩
@[reducible,instance] def zeo3 (a0:List aM) (a1:aF) {T:Type} (x:T):=mkL x (@zbh9.eq_1 a0 a1) λ(g1:Int)=>⟨[(0,la a0),(3,.ptr 0 0 0),(5,.int .i64 g1)],[(0,bx a1)],1⟩
instance zdG9(a0:List aM)(a1:aF):OkP (zk3 a0 a1) 72 [la a0,ga a1] (λ r=>.int .i64 r):=ok1 (zk3.eq_1 a0 a1) Tryz.f72 []
attribute [local irreducible] zk3
def zaQ2(j1:(List aF)):Option (List aF):=
 some j1
def zag7(a0:List aT)(g1:Int×(List aF)):Option ((Int×(List aF))⊕(List aF)):=
 (if(decide (g1.1<(a0.length:Int)))=true then
  gd (0<=g1.1/\g1.1<(a0.length:Int))<|
  gd (g1.2.length+1<=4294967296)<|
  some (.inl ((i64.wrap (g1.1+1)),(g1.2++[(a0.getD g1.1.toNat aT.zero).aI])))
 else
  some (.inr g1.2))
def zf8(a0:List aT):Option (List aF):=
 (zc1 (zag7 a0) (0,[])).bind (λ z=>zaQ2 z)
@[reducible,instance] def zeo4 a0:=mkJ (zf8 a0) 0 (@zaQ2.eq_1) λ(j1:(List aF))=>⟨[(3,.own 0 0 j1.length)],[(0,sx j1)],1⟩
@[reducible,instance] def zeo5 (a0:List aT) {T:Type} (x:T):=mkL x (@zag7.eq_1 a0) λ(g1:Int×(List aF))=>⟨[(0,la a0),(3,.own 0 0 g1.2.length),(4,.int .i64 g1.1)],[(0,sx g1.2)],1⟩
instance zdc1(a0:List aT):OkM (zf8 a0) 69 [la a0] [] 0 (λ r=>.own 0 0 r.length) (λ r=>[(0,sx r)]) 1:=okm (zf8.eq_1 a0) (λ r=>[.own 0 0 r.length]) Tryz.f69 [(2,1),(3,1)]
attribute [local irreducible] zf8
def zaK2(j1:Unit):Option Bool:=
 some true
def zaK3(a0 a1:List aT)(g1:Int):Option (Int⊕(Unit⊕Bool)):=
 (if(decide (g1<(a0.length:Int)))=true then
  gd (0<=g1/\g1<(a0.length:Int))<|
  gd (0<=g1/\g1<(a1.length:Int))<|
  (if(!decide (a0.getD g1.toNat aT.zero=a1.getD g1.toNat aT.zero))=true then
   some (.inr (.inr false))
  else
   some (.inl (i64.wrap (g1+1))))
 else
  some (.inr (.inl ())))
def zd9(a0 a1:List aT):Option Bool:=
 (if(!decide ((a0.length:Int)=(a1.length:Int)))=true then
  some false
 else
  (zc1 (zaK3 a0 a1) 0).bind (λ|.inl z=>zaK2 z|.inr z=>some z))
@[reducible,instance] def zeo6 a0 a1:=mkJ (zd9 a0 a1) 0 (@zaK2.eq_1) λ(j1:Unit)=>⟨[],[],0⟩
@[reducible,instance] def zeo7 (a0 a1:List aT) {T:Type} (x:T):=mkL x (@zaK3.eq_1 a0 a1) λ(g1:Int)=>⟨[(0,la a0),(1,la a1),(5,.int .i64 g1)],[],0⟩
instance zcT6(a0 a1:List aT):OkP (zd9 a0 a1) 129 [la a0,la a1] (λ r=>.bool r):=ok1 (zd9.eq_1 a0 a1) Tryz.f129 []
attribute [local irreducible] zd9
def zk6(a0:aA):Option aA:=
 gd (a0.aL.length<=4294967296)<|
 gd (a0.aH.length<=4294967296)<|
 gd (a0.aU.length<=4294967296)<|
 some a0
instance zdH0(a0:aA):OkP (zk6 a0) 110 [ga a0] (λ r=>ga r):=ok1 (zk6.eq_1 a0) Tryz.f110 [(3,1),(8,1),(13,1)]
attribute [local irreducible] zk6
def zi5(a0:aA):Option aA:=
 gd (a0.aL.length<=4294967296)<|
 gd (a0.aH.length<=4294967296)<|
 gd (a0.aU.length<=4294967296)<|
 some a0
theorem zbL1(a0 r:aA)(h:zi5 a0=some r):MFn C 110 [ga a0] [] 0 (.agg [.str r.aB.name,.int .i64 r.aB.kind,.int .i64 r.aB.aV,.int .i64 r.aB.home,.own 0 0 r.aL.length,.own 1 0 r.aH.length,.own 2 0 r.aU.length,.int .i64 r.gen]) [(0,sx r.aL),(1,sx r.aH),(2,sx r.aU)] 3:=by refine zU4 Tryz.f110 [(3,1),(8,1),(13,1)] [.agg [.str r.aB.name,.int .i64 r.aB.kind,.int .i64 r.aB.aV,.int .i64 r.aB.home,.own 0 0 r.aL.length,.own 1 0 r.aH.length,.own 2 0 r.aU.length,.int .i64 r.gen]] λ E hG hN hK=>?_;unfold zi5 at h;refine za0 (za1 hG ?_);refine za0 ?_;obtain⟨hb3,h⟩:=zg4 h;refine za1 hG ?_;refine za0 ?_;obtain⟨hb2,h⟩:=zg4 h;refine za1 hG ?_;refine za0 ?_;obtain⟨hb1,h⟩:=zg4 h;refine za1 hG ?_;refine za0 (za1 hG ?_);refine zm8 ?_;exact zx8 [(0,3),(1,5),(2,7)] h
attribute [local irreducible] zi5
def zbw9(j1:(List aD)):Option (List aD):=
 some j1
def zaI0(a0:List aD)(a1:Int)(g1:Int×(List aD)):Option ((Int×(List aD))⊕(List aD)):=
 (if(decide (g1.1<(a0.length:Int)))=true then
  gd (0<=g1.1/\g1.1<(a0.length:Int))<|
  (if(decide ((a0.getD g1.1.toNat aD.zero).home=a1))=true then
   gd (0<=g1.1/\g1.1<(a0.length:Int))<|
   gd (g1.2.length+1<=4294967296)<|
   some (.inl ((i64.wrap (g1.1+1)),(g1.2++[(a0.getD g1.1.toNat aD.zero)])))
  else
   some (.inl ((i64.wrap (g1.1+1)),g1.2)))
 else
  some (.inr g1.2))
def zq5(a0:List aD)(a1:Int):Option (List aD):=
 (zc1 (zaI0 a0 a1) (0,[])).bind (λ z=>zbw9 z)
@[reducible,instance] def zeo8 a0 a1:=mkJ (zq5 a0 a1) 0 (@zbw9.eq_1) λ(j1:(List aD))=>⟨[(5,.own 0 0 j1.length)],[(0,sx j1)],1⟩
@[reducible,instance] def zeo9 (a0:List aD) (a1:Int) {T:Type} (x:T):=mkL x (@zaI0.eq_1 a0 a1) λ(g1:Int×(List aD))=>⟨[(0,la a0),(1,.int .i64 a1),(5,.own 0 0 g1.2.length),(6,.int .i64 g1.1)],[(0,sx g1.2)],1⟩
instance zdR4(a0:List aD)(a1:Int):OkP (zq5 a0 a1) 38 [la a0,.int .i64 a1] (λ r=>la r):=ok1 (zq5.eq_1 a0 a1) Tryz.f38 [(5,1)]
attribute [local irreducible] zq5
attribute [local irreducible] zl5 zj8 zl7 zd1 zg5 zi1 zf5 zm6 zl8 zk4 ze1 ze6 zn5 zd4 zo3 za2 zg8 zg6 za5 zf6 ze4 zg3 zd7 zn0 zc9 zc6 zp8 zh0 zf7 zl6 zd5 zb1 ze0 zd6 za4 zj9 ze5 zh4 zd2 zb3 zf9
def za3(a0:aF):Bool:=
 ((zK2 a0.site 0 3&&zK2 a0.inc 1 99)&&zK2 a0.num 1 999)
instance zbz6(a0:aF):OkT 41 [.agg (aF.enc a0)] (.bool (za3 a0)):=ok2 (λ r=>.bool r) (za3.eq_1 a0) Tryz.f41 []
def zc4(a0 a1:aF):Option Int:=
 (zf7 (⟨[a0.site,a0.inc,a0.num],rfl⟩:Arr Int 3) (⟨[a1.site,a1.inc,a1.num],rfl⟩:Arr Int 3)).bind λ v1=>
 some v1
instance zaK4(a0 a1:aF):OkP (zc4 a0 a1) 82 [ga a0,ga a1] (λ r=>.int .i64 r):=ok1 (zc4.eq_1 a0 a1) Tryz.f82 []
attribute [local irreducible] zc4
def zE7(j2:(List aM)):Option (List aM):=
 some j2
@[go_sem] def zdW0(j2:(List aM)):St:=⟨[(6,.own 0 0 j2.length)],[(0,sx j2)],1⟩
def zp5(a0:List (List aM))(g1:Int×(List aM)):Option ((Int×(List aM))⊕(List aM)):=
 (if(decide (g1.1<(a0.length:Int)))=true then
  gd (0<=g1.1/\g1.1<(a0.length:Int))<|
  gd (g1.2.length+(a0.getD g1.1.toNat []).length<=4294967296)<|
  some (.inl ((i64.wrap (g1.1+1)),(g1.2++a0.getD g1.1.toNat [])))
 else
  some (.inr g1.2))
@[go_sem] def zdW1(a0:List (List aM))(g1:Int×(List aM)):St:=⟨[(6,.own 0 0 g1.2.length),(25,.sl (a0.map (eL aM.enc))),(26,.int .i64 (a0.length:Int)),(27,.int .i64 g1.1)],[(0,sx g1.2)],1⟩
def zz2(a0:List (List aM))(j1:Int):Option (List aM):=
 (za8 j1).bind λ v1=>
 (zc1 (zp5 a0) (0,v1)).bind (λ z=>zE7 z)
@[go_sem] def zdW2(a0:List (List aM))(j1:Int):St:=⟨[(0,.sl (a0.map (eL aM.enc))),(3,.int .i64 j1)],[],0⟩
def zp6(a0:List (List aM))(g2:Int×Int):Option ((Int×Int)⊕Int):=
 (if(decide (g2.2<(a0.length:Int)))=true then
  gd (0<=g2.2/\g2.2<(a0.length:Int))<|
  (if(decide (i64.wrap (g2.1+((a0.getD g2.2.toNat []).length:Int))<0))=true then
   none
  else
   some (.inl ((i64.wrap (g2.1+((a0.getD g2.2.toNat []).length:Int))),i64.wrap (g2.2+1))))
 else
  some (.inr g2.1))
@[go_sem] def zdW3(a0:List (List aM))(g2:Int×Int):St:=⟨[(0,.sl (a0.map (eL aM.enc))),(3,.int .i64 g2.1),(9,.sl (a0.map (eL aM.enc))),(10,.int .i64 (a0.length:Int)),(11,.int .i64 g2.2)],[],0⟩
def za9(a0:List (List aM)):Option (List aM):=
 (zc1 (zp6 a0) (0,0)).bind (λ z=>zz2 a0 z)
theorem zax3(a0:List (List aM))(r:(List aM))(h:za9 a0=some r):PFn C 184 [.sl (a0.map (eL aM.enc))] (la r):=by
 refine zW4 Tryz.f184 [] λ E hG hN hK=>?_;unfold za9 at h;refine za0 (za1 hG ?_);refine za0 (za1 hG ?_);refine za0 (za0 (za1 hG ?_));refine zB7 (zdW2 a0) (λ v=>zz2 a0 v=some r) ?_ ?_
 · intro j1 h
   unfold zz2 at h;refine g_st ?_;refine za0 (za1 hG ?_);obtain⟨v1,hv1,h⟩:=zd0 h;refine zs8 [] [(0,0)] [0] (zau1 _ _ hv1) rfl rfl ?_;refine za0 (za0 (za1 hG ?_));refine zB7 zdW0 (λ v=>zE7 v=some r) ?_ ?_
   · intro j2 h
     unfold zE7 at h;refine g_st ?_;refine za0 (za1 hG ?_);refine zm8 ?_;exact zy2 h
   refine zat4 (zdW1 a0) hK [(0,0)] h (λ x_l1 h g1 y_l1 h_l1 hx_l1=>?_);unfold zp5 at h_l1;refine g_st ?_;refine za0 (za1 hG ?_);refine za0 ?_;refine zh9 rfl hG h_l1 (λ _ h_l1=>?_) (λ _ h_l1=>?_)
   · refine zh7 ?_
     refine za0 (zy9 (za0 ?_));obtain⟨hb2,h_l1⟩:=zg4 h_l1;refine za1 hG ?_;obtain⟨hb1,h_l1⟩:=zg4 h_l1;refine za1 hG ?_;refine za1 hG ?_;exact zU3 hK [(0,1)] h_l1
   refine zE5 ?_;cases h_l1;cases hx_l1 _ rfl;exact zv9 hK [(0,0)] g1.2 (by exact h)
 refine zat4 (zdW3 a0) hK [] h (λ x_l2 h g2 y_l2 h_l2 hx_l2=>?_);unfold zp6 at h_l2;refine g_st ?_;refine za0 (za1 hG ?_);refine za0 ?_;refine zh9 rfl hG h_l2 (λ _ h_l2=>?_) (λ _ h_l2=>?_)
 · refine zh7 ?_
   refine za0 (zy9 (za0 ?_));obtain⟨hb3,h_l2⟩:=zg4 h_l2;refine za1 hG ?_;refine za0 (za1 hG ?_);refine za0 (za1 hG ?_);refine zh9 rfl hG h_l2 (λ _ h_l2=>?_) (λ _ h_l2=>?_)
   .exact zdU9 h_l2
   refine zh7 ?_;refine za1 hG ?_;exact zU3 hK [] h_l2
 refine zE5 ?_;cases h_l2;cases hx_l2 _ rfl;exact zv9 hK [] g2.1 (by exact h)
instance zbx0(a0:List (List aM)):OkP (za9 a0) 184 [.sl (a0.map (eL aM.enc))] (λ r=>la r):=⟨zax3 a0⟩
attribute [local irreducible] za9
def ze7(a0:aA)(a1:aF):Option (aA×aF):=
 (zi1 a0.aH a1).bind λ v1=>
 some ({a0 with aH:=v1.1},a1)
instance zbm2(a0:aA)(a1:aF):OkM (ze7 a0 a1) 210 [.ptr 0 0 0,.ptr 1 0 0] [(0,bx a0),(1,bx a1)] 2 (λ r=>.tup []) (λ r=>[(0,bx r.1),(1,bx r.2)]) 2:=okm (ze7.eq_1 a0 a1) (λ r=>[]) Tryz.f210 []
attribute [local irreducible] ze7
def zy0(a0:aD)(a1:aC):Bool:=
 (if(!(zJ1 a0))=true then
  false
 else
  (if(decide (a0.kind=1))=true then
   (zy3 a1.mode&&decide (a1.aV=0))
  else
   ((decide (a1.mode=0)&&decide (1<=a1.aV))&&decide (a1.aV<=a0.aV))))
instance zcn7(a0:aD)(a1:aC):OkT 124 [.agg (aD.enc a0),.agg (aC.enc a1)] (.bool (zy0 a0 a1)):=ok2 (λ r=>.bool r) (zy0.eq_1 a0 a1) Tryz.f124 []
def zu4(a0:aC):Bool:=
 ((zy3 a0.mode&&decide (a0.aV=0))||((decide (a0.mode=0)&&decide (1<=a0.aV))&&decide (a0.aV<=8)))
instance zbi0(a0:aC):OkT 159 [.agg (aC.enc a0)] (.bool (zu4 a0)):=ok2 (λ r=>.bool r) (zu4.eq_1 a0) Tryz.f159 []
def zi3(a0 a1:bI):Option Bool:=
 ((if(decide (a0.aI=a1.aI)&&decide (a0.gen=a1.gen))=true then zg3 a0.bK a1.bK else some false)).bind λ v1=>
 some ((decide (a0.aI=a1.aI)&&decide (a0.gen=a1.gen))&&v1)
instance zdc2(a0 a1:bI):OkP (zi3 a0 a1) 173 [ga a0,ga a1] (λ r=>.bool r):=ok1 (zi3.eq_1 a0 a1) Tryz.f173 []
attribute [local irreducible] zi3
def zg0(a0:List Int)(a1:ByteArray):Option (List Int):=
 (zb3 a0 (u64.wrap (a1.size:Int))).bind λ v1=>
 gd (v1.length+a1.toList.length<=4294967296)<|
 some (v1++(a1.toList.map λ b=>(b.toNat:Int)))
instance zcQ4(a0:List Int)(a1:ByteArray):OkM (zg0 a0 a1) 164 [.sl (a0.map (eI .u8)),.str a1] [] 0 (λ r=>.own 0 0 r.length) (λ r=>[(0,⟨false,1,[A.int .u8 0],r.map (eI .u8)⟩)]) 1:=okm (zg0.eq_1 a0 a1) (λ r=>[.own 0 0 r.length]) Tryz.f164 [(4,1)]
attribute [local irreducible] zg0
def zaL7(a0 j1:bC):Option bC:=
 gd (a0.tags.length<=4294967296)<|
 some (⟨j1.aG,a0.tags⟩:bC)
def zW7(a0:bC)(g1:Int×bC):Option ((Int×bC)⊕bC):=
 (if(decide (g1.1<(a0.aG.length:Int)))=true then
  gd (0<=g1.1/\g1.1<(a0.aG.length:Int))<|
  (zk6 (a0.aG.getD g1.1.toNat aA.zero)).bind λ v1=>
  gd (g1.2.aG.length+1<=4294967296)<|
  some (.inl ((i64.wrap (g1.1+1)),(⟨(g1.2.aG++[v1]),g1.2.tags⟩:bC)))
 else
  some (.inr g1.2))
def zn1(a0:bC):Option bC:=
 (zc1 (zW7 a0) (0,(⟨[],bC.zero.tags⟩:bC))).bind (λ z=>zaL7 a0 z)
@[reducible,instance] def zep0 (a0:bC):=mkJ (zn1 a0) 0 (@zaL7.eq_1 a0) λ(j1:bC)=>⟨[(1,.ptr 0 0 0),(2,.ptr 1 0 0),(3,.ptr 2 0 0)],[(0,bx a0),(1,bx bC.zero),(2,⟨false,2,bC.enc bC.zero,[[.own 3 0 j1.aG.length,la j1.tags]]⟩),(3,sx j1.aG)],4⟩
@[reducible,instance] def zep1 (a0:bC) {T:Type} (x:T):=mkL x (@zW7.eq_1 a0) λ(g1:Int×bC)=>⟨[(1,.ptr 0 0 0),(2,.ptr 1 0 0),(3,.ptr 2 0 0),(7,la a0.aG),(8,.int .i64 (a0.aG.length:Int)),(9,.int .i64 g1.1)],[(0,bx a0),(1,bx bC.zero),(2,⟨false,2,bC.enc bC.zero,[[.own 3 0 g1.2.aG.length,la g1.2.tags]]⟩),(3,sx g1.2.aG)],4⟩
instance zdH1(a0:bC):OkP (zn1 a0) 55 [ga a0] (λ r=>ga r):=⟨λ r h=>by
 refine zW4 Tryz.f55 [(3,3)] λ E hG hN hK=>?_;have hm:Mk (zn1 a0):=trivial;unfold zn1 at h;refine za0 (za1 hG ?_);refine za0 (za1 hG ?_);refine g_gh (.ownb 2 0 8 (aA.enc aA.zero)) ?_;exact gogo⟩
attribute [local irreducible] zn1
def zb7(a0:Int)(a1:bJ):Option (Int×bJ):=
 (if(decide ((a1.l.length:Int)<=a1.at_))=true then
  some (0,a1)
 else
  gd (0<=i64.wrap (({a1 with at_:=(i64.wrap (a1.at_+1))}).at_-1)/\i64.wrap (({a1 with at_:=(i64.wrap (a1.at_+1))}).at_-1)<((({a1 with at_:=(i64.wrap (a1.at_+1))}).l).length:Int))<|
  (zp8 ((({a1 with at_:=(i64.wrap (a1.at_+1))}).l).getD ((i64.wrap (({a1 with at_:=(i64.wrap (a1.at_+1))}).at_-1)).toNat) 0) a0).bind λ v1=>
  some (v1,{a1 with at_:=(i64.wrap (a1.at_+1))}))
instance zcH5(a0:Int)(a1:bJ):OkM (zb7 a0 a1) 66 [.ptr 0 0 0,.int .i64 a0] [(0,bx a1)] 1 (λ r=>.int .i64 r.1) (λ r=>[(0,bx r.2)]) 1:=okm (zb7.eq_1 a0 a1) (λ r=>[.int .i64 r.1]) Tryz.f66 []
attribute [local irreducible] zb7
def zW8:List Int:=[5,5,3,4,2,1,3,5]
def zq4(a0:Int):Option Int:=
 (zp8 a0 (zW8.length:Int)).bind λ v1=>
 gd (0<=v1/\v1<(zW8.length:Int))<|
 some (zW8.getD v1.toNat 0)
instance zdM5(a0:Int):OkP (zq4 a0) 122 [.int .i64 a0] (λ r=>.int .i64 r):=⟨λ r h=>by
 refine zW4 Tryz.f122 [] λ E hG hN hK=>?_;have hm:Mk (zq4 a0):=trivial;unfold zq4 at h;refine za0 (za1 hG ?_);refine za0 (za1 hG ?_);refine g_gh (.cast 3 (.full (zW8.map (eI .i64)))) ?_;exact gogo⟩
attribute [local irreducible] zq4
def zb4(a0:aD)(a1:aC):Bool:=
 (if(!(zh1 a0))=true then
  false
 else
  (if(decide (a0.kind=1))=true then
   (zv2 a1.mode&&decide (a1.aV=0))
  else
   ((decide (a1.mode=0)&&decide (1<=a1.aV))&&decide (a1.aV<=a0.aV))))
instance zcc8(a0:aD)(a1:aC):OkT 201 [.agg (aD.enc a0),.agg (aC.enc a1)] (.bool (zb4 a0 a1)):=ok2 (λ r=>.bool r) (zb4.eq_1 a0 a1) Tryz.f201 []
def zl4(a0 a1:Int):Option Bool:=
 gd ((zv2 a0&&zv2 a1)=true->0<=a1/\a1<6)<|
 some ((zv2 a0&&zv2 a1)&&Arr.get (zaP6 a0) a1.toNat false)
instance zdx1(a0 a1:Int):OkP (zl4 a0 a1) 256 [.int .i64 a0,.int .i64 a1] (λ r=>.bool r):=ok1 (zl4.eq_1 a0 a1) Tryz.f256 []
attribute [local irreducible] zl4
def zab3(a0:aC):Bool:=
 (if(!decide (a0.mode=0))=true then
  (zv2 a0.mode&&decide (a0.aV=0))
 else
  (decide (1<=a0.aV)&&decide (a0.aV<=8)))
instance zdx2(a0:aC):OkT 194 [.agg (aC.enc a0)] (.bool (zab3 a0)):=ok2 (λ r=>.bool r) (zab3.eq_1 a0) Tryz.f194 []
def zf1(a0:List Int)(a1:ByteArray):Option (List Int):=
 (zb2 a0 (u64.wrap (a1.size:Int))).bind λ v1=>
 gd (v1.length+a1.toList.length<=4294967296)<|
 some (v1++(a1.toList.map λ b=>(b.toNat:Int)))
instance zbu6(a0:List Int)(a1:ByteArray):OkM (zf1 a0 a1) 198 [.sl (a0.map (eI .u8)),.str a1] [] 0 (λ r=>.own 0 0 r.length) (λ r=>[(0,⟨false,1,[A.int .u8 0],r.map (eI .u8)⟩)]) 1:=okm (zf1.eq_1 a0 a1) (λ r=>[.own 0 0 r.length]) Tryz.f198 [(4,1)]
attribute [local irreducible] zf1
def zaA8(j1:(List Int)):Option (List Int):=
 some j1
def zD7(a1:List Int)(g1:(List Int)×Int):Option (((List Int)×Int)⊕(List Int)):=
 (if(decide (g1.2<(a1.length:Int)))=true then
  gd (0<=g1.2/\g1.2<(a1.length:Int))<|
  (zd5 g1.1 (u64.wrap (a1.getD g1.2.toNat 0))).bind λ v1=>
  some (.inl (v1,i64.wrap (g1.2+1)))
 else
  some (.inr g1.1))
def zb6(a0 a1:List Int):Option (List Int):=
 (zc1 (zD7 a1) (a0,0)).bind (λ z=>zaA8 z)
@[reducible,instance] def zep2 a0 a1:=mkJ (zb6 a0 a1) 0 (@zaA8.eq_1) λ(j1:(List Int))=>⟨[(0,.sl (j1.map (eI .u8)))],[],0⟩
@[reducible,instance] def zep3 (a1:List Int) {T:Type} (x:T):=mkL x (@zD7.eq_1 a1) λ(g1:(List Int)×Int)=>⟨[(0,.sl (g1.1.map (eI .u8))),(7,.sl (a1.map (eI .i64))),(8,.int .i64 (a1.length:Int)),(9,.int .i64 g1.2)],[],0⟩
instance zcH6(a0 a1:List Int):OkP (zb6 a0 a1) 251 [.sl (a0.map (eI .u8)),.sl (a1.map (eI .i64))] (λ r=>.sl (r.map (eI .u8))):=ok1 (zb6.eq_1 a0 a1) Tryz.f251 [(16,1)]
attribute [local irreducible] zb6
def zaZ7(j1:(List bD)):Option (List bD):=
 some j1
def zaq5(a0:List bF)(a1:List aY)(a2:aF)(g1:Int×(List bD)):Option ((Int×(List bD))⊕(List bD)):=
 (if(decide (g1.1<(a1.length:Int)))=true then
  gd (0<=g1.1/\g1.1<(a1.length:Int))<|
  (if((!decide ((a1.getD g1.1.toNat aY.zero).kind=1))||decide ((a1.getD g1.1.toNat aY.zero).aI=a2))=true then
   some (.inl ((i64.wrap (g1.1+1)),g1.2))
  else
   (zg8 a0 ((a1.getD g1.1.toNat aY.zero).aI) ((a1.getD g1.1.toNat aY.zero).name)).bind λ v1=>
   gd (g1.2.length+1<=4294967296)<|
   some (.inl ((i64.wrap (g1.1+1)),(g1.2++[(⟨((a1.getD g1.1.toNat aY.zero).aI).site,{aK.zero with kind:=4,aI:=(a1.getD g1.1.toNat aY.zero).aI,gen:=v1.1,aW:=(⟨(a1.getD g1.1.toNat aY.zero).name,(a1.getD g1.1.toNat aY.zero).aJ⟩:aO)}⟩:bD)]))))
 else
  some (.inr g1.2))
def zl1(a0:List bF)(a1:List aY)(a2:aF):Option (List bD):=
 (zc1 (zaq5 a0 a1 a2) (0,[])).bind (λ z=>zaZ7 z)
@[reducible,instance] def zep4 a0 a1 a2:=mkJ (zl1 a0 a1 a2) 0 (@zaZ7.eq_1) λ(j1:(List bD))=>⟨[(7,.own 0 0 j1.length)],[(0,sx j1)],1⟩
@[reducible,instance] def zep5 (a0:List bF) (a1:List aY) (a2:aF) {T:Type} (x:T):=mkL x (@zaq5.eq_1 a0 a1 a2) λ(g1:Int×(List bD))=>⟨[(0,la a0),(5,.ptr 0 0 0),(7,.own 1 0 g1.2.length),(12,la a1),(13,.int .i64 (a1.length:Int)),(14,.int .i64 g1.1)],[(0,bx a2),(1,sx g1.2)],2⟩
instance zbm3(a0:List bF)(a1:List aY)(a2:aF):OkP (zl1 a0 a1 a2) 96 [la a0,la a1,ga a2] (λ r=>la r):=ok1 (zl1.eq_1 a0 a1 a2) Tryz.f96 [(7,1)]
attribute [local irreducible] zl1
def ze8(a0:aA)(a1:aF):Option (aA×aF):=
 (zi1 a0.aU a1).bind λ v1=>
 some ({a0 with aU:=v1.1},a1)
instance zbm4(a0:aA)(a1:aF):OkM (ze8 a0 a1) 265 [.ptr 0 0 0,.ptr 1 0 0] [(0,bx a0),(1,bx a1)] 2 (λ r=>.tup []) (λ r=>[(0,bx r.1),(1,bx r.2)]) 2:=okm (ze8.eq_1 a0 a1) (λ r=>[]) Tryz.f265 []
attribute [local irreducible] ze8
def zt7(a0 a1:aF):Int:=
 (if(!decide (zM8 a0.site a1.site=0))=true then
  (zM8 a0.site a1.site)
 else
  (if(!decide (zM8 a0.inc a1.inc=0))=true then
   (zM8 a0.inc a1.inc)
  else
   (zM8 a0.num a1.num)))
instance zcH7(a0 a1:aF):OkT 88 [.agg (aF.enc a0),.agg (aF.enc a1)] (.int .i64 (zt7 a0 a1)):=ok2 (λ r=>.int .i64 r) (zt7.eq_1 a0 a1) Tryz.f88 []
def zk7(a0:aA)(a1:aF):Option aC:=
 (zm6 a0.aL a1).bind λ v1=>
 some v1
instance zbx1(a0:aA)(a1:aF):OkP (zk7 a0 a1) 25 [ga a0,ga a1] (λ r=>ga r):=ok1 (zk7.eq_1 a0 a1) Tryz.f25 []
attribute [local irreducible] zk7
def zbi1(j1:aK):Option aK:=
 some j1
def zai0 (a0:aK) (g1:Int×aK):Option ((Int×aK)⊕aK):=
 (if (decide (g1.1<(((zb8 a0.kind).toList.map λ b=>(b.toNat:Int)).length:Int)))=true then
  gd (0<=g1.1/\g1.1<(((zb8 a0.kind).toList.map λ b=>(b.toNat:Int)).length:Int))<|
  (if(decide (((zb8 a0.kind).toList.map λ b=>(b.toNat:Int)).getD g1.1.toNat 0=80))=true then
   some (.inl ((i64.wrap (g1.1+1)),{g1.2 with aI:=a0.aI}))
  else
   (if(decide (((zb8 a0.kind).toList.map λ b=>(b.toNat:Int)).getD g1.1.toNat 0=71))=true then
    some (.inl ((i64.wrap (g1.1+1)),{g1.2 with gen:=a0.gen}))
   else
    (if(decide (((zb8 a0.kind).toList.map λ b=>(b.toNat:Int)).getD g1.1.toNat 0=65))=true then
     some (.inl ((i64.wrap (g1.1+1)),{g1.2 with aW:=a0.aW}))
    else
     (if(decide (((zb8 a0.kind).toList.map λ b=>(b.toNat:Int)).getD g1.1.toNat 0=89))=true then
      some (.inl ((i64.wrap (g1.1+1)),{g1.2 with aX:=a0.aX}))
     else
      (if(decide (((zb8 a0.kind).toList.map λ b=>(b.toNat:Int)).getD g1.1.toNat 0=68))=true then
       some (.inl ((i64.wrap (g1.1+1)),{g1.2 with done:=a0.done}))
      else
       (if(decide (((zb8 a0.kind).toList.map λ b=>(b.toNat:Int)).getD g1.1.toNat 0=83))=true then
        some (.inl ((i64.wrap (g1.1+1)),{g1.2 with site:=a0.site}))
       else
        (if(decide (((zb8 a0.kind).toList.map λ b=>(b.toNat:Int)).getD g1.1.toNat 0=73))=true then
         some (.inl ((i64.wrap (g1.1+1)),{g1.2 with inc:=a0.inc}))
        else
         (if(decide (((zb8 a0.kind).toList.map λ b=>(b.toNat:Int)).getD g1.1.toNat 0=82))=true then
          some (.inl ((i64.wrap (g1.1+1)),{g1.2 with round:=a0.round}))
         else
          (if(decide (((zb8 a0.kind).toList.map λ b=>(b.toNat:Int)).getD g1.1.toNat 0=69))=true then
           some (.inl ((i64.wrap (g1.1+1)),{g1.2 with epoch:=a0.epoch}))
          else
           (if(decide (((zb8 a0.kind).toList.map λ b=>(b.toNat:Int)).getD g1.1.toNat 0=76))=true then
            some (.inl ((i64.wrap (g1.1+1)),{g1.2 with label:=a0.label}))
           else
            (if(decide (((zb8 a0.kind).toList.map λ b=>(b.toNat:Int)).getD g1.1.toNat 0=87))=true then
             some (.inl ((i64.wrap (g1.1+1)),{g1.2 with state:=a0.state}))
            else
             (if(decide (((zb8 a0.kind).toList.map λ b=>(b.toNat:Int)).getD g1.1.toNat 0=79))=true then
              some (.inl ((i64.wrap (g1.1+1)),{g1.2 with options:=a0.options}))
             else
              some (.inl ((i64.wrap (g1.1+1)),g1.2))))))))))))))
 else
  some (.inr g1.2))
def zn7(a0:aK):Option aK:=
 gd ((zb8 a0.kind).size<=4294967296)<|
 (zc1 (zai0 a0) (0,{aK.zero with kind:=a0.kind})).bind (λ z=>zbi1 z)
@[reducible,instance] def zep6 a0:=mkJ (zn7 a0) 0 (@zbi1.eq_1) λ(j1:aK)=>⟨[(2,.ptr 0 0 0),(3,.ptr 1 0 0)],[(0,bx aK.zero),(1,bx j1)],2⟩
@[reducible,instance] def zep7 (a0:aK) {T:Type} (x:T):=mkL x (@zai0.eq_1 a0) λ(g1:Int×aK)=>⟨[(1,.ptr 0 0 0),(2,.ptr 1 0 0),(3,.ptr 2 0 0),(12,.sl (((zb8 a0.kind).toList.map λ b=>(b.toNat:Int)).map (eI .u8))),(13,.int .i64 (((zb8 a0.kind).toList.map λ b=>(b.toNat:Int)).length:Int)),(14,.int .i64 g1.1)],[(0,bx a0),(1,bx aK.zero),(2,bx g1.2)],3⟩
instance zdH2(a0:aK):OkP (zn7 a0) 107 [ga a0] (λ r=>ga r):=ok1 (zn7.eq_1 a0) Tryz.f107 []
attribute [local irreducible] zn7
def zf2(a0:List Int)(a1:aF):Option (List Int):=
 (if(!(zl9 a1))=true then
  gd (a0.length<=4294967296)<|
  some a0
 else
  (zc9 a0 (u64.wrap a1.site)).bind λ v1=>
  (zc9 v1 (u64.wrap a1.inc)).bind λ v2=>
  (zb3 v2 (u64.wrap a1.num)).bind λ v3=>
  some v3)
instance zcQ5(a0:List Int)(a1:aF):OkM (zf2 a0 a1) 163 [.sl (a0.map (eI .u8)),ga a1] [] 0 (λ r=>.own 0 0 r.length) (λ r=>[(0,⟨false,1,[A.int .u8 0],r.map (eI .u8)⟩)]) 1:=okm (zf2.eq_1 a0 a1) (λ r=>[.own 0 0 r.length]) Tryz.f163 [(4,1),(8,1),(15,1),(19,1)]
attribute [local irreducible] zf2
end
end Ab
end Go.Proofs.YtdlfhmkmnjbihaaGreatDoor
