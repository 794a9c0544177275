import Derived.Test.YtogpinppgncpmaaGreatDoorHand
import Derived.Test.YtogpinppgncpmaaGreatDoorHm1
import Derived.Test.YtogpinppgncpmaaGreatDoorHm3
namespace Go.Proofs.YtogpinppgncpmaaGreatDoor
namespace Ab
open IntKind (i64 u64 u8)
set_option linter.unusedSimpArgs false
set_option linter.defProp false
set_option linter.unusedVariables false
set_option maxRecDepth 100000
set_option maxHeartbeats 1000000
noncomputable section
def zA2 (j1:Bool):Bool :=
 (if j1=true then
  true
 else
  false)
def zN2 (a0:ByteArray):Bool :=
 (if (a0.toList == (⟨#[97,108,108]⟩:ByteArray).toList)=true then
  zA2 (a0.toList == (⟨#[97,108,108]⟩:ByteArray).toList)
 else
  (if (a0.toList == (⟨#[97,110,121]⟩:ByteArray).toList)=true then
   zA2 (a0.toList == (⟨#[97,110,121]⟩:ByteArray).toList)
  else
   (if (a0.toList == (⟨#[111,102]⟩:ByteArray).toList)=true then
    zA2 (a0.toList == (⟨#[111,102]⟩:ByteArray).toList)
   else
    (if (a0.toList == (⟨#[112,114,105,111]⟩:ByteArray).toList)=true then
     zA2 (a0.toList == (⟨#[112,114,105,111]⟩:ByteArray).toList)
    else
     zA2 (a0.toList == (⟨#[108,105,109,105,116]⟩:ByteArray).toList)))))
@[reducible,instance] def zef5 a0:=mkJ (zN2 a0) 999 (@zA2.eq_1) fun (j1:Bool)=>⟨[(4,.bool j1)],[],0⟩
instance zcx4 (a0:ByteArray):OkT 227 [.str a0] (.bool (zN2 a0)):=ok2 (fun r=>.bool r) (zN2.eq_1 a0) Tryz.f227 []
def zk5 (a0:aC):Bool :=
 (decide (a0={ aC.zero with  }))
instance zbP5 (a0:aC):OkT 224 [.agg (aC.enc a0)] (.bool (zk5 a0)):=ok2 (fun r=>.bool r) (zk5.eq_1 a0) Tryz.f224 []
def zbf8 (j1:Unit):Option Int :=
 some (-1)
def zal2 (a0:List aT) (a1:aJ) (g1:Int):Option (Int⊕(Unit⊕Int)) :=
 (if (decide (g1 < (a0.length:Int)))=true then
  gd (0≤g1∧g1 < (a0.length:Int)) <|
  (if (decide ((a0.getD g1.toNat aT.zero).aN=a1))=true then
   some (.inr (.inr g1))
  else
   some (.inl (i64.wrap (g1+1))))
 else
  some (.inr (.inl ())))
def zn2 (a0:List aT) (a1:aJ):Option Int :=
 (zc0 (zal2 a0 a1) 0).bind (fun|.inl z=>zbf8 z|.inr z=>some z)
@[reducible,instance] def zef6 a0 a1:=mkJ (zn2 a0 a1) 0 (@zbf8.eq_1) fun (j1:Unit)=>⟨[],[],0⟩
@[reducible,instance] def zef7 (a0:List aT) (a1:aJ) {T:Type} (x:T):=mkL x (@zal2.eq_1 a0 a1) fun (g1:Int)=>⟨[(3,.ptr 0 0 0),(7,la a0),(8,.int .i64 (a0.length:Int)),(9,.int .i64 g1)],[(0,bx a1)],1⟩
instance zdo6 (a0:List aT) (a1:aJ):OkP (zn2 a0 a1) 223 [la a0,ga a1] (fun r=>.int .i64 r):=ok1 (zn2.eq_1 a0 a1) Tryz.f223 []
attribute [local irreducible] zn2
def zm9 (a0:aA):Option (aT×Bool) :=
 (if (decide (0 < (a0.aL.length:Int)))=true then
  gd (0≤0∧0 < (a0.aL.length:Int)) <|
  some ((a0.aL.getD 0 aT.zero),true)
 else
  (if (decide (0 < (a0.aV.length:Int)))=true then
   gd (0≤0∧0 < (a0.aV.length:Int)) <|
   some ((a0.aV.getD 0 aT.zero),true)
  else
   some ({ aT.zero with  },false)))
instance zdk3 (a0:aA):OkP (zm9 a0) 128 [ga a0] (fun r=>.tup [ga r.1,.bool r.2]):=ok1 (zm9.eq_1 a0) Tryz.f128 []
attribute [local irreducible] zm9
def zaq0 (a0:aM) (a1:List aM) (j1:Unit):Option (Int×(List aM)) :=
 (if (decide (((a1.length:Nat):Int)=8))=true then
  some (4,a1)
 else
  gd (a1.length+1≤4294967296) <|
  some (0,(a1++[a0])))
def zT5 (a0:aM) (a1:List aM) (g1:Int):Option (Int⊕(Unit⊕(Int×(List aM)))) :=
 (if (decide (g1 < ((a1.length:Nat):Int)))=true then
  gd (0≤g1∧g1 < ((a1.length:Nat):Int)) <|
  (if (decide (a0=a1.getD g1.toNat aM.zero))=true then
   some (.inr (.inr (0,a1)))
  else
   (if (a0.name.toList == ((a1.getD g1.toNat aM.zero).name).toList)=true then
    some (.inr (.inr (13,a1)))
   else
    some (.inl (i64.wrap (g1+1)))))
 else
  some (.inr (.inl ())))
def zg7 (a0:aM) (a1:List aM):Option (Int×(List aM)) :=
 (zc0 (zT5 a0 a1) 0).bind (fun|.inl z=>zaq0 a0 a1 z|.inr z=>some z)
@[reducible,instance] def zdM3 (a0:aM) (a1:List aM):=mkJ (zg7 a0 a1) 0 (@zaq0.eq_1 a0 a1) fun (j1:Unit)=>⟨[(0,.ptr 0 0 0),(3,.ptr 2 0 0)],[(0,⟨false,1,[A.sl ([].map aM.enc)],[[.own 3 0 a1.length]]⟩),(2,bx a0),(3,sx a1)],4⟩
@[reducible,instance] def zdM4 (a0:aM) (a1:List aM) {T:Type} (x:T):=mkL x (@zT5.eq_1 a0 a1) fun (g1:Int)=>⟨[(0,.ptr 0 0 0),(3,.ptr 2 0 0),(9,.own 3 0 a1.length),(10,.int .i64 ((a1.length:Nat):Int)),(11,.int .i64 g1)],[(0,⟨false,1,[A.sl ([].map aM.enc)],[[.own 3 0 a1.length]]⟩),(2,bx a0),(3,sx a1)],4⟩
instance zbq9 (a0:aM) (a1:List aM):OkM (zg7 a0 a1) 132 [.ptr 0 0 0,ga a0] [(0,⟨false,1,[A.sl ([].map aM.enc)],[[.own 1 0 a1.length]]⟩),(1,sx a1)] 2 (fun r=>.int .i64 r.1) (fun r=>[(0,⟨false,1,[A.sl ([].map aM.enc)],[[.own 2 0 r.2.length]]⟩),(2,sx r.2)]) 3:=okm (zg7.eq_1 a0 a1) (fun r=>[.int .i64 r.1]) Tryz.f132 []
attribute [local irreducible] zg7
def zag7 (j1:Int×(List Int)):Option (List Int) :=
 gd (j1.2.length+1≤4294967296) <|
 some (j1.2++[(u8.wrap j1.1)])
@[go_sem] def zdv5 (j1:Int×(List Int)):St:=⟨[(1,.int .u64 j1.1),(5,.own 0 0 j1.2.length)],[(0,⟨false,1,[A.int .u8 0],j1.2.map (eI .u8)⟩)],1⟩
def zN3 (g1:Int×(List Int)):Option ((Int×(List Int))⊕(Int×(List Int))) :=
 (if (decide (127 < g1.1))=true then
  gd (g1.2.length+1≤4294967296) <|
  some (.inl ((g1.1.fdiv (2 ^ 7)),(g1.2++[(zO4 .or .u8 (u8.wrap (zO4 .and .u64 g1.1 127)) 128)])))
 else
  some (.inr (g1.1,g1.2)))
@[go_sem] def zdv6 (g1:Int×(List Int)):St:=⟨[(1,.int .u64 g1.1),(5,.own 0 0 g1.2.length)],[(0,⟨false,1,[A.int .u8 0],g1.2.map (eI .u8)⟩)],1⟩
def ze7 (a0:List Int) (a1:Int):Option (List Int) :=
 gd (0≤0∧0≤(a0.length:Int)∧(a0.length:Int)≤(a0.length:Int)∧(a0.length:Int)=(a0.length:Int)) <|
 (if (decide (127 < a1))=true then
  gd ((a0.take ((a0.length:Int).toNat)).length+1≤4294967296) <|
  (zc0 zN3 ((a1.fdiv (2 ^ 7)),(a0.take ((a0.length:Int).toNat)++[(zO4 .or .u8 (u8.wrap (zO4 .and .u64 a1 127)) 128)]))).bind (fun z=>zag7 z)
 else
  gd ((a0.take ((a0.length:Int).toNat)).length+1≤4294967296) <|
  some (a0.take ((a0.length:Int).toNat)++[(u8.wrap a1)]))
theorem zbA3 (a0:List Int) (a1:Int) (r:(List Int)) (h:ze7 a0 a1=some r):PFn C 73 [.sl (a0.map (eI .u8)),.int .u64 a1] (.sl (r.map (eI .u8))):=by
 refine zad2 Tryz.f73 [] fun E hG hN hK=>?_
 unfold ze7 at h
 refine za2 (za3 hG ?_)
 refine za2 ?_
 obtain ⟨hb5,h⟩:=zd5 h
 refine za3 hG ?_
 refine za2 ?_
 refine zcc3 zdv5 (fun v=>zag7 v=some r) ?_ ?_
 · intro j1 h
   unfold zag7 at h
   refine g_st ?_
   refine za2 ?_
   obtain ⟨hb1,h⟩:=zd5 h
   refine za3 hG ?_
   refine zt2 ?_
   exact zI9 h
 refine zcZ3 (body:=zN3) (kk:=fun z=>zag7 z) (r:=r) zdv6 hK ?_ (fun x_l1 h g1 y_l1 h_l1 hx_l1=>?_)
 · refine za2 (za2 (za3 hG ?_))
   refine zl0 rfl hG h (fun _ h=>?_) (fun _ h=>?_)
   · refine zj2 ?_
     refine zB5 (za2 ?_)
     obtain ⟨hb3,h⟩:=zd5 h
     refine za3 hG ?_
     refine za3 hG ?_
     exact zcI0 hK [(0,0)] h
   refine zH3 ?_
   refine .inr ?_
   refine za2 ?_
   obtain ⟨hb4,h⟩:=zd5 h
   refine za3 hG ?_
   refine zt2 ?_
   exact zI9 h
 unfold zN3 at h_l1
 refine g_st ?_
 refine za2 (za2 (za3 hG ?_))
 refine zl0 rfl hG h_l1 (fun _ h_l1=>?_) (fun _ h_l1=>?_)
 · refine zj2 ?_
   refine zB5 (za2 ?_)
   obtain ⟨hb2,h_l1⟩:=zd5 h_l1
   refine za3 hG ?_
   refine za3 hG ?_
   exact zF8 hK [(0,1)] h_l1
 refine zH3 ?_
 cases h_l1
 cases hx_l1 _ rfl
 refine .inl ?_
 exact zy4 hK [(0,0)] (g1.1,g1.2) (by exact h)
instance zcJ1 (a0:List Int) (a1:Int):OkP (ze7 a0 a1) 73 [.sl (a0.map (eI .u8)),.int .u64 a1] (fun r=>.sl (r.map (eI .u8))):=⟨zbA3 a0 a1⟩
attribute [local irreducible] ze7
def zaa1 (j1:Int×(List Int)):Option (List Int) :=
 gd (j1.2.length+1≤4294967296) <|
 some (j1.2++[(u8.wrap j1.1)])
@[go_sem] def zdv7  (j1:Int×(List Int)):St:=⟨[(1,.int .u64 j1.1),(5,.own 0 0 j1.2.length)],[(0,⟨false,1,[A.int .u8 0],j1.2.map (eI .u8)⟩)],1⟩
def zal3 (g1:Int×(List Int)):Option ((Int×(List Int))⊕(Int×(List Int))) :=
 (if (decide (127 < g1.1))=true then
  gd (g1.2.length+1≤4294967296) <|
  some (.inl ((g1.1.fdiv (2 ^ 7)),(g1.2++[(zO4 .or .u8 (u8.wrap (zO4 .and .u64 g1.1 127)) 128)])))
 else
  some (.inr (g1.1,g1.2)))
@[go_sem] def zdv8  (g1:Int×(List Int)):St:=⟨[(1,.int .u64 g1.1),(5,.own 0 0 g1.2.length)],[(0,⟨false,1,[A.int .u8 0],g1.2.map (eI .u8)⟩)],1⟩
def zg0 (a0:List Int) (a1:Int):Option (List Int) :=
 gd (0≤0∧0≤(a0.length:Int)∧(a0.length:Int)≤(a0.length:Int)∧(a0.length:Int)=(a0.length:Int)) <|
 (if (decide (127 < a1))=true then
  gd ((a0.take ((a0.length:Int).toNat)).length+1≤4294967296) <|
  (zc0 zal3 ((a1.fdiv (2 ^ 7)),(a0.take ((a0.length:Int).toNat)++[(zO4 .or .u8 (u8.wrap (zO4 .and .u64 a1 127)) 128)]))).bind (fun z=>zaa1 z)
 else
  gd ((a0.take ((a0.length:Int).toNat)).length+1≤4294967296) <|
  some (a0.take ((a0.length:Int).toNat)++[(u8.wrap a1)]))
theorem zbl9 (a0:List Int) (a1:Int) (r:(List Int)) (h:zg0 a0 a1=some r):MFn C 73 [.sl (a0.map (eI .u8)),.int .u64 a1] [] 0 (.own 0 0 r.length) [(0,⟨false,1,[A.int .u8 0],r.map (eI .u8)⟩)] 1:=by
 refine zaz8 Tryz.f73 [(4,1)] [.own 0 0 r.length] fun E hG hN hK=>?_
 unfold zg0 at h
 refine za2 (za3 hG ?_)
 refine za2 ?_
 obtain ⟨hb5,h⟩:=zd5 h
 refine za3 hG ?_
 refine za2 ?_
 refine zcc3 zdv7 (fun v=>zaa1 v=some r) ?_ ?_
 · intro j1 h
   unfold zaa1 at h
   refine g_st ?_
   refine za2 ?_
   obtain ⟨hb1,h⟩:=zd5 h
   refine za3 hG ?_
   refine zt2 ?_
   exact zS4 [(0,1)] h
 refine zcZ3 (body:=zal3) (kk:=fun z=>zaa1 z) (r:=r) zdv8 hK ?_ (fun x_l1 h g1 y_l1 h_l1 hx_l1=>?_)
 · refine za2 (za2 (za3 hG ?_))
   refine zl0 rfl hG h (fun _ h=>?_) (fun _ h=>?_)
   · refine zj2 ?_
     refine zB5 (za2 ?_)
     obtain ⟨hb3,h⟩:=zd5 h
     refine za3 hG ?_
     refine za3 hG ?_
     exact zcI0 hK [(0,1)] h
   refine zH3 ?_
   refine .inr ?_
   refine za2 ?_
   obtain ⟨hb4,h⟩:=zd5 h
   refine za3 hG ?_
   refine zt2 ?_
   exact zS4 [(0,1)] h
 unfold zal3 at h_l1
 refine g_st ?_
 refine za2 (za2 (za3 hG ?_))
 refine zl0 rfl hG h_l1 (fun _ h_l1=>?_) (fun _ h_l1=>?_)
 · refine zj2 ?_
   refine zB5 (za2 ?_)
   obtain ⟨hb2,h_l1⟩:=zd5 h_l1
   refine za3 hG ?_
   refine za3 hG ?_
   exact zF8 hK [(0,1)] h_l1
 refine zH3 ?_
 cases h_l1
 cases hx_l1 _ rfl
 refine .inl ?_
 exact zy4 hK [(0,0)] (g1.1,g1.2) (by exact h)
instance zcx5 (a0:List Int) (a1:Int):OkM (zg0 a0 a1) 73 [.sl (a0.map (eI .u8)),.int .u64 a1] [] 0 (fun r=>.own 0 0 r.length) (fun r=>[(0,⟨false,1,[A.int .u8 0],r.map (eI .u8)⟩)]) 1:=⟨zbl9 a0 a1⟩
attribute [local irreducible] zg0
def zU5 (j1:Unit):Option Int :=
 some (-1)
def zG0 (a0:List aM) (a1:aM) (g1:Int):Option (Int⊕(Unit⊕Int)) :=
 (if (decide (g1 < (a0.length:Int)))=true then
  gd (0≤g1∧g1 < (a0.length:Int)) <|
  (if (decide (a1=a0.getD g1.toNat aM.zero))=true then
   some (.inr (.inr g1))
  else
   some (.inl (i64.wrap (g1+1))))
 else
  some (.inr (.inl ())))
def zb3 (a0:List aM) (a1:aM):Option Int :=
 (zc0 (zG0 a0 a1) 0).bind (fun|.inl z=>zU5 z|.inr z=>some z)
@[reducible,instance] def zdM5 a0 a1:=mkJ (zb3 a0 a1) 0 (@zU5.eq_1) fun (j1:Unit)=>⟨[],[],0⟩
@[reducible,instance] def zdM6 (a0:List aM) (a1:aM) {T:Type} (x:T):=mkL x (@zG0.eq_1 a0 a1) fun (g1:Int)=>⟨[(0,la a0),(3,.ptr 0 0 0),(7,.int .i64 (a0.length:Int)),(8,.int .i64 g1)],[(0,bx a1)],1⟩
instance zbt6 (a0:List aM) (a1:aM):OkP (zb3 a0 a1) 168 [la a0,ga a1] (fun r=>.int .i64 r):=ok1 (zb3.eq_1 a0 a1) Tryz.f168 []
attribute [local irreducible] zb3
def zO8 (a0 a1:aT):Bool :=
 (decide ({ a0 with bQ:=0 }={ a1 with bQ:=0 }))
instance zbW8 (a0 a1:aT):OkT 100 [.agg (aT.enc a0),.agg (aT.enc a1)] (.bool (zO8 a0 a1)):=ok2 (fun r=>.bool r) (zO8.eq_1 a0 a1) Tryz.f100 []
def zw9 (j1:Unit):Option Bool :=
 some true
def zo4 (a90:(aO→aO→Option Bool)) (a0 a1:List aO) (g1:Int):Option (Int⊕(Unit⊕Bool)) :=
 (if (decide (g1 < (a0.length:Int)))=true then
  gd (0≤g1∧g1 < (a0.length:Int)) <|
  gd (0≤g1∧g1 < (a1.length:Int)) <|
  (a90 (a0.getD g1.toNat aO.zero) (a1.getD g1.toNat aO.zero)).bind fun v1 =>
  (if (!v1)=true then
   some (.inr (.inr false))
  else
   some (.inl (i64.wrap (g1+1))))
 else
  some (.inr (.inl ())))
def za0 (a90:(aO→aO→Option Bool)) (a0 a1:List aO):Option Bool :=
 (if (!decide ((a0.length:Int)=(a1.length:Int)))=true then
  some false
 else
  (zc0 (zo4 a90 a0 a1) 0).bind (fun|.inl z=>zw9 z|.inr z=>some z))
@[reducible,instance] def zdM7 (a90:(aO→aO→Option Bool)) (a0 a1:List aO):=mkJ (za0 a90 a0 a1) 0 (@zw9.eq_1) fun (j1:Unit)=>⟨[],[],0⟩
@[reducible,instance] def zdM8 (a90:(aO→aO→Option Bool)) (a0 a1:List aO) {T:Type} (x:T):=mkL x (@zo4.eq_1 a90 a0 a1) fun (g1:Int)=>⟨[(1,la a1),(2,.clo 65 []),(15,la a0),(16,.int .i64 (a0.length:Int)),(17,.int .i64 g1)],[],0⟩
theorem zN4 (a90:(aO→aO→Option Bool)) (hrc:∀ (a0:aO) (a1:aO) (r:Bool),a90 a0 a1=some r→PFn C 65 [ga a0,ga a1] (.bool r)) (a0 a1:List aO) (r:Bool) (h:za0 a90 a0 a1=some r):MFn C 101 [la a0,la a1,.clo 65 []] [] 0 (.bool r) [] 0:=by
 refine zaz8 Tryz.f101 [] [.bool r] fun E hG hN hK=>?_
 have hm:Mk (za0 a90 a0 a1):=trivial
 unfold za0 at h
 exact gogo
attribute [local irreducible] za0
def zf2 (a0:bJ):Option (Bool×bJ) :=
 some ((decide (a0.at_ < (a0.l.length:Int))),a0)
instance zcq4 (a0:bJ):OkM (zf2 a0) 94 [.ptr 0 0 0] [(0,bx a0)] 1 (fun r=>.bool r.1) (fun r=>[(0,bx r.2)]) 1:=okm (zf2.eq_1 a0) (fun r=>[.bool r.1]) Tryz.f94 []
attribute [local irreducible] zf2
def zH7 (a0:ByteArray):Bool :=
 (((((a0.toList == (⟨#[97,108,108]⟩:ByteArray).toList)||(a0.toList == (⟨#[97,110,121]⟩:ByteArray).toList))||(a0.toList == (⟨#[111,102]⟩:ByteArray).toList))||(a0.toList == (⟨#[112,114,105,111]⟩:ByteArray).toList))||(a0.toList == (⟨#[108,105,109,105,116]⟩:ByteArray).toList))
instance zcJ2 (a0:ByteArray):OkT 235 [.str a0] (.bool (zH7 a0)):=ok2 (fun r=>.bool r) (zH7.eq_1 a0) Tryz.f235 []
def zw0 (a0:Int):Bool :=
 (decide (1≤a0)&&decide (a0≤5))
instance zdb3 (a0:Int):OkT 196 [.int .i64 a0] (.bool (zw0 a0)):=ok2 (fun r=>.bool r) (zw0.eq_1 a0) Tryz.f196 []
def zbb6 (j1:aC):Option aC :=
 some j1
def zar9 (a0:List bK) (a1:ByteArray) (g1:Int×aC):Option ((Int×aC)⊕aC) :=
 (if (decide (g1.1 < (a0.length:Int)))=true then
  gd (0≤g1.1∧g1.1 < (a0.length:Int)) <|
  (if (((a0.getD g1.1.toNat bK.zero).name).toList == a1.toList)=true then
   gd (0≤g1.1∧g1.1 < (a0.length:Int)) <|
   some (.inl ((i64.wrap (g1.1+1)),(a0.getD g1.1.toNat bK.zero).after))
  else
   some (.inl ((i64.wrap (g1.1+1)),g1.2)))
 else
  some (.inr g1.2))
def zj3 (a0:List bK) (a1:ByteArray):Option aC :=
 (zc0 (zar9 a0 a1) (0,aC.zero)).bind (fun z=>zbb6 z)
@[reducible,instance] def zdM9 a0 a1:=mkJ (zj3 a0 a1) 0 (@zbb6.eq_1) fun (j1:aC)=>⟨[(4,.ptr 0 0 0),(5,.ptr 1 0 0)],[(0,bx aC.zero),(1,bx j1)],2⟩
@[reducible,instance] def zdN0 (a0:List bK) (a1:ByteArray) {T:Type} (x:T):=mkL x (@zar9.eq_1 a0 a1) fun (g1:Int×aC)=>⟨[(0,la a0),(1,.str a1),(4,.ptr 0 0 0),(5,.ptr 1 0 0),(6,.int .i64 g1.1)],[(0,bx aC.zero),(1,bx g1.2)],2⟩
instance zbX5 (a0:List bK) (a1:ByteArray):OkP (zj3 a0 a1) 191 [la a0,.str a1] (fun r=>ga r):=ok1 (zj3.eq_1 a0 a1) Tryz.f191 []
attribute [local irreducible] zj3
def zbb7 (j1:Unit):Option Int :=
 some (-1)
def zas0 (a0:List bR) (a1 g1:Int):Option (Int⊕(Unit⊕Int)) :=
 (if (decide (g1 < (a0.length:Int)))=true then
  gd (0≤g1∧g1 < (a0.length:Int)) <|
  (if (decide ((a0.getD g1.toNat bR.zero).label=a1))=true then
   some (.inr (.inr g1))
  else
   some (.inl (i64.wrap (g1+1))))
 else
  some (.inr (.inl ())))
def zl8 (a0:List bR) (a1:Int):Option Int :=
 (zc0 (zas0 a0 a1) 0).bind (fun|.inl z=>zbb7 z|.inr z=>some z)
@[reducible,instance] def zdN1 a0 a1:=mkJ (zl8 a0 a1) 0 (@zbb7.eq_1) fun (j1:Unit)=>⟨[],[],0⟩
@[reducible,instance] def zdN2 (a0:List bR) (a1:Int) {T:Type} (x:T):=mkL x (@zas0.eq_1 a0 a1) fun (g1:Int)=>⟨[(0,la a0),(1,.int .i64 a1),(5,.int .i64 g1)],[],0⟩
instance zbX6 (a0:List bR) (a1:Int):OkP (zl8 a0 a1) 194 [la a0,.int .i64 a1] (fun r=>.int .i64 r):=ok1 (zl8.eq_1 a0 a1) Tryz.f194 []
attribute [local irreducible] zl8
def zbb8 (j1:Unit):Option Int :=
 some (-1)
def zas1 (a0:List aA) (a1:ByteArray) (g1:Int):Option (Int⊕(Unit⊕Int)) :=
 (if (decide (g1 < (a0.length:Int)))=true then
  gd (0≤g1∧g1 < (a0.length:Int)) <|
  (if ((((a0.getD g1.toNat aA.zero).aB).name).toList == a1.toList)=true then
   some (.inr (.inr g1))
  else
   some (.inl (i64.wrap (g1+1))))
 else
  some (.inr (.inl ())))
def zh9 (a0:List aA) (a1:ByteArray):Option Int :=
 (zc0 (zas1 a0 a1) 0).bind (fun|.inl z=>zbb8 z|.inr z=>some z)
@[reducible,instance] def zdN3 a0 a1:=mkJ (zh9 a0 a1) 0 (@zbb8.eq_1) fun (j1:Unit)=>⟨[],[],0⟩
@[reducible,instance] def zdN4 (a0:List aA) (a1:ByteArray) {T:Type} (x:T):=mkL x (@zas1.eq_1 a0 a1) fun (g1:Int)=>⟨[(0,la a0),(1,.str a1),(5,.int .i64 g1)],[],0⟩
instance zbn7 (a0:List aA) (a1:ByteArray):OkP (zh9 a0 a1) 142 [la a0,.str a1] (fun r=>.int .i64 r):=ok1 (zh9.eq_1 a0 a1) Tryz.f142 []
attribute [local irreducible] zh9
def zaF3 (j1:Unit):Option Bool :=
 some true
def zaF4 (a0 a1:List aM) (g1:Int):Option (Int⊕(Unit⊕Bool)) :=
 (if (decide (g1 < (a0.length:Int)))=true then
  gd (0≤g1∧g1 < (a0.length:Int)) <|
  gd (0≤g1∧g1 < (a1.length:Int)) <|
  (if (!decide (a0.getD g1.toNat aM.zero=a1.getD g1.toNat aM.zero))=true then
   some (.inr (.inr false))
  else
   some (.inl (i64.wrap (g1+1))))
 else
  some (.inr (.inl ())))
def zf3 (a0 a1:List aM):Option Bool :=
 (if (!decide ((a0.length:Int)=(a1.length:Int)))=true then
  some false
 else
  (zc0 (zaF4 a0 a1) 0).bind (fun|.inl z=>zaF3 z|.inr z=>some z))
@[reducible,instance] def zdN5 a0 a1:=mkJ (zf3 a0 a1) 0 (@zaF3.eq_1) fun (j1:Unit)=>⟨[],[],0⟩
@[reducible,instance] def zdN6 (a0 a1:List aM) {T:Type} (x:T):=mkL x (@zaF4.eq_1 a0 a1) fun (g1:Int)=>⟨[(0,la a0),(1,la a1),(5,.int .i64 g1)],[],0⟩
instance zcA4 (a0 a1:List aM):OkP (zf3 a0 a1) 145 [la a0,la a1] (fun r=>.bool r):=ok1 (zf3.eq_1 a0 a1) Tryz.f145 []
attribute [local irreducible] zf3
def zax3 (a0:List aT) (j1:(List aT)):Option ((List aT)×Bool) :=
 some (j1,decide (((j1.length:Nat):Int) < (a0.length:Int)))
def zaa2 (a0:List aT) (a1:aJ) (g1:Int×(List aT)):Option ((Int×(List aT))⊕(List aT)) :=
 (if (decide (g1.1 < (a0.length:Int)))=true then
  gd (0≤g1.1∧g1.1 < (a0.length:Int)) <|
  (if (!decide ((a0.getD g1.1.toNat aT.zero).aN=a1))=true then
   gd (0≤g1.1∧g1.1 < (a0.length:Int)) <|
   gd (g1.2.length+1≤4294967296) <|
   some (.inl ((i64.wrap (g1.1+1)),(g1.2++[(a0.getD g1.1.toNat aT.zero)])))
  else
   some (.inl ((i64.wrap (g1.1+1)),g1.2)))
 else
  some (.inr g1.2))
def zh4 (a0:List aT) (a1:aJ):Option ((List aT)×Bool) :=
 (zc0 (zaa2 a0 a1) (0,[])).bind (fun z=>zax3 a0 z)
@[reducible,instance] def zdN7 (a0:List aT) a1:=mkJ (zh4 a0 a1) 0 (@zax3.eq_1 a0) fun (j1:(List aT))=>⟨[(0,la a0),(6,.own 0 0 j1.length)],[(0,sx j1)],1⟩
@[reducible,instance] def zdN8 (a0:List aT) (a1:aJ) {T:Type} (x:T):=mkL x (@zaa2.eq_1 a0 a1) fun (g1:Int×(List aT))=>⟨[(0,la a0),(3,.ptr 0 0 0),(6,.own 1 0 g1.2.length),(7,.int .i64 g1.1)],[(0,bx a1),(1,sx g1.2)],2⟩
instance zcU9 (a0:List aT) (a1:aJ):OkP (zh4 a0 a1) 290 [la a0,ga a1] (fun r=>.tup [la r.1,.bool r.2]):=ok1 (zh4.eq_1 a0 a1) Tryz.f290 [(6,1)]
attribute [local irreducible] zh4
attribute [local irreducible] zb2 za4 zd4 za6 zh1 zm5 zm4 zh2 zk4 zi2 zd7 zg4 za7 zn9 zh3 zj7 ze3 za8 zg8 zi3 zg1 zl1 zj1 za9 zf9 ze4 zh8 ze5 zk7 zk0 zk1 zn8 zg9 zm3 f_ref08_holds zj9 zc5 zf8 zd0 zd9 ze6
def zo0 (a0:aA) (a1:aJ):Option aC :=
 (zj7 a0.aR a1).bind fun v1 =>
 some v1
instance zdk4 (a0:aA) (a1:aJ):OkP (zo0 a0 a1) 222 [ga a0,ga a1] (fun r=>ga r):=ok1 (zo0.eq_1 a0 a1) Tryz.f222 []
attribute [local irreducible] zo0
def zn0 (a0 a1:Int):Option Bool :=
 gd ((zv0 a0&&zv0 a1)=true→0≤a1∧a1 < 6) <|
 some ((zv0 a0&&zv0 a1)&&Arr.get (zaK4 a0) a1.toNat false)
instance zdb4 (a0 a1:Int):OkP (zn0 a0 a1) 265 [.int .i64 a0,.int .i64 a1] (fun r=>.bool r):=ok1 (zn0.eq_1 a0 a1) Tryz.f265 []
attribute [local irreducible] zn0
def zk2 (a0:aO):Option Int :=
 (ze3 a0 1 0).bind fun v1 =>
 some v1.1
instance zbA4 (a0:aO):OkP (zk2 a0) 83 [ga a0] (fun r=>.int .i64 r):=ok1 (zk2.eq_1 a0) Tryz.f83 []
attribute [local irreducible] zk2
def zE8 (j2:(List aT)):Option (List aT) :=
 some j2
@[go_sem] def zdv9  (j2:(List aT)):St:=⟨[(6,.own 0 0 j2.length)],[(0,sx j2)],1⟩
def zn3 (a0:List (List aT)) (g1:Int×(List aT)):Option ((Int×(List aT))⊕(List aT)) :=
 (if (decide (g1.1 < (a0.length:Int)))=true then
  gd (0≤g1.1∧g1.1 < (a0.length:Int)) <|
  gd (g1.2.length+(a0.getD g1.1.toNat []).length≤4294967296) <|
  some (.inl ((i64.wrap (g1.1+1)),(g1.2++a0.getD g1.1.toNat [])))
 else
  some (.inr g1.2))
@[go_sem] def zdw0 (a0:List (List aT)) (g1:Int×(List aT)):St:=⟨[(6,.own 0 0 g1.2.length),(25,.sl (a0.map (eL aT.enc))),(26,.int .i64 (a0.length:Int)),(27,.int .i64 g1.1)],[(0,sx g1.2)],1⟩
def zx2 (a0:List (List aT)) (j1:Int):Option (List aT) :=
 (zb2 j1).bind fun v1 =>
 (zc0 (zn3 a0) (0,v1)).bind (fun z=>zE8 z)
@[go_sem] def zdw1 (a0:List (List aT)) (j1:Int):St:=⟨[(0,.sl (a0.map (eL aT.enc))),(3,.int .i64 j1)],[],0⟩
def zn4 (a0:List (List aT)) (g2:Int×Int):Option ((Int×Int)⊕Int) :=
 (if (decide (g2.2 < (a0.length:Int)))=true then
  gd (0≤g2.2∧g2.2 < (a0.length:Int)) <|
  (if (decide (i64.wrap (g2.1+((a0.getD g2.2.toNat []).length:Int)) < 0))=true then
   none
  else
   some (.inl ((i64.wrap (g2.1+((a0.getD g2.2.toNat []).length:Int))),i64.wrap (g2.2+1))))
 else
  some (.inr g2.1))
@[go_sem] def zdw2 (a0:List (List aT)) (g2:Int×Int):St:=⟨[(0,.sl (a0.map (eL aT.enc))),(3,.int .i64 g2.1),(9,.sl (a0.map (eL aT.enc))),(10,.int .i64 (a0.length:Int)),(11,.int .i64 g2.2)],[],0⟩
def zb4 (a0:List (List aT)):Option (List aT) :=
 (zc0 (zn4 a0) (0,0)).bind (fun z=>zx2 a0 z)
theorem zat2 (a0:List (List aT)) (r:(List aT)) (h:zb4 a0=some r):PFn C 126 [.sl (a0.map (eL aT.enc))] (la r):=by
 refine zad2 Tryz.f126 [] fun E hG hN hK=>?_
 unfold zb4 at h
 refine za2 (za3 hG ?_)
 refine za2 (za3 hG ?_)
 refine za2 (za2 (za3 hG ?_))
 refine zB6 (zdw1 a0) (fun v=>zx2 a0 v=some r) ?_ ?_
 · intro j1 h
   unfold zx2 at h
   refine g_st ?_
   refine za2 (za3 hG ?_)
   obtain ⟨v1,hv1,h⟩:=zc9 h
   refine zs2 [] [(0,0)] [0] (zaq7 _ _ hv1) rfl rfl ?_
   refine za2 (za2 (za3 hG ?_))
   refine zB6 zdv9 (fun v=>zE8 v=some r) ?_ ?_
   · intro j2 h
     unfold zE8 at h
     refine g_st ?_
     refine za2 (za3 hG ?_)
     refine zt2 ?_
     exact zI9 h
   refine zY4 (zdw0 a0) hK [(0,0)] h (fun x_l1 h g1 y_l1 h_l1 hx_l1=>?_)
   unfold zn3 at h_l1
   refine g_st ?_
   refine za2 (za3 hG ?_)
   refine za2 ?_
   refine zl0 rfl hG h_l1 (fun _ h_l1=>?_) (fun _ h_l1=>?_)
   · refine zj2 ?_
     refine za2 (zB5 (za2 ?_))
     obtain ⟨hb2,h_l1⟩:=zd5 h_l1
     refine za3 hG ?_
     obtain ⟨hb1,h_l1⟩:=zd5 h_l1
     refine za3 hG ?_
     refine za3 hG ?_
     exact zF8 hK [(0,1)] h_l1
   refine zH3 ?_
   cases h_l1
   cases hx_l1 _ rfl
   exact zy4 hK [(0,0)] g1.2 (by exact h)
 refine zY4 (zdw2 a0) hK [] h (fun x_l2 h g2 y_l2 h_l2 hx_l2=>?_)
 unfold zn4 at h_l2
 refine g_st ?_
 refine za2 (za3 hG ?_)
 refine za2 ?_
 refine zl0 rfl hG h_l2 (fun _ h_l2=>?_) (fun _ h_l2=>?_)
 · refine zj2 ?_
   refine za2 (zB5 (za2 ?_))
   obtain ⟨hb3,h_l2⟩:=zd5 h_l2
   refine za3 hG ?_
   refine za2 (za3 hG ?_)
   refine za2 (za3 hG ?_)
   refine zl0 rfl hG h_l2 (fun _ h_l2=>?_) (fun _ h_l2=>?_)
   · exact zdv3 h_l2
   refine zj2 ?_
   refine za3 hG ?_
   exact zF8 hK [] h_l2
 refine zH3 ?_
 cases h_l2
 cases hx_l2 _ rfl
 exact zy4 hK [] g2.1 (by exact h)
instance zbn8 (a0:List (List aT)):OkP (zb4 a0) 126 [.sl (a0.map (eL aT.enc))] (fun r=>la r):=⟨zat2 a0⟩
attribute [local irreducible] zb4
def zd1 (a0:bC):Option bC :=
 (zd4 a0.bO).bind fun v1 =>
 some ({ a0 with bO:=v1 })
instance zag8 (a0:bC):OkP (zd1 a0) 26 [ga a0] (fun r=>ga r):=⟨fun r h=>by
 refine zad2 Tryz.f26 [] fun E hG hN hK=>?_
 have hm:Mk (zd1 a0):=trivial
 unfold zd1 at h
 refine za2 (za3 hG ?_)
 refine za2 (za3 hG ?_)
 obtain ⟨v1,hv1,h⟩:=zc9 h
 have hm:=mkP hm v1
 refine zq4 (fun hg=>(zaX9 a0.bO).ok _ hv1) ?_
 refine za2 (za3 hG ?_)
 refine zt2 ?_
 exact zI9 h (by intro e; subst e; simp [aJ.enc,aM.enc,aC.enc])⟩
attribute [local irreducible] zd1
def zu4 (a0 a1:aJ):Int :=
 (if (!decide (zO6 a0.site a1.site=0))=true then
  (zO6 a0.site a1.site)
 else
  (if (!decide (zO6 a0.inc a1.inc=0))=true then
   (zO6 a0.inc a1.inc)
  else
   (zO6 a0.num a1.num)))
instance zcq5 (a0 a1:aJ):OkT 92 [.agg (aJ.enc a0),.agg (aJ.enc a1)] (.int .i64 (zu4 a0 a1)):=ok2 (fun r=>.int .i64 r) (zu4.eq_1 a0 a1) Tryz.f92 []
def zd2 (a0:Int) (a1:aW):Option (Int×(List aA)×(List aH)×(List bI)) :=
 gd (0≤a0∧a0 < ((a1.c.aG.length:Nat):Int)) <|
 gd (0≤a0∧a0 < ((a1.c.aG.length:Nat):Int)) <|
 some (a1.c.now,a1.c.aF,a1.c.aG.set a0.toNat ({ (a1.c.aG.getD a0.toNat aH.zero) with gen:=(zm8 ((a1.c.aG.getD a0.toNat aH.zero).gen)) }),a1.ev)
instance zbd2 (a0:Int) (a1:aW):OkM (zd2 a0 a1) 212 [.ptr 0 0 0,.int .i64 a0] [(0,⟨false,4,aW.enc aW.zero,[[.int .i64 a1.c.now,la a1.c.aF,.own 1 0 a1.c.aG.length,.own 2 0 a1.ev.length]]⟩),(1,sx a1.c.aG),(2,sx a1.ev)] 3 (fun r=>.tup []) (fun r=>[(0,⟨false,4,aW.enc aW.zero,[[.int .i64 r.1,la r.2.1,.own 1 0 r.2.2.1.length,.own 2 0 r.2.2.2.length]]⟩),(1,sx r.2.2.1),(2,sx r.2.2.2)]) 3:=okm (zd2.eq_1 a0 a1) (fun r=>[]) Tryz.f212 []
attribute [local irreducible] zd2
def zd6 (a0:aA):Option aA :=
 (za9 a0.aR).bind fun v1 =>
 (za7 a0.aL).bind fun v2 =>
 (za7 a0.aV).bind fun v3 =>
 some ({ { { a0 with aR:=v1 } with aL:=v2 } with aV:=v3 })
instance zau7 (a0:aA):OkP (zd6 a0) 23 [ga a0] (fun r=>ga r):=ok1 (zd6.eq_1 a0) Tryz.f23 []
attribute [local irreducible] zd6
def zg3 (a0 a1:aA):Option Int :=
 (zf9 a0.aB.name a1.aB.name).bind fun v1 =>
 some v1
instance zbf9 (a0 a1:aA):OkP (zg3 a0 a1) 29 [ga a0,ga a1] (fun r=>.int .i64 r):=ok1 (zg3.eq_1 a0 a1) Tryz.f29 []
attribute [local irreducible] zg3
def zb1 (a0:aI) (a1:aC):Bool :=
 (if (!(zf7 a0))=true then
  false
 else
  (if (decide (a0.kind=1))=true then
   (zv0 a1.mode&&decide (a1.aS=0))
  else
   ((decide (a1.mode=0)&&decide (1≤a1.aS))&&decide (a1.aS≤a0.aS))))
instance zdb5 (a0:aI) (a1:aC):OkT 177 [.agg (aI.enc a0),.agg (aC.enc a1)] (.bool (zb1 a0 a1)):=ok2 (fun r=>.bool r) (zb1.eq_1 a0 a1) Tryz.f177 []
def zd8 (a0 a1:aJ):Option Int :=
 (zh3 (⟨[a0.site,a0.inc,a0.num],rfl⟩:Arr Int 3) (⟨[a1.site,a1.inc,a1.num],rfl⟩:Arr Int 3)).bind fun v1 =>
 some v1
instance zaF5 (a0 a1:aJ):OkP (zd8 a0 a1) 33 [ga a0,ga a1] (fun r=>.int .i64 r):=ok1 (zd8.eq_1 a0 a1) Tryz.f33 []
attribute [local irreducible] zd8
def zax4 (j1:(List Int)):Option (List Int) :=
 some j1
def zC8 (a1:List Int) (g1:(List Int)×Int):Option (((List Int)×Int)⊕(List Int)) :=
 (if (decide (g1.2 < (a1.length:Int)))=true then
  gd (0≤g1.2∧g1.2 < (a1.length:Int)) <|
  (ze7 g1.1 (u64.wrap (a1.getD g1.2.toNat 0))).bind fun v1 =>
  some (.inl (v1,i64.wrap (g1.2+1)))
 else
  some (.inr g1.1))
def zc3 (a0 a1:List Int):Option (List Int) :=
 (zc0 (zC8 a1) (a0,0)).bind (fun z=>zax4 z)
@[reducible,instance] def zdN9 a0 a1:=mkJ (zc3 a0 a1) 0 (@zax4.eq_1) fun (j1:(List Int))=>⟨[(0,.sl (j1.map (eI .u8)))],[],0⟩
@[reducible,instance] def zdO0 (a1:List Int) {T:Type} (x:T):=mkL x (@zC8.eq_1 a1) fun (g1:(List Int)×Int)=>⟨[(0,.sl (g1.1.map (eI .u8))),(7,.sl (a1.map (eI .i64))),(8,.int .i64 (a1.length:Int)),(9,.int .i64 g1.2)],[],0⟩
instance zcq6 (a0 a1:List Int):OkP (zc3 a0 a1) 36 [.sl (a0.map (eI .u8)),.sl (a1.map (eI .i64))] (fun r=>.sl (r.map (eI .u8))):=ok1 (zc3.eq_1 a0 a1) Tryz.f36 []
attribute [local irreducible] zc3
def zo7 (a0:List Int):Option (ByteArray×Int×Int) :=
 (zk7 a0).bind fun v1 =>
 (if (!decide (v1.2.2=0))=true then
  some ((⟨#[]⟩:ByteArray),0,v1.2.2)
 else
  (if (decide (1024 < v1.1))=true then
   some ((⟨#[]⟩:ByteArray),0,3)
  else
   (if (decide (i64.wrap ((a0.length:Int) - v1.2.1) < i64.wrap v1.1))=true then
    some ((⟨#[]⟩:ByteArray),0,5)
   else
    gd (0≤v1.2.1∧v1.2.1≤i64.wrap (v1.2.1+i64.wrap v1.1)∧i64.wrap (v1.2.1+i64.wrap v1.1)≤(a0.length:Int)) <|
    some ((zaW6 ((a0.take ((i64.wrap (v1.2.1+i64.wrap v1.1)).toNat)).drop v1.2.1.toNat)),i64.wrap (v1.2.1+i64.wrap v1.1),0))))
instance zdk5 (a0:List Int):OkP (zo7 a0) 124 [.sl (a0.map (eI .u8))] (fun r=>.tup [.str r.1,.int .i64 r.2.1,.int .i64 r.2.2]):=ok1 (zo7.eq_1 a0) Tryz.f124 []
attribute [local irreducible] zo7
def zx0 (j1:Unit):Option Bool :=
 some true
def zo5 (a0 a1:List aT) (g1:Int):Option (Int⊕(Unit⊕Bool)) :=
 (if (decide (g1 < (a0.length:Int)))=true then
  gd (0≤g1∧g1 < (a0.length:Int)) <|
  gd (0≤g1∧g1 < (a1.length:Int)) <|
  (if (!(zO8 (a0.getD g1.toNat aT.zero) (a1.getD g1.toNat aT.zero)))=true then
   some (.inr (.inr false))
  else
   some (.inl (i64.wrap (g1+1))))
 else
  some (.inr (.inl ())))
def za1 (a0 a1:List aT):Option Bool :=
 (if (!decide ((a0.length:Int)=(a1.length:Int)))=true then
  some false
 else
  (zc0 (zo5 a0 a1) 0).bind (fun|.inl z=>zx0 z|.inr z=>some z))
@[reducible,instance] def zdO1 a0 a1:=mkJ (za1 a0 a1) 0 (@zx0.eq_1) fun (j1:Unit)=>⟨[],[],0⟩
@[reducible,instance] def zdO2 (a0 a1:List aT) {T:Type} (x:T):=mkL x (@zo5.eq_1 a0 a1) fun (g1:Int)=>⟨[(1,la a1),(2,.clo 100 []),(15,la a0),(16,.int .i64 (a0.length:Int)),(17,.int .i64 g1)],[],0⟩
instance zN5 (a0 a1:List aT):OkM (za1 a0 a1) 99 [la a0,la a1,.clo 100 []] [] 0 (fun r=>.bool r) (fun r=>[]) 0:=okm (za1.eq_1 a0 a1) (fun r=>[.bool r]) Tryz.f99 []
attribute [local irreducible] za1
def zY9 :List Int:=[5,5,3,4,2,1,3,5]
def zq1 (a0:Int):Option Int :=
 (zn9 a0 (zY9.length:Int)).bind fun v1 =>
 gd (0≤v1∧v1 < (zY9.length:Int)) <|
 some (zY9.getD v1.toNat 0)
instance zdo7 (a0:Int):OkP (zq1 a0) 273 [.int .i64 a0] (fun r=>.int .i64 r):=⟨fun r h=>by
 refine zad2 Tryz.f273 [] fun E hG hN hK=>?_
 have hm:Mk (zq1 a0):=trivial
 unfold zq1 at h
 refine za2 (za3 hG ?_)
 refine za2 (za3 hG ?_)
 refine g_gh (.cast 3 (.full (zY9.map (eI .i64)))) ?_
 exact gogo⟩
attribute [local irreducible] zq1
def zp6 (a0:aC):Bool :=
 ((zw0 a0.mode&&decide (a0.aS=0))||((decide (a0.mode=0)&&decide (1≤a0.aS))&&decide (a0.aS≤8)))
instance zbb9 (a0:aC):OkT 237 [.agg (aC.enc a0)] (.bool (zp6 a0)):=ok2 (fun r=>.bool r) (zp6.eq_1 a0) Tryz.f237 []
def zi0 (a0:aA) (a1:aJ):Option aC :=
 (zm5 a0.aR a1).bind fun v1 =>
 some v1
instance zaR6 (a0:aA) (a1:aJ):OkP (zi0 a0 a1) 197 [ga a0,ga a1] (fun r=>ga r):=ok1 (zi0.eq_1 a0 a1) Tryz.f197 []
attribute [local irreducible] zi0
def zi5 (a0 a1:bC):Option Bool :=
 ((if (decide (a0.aN=a1.aN)&&decide (a0.gen=a1.gen))=true then zg1 a0.bO a1.bO else some false)).bind fun v1 =>
 some ((decide (a0.aN=a1.aN)&&decide (a0.gen=a1.gen))&&v1)
instance zcJ3 (a0 a1:bC):OkP (zi5 a0 a1) 35 [ga a0,ga a1] (fun r=>.bool r):=ok1 (zi5.eq_1 a0 a1) Tryz.f35 []
attribute [local irreducible] zi5
def zh5 (a0 a1:Int):Option Bool :=
 gd ((zv0 a0&&zv0 a1)=true→0≤i64.wrap (a0 - 1)∧i64.wrap (a0 - 1) < 5) <|
 gd ((zv0 a0&&zv0 a1)=true→0≤i64.wrap (a1 - 1)∧i64.wrap (a1 - 1) < 5) <|
 some ((zv0 a0&&zv0 a1)&&Arr.get (Arr.get zci1 ((i64.wrap (a0 - 1)).toNat) (Arr.rep 5 false)) ((i64.wrap (a1 - 1)).toNat) false)
instance zbr0 (a0 a1:Int):OkP (zh5 a0 a1) 263 [.int .i64 a0,.int .i64 a1] (fun r=>.bool r):=ok1 (zh5.eq_1 a0 a1) Tryz.f263 []
attribute [local irreducible] zh5
def zj5 (a0:List Int) (a1:ByteArray):Option (List Int) :=
 (zg0 a0 (u64.wrap (a1.size:Int))).bind fun v1 =>
 gd (v1.length+a1.toList.length≤4294967296) <|
 some (v1++(a1.toList.map fun b=>(b.toNat:Int)))
instance zcP3 (a0:List Int) (a1:ByteArray):OkP (zj5 a0 a1) 74 [.sl (a0.map (eI .u8)),.str a1] (fun r=>.sl (r.map (eI .u8))):=ok1 (zj5.eq_1 a0 a1) Tryz.f74 [(9,1)]
attribute [local irreducible] zj5
def zC9 (a2:aY) (v1:Int×Int×Int) (j1:Int):Option (Int×aY) :=
 (if (!decide (j1=0))=true then
  some (0,{ a2 with bN:={ a2.bN with err:=j1 } })
 else
  gd (0≤v1.2.1∧v1.2.1≤(a2.bN.rest.length:Int)∧(a2.bN.rest.length:Int)≤(a2.bN.rest.length:Int)) <|
  some ((i64.wrap v1.1),{ a2 with bN:={ a2.bN with rest:=(a2.bN.rest.drop v1.2.1.toNat) } }))
def zc1 (a0 a1:Int) (a2:aY):Option (Int×aY) :=
 (if (!decide (a2.bN.err=0))=true then
  some (0,a2)
 else
  (zk7 a2.bN.rest).bind fun v1 =>
  (if (decide (v1.2.2=0)&&decide (u64.wrap a0 < v1.1))=true then
   zC9 a2 v1 a1
  else
   zC9 a2 v1 v1.2.2))
@[reducible,instance] def zdO3 a0 a1 (a2:aY) (v1:Int×Int×Int):=mkJ (zc1 a0 a1 a2,v1) 999 (@zC9.eq_1 a2 v1) fun (j1:Int)=>⟨[(0,.ptr 0 0 0),(7,.int .u64 v1.1),(8,.int .i64 v1.2.1),(9,.int .i64 j1)],[(0,bx a2)],1⟩
instance zbF6 (a0 a1:Int) (a2:aY):OkM (zc1 a0 a1 a2) 75 [.ptr 0 0 0,.int .i64 a0,.int .i64 a1] [(0,bx a2)] 1 (fun r=>.int .i64 r.1) (fun r=>[(0,bx r.2)]) 1:=okm (zc1.eq_1 a0 a1 a2) (fun r=>[.int .i64 r.1]) Tryz.f75 []
attribute [local irreducible] zc1
def zb0 (a0:List aM) (a1:aM):Option Bool :=
 (zb3 a0 a1).bind fun v1 =>
 some (decide (0≤v1))
instance zaq1 (a0:List aM) (a1:aM):OkP (zb0 a0 a1) 125 [la a0,ga a1] (fun r=>.bool r):=ok1 (zb0.eq_1 a0 a1) Tryz.f125 []
attribute [local irreducible] zb0
def zD0 (a90:(aO→aO→Option Bool)) (a0 a1:aO):Option Bool :=
 ((if (decide (a0.k=a1.k)&&decide (a0.bB=a1.bB))=true then za0 a90 a0.bA a1.bA else some false)).bind fun v1 =>
 some ((decide (a0.k=a1.k)&&decide (a0.bB=a1.bB))&&v1)
def zA3:Nat→(aO→aO→Option Bool)
 | 0=>fun _ _=>none
 | n+1=>zD0 (zA3 n)
def ze9 (a0 a1:aO):Option Bool:=zA3 (_root_.SizeOf.sizeOf a0+1) a0 a1
theorem zaY1 (a90:(aO→aO→Option Bool)) (hrc:∀ (a0:aO) (a1:aO) (r:Bool),a90 a0 a1=some r→PFn C 65 [ga a0,ga a1] (.bool r)) (a0 a1:aO) (r:Bool) (h:zD0 a90 a0 a1=some r):PFn C 65 [ga a0,ga a1] (.bool r):=by
 refine zad2 Tryz.f65 [] fun E hG hN hK=>?_
 have hm:Mk (zD0 a90 a0 a1):=trivial
 unfold zD0 at h
 refine za2 (za3 hG ?_)
 refine za2 (za3 hG ?_)
 obtain ⟨v1,hv1,h⟩:=zc9 h
 have hm:=mkP hm v1
 refine zbf5 [] [] hv1 (fun hc=>zN4 a90 hrc a0.bA a1.bA _ hc) rfl ?_
 exact gogo
theorem zax5:∀ (n:Nat) (a0:aO) (a1:aO) (r:Bool),zA3 n a0 a1=some r→PFn C 65 [ga a0,ga a1] (.bool r)
 | 0,_,_,_,h=>nomatch h
 | n+1,a0,a1,r,h=>zaY1 (zA3 n) (zax5 n) a0 a1 r h
instance zcl7 (a0 a1:aO):OkP (ze9 a0 a1) 65 [ga a0,ga a1] (fun r=>.bool r):=⟨fun r h=>zax5 _ a0 a1 r h⟩
attribute [local irreducible] ze9
def zD1 (a0:Int):Bool :=
 (((zP9 a0||(decide (48≤a0)&&decide (a0≤57)))||decide (a0=95))||decide (a0=45))
instance zdk6 (a0:Int):OkT 236 [.int .u8 a0] (.bool (zD1 a0)):=ok2 (fun r=>.bool r) (zD1.eq_1 a0) Tryz.f236 []
def zf4 (a0 a1:bL):Option Bool :=
 (zg1 a0.bO a1.bO).bind fun v1 =>
 some ((v1&&decide (a0.bG=a1.bG))&&decide (a0.limit=a1.limit))
instance zcq7 (a0 a1:bL):OkP (zf4 a0 a1) 144 [ga a0,ga a1] (fun r=>.bool r):=ok1 (zf4.eq_1 a0 a1) Tryz.f144 []
attribute [local irreducible] zf4
def zn1 (a0:aO):Option Int :=
 (zn8 a0 1).bind fun v1 =>
 (if (decide (24 < v1.1))=true then
  some 0
 else
  some v1.1)
instance zbP6 (a0:aO):OkP (zn1 a0) 241 [ga a0] (fun r=>.int .i64 r):=ok1 (zn1.eq_1 a0) Tryz.f241 []
attribute [local irreducible] zn1
def zo8 (a0 a1:aA):Option Bool :=
 ((if (decide (a0.aB=a1.aB)&&decide (a0.gen=a1.gen))=true then ze6 a0.aR a1.aR else some false)).bind fun v1 =>
 ((if ((decide (a0.aB=a1.aB)&&decide (a0.gen=a1.gen))&&v1)=true then ze4 a0.aL a1.aL else some false)).bind fun v2 =>
 ((if (((decide (a0.aB=a1.aB)&&decide (a0.gen=a1.gen))&&v1)&&v2)=true then ze4 a0.aV a1.aV else some false)).bind fun v3 =>
 some ((((decide (a0.aB=a1.aB)&&decide (a0.gen=a1.gen))&&v1)&&v2)&&v3)
instance zdk7 (a0 a1:aA):OkP (zo8 a0 a1) 71 [ga a0,ga a1] (fun r=>.bool r):=ok1 (zo8.eq_1 a0 a1) Tryz.f71 []
attribute [local irreducible] zo8
end
end Ab
end Go.Proofs.YtogpinppgncpmaaGreatDoor
