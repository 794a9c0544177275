import Derived.Test.YtenebhlnfjcffaaGreatDoorHand
import Derived.Test.YtenebhlnfjcffaaGreatDoorHm2
import Derived.Test.YtenebhlnfjcffaaGreatDoorHm3
namespace Go.Proofs.YtenebhlnfjcffaaGreatDoor
namespace Ab
open IntKind (i64 u64 u8)
set_option linter.unusedSimpArgs false
set_option linter.defProp false
set_option linter.unusedVariables false
set_option maxRecDepth 100000
set_option maxHeartbeats 1000000
noncomputable section
def zD9(j1:Bool):Bool:=
 (if j1=true then
  true
 else
  false)
def zP4(a0:ByteArray):Bool:=
 (if(a0.toList==(⟨#[97,108,108]⟩:ByteArray).toList)=true then
  zD9 (a0.toList==(⟨#[97,108,108]⟩:ByteArray).toList)
 else
  (if(a0.toList==(⟨#[97,110,121]⟩:ByteArray).toList)=true then
   zD9 (a0.toList==(⟨#[97,110,121]⟩:ByteArray).toList)
  else
   (if(a0.toList==(⟨#[111,102]⟩:ByteArray).toList)=true then
    zD9 (a0.toList==(⟨#[111,102]⟩:ByteArray).toList)
   else
    (if(a0.toList==(⟨#[112,114,105,111]⟩:ByteArray).toList)=true then
     zD9 (a0.toList==(⟨#[112,114,105,111]⟩:ByteArray).toList)
    else
     zD9 (a0.toList==(⟨#[108,105,109,105,116]⟩:ByteArray).toList)))))
@[reducible,instance] def zey9 a0:=mkJ (zP4 a0) 999 (@zD9.eq_1) λ(j1:Bool)=>⟨[(4,.bool j1)],[],0⟩
instance zcH6(a0:ByteArray):OkT 224 [.str a0] (.bool (zP4 a0)):=ok2 (λ r=>.bool r) (zP4.eq_1 a0) Tryz.f224 []
def zg4(a0:aH):Bool:=
 (if(decide (a0.kind=1))=true then
  (decide (a0.aS=1))
 else
  (if(decide (a0.kind=2))=true then
   (decide (1<=a0.aS)&&decide (a0.aS<=8))
  else
   false))
instance zbF4(a0:aH):OkT 165 [.agg (aH.enc a0)] (.bool (zg4 a0)):=ok2 (λ r=>.bool r) (zg4.eq_1 a0) Tryz.f165 []
def zaj4(j1:Unit):Option Int:=
 some 0
def zq2(a0 a1:Arr Int 3)(g1:Int):Option (Int⊕(Unit⊕Int)):=
 (if(decide (g1<3))=true then
  gd (0<=g1/\g1<3)<|
  gd (0<=g1/\g1<3)<|
  (if(decide (Arr.get a0 g1.toNat 0<Arr.get a1 g1.toNat 0))=true then
   some (.inr (.inr (-1)))
  else
   gd (0<=g1/\g1<3)<|
   (if(decide (Arr.get a1 g1.toNat 0<Arr.get a0 g1.toNat 0))=true then
    some (.inr (.inr 1))
   else
    some (.inl (i64.wrap (g1+1)))))
 else
  some (.inr (.inl ())))
def zh8(a0 a1:Arr Int 3):Option Int:=
 (zc2 (zq2 a0 a1) 0).bind (λ|.inl z=>zaj4 z|.inr z=>some z)
@[reducible,instance] def zez0 a0 a1:=mkJ (zh8 a0 a1) 0 (@zaj4.eq_1) λ(j1:Unit)=>⟨[],[],0⟩
@[reducible,instance] def zez1 (a0 a1:Arr Int 3) {T:Type} (x:T):=mkL x (@zq2.eq_1 a0 a1) λ(g1:Int)=>⟨[(3,.ptr 0 0 0),(7,.agg (Arr.enc (eI .i64) a0)),(8,.int .i64 g1)],[(0,⟨false,3,Arr.enc (eI .i64) (Arr.rep 3 0),[Arr.enc (eI .i64) a1]⟩)],1⟩
instance zda9(a0 a1:Arr Int 3):OkP (zh8 a0 a1) 82 [.agg (Arr.enc (eI .i64) a0),.agg (Arr.enc (eI .i64) a1)] (λ r=>.int .i64 r):=ok1 (zh8.eq_1 a0 a1) Tryz.f82 []
attribute [local irreducible] zh8
def zbm1(j1:Unit):Option Int:=
 some (-1)
def zao2(a0:List aU)(a1:aL)(g1:Int):Option (Int⊕(Unit⊕Int)):=
 (if(decide (g1<(a0.length:Int)))=true then
  gd (0<=g1/\g1<(a0.length:Int))<|
  (if(decide ((a0.getD g1.toNat aU.zero).aK=a1))=true then
   some (.inr (.inr g1))
  else
   some (.inl (i64.wrap (g1+1))))
 else
  some (.inr (.inl ())))
def zn7(a0:List aU)(a1:aL):Option Int:=
 (zc2 (zao2 a0 a1) 0).bind (λ|.inl z=>zbm1 z|.inr z=>some z)
@[reducible,instance] def zez2 a0 a1:=mkJ (zn7 a0 a1) 0 (@zbm1.eq_1) λ(j1:Unit)=>⟨[],[],0⟩
@[reducible,instance] def zez3 (a0:List aU) (a1:aL) {T:Type} (x:T):=mkL x (@zao2.eq_1 a0 a1) λ(g1:Int)=>⟨[(3,.ptr 0 0 0),(7,la a0),(8,.int .i64 (a0.length:Int)),(9,.int .i64 g1)],[(0,bx a1)],1⟩
instance zdD6(a0:List aU)(a1:aL):OkP (zn7 a0 a1) 260 [la a0,ga a1] (λ r=>.int .i64 r):=ok1 (zn7.eq_1 a0 a1) Tryz.f260 []
attribute [local irreducible] zn7
def zaR1(a0:Int):(Arr Bool 6):=
 (if(decide (a0=5))=true then
  (Arr.put (Arr.put (Arr.put (Arr.put (Arr.put (Arr.rep 6 false) 5 true) 4 true) 3 true) 2 true) 1 true)
 else
  (if(decide (a0=4))=true then
   (Arr.put (Arr.put (Arr.put (Arr.put (Arr.rep 6 false) 4 true) 3 true) 2 true) 1 true)
  else
   (if(decide (a0=2))=true then
    (Arr.put (Arr.put (Arr.rep 6 false) 2 true) 1 true)
   else
    (if(decide (a0=1))=true then
     (Arr.put (Arr.rep 6 false) 1 true)
    else
     (if(decide (a0=3))=true then
      (Arr.put (Arr.put (Arr.rep 6 false) 3 true) 1 true)
     else
      (Arr.rep 6 false))))))
instance zdi1(a0:Int):OkT 268 [.int .i64 a0] (.agg (Arr.enc eB (zaR1 a0))):=ok2 (λ r=>.agg (Arr.enc eB r)) (zaR1.eq_1 a0) Tryz.f268 []
def zau4(a0:aJ)(a1:List aJ)(j1:Unit):Option (Int×(List aJ)):=
 (if(decide (((a1.length:Nat):Int)=8))=true then
  some (4,a1)
 else
  gd (a1.length+1<=4294967296)<|
  some (0,(a1++[a0])))
def zV3(a0:aJ)(a1:List aJ)(g1:Int):Option (Int⊕(Unit⊕(Int×(List aJ)))):=
 (if(decide (g1<((a1.length:Nat):Int)))=true then
  gd (0<=g1/\g1<((a1.length:Nat):Int))<|
  (if(decide (a0=a1.getD g1.toNat aJ.zero))=true then
   some (.inr (.inr (0,a1)))
  else
   (if(a0.name.toList==((a1.getD g1.toNat aJ.zero).name).toList)=true then
    some (.inr (.inr (13,a1)))
   else
    some (.inl (i64.wrap (g1+1)))))
 else
  some (.inr (.inl ())))
def zg1(a0:aJ)(a1:List aJ):Option (Int×(List aJ)):=
 (zc2 (zV3 a0 a1) 0).bind (λ|.inl z=>zau4 a0 a1 z|.inr z=>some z)
@[reducible,instance] def zec6 (a0:aJ) (a1:List aJ):=mkJ (zg1 a0 a1) 0 (@zau4.eq_1 a0 a1) λ(j1:Unit)=>⟨[(0,.ptr 0 0 0),(3,.ptr 2 0 0)],[(0,⟨false,1,[A.sl ([].map aJ.enc)],[[.own 3 0 a1.length]]⟩),(2,bx a0),(3,sx a1)],4⟩
@[reducible,instance] def zec7 (a0:aJ) (a1:List aJ) {T:Type} (x:T):=mkL x (@zV3.eq_1 a0 a1) λ(g1:Int)=>⟨[(0,.ptr 0 0 0),(3,.ptr 2 0 0),(9,.own 3 0 a1.length),(10,.int .i64 ((a1.length:Nat):Int)),(11,.int .i64 g1)],[(0,⟨false,1,[A.sl ([].map aJ.enc)],[[.own 3 0 a1.length]]⟩),(2,bx a0),(3,sx a1)],4⟩
instance zbw5(a0:aJ)(a1:List aJ):OkM (zg1 a0 a1) 139 [.ptr 0 0 0,ga a0] [(0,⟨false,1,[A.sl ([].map aJ.enc)],[[.own 1 0 a1.length]]⟩),(1,sx a1)] 2 (λ r=>.int .i64 r.1) (λ r=>[(0,⟨false,1,[A.sl ([].map aJ.enc)],[[.own 2 0 r.2.length]]⟩),(2,sx r.2)]) 3:=okm (zg1.eq_1 a0 a1) (λ r=>[.int .i64 r.1]) Tryz.f139 []
attribute [local irreducible] zg1
def zaj5(j1:Int×(List Int)):Option (List Int):=
 gd (j1.2.length+1<=4294967296)<|
 some (j1.2++[(u8.wrap j1.1)])
@[go_sem] def zdL3(j1:Int×(List Int)):St:=⟨[(1,.int .u64 j1.1),(5,.own 0 0 j1.2.length)],[(0,⟨false,1,[A.int .u8 0],j1.2.map (eI .u8)⟩)],1⟩
def zax5(g1:Int×(List Int)):Option ((Int×(List Int))⊕(Int×(List Int))):=
 (if(decide (127<g1.1))=true then
  gd (g1.2.length+1<=4294967296)<|
  some (.inl ((g1.1.fdiv (2^7)),(g1.2++[(zaE9 .or .u8 (u8.wrap (zaE9 .and .u64 g1.1 127)) 128)])))
 else
  some (.inr (g1.1,g1.2)))
@[go_sem] def zdL4(g1:Int×(List Int)):St:=⟨[(1,.int .u64 g1.1),(5,.own 0 0 g1.2.length)],[(0,⟨false,1,[A.int .u8 0],g1.2.map (eI .u8)⟩)],1⟩
def zi3(a0:List Int)(a1:Int):Option (List Int):=
 gd (0<=0/\0<=(a0.length:Int)/\(a0.length:Int)<=(a0.length:Int)/\(a0.length:Int)=(a0.length:Int))<|
 (if(decide (127<a1))=true then
  gd ((a0.take ((a0.length:Int).toNat)).length+1<=4294967296)<|
  (zc2 zax5 ((a1.fdiv (2^7)),(a0.take ((a0.length:Int).toNat)++[(zaE9 .or .u8 (u8.wrap (zaE9 .and .u64 a1 127)) 128)]))).bind (λ z=>zaj5 z)
 else
  gd ((a0.take ((a0.length:Int).toNat)).length+1<=4294967296)<|
  some (a0.take ((a0.length:Int).toNat)++[(u8.wrap a1)]))
theorem zbF5(a0:List Int)(a1:Int)(r:(List Int))(h:zi3 a0 a1=some r):PFn C 93 [.sl (a0.map (eI .u8)),.int .u64 a1] (.sl (r.map (eI .u8))):=by
 refine zae9 Tryz.f93 [] λ E hG hN hK=>?_;unfold zi3 at h;refine za3 (za8 hG ?_);refine za3 ?_;obtain⟨hb5,h⟩:=zg8 h;refine za8 hG ?_;refine za3 ?_;refine zck3 zdL3 (λ v=>zaj5 v=some r) ?_ ?_
 · intro j1 h
   unfold zaj5 at h;refine g_st ?_;refine za3 ?_;obtain⟨hb1,h⟩:=zg8 h;refine za8 hG ?_;refine zx6 ?_;exact zS5 h
 refine zdn6 (body:=zax5) (kk:=λ z=>zaj5 z) (r:=r) zdL4 hK ?_ (λ x_l1 h g1 y_l1 h_l1 hx_l1=>?_)
 · refine za3 (za3 (za8 hG ?_))
   refine zq4 rfl hG h (λ _ h=>?_) (λ _ h=>?_)
   · refine zo1 ?_
     refine zM3 (za3 ?_);obtain⟨hb3,h⟩:=zg8 h;refine za8 hG ?_;refine za8 hG ?_;exact zcT6 hK [(0,0)] h
   refine zS4 ?_;refine .inr ?_;refine za3 ?_;obtain⟨hb4,h⟩:=zg8 h;refine za8 hG ?_;refine zx6 ?_;exact zS5 h
 unfold zax5 at h_l1;refine g_st ?_;refine za3 (za3 (za8 hG ?_));refine zq4 rfl hG h_l1 (λ _ h_l1=>?_) (λ _ h_l1=>?_)
 · refine zo1 ?_
   refine zM3 (za3 ?_);obtain⟨hb2,h_l1⟩:=zg8 h_l1;refine za8 hG ?_;refine za8 hG ?_;exact zZ9 hK [(0,1)] h_l1
 refine zS4 ?_;cases h_l1;cases hx_l1 _ rfl;refine .inl ?_;exact zJ8 hK [(0,0)] (g1.1,g1.2) (by exact h)
instance zcU9(a0:List Int)(a1:Int):OkP (zi3 a0 a1) 93 [.sl (a0.map (eI .u8)),.int .u64 a1] (λ r=>.sl (r.map (eI .u8))):=⟨zbF5 a0 a1⟩
attribute [local irreducible] zi3
def zab2(j1:Int×(List Int)):Option (List Int):=
 gd (j1.2.length+1<=4294967296)<|
 some (j1.2++[(u8.wrap j1.1)])
@[go_sem] def zdL5(j1:Int×(List Int)):St:=⟨[(1,.int .u64 j1.1),(5,.own 0 0 j1.2.length)],[(0,⟨false,1,[A.int .u8 0],j1.2.map (eI .u8)⟩)],1⟩
def zao3(g1:Int×(List Int)):Option ((Int×(List Int))⊕(Int×(List Int))):=
 (if(decide (127<g1.1))=true then
  gd (g1.2.length+1<=4294967296)<|
  some (.inl ((g1.1.fdiv (2^7)),(g1.2++[(zaE9 .or .u8 (u8.wrap (zaE9 .and .u64 g1.1 127)) 128)])))
 else
  some (.inr (g1.1,g1.2)))
@[go_sem] def zdL6(g1:Int×(List Int)):St:=⟨[(1,.int .u64 g1.1),(5,.own 0 0 g1.2.length)],[(0,⟨false,1,[A.int .u8 0],g1.2.map (eI .u8)⟩)],1⟩
def zf9(a0:List Int)(a1:Int):Option (List Int):=
 gd (0<=0/\0<=(a0.length:Int)/\(a0.length:Int)<=(a0.length:Int)/\(a0.length:Int)=(a0.length:Int))<|
 (if(decide (127<a1))=true then
  gd ((a0.take ((a0.length:Int).toNat)).length+1<=4294967296)<|
  (zc2 zao3 ((a1.fdiv (2^7)),(a0.take ((a0.length:Int).toNat)++[(zaE9 .or .u8 (u8.wrap (zaE9 .and .u64 a1 127)) 128)]))).bind (λ z=>zab2 z)
 else
  gd ((a0.take ((a0.length:Int).toNat)).length+1<=4294967296)<|
  some (a0.take ((a0.length:Int).toNat)++[(u8.wrap a1)]))
theorem zbs0(a0:List Int)(a1:Int)(r:(List Int))(h:zf9 a0 a1=some r):MFn C 93 [.sl (a0.map (eI .u8)),.int .u64 a1] [] 0 (.own 0 0 r.length) [(0,⟨false,1,[A.int .u8 0],r.map (eI .u8)⟩)] 1:=by
 refine zaK6 Tryz.f93 [(4,1)] [.own 0 0 r.length] λ E hG hN hK=>?_;unfold zf9 at h;refine za3 (za8 hG ?_);refine za3 ?_;obtain⟨hb5,h⟩:=zg8 h;refine za8 hG ?_;refine za3 ?_;refine zck3 zdL5 (λ v=>zab2 v=some r) ?_ ?_
 · intro j1 h
   unfold zab2 at h;refine g_st ?_;refine za3 ?_;obtain⟨hb1,h⟩:=zg8 h;refine za8 hG ?_;refine zx6 ?_;exact zV5 [(0,1)] h
 refine zdn6 (body:=zao3) (kk:=λ z=>zab2 z) (r:=r) zdL6 hK ?_ (λ x_l1 h g1 y_l1 h_l1 hx_l1=>?_)
 · refine za3 (za3 (za8 hG ?_))
   refine zq4 rfl hG h (λ _ h=>?_) (λ _ h=>?_)
   · refine zo1 ?_
     refine zM3 (za3 ?_);obtain⟨hb3,h⟩:=zg8 h;refine za8 hG ?_;refine za8 hG ?_;exact zcT6 hK [(0,1)] h
   refine zS4 ?_;refine .inr ?_;refine za3 ?_;obtain⟨hb4,h⟩:=zg8 h;refine za8 hG ?_;refine zx6 ?_;exact zV5 [(0,1)] h
 unfold zao3 at h_l1;refine g_st ?_;refine za3 (za3 (za8 hG ?_));refine zq4 rfl hG h_l1 (λ _ h_l1=>?_) (λ _ h_l1=>?_)
 · refine zo1 ?_
   refine zM3 (za3 ?_);obtain⟨hb2,h_l1⟩:=zg8 h_l1;refine za8 hG ?_;refine za8 hG ?_;exact zZ9 hK [(0,1)] h_l1
 refine zS4 ?_;cases h_l1;cases hx_l1 _ rfl;refine .inl ?_;exact zJ8 hK [(0,0)] (g1.1,g1.2) (by exact h)
instance zcH7(a0:List Int)(a1:Int):OkM (zf9 a0 a1) 93 [.sl (a0.map (eI .u8)),.int .u64 a1] [] 0 (λ r=>.own 0 0 r.length) (λ r=>[(0,⟨false,1,[A.int .u8 0],r.map (eI .u8)⟩)]) 1:=⟨zbs0 a0 a1⟩
attribute [local irreducible] zf9
def zW4(j1:Unit):Option Bool:=
 some true
def zW5(a0 a1:List aU)(g1:Int):Option (Int⊕(Unit⊕Bool)):=
 (if(decide (g1<(a0.length:Int)))=true then
  gd (0<=g1/\g1<(a0.length:Int))<|
  gd (0<=g1/\g1<(a1.length:Int))<|
  (if(!decide (a0.getD g1.toNat aU.zero=a1.getD g1.toNat aU.zero))=true then
   some (.inr (.inr false))
  else
   some (.inl (i64.wrap (g1+1))))
 else
  some (.inr (.inl ())))
def zb3(a0 a1:List aU):Option Bool:=
 (if(!decide ((a0.length:Int)=(a1.length:Int)))=true then
  some false
 else
  (zc2 (zW5 a0 a1) 0).bind (λ|.inl z=>zW4 z|.inr z=>some z))
@[reducible,instance] def zec8 a0 a1:=mkJ (zb3 a0 a1) 0 (@zW4.eq_1) λ(j1:Unit)=>⟨[],[],0⟩
@[reducible,instance] def zec9 (a0 a1:List aU) {T:Type} (x:T):=mkL x (@zW5.eq_1 a0 a1) λ(g1:Int)=>⟨[(0,la a0),(1,la a1),(12,.int .i64 (a0.length:Int)),(13,.int .i64 g1)],[],0⟩
instance zaA4(a0 a1:List aU):OkP (zb3 a0 a1) 100 [la a0,la a1] (λ r=>.bool r):=ok1 (zb3.eq_1 a0 a1) Tryz.f100 []
attribute [local irreducible] zb3
def zA6(j1:Unit):Option Bool:=
 some true
def zr6(a90:(aO->aO->Option Bool))(a0 a1:List aO)(g1:Int):Option (Int⊕(Unit⊕Bool)):=
 (if(decide (g1<(a0.length:Int)))=true then
  gd (0<=g1/\g1<(a0.length:Int))<|
  gd (0<=g1/\g1<(a1.length:Int))<|
  (a90 (a0.getD g1.toNat aO.zero) (a1.getD g1.toNat aO.zero)).bind λ v1=>
  (if(!v1)=true then
   some (.inr (.inr false))
  else
   some (.inl (i64.wrap (g1+1))))
 else
  some (.inr (.inl ())))
def za0(a90:(aO->aO->Option Bool))(a0 a1:List aO):Option Bool:=
 (if(!decide ((a0.length:Int)=(a1.length:Int)))=true then
  some false
 else
  (zc2 (zr6 a90 a0 a1) 0).bind (λ|.inl z=>zA6 z|.inr z=>some z))
@[reducible,instance] def zed0 (a90:(aO->aO->Option Bool)) (a0 a1:List aO):=mkJ (za0 a90 a0 a1) 0 (@zA6.eq_1) λ(j1:Unit)=>⟨[],[],0⟩
@[reducible,instance] def zed1 (a90:(aO->aO->Option Bool)) (a0 a1:List aO) {T:Type} (x:T):=mkL x (@zr6.eq_1 a90 a0 a1) λ(g1:Int)=>⟨[(1,la a1),(2,.clo 101 []),(15,la a0),(16,.int .i64 (a0.length:Int)),(17,.int .i64 g1)],[],0⟩
theorem zP5(a90:(aO->aO->Option Bool))(hrc:∀(a0:aO) (a1:aO) (r:Bool),a90 a0 a1=some r->PFn C 101 [ga a0,ga a1] (.bool r))(a0 a1:List aO)(r:Bool)(h:za0 a90 a0 a1=some r):MFn C 154 [la a0,la a1,.clo 101 []] [] 0 (.bool r) [] 0:=by refine zaK6 Tryz.f154 [] [.bool r] λ E hG hN hK=>?_;have hm:Mk (za0 a90 a0 a1):=trivial;unfold za0 at h;exact gogo
attribute [local irreducible] za0
def zaW3(j1:Unit):Option Int:=
 some (-1)
def zam2(a0:List bK)(a1 g1:Int):Option (Int⊕(Unit⊕Int)):=
 (if(decide (g1<(a0.length:Int)))=true then
  gd (0<=g1/\g1<(a0.length:Int))<|
  (if(decide ((a0.getD g1.toNat bK.zero).label=a1))=true then
   some (.inr (.inr g1))
  else
   some (.inl (i64.wrap (g1+1))))
 else
  some (.inr (.inl ())))
def zj2(a0:List bK)(a1:Int):Option Int:=
 (zc2 (zam2 a0 a1) 0).bind (λ|.inl z=>zaW3 z|.inr z=>some z)
@[reducible,instance] def zed2 a0 a1:=mkJ (zj2 a0 a1) 0 (@zaW3.eq_1) λ(j1:Unit)=>⟨[],[],0⟩
@[reducible,instance] def zed3 (a0:List bK) (a1:Int) {T:Type} (x:T):=mkL x (@zam2.eq_1 a0 a1) λ(g1:Int)=>⟨[(1,.int .i64 a1),(7,la a0),(8,.int .i64 (a0.length:Int)),(9,.int .i64 g1)],[],0⟩
instance zdi2(a0:List bK)(a1:Int):OkP (zj2 a0 a1) 227 [la a0,.int .i64 a1] (λ r=>.int .i64 r):=ok1 (zj2.eq_1 a0 a1) Tryz.f227 []
attribute [local irreducible] zj2
def zM6(a0:aH):Bool:=
 ((decide (a0.kind=1)&&decide (a0.aS=1))||((decide (a0.kind=2)&&decide (1<=a0.aS))&&decide (a0.aS<=8)))
instance zdi3(a0:aH):OkT 185 [.agg (aH.enc a0)] (.bool (zM6 a0)):=ok2 (λ r=>.bool r) (zM6.eq_1 a0) Tryz.f185 []
def zB9(a0:Int):Bool:=
 (decide (1<=a0)&&decide (a0<=5))
instance zdp5(a0:Int):OkT 186 [.int .i64 a0] (.bool (zB9 a0)):=ok2 (λ r=>.bool r) (zB9.eq_1 a0) Tryz.f186 []
def zn3(a0:aB):Option (aU×Bool):=
 (if(decide (0<(a0.aN.length:Int)))=true then
  gd (0<=0/\0<(a0.aN.length:Int))<|
  some ((a0.aN.getD 0 aU.zero),true)
 else
  (if(decide (0<(a0.aT.length:Int)))=true then
   gd (0<=0/\0<(a0.aT.length:Int))<|
   some ((a0.aT.getD 0 aU.zero),true)
  else
   some ({aU.zero with},false)))
instance zdy7(a0:aB):OkP (zn3 a0) 287 [ga a0] (λ r=>.tup [ga r.1,.bool r.2]):=ok1 (zn3.eq_1 a0) Tryz.f287 []
attribute [local irreducible] zn3
def zbi5(j1:Unit):Option Int:=
 some (-1)
def zaw9(a0:List bK)(a1 g1:Int):Option (Int⊕(Unit⊕Int)):=
 (if(decide (g1<(a0.length:Int)))=true then
  gd (0<=g1/\g1<(a0.length:Int))<|
  (if(decide ((a0.getD g1.toNat bK.zero).label=a1))=true then
   some (.inr (.inr g1))
  else
   some (.inl (i64.wrap (g1+1))))
 else
  some (.inr (.inl ())))
def zl9(a0:List bK)(a1:Int):Option Int:=
 (zc2 (zaw9 a0 a1) 0).bind (λ|.inl z=>zbi5 z|.inr z=>some z)
@[reducible,instance] def zed4 a0 a1:=mkJ (zl9 a0 a1) 0 (@zbi5.eq_1) λ(j1:Unit)=>⟨[],[],0⟩
@[reducible,instance] def zed5 (a0:List bK) (a1:Int) {T:Type} (x:T):=mkL x (@zaw9.eq_1 a0 a1) λ(g1:Int)=>⟨[(0,la a0),(1,.int .i64 a1),(5,.int .i64 g1)],[],0⟩
instance zcf7(a0:List bK)(a1:Int):OkP (zl9 a0 a1) 184 [la a0,.int .i64 a1] (λ r=>.int .i64 r):=ok1 (zl9.eq_1 a0 a1) Tryz.f184 []
attribute [local irreducible] zl9
def zao4(j1:Unit):Option Bool:=
 some true
def zao5(a0 a1:List aJ)(g1:Int):Option (Int⊕(Unit⊕Bool)):=
 (if(decide (g1<(a0.length:Int)))=true then
  gd (0<=g1/\g1<(a0.length:Int))<|
  gd (0<=g1/\g1<(a1.length:Int))<|
  (if(!decide (a0.getD g1.toNat aJ.zero=a1.getD g1.toNat aJ.zero))=true then
   some (.inr (.inr false))
  else
   some (.inl (i64.wrap (g1+1))))
 else
  some (.inr (.inl ())))
def zf0(a0 a1:List aJ):Option Bool:=
 (if(!decide ((a0.length:Int)=(a1.length:Int)))=true then
  some false
 else
  (zc2 (zao5 a0 a1) 0).bind (λ|.inl z=>zao4 z|.inr z=>some z))
@[reducible,instance] def zed6 a0 a1:=mkJ (zf0 a0 a1) 0 (@zao4.eq_1) λ(j1:Unit)=>⟨[],[],0⟩
@[reducible,instance] def zed7 (a0 a1:List aJ) {T:Type} (x:T):=mkL x (@zao5.eq_1 a0 a1) λ(g1:Int)=>⟨[(0,la a0),(1,la a1),(5,.int .i64 g1)],[],0⟩
instance zcK8(a0 a1:List aJ):OkP (zf0 a0 a1) 122 [la a0,la a1] (λ r=>.bool r):=ok1 (zf0.eq_1 a0 a1) Tryz.f122 []
attribute [local irreducible] zf0
def zaC0(a0:List aU)(j1:(List aU)):Option ((List aU)×Bool):=
 some (j1,decide (((j1.length:Nat):Int)<(a0.length:Int)))
def zab3(a0:List aU)(a1:aL)(g1:Int×(List aU)):Option ((Int×(List aU))⊕(List aU)):=
 (if(decide (g1.1<(a0.length:Int)))=true then
  gd (0<=g1.1/\g1.1<(a0.length:Int))<|
  (if(!decide ((a0.getD g1.1.toNat aU.zero).aK=a1))=true then
   gd (0<=g1.1/\g1.1<(a0.length:Int))<|
   gd (g1.2.length+1<=4294967296)<|
   some (.inl ((i64.wrap (g1.1+1)),(g1.2++[(a0.getD g1.1.toNat aU.zero)])))
  else
   some (.inl ((i64.wrap (g1.1+1)),g1.2)))
 else
  some (.inr g1.2))
def zh5(a0:List aU)(a1:aL):Option ((List aU)×Bool):=
 (zc2 (zab3 a0 a1) (0,[])).bind (λ z=>zaC0 a0 z)
@[reducible,instance] def zed8 (a0:List aU) a1:=mkJ (zh5 a0 a1) 0 (@zaC0.eq_1 a0) λ(j1:(List aU))=>⟨[(0,la a0),(6,.own 0 0 j1.length)],[(0,sx j1)],1⟩
@[reducible,instance] def zed9 (a0:List aU) (a1:aL) {T:Type} (x:T):=mkL x (@zab3.eq_1 a0 a1) λ(g1:Int×(List aU))=>⟨[(0,la a0),(3,.ptr 0 0 0),(6,.own 1 0 g1.2.length),(7,.int .i64 g1.1)],[(0,bx a1),(1,sx g1.2)],2⟩
instance zdi4(a0:List aU)(a1:aL):OkP (zh5 a0 a1) 314 [la a0,ga a1] (λ r=>.tup [la r.1,.bool r.2]):=ok1 (zh5.eq_1 a0 a1) Tryz.f314 [(6,1)]
attribute [local irreducible] zh5
def zp8(a0:Int):Int:=
 (if(decide (a0<0)||decide (1073741824<=a0))=true then
  1
 else
  (i64.wrap (a0+1)))
instance zdy8(a0:Int):OkT 251 [.int .i64 a0] (.int .i64 (zp8 a0)):=ok2 (λ r=>.int .i64 r) (zp8.eq_1 a0) Tryz.f251 []
def zaK9(j1:Unit):Option Bool:=
 some true
def zab4(a0 a1:List Bool)(g1:Int):Option (Int⊕(Unit⊕Bool)):=
 (if(decide (g1<(a0.length:Int)))=true then
  gd (0<=g1/\g1<(a0.length:Int))<|
  gd (0<=g1/\g1<(a1.length:Int))<|
  (if(!decide (a0.getD g1.toNat false=a1.getD g1.toNat false))=true then
   some (.inr (.inr false))
  else
   some (.inl (i64.wrap (g1+1))))
 else
  some (.inr (.inl ())))
def zf1(a0 a1:List Bool):Option Bool:=
 (if(!decide ((a0.length:Int)=(a1.length:Int)))=true then
  some false
 else
  (zc2 (zab4 a0 a1) 0).bind (λ|.inl z=>zaK9 z|.inr z=>some z))
@[reducible,instance] def zee0 a0 a1:=mkJ (zf1 a0 a1) 0 (@zaK9.eq_1) λ(j1:Unit)=>⟨[],[],0⟩
@[reducible,instance] def zee1 (a0 a1:List Bool) {T:Type} (x:T):=mkL x (@zab4.eq_1 a0 a1) λ(g1:Int)=>⟨[(0,.sl (a0.map eB)),(1,.sl (a1.map eB)),(5,.int .i64 g1)],[],0⟩
instance zcK9(a0 a1:List Bool):OkP (zf1 a0 a1) 13 [.sl (a0.map eB),.sl (a1.map eB)] (λ r=>.bool r):=ok1 (zf1.eq_1 a0 a1) Tryz.f13 []
attribute [local irreducible] zf1
attribute [local irreducible] zn8 zf5 zb5 za4 ze1 zm5 zb6 zb1 zo2 zi2 zl5 zi9 zn1 zf4 zd8 zg3 zk3 ze8 za7 zb2 zh7 zj7 zj3 zi8 zh4 zk4 zd0 zd9 zj9 zp2 zm8 zh0 zf8 ze0 ze4 zc8 za9 zk6 zh1 zo5 zh2 f_ref08_holds zc7 zl8 zg5
def zG5(j2:(List aU)):Option (List aU):=
 some j2
@[go_sem] def zdL7(j2:(List aU)):St:=⟨[(6,.own 0 0 j2.length)],[(0,sx j2)],1⟩
def zq0(a0:List (List aU))(g1:Int×(List aU)):Option ((Int×(List aU))⊕(List aU)):=
 (if(decide (g1.1<(a0.length:Int)))=true then
  gd (0<=g1.1/\g1.1<(a0.length:Int))<|
  gd (g1.2.length+(a0.getD g1.1.toNat []).length<=4294967296)<|
  some (.inl ((i64.wrap (g1.1+1)),(g1.2++a0.getD g1.1.toNat [])))
 else
  some (.inr g1.2))
@[go_sem] def zdL8(a0:List (List aU))(g1:Int×(List aU)):St:=⟨[(6,.own 0 0 g1.2.length),(25,.sl (a0.map (eL aU.enc))),(26,.int .i64 (a0.length:Int)),(27,.int .i64 g1.1)],[(0,sx g1.2)],1⟩
def zB1(a0:List (List aU))(j1:Int):Option (List aU):=
 (zb5 j1).bind λ v1=>
 (zc2 (zq0 a0) (0,v1)).bind (λ z=>zG5 z)
@[go_sem] def zdL9(a0:List (List aU))(j1:Int):St:=⟨[(0,.sl (a0.map (eL aU.enc))),(3,.int .i64 j1)],[],0⟩
def zq1(a0:List (List aU))(g2:Int×Int):Option ((Int×Int)⊕Int):=
 (if(decide (g2.2<(a0.length:Int)))=true then
  gd (0<=g2.2/\g2.2<(a0.length:Int))<|
  (if(decide (i64.wrap (g2.1+((a0.getD g2.2.toNat []).length:Int))<0))=true then
   none
  else
   some (.inl ((i64.wrap (g2.1+((a0.getD g2.2.toNat []).length:Int))),i64.wrap (g2.2+1))))
 else
  some (.inr g2.1))
@[go_sem] def zdM0(a0:List (List aU))(g2:Int×Int):St:=⟨[(0,.sl (a0.map (eL aU.enc))),(3,.int .i64 g2.1),(9,.sl (a0.map (eL aU.enc))),(10,.int .i64 (a0.length:Int)),(11,.int .i64 g2.2)],[],0⟩
def zb7(a0:List (List aU)):Option (List aU):=
 (zc2 (zq1 a0) (0,0)).bind (λ z=>zB1 a0 z)
theorem zax6(a0:List (List aU))(r:(List aU))(h:zb7 a0=some r):PFn C 141 [.sl (a0.map (eL aU.enc))] (la r):=by
 refine zae9 Tryz.f141 [] λ E hG hN hK=>?_;unfold zb7 at h;refine za3 (za8 hG ?_);refine za3 (za8 hG ?_);refine za3 (za3 (za8 hG ?_));refine zO8 (zdL9 a0) (λ v=>zB1 a0 v=some r) ?_ ?_
 · intro j1 h
   unfold zB1 at h;refine g_st ?_;refine za3 (za8 hG ?_);obtain⟨v1,hv1,h⟩:=zf3 h;refine zv5 [] [(0,0)] [0] (zav1 _ _ hv1) rfl rfl ?_;refine za3 (za3 (za8 hG ?_));refine zO8 zdL7 (λ v=>zG5 v=some r) ?_ ?_
   · intro j2 h
     unfold zG5 at h;refine g_st ?_;refine za3 (za8 hG ?_);refine zx6 ?_;exact zS5 h
   refine zau2 (zdL8 a0) hK [(0,0)] h (λ x_l1 h g1 y_l1 h_l1 hx_l1=>?_);unfold zq0 at h_l1;refine g_st ?_;refine za3 (za8 hG ?_);refine za3 ?_;refine zq4 rfl hG h_l1 (λ _ h_l1=>?_) (λ _ h_l1=>?_)
   · refine zo1 ?_
     refine za3 (zM3 (za3 ?_));obtain⟨hb2,h_l1⟩:=zg8 h_l1;refine za8 hG ?_;obtain⟨hb1,h_l1⟩:=zg8 h_l1;refine za8 hG ?_;refine za8 hG ?_;exact zZ9 hK [(0,1)] h_l1
   refine zS4 ?_;cases h_l1;cases hx_l1 _ rfl;exact zJ8 hK [(0,0)] g1.2 (by exact h)
 refine zau2 (zdM0 a0) hK [] h (λ x_l2 h g2 y_l2 h_l2 hx_l2=>?_);unfold zq1 at h_l2;refine g_st ?_;refine za3 (za8 hG ?_);refine za3 ?_;refine zq4 rfl hG h_l2 (λ _ h_l2=>?_) (λ _ h_l2=>?_)
 · refine zo1 ?_
   refine za3 (zM3 (za3 ?_));obtain⟨hb3,h_l2⟩:=zg8 h_l2;refine za8 hG ?_;refine za3 (za8 hG ?_);refine za3 (za8 hG ?_);refine zq4 rfl hG h_l2 (λ _ h_l2=>?_) (λ _ h_l2=>?_)
   .exact zdL1 h_l2
   refine zo1 ?_;refine za8 hG ?_;exact zZ9 hK [] h_l2
 refine zS4 ?_;cases h_l2;cases hx_l2 _ rfl;exact zJ8 hK [] g2.1 (by exact h)
instance zbt6(a0:List (List aU)):OkP (zb7 a0) 141 [.sl (a0.map (eL aU.enc))] (λ r=>la r):=⟨zax6 a0⟩
attribute [local irreducible] zb7
def ze2(a0:bP):Option bP:=
 (ze1 a0.bN).bind λ v1=>
 some ({a0 with bN:=v1})
instance zbf1(a0:bP):OkP (ze2 a0) 26 [ga a0] (λ r=>ga r):=⟨λ r h=>by
 refine zae9 Tryz.f26 [] λ E hG hN hK=>?_;have hm:Mk (ze2 a0):=trivial;unfold ze2 at h;refine za3 (za8 hG ?_);refine za3 (za8 hG ?_);obtain⟨v1,hv1,h⟩:=zf3 h;have hm:=mkP hm v1;refine zw9 (λ hg=>(zbe9 a0.bN).ok _ hv1) ?_;refine za3 (za8 hG ?_);refine zx6 ?_;exact zS5 h (by intro e;subst e;simp[aL.enc,aJ.enc,aC.enc])⟩
attribute [local irreducible] ze2
def zf2(a0:bS)(a1:aJ):Option Bool:=
 (za7 a0.atoms a1).bind λ v1=>
 gd ((decide (0<=v1)&&decide (v1<(a0.set.length:Int)))=true->0<=v1/\v1<(a0.set.length:Int))<|
 some ((decide (0<=v1)&&decide (v1<(a0.set.length:Int)))&&a0.set.getD v1.toNat false)
instance zcv1(a0:bS)(a1:aJ):OkP (zf2 a0 a1) 280 [ga a0,ga a1] (λ r=>.bool r):=ok1 (zf2.eq_1 a0 a1) Tryz.f280 []
attribute [local irreducible] zf2
def zv6(a0:aH)(a1:aC):Bool:=
 (if(!(zM6 a0))=true then
  false
 else
  (if(decide (a0.kind=1))=true then
   (zB9 a1.mode&&decide (a1.aS=0))
  else
   ((decide (a1.mode=0)&&decide (1<=a1.aS))&&decide (a1.aS<=a0.aS))))
instance zcf8(a0:aH)(a1:aC):OkT 120 [.agg (aH.enc a0),.agg (aC.enc a1)] (.bool (zv6 a0 a1)):=ok2 (λ r=>.bool r) (zv6.eq_1 a0 a1) Tryz.f120 []
def zP6(a0 a1:Int):Bool:=
 (if((((!(zB9 a0))||(!(zB9 a1)))||decide (a0=5))||decide (a1=5))=true then
  false
 else
  ((decide (a0=1)||decide (a1=1))||(decide (a0=a1)&&(!decide (a0=4)))))
instance zcH8(a0 a1:Int):OkT 316 [.int .i64 a0,.int .i64 a1] (.bool (zP6 a0 a1)):=ok2 (λ r=>.bool r) (zP6.eq_1 a0 a1) Tryz.f316 []
def zH9(a0 a1:Int):Bool:=
 (if((!(zB9 a0))||(!(zB9 a1)))=true then
  false
 else
  (((decide (a0=a1)||decide (a0=5))||decide (a1=1))||(decide (a0=4)&&(!decide (a1=5)))))
instance zdi5(a0 a1:Int):OkT 144 [.int .i64 a0,.int .i64 a1] (.bool (zH9 a0 a1)):=ok2 (λ r=>.bool r) (zH9.eq_1 a0 a1) Tryz.f144 []
def zaN9(j1:(List aJ)):Option (List aJ):=
 some j1
def zae1(a0:aW)(v1:(List ByteArray))(g1:Int×(List aJ)):Option ((Int×(List aJ))⊕(List aJ)):=
 (if(decide (g1.1<(v1.length:Int)))=true then
  gd (0<=g1.1/\g1.1<(v1.length:Int))<|
  (zj7 a0.aD (v1.getD g1.1.toNat ⟨#[]⟩)).bind λ v2=>
  (if(!decide (v2={aC.zero with}))=true then
   gd (0<=g1.1/\g1.1<(v1.length:Int))<|
   gd (g1.2.length+1<=4294967296)<|
   some (.inl ((i64.wrap (g1.1+1)),(g1.2++[(⟨(v1.getD g1.1.toNat ⟨#[]⟩),v2⟩:aJ)])))
  else
   some (.inl ((i64.wrap (g1.1+1)),g1.2)))
 else
  some (.inr g1.2))
def zi6(a0:aW):Option (List aJ):=
 (zj3 a0.aD).bind λ v1=>
 (zc2 (zae1 a0 v1) (0,[])).bind (λ z=>zaN9 z)
@[reducible,instance] def zee2 a0 {T1:Type} (v1:T1):=mkJ (zi6 a0,v1) 0 (@zaN9.eq_1) λ(j1:(List aJ))=>⟨[(3,.own 0 0 j1.length)],[(0,sx j1)],1⟩
@[reducible,instance] def zee3 (a0:aW) (v1:(List ByteArray)) {T:Type} (x:T):=mkL x (@zae1.eq_1 a0 v1) λ(g1:Int×(List aJ))=>⟨[(1,.ptr 0 0 0),(3,.own 1 0 g1.2.length),(4,.sl (v1.map eS)),(5,.int .i64 g1.1)],[(0,bx a0),(1,sx g1.2)],2⟩
instance zcV0(a0:aW):OkP (zi6 a0) 119 [ga a0] (λ r=>la r):=ok1 (zi6.eq_1 a0) Tryz.f119 [(3,1)]
attribute [local irreducible] zi6
def zj8(a0:aB)(a1:aL):Option aC:=
 (zo2 a0.aP a1).bind λ v1=>
 some v1
instance zaY6(a0:aB)(a1:aL):OkP (zj8 a0 a1) 90 [ga a0,ga a1] (λ r=>ga r):=ok1 (zj8.eq_1 a0 a1) Tryz.f90 []
attribute [local irreducible] zj8
def zo7(a0:aO):Option Int:=
 (zo5 a0 1).bind λ v1=>
 (if(decide (24<v1.1))=true then
  some 0
 else
  some v1.1)
instance zbW4(a0:aO):OkP (zo7 a0) 91 [ga a0] (λ r=>.int .i64 r):=ok1 (zo7.eq_1 a0) Tryz.f91 []
attribute [local irreducible] zo7
def zd6(a0:Int)(a1:bB):Option (Int×(List aB)×(List aF)×(List bJ)):=
 gd (0<=a0/\a0<((a1.c.aG.length:Nat):Int))<|
 gd (0<=a0/\a0<((a1.c.aG.length:Nat):Int))<|
 some (a1.c.now,a1.c.aI,a1.c.aG.set a0.toNat ({(a1.c.aG.getD a0.toNat aF.zero)with gen:=(zp8 ((a1.c.aG.getD a0.toNat aF.zero).gen))}),a1.ev)
instance zbj7(a0:Int)(a1:bB):OkM (zd6 a0 a1) 197 [.ptr 0 0 0,.int .i64 a0] [(0,⟨false,4,bB.enc bB.zero,[[.int .i64 a1.c.now,la a1.c.aI,.own 1 0 a1.c.aG.length,.own 2 0 a1.ev.length]]⟩),(1,sx a1.c.aG),(2,sx a1.ev)] 3 (λ r=>.tup []) (λ r=>[(0,⟨false,4,bB.enc bB.zero,[[.int .i64 r.1,la r.2.1,.own 1 0 r.2.2.1.length,.own 2 0 r.2.2.2.length]]⟩),(1,sx r.2.2.1),(2,sx r.2.2.2)]) 3:=okm (zd6.eq_1 a0 a1) (λ r=>[]) Tryz.f197 []
attribute [local irreducible] zd6
def zaC1(j1:Unit):Option Bool:=
 some true
def zF7(a0:ByteArray)(g1:Int):Option (Int⊕(Unit⊕Bool)):=
 (if(decide (g1<(a0.size:Int)))=true then
  gd (0<=g1/\g1<(a0.size:Int))<|
  (if((!(decide (97<=((a0.toList.getD g1.toNat 0).toNat:Int))&&decide (((a0.toList.getD g1.toNat 0).toNat:Int)<=122)))&&(decide (g1=0)||(!(((decide (48<=((a0.toList.getD g1.toNat 0).toNat:Int))&&decide (((a0.toList.getD g1.toNat 0).toNat:Int)<=57))||decide (((a0.toList.getD g1.toNat 0).toNat:Int)=95))||decide (((a0.toList.getD g1.toNat 0).toNat:Int)=45)))))=true then
   some (.inr (.inr false))
  else
   some (.inl (i64.wrap (g1+1))))
 else
  some (.inr (.inl ())))
def ze5(a0:ByteArray):Option Bool:=
 (if((decide ((a0.size:Int)<1)||decide (12<(a0.size:Int)))||zP4 a0)=true then
  some false
 else
  (zc2 (zF7 a0) 0).bind (λ|.inl z=>zaC1 z|.inr z=>some z))
@[reducible,instance] def zez4 a0:=mkJ (ze5 a0) 0 (@zaC1.eq_1) λ(j1:Unit)=>⟨[],[],0⟩
@[reducible,instance] def zez5 (a0:ByteArray) {T:Type} (x:T):=mkL x (@zF7.eq_1 a0) λ(g1:Int)=>⟨[(0,.str a0),(20,.int .i64 (a0.size:Int)),(21,.int .i64 g1)],[],0⟩
instance zcA7(a0:ByteArray):OkP (ze5 a0) 159 [.str a0] (λ r=>.bool r):=ok1 (ze5.eq_1 a0) Tryz.f159 []
attribute [local irreducible] ze5
def zd2(a0:aL):Bool:=
 ((zU1 a0.site 0 3&&zU1 a0.inc 1 99)&&zU1 a0.num 1 999)
instance zcL0(a0:aL):OkT 32 [.agg (aL.enc a0)] (.bool (zd2 a0)):=ok2 (λ r=>.bool r) (zd2.eq_1 a0) Tryz.f32 []
def zh9(a0 a1:Int):Option Bool:=
 gd ((zw5 a0&&zw5 a1)=true->0<=i64.wrap (a0-1)/\i64.wrap (a0-1)<5)<|
 gd ((zw5 a0&&zw5 a1)=true->0<=i64.wrap (a1-1)/\i64.wrap (a1-1)<5)<|
 some ((zw5 a0&&zw5 a1)&&Arr.get (Arr.get zcq4 ((i64.wrap (a0-1)).toNat) (Arr.rep 5 false)) ((i64.wrap (a1-1)).toNat) false)
instance zbw6(a0 a1:Int):OkP (zh9 a0 a1) 297 [.int .i64 a0,.int .i64 a1] (λ r=>.bool r):=ok1 (zh9.eq_1 a0 a1) Tryz.f297 []
attribute [local irreducible] zh9
def zn4(a0:aB)(a1:aL):Option aC:=
 (zk3 a0.aP a1).bind λ v1=>
 some v1
instance zdy9(a0:aB)(a1:aL):OkP (zn4 a0 a1) 233 [ga a0,ga a1] (λ r=>ga r):=ok1 (zn4.eq_1 a0 a1) Tryz.f233 []
attribute [local irreducible] zn4
def zm3(a0 a1:Int):Option Bool:=
 gd ((zw5 a0&&zw5 a1)=true->0<=a1/\a1<6)<|
 some ((zw5 a0&&zw5 a1)&&Arr.get (zaR1 a0) a1.toNat false)
instance zdp6(a0 a1:Int):OkP (zm3 a0 a1) 226 [.int .i64 a0,.int .i64 a1] (λ r=>.bool r):=ok1 (zm3.eq_1 a0 a1) Tryz.f226 []
attribute [local irreducible] zm3
def zaR2(j1:Int×(List aH)×ByteArray):Option (Int×(List aH)×ByteArray):=
 some (j1.1,j1.2.1,j1.2.2)
def zaj6(g1:Int×Int×(List aH)×ByteArray):Option ((Int×Int×(List aH)×ByteArray)⊕(Int×(List aH)×ByteArray)):=
 (if(decide (g1.1<g1.2.1))=true then
  (ze4 (i64.wrap ((u64.wrap (i64.wrap (g1.1+g1.2.1))).fdiv (2^1))) g1.2.2.1 g1.2.2.2).bind λ v1=>
  (if(!v1.1)=true then
   some (.inl ((i64.wrap (i64.wrap ((u64.wrap (i64.wrap (g1.1+g1.2.1))).fdiv (2^1))+1)),g1.2.1,v1.2.1,v1.2.2))
  else
   some (.inl (g1.1,i64.wrap ((u64.wrap (i64.wrap (g1.1+g1.2.1))).fdiv (2^1)),v1.2.1,v1.2.2)))
 else
  some (.inr (g1.1,g1.2.2.1,g1.2.2.2)))
def zk2(a0:Int)(a1:List aH)(a2:ByteArray):Option (Int×(List aH)×ByteArray):=
 (zc2 zaj6 (0,a0,a1,a2)).bind (λ z=>zaR2 z)
@[reducible,instance] def zee4 a0 a1 a2:=mkJ (zk2 a0 a1 a2) 0 (@zaR2.eq_1) λ(j1:Int×(List aH)×ByteArray)=>⟨[(5,.int .i64 j1.1)],[(0,⟨false,1,[A.sl ([].map aH.enc)],[[A.sl (j1.2.1.map aH.enc)]]⟩),(1,⟨false,1,[A.str ⟨#[]⟩],[[A.str j1.2.2]]⟩)],2⟩
@[reducible,instance] def zee5 {T:Type} (x:T):=mkL x (@zaj6.eq_1) λ(g1:Int×Int×(List aH)×ByteArray)=>⟨[(1,.clo 305 [.ptr 0 0 0,.ptr 1 0 0]),(5,.int .i64 g1.1),(6,.int .i64 g1.2.1)],[(0,⟨false,1,[A.sl ([].map aH.enc)],[[A.sl (g1.2.2.1.map aH.enc)]]⟩),(1,⟨false,1,[A.str ⟨#[]⟩],[[A.str g1.2.2.2]]⟩)],2⟩
instance zcV1(a0:Int)(a1:List aH)(a2:ByteArray):OkM (zk2 a0 a1 a2) 304 [.int .i64 a0,.clo 305 [.ptr 0 0 0,.ptr 1 0 0]] [(0,⟨false,1,[A.sl ([].map aH.enc)],[[A.sl (a1.map aH.enc)]]⟩),(1,⟨false,1,[A.str ⟨#[]⟩],[[A.str a2]]⟩)] 2 (λ r=>.int .i64 r.1) (λ r=>[(0,⟨false,1,[A.sl ([].map aH.enc)],[[A.sl (r.2.1.map aH.enc)]]⟩),(1,⟨false,1,[A.str ⟨#[]⟩],[[A.str r.2.2]]⟩)]) 2:=okm (zk2.eq_1 a0 a1 a2) (λ r=>[.int .i64 r.1]) Tryz.f304 [(20,1)]
attribute [local irreducible] zk2
def zn9(a0:aW)(a1:ByteArray):Option aC:=
 (zh0 a0.aD).bind λ v1=>
 some ((mget a1 v1).getD aC.zero)
instance zdp7(a0:aW)(a1:ByteArray):OkP (zn9 a0 a1) 234 [ga a0,.str a1] (λ r=>ga r):=ok1 (zn9.eq_1 a0 a1) Tryz.f234 []
attribute [local irreducible] zn9
def zd7(a0:aB):Option aB:=
 (zb2 a0.aP).bind λ v1=>
 (zb1 a0.aN).bind λ v2=>
 (zb1 a0.aT).bind λ v3=>
 some ({{{a0 with aP:=v1}with aN:=v2}with aT:=v3})
instance zck4(a0:aB):OkP (zd7 a0) 25 [ga a0] (λ r=>ga r):=ok1 (zd7.eq_1 a0) Tryz.f25 []
attribute [local irreducible] zd7
def zb9(a0:Int)(a1:bL):Option (Int×bL):=
 (if(decide ((a1.l.length:Int)<=a1.at_))=true then
  some (0,a1)
 else
  gd (0<=i64.wrap (({a1 with at_:=(i64.wrap (a1.at_+1))}).at_-1)/\i64.wrap (({a1 with at_:=(i64.wrap (a1.at_+1))}).at_-1)<((({a1 with at_:=(i64.wrap (a1.at_+1))}).l).length:Int))<|
  (zp2 ((({a1 with at_:=(i64.wrap (a1.at_+1))}).l).getD ((i64.wrap (({a1 with at_:=(i64.wrap (a1.at_+1))}).at_-1)).toNat) 0) a0).bind λ v1=>
  some (v1,{a1 with at_:=(i64.wrap (a1.at_+1))}))
instance zw1(a0:Int)(a1:bL):OkM (zb9 a0 a1) 73 [.ptr 0 0 0,.int .i64 a0] [(0,bx a1)] 1 (λ r=>.int .i64 r.1) (λ r=>[(0,bx r.2)]) 1:=okm (zb9.eq_1 a0 a1) (λ r=>[.int .i64 r.1]) Tryz.f73 []
attribute [local irreducible] zb9
def zq5(a0:aV)(a1:aL):Option (aF×Bool):=
 (zi9 a0.aG a1).bind λ v1=>
 (if(decide (0<=v1))=true then
  gd (0<=v1/\v1<(a0.aG.length:Int))<|
  some ((a0.aG.getD v1.toNat aF.zero),true)
 else
  some ({aF.zero with},false))
instance zdz0(a0:aV)(a1:aL):OkP (zq5 a0 a1) 39 [ga a0,ga a1] (λ r=>.tup [ga r.1,.bool r.2]):=⟨λ r h=>by
 refine zae9 Tryz.f39 [] λ E hG hN hK=>?_;have hm:Mk (zq5 a0 a1):=trivial;unfold zq5 at h;refine za3 (za8 hG ?_);refine za3 (za3 (za8 hG ?_));obtain⟨v1,hv1,h⟩:=zf3 h;have hm:=mkP hm v1;refine zw9 (λ hg=>(zbV8 a0.aG a1).ok _ hv1) ?_;refine za3 (za8 hG ?_);refine zq4 rfl hG h (λ _ h=>?_) (λ _ h=>?_)
 · refine za3 ?_
   obtain⟨hb1,h⟩:=zg8 h;refine za8 hG ?_;refine zx6 ?_;exact zS5 h (by intro e;subst e;simp[aL.enc,aW.enc,aJ.enc,aC.enc])
 refine zo1 ?_;refine za3 (za8 hG ?_);refine zx6 ?_;exact zS5 h (by intro e;subst e;simp[aL.enc,aW.enc,aJ.enc,aC.enc])⟩
attribute [local irreducible] zq5
end
end Ab
end Go.Proofs.YtenebhlnfjcffaaGreatDoor
