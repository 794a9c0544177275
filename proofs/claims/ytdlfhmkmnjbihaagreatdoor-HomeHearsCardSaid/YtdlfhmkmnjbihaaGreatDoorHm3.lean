import Derived.Test.YtdlfhmkmnjbihaaGreatDoorAuto
namespace Go.Proofs.YtdlfhmkmnjbihaaGreatDoor
namespace Ab
open IntKind (i64 u64 u8)
set_option linter.unusedSimpArgs false
set_option linter.defProp false
set_option linter.unusedVariables false
set_option maxRecDepth 100000
set_option maxHeartbeats 1000000
noncomputable section
def zag3(a0:List Int):Bool:=
 (decide ((a0.length:Int)<=400))
instance zdG8(a0:List Int):OkT 15 [.sl (a0.map (eI .i64))] (.bool (zag3 a0)):=ok2 (λ r=>.bool r) (zag3.eq_1 a0) Tryz.f15 []
def zB4(j1:Bool):Bool:=
 (if j1=true then
  true
 else
  false)
def zL5(a0:ByteArray):Bool:=
 (if(a0.toList==(⟨#[97,108,108]⟩:ByteArray).toList)=true then
  zB4 (a0.toList==(⟨#[97,108,108]⟩:ByteArray).toList)
 else
  (if(a0.toList==(⟨#[97,110,121]⟩:ByteArray).toList)=true then
   zB4 (a0.toList==(⟨#[97,110,121]⟩:ByteArray).toList)
  else
   (if(a0.toList==(⟨#[111,102]⟩:ByteArray).toList)=true then
    zB4 (a0.toList==(⟨#[111,102]⟩:ByteArray).toList)
   else
    (if(a0.toList==(⟨#[112,114,105,111]⟩:ByteArray).toList)=true then
     zB4 (a0.toList==(⟨#[112,114,105,111]⟩:ByteArray).toList)
    else
     zB4 (a0.toList==(⟨#[108,105,109,105,116]⟩:ByteArray).toList)))))
@[reducible,instance] def zeH6 a0:=mkJ (zL5 a0) 999 (@zB4.eq_1) λ(j1:Bool)=>⟨[(4,.bool j1)],[],0⟩
instance zcP9(a0:ByteArray):OkT 175 [.str a0] (.bool (zL5 a0)):=ok2 (λ r=>.bool r) (zL5.eq_1 a0) Tryz.f175 []
def zh1(a0:aD):Bool:=
 (if(decide (a0.kind=1))=true then
  (decide (a0.aV=1))
 else
  (if(decide (a0.kind=2))=true then
   (decide (1<=a0.aV)&&decide (a0.aV<=8))
  else
   false))
instance zbK9(a0:aD):OkT 127 [.agg (aD.enc a0)] (.bool (zh1 a0)):=ok2 (λ r=>.bool r) (zh1.eq_1 a0) Tryz.f127 []
def zag4(j1:Unit):Option Int:=
 some 0
def zp9(a0 a1:Arr Int 3)(g1:Int):Option (Int⊕(Unit⊕Int)):=
 (if(decide (g1<3))=true then
  gd (0<=g1/\g1<3)<|
  gd (0<=g1/\g1<3)<|
  (if(decide (Arr.get a0 g1.toNat 0<Arr.get a1 g1.toNat 0))=true then
   some (.inr (.inr (-1)))
  else
   gd (0<=g1/\g1<3)<|
   (if(decide (Arr.get a1 g1.toNat 0<Arr.get a0 g1.toNat 0))=true then
    some (.inr (.inr 1))
   else
    some (.inl (i64.wrap (g1+1)))))
 else
  some (.inr (.inl ())))
def zf7(a0 a1:Arr Int 3):Option Int:=
 (zc1 (zp9 a0 a1) 0).bind (λ|.inl z=>zag4 z|.inr z=>some z)
@[reducible,instance] def zeH7 a0 a1:=mkJ (zf7 a0 a1) 0 (@zag4.eq_1) λ(j1:Unit)=>⟨[],[],0⟩
@[reducible,instance] def zeH8 (a0 a1:Arr Int 3) {T:Type} (x:T):=mkL x (@zp9.eq_1 a0 a1) λ(g1:Int)=>⟨[(3,.ptr 0 0 0),(7,.agg (Arr.enc (eI .i64) a0)),(8,.int .i64 g1)],[(0,⟨false,3,Arr.enc (eI .i64) (Arr.rep 3 0),[Arr.enc (eI .i64) a1]⟩)],1⟩
instance zdi6(a0 a1:Arr Int 3):OkP (zf7 a0 a1) 132 [.agg (Arr.enc (eI .i64) a0),.agg (Arr.enc (eI .i64) a1)] (λ r=>.int .i64 r):=ok1 (zf7.eq_1 a0 a1) Tryz.f132 []
attribute [local irreducible] zf7
def zl6(a0:aA):Option (aM×Bool):=
 (if(decide (0<(a0.aH.length:Int)))=true then
  gd (0<=0/\0<(a0.aH.length:Int))<|
  some ((a0.aH.getD 0 aM.zero),true)
 else
  (if(decide (0<(a0.aU.length:Int)))=true then
   gd (0<=0/\0<(a0.aU.length:Int))<|
   some ((a0.aU.getD 0 aM.zero),true)
  else
   some ({aM.zero with},false)))
instance zcn3(a0:aA):OkP (zl6 a0) 180 [ga a0] (λ r=>.tup [ga r.1,.bool r.2]):=ok1 (zl6.eq_1 a0) Tryz.f180 []
attribute [local irreducible] zl6
def zL6(a0:ByteArray):Bool:=
 (!(a0.toList==a0.toList))
instance zcQ0(a0:ByteArray):OkT 133 [.str a0] (.bool (zL6 a0)):=ok2 (λ r=>.bool r) (zL6.eq_1 a0) Tryz.f133 []
def zag5(j1:Int×(List Int)):Option (List Int):=
 gd (j1.2.length+1<=4294967296)<|
 some (j1.2++[(u8.wrap j1.1)])
@[go_sem] def zdV1(j1:Int×(List Int)):St:=⟨[(1,.int .u64 j1.1),(5,.own 0 0 j1.2.length)],[(0,⟨false,1,[A.int .u8 0],j1.2.map (eI .u8)⟩)],1⟩
def zL7(g1:Int×(List Int)):Option ((Int×(List Int))⊕(Int×(List Int))):=
 (if(decide (127<g1.1))=true then
  gd (g1.2.length+1<=4294967296)<|
  some (.inl ((g1.1.fdiv (2^7)),(g1.2++[(zah8 .or .u8 (u8.wrap (zah8 .and .u64 g1.1 127)) 128)])))
 else
  some (.inr (g1.1,g1.2)))
@[go_sem] def zdV2(g1:Int×(List Int)):St:=⟨[(1,.int .u64 g1.1),(5,.own 0 0 g1.2.length)],[(0,⟨false,1,[A.int .u8 0],g1.2.map (eI .u8)⟩)],1⟩
def zd5(a0:List Int)(a1:Int):Option (List Int):=
 gd (0<=0/\0<=(a0.length:Int)/\(a0.length:Int)<=(a0.length:Int)/\(a0.length:Int)=(a0.length:Int))<|
 (if(decide (127<a1))=true then
  gd ((a0.take ((a0.length:Int).toNat)).length+1<=4294967296)<|
  (zc1 zL7 ((a1.fdiv (2^7)),(a0.take ((a0.length:Int).toNat)++[(zah8 .or .u8 (u8.wrap (zah8 .and .u64 a1 127)) 128)]))).bind (λ z=>zag5 z)
 else
  gd ((a0.take ((a0.length:Int).toNat)).length+1<=4294967296)<|
  some (a0.take ((a0.length:Int).toNat)++[(u8.wrap a1)]))
theorem zbL0(a0:List Int)(a1:Int)(r:(List Int))(h:zd5 a0 a1=some r):PFn C 144 [.sl (a0.map (eI .u8)),.int .u64 a1] (.sl (r.map (eI .u8))):=by
 refine zW4 Tryz.f144 [] λ E hG hN hK=>?_;unfold zd5 at h;refine za0 (za1 hG ?_);refine za0 ?_;obtain⟨hb5,h⟩:=zg4 h;refine za1 hG ?_;refine za0 ?_;refine zcs8 zdV1 (λ v=>zag5 v=some r) ?_ ?_
 · intro j1 h
   unfold zag5 at h;refine g_st ?_;refine za0 ?_;obtain⟨hb1,h⟩:=zg4 h;refine za1 hG ?_;refine zm8 ?_;exact zy2 h
 refine zdv1 (body:=zL7) (kk:=λ z=>zag5 z) (r:=r) zdV2 hK ?_ (λ x_l1 h g1 y_l1 h_l1 hx_l1=>?_)
 · refine za0 (za0 (za1 hG ?_))
   refine zh9 rfl hG h (λ _ h=>?_) (λ _ h=>?_)
   · refine zh7 ?_
     refine zy9 (za0 ?_);obtain⟨hb3,h⟩:=zg4 h;refine za1 hG ?_;refine za1 hG ?_;exact zdb0 hK [(0,0)] h
   refine zE5 ?_;refine .inr ?_;refine za0 ?_;obtain⟨hb4,h⟩:=zg4 h;refine za1 hG ?_;refine zm8 ?_;exact zy2 h
 unfold zL7 at h_l1;refine g_st ?_;refine za0 (za0 (za1 hG ?_));refine zh9 rfl hG h_l1 (λ _ h_l1=>?_) (λ _ h_l1=>?_)
 · refine zh7 ?_
   refine zy9 (za0 ?_);obtain⟨hb2,h_l1⟩:=zg4 h_l1;refine za1 hG ?_;refine za1 hG ?_;exact zU3 hK [(0,1)] h_l1
 refine zE5 ?_;cases h_l1;cases hx_l1 _ rfl;refine .inl ?_;exact zv9 hK [(0,0)] (g1.1,g1.2) (by exact h)
instance zdb8(a0:List Int)(a1:Int):OkP (zd5 a0 a1) 144 [.sl (a0.map (eI .u8)),.int .u64 a1] (λ r=>.sl (r.map (eI .u8))):=⟨zbL0 a0 a1⟩
attribute [local irreducible] zd5
def zb1(a0:List Int):Option (List Int):=
 gd (a0.length<=4294967296)<|
 some a0
theorem zaL6(a0:List Int)(r:(List Int))(h:zb1 a0=some r):MFn C 254 [.sl (a0.map (eI .u8))] [] 0 (.own 0 0 r.length) [(0,⟨false,1,[A.int .u8 0],r.map (eI .u8)⟩)] 1:=by
 refine zU4 Tryz.f254 [(2,1),(2,1),(5,1)] [.own 0 0 r.length] λ E hG hN hK=>?_;unfold zb1 at h;refine za0 (za1 hG ?_);refine za0 (za0 (za1 hG ?_));intro b hnil;cases b
 · try refine g_st ?_
   refine zaH9 rfl hG ?_;refine zh7 ?_;refine za0 ?_;obtain⟨hb1,h⟩:=zg4 h;refine za1 hG ?_;refine zm8 ?_;exact zx8 [(0,2)] h
 have ha:a0=[]:=gZ.1 (hnil rfl);subst ha
 replace h:some []=some r:=by simpa [gd]using h
 try refine g_st ?_
 refine zac1 rfl hG ?_;refine za0 (za1 hG ?_);refine zm8 ?_;exact zx8 [(0,1)] h
instance zbT4(a0:List Int):OkM (zb1 a0) 254 [.sl (a0.map (eI .u8))] [] 0 (λ r=>.own 0 0 r.length) (λ r=>[(0,⟨false,1,[A.int .u8 0],r.map (eI .u8)⟩)]) 1:=⟨zaL6 a0⟩
attribute [local irreducible] zb1
def zaJ3(a0 a1:aM):Int:=
 (if(decide (a1.aX<a0.aX)&&decide (a1.bG<3))=true then
  1
 else
  0)
instance zdM4(a0 a1:aM):OkT 262 [.agg (aM.enc a0),.agg (aM.enc a1)] (.int .i64 (zaJ3 a0 a1)):=ok2 (λ r=>.int .i64 r) (zaJ3.eq_1 a0 a1) Tryz.f262 []
def ze0(a0:List aM)(a1:aA):Option ((List aM)×ByteArray×Int×Int×Int×(List aM)×Int×(List aT)×(List aM)×(List aM)):=
 some (a0,a1.aB.name,a1.aB.kind,a1.aB.aV,a1.aB.home,a0,a1.gen,a1.aL,a1.aH,a1.aU)
instance zbu4(a0:List aM)(a1:aA):OkM (ze0 a0 a1) 209 [.ptr 0 0 0,.ptr 1 0 0] [(0,⟨false,1,[A.sl ([].map aM.enc)],[[A.sl (a0.map aM.enc)]]⟩),(1,⟨false,8,aA.enc aA.zero,[[.str a1.aB.name,.int .i64 a1.aB.kind,.int .i64 a1.aB.aV,.int .i64 a1.aB.home,.own 2 0 a1.aL.length,.own 3 0 a1.aH.length,.own 4 0 a1.aU.length,.int .i64 a1.gen]]⟩),(2,sx a1.aL),(3,sx a1.aH),(4,sx a1.aU)] 5 (λ r=>.tup []) (λ r=>[(0,⟨false,1,[A.sl ([].map aM.enc)],[[A.sl (r.1.map aM.enc)]]⟩),(1,⟨false,8,aA.enc aA.zero,[[.str r.2.1,.int .i64 r.2.2.1,.int .i64 r.2.2.2.1,.int .i64 r.2.2.2.2.1,.own 2 0 r.2.2.2.2.2.2.2.1.length,.own 3 0 r.2.2.2.2.2.2.2.2.1.length,la r.2.2.2.2.2.1,.int .i64 r.2.2.2.2.2.2.1]]⟩),(2,sx r.2.2.2.2.2.2.2.1),(3,sx r.2.2.2.2.2.2.2.2.1),(4,sx r.2.2.2.2.2.2.2.2.2)]) 5:=okm (ze0.eq_1 a0 a1) (λ r=>[]) Tryz.f209 []
attribute [local irreducible] ze0
def zax1(a1:Int)(a2:aA)(j1:(List aA)):Option (List aA):=
 (if(decide (0<=a1))=true then
  gd (0<=a1/\a1<((j1.length:Nat):Int))<|
  some (j1.set a1.toNat a2)
 else
  some j1)
def zU9(a0:List aA)(g1:Int×(List aA)):Option ((Int×(List aA))⊕(List aA)):=
 (if(decide (g1.1<(a0.length:Int)))=true then
  gd (0<=g1.1/\g1.1<(a0.length:Int))<|
  gd (((a0.getD g1.1.toNat aA.zero).aL).length<=4294967296)<|
  gd ((({(a0.getD g1.1.toNat aA.zero)with aL:=(a0.getD g1.1.toNat aA.zero).aL}).aH).length<=4294967296)<|
  gd ((({{(a0.getD g1.1.toNat aA.zero)with aL:=(a0.getD g1.1.toNat aA.zero).aL}with aH:=({(a0.getD g1.1.toNat aA.zero)with aL:=(a0.getD g1.1.toNat aA.zero).aL}).aH}).aU).length<=4294967296)<|
  gd (0<=g1.1/\g1.1<((g1.2.length:Nat):Int))<|
  some (.inl ((i64.wrap (g1.1+1)),g1.2.set g1.1.toNat ({{{(a0.getD g1.1.toNat aA.zero)with aL:=(a0.getD g1.1.toNat aA.zero).aL}with aH:=({(a0.getD g1.1.toNat aA.zero)with aL:=(a0.getD g1.1.toNat aA.zero).aL}).aH}with aU:=({{(a0.getD g1.1.toNat aA.zero)with aL:=(a0.getD g1.1.toNat aA.zero).aL}with aH:=({(a0.getD g1.1.toNat aA.zero)with aL:=(a0.getD g1.1.toNat aA.zero).aL}).aH}).aU})))
 else
  some (.inr g1.2))
def zd6(a0:List aA)(a1:Int)(a2:aA):Option (List aA):=
 gd (0<=(a0.length:Int)/\(a0.length:Int)<=(a0.length:Int)/\(a0.length:Int)<=4294967296)<|
 (zc1 (zU9 a0) (0,List.replicate ((a0.length:Int).toNat) aA.zero)).bind (λ z=>zax1 a1 a2 z)
@[reducible,instance] def zem0 a0 (a1:Int) (a2:aA):=mkJ (zd6 a0 a1 a2) 0 (@zax1.eq_1 a1 a2) λ(j1:(List aA))=>⟨[(1,.int .i64 a1),(5,.ptr 0 0 0),(7,.own 1 0 j1.length)],[(0,bx a2),(1,sx j1)],2⟩
@[reducible,instance] def zem1 (a0:List aA) (a1:Int) (a2:aA):=mkL (zd6 a0 a1 a2) (@zU9.eq_1 a0) λ(g1:Int×(List aA))=>⟨[(1,.int .i64 a1),(5,.ptr 0 0 0),(7,.own 1 0 g1.2.length),(13,la a0),(14,.int .i64 (a0.length:Int)),(15,.int .i64 g1.1)],[(0,bx a2),(1,sx g1.2)],2⟩
instance zdi7(a0:List aA)(a1:Int)(a2:aA):OkP (zd6 a0 a1 a2) 148 [la a0,.int .i64 a1,ga a2] (λ r=>la r):=ok1 (zd6.eq_1 a0 a1 a2) Tryz.f148 [(22,2),(26,2),(30,2)]
attribute [local irreducible] zd6
def za4(a0:List aM):Option (List aM):=
 gd (a0.length<=4294967296)<|
 some a0
theorem zay9(a0:List aM)(r:(List aM))(h:za4 a0=some r):PFn C 152 [la a0] (la r):=by
 refine zW4 Tryz.f152 [(5,1)] λ E hG hN hK=>?_;unfold za4 at h;refine za0 (za1 hG ?_);refine za0 (za0 (za1 hG ?_));intro b hnil;cases b
 · try refine g_st ?_
   refine zaH9 rfl hG ?_;refine zh7 ?_;refine za0 ?_;obtain⟨hb1,h⟩:=zg4 h;refine za1 hG ?_;refine zm8 ?_;exact zy2 h
 have ha:a0=[]:=gZ.1 (hnil rfl);subst ha
 replace h:some []=some r:=by simpa [gd]using h
 try refine g_st ?_
 refine zac1 rfl hG ?_;refine za0 (za1 hG ?_);refine zm8 ?_;exact zy2 h
instance zbz4(a0:List aM):OkP (za4 a0) 152 [la a0] (λ r=>la r):=⟨zay9 a0⟩
attribute [local irreducible] za4
def zj9(a0:aA):Option aA:=
 gd (a0.aL.length<=4294967296)<|
 gd (a0.aH.length<=4294967296)<|
 gd (a0.aU.length<=4294967296)<|
 some a0
instance zaP9(a0:aA):OkP (zj9 a0) 202 [ga a0] (λ r=>ga r):=ok1 (zj9.eq_1 a0) Tryz.f202 []
attribute [local irreducible] zj9
def zaQ0(j1:(List aY)):Option (List aY):=
 some j1
def zag6(a0:ByteArray)(a1:List aT)(g1:Int×(List aY)):Option ((Int×(List aY))⊕(List aY)):=
 (if(decide (g1.1<(a1.length:Int)))=true then
  gd (0<=g1.1/\g1.1<(a1.length:Int))<|
  gd (g1.2.length+1<=4294967296)<|
  some (.inl ((i64.wrap (g1.1+1)),(g1.2++[(⟨1,(a1.getD g1.1.toNat aT.zero).aI,a0,(a1.getD g1.1.toNat aT.zero).aJ⟩:aY)])))
 else
  some (.inr g1.2))
def ze5(a0:ByteArray)(a1:List aT)(a2:List aY):Option (List aY):=
 (zc1 (zag6 a0 a1) (0,a2)).bind (λ z=>zaQ0 z)
@[reducible,instance] def zem2 (a0:ByteArray) (a1:List aT) (a2:List aY):=mkJ (ze5 a0 a1 a2) 0 (@zaQ0.eq_1) λ(j1:(List aY))=>⟨[(2,.own 1 0 j1.length)],[(1,sx j1)],2⟩
@[reducible,instance] def zem3 (a0:ByteArray) (a1:List aT) {T:Type} (x:T):=mkL x (@zag6.eq_1 a0 a1) λ(g1:Int×(List aY))=>⟨[(0,.str a0),(2,.own 1 0 g1.2.length),(9,la a1),(10,.int .i64 (a1.length:Int)),(11,.int .i64 g1.1)],[(1,sx g1.2)],2⟩
instance zdb9(a0:ByteArray)(a1:List aT)(a2:List aY):OkM (ze5 a0 a1 a2) 149 [.str a0,la a1,.own 0 0 a2.length] [(0,sx a2)] 1 (λ r=>la r) (λ r=>[]) 1:=⟨λ r h=>by
 refine zU4 Tryz.f149 [] [la r] λ E hG hN hK=>?_;have hm:Mk (ze5 a0 a1 a2):=trivial;unfold ze5 at h;refine za0 (za1 hG ?_);refine za0 (za0 (za1 hG ?_));refine zaJ2 hm h (λ j1 hm h=>?_) ?_
 · try refine g_st ?_
   refine za0 (za1 hG ?_);refine g_gh (.fz [1]) ?_;exact gogo
 exact gogo⟩
attribute [local irreducible] ze5
def zH2(a0:ByteArray):Bool:=
 (((((a0.toList==(⟨#[97,108,108]⟩:ByteArray).toList)||(a0.toList==(⟨#[97,110,121]⟩:ByteArray).toList))||(a0.toList==(⟨#[111,102]⟩:ByteArray).toList))||(a0.toList==(⟨#[112,114,105,111]⟩:ByteArray).toList))||(a0.toList==(⟨#[108,105,109,105,116]⟩:ByteArray).toList))
instance zdc0(a0:ByteArray):OkT 177 [.str a0] (.bool (zH2 a0)):=ok2 (λ r=>.bool r) (zH2.eq_1 a0) Tryz.f177 []
def zy3(a0:Int):Bool:=
 (decide (1<=a0)&&decide (a0<=5))
instance zdw6(a0:Int):OkT 125 [.int .i64 a0] (.bool (zy3 a0)):=ok2 (λ r=>.bool r) (zy3.eq_1 a0) Tryz.f125 []
def zbh6(j1:Unit):Option Int:=
 some (-1)
def zav6(a0:List aA)(a1:ByteArray)(g1:Int):Option (Int⊕(Unit⊕Int)):=
 (if(decide (g1<(a0.length:Int)))=true then
  gd (0<=g1/\g1<(a0.length:Int))<|
  (if((((a0.getD g1.toNat aA.zero).aB).name).toList==a1.toList)=true then
   some (.inr (.inr g1))
  else
   some (.inl (i64.wrap (g1+1))))
 else
  some (.inr (.inl ())))
def zh4(a0:List aA)(a1:ByteArray):Option Int:=
 (zc1 (zav6 a0 a1) 0).bind (λ|.inl z=>zbh6 z|.inr z=>some z)
@[reducible,instance] def zem4 a0 a1:=mkJ (zh4 a0 a1) 0 (@zbh6.eq_1) λ(j1:Unit)=>⟨[],[],0⟩
@[reducible,instance] def zem5 (a0:List aA) (a1:ByteArray) {T:Type} (x:T):=mkL x (@zav6.eq_1 a0 a1) λ(g1:Int)=>⟨[(0,la a0),(1,.str a1),(5,.int .i64 g1)],[],0⟩
instance zcn4(a0:List aA)(a1:ByteArray):OkP (zh4 a0 a1) 26 [la a0,.str a1] (λ r=>.int .i64 r):=ok1 (zh4.eq_1 a0 a1) Tryz.f26 []
attribute [local irreducible] zh4
def zQ3(j3:Bool):ByteArray:=
 (if j3=true then
  (⟨#[69]⟩:ByteArray)
 else
  (⟨#[]⟩:ByteArray))
@[go_sem] def zdV3(j3:Bool):St:=⟨[(26,.bool j3)],[],0⟩
def zY4 (a0:Int) (j2:Bool):ByteArray:=
 (if j2=true then
  (⟨#[82]⟩:ByteArray)
 else
  (if(decide (a0=7))=true then
   (⟨#[82,87,79]⟩:ByteArray)
  else
   (if(decide (a0=9))=true then
    (⟨#[82,87]⟩:ByteArray)
   else
    (if(decide (a0=10))=true then
     (⟨#[82,69,80,71,76]⟩:ByteArray)
    else
     (if(decide (a0=11))=true then
      (⟨#[82,80,68]⟩:ByteArray)
     else
      (if(decide (a0=12))=true then
       (⟨#[69,83]⟩:ByteArray)
      else
       (if(decide (a0=13))=true then
        zQ3 (decide (a0=13))
       else
        (if(decide (a0=14))=true then
         zQ3 (decide (a0=14))
        else
         zQ3 (decide (a0=15))))))))))
@[go_sem] def zdV4(a0:Int)(j2:Bool):St:=⟨[(3,.int .i64 a0),(13,.bool j2)],[],0⟩
def zY5(a0:Int)(j1:Bool):ByteArray:=
 (if j1=true then
  (⟨#[80,71,65]⟩:ByteArray)
 else
  (if(decide (a0=3))=true then
   (⟨#[80,71,65,68]⟩:ByteArray)
  else
   (if(decide (a0=5))=true then
    (⟨#[83,73]⟩:ByteArray)
   else
    (if(decide (a0=6))=true then
     zY4 a0 (decide (a0=6))
    else
     zY4 a0 (decide (a0=8))))))
@[go_sem] def zdV5(a0:Int)(j1:Bool):St:=⟨[(3,.int .i64 a0),(6,.bool j1)],[],0⟩
def zb8(a0:Int):ByteArray:=
 (if(decide (a0=1))=true then
  (⟨#[80,71,65,89]⟩:ByteArray)
 else
  (if(decide (a0=2))=true then
   zY5 a0 (decide (a0=2))
  else
   zY5 a0 (decide (a0=4))))
theorem zbT5(a0:Int):PFn C 106 [.int .i64 a0] (.str (zb8 a0)):=by
 generalize h:zb8 a0=r;refine zW4 Tryz.f106 [] λ E hG hN hK=>?_;unfold zb8 at h;refine za0 (za1 hG ?_);refine za0 (za0 (za1 hG ?_));refine zy9 (za0 (za1 hG ?_));refine zh9 rfl hG h (λ _ h=>?_) (λ _ h=>?_)
 · refine za0 (za1 hG ?_)
   refine zm8 ?_;exact zaE4 h
 refine za0 (za0 (za1 hG ?_));refine zaA2 (zdV5 a0) (λ v=>zY5 a0 v=r) rfl hG h ?_ (λ _ h=>?_) (λ _ h=>?_)
 · intro j1 h
   unfold zY5 at h;refine g_st ?_;refine zh9 rfl hG h (λ _ h=>?_) (λ _ h=>?_)
   · refine za0 (za1 hG ?_)
     refine zm8 ?_;exact zaE4 h
   refine za0 (za1 hG ?_);refine zh9 rfl hG h (λ _ h=>?_) (λ _ h=>?_)
   · refine za0 (za1 hG ?_)
     refine zm8 ?_;exact zaE4 h
   refine za0 (za1 hG ?_);refine zh9 rfl hG h (λ _ h=>?_) (λ _ h=>?_)
   · refine za0 (za1 hG ?_)
     refine zm8 ?_;exact zaE4 h
   refine za0 (za0 (za1 hG ?_));refine zaA2 (zdV4 a0) (λ v=>zY4 a0 v=r) rfl hG h ?_ (λ _ h=>?_) (λ _ h=>?_)
   · intro j2 h
     unfold zY4 at h;refine g_st ?_;refine zh9 rfl hG h (λ _ h=>?_) (λ _ h=>?_)
     · refine za0 (za1 hG ?_)
       refine zm8 ?_;exact zaE4 h
     refine za0 (za1 hG ?_);refine zh9 rfl hG h (λ _ h=>?_) (λ _ h=>?_)
     · refine za0 (za1 hG ?_)
       refine zm8 ?_;exact zaE4 h
     refine za0 (za1 hG ?_);refine zh9 rfl hG h (λ _ h=>?_) (λ _ h=>?_)
     · refine za0 (za1 hG ?_)
       refine zm8 ?_;exact zaE4 h
     refine za0 (za1 hG ?_);refine zh9 rfl hG h (λ _ h=>?_) (λ _ h=>?_)
     · refine za0 (za1 hG ?_)
       refine zm8 ?_;exact zaE4 h
     refine za0 (za1 hG ?_);refine zh9 rfl hG h (λ _ h=>?_) (λ _ h=>?_)
     · refine za0 (za1 hG ?_)
       refine zm8 ?_;exact zaE4 h
     refine za0 (za1 hG ?_);refine zh9 rfl hG h (λ _ h=>?_) (λ _ h=>?_)
     · refine za0 (za1 hG ?_)
       refine zm8 ?_;exact zaE4 h
     refine za0 (za0 (za1 hG ?_));refine zaA2 zdV3 (λ v=>zQ3 v=r) rfl hG h ?_ (λ _ h=>?_) (λ _ h=>?_)
     · intro j3 h
       unfold zQ3 at h;refine g_st ?_;refine zh9 rfl hG h (λ _ h=>?_) (λ _ h=>?_)
       · refine za0 (za1 hG ?_)
         refine zm8 ?_;exact zaE4 h
       refine zh7 ?_;refine za0 (za1 hG ?_);refine zm8 ?_;exact zaE4 h
     · refine zh7 ?_
       exact zv9 hK [] (decide (a0=13)) (by exact h)
     refine za0 (za1 hG ?_);refine zh9 rfl hG h (λ _ h=>?_) (λ _ h=>?_)
     · refine zh7 ?_
       exact zv9 hK [] (decide (a0=14)) (by exact h)
     refine za1 hG ?_;exact zv9 hK [] (decide (a0=15)) (by exact h)
   · refine zh7 ?_
     exact zv9 hK [] (decide (a0=6)) (by exact h)
   refine za1 hG ?_;exact zv9 hK [] (decide (a0=8)) (by exact h)
 · refine zh7 ?_
   exact zv9 hK [] (decide (a0=2)) (by exact h)
 refine za1 hG ?_;exact zv9 hK [] (decide (a0=4)) (by exact h)
instance zdi8(a0:Int):OkT 106 [.int .i64 a0] (.str (zb8 a0)):=⟨zbT5 a0⟩
def zaJ4(j1:Unit):Option Bool:=
 some true
def zaJ5(a0 a1:List aM)(g1:Int):Option (Int⊕(Unit⊕Bool)):=
 (if(decide (g1<(a0.length:Int)))=true then
  gd (0<=g1/\g1<(a0.length:Int))<|
  gd (0<=g1/\g1<(a1.length:Int))<|
  (if(!decide (a0.getD g1.toNat aM.zero=a1.getD g1.toNat aM.zero))=true then
   some (.inr (.inr false))
  else
   some (.inl (i64.wrap (g1+1))))
 else
  some (.inr (.inl ())))
def zd2(a0 a1:List aM):Option Bool:=
 (if(!decide ((a0.length:Int)=(a1.length:Int)))=true then
  some false
 else
  (zc1 (zaJ5 a0 a1) 0).bind (λ|.inl z=>zaJ4 z|.inr z=>some z))
@[reducible,instance] def zem6 a0 a1:=mkJ (zd2 a0 a1) 0 (@zaJ4.eq_1) λ(j1:Unit)=>⟨[],[],0⟩
@[reducible,instance] def zem7 (a0 a1:List aM) {T:Type} (x:T):=mkL x (@zaJ5.eq_1 a0 a1) λ(g1:Int)=>⟨[(0,la a0),(1,la a1),(5,.int .i64 g1)],[],0⟩
instance zcT5(a0 a1:List aM):OkP (zd2 a0 a1) 130 [la a0,la a1] (λ r=>.bool r):=ok1 (zd2.eq_1 a0 a1) Tryz.f130 []
attribute [local irreducible] zd2
def zaJ6(j1:Int×(List Int)):Option (List Int):=
 gd (j1.2.length+1<=4294967296)<|
 some (j1.2++[(u8.wrap j1.1)])
def zaJ7(g1:Int×(List Int)):Option ((Int×(List Int))⊕(Int×(List Int))):=
 (if(decide (128<=g1.1))=true then
  gd (g1.2.length+1<=4294967296)<|
  some (.inl ((g1.1.fdiv (2^7)),(g1.2++[(zah8 .or .u8 (u8.wrap (zah8 .and .u64 g1.1 127)) 128)])))
 else
  some (.inr (g1.1,g1.2)))
def zb3(a0:List Int)(a1:Int):Option (List Int):=
 gd (a0.length<=4294967296)<|
 (zc1 zaJ7 (a1,a0)).bind (λ z=>zaJ6 z)
@[reducible,instance] def zem8 a0 a1:=mkJ (zb3 a0 a1) 0 (@zaJ6.eq_1) λ(j1:Int×(List Int))=>⟨[(1,.int .u64 j1.1),(5,.own 0 0 j1.2.length)],[(0,⟨false,1,[A.int .u8 0],j1.2.map (eI .u8)⟩)],1⟩
@[reducible,instance] def zem9 {T:Type} (x:T):=mkL x (@zaJ7.eq_1) λ(g1:Int×(List Int))=>⟨[(1,.int .u64 g1.1),(5,.own 0 0 g1.2.length)],[(0,⟨false,1,[A.int .u8 0],g1.2.map (eI .u8)⟩)],1⟩
instance zbu5(a0:List Int)(a1:Int):OkM (zb3 a0 a1) 162 [.sl (a0.map (eI .u8)),.int .u64 a1] [] 0 (λ r=>.own 0 0 r.length) (λ r=>[(0,⟨false,1,[A.int .u8 0],r.map (eI .u8)⟩)]) 1:=okm (zb3.eq_1 a0 a1) (λ r=>[.own 0 0 r.length]) Tryz.f162 [(4,1),(6,1)]
attribute [local irreducible] zb3
def zaA7(a0:List aM)(j1:(List aM)):Option ((List aM)×Bool):=
 some (j1,decide (((j1.length:Nat):Int)<(a0.length:Int)))
def zY6(a0:List aM)(a1:aF)(g1:Int×(List aM)):Option ((Int×(List aM))⊕(List aM)):=
 (if(decide (g1.1<(a0.length:Int)))=true then
  gd (0<=g1.1/\g1.1<(a0.length:Int))<|
  (if(!decide ((a0.getD g1.1.toNat aM.zero).aI=a1))=true then
   gd (0<=g1.1/\g1.1<(a0.length:Int))<|
   gd (g1.2.length+1<=4294967296)<|
   some (.inl ((i64.wrap (g1.1+1)),(g1.2++[(a0.getD g1.1.toNat aM.zero)])))
  else
   some (.inl ((i64.wrap (g1.1+1)),g1.2)))
 else
  some (.inr g1.2))
def zf9(a0:List aM)(a1:aF):Option ((List aM)×Bool):=
 (zc1 (zY6 a0 a1) (0,[])).bind (λ z=>zaA7 a0 z)
@[reducible,instance] def zen0 (a0:List aM) a1:=mkJ (zf9 a0 a1) 0 (@zaA7.eq_1 a0) λ(j1:(List aM))=>⟨[(0,la a0),(6,.own 0 0 j1.length)],[(0,sx j1)],1⟩
@[reducible,instance] def zen1 (a0:List aM) (a1:aF) {T:Type} (x:T):=mkL x (@zY6.eq_1 a0 a1) λ(g1:Int×(List aM))=>⟨[(0,la a0),(3,.ptr 0 0 0),(6,.own 1 0 g1.2.length),(7,.int .i64 g1.1)],[(0,bx a1),(1,sx g1.2)],2⟩
instance zdp8(a0:List aM)(a1:aF):OkP (zf9 a0 a1) 170 [la a0,ga a1] (λ r=>.tup [la r.1,.bool r.2]):=ok1 (zf9.eq_1 a0 a1) Tryz.f170 [(6,1)]
attribute [local irreducible] zf9
end
end Ab
end Go.Proofs.YtdlfhmkmnjbihaaGreatDoor
