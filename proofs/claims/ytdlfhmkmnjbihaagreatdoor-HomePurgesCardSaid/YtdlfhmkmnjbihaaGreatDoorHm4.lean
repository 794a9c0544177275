import Derived.Test.YtdlfhmkmnjbihaaGreatDoorHand
namespace Go.Proofs.YtdlfhmkmnjbihaaGreatDoor
namespace Ab
open IntKind (i64 u64 u8)
set_option linter.unusedSimpArgs false
set_option linter.defProp false
set_option linter.unusedVariables false
set_option maxRecDepth 100000
set_option maxHeartbeats 1000000
noncomputable section
def zx7(j1:Bool):Bool:=
 (if j1=true then
  true
 else
  false)
def zI0(a0:ByteArray):Bool:=
 (if(a0.toList==(⟨#[97,108,108]⟩:ByteArray).toList)=true then
  zx7 (a0.toList==(⟨#[97,108,108]⟩:ByteArray).toList)
 else
  (if(a0.toList==(⟨#[97,110,121]⟩:ByteArray).toList)=true then
   zx7 (a0.toList==(⟨#[97,110,121]⟩:ByteArray).toList)
  else
   (if(a0.toList==(⟨#[111,102]⟩:ByteArray).toList)=true then
    zx7 (a0.toList==(⟨#[111,102]⟩:ByteArray).toList)
   else
    (if(a0.toList==(⟨#[112,114,105,111]⟩:ByteArray).toList)=true then
     zx7 (a0.toList==(⟨#[112,114,105,111]⟩:ByteArray).toList)
    else
     zx7 (a0.toList==(⟨#[108,105,109,105,116]⟩:ByteArray).toList)))))
@[reducible,instance] def zeb7 a0:=mkJ (zI0 a0) 999 (@zx7.eq_1) λ(j1:Bool)=>⟨[(4,.bool j1)],[],0⟩
instance zcx1(a0:ByteArray):OkT 175 [.str a0] (.bool (zI0 a0)):=ok2 (λ r=>.bool r) (zI0.eq_1 a0) Tryz.f175 []
def zd3(a0:aD):Bool:=
 (if(decide (a0.kind=1))=true then
  (decide (a0.aU=1))
 else
  (if(decide (a0.kind=2))=true then
   (decide (1<=a0.aU)&&decide (a0.aU<=8))
  else
   false))
instance zbv3(a0:aD):OkT 127 [.agg (aD.enc a0)] (.bool (zd3 a0)):=ok2 (λ r=>.bool r) (zd3.eq_1 a0) Tryz.f127 []
def zY2(j1:Unit):Option Int:=
 some 0
def zm1(a0 a1:Arr Int 3)(g1:Int):Option (Int⊕(Unit⊕Int)):=
 (if(decide (g1<3))=true then
  gd (0<=g1/\g1<3)<|
  gd (0<=g1/\g1<3)<|
  (if(decide (Arr.get a0 g1.toNat 0<Arr.get a1 g1.toNat 0))=true then
   some (.inr (.inr (-1)))
  else
   gd (0<=g1/\g1<3)<|
   (if(decide (Arr.get a1 g1.toNat 0<Arr.get a0 g1.toNat 0))=true then
    some (.inr (.inr 1))
   else
    some (.inl (i64.wrap (g1+1)))))
 else
  some (.inr (.inl ())))
def zf0(a0 a1:Arr Int 3):Option Int:=
 (zc0 (zm1 a0 a1) 0).bind (λ|.inl z=>zY2 z|.inr z=>some z)
@[reducible,instance] def zeb8 a0 a1:=mkJ (zf0 a0 a1) 0 (@zY2.eq_1) λ(j1:Unit)=>⟨[],[],0⟩
@[reducible,instance] def zeb9 (a0 a1:Arr Int 3) {T:Type} (x:T):=mkL x (@zm1.eq_1 a0 a1) λ(g1:Int)=>⟨[(3,.ptr 0 0 0),(7,.agg (Arr.enc (eI .i64) a0)),(8,.int .i64 g1)],[(0,⟨false,3,Arr.enc (eI .i64) (Arr.rep 3 0),[Arr.enc (eI .i64) a1]⟩)],1⟩
instance zcN2(a0 a1:Arr Int 3):OkP (zf0 a0 a1) 132 [.agg (Arr.enc (eI .i64) a0),.agg (Arr.enc (eI .i64) a1)] (λ r=>.int .i64 r):=ok1 (zf0.eq_1 a0 a1) Tryz.f132 []
attribute [local irreducible] zf0
def zh1(a0:List Int)(a1:bC):Option (List Int):=none
theorem zbl8(a0:List Int)(a1:bC)(r:(List Int))(h:zh1 a0 a1=some r):MFn C 200 [.sl (a0.map (eI .u8)),ga a1] [] 0 (.own 0 0 r.length) [(0,⟨false,1,[A.int .u8 0],r.map (eI .u8)⟩)] 1:=nomatch (show(none:Option (List Int))=some r from h)
attribute [local irreducible] zh1
def zd7(a0:List aM)(a1:aA):Option ((List aM)×ByteArray×Int×Int×Int×(List aM)×Int×(List aO)×(List aM)×(List aM)):=
 some (a0,a1.aB.name,a1.aB.kind,a1.aB.aU,a1.aB.home,a0,a1.gen,a1.aL,a1.aH,a1.aT)
instance zbg8(a0:List aM)(a1:aA):OkM (zd7 a0 a1) 209 [.ptr 0 0 0,.ptr 1 0 0] [(0,⟨false,1,[A.sl ([].map aM.enc)],[[A.sl (a0.map aM.enc)]]⟩),(1,⟨false,8,aA.enc aA.zero,[[.str a1.aB.name,.int .i64 a1.aB.kind,.int .i64 a1.aB.aU,.int .i64 a1.aB.home,.own 2 0 a1.aL.length,.own 3 0 a1.aH.length,.own 4 0 a1.aT.length,.int .i64 a1.gen]]⟩),(2,sx a1.aL),(3,sx a1.aH),(4,sx a1.aT)] 5 (λ r=>.tup []) (λ r=>[(0,⟨false,1,[A.sl ([].map aM.enc)],[[A.sl (r.1.map aM.enc)]]⟩),(1,⟨false,8,aA.enc aA.zero,[[.str r.2.1,.int .i64 r.2.2.1,.int .i64 r.2.2.2.1,.int .i64 r.2.2.2.2.1,.own 2 0 r.2.2.2.2.2.2.2.1.length,.own 3 0 r.2.2.2.2.2.2.2.2.1.length,la r.2.2.2.2.2.1,.int .i64 r.2.2.2.2.2.2.1]]⟩),(2,sx r.2.2.2.2.2.2.2.1),(3,sx r.2.2.2.2.2.2.2.2.1),(4,sx r.2.2.2.2.2.2.2.2.2)]) 5:=okm (zd7.eq_1 a0 a1) (λ r=>[]) Tryz.f209 []
attribute [local irreducible] zd7
def za5(a0:List aO):Option (List aO):=
 gd (a0.length<=4294967296)<|
 some a0
theorem zan7(a0:List aO)(r:(List aO))(h:za5 a0=some r):PFn C 151 [la a0] (la r):=by
 refine zW0 Tryz.f151 [(5,1)] λ E hG hN hK=>?_;unfold za5 at h;refine za0 (za1 hG ?_);refine za0 (za0 (za1 hG ?_));intro b hnil;cases b
 · try refine g_st ?_
   refine zaB0 rfl hG ?_;refine ze2 ?_;refine za0 ?_;obtain⟨hb1,h⟩:=ze3 h;refine za1 hG ?_;refine zm2 ?_;exact zt1 h
 have ha:a0=[]:=hZ.1 (hnil rfl);subst ha
 replace h:some []=some r:=by simpa [gd]using h
 try refine g_st ?_
 refine zak3 rfl hG ?_;refine za0 (za1 hG ?_);refine zm2 ?_;exact zt1 h
instance zbl9(a0:List aO):OkP (za5 a0) 151 [la a0] (λ r=>la r):=⟨zan7 a0⟩
attribute [local irreducible] za5
def zaB2(a0:aF)(a1:ByteArray)(a2:aC):aS:=
 (⟨3,a0,a1,a2⟩:aS)
instance zdh6(a0:aF)(a1:ByteArray)(a2:aC):OkT 155 [.agg (aF.enc a0),.str a1,.agg (aC.enc a2)] (.agg (aS.enc (zaB2 a0 a1 a2))):=ok2 (λ r=>.agg (aS.enc r)) (zaB2.eq_1 a0 a1 a2) Tryz.f155 []
def zaD8(j1:(List aS)):Option (List aS):=
 some j1
def zY3(a0:ByteArray)(a1:List aO)(g1:Int×(List aS)):Option ((Int×(List aS))⊕(List aS)):=
 (if(decide (g1.1<(a1.length:Int)))=true then
  gd (0<=g1.1/\g1.1<(a1.length:Int))<|
  gd (g1.2.length+1<=4294967296)<|
  some (.inl ((i64.wrap (g1.1+1)),(g1.2++[(⟨1,(a1.getD g1.1.toNat aO.zero).aI,a0,(a1.getD g1.1.toNat aO.zero).aK⟩:aS)])))
 else
  some (.inr g1.2))
def ze0(a0:ByteArray)(a1:List aO)(a2:List aS):Option (List aS):=
 (zc0 (zY3 a0 a1) (0,a2)).bind (λ z=>zaD8 z)
@[reducible,instance] def zdL5 (a0:ByteArray) (a1:List aO) (a2:List aS):=mkJ (ze0 a0 a1 a2) 0 (@zaD8.eq_1) λ(j1:(List aS))=>⟨[(2,.own 1 0 j1.length)],[(1,sx j1)],2⟩
@[reducible,instance] def zdL6 (a0:ByteArray) (a1:List aO) {T:Type} (x:T):=mkL x (@zY3.eq_1 a0 a1) λ(g1:Int×(List aS))=>⟨[(0,.str a0),(2,.own 1 0 g1.2.length),(9,la a1),(10,.int .i64 (a1.length:Int)),(11,.int .i64 g1.1)],[(1,sx g1.2)],2⟩
instance zcH2(a0:ByteArray)(a1:List aO)(a2:List aS):OkM (ze0 a0 a1 a2) 149 [.str a0,la a1,.own 0 0 a2.length] [(0,sx a2)] 1 (λ r=>la r) (λ r=>[]) 1:=⟨λ r h=>by
 refine zZ4 Tryz.f149 [] [la r] λ E hG hN hK=>?_;have hm:Mk (ze0 a0 a1 a2):=trivial;unfold ze0 at h;refine za0 (za1 hG ?_);refine za0 (za0 (za1 hG ?_));refine zaw7 hm h (λ j1 hm h=>?_) ?_
 · try refine g_st ?_
   refine za0 (za1 hG ?_);refine g_gh (.fz [1]) ?_;exact gogo
 exact gogo⟩
attribute [local irreducible] ze0
def zax3(a1:Int)(a2:aA)(j1:(List aA)):Option (List aA):=
 (if(decide (0<=a1))=true then
  gd (0<=a1/\a1<((j1.length:Nat):Int))<|
  some (j1.set a1.toNat a2)
 else
  some j1)
def zax4(a0:List aA)(g1:Int×(List aA)):Option ((Int×(List aA))⊕(List aA)):=
 (if(decide (g1.1<(a0.length:Int)))=true then
  gd (0<=g1.1/\g1.1<(a0.length:Int))<|
  gd (((a0.getD g1.1.toNat aA.zero).aL).length<=4294967296)<|
  gd ((({(a0.getD g1.1.toNat aA.zero)with aL:=(a0.getD g1.1.toNat aA.zero).aL}).aH).length<=4294967296)<|
  gd ((({{(a0.getD g1.1.toNat aA.zero)with aL:=(a0.getD g1.1.toNat aA.zero).aL}with aH:=({(a0.getD g1.1.toNat aA.zero)with aL:=(a0.getD g1.1.toNat aA.zero).aL}).aH}).aT).length<=4294967296)<|
  gd (0<=g1.1/\g1.1<((g1.2.length:Nat):Int))<|
  some (.inl ((i64.wrap (g1.1+1)),g1.2.set g1.1.toNat ({{{(a0.getD g1.1.toNat aA.zero)with aL:=(a0.getD g1.1.toNat aA.zero).aL}with aH:=({(a0.getD g1.1.toNat aA.zero)with aL:=(a0.getD g1.1.toNat aA.zero).aL}).aH}with aT:=({{(a0.getD g1.1.toNat aA.zero)with aL:=(a0.getD g1.1.toNat aA.zero).aL}with aH:=({(a0.getD g1.1.toNat aA.zero)with aL:=(a0.getD g1.1.toNat aA.zero).aL}).aH}).aT})))
 else
  some (.inr g1.2))
def zc8(a0:List aA)(a1:Int)(a2:aA):Option (List aA):=
 gd (0<=(a0.length:Int)/\(a0.length:Int)<=(a0.length:Int)/\(a0.length:Int)<=4294967296)<|
 (zc0 (zax4 a0) (0,List.replicate ((a0.length:Int).toNat) aA.zero)).bind (λ z=>zax3 a1 a2 z)
@[reducible,instance] def zdL7 a0 (a1:Int) (a2:aA):=mkJ (zc8 a0 a1 a2) 0 (@zax3.eq_1 a1 a2) λ(j1:(List aA))=>⟨[(1,.int .i64 a1),(5,.ptr 0 0 0),(7,.own 1 0 j1.length)],[(0,bx a2),(1,sx j1)],2⟩
@[reducible,instance] def zdL8 (a0:List aA) (a1:Int) (a2:aA):=mkL (zc8 a0 a1 a2) (@zax4.eq_1 a0) λ(g1:Int×(List aA))=>⟨[(1,.int .i64 a1),(5,.ptr 0 0 0),(7,.own 1 0 g1.2.length),(13,la a0),(14,.int .i64 (a0.length:Int)),(15,.int .i64 g1.1)],[(0,bx a2),(1,sx g1.2)],2⟩
instance zcx2(a0:List aA)(a1:Int)(a2:aA):OkM (zc8 a0 a1 a2) 148 [la a0,.int .i64 a1,ga a2] [] 0 (λ r=>.own 0 0 r.length) (λ r=>[(0,sx r)]) 1:=okm (zc8.eq_1 a0 a1 a2) (λ r=>[.own 0 0 r.length]) Tryz.f148 [(6,1),(22,2),(26,2),(30,2)]
attribute [local irreducible] zc8
def zax5(j1:Unit):Option Bool:=
 some true
def zax6(a0 a1:List aO)(g1:Int):Option (Int⊕(Unit⊕Bool)):=
 (if(decide (g1<(a0.length:Int)))=true then
  gd (0<=g1/\g1<(a0.length:Int))<|
  gd (0<=g1/\g1<(a1.length:Int))<|
  (if(!decide (a0.getD g1.toNat aO.zero=a1.getD g1.toNat aO.zero))=true then
   some (.inr (.inr false))
  else
   some (.inl (i64.wrap (g1+1))))
 else
  some (.inr (.inl ())))
def zd2(a0 a1:List aO):Option Bool:=
 (if(!decide ((a0.length:Int)=(a1.length:Int)))=true then
  some false
 else
  (zc0 (zax6 a0 a1) 0).bind (λ|.inl z=>zax5 z|.inr z=>some z))
@[reducible,instance] def zdL9 a0 a1:=mkJ (zd2 a0 a1) 0 (@zax5.eq_1) λ(j1:Unit)=>⟨[],[],0⟩
@[reducible,instance] def zdM0 (a0 a1:List aO) {T:Type} (x:T):=mkL x (@zax6.eq_1 a0 a1) λ(g1:Int)=>⟨[(0,la a0),(1,la a1),(5,.int .i64 g1)],[],0⟩
instance zcA6(a0 a1:List aO):OkP (zd2 a0 a1) 129 [la a0,la a1] (λ r=>.bool r):=ok1 (zd2.eq_1 a0 a1) Tryz.f129 []
attribute [local irreducible] zd2
def zv7(a0:Int):Bool:=
 (decide (1<=a0)&&decide (a0<=5))
instance zda4(a0:Int):OkT 125 [.int .i64 a0] (.bool (zv7 a0)):=ok2 (λ r=>.bool r) (zv7.eq_1 a0) Tryz.f125 []
def zl5(a0:aA):Option (aM×Bool):=
 (if(decide (0<(a0.aH.length:Int)))=true then
  gd (0<=0/\0<(a0.aH.length:Int))<|
  some ((a0.aH.getD 0 aM.zero),true)
 else
  (if(decide (0<(a0.aT.length:Int)))=true then
   gd (0<=0/\0<(a0.aT.length:Int))<|
   some ((a0.aT.getD 0 aM.zero),true)
  else
   some ({aM.zero with},false)))
instance zdh7(a0:aA):OkP (zl5 a0) 246 [ga a0] (λ r=>.tup [ga r.1,.bool r.2]):=ok1 (zl5.eq_1 a0) Tryz.f246 []
attribute [local irreducible] zl5
def zam2(j1:Unit):Option Bool:=
 some false
def zP5(a0:List aF)(a1:aF)(g1:Int):Option (Int⊕(Unit⊕Bool)):=
 (if(decide (g1<(a0.length:Int)))=true then
  gd (0<=g1/\g1<(a0.length:Int))<|
  (if(decide (a0.getD g1.toNat aF.zero=a1))=true then
   some (.inr (.inr true))
  else
   some (.inl (i64.wrap (g1+1))))
 else
  some (.inr (.inl ())))
def ze1(a0:List aF)(a1:aF):Option Bool:=
 (zc0 (zP5 a0 a1) 0).bind (λ|.inl z=>zam2 z|.inr z=>some z)
@[reducible,instance] def zdM1 a0 a1:=mkJ (ze1 a0 a1) 0 (@zam2.eq_1) λ(j1:Unit)=>⟨[],[],0⟩
@[reducible,instance] def zdM2 (a0:List aF) (a1:aF) {T:Type} (x:T):=mkL x (@zP5.eq_1 a0 a1) λ(g1:Int)=>⟨[(0,la a0),(3,.ptr 0 0 0),(5,.int .i64 g1)],[(0,bx a1)],1⟩
instance zcN3(a0:List aF)(a1:aF):OkP (ze1 a0 a1) 111 [la a0,ga a1] (λ r=>.bool r):=ok1 (ze1.eq_1 a0 a1) Tryz.f111 []
attribute [local irreducible] ze1
def zF0(a0:List Int):Bool:=
 (decide ((a0.length:Int)<=400))
instance zbj6(a0:List Int):OkT 15 [.sl (a0.map (eI .i64))] (.bool (zF0 a0)):=ok2 (λ r=>.bool r) (zF0.eq_1 a0) Tryz.f15 []
def zo2(a0 a1:Int):Option Int:=
 (if(decide (a1<1))=true then
  some 0
 else
  gd (a1≠0)<|
  (if(decide (a0.tmod a1<0))=true then
   some (i64.wrap (a0.tmod a1+a1))
  else
   some (a0.tmod a1)))
instance zdr2(a0 a1:Int):OkP (zo2 a0 a1) 121 [.int .i64 a0,.int .i64 a1] (λ r=>.int .i64 r):=ok1 (zo2.eq_1 a0 a1) Tryz.f121 []
attribute [local irreducible] zo2
def zS8(j3:Bool):ByteArray:=
 (if j3=true then
  (⟨#[69]⟩:ByteArray)
 else
  (⟨#[]⟩:ByteArray))
@[go_sem] def zdu9(j3:Bool):St:=⟨[(26,.bool j3)],[],0⟩
def zab4(a0:Int)(j2:Bool):ByteArray:=
 (if j2=true then
  (⟨#[82]⟩:ByteArray)
 else
  (if(decide (a0=7))=true then
   (⟨#[82,87,79]⟩:ByteArray)
  else
   (if(decide (a0=9))=true then
    (⟨#[82,87]⟩:ByteArray)
   else
    (if(decide (a0=10))=true then
     (⟨#[82,69,80,71,76]⟩:ByteArray)
    else
     (if(decide (a0=11))=true then
      (⟨#[82,80,68]⟩:ByteArray)
     else
      (if(decide (a0=12))=true then
       (⟨#[69,83]⟩:ByteArray)
      else
       (if(decide (a0=13))=true then
        zS8 (decide (a0=13))
       else
        (if(decide (a0=14))=true then
         zS8 (decide (a0=14))
        else
         zS8 (decide (a0=15))))))))))
@[go_sem] def zdv0(a0:Int)(j2:Bool):St:=⟨[(3,.int .i64 a0),(13,.bool j2)],[],0⟩
def zab5(a0:Int)(j1:Bool):ByteArray:=
 (if j1=true then
  (⟨#[80,71,65]⟩:ByteArray)
 else
  (if(decide (a0=3))=true then
   (⟨#[80,71,65,68]⟩:ByteArray)
  else
   (if(decide (a0=5))=true then
    (⟨#[83,73]⟩:ByteArray)
   else
    (if(decide (a0=6))=true then
     zab4 a0 (decide (a0=6))
    else
     zab4 a0 (decide (a0=8))))))
@[go_sem] def zdv1(a0:Int)(j1:Bool):St:=⟨[(3,.int .i64 a0),(6,.bool j1)],[],0⟩
def zb1(a0:Int):ByteArray:=
 (if(decide (a0=1))=true then
  (⟨#[80,71,65,89]⟩:ByteArray)
 else
  (if(decide (a0=2))=true then
   zab5 a0 (decide (a0=2))
  else
   zab5 a0 (decide (a0=4))))
theorem zbD6(a0:Int):PFn C 106 [.int .i64 a0] (.str (zb1 a0)):=by
 generalize h:zb1 a0=r;refine zW0 Tryz.f106 [] λ E hG hN hK=>?_;unfold zb1 at h;refine za0 (za1 hG ?_);refine za0 (za0 (za1 hG ?_));refine zw6 (za0 (za1 hG ?_));refine ze5 rfl hG h (λ _ h=>?_) (λ _ h=>?_)
 · refine za0 (za1 hG ?_)
   refine zm2 ?_;exact zas4 h
 refine za0 (za0 (za1 hG ?_));refine zak2 (zdv1 a0) (λ v=>zab5 a0 v=r) rfl hG h ?_ (λ _ h=>?_) (λ _ h=>?_)
 · intro j1 h
   unfold zab5 at h;refine g_st ?_;refine ze5 rfl hG h (λ _ h=>?_) (λ _ h=>?_)
   · refine za0 (za1 hG ?_)
     refine zm2 ?_;exact zas4 h
   refine za0 (za1 hG ?_);refine ze5 rfl hG h (λ _ h=>?_) (λ _ h=>?_)
   · refine za0 (za1 hG ?_)
     refine zm2 ?_;exact zas4 h
   refine za0 (za1 hG ?_);refine ze5 rfl hG h (λ _ h=>?_) (λ _ h=>?_)
   · refine za0 (za1 hG ?_)
     refine zm2 ?_;exact zas4 h
   refine za0 (za0 (za1 hG ?_));refine zak2 (zdv0 a0) (λ v=>zab4 a0 v=r) rfl hG h ?_ (λ _ h=>?_) (λ _ h=>?_)
   · intro j2 h
     unfold zab4 at h;refine g_st ?_;refine ze5 rfl hG h (λ _ h=>?_) (λ _ h=>?_)
     · refine za0 (za1 hG ?_)
       refine zm2 ?_;exact zas4 h
     refine za0 (za1 hG ?_);refine ze5 rfl hG h (λ _ h=>?_) (λ _ h=>?_)
     · refine za0 (za1 hG ?_)
       refine zm2 ?_;exact zas4 h
     refine za0 (za1 hG ?_);refine ze5 rfl hG h (λ _ h=>?_) (λ _ h=>?_)
     · refine za0 (za1 hG ?_)
       refine zm2 ?_;exact zas4 h
     refine za0 (za1 hG ?_);refine ze5 rfl hG h (λ _ h=>?_) (λ _ h=>?_)
     · refine za0 (za1 hG ?_)
       refine zm2 ?_;exact zas4 h
     refine za0 (za1 hG ?_);refine ze5 rfl hG h (λ _ h=>?_) (λ _ h=>?_)
     · refine za0 (za1 hG ?_)
       refine zm2 ?_;exact zas4 h
     refine za0 (za1 hG ?_);refine ze5 rfl hG h (λ _ h=>?_) (λ _ h=>?_)
     · refine za0 (za1 hG ?_)
       refine zm2 ?_;exact zas4 h
     refine za0 (za0 (za1 hG ?_));refine zak2 zdu9 (λ v=>zS8 v=r) rfl hG h ?_ (λ _ h=>?_) (λ _ h=>?_)
     · intro j3 h
       unfold zS8 at h;refine g_st ?_;refine ze5 rfl hG h (λ _ h=>?_) (λ _ h=>?_)
       · refine za0 (za1 hG ?_)
         refine zm2 ?_;exact zas4 h
       refine ze2 ?_;refine za0 (za1 hG ?_);refine zm2 ?_;exact zas4 h
     · refine ze2 ?_
       exact zs2 hK [] (decide (a0=13)) (by exact h)
     refine za0 (za1 hG ?_);refine ze5 rfl hG h (λ _ h=>?_) (λ _ h=>?_)
     · refine ze2 ?_
       exact zs2 hK [] (decide (a0=14)) (by exact h)
     refine za1 hG ?_;exact zs2 hK [] (decide (a0=15)) (by exact h)
   · refine ze2 ?_
     exact zs2 hK [] (decide (a0=6)) (by exact h)
   refine za1 hG ?_;exact zs2 hK [] (decide (a0=8)) (by exact h)
 · refine ze2 ?_
   exact zs2 hK [] (decide (a0=2)) (by exact h)
 refine za1 hG ?_;exact zs2 hK [] (decide (a0=4)) (by exact h)
instance zcN4(a0:Int):OkT 106 [.int .i64 a0] (.str (zb1 a0)):=⟨zbD6 a0⟩
def zad0(j1:Int×(List Int)):Option (List Int):=
 gd (j1.2.length+1<=4294967296)<|
 some (j1.2++[(u8.wrap j1.1)])
def zy7(g1:Int×(List Int)):Option ((Int×(List Int))⊕(Int×(List Int))):=
 (if(decide (128<=g1.1))=true then
  gd (g1.2.length+1<=4294967296)<|
  some (.inl ((g1.1.fdiv (2^7)),(g1.2++[(zac3 .or .u8 (u8.wrap (zac3 .and .u64 g1.1 127)) 128)])))
 else
  some (.inr (g1.1,g1.2)))
def zb3(a0:List Int)(a1:Int):Option (List Int):=
 gd (a0.length<=4294967296)<|
 (zc0 zy7 (a1,a0)).bind (λ z=>zad0 z)
@[reducible,instance] def zdM3 a0 a1:=mkJ (zb3 a0 a1) 0 (@zad0.eq_1) λ(j1:Int×(List Int))=>⟨[(1,.int .u64 j1.1),(5,.own 0 0 j1.2.length)],[(0,⟨false,1,[A.int .u8 0],j1.2.map (eI .u8)⟩)],1⟩
@[reducible,instance] def zdM4 {T:Type} (x:T):=mkL x (@zy7.eq_1) λ(g1:Int×(List Int))=>⟨[(1,.int .u64 g1.1),(5,.own 0 0 g1.2.length)],[(0,⟨false,1,[A.int .u8 0],g1.2.map (eI .u8)⟩)],1⟩
instance zbg9(a0:List Int)(a1:Int):OkM (zb3 a0 a1) 162 [.sl (a0.map (eI .u8)),.int .u64 a1] [] 0 (λ r=>.own 0 0 r.length) (λ r=>[(0,⟨false,1,[A.int .u8 0],r.map (eI .u8)⟩)]) 1:=okm (zb3.eq_1 a0 a1) (λ r=>[.own 0 0 r.length]) Tryz.f162 [(4,1),(6,1)]
attribute [local irreducible] zb3
def zj1(a0:aZ):Option ((List Int)×Int):=none
theorem zbD7(a0:aZ)(r:(List Int)×Int)(h:zj1 a0=some r):PFn C 165 [ga a0] (.tup [.sl (r.1.map (eI .u8)),.int .i64 r.2]):=nomatch (show(none:Option ((List Int)×Int))=some r from h)
instance zcN5(a0:aZ):OkP (zj1 a0) 165 [ga a0] (λ r=>.tup [.sl (r.1.map (eI .u8)),.int .i64 r.2]):=⟨zbD7 a0⟩
attribute [local irreducible] zj1
def zj0(a0:aA):Option aA:=
 gd (a0.aL.length<=4294967296)<|
 gd (a0.aH.length<=4294967296)<|
 gd (a0.aT.length<=4294967296)<|
 some a0
instance zdh8(a0:aA):OkP (zj0 a0) 110 [ga a0] (λ r=>ga r):=ok1 (zj0.eq_1 a0) Tryz.f110 [(3,1),(8,1),(13,1)]
attribute [local irreducible] zj0
def zaB3(a0:Int):Int:=
 (if(decide (a0<0)||decide (1073741824<=a0))=true then
  1
 else
  (i64.wrap (a0+1)))
instance zdh9(a0:Int):OkT 225 [.int .i64 a0] (.int .i64 (zaB3 a0)):=ok2 (λ r=>.int .i64 r) (zaB3.eq_1 a0) Tryz.f225 []
def zao9(a0:List aM)(j1:(List aM)):Option ((List aM)×Bool):=
 some (j1,decide (((j1.length:Nat):Int)<(a0.length:Int)))
def zS9(a0:List aM)(a1:aF)(g1:Int×(List aM)):Option ((Int×(List aM))⊕(List aM)):=
 (if(decide (g1.1<(a0.length:Int)))=true then
  gd (0<=g1.1/\g1.1<(a0.length:Int))<|
  (if(!decide ((a0.getD g1.1.toNat aM.zero).aI=a1))=true then
   gd (0<=g1.1/\g1.1<(a0.length:Int))<|
   gd (g1.2.length+1<=4294967296)<|
   some (.inl ((i64.wrap (g1.1+1)),(g1.2++[(a0.getD g1.1.toNat aM.zero)])))
  else
   some (.inl ((i64.wrap (g1.1+1)),g1.2)))
 else
  some (.inr g1.2))
def ze8(a0:List aM)(a1:aF):Option ((List aM)×Bool):=
 (zc0 (zS9 a0 a1) (0,[])).bind (λ z=>zao9 a0 z)
@[reducible,instance] def zdM5 (a0:List aM) a1:=mkJ (ze8 a0 a1) 0 (@zao9.eq_1 a0) λ(j1:(List aM))=>⟨[(0,la a0),(6,.own 0 0 j1.length)],[(0,sx j1)],1⟩
@[reducible,instance] def zdM6 (a0:List aM) (a1:aF) {T:Type} (x:T):=mkL x (@zS9.eq_1 a0 a1) λ(g1:Int×(List aM))=>⟨[(0,la a0),(3,.ptr 0 0 0),(6,.own 1 0 g1.2.length),(7,.int .i64 g1.1)],[(0,bx a1),(1,sx g1.2)],2⟩
instance zcT4(a0:List aM)(a1:aF):OkP (ze8 a0 a1) 170 [la a0,ga a1] (λ r=>.tup [la r.1,.bool r.2]):=ok1 (ze8.eq_1 a0 a1) Tryz.f170 [(6,1)]
attribute [local irreducible] ze8
def zaY5(j1:Unit):Option Bool:=
 some true
def zaY6(a90:(bH->Int->Option Bool))(a0:bH)(a1 g1:Int):Option (Int⊕(Unit⊕Bool)):=
 (if(decide (g1<(a0.kids.length:Int)))=true then
  gd (0<=g1/\g1<(a0.kids.length:Int))<|
  (a90 (a0.kids.getD g1.toNat bH.zero) (i64.wrap (a1-1))).bind λ v1=>
  (if(!v1)=true then
   some (.inr (.inr false))
  else
   some (.inl (i64.wrap (g1+1))))
 else
  some (.inr (.inl ())))
def zav6(a90:(bH->Int->Option Bool))(a0:bH)(a1:Int):Option Bool:=
 (if(decide (a1=0)||decide (10<(a0.kids.length:Int)))=true then
  some false
 else
  (zc0 (zaY6 a90 a0 a1) 0).bind (λ|.inl z=>zaY5 z|.inr z=>some z))
def zaR7:Nat->(bH->Int->Option Bool)
 |0=>λ _ _=>none
 |n+1=>zav6 (zaR7 n)
def zp1(a0:bH)(a1:Int):Option Bool:=zaR7 (_root_.SizeOf.sizeOf a0+1) a0 a1
@[reducible,instance] def zec0 (a90:(bH->Int->Option Bool)) (a0:bH) (a1:Int):=mkJ (zav6 a90 a0 a1) 0 (@zaY5.eq_1) λ(j1:Unit)=>⟨[],[],0⟩
@[reducible,instance] def zec1 (a90:(bH->Int->Option Bool)) (a0:bH) (a1:Int) {T:Type} (x:T):=mkL x (@zaY6.eq_1 a90 a0 a1) λ(g1:Int)=>⟨[(1,.int .i64 a1),(2,.ptr 0 0 0),(5,.int .i64 g1)],[(0,bx a0)],1⟩
abbrev zaH4(g:(bH->Int->Option Bool)):Prop:=∀(a0:bH) (a1:Int),OkP (g a0 a1) 49 [.agg (bH.enc a0),.int .i64 a1] (λ r=>.bool r)
theorem zbW5(a90:(bH->Int->Option Bool))(hrc:zaH4 a90):zaH4 (zav6 a90):=λ a0 a1=>ok1 (zav6.eq_1 a90 a0 a1) Tryz.f49 []
theorem zbW6:∀n,zaH4 (zaR7 n):=zcZ0 (λ _ _=>⟨λ _ h=>nomatch h⟩) λ n=>zbW5 _
instance zdn2:zaH4 zp1:=λ a0 a1=>zbW6 _ a0 a1
attribute [local irreducible] zp1
def zr5(a0:Int):Bool:=
 (decide (1<=a0)&&decide (a0<=5))
instance zdi0(a0:Int):OkT 248 [.int .i64 a0] (.bool (zr5 a0)):=ok2 (λ r=>.bool r) (zr5.eq_1 a0) Tryz.f248 []
def zaM5(j1:Unit):Option aC:=
 some ({aC.zero with})
def zI1(a0:List aO)(a1:aF)(g1:Int):Option (Int⊕(Unit⊕aC)):=
 (if(decide (g1<(a0.length:Int)))=true then
  gd (0<=g1/\g1<(a0.length:Int))<|
  (if(decide ((a0.getD g1.toNat aO.zero).aI=a1))=true then
   some (.inr (.inr ((a0.getD g1.toNat aO.zero).aK)))
  else
   some (.inl (i64.wrap (g1+1))))
 else
  some (.inr (.inl ())))
def zi2(a0:List aO)(a1:aF):Option aC:=
 (zc0 (zI1 a0 a1) 0).bind (λ|.inl z=>zaM5 z|.inr z=>some z)
@[reducible,instance] def zec2 a0 a1:=mkJ (zi2 a0 a1) 0 (@zaM5.eq_1) λ(j1:Unit)=>⟨[(4,.ptr 0 0 0)],[(0,bx aC.zero)],1⟩
@[reducible,instance] def zec3 (a0:List aO) (a1:aF) {T:Type} (x:T):=mkL x (@zI1.eq_1 a0 a1) λ(g1:Int)=>⟨[(3,.ptr 0 0 0),(4,.ptr 1 0 0),(7,la a0),(8,.int .i64 (a0.length:Int)),(9,.int .i64 g1)],[(0,bx a1),(1,bx aC.zero)],2⟩
instance zda5(a0:List aO)(a1:aF):OkP (zi2 a0 a1) 150 [la a0,ga a1] (λ r=>ga r):=ok1 (zi2.eq_1 a0 a1) Tryz.f150 []
attribute [local irreducible] zi2
def zk6(a0:aA):Option (aM×Bool):=
 (if(decide (0<(a0.aH.length:Int)))=true then
  gd (0<=0/\0<(a0.aH.length:Int))<|
  some ((a0.aH.getD 0 aM.zero),true)
 else
  (if(decide (0<(a0.aT.length:Int)))=true then
   gd (0<=0/\0<(a0.aT.length:Int))<|
   some ((a0.aT.getD 0 aM.zero),true)
  else
   some ({aM.zero with},false)))
instance zbW7(a0:aA):OkP (zk6 a0) 180 [ga a0] (λ r=>.tup [ga r.1,.bool r.2]):=ok1 (zk6.eq_1 a0) Tryz.f180 []
attribute [local irreducible] zk6
def zI2(a0:ByteArray):Bool:=
 (!(a0.toList==a0.toList))
instance zcx3(a0:ByteArray):OkT 133 [.str a0] (.bool (zI2 a0)):=ok2 (λ r=>.bool r) (zI2.eq_1 a0) Tryz.f133 []
def zaH5(j1:Unit):Option (Int×Bool):=
 some (0,false)
def zab6(a0:List bA)(a1:aF)(a2:ByteArray)(g1:Int):Option (Int⊕(Unit⊕(Int×Bool))):=
 (if(decide (g1<(a0.length:Int)))=true then
  gd (0<=g1/\g1<(a0.length:Int))<|
  (if(decide (a0.getD g1.toNat bA.zero=(⟨a1,a2,(a0.getD g1.toNat bA.zero).gen⟩:bA)))=true then
   some (.inr (.inr ((a0.getD g1.toNat bA.zero).gen,true)))
  else
   some (.inl (i64.wrap (g1+1))))
 else
  some (.inr (.inl ())))
def zh0(a0:List bA)(a1:aF)(a2:ByteArray):Option (Int×Bool):=
 (zc0 (zab6 a0 a1 a2) 0).bind (λ|.inl z=>zaH5 z|.inr z=>some z)
@[reducible,instance] def zdM7 a0 a1 a2:=mkJ (zh0 a0 a1 a2) 0 (@zaH5.eq_1) λ(j1:Unit)=>⟨[],[],0⟩
@[reducible,instance] def zdM8 (a0:List bA) (a1:aF) (a2:ByteArray) {T:Type} (x:T):=mkL x (@zab6.eq_1 a0 a1 a2) λ(g1:Int)=>⟨[(2,.str a2),(4,.ptr 0 0 0),(10,la a0),(11,.int .i64 (a0.length:Int)),(12,.int .i64 g1)],[(0,bx a1)],1⟩
instance zcT5(a0:List bA)(a1:aF)(a2:ByteArray):OkP (zh0 a0 a1 a2) 44 [la a0,ga a1,.str a2] (λ r=>.tup [.int .i64 r.1,.bool r.2]):=ok1 (zh0.eq_1 a0 a1 a2) Tryz.f44 []
attribute [local irreducible] zh0
def zak6(a0:Int):Bool:=
 (decide (1<=a0)&&decide (a0<=15))
instance zbv4(a0:Int):OkT 139 [.int .i64 a0] (.bool (zak6 a0)):=ok2 (λ r=>.bool r) (zak6.eq_1 a0) Tryz.f139 []
def zc2:Option (List (Int×bD)):=
 some (zbB5 66 (⟨193,(-1),99,1⟩:bD) (zbB5 73 ({bD.zero with of:=192,low:=1,high:=99}) (zbB5 83 ({bD.zero with of:=191,high:=3}) (zbB5 89 ({bD.zero with of:=190,high:=7}) (zbB5 69 ({bD.zero with of:=189,high:=1073741824}) (zbB5 82 ({bD.zero with of:=188,high:=1073741824}) (zbB5 71 ({bD.zero with of:=187,high:=1073741824}) ([]:List (Int×bD)))))))))
instance zaa2:OkM zc2 140 [] [] 0 (λ r=>.mp 0) (λ r=>[(0,⟨false,0,[A.int .u8 0,A.bool true],r.map (mI .u8 bD.enc)⟩)]) 1:=okm zc2.eq_1 (λ r=>[.mp 0]) Tryz.f140 []
attribute [local irreducible] zc2
def zH6(a0:Int)(a1:aJ)(j2:Bool):Option aJ:=
 (if j2=true then
  some ({a1 with state:={aZ.zero with}})
 else
  (if(decide (a0=79))=true then
   some ({a1 with options:=[]})
  else
   some a1))
@[go_sem] def zdv2(a0:Int)(a1:aJ)(j2:Bool):St:=⟨[(0,.ptr 0 0 0),(4,.int .u8 a0),(23,.bool j2)],[(0,bx a1)],1⟩
def zH7(a0:Int)(a1:aJ)(j1:Bool):Option aJ:=
 (if j1=true then
  some ({a1 with aY:={bF.zero with}})
 else
  (if(decide (a0=68))=true then
   some ({a1 with done:=false})
  else
   (if(decide (a0=78))=true then
    zH6 a0 a1 (decide (a0=78))
   else
    zH6 a0 a1 (decide (a0=76)))))
@[go_sem] def zdv3(a0:Int)(a1:aJ)(j1:Bool):St:=⟨[(0,.ptr 0 0 0),(4,.int .u8 a0),(11,.bool j1)],[(0,bx a1)],1⟩
def zb7(a0:Int)(a1:aJ):Option aJ:=
 (if(decide (a0=80))=true then
  some ({a1 with aI:={aF.zero with}})
 else
  (if(decide (a0=65))=true then
   zH7 a0 a1 (decide (a0=65))
  else
   zH7 a0 a1 (decide (a0=97))))
theorem zaK0(a0:Int)(a1 r:aJ)(h:zb7 a0 a1=some r):MFn C 142 [.ptr 0 0 0,.int .u8 a0] [(0,bx a1)] 1 (.tup []) [(0,bx r)] 1:=by
 refine zZ4 Tryz.f142 [] [] λ E hG hN hK=>?_;unfold zb7 at h;refine za0 (za1 hG ?_);refine zw6 (za0 (za1 hG ?_));refine ze5 rfl hG h (λ _ h=>?_) (λ _ h=>?_)
 · refine za1 hG ?_
   exact zE4 [(0,0)] h
 refine za0 (za0 (za1 hG ?_));refine zak2 (zdv3 a0 a1) (λ v=>zH7 a0 a1 v=some r) rfl hG h ?_ (λ _ h=>?_) (λ _ h=>?_)
 · intro j1 h
   unfold zH7 at h;refine g_st ?_;refine ze5 rfl hG h (λ _ h=>?_) (λ _ h=>?_)
   · refine za1 hG ?_
     exact zE4 [(0,0)] h
   refine za0 (za1 hG ?_);refine ze5 rfl hG h (λ _ h=>?_) (λ _ h=>?_)
   · refine za1 hG ?_
     exact zE4 [(0,0)] h
   refine za0 (za0 (za1 hG ?_));refine zak2 (zdv2 a0 a1) (λ v=>zH6 a0 a1 v=some r) rfl hG h ?_ (λ _ h=>?_) (λ _ h=>?_)
   · intro j2 h
     unfold zH6 at h;refine g_st ?_;refine ze5 rfl hG h (λ _ h=>?_) (λ _ h=>?_)
     · refine za1 hG ?_
       exact zE4 [(0,0)] h
     refine za0 (za1 hG ?_);refine ze5 rfl hG h (λ _ h=>?_) (λ _ h=>?_)
     · refine za1 hG ?_
       exact zE4 [(0,0)] h
     refine ze2 ?_;exact zE4 [(0,0)] h
   · refine ze2 ?_
     exact zs2 hK [(0,0)] (decide (a0=78)) (by exact h)
   refine za1 hG ?_;exact zs2 hK [(0,0)] (decide (a0=76)) (by exact h)
 · refine ze2 ?_
   exact zs2 hK [(0,0)] (decide (a0=65)) (by exact h)
 refine za1 hG ?_;exact zs2 hK [(0,0)] (decide (a0=97)) (by exact h)
attribute [local irreducible] zb7
def zK4(j1:Int×(List Int)):Option (List Int):=
 gd (j1.2.length+1<=4294967296)<|
 some (j1.2++[(u8.wrap j1.1)])
@[go_sem] def zdv4(j1:Int×(List Int)):St:=⟨[(1,.int .u64 j1.1),(5,.own 0 0 j1.2.length)],[(0,⟨false,1,[A.int .u8 0],j1.2.map (eI .u8)⟩)],1⟩
def zw4(g1:Int×(List Int)):Option ((Int×(List Int))⊕(Int×(List Int))):=
 (if(decide (127<g1.1))=true then
  gd (g1.2.length+1<=4294967296)<|
  some (.inl ((g1.1.fdiv (2^7)),(g1.2++[(zac3 .or .u8 (u8.wrap (zac3 .and .u64 g1.1 127)) 128)])))
 else
  some (.inr (g1.1,g1.2)))
@[go_sem] def zdv5(g1:Int×(List Int)):St:=⟨[(1,.int .u64 g1.1),(5,.own 0 0 g1.2.length)],[(0,⟨false,1,[A.int .u8 0],g1.2.map (eI .u8)⟩)],1⟩
def zb9(a0:List Int)(a1:Int):Option (List Int):=
 gd (0<=0/\0<=(a0.length:Int)/\(a0.length:Int)<=(a0.length:Int)/\(a0.length:Int)=(a0.length:Int))<|
 (if(decide (127<a1))=true then
  gd ((a0.take ((a0.length:Int).toNat)).length+1<=4294967296)<|
  (zc0 zw4 ((a1.fdiv (2^7)),(a0.take ((a0.length:Int).toNat)++[(zac3 .or .u8 (u8.wrap (zac3 .and .u64 a1 127)) 128)]))).bind (λ z=>zK4 z)
 else
  gd ((a0.take ((a0.length:Int).toNat)).length+1<=4294967296)<|
  some (a0.take ((a0.length:Int).toNat)++[(u8.wrap a1)]))
theorem zA7(a0:List Int)(a1:Int)(r:(List Int))(h:zb9 a0 a1=some r):MFn C 144 [.sl (a0.map (eI .u8)),.int .u64 a1] [] 0 (.own 0 0 r.length) [(0,⟨false,1,[A.int .u8 0],r.map (eI .u8)⟩)] 1:=by
 refine zZ4 Tryz.f144 [(4,1)] [.own 0 0 r.length] λ E hG hN hK=>?_;unfold zb9 at h;refine za0 (za1 hG ?_);refine za0 ?_;obtain⟨hb5,h⟩:=ze3 h;refine za1 hG ?_;refine za0 ?_;refine zcM0 zdv4 (λ v=>zK4 v=some r) ?_ ?_
 · intro j1 h
   unfold zK4 at h;refine g_st ?_;refine za0 ?_;obtain⟨hb1,h⟩:=ze3 h;refine za1 hG ?_;refine zm2 ?_;exact zE4 [(0,1)] h
 refine zdu6 (body:=zw4) (kk:=λ z=>zK4 z) (r:=r) zdv5 hK ?_ (λ x_l1 h g1 y_l1 h_l1 hx_l1=>?_)
 · refine za0 (za0 (za1 hG ?_))
   refine ze5 rfl hG h (λ _ h=>?_) (λ _ h=>?_)
   · refine ze2 ?_
     refine zw6 (za0 ?_);obtain⟨hb3,h⟩:=ze3 h;refine za1 hG ?_;refine za1 hG ?_;exact zdm3 hK [(0,1)] h
   refine zA6 ?_;refine .inr ?_;refine za0 ?_;obtain⟨hb4,h⟩:=ze3 h;refine za1 hG ?_;refine zm2 ?_;exact zE4 [(0,1)] h
 unfold zw4 at h_l1;refine g_st ?_;refine za0 (za0 (za1 hG ?_));refine ze5 rfl hG h_l1 (λ _ h_l1=>?_) (λ _ h_l1=>?_)
 · refine ze2 ?_
   refine zw6 (za0 ?_);obtain⟨hb2,h_l1⟩:=ze3 h_l1;refine za1 hG ?_;refine za1 hG ?_;exact zM4 hK [(0,1)] h_l1
 refine zA6 ?_;cases h_l1;cases hx_l1 _ rfl;refine .inl ?_;exact zs2 hK [(0,0)] (g1.1,g1.2) (by exact h)
instance zcx4(a0:List Int)(a1:Int):OkM (zb9 a0 a1) 144 [.sl (a0.map (eI .u8)),.int .u64 a1] [] 0 (λ r=>.own 0 0 r.length) (λ r=>[(0,⟨false,1,[A.int .u8 0],r.map (eI .u8)⟩)]) 1:=⟨zA7 a0 a1⟩
attribute [local irreducible] zb9
def zaV0(j1:Unit):Option Int:=
 some (-1)
def zak7(a0:List aA)(a1:ByteArray)(g1:Int):Option (Int⊕(Unit⊕Int)):=
 (if(decide (g1<(a0.length:Int)))=true then
  gd (0<=g1/\g1<(a0.length:Int))<|
  (if((((a0.getD g1.toNat aA.zero).aB).name).toList==a1.toList)=true then
   some (.inr (.inr g1))
  else
   some (.inl (i64.wrap (g1+1))))
 else
  some (.inr (.inl ())))
def zj3(a0:List aA)(a1:ByteArray):Option Int:=
 (zc0 (zak7 a0 a1) 0).bind (λ|.inl z=>zaV0 z|.inr z=>some z)
@[reducible,instance] def zdM9 a0 a1:=mkJ (zj3 a0 a1) 0 (@zaV0.eq_1) λ(j1:Unit)=>⟨[],[],0⟩
@[reducible,instance] def zdN0 (a0:List aA) (a1:ByteArray) {T:Type} (x:T):=mkL x (@zak7.eq_1 a0 a1) λ(g1:Int)=>⟨[(1,.str a1),(7,la a0),(8,.int .i64 (a0.length:Int)),(9,.int .i64 g1)],[],0⟩
instance zbW8(a0:List aA)(a1:ByteArray):OkP (zj3 a0 a1) 92 [la a0,.str a1] (λ r=>.int .i64 r):=ok1 (zj3.eq_1 a0 a1) Tryz.f92 []
attribute [local irreducible] zj3
def zg6(a0:aA):Option aA:=
 gd (a0.aL.length<=4294967296)<|
 gd (a0.aH.length<=4294967296)<|
 gd (a0.aT.length<=4294967296)<|
 some a0
theorem zbq2(a0 r:aA)(h:zg6 a0=some r):MFn C 202 [ga a0] [] 0 (.agg [.str r.aB.name,.int .i64 r.aB.kind,.int .i64 r.aB.aU,.int .i64 r.aB.home,.own 0 0 r.aL.length,.own 1 0 r.aH.length,.own 2 0 r.aT.length,.int .i64 r.gen]) [(0,sx r.aL),(1,sx r.aH),(2,sx r.aT)] 3:=by refine zZ4 Tryz.f202 [] [.agg [.str r.aB.name,.int .i64 r.aB.kind,.int .i64 r.aB.aU,.int .i64 r.aB.home,.own 0 0 r.aL.length,.own 1 0 r.aH.length,.own 2 0 r.aT.length,.int .i64 r.gen]] λ E hG hN hK=>?_;unfold zg6 at h;refine za0 (za1 hG ?_);refine za0 ?_;obtain⟨hb3,h⟩:=ze3 h;refine za1 hG ?_;refine za0 ?_;obtain⟨hb2,h⟩:=ze3 h;refine za1 hG ?_;refine za0 ?_;obtain⟨hb1,h⟩:=ze3 h;refine za1 hG ?_;refine za0 (za1 hG ?_);refine zm2 ?_;exact zE4 [(0,2),(1,3),(2,4)] h
attribute [local irreducible] zg6
def zax7(a0 a1:aM):Int:=
 (if(decide (a1.aV<a0.aV)&&decide (a1.bE<3))=true then
  1
 else
  0)
instance zdn3(a0 a1:aM):OkT 262 [.agg (aM.enc a0),.agg (aM.enc a1)] (.int .i64 (zax7 a0 a1)):=ok2 (λ r=>.int .i64 r) (zax7.eq_1 a0 a1) Tryz.f262 []
def zi3(a0:aA):Option aA:=
 gd (a0.aL.length<=4294967296)<|
 gd (a0.aH.length<=4294967296)<|
 gd (a0.aT.length<=4294967296)<|
 some a0
instance zaD9(a0:aA):OkP (zi3 a0) 202 [ga a0] (λ r=>ga r):=ok1 (zi3.eq_1 a0) Tryz.f202 []
attribute [local irreducible] zi3
def zaE0(j1:(List aS)):Option (List aS):=
 some j1
def zaE1(a0:ByteArray)(a1:List aO)(g1:Int×(List aS)):Option ((Int×(List aS))⊕(List aS)):=
 (if(decide (g1.1<(a1.length:Int)))=true then
  gd (0<=g1.1/\g1.1<(a1.length:Int))<|
  gd (g1.2.length+1<=4294967296)<|
  some (.inl ((i64.wrap (g1.1+1)),(g1.2++[(⟨1,(a1.getD g1.1.toNat aO.zero).aI,a0,(a1.getD g1.1.toNat aO.zero).aK⟩:aS)])))
 else
  some (.inr g1.2))
def zf1(a0:ByteArray)(a1:List aO)(a2:List aS):Option (List aS):=
 (zc0 (zaE1 a0 a1) (0,a2)).bind (λ z=>zaE0 z)
@[reducible,instance] def zdN1 a0 a1 a2:=mkJ (zf1 a0 a1 a2) 0 (@zaE0.eq_1) λ(j1:(List aS))=>⟨[(2,.own 1 0 j1.length)],[(1,sx j1)],2⟩
@[reducible,instance] def zdN2 (a0:ByteArray) (a1:List aO) {T:Type} (x:T):=mkL x (@zaE1.eq_1 a0 a1) λ(g1:Int×(List aS))=>⟨[(0,.str a0),(2,.own 1 0 g1.2.length),(9,la a1),(10,.int .i64 (a1.length:Int)),(11,.int .i64 g1.1)],[(1,sx g1.2)],2⟩
instance zcH3(a0:ByteArray)(a1:List aO)(a2:List aS):OkM (zf1 a0 a1 a2) 149 [.str a0,la a1,.own 0 0 a2.length] [(0,sx a2)] 1 (λ r=>.own 1 0 r.length) (λ r=>[(1,sx r)]) 2:=okm (zf1.eq_1 a0 a1 a2) (λ r=>[.own 1 0 r.length]) Tryz.f149 [(6,1)]
attribute [local irreducible] zf1
def zD7(a0:ByteArray):Bool:=
 (((((a0.toList==(⟨#[97,108,108]⟩:ByteArray).toList)||(a0.toList==(⟨#[97,110,121]⟩:ByteArray).toList))||(a0.toList==(⟨#[111,102]⟩:ByteArray).toList))||(a0.toList==(⟨#[112,114,105,111]⟩:ByteArray).toList))||(a0.toList==(⟨#[108,105,109,105,116]⟩:ByteArray).toList))
instance zcH4(a0:ByteArray):OkT 177 [.str a0] (.bool (zD7 a0)):=ok2 (λ r=>.bool r) (zD7.eq_1 a0) Tryz.f177 []
def zaV1(j1:Unit):Option Int:=
 some (-1)
def zaV2(a0:List aM)(a1:aF)(g1:Int):Option (Int⊕(Unit⊕Int)):=
 (if(decide (g1<(a0.length:Int)))=true then
  gd (0<=g1/\g1<(a0.length:Int))<|
  (if(decide ((a0.getD g1.toNat aM.zero).aI=a1))=true then
   some (.inr (.inr g1))
  else
   some (.inl (i64.wrap (g1+1))))
 else
  some (.inr (.inl ())))
def zi5(a0:List aM)(a1:aF):Option Int:=
 (zc0 (zaV2 a0 a1) 0).bind (λ|.inl z=>zaV1 z|.inr z=>some z)
@[reducible,instance] def zdN3 a0 a1:=mkJ (zi5 a0 a1) 0 (@zaV1.eq_1) λ(j1:Unit)=>⟨[],[],0⟩
@[reducible,instance] def zdN4 (a0:List aM) (a1:aF) {T:Type} (x:T):=mkL x (@zaV2.eq_1 a0 a1) λ(g1:Int)=>⟨[(0,la a0),(3,.ptr 0 0 0),(5,.int .i64 g1)],[(0,bx a1)],1⟩
instance zdi1(a0:List aM)(a1:aF):OkP (zi5 a0 a1) 72 [la a0,ga a1] (λ r=>.int .i64 r):=ok1 (zi5.eq_1 a0 a1) Tryz.f72 []
attribute [local irreducible] zi5
def zaE2(j1:(List aF)):Option (List aF):=
 some j1
def zY4(a0:List aO)(g1:Int×(List aF)):Option ((Int×(List aF))⊕(List aF)):=
 (if(decide (g1.1<(a0.length:Int)))=true then
  gd (0<=g1.1/\g1.1<(a0.length:Int))<|
  gd (g1.2.length+1<=4294967296)<|
  some (.inl ((i64.wrap (g1.1+1)),(g1.2++[(a0.getD g1.1.toNat aO.zero).aI])))
 else
  some (.inr g1.2))
def ze6(a0:List aO):Option (List aF):=
 (zc0 (zY4 a0) (0,[])).bind (λ z=>zaE2 z)
@[reducible,instance] def zdN5 a0:=mkJ (ze6 a0) 0 (@zaE2.eq_1) λ(j1:(List aF))=>⟨[(3,.own 0 0 j1.length)],[(0,sx j1)],1⟩
@[reducible,instance] def zdN6 (a0:List aO) {T:Type} (x:T):=mkL x (@zY4.eq_1 a0) λ(g1:Int×(List aF))=>⟨[(0,la a0),(3,.own 0 0 g1.2.length),(4,.int .i64 g1.1)],[(0,sx g1.2)],1⟩
instance zcH5(a0:List aO):OkM (ze6 a0) 69 [la a0] [] 0 (λ r=>.own 0 0 r.length) (λ r=>[(0,sx r)]) 1:=okm (ze6.eq_1 a0) (λ r=>[.own 0 0 r.length]) Tryz.f69 [(2,1),(3,1)]
attribute [local irreducible] ze6
def zg0(a0 a1:bI):Option Bool:=none
theorem zbq3(a0 a1:bI)(r:Bool)(h:zg0 a0 a1=some r):PFn C 173 [ga a0,ga a1] (.bool r):=nomatch (show(none:Option Bool)=some r from h)
instance zcA7(a0 a1:bI):OkP (zg0 a0 a1) 173 [ga a0,ga a1] (λ r=>.bool r):=⟨zbq3 a0 a1⟩
attribute [local irreducible] zg0
def zm7(a0 a1:bC):Option Bool:=none
theorem zbW9(a0 a1:bC)(r:Bool)(h:zm7 a0 a1=some r):PFn C 174 [ga a0,ga a1] (.bool r):=nomatch (show(none:Option Bool)=some r from h)
instance zda6(a0 a1:bC):OkP (zm7 a0 a1) 174 [ga a0,ga a1] (λ r=>.bool r):=⟨zbW9 a0 a1⟩
attribute [local irreducible] zm7
def zl0(a0:bC):Option Bool:=none
theorem zbN6(a0:bC)(r:Bool)(h:zl0 a0=some r):PFn C 161 [ga a0] (.bool r):=nomatch (show(none:Option Bool)=some r from h)
instance zcT6(a0:bC):OkP (zl0 a0) 161 [ga a0] (λ r=>.bool r):=⟨zbN6 a0⟩
attribute [local irreducible] zl0
def zaE3(j1:Int×(List Int)):Option (List Int):=
 gd (j1.2.length+1<=4294967296)<|
 some (j1.2++[(u8.wrap j1.1)])
def zaE4(g1:Int×(List Int)):Option ((Int×(List Int))⊕(Int×(List Int))):=
 (if(decide (128<=g1.1))=true then
  gd (g1.2.length+1<=4294967296)<|
  some (.inl ((g1.1.fdiv (2^7)),(g1.2++[(zac3 .or .u8 (u8.wrap (zac3 .and .u64 g1.1 127)) 128)])))
 else
  some (.inr (g1.1,g1.2)))
def zf2(a0:List Int)(a1:Int):Option (List Int):=
 gd (a0.length<=4294967296)<|
 (zc0 zaE4 (a1,a0)).bind (λ z=>zaE3 z)
@[reducible,instance] def zdN7 a0 a1:=mkJ (zf2 a0 a1) 0 (@zaE3.eq_1) λ(j1:Int×(List Int))=>⟨[(1,.int .u64 j1.1),(5,.own 0 0 j1.2.length)],[(0,⟨false,1,[A.int .u8 0],j1.2.map (eI .u8)⟩)],1⟩
@[reducible,instance] def zdN8 {T:Type} (x:T):=mkL x (@zaE4.eq_1) λ(g1:Int×(List Int))=>⟨[(1,.int .u64 g1.1),(5,.own 0 0 g1.2.length)],[(0,⟨false,1,[A.int .u8 0],g1.2.map (eI .u8)⟩)],1⟩
instance zcN6(a0:List Int)(a1:Int):OkP (zf2 a0 a1) 162 [.sl (a0.map (eI .u8)),.int .u64 a1] (λ r=>.sl (r.map (eI .u8))):=ok1 (zf2.eq_1 a0 a1) Tryz.f162 [(6,1)]
attribute [local irreducible] zf2
end
end Ab
end Go.Proofs.YtdlfhmkmnjbihaaGreatDoor
