import Derived.Test.YtdlfhmkmnjbihaaGreatDoorHm1
import Derived.Test.YtdlfhmkmnjbihaaGreatDoorHm2
import Derived.Test.YtdlfhmkmnjbihaaGreatDoorHm3
import Derived.Test.YtdlfhmkmnjbihaaGreatDoorHm6
namespace Go.Proofs.YtdlfhmkmnjbihaaGreatDoor
namespace Ab
open IntKind (i64 u64 u8)
set_option linter.unusedSimpArgs false
set_option linter.defProp false
set_option linter.unusedVariables false
set_option maxRecDepth 100000
set_option maxHeartbeats 1000000
noncomputable section
attribute [local irreducible] zl5 zj8 zl7 zd1 zg5 zi1 zf5 zm6 zl8 zk4 ze1 ze6 zn5 zd4 zo3 za2 zg8 zg6 za5 zf6 ze4 zg3 zd7 zn0 zc9 zc6 zp8 zh0 zf7 zl6 zd5 zb1 ze0 zd6 za4 zj9 ze5 zh4 zd2 zb3 zf9 zd8 za8 zc3 ze2 zb9 zb2 zk9 za6 zc8 zd3 zk3 zf8 zd9 zk6 zi5 zq5
def zl0(a0:aA)(a1:aF):Option aC:=
 (zj8 a0.aL a1).bind λ v1=>
 some v1
instance zaX4(a0:aA)(a1:aF):OkP (zl0 a0 a1) 93 [ga a0,ga a1] (λ r=>ga r):=ok1 (zl0.eq_1 a0 a1) Tryz.f93 []
attribute [local irreducible] zl0
def zag8(a0:aK)(j1:Unit):Option Bool:=
 (if(((!decide ((a0.state.aG.length:Int)=0))||(!decide ((a0.state.bA.length:Int)=0)))||(!decide ((a0.options.length:Int)=0)))=true then
  some false
 else
  some (((decide (a0.kind=0)&&decide (a0.aI={aF.zero with}))&&decide (a0.aW={aO.zero with}))&&(!a0.done)))
@[go_sem] def zdW4(a0:aK)(j1:Unit):St:=⟨[(1,.ptr 0 0 0)],[(0,bx a0)],1⟩
def zag9(a0:aK)(e0:Int×bH)(g1:Unit):Option (Unit⊕(Unit⊕Bool)):=
 (zu0 ((e0.2).of)).bind λ v2=>
 (if(!decide (zi9 a0 v2=0))=true then
  some (.inr (.inr false))
 else
  some (.inl ()))
@[go_sem] def zdW5(a0:aK)(v1:(List (Int×bH)))(s0:List Nat)(g1:Unit):St:=⟨[(1,.ptr 0 0 0),(6,.it 1)],[(0,bx a0),(1,⟨false,0,[],[.mp 2,.int .i64 (v1.length:Int)]::s0.map iE⟩),(2,⟨false,0,[A.int .u8 0,A.bool true],v1.map (mI .u8 bH.enc)⟩)],3⟩
def zk0(a0:aK):Option Bool:=
 (zc3).bind λ v1=>
 rngO v1 (0,bH.zero) (zag9 a0) (λ g1:Unit=>(.inl ())) () (λ|.inl z=>zag8 a0 z|.inr z=>some z)
theorem zbL2(a0:aK)(r:Bool)(h:zk0 a0=some r):PFn C 143 [ga a0] (.bool r):=by
 refine zW4 Tryz.f143 [(7,170),(9,170),(13,1)] λ E hG hN hK=>?_;unfold zk0 at h;refine za0 (za1 hG ?_);refine za0 (za0 (za1 hG ?_));obtain⟨v1,hv1,h⟩:=zd0 h;refine zs8 [] [(0,1)] [0] ((zaj9).ok _ hv1) rfl rfl ?_;refine zB7 (zdW4 a0) (λ v=>zag8 a0 v=some r) ?_ ?_
 · intro j1 h
   unfold zag8 at h;refine g_st ?_;refine za0 (za0 (za1 hG ?_));refine zh9 rfl hG h (λ _ h=>?_) (λ _ h=>?_)
   · refine za0 (za1 hG ?_)
     refine zm8 ?_;exact zy2 h
   refine zh7 ?_;refine za0 (za1 hG ?_);refine zm8 ?_;exact zy2 h
 refine zee1 (zdW5 a0 v1) hK [(0,0),(1,2),(2,1)] h (λ s0 g1 hP_l1=>?_);refine g_st ?_;refine za0 (za1 hG ?_);refine⟨λ ix0 hi0 hns0=>?_,λ hall0=>?_⟩
 · obtain⟨y_l1,h_l1,hP1_l1,hx_l1⟩:=zdv3 hP_l1 hi0 hns0
   unfold zag9 at h_l1
   try refine g_st ?_
   refine za0 ?_;refine zac1 rfl hG ?_;refine zh7 ?_;refine zy9 (za0 (za1 hG ?_));refine za0 (za1 hG ?_);obtain⟨v2,hv2,h_l1⟩:=zd0 h_l1;refine zs8 [(0,0)] [] [0] (zak9 _ _ _ hv2) rfl rfl ?_ (ho:=by first|exact⟨by trivial,zC6 hv2⟩|exact zC6 hv2);refine zh9 rfl hG h_l1 (λ _ h_l1=>?_) (λ _ h_l1=>?_)
   · refine za0 (za1 hG ?_)
     refine zm8 ?_;obtain rfl:=dP h_l1;have h:=hx_l1 _ rfl
     try dsimp only at h
     exact zy2 h
   refine zh7 ?_;exact zdL5 hK [(0,0),(1,1),(2,2)] h_l1 hP1_l1
 try refine g_st ?_
 refine za0 ?_;refine zaH9 rfl hG ?_;refine zE5 ?_;have h:=zdL4 hP_l1 hall0
 try dsimp only at h
 exact zv9 hK [(0,0)] () (by exact h)
attribute [local irreducible] zk0
def zaL8(j1:(List aA)):Option (List aA):=
 some j1
def zav8(a0:List aA)(g1:Int×(List aA)):Option ((Int×(List aA))⊕(List aA)):=
 (if(decide (g1.1<(a0.length:Int)))=true then
  gd (0<=g1.1/\g1.1<(a0.length:Int))<|
  (za5 ((a0.getD g1.1.toNat aA.zero).aL)).bind λ v1=>
  (za4 (({(a0.getD g1.1.toNat aA.zero)with aL:=v1}).aH)).bind λ v2=>
  (za4 (({{(a0.getD g1.1.toNat aA.zero)with aL:=v1}with aH:=v2}).aU)).bind λ v3=>
  gd (g1.2.length+1<=4294967296)<|
  some (.inl ((i64.wrap (g1.1+1)),(g1.2++[{{{(a0.getD g1.1.toNat aA.zero)with aL:=v1}with aH:=v2}with aU:=v3}])))
 else
  some (.inr g1.2))
def zn8(a0:List aA):Option (List aA):=
 (zc1 (zav8 a0) (0,[])).bind (λ z=>zaL8 z)
@[reducible,instance] def zep8 a0:=mkJ (zn8 a0) 0 (@zaL8.eq_1) λ(j1:(List aA))=>⟨[(3,.own 0 0 j1.length)],[(0,sx j1)],1⟩
@[reducible,instance] def zep9 (a0:List aA) {T:Type} (x:T):=mkL x (@zav8.eq_1 a0) λ(g1:Int×(List aA))=>⟨[(3,.own 0 0 g1.2.length),(6,la a0),(7,.int .i64 (a0.length:Int)),(8,.int .i64 g1.1)],[(0,sx g1.2)],1⟩
instance zcn8(a0:List aA):OkP (zn8 a0) 98 [la a0] (λ r=>la r):=ok1 (zn8.eq_1 a0) Tryz.f98 [(3,1)]
attribute [local irreducible] zn8
def ze9(a0:aA)(a1:aF):Option (aA×aF):=
 (zi1 a0.aU a1).bind λ v1=>
 some ({a0 with aU:=v1.1},a1)
instance zbm5(a0:aA)(a1:aF):OkM (ze9 a0 a1) 212 [.ptr 0 0 0,.ptr 1 0 0] [(0,bx a0),(1,bx a1)] 2 (λ r=>.tup []) (λ r=>[(0,bx r.1),(1,bx r.2)]) 2:=okm (ze9.eq_1 a0 a1) (λ r=>[]) Tryz.f212 []
attribute [local irreducible] ze9
def zD8(a0:Int):Bool:=
 (((zO0 a0||(decide (48<=a0)&&decide (a0<=57)))||decide (a0=95))||decide (a0=45))
instance zdH3(a0:Int):OkT 178 [.int .u8 a0] (.bool (zD8 a0)):=ok2 (λ r=>.bool r) (zD8.eq_1 a0) Tryz.f178 []
def zL8(a0 a1:Int):Bool:=
 (if((((!(zy3 a0))||(!(zy3 a1)))||decide (a0=5))||decide (a1=5))=true then
  false
 else
  ((decide (a0=1)||decide (a1=1))||(decide (a0=a1)&&(!decide (a0=4)))))
instance zcQ6(a0 a1:Int):OkT 282 [.int .i64 a0,.int .i64 a1] (.bool (zL8 a0 a1)):=ok2 (λ r=>.bool r) (zL8.eq_1 a0 a1) Tryz.f282 []
def zi6(a0:aA)(a1:aF):Option (aC×Bool):=
 (zk3 a0.aH a1).bind λ v1=>
 (if(decide (0<=v1))=true then
  gd (0<=v1/\v1<(a0.aH.length:Int))<|
  some ((a0.aH.getD v1.toNat aM.zero).aJ,true)
 else
  (zk3 a0.aU a1).bind λ v2=>
  (if(decide (0<=v2))=true then
   gd (0<=v2/\v2<(a0.aU.length:Int))<|
   some ((a0.aU.getD v2.toNat aM.zero).aJ,true)
  else
   some ({aC.zero with},false)))
instance zbT6(a0:aA)(a1:aF):OkP (zi6 a0 a1) 27 [ga a0,ga a1] (λ r=>.tup [ga r.1,.bool r.2]):=ok1 (zi6.eq_1 a0 a1) Tryz.f27 []
attribute [local irreducible] zi6
def zp3(a0 a1:bB):Option Bool:=
 ((if((decide (a0.aI=a1.aI)&&decide (a0.label=a1.label))&&decide (a0.cost=a1.cost))=true then zd7 a0.lower a1.lower else some false)).bind λ v1=>
 some (((decide (a0.aI=a1.aI)&&decide (a0.label=a1.label))&&decide (a0.cost=a1.cost))&&v1)
instance zdH4(a0 a1:bB):OkP (zp3 a0 a1) 174 [ga a0,ga a1] (λ r=>.bool r):=ok1 (zp3.eq_1 a0 a1) Tryz.f174 []
attribute [local irreducible] zp3
def zj5(a0:List Int)(a1:Int):Option (List Int):=
 (zc9 a0 (u64.wrap a1)).bind λ v1=>
 some v1
instance zdM6(a0:List Int)(a1:Int):OkP (zj5 a0 a1) 220 [.sl (a0.map (eI .u8)),.int .i64 a1] (λ r=>.sl (r.map (eI .u8))):=ok1 (zj5.eq_1 a0 a1) Tryz.f220 [(8,1)]
attribute [local irreducible] zj5
def zj0(a0:List Int)(a1:ByteArray):Option (List Int):=
 (zb3 a0 (u64.wrap (a1.size:Int))).bind λ v1=>
 gd (v1.length+a1.toList.length<=4294967296)<|
 some (v1++(a1.toList.map λ b=>(b.toNat:Int)))
instance zdi9(a0:List Int)(a1:ByteArray):OkP (zj0 a0 a1) 164 [.sl (a0.map (eI .u8)),.str a1] (λ r=>.sl (r.map (eI .u8))):=ok1 (zj0.eq_1 a0 a1) Tryz.f164 []
attribute [local irreducible] zj0
def zh2(a0:List Int)(a1:aF):Option (List Int):=
 (if(!(zl9 a1))=true then
  gd (a0.length<=4294967296)<|
  some a0
 else
  (zc9 a0 (u64.wrap a1.site)).bind λ v1=>
  (zc9 v1 (u64.wrap a1.inc)).bind λ v2=>
  (zc9 v2 (u64.wrap a1.num)).bind λ v3=>
  some v3)
instance zdj0(a0:List Int)(a1:aF):OkP (zh2 a0 a1) 163 [.sl (a0.map (eI .u8)),ga a1] (λ r=>.sl (r.map (eI .u8))):=ok1 (zh2.eq_1 a0 a1) Tryz.f163 [(8,1),(15,1),(19,1),(23,1)]
attribute [local irreducible] zh2
def zaU6(j1:(List bD)):Option (List bD):=
 some j1
def zal3(a0:bC)(a1:List aY)(a2:aF)(g1:Int×(List bD)):Option ((Int×(List bD))⊕(List bD)):=
 (if(decide (g1.1<(a1.length:Int)))=true then
  gd (0<=g1.1/\g1.1<(a1.length:Int))<|
  (if(decide ((a1.getD g1.1.toNat aY.zero).kind=1)&&(!decide ((a1.getD g1.1.toNat aY.zero).aI=a2)))=true then
   (zn5 a0 ((a1.getD g1.1.toNat aY.zero).aI) ((a1.getD g1.1.toNat aY.zero).name)).bind λ v1=>
   gd (g1.2.length+1<=4294967296)<|
   some (.inl ((i64.wrap (g1.1+1)),(g1.2++[(⟨((a1.getD g1.1.toNat aY.zero).aI).site,{aK.zero with kind:=4,aI:=(a1.getD g1.1.toNat aY.zero).aI,gen:=v1,aW:=(⟨(a1.getD g1.1.toNat aY.zero).name,(a1.getD g1.1.toNat aY.zero).aJ⟩:aO)}⟩:bD)])))
  else
   some (.inl ((i64.wrap (g1.1+1)),g1.2)))
 else
  some (.inr g1.2))
def zi7(a0:bC)(a1:List aY)(a2:aF):Option (List bD):=
 (zc1 (zal3 a0 a1 a2) (0,[])).bind (λ z=>zaU6 z)
@[reducible,instance] def zeq0 a0 a1 a2:=mkJ (zi7 a0 a1 a2) 0 (@zaU6.eq_1) λ(j1:(List bD))=>⟨[(7,.own 0 0 j1.length)],[(0,sx j1)],1⟩
@[reducible,instance] def zeq1 (a0:bC) (a1:List aY) (a2:aF) {T:Type} (x:T):=mkL x (@zal3.eq_1 a0 a1 a2) λ(g1:Int×(List bD))=>⟨[(3,.ptr 0 0 0),(5,.ptr 1 0 0),(7,.own 2 0 g1.2.length),(10,la a1),(11,.int .i64 (a1.length:Int)),(12,.int .i64 g1.1)],[(0,bx a0),(1,bx a2),(2,sx g1.2)],3⟩
instance zdq0(a0:bC)(a1:List aY)(a2:aF):OkP (zi7 a0 a1 a2) 59 [ga a0,la a1,ga a2] (λ r=>la r):=ok1 (zi7.eq_1 a0 a1 a2) Tryz.f59 [(7,1)]
attribute [local irreducible] zi7
def zaL9(j2:Unit):Option Bool:=
 some true
def zai1(a0:aS)(g1:Int):Option (Int⊕(Unit⊕Bool)):=
 (if(decide (g1<(a0.bA.length:Int)))=true then
  gd (0<=g1/\g1<(a0.bA.length:Int))<|
  (zo3 ((a0.bA.getD g1.toNat bI.zero).bK) 5).bind λ v1=>
  (if(!v1)=true then
   some (.inr (.inr false))
  else
   some (.inl (i64.wrap (g1+1))))
 else
  some (.inr (.inl ())))
def zai2(a0:aS)(j1:Unit):Option Bool:=
 (zc1 (zai1 a0) 0).bind (λ|.inl z=>zaL9 z|.inr z=>some z)
def zW9(a0:aS)(g2:Int):Option (Int⊕(Unit⊕Bool)):=
 (if(decide (g2<(a0.aG.length:Int)))=true then
  gd (0<=g2/\g2<(a0.aG.length:Int))<|
  gd ((!(decide (10<(((a0.aG.getD g2.toNat aA.zero).aL).length:Int))))=true->0<=g2/\g2<(a0.aG.length:Int))<|
  gd ((!(decide (10<(((a0.aG.getD g2.toNat aA.zero).aL).length:Int))||decide (10<(((a0.aG.getD g2.toNat aA.zero).aH).length:Int))))=true->0<=g2/\g2<(a0.aG.length:Int))<|
  (if((decide (10<(((a0.aG.getD g2.toNat aA.zero).aL).length:Int))||decide (10<(((a0.aG.getD g2.toNat aA.zero).aH).length:Int)))||decide (10<(((a0.aG.getD g2.toNat aA.zero).aU).length:Int)))=true then
   some (.inr (.inr false))
  else
   some (.inl (i64.wrap (g2+1))))
 else
  some (.inr (.inl ())))
def zm7(a0:aS):Option Bool:=
 (if(decide (10<(a0.aG.length:Int))||decide (10<(a0.bA.length:Int)))=true then
  some false
 else
  (zc1 (zW9 a0) 0).bind (λ|.inl z=>zai2 a0 z|.inr z=>some z))
@[reducible,instance] def zeH9 a0 j1:=mkJ (zai2 a0 j1) 2 (@zaL9.eq_1) λ(j2:Unit)=>⟨[],[],0⟩
@[reducible,instance] def zeI0 (a0:aS) {T:Type} (x:T):=mkL x (@zai1.eq_1 a0) λ(g1:Int)=>⟨[(1,.ptr 0 0 0),(4,.int .i64 g1)],[(0,bx a0)],1⟩
@[reducible,instance] def zeI1 (a0:aS):=mkJ (zm7 a0) 0 (@zai2.eq_1 a0) λ(j1:Unit)=>⟨[(1,.ptr 0 0 0)],[(0,bx a0)],1⟩
@[reducible,instance] def zeI2 (a0:aS) {T:Type} (x:T):=mkL x (@zW9.eq_1 a0) λ(g2:Int)=>⟨[(1,.ptr 0 0 0),(3,.int .i64 g2)],[(0,bx a0)],1⟩
instance zdH5(a0:aS):OkP (zm7 a0) 16 [ga a0] (λ r=>.bool r):=ok1 (zm7.eq_1 a0) Tryz.f16 []
attribute [local irreducible] zm7
def zaA9(j1:Unit):Option Bool:=
 some true
def zD9(a0:ByteArray)(g1:Int):Option (Int⊕(Unit⊕Bool)):=
 (if(decide (g1<(a0.size:Int)))=true then
  gd (0<=g1/\g1<(a0.size:Int))<|
  (if((!(decide (97<=((a0.toList.getD g1.toNat 0).toNat:Int))&&decide (((a0.toList.getD g1.toNat 0).toNat:Int)<=122)))&&(decide (g1=0)||(!(((decide (48<=((a0.toList.getD g1.toNat 0).toNat:Int))&&decide (((a0.toList.getD g1.toNat 0).toNat:Int)<=57))||decide (((a0.toList.getD g1.toNat 0).toNat:Int)=95))||decide (((a0.toList.getD g1.toNat 0).toNat:Int)=45)))))=true then
   some (.inr (.inr false))
  else
   some (.inl (i64.wrap (g1+1))))
 else
  some (.inr (.inl ())))
def zc5(a0:ByteArray):Option Bool:=
 (if((decide ((a0.size:Int)<1)||decide (12<(a0.size:Int)))||zL5 a0)=true then
  some false
 else
  (zc1 (zD9 a0) 0).bind (λ|.inl z=>zaA9 z|.inr z=>some z))
@[reducible,instance] def zeI3 a0:=mkJ (zc5 a0) 0 (@zaA9.eq_1) λ(j1:Unit)=>⟨[],[],0⟩
@[reducible,instance] def zeI4 (a0:ByteArray) {T:Type} (x:T):=mkL x (@zD9.eq_1 a0) λ(g1:Int)=>⟨[(0,.str a0),(20,.int .i64 (a0.size:Int)),(21,.int .i64 g1)],[],0⟩
instance zcH8(a0:ByteArray):OkP (zc5 a0) 126 [.str a0] (λ r=>.bool r):=ok1 (zc5.eq_1 a0) Tryz.f126 []
attribute [local irreducible] zc5
def zg1(a0 a1:Int):Option Bool:=
 gd ((zv2 a0&&zv2 a1)=true->0<=i64.wrap (a0-1)/\i64.wrap (a0-1)<5)<|
 gd ((zv2 a0&&zv2 a1)=true->0<=i64.wrap (a1-1)/\i64.wrap (a1-1)<5)<|
 some ((zv2 a0&&zv2 a1)&&Arr.get (Arr.get zcy1 ((i64.wrap (a0-1)).toNat) (Arr.rep 5 false)) ((i64.wrap (a1-1)).toNat) false)
instance zbz7(a0 a1:Int):OkP (zg1 a0 a1) 280 [.int .i64 a0,.int .i64 a1] (λ r=>.bool r):=ok1 (zg1.eq_1 a0 a1) Tryz.f280 []
attribute [local irreducible] zg1
def zO1(a0 a1:ByteArray):Int:=
 (if(zL6 a0)=true then
  (if(zL6 a1)=true then
   0
  else
   (-1))
 else
  (if(zL6 a1)=true then
   1
  else
   (if(Op.bytesLess a0.toList a1.toList)=true then
    (-1)
   else
    (if(!(Op.bytesLess a0.toList a1.toList||a0.toList==a1.toList))=true then
     1
    else
     0))))
instance zcC7(a0 a1:ByteArray):OkT 83 [.str a0,.str a1] (.int .i64 (zO1 a0 a1)):=ok2 (λ r=>.int .i64 r) (zO1.eq_1 a0 a1) Tryz.f83 []
def zk1(a0:aZ):Option Int:=
 (zd1 a0 1 0).bind λ v1=>
 some v1.1
instance zbL3(a0:aZ):OkP (zk1 a0) 275 [ga a0] (λ r=>.int .i64 r):=ok1 (zk1.eq_1 a0) Tryz.f275 []
attribute [local irreducible] zk1
def zj1(a0:List Int)(a1:ByteArray):Option (List Int):=
 (zb2 a0 (u64.wrap (a1.size:Int))).bind λ v1=>
 gd (v1.length+a1.toList.length<=4294967296)<|
 some (v1++(a1.toList.map λ b=>(b.toNat:Int)))
instance zdj1(a0:List Int)(a1:ByteArray):OkP (zj1 a0 a1) 198 [.sl (a0.map (eI .u8)),.str a1] (λ r=>.sl (r.map (eI .u8))):=ok1 (zj1.eq_1 a0 a1) Tryz.f198 []
attribute [local irreducible] zj1
def za7(a0:List aF)(a1:aF):Option Bool:=
 (za6 a0 a1).bind λ v1=>
 some (decide (0<=v1))
instance zbu7(a0:List aF)(a1:aF):OkP (za7 a0 a1) 156 [la a0,ga a1] (λ r=>.bool r):=ok1 (za7.eq_1 a0 a1) Tryz.f156 []
attribute [local irreducible] za7
def zaK5(j1:Bool×bF×(List bF)):Option ((List bF)×Bool×bF):=
 some (j1.2.2,j1.1,j1.2.1)
def zO2(a0:List bF)(g1:Int×Bool×bF×(List bF)):Option ((Int×Bool×bF×(List bF))⊕(Bool×bF×(List bF))):=
 (if(decide (g1.1<(a0.length:Int)))=true then
  gd (0<=g1.1/\g1.1<(a0.length:Int))<|
  (zc8 (a0.getD g1.1.toNat bF.zero) g1.2.1 g1.2.2.1).bind λ v1=>
  (if(!v1.1)=true then
   gd (g1.2.2.2.length+1<=4294967296)<|
   some (.inl ((i64.wrap (g1.1+1)),v1.2.1,v1.2.2,(g1.2.2.2++[(a0.getD g1.1.toNat bF.zero)])))
  else
   some (.inl ((i64.wrap (g1.1+1)),v1.2.1,v1.2.2,g1.2.2.2)))
 else
  some (.inr (g1.2.1,g1.2.2.1,g1.2.2.2)))
def ze3(a0:List bF)(a1:Bool)(a2:bF):Option ((List bF)×Bool×bF):=
 (zc1 (zO2 a0) (0,a1,a2,[])).bind (λ z=>zaK5 z)
@[reducible,instance] def zeq2 (a0:List bF) (a1:Bool) (a2:bF):=mkJ (ze3 a0 a1 a2) 0 (@zaK5.eq_1) λ(j1:Bool×bF×(List bF))=>⟨[(5,.own 2 0 j1.2.2.length)],[(0,⟨false,1,[A.bool false],[[A.bool j1.1]]⟩),(1,bx j1.2.1),(2,sx j1.2.2)],3⟩
@[reducible,instance] def zeq3 (a0:List bF) {T:Type} (x:T):=mkL x (@zO2.eq_1 a0) λ(g1:Int×Bool×bF×(List bF))=>⟨[(1,.clo 103 [.ptr 0 0 0,.ptr 1 0 0]),(5,.own 2 0 g1.2.2.2.length),(8,la a0),(9,.int .i64 (a0.length:Int)),(10,.int .i64 g1.1)],[(0,⟨false,1,[A.bool false],[[A.bool g1.2.1]]⟩),(1,bx g1.2.2.1),(2,sx g1.2.2.2)],3⟩
instance zbu8(a0:List bF)(a1:Bool)(a2:bF):OkM (ze3 a0 a1 a2) 102 [la a0,.clo 103 [.ptr 0 0 0,.ptr 1 0 0]] [(0,⟨false,1,[A.bool false],[[A.bool a1]]⟩),(1,bx a2)] 2 (λ r=>la r.1) (λ r=>[(0,⟨false,1,[A.bool false],[[A.bool r.2.1]]⟩),(1,bx r.2.2)]) 2:=⟨λ r h=>by
 refine zU4 Tryz.f102 [(5,1),(16,1)] [la r.1] λ E hG hN hK=>?_;have hm:Mk (ze3 a0 a1 a2):=trivial;unfold ze3 at h;refine za0 (za1 hG ?_);refine za0 (za1 hG ?_);refine za0 (za0 (za1 hG ?_));refine zaJ2 hm h (λ j1 hm h=>?_) ?_
 · try refine g_st ?_
   refine za0 (za1 hG ?_);refine g_gh (.fz [2]) ?_;exact gogo
 exact gogo⟩
attribute [local irreducible] ze3
def zf0(a0:aA)(a1:aF):Option (aA×aF):=
 (zi1 a0.aH a1).bind λ v1=>
 some ({a0 with aH:=v1.1},a1)
instance zbm6(a0:aA)(a1:aF):OkM (zf0 a0 a1) 264 [.ptr 0 0 0,.ptr 1 0 0] [(0,bx a0),(1,bx a1)] 2 (λ r=>.tup []) (λ r=>[(0,bx r.1),(1,bx r.2)]) 2:=okm (zf0.eq_1 a0 a1) (λ r=>[]) Tryz.f264 []
attribute [local irreducible] zf0
def zV0(a0 a1:Int):Bool:=
 (if((!(zy3 a0))||(!(zy3 a1)))=true then
  false
 else
  (((decide (a0=a1)||decide (a0=5))||decide (a1=1))||(decide (a0=4)&&(!decide (a1=5)))))
instance zdq1(a0 a1:Int):OkT 74 [.int .i64 a0,.int .i64 a1] (.bool (zV0 a0 a1)):=ok2 (λ r=>.bool r) (zV0.eq_1 a0 a1) Tryz.f74 []
def zo7(a0 a1:aA):Option Bool:=
 ((if(decide (a0.aB=a1.aB)&&decide (a0.gen=a1.gen))=true then zd9 a0.aL a1.aL else some false)).bind λ v1=>
 ((if((decide (a0.aB=a1.aB)&&decide (a0.gen=a1.gen))&&v1)=true then zd2 a0.aH a1.aH else some false)).bind λ v2=>
 ((if(((decide (a0.aB=a1.aB)&&decide (a0.gen=a1.gen))&&v1)&&v2)=true then zd2 a0.aU a1.aU else some false)).bind λ v3=>
 some ((((decide (a0.aB=a1.aB)&&decide (a0.gen=a1.gen))&&v1)&&v2)&&v3)
instance zdH6(a0 a1:aA):OkP (zo7 a0 a1) 78 [ga a0,ga a1] (λ r=>.bool r):=ok1 (zo7.eq_1 a0 a1) Tryz.f78 []
attribute [local irreducible] zo7
def zm3(a0:aZ):Option Int:=
 (zn0 a0 1).bind λ v1=>
 (if(decide (24<v1.1))=true then
  some 0
 else
  some v1.1)
instance zcc9(a0:aZ):OkP (zm3 a0) 278 [ga a0] (λ r=>.int .i64 r):=ok1 (zm3.eq_1 a0) Tryz.f278 []
attribute [local irreducible] zm3
attribute [local irreducible] zc4 za9 ze7 zi3 zg0 zn1 zb7 zq4 zl4 zf1 zb6 zl1 ze8 zk7 zn7 zf2
def zo8(a0:bC):Option Bool:=
 (zm7 ({aS.zero with aG:=a0.aG})).bind λ v1=>
 some (v1&&decide ((a0.tags.length:Int)<=80))
instance zdx3(a0:bC):OkP (zo8 a0) 8 [ga a0] (λ r=>.bool r):=⟨λ r h=>by
 refine zW4 Tryz.f8 [] λ E hG hN hK=>?_;have hm:Mk (zo8 a0):=trivial;unfold zo8 at h;exact gogo⟩
attribute [local irreducible] zo8
def zaq6(a1:aF)(a2:aC)(j1:Int×(List aT)):Option (List aT):=
 (if(zk5 a2)=true then
  some j1.2
 else
  (if(decide (j1.1<0))=true then
   gd (j1.2.length+1<=4294967296)<|
   gd (0<=i64.wrap (((j1.2.length:Nat):Int)+1)/\i64.wrap (((j1.2.length:Nat):Int)+1)<=((j1.2.length+1:Nat):Int)/\((j1.2.length+1:Nat):Int)<=((j1.2.length+1:Nat):Int))<|
   gd (0<=((j1.2.length:Nat):Int)/\((j1.2.length:Nat):Int)<=((j1.2.length+1:Nat):Int)/\((j1.2.length+1:Nat):Int)<=((j1.2.length+1:Nat):Int))<|
   gd (0<=((j1.2.length:Nat):Int)/\((j1.2.length:Nat):Int)<((j1.2.length+1:Nat):Int))<|
   some (((j1.2++[{aT.zero with}]).take (i64.wrap (((j1.2.length:Nat):Int)+1)).toNat++(((j1.2++[{aT.zero with}]).drop (((j1.2.length:Nat):Int).toNat)).take (j1.2.length+1-((j1.2.length:Nat):Int).toNat)).take (j1.2.length+1-(i64.wrap (((j1.2.length:Nat):Int)+1)).toNat)++(j1.2++[{aT.zero with}]).drop ((i64.wrap (((j1.2.length:Nat):Int)+1)).toNat+min (((j1.2++[{aT.zero with}]).drop (((j1.2.length:Nat):Int).toNat)).take (j1.2.length+1-((j1.2.length:Nat):Int).toNat)).length (j1.2.length+1-(i64.wrap (((j1.2.length:Nat):Int)+1)).toNat))).set (((j1.2.length:Nat):Int).toNat) (⟨a1,a2⟩:aT))
  else
   gd (j1.2.length+1<=4294967296)<|
   gd (0<=i64.wrap (j1.1+1)/\i64.wrap (j1.1+1)<=((j1.2.length+1:Nat):Int)/\((j1.2.length+1:Nat):Int)<=((j1.2.length+1:Nat):Int))<|
   gd (0<=j1.1/\j1.1<=((j1.2.length+1:Nat):Int)/\((j1.2.length+1:Nat):Int)<=((j1.2.length+1:Nat):Int))<|
   gd (0<=j1.1/\j1.1<((j1.2.length+1:Nat):Int))<|
   some (((j1.2++[{aT.zero with}]).take (i64.wrap (j1.1+1)).toNat++(((j1.2++[{aT.zero with}]).drop j1.1.toNat).take (j1.2.length+1-j1.1.toNat)).take (j1.2.length+1-(i64.wrap (j1.1+1)).toNat)++(j1.2++[{aT.zero with}]).drop ((i64.wrap (j1.1+1)).toNat+min (((j1.2++[{aT.zero with}]).drop j1.1.toNat).take (j1.2.length+1-j1.1.toNat)).length (j1.2.length+1-(i64.wrap (j1.1+1)).toNat))).set j1.1.toNat (⟨a1,a2⟩:aT))))
@[go_sem] def zdW6(a1:aF)(a2:aC)(j1:Int×(List aT)):St:=⟨[(4,.ptr 0 0 0),(5,.ptr 1 0 0),(7,.own 2 0 j1.2.length),(8,.int .i64 j1.1)],[(0,bx a1),(1,bx a2),(2,sx j1.2)],3⟩
def zT4(a0:List aT)(a1:aF)(g1:Int×Int×(List aT)):Option ((Int×Int×(List aT))⊕(Int×(List aT))):=
 (if(decide (g1.2.1<(a0.length:Int)))=true then
  gd (0<=g1.2.1/\g1.2.1<(a0.length:Int))<|
  (if(decide ((a0.getD g1.2.1.toNat aT.zero).aI=a1))=true then
   some (.inl (g1.1,i64.wrap (g1.2.1+1),g1.2.2))
  else
   ((if(decide (g1.1<0))=true then zc4 ((a0.getD g1.2.1.toNat aT.zero).aI) a1 else some 0)).bind λ v1=>
   (if(decide (g1.1<0)&&decide (0<v1))=true then
    gd (g1.2.2.length+1<=4294967296)<|
    some (.inl (((g1.2.2.length:Nat):Int),i64.wrap (g1.2.1+1),(g1.2.2++[(a0.getD g1.2.1.toNat aT.zero)])))
   else
    gd (g1.2.2.length+1<=4294967296)<|
    some (.inl (g1.1,i64.wrap (g1.2.1+1),(g1.2.2++[(a0.getD g1.2.1.toNat aT.zero)])))))
 else
  some (.inr (g1.1,g1.2.2)))
@[go_sem] def zdW7(a0:List aT)(a1:aF)(a2:aC)(g1:Int×Int×(List aT)):St:=⟨[(4,.ptr 0 0 0),(5,.ptr 1 0 0),(7,.own 2 0 g1.2.2.length),(8,.int .i64 g1.1),(15,la a0),(16,.int .i64 (a0.length:Int)),(17,.int .i64 g1.2.1)],[(0,bx a1),(1,bx a2),(2,sx g1.2.2)],3⟩
def zm4(a0:List aT)(a1:aF)(a2:aC):Option (List aT):=
 gd (0<=0/\0<=i64.wrap ((a0.length:Int)+1)/\i64.wrap ((a0.length:Int)+1)<=4294967296)<|
 (zc1 (zT4 a0 a1) ((-1),0,List.replicate 0 aT.zero)).bind (λ z=>zaq6 a1 a2 z)
theorem zbm7(a0:List aT)(a1:aF)(a2:aC)(r:(List aT))(h:zm4 a0 a1 a2=some r):PFn C 215 [la a0,ga a1,ga a2] (la r):=by
 refine zW4 Tryz.f215 [] λ E hG hN hK=>?_;unfold zm4 at h;refine za0 (za1 hG ?_);refine za0 ?_;obtain⟨hb12,h⟩:=zg4 h;refine za1 hG ?_;refine za0 (za1 hG ?_);refine za0 (za0 (za1 hG ?_));refine zB7 (zdW6 a1 a2) (λ v=>zaq6 a1 a2 v=some r) ?_ ?_
 · intro j1 h
   unfold zaq6 at h;refine g_st ?_;refine za0 (za0 (za1 hG ?_));refine zr3 (λ hg=>(zaQ1 a2).ok) ?_;refine zh9 rfl hG h (λ _ h=>?_) (λ _ h=>?_)
   · refine za0 (za1 hG ?_)
     refine zm8 ?_;exact zy2 h
   refine zh7 ?_;refine za0 (za0 (za1 hG ?_));refine zh9 rfl hG h (λ _ h=>?_) (λ _ h=>?_)
   · refine za1 hG ?_
     refine za0 ?_;obtain⟨hb4,h⟩:=zg4 h;refine za1 hG ?_;refine za0 ?_;obtain⟨hb2,h⟩:=zg4 h;obtain⟨hb3,h⟩:=zg4 h;refine zaE3 zK6 hG ?_;refine za0 ?_;obtain⟨hb1,h⟩:=zg4 h;refine za1 hG ?_;refine za0 (za1 hG ?_);refine zm8 ?_;exact zy2 h
   refine zh7 ?_;refine za0 ?_;obtain⟨hb8,h⟩:=zg4 h;refine za1 hG ?_;refine za0 ?_;obtain⟨hb6,h⟩:=zg4 h;obtain⟨hb7,h⟩:=zg4 h;refine zaE3 zK6 hG ?_;refine za0 ?_;obtain⟨hb5,h⟩:=zg4 h;refine za1 hG ?_;refine za0 (za1 hG ?_);refine zm8 ?_;exact zy2 h
 refine zat4 (zdW7 a0 a1 a2) hK [(0,0),(1,1),(2,2)] h (λ x_l1 h g1 y_l1 h_l1 hx_l1=>?_);unfold zT4 at h_l1;refine g_st ?_;refine za0 (za1 hG ?_);refine za0 ?_;refine zh9 rfl hG h_l1 (λ _ h_l1=>?_) (λ _ h_l1=>?_)
 · refine zh7 ?_
   refine za0 (zy9 (za0 ?_));obtain⟨hb11,h_l1⟩:=zg4 h_l1;refine za1 hG ?_;refine za0 (za0 (za1 hG ?_));refine zh9 rfl hG h_l1 (λ _ h_l1=>?_) (λ _ h_l1=>?_)
   · refine zE5 ?_
     refine za1 hG ?_;exact zU3 hK [(0,0),(1,1),(2,2)] h_l1
   refine zh7 ?_;refine za0 (za0 (za1 hG ?_));obtain⟨v1,hv1,h_l1⟩:=zd0 h_l1;refine zr3 (λ hg=>(zaK4 ((a0.getD g1.2.1.toNat aT.zero).aI) a1).ok _ (zbw6 hg hv1)) ?_;refine zh9 rfl hG h_l1 (λ _ h_l1=>?_) (λ _ h_l1=>?_)
   · refine za1 hG ?_
     obtain⟨hb9,h_l1⟩:=zg4 h_l1;refine za1 hG ?_;refine za1 hG ?_;exact zU3 hK [(0,0),(1,1),(2,4)] h_l1
   refine zh7 ?_;obtain⟨hb10,h_l1⟩:=zg4 h_l1;refine za1 hG ?_;refine za1 hG ?_;exact zU3 hK [(0,0),(1,1),(2,4)] h_l1
 refine zE5 ?_;cases h_l1;cases hx_l1 _ rfl;exact zv9 hK [(0,0),(1,1),(2,2)] (g1.1,g1.2.2) (by exact h)
instance zdq2(a0:List aT)(a1:aF)(a2:aC):OkP (zm4 a0 a1 a2) 215 [la a0,ga a1,ga a2] (λ r=>la r):=⟨zbm7 a0 a1 a2⟩
attribute [local irreducible] zm4
def zo9(a0:aA):Option (List aM):=
 (za9 [a0.aH,a0.aU]).bind λ v1=>
 some v1
instance zdx4(a0:aA):OkP (zo9 a0) 136 [ga a0] (λ r=>la r):=ok1 (zo9.eq_1 a0) Tryz.f136 []
attribute [local irreducible] zo9
def zaM6(j1:Unit):Option Bool:=
 some true
def zac4(a0:bB)(g1:Int):Option (Int⊕(Unit⊕Bool)):=
 (if(decide (g1<(a0.lower.length:Int)))=true then
  gd (0<=g1/\g1<(a0.lower.length:Int))<|
  (zc5 ((a0.lower.getD g1.toNat aO.zero).name)).bind λ v1=>
  gd ((v1&&decide (0<g1))=true->0<=i64.wrap (g1-1)/\i64.wrap (g1-1)<(a0.lower.length:Int))<|
  (if((!v1)||(decide (0<g1)&&(!Op.bytesLess ((a0.lower.getD ((i64.wrap (g1-1)).toNat) aO.zero).name).toList ((a0.lower.getD g1.toNat aO.zero).name).toList)))=true then
   some (.inr (.inr false))
  else
   (if((!decide ((a0.lower.getD g1.toNat aO.zero).aJ={aC.zero with}))&&(!(zab3 ((a0.lower.getD g1.toNat aO.zero).aJ))))=true then
    some (.inr (.inr false))
   else
    some (.inl (i64.wrap (g1+1)))))
 else
  some (.inr (.inl ())))
def zj6(a0:bB):Option Bool:=
 (if((!(za3 a0.aI))||((!decide (a0.label=(-1)))&&(decide (a0.label<1)||decide (99<a0.label))))=true then
  some false
 else
  (if((decide (a0.cost<1)||decide (1073741824<a0.cost))||decide (8<(a0.lower.length:Int)))=true then
   some false
  else
   (zc1 (zac4 a0) 0).bind (λ|.inl z=>zaM6 z|.inr z=>some z)))
@[reducible,instance] def zeq4 a0:=mkJ (zj6 a0) 0 (@zaM6.eq_1) λ(j1:Unit)=>⟨[],[],0⟩
@[reducible,instance] def zeq5 (a0:bB) {T:Type} (x:T):=mkL x (@zac4.eq_1 a0) λ(g1:Int)=>⟨[(1,.ptr 0 0 0),(39,la a0.lower),(40,.int .i64 (a0.lower.length:Int)),(41,.int .i64 g1)],[(0,bx a0)],1⟩
instance zdc3(a0:bB):OkP (zj6 a0) 196 [ga a0] (λ r=>.bool r):=ok1 (zj6.eq_1 a0) Tryz.f196 []
attribute [local irreducible] zj6
def zaq7(a0 a1:bF):Bool:=
 (if(!decide (zt7 a0.aI a1.aI=0))=true then
  (decide (zt7 a0.aI a1.aI<0))
 else
  (Op.bytesLess a0.name.toList a1.name.toList))
instance zdH7(a0 a1:bF):OkT 47 [.agg (bF.enc a0),.agg (bF.enc a1)] (.bool (zaq7 a0 a1)):=ok2 (λ r=>.bool r) (zaq7.eq_1 a0 a1) Tryz.f47 []
def zac5(j1:Unit):Option Bool:=
 some true
def zR7(a0 a1:List bB)(g1:Int):Option (Int⊕(Unit⊕Bool)):=
 (if(decide (g1<(a0.length:Int)))=true then
  gd (0<=g1/\g1<(a0.length:Int))<|
  gd (0<=g1/\g1<(a1.length:Int))<|
  (zp3 (a0.getD g1.toNat bB.zero) (a1.getD g1.toNat bB.zero)).bind λ v1=>
  (if(!v1)=true then
   some (.inr (.inr false))
  else
   some (.inl (i64.wrap (g1+1))))
 else
  some (.inr (.inl ())))
def zf4(a0 a1:List bB):Option Bool:=
 (if(!decide ((a0.length:Int)=(a1.length:Int)))=true then
  some false
 else
  (zc1 (zR7 a0 a1) 0).bind (λ|.inl z=>zac5 z|.inr z=>some z))
@[reducible,instance] def zeq6 a0 a1:=mkJ (zf4 a0 a1) 0 (@zac5.eq_1) λ(j1:Unit)=>⟨[],[],0⟩
@[reducible,instance] def zeq7 (a0 a1:List bB) {T:Type} (x:T):=mkL x (@zR7.eq_1 a0 a1) λ(g1:Int)=>⟨[(0,la a0),(1,la a1),(5,.int .i64 g1)],[],0⟩
instance zdc4(a0 a1:List bB):OkP (zf4 a0 a1) 120 [la a0,la a1] (λ r=>.bool r):=ok1 (zf4.eq_1 a0 a1) Tryz.f120 []
attribute [local irreducible] zf4
def zm0(a0:bC)(a1:aK)(a2:Bool):Option bD:=
 (zh4 a0.aG a1.aW.name).bind λ v1=>
 gd (0<=v1/\v1<(a0.aG.length:Int))<|
 (zk7 (a0.aG.getD v1.toNat aA.zero) a1.aI).bind λ v2=>
 some (⟨a1.aI.site,{aK.zero with kind:=3,aI:=a1.aI,gen:=a1.gen,aW:=(⟨a1.aW.name,v2⟩:aO),done:=a2}⟩:bD)
instance zdq3(a0:bC)(a1:aK)(a2:Bool):OkP (zm0 a0 a1 a2) 58 [ga a0,ga a1,.bool a2] (λ r=>ga r):=ok1 (zm0.eq_1 a0 a1 a2) Tryz.f58 []
attribute [local irreducible] zm0
end
end Ab
end Go.Proofs.YtdlfhmkmnjbihaaGreatDoor
