import Derived.Test.YtdlfhmkmnjbihaaGreatDoorHm2
import Derived.Test.YtdlfhmkmnjbihaaGreatDoorHm4
namespace Go.Proofs.YtdlfhmkmnjbihaaGreatDoor
namespace Ab
open IntKind (i64 u64 u8)
set_option linter.unusedSimpArgs false
set_option linter.defProp false
set_option linter.unusedVariables false
set_option maxRecDepth 100000
set_option maxHeartbeats 1000000
noncomputable section
attribute [local irreducible] zk2 zd1 za7 zd5 zd8 za4 zo7 ze9 zl8 zi1 zc1 zk8 zh8 zd4 zk5 za2 zf9 zc9 zf7 za3 zh5 zc5 zc7 zf6 zk9 zd9 zm9 zh3 zf0 zh1 zd7 za5 ze0 zc8 zd2 zl5 ze1 zo2 zb3 zj1 zj0 ze8 zp1 zi2 zk6 zh0 zc2 zb7 zb9 zj3 zg6 zi3 zf1 zi5 ze6 zg0 zm7 zl0 zf2
def zA8(j2:(List aM)):Option (List aM):=
 some j2
@[go_sem] def zdv6(j2:(List aM)):St:=⟨[(6,.own 0 0 j2.length)],[(0,sx j2)],1⟩
def zl9(a0:List (List aM))(g1:Int×(List aM)):Option ((Int×(List aM))⊕(List aM)):=
 (if(decide (g1.1<(a0.length:Int)))=true then
  gd (0<=g1.1/\g1.1<(a0.length:Int))<|
  gd (g1.2.length+(a0.getD g1.1.toNat []).length<=4294967296)<|
  some (.inl ((i64.wrap (g1.1+1)),(g1.2++a0.getD g1.1.toNat [])))
 else
  some (.inr g1.2))
@[go_sem] def zdv7(a0:List (List aM))(g1:Int×(List aM)):St:=⟨[(6,.own 0 0 g1.2.length),(25,.sl (a0.map (eL aM.enc))),(26,.int .i64 (a0.length:Int)),(27,.int .i64 g1.1)],[(0,sx g1.2)],1⟩
def zv2(a0:List (List aM))(j1:Int):Option (List aM):=
 (za7 j1).bind λ v1=>
 (zc0 (zl9 a0) (0,v1)).bind (λ z=>zA8 z)
@[go_sem] def zdv8(a0:List (List aM))(j1:Int):St:=⟨[(0,.sl (a0.map (eL aM.enc))),(3,.int .i64 j1)],[],0⟩
def zm0(a0:List (List aM))(g2:Int×Int):Option ((Int×Int)⊕Int):=
 (if(decide (g2.2<(a0.length:Int)))=true then
  gd (0<=g2.2/\g2.2<(a0.length:Int))<|
  (if(decide (i64.wrap (g2.1+((a0.getD g2.2.toNat []).length:Int))<0))=true then
   none
  else
   some (.inl ((i64.wrap (g2.1+((a0.getD g2.2.toNat []).length:Int))),i64.wrap (g2.2+1))))
 else
  some (.inr g2.1))
@[go_sem] def zdv9(a0:List (List aM))(g2:Int×Int):St:=⟨[(0,.sl (a0.map (eL aM.enc))),(3,.int .i64 g2.1),(9,.sl (a0.map (eL aM.enc))),(10,.int .i64 (a0.length:Int)),(11,.int .i64 g2.2)],[],0⟩
def za9(a0:List (List aM)):Option (List aM):=
 (zc0 (zm0 a0) (0,0)).bind (λ z=>zv2 a0 z)
theorem zam3(a0:List (List aM))(r:(List aM))(h:za9 a0=some r):PFn C 184 [.sl (a0.map (eL aM.enc))] (la r):=by
 refine zW0 Tryz.f184 [] λ E hG hN hK=>?_;unfold za9 at h;refine za0 (za1 hG ?_);refine za0 (za1 hG ?_);refine za0 (za0 (za1 hG ?_));refine zy5 (zdv8 a0) (λ v=>zv2 a0 v=some r) ?_ ?_
 · intro j1 h
   unfold zv2 at h;refine g_st ?_;refine za0 (za1 hG ?_);obtain⟨v1,hv1,h⟩:=zb8 h;refine zp6 [] [(0,0)] [0] (zaj1 _ _ hv1) rfl rfl ?_;refine za0 (za0 (za1 hG ?_));refine zy5 zdv6 (λ v=>zA8 v=some r) ?_ ?_
   · intro j2 h
     unfold zA8 at h;refine g_st ?_;refine za0 (za1 hG ?_);refine zm2 ?_;exact zt1 h
   refine zal7 (zdv7 a0) hK [(0,0)] h (λ x_l1 h g1 y_l1 h_l1 hx_l1=>?_);unfold zl9 at h_l1;refine g_st ?_;refine za0 (za1 hG ?_);refine za0 ?_;refine ze5 rfl hG h_l1 (λ _ h_l1=>?_) (λ _ h_l1=>?_)
   · refine ze2 ?_
     refine za0 (zw6 (za0 ?_));obtain⟨hb2,h_l1⟩:=ze3 h_l1;refine za1 hG ?_;obtain⟨hb1,h_l1⟩:=ze3 h_l1;refine za1 hG ?_;refine za1 hG ?_;exact zM4 hK [(0,1)] h_l1
   refine zA6 ?_;cases h_l1;cases hx_l1 _ rfl;exact zs2 hK [(0,0)] g1.2 (by exact h)
 refine zal7 (zdv9 a0) hK [] h (λ x_l2 h g2 y_l2 h_l2 hx_l2=>?_);unfold zm0 at h_l2;refine g_st ?_;refine za0 (za1 hG ?_);refine za0 ?_;refine ze5 rfl hG h_l2 (λ _ h_l2=>?_) (λ _ h_l2=>?_)
 · refine ze2 ?_
   refine za0 (zw6 (za0 ?_));obtain⟨hb3,h_l2⟩:=ze3 h_l2;refine za1 hG ?_;refine za0 (za1 hG ?_);refine za0 (za1 hG ?_);refine ze5 rfl hG h_l2 (λ _ h_l2=>?_) (λ _ h_l2=>?_)
   .exact zdu7 h_l2
   refine ze2 ?_;refine za1 hG ?_;exact zM4 hK [] h_l2
 refine zA6 ?_;cases h_l2;cases hx_l2 _ rfl;exact zs2 hK [] g2.1 (by exact h)
instance zbj7(a0:List (List aM)):OkP (za9 a0) 184 [.sl (a0.map (eL aM.enc))] (λ r=>la r):=⟨zam3 a0⟩
attribute [local irreducible] za9
def zK5(a0 a1:ByteArray):Int:=
 (if(zI2 a0)=true then
  (if(zI2 a1)=true then
   0
  else
   (-1))
 else
  (if(zI2 a1)=true then
   1
  else
   (if(Op.bytesLess a0.toList a1.toList)=true then
    (-1)
   else
    (if(!(Op.bytesLess a0.toList a1.toList||a0.toList==a1.toList))=true then
     1
    else
     0))))
instance zcl3(a0 a1:ByteArray):OkT 83 [.str a0,.str a1] (.int .i64 (zK5 a0 a1)):=ok2 (λ r=>.int .i64 r) (zK5.eq_1 a0 a1) Tryz.f83 []
def za8(a0:List aF)(a1:aF):Option Bool:=
 (za4 a0 a1).bind λ v1=>
 some (decide (0<=v1))
instance zbh0(a0:List aF)(a1:aF):OkP (za8 a0 a1) 156 [la a0,ga a1] (λ r=>.bool r):=ok1 (za8.eq_1 a0 a1) Tryz.f156 []
attribute [local irreducible] za8
def zf3(a0:aA)(a1:aF):Option (aA×aF):=
 (zh5 a0.aH a1).bind λ v1=>
 some ({a0 with aH:=v1.1},a1)
instance zaY7(a0:aA)(a1:aF):OkM (zf3 a0 a1) 210 [.ptr 0 0 0,.ptr 1 0 0] [(0,bx a0),(1,bx a1)] 2 (λ r=>.tup []) (λ r=>[(0,bx r.1),(1,bx r.2)]) 2:=okm (zf3.eq_1 a0 a1) (λ r=>[]) Tryz.f210 []
attribute [local irreducible] zf3
def zP6(a0 a1:Int):Bool:=
 (if((!(zv7 a0))||(!(zv7 a1)))=true then
  false
 else
  (((decide (a0=a1)||decide (a0=5))||decide (a1=1))||(decide (a0=4)&&(!decide (a1=5)))))
instance zcT7(a0 a1:Int):OkT 74 [.int .i64 a0,.int .i64 a1] (.bool (zP6 a0 a1)):=ok2 (λ r=>.bool r) (zP6.eq_1 a0 a1) Tryz.f74 []
def zg7(a0:aA)(a1:aF):Option aC:=
 (zl8 a0.aL a1).bind λ v1=>
 some v1
instance zaj3(a0:aA)(a1:aF):OkP (zg7 a0 a1) 25 [ga a0,ga a1] (λ r=>ga r):=ok1 (zg7.eq_1 a0 a1) Tryz.f25 []
attribute [local irreducible] zg7
def zb4(a0:Int)(a1:bB):Option (Int×bB):=
 (if(decide ((a1.l.length:Int)<=a1.at_))=true then
  some (0,a1)
 else
  gd (0<=i64.wrap (({a1 with at_:=(i64.wrap (a1.at_+1))}).at_-1)/\i64.wrap (({a1 with at_:=(i64.wrap (a1.at_+1))}).at_-1)<((({a1 with at_:=(i64.wrap (a1.at_+1))}).l).length:Int))<|
  (zo2 ((({a1 with at_:=(i64.wrap (a1.at_+1))}).l).getD ((i64.wrap (({a1 with at_:=(i64.wrap (a1.at_+1))}).at_-1)).toNat) 0) a0).bind λ v1=>
  some (v1,{a1 with at_:=(i64.wrap (a1.at_+1))}))
instance zcp7(a0:Int)(a1:bB):OkM (zb4 a0 a1) 66 [.ptr 0 0 0,.int .i64 a0] [(0,bx a1)] 1 (λ r=>.int .i64 r.1) (λ r=>[(0,bx r.2)]) 1:=okm (zb4.eq_1 a0 a1) (λ r=>[.int .i64 r.1]) Tryz.f66 []
attribute [local irreducible] zb4
def zR7:List Int:=[5,5,3,4,2,1,3,5]
def zp2(a0:Int):Option Int:=
 (zo2 a0 (zR7.length:Int)).bind λ v1=>
 gd (0<=v1/\v1<(zR7.length:Int))<|
 some (zR7.getD v1.toNat 0)
instance zdn4(a0:Int):OkP (zp2 a0) 122 [.int .i64 a0] (λ r=>.int .i64 r):=⟨λ r h=>by
 refine zW0 Tryz.f122 [] λ E hG hN hK=>?_;have hm:Mk (zp2 a0):=trivial;unfold zp2 at h;refine za0 (za1 hG ?_);refine za0 (za1 hG ?_);refine g_gh (.cast 3 (.full (zR7.map (eI .i64)))) ?_;exact gogo⟩
attribute [local irreducible] zp2
def zay8(a0 j1:aX):Option aX:=
 gd (a0.tags.length<=4294967296)<|
 some (⟨j1.aG,a0.tags⟩:aX)
def zR8(a0:aX)(g1:Int×aX):Option ((Int×aX)⊕aX):=
 (if(decide (g1.1<(a0.aG.length:Int)))=true then
  gd (0<=g1.1/\g1.1<(a0.aG.length:Int))<|
  (zj0 (a0.aG.getD g1.1.toNat aA.zero)).bind λ v1=>
  gd (g1.2.aG.length+1<=4294967296)<|
  some (.inl ((i64.wrap (g1.1+1)),(⟨(g1.2.aG++[v1]),g1.2.tags⟩:aX)))
 else
  some (.inr g1.2))
def zm8(a0:aX):Option aX:=
 (zc0 (zR8 a0) (0,(⟨[],aX.zero.tags⟩:aX))).bind (λ z=>zay8 a0 z)
@[reducible,instance] def zdN9 (a0:aX):=mkJ (zm8 a0) 0 (@zay8.eq_1 a0) λ(j1:aX)=>⟨[(1,.ptr 0 0 0),(2,.ptr 1 0 0),(3,.ptr 2 0 0)],[(0,bx a0),(1,bx aX.zero),(2,⟨false,2,aX.enc aX.zero,[[.own 3 0 j1.aG.length,la j1.tags]]⟩),(3,sx j1.aG)],4⟩
@[reducible,instance] def zdO0 (a0:aX) {T:Type} (x:T):=mkL x (@zR8.eq_1 a0) λ(g1:Int×aX)=>⟨[(1,.ptr 0 0 0),(2,.ptr 1 0 0),(3,.ptr 2 0 0),(7,la a0.aG),(8,.int .i64 (a0.aG.length:Int)),(9,.int .i64 g1.1)],[(0,bx a0),(1,bx aX.zero),(2,⟨false,2,aX.enc aX.zero,[[.own 3 0 g1.2.aG.length,la g1.2.tags]]⟩),(3,sx g1.2.aG)],4⟩
instance zdi2(a0:aX):OkP (zm8 a0) 55 [ga a0] (λ r=>ga r):=⟨λ r h=>by
 refine zW0 Tryz.f55 [(3,3)] λ E hG hN hK=>?_;have hm:Mk (zm8 a0):=trivial;unfold zm8 at h;refine za0 (za1 hG ?_);refine za0 (za1 hG ?_);refine g_gh (.ownb 2 0 8 (aA.enc aA.zero)) ?_;exact gogo⟩
attribute [local irreducible] zm8
def zc3(a0 a1:aF):Option Int:=
 (zf0 (⟨[a0.site,a0.inc,a0.num],rfl⟩:Arr Int 3) (⟨[a1.site,a1.inc,a1.num],rfl⟩:Arr Int 3)).bind λ v1=>
 some v1
instance zax8(a0 a1:aF):OkP (zc3 a0 a1) 82 [ga a0,ga a1] (λ r=>.int .i64 r):=ok1 (zc3.eq_1 a0 a1) Tryz.f82 []
attribute [local irreducible] zc3
def zj4(a0:aA)(a1:aF):Option aC:=
 (zi2 a0.aL a1).bind λ v1=>
 some v1
instance zaK1(a0:aA)(a1:aF):OkP (zj4 a0 a1) 93 [ga a0,ga a1] (λ r=>ga r):=ok1 (zj4.eq_1 a0 a1) Tryz.f93 []
attribute [local irreducible] zj4
def zaM6(j1:(List aW)):Option (List aW):=
 some j1
def zaf9(a0:List bA)(a1:List aS)(a2:aF)(g1:Int×(List aW)):Option ((Int×(List aW))⊕(List aW)):=
 (if(decide (g1.1<(a1.length:Int)))=true then
  gd (0<=g1.1/\g1.1<(a1.length:Int))<|
  (if((!decide ((a1.getD g1.1.toNat aS.zero).kind=1))||decide ((a1.getD g1.1.toNat aS.zero).aI=a2))=true then
   some (.inl ((i64.wrap (g1.1+1)),g1.2))
  else
   (zh0 a0 ((a1.getD g1.1.toNat aS.zero).aI) ((a1.getD g1.1.toNat aS.zero).name)).bind λ v1=>
   gd (g1.2.length+1<=4294967296)<|
   some (.inl ((i64.wrap (g1.1+1)),(g1.2++[(⟨((a1.getD g1.1.toNat aS.zero).aI).site,{aJ.zero with kind:=4,aI:=(a1.getD g1.1.toNat aS.zero).aI,gen:=v1.1,aY:=(⟨(a1.getD g1.1.toNat aS.zero).name,(a1.getD g1.1.toNat aS.zero).aK⟩:bF)}⟩:aW)]))))
 else
  some (.inr g1.2))
def zj8(a0:List bA)(a1:List aS)(a2:aF):Option (List aW):=
 (zc0 (zaf9 a0 a1 a2) (0,[])).bind (λ z=>zaM6 z)
@[reducible,instance] def zdO1 a0 a1 a2:=mkJ (zj8 a0 a1 a2) 0 (@zaM6.eq_1) λ(j1:(List aW))=>⟨[(7,.own 0 0 j1.length)],[(0,sx j1)],1⟩
@[reducible,instance] def zdO2 (a0:List bA) (a1:List aS) (a2:aF) {T:Type} (x:T):=mkL x (@zaf9.eq_1 a0 a1 a2) λ(g1:Int×(List aW))=>⟨[(0,la a0),(5,.ptr 0 0 0),(7,.own 1 0 g1.2.length),(12,la a1),(13,.int .i64 (a1.length:Int)),(14,.int .i64 g1.1)],[(0,bx a2),(1,sx g1.2)],2⟩
instance zaY8(a0:List bA)(a1:List aS)(a2:aF):OkP (zj8 a0 a1 a2) 96 [la a0,la a1,ga a2] (λ r=>la r):=ok1 (zj8.eq_1 a0 a1 a2) Tryz.f96 [(7,1)]
attribute [local irreducible] zj8
def zf4(a0:aA)(a1:aF):Option (aA×aF):=
 (zh5 a0.aT a1).bind λ v1=>
 some ({a0 with aT:=v1.1},a1)
instance zaY9(a0:aA)(a1:aF):OkM (zf4 a0 a1) 265 [.ptr 0 0 0,.ptr 1 0 0] [(0,bx a0),(1,bx a1)] 2 (λ r=>.tup []) (λ r=>[(0,bx r.1),(1,bx r.2)]) 2:=okm (zf4.eq_1 a0 a1) (λ r=>[]) Tryz.f265 []
attribute [local irreducible] zf4
def zq8(a0 a1:aF):Int:=
 (if(!decide (zJ1 a0.site a1.site=0))=true then
  (zJ1 a0.site a1.site)
 else
  (if(!decide (zJ1 a0.inc a1.inc=0))=true then
   (zJ1 a0.inc a1.inc)
  else
   (zJ1 a0.num a1.num)))
instance zcp8(a0 a1:aF):OkT 88 [.agg (aF.enc a0),.agg (aF.enc a1)] (.int .i64 (zq8 a0 a1)):=ok2 (λ r=>.int .i64 r) (zq8.eq_1 a0 a1) Tryz.f88 []
def zaV3(j1:aJ):Option aJ:=
 some j1
def zZ5 (a0:aJ) (g1:Int×aJ):Option ((Int×aJ)⊕aJ):=
 (if (decide (g1.1<(((zb1 a0.kind).toList.map λ b=>(b.toNat:Int)).length:Int)))=true then
  gd (0<=g1.1/\g1.1<(((zb1 a0.kind).toList.map λ b=>(b.toNat:Int)).length:Int))<|
  (if(decide (((zb1 a0.kind).toList.map λ b=>(b.toNat:Int)).getD g1.1.toNat 0=80))=true then
   some (.inl ((i64.wrap (g1.1+1)),{g1.2 with aI:=a0.aI}))
  else
   (if(decide (((zb1 a0.kind).toList.map λ b=>(b.toNat:Int)).getD g1.1.toNat 0=71))=true then
    some (.inl ((i64.wrap (g1.1+1)),{g1.2 with gen:=a0.gen}))
   else
    (if(decide (((zb1 a0.kind).toList.map λ b=>(b.toNat:Int)).getD g1.1.toNat 0=65))=true then
     some (.inl ((i64.wrap (g1.1+1)),{g1.2 with aY:=a0.aY}))
    else
     (if(decide (((zb1 a0.kind).toList.map λ b=>(b.toNat:Int)).getD g1.1.toNat 0=89))=true then
      some (.inl ((i64.wrap (g1.1+1)),{g1.2 with aV:=a0.aV}))
     else
      (if(decide (((zb1 a0.kind).toList.map λ b=>(b.toNat:Int)).getD g1.1.toNat 0=68))=true then
       some (.inl ((i64.wrap (g1.1+1)),{g1.2 with done:=a0.done}))
      else
       (if(decide (((zb1 a0.kind).toList.map λ b=>(b.toNat:Int)).getD g1.1.toNat 0=83))=true then
        some (.inl ((i64.wrap (g1.1+1)),{g1.2 with site:=a0.site}))
       else
        (if(decide (((zb1 a0.kind).toList.map λ b=>(b.toNat:Int)).getD g1.1.toNat 0=73))=true then
         some (.inl ((i64.wrap (g1.1+1)),{g1.2 with inc:=a0.inc}))
        else
         (if(decide (((zb1 a0.kind).toList.map λ b=>(b.toNat:Int)).getD g1.1.toNat 0=82))=true then
          some (.inl ((i64.wrap (g1.1+1)),{g1.2 with round:=a0.round}))
         else
          (if(decide (((zb1 a0.kind).toList.map λ b=>(b.toNat:Int)).getD g1.1.toNat 0=69))=true then
           some (.inl ((i64.wrap (g1.1+1)),{g1.2 with epoch:=a0.epoch}))
          else
           (if(decide (((zb1 a0.kind).toList.map λ b=>(b.toNat:Int)).getD g1.1.toNat 0=76))=true then
            some (.inl ((i64.wrap (g1.1+1)),{g1.2 with label:=a0.label}))
           else
            (if(decide (((zb1 a0.kind).toList.map λ b=>(b.toNat:Int)).getD g1.1.toNat 0=87))=true then
             some (.inl ((i64.wrap (g1.1+1)),{g1.2 with state:=a0.state}))
            else
             (if(decide (((zb1 a0.kind).toList.map λ b=>(b.toNat:Int)).getD g1.1.toNat 0=79))=true then
              some (.inl ((i64.wrap (g1.1+1)),{g1.2 with options:=a0.options}))
             else
              some (.inl ((i64.wrap (g1.1+1)),g1.2))))))))))))))
 else
  some (.inr g1.2))
def zn5(a0:aJ):Option aJ:=
 gd ((zb1 a0.kind).size<=4294967296)<|
 (zc0 (zZ5 a0) (0,{aJ.zero with kind:=a0.kind})).bind (λ z=>zaV3 z)
@[reducible,instance] def zdO3 a0:=mkJ (zn5 a0) 0 (@zaV3.eq_1) λ(j1:aJ)=>⟨[(2,.ptr 0 0 0),(3,.ptr 1 0 0)],[(0,bx aJ.zero),(1,bx j1)],2⟩
@[reducible,instance] def zdO4 (a0:aJ) {T:Type} (x:T):=mkL x (@zZ5.eq_1 a0) λ(g1:Int×aJ)=>⟨[(1,.ptr 0 0 0),(2,.ptr 1 0 0),(3,.ptr 2 0 0),(12,.sl (((zb1 a0.kind).toList.map λ b=>(b.toNat:Int)).map (eI .u8))),(13,.int .i64 (((zb1 a0.kind).toList.map λ b=>(b.toNat:Int)).length:Int)),(14,.int .i64 g1.1)],[(0,bx a0),(1,bx aJ.zero),(2,bx g1.2)],3⟩
instance zdi3(a0:aJ):OkP (zn5 a0) 107 [ga a0] (λ r=>ga r):=ok1 (zn5.eq_1 a0) Tryz.f107 []
attribute [local irreducible] zn5
def zai4(j1:Unit):Option Bool:=
 some true
def zai5(a0 a1:List bC)(g1:Int):Option (Int⊕(Unit⊕Bool)):=
 (if(decide (g1<(a0.length:Int)))=true then
  gd (0<=g1/\g1<(a0.length:Int))<|
  gd (0<=g1/\g1<(a1.length:Int))<|
  (zm7 (a0.getD g1.toNat bC.zero) (a1.getD g1.toNat bC.zero)).bind λ v1=>
  (if(!v1)=true then
   some (.inr (.inr false))
  else
   some (.inl (i64.wrap (g1+1))))
 else
  some (.inr (.inl ())))
def zh2(a0 a1:List bC):Option Bool:=
 (if(!decide ((a0.length:Int)=(a1.length:Int)))=true then
  some false
 else
  (zc0 (zai5 a0 a1) 0).bind (λ|.inl z=>zai4 z|.inr z=>some z))
@[reducible,instance] def zdO5 a0 a1:=mkJ (zh2 a0 a1) 0 (@zai4.eq_1) λ(j1:Unit)=>⟨[],[],0⟩
@[reducible,instance] def zdO6 (a0 a1:List bC) {T:Type} (x:T):=mkL x (@zai5.eq_1 a0 a1) λ(g1:Int)=>⟨[(0,la a0),(1,la a1),(5,.int .i64 g1)],[],0⟩
instance zcH6(a0 a1:List bC):OkP (zh2 a0 a1) 120 [la a0,la a1] (λ r=>.bool r):=ok1 (zh2.eq_1 a0 a1) Tryz.f120 []
attribute [local irreducible] zh2
def zg2(a0:List Int)(a1:aF):Option (List Int):=
 (if(!(zn4 a1))=true then
  gd (a0.length<=4294967296)<|
  some a0
 else
  (zf2 a0 (u64.wrap a1.site)).bind λ v1=>
  (zf2 v1 (u64.wrap a1.inc)).bind λ v2=>
  (zb3 v2 (u64.wrap a1.num)).bind λ v3=>
  some v3)
instance zcx5(a0:List Int)(a1:aF):OkM (zg2 a0 a1) 163 [.sl (a0.map (eI .u8)),ga a1] [] 0 (λ r=>.own 0 0 r.length) (λ r=>[(0,⟨false,1,[A.int .u8 0],r.map (eI .u8)⟩)]) 1:=okm (zg2.eq_1 a0 a1) (λ r=>[.own 0 0 r.length]) Tryz.f163 [(4,1),(8,1),(15,1),(19,1)]
attribute [local irreducible] zg2
def zg3(a0:List Int)(a1:ByteArray):Option (List Int):=
 (zb3 a0 (u64.wrap (a1.size:Int))).bind λ v1=>
 gd (v1.length+a1.toList.length<=4294967296)<|
 some (v1++(a1.toList.map λ b=>(b.toNat:Int)))
instance zcx6(a0:List Int)(a1:ByteArray):OkM (zg3 a0 a1) 164 [.sl (a0.map (eI .u8)),.str a1] [] 0 (λ r=>.own 0 0 r.length) (λ r=>[(0,⟨false,1,[A.int .u8 0],r.map (eI .u8)⟩)]) 1:=okm (zg3.eq_1 a0 a1) (λ r=>[.own 0 0 r.length]) Tryz.f164 [(4,1)]
attribute [local irreducible] zg3
def zl6(a0 a1:Int):Option Bool:=
 gd ((zr5 a0&&zr5 a1)=true->0<=a1/\a1<6)<|
 some ((zr5 a0&&zr5 a1)&&Arr.get (zaD6 a0) a1.toNat false)
instance zda7(a0 a1:Int):OkP (zl6 a0 a1) 256 [.int .i64 a0,.int .i64 a1] (λ r=>.bool r):=ok1 (zl6.eq_1 a0 a1) Tryz.f256 []
attribute [local irreducible] zl6
def zY5(a0:aJ)(j1:Unit):Option Bool:=
 (if(((!decide ((a0.state.aG.length:Int)=0))||(!decide ((a0.state.bG.length:Int)=0)))||(!decide ((a0.options.length:Int)=0)))=true then
  some false
 else
  some (((decide (a0.kind=0)&&decide (a0.aI={aF.zero with}))&&decide (a0.aY={bF.zero with}))&&(!a0.done)))
@[go_sem] def zdw0(a0:aJ)(j1:Unit):St:=⟨[(1,.ptr 0 0 0)],[(0,bx a0)],1⟩
def zY6(a0:aJ)(e0:Int×bD)(g1:Unit):Option (Unit⊕(Unit⊕Bool)):=
 (zq2 ((e0.2).of)).bind λ v2=>
 (if(!decide (zm3 a0 v2=0))=true then
  some (.inr (.inr false))
 else
  some (.inl ()))
@[go_sem] def zdw1(a0:aJ)(v1:(List (Int×bD)))(s0:List Nat)(g1:Unit):St:=⟨[(1,.ptr 0 0 0),(6,.it 1)],[(0,bx a0),(1,⟨false,0,[],[.mp 2,.int .i64 (v1.length:Int)]::s0.map iE⟩),(2,⟨false,0,[A.int .u8 0,A.bool true],v1.map (mI .u8 bD.enc)⟩)],3⟩
def zj6(a0:aJ):Option Bool:=
 (zc2).bind λ v1=>
 rngO v1 (0,bD.zero) (zY6 a0) (λ g1:Unit=>(.inl ())) () (λ|.inl z=>zY5 a0 z|.inr z=>some z)
theorem zbv5(a0:aJ)(r:Bool)(h:zj6 a0=some r):PFn C 143 [ga a0] (.bool r):=by
 refine zW0 Tryz.f143 [(7,170),(9,170),(13,1)] λ E hG hN hK=>?_;unfold zj6 at h;refine za0 (za1 hG ?_);refine za0 (za0 (za1 hG ?_));obtain⟨v1,hv1,h⟩:=zb8 h;refine zp6 [] [(0,1)] [0] ((zaa2).ok _ hv1) rfl rfl ?_;refine zy5 (zdw0 a0) (λ v=>zY5 a0 v=some r) ?_ ?_
 · intro j1 h
   unfold zY5 at h;refine g_st ?_;refine za0 (za0 (za1 hG ?_));refine ze5 rfl hG h (λ _ h=>?_) (λ _ h=>?_)
   · refine za0 (za1 hG ?_)
     refine zm2 ?_;exact zt1 h
   refine ze2 ?_;refine za0 (za1 hG ?_);refine zm2 ?_;exact zt1 h
 refine zdE0 (zdw1 a0 v1) hK [(0,0),(1,2),(2,1)] h (λ s0 g1 hP_l1=>?_);refine g_st ?_;refine za0 (za1 hG ?_);refine⟨λ ix0 hi0 hns0=>?_,λ hall0=>?_⟩
 · obtain⟨y_l1,h_l1,hP1_l1,hx_l1⟩:=zcY7 hP_l1 hi0 hns0
   unfold zY6 at h_l1
   try refine g_st ?_
   refine za0 ?_;refine zak3 rfl hG ?_;refine ze2 ?_;refine zw6 (za0 (za1 hG ?_));refine za0 (za1 hG ?_);obtain⟨v2,hv2,h_l1⟩:=zb8 h_l1;refine zp6 [(0,0)] [] [0] (zab1 _ _ _ hv2) rfl rfl ?_ (ho:=by first|exact⟨by trivial,zy6 hv2⟩|exact zy6 hv2);refine ze5 rfl hG h_l1 (λ _ h_l1=>?_) (λ _ h_l1=>?_)
   · refine za0 (za1 hG ?_)
     refine zm2 ?_;obtain rfl:=cR h_l1;have h:=hx_l1 _ rfl
     try dsimp only at h
     exact zt1 h
   refine ze2 ?_;exact zdm4 hK [(0,0),(1,1),(2,2)] h_l1 hP1_l1
 try refine g_st ?_
 refine za0 ?_;refine zaB0 rfl hG ?_;refine zA6 ?_;have h:=zdm2 hP_l1 hall0
 try dsimp only at h
 exact zs2 hK [(0,0)] () (by exact h)
attribute [local irreducible] zj6
def zg4(a0:List Int)(a1:ByteArray):Option (List Int):=
 (zb9 a0 (u64.wrap (a1.size:Int))).bind λ v1=>
 gd (v1.length+a1.toList.length<=4294967296)<|
 some (v1++(a1.toList.map λ b=>(b.toNat:Int)))
instance zbh1(a0:List Int)(a1:ByteArray):OkM (zg4 a0 a1) 198 [.sl (a0.map (eI .u8)),.str a1] [] 0 (λ r=>.own 0 0 r.length) (λ r=>[(0,⟨false,1,[A.int .u8 0],r.map (eI .u8)⟩)]) 1:=okm (zg4.eq_1 a0 a1) (λ r=>[.own 0 0 r.length]) Tryz.f198 [(4,1)]
attribute [local irreducible] zg4
def zay9(j1:(List aA)):Option (List aA):=
 some j1
def zak8(a0:List aA)(g1:Int×(List aA)):Option ((Int×(List aA))⊕(List aA)):=
 (if(decide (g1.1<(a0.length:Int)))=true then
  gd (0<=g1.1/\g1.1<(a0.length:Int))<|
  (za5 ((a0.getD g1.1.toNat aA.zero).aL)).bind λ v1=>
  (za3 (({(a0.getD g1.1.toNat aA.zero)with aL:=v1}).aH)).bind λ v2=>
  (za3 (({{(a0.getD g1.1.toNat aA.zero)with aL:=v1}with aH:=v2}).aT)).bind λ v3=>
  gd (g1.2.length+1<=4294967296)<|
  some (.inl ((i64.wrap (g1.1+1)),(g1.2++[{{{(a0.getD g1.1.toNat aA.zero)with aL:=v1}with aH:=v2}with aT:=v3}])))
 else
  some (.inr g1.2))
def zn8(a0:List aA):Option (List aA):=
 (zc0 (zak8 a0) (0,[])).bind (λ z=>zay9 z)
@[reducible,instance] def zdO7 a0:=mkJ (zn8 a0) 0 (@zay9.eq_1) λ(j1:(List aA))=>⟨[(3,.own 0 0 j1.length)],[(0,sx j1)],1⟩
@[reducible,instance] def zdO8 (a0:List aA) {T:Type} (x:T):=mkL x (@zak8.eq_1 a0) λ(g1:Int×(List aA))=>⟨[(3,.own 0 0 g1.2.length),(6,la a0),(7,.int .i64 (a0.length:Int)),(8,.int .i64 g1.1)],[(0,sx g1.2)],1⟩
instance zbX0(a0:List aA):OkP (zn8 a0) 98 [la a0] (λ r=>la r):=ok1 (zn8.eq_1 a0) Tryz.f98 [(3,1)]
attribute [local irreducible] zn8
def zg8(a0:aA)(a1:aF):Option (aA×aF):=
 (zh5 a0.aT a1).bind λ v1=>
 some ({a0 with aT:=v1.1},a1)
instance zaZ0(a0:aA)(a1:aF):OkM (zg8 a0 a1) 212 [.ptr 0 0 0,.ptr 1 0 0] [(0,bx a0),(1,bx a1)] 2 (λ r=>.tup []) (λ r=>[(0,bx r.1),(1,bx r.2)]) 2:=okm (zg8.eq_1 a0 a1) (λ r=>[]) Tryz.f212 []
attribute [local irreducible] zg8
def zz8(a0:Int):Bool:=
 (((zK3 a0||(decide (48<=a0)&&decide (a0<=57)))||decide (a0=95))||decide (a0=45))
instance zdi4(a0:Int):OkT 178 [.int .u8 a0] (.bool (zz8 a0)):=ok2 (λ r=>.bool r) (zz8.eq_1 a0) Tryz.f178 []
def zu3(a0:aD)(a1:aC):Bool:=
 (if(!(zE9 a0))=true then
  false
 else
  (if(decide (a0.kind=1))=true then
   (zv7 a1.mode&&decide (a1.aU=0))
  else
   ((decide (a1.mode=0)&&decide (1<=a1.aU))&&decide (a1.aU<=a0.aU))))
instance zbX1(a0:aD)(a1:aC):OkT 124 [.agg (aD.enc a0),.agg (aC.enc a1)] (.bool (zu3 a0 a1)):=ok2 (λ r=>.bool r) (zu3.eq_1 a0 a1) Tryz.f124 []
def zK6(a0:aC):Bool:=
 ((zv7 a0.mode&&decide (a0.aU=0))||((decide (a0.mode=0)&&decide (1<=a0.aU))&&decide (a0.aU<=8)))
instance zcT8(a0:aC):OkT 159 [.agg (aC.enc a0)] (.bool (zK6 a0)):=ok2 (λ r=>.bool r) (zK6.eq_1 a0) Tryz.f159 []
def zh9(a0:aA)(a1:aF):Option (aC×Bool):=
 (zi5 a0.aH a1).bind λ v1=>
 (if(decide (0<=v1))=true then
  gd (0<=v1/\v1<(a0.aH.length:Int))<|
  some ((a0.aH.getD v1.toNat aM.zero).aK,true)
 else
  (zi5 a0.aT a1).bind λ v2=>
  (if(decide (0<=v2))=true then
   gd (0<=v2/\v2<(a0.aT.length:Int))<|
   some ((a0.aT.getD v2.toNat aM.zero).aK,true)
  else
   some ({aC.zero with},false)))
instance zaV4(a0:aA)(a1:aF):OkP (zh9 a0 a1) 27 [ga a0,ga a1] (λ r=>.tup [ga r.1,.bool r.2]):=ok1 (zh9.eq_1 a0 a1) Tryz.f27 []
attribute [local irreducible] zh9
def zaH6(j1:(List aW)):Option (List aW):=
 some j1
def zab7(a0:aX)(a1:List aS)(a2:aF)(g1:Int×(List aW)):Option ((Int×(List aW))⊕(List aW)):=
 (if(decide (g1.1<(a1.length:Int)))=true then
  gd (0<=g1.1/\g1.1<(a1.length:Int))<|
  (if(decide ((a1.getD g1.1.toNat aS.zero).kind=1)&&(!decide ((a1.getD g1.1.toNat aS.zero).aI=a2)))=true then
   (zm9 a0 ((a1.getD g1.1.toNat aS.zero).aI) ((a1.getD g1.1.toNat aS.zero).name)).bind λ v1=>
   gd (g1.2.length+1<=4294967296)<|
   some (.inl ((i64.wrap (g1.1+1)),(g1.2++[(⟨((a1.getD g1.1.toNat aS.zero).aI).site,{aJ.zero with kind:=4,aI:=(a1.getD g1.1.toNat aS.zero).aI,gen:=v1,aY:=(⟨(a1.getD g1.1.toNat aS.zero).name,(a1.getD g1.1.toNat aS.zero).aK⟩:bF)}⟩:aW)])))
  else
   some (.inl ((i64.wrap (g1.1+1)),g1.2)))
 else
  some (.inr g1.2))
def zi6(a0:aX)(a1:List aS)(a2:aF):Option (List aW):=
 (zc0 (zab7 a0 a1 a2) (0,[])).bind (λ z=>zaH6 z)
@[reducible,instance] def zdO9 a0 a1 a2:=mkJ (zi6 a0 a1 a2) 0 (@zaH6.eq_1) λ(j1:(List aW))=>⟨[(7,.own 0 0 j1.length)],[(0,sx j1)],1⟩
@[reducible,instance] def zdP0 (a0:aX) (a1:List aS) (a2:aF) {T:Type} (x:T):=mkL x (@zab7.eq_1 a0 a1 a2) λ(g1:Int×(List aW))=>⟨[(3,.ptr 0 0 0),(5,.ptr 1 0 0),(7,.own 2 0 g1.2.length),(10,la a1),(11,.int .i64 (a1.length:Int)),(12,.int .i64 g1.1)],[(0,bx a0),(1,bx a2),(2,sx g1.2)],3⟩
instance zcT9(a0:aX)(a1:List aS)(a2:aF):OkP (zi6 a0 a1 a2) 59 [ga a0,la a1,ga a2] (λ r=>la r):=ok1 (zi6.eq_1 a0 a1 a2) Tryz.f59 [(7,1)]
attribute [local irreducible] zi6
def zaz0(j2:Unit):Option Bool:=
 some true
def zaz1(a0:aZ)(g1:Int):Option (Int⊕(Unit⊕Bool)):=
 (if(decide (g1<(a0.bG.length:Int)))=true then
  gd (0<=g1/\g1<(a0.bG.length:Int))<|
  (zp1 ((a0.bG.getD g1.toNat bI.zero).expr) 5).bind λ v1=>
  (if(!v1)=true then
   some (.inr (.inr false))
  else
   some (.inl (i64.wrap (g1+1))))
 else
  some (.inr (.inl ())))
def zak9(a0:aZ)(j1:Unit):Option Bool:=
 (zc0 (zaz1 a0) 0).bind (λ|.inl z=>zaz0 z|.inr z=>some z)
def zal0(a0:aZ)(g2:Int):Option (Int⊕(Unit⊕Bool)):=
 (if(decide (g2<(a0.aG.length:Int)))=true then
  gd (0<=g2/\g2<(a0.aG.length:Int))<|
  gd ((!(decide (10<(((a0.aG.getD g2.toNat aA.zero).aL).length:Int))))=true->0<=g2/\g2<(a0.aG.length:Int))<|
  gd ((!(decide (10<(((a0.aG.getD g2.toNat aA.zero).aL).length:Int))||decide (10<(((a0.aG.getD g2.toNat aA.zero).aH).length:Int))))=true->0<=g2/\g2<(a0.aG.length:Int))<|
  (if((decide (10<(((a0.aG.getD g2.toNat aA.zero).aL).length:Int))||decide (10<(((a0.aG.getD g2.toNat aA.zero).aH).length:Int)))||decide (10<(((a0.aG.getD g2.toNat aA.zero).aT).length:Int)))=true then
   some (.inr (.inr false))
  else
   some (.inl (i64.wrap (g2+1))))
 else
  some (.inr (.inl ())))
def zn9(a0:aZ):Option Bool:=
 (if(decide (10<(a0.aG.length:Int))||decide (10<(a0.bG.length:Int)))=true then
  some false
 else
  (zc0 (zal0 a0) 0).bind (λ|.inl z=>zak9 a0 z|.inr z=>some z))
@[reducible,instance] def zec4 a0 j1:=mkJ (zak9 a0 j1) 2 (@zaz0.eq_1) λ(j2:Unit)=>⟨[],[],0⟩
@[reducible,instance] def zec5 (a0:aZ) {T:Type} (x:T):=mkL x (@zaz1.eq_1 a0) λ(g1:Int)=>⟨[(1,.ptr 0 0 0),(4,.int .i64 g1)],[(0,bx a0)],1⟩
@[reducible,instance] def zec6 (a0:aZ):=mkJ (zn9 a0) 0 (@zak9.eq_1 a0) λ(j1:Unit)=>⟨[(1,.ptr 0 0 0)],[(0,bx a0)],1⟩
@[reducible,instance] def zec7 (a0:aZ) {T:Type} (x:T):=mkL x (@zal0.eq_1 a0) λ(g2:Int)=>⟨[(1,.ptr 0 0 0),(3,.int .i64 g2)],[(0,bx a0)],1⟩
instance zdi5(a0:aZ):OkP (zn9 a0) 16 [ga a0] (λ r=>.bool r):=ok1 (zn9.eq_1 a0) Tryz.f16 []
attribute [local irreducible] zn9
def zap0(j1:Unit):Option Bool:=
 some true
def zz9(a0:ByteArray)(g1:Int):Option (Int⊕(Unit⊕Bool)):=
 (if(decide (g1<(a0.size:Int)))=true then
  gd (0<=g1/\g1<(a0.size:Int))<|
  (if((!(decide (97<=((a0.toList.getD g1.toNat 0).toNat:Int))&&decide (((a0.toList.getD g1.toNat 0).toNat:Int)<=122)))&&(decide (g1=0)||(!(((decide (48<=((a0.toList.getD g1.toNat 0).toNat:Int))&&decide (((a0.toList.getD g1.toNat 0).toNat:Int)<=57))||decide (((a0.toList.getD g1.toNat 0).toNat:Int)=95))||decide (((a0.toList.getD g1.toNat 0).toNat:Int)=45)))))=true then
   some (.inr (.inr false))
  else
   some (.inl (i64.wrap (g1+1))))
 else
  some (.inr (.inl ())))
def zc6(a0:ByteArray):Option Bool:=
 (if((decide ((a0.size:Int)<1)||decide (12<(a0.size:Int)))||zI0 a0)=true then
  some false
 else
  (zc0 (zz9 a0) 0).bind (λ|.inl z=>zap0 z|.inr z=>some z))
@[reducible,instance] def zec8 a0:=mkJ (zc6 a0) 0 (@zap0.eq_1) λ(j1:Unit)=>⟨[],[],0⟩
@[reducible,instance] def zec9 (a0:ByteArray) {T:Type} (x:T):=mkL x (@zz9.eq_1 a0) λ(g1:Int)=>⟨[(0,.str a0),(20,.int .i64 (a0.size:Int)),(21,.int .i64 g1)],[],0⟩
instance zcp9(a0:ByteArray):OkP (zc6 a0) 126 [.str a0] (λ r=>.bool r):=ok1 (zc6.eq_1 a0) Tryz.f126 []
attribute [local irreducible] zc6
def zb6(a0:aF):Bool:=
 ((zM5 a0.site 0 3&&zM5 a0.inc 1 99)&&zM5 a0.num 1 999)
instance zbm0(a0:aF):OkT 41 [.agg (aF.enc a0)] (.bool (zb6 a0)):=ok2 (λ r=>.bool r) (zb6.eq_1 a0) Tryz.f41 []
def zb0(a0:aD)(a1:aC):Bool:=
 (if(!(zd3 a0))=true then
  false
 else
  (if(decide (a0.kind=1))=true then
   (zr5 a1.mode&&decide (a1.aU=0))
  else
   ((decide (a1.mode=0)&&decide (1<=a1.aU))&&decide (a1.aU<=a0.aU))))
instance zbN7(a0:aD)(a1:aC):OkT 201 [.agg (aD.enc a0),.agg (aC.enc a1)] (.bool (zb0 a0 a1)):=ok2 (λ r=>.bool r) (zb0.eq_1 a0 a1) Tryz.f201 []
def zg5(a0 a1:Int):Option Bool:=
 gd ((zr5 a0&&zr5 a1)=true->0<=i64.wrap (a0-1)/\i64.wrap (a0-1)<5)<|
 gd ((zr5 a0&&zr5 a1)=true->0<=i64.wrap (a1-1)/\i64.wrap (a1-1)<5)<|
 some ((zr5 a0&&zr5 a1)&&Arr.get (Arr.get zbl4 ((i64.wrap (a0-1)).toNat) (Arr.rep 5 false)) ((i64.wrap (a1-1)).toNat) false)
instance zbm1(a0 a1:Int):OkP (zg5 a0 a1) 280 [.int .i64 a0,.int .i64 a1] (λ r=>.bool r):=ok1 (zg5.eq_1 a0 a1) Tryz.f280 []
attribute [local irreducible] zg5
def zU9(a0:aC):Bool:=
 (if(!decide (a0.mode=0))=true then
  (zr5 a0.mode&&decide (a0.aU=0))
 else
  (decide (1<=a0.aU)&&decide (a0.aU<=8)))
instance zda8(a0:aC):OkT 194 [.agg (aC.enc a0)] (.bool (zU9 a0)):=ok2 (λ r=>.bool r) (zU9.eq_1 a0) Tryz.f194 []
def zax9(j1:Bool×bA×(List bA)):Option ((List bA)×Bool×bA):=
 some (j1.2.2,j1.1,j1.2.1)
def zK7(a0:List bA)(g1:Int×Bool×bA×(List bA)):Option ((Int×Bool×bA×(List bA))⊕(Bool×bA×(List bA))):=
 (if(decide (g1.1<(a0.length:Int)))=true then
  gd (0<=g1.1/\g1.1<(a0.length:Int))<|
  (zc5 (a0.getD g1.1.toNat bA.zero) g1.2.1 g1.2.2.1).bind λ v1=>
  (if(!v1.1)=true then
   gd (g1.2.2.2.length+1<=4294967296)<|
   some (.inl ((i64.wrap (g1.1+1)),v1.2.1,v1.2.2,(g1.2.2.2++[(a0.getD g1.1.toNat bA.zero)])))
  else
   some (.inl ((i64.wrap (g1.1+1)),v1.2.1,v1.2.2,g1.2.2.2)))
 else
  some (.inr (g1.2.1,g1.2.2.1,g1.2.2.2)))
def ze4(a0:List bA)(a1:Bool)(a2:bA):Option ((List bA)×Bool×bA):=
 (zc0 (zK7 a0) (0,a1,a2,[])).bind (λ z=>zax9 z)
@[reducible,instance] def zdP1 (a0:List bA) (a1:Bool) (a2:bA):=mkJ (ze4 a0 a1 a2) 0 (@zax9.eq_1) λ(j1:Bool×bA×(List bA))=>⟨[(5,.own 2 0 j1.2.2.length)],[(0,⟨false,1,[A.bool false],[[A.bool j1.1]]⟩),(1,bx j1.2.1),(2,sx j1.2.2)],3⟩
@[reducible,instance] def zdP2 (a0:List bA) {T:Type} (x:T):=mkL x (@zK7.eq_1 a0) λ(g1:Int×Bool×bA×(List bA))=>⟨[(1,.clo 103 [.ptr 0 0 0,.ptr 1 0 0]),(5,.own 2 0 g1.2.2.2.length),(8,la a0),(9,.int .i64 (a0.length:Int)),(10,.int .i64 g1.1)],[(0,⟨false,1,[A.bool false],[[A.bool g1.2.1]]⟩),(1,bx g1.2.2.1),(2,sx g1.2.2.2)],3⟩
instance zbh2(a0:List bA)(a1:Bool)(a2:bA):OkM (ze4 a0 a1 a2) 102 [la a0,.clo 103 [.ptr 0 0 0,.ptr 1 0 0]] [(0,⟨false,1,[A.bool false],[[A.bool a1]]⟩),(1,bx a2)] 2 (λ r=>la r.1) (λ r=>[(0,⟨false,1,[A.bool false],[[A.bool r.2.1]]⟩),(1,bx r.2.2)]) 2:=⟨λ r h=>by
 refine zZ4 Tryz.f102 [(5,1),(16,1)] [la r.1] λ E hG hN hK=>?_;have hm:Mk (ze4 a0 a1 a2):=trivial;unfold ze4 at h;refine za0 (za1 hG ?_);refine za0 (za1 hG ?_);refine za0 (za0 (za1 hG ?_));refine zaw7 hm h (λ j1 hm h=>?_) ?_
 · try refine g_st ?_
   refine za0 (za1 hG ?_);refine g_gh (.fz [2]) ?_;exact gogo
 exact gogo⟩
attribute [local irreducible] ze4
def zf5(a0:aA)(a1:aF):Option (aA×aF):=
 (zh5 a0.aH a1).bind λ v1=>
 some ({a0 with aH:=v1.1},a1)
instance zaZ1(a0:aA)(a1:aF):OkM (zf5 a0 a1) 264 [.ptr 0 0 0,.ptr 1 0 0] [(0,bx a0),(1,bx a1)] 2 (λ r=>.tup []) (λ r=>[(0,bx r.1),(1,bx r.2)]) 2:=okm (zf5.eq_1 a0 a1) (λ r=>[]) Tryz.f264 []
attribute [local irreducible] zf5
def zo0(a0 a1:aA):Option Bool:=
 ((if(decide (a0.aB=a1.aB)&&decide (a0.gen=a1.gen))=true then zd2 a0.aL a1.aL else some false)).bind λ v1=>
 ((if((decide (a0.aB=a1.aB)&&decide (a0.gen=a1.gen))&&v1)=true then zc7 a0.aH a1.aH else some false)).bind λ v2=>
 ((if(((decide (a0.aB=a1.aB)&&decide (a0.gen=a1.gen))&&v1)&&v2)=true then zc7 a0.aT a1.aT else some false)).bind λ v3=>
 some ((((decide (a0.aB=a1.aB)&&decide (a0.gen=a1.gen))&&v1)&&v2)&&v3)
instance zdi6(a0 a1:aA):OkP (zo0 a0 a1) 78 [ga a0,ga a1] (λ r=>.bool r):=ok1 (zo0.eq_1 a0 a1) Tryz.f78 []
attribute [local irreducible] zo0
def zI3(a0 a1:Int):Bool:=
 (if((((!(zv7 a0))||(!(zv7 a1)))||decide (a0=5))||decide (a1=5))=true then
  false
 else
  ((decide (a0=1)||decide (a1=1))||(decide (a0=a1)&&(!decide (a0=4)))))
instance zcx7(a0 a1:Int):OkT 282 [.int .i64 a0,.int .i64 a1] (.bool (zI3 a0 a1)):=ok2 (λ r=>.bool r) (zI3.eq_1 a0 a1) Tryz.f282 []
end
end Ab
end Go.Proofs.YtdlfhmkmnjbihaaGreatDoor
