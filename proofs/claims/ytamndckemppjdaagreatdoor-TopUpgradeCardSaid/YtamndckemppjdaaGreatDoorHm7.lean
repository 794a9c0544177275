import Derived.Test.YtamndckemppjdaaGreatDoorHm1
import Derived.Test.YtamndckemppjdaaGreatDoorHm2
import Derived.Test.YtamndckemppjdaaGreatDoorHm4
namespace Go.Proofs.YtamndckemppjdaaGreatDoor
namespace Ab
open IntKind (i64 u64 u8 u32)
set_option linter.unusedSimpArgs false
set_option linter.defProp false
set_option linter.unusedVariables false
set_option maxRecDepth 100000
set_option maxHeartbeats 4000000
noncomputable section
attribute [local irreducible] zn9 zf4 zb7 ze8 zl6 zk8 zd0 zd6 zc8 zf7 zn2 zb8 zq7 zh1 zc1 zk5 zm2 zb4 zg1 za4 zk1 ze6 zb5 zd3 ze9 zd5 zm0 zn3 zi7 zg7 zg5 zh7 zg2 zd9 zh5 zi8 zk9 zb2 zg4 za6 zi9 za9 zb9 zf1 zj6 zf2 zi3 za8 za7 za5 zh2 zj2 zf3
def zaK6(j1:(List aG)):Option (List aG):=
 some j1
def zaK7(a0:Int)(g1:Int×(List aG)):Option ((Int×(List aG))⊕(List aG)):=
 (if(decide (g1.1<a0))=true then
  gd (g1.2.length+1<=4294967296)<|
  some (.inl ((i64.wrap (g1.1+1)),(g1.2++[{aG.zero with name:=(zG7 g1.1),kind:=1,bJ:=1}])))
 else
  some (.inr g1.2))
def zj8(a0:Int):Option (List aG):=
 (zg8 (zaK7 a0) (0,[])).bind (λ z=>zaK6 z)
@[reducible,instance] def zdJ0 a0:=mkJ (zj8 a0) 0 (@zaK6.eq_1) λ(j1:(List aG))=>⟨[(3,.own 0 0 j1.length)],[(0,sx j1)],1⟩
@[reducible,instance] def zdJ1 (a0:Int) {T:Type} (x:T):=mkL x (@zaK7.eq_1 a0) λ(g1:Int×(List aG))=>⟨[(0,.int .i64 a0),(3,.own 0 0 g1.2.length),(4,.int .i64 g1.1)],[(0,sx g1.2)],1⟩
instance zaW1(a0:Int):OkP (zj8 a0) 7 [.int .i64 a0] (λ r=>la r):=ok1 (zj8.eq_1 a0) Tryz.f7 [(3,1)]
attribute [local irreducible] zj8
def zaf8(j1:Unit):Option Bool:=
 some true
def zaf9(a0:ByteArray)(g1:Int):Option (Int⊕(Unit⊕Bool)):=
 (if(decide (g1<(a0.size:Int)))=true then
  gd (0<=g1/\g1<(a0.size:Int))<|
  (if((!(decide (97<=((a0.toList.getD g1.toNat 0).toNat:Int))&&decide (((a0.toList.getD g1.toNat 0).toNat:Int)<=122)))&&(decide (g1=0)||(!(((decide (48<=((a0.toList.getD g1.toNat 0).toNat:Int))&&decide (((a0.toList.getD g1.toNat 0).toNat:Int)<=57))||decide (((a0.toList.getD g1.toNat 0).toNat:Int)=95))||decide (((a0.toList.getD g1.toNat 0).toNat:Int)=45)))))=true then
   some (.inr (.inr false))
  else
   some (.inl (i64.wrap (g1+1))))
 else
  some (.inr (.inl ())))
def zg3(a0:ByteArray):Option Bool:=
 (if((decide ((a0.size:Int)<1)||decide (12<(a0.size:Int)))||zS6 a0)=true then
  some false
 else
  (zg8 (zaf9 a0) 0).bind (λ|.inl z=>zaf8 z|.inr z=>some z))
@[reducible,instance] def zdJ2 a0:=mkJ (zg3 a0) 0 (@zaf8.eq_1) λ(j1:Unit)=>⟨[],[],0⟩
@[reducible,instance] def zdJ3 (a0:ByteArray) {T:Type} (x:T):=mkL x (@zaf9.eq_1 a0) λ(g1:Int)=>⟨[(0,.str a0),(20,.int .i64 (a0.size:Int)),(21,.int .i64 g1)],[],0⟩
instance zbC0(a0:ByteArray):OkP (zg3 a0) 103 [.str a0] (λ r=>.bool r):=ok1 (zg3.eq_1 a0) Tryz.f103 []
attribute [local irreducible] zg3
def zd7(a0 a1:aF):Option Int:=
 (zi9 (⟨[a0.site,a0.inc,a0.num],rfl⟩:Arr Int 3) (⟨[a1.site,a1.inc,a1.num],rfl⟩:Arr Int 3)).bind λ v1=>
 some v1
instance zO1(a0 a1:aF):OkP (zd7 a0 a1) 43 [ga a0,ga a1] (λ r=>.int .i64 r):=ok1 (zd7.eq_1 a0 a1) Tryz.f43 []
attribute [local irreducible] zd7
def zm3(a0:aC)(a1:aF):Option aJ:=
 (zm0 a0.bR a1).bind λ v1=>
 some v1
instance zaP2(a0:aC)(a1:aF):OkP (zm3 a0 a1) 166 [ga a0,ga a1] (λ r=>ga r):=ok1 (zm3.eq_1 a0 a1) Tryz.f166 []
attribute [local irreducible] zm3
def zA6(j2:(List aW)):Option (List aW):=
 some j2
@[go_sem] def zcs1(j2:(List aW)):St:=⟨[(6,.own 0 0 j2.length)],[(0,sx j2)],1⟩
def zJ3(a0:List (List aW))(g1:Int×(List aW)):Option ((Int×(List aW))⊕(List aW)):=
 (if(decide (g1.1<(a0.length:Int)))=true then
  gd (0<=g1.1/\g1.1<(a0.length:Int))<|
  gd (g1.2.length+(a0.getD g1.1.toNat []).length<=4294967296)<|
  some (.inl ((i64.wrap (g1.1+1)),(g1.2++a0.getD g1.1.toNat [])))
 else
  some (.inr g1.2))
@[go_sem] def zcs2(a0:List (List aW))(g1:Int×(List aW)):St:=⟨[(6,.own 0 0 g1.2.length),(25,.sl (a0.map (eL aW.enc))),(26,.int .i64 (a0.length:Int)),(27,.int .i64 g1.1)],[(0,sx g1.2)],1⟩
def zA7(a0:List (List aW))(j1:Int):Option (List aW):=
 (zc1 j1).bind λ v1=>
 (zg8 (zJ3 a0) (0,v1)).bind (λ z=>zA6 z)
@[go_sem] def zcs3(a0:List (List aW))(j1:Int):St:=⟨[(0,.sl (a0.map (eL aW.enc))),(3,.int .i64 j1)],[],0⟩
def zJ4(a0:List (List aW))(g2:Int×Int):Option ((Int×Int)⊕Int):=
 (if(decide (g2.2<(a0.length:Int)))=true then
  gd (0<=g2.2/\g2.2<(a0.length:Int))<|
  (if(decide (i64.wrap (g2.1+((a0.getD g2.2.toNat []).length:Int))<0))=true then
   none
  else
   some (.inl ((i64.wrap (g2.1+((a0.getD g2.2.toNat []).length:Int))),i64.wrap (g2.2+1))))
 else
  some (.inr g2.1))
@[go_sem] def zcs4(a0:List (List aW))(g2:Int×Int):St:=⟨[(0,.sl (a0.map (eL aW.enc))),(3,.int .i64 g2.1),(9,.sl (a0.map (eL aW.enc))),(10,.int .i64 (a0.length:Int)),(11,.int .i64 g2.2)],[],0⟩
def zc5(a0:List (List aW)):Option (List aW):=
 (zg8 (zJ4 a0) (0,0)).bind (λ z=>zA7 a0 z)
theorem zac0(a0:List (List aW))(r:(List aW))(h:zc5 a0=some r):PFn C 286 [.sl (a0.map (eL aW.enc))] (la r):=by
 refine zx6 Tryz.f286 [] λ E hG hN hK=>?_;unfold zc5 at h;refine za2 (za3 hG ?_);refine za2 (za3 hG ?_);refine za2 (za2 (za3 hG ?_));refine zs5 (zcs3 a0) (λ v=>zA7 a0 v=some r) ?_ ?_
 · intro j1 h
   unfold zA7 at h;refine g_st ?_;refine za2 (za3 hG ?_);obtain⟨v1,hv1,h⟩:=zd2 h;refine zs2 [] [(0,0)] [0] (zaa8 _ _ hv1) rfl rfl ?_;refine za2 (za2 (za3 hG ?_));refine zs5 zcs1 (λ v=>zA6 v=some r) ?_ ?_
   · intro j2 h
     unfold zA6 at h;refine g_st ?_;refine za2 (za3 hG ?_);refine zo3 ?_;exact zt5 h
   refine zz0 (zcs2 a0) hK [(0,0)] h (λ x_l1 h g1 y_l1 h_l1 hx_l1=>?_);unfold zJ3 at h_l1;refine g_st ?_;refine za2 (za3 hG ?_);refine za2 ?_;refine zh3 rfl hG h_l1 (λ _ h_l1=>?_) (λ _ h_l1=>?_)
   · refine zh0 ?_
     refine za2 (zr6 (za2 ?_));obtain⟨hb2,h_l1⟩:=ze5 h_l1;refine za3 hG ?_;obtain⟨hb1,h_l1⟩:=ze5 h_l1;refine za3 hG ?_;refine za3 hG ?_;exact zy5 hK [(0,1)] h_l1
   refine zv7 ?_;cases h_l1;cases hx_l1 _ rfl;exact zs8 hK [(0,0)] g1.2 (by exact h)
 refine zz0 (zcs4 a0) hK [] h (λ x_l2 h g2 y_l2 h_l2 hx_l2=>?_);unfold zJ4 at h_l2;refine g_st ?_;refine za2 (za3 hG ?_);refine za2 ?_;refine zh3 rfl hG h_l2 (λ _ h_l2=>?_) (λ _ h_l2=>?_)
 · refine zh0 ?_
   refine za2 (zr6 (za2 ?_));obtain⟨hb3,h_l2⟩:=ze5 h_l2;refine za3 hG ?_;refine za2 (za3 hG ?_);refine za2 (za3 hG ?_);refine zh3 rfl hG h_l2 (λ _ h_l2=>?_) (λ _ h_l2=>?_)
   .exact zV9 h_l2
   refine zh0 ?_;refine za3 hG ?_;exact zy5 hK [] h_l2
 refine zv7 ?_;cases h_l2;cases hx_l2 _ rfl;exact zs8 hK [] g2.1 (by exact h)
instance zaP3(a0:List (List aW)):OkP (zc5 a0) 286 [.sl (a0.map (eL aW.enc))] (λ r=>la r):=⟨zac0 a0⟩
attribute [local irreducible] zc5
def zh9(a0:aC)(a1:aF):Option (aC×aF):=
 (zk8 a0.aV a1).bind λ v1=>
 some ({a0 with aV:=v1.1},a1)
instance zaK8(a0:aC)(a1:aF):OkM (zh9 a0 a1) 199 [.ptr 0 0 0,.ptr 1 0 0] [(0,bx a0),(1,bx a1)] 2 (λ r=>.tup []) (λ r=>[(0,bx r.1),(1,bx r.2)]) 2:=okm (zh9.eq_1 a0 a1) (λ r=>[]) Tryz.f199 []
attribute [local irreducible] zh9
def zi0(a0:aC)(a1:aF):Option (aC×aF):=
 (zk8 a0.bO a1).bind λ v1=>
 some ({a0 with bO:=v1.1},a1)
instance zaK9(a0:aC)(a1:aF):OkM (zi0 a0 a1) 225 [.ptr 0 0 0,.ptr 1 0 0] [(0,bx a0),(1,bx a1)] 2 (λ r=>.tup []) (λ r=>[(0,bx r.1),(1,bx r.2)]) 2:=okm (zi0.eq_1 a0 a1) (λ r=>[]) Tryz.f225 []
attribute [local irreducible] zi0
def zh4(a0:aC):Option aC:=
 (zb2 a0.bR).bind λ v1=>
 (za8 (({a0 with bR:=v1}).aV)).bind λ v2=>
 (za8 (({{a0 with bR:=v1}with aV:=v2}).bO)).bind λ v3=>
 some ({{{a0 with bR:=v1}with aV:=v2}with bO:=v3})
instance zbC1(a0:aC):OkP (zh4 a0) 86 [ga a0] (λ r=>ga r):=ok1 (zh4.eq_1 a0) Tryz.f86 []
attribute [local irreducible] zh4
def zj1(a0 a1:aC):Option Int:=
 (zg7 a0.aQ.name a1.aQ.name).bind λ v1=>
 some v1
instance zbH3(a0 a1:aC):OkP (zj1 a0 a1) 89 [ga a0,ga a1] (λ r=>.int .i64 r):=ok1 (zj1.eq_1 a0 a1) Tryz.f89 []
attribute [local irreducible] zj1
def zw4(a0:aG)(a1:aJ):Bool:=
 (if(!(zJ1 a0))=true then
  false
 else
  (if(decide (a0.kind=1))=true then
   (zy8 a1.mode&&decide (a1.bJ=0))
  else
   ((decide (a1.mode=0)&&decide (1<=a1.bJ))&&decide (a1.bJ<=a0.bJ))))
instance zbk8(a0:aG)(a1:aJ):OkT 113 [.agg (aG.enc a0),.agg (aJ.enc a1)] (.bool (zw4 a0 a1)):=ok2 (λ r=>.bool r) (zw4.eq_1 a0 a1) Tryz.f113 []
def zk2(a0 a1:Int):Option Bool:=
 gd ((zy8 a0&&zy8 a1)=true->0<=i64.wrap (a0-1)/\i64.wrap (a0-1)<5)<|
 gd ((zy8 a0&&zy8 a1)=true->0<=i64.wrap (a1-1)/\i64.wrap (a1-1)<5)<|
 some ((zy8 a0&&zy8 a1)&&Arr.get (Arr.get zbk5 ((i64.wrap (a0-1)).toNat) (Arr.rep 5 false)) ((i64.wrap (a1-1)).toNat) false)
instance zaS1(a0 a1:Int):OkP (zk2 a0 a1) 313 [.int .i64 a0,.int .i64 a1] (λ r=>.bool r):=ok1 (zk2.eq_1 a0 a1) Tryz.f313 []
attribute [local irreducible] zk2
def zn8(a0 a1:Int):Option Bool:=
 gd ((zy8 a0&&zy8 a1)=true->0<=a1/\a1<6)<|
 some ((zy8 a0&&zy8 a1)&&Arr.get (zar6 a0) a1.toNat false)
instance zca1(a0 a1:Int):OkP (zn8 a0 a1) 182 [.int .i64 a0,.int .i64 a1] (λ r=>.bool r):=ok1 (zn8.eq_1 a0 a1) Tryz.f182 []
attribute [local irreducible] zn8
def zab1(a0:aJ):Bool:=
 (if(!decide (a0.mode=0))=true then
  (zy8 a0.mode&&decide (a0.bJ=0))
 else
  (decide (1<=a0.bJ)&&decide (a0.bJ<=8)))
instance zca2(a0:aJ):OkT 104 [.agg (aJ.enc a0)] (.bool (zab1 a0)):=ok2 (λ r=>.bool r) (zab1.eq_1 a0) Tryz.f104 []
def zm1(a0 a1:aO):Option Int:=
 (zg7 a0.name a1.name).bind λ v1=>
 some v1
instance zaZ4(a0 a1:aO):OkP (zm1 a0 a1) 171 [ga a0,ga a1] (λ r=>.int .i64 r):=ok1 (zm1.eq_1 a0 a1) Tryz.f171 []
attribute [local irreducible] zm1
def zF3(j1:aC):Option (Int×aC):=
 some ((-1),j1)
def zF4(a0:List aO)(g1:Int×aC):Option ((Int×aC)⊕(aC⊕(Int×aC))):=
 (if(decide (g1.1<(a0.length:Int)))=true then
  gd (0<=g1.1/\g1.1<(a0.length:Int))<|
  (zd9 (a0.getD g1.1.toNat aO.zero) g1.2).bind λ v1=>
  (if v1.1=true then
   some (.inr (.inr (g1.1,v1.2)))
  else
   some (.inl ((i64.wrap (g1.1+1)),v1.2)))
 else
  some (.inr (.inl g1.2)))
def zb6(a0:List aO)(a1:aC):Option (Int×aC):=
 (zg8 (zF4 a0) (0,a1)).bind (λ|.inl z=>zF3 z|.inr z=>some z)
@[reducible,instance] def zdu0 a0 a1:=mkJ (zb6 a0 a1) 0 (@zF3.eq_1) λ(j1:aC)=>⟨[],[(0,bx j1)],1⟩
@[reducible,instance] def zdu1 (a0:List aO) {T:Type} (x:T):=mkL x (@zF4.eq_1 a0) λ(g1:Int×aC)=>⟨[(0,la a0),(1,.clo 233 [.ptr 0 0 0]),(7,.int .i64 (a0.length:Int)),(8,.int .i64 g1.1)],[(0,bx g1.2)],1⟩
instance zaH9(a0:List aO)(a1:aC):OkM (zb6 a0 a1) 164 [la a0,.clo 233 [.ptr 0 0 0]] [(0,bx a1)] 1 (λ r=>.int .i64 r.1) (λ r=>[(0,bx r.2)]) 1:=okm (zb6.eq_1 a0 a1) (λ r=>[.int .i64 r.1]) Tryz.f164 [(16,1)]
attribute [local irreducible] zb6
def zj0(a0:aC)(a1:aF):Option (aC×aF):=
 (zk8 a0.bO a1).bind λ v1=>
 some ({a0 with bO:=v1.1},a1)
instance zaL0(a0:aC)(a1:aF):OkM (zj0 a0 a1) 201 [.ptr 0 0 0,.ptr 1 0 0] [(0,bx a0),(1,bx a1)] 2 (λ r=>.tup []) (λ r=>[(0,bx r.1),(1,bx r.2)]) 2:=okm (zj0.eq_1 a0 a1) (λ r=>[]) Tryz.f201 []
attribute [local irreducible] zj0
def zR7(j1:(List Int)):Option (List Int):=
 some j1
def zR8(g1:Int×(List Int)):Option ((Int×(List Int))⊕(List Int)):=
 (if(!decide (g1.1=0))=true then
  (zc8 g1.1).bind λ v1=>
  gd (g1.2.length+1<=4294967296)<|
  some (.inl ((zn0 .and .u64 g1.1 (u64.wrap (g1.1-1))),(g1.2++[v1])))
 else
  some (.inr g1.2))
def zd8(a0:aD):Option (List Int):=
 (zg8 zR8 (a0.set,[])).bind (λ z=>zR7 z)
@[reducible,instance] def zdu2 a0:=mkJ (zd8 a0) 0 (@zR7.eq_1) λ(j1:(List Int))=>⟨[(3,.own 0 0 j1.length)],[(0,⟨false,1,[A.int .i64 0],j1.map (eI .i64)⟩)],1⟩
@[reducible,instance] def zdu3 {T:Type} (x:T):=mkL x (@zR8.eq_1) λ(g1:Int×(List Int))=>⟨[(3,.own 0 0 g1.2.length),(4,.int .u64 g1.1)],[(0,⟨false,1,[A.int .i64 0],g1.2.map (eI .i64)⟩)],1⟩
instance zaq0(a0:aD):OkP (zd8 a0) 29 [ga a0] (λ r=>.sl (r.map (eI .i64))):=ok1 (zd8.eq_1 a0) Tryz.f29 [(3,1)]
attribute [local irreducible] zd8
def zal8(j2:aA):Option aA:=
 some j2
def zal9(a0:aA)(g1:Int×aA):Option ((Int×aA)⊕aA):=
 (if(decide (g1.1<(a0.aK.length:Int)))=true then
  gd (0<=g1.1/\g1.1<(a0.aK.length:Int))<|
  (ze9 ((a0.aK.getD g1.1.toNat bK.zero).bQ)).bind λ v1=>
  gd (g1.2.aK.length+1<=4294967296)<|
  some (.inl ((i64.wrap (g1.1+1)),(⟨g1.2.aB,(g1.2.aK++[{(a0.aK.getD g1.1.toNat bK.zero)with bQ:=v1}])⟩:aA)))
 else
  some (.inr g1.2))
def zW6(a0 j1:aA):Option aA:=
 (zg8 (zal9 a0) (0,j1)).bind (λ z=>zal8 z)
def zam0(a0:aA)(g2:Int×aA):Option ((Int×aA)⊕aA):=
 (if(decide (g2.1<(a0.aB.length:Int)))=true then
  gd (0<=g2.1/\g2.1<(a0.aB.length:Int))<|
  (zb2 ((a0.aB.getD g2.1.toNat aC.zero).bR)).bind λ v2=>
  (za8 ((a0.aB.getD g2.1.toNat aC.zero).aV)).bind λ v3=>
  (za8 ((a0.aB.getD g2.1.toNat aC.zero).bO)).bind λ v4=>
  gd (g2.2.aB.length+1<=4294967296)<|
  some (.inl ((i64.wrap (g2.1+1)),(⟨(g2.2.aB++[{{{(a0.aB.getD g2.1.toNat aC.zero)with bR:=v2}with aV:=v3}with bO:=v4}]),g2.2.aK⟩:aA)))
 else
  some (.inr g2.2))
def zi5(a0:aA):Option aA:=
 (zg8 (zam0 a0) (0,(⟨[],[]⟩:aA))).bind (λ z=>zW6 a0 z)
@[reducible,instance] def zdu4 (a0 j1:aA):=mkJ (zW6 a0 j1) 2 (@zal8.eq_1) λ(j2:aA)=>⟨[(2,.ptr 0 0 0),(3,.ptr 1 0 0)],[(0,bx aA.zero),(1,⟨false,2,aA.enc aA.zero,[[.own 2 0 j2.aB.length,.own 3 0 j2.aK.length]]⟩),(2,sx j2.aB),(3,sx j2.aK)],4⟩
@[reducible,instance] def zdu5 (a0:aA) {T:Type} (x:T):=mkL x (@zal9.eq_1 a0) λ(g1:Int×aA)=>⟨[(2,.ptr 0 0 0),(3,.ptr 1 0 0),(35,la a0.aK),(36,.int .i64 (a0.aK.length:Int)),(37,.int .i64 g1.1)],[(0,bx aA.zero),(1,⟨false,2,aA.enc aA.zero,[[.own 2 0 g1.2.aB.length,.own 3 0 g1.2.aK.length]]⟩),(2,sx g1.2.aB),(3,sx g1.2.aK)],4⟩
@[reducible,instance] def zdu6 (a0:aA):=mkJ (zi5 a0) 0 (@zW6.eq_1 a0) λ(j1:aA)=>⟨[(1,.ptr 0 0 0),(2,.ptr 1 0 0),(3,.ptr 2 0 0)],[(0,bx a0),(1,bx aA.zero),(2,⟨false,2,aA.enc aA.zero,[[.own 3 0 j1.aB.length,.own 4 0 j1.aK.length]]⟩),(3,sx j1.aB),(4,sx j1.aK)],5⟩
@[reducible,instance] def zdu7 (a0:aA) {T:Type} (x:T):=mkL x (@zam0.eq_1 a0) λ(g2:Int×aA)=>⟨[(1,.ptr 0 0 0),(2,.ptr 1 0 0),(3,.ptr 2 0 0),(9,la a0.aB),(10,.int .i64 (a0.aB.length:Int)),(11,.int .i64 g2.1)],[(0,bx a0),(1,bx aA.zero),(2,⟨false,2,aA.enc aA.zero,[[.own 3 0 g2.2.aB.length,.own 4 0 g2.2.aK.length]]⟩),(3,sx g2.2.aB),(4,sx g2.2.aK)],5⟩
instance zbH4(a0:aA):OkP (zi5 a0) 106 [ga a0] (λ r=>ga r):=⟨λ r h=>by
 refine zx6 Tryz.f106 [(3,5)] λ E hG hN hK=>?_;have hm:Mk (zi5 a0):=trivial;unfold zi5 at h;refine za2 (za3 hG ?_);refine za2 (za3 hG ?_);refine g_gh (.ownb 2 0 8 (aC.enc aC.zero)) ?_;refine g_gh (.ownb 2 1 9 (bK.enc bK.zero)) ?_;exact gogo⟩
attribute [local irreducible] zi5
def zq5(a0:List Int)(a1:Int):Option Int:=
 (if(decide ((a0.length:Int)<=a1))=true then
  some 1
 else
  gd (0<=a1/\a1<(a0.length:Int))<|
  (zq7 (a0.getD a1.toNat 0) 100).bind λ v1=>
  some (i64.wrap (1+v1)))
instance zbC2(a0:List Int)(a1:Int):OkP (zq5 a0 a1) 11 [.sl (a0.map (eI .i64)),.int .i64 a1] (λ r=>.int .i64 r):=ok1 (zq5.eq_1 a0 a1) Tryz.f11 []
attribute [local irreducible] zq5
def zj7(a0:aF):Bool:=
 ((zT5 a0.site 0 3&&zT5 a0.inc 1 99)&&zT5 a0.num 1 999)
instance zac1(a0:aF):OkT 69 [.agg (aF.enc a0)] (.bool (zj7 a0)):=ok2 (λ r=>.bool r) (zj7.eq_1 a0) Tryz.f69 []
def zas5(j1:Int×(List aG)×ByteArray):Option (Int×(List aG)×ByteArray):=
 some (j1.1,j1.2.1,j1.2.2)
def zas6(g1:Int×Int×(List aG)×ByteArray):Option ((Int×Int×(List aG)×ByteArray)⊕(Int×(List aG)×ByteArray)):=
 (if(decide (g1.1<g1.2.1))=true then
  (zg2 (i64.wrap ((u64.wrap (i64.wrap (g1.1+g1.2.1))).fdiv (2^1))) g1.2.2.1 g1.2.2.2).bind λ v1=>
  (if(!v1.1)=true then
   some (.inl ((i64.wrap (i64.wrap ((u64.wrap (i64.wrap (g1.1+g1.2.1))).fdiv (2^1))+1)),g1.2.1,v1.2.1,v1.2.2))
  else
   some (.inl (g1.1,i64.wrap ((u64.wrap (i64.wrap (g1.1+g1.2.1))).fdiv (2^1)),v1.2.1,v1.2.2)))
 else
  some (.inr (g1.1,g1.2.2.1,g1.2.2.2)))
def zl0(a0:Int)(a1:List aG)(a2:ByteArray):Option (Int×(List aG)×ByteArray):=
 (zg8 zas6 (0,a0,a1,a2)).bind (λ z=>zas5 z)
@[reducible,instance] def zdu8 a0 a1 a2:=mkJ (zl0 a0 a1 a2) 0 (@zas5.eq_1) λ(j1:Int×(List aG)×ByteArray)=>⟨[(5,.int .i64 j1.1)],[(0,⟨false,1,[A.sl ([].map aG.enc)],[[A.sl (j1.2.1.map aG.enc)]]⟩),(1,⟨false,1,[A.str ⟨#[]⟩],[[A.str j1.2.2]]⟩)],2⟩
@[reducible,instance] def zdu9 {T:Type} (x:T):=mkL x (@zas6.eq_1) λ(g1:Int×Int×(List aG)×ByteArray)=>⟨[(1,.clo 302 [.ptr 0 0 0,.ptr 1 0 0]),(5,.int .i64 g1.1),(6,.int .i64 g1.2.1)],[(0,⟨false,1,[A.sl ([].map aG.enc)],[[A.sl (g1.2.2.1.map aG.enc)]]⟩),(1,⟨false,1,[A.str ⟨#[]⟩],[[A.str g1.2.2.2]]⟩)],2⟩
instance zbM2(a0:Int)(a1:List aG)(a2:ByteArray):OkM (zl0 a0 a1 a2) 301 [.int .i64 a0,.clo 302 [.ptr 0 0 0,.ptr 1 0 0]] [(0,⟨false,1,[A.sl ([].map aG.enc)],[[A.sl (a1.map aG.enc)]]⟩),(1,⟨false,1,[A.str ⟨#[]⟩],[[A.str a2]]⟩)] 2 (λ r=>.int .i64 r.1) (λ r=>[(0,⟨false,1,[A.sl ([].map aG.enc)],[[A.sl (r.2.1.map aG.enc)]]⟩),(1,⟨false,1,[A.str ⟨#[]⟩],[[A.str r.2.2]]⟩)]) 2:=okm (zl0.eq_1 a0 a1 a2) (λ r=>[.int .i64 r.1]) Tryz.f301 [(20,1)]
attribute [local irreducible] zl0
def zm9(a0:bG)(a1:ByteArray):Option aJ:=
 (zi7 a0.bB).bind λ v1=>
 some ((mget a1 v1).getD aJ.zero)
instance zbk9(a0:bG)(a1:ByteArray):OkP (zm9 a0 a1) 128 [ga a0,.str a1] (λ r=>ga r):=ok1 (zm9.eq_1 a0 a1) Tryz.f128 []
attribute [local irreducible] zm9
def zf0(a0:aH):Option aH:=
 gd (a0.bH.bB.length<=4294967296)<|
 gd (a0.bH.cB.length<=4294967296)<|
 (zg1 a0.aR.bQ).bind λ v1=>
 some (⟨(⟨a0.aZ.site,a0.aZ.inc,a0.aZ.num⟩:aF),a0.cost,(⟨a0.bH.bB,a0.bH.cB⟩:bG),a0.bW,(⟨(⟨v1.k,(⟨v1.bV.name,(⟨v1.bV.aY.mode,v1.bV.aY.bJ⟩:aJ)⟩:aO),v1.bU⟩:aP),a0.aR.bT,a0.aR.limit⟩:bL),a0.since,a0.gen⟩:aH)
theorem zad3(a0 r:aH)(h:zf0 a0=some r):PFn C 68 [ga a0] (ga r):=by refine zx6 Tryz.f68 [] λ E hG hN hK=>?_;unfold zf0 at h;refine za2 (za3 hG ?_);refine za2 ?_;obtain⟨hb2,h⟩:=ze5 h;refine za3 hG ?_;refine za2 ?_;obtain⟨hb1,h⟩:=ze5 h;refine za3 hG ?_;refine za2 (za3 hG ?_);obtain⟨v1,hv1,h⟩:=zd2 h;refine zn1 (λ hg=>zbY5 (by rw[aP.enc];first|done|(simp only[aO.enc,aJ.enc,List.cons_append,List.nil_append,eN])) ((zal7 a0.aR.bQ).ok _ hv1)) ?_;refine za2 (za3 hG ?_);refine zo3 ?_;exact zt5 h (by intro e;subst e;simp[aF.enc,bG.enc,aO.enc,aJ.enc])
attribute [local irreducible] zf0
def zc3(a0:List aF)(a1:aF):Option Bool:=
 (zb7 a0 a1).bind λ v1=>
 some (decide (0<=v1))
instance zaN4(a0:List aF)(a1:aF):OkP (zc3 a0 a1) 78 [la a0,ga a1] (λ r=>.bool r):=ok1 (zc3.eq_1 a0 a1) Tryz.f78 []
attribute [local irreducible] zc3
def zf5(a0:aC):Option aC:=
 (zb2 a0.bR).bind λ v1=>
 (za8 a0.aV).bind λ v2=>
 (za8 a0.bO).bind λ v3=>
 some ({{{a0 with bR:=v1}with aV:=v2}with bO:=v3})
instance zbq8(a0:aC):OkP (zf5 a0) 35 [ga a0] (λ r=>ga r):=ok1 (zf5.eq_1 a0) Tryz.f35 []
attribute [local irreducible] zf5
def zag0(a0 a1:ByteArray):Bool:=
 ((zS4 a0&&(!(zS4 a1)))||Op.bytesLess a0.toList a1.toList)
instance zbH5(a0 a1:ByteArray):OkT 244 [.str a0,.str a1] (.bool (zag0 a0 a1)):=ok2 (λ r=>.bool r) (zag0.eq_1 a0 a1) Tryz.f244 []
def zE0(j1:aC):Option (Int×aC):=
 some ((-1),j1)
def zE1(a0:List aO)(g1:Int×aC):Option ((Int×aC)⊕(aC⊕(Int×aC))):=
 (if(decide (g1.1<(a0.length:Int)))=true then
  gd (0<=g1.1/\g1.1<(a0.length:Int))<|
  (zf3 (a0.getD g1.1.toNat aO.zero) g1.2).bind λ v1=>
  (if v1.1=true then
   some (.inr (.inr (g1.1,v1.2)))
  else
   some (.inl ((i64.wrap (g1.1+1)),v1.2)))
 else
  some (.inr (.inl g1.2)))
def zb0(a0:List aO)(a1:aC):Option (Int×aC):=
 (zg8 (zE1 a0) (0,a1)).bind (λ|.inl z=>zE0 z|.inr z=>some z)
@[reducible,instance] def zdv0 a0 a1:=mkJ (zb0 a0 a1) 0 (@zE0.eq_1) λ(j1:aC)=>⟨[],[(0,bx j1)],1⟩
@[reducible,instance] def zdv1 (a0:List aO) {T:Type} (x:T):=mkL x (@zE1.eq_1 a0) λ(g1:Int×aC)=>⟨[(0,la a0),(1,.clo 165 [.ptr 0 0 0]),(7,.int .i64 (a0.length:Int)),(8,.int .i64 g1.1)],[(0,bx g1.2)],1⟩
instance zaG8(a0:List aO)(a1:aC):OkM (zb0 a0 a1) 164 [la a0,.clo 165 [.ptr 0 0 0]] [(0,bx a1)] 1 (λ r=>.int .i64 r.1) (λ r=>[(0,bx r.2)]) 1:=okm (zb0.eq_1 a0 a1) (λ r=>[.int .i64 r.1]) Tryz.f164 [(16,1)]
attribute [local irreducible] zb0
def zL4(a0 a1:Int):aL×Int:=
 (if(!(zar8 a0 a1))=true then
  ({aL.zero with},1)
 else
  (if(decide (a0=0))=true then
   ({aL.zero with has:=true,last:=(-1),next:=(-1)},0)
  else
   ({aL.zero with last:=0,next:=(-1)},0)))
theorem zbv2(a0 a1:Int):PFn C 202 [.int .i64 a0,.int .i64 a1] (.tup [ga ((zL4 a0 a1).1),.int .i64 ((zL4 a0 a1).2)]):=by generalize h:zL4 a0 a1=r;refine zx6 Tryz.f202 [] λ E hG hN hK=>?_;have hm:Mk (zL4 a0 a1):=trivial;unfold zL4 at h;exact gogo
instance zcd4(a0 a1:Int):OkT 202 [.int .i64 a0,.int .i64 a1] (.tup [.agg (aL.enc ((zL4 a0 a1).1)),.int .i64 ((zL4 a0 a1).2)]):=⟨zbv2 a0 a1⟩
end
end Ab
end Go.Proofs.YtamndckemppjdaaGreatDoor
