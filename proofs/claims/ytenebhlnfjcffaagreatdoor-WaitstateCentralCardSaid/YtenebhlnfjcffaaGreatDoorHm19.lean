import Derived.Test.YtenebhlnfjcffaaGreatDoorHm9
import Derived.Test.YtenebhlnfjcffaaGreatDoorHm16
import Derived.Test.YtenebhlnfjcffaaGreatDoorHm18
namespace Go.Proofs.YtenebhlnfjcffaaGreatDoor
namespace Ab
open IntKind (i64 u64 u8)
set_option linter.unusedSimpArgs false
set_option linter.defProp false
set_option linter.unusedVariables false
set_option maxRecDepth 100000
set_option maxHeartbeats 1000000
noncomputable section
attribute [local irreducible] zn8 zf5 zb5 za4 ze1 zm5 zb6 zb1 zo2 zi2 zl5 zi9 zn1 zf4 zd8 zg3 zk3 ze8 za7 zb2 zh7 zj7 zj3 zi8 zh4 zk4 zd0 zd9 zj9 zp2 zm8 zh0 zf8 ze0 ze4 zc8 za9 zk6 zh1 zo5 zh2 f_ref08_holds zc7 zl8 zg5 zh8 zn7 zg1 zi3 zf9 zb3 za0 zj2 zn3 zl9 zf0 zh5 zf1 zb7 ze2 zf2 zi6 zj8 zo7 zd6 ze5 zh9 zn4 zm3 zk2 zn9 zd7 zb9 zq5 zr0 zd4 zk7 zd1 zl3 zs0 zb0 ze9 za6 zi7 zc6 za1 zg2 zl4 zf6 zs1 zr4 zu3 zh6 zj5 zg6 zp6 zx8 zs4 ze7 zj0 zd3 ze6 zc0 zt1 zk1 zm1 zq8 zc1 zp3 zn6 zl1 zi0 zr1 zg7 zt7 zm2 zl6 zj4 zk0 zp4 zv1 zl2 zk5 zp5 zu2 za5 zm6 zq7 zi5 zt9 zo6 zt4 zn5 zq6 f_formula_holds zm0 zc3 zl0 zs2 zu0 zb8 zs9 zo8
def zl7(a0:aO):Option Bool:=
 (zk7 a0).bind λ v1=>
 (if(!decide (v1=0))=true then
  (zo6 a0 []).bind λ v2=>
  some ((!decide (v1=0))&&v2.1)
 else
  some ((!decide (v1=0))&&false))
theorem zbm8(a0:aO)(r:Bool)(h:zl7 a0=some r):PFn C 33 [ga a0] (.bool r):=by
 refine zae9 Tryz.f33 [(3,3)] λ E hG hN hK=>?_;unfold zl7 at h;refine za3 (za8 hG ?_);refine za3 (za8 hG ?_);refine g_gh (.ownb 1 0 3 (aJ.enc aJ.zero)) ?_;refine za3 (za8 hG ?_);obtain⟨v1,hv1,h⟩:=zf3 h;refine zw9 (λ hg=>(zbF6 a0).ok _ hv1) ?_;refine zcT8 h (λ hc h=>?_) (λ hc h=>?_)
 · obtain⟨v2,hv2,h⟩:=zf3 h
   refine zcz8 hc [(0,1),(1,2)] [(2,3)] [0,1,2] ((zbm6 a0 []).ok _ hv2) rfl rfl ?_;refine zx6 ?_;exact zS5 h
 refine zcz9 hc (.bool false) ?_;refine zx6 ?_;exact zS5 h
instance zcw0(a0:aO):OkP (zl7 a0) 33 [ga a0] (λ r=>.bool r):=⟨zbm8 a0⟩
attribute [local irreducible] zl7
def zz5(j1:Unit):Option Bool:=
 some true
def zz6(a0 a1:List aB)(g1:Int):Option (Int⊕(Unit⊕Bool)):=
 (if(decide (g1<(a0.length:Int)))=true then
  gd (0<=g1/\g1<(a0.length:Int))<|
  gd (0<=g1/\g1<(a1.length:Int))<|
  (zl0 (a0.getD g1.toNat aB.zero) (a1.getD g1.toNat aB.zero)).bind λ v1=>
  (if(!v1)=true then
   some (.inr (.inr false))
  else
   some (.inl (i64.wrap (g1+1))))
 else
  some (.inr (.inl ())))
def zb4(a0 a1:List aB):Option Bool:=
 (if(!decide ((a0.length:Int)=(a1.length:Int)))=true then
  some false
 else
  (zc2 (zz6 a0 a1) 0).bind (λ|.inl z=>zz5 z|.inr z=>some z))
@[reducible,instance] def zen8 a0 a1:=mkJ (zb4 a0 a1) 0 (@zz5.eq_1) λ(j1:Unit)=>⟨[],[],0⟩
@[reducible,instance] def zen9 (a0 a1:List aB) {T:Type} (x:T):=mkL x (@zz6.eq_1 a0 a1) λ(g1:Int)=>⟨[(1,la a1),(2,.clo 54 []),(15,la a0),(16,.int .i64 (a0.length:Int)),(17,.int .i64 g1)],[],0⟩
instance zM9(a0 a1:List aB):OkM (zb4 a0 a1) 53 [la a0,la a1,.clo 54 []] [] 0 (λ r=>.bool r) (λ r=>[]) 0:=okm (zb4.eq_1 a0 a1) (λ r=>[.bool r]) Tryz.f53 []
attribute [local irreducible] zb4
def zs7(a0:List aH)(a1:aJ):Option Int:=
 (zq7 a0).bind λ v1=>
 (if(!v1)=true then
  some 2
 else
  (zp6 a0 a1.name).bind λ v2=>
  (if(!v2.2)=true then
   some 10
  else
   gd (0<=v2.1/\v2.1<(a0.length:Int))<|
   (if(!(za2 (a0.getD v2.1.toNat aH.zero) a1.aM))=true then
    some 12
   else
    some 0)))
instance zcL8(a0:List aH)(a1:aJ):OkP (zs7 a0 a1) 230 [la a0,ga a1] (λ r=>.int .i64 r):=ok1 (zs7.eq_1 a0 a1) Tryz.f230 []
attribute [local irreducible] zs7
def zaG9(a0:aH)(a1:List bA)(j1:Unit):Option Bool:=
 (zh7 a1).bind λ v1=>
 (zm0 a0 v1).bind λ v2=>
 some v2
def zah2(a0:aH)(a1:List bA)(g1:Int):Option (Int⊕(Unit⊕Bool)):=
 (if(decide (g1<(a1.length:Int)))=true then
  gd (0<=g1/\g1<(a1.length:Int))<|
  gd (zr5 ((a1.getD g1.toNat bA.zero).aK)=true->0<=g1/\g1<(a1.length:Int))<|
  gd (((!((!(zr5 ((a1.getD g1.toNat bA.zero).aK)))||(!(zv6 a0 ((a1.getD g1.toNat bA.zero).aM)))))&&decide (0<g1))=true->0<=i64.wrap (g1-1)/\i64.wrap (g1-1)<(a1.length:Int))<|
  gd (((!((!(zr5 ((a1.getD g1.toNat bA.zero).aK)))||(!(zv6 a0 ((a1.getD g1.toNat bA.zero).aM)))))&&decide (0<g1))=true->0<=g1/\g1<(a1.length:Int))<|
  (if(((!(zr5 ((a1.getD g1.toNat bA.zero).aK)))||(!(zv6 a0 ((a1.getD g1.toNat bA.zero).aM))))||(decide (0<g1)&&decide (0<=zv4 ((a1.getD ((i64.wrap (g1-1)).toNat) bA.zero).aK) ((a1.getD g1.toNat bA.zero).aK))))=true then
   some (.inr (.inr false))
  else
   some (.inl (i64.wrap (g1+1))))
 else
  some (.inr (.inl ())))
def zu9(a0:aH)(a1:List bA):Option Bool:=
 (if((!(zM6 a0))||decide (8<(a1.length:Int)))=true then
  some false
 else
  (zc2 (zah2 a0 a1) 0).bind (λ|.inl z=>zaG9 a0 a1 z|.inr z=>some z))
@[reducible,instance] def zeo0 (a0:aH) (a1:List bA):=mkJ (zu9 a0 a1) 0 (@zaG9.eq_1 a0 a1) λ(j1:Unit)=>⟨[(1,la a1),(2,.ptr 0 0 0)],[(0,bx a0)],1⟩
@[reducible,instance] def zeo1 (a0:aH) (a1:List bA) {T:Type} (x:T):=mkL x (@zah2.eq_1 a0 a1) λ(g1:Int)=>⟨[(1,la a1),(2,.ptr 0 0 0),(5,.int .i64 g1)],[(0,bx a0)],1⟩
instance zdr4(a0:aH)(a1:List bA):OkP (zu9 a0 a1) 285 [ga a0,la a1] (λ r=>.bool r):=ok1 (zu9.eq_1 a0 a1) Tryz.f285 []
attribute [local irreducible] zu9
def zaM6(a0 j1:aW):Option (aW×Bool):=
 (if(decide (((j1.aD.length:Nat):Int)=(a0.aD.length:Int)))=true then
  some ({aW.zero with},false)
 else
  some (j1,true))
def zaM7(g1:Int×aW)(j2:aW):Option ((Int×aW)⊕aW):=
 some (.inl ((i64.wrap (g1.1+1)),j2))
def zak5(a0:aW)(g1 g2:Int×aW):Option ((Int×aW)⊕aW):=
 (if(decide (g2.1<((g2.2.aY.length:Nat):Int)))=true then
  gd (0<=g2.1/\g2.1<(a0.aY.length:Int))<|
  (if(decide (g1.1<(a0.aY.getD g2.1.toNat bK.zero).at_))=true then
   gd (0<=g2.1/\g2.1<((g2.2.aY.length:Nat):Int))<|
   gd (0<=g2.1/\g2.1<((g2.2.aY.length:Nat):Int))<|
   some (.inl ((i64.wrap (g2.1+1)),(⟨g2.2.aD,g2.2.aY.set g2.1.toNat ({(g2.2.aY.getD g2.1.toNat bK.zero)with at_:=(i64.wrap ((g2.2.aY.getD g2.1.toNat bK.zero).at_-1))})⟩:aW)))
  else
   some (.inl ((i64.wrap (g2.1+1)),g2.2)))
 else
  some (.inr g2.2))
def zaa6(a0:aW)(a1:ByteArray)(g1:Int×aW):Option ((Int×aW)⊕aW):=
 (if(decide (g1.1<(a0.aD.length:Int)))=true then
  gd (0<=g1.1/\g1.1<(a0.aD.length:Int))<|
  (if(!(((a0.aD.getD g1.1.toNat bC.zero).name).toList==a1.toList))=true then
   gd (0<=g1.1/\g1.1<(a0.aD.length:Int))<|
   gd (g1.2.aD.length+1<=4294967296)<|
   some (.inl ((i64.wrap (g1.1+1)),(⟨(g1.2.aD++[(a0.aD.getD g1.1.toNat bC.zero)]),g1.2.aY⟩:aW)))
  else
   (zc2 (zak5 a0 g1) (0,g1.2)).bind (λ z=>zaM7 g1 z))
 else
  some (.inr g1.2))
def zx9(a0:aW)(a1:ByteArray):Option (aW×Bool):=
 (zo8 a0).bind λ v1=>
 (if(!v1)=true then
  some ({aW.zero with},false)
 else
  gd (a0.aY.length<=4294967296)<|
  (zc2 (zaa6 a0 a1) (0,(⟨[],a0.aY⟩:aW))).bind (λ z=>zaM6 a0 z))
@[reducible,instance] def zeo2 (a0:aW) (a1:ByteArray) {T1:Type} (v1:T1):=mkJ (zx9 a0 a1,v1) 0 (@zaM6.eq_1 a0) λ(j1:aW)=>⟨[(2,.ptr 0 0 0),(4,.ptr 1 0 0),(6,.ptr 2 0 0)],[(0,bx a0),(1,bx aW.zero),(2,⟨false,2,aW.enc aW.zero,[[.own 3 0 j1.aD.length,.own 4 0 j1.aY.length]]⟩),(3,sx j1.aD),(4,sx j1.aY)],5⟩
@[reducible,instance] def zeo3 (a0:aW) (a1:ByteArray) (g1:Int×aW):=mkJ (zaa6 a0 a1 g1) 2 (@zaM7.eq_1 g1) λ(j2:aW)=>⟨[(1,.str a1),(2,.ptr 0 0 0),(4,.ptr 1 0 0),(6,.ptr 2 0 0),(7,.int .i64 g1.1)],[(0,bx a0),(1,bx aW.zero),(2,⟨false,2,aW.enc aW.zero,[[.own 3 0 j2.aD.length,.own 4 0 j2.aY.length]]⟩),(3,sx j2.aD),(4,sx j2.aY)],5⟩
@[reducible,instance] def zeo4 (a0:aW) (a1:ByteArray) (g1:Int×aW):=mkL (zaa6 a0 a1 g1) (@zak5.eq_1 a0 g1) λ(g2:Int×aW)=>⟨[(1,.str a1),(2,.ptr 0 0 0),(4,.ptr 1 0 0),(6,.ptr 2 0 0),(7,.int .i64 g1.1),(8,.int .i64 g2.1)],[(0,bx a0),(1,bx aW.zero),(2,⟨false,2,aW.enc aW.zero,[[.own 3 0 g2.2.aD.length,.own 4 0 g2.2.aY.length]]⟩),(3,sx g2.2.aD),(4,sx g2.2.aY)],5⟩
@[reducible,instance] def zeo5 (a0:aW) (a1:ByteArray) {T:Type} (x:T):=mkL x (@zaa6.eq_1 a0 a1) λ(g1:Int×aW)=>⟨[(1,.str a1),(2,.ptr 0 0 0),(4,.ptr 1 0 0),(6,.ptr 2 0 0),(7,.int .i64 g1.1)],[(0,bx a0),(1,bx aW.zero),(2,⟨false,2,aW.enc aW.zero,[[.own 3 0 g1.2.aD.length,.own 4 0 g1.2.aY.length]]⟩),(3,sx g1.2.aD),(4,sx g1.2.aY)],5⟩
instance zdz5(a0:aW)(a1:ByteArray):OkP (zx9 a0 a1) 256 [ga a0,.str a1] (λ r=>.tup [ga r.1,.bool r.2]):=⟨λ r h=>by
 refine zae9 Tryz.f256 [(13,1),(17,5),(6,5)] λ E hG hN hK=>?_;have hm:Mk (zx9 a0 a1):=trivial;unfold zx9 at h;refine za3 (za8 hG ?_);refine za3 (za3 (za8 hG ?_));obtain⟨v1,hv1,h⟩:=zf3 h;have hm:=mkP hm v1;refine zw9 (λ hg=>(zbm7 a0).ok _ hv1) ?_;refine zq4 rfl hG h (λ _ h=>?_) (λ _ h=>?_)
 .exact gogo
 refine zo1 ?_;refine za3 ?_;obtain⟨hb7,h⟩:=zg8 h;refine za8 hG ?_;refine g_gh (.ownb 4 0 5 (bC.enc bC.zero)) ?_;exact gogo⟩
attribute [local irreducible] zx9
def zaM8(a0:aW)(j1:Int×Int)(j2:(List aJ)):Option (aW×(List aJ)×Int):=
 some ((⟨(a0.aD.take j1.1.toNat),a0.aY.take j1.2.toNat⟩:aW),j2,0)
@[go_sem] def zdM8(a0:aW)(j1:Int×Int)(j2:(List aJ)):St:=⟨[(4,.ptr 0 0 0),(10,.ptr 1 0 0),(11,.own 2 0 j2.length)],[(0,bx aW.zero),(1,⟨false,2,aW.enc aW.zero,[[.own 3 0 (((⟨(a0.aD.take j1.1.toNat),a0.aY.take j1.2.toNat⟩:aW).aD).length),.own 4 0 (((⟨(a0.aD.take j1.1.toNat),a0.aY.take j1.2.toNat⟩:aW).aY).length)]]⟩),(2,sx j2),(3,sx ((⟨(a0.aD.take j1.1.toNat),a0.aY.take j1.2.toNat⟩:aW).aD)),(4,sx ((⟨(a0.aD.take j1.1.toNat),a0.aY.take j1.2.toNat⟩:aW).aY))],5⟩
def zak6(a0:aW)(j1:Int×Int)(v2:(List ByteArray))(g1:Int×(List aJ)):Option ((Int×(List aJ))⊕(List aJ)):=
 (if(decide (g1.1<(v2.length:Int)))=true then
  gd (0<=g1.1/\g1.1<(v2.length:Int))<|
  gd (0<=g1.1/\g1.1<(v2.length:Int))<|
  (zj7 ((⟨(a0.aD.take j1.1.toNat),a0.aY.take j1.2.toNat⟩:aW).aD) (v2.getD g1.1.toNat ⟨#[]⟩)).bind λ v3=>
  gd (g1.2.length+1<=4294967296)<|
  some (.inl ((i64.wrap (g1.1+1)),(g1.2++[(⟨(v2.getD g1.1.toNat ⟨#[]⟩),v3⟩:aJ)])))
 else
  some (.inr g1.2))
@[go_sem] def zdM9(a0:aW)(j1:Int×Int)(v2:(List ByteArray))(g1:Int×(List aJ)):St:=⟨[(4,.ptr 0 0 0),(10,.ptr 1 0 0),(11,.own 2 0 g1.2.length),(12,.sl (v2.map eS)),(13,.int .i64 g1.1)],[(0,bx aW.zero),(1,⟨false,2,aW.enc aW.zero,[[.own 3 0 (((⟨(a0.aD.take j1.1.toNat),a0.aY.take j1.2.toNat⟩:aW).aD).length),.own 4 0 (((⟨(a0.aD.take j1.1.toNat),a0.aY.take j1.2.toNat⟩:aW).aY).length)]]⟩),(2,sx g1.2),(3,sx ((⟨(a0.aD.take j1.1.toNat),a0.aY.take j1.2.toNat⟩:aW).aD)),(4,sx ((⟨(a0.aD.take j1.1.toNat),a0.aY.take j1.2.toNat⟩:aW).aY))],5⟩
def zaa7(a0:aW)(j1:Int×Int):Option (aW×(List aJ)×Int):=
 gd (0<=0/\0<=j1.1/\j1.1<=(a0.aD.length:Int))<|
 gd ((a0.aD.take j1.1.toNat).length<=4294967296)<|
 gd (0<=0/\0<=j1.2/\j1.2<=(a0.aY.length:Int))<|
 gd ((a0.aY.take j1.2.toNat).length<=4294967296)<|
 gd (0<=j1.1/\j1.1<=(a0.aD.length:Int)/\(a0.aD.length:Int)<=(a0.aD.length:Int))<|
 (zj3 (a0.aD.drop j1.1.toNat)).bind λ v2=>
 (zc2 (zak6 a0 j1 v2) (0,[])).bind (λ z=>zaM8 a0 j1 z)
@[go_sem] def zdN0(a0:aW)(j1:Int×Int):St:=⟨[(2,.ptr 0 0 0),(4,.ptr 1 0 0),(7,.int .i64 j1.1),(8,.int .i64 j1.2)],[(0,bx a0),(1,bx aW.zero)],2⟩
def zy8(a0:aW)(a1:Int):Option (aW×(List aJ)×Int):=
 (zo8 a0).bind λ v1=>
 (if(!v1)=true then
  some ({aW.zero with},[],2)
 else
  (if(!decide (a1=0))=true then
   (zl9 a0.aY a1).bind λ v4=>
   (if(decide (v4<0))=true then
    some ({aW.zero with},[],10)
   else
    gd (0<=v4/\v4<(a0.aY.length:Int))<|
    zaa7 a0 ((a0.aY.getD v4.toNat bK.zero).at_,i64.wrap (v4+1)))
  else
   zaa7 a0 (0,0)))
theorem zcg1(a0:aW)(a1:Int)(r:aW×(List aJ)×Int)(h:zy8 a0 a1=some r):PFn C 257 [ga a0,.int .i64 a1] (.tup [ga r.1,la r.2.1,.int .i64 r.2.2]):=by
 refine zae9 Tryz.f257 [(35,1),(41,1),(47,2),(11,1)] λ E hG hN hK=>?_;unfold zy8 at h;refine za3 (za8 hG ?_);refine za3 (za3 (za8 hG ?_));obtain⟨v1,hv1,h⟩:=zf3 h;refine zw9 (λ hg=>(zbm7 a0).ok _ hv1) ?_;refine zq4 rfl hG h (λ _ h=>?_) (λ _ h=>?_)
 · refine za3 (za8 hG ?_)
   refine zx6 ?_;exact zS5 h
 refine zo1 ?_;refine za3 (za8 hG ?_);refine za3 (za3 (za8 hG ?_));refine zbq3 (zdN0 a0) (λ v=>zaa7 a0 v=some r) rfl hG h ?_ (λ _ h=>?_) (λ _ h=>?_)
 · intro j1 h
   unfold zaa7 at h;refine g_st ?_;refine za3 ?_;obtain⟨hb5,h⟩:=zg8 h;obtain⟨hb6,h⟩:=zg8 h;obtain⟨hb7,h⟩:=zg8 h;obtain⟨hb8,h⟩:=zg8 h;refine zaM5 zM4 hG ?_;refine za3 (za8 hG ?_);refine za3 ?_;obtain⟨hb4,h⟩:=zg8 h;refine za8 hG ?_;obtain⟨v2,hv2,h⟩:=zf3 h;refine zw9 (λ hg=>(zbV9 (a0.aD.drop j1.1.toNat)).ok _ hv2) ?_;refine za3 (za3 (za8 hG ?_));refine zO8 (zdM8 a0 j1) (λ v=>zaM8 a0 j1 v=some r) ?_ ?_
   · intro j2 h
     unfold zaM8 at h;refine g_st ?_;refine za3 (za8 hG ?_);refine zx6 ?_;exact zS5 h
   refine zau2 (zdM9 a0 j1 v2) hK [(0,1),(1,6),(2,7),(3,3),(4,5)] h (λ x_l1 h g1 y_l1 h_l1 hx_l1=>?_);unfold zak6 at h_l1;refine g_st ?_;refine za3 (za3 (za8 hG ?_));refine zq4 rfl hG h_l1 (λ _ h_l1=>?_) (λ _ h_l1=>?_)
   · refine zo1 ?_
     refine za3 (zM3 ?_);obtain⟨hb2,h_l1⟩:=zg8 h_l1;obtain⟨hb3,h_l1⟩:=zg8 h_l1;refine zaM5 zM4 hG ?_;obtain⟨v3,hv3,h_l1⟩:=zf3 h_l1;obtain⟨hb1,h_l1⟩:=zg8 h_l1;refine zaq9 (λ hg=>(zcf5 ((⟨(a0.aD.take j1.1.toNat),a0.aY.take j1.2.toNat⟩:aW).aD) (v2.getD g1.1.toNat ⟨#[]⟩)).ok _ hv3) ?_;refine za8 hG ?_;exact zZ9 hK [(0,0),(1,1),(2,5),(3,3),(4,4)] h_l1
   refine zS4 ?_;cases h_l1;cases hx_l1 _ rfl;exact zJ8 hK [(0,0),(1,1),(2,2),(3,3),(4,4)] g1.2 (by exact h)
 · refine za3 (za8 hG ?_)
   obtain⟨v4,hv4,h⟩:=zf3 h;refine zw9 (λ hg=>(zcf7 a0.aY a1).ok _ hv4) ?_;refine za3 (za3 (za8 hG ?_));refine zq4 rfl hG h (λ _ h=>?_) (λ _ h=>?_)
   · refine za3 (za8 hG ?_)
     refine zx6 ?_;exact zS5 h
   refine zo1 ?_;obtain⟨hb9,h⟩:=zg8 h;refine za8 hG ?_;exact zJ8 hK [(0,0),(1,1)] ((a0.aY.getD v4.toNat bK.zero).at_,i64.wrap (v4+1)) (by exact h)
 refine zo1 ?_;exact zJ8 hK [(0,0),(1,1)] (0,0) (by exact h)
attribute [local irreducible] zy8
attribute [local irreducible] zm7 zf7 ze3 zc5 zs3 zu1 zr2 zr7 zo3 zv8 zy1 zw2 zs5 zp0 zi1 zv9 zy7 zs8
def zy2(a0:aH)(a1:List bA)(a2:aL)(a3:aC):Option Bool:=
 (zs5 a0 a1).bind λ v1=>
 some ((v1&&zd2 a2)&&za2 a0 a3)
instance zcV5(a0:aH)(a1:List bA)(a2:aL)(a3:aC):OkP (zy2 a0 a1 a2 a3) 207 [ga a0,la a1,ga a2,ga a3] (λ r=>.bool r):=ok1 (zy2.eq_1 a0 a1 a2 a3) Tryz.f207 []
attribute [local irreducible] zy2
def zz7(a0 a1:aQ):Option Bool:=
 (zb4 a0.aI a1.aI).bind λ v1=>
 ((if v1=true then za5 a0.bI a1.bI else some false)).bind λ v2=>
 some (v1&&v2)
instance zbB7(a0 a1:aQ):OkP (zz7 a0 a1) 20 [ga a0,ga a1] (λ r=>.bool r):=⟨λ r h=>by
 refine zae9 Tryz.f20 [] λ E hG hN hK=>?_;have hm:Mk (zz7 a0 a1):=trivial;unfold zz7 at h;refine za3 (za8 hG ?_);refine za3 (za8 hG ?_);obtain⟨v1,hv1,h⟩:=zf3 h;have hm:=mkP hm v1;refine zv5 [] [] [] ((zM9 a0.aI a1.aI).ok _ hv1) rfl rfl ?_;obtain⟨v2,hv2,h⟩:=zf3 h;have hm:=mkP hm v2;refine zbB3 [] [] hv2 (λ hc=>(zQ0 a0.bI a1.bI).ok _ hc) rfl ?_;exact gogo⟩
attribute [local irreducible] zz7
def zQ3(v2:(List aJ)×Bool)(j1:Unit):Option ((List aJ)×Bool):=
 some (v2.1,true)
@[go_sem] def zdN1(v2:(List aJ)×Bool)(j1:Unit):St:=⟨[(4,la v2.1)],[],0⟩
def zaH0(g1:Int)(j2:Unit):Option (Int⊕(Unit⊕((List aJ)×Bool))):=
 some (.inl (i64.wrap (g1+1)))
@[go_sem] def zdN2(v2:(List aJ)×Bool)(g1:Int)(j2:Unit):St:=⟨[(4,la v2.1),(6,.int .i64 g1)],[],0⟩
def zX5(v2:(List aJ)×Bool)(g1 g2:Int):Option (Int⊕(Unit⊕((List aJ)×Bool))):=
 (if(decide (g2<g1))=true then
  gd (0<=g1/\g1<(v2.1.length:Int))<|
  gd (0<=g2/\g2<(v2.1.length:Int))<|
  (if(((v2.1.getD g1.toNat aJ.zero).name).toList==((v2.1.getD g2.toNat aJ.zero).name).toList)=true then
   some (.inr (.inr ([],false)))
  else
   some (.inl (i64.wrap (g2+1))))
 else
  some (.inr (.inl ())))
@[go_sem] def zdN3(v2:(List aJ)×Bool)(g1 g2:Int):St:=⟨[(4,la v2.1),(6,.int .i64 g1),(7,.int .i64 g2)],[],0⟩
def zQ4(v2:(List aJ)×Bool)(g1:Int):Option (Int⊕(Unit⊕((List aJ)×Bool))):=
 (if(decide (g1<(v2.1.length:Int)))=true then
  (zc2 (zX5 v2 g1) 0).bind (λ|.inl z=>zaH0 g1 z|.inr z=>some (.inr (.inr z)))
 else
  some (.inr (.inl ())))
@[go_sem] def zdN4(v2:(List aJ)×Bool)(g1:Int):St:=⟨[(4,la v2.1),(6,.int .i64 g1)],[],0⟩
def zi4(a0:aO):Option ((List aJ)×Bool):=
 (zo7 a0).bind λ v1=>
 (if(decide (v1=0))=true then
  some ([],false)
 else
  (zy1 a0).bind λ v2=>match v2 with
  | .inl v2=>
   some ([],false)
  | .inr v2=>
   (if((!v2.2)||decide (8<(v2.1.length:Int)))=true then
    some ([],false)
   else
    (zc2 (zQ4 v2) 0).bind (λ|.inl z=>zQ3 v2 z|.inr z=>some z)))
theorem zbW6(a0:aO)(r:(List aJ)×Bool)(h:zi4 a0=some r):PFn C 41 [ga a0] (.tup [la r.1,.bool r.2]):=by
 refine zae9 Tryz.f41 [] λ E hG hN hK=>?_;unfold zi4 at h;refine za3 (za8 hG ?_);refine za3 (za3 (za8 hG ?_));obtain⟨v1,hv1,h⟩:=zf3 h;refine zw9 (λ hg=>(zbW4 a0).ok _ hv1) ?_;refine zq4 rfl hG h (λ _ h=>?_) (λ _ h=>?_)
 · refine za3 (za8 hG ?_)
   refine zx6 ?_;exact zS5 h
 refine zo1 ?_;refine za3 (za8 hG ?_);obtain⟨v2,hv2,h⟩:=zf3 h;rcases v2 with v2|v2
 · dsimp only at h
   refine zv5 [] [(0,1)] [0] (zbG1 _ _ hv2) rfl rfl ?_;refine za3 (za3 (za8 hG ?_));refine zbe8 rfl hG ?_;refine za3 (za8 hG ?_);refine zx6 ?_;exact zS5 h
 dsimp only at h;refine zv5 [] [] [] (zbG2 _ _ hv2) rfl rfl ?_;refine za3 (za3 (za8 hG ?_));refine zq4 rfl hG h (λ _ h=>?_) (λ _ h=>?_)
 · refine za3 (za8 hG ?_)
   refine zx6 ?_;exact zS5 h
 refine zo1 ?_;refine za3 (za3 (za8 hG ?_));refine zO8 (zdN1 v2) (λ v=>zQ3 v2 v=some r) ?_ ?_
 · intro j1 h
   unfold zQ3 at h;refine g_st ?_;refine za3 (za8 hG ?_);refine zx6 ?_;exact zS5 h
 refine zau2 (zdN4 v2) hK [] h (λ x_l1 h g1 y_l1 h_l1 hx_l1=>?_);unfold zQ4 at h_l1;refine g_st ?_;refine za3 (za3 (za8 hG ?_));refine zq4 rfl hG h_l1 (λ _ h_l1=>?_) (λ _ h_l1=>?_)
 · refine zo1 ?_
   refine za3 (zM3 (za3 (za8 hG ?_)));refine zO8 (zdN2 v2 g1) (λ v=>zaH0 g1 v=some y_l1) ?_ ?_
   · intro j2 h_l1
     unfold zaH0 at h_l1;refine g_st ?_;refine za8 hG ?_;exact zZ9 hK [] h_l1
   refine zau2 (zdN3 v2 g1) hK [] h_l1 (λ x_l2 h_l1 g2 y_l2 h_l2 hx_l2=>?_);unfold zX5 at h_l2;refine g_st ?_;refine za3 (za3 (za8 hG ?_));refine zq4 rfl hG h_l2 (λ _ h_l2=>?_) (λ _ h_l2=>?_)
   · refine zo1 ?_
     refine za3 (zM3 (za3 ?_));obtain⟨hb1,h_l2⟩:=zg8 h_l2;obtain⟨hb2,h_l2⟩:=zg8 h_l2;refine zbv8 zM4 hG ?_;refine zq4 rfl hG h_l2 (λ _ h_l2=>?_) (λ _ h_l2=>?_)
     · refine za3 (za8 hG ?_)
       refine zx6 ?_;obtain rfl:=dS h_l2;have hx:=hx_l2 _ rfl;subst hx
       try dsimp only at h_l1
       cases h_l1;cases hx_l1 _ rfl;exact zS5 h
     refine zo1 ?_;refine za8 hG ?_;exact zZ9 hK [] h_l2
   refine zS4 ?_;obtain rfl:=dS h_l2;have hx:=hx_l2 _ rfl;subst hx
   try dsimp only at h_l1
   exact zJ8 hK [] () (by exact h_l1)
 refine zS4 ?_;cases h_l1;cases hx_l1 _ rfl;exact zJ8 hK [] () (by exact h)
instance zdj2(a0:aO):OkP (zi4 a0) 41 [ga a0] (λ r=>.tup [la r.1,.bool r.2]):=⟨zbW6 a0⟩
attribute [local irreducible] zi4
def zav2(j1:Unit):Option Bool:=
 some true
def zD6(a0:aB)(g1:Int):Option (Int⊕(Unit⊕Bool)):=
 (if(decide (g1<(a0.aN.length:Int)))=true then
  gd (0<=g1/\g1<(a0.aN.length:Int))<|
  (zn4 a0 ((a0.aN.getD g1.toNat aU.zero).aK)).bind λ v1=>
  (zn7 a0.aN ((a0.aN.getD g1.toNat aU.zero).aK)).bind λ v2=>
  (if((!decide (v2=g1))||zk8 v1)=true then
   some (.inr (.inr false))
  else
   ((if(za2 a0.aA ((a0.aN.getD g1.toNat aU.zero).aM))=true then zp5 a0.aA ((a0.aN.getD g1.toNat aU.zero).aM) v1 else some false)).bind λ v3=>
   (if(((!(za2 a0.aA ((a0.aN.getD g1.toNat aU.zero).aM)))||(!v3))||decide ((a0.aN.getD g1.toNat aU.zero).aM=v1))=true then
    some (.inr (.inr false))
   else
    (if((!decide ((a0.aN.getD g1.toNat aU.zero).aZ=0))||(!decide ((a0.aN.getD g1.toNat aU.zero).bR=0)))=true then
     some (.inr (.inr false))
    else
     some (.inl (i64.wrap (g1+1))))))
 else
  some (.inr (.inl ())))
def zo4(a0:aB):Option Bool:=
 (if(decide (8<(a0.aN.length:Int)))=true then
  some false
 else
  (zc2 (zD6 a0) 0).bind (λ|.inl z=>zav2 z|.inr z=>some z))
@[reducible,instance] def zeA2 a0:=mkJ (zo4 a0) 0 (@zav2.eq_1) λ(j1:Unit)=>⟨[],[],0⟩
@[reducible,instance] def zeA3 (a0:aB) {T:Type} (x:T):=mkL x (@zD6.eq_1 a0) λ(g1:Int)=>⟨[(1,.ptr 0 0 0),(11,la a0.aN),(12,.int .i64 (a0.aN.length:Int)),(13,.int .i64 g1)],[(0,bx a0)],1⟩
instance zcr2(a0:aB):OkP (zo4 a0) 205 [ga a0] (λ r=>.bool r):=ok1 (zo4.eq_1 a0) Tryz.f205 []
attribute [local irreducible] zo4
def zT1(j2:bD×aO):Option (aO×bD):=
 some (j2.2,j2.1)
@[go_sem] def zdN5(j2:bD×aO):St:=⟨[(4,.ptr 1 0 0),(5,.ptr 2 0 0)],[(0,bx j2.1),(1,bx aO.zero),(2,⟨false,5,aO.enc aO.zero,[[.int .i64 j2.2.k,.str j2.2.bG.name,.int .i64 j2.2.bG.aM.mode,.int .i64 j2.2.bG.aM.aS,.own 3 0 j2.2.bE.length]]⟩),(3,sx j2.2.bE)],4⟩
def zai5(a90:(Int->bD->Option (aO×bD)))(a0:Int)(g1:Int×bD×aO):Option ((Int×bD×aO)⊕(bD×aO)):=
 (if(decide (0<g1.1)&&decide (g1.2.1.bO.err=0))=true then
  (a90 (i64.wrap (a0+1)) g1.2.1).bind λ v5=>
  gd (g1.2.2.bE.length+1<=4294967296)<|
  some (.inl ((i64.wrap (g1.1-1)),v5.2,(⟨g1.2.2.k,(⟨g1.2.2.bG.name,(⟨g1.2.2.bG.aM.mode,g1.2.2.bG.aM.aS⟩:aC)⟩:aJ),(g1.2.2.bE++[v5.1])⟩:aO)))
 else
  some (.inr (g1.2.1,g1.2.2)))
@[go_sem] def zdN6(a0:Int)(g1:Int×bD×aO):St:=⟨[(0,.ptr 0 0 0),(1,.int .i64 a0),(4,.ptr 1 0 0),(5,.ptr 2 0 0),(6,.int .i64 g1.1)],[(0,bx g1.2.1),(1,bx aO.zero),(2,⟨false,5,aO.enc aO.zero,[[.int .i64 g1.2.2.k,.str g1.2.2.bG.name,.int .i64 g1.2.2.bG.aM.mode,.int .i64 g1.2.2.bG.aM.aS,.own 3 0 g1.2.2.bE.length]]⟩),(3,sx g1.2.2.bE)],4⟩
def zH0(a90:(Int->bD->Option (aO×bD)))(a0:Int)(j1:bD):Option (aO×bD):=
 (zc1 j1).bind λ v1=>
 (if(!decide (v1.2.bO.err=0))=true then
  some ((⟨v1.1,(⟨((⟨aO.zero.k,(⟨aO.zero.bG.name,(⟨aO.zero.bG.aM.mode,aO.zero.bG.aM.aS⟩:aC)⟩:aJ),[]⟩:aO).bG).name,(⟨(((⟨aO.zero.k,(⟨aO.zero.bG.name,(⟨aO.zero.bG.aM.mode,aO.zero.bG.aM.aS⟩:aC)⟩:aJ),[]⟩:aO).bG).aM).mode,(((⟨aO.zero.k,(⟨aO.zero.bG.name,(⟨aO.zero.bG.aM.mode,aO.zero.bG.aM.aS⟩:aC)⟩:aJ),[]⟩:aO).bG).aM).aS⟩:aC)⟩:aJ),(⟨aO.zero.k,(⟨aO.zero.bG.name,(⟨aO.zero.bG.aM.mode,aO.zero.bG.aM.aS⟩:aC)⟩:aJ),[]⟩:aO).bE⟩:aO),v1.2)
 else
  (if(decide (v1.1=0))=true then
   (ze6 v1.2).bind λ v2=>
   (ze3 v2.2).bind λ v3=>
   some ((⟨v1.1,(⟨v2.1,(⟨v3.1.mode,v3.1.aS⟩:aC)⟩:aJ),(⟨aO.zero.k,(⟨aO.zero.bG.name,(⟨aO.zero.bG.aM.mode,aO.zero.bG.aM.aS⟩:aC)⟩:aJ),[]⟩:aO).bE⟩:aO),v3.2)
  else
   (zd3 24 v1.2).bind λ v4=>
   (zc2 (zai5 a90 a0) (v4.1,v4.2,(⟨v1.1,(⟨((⟨aO.zero.k,(⟨aO.zero.bG.name,(⟨aO.zero.bG.aM.mode,aO.zero.bG.aM.aS⟩:aC)⟩:aJ),[]⟩:aO).bG).name,(⟨(((⟨aO.zero.k,(⟨aO.zero.bG.name,(⟨aO.zero.bG.aM.mode,aO.zero.bG.aM.aS⟩:aC)⟩:aJ),[]⟩:aO).bG).aM).mode,(((⟨aO.zero.k,(⟨aO.zero.bG.name,(⟨aO.zero.bG.aM.mode,aO.zero.bG.aM.aS⟩:aC)⟩:aJ),[]⟩:aO).bG).aM).aS⟩:aC)⟩:aJ),(⟨aO.zero.k,(⟨aO.zero.bG.name,(⟨aO.zero.bG.aM.mode,aO.zero.bG.aM.aS⟩:aC)⟩:aJ),[]⟩:aO).bE⟩:aO))).bind (λ z=>zT1 z)))
@[go_sem] def zdN7(a0:Int)(j1:bD):St:=⟨[(0,.ptr 0 0 0),(1,.int .i64 a0),(4,.ptr 1 0 0),(5,.ptr 2 0 0)],[(0,bx j1),(1,bx aO.zero),(2,⟨false,5,aO.enc aO.zero,[[.int .i64 ((⟨aO.zero.k,(⟨aO.zero.bG.name,(⟨aO.zero.bG.aM.mode,aO.zero.bG.aM.aS⟩:aC)⟩:aJ),[]⟩:aO).k),.str (((⟨aO.zero.k,(⟨aO.zero.bG.name,(⟨aO.zero.bG.aM.mode,aO.zero.bG.aM.aS⟩:aC)⟩:aJ),[]⟩:aO).bG).name),.int .i64 ((((⟨aO.zero.k,(⟨aO.zero.bG.name,(⟨aO.zero.bG.aM.mode,aO.zero.bG.aM.aS⟩:aC)⟩:aJ),[]⟩:aO).bG).aM).mode),.int .i64 ((((⟨aO.zero.k,(⟨aO.zero.bG.name,(⟨aO.zero.bG.aM.mode,aO.zero.bG.aM.aS⟩:aC)⟩:aJ),[]⟩:aO).bG).aM).aS),.own 3 0 (((⟨aO.zero.k,(⟨aO.zero.bG.name,(⟨aO.zero.bG.aM.mode,aO.zero.bG.aM.aS⟩:aC)⟩:aJ),[]⟩:aO).bE).length)]]⟩),(3,sx ((⟨aO.zero.k,(⟨aO.zero.bG.name,(⟨aO.zero.bG.aM.mode,aO.zero.bG.aM.aS⟩:aC)⟩:aJ),[]⟩:aO).bE))],4⟩
def zU4(a90:(Int->bD->Option (aO×bD)))(a0:Int)(a1:bD):Option (aO×bD):=
 (if(decide (a1.bO.err=0)&&decide (4<a0))=true then
  zH0 a90 a0 ({a1 with bO:={a1.bO with err:=4}})
 else
  zH0 a90 a0 a1)
def zL1:Nat->(Int->bD->Option (aO×bD))
 |0=>λ _ _=>none
 |n+1=>zU4 (zL1 n)
def zp7(a0:Int)(a1:bD):Option (aO×bD):=zL1 ((6-a0).toNat+1) a0 a1
theorem zaM9(a90:(Int->bD->Option (aO×bD)))(hrc:∀(a0:Int) (a1:bD) (r:aO×bD),a90 a0 a1=some r->MFn C 52 [.ptr 0 0 0,.int .i64 a0] [(0,bx a1)] 1 (ga r.1) [(0,bx r.2)] 1)(a0:Int)(a1:bD)(r:aO×bD)(h:zU4 a90 a0 a1=some r):MFn C 52 [.ptr 0 0 0,.int .i64 a0] [(0,bx a1)] 1 (ga r.1) [(0,bx r.2)] 1:=by
 refine zaK6 Tryz.f52 [(5,18)] [ga r.1] λ E hG hN hK=>?_;unfold zU4 at h;refine za3 (za8 hG ?_);refine za3 (za8 hG ?_);refine g_gh (.ownb 2 4 5 (aO.enc aO.zero)) ?_;refine za3 (za3 (za8 hG ?_));refine zbq3 (zdN7 a0) (λ v=>zH0 a90 a0 v=some r) rfl hG h ?_ (λ _ h=>?_) (λ _ h=>?_)
 · intro j1 h
   unfold zH0 at h;refine g_st ?_;refine za3 (za8 hG ?_);obtain⟨v1,hv1,h⟩:=zf3 h;refine zv5 [(0,0)] [] [0] ((zC5 j1).ok _ hv1) rfl rfl ?_;refine za3 (za3 (za8 hG ?_));refine zq4 rfl hG h (λ _ h=>?_) (λ _ h=>?_)
   · refine za3 (za8 hG ?_)
     refine g_gh (.fz [3]) ?_;refine zx6 ?_;exact zV5 [(0,0)] h
   refine zo1 ?_;refine za3 (za3 (za8 hG ?_));refine zq4 rfl hG h (λ _ h=>?_) (λ _ h=>?_)
   · refine za3 (za8 hG ?_)
     obtain⟨v2,hv2,h⟩:=zf3 h;refine zv5 [(0,0)] [] [0] ((zam3 v1.2).ok _ hv2) rfl rfl ?_;refine za3 (za8 hG ?_);obtain⟨v3,hv3,h⟩:=zf3 h;refine zv5 [(0,0)] [] [0] ((zaG6 v2.2).ok _ hv3) rfl rfl ?_;refine za3 (za8 hG ?_);refine g_gh (.fz [3]) ?_;refine zx6 ?_;exact zV5 [(0,0)] h
   refine zo1 ?_;refine za3 (za3 (za8 hG ?_));obtain⟨v4,hv4,h⟩:=zf3 h;refine zv5 [(0,0)] [] [0] ((zI7 24 v1.2).ok _ hv4) rfl rfl ?_;refine zO8 zdN5 (λ v=>zT1 v=some r) ?_ ?_
   · intro j2 h
     unfold zT1 at h;refine g_st ?_;refine za3 (za8 hG ?_);refine g_gh (.fz [3]) ?_;refine zx6 ?_;exact zV5 [(0,0)] h
   refine zau2 (zdN6 a0) hK [(0,0),(1,1),(2,2),(3,3)] h (λ x_l1 h g1 y_l1 h_l1 hx_l1=>?_);unfold zai5 at h_l1;refine g_st ?_;refine za3 (za3 (za8 hG ?_));refine zq4 rfl hG h_l1 (λ _ h_l1=>?_) (λ _ h_l1=>?_)
   · refine zo1 ?_
     refine za3 (zM3 (zaM5 zM4 hG ?_));obtain⟨v5,hv5,h_l1⟩:=zf3 h_l1;obtain⟨hb1,h_l1⟩:=zg8 h_l1;refine zbV6 [(0,0)] [] [0] (hrc (i64.wrap (a0+1)) g1.2.1 _ hv5) rfl rfl ?_;refine za8 hG ?_;exact zZ9 hK [(0,0),(1,1),(2,2),(3,4)] h_l1
   refine zS4 ?_;cases h_l1;cases hx_l1 _ rfl;exact zJ8 hK [(0,0),(1,1),(2,2),(3,3)] (g1.2.1,g1.2.2) (by exact h)
 · refine za8 hG ?_
   exact zJ8 hK [(0,0),(1,1),(2,2),(3,3)] ({a1 with bO:={a1.bO with err:=4}}) (by exact h)
 refine zo1 ?_;exact zJ8 hK [(0,0),(1,1),(2,2),(3,3)] a1 (by exact h)
theorem zak7:∀(n:Nat) (a0:Int) (a1:bD) (r:aO×bD),zL1 n a0 a1=some r->MFn C 52 [.ptr 0 0 0,.int .i64 a0] [(0,bx a1)] 1 (ga r.1) [(0,bx r.2)] 1
 |0,_,_,_,h=>nomatch h
 |n+1,a0,a1,r,h=>zaM9 (zL1 n) (zak7 n) a0 a1 r h
instance zbN8(a0:Int)(a1:bD):OkM (zp7 a0 a1) 52 [.ptr 0 0 0,.int .i64 a0] [(0,bx a1)] 1 (λ r=>ga r.1) (λ r=>[(0,bx r.2)]) 1:=⟨λ r h=>zak7 _ a0 a1 r h⟩
attribute [local irreducible] zp7
def zaW9(j1:(List aJ)):Option (List aJ):=
 some j1
def zam8(a0:List aB)(a1:aL)(g1:Int×(List aJ)):Option ((Int×(List aJ))⊕(List aJ)):=
 (if(decide (g1.1<(a0.length:Int)))=true then
  gd (0<=g1.1/\g1.1<(a0.length:Int))<|
  (zq6 (a0.getD g1.1.toNat aB.zero) a1).bind λ v1=>
  (if v1.2=true then
   gd (g1.2.length+1<=4294967296)<|
   some (.inl ((i64.wrap (g1.1+1)),(g1.2++[(⟨((a0.getD g1.1.toNat aB.zero).aA).name,v1.1⟩:aJ)])))
  else
   some (.inl ((i64.wrap (g1.1+1)),g1.2)))
 else
  some (.inr g1.2))
def zx4(a0:List aB)(a1:aL):Option (List aJ):=
 (zc2 (zam8 a0 a1) (0,[])).bind (λ z=>zaW9 z)
@[reducible,instance] def zeo6 a0 a1:=mkJ (zx4 a0 a1) 0 (@zaW9.eq_1) λ(j1:(List aJ))=>⟨[(5,.own 0 0 j1.length)],[(0,sx j1)],1⟩
@[reducible,instance] def zeo7 (a0:List aB) (a1:aL) {T:Type} (x:T):=mkL x (@zam8.eq_1 a0 a1) λ(g1:Int×(List aJ))=>⟨[(3,.ptr 0 0 0),(5,.own 1 0 g1.2.length),(10,la a0),(11,.int .i64 (a0.length:Int)),(12,.int .i64 g1.1)],[(0,bx a1),(1,sx g1.2)],2⟩
instance zdj3(a0:List aB)(a1:aL):OkP (zx4 a0 a1) 174 [la a0,ga a1] (λ r=>la r):=ok1 (zx4.eq_1 a0 a1) Tryz.f174 [(5,1)]
attribute [local irreducible] zx4
def zx0(a0:List aF)(a1:aL):Option Int:=
 (zb8 a0 a1).bind λ v1=>
 some v1.1
instance zdb8(a0:List aF)(a1:aL):OkP (zx0 a0 a1) 63 [la a0,ga a1] (λ r=>.int .i64 r):=ok1 (zx0.eq_1 a0 a1) Tryz.f63 []
attribute [local irreducible] zx0
def zaD3(j1:Int)(j2:(List aU)):Option ((List aU)×Int×Int):=
 some (j2,j1,0)
def zac0(a0:List aU)(g1:Int×(List aU)):Option ((Int×(List aU))⊕(List aU)):=
 (if(decide (g1.1<(a0.length:Int)))=true then
  gd (0<=g1.1/\g1.1<(a0.length:Int))<|
  gd (g1.2.length+1<=4294967296)<|
  some (.inl ((i64.wrap (g1.1+1)),(g1.2++[{(a0.getD g1.1.toNat aU.zero)with bR:=(i64.wrap ((a0.getD g1.1.toNat aU.zero).bR+1))}])))
 else
  some (.inr g1.2))
def zac1(a0:List aU)(a1:aU)(j1:Int):Option ((List aU)×Int×Int):=
 gd (0<=0/\0<=j1/\j1<=(a0.length:Int))<|
 gd ((a0.take j1.toNat).length<=4294967296)<|
 gd ((a0.take j1.toNat).length+1<=4294967296)<|
 (zc2 (zac0 a0) (j1,(a0.take j1.toNat++[a1]))).bind (λ z=>zaD3 j1 z)
def zam9(a0:List aU)(a1:aU)(g2:Int):Option (Int⊕Int):=
 gd (decide (0<g2)=true->0<=i64.wrap (g2-1)/\i64.wrap (g2-1)<(a0.length:Int))<|
 gd ((decide (0<g2)&&decide ((a0.getD ((i64.wrap (g2-1)).toNat) aU.zero).aZ<a1.aZ))=true->0<=i64.wrap (g2-1)/\i64.wrap (g2-1)<(a0.length:Int))<|
 (if((decide (0<g2)&&decide ((a0.getD ((i64.wrap (g2-1)).toNat) aU.zero).aZ<a1.aZ))&&decide ((a0.getD ((i64.wrap (g2-1)).toNat) aU.zero).bR<3))=true then
  some (.inl (i64.wrap (g2-1)))
 else
  some (.inr g2))
def zx5(a0:List aU)(a1:aU):Option ((List aU)×Int×Int):=
 (zs9 a0).bind λ v1=>
 (if(!v1)=true then
  some ([],0,2)
 else
  (if((!(zC0 a1))||(!decide (a1.bR=0)))=true then
   some ([],0,1)
  else
   (zk6 a0 a1.aK).bind λ v2=>
   (if(decide (0<=v2))=true then
    some ([],0,11)
   else
    (if(decide ((a0.length:Int)=8))=true then
     some ([],0,4)
    else
     (zc2 (zam9 a0 a1) (a0.length:Int)).bind (λ z=>zac1 a0 a1 z)))))
@[reducible,instance] def zeo8 a0 a1 (j1:Int):=mkJ (zac1 a0 a1 j1) 2 (@zaD3.eq_1 j1) λ(j2:(List aU))=>⟨[(7,.int .i64 j1),(8,.own 0 0 j2.length)],[(0,sx j2)],1⟩
@[reducible,instance] def zeo9 (a0:List aU) a1 (j1:Int):=mkL (zac1 a0 a1 j1) (@zac0.eq_1 a0) λ(g1:Int×(List aU))=>⟨[(0,la a0),(7,.int .i64 j1),(8,.own 0 0 g1.2.length),(9,.int .i64 g1.1)],[(0,sx g1.2)],1⟩
@[reducible,instance] def zep0 (a0:List aU) (a1:aU) {T1:Type} (v1:T1) {T2:Type} (v2:T2):=mkJ ((zx5 a0 a1,v1),v2) 0 (@zac1.eq_1 a0 a1) λ(j1:Int)=>⟨[(0,la a0),(3,.ptr 0 0 0),(7,.int .i64 j1)],[(0,bx a1)],1⟩
@[reducible,instance] def zep1 (a0:List aU) (a1:aU) {T:Type} (x:T):=mkL x (@zam9.eq_1 a0 a1) λ(g2:Int)=>⟨[(0,la a0),(3,.ptr 0 0 0),(7,.int .i64 g2)],[(0,bx a1)],1⟩
instance zbN9(a0:List aU)(a1:aU):OkP (zx5 a0 a1) 312 [la a0,ga a1] (λ r=>.tup [la r.1,.int .i64 r.2.1,.int .i64 r.2.2]):=ok1 (zx5.eq_1 a0 a1) Tryz.f312 [(56,1)]
attribute [local irreducible] zx5
def zC9(a0:aW)(a1:Int):Option (aW×Int):=
 (zo8 a0).bind λ v1=>
 (if(!v1)=true then
  some ({aW.zero with},2)
 else
  (if(decide (a1<1)||decide (99<a1))=true then
   some ({aW.zero with},1)
  else
   (zl9 a0.aY a1).bind λ v2=>
   (if(decide (0<=v2))=true then
    some ({aW.zero with},11)
   else
    (if(decide ((a0.aY.length:Int)=4))=true then
     some ({aW.zero with},4)
    else
     gd (a0.aD.length<=4294967296)<|
     gd (a0.aY.length<=4294967296)<|
     gd (a0.aY.length+1<=4294967296)<|
     some ((⟨a0.aD,(a0.aY++[(⟨a1,(a0.aD.length:Int)⟩:bK)])⟩:aW),0)))))
instance zdz6(a0:aW)(a1:Int):OkP (zC9 a0 a1) 200 [ga a0,.int .i64 a1] (λ r=>.tup [ga r.1,.int .i64 r.2]):=ok1 (zC9.eq_1 a0 a1) Tryz.f200 [(28,1),(32,1),(43,2)]
attribute [local irreducible] zC9
end
end Ab
end Go.Proofs.YtenebhlnfjcffaaGreatDoor
