import Derived.Test.YtenebhlnfjcffaaGreatDoorHm30
namespace Go.Proofs.YtenebhlnfjcffaaGreatDoor
namespace Ab
open IntKind (i64 u64 u8)
set_option linter.unusedSimpArgs false
set_option linter.defProp false
set_option linter.unusedVariables false
set_option maxRecDepth 100000
set_option maxHeartbeats 1000000
noncomputable section
attribute [local irreducible] zl1 ze7 zb3 za2 zd2 zj6 zb4 za8 zl5 zg4 zi6 zi7 zk5 zh8 ze1 za5 za9 zf7 zj1 zh5 zj7 zf2 ze3 zp5 zk3 zf6 zf0 zd1 zd7 zc3 za6 zi1 zf8 zl9 zf9 f_ref08_holds ze5 zg0 zl0 zf3 zg5 zf1 zb0 za0 zh0 zl2 zk4 ze4 zb5 zd3 ze6 zg8 zn2 zm1 zd8 zg1 zk6 zj5 zh7 zl3 zd0 zh1 zp9 zc8 zi0 zc5 zi4 zo6 za7 ze2 za4 zj0 zc2 za1 zf4 zi5 ze8 zn7 zo4 zq9 zg7 zh3 zf5 zm9 zt4 ze0 zg9 zc7 zd9 zb7 zr4 zh6 zj3 zp3 zo0 zb9 zm6 zk9 zi3 zg2 zj4 zi8 zh2 zh4 zm7 zr9 zh9 zm8 zq8 za3 zj8 zn9 zg6 zq4 zm0 zp6 zk7 zn8 f_formula_holds zj2 zc1 zi2 zo8 zq5 zb6 zp7 zp8 zj9 ze9 zd6 zc4 zo9 zr7 zo1 zr0 zl6 zs9 zt6 zp0 zm4 zg3 zt0 zu6 zl7 zn0 zt2 zt1 zi9 zb1 zp1 zr6 zt7 zu3 zl4 zz5 zp4 zw7 zw2 zz6 zq3 zA6 zy0 zx5 zE9 zF8 zy7 zJ7 zz7 zw8 zv0 zw9 zC6 zz8 zv1 zR1 zM8 zR2 zM9 zx6 zC7 zI7 zL3 zN0 zF0 zy8 zH9 zD2 zF3 zN1 zu7 zt5 zF9
def zR3:Option Bool :=
 (zp9 0).bind fun v1 =>
 (zH9 (⟨[],[(⟨v1,{ aG.zero with aZ:=(⟨(⟨#[97]⟩:ByteArray),{ aA.zero with mode:=5 }⟩:aD) },3⟩:bK)]⟩:aK)).bind fun v2 =>
 (zD2 v2.1).bind fun v3 =>
 (zy0 v3.1 v1).bind fun v4 =>
 (zF3 v3.1 v1).bind fun v5 =>
 ((if ((decide (v2.2=0)&&decide (v3.2=0))&&v4.2)=true then zu3 (⟨[],[(⟨v1,{ aG.zero with aZ:=(⟨(⟨#[97]⟩:ByteArray),{ aA.zero with mode:=5 }⟩:aD) },3⟩:bK)]⟩:aK) v3.1 else some false)).bind fun v6 =>
 ((if (((decide (v2.2=0)&&decide (v3.2=0))&&v4.2)&&v6)=true then zy8 v3.1 else some false)).bind fun v7 =>
 gd ((((((decide (v2.2=0)&&decide (v3.2=0))&&v4.2)&&v6)&&v7)&&decide ((v5.length:Int)=1))=true→0≤0∧0 < (v5.length:Int)) <|
 ((if ((((((decide (v2.2=0)&&decide (v3.2=0))&&v4.2)&&v6)&&v7)&&decide ((v5.length:Int)=1))&&v5.getD 0 false)=true then zF0 v3.1 else some [])).bind fun v8 =>
 some (((((((decide (v2.2=0)&&decide (v3.2=0))&&v4.2)&&v6)&&v7)&&decide ((v5.length:Int)=1))&&v5.getD 0 false)&&decide ((v8.length:Int)=1))
instance zcC0 :OkP zR3 5 [] (fun r=>.bool r):=⟨fun r h=>by
 refine zae3 Tryz.f5 [(17,2)] fun E hG hN hK=>?_
 have hm:Mk zR3:=trivial
 unfold zR3 at h
 refine zb2 (zc0 hG ?_)
 refine zb2 (zc0 hG ?_)
 obtain ⟨v1,hv1,h⟩:=zn1 h
 have hm:=mkP hm v1
 refine zA8 (fun hg=>(zbJ0 0).ok _ hv1) ?_
 refine zb2 (zc0 hG ?_)
 refine zb2 (zc0 hG ?_)
 obtain ⟨v2,hv2,h⟩:=zn1 h
 have hm:=mkP hm v2
 have hc_v2:=(zaR8 (⟨[],[(⟨v1,{ aG.zero with aZ:=(⟨(⟨#[97]⟩:ByteArray),{ aA.zero with mode:=5 }⟩:aD) },3⟩:bK)]⟩:aK)).ok _ hv2
 have el_v2:∀ x:aK,aK.enc x=[A.sl (x.aM.map aF.enc),A.sl (x.bF.map bK.enc)]:=fun x=>rfl
 try dsimp only [ga,la,En.e] at hc_v2
 rw [el_v2] at hc_v2
 dsimp only at hc_v2
 refine zA8 (fun hg=>PFn.unfullA hc_v2) ?_
 refine zb2 (zc0 hG ?_)
 obtain ⟨v3,hv3,h⟩:=zn1 h
 have hm:=mkP hm v3
 refine zA8 (fun hg=>(zaR9 v2.1).ok _ hv3) ?_
 refine zb2 (zc0 hG ?_)
 obtain ⟨v4,hv4,h⟩:=zn1 h
 have hm:=mkP hm v4
 refine zA8 (fun hg=>(zba1 v3.1 v1).ok _ hv4) ?_
 refine zb2 (zc0 hG ?_)
 obtain ⟨v5,hv5,h⟩:=zn1 h
 have hm:=mkP hm v5
 refine zA8 (fun hg=>(zaN3 v3.1 v1).ok _ hv5) ?_
 refine zb2 (zc0 hG ?_)
 obtain ⟨v6,hv6,h⟩:=zn1 h
 have hm:=mkP hm v6
 refine zA8 (fun hg=>PFn.unfullA ((zba0 (⟨[],[(⟨v1,{ aG.zero with aZ:=(⟨(⟨#[97]⟩:ByteArray),{ aA.zero with mode:=5 }⟩:aD) },3⟩:bK)]⟩:aK) v3.1).ok _ (zaD1 hg hv6))) ?_
 exact gogo⟩
attribute [local irreducible] zR3
def zaA5 (j2:aK):Option aK :=
 some j2
def zZ1 (a0:aY) (g1:Int×aK):Option ((Int×aK)⊕aK) :=
 (if (decide (g1.1 < (a0.aX.length:Int)))=true then
  gd (0≤g1.1∧g1.1 < (a0.aX.length:Int)) <|
  (if (a0.aX.getD g1.1.toNat aO.zero).bM=true then
   (zd3 (⟨(a0.aX.getD g1.1.toNat aO.zero).aN,((a0.aX.getD g1.1.toNat aO.zero).aQ).bL,(a0.aX.getD g1.1.toNat aO.zero).gen⟩:bK)).bind fun v2 =>
   gd (g1.2.bF.length+1≤4294967296) <|
   some (.inl ((i64.wrap (g1.1+1)),(⟨g1.2.aM,(g1.2.bF++[v2])⟩:aK)))
  else
   some (.inl ((i64.wrap (g1.1+1)),g1.2)))
 else
  some (.inr g1.2))
def zQ8 (a0:aY) (j1:aK):Option aK :=
 (zc6 (zZ1 a0) (0,j1)).bind (fun z=>zaA5 z)
def zZ2 (a0:aY) (g2:Int×aK):Option ((Int×aK)⊕aK) :=
 (if (decide (g2.1 < (a0.aM.length:Int)))=true then
  gd (0≤g2.1∧g2.1 < (a0.aM.length:Int)) <|
  (zd0 (a0.aM.getD g2.1.toNat aF.zero)).bind fun v3 =>
  gd (g2.2.aM.length+1≤4294967296) <|
  some (.inl ((i64.wrap (g2.1+1)),(⟨(g2.2.aM++[v3]),g2.2.bF⟩:aK)))
 else
  some (.inr g2.2))
def zx7 (a0:aY):Option aK :=
 (zF9 a0).bind fun v1 =>
 (if (!v1)=true then
  some (⟨[],[]⟩:aK)
 else
  (zc6 (zZ2 a0) (0,(⟨[],[]⟩:aK))).bind (fun z=>zQ8 a0 z))
@[reducible,instance] def zdz9 (a0:aY) (j1:aK):=mkJ (zQ8 a0 j1) 2 (@zaA5.eq_1) fun (j2:aK)=>⟨[(2,.ptr 0 0 0),(3,.ptr 1 0 0)],[(0,bx aK.zero),(1,⟨false,2,aK.enc aK.zero,[[.own 2 0 j2.aM.length,.own 3 0 j2.bF.length]]⟩),(2,sx j2.aM),(3,sx j2.bF)],4⟩
@[reducible,instance] def zdA0 (a0:aY) {T:Type} (x:T):=mkL x (@zZ1.eq_1 a0) fun (g1:Int×aK)=>⟨[(2,.ptr 0 0 0),(3,.ptr 1 0 0),(28,la a0.aX),(29,.int .i64 (a0.aX.length:Int)),(30,.int .i64 g1.1)],[(0,bx aK.zero),(1,⟨false,2,aK.enc aK.zero,[[.own 2 0 g1.2.aM.length,.own 3 0 g1.2.bF.length]]⟩),(2,sx g1.2.aM),(3,sx g1.2.bF)],4⟩
@[reducible,instance] def zdA1 (a0:aY) {T1:Type} (v1:T1):=mkJ (zx7 a0,v1) 0 (@zQ8.eq_1 a0) fun (j1:aK)=>⟨[(1,.ptr 0 0 0),(2,.ptr 1 0 0),(3,.ptr 2 0 0)],[(0,bx a0),(1,bx aK.zero),(2,⟨false,2,aK.enc aK.zero,[[.own 3 0 j1.aM.length,.own 4 0 j1.bF.length]]⟩),(3,sx j1.aM),(4,sx j1.bF)],5⟩
@[reducible,instance] def zdA2 (a0:aY) {T:Type} (x:T):=mkL x (@zZ2.eq_1 a0) fun (g2:Int×aK)=>⟨[(1,.ptr 0 0 0),(2,.ptr 1 0 0),(3,.ptr 2 0 0),(13,la a0.aM),(14,.int .i64 (a0.aM.length:Int)),(15,.int .i64 g2.1)],[(0,bx a0),(1,bx aK.zero),(2,⟨false,2,aK.enc aK.zero,[[.own 3 0 g2.2.aM.length,.own 4 0 g2.2.bF.length]]⟩),(3,sx g2.2.aM),(4,sx g2.2.bF)],5⟩
instance zct2 (a0:aY):OkP (zx7 a0) 7 [ga a0] (fun r=>ga r):=⟨fun r h=>by
 refine zae3 Tryz.f7 [(3,5)] fun E hG hN hK=>?_
 have hm:Mk (zx7 a0):=trivial
 unfold zx7 at h
 refine zb2 (zc0 hG ?_)
 refine zb2 (zc0 hG ?_)
 refine g_gh (.ownb 2 0 8 (aF.enc aF.zero)) ?_
 refine g_gh (.ownb 2 1 9 (bK.enc bK.zero)) ?_
 exact gogo⟩
attribute [local irreducible] zx7
def zaT2 (j1:aK):Option aK :=
 some j1
def zap2 (a0:aY) (g1:Int×aK):Option ((Int×aK)⊕aK) :=
 (if (decide (g1.1 < (a0.aX.length:Int)))=true then
  gd (0≤g1.1∧g1.1 < (a0.aX.length:Int)) <|
  (if (a0.aX.getD g1.1.toNat aO.zero).bM=true then
   gd (0≤g1.1∧g1.1 < (a0.aX.length:Int)) <|
   gd (0≤g1.1∧g1.1 < (a0.aX.length:Int)) <|
   gd (0≤g1.1∧g1.1 < (a0.aX.length:Int)) <|
   gd (g1.2.bF.length+1≤4294967296) <|
   some (.inl ((i64.wrap (g1.1+1)),(⟨g1.2.aM,(g1.2.bF++[(⟨(a0.aX.getD g1.1.toNat aO.zero).aN,((a0.aX.getD g1.1.toNat aO.zero).aQ).bL,(a0.aX.getD g1.1.toNat aO.zero).gen⟩:bK)])⟩:aK)))
  else
   some (.inl ((i64.wrap (g1.1+1)),g1.2)))
 else
  some (.inr g1.2))
def zL4 (a0:aY):Option aK :=
 (zI7 a0).bind fun v1 =>
 (if (!v1)=true then
  some ({ aK.zero with  })
 else
  gd (a0.aM.length≤4294967296) <|
  (zc6 (zap2 a0) (0,(⟨a0.aM,[]⟩:aK))).bind (fun z=>zaT2 z))
@[reducible,instance] def zdA3 (a0:aY) {T1:Type} (v1:T1):=mkJ (zL4 a0,v1) 0 (@zaT2.eq_1) fun (j1:aK)=>⟨[(2,.ptr 0 0 0),(3,.ptr 1 0 0)],[(0,bx aK.zero),(1,⟨false,2,aK.enc aK.zero,[[.own 2 0 j1.aM.length,.own 3 0 j1.bF.length]]⟩),(2,sx j1.aM),(3,sx j1.bF)],4⟩
@[reducible,instance] def zdA4 (a0:aY) {T:Type} (x:T):=mkL x (@zap2.eq_1 a0) fun (g1:Int×aK)=>⟨[(1,.ptr 0 0 0),(2,.ptr 1 0 0),(3,.ptr 2 0 0),(4,.int .i64 g1.1)],[(0,bx a0),(1,bx aK.zero),(2,⟨false,2,aK.enc aK.zero,[[.own 3 0 g1.2.aM.length,.own 4 0 g1.2.bF.length]]⟩),(3,sx g1.2.aM),(4,sx g1.2.bF)],5⟩
instance zcP4 (a0:aY):OkP (zL4 a0) 8 [ga a0] (fun r=>ga r):=⟨fun r h=>by
 refine zae3 Tryz.f8 [(9,1),(13,4),(3,4)] fun E hG hN hK=>?_
 have hm:Mk (zL4 a0):=trivial
 unfold zL4 at h
 refine zb2 (zc0 hG ?_)
 refine zb2 (zb2 (zc0 hG ?_))
 obtain ⟨v1,hv1,h⟩:=zn1 h
 have hm:=mkP hm v1
 refine zA8 (fun hg=>(zbs6 a0).ok _ hv1) ?_
 refine zs2 rfl hG h (fun _ h=>?_) (fun _ h=>?_)
 · exact gogo
 refine zr8 ?_
 refine zb2 ?_
 obtain ⟨hb6,h⟩:=zm3 h
 refine zc0 hG ?_
 refine g_gh (.ownb 4 1 9 (bK.enc bK.zero)) ?_
 exact gogo⟩
attribute [local irreducible] zL4
def zL9 (a0:aY):Option Bool :=
 (if (decide (12 < (a0.aM.length:Int))||decide (12 < (a0.aX.length:Int)))=true then
  (zR3).bind fun v1 =>
  some v1
 else
  (zR3).bind fun v2 =>
  ((if v2=true then zx7 a0 else some aK.zero)).bind fun v3 =>
  ((if v2=true then zL4 a0 else some aK.zero)).bind fun v4 =>
  ((if v2=true then zr7 v3 v4 else some false)).bind fun v5 =>
  some (v2&&v5))
instance zaN4 (a0:aY):OkP (zL9 a0) 3 [ga a0] (fun r=>.bool r):=ok1 (zL9.eq_1 a0) Tryz.f3 []
attribute [local irreducible] zL9
@[go_sem] def zdA5 (a0:Int) (j2:bP):St:=⟨[(0,.ptr 0 0 0),(1,.int .i64 a0)],[(0,⟨false,4,bP.enc bP.zero,[[.int .i64 j2.c.now,la j2.c.aM,.own 3 0 j2.c.aX.length,.own 4 0 j2.ev.length]]⟩),(3,sx j2.c.aX),(4,sx j2.ev)],5⟩
@[go_sem] def zdA6 (a0:Int) (v1:bC×(List aD)×Int) (j1:bP) (g1:Int×bP):St:=⟨[(0,.ptr 0 0 0),(1,.int .i64 a0),(8,la v1.2.1),(10,.ptr 3 0 0),(11,.int .i64 g1.1)],[(0,⟨false,4,bP.enc bP.zero,[[.int .i64 g1.2.c.now,la g1.2.c.aM,.own 4 0 g1.2.c.aX.length,.own 5 0 g1.2.ev.length]]⟩),(3,bx ((j1.c.aX.getD a0.toNat aO.zero).aN)),(4,sx g1.2.c.aX),(5,sx g1.2.ev)],6⟩
@[go_sem] def zdA7 (a0:Int) (v1:bC×(List aD)×Int) (j1:bP):St:=⟨[(0,.ptr 0 0 0),(1,.int .i64 a0),(7,.ptr 3 0 0),(8,la v1.2.1)],[(0,⟨false,4,bP.enc bP.zero,[[.int .i64 j1.c.now,la j1.c.aM,.own 4 0 j1.c.aX.length,.own 5 0 j1.ev.length]]⟩),(3,bx v1.1),(4,sx j1.c.aX),(5,sx j1.ev)],6⟩
end
end Ab
end Go.Proofs.YtenebhlnfjcffaaGreatDoor
