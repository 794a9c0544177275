import Derived.Test.YtcggeefhhegeoaaGreatDoorHm28
namespace Go.Proofs.YtcggeefhhegeoaaGreatDoor
namespace Ab
open IntKind (i64 u64 u8)
set_option linter.unusedSimpArgs false
set_option linter.unusedVariables false
set_option linter.defProp false
set_option maxRecDepth 100000
set_option maxHeartbeats 1000000
noncomputable section
attribute [local irreducible] zk1 za4 zd6 za7 zg5 zj4 zl7 zg2 zl8 zg1 zd7 zk9 ze5 zi3 ze3 zi6 za8 za0 ze9 zl0 zn1 zi9 zi2 zg9 zh2 zg6 zc8 zf0 zh3 zg3 zf1 zb0 zb1 zh4 zj0 zf2 zo5 f_ref08_holds zk2 zc6 zn7 zn8 zn3 ze6 zf6 zm4 zn9 zh5 zl1 zm7 zd5 zj5 ze7 zf7 zo8 zo0 zb3 zc4 zi1 zj7 zp6 zq4 zl5 zb7 zn4 zd9 zj2 zp8 zh7 za6 za1 zb8 zi0 zf8 zo1 zj8 ze1 ze4 zd8 zj9 zf9 zr5 zi7 zd3 zp7 zi8 zq1 zb6 zk0 zg8 zj3 zg4 zo4 zm9 zf5 zq9 zi5 zg7 zr7 zt0 zu8 zh1 zu4 zf3 zk7 zb9 za9 zl2 zr6 zm0 ze8 zt1 zc7 zo9 zh8 zh9 zi4 zd4 zc5 zk8 zq8 zt5 zt9 zw6 zf4 zo6 zc3 zc1 zn5 zs8 zu3 zd1 za3 zl9 zt6 zq5 zm5 zk3 zm2 zu2 zj1 zq2 zv5 zr9 zr2 zv6 zw2 zu7 zz1 zb5 zu9 zw7 zB9 zA5 zn6 zq6 zy1 ze2 zv7 zw5 zz2 zr3 zq3 zm6 zy8 zu0 zD1 zp1 zA8 zK3 zD2 zI1 zA7 zN3 zL5 zI7 zB2 zy9 zx0 zB3 zx3 zF4 zz3 zL6 zC6 zD3
def zU4 (a0:aB):Option Bool :=
 (zK3 a0).bind fun v1 =>
 (if (!v1)=true then
  some false
 else
  (zn3 a0).bind fun v2 =>
  ((if v2.2=true then zL6 a0.aA a0.aS v2.1.aP v2.1.aK else some false)).bind fun v3 =>
  some ((!v2.2)||(!v3)))
instance zcS0 (a0:aB):OkP (zU4 a0) 106 [ga a0] (fun r=>.bool r):=ok1 (zU4.eq_1 a0) Tryz.f106 []
attribute [local irreducible] zU4
def zad5 (a0:aB):Option Bool :=
 (zU4 a0).bind fun v1 =>
 some v1
instance zdh2 (a0:aB):OkP (zad5 a0) 65 [ga a0] (fun r=>.bool r):=ok1 (zad5.eq_1 a0) Tryz.f65 []
attribute [local irreducible] zad5
def zan4 (a0:aL) (j2:Unit):Option Bool :=
 (zx3 a0).bind fun v1 =>
 some (decide ((v1.length:Int)≤8))
def zac6 (a0:aL) (g1:Int):Option (Int⊕(Unit⊕Bool)) :=
 (if (decide (g1 < (a0.bB.length:Int)))=true then
  gd (0≤g1∧g1 < (a0.bB.length:Int)) <|
  ((if (!(((!(zb2 ((a0.bB.getD g1.toNat bN.zero).aP)))||decide ((a0.bB.getD g1.toNat bN.zero).gen < 0))||decide (1073741824 < (a0.bB.getD g1.toNat bN.zero).gen)))=true then zq3 ((a0.bB.getD g1.toNat bN.zero).bS) else some false)).bind fun v2 =>
  (if ((((!(zb2 ((a0.bB.getD g1.toNat bN.zero).aP)))||decide ((a0.bB.getD g1.toNat bN.zero).gen < 0))||decide (1073741824 < (a0.bB.getD g1.toNat bN.zero).gen))||(!v2))=true then
   some (.inr (.inr false))
  else
   gd (decide (0 < g1)=true→0≤i64.wrap (g1 - 1)∧i64.wrap (g1 - 1) < (a0.bB.length:Int)) <|
   ((if (decide (0 < g1))=true then zd8 ((a0.bB.getD ((i64.wrap (g1 - 1)).toNat) bN.zero).aP) ((a0.bB.getD g1.toNat bN.zero).aP) else some 0)).bind fun v3 =>
   (if (decide (0 < g1)&&decide (0≤v3))=true then
    some (.inr (.inr false))
   else
    some (.inl (i64.wrap (g1+1)))))
 else
  some (.inr (.inl ())))
def zac7 (a0:aL) (j1:Unit):Option Bool :=
 (zc0 (zac6 a0) 0).bind (fun|.inl z=>zan4 a0 z|.inr z=>some z)
def zac8 (a0:aL) (g2:Int):Option (Int⊕(Unit⊕Bool)) :=
 (if (decide (g2 < (a0.aF.length:Int)))=true then
  gd (0≤g2∧g2 < (a0.aF.length:Int)) <|
  (zad5 (a0.aF.getD g2.toNat aB.zero)).bind fun v4 =>
  gd ((v4&&decide (0 < g2))=true→0≤i64.wrap (g2 - 1)∧i64.wrap (g2 - 1) < (a0.aF.length:Int)) <|
  (if ((!v4)||(decide (0 < g2)&&(!Op.bytesLess (((a0.aF.getD ((i64.wrap (g2 - 1)).toNat) aB.zero).aA).name).toList (((a0.aF.getD g2.toNat aB.zero).aA).name).toList)))=true then
   some (.inr (.inr false))
  else
   some (.inl (i64.wrap (g2+1))))
 else
  some (.inr (.inl ())))
def zx4 (a0:aL):Option Bool :=
 (if (decide (8 < (a0.aF.length:Int))||decide (8 < (a0.bB.length:Int)))=true then
  some false
 else
  (zc0 (zac8 a0) 0).bind (fun|.inl z=>zac7 a0 z|.inr z=>some z))
@[reducible,instance] def zeh8 (a0:aL) j1:=mkJ (zac7 a0 j1) 2 (@zan4.eq_1 a0) fun (j2:Unit)=>⟨[(1,.ptr 0 0 0)],[(0,bx a0)],1⟩
@[reducible,instance] def zeh9 (a0:aL) {T:Type} (x:T):=mkL x (@zac6.eq_1 a0) fun (g1:Int)=>⟨[(1,.ptr 0 0 0),(48,la a0.bB),(49,.int .i64 (a0.bB.length:Int)),(50,.int .i64 g1)],[(0,bx a0)],1⟩
@[reducible,instance] def zei0 (a0:aL):=mkJ (zx4 a0) 0 (@zac7.eq_1 a0) fun (j1:Unit)=>⟨[(1,.ptr 0 0 0)],[(0,bx a0)],1⟩
@[reducible,instance] def zei1 (a0:aL) {T:Type} (x:T):=mkL x (@zac8.eq_1 a0) fun (g2:Int)=>⟨[(1,.ptr 0 0 0),(18,la a0.aF),(19,.int .i64 (a0.aF.length:Int)),(20,.int .i64 g2)],[(0,bx a0)],1⟩
instance zcD8 (a0:aL):OkP (zx4 a0) 24 [ga a0] (fun r=>.bool r):=ok1 (zx4.eq_1 a0) Tryz.f24 []
attribute [local irreducible] zx4
def zak5 (j2:(List Int)):Option ((List Int)×Int) :=
 some (j2,0)
def zO4 (a0:aL) (g1:(List Int)×Int):Option (((List Int)×Int)⊕(List Int)) :=
 (if (decide (g1.2 < (a0.bB.length:Int)))=true then
  gd (0≤g1.2∧g1.2 < (a0.bB.length:Int)) <|
  (zk0 g1.1 ((a0.bB.getD g1.2.toNat bN.zero).aP)).bind fun v4 =>
  (zc4 v4 [(a0.bB.getD g1.2.toNat bN.zero).gen]).bind fun v5 =>
  (zk7 v5 ((a0.bB.getD g1.2.toNat bN.zero).bS)).bind fun v6 =>
  some (.inl (v6,i64.wrap (g1.2+1)))
 else
  some (.inr g1.1))
def zZ5 (a0:aL) (j1:(List Int)):Option ((List Int)×Int) :=
 (zc4 j1 [(a0.bB.length:Int)]).bind fun v3 =>
 (zc0 (zO4 a0) (v3,0)).bind (fun z=>zak5 z)
def zO5 (a0:aL) (g2:(List Int)×Int):Option (((List Int)×Int)⊕(List Int)) :=
 (if (decide (g2.2 < (a0.aF.length:Int)))=true then
  gd (0≤g2.2∧g2.2 < (a0.aF.length:Int)) <|
  (zk3 g2.1 (a0.aF.getD g2.2.toNat aB.zero)).bind fun v7 =>
  some (.inl (v7,i64.wrap (g2.2+1)))
 else
  some (.inr g2.1))
def zx5 (a0:aL):Option ((List Int)×Int) :=
 (zx4 a0).bind fun v1 =>
 (if (!v1)=true then
  some ([],2)
 else
  (zc4 [] [(a0.aF.length:Int)]).bind fun v2 =>
  (zc0 (zO5 a0) (v2,0)).bind (fun z=>zZ5 a0 z))
@[reducible,instance] def zei2 a0 j1 {T1:Type} (v3:T1):=mkJ (zZ5 a0 j1,v3) 2 (@zak5.eq_1) fun (j2:(List Int))=>⟨[(4,.sl (j2.map (eI .u8)))],[],0⟩
@[reducible,instance] def zei3 (a0:aL) {T:Type} (x:T):=mkL x (@zO4.eq_1 a0) fun (g1:(List Int)×Int)=>⟨[(4,.sl (g1.1.map (eI .u8))),(35,la a0.bB),(36,.int .i64 (a0.bB.length:Int)),(37,.int .i64 g1.2)],[],0⟩
@[reducible,instance] def zei4 (a0:aL) {T1:Type} (v1:T1) {T2:Type} (v2:T2):=mkJ ((zx5 a0,v1),v2) 0 (@zZ5.eq_1 a0) fun (j1:(List Int))=>⟨[(1,.ptr 0 0 0),(4,.sl (j1.map (eI .u8)))],[(0,bx a0)],1⟩
@[reducible,instance] def zei5 (a0:aL) {T:Type} (x:T):=mkL x (@zO5.eq_1 a0) fun (g2:(List Int)×Int)=>⟨[(1,.ptr 0 0 0),(4,.sl (g2.1.map (eI .u8))),(18,la a0.aF),(19,.int .i64 (a0.aF.length:Int)),(20,.int .i64 g2.2)],[(0,bx a0)],1⟩
instance zbn8 (a0:aL):OkP (zx5 a0) 9 [ga a0] (fun r=>.tup [.sl (r.1.map (eI .u8)),.int .i64 r.2]):=ok1 (zx5.eq_1 a0) Tryz.f9 []
attribute [local irreducible] zx5
def zO6 (j2:aU×aL):Option (aL×Int) :=
 (if (!decide (j2.1.bC.err=0))=true then
  some ({ aL.zero with  },j2.1.bC.err)
 else
  (if (decide (0 < (j2.1.bC.rest.length:Int)))=true then
   some ({ aL.zero with  },6)
  else
   (zx4 j2.2).bind fun v3 =>
   (if (!v3)=true then
    some ({ aL.zero with  },2)
   else
    some (j2.2,0))))
def zs4 (g1:Int×aU×aL):Option ((Int×aU×aL)⊕(aU×aL)) :=
 (if (decide (0 < g1.1)&&decide (g1.2.1.bC.err=0))=true then
  (zd1 g1.2.1).bind fun v4 =>
  (za9 v4.2).bind fun v5 =>
  (zm6 1 v5.2).bind fun v6 =>
  gd (g1.2.2.bB.length+1≤4294967296) <|
  some (.inl ((i64.wrap (g1.1 - 1)),v6.2,(⟨g1.2.2.aF,(g1.2.2.bB++[{ { { bN.zero with aP:=v4.1 } with gen:=v5.1 } with bS:=v6.1 }])⟩:aL)))
 else
  some (.inr (g1.2.1,g1.2.2)))
def zH8 (j1:aU×aL):Option (aL×Int) :=
 (zb9 8 j1.1).bind fun v2 =>
 (zc0 zs4 (v2.1,v2.2,j1.2)).bind (fun z=>zO6 z)
def zs5 (g2:Int×aU×aL):Option ((Int×aU×aL)⊕(aU×aL)) :=
 (if (decide (0 < g2.1)&&decide (g2.2.1.bC.err=0))=true then
  (ze2 g2.2.1).bind fun v7 =>
  gd (g2.2.2.aF.length+1≤4294967296) <|
  some (.inl ((i64.wrap (g2.1 - 1)),v7.2,(⟨(g2.2.2.aF++[v7.1]),g2.2.2.bB⟩:aL)))
 else
  some (.inr (g2.2.1,g2.2.2)))
def zq7 (a0:List Int):Option (aL×Int) :=
 (zb9 8 (⟨{ bT.zero with rest:=a0 }⟩:aU)).bind fun v1 =>
 (zc0 zs5 (v1.1,v1.2,(⟨[],[]⟩:aL))).bind (fun z=>zH8 z)
@[reducible,instance] def zei6 (j1:aU×aL) {T1:Type} (v2:T1):=mkJ (zH8 j1,v2) 2 (@zO6.eq_1) fun (j2:aU×aL)=>⟨[(2,.ptr 0 0 0),(4,.ptr 1 0 0),(5,.ptr 2 0 0)],[(0,bx aL.zero),(1,bx j2.1),(2,⟨false,2,aL.enc aL.zero,[[.own 3 0 j2.2.aF.length,.own 4 0 j2.2.bB.length]]⟩),(3,sx j2.2.aF),(4,sx j2.2.bB)],5⟩
@[reducible,instance] def zei7 {T:Type} (x:T):=mkL x (@zs4.eq_1) fun (g1:Int×aU×aL)=>⟨[(2,.ptr 0 0 0),(4,.ptr 1 0 0),(5,.ptr 2 0 0),(7,.int .i64 g1.1)],[(0,bx aL.zero),(1,bx g1.2.1),(2,⟨false,2,aL.enc aL.zero,[[.own 3 0 g1.2.2.aF.length,.own 4 0 g1.2.2.bB.length]]⟩),(3,sx g1.2.2.aF),(4,sx g1.2.2.bB)],5⟩
@[reducible,instance] def zei8 (a0:List Int) {T1:Type} (v1:T1):=mkJ (zq7 a0,v1) 0 (@zH8.eq_1) fun (j1:aU×aL)=>⟨[(2,.ptr 0 0 0),(4,.ptr 1 0 0),(5,.ptr 2 0 0)],[(0,bx aL.zero),(1,bx j1.1),(2,⟨false,2,aL.enc aL.zero,[[.own 3 0 j1.2.aF.length,.own 4 0 j1.2.bB.length]]⟩),(3,sx j1.2.aF),(4,sx j1.2.bB)],5⟩
@[reducible,instance] def zei9 {T:Type} (x:T):=mkL x (@zs5.eq_1) fun (g2:Int×aU×aL)=>⟨[(2,.ptr 0 0 0),(4,.ptr 1 0 0),(5,.ptr 2 0 0),(6,.int .i64 g2.1)],[(0,bx aL.zero),(1,bx g2.2.1),(2,⟨false,2,aL.enc aL.zero,[[.own 3 0 g2.2.2.aF.length,.own 4 0 g2.2.2.bB.length]]⟩),(3,sx g2.2.2.aF),(4,sx g2.2.2.bB)],5⟩
instance zbn9 (a0:List Int):OkP (zq7 a0) 10 [.sl (a0.map (eI .u8))] (fun r=>.tup [ga r.1,.int .i64 r.2]):=⟨fun r h=>by
 refine zak7 Tryz.f10 [(5,5)] fun E hG hN hK=>?_
 have hm:Mk (zq7 a0):=trivial
 unfold zq7 at h
 refine za2 (za5 hG ?_)
 refine za2 (za5 hG ?_)
 refine za2 (za5 hG ?_)
 refine g_gh (.ownb 2 0 8 (aB.enc aB.zero)) ?_
 refine g_gh (.ownb 2 1 9 (bN.enc bN.zero)) ?_
 exact gogo⟩
attribute [local irreducible] zq7
def zaA3 (j1:(List Bool)):Option (List Bool) :=
 some j1
def zG2 (a0:aL) (a1:aJ) (v3:(List aM)) (g1:Int×(List Bool)):Option ((Int×(List Bool))⊕(List Bool)) :=
 (if (decide (g1.1 < (v3.length:Int)))=true then
  gd (0≤g1.1∧g1.1 < (v3.length:Int)) <|
  (zm4 a0.aF ((v3.getD g1.1.toNat aM.zero).name)).bind fun v4 =>
  (if (decide (0≤v4))=true then
   gd (0≤v4∧v4 < (a0.aF.length:Int)) <|
   (zt9 (a0.aF.getD v4.toNat aB.zero) a1).bind fun v5 =>
   gd (g1.2.length+1≤4294967296) <|
   some (.inl ((i64.wrap (g1.1+1)),(g1.2++[(!v5.2)])))
  else
   gd (g1.2.length+1≤4294967296) <|
   some (.inl ((i64.wrap (g1.1+1)),(g1.2++[true]))))
 else
  some (.inr g1.2))
def zD6 (a0:aL) (a1:aJ):Option (List Bool) :=
 (zr2 a0.bB a1).bind fun v1 =>
 ((if (!(decide (v1 < 0)))=true then zx4 a0 else some false)).bind fun v2 =>
 (if (decide (v1 < 0)||(!v2))=true then
  some []
 else
  gd (0≤v1∧v1 < (a0.bB.length:Int)) <|
  (zA7 ((a0.bB.getD v1.toNat bN.zero).bS)).bind fun v3 =>
  (zc0 (zG2 a0 a1 v3) (0,[])).bind (fun z=>zaA3 z))
@[reducible,instance] def zej0 a0 a1 {T1:Type} (v1:T1) {T2:Type} (v2:T2) {T3:Type} (v3:T3):=mkJ (((zD6 a0 a1,v1),v2),v3) 0 (@zaA3.eq_1) fun (j1:(List Bool))=>⟨[(6,.own 0 0 j1.length)],[(0,⟨false,1,[A.bool false],j1.map eB⟩)],1⟩
@[reducible,instance] def zej1 (a0:aL) (a1:aJ) (v3:(List aM)) {T:Type} (x:T):=mkL x (@zG2.eq_1 a0 a1 v3) fun (g1:Int×(List Bool))=>⟨[(2,.ptr 0 0 0),(3,.ptr 1 0 0),(6,.own 2 0 g1.2.length),(28,la v3),(29,.int .i64 (v3.length:Int)),(30,.int .i64 g1.1)],[(0,bx a0),(1,bx a1),(2,⟨false,1,[A.bool false],g1.2.map eB⟩)],3⟩
instance zbi3 (a0:aL) (a1:aJ):OkP (zD6 a0 a1) 14 [ga a0,ga a1] (fun r=>.sl (r.map eB)):=ok1 (zD6.eq_1 a0 a1) Tryz.f14 [(6,1)]
attribute [local irreducible] zD6
end
end Ab
end Go.Proofs.YtcggeefhhegeoaaGreatDoor
