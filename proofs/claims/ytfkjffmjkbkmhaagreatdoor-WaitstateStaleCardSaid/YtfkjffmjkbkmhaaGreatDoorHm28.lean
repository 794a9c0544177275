import Derived.Test.YtfkjffmjkbkmhaaGreatDoorHm19
import Derived.Test.YtfkjffmjkbkmhaaGreatDoorHm23
import Derived.Test.YtfkjffmjkbkmhaaGreatDoorHm24
namespace Go.Proofs.YtfkjffmjkbkmhaaGreatDoor
namespace Ab
open IntKind (i64 u64 u8)
set_option linter.unusedSimpArgs false
set_option linter.defProp false
set_option linter.unusedVariables false
set_option maxRecDepth 100000
set_option maxHeartbeats 1000000
noncomputable section
attribute [local irreducible] zl7 zl8 zb2 za3 zd9 za8 zm2 zj6 zg1 zg2 zf8 zb1 zf5 zg6 zj1 ze3 za9 zj4 zi1 zh6 zg4 zf2 zc4 zi7 zb0 zf0 zl9 zh2 zm6 zh3 zi2 zk8 zn7 zm0 f_ref08_holds zc3 zk9 ze0 zm3 zf7 zh4 zf6 zb3 zl0 za0 ze7 zi5 ze8 zj3 zd7 zg5 zb4 zb5 zf1 zh7 zm8 zd3 zh9 zn6 zk3 zc9 zq5 za1 zi6 zg3 zd8 zn8 zc0 zd5 zf3 zp8 zo8 ze4 zk2 zb7 zh8 zd6 zp2 zd0 zb8 zs6 zj0 zn9 zj2 zp3 zl1 zh1 zq0 zl5 zu2 zg8 zb6 ze6 zk4 zi9 zf9 zj5 zp4 zg9 zi3 ze5 ze2 zq7 zt2 zi4 zl2 zs8 zt1 zs9 zm1 zt7 zs2 zf4 zr3 zt8 zp5 zd4 zq8 zo0 zh5 zd2 zi8 za7 zu3 zc8 za6 zj9 zr0 zo6 zl6 zt9 zv1 zx1 zq6 zn5 zv8 zy2 zG9 zo7 zr1 zc1 zx5 zx6 zs3 zr2 zw3 zy6 zA0 zr7 zD1 zM3 zj8 zz3 zN5 zH1 zM4 zF3 zP6 zB5
def zT7 (a0:aI) (a1:List aV) (a2:aK) (a3:aD):Option Bool :=
 (zz3 a0 a1 a2 a3).bind fun v1 =>
 ((if v1=true then zp2 a1 a2 a3 else some [])).bind fun v2 =>
 ((if v1=true then zs3 a0 v2 else some false)).bind fun v3 =>
 some (v1&&v3)
instance zcR6 (a0:aI) (a1:List aV) (a2:aK) (a3:aD):OkP (zT7 a0 a1 a2 a3) 123 [ga a0,la a1,ga a2,ga a3] (fun r=>.bool r):=ok1 (zT7.eq_1 a0 a1 a2 a3) Tryz.f123 []
attribute [local irreducible] zT7
def zP7 (a0:aA):Option Bool :=
 (zM4 a0).bind fun v1 =>
 (if (!v1)=true then
  some false
 else
  (zl8 a0).bind fun v2 =>
  ((if v2.2=true then zT7 a0.aB a0.aQ v2.1.aJ v2.1.aN else some false)).bind fun v3 =>
  some ((!v2.2)||(!v3)))
instance zcL0 (a0:aA):OkP (zP7 a0) 79 [ga a0] (fun r=>.bool r):=ok1 (zP7.eq_1 a0) Tryz.f79 []
attribute [local irreducible] zP7
def zX4 (a0:aA):Option Bool :=
 (zP7 a0).bind fun v1 =>
 some v1
instance zcZ1 (a0:aA):OkP (zX4 a0) 47 [ga a0] (fun r=>.bool r):=ok1 (zX4.eq_1 a0) Tryz.f47 []
attribute [local irreducible] zX4
def zab3 (j1:(List aK)):Option (List aK) :=
 (zl6 j1).bind fun v1 =>
 some v1
def zL4 (a0:List aA) (g1:Int×(List aK)):Option ((Int×(List aK))⊕(List aK)) :=
 (if (decide (g1.1 < (a0.length:Int)))=true then
  gd (0≤g1.1∧g1.1 < (a0.length:Int)) <|
  (zD1 (a0.getD g1.1.toNat aA.zero)).bind fun v2 =>
  gd (g1.2.length+v2.length≤4294967296) <|
  some (.inl ((i64.wrap (g1.1+1)),(g1.2++v2)))
 else
  some (.inr g1.2))
def zG2 (a0:List aA):Option (List aK) :=
 (zb9 (zL4 a0) (0,[])).bind (fun z=>zab3 z)
@[reducible,instance] def zdU7 a0:=mkJ (zG2 a0) 0 (@zab3.eq_1) fun (j1:(List aK))=>⟨[(3,.own 0 0 j1.length)],[(0,sx j1)],1⟩
@[reducible,instance] def zdU8 (a0:List aA) {T:Type} (x:T):=mkL x (@zL4.eq_1 a0) fun (g1:Int×(List aK))=>⟨[(3,.own 0 0 g1.2.length),(6,la a0),(7,.int .i64 (a0.length:Int)),(8,.int .i64 g1.1)],[(0,sx g1.2)],1⟩
instance zcZ2 (a0:List aA):OkP (zG2 a0) 50 [la a0] (fun r=>la r):=ok1 (zG2.eq_1 a0) Tryz.f50 [(3,1)]
attribute [local irreducible] zG2
def zW8 (j1:(List aK)):Option (List aK) :=
 (zl6 j1).bind fun v2 =>
 some v2
def zN7 (a0:aL) (g1:Int×(List aK)):Option ((Int×(List aK))⊕(List aK)) :=
 (if (decide (g1.1 < (a0.aU.length:Int)))=true then
  gd (0≤g1.1∧g1.1 < (a0.aU.length:Int)) <|
  gd (g1.2.length+1≤4294967296) <|
  some (.inl ((i64.wrap (g1.1+1)),(g1.2++[(a0.aU.getD g1.1.toNat bI.zero).aJ])))
 else
  some (.inr g1.2))
def zu5 (a0:aL):Option (List aK) :=
 (zG2 a0.aC).bind fun v1 =>
 gd (v1.length≤4294967296) <|
 (zb9 (zN7 a0) (0,v1)).bind (fun z=>zW8 z)
@[reducible,instance] def zdU9 a0 {T1:Type} (v1:T1):=mkJ (zu5 a0,v1) 0 (@zW8.eq_1) fun (j1:(List aK))=>⟨[(3,.own 0 0 j1.length)],[(0,sx j1)],1⟩
@[reducible,instance] def zdV0 (a0:aL) {T:Type} (x:T):=mkL x (@zN7.eq_1 a0) fun (g1:Int×(List aK))=>⟨[(3,.own 0 0 g1.2.length),(11,la a0.aU),(12,.int .i64 (a0.aU.length:Int)),(13,.int .i64 g1.1)],[(0,sx g1.2)],1⟩
instance zcx1 (a0:aL):OkP (zu5 a0) 17 [ga a0] (fun r=>la r):=ok1 (zu5.eq_1 a0) Tryz.f17 []
attribute [local irreducible] zu5
def zah9 (a0:aL) (j2:Unit):Option Bool :=
 (zu5 a0).bind fun v1 =>
 some (decide ((v1.length:Int)≤8))
def zF4 (a0:aL) (g1:Int):Option (Int⊕(Unit⊕Bool)) :=
 (if (decide (g1 < (a0.aU.length:Int)))=true then
  gd (0≤g1∧g1 < (a0.aU.length:Int)) <|
  ((if (!(((!(zc5 ((a0.aU.getD g1.toNat bI.zero).aJ)))||decide ((a0.aU.getD g1.toNat bI.zero).gen < 0))||decide (1073741824 < (a0.aU.getD g1.toNat bI.zero).gen)))=true then zo7 ((a0.aU.getD g1.toNat bI.zero).bP) else some false)).bind fun v2 =>
  (if ((((!(zc5 ((a0.aU.getD g1.toNat bI.zero).aJ)))||decide ((a0.aU.getD g1.toNat bI.zero).gen < 0))||decide (1073741824 < (a0.aU.getD g1.toNat bI.zero).gen))||(!v2))=true then
   some (.inr (.inr false))
  else
   gd (decide (0 < g1)=true→0≤i64.wrap (g1 - 1)∧i64.wrap (g1 - 1) < (a0.aU.length:Int)) <|
   ((if (decide (0 < g1))=true then zd8 ((a0.aU.getD ((i64.wrap (g1 - 1)).toNat) bI.zero).aJ) ((a0.aU.getD g1.toNat bI.zero).aJ) else some 0)).bind fun v3 =>
   (if (decide (0 < g1)&&decide (0≤v3))=true then
    some (.inr (.inr false))
   else
    some (.inl (i64.wrap (g1+1)))))
 else
  some (.inr (.inl ())))
def zW9 (a0:aL) (j1:Unit):Option Bool :=
 (zb9 (zF4 a0) 0).bind (fun|.inl z=>zah9 a0 z|.inr z=>some z)
def zX0 (a0:aL) (g2:Int):Option (Int⊕(Unit⊕Bool)) :=
 (if (decide (g2 < (a0.aC.length:Int)))=true then
  gd (0≤g2∧g2 < (a0.aC.length:Int)) <|
  (zX4 (a0.aC.getD g2.toNat aA.zero)).bind fun v4 =>
  gd ((v4&&decide (0 < g2))=true→0≤i64.wrap (g2 - 1)∧i64.wrap (g2 - 1) < (a0.aC.length:Int)) <|
  (if ((!v4)||(decide (0 < g2)&&(!Op.bytesLess (((a0.aC.getD ((i64.wrap (g2 - 1)).toNat) aA.zero).aB).name).toList (((a0.aC.getD g2.toNat aA.zero).aB).name).toList)))=true then
   some (.inr (.inr false))
  else
   some (.inl (i64.wrap (g2+1))))
 else
  some (.inr (.inl ())))
def zt6 (a0:aL):Option Bool :=
 (if (decide (8 < (a0.aC.length:Int))||decide (8 < (a0.aU.length:Int)))=true then
  some false
 else
  (zb9 (zX0 a0) 0).bind (fun|.inl z=>zW9 a0 z|.inr z=>some z))
@[reducible,instance] def zdV1 (a0:aL) j1:=mkJ (zW9 a0 j1) 2 (@zah9.eq_1 a0) fun (j2:Unit)=>⟨[(1,.ptr 0 0 0)],[(0,bx a0)],1⟩
@[reducible,instance] def zdV2 (a0:aL) {T:Type} (x:T):=mkL x (@zF4.eq_1 a0) fun (g1:Int)=>⟨[(1,.ptr 0 0 0),(48,la a0.aU),(49,.int .i64 (a0.aU.length:Int)),(50,.int .i64 g1)],[(0,bx a0)],1⟩
@[reducible,instance] def zdV3 (a0:aL):=mkJ (zt6 a0) 0 (@zW9.eq_1 a0) fun (j1:Unit)=>⟨[(1,.ptr 0 0 0)],[(0,bx a0)],1⟩
@[reducible,instance] def zdV4 (a0:aL) {T:Type} (x:T):=mkL x (@zX0.eq_1 a0) fun (g2:Int)=>⟨[(1,.ptr 0 0 0),(18,la a0.aC),(19,.int .i64 (a0.aC.length:Int)),(20,.int .i64 g2)],[(0,bx a0)],1⟩
instance zaJ7 (a0:aL):OkP (zt6 a0) 16 [ga a0] (fun r=>.bool r):=ok1 (zt6.eq_1 a0) Tryz.f16 []
attribute [local irreducible] zt6
def zax4 (j2:(List Int)):Option ((List Int)×Int) :=
 some (j2,0)
def zax5 (a0:aL) (g1:(List Int)×Int):Option (((List Int)×Int)⊕(List Int)) :=
 (if (decide (g1.2 < (a0.aU.length:Int)))=true then
  gd (0≤g1.2∧g1.2 < (a0.aU.length:Int)) <|
  (zk4 g1.1 ((a0.aU.getD g1.2.toNat bI.zero).aJ)).bind fun v4 =>
  (zc9 v4 [(a0.aU.getD g1.2.toNat bI.zero).gen]).bind fun v5 =>
  (zl1 v5 ((a0.aU.getD g1.2.toNat bI.zero).bP)).bind fun v6 =>
  some (.inl (v6,i64.wrap (g1.2+1)))
 else
  some (.inr g1.1))
def zaf3 (a0:aL) (j1:(List Int)):Option ((List Int)×Int) :=
 (zc9 j1 [(a0.aU.length:Int)]).bind fun v3 =>
 (zb9 (zax5 a0) (v3,0)).bind (fun z=>zax4 z)
def zax6 (a0:aL) (g2:(List Int)×Int):Option (((List Int)×Int)⊕(List Int)) :=
 (if (decide (g2.2 < (a0.aC.length:Int)))=true then
  gd (0≤g2.2∧g2.2 < (a0.aC.length:Int)) <|
  (zo0 g2.1 (a0.aC.getD g2.2.toNat aA.zero)).bind fun v7 =>
  some (.inl (v7,i64.wrap (g2.2+1)))
 else
  some (.inr g2.1))
def zL5 (a0:aL):Option ((List Int)×Int) :=
 (zt6 a0).bind fun v1 =>
 (if (!v1)=true then
  some ([],2)
 else
  (zc9 [] [(a0.aC.length:Int)]).bind fun v2 =>
  (zb9 (zax6 a0) (v2,0)).bind (fun z=>zaf3 a0 z))
@[reducible,instance] def zdV5 a0 j1 {T1:Type} (v3:T1):=mkJ (zaf3 a0 j1,v3) 2 (@zax4.eq_1) fun (j2:(List Int))=>⟨[(4,.sl (j2.map (eI .u8)))],[],0⟩
@[reducible,instance] def zdV6 (a0:aL) {T:Type} (x:T):=mkL x (@zax5.eq_1 a0) fun (g1:(List Int)×Int)=>⟨[(4,.sl (g1.1.map (eI .u8))),(35,la a0.aU),(36,.int .i64 (a0.aU.length:Int)),(37,.int .i64 g1.2)],[],0⟩
@[reducible,instance] def zdV7 (a0:aL) {T1:Type} (v1:T1) {T2:Type} (v2:T2):=mkJ ((zL5 a0,v1),v2) 0 (@zaf3.eq_1 a0) fun (j1:(List Int))=>⟨[(1,.ptr 0 0 0),(4,.sl (j1.map (eI .u8)))],[(0,bx a0)],1⟩
@[reducible,instance] def zdV8 (a0:aL) {T:Type} (x:T):=mkL x (@zax6.eq_1 a0) fun (g2:(List Int)×Int)=>⟨[(1,.ptr 0 0 0),(4,.sl (g2.1.map (eI .u8))),(18,la a0.aC),(19,.int .i64 (a0.aC.length:Int)),(20,.int .i64 g2.2)],[(0,bx a0)],1⟩
instance zbj1 (a0:aL):OkP (zL5 a0) 11 [ga a0] (fun r=>.tup [.sl (r.1.map (eI .u8)),.int .i64 r.2]):=ok1 (zL5.eq_1 a0) Tryz.f11 []
attribute [local irreducible] zL5
def zax7 (j2:bD×aL):Option (aL×Int) :=
 (if (!decide (j2.1.bO.err=0))=true then
  some ({ aL.zero with  },j2.1.bO.err)
 else
  (if (decide (0 < (j2.1.bO.rest.length:Int)))=true then
   some ({ aL.zero with  },6)
  else
   (zt6 j2.2).bind fun v3 =>
   (if (!v3)=true then
    some ({ aL.zero with  },2)
   else
    some (j2.2,0))))
def zax8 (g1:Int×bD×aL):Option ((Int×bD×aL)⊕(bD×aL)) :=
 (if (decide (0 < g1.1)&&decide (g1.2.1.bO.err=0))=true then
  (zh5 g1.2.1).bind fun v4 =>
  (zb8 v4.2).bind fun v5 =>
  (zr1 1 v5.2).bind fun v6 =>
  gd (g1.2.2.aU.length+1≤4294967296) <|
  some (.inl ((i64.wrap (g1.1 - 1)),v6.2,(⟨g1.2.2.aC,(g1.2.2.aU++[{ { { bI.zero with aJ:=v4.1 } with gen:=v5.1 } with bP:=v6.1 }])⟩:aL)))
 else
  some (.inr (g1.2.1,g1.2.2)))
def zaf4 (j1:bD×aL):Option (aL×Int) :=
 (zd0 8 j1.1).bind fun v2 =>
 (zb9 zax8 (v2.1,v2.2,j1.2)).bind (fun z=>zax7 z)
def zax9 (g2:Int×bD×aL):Option ((Int×bD×aL)⊕(bD×aL)) :=
 (if (decide (0 < g2.1)&&decide (g2.2.1.bO.err=0))=true then
  (zn5 g2.2.1).bind fun v7 =>
  gd (g2.2.2.aC.length+1≤4294967296) <|
  some (.inl ((i64.wrap (g2.1 - 1)),v7.2,(⟨(g2.2.2.aC++[v7.1]),g2.2.2.aU⟩:aL)))
 else
  some (.inr (g2.2.1,g2.2.2)))
def zE7 (a0:List Int):Option (aL×Int) :=
 (zd0 8 (⟨{ bQ.zero with rest:=a0 }⟩:bD)).bind fun v1 =>
 (zb9 zax9 (v1.1,v1.2,(⟨[],[]⟩:aL))).bind (fun z=>zaf4 z)
@[reducible,instance] def zdV9 (j1:bD×aL) {T1:Type} (v2:T1):=mkJ (zaf4 j1,v2) 2 (@zax7.eq_1) fun (j2:bD×aL)=>⟨[(2,.ptr 0 0 0),(4,.ptr 1 0 0),(5,.ptr 2 0 0)],[(0,bx aL.zero),(1,bx j2.1),(2,⟨false,2,aL.enc aL.zero,[[.own 3 0 j2.2.aC.length,.own 4 0 j2.2.aU.length]]⟩),(3,sx j2.2.aC),(4,sx j2.2.aU)],5⟩
@[reducible,instance] def zdW0 {T:Type} (x:T):=mkL x (@zax8.eq_1) fun (g1:Int×bD×aL)=>⟨[(2,.ptr 0 0 0),(4,.ptr 1 0 0),(5,.ptr 2 0 0),(7,.int .i64 g1.1)],[(0,bx aL.zero),(1,bx g1.2.1),(2,⟨false,2,aL.enc aL.zero,[[.own 3 0 g1.2.2.aC.length,.own 4 0 g1.2.2.aU.length]]⟩),(3,sx g1.2.2.aC),(4,sx g1.2.2.aU)],5⟩
@[reducible,instance] def zdW1 (a0:List Int) {T1:Type} (v1:T1):=mkJ (zE7 a0,v1) 0 (@zaf4.eq_1) fun (j1:bD×aL)=>⟨[(2,.ptr 0 0 0),(4,.ptr 1 0 0),(5,.ptr 2 0 0)],[(0,bx aL.zero),(1,bx j1.1),(2,⟨false,2,aL.enc aL.zero,[[.own 3 0 j1.2.aC.length,.own 4 0 j1.2.aU.length]]⟩),(3,sx j1.2.aC),(4,sx j1.2.aU)],5⟩
@[reducible,instance] def zdW2 {T:Type} (x:T):=mkL x (@zax9.eq_1) fun (g2:Int×bD×aL)=>⟨[(2,.ptr 0 0 0),(4,.ptr 1 0 0),(5,.ptr 2 0 0),(6,.int .i64 g2.1)],[(0,bx aL.zero),(1,bx g2.2.1),(2,⟨false,2,aL.enc aL.zero,[[.own 3 0 g2.2.2.aC.length,.own 4 0 g2.2.2.aU.length]]⟩),(3,sx g2.2.2.aC),(4,sx g2.2.2.aU)],5⟩
instance zbj2 (a0:List Int):OkP (zE7 a0) 12 [.sl (a0.map (eI .u8))] (fun r=>.tup [ga r.1,.int .i64 r.2]):=⟨fun r h=>by
 refine zY9 Tryz.f12 [(5,5)] fun E hG hN hK=>?_
 have hm:Mk (zE7 a0):=trivial
 unfold zE7 at h
 refine za2 (za5 hG ?_)
 refine za2 (za5 hG ?_)
 refine za2 (za5 hG ?_)
 refine g_gh (.ownb 2 0 8 (aA.enc aA.zero)) ?_
 refine g_gh (.ownb 2 1 9 (bI.enc bI.zero)) ?_
 exact gogo⟩
attribute [local irreducible] zE7
def zav7 (j1:(List Bool)):Option (List Bool) :=
 some j1
def zav8 (a0:aL) (a1:aK) (v3:(List aM)) (g1:Int×(List Bool)):Option ((Int×(List Bool))⊕(List Bool)) :=
 (if (decide (g1.1 < (v3.length:Int)))=true then
  gd (0≤g1.1∧g1.1 < (v3.length:Int)) <|
  (zl0 a0.aC ((v3.getD g1.1.toNat aM.zero).name)).bind fun v4 =>
  (if (decide (0≤v4))=true then
   gd (0≤v4∧v4 < (a0.aC.length:Int)) <|
   (zt1 (a0.aC.getD v4.toNat aA.zero) a1).bind fun v5 =>
   gd (g1.2.length+1≤4294967296) <|
   some (.inl ((i64.wrap (g1.1+1)),(g1.2++[(!v5.2)])))
  else
   gd (g1.2.length+1≤4294967296) <|
   some (.inl ((i64.wrap (g1.1+1)),(g1.2++[true]))))
 else
  some (.inr g1.2))
def zI2 (a0:aL) (a1:aK):Option (List Bool) :=
 (zr2 a0.aU a1).bind fun v1 =>
 ((if (!(decide (v1 < 0)))=true then zt6 a0 else some false)).bind fun v2 =>
 (if (decide (v1 < 0)||(!v2))=true then
  some []
 else
  gd (0≤v1∧v1 < (a0.aU.length:Int)) <|
  (zP6 ((a0.aU.getD v1.toNat bI.zero).bP)).bind fun v3 =>
  (zb9 (zav8 a0 a1 v3) (0,[])).bind (fun z=>zav7 z))
@[reducible,instance] def zdW3 a0 a1 {T1:Type} (v1:T1) {T2:Type} (v2:T2) {T3:Type} (v3:T3):=mkJ (((zI2 a0 a1,v1),v2),v3) 0 (@zav7.eq_1) fun (j1:(List Bool))=>⟨[(6,.own 0 0 j1.length)],[(0,⟨false,1,[A.bool false],j1.map eB⟩)],1⟩
@[reducible,instance] def zdW4 (a0:aL) (a1:aK) (v3:(List aM)) {T:Type} (x:T):=mkL x (@zav8.eq_1 a0 a1 v3) fun (g1:Int×(List Bool))=>⟨[(2,.ptr 0 0 0),(3,.ptr 1 0 0),(6,.own 2 0 g1.2.length),(28,la v3),(29,.int .i64 (v3.length:Int)),(30,.int .i64 g1.1)],[(0,bx a0),(1,bx a1),(2,⟨false,1,[A.bool false],g1.2.map eB⟩)],3⟩
instance zbe1 (a0:aL) (a1:aK):OkP (zI2 a0 a1) 14 [ga a0,ga a1] (fun r=>.sl (r.map eB)):=ok1 (zI2.eq_1 a0 a1) Tryz.f14 [(6,1)]
attribute [local irreducible] zI2
def zT8 (a0:List aA) (j1:(List aK)):Option ((List aK)×(List aA)) :=
 (zl6 j1).bind fun v1 =>
 some (v1,a0)
def zaq2 (a0:List aA) (g1:Int×(List aK)):Option ((Int×(List aK))⊕(List aK)) :=
 (if (decide (g1.1 < ((a0.length:Nat):Int)))=true then
  gd (0≤g1.1∧g1.1 < ((a0.length:Nat):Int)) <|
  (zD1 (a0.getD g1.1.toNat aA.zero)).bind fun v2 =>
  gd (g1.2.length+v2.length≤4294967296) <|
  some (.inl ((i64.wrap (g1.1+1)),(g1.2++v2)))
 else
  some (.inr g1.2))
def zA8 (a0:List aA):Option ((List aK)×(List aA)) :=
 (zb9 (zaq2 a0) (0,[])).bind (fun z=>zT8 a0 z)
@[reducible,instance] def zdW5 (a0:List aA):=mkJ (zA8 a0) 0 (@zT8.eq_1 a0) fun (j1:(List aK))=>⟨[(3,.own 1 0 j1.length)],[(0,sx a0),(1,sx j1)],2⟩
@[reducible,instance] def zdW6 (a0:List aA) {T:Type} (x:T):=mkL x (@zaq2.eq_1 a0) fun (g1:Int×(List aK))=>⟨[(3,.own 1 0 g1.2.length),(6,.own 0 0 a0.length),(7,.int .i64 ((a0.length:Nat):Int)),(8,.int .i64 g1.1)],[(0,sx a0),(1,sx g1.2)],2⟩
instance zcF0 (a0:List aA):OkM (zA8 a0) 50 [.own 0 0 a0.length] [(0,sx a0)] 1 (fun r=>la r.1) (fun r=>[(0,sx r.2)]) 1:=okm (zA8.eq_1 a0) (fun r=>[la r.1]) Tryz.f50 [(3,1)]
attribute [local irreducible] zA8
theorem zbj3 {a0:List aA} {r:List aK×List aA} (h:zA8 a0=some r):r.2=a0:=by
 unfold zA8 at h
 obtain ⟨z,_,h⟩:=zc7 h
 unfold zT8 at h
 obtain ⟨v,_,h⟩:=zc7 h
 cases h
 rfl
def zH2 (a0:aL) (v1:(List aK)×(List aA)) (j1:(List aK)):Option ((List aK)×(List aA)×(List bI)) :=
 (zl6 j1).bind fun v2 =>
 some (v2,v1.2,a0.aU)
def zad4 (a0:aL) (g1:Int×(List aK)):Option ((Int×(List aK))⊕(List aK)) :=
 (if (decide (g1.1 < ((a0.aU.length:Nat):Int)))=true then
  gd (0≤g1.1∧g1.1 < ((a0.aU.length:Nat):Int)) <|
  gd (g1.2.length+1≤4294967296) <|
  some (.inl ((i64.wrap (g1.1+1)),(g1.2++[(a0.aU.getD g1.1.toNat bI.zero).aJ])))
 else
  some (.inr g1.2))
def zs4 (a0:aL):Option ((List aK)×(List aA)×(List bI)) :=
 (zA8 a0.aC).bind fun v1 =>
 gd (v1.1.length≤4294967296) <|
 (zb9 (zad4 a0) (0,v1.1)).bind (fun z=>zH2 a0 v1 z)
@[reducible,instance] def zdW7 (a0:aL) (v1:(List aK)×(List aA)):=mkJ (zs4 a0,v1) 0 (@zH2.eq_1 a0 v1) fun (j1:(List aK))=>⟨[(3,.own 2 0 j1.length)],[(0,sx v1.2),(1,sx a0.aU),(2,sx j1)],3⟩
@[reducible,instance] def zdW8 (a0:aL) (v1:(List aK)×(List aA)):=mkL (zs4 a0,v1) (@zad4.eq_1 a0) fun (g1:Int×(List aK))=>⟨[(3,.own 2 0 g1.2.length),(11,.own 1 0 a0.aU.length),(12,.int .i64 ((a0.aU.length:Nat):Int)),(13,.int .i64 g1.1)],[(0,sx v1.2),(1,sx a0.aU),(2,sx g1.2)],3⟩
instance zbb1 (a0:aL):OkM (zs4 a0) 17 [.agg [.own 0 0 a0.aC.length,.own 1 0 a0.aU.length]] [(0,sx a0.aC),(1,sx a0.aU)] 2 (fun r=>la r.1) (fun r=>[(0,sx r.2.1),(1,sx r.2.2)]) 2:=okm (zs4.eq_1 a0) (fun r=>[la r.1]) Tryz.f17 [(8,1)]
attribute [local irreducible] zs4
theorem zaS5 {c:Bool} {a0:aL} {d:List aK} {r:List aK×List aA×List bI} (h:(if c=true then zs4 a0 else some (d,a0.aC,a0.aU))=some r):r.2.1.length=a0.aC.length∧r.2.2.length=a0.aU.length:=by
 cases c with
 | false=>cases h; exact ⟨rfl,rfl⟩
 | true =>
  replace h:zs4 a0=some r:=h
  unfold zs4 at h
  obtain ⟨v1,h1,h⟩:=zc7 h
  obtain ⟨_,h⟩:=ze1 h
  obtain ⟨z,_,h⟩:=zc7 h
  unfold zH2 at h
  obtain ⟨v,_,h⟩:=zc7 h
  cases h
  exact ⟨cQ List.length (zbj3 h1),rfl⟩
def zN8 (j2:aL):Option (aL×Int) :=
 ((if (!(decide (8 < ((j2.aC.length:Nat):Int))))=true then zs4 j2 else some ([],j2.aC,j2.aU))).bind fun v4 =>
 (if (decide (8 < ((j2.aC.length:Nat):Int))||decide (8 < (v4.1.length:Int)))=true then
  some ({ aL.zero with  },4)
 else
  (zb6 v4.2.1).bind fun v5 =>
  (zd4 v4.2.2).bind fun v6 =>
  some ((⟨v5,v6⟩:aL),0))
@[go_sem] def zdu4  (j2:aL):St:=⟨[(4,.ptr 0 0 0),(6,.ptr 1 0 0)],[(0,bx aL.zero),(1,⟨false,2,aL.enc aL.zero,[[.own 2 0 j2.aC.length,.own 3 0 j2.aU.length]]⟩),(2,sx j2.aC),(3,sx j2.aU)],4⟩
def zN9 (a0 a1:aL) (g1:Int×aL):Option ((Int×aL)⊕(aL⊕(aL×Int))) :=
 (if (decide (g1.1 < (a1.aU.length:Int)))=true then
  gd (0≤g1.1∧g1.1 < (a1.aU.length:Int)) <|
  (zr2 a0.aU ((a1.aU.getD g1.1.toNat bI.zero).aJ)).bind fun v7 =>
  (if (decide (v7 < 0))=true then
   (zd5 (a1.aU.getD g1.1.toNat bI.zero)).bind fun v8 =>
   gd (g1.2.aU.length+1≤4294967296) <|
   some (.inl ((i64.wrap (g1.1+1)),(⟨g1.2.aC,(g1.2.aU++[v8])⟩:aL)))
  else
   gd (0≤v7∧v7 < (a0.aU.length:Int)) <|
   (zf9 (a0.aU.getD v7.toNat bI.zero) (a1.aU.getD g1.1.toNat bI.zero)).bind fun v9 =>
   (if (!v9)=true then
    some (.inr (.inr ({ aL.zero with  },18)))
   else
    some (.inl ((i64.wrap (g1.1+1)),g1.2))))
 else
  some (.inr (.inl g1.2)))
@[go_sem] def zdu5 (a0 a1:aL) (g1:Int×aL):St:=⟨[(2,.ptr 0 0 0),(4,.ptr 1 0 0),(6,.ptr 2 0 0),(57,la a1.aU),(58,.int .i64 (a1.aU.length:Int)),(59,.int .i64 g1.1)],[(0,bx a0),(1,bx aL.zero),(2,⟨false,2,aL.enc aL.zero,[[.own 3 0 g1.2.aC.length,.own 4 0 g1.2.aU.length]]⟩),(3,sx g1.2.aC),(4,sx g1.2.aU)],5⟩
def zO0 (a0 a1 j1:aL):Option (aL×Int) :=
 (zb9 (zN9 a0 a1) (0,j1)).bind (fun|.inl z=>zN8 z|.inr z=>some z)
@[go_sem] def zdu6 (a0 a1 j1:aL):St:=⟨[(2,.ptr 0 0 0),(3,.ptr 1 0 0),(4,.ptr 2 0 0),(6,.ptr 3 0 0)],[(0,bx a0),(1,bx a1),(2,bx aL.zero),(3,⟨false,2,aL.enc aL.zero,[[.own 4 0 j1.aC.length,.own 5 0 j1.aU.length]]⟩),(4,sx j1.aC),(5,sx j1.aU)],6⟩
def zA4 (a0 a1:aL) (g2:Int×aL):Option ((Int×aL)⊕(aL⊕(aL×Int))) :=
 (if (decide (g2.1 < (a1.aC.length:Int)))=true then
  gd (0≤g2.1∧g2.1 < (a1.aC.length:Int)) <|
  (zl0 a0.aC (((a1.aC.getD g2.1.toNat aA.zero).aB).name)).bind fun v10 =>
  (if (decide (v10 < 0))=true then
   (zd6 (a1.aC.getD g2.1.toNat aA.zero)).bind fun v11 =>
   gd (g2.2.aC.length+1≤4294967296) <|
   some (.inl ((i64.wrap (g2.1+1)),(⟨(g2.2.aC++[v11]),g2.2.aU⟩:aL)))
  else
   gd (0≤v10∧v10 < (a0.aC.length:Int)) <|
   (zi8 (a0.aC.getD v10.toNat aA.zero) (a1.aC.getD g2.1.toNat aA.zero)).bind fun v12 =>
   (if (!v12)=true then
    some (.inr (.inr ({ aL.zero with  },18)))
   else
    some (.inl ((i64.wrap (g2.1+1)),g2.2))))
 else
  some (.inr (.inl g2.2)))
@[go_sem] def zdu7 (a0 a1:aL) (g2:Int×aL):St:=⟨[(2,.ptr 0 0 0),(3,.ptr 1 0 0),(4,.ptr 2 0 0),(6,.ptr 3 0 0),(25,la a1.aC),(26,.int .i64 (a1.aC.length:Int)),(27,.int .i64 g2.1)],[(0,bx a0),(1,bx a1),(2,bx aL.zero),(3,⟨false,2,aL.enc aL.zero,[[.own 4 0 g2.2.aC.length,.own 5 0 g2.2.aU.length]]⟩),(4,sx g2.2.aC),(5,sx g2.2.aU)],6⟩
def zw1 (a0 a1:aL):Option (aL×Int) :=
 (zt6 a0).bind fun v1 =>
 ((if v1=true then zt6 a1 else some false)).bind fun v2 =>
 (if ((!v1)||(!v2))=true then
  some ({ aL.zero with  },2)
 else
  (zi4 a0).bind fun v3 =>
  (zb9 (zA4 a0 a1) (0,v3)).bind (fun|.inl z=>zO0 a0 a1 z|.inr z=>some z))
theorem zbo3 (a0 a1:aL) (r:aL×Int) (h:zw1 a0 a1=some r):PFn C 8 [ga a0,ga a1] (.tup [ga r.1,.int .i64 r.2]):=by
 refine zY9 Tryz.f8 [(6,5),(93,1)] fun E hG hN hK=>?_
 unfold zw1 at h
 refine za2 (za5 hG ?_)
 refine za2 (za2 (za5 hG ?_))
 obtain ⟨v1,hv1,h⟩:=zc7 h
 refine zr9 (fun hg=>(zaJ7 a0).ok _ hv1) ?_
 obtain ⟨v2,hv2,h⟩:=zc7 h
 refine zr9 (fun hg=>(zaJ7 a1).ok _ (zaN2 hg hv2)) ?_
 refine zl4 rfl hG h (fun _ h=>?_) (fun _ h=>?_)
 · refine za2 (za5 hG ?_)
   refine zt4 ?_
   exact zJ4 h
 refine zk1 ?_
 refine za2 (za5 hG ?_)
 obtain ⟨v3,hv3,h⟩:=zc7 h
 refine zr6 [] [(0,3),(1,4)] [0,1] (zba7 _ _ hv3) rfl rfl ?_
 refine za2 (za2 (za5 hG ?_))
 refine zD0 (zdu6 a0 a1) (fun v=>zO0 a0 a1 v=some r) ?_ ?_
 · intro j1 h
   unfold zO0 at h
   refine g_st ?_
   refine za2 (za2 (za5 hG ?_))
   refine zD0 zdu4 (fun v=>zN8 v=some r) ?_ ?_
   · intro j2 h
     unfold zN8 at h
     refine g_st ?_
     refine za2 (za2 (za5 hG ?_))
     obtain ⟨v4,hv4,h⟩:=zc7 h
     have hl_v4:=zaS5 hv4
     refine zaQ8 [(0,2),(1,3)] [0,1] hv4 (fun hc=>(zbb1 j2).ok _ hc) rfl ?_
     refine zl4 rfl hG h (fun _ h=>?_) (fun _ h=>?_)
     · refine za2 (za5 hG ?_)
       refine zt4 ?_
       exact zJ4 h
     refine zk1 ?_
     refine za2 (za5 hG ?_)
     obtain ⟨v5,hv5,h⟩:=zc7 h
     have hl_v5:=zad9 v4.2.1 _ hv5
     refine zr6 [(0,2)] [] [0] (zae0 _ _ hv5) rfl rfl ?_
     refine za2 (za5 hG ?_)
     obtain ⟨v6,hv6,h⟩:=zc7 h
     have hl_v6:=zag6 v4.2.2 _ hv6
     refine zr6 [(0,3)] [] [0] (zag7 _ _ hv6) rfl rfl ?_
     refine za2 (za5 hG ?_)
     refine zt4 ?_
     rw [show List.take j2.aC.length v5=v5 from dA (by omega),show List.take j2.aU.length v6=v6 from dA (by omega)]
     exact zJ4 h
   refine zY8 (zdu5 a0 a1) hK [(0,0),(1,2),(2,3),(3,4),(4,5)] h (fun x_l1 h g1 y_l1 h_l1 hx_l1=>?_)
   unfold zN9 at h_l1
   refine g_st ?_
   refine za2 (za5 hG ?_)
   refine za2 ?_
   refine zl4 rfl hG h_l1 (fun _ h_l1=>?_) (fun _ h_l1=>?_)
   · refine zk1 ?_
     refine za2 (zC3 (za2 ?_))
     obtain ⟨hb3,h_l1⟩:=ze1 h_l1
     refine za5 hG ?_
     refine za2 (za5 hG ?_)
     obtain ⟨v7,hv7,h_l1⟩:=zc7 h_l1
     refine zr9 (fun hg=>(zaJ2 a0.aU ((a1.aU.getD g1.1.toNat bI.zero).aJ)).ok _ hv7) ?_
     refine za2 (za5 hG ?_)
     refine zl4 rfl hG h_l1 (fun _ h_l1=>?_) (fun _ h_l1=>?_)
     · refine zam5 zz1 hG ?_
       obtain ⟨v8,hv8,h_l1⟩:=zc7 h_l1
       obtain ⟨hb1,h_l1⟩:=ze1 h_l1
       refine zV9 (fun hg=>(zac9 (a1.aU.getD g1.1.toNat bI.zero)).ok _ hv8) ?_
       refine za5 hG ?_
       exact zJ0 hK [(0,0),(1,1),(2,2),(3,3),(4,6)] h_l1
     refine za2 ?_
     obtain ⟨hb2,h_l1⟩:=ze1 h_l1
     refine zaW1 zz1 hG ?_
     obtain ⟨v9,hv9,h_l1⟩:=zc7 h_l1
     refine zaj7 (fun hg=>(zba6 (a0.aU.getD v7.toNat bI.zero) (a1.aU.getD g1.1.toNat bI.zero)).ok _ hv9) ?_
     refine zl4 rfl hG h_l1 (fun _ h_l1=>?_) (fun _ h_l1=>?_)
     · refine za2 (za5 hG ?_)
       refine zt4 ?_
       cases h_l1
       cases hx_l1 _ rfl
       exact zJ4 h
     refine zk1 ?_
     refine za5 hG ?_
     exact zJ0 hK [(0,0),(1,1),(2,2),(3,3),(4,4)] h_l1
   refine zG4 ?_
   cases h_l1
   cases hx_l1 _ rfl
   exact zA9 hK [(0,1),(1,2),(2,3),(3,4)] g1.2 (by exact h)
 refine zY8 (zdu7 a0 a1) hK [(0,0),(1,1),(2,2),(3,5),(4,3),(5,4)] h (fun x_l2 h g2 y_l2 h_l2 hx_l2=>?_)
 unfold zA4 at h_l2
 refine g_st ?_
 refine za2 (za5 hG ?_)
 refine za2 ?_
 refine zl4 rfl hG h_l2 (fun _ h_l2=>?_) (fun _ h_l2=>?_)
 · refine zk1 ?_
   refine za2 (zC3 (za2 ?_))
   obtain ⟨hb6,h_l2⟩:=ze1 h_l2
   refine za5 hG ?_
   refine za2 (za5 hG ?_)
   obtain ⟨v10,hv10,h_l2⟩:=zc7 h_l2
   refine zr9 (fun hg=>(zbS9 a0.aC (((a1.aC.getD g2.1.toNat aA.zero).aB).name)).ok _ hv10) ?_
   refine za2 (za5 hG ?_)
   refine zl4 rfl hG h_l2 (fun _ h_l2=>?_) (fun _ h_l2=>?_)
   · refine zam5 zz1 hG ?_
     obtain ⟨v11,hv11,h_l2⟩:=zc7 h_l2
     obtain ⟨hb4,h_l2⟩:=ze1 h_l2
     refine zV9 (fun hg=>(zar5 (a1.aC.getD g2.1.toNat aA.zero)).ok _ hv11) ?_
     refine za5 hG ?_
     exact zJ0 hK [(0,0),(1,1),(2,2),(3,3),(4,7),(5,5)] h_l2
   refine za2 ?_
   obtain ⟨hb5,h_l2⟩:=ze1 h_l2
   refine zaW1 zz1 hG ?_
   obtain ⟨v12,hv12,h_l2⟩:=zc7 h_l2
   refine zaj7 (fun hg=>(zaW7 (a0.aC.getD v10.toNat aA.zero) (a1.aC.getD g2.1.toNat aA.zero)).ok _ hv12) ?_
   refine zl4 rfl hG h_l2 (fun _ h_l2=>?_) (fun _ h_l2=>?_)
   · refine za2 (za5 hG ?_)
     refine zt4 ?_
     cases h_l2
     cases hx_l2 _ rfl
     exact zJ4 h
   refine zk1 ?_
   refine za5 hG ?_
   exact zJ0 hK [(0,0),(1,1),(2,2),(3,3),(4,4),(5,5)] h_l2
 refine zG4 ?_
 cases h_l2
 cases hx_l2 _ rfl
 exact zA9 hK [(0,0),(1,1),(2,2),(3,3),(4,4),(5,5)] g2.2 (by exact h)
instance zct7 (a0 a1:aL):OkP (zw1 a0 a1) 8 [ga a0,ga a1] (fun r=>.tup [ga r.1,.int .i64 r.2]):=⟨zbo3 a0 a1⟩
attribute [local irreducible] zw1
def zaS6 (j2:(List Bool)):Option (List Bool) :=
 some j2
def zab4 (a0:aP) (v1:(List aM)×Bool) (g1:Int×(List Bool)):Option ((Int×(List Bool))⊕(List Bool)) :=
 (if (decide (0≤g1.1))=true then
  gd (0≤g1.1∧g1.1 < ((g1.2.length:Nat):Int)) <|
  (if (g1.2.getD g1.1.toNat false)=true then
   gd (0≤g1.1∧g1.1 < ((g1.2.length:Nat):Int)) <|
   (f_ref08_holds a0 v1.1 (g1.2.set g1.1.toNat false)).bind fun v3 =>
   gd (0≤g1.1∧g1.1 < ((g1.2.length:Nat):Int)) <|
   some (.inl ((i64.wrap (g1.1 - 1)),(g1.2.set g1.1.toNat false).set g1.1.toNat (!v3)))
  else
   some (.inl ((i64.wrap (g1.1 - 1)),g1.2)))
 else
  some (.inr g1.2))
def zal3 (a0:aP) (v1:(List aM)×Bool) (j1:(List Bool)):Option (List Bool) :=
 (zb9 (zab4 a0 v1) ((i64.wrap ((v1.1.length:Int) - 1)),j1)).bind (fun z=>zaS6 z)
def zab5 (a1:List Bool) (v1:(List aM)×Bool) (g2:Int×(List Bool)):Option ((Int×(List Bool))⊕(List Bool)) :=
 (if (decide (g2.1 < (v1.1.length:Int)))=true then
  gd (decide (g2.1 < (a1.length:Int))=true→0≤g2.1∧g2.1 < (a1.length:Int)) <|
  gd (0≤g2.1∧g2.1 < ((g2.2.length:Nat):Int)) <|
  some (.inl ((i64.wrap (g2.1+1)),g2.2.set g2.1.toNat (decide (g2.1 < (a1.length:Int))&&a1.getD g2.1.toNat false)))
 else
  some (.inr g2.2))
def zM5 (a0:aP) (a1:List Bool):Option (List Bool) :=
 (zj8 a0).bind fun v1 =>
 gd (0≤(v1.1.length:Int)∧(v1.1.length:Int)≤(v1.1.length:Int)∧(v1.1.length:Int)≤4294967296) <|
 ((if v1.2=true then f_ref08_holds a0 v1.1 a1 else some false)).bind fun v2 =>
 (if ((!v1.2)||(!v2))=true then
  some (List.replicate ((v1.1.length:Int).toNat) false)
 else
  (zb9 (zab5 a1 v1) (0,List.replicate ((v1.1.length:Int).toNat) false)).bind (fun z=>zal3 a0 v1 z))
@[reducible,instance] def zdW9 a0 v1 j1:=mkJ (zal3 a0 v1 j1) 2 (@zaS6.eq_1) fun (j2:(List Bool))=>⟨[(7,.own 0 0 j2.length)],[(0,⟨false,1,[A.bool false],j2.map eB⟩)],1⟩
@[reducible,instance] def zdX0 (a0:aP) (v1:(List aM)×Bool) {T:Type} (x:T):=mkL x (@zab4.eq_1 a0 v1) fun (g1:Int×(List Bool))=>⟨[(2,.ptr 0 0 0),(5,la v1.1),(7,.own 1 0 g1.2.length),(9,.int .i64 g1.1)],[(0,bx a0),(1,⟨false,1,[A.bool false],g1.2.map eB⟩)],2⟩
@[reducible,instance] def zdX1 (a0:aP) a1 (v1:(List aM)×Bool) {T1:Type} (v2:T1):=mkJ ((zM5 a0 a1,v1),v2) 0 (@zal3.eq_1 a0 v1) fun (j1:(List Bool))=>⟨[(2,.ptr 0 0 0),(5,la v1.1),(7,.own 1 0 j1.length)],[(0,bx a0),(1,⟨false,1,[A.bool false],j1.map eB⟩)],2⟩
@[reducible,instance] def zdX2 (a0:aP) (a1:List Bool) (v1:(List aM)×Bool) {T1:Type} (v2:T1):=mkL ((zM5 a0 a1,v1),v2) (@zab5.eq_1 a1 v1) fun (g2:Int×(List Bool))=>⟨[(1,.sl (a1.map eB)),(2,.ptr 0 0 0),(5,la v1.1),(7,.own 1 0 g2.2.length),(8,.int .i64 g2.1)],[(0,bx a0),(1,⟨false,1,[A.bool false],g2.2.map eB⟩)],2⟩
instance zcZ3 (a0:aP) (a1:List Bool):OkP (zM5 a0 a1) 251 [ga a0,.sl (a1.map eB)] (fun r=>.sl (r.map eB)):=ok1 (zM5.eq_1 a0 a1) Tryz.f251 []
attribute [local irreducible] zM5
def zaS7 (v1:(List aI)×bL) (j2:(List bM)):Option ((List aI)×(List bM)) :=
 some (v1.1,j2)
def zal4 (v1:(List aI)×bL) (g1:bL×(List bM)):Option ((bL×(List bM))⊕(List bM)) :=
 (ze7 g1.1).bind fun v2 =>
 (if v2.1=true then
  (zB5 v1.1 v2.2).bind fun v3 =>
  gd (g1.2.length+1≤4294967296) <|
  some (.inl (v3.2,(g1.2++[v3.1])))
 else
  some (.inr g1.2))
def zal5 (v1:(List aI)×bL) (j1:bL×(List bM)):Option ((List aI)×(List bM)) :=
 (zb9 (zal4 v1) (j1.1,j1.2)).bind (fun z=>zaS7 v1 z)
def zal6 (g2:Int×bL×(List bM)):Option ((Int×bL×(List bM))⊕(bL×(List bM))) :=
 (if (decide (g2.1 < 4))=true then
  (zo8 g2.1).bind fun v4 =>
  (zb7 9 g2.2.1).bind fun v5 =>
  gd (g2.2.2.length+1≤4294967296) <|
  some (.inl ((i64.wrap (g2.1+1)),v5.2,(g2.2.2++[{ bM.zero with kind:=1,aJ:=v4,n:=(i64.wrap (1+v5.1)) }])))
 else
  some (.inr (g2.2.1,g2.2.2)))
def zM6 (a0:List Int):Option ((List aI)×(List bM)) :=
 (zj5 ({ bL.zero with l:=a0 })).bind fun v1 =>
 (zb9 zal6 (0,v1.2,[])).bind (fun z=>zal5 v1 z)
@[reducible,instance] def zdX3 (v1:(List aI)×bL) j1:=mkJ (zal5 v1 j1) 2 (@zaS7.eq_1 v1) fun (j2:(List bM))=>⟨[(5,la v1.1),(6,.own 0 0 j2.length)],[(0,sx j2)],1⟩
@[reducible,instance] def zdX4 (v1:(List aI)×bL) {T:Type} (x:T):=mkL x (@zal4.eq_1 v1) fun (g1:bL×(List bM))=>⟨[(4,.ptr 0 0 0),(5,la v1.1),(6,.own 1 0 g1.2.length)],[(0,bx g1.1),(1,sx g1.2)],2⟩
@[reducible,instance] def zdX5 a0 (v1:(List aI)×bL):=mkJ (zM6 a0,v1) 0 (@zal5.eq_1 v1) fun (j1:bL×(List bM))=>⟨[(4,.ptr 0 0 0),(5,la v1.1),(6,.own 1 0 j1.2.length)],[(0,bx j1.1),(1,sx j1.2)],2⟩
@[reducible,instance] def zdX6 a0 (v1:(List aI)×bL):=mkL (zM6 a0,v1) (@zal6.eq_1) fun (g2:Int×bL×(List bM))=>⟨[(4,.ptr 0 0 0),(5,la v1.1),(6,.own 1 0 g2.2.2.length),(7,.int .i64 g2.1)],[(0,bx g2.2.1),(1,sx g2.2.2)],2⟩
instance zcZ4 (a0:List Int):OkP (zM6 a0) 53 [.sl (a0.map (eI .i64))] (fun r=>.tup [la r.1,la r.2]):=ok1 (zM6.eq_1 a0) Tryz.f53 [(6,1)]
attribute [local irreducible] zM6
def zai0 (a0:List aI):Option (bA×Int) :=
 (zN5 a0).bind fun v1 =>
 (if (!decide (v1.2=0))=true then
  some ({ bA.zero with  },v1.2)
 else
  some ({ bA.zero with aC:=v1.1 },0))
instance zdl4 (a0:List aI):OkP (zai0 a0) 54 [la a0] (fun r=>.tup [ga r.1,.int .i64 r.2]):=ok1 (zai0.eq_1 a0) Tryz.f54 []
attribute [local irreducible] zai0
end
end Ab
end Go.Proofs.YtfkjffmjkbkmhaaGreatDoor
