import Derived.Test.YtogpinppgncpmaaGreatDoorHm22
import Derived.Test.YtogpinppgncpmaaGreatDoorHm24
namespace Go.Proofs.YtogpinppgncpmaaGreatDoor
namespace Ab
open IntKind (i64 u64 u8)
set_option linter.unusedSimpArgs false
set_option linter.defProp false
set_option linter.unusedVariables false
set_option maxRecDepth 100000
set_option maxHeartbeats 1000000
noncomputable section
attribute [local irreducible] zb2 za4 zd4 za6 zh1 zm5 zm4 zh2 zk4 zi2 zd7 zg4 za7 zn9 zh3 zj7 ze3 za8 zg8 zi3 zg1 zl1 zj1 za9 zf9 ze4 zh8 ze5 zk7 zk0 zk1 zn8 zg9 zm3 f_ref08_holds zj9 zc5 zf8 zd0 zd9 ze6 zn2 zm9 zg7 ze7 zg0 zb3 za0 zf2 zj3 zl8 zh9 zf3 zh4 zo0 zn0 zk2 zb4 zd1 zd2 zd6 zg3 zd8 zc3 zo7 za1 zq1 zi0 zi5 zh5 zj5 zc1 zb0 ze9 zf4 zn1 zo8 zp1 ze8 zb8 zi6 zi4 zp7 zi7 zc6 ze0 zs0 zj6 zo2 zj8 zg5 zp8 zl2 zh0 zb5 zi8 zr5 zp9 zk3 zb9 zk8 zl4 zr3 zh7 zt3 zf1 zg2 zf0 zr9 zu3 zi9 zk9 ze2 zi1 za5 zm0 zt0 zq7 zu0 zv1 zq8 zd3 zq5 zu1 zl6 ze1 zu5 zu2 zr6 zt6 zc8 zc2 zj4 zr4 zq6 zm6 zu7 zw2 zr7 zl5 zv6 zy3 zB9 zo1 zm7 zb7 zA8 zv8 zs6 zp2 zw3 zy8 zD6 zA9 zG1 zP0 zo3 zz7 zQ3 zJ6 zP1 zz8 zC4 zD7
def zX2 (a0:aI) (a1:List aU) (a2:aJ) (a3:aC):Option Bool :=
 (zz7 a0 a1 a2 a3).bind fun v1 =>
 ((if v1=true then zp7 a1 a2 a3 else some [])).bind fun v2 =>
 ((if v1=true then zs6 a0 v2 else some false)).bind fun v3 =>
 some (v1&&v3)
instance zcW1 (a0:aI) (a1:List aU) (a2:aJ) (a3:aC):OkP (zX2 a0 a1 a2 a3) 129 [ga a0,la a1,ga a2,ga a3] (fun r=>.bool r):=ok1 (zX2.eq_1 a0 a1 a2 a3) Tryz.f129 []
attribute [local irreducible] zX2
def zT0 (a0:aA):Option Bool :=
 (zP1 a0).bind fun v1 =>
 (if (!v1)=true then
  some false
 else
  (zm9 a0).bind fun v2 =>
  ((if v2.2=true then zX2 a0.aB a0.aR v2.1.aN v2.1.aK else some false)).bind fun v3 =>
  some ((!v2.2)||(!v3)))
instance zcQ5 (a0:aA):OkP (zT0 a0) 81 [ga a0] (fun r=>.bool r):=ok1 (zT0.eq_1 a0) Tryz.f81 []
attribute [local irreducible] zT0
def zab7 (a0:aA):Option Bool :=
 (zT0 a0).bind fun v1 =>
 some v1
instance zdd8 (a0:aA):OkP (zab7 a0) 49 [ga a0] (fun r=>.bool r):=ok1 (zab7.eq_1 a0) Tryz.f49 []
attribute [local irreducible] zab7
def zaf2 (j1:(List aJ)):Option (List aJ) :=
 (zm6 j1).bind fun v1 =>
 some v1
def zO2 (a0:List aA) (g1:Int×(List aJ)):Option ((Int×(List aJ))⊕(List aJ)) :=
 (if (decide (g1.1 < (a0.length:Int)))=true then
  gd (0≤g1.1∧g1.1 < (a0.length:Int)) <|
  (zG1 (a0.getD g1.1.toNat aA.zero)).bind fun v2 =>
  gd (g1.2.length+v2.length≤4294967296) <|
  some (.inl ((i64.wrap (g1.1+1)),(g1.2++v2)))
 else
  some (.inr g1.2))
def zI7 (a0:List aA):Option (List aJ) :=
 (zc0 (zO2 a0) (0,[])).bind (fun z=>zaf2 z)
@[reducible,instance] def zea2 a0:=mkJ (zI7 a0) 0 (@zaf2.eq_1) fun (j1:(List aJ))=>⟨[(3,.own 0 0 j1.length)],[(0,sx j1)],1⟩
@[reducible,instance] def zea3 (a0:List aA) {T:Type} (x:T):=mkL x (@zO2.eq_1 a0) fun (g1:Int×(List aJ))=>⟨[(3,.own 0 0 g1.2.length),(6,la a0),(7,.int .i64 (a0.length:Int)),(8,.int .i64 g1.1)],[(0,sx g1.2)],1⟩
instance zdd9 (a0:List aA):OkP (zI7 a0) 52 [la a0] (fun r=>la r):=ok1 (zI7.eq_1 a0) Tryz.f52 [(3,1)]
attribute [local irreducible] zI7
def zaa9 (j1:(List aJ)):Option (List aJ) :=
 (zm6 j1).bind fun v2 =>
 some v2
def zQ5 (a0:aD) (g1:Int×(List aJ)):Option ((Int×(List aJ))⊕(List aJ)) :=
 (if (decide (g1.1 < (a0.aQ.length:Int)))=true then
  gd (0≤g1.1∧g1.1 < (a0.aQ.length:Int)) <|
  gd (g1.2.length+1≤4294967296) <|
  some (.inl ((i64.wrap (g1.1+1)),(g1.2++[(a0.aQ.getD g1.1.toNat bC.zero).aN])))
 else
  some (.inr g1.2))
def zt7 (a0:aD):Option (List aJ) :=
 (zI7 a0.aF).bind fun v1 =>
 gd (v1.length≤4294967296) <|
 (zc0 (zQ5 a0) (0,v1)).bind (fun z=>zaa9 z)
@[reducible,instance] def zea4 a0 {T1:Type} (v1:T1):=mkJ (zt7 a0,v1) 0 (@zaa9.eq_1) fun (j1:(List aJ))=>⟨[(3,.own 0 0 j1.length)],[(0,sx j1)],1⟩
@[reducible,instance] def zea5 (a0:aD) {T:Type} (x:T):=mkL x (@zQ5.eq_1 a0) fun (g1:Int×(List aJ))=>⟨[(3,.own 0 0 g1.2.length),(11,la a0.aQ),(12,.int .i64 (a0.aQ.length:Int)),(13,.int .i64 g1.1)],[(0,sx g1.2)],1⟩
instance zcB4 (a0:aD):OkP (zt7 a0) 17 [ga a0] (fun r=>la r):=ok1 (zt7.eq_1 a0) Tryz.f17 []
attribute [local irreducible] zt7
def zal9 (a0:aD) (j2:Unit):Option Bool :=
 (zt7 a0).bind fun v1 =>
 some (decide ((v1.length:Int)≤8))
def zab0 (a0:aD) (g1:Int):Option (Int⊕(Unit⊕Bool)) :=
 (if (decide (g1 < (a0.aQ.length:Int)))=true then
  gd (0≤g1∧g1 < (a0.aQ.length:Int)) <|
  ((if (!(((!(zb6 ((a0.aQ.getD g1.toNat bC.zero).aN)))||decide ((a0.aQ.getD g1.toNat bC.zero).gen < 0))||decide (1073741824 < (a0.aQ.getD g1.toNat bC.zero).gen)))=true then zo1 ((a0.aQ.getD g1.toNat bC.zero).bO) else some false)).bind fun v2 =>
  (if ((((!(zb6 ((a0.aQ.getD g1.toNat bC.zero).aN)))||decide ((a0.aQ.getD g1.toNat bC.zero).gen < 0))||decide (1073741824 < (a0.aQ.getD g1.toNat bC.zero).gen))||(!v2))=true then
   some (.inr (.inr false))
  else
   gd (decide (0 < g1)=true→0≤i64.wrap (g1 - 1)∧i64.wrap (g1 - 1) < (a0.aQ.length:Int)) <|
   ((if (decide (0 < g1))=true then zd8 ((a0.aQ.getD ((i64.wrap (g1 - 1)).toNat) bC.zero).aN) ((a0.aQ.getD g1.toNat bC.zero).aN) else some 0)).bind fun v3 =>
   (if (decide (0 < g1)&&decide (0≤v3))=true then
    some (.inr (.inr false))
   else
    some (.inl (i64.wrap (g1+1)))))
 else
  some (.inr (.inl ())))
def zab1 (a0:aD) (j1:Unit):Option Bool :=
 (zc0 (zab0 a0) 0).bind (fun|.inl z=>zal9 a0 z|.inr z=>some z)
def zab2 (a0:aD) (g2:Int):Option (Int⊕(Unit⊕Bool)) :=
 (if (decide (g2 < (a0.aF.length:Int)))=true then
  gd (0≤g2∧g2 < (a0.aF.length:Int)) <|
  (zab7 (a0.aF.getD g2.toNat aA.zero)).bind fun v4 =>
  gd ((v4&&decide (0 < g2))=true→0≤i64.wrap (g2 - 1)∧i64.wrap (g2 - 1) < (a0.aF.length:Int)) <|
  (if ((!v4)||(decide (0 < g2)&&(!Op.bytesLess (((a0.aF.getD ((i64.wrap (g2 - 1)).toNat) aA.zero).aB).name).toList (((a0.aF.getD g2.toNat aA.zero).aB).name).toList)))=true then
   some (.inr (.inr false))
  else
   some (.inl (i64.wrap (g2+1))))
 else
  some (.inr (.inl ())))
def zt8 (a0:aD):Option Bool :=
 (if (decide (8 < (a0.aF.length:Int))||decide (8 < (a0.aQ.length:Int)))=true then
  some false
 else
  (zc0 (zab2 a0) 0).bind (fun|.inl z=>zab1 a0 z|.inr z=>some z))
@[reducible,instance] def zea6 (a0:aD) j1:=mkJ (zab1 a0 j1) 2 (@zal9.eq_1 a0) fun (j2:Unit)=>⟨[(1,.ptr 0 0 0)],[(0,bx a0)],1⟩
@[reducible,instance] def zea7 (a0:aD) {T:Type} (x:T):=mkL x (@zab0.eq_1 a0) fun (g1:Int)=>⟨[(1,.ptr 0 0 0),(48,la a0.aQ),(49,.int .i64 (a0.aQ.length:Int)),(50,.int .i64 g1)],[(0,bx a0)],1⟩
@[reducible,instance] def zea8 (a0:aD):=mkJ (zt8 a0) 0 (@zab1.eq_1 a0) fun (j1:Unit)=>⟨[(1,.ptr 0 0 0)],[(0,bx a0)],1⟩
@[reducible,instance] def zea9 (a0:aD) {T:Type} (x:T):=mkL x (@zab2.eq_1 a0) fun (g2:Int)=>⟨[(1,.ptr 0 0 0),(18,la a0.aF),(19,.int .i64 (a0.aF.length:Int)),(20,.int .i64 g2)],[(0,bx a0)],1⟩
instance zaL4 (a0:aD):OkP (zt8 a0) 16 [ga a0] (fun r=>.bool r):=ok1 (zt8.eq_1 a0) Tryz.f16 []
attribute [local irreducible] zt8
def zaj3 (j2:(List Int)):Option ((List Int)×Int) :=
 some (j2,0)
def zM4 (a0:aD) (g1:(List Int)×Int):Option (((List Int)×Int)⊕(List Int)) :=
 (if (decide (g1.2 < (a0.aQ.length:Int)))=true then
  gd (0≤g1.2∧g1.2 < (a0.aQ.length:Int)) <|
  (zk3 g1.1 ((a0.aQ.getD g1.2.toNat bC.zero).aN)).bind fun v4 =>
  (zc3 v4 [(a0.aQ.getD g1.2.toNat bC.zero).gen]).bind fun v5 =>
  (zj8 v5 ((a0.aQ.getD g1.2.toNat bC.zero).bO)).bind fun v6 =>
  some (.inl (v6,i64.wrap (g1.2+1)))
 else
  some (.inr g1.1))
def zY1 (a0:aD) (j1:(List Int)):Option ((List Int)×Int) :=
 (zc3 j1 [(a0.aQ.length:Int)]).bind fun v3 =>
 (zc0 (zM4 a0) (v3,0)).bind (fun z=>zaj3 z)
def zM5 (a0:aD) (g2:(List Int)×Int):Option (((List Int)×Int)⊕(List Int)) :=
 (if (decide (g2.2 < (a0.aF.length:Int)))=true then
  gd (0≤g2.2∧g2.2 < (a0.aF.length:Int)) <|
  (zl6 g2.1 (a0.aF.getD g2.2.toNat aA.zero)).bind fun v7 =>
  some (.inl (v7,i64.wrap (g2.2+1)))
 else
  some (.inr g2.1))
def zw4 (a0:aD):Option ((List Int)×Int) :=
 (zt8 a0).bind fun v1 =>
 (if (!v1)=true then
  some ([],2)
 else
  (zc3 [] [(a0.aF.length:Int)]).bind fun v2 =>
  (zc0 (zM5 a0) (v2,0)).bind (fun z=>zY1 a0 z))
@[reducible,instance] def zeb0 a0 j1 {T1:Type} (v3:T1):=mkJ (zY1 a0 j1,v3) 2 (@zaj3.eq_1) fun (j2:(List Int))=>⟨[(4,.sl (j2.map (eI .u8)))],[],0⟩
@[reducible,instance] def zeb1 (a0:aD) {T:Type} (x:T):=mkL x (@zM4.eq_1 a0) fun (g1:(List Int)×Int)=>⟨[(4,.sl (g1.1.map (eI .u8))),(35,la a0.aQ),(36,.int .i64 (a0.aQ.length:Int)),(37,.int .i64 g1.2)],[],0⟩
@[reducible,instance] def zeb2 (a0:aD) {T1:Type} (v1:T1) {T2:Type} (v2:T2):=mkJ ((zw4 a0,v1),v2) 0 (@zY1.eq_1 a0) fun (j1:(List Int))=>⟨[(1,.ptr 0 0 0),(4,.sl (j1.map (eI .u8)))],[(0,bx a0)],1⟩
@[reducible,instance] def zeb3 (a0:aD) {T:Type} (x:T):=mkL x (@zM5.eq_1 a0) fun (g2:(List Int)×Int)=>⟨[(1,.ptr 0 0 0),(4,.sl (g2.1.map (eI .u8))),(18,la a0.aF),(19,.int .i64 (a0.aF.length:Int)),(20,.int .i64 g2.2)],[(0,bx a0)],1⟩
instance zbm1 (a0:aD):OkP (zw4 a0) 11 [ga a0] (fun r=>.tup [.sl (r.1.map (eI .u8)),.int .i64 r.2]):=ok1 (zw4.eq_1 a0) Tryz.f11 []
attribute [local irreducible] zw4
def zaj4 (j2:aY×aD):Option (aD×Int) :=
 (if (!decide (j2.1.bN.err=0))=true then
  some ({ aD.zero with  },j2.1.bN.err)
 else
  (if (decide (0 < (j2.1.bN.rest.length:Int)))=true then
   some ({ aD.zero with  },6)
  else
   (zt8 j2.2).bind fun v3 =>
   (if (!v3)=true then
    some ({ aD.zero with  },2)
   else
    some (j2.2,0))))
def zM6 (g1:Int×aY×aD):Option ((Int×aY×aD)⊕(aY×aD)) :=
 (if (decide (0 < g1.1)&&decide (g1.2.1.bN.err=0))=true then
  (ze2 g1.2.1).bind fun v4 =>
  (zb9 v4.2).bind fun v5 =>
  (zm7 1 v5.2).bind fun v6 =>
  gd (g1.2.2.aQ.length+1≤4294967296) <|
  some (.inl ((i64.wrap (g1.1 - 1)),v6.2,(⟨g1.2.2.aF,(g1.2.2.aQ++[{ { { bC.zero with aN:=v4.1 } with gen:=v5.1 } with bO:=v6.1 }])⟩:aD)))
 else
  some (.inr (g1.2.1,g1.2.2)))
def zY2 (j1:aY×aD):Option (aD×Int) :=
 (zc6 8 j1.1).bind fun v2 =>
 (zc0 zM6 (v2.1,v2.2,j1.2)).bind (fun z=>zaj4 z)
def zM7 (g2:Int×aY×aD):Option ((Int×aY×aD)⊕(aY×aD)) :=
 (if (decide (0 < g2.1)&&decide (g2.2.1.bN.err=0))=true then
  (zl5 g2.2.1).bind fun v7 =>
  gd (g2.2.2.aF.length+1≤4294967296) <|
  some (.inl ((i64.wrap (g2.1 - 1)),v7.2,(⟨(g2.2.2.aF++[v7.1]),g2.2.2.aQ⟩:aD)))
 else
  some (.inr (g2.2.1,g2.2.2)))
def zw5 (a0:List Int):Option (aD×Int) :=
 (zc6 8 (⟨{ bP.zero with rest:=a0 }⟩:aY)).bind fun v1 =>
 (zc0 zM7 (v1.1,v1.2,(⟨[],[]⟩:aD))).bind (fun z=>zY2 z)
@[reducible,instance] def zeb4 (j1:aY×aD) {T1:Type} (v2:T1):=mkJ (zY2 j1,v2) 2 (@zaj4.eq_1) fun (j2:aY×aD)=>⟨[(2,.ptr 0 0 0),(4,.ptr 1 0 0),(5,.ptr 2 0 0)],[(0,bx aD.zero),(1,bx j2.1),(2,⟨false,2,aD.enc aD.zero,[[.own 3 0 j2.2.aF.length,.own 4 0 j2.2.aQ.length]]⟩),(3,sx j2.2.aF),(4,sx j2.2.aQ)],5⟩
@[reducible,instance] def zeb5 {T:Type} (x:T):=mkL x (@zM6.eq_1) fun (g1:Int×aY×aD)=>⟨[(2,.ptr 0 0 0),(4,.ptr 1 0 0),(5,.ptr 2 0 0),(7,.int .i64 g1.1)],[(0,bx aD.zero),(1,bx g1.2.1),(2,⟨false,2,aD.enc aD.zero,[[.own 3 0 g1.2.2.aF.length,.own 4 0 g1.2.2.aQ.length]]⟩),(3,sx g1.2.2.aF),(4,sx g1.2.2.aQ)],5⟩
@[reducible,instance] def zeb6 (a0:List Int) {T1:Type} (v1:T1):=mkJ (zw5 a0,v1) 0 (@zY2.eq_1) fun (j1:aY×aD)=>⟨[(2,.ptr 0 0 0),(4,.ptr 1 0 0),(5,.ptr 2 0 0)],[(0,bx aD.zero),(1,bx j1.1),(2,⟨false,2,aD.enc aD.zero,[[.own 3 0 j1.2.aF.length,.own 4 0 j1.2.aQ.length]]⟩),(3,sx j1.2.aF),(4,sx j1.2.aQ)],5⟩
@[reducible,instance] def zeb7 {T:Type} (x:T):=mkL x (@zM7.eq_1) fun (g2:Int×aY×aD)=>⟨[(2,.ptr 0 0 0),(4,.ptr 1 0 0),(5,.ptr 2 0 0),(6,.int .i64 g2.1)],[(0,bx aD.zero),(1,bx g2.2.1),(2,⟨false,2,aD.enc aD.zero,[[.own 3 0 g2.2.2.aF.length,.own 4 0 g2.2.2.aQ.length]]⟩),(3,sx g2.2.2.aF),(4,sx g2.2.2.aQ)],5⟩
instance zbm2 (a0:List Int):OkP (zw5 a0) 12 [.sl (a0.map (eI .u8))] (fun r=>.tup [ga r.1,.int .i64 r.2]):=⟨fun r h=>by
 refine zad2 Tryz.f12 [(5,5)] fun E hG hN hK=>?_
 have hm:Mk (zw5 a0):=trivial
 unfold zw5 at h
 refine za2 (za3 hG ?_)
 refine za2 (za3 hG ?_)
 refine za2 (za3 hG ?_)
 refine g_gh (.ownb 2 0 8 (aA.enc aA.zero)) ?_
 refine g_gh (.ownb 2 1 9 (bC.enc bC.zero)) ?_
 exact gogo⟩
attribute [local irreducible] zw5
def zay6 (j1:(List Bool)):Option (List Bool) :=
 some j1
def zD8 (a0:aD) (a1:aJ) (v3:(List aM)) (g1:Int×(List Bool)):Option ((Int×(List Bool))⊕(List Bool)) :=
 (if (decide (g1.1 < (v3.length:Int)))=true then
  gd (0≤g1.1∧g1.1 < (v3.length:Int)) <|
  (zk0 a0.aF ((v3.getD g1.1.toNat aM.zero).name)).bind fun v4 =>
  (if (decide (0≤v4))=true then
   gd (0≤v4∧v4 < (a0.aF.length:Int)) <|
   (zu5 (a0.aF.getD v4.toNat aA.zero) a1).bind fun v5 =>
   gd (g1.2.length+1≤4294967296) <|
   some (.inl ((i64.wrap (g1.1+1)),(g1.2++[(!v5.2)])))
  else
   gd (g1.2.length+1≤4294967296) <|
   some (.inl ((i64.wrap (g1.1+1)),(g1.2++[true]))))
 else
  some (.inr g1.2))
def zA1 (a0:aD) (a1:aJ):Option (List Bool) :=
 (zp2 a0.aQ a1).bind fun v1 =>
 ((if (!(decide (v1 < 0)))=true then zt8 a0 else some false)).bind fun v2 =>
 (if (decide (v1 < 0)||(!v2))=true then
  some []
 else
  gd (0≤v1∧v1 < (a0.aQ.length:Int)) <|
  (zC4 ((a0.aQ.getD v1.toNat bC.zero).bO)).bind fun v3 =>
  (zc0 (zD8 a0 a1 v3) (0,[])).bind (fun z=>zay6 z))
@[reducible,instance] def zeb8 a0 a1 {T1:Type} (v1:T1) {T2:Type} (v2:T2) {T3:Type} (v3:T3):=mkJ (((zA1 a0 a1,v1),v2),v3) 0 (@zay6.eq_1) fun (j1:(List Bool))=>⟨[(6,.own 0 0 j1.length)],[(0,⟨false,1,[A.bool false],j1.map eB⟩)],1⟩
@[reducible,instance] def zeb9 (a0:aD) (a1:aJ) (v3:(List aM)) {T:Type} (x:T):=mkL x (@zD8.eq_1 a0 a1 v3) fun (g1:Int×(List Bool))=>⟨[(2,.ptr 0 0 0),(3,.ptr 1 0 0),(6,.own 2 0 g1.2.length),(28,la v3),(29,.int .i64 (v3.length:Int)),(30,.int .i64 g1.1)],[(0,bx a0),(1,bx a1),(2,⟨false,1,[A.bool false],g1.2.map eB⟩)],3⟩
instance zbh1 (a0:aD) (a1:aJ):OkP (zA1 a0 a1) 14 [ga a0,ga a1] (fun r=>.sl (r.map eB)):=ok1 (zA1.eq_1 a0 a1) Tryz.f14 [(6,1)]
attribute [local irreducible] zA1
def zX3 (a0:List aA) (j1:(List aJ)):Option ((List aJ)×(List aA)) :=
 (zm6 j1).bind fun v1 =>
 some (v1,a0)
def zat4 (a0:List aA) (g1:Int×(List aJ)):Option ((Int×(List aJ))⊕(List aJ)) :=
 (if (decide (g1.1 < ((a0.length:Nat):Int)))=true then
  gd (0≤g1.1∧g1.1 < ((a0.length:Nat):Int)) <|
  (zG1 (a0.getD g1.1.toNat aA.zero)).bind fun v2 =>
  gd (g1.2.length+v2.length≤4294967296) <|
  some (.inl ((i64.wrap (g1.1+1)),(g1.2++v2)))
 else
  some (.inr g1.2))
def zC6 (a0:List aA):Option ((List aJ)×(List aA)) :=
 (zc0 (zat4 a0) (0,[])).bind (fun z=>zX3 a0 z)
@[reducible,instance] def zec0 (a0:List aA):=mkJ (zC6 a0) 0 (@zX3.eq_1 a0) fun (j1:(List aJ))=>⟨[(3,.own 1 0 j1.length)],[(0,sx a0),(1,sx j1)],2⟩
@[reducible,instance] def zec1 (a0:List aA) {T:Type} (x:T):=mkL x (@zat4.eq_1 a0) fun (g1:Int×(List aJ))=>⟨[(3,.own 1 0 g1.2.length),(6,.own 0 0 a0.length),(7,.int .i64 ((a0.length:Nat):Int)),(8,.int .i64 g1.1)],[(0,sx a0),(1,sx g1.2)],2⟩
instance zcJ9 (a0:List aA):OkM (zC6 a0) 52 [.own 0 0 a0.length] [(0,sx a0)] 1 (fun r=>la r.1) (fun r=>[(0,sx r.2)]) 1:=okm (zC6.eq_1 a0) (fun r=>[la r.1]) Tryz.f52 [(3,1)]
attribute [local irreducible] zC6
theorem zbm3 {a0:List aA} {r:List aJ×List aA} (h:zC6 a0=some r):r.2=a0:=by
 unfold zC6 at h
 obtain ⟨z,_,h⟩:=zc9 h
 unfold zX3 at h
 obtain ⟨v,_,h⟩:=zc9 h
 cases h
 rfl
def zJ7 (a0:aD) (v1:(List aJ)×(List aA)) (j1:(List aJ)):Option ((List aJ)×(List aA)×(List bC)) :=
 (zm6 j1).bind fun v2 =>
 some (v2,v1.2,a0.aQ)
def zah3 (a0:aD) (g1:Int×(List aJ)):Option ((Int×(List aJ))⊕(List aJ)) :=
 (if (decide (g1.1 < ((a0.aQ.length:Nat):Int)))=true then
  gd (0≤g1.1∧g1.1 < ((a0.aQ.length:Nat):Int)) <|
  gd (g1.2.length+1≤4294967296) <|
  some (.inl ((i64.wrap (g1.1+1)),(g1.2++[(a0.aQ.getD g1.1.toNat bC.zero).aN])))
 else
  some (.inr g1.2))
def zs7 (a0:aD):Option ((List aJ)×(List aA)×(List bC)) :=
 (zC6 a0.aF).bind fun v1 =>
 gd (v1.1.length≤4294967296) <|
 (zc0 (zah3 a0) (0,v1.1)).bind (fun z=>zJ7 a0 v1 z)
@[reducible,instance] def zec2 (a0:aD) (v1:(List aJ)×(List aA)):=mkJ (zs7 a0,v1) 0 (@zJ7.eq_1 a0 v1) fun (j1:(List aJ))=>⟨[(3,.own 2 0 j1.length)],[(0,sx v1.2),(1,sx a0.aQ),(2,sx j1)],3⟩
@[reducible,instance] def zec3 (a0:aD) (v1:(List aJ)×(List aA)):=mkL (zs7 a0,v1) (@zah3.eq_1 a0) fun (g1:Int×(List aJ))=>⟨[(3,.own 2 0 g1.2.length),(11,.own 1 0 a0.aQ.length),(12,.int .i64 ((a0.aQ.length:Nat):Int)),(13,.int .i64 g1.1)],[(0,sx v1.2),(1,sx a0.aQ),(2,sx g1.2)],3⟩
instance zbe0 (a0:aD):OkM (zs7 a0) 17 [.agg [.own 0 0 a0.aF.length,.own 1 0 a0.aQ.length]] [(0,sx a0.aF),(1,sx a0.aQ)] 2 (fun r=>la r.1) (fun r=>[(0,sx r.2.1),(1,sx r.2.2)]) 2:=okm (zs7.eq_1 a0) (fun r=>[la r.1]) Tryz.f17 [(8,1)]
attribute [local irreducible] zs7
theorem zaU5 {c:Bool} {a0:aD} {d:List aJ} {r:List aJ×List aA×List bC} (h:(if c=true then zs7 a0 else some (d,a0.aF,a0.aQ))=some r):r.2.1.length=a0.aF.length∧r.2.2.length=a0.aQ.length:=by
 cases c with
 | false=>cases h; exact ⟨rfl,rfl⟩
 | true =>
  replace h:zs7 a0=some r:=h
  unfold zs7 at h
  obtain ⟨v1,h1,h⟩:=zc9 h
  obtain ⟨_,h⟩:=zd5 h
  obtain ⟨z,_,h⟩:=zc9 h
  unfold zJ7 at h
  obtain ⟨v,_,h⟩:=zc9 h
  cases h
  exact ⟨cP List.length (zbm3 h1),rfl⟩
def zQ6 (j2:aD):Option (aD×Int) :=
 ((if (!(decide (8 < ((j2.aF.length:Nat):Int))))=true then zs7 j2 else some ([],j2.aF,j2.aQ))).bind fun v4 =>
 (if (decide (8 < ((j2.aF.length:Nat):Int))||decide (8 < (v4.1.length:Int)))=true then
  some ({ aD.zero with  },4)
 else
  (zb5 v4.2.1).bind fun v5 =>
  (zd3 v4.2.2).bind fun v6 =>
  some ((⟨v5,v6⟩:aD),0))
@[go_sem] def zdy3  (j2:aD):St:=⟨[(4,.ptr 0 0 0),(6,.ptr 1 0 0)],[(0,bx aD.zero),(1,⟨false,2,aD.enc aD.zero,[[.own 2 0 j2.aF.length,.own 3 0 j2.aQ.length]]⟩),(2,sx j2.aF),(3,sx j2.aQ)],4⟩
def zQ7 (a0 a1:aD) (g1:Int×aD):Option ((Int×aD)⊕(aD⊕(aD×Int))) :=
 (if (decide (g1.1 < (a1.aQ.length:Int)))=true then
  gd (0≤g1.1∧g1.1 < (a1.aQ.length:Int)) <|
  (zp2 a0.aQ ((a1.aQ.getD g1.1.toNat bC.zero).aN)).bind fun v7 =>
  (if (decide (v7 < 0))=true then
   (zd1 (a1.aQ.getD g1.1.toNat bC.zero)).bind fun v8 =>
   gd (g1.2.aQ.length+1≤4294967296) <|
   some (.inl ((i64.wrap (g1.1+1)),(⟨g1.2.aF,(g1.2.aQ++[v8])⟩:aD)))
  else
   gd (0≤v7∧v7 < (a0.aQ.length:Int)) <|
   (zf0 (a0.aQ.getD v7.toNat bC.zero) (a1.aQ.getD g1.1.toNat bC.zero)).bind fun v9 =>
   (if (!v9)=true then
    some (.inr (.inr ({ aD.zero with  },18)))
   else
    some (.inl ((i64.wrap (g1.1+1)),g1.2))))
 else
  some (.inr (.inl g1.2)))
@[go_sem] def zdy4 (a0 a1:aD) (g1:Int×aD):St:=⟨[(2,.ptr 0 0 0),(4,.ptr 1 0 0),(6,.ptr 2 0 0),(57,la a1.aQ),(58,.int .i64 (a1.aQ.length:Int)),(59,.int .i64 g1.1)],[(0,bx a0),(1,bx aD.zero),(2,⟨false,2,aD.enc aD.zero,[[.own 3 0 g1.2.aF.length,.own 4 0 g1.2.aQ.length]]⟩),(3,sx g1.2.aF),(4,sx g1.2.aQ)],5⟩
def zQ8 (a0 a1 j1:aD):Option (aD×Int) :=
 (zc0 (zQ7 a0 a1) (0,j1)).bind (fun|.inl z=>zQ6 z|.inr z=>some z)
@[go_sem] def zdy5 (a0 a1 j1:aD):St:=⟨[(2,.ptr 0 0 0),(3,.ptr 1 0 0),(4,.ptr 2 0 0),(6,.ptr 3 0 0)],[(0,bx a0),(1,bx a1),(2,bx aD.zero),(3,⟨false,2,aD.enc aD.zero,[[.own 4 0 j1.aF.length,.own 5 0 j1.aQ.length]]⟩),(4,sx j1.aF),(5,sx j1.aQ)],6⟩
def zQ9 (a0 a1:aD) (g2:Int×aD):Option ((Int×aD)⊕(aD⊕(aD×Int))) :=
 (if (decide (g2.1 < (a1.aF.length:Int)))=true then
  gd (0≤g2.1∧g2.1 < (a1.aF.length:Int)) <|
  (zk0 a0.aF (((a1.aF.getD g2.1.toNat aA.zero).aB).name)).bind fun v10 =>
  (if (decide (v10 < 0))=true then
   (zd6 (a1.aF.getD g2.1.toNat aA.zero)).bind fun v11 =>
   gd (g2.2.aF.length+1≤4294967296) <|
   some (.inl ((i64.wrap (g2.1+1)),(⟨(g2.2.aF++[v11]),g2.2.aQ⟩:aD)))
  else
   gd (0≤v10∧v10 < (a0.aF.length:Int)) <|
   (zi1 (a0.aF.getD v10.toNat aA.zero) (a1.aF.getD g2.1.toNat aA.zero)).bind fun v12 =>
   (if (!v12)=true then
    some (.inr (.inr ({ aD.zero with  },18)))
   else
    some (.inl ((i64.wrap (g2.1+1)),g2.2))))
 else
  some (.inr (.inl g2.2)))
@[go_sem] def zdy6 (a0 a1:aD) (g2:Int×aD):St:=⟨[(2,.ptr 0 0 0),(3,.ptr 1 0 0),(4,.ptr 2 0 0),(6,.ptr 3 0 0),(25,la a1.aF),(26,.int .i64 (a1.aF.length:Int)),(27,.int .i64 g2.1)],[(0,bx a0),(1,bx a1),(2,bx aD.zero),(3,⟨false,2,aD.enc aD.zero,[[.own 4 0 g2.2.aF.length,.own 5 0 g2.2.aQ.length]]⟩),(4,sx g2.2.aF),(5,sx g2.2.aQ)],6⟩
def zF3 (a0 a1:aD):Option (aD×Int) :=
 (zt8 a0).bind fun v1 =>
 ((if v1=true then zt8 a1 else some false)).bind fun v2 =>
 (if ((!v1)||(!v2))=true then
  some ({ aD.zero with  },2)
 else
  (zi9 a0).bind fun v3 =>
  (zc0 (zQ9 a0 a1) (0,v3)).bind (fun|.inl z=>zQ8 a0 a1 z|.inr z=>some z))
theorem zaL5 (a0 a1:aD) (r:aD×Int) (h:zF3 a0 a1=some r):PFn C 8 [ga a0,ga a1] (.tup [ga r.1,.int .i64 r.2]):=by
 refine zad2 Tryz.f8 [(6,5),(93,1)] fun E hG hN hK=>?_
 unfold zF3 at h
 refine za2 (za3 hG ?_)
 refine za2 (za2 (za3 hG ?_))
 obtain ⟨v1,hv1,h⟩:=zc9 h
 refine zq4 (fun hg=>(zaL4 a0).ok _ hv1) ?_
 obtain ⟨v2,hv2,h⟩:=zc9 h
 refine zq4 (fun hg=>(zaL4 a1).ok _ (zaH9 hg hv2)) ?_
 refine zl0 rfl hG h (fun _ h=>?_) (fun _ h=>?_)
 · refine za2 (za3 hG ?_)
   refine zt2 ?_
   exact zI9 h
 refine zj2 ?_
 refine za2 (za3 hG ?_)
 obtain ⟨v3,hv3,h⟩:=zc9 h
 refine zs2 [] [(0,3),(1,4)] [0,1] (zbd6 _ _ hv3) rfl rfl ?_
 refine za2 (za2 (za3 hG ?_))
 refine zB6 (zdy5 a0 a1) (fun v=>zQ8 a0 a1 v=some r) ?_ ?_
 · intro j1 h
   unfold zQ8 at h
   refine g_st ?_
   refine za2 (za2 (za3 hG ?_))
   refine zB6 zdy3 (fun v=>zQ6 v=some r) ?_ ?_
   · intro j2 h
     unfold zQ6 at h
     refine g_st ?_
     refine za2 (za2 (za3 hG ?_))
     obtain ⟨v4,hv4,h⟩:=zc9 h
     have hl_v4:=zaU5 hv4
     refine zbf5 [(0,2),(1,3)] [0,1] hv4 (fun hc=>(zbe0 j2).ok _ hc) rfl ?_
     refine zl0 rfl hG h (fun _ h=>?_) (fun _ h=>?_)
     · refine za2 (za3 hG ?_)
       refine zt2 ?_
       exact zI9 h
     refine zj2 ?_
     refine za2 (za3 hG ?_)
     obtain ⟨v5,hv5,h⟩:=zc9 h
     have hl_v5:=zai1 v4.2.1 _ hv5
     refine zs2 [(0,2)] [] [0] (zai2 _ _ hv5) rfl rfl ?_
     refine za2 (za3 hG ?_)
     obtain ⟨v6,hv6,h⟩:=zc9 h
     have hl_v6:=zak6 v4.2.2 _ hv6
     refine zs2 [(0,3)] [] [0] (zak7 _ _ hv6) rfl rfl ?_
     refine za2 (za3 hG ?_)
     refine zt2 ?_
     rw [show List.take j2.aF.length v5=v5 from cX (by omega),show List.take j2.aQ.length v6=v6 from cX (by omega)]
     exact zI9 h
   refine zY4 (zdy4 a0 a1) hK [(0,0),(1,2),(2,3),(3,4),(4,5)] h (fun x_l1 h g1 y_l1 h_l1 hx_l1=>?_)
   unfold zQ7 at h_l1
   refine g_st ?_
   refine za2 (za3 hG ?_)
   refine za2 ?_
   refine zl0 rfl hG h_l1 (fun _ h_l1=>?_) (fun _ h_l1=>?_)
   · refine zj2 ?_
     refine za2 (zB5 (za2 ?_))
     obtain ⟨hb3,h_l1⟩:=zd5 h_l1
     refine za3 hG ?_
     refine za2 (za3 hG ?_)
     obtain ⟨v7,hv7,h_l1⟩:=zc9 h_l1
     refine zq4 (fun hg=>(zaK9 a0.aQ ((a1.aQ.getD g1.1.toNat bC.zero).aN)).ok _ hv7) ?_
     refine za2 (za3 hG ?_)
     refine zl0 rfl hG h_l1 (fun _ h_l1=>?_) (fun _ h_l1=>?_)
     · refine zad1 zw6 hG ?_
       obtain ⟨v8,hv8,h_l1⟩:=zc9 h_l1
       obtain ⟨hb1,h_l1⟩:=zd5 h_l1
       refine zaa0 (fun hg=>(zag8 (a1.aQ.getD g1.1.toNat bC.zero)).ok _ hv8) ?_
       refine za3 hG ?_
       exact zF8 hK [(0,0),(1,1),(2,2),(3,3),(4,6)] h_l1
     refine za2 ?_
     obtain ⟨hb2,h_l1⟩:=zd5 h_l1
     refine zaX8 zw6 hG ?_
     obtain ⟨v9,hv9,h_l1⟩:=zc9 h_l1
     refine zan4 (fun hg=>(zbd5 (a0.aQ.getD v7.toNat bC.zero) (a1.aQ.getD g1.1.toNat bC.zero)).ok _ hv9) ?_
     refine zl0 rfl hG h_l1 (fun _ h_l1=>?_) (fun _ h_l1=>?_)
     · refine za2 (za3 hG ?_)
       refine zt2 ?_
       cases h_l1
       cases hx_l1 _ rfl
       exact zI9 h
     refine zj2 ?_
     refine za3 hG ?_
     exact zF8 hK [(0,0),(1,1),(2,2),(3,3),(4,4)] h_l1
   refine zH3 ?_
   cases h_l1
   cases hx_l1 _ rfl
   exact zy4 hK [(0,1),(1,2),(2,3),(3,4)] g1.2 (by exact h)
 refine zY4 (zdy6 a0 a1) hK [(0,0),(1,1),(2,2),(3,5),(4,3),(5,4)] h (fun x_l2 h g2 y_l2 h_l2 hx_l2=>?_)
 unfold zQ9 at h_l2
 refine g_st ?_
 refine za2 (za3 hG ?_)
 refine za2 ?_
 refine zl0 rfl hG h_l2 (fun _ h_l2=>?_) (fun _ h_l2=>?_)
 · refine zj2 ?_
   refine za2 (zB5 (za2 ?_))
   obtain ⟨hb6,h_l2⟩:=zd5 h_l2
   refine za3 hG ?_
   refine za2 (za3 hG ?_)
   obtain ⟨v10,hv10,h_l2⟩:=zc9 h_l2
   refine zq4 (fun hg=>(zbX3 a0.aF (((a1.aF.getD g2.1.toNat aA.zero).aB).name)).ok _ hv10) ?_
   refine za2 (za3 hG ?_)
   refine zl0 rfl hG h_l2 (fun _ h_l2=>?_) (fun _ h_l2=>?_)
   · refine zad1 zw6 hG ?_
     obtain ⟨v11,hv11,h_l2⟩:=zc9 h_l2
     obtain ⟨hb4,h_l2⟩:=zd5 h_l2
     refine zaa0 (fun hg=>(zau7 (a1.aF.getD g2.1.toNat aA.zero)).ok _ hv11) ?_
     refine za3 hG ?_
     exact zF8 hK [(0,0),(1,1),(2,2),(3,3),(4,7),(5,5)] h_l2
   refine za2 ?_
   obtain ⟨hb5,h_l2⟩:=zd5 h_l2
   refine zaX8 zw6 hG ?_
   obtain ⟨v12,hv12,h_l2⟩:=zc9 h_l2
   refine zan4 (fun hg=>(zaY4 (a0.aF.getD v10.toNat aA.zero) (a1.aF.getD g2.1.toNat aA.zero)).ok _ hv12) ?_
   refine zl0 rfl hG h_l2 (fun _ h_l2=>?_) (fun _ h_l2=>?_)
   · refine za2 (za3 hG ?_)
     refine zt2 ?_
     cases h_l2
     cases hx_l2 _ rfl
     exact zI9 h
   refine zj2 ?_
   refine za3 hG ?_
   exact zF8 hK [(0,0),(1,1),(2,2),(3,3),(4,4),(5,5)] h_l2
 refine zH3 ?_
 cases h_l2
 cases hx_l2 _ rfl
 exact zy4 hK [(0,0),(1,1),(2,2),(3,3),(4,4),(5,5)] g2.2 (by exact h)
attribute [local irreducible] zF3
def zaU6 (j2:(List Bool)):Option (List Bool) :=
 some j2
def zaf3 (a0:aO) (v1:(List aM)×Bool) (g1:Int×(List Bool)):Option ((Int×(List Bool))⊕(List Bool)) :=
 (if (decide (0≤g1.1))=true then
  gd (0≤g1.1∧g1.1 < ((g1.2.length:Nat):Int)) <|
  (if (g1.2.getD g1.1.toNat false)=true then
   gd (0≤g1.1∧g1.1 < ((g1.2.length:Nat):Int)) <|
   (f_ref08_holds a0 v1.1 (g1.2.set g1.1.toNat false)).bind fun v3 =>
   gd (0≤g1.1∧g1.1 < ((g1.2.length:Nat):Int)) <|
   some (.inl ((i64.wrap (g1.1 - 1)),(g1.2.set g1.1.toNat false).set g1.1.toNat (!v3)))
  else
   some (.inl ((i64.wrap (g1.1 - 1)),g1.2)))
 else
  some (.inr g1.2))
def zap0 (a0:aO) (v1:(List aM)×Bool) (j1:(List Bool)):Option (List Bool) :=
 (zc0 (zaf3 a0 v1) ((i64.wrap ((v1.1.length:Int) - 1)),j1)).bind (fun z=>zaU6 z)
def zaf4 (a1:List Bool) (v1:(List aM)×Bool) (g2:Int×(List Bool)):Option ((Int×(List Bool))⊕(List Bool)) :=
 (if (decide (g2.1 < (v1.1.length:Int)))=true then
  gd (decide (g2.1 < (a1.length:Int))=true→0≤g2.1∧g2.1 < (a1.length:Int)) <|
  gd (0≤g2.1∧g2.1 < ((g2.2.length:Nat):Int)) <|
  some (.inl ((i64.wrap (g2.1+1)),g2.2.set g2.1.toNat (decide (g2.1 < (a1.length:Int))&&a1.getD g2.1.toNat false)))
 else
  some (.inr g2.2))
def zP3 (a0:aO) (a1:List Bool):Option (List Bool) :=
 (zo3 a0).bind fun v1 =>
 gd (0≤(v1.1.length:Int)∧(v1.1.length:Int)≤(v1.1.length:Int)∧(v1.1.length:Int)≤4294967296) <|
 ((if v1.2=true then f_ref08_holds a0 v1.1 a1 else some false)).bind fun v2 =>
 (if ((!v1.2)||(!v2))=true then
  some (List.replicate ((v1.1.length:Int).toNat) false)
 else
  (zc0 (zaf4 a1 v1) (0,List.replicate ((v1.1.length:Int).toNat) false)).bind (fun z=>zap0 a0 v1 z))
@[reducible,instance] def zec4 a0 v1 j1:=mkJ (zap0 a0 v1 j1) 2 (@zaU6.eq_1) fun (j2:(List Bool))=>⟨[(7,.own 0 0 j2.length)],[(0,⟨false,1,[A.bool false],j2.map eB⟩)],1⟩
@[reducible,instance] def zec5 (a0:aO) (v1:(List aM)×Bool) {T:Type} (x:T):=mkL x (@zaf3.eq_1 a0 v1) fun (g1:Int×(List Bool))=>⟨[(2,.ptr 0 0 0),(5,la v1.1),(7,.own 1 0 g1.2.length),(9,.int .i64 g1.1)],[(0,bx a0),(1,⟨false,1,[A.bool false],g1.2.map eB⟩)],2⟩
@[reducible,instance] def zec6 (a0:aO) a1 (v1:(List aM)×Bool) {T1:Type} (v2:T1):=mkJ ((zP3 a0 a1,v1),v2) 0 (@zap0.eq_1 a0 v1) fun (j1:(List Bool))=>⟨[(2,.ptr 0 0 0),(5,la v1.1),(7,.own 1 0 j1.length)],[(0,bx a0),(1,⟨false,1,[A.bool false],j1.map eB⟩)],2⟩
@[reducible,instance] def zec7 (a0:aO) (a1:List Bool) (v1:(List aM)×Bool) {T1:Type} (v2:T1):=mkL ((zP3 a0 a1,v1),v2) (@zaf4.eq_1 a1 v1) fun (g2:Int×(List Bool))=>⟨[(1,.sl (a1.map eB)),(2,.ptr 0 0 0),(5,la v1.1),(7,.own 1 0 g2.2.length),(8,.int .i64 g2.1)],[(0,bx a0),(1,⟨false,1,[A.bool false],g2.2.map eB⟩)],2⟩
instance zde0 (a0:aO) (a1:List Bool):OkP (zP3 a0 a1) 256 [ga a0,.sl (a1.map eB)] (fun r=>.sl (r.map eB)):=ok1 (zP3.eq_1 a0 a1) Tryz.f256 []
attribute [local irreducible] zP3
def zaU7 (v1:(List aI)×bJ) (j2:(List bM)):Option ((List aI)×(List bM)) :=
 some (v1.1,j2)
def zap1 (v1:(List aI)×bJ) (g1:bJ×(List bM)):Option ((bJ×(List bM))⊕(List bM)) :=
 (zf2 g1.1).bind fun v2 =>
 (if v2.1=true then
  (zD7 v1.1 v2.2).bind fun v3 =>
  gd (g1.2.length+1≤4294967296) <|
  some (.inl (v3.2,(g1.2++[v3.1])))
 else
  some (.inr g1.2))
def zap2 (v1:(List aI)×bJ) (j1:bJ×(List bM)):Option ((List aI)×(List bM)) :=
 (zc0 (zap1 v1) (j1.1,j1.2)).bind (fun z=>zaU7 v1 z)
def zap3 (g2:Int×bJ×(List bM)):Option ((Int×bJ×(List bM))⊕(bJ×(List bM))) :=
 (if (decide (g2.1 < 4))=true then
  (zp1 g2.1).bind fun v4 =>
  (zb8 9 g2.2.1).bind fun v5 =>
  gd (g2.2.2.length+1≤4294967296) <|
  some (.inl ((i64.wrap (g2.1+1)),v5.2,(g2.2.2++[{ bM.zero with kind:=1,aN:=v4,n:=(i64.wrap (1+v5.1)) }])))
 else
  some (.inr (g2.2.1,g2.2.2)))
def zP4 (a0:List Int):Option ((List aI)×(List bM)) :=
 (zl4 ({ bJ.zero with l:=a0 })).bind fun v1 =>
 (zc0 zap3 (0,v1.2,[])).bind (fun z=>zap2 v1 z)
@[reducible,instance] def zec8 (v1:(List aI)×bJ) j1:=mkJ (zap2 v1 j1) 2 (@zaU7.eq_1 v1) fun (j2:(List bM))=>⟨[(5,la v1.1),(6,.own 0 0 j2.length)],[(0,sx j2)],1⟩
@[reducible,instance] def zec9 (v1:(List aI)×bJ) {T:Type} (x:T):=mkL x (@zap1.eq_1 v1) fun (g1:bJ×(List bM))=>⟨[(4,.ptr 0 0 0),(5,la v1.1),(6,.own 1 0 g1.2.length)],[(0,bx g1.1),(1,sx g1.2)],2⟩
@[reducible,instance] def zed0 a0 (v1:(List aI)×bJ):=mkJ (zP4 a0,v1) 0 (@zap2.eq_1 v1) fun (j1:bJ×(List bM))=>⟨[(4,.ptr 0 0 0),(5,la v1.1),(6,.own 1 0 j1.2.length)],[(0,bx j1.1),(1,sx j1.2)],2⟩
@[reducible,instance] def zed1 a0 (v1:(List aI)×bJ):=mkL (zP4 a0,v1) (@zap3.eq_1) fun (g2:Int×bJ×(List bM))=>⟨[(4,.ptr 0 0 0),(5,la v1.1),(6,.own 1 0 g2.2.2.length),(7,.int .i64 g2.1)],[(0,bx g2.2.1),(1,sx g2.2.2)],2⟩
instance zde1 (a0:List Int):OkP (zP4 a0) 55 [.sl (a0.map (eI .i64))] (fun r=>.tup [la r.1,la r.2]):=ok1 (zP4.eq_1 a0) Tryz.f55 [(6,1)]
attribute [local irreducible] zP4
def zam0 (a0:List aI):Option (aZ×Int) :=
 (zQ3 a0).bind fun v1 =>
 (if (!decide (v1.2=0))=true then
  some ({ aZ.zero with  },v1.2)
 else
  some ({ aZ.zero with aF:=v1.1 },0))
instance zdp2 (a0:List aI):OkP (zam0 a0) 56 [la a0] (fun r=>.tup [ga r.1,.int .i64 r.2]):=ok1 (zam0.eq_1 a0) Tryz.f56 []
attribute [local irreducible] zam0
end
end Ab
end Go.Proofs.YtogpinppgncpmaaGreatDoor
