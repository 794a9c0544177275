import Derived.Test.YtfkjffmjkbkmhaaGreatDoorHm6
import Derived.Test.YtfkjffmjkbkmhaaGreatDoorSort
import Derived.Test.YtfkjffmjkbkmhaaGreatDoorStr
namespace Go.Proofs.YtfkjffmjkbkmhaaGreatDoor
namespace Ab
open IntKind (i64 u64 u8)
set_option linter.unusedSimpArgs false
set_option linter.defProp false
set_option linter.unusedVariables false
set_option maxRecDepth 100000
set_option maxHeartbeats 1000000
noncomputable section
attribute [local irreducible] zl7 zl8 zb2 za3 zd9 za8 zm2 zj6 zg1 zg2 zf8 zb1 zf5 zg6 zj1 ze3 za9 zj4 zi1 zh6 zg4 zf2 zc4 zi7 zb0 zf0 zl9 zh2 zm6 zh3 zi2 zk8 zn7 zm0 f_ref08_holds zc3 zk9 ze0 zm3 zf7 zh4 zf6 zb3 zl0 za0 ze7 zi5 ze8 zj3 zd7 zg5 zb4 zb5 zf1 zh7 zm8 zd3 zh9 zn6 zk3 zc9 zq5 za1 zi6 zg3 zd8 zn8 zc0 zd5 zf3 zp8 zo8 ze4 zk2 zb7 zh8 zd6
def zc2 (a0:aI) (a1:aD):Bool :=
 (ze9 a0&&(zj7 a1||za4 a0 a1))
instance zbj0 (a0:aI) (a1:aD):OkT 257 [.agg (aI.enc a0),.agg (aD.enc a1)] (.bool (zc2 a0 a1)):=ok2 (fun r=>.bool r) (zc2.eq_1 a0 a1) Tryz.f257 []
def zp3 (a0:aA):Option (List aT) :=
 (zb4 [a0.aO,a0.aS]).bind fun v1 =>
 some v1
instance zcX0 (a0:aA):OkP (zp3 a0) 78 [ga a0] (fun r=>la r):=ok1 (zp3.eq_1 a0) Tryz.f78 []
attribute [local irreducible] zp3
def zau7 (j1:(List Int)):Option (List Int) :=
 some j1
def zau8 (a90:(List Int→aP→Option (List Int))) (a1:aP) (g1:(List Int)×Int):Option (((List Int)×Int)⊕(List Int)) :=
 (if (decide (g1.2 < (a1.bE.length:Int)))=true then
  gd (0≤g1.2∧g1.2 < (a1.bE.length:Int)) <|
  (a90 g1.1 (a1.bE.getD g1.2.toNat aP.zero)).bind fun v5 =>
  some (.inl (v5,i64.wrap (g1.2+1)))
 else
  some (.inr g1.1))
def zU7 (a90:(List Int→aP→Option (List Int))) (a0:List Int) (a1:aP):Option (List Int) :=
 (zc9 a0 [a1.k]).bind fun v1 =>
 (if (decide (a1.k=0))=true then
  (zk2 v1 a1.bF.name).bind fun v2 =>
  (zc9 v2 [a1.bF.aN.mode,a1.bF.aN.aR]).bind fun v3 =>
  some v3
 else
  (zc9 v1 [(a1.bE.length:Int)]).bind fun v4 =>
  (zb9 (zau8 a90 a1) (v4,0)).bind (fun z=>zau7 z))
def zah4:Nat→(List Int→aP→Option (List Int))
 | 0=>fun _ _=>none
 | n+1=>zU7 (zah4 n)
def zl1 (a0:List Int) (a1:aP):Option (List Int):=zah4 (_root_.SizeOf.sizeOf a1+1) a0 a1
@[reducible,instance] def zdK1 (a90:(List Int→aP→Option (List Int))) (a0:List Int) (a1:aP) {T1:Type} (v1:T1) {T2:Type} (v4:T2):=mkJ ((zU7 a90 a0 a1,v1),v4) 0 (@zau7.eq_1) fun (j1:(List Int))=>⟨[(0,.sl (j1.map (eI .u8)))],[],0⟩
@[reducible,instance] def zdK2 (a90:(List Int→aP→Option (List Int))) (a1:aP) {T:Type} (x:T):=mkL x (@zau8.eq_1 a90 a1) fun (g1:(List Int)×Int)=>⟨[(0,.sl (g1.1.map (eI .u8))),(37,la a1.bE),(38,.int .i64 (a1.bE.length:Int)),(39,.int .i64 g1.2)],[],0⟩
abbrev zY4 (g:(List Int→aP→Option (List Int))):Prop:=∀ (a0:List Int) (a1:aP),OkP (g a0 a1) 38 [.sl (a0.map (eI .u8)),.agg (aP.enc a1)] (fun r=>.sl (r.map (eI .u8)))
theorem zba4 (a90:(List Int→aP→Option (List Int))) (hrc:zY4 a90):zY4 (zU7 a90):=fun a0 a1=>ok1 (zU7.eq_1 a90 a0 a1) Tryz.f38 []
theorem zba5:∀ n,zY4 (zah4 n):=zaP2 (fun _ _=>⟨fun _ h=>nomatch h⟩) fun n=>zba4 _
instance zcm7:zY4 zl1:=fun a0 a1=>zba5 _ a0 a1
attribute [local irreducible] zl1
def zh1 (a0:bI) (a1:aK):Option (Bool×aK) :=
 (zd8 a0.aJ a1).bind fun v1 =>
 some ((decide (v1=0)),a1)
instance zbX1 (a0:bI) (a1:aK):OkM (zh1 a0 a1) 60 [ga a0,.ptr 0 0 0] [(0,bx a1)] 1 (fun r=>.bool r.1) (fun r=>[(0,bx r.2)]) 1:=okm (zh1.eq_1 a0 a1) (fun r=>[.bool r.1]) Tryz.f60 []
attribute [local irreducible] zh1
def zq0 (a0:aI) (a1:Int):Option aD :=
 (if (decide (a0.kind=1))=true then
  (zp8 a1).bind fun v1 =>
  some ({ aD.zero with mode:=v1 })
 else
  (zl7 a1 a0.aR).bind fun v2 =>
  some ({ aD.zero with aR:=(i64.wrap (1+v2)) }))
instance zcX1 (a0:aI) (a1:Int):OkP (zq0 a0 a1) 241 [ga a0,.int .i64 a1] (fun r=>ga r):=ok1 (zq0.eq_1 a0 a1) Tryz.f241 []
attribute [local irreducible] zq0
def zaG1 (j1:(List aM)):Option (List aM) :=
 some j1
def zY5 (a0:List aA) (a1:aK) (g1:Int×(List aM)):Option ((Int×(List aM))⊕(List aM)) :=
 (if (decide (g1.1 < (a0.length:Int)))=true then
  gd (0≤g1.1∧g1.1 < (a0.length:Int)) <|
  (zi6 (a0.getD g1.1.toNat aA.zero) a1).bind fun v1 =>
  (if (!(zk7 v1))=true then
   gd (0≤g1.1∧g1.1 < (a0.length:Int)) <|
   gd (g1.2.length+1≤4294967296) <|
   some (.inl ((i64.wrap (g1.1+1)),(g1.2++[(⟨((a0.getD g1.1.toNat aA.zero).aB).name,v1⟩:aM)])))
  else
   some (.inl ((i64.wrap (g1.1+1)),g1.2)))
 else
  some (.inr g1.2))
def zl5 (a0:List aA) (a1:aK):Option (List aM) :=
 (zb9 (zY5 a0 a1) (0,[])).bind (fun z=>zaG1 z)
@[reducible,instance] def zdK3 a0 a1:=mkJ (zl5 a0 a1) 0 (@zaG1.eq_1) fun (j1:(List aM))=>⟨[(5,.own 0 0 j1.length)],[(0,sx j1)],1⟩
@[reducible,instance] def zdK4 (a0:List aA) (a1:aK) {T:Type} (x:T):=mkL x (@zY5.eq_1 a0 a1) fun (g1:Int×(List aM))=>⟨[(0,la a0),(3,.ptr 0 0 0),(5,.own 1 0 g1.2.length),(6,.int .i64 g1.1)],[(0,bx a1),(1,sx g1.2)],2⟩
instance zcE6 (a0:List aA) (a1:aK):OkP (zl5 a0 a1) 140 [la a0,ga a1] (fun r=>la r):=ok1 (zl5.eq_1 a0 a1) Tryz.f140 [(5,1)]
attribute [local irreducible] zl5
def zbd1 (j1:Unit):Option Int :=
 some 0
def zau9 (a0 a1 g1:Int):Option (Int⊕(Unit⊕Int)) :=
 (if (decide (g1≤5))=true then
  (if (zN1 g1 a0&&zN1 g1 a1)=true then
   some (.inr (.inr g1))
  else
   some (.inl (i64.wrap (g1+1))))
 else
  some (.inr (.inl ())))
def zu2 (a0 a1:Int):Option Int :=
 (zb9 (zau9 a0 a1) 1).bind (fun|.inl z=>zbd1 z|.inr z=>some z)
@[reducible,instance] def zdK5 a0 a1:=mkJ (zu2 a0 a1) 0 (@zbd1.eq_1) fun (j1:Unit)=>⟨[],[],0⟩
@[reducible,instance] def zdK6 (a0 a1:Int) {T:Type} (x:T):=mkL x (@zau9.eq_1 a0 a1) fun (g1:Int)=>⟨[(0,.int .i64 a0),(1,.int .i64 a1),(5,.int .i64 g1)],[],0⟩
instance zdl0 (a0 a1:Int):OkP (zu2 a0 a1) 240 [.int .i64 a0,.int .i64 a1] (fun r=>.int .i64 r):=ok1 (zu2.eq_1 a0 a1) Tryz.f240 []
attribute [local irreducible] zu2
def zav0 (a2:aX) (j1:(List aG)):Option (Int×aX) :=
 some (0,(⟨(⟨a2.c.now,a2.c.aC,j1⟩:bA),a2.ev⟩:aX))
def zG7 (g1:Int×(List aG)):Option ((Int×(List aG))⊕(List aG)) :=
 gd (decide (0 < g1.1)=true→0≤i64.wrap (g1.1 - 1)∧i64.wrap (g1.1 - 1) < ((g1.2.length:Nat):Int)) <|
 gd (decide (0 < g1.1)=true→0≤g1.1∧g1.1 < ((g1.2.length:Nat):Int)) <|
 (if (decide (0 < g1.1)&&decide (0 < zs1 ((g1.2.getD ((i64.wrap (g1.1 - 1)).toNat) aG.zero).aJ) ((g1.2.getD g1.1.toNat aG.zero).aJ)))=true then
  gd (0≤g1.1∧g1.1 < ((g1.2.length:Nat):Int)) <|
  gd (0≤i64.wrap (g1.1 - 1)∧i64.wrap (g1.1 - 1) < ((g1.2.length:Nat):Int)) <|
  gd (0≤g1.1∧g1.1 < ((g1.2.length:Nat):Int)) <|
  gd (0≤i64.wrap (g1.1 - 1)∧i64.wrap (g1.1 - 1) < ((g1.2.length:Nat):Int)) <|
  some (.inl ((i64.wrap (g1.1 - 1)),(g1.2.set g1.1.toNat (g1.2.getD ((i64.wrap (g1.1 - 1)).toNat) aG.zero)).set ((i64.wrap (g1.1 - 1)).toNat) (g1.2.getD g1.1.toNat aG.zero)))
 else
  some (.inr g1.2))
def zg8 (a0:aK) (a1:Int) (a2:aX):Option (Int×aX) :=
 (if (((!(zo1 a0))||decide (a1 < 1))||decide (1000 < a1))=true then
  some (1,a2)
 else
  (zi2 a2.c.aF a0).bind fun v1 =>
  (if (decide (0≤v1))=true then
   some (11,a2)
  else
   (if (decide (((a2.c.aF.length:Nat):Int)=8))=true then
    some (4,a2)
   else
    gd (a2.c.aF.length+1≤4294967296) <|
    (zb9 zG7 ((i64.wrap (((a2.c.aF.length+1:Nat):Int) - 1)),(a2.c.aF++[{ aG.zero with aJ:=a0,cost:=a1 }]))).bind (fun z=>zav0 a2 z))))
@[reducible,instance] def zdK7 a0 a1 (a2:aX) {T1:Type} (v1:T1):=mkJ (zg8 a0 a1 a2,v1) 0 (@zav0.eq_1 a2) fun (j1:(List aG))=>⟨[(0,.ptr 0 0 0),(7,.own 3 0 j1.length)],[(0,⟨false,4,aX.enc aX.zero,[[.int .i64 a2.c.now,la a2.c.aC,.own 1 0 a2.c.aF.length,.own 4 0 a2.ev.length]]⟩),(3,sx j1),(4,sx a2.ev)],5⟩
@[reducible,instance] def zdK8 a0 a1 (a2:aX) {T1:Type} (v1:T1):=mkL (zg8 a0 a1 a2,v1) (@zG7.eq_1) fun (g1:Int×(List aG))=>⟨[(0,.ptr 0 0 0),(7,.own 3 0 g1.2.length),(8,.int .i64 g1.1)],[(0,⟨false,4,aX.enc aX.zero,[[.int .i64 a2.c.now,la a2.c.aC,.own 1 0 a2.c.aF.length,.own 4 0 a2.ev.length]]⟩),(3,sx g1.2),(4,sx a2.ev)],5⟩
instance zch8 (a0:aK) (a1:Int) (a2:aX):OkM (zg8 a0 a1 a2) 203 [.ptr 0 0 0,ga a0,.int .i64 a1] [(0,⟨false,4,aX.enc aX.zero,[[.int .i64 a2.c.now,la a2.c.aC,.own 1 0 a2.c.aF.length,.own 2 0 a2.ev.length]]⟩),(1,sx a2.c.aF),(2,sx a2.ev)] 3 (fun r=>.int .i64 r.1) (fun r=>[(0,⟨false,4,aX.enc aX.zero,[[.int .i64 r.2.c.now,la r.2.c.aC,.own 3 0 r.2.c.aF.length,.own 4 0 r.2.ev.length]]⟩),(3,sx r.2.c.aF),(4,sx r.2.ev)]) 5:=okm (zg8.eq_1 a0 a1 a2) (fun r=>[.int .i64 r.1]) Tryz.f203 []
attribute [local irreducible] zg8
theorem zae9:SlLaysF0.n6 C.P ⟨fun|6=>27|15=>64|14=>63|28=>106|29=>107|20=>98|21=>99|22=>100|23=>101|24=>102|25=>103|26=>104|27=>105|46=>154|47=>155|48=>156|49=>157|50=>158|57=>213|n=>n,fun|22=>25|24=>36|25=>79|39=>137|53=>186|55=>145|46=>179|45=>178|50=>183|66=>228|70=>203|76=>274|77=>275|n=>n,fun n=>n⟩ where
 mixed:=zz1
 f6:=⟨ "slices.SortFunc[[]clusterlocks/api.Queue,clusterlocks/api.Queue]",by decide,Tryz.func27.trans (cQ some (by kernel_rfl))⟩
 f14:=⟨ "slices.pdqsortCmpFunc[clusterlocks/api.Queue]",by decide,Tryz.func63.trans (cQ some (by kernel_rfl))⟩
 f15:=Tryz.func64.trans (cQ some (by kernel_rfl))
 f20:=⟨ "slices.insertionSortCmpFunc[clusterlocks/api.Queue]",by decide,Tryz.func98.trans (cQ some (by kernel_rfl))⟩
 f21:=⟨ "slices.heapSortCmpFunc[clusterlocks/api.Queue]",by decide,Tryz.func99.trans (cQ some (by kernel_rfl))⟩
 f22:=⟨ "slices.breakPatternsCmpFunc[clusterlocks/api.Queue]",by decide,Tryz.func100.trans (cQ some (by kernel_rfl))⟩
 f23:=⟨ "slices.choosePivotCmpFunc[clusterlocks/api.Queue]",by decide,Tryz.func101.trans (cQ some (by kernel_rfl))⟩
 f24:=⟨ "slices.reverseRangeCmpFunc[clusterlocks/api.Queue]",by decide,Tryz.func102.trans (cQ some (by kernel_rfl))⟩
 f25:=⟨ "slices.partialInsertionSortCmpFunc[clusterlocks/api.Queue]",by decide,Tryz.func103.trans (cQ some (by kernel_rfl))⟩
 f26:=⟨ "slices.partitionEqualCmpFunc[clusterlocks/api.Queue]",by decide,Tryz.func104.trans (cQ some (by kernel_rfl))⟩
 f27:=⟨ "slices.partitionCmpFunc[clusterlocks/api.Queue]",by decide,Tryz.func105.trans (cQ some (by kernel_rfl))⟩
 f28:=Tryz.func106.trans (cQ some (by kernel_rfl))
 f29:=Tryz.func107.trans (cQ some (by kernel_rfl))
 f46:=⟨ "slices.siftDownCmpFunc[clusterlocks/api.Queue]",by decide,Tryz.func154.trans (cQ some (by kernel_rfl))⟩
 f47:=Tryz.func155.trans (cQ some (by kernel_rfl))
 f48:=Tryz.func156.trans (cQ some (by kernel_rfl))
 f49:=⟨ "slices.medianAdjacentCmpFunc[clusterlocks/api.Queue]",by decide,Tryz.func157.trans (cQ some (by kernel_rfl))⟩
 f50:=⟨ "slices.medianCmpFunc[clusterlocks/api.Queue]",by decide,Tryz.func158.trans (cQ some (by kernel_rfl))⟩
 f57:=⟨ "slices.order2CmpFunc[clusterlocks/api.Queue]",by decide,Tryz.func213.trans (cQ some (by kernel_rfl))⟩
 t0:=Tryz.underlying0
 a0:=Tryz.isAgg0
 z0:=Tryz.sizeOf0
 v0:=Tryz.zeroValue0
 t3:=Tryz.underlying3
 a3:=Tryz.isAgg3
 z3:=Tryz.sizeOf3
 v3:=Tryz.zeroValue3
 t4:=Tryz.underlying4
 a4:=Tryz.isAgg4
 z4:=Tryz.sizeOf4
 v4:=Tryz.zeroValue4
 t5:=Tryz.underlying5
 a5:=Tryz.isAgg5
 z5:=Tryz.sizeOf5
 v5:=Tryz.zeroValue5
 t9:=Tryz.underlying9
 a9:=Tryz.isAgg9
 z9:=Tryz.sizeOf9
 v9:=Tryz.zeroValue9
 t22:=Tryz.underlying25
 a22:=Tryz.isAgg25
 z22:=Tryz.sizeOf25
 v22:=Tryz.zeroValue25
 t25:=Tryz.underlying79
 a25:=Tryz.isAgg79
 z25:=Tryz.sizeOf79
 v25:=Tryz.zeroValue79
 t39:=Tryz.underlying137
 a39:=Tryz.isAgg137
 z39:=Tryz.sizeOf137
 v39:=Tryz.zeroValue137
 t45:=Tryz.underlying178
 a45:=Tryz.isAgg178
 z45:=Tryz.sizeOf178
 v45:=Tryz.zeroValue178
 t46:=Tryz.underlying179
 a46:=Tryz.isAgg179
 z46:=Tryz.sizeOf179
 v46:=Tryz.zeroValue179
 t50:=Tryz.underlying183
 a50:=Tryz.isAgg183
 z50:=Tryz.sizeOf183
 v50:=Tryz.zeroValue183
 t53:=Tryz.underlying186
 a53:=Tryz.isAgg186
 z53:=Tryz.sizeOf186
 v53:=Tryz.zeroValue186
 t55:=Tryz.underlying145
 a55:=Tryz.isAgg145
 z55:=Tryz.sizeOf145
 v55:=Tryz.zeroValue145
 t66:=Tryz.underlying228
 a66:=Tryz.isAgg228
 z66:=Tryz.sizeOf228
 v66:=Tryz.zeroValue228
 t70:=Tryz.underlying203
 a70:=Tryz.isAgg203
 z70:=Tryz.sizeOf203
 v70:=Tryz.zeroValue203
 t76:=Tryz.underlying274
 a76:=Tryz.isAgg274
 z76:=Tryz.sizeOf274
 v76:=Tryz.zeroValue274
 t77:=Tryz.underlying275
 a77:=Tryz.isAgg275
 z77:=Tryz.sizeOf275
 v77:=Tryz.zeroValue275
def zq2 (x y:aA):Int:=Go.Lib.compareBytes x.aB.name.data.toList y.aB.name.data.toList
theorem zad8 (x y:aA):zg3 x y=some (zq2 x y):=by unfold zg3 zf5; rfl
def zb6 (a0:List aA):Option (List aA):=gd (a0.length≤4294967296∧a0.Pairwise fun x y=>zq2 x y < 0∨zq2 y x < 0) (some (a0.mergeSort fun x y=>!decide (zq2 y x < 0)))
theorem zad9 (a0 r:List aA) (h:zb6 a0=some r):r.length=a0.length:=by
 obtain ⟨_,h⟩:=ze1 h
 obtain rfl:=dZ h
 exact iG _
theorem zae0 (a0 r:List aA) (h:zb6 a0=some r):MFn C 27 [.own 0 0 a0.length,.clo 28 []] [(0,sx a0)] 1 (.tup []) [(0,sx r)] 1:=by
 obtain ⟨⟨hl,hp⟩,h⟩:=ze1 h
 obtain rfl:=dZ h
 exact zbK1 zae9 aA.enc 8 aA.len (by decide) (fun x=>by first|exact (aA.laws x).1|exact (aA.laws x).2.1) Tryz.isAgg36 Tryz.sizeOf36 zq2 (zcD9 (fun x:aA=>x.aB.name) zcW0) 28 (fun x y=>(zbd0 x y).ok _ (zad8 x y)) (enters_of Tryz.func28 (by kernel_rfl) rfl) rfl _ a0 hl (zcd5 hp)
attribute [local irreducible] zb6
def ze6 (a0:aI):Option Bool :=
 (ze4 a0.name).bind fun v1 =>
 some (((v1&&ze9 a0)&&decide (0≤a0.home))&&decide (a0.home < 4))
instance zbT2 (a0:aI):OkP (ze6 a0) 164 [ga a0] (fun r=>.bool r):=ok1 (ze6.eq_1 a0) Tryz.f164 []
attribute [local irreducible] ze6
def zaI8 (j1:(List Int)):Option (List Int) :=
 some j1
def zaI9 (a1:aK) (g1:(List Int)×Int):Option (((List Int)×Int)⊕(List Int)) :=
 (if (decide (g1.2 < 3))=true then
  gd (0≤g1.2∧g1.2 < 3) <|
  (zh4 g1.1 (u64.wrap (Arr.get (⟨[a1.site,a1.inc,a1.num],rfl⟩:Arr Int 3) g1.2.toNat 0))).bind fun v1 =>
  some (.inl (v1,i64.wrap (g1.2+1)))
 else
  some (.inr g1.1))
def zk4 (a0:List Int) (a1:aK):Option (List Int) :=
 gd (a0.length≤4294967296) <|
 (if (!(zc5 a1))=true then
  some a0
 else
  (zb9 (zaI9 a1) (a0,0)).bind (fun z=>zaI8 z))
@[reducible,instance] def zdK9 (a0:List Int) (a1:aK):=mkJ (zk4 a0 a1) 0 (@zaI8.eq_1) fun (j1:(List Int))=>⟨[(5,.sl (j1.map (eI .u8)))],[],0⟩
@[reducible,instance] def zdL0 (a1:aK) {T:Type} (x:T):=mkL x (@zaI9.eq_1 a1) fun (g1:(List Int)×Int)=>⟨[(5,.sl (g1.1.map (eI .u8))),(20,.agg (Arr.enc (eI .i64) (⟨[a1.site,a1.inc,a1.num],rfl⟩:Arr Int 3))),(21,.int .i64 g1.2)],[],0⟩
instance zcJ9 (a0:List Int) (a1:aK):OkP (zk4 a0 a1) 39 [.sl (a0.map (eI .u8)),ga a1] (fun r=>.sl (r.map (eI .u8))):=⟨fun r h=>by
 refine zY9 Tryz.f39 [] fun E hG hN hK=>?_
 have hm:Mk (zk4 a0 a1):=trivial
 unfold zk4 at h
 refine za2 (za5 hG ?_)
 refine za2 ?_
 obtain ⟨hb2,h⟩:=ze1 h
 refine za5 hG ?_
 refine g_gh (.fz [1]) ?_
 exact gogo⟩
attribute [local irreducible] zk4
def zar6 (j1:(List aM)):Option (List aM) :=
 some j1
def zar7 (a90:(aP→List aM→Option (List aM))) (a0:aP) (g1:Int×(List aM)):Option ((Int×(List aM))⊕(List aM)) :=
 (if (decide (g1.1 < (a0.bE.length:Int)))=true then
  gd (0≤g1.1∧g1.1 < (a0.bE.length:Int)) <|
  (a90 (a0.bE.getD g1.1.toNat aP.zero) g1.2).bind fun v2 =>
  some (.inl ((i64.wrap (g1.1+1)),v2))
 else
  some (.inr g1.2))
def zQ5 (a90:(aP→List aM→Option (List aM))) (a0:aP) (a1:List aM):Option (List aM) :=
 (if (decide ((a0.bE.length:Int)=0))=true then
  (zb5 a1 a0.bF).bind fun v1 =>
  (if v1=true then
   some a1
  else
   gd (a1.length+1≤4294967296) <|
   some (a1++[a0.bF]))
 else
  (zb9 (zar7 a90 a0) (0,a1)).bind (fun z=>zar6 z))
def zaf0:Nat→(aP→List aM→Option (List aM))
 | 0=>fun _ _=>none
 | n+1=>zQ5 (zaf0 n)
def zi9 (a0:aP) (a1:List aM):Option (List aM):=zaf0 (_root_.SizeOf.sizeOf a0+1) a0 a1
@[reducible,instance] def zdL1 (a90:(aP→List aM→Option (List aM))) (a0:aP) (a1:List aM):=mkJ (zQ5 a90 a0 a1) 0 (@zar6.eq_1) fun (j1:(List aM))=>⟨[(0,.own 1 0 j1.length)],[(1,sx j1)],2⟩
@[reducible,instance] def zdL2 (a90:(aP→List aM→Option (List aM))) (a0:aP) {T:Type} (x:T):=mkL x (@zar7.eq_1 a90 a0) fun (g1:Int×(List aM))=>⟨[(0,.own 1 0 g1.2.length),(22,la a0.bE),(23,.int .i64 (a0.bE.length:Int)),(24,.int .i64 g1.1)],[(1,sx g1.2)],2⟩
abbrev zW2 (g:(aP→List aM→Option (List aM))):Prop:=∀ (a0:aP) (a1:List aM),OkM (g a0 a1) 77 [.own 0 0 a1.length,.agg (aP.enc a0)] [(0,⟨false,3,aM.enc aM.zero,a1.map aM.enc⟩)] 1 (fun r=>.own 1 0 r.length) (fun r=>[(1,⟨false,3,aM.enc aM.zero,r.map aM.enc⟩)]) 2
theorem zaW5 (a90:(aP→List aM→Option (List aM))) (hrc:zW2 a90):zW2 (zQ5 a90):=fun a0 a1=>okm (zQ5.eq_1 a90 a0 a1) (fun r=>[.own 1 0 r.length]) Tryz.f77 [(4,1)]
theorem zaW6:∀ n,zW2 (zaf0 n):=zaP2 (fun _ _=>⟨fun _ h=>nomatch h⟩) fun n=>zaW5 _
instance zcd7:zW2 zi9:=fun a0 a1=>zaW6 _ a0 a1
attribute [local irreducible] zi9
def zf9 (a0 a1:bI):Option Bool :=
 ((if (decide (a0.aJ=a1.aJ)&&decide (a0.gen=a1.gen))=true then zf3 a0.bP a1.bP else some false)).bind fun v1 =>
 some ((decide (a0.aJ=a1.aJ)&&decide (a0.gen=a1.gen))&&v1)
instance zba6 (a0 a1:bI):OkP (zf9 a0 a1) 26 [ga a0,ga a1] (fun r=>.bool r):=ok1 (zf9.eq_1 a0 a1) Tryz.f26 []
attribute [local irreducible] zf9
def zq3 :List ByteArray:=[(⟨#[97]⟩:ByteArray),(⟨#[98]⟩:ByteArray),(⟨#[99]⟩:ByteArray),(⟨#[100]⟩:ByteArray)]
def zam9 (j1:bL×(List aI)):Option ((List aI)×bL) :=
 (zb7 8 j1.1).bind fun v1 =>
 (zb7 4 v1.2).bind fun v2 =>
 gd (j1.2.length+1≤4294967296) <|
 (zb7 3 v2.2).bind fun v3 =>
 (zb7 4 v3.2).bind fun v4 =>
 gd (j1.2.length+1+1≤4294967296) <|
 some (((j1.2++[(⟨(⟨#[112]⟩:ByteArray),2,i64.wrap (1+v1.1),v2.1⟩:aI)])++[(⟨(⟨#[113]⟩:ByteArray),2,i64.wrap (1+v3.1),v4.1⟩:aI)]),v4.2)
def zI0 (g1:Int×bL×(List aI)):Option ((Int×bL×(List aI))⊕(bL×(List aI))) :=
 (if (decide (g1.1 < (zq3.length:Int)))=true then
  gd (0≤g1.1∧g1.1 < (zq3.length:Int)) <|
  (zb7 4 g1.2.1).bind fun v5 =>
  gd (g1.2.2.length+1≤4294967296) <|
  some (.inl ((i64.wrap (g1.1+1)),v5.2,(g1.2.2++[(⟨(zq3.getD g1.1.toNat ⟨#[]⟩),1,1,v5.1⟩:aI)])))
 else
  some (.inr (g1.2.1,g1.2.2)))
def zj5 (a0:bL):Option ((List aI)×bL) :=
 (zb9 zI0 (0,a0,[])).bind (fun z=>zam9 z)
@[reducible,instance] def zdL3 (a0:bL):=mkJ (zj5 a0) 0 (@zam9.eq_1) fun (j1:bL×(List aI))=>⟨[(0,.ptr 0 0 0),(3,.own 1 0 j1.2.length)],[(0,bx j1.1),(1,sx j1.2)],2⟩
@[reducible,instance] def zdL4 {T:Type} (x:T):=mkL x (@zI0.eq_1) fun (g1:Int×bL×(List aI))=>⟨[(0,.ptr 0 0 0),(3,.own 1 0 g1.2.2.length),(4,.full (zq3.map eS)),(5,.int .i64 g1.1)],[(0,bx g1.2.1),(1,sx g1.2.2)],2⟩
instance zcw4 (a0:bL):OkM (zj5 a0) 91 [.ptr 0 0 0] [(0,bx a0)] 1 (fun r=>la r.1) (fun r=>[(0,bx r.2)]) 1:=⟨fun r h=>by
 refine zax1 Tryz.f91 [(3,1)] [la r.1] fun E hG hN hK=>?_
 have hm:Mk (zj5 a0):=trivial
 unfold zj5 at h
 refine za2 (za5 hG ?_)
 refine za2 (za5 hG ?_)
 refine za2 (za5 hG ?_)
 refine g_gh (.cast 4 (.full (zq3.map eS))) ?_
 refine za2 (za2 (za5 hG ?_))
 refine zat9 hm h (fun j1 hm h=>?_) ?_
 · try refine g_st ?_
   refine za2 (za5 hG ?_)
   obtain ⟨v1,hv1,h⟩:=zc7 h
   have hm:=mkP hm v1
   refine zr6 [(0,0)] [] [0] ((zt0 8 j1.1).ok _ hv1) rfl rfl ?_
   obtain ⟨v2,hv2,h⟩:=zc7 h
   have hm:=mkP hm v2
   obtain ⟨hb2,h⟩:=ze1 h
   refine zr6 [(0,0)] [] [0] ((zt0 4 v1.2).ok _ hv2) rfl rfl ?_
   refine za2 (za5 hG ?_)
   obtain ⟨v3,hv3,h⟩:=zc7 h
   have hm:=mkP hm v3
   refine zr6 [(0,0)] [] [0] ((zt0 3 v2.2).ok _ hv3) rfl rfl ?_
   obtain ⟨v4,hv4,h⟩:=zc7 h
   have hm:=mkP hm v4
   obtain ⟨hb1,h⟩:=ze1 h
   refine zr6 [(0,0)] [] [0] ((zt0 4 v3.2).ok _ hv4) rfl rfl ?_
   refine g_gh (.fz [3]) ?_
   exact gogo
 exact gogo⟩
attribute [local irreducible] zj5
def zav1 (j1:bL×aP):Option (aP×bL) :=
 some (j1.2,j1.1)
@[go_sem] def zds4  (j1:bL×aP):St:=⟨[(6,.ptr 1 0 0),(8,.ptr 2 0 0)],[(0,bx j1.1),(1,bx aP.zero),(2,⟨false,5,aP.enc aP.zero,[[.int .i64 j1.2.k,.str j1.2.bF.name,.int .i64 j1.2.bF.aN.mode,.int .i64 j1.2.bF.aN.aR,.own 3 0 j1.2.bE.length]]⟩),(3,sx j1.2.bE)],4⟩
def zaf8 (a90:(List aM→Int→bL→Option (aP×bL))) (a0:List aM) (a1:Int) (v3:Int×bL) (g1:Int×bL×aP):Option ((Int×bL×aP)⊕(bL×aP)) :=
 (if (decide (g1.1 < i64.wrap (1+v3.1)))=true then
  (a90 a0 (i64.wrap (a1 - 1)) g1.2.1).bind fun v5 =>
  gd (g1.2.2.bE.length+1≤4294967296) <|
  some (.inl ((i64.wrap (g1.1+1)),v5.2,(⟨g1.2.2.k,(⟨g1.2.2.bF.name,(⟨g1.2.2.bF.aN.mode,g1.2.2.bF.aN.aR⟩:aD)⟩:aM),(g1.2.2.bE++[v5.1])⟩:aP)))
 else
  some (.inr (g1.2.1,g1.2.2)))
@[go_sem] def zds5 (a0:List aM) (a1:Int) (v3:Int×bL) (g1:Int×bL×aP):St:=⟨[(0,.ptr 0 0 0),(1,la a0),(2,.int .i64 a1),(6,.ptr 1 0 0),(7,.int .i64 (i64.wrap (1+v3.1))),(8,.ptr 2 0 0),(9,.int .i64 g1.1)],[(0,bx g1.2.1),(1,bx aP.zero),(2,⟨false,5,aP.enc aP.zero,[[.int .i64 g1.2.2.k,.str g1.2.2.bF.name,.int .i64 g1.2.2.bF.aN.mode,.int .i64 g1.2.2.bF.aN.aR,.own 3 0 g1.2.2.bE.length]]⟩),(3,sx g1.2.2.bE)],4⟩
def zZ6 (a90:(List aM→Int→bL→Option (aP×bL))) (a0:List aM) (a1:Int) (a2:bL):Option (aP×bL) :=
 ((if (!(decide (a1=0)))=true then zb7 4 a2 else some (0,a2))).bind fun v1 =>
 (if (decide (a1=0)||decide (v1.1=0))=true then
  (zb7 (a0.length:Int) v1.2).bind fun v2 =>
  gd (0≤v2.1∧v2.1 < (a0.length:Int)) <|
  some ({ aP.zero with bF:=(a0.getD v2.1.toNat aM.zero) },v2.2)
 else
  (zb7 3 v1.2).bind fun v3 =>
  (zb7 (i64.wrap (1+v3.1)) v3.2).bind fun v4 =>
  (zb9 (zaf8 a90 a0 a1 v3) (0,v4.2,(⟨(i64.wrap (1+v4.1)),(⟨aM.zero.name,(⟨aM.zero.aN.mode,aM.zero.aN.aR⟩:aD)⟩:aM),[]⟩:aP))).bind (fun z=>zav1 z))
def zP2:Nat→(List aM→Int→bL→Option (aP×bL))
 | 0=>fun _ _ _=>none
 | n+1=>zZ6 (zP2 n)
def zp4 (a0:List aM) (a1:Int) (a2:bL):Option (aP×bL):=zP2 (a1.toNat+1) a0 a1 a2
theorem zbw3 (a90:(List aM→Int→bL→Option (aP×bL))) (hrc:∀ (a0:List aM) (a1:Int) (a2:bL) (r:aP×bL),a90 a0 a1 a2=some r→MFn C 242 [.ptr 0 0 0,la a0,.int .i64 a1] [(0,bx a2)] 1 (ga r.1) [(0,bx r.2)] 1) (a0:List aM) (a1:Int) (a2:bL) (r:aP×bL) (h:zZ6 a90 a0 a1 a2=some r):MFn C 242 [.ptr 0 0 0,la a0,.int .i64 a1] [(0,bx a2)] 1 (ga r.1) [(0,bx r.2)] 1:=by
 refine zax1 Tryz.f242 [(32,18),(8,18)] [ga r.1] fun E hG hN hK=>?_
 unfold zZ6 at h
 refine za2 (za5 hG ?_)
 refine za2 (za2 (za5 hG ?_))
 obtain ⟨v1,hv1,h⟩:=zc7 h
 refine zaQ8 [(0,0)] [0] hv1 (fun hc=>(zt0 4 a2).ok _ hc) rfl ?_
 refine zl4 rfl hG h (fun _ h=>?_) (fun _ h=>?_)
 · refine za2 (za5 hG ?_)
   obtain ⟨v2,hv2,h⟩:=zc7 h
   obtain ⟨hb1,h⟩:=ze1 h
   refine zr6 [(0,0)] [] [0] ((zt0 (a0.length:Int) v1.2).ok _ hv2) rfl rfl ?_
   refine zt4 ?_
   exact zO9 [(0,0)] h
 refine zk1 ?_
 refine za2 (za5 hG ?_)
 obtain ⟨v3,hv3,h⟩:=zc7 h
 refine zr6 [(0,0)] [] [0] ((zt0 3 v1.2).ok _ hv3) rfl rfl ?_
 refine za2 (za5 hG ?_)
 obtain ⟨v4,hv4,h⟩:=zc7 h
 refine zr6 [(0,0)] [] [0] ((zt0 (i64.wrap (1+v3.1)) v3.2).ok _ hv4) rfl rfl ?_
 refine g_gh (.ownb 2 4 5 (aP.enc aP.zero)) ?_
 refine za2 (za2 (za5 hG ?_))
 refine zD0 zds4 (fun v=>zav1 v=some r) ?_ ?_
 · intro j1 h
   unfold zav1 at h
   refine g_st ?_
   refine za2 (za5 hG ?_)
   refine g_gh (.fz [3]) ?_
   refine zt4 ?_
   exact zO9 [(0,0)] h
 refine zY8 (zds5 a0 a1 v3) hK [(0,0),(1,1),(2,2),(3,3)] h (fun x_l1 h g1 y_l1 h_l1 hx_l1=>?_)
 unfold zaf8 at h_l1
 refine g_st ?_
 refine za2 (za2 (za5 hG ?_))
 refine zl4 rfl hG h_l1 (fun _ h_l1=>?_) (fun _ h_l1=>?_)
 · refine zk1 ?_
   refine za2 (zC3 (zam5 zz1 hG ?_))
   obtain ⟨v5,hv5,h_l1⟩:=zc7 h_l1
   obtain ⟨hb2,h_l1⟩:=ze1 h_l1
   refine zbJ9 [(0,0)] [] [0] (hrc a0 (i64.wrap (a1 - 1)) g1.2.1 _ hv5) rfl rfl ?_
   refine za5 hG ?_
   exact zJ0 hK [(0,0),(1,1),(2,2),(3,4)] h_l1
 refine zG4 ?_
 cases h_l1
 cases hx_l1 _ rfl
 exact zA9 hK [(0,0),(1,1),(2,2),(3,3)] (g1.2.1,g1.2.2) (by exact h)
theorem zaR5:∀ (n:Nat) (a0:List aM) (a1:Int) (a2:bL) (r:aP×bL),zP2 n a0 a1 a2=some r→MFn C 242 [.ptr 0 0 0,la a0,.int .i64 a1] [(0,bx a2)] 1 (ga r.1) [(0,bx r.2)] 1
 | 0,_,_,_,_,h=>nomatch h
 | n+1,a0,a1,a2,r,h=>zbw3 (zP2 n) (zaR5 n) a0 a1 a2 r h
instance zcK0 (a0:List aM) (a1:Int) (a2:bL):OkM (zp4 a0 a1 a2) 242 [.ptr 0 0 0,la a0,.int .i64 a1] [(0,bx a2)] 1 (fun r=>ga r.1) (fun r=>[(0,bx r.2)]) 1:=⟨fun r h=>zaR5 _ a0 a1 a2 r h⟩
attribute [local irreducible] zp4
def zaD5 (j1:Unit):Option Bool :=
 some true
def zF2 (a0:ByteArray) (g1:Int):Option (Int⊕(Unit⊕Bool)) :=
 (if (decide (g1 < (a0.size:Int)))=true then
  gd (0≤g1∧g1 < (a0.size:Int)) <|
  (if (!(zB3 ((a0.toList.getD g1.toNat 0).toNat:Int)))=true then
   some (.inr (.inr false))
  else
   some (.inl (i64.wrap (g1+1))))
 else
  some (.inr (.inl ())))
def zg9 (a0:ByteArray):Option Bool :=
 gd ((!(decide ((a0.size:Int) < 1)||decide (12 < (a0.size:Int))))=true→0≤0∧0 < (a0.size:Int)) <|
 (if (((decide ((a0.size:Int) < 1)||decide (12 < (a0.size:Int)))||(!(zN0 ((a0.toList.getD 0 0).toNat:Int))))||zF1 a0)=true then
  some false
 else
  (zb9 (zF2 a0) 0).bind (fun|.inl z=>zaD5 z|.inr z=>some z))
@[reducible,instance] def zdL5 a0:=mkJ (zg9 a0) 0 (@zaD5.eq_1) fun (j1:Unit)=>⟨[],[],0⟩
@[reducible,instance] def zdL6 (a0:ByteArray) {T:Type} (x:T):=mkL x (@zF2.eq_1 a0) fun (g1:Int)=>⟨[(0,.str a0),(3,.int .i64 g1)],[],0⟩
instance zaJ0 (a0:ByteArray):OkP (zg9 a0) 184 [.str a0] (fun r=>.bool r):=ok1 (zg9.eq_1 a0) Tryz.f184 []
attribute [local irreducible] zg9
def zt5 (a0:aI) (a1:aD):Bool :=
 (zG6 a0&&(zk7 a1||zs7 a0 a1))
instance zcw5 (a0:aI) (a1:aD):OkT 239 [.agg (aI.enc a0),.agg (aD.enc a1)] (.bool (zt5 a0 a1)):=ok2 (fun r=>.bool r) (zt5.eq_1 a0 a1) Tryz.f239 []
attribute [local irreducible] zp2 zd0 zb8 zs6 zj0 zn9 zj2
def zad0 (j1:Bool):Option Bool :=
 some j1
@[go_sem] def zdz2  (j1:Bool):St:=⟨[(5,.bool j1)],[],0⟩
def zQ6 (a1:List aD) (g1:Int×Int×(Arr Bool 6)) (j2:Unit):Option ((Int×Int×(Arr Bool 6))⊕Bool) :=
 gd (0≤(a1.getD g1.2.1.toNat aD.zero).mode∧(a1.getD g1.2.1.toNat aD.zero).mode < 6) <|
 some (.inl ((i64.wrap (g1.1+(a1.getD g1.2.1.toNat aD.zero).aR)),i64.wrap (g1.2.1+1),Arr.put g1.2.2 (((a1.getD g1.2.1.toNat aD.zero).mode).toNat) true))
@[go_sem] def zdz3 (a0:aI) (a1:List aD) (g1:Int×Int×(Arr Bool 6)) (j2:Unit):St:=⟨[(2,.ptr 0 0 0),(5,.bool true),(6,.ptr 1 0 0),(7,.int .i64 (i64.wrap (g1.1+(a1.getD g1.2.1.toNat aD.zero).aR))),(9,.ptr 2 0 0),(15,la a1),(16,.int .i64 (a1.length:Int)),(17,.int .i64 g1.2.1)],[(0,bx a0),(1,⟨false,6,Arr.enc eB (Arr.rep 6 false),[Arr.enc eB g1.2.2]⟩),(2,bx (a1.getD g1.2.1.toNat aD.zero))],3⟩
def zB4 (a1:List aD) (g1:Int×Int×(Arr Bool 6)) (g2:Int):Option (Int⊕(Unit⊕Bool)) :=
 (if (decide (g2 < 6))=true then
  gd (0≤g2∧g2 < 6) <|
  ((if (Arr.get g1.2.2 g2.toNat false)=true then zh9 g2 ((a1.getD g1.2.1.toNat aD.zero).mode) else some false)).bind fun v1 =>
  (if (Arr.get g1.2.2 g2.toNat false&&(!v1))=true then
   some (.inr (.inr false))
  else
   some (.inl (i64.wrap (g2+1))))
 else
  some (.inr (.inl ())))
@[go_sem] def zdz4 (a0:aI) (a1:List aD) (g1:Int×Int×(Arr Bool 6)) (g2:Int):St:=⟨[(2,.ptr 0 0 0),(5,.bool true),(6,.ptr 1 0 0),(7,.int .i64 (i64.wrap (g1.1+(a1.getD g1.2.1.toNat aD.zero).aR))),(9,.ptr 2 0 0),(15,la a1),(16,.int .i64 (a1.length:Int)),(17,.int .i64 g1.2.1),(41,.agg (Arr.enc eB g1.2.2)),(42,.int .i64 g2)],[(0,bx a0),(1,⟨false,6,Arr.enc eB (Arr.rep 6 false),[Arr.enc eB g1.2.2]⟩),(2,bx (a1.getD g1.2.1.toNat aD.zero))],3⟩
def zG8 (a0:aI) (a1:List aD) (g1:Int×Int×(Arr Bool 6)):Option ((Int×Int×(Arr Bool 6))⊕Bool) :=
 (if (decide (g1.2.1 < (a1.length:Int)))=true then
  gd (0≤g1.2.1∧g1.2.1 < (a1.length:Int)) <|
  (if ((!(zc2 a0 (a1.getD g1.2.1.toNat aD.zero)))||decide (a0.aR < i64.wrap (g1.1+(a1.getD g1.2.1.toNat aD.zero).aR)))=true then
   some (.inr false)
  else
   (if (decide ((a1.getD g1.2.1.toNat aD.zero).mode=0))=true then
    some (.inl ((i64.wrap (g1.1+(a1.getD g1.2.1.toNat aD.zero).aR)),i64.wrap (g1.2.1+1),g1.2.2))
   else
    (zb9 (zB4 a1 g1) 0).bind (fun|.inl z=>zQ6 a1 g1 z|.inr z=>some (.inr z))))
 else
  some (.inr true))
@[go_sem] def zdz5 (a0:aI) (a1:List aD) (g1:Int×Int×(Arr Bool 6)):St:=⟨[(2,.ptr 0 0 0),(5,.bool true),(6,.ptr 1 0 0),(7,.int .i64 g1.1),(15,la a1),(16,.int .i64 (a1.length:Int)),(17,.int .i64 g1.2.1)],[(0,bx a0),(1,⟨false,6,Arr.enc eB (Arr.rep 6 false),[Arr.enc eB g1.2.2]⟩)],2⟩
def zl2 (a0:aI) (a1:List aD):Option Bool :=
 (if (!(ze9 a0))=true then
  some false
 else
  (zb9 (zG8 a0 a1) (0,0,Arr.rep 6 false)).bind (fun z=>zad0 z))
theorem zbd2 (a0:aI) (a1:List aD) (r:Bool) (h:zl2 a0 a1=some r):PFn C 216 [ga a0,la a1] (.bool r):=by
 refine zY9 Tryz.f216 [] fun E hG hN hK=>?_
 unfold zl2 at h
 refine za2 (za5 hG ?_)
 refine zcT3 ?_
 refine za2 (za2 (za5 hG ?_))
 refine zr9 (fun hg=>(zbv7 a0).ok) ?_
 refine zl4 rfl hG h (fun _ h=>?_) (fun _ h=>?_)
 · refine za2 (za5 hG ?_)
   refine zt4 ?_
   exact zJ4 h
 refine zk1 ?_
 refine za2 (za5 hG ?_)
 refine za2 (za5 hG ?_)
 refine za2 (za5 hG ?_)
 refine za2 ?_
 refine zdk0 ?_
 refine za2 (za2 (za5 hG ?_))
 refine zD0 zdz2 (fun v=>zad0 v=some r) ?_ ?_
 · intro j1 h
   unfold zad0 at h
   refine g_st ?_
   refine za2 (za5 hG ?_)
   refine zt4 ?_
   exact zJ4 h
 refine zY8 (zdz5 a0 a1) hK [(0,0),(1,1)] h (fun x_l1 h g1 y_l1 h_l1 hx_l1=>?_)
 unfold zG8 at h_l1
 refine g_st ?_
 refine za2 (za5 hG ?_)
 refine za2 ?_
 refine zl4 rfl hG h_l1 (fun _ h_l1=>?_) (fun _ h_l1=>?_)
 · refine zk1 ?_
   refine za2 (zC3 (za2 ?_))
   obtain ⟨hb3,h_l1⟩:=ze1 h_l1
   refine za5 hG ?_
   refine za2 (za2 (za5 hG ?_))
   refine zr9 (fun hg=>(zbj0 a0 (a1.getD g1.2.1.toNat aD.zero)).ok) ?_
   refine zl4 rfl hG h_l1 (fun _ h_l1=>?_) (fun _ h_l1=>?_)
   · refine za2 (za5 hG ?_)
     refine zG4 ?_
     cases h_l1
     cases hx_l1 _ rfl
     exact zA9 hK [] false (by exact h)
   refine zk1 ?_
   refine za2 (za5 hG ?_)
   refine za2 (za2 (za5 hG ?_))
   refine zl4 rfl hG h_l1 (fun _ h_l1=>?_) (fun _ h_l1=>?_)
   · refine zG4 ?_
     refine za5 hG ?_
     exact zJ0 hK [(0,0),(1,1)] h_l1
   refine zk1 ?_
   refine za2 (za2 (za5 hG ?_))
   refine zD0 (zdz3 a0 a1 g1) (fun v=>zQ6 a1 g1 v=some y_l1) ?_ ?_
   · intro j2 h_l1
     unfold zQ6 at h_l1
     refine g_st ?_
     obtain ⟨hb1,h_l1⟩:=ze1 h_l1
     refine za5 hG ?_
     refine za5 hG ?_
     exact zJ0 hK [(0,0),(1,1)] h_l1
   refine zY8 (zdz4 a0 a1 g1) hK [(0,0),(1,1),(2,2)] h_l1 (fun x_l2 h_l1 g2 y_l2 h_l2 hx_l2=>?_)
   unfold zB4 at h_l2
   refine g_st ?_
   refine za2 (za5 hG ?_)
   refine za2 ?_
   refine zl4 rfl hG h_l2 (fun _ h_l2=>?_) (fun _ h_l2=>?_)
   · refine zk1 ?_
     refine za2 (zC3 (za2 ?_))
     obtain ⟨hb2,h_l2⟩:=ze1 h_l2
     refine za5 hG ?_
     refine za2 (za5 hG ?_)
     obtain ⟨v1,hv1,h_l2⟩:=zc7 h_l2
     refine zr9 (fun hg=>(zbo0 g2 ((a1.getD g1.2.1.toNat aD.zero).mode)).ok _ (zaN2 hg hv1)) ?_
     refine zl4 rfl hG h_l2 (fun _ h_l2=>?_) (fun _ h_l2=>?_)
     · refine za2 (za5 hG ?_)
       refine zG4 ?_
       obtain rfl:=dZ h_l2
       have hx:=hx_l2 _ rfl
       subst hx
       try dsimp only at h_l1
       cases h_l1
       cases hx_l1 _ rfl
       exact zA9 hK [] false (by exact h)
     refine zk1 ?_
     refine za5 hG ?_
     exact zJ0 hK [(0,0),(1,1),(2,2)] h_l2
   refine zG4 ?_
   obtain rfl:=dZ h_l2
   have hx:=hx_l2 _ rfl
   subst hx
   try dsimp only at h_l1
   exact zA9 hK [(0,0),(1,1),(2,2)] () (by exact h_l1)
 refine zG4 ?_
 cases h_l1
 cases hx_l1 _ rfl
 exact zA9 hK [] true (by exact h)
instance zch9 (a0:aI) (a1:List aD):OkP (zl2 a0 a1) 216 [ga a0,la a1] (fun r=>.bool r):=⟨zbd2 a0 a1⟩
attribute [local irreducible] zl2
def zay5 (j1:(List aK)):Option (List aK) :=
 some j1
def zZ7 (v1:(List aT)) (g1:Int×(List aK)):Option ((Int×(List aK))⊕(List aK)) :=
 (if (decide (g1.1 < (v1.length:Int)))=true then
  gd (0≤g1.1∧g1.1 < (v1.length:Int)) <|
  gd (g1.2.length+1≤4294967296) <|
  some (.inl ((i64.wrap (g1.1+1)),(g1.2++[(v1.getD g1.1.toNat aT.zero).aJ])))
 else
  some (.inr g1.2))
def zs8 (a0:aA):Option (List aK) :=
 (zp3 a0).bind fun v1 =>
 (zb9 (zZ7 v1) (0,[])).bind (fun z=>zay5 z)
@[reducible,instance] def zdL7 a0 {T1:Type} (v1:T1):=mkJ (zs8 a0,v1) 0 (@zay5.eq_1) fun (j1:(List aK))=>⟨[(3,.own 0 0 j1.length)],[(0,sx j1)],1⟩
@[reducible,instance] def zdL8 (v1:(List aT)) {T:Type} (x:T):=mkL x (@zZ7.eq_1 v1) fun (g1:Int×(List aK))=>⟨[(3,.own 0 0 g1.2.length),(7,la v1),(8,.int .i64 (v1.length:Int)),(9,.int .i64 g1.1)],[(0,sx g1.2)],1⟩
instance zcX2 (a0:aA):OkP (zs8 a0) 128 [ga a0] (fun r=>la r):=ok1 (zs8.eq_1 a0) Tryz.f128 [(3,1)]
attribute [local irreducible] zs8
def zaN5 (j1:Unit):Option (aD×Bool) :=
 some ({ aD.zero with  },false)
def zaN6 (a1:aK) (v1:(List aT)) (g1:Int):Option (Int⊕(Unit⊕(aD×Bool))) :=
 (if (decide (g1 < (v1.length:Int)))=true then
  gd (0≤g1∧g1 < (v1.length:Int)) <|
  (if (decide ((v1.getD g1.toNat aT.zero).aJ=a1))=true then
   some (.inr (.inr ((v1.getD g1.toNat aT.zero).aN,true)))
  else
   some (.inl (i64.wrap (g1+1))))
 else
  some (.inr (.inl ())))
def zt1 (a0:aA) (a1:aK):Option (aD×Bool) :=
 (zp3 a0).bind fun v1 =>
 (zb9 (zaN6 a1 v1) 0).bind (fun|.inl z=>zaN5 z|.inr z=>some z)
@[reducible,instance] def zdL9 a0 a1 {T1:Type} (v1:T1):=mkJ (zt1 a0 a1,v1) 0 (@zaN5.eq_1) fun (j1:Unit)=>⟨[(4,.ptr 0 0 0)],[(0,bx aD.zero)],1⟩
@[reducible,instance] def zdM0 (a1:aK) (v1:(List aT)) {T:Type} (x:T):=mkL x (@zaN6.eq_1 a1 v1) fun (g1:Int)=>⟨[(3,.ptr 0 0 0),(4,.ptr 1 0 0),(9,la v1),(10,.int .i64 (v1.length:Int)),(11,.int .i64 g1)],[(0,bx a1),(1,bx aD.zero)],2⟩
instance zcQ8 (a0:aA) (a1:aK):OkP (zt1 a0 a1) 46 [ga a0,ga a1] (fun r=>.tup [ga r.1,.bool r.2]):=ok1 (zt1.eq_1 a0 a1) Tryz.f46 []
attribute [local irreducible] zt1
def zay6 (v1:Int×bL) (j1:(List aM)):Option (aP×bL) :=
 (zp4 j1 2 v1.2).bind fun v2 =>
 some (v2.1,v2.2)
def zak6 (a0:List aI) (v1:Int×bL) (g1:Int×(List aM)):Option ((Int×(List aM))⊕(List aM)) :=
 (if (decide (g1.1 < (a0.length:Int)))=true then
  gd (0≤g1.1∧g1.1 < (a0.length:Int)) <|
  gd (0≤g1.1∧g1.1 < (a0.length:Int)) <|
  gd (0≤u64.wrap (i64.wrap (3 * g1.1))) <|
  (zq0 (a0.getD g1.1.toNat aI.zero) (v1.1.fdiv (2 ^ (Nat.min (u64.wrap (i64.wrap (3 * g1.1))).toNat i64.bits)))).bind fun v3 =>
  gd (g1.2.length+1≤4294967296) <|
  some (.inl ((i64.wrap (g1.1+1)),(g1.2++[(⟨(a0.getD g1.1.toNat aI.zero).name,v3⟩:aM)])))
 else
  some (.inr g1.2))
def zs9 (a0:List aI) (a1:bL):Option (aP×bL) :=
 (zb7 1048576 a1).bind fun v1 =>
 (zb9 (zak6 a0 v1) (0,[])).bind (fun z=>zay6 v1 z)
@[reducible,instance] def zdM1 a0 a1 (v1:Int×bL):=mkJ (zs9 a0 a1,v1) 0 (@zay6.eq_1 v1) fun (j1:(List aM))=>⟨[(0,.ptr 0 0 0),(4,.ptr 1 0 0),(6,.own 2 0 j1.length)],[(0,bx v1.2),(1,bx aP.zero),(2,sx j1)],3⟩
@[reducible,instance] def zdM2 (a0:List aI) (v1:Int×bL) {T:Type} (x:T):=mkL x (@zak6.eq_1 a0 v1) fun (g1:Int×(List aM))=>⟨[(0,.ptr 0 0 0),(1,la a0),(4,.ptr 1 0 0),(5,.int .i64 v1.1),(6,.own 2 0 g1.2.length),(7,.int .i64 g1.1)],[(0,bx v1.2),(1,bx aP.zero),(2,sx g1.2)],3⟩
instance zbD2 (a0:List aI) (a1:bL):OkM (zs9 a0 a1) 201 [.ptr 0 0 0,la a0] [(0,bx a1)] 1 (fun r=>ga r.1) (fun r=>[(0,bx r.2)]) 1:=okm (zs9.eq_1 a0 a1) (fun r=>[ga r.1]) Tryz.f201 [(6,1)]
attribute [local irreducible] zs9
def zax2 (j1:Unit):Option Bool :=
 some true
def zaf1 (g1:Int×Int) (j2:Unit):Option ((Int×Int)⊕(Unit⊕Bool)) :=
 some (.inl (g1.1,i64.wrap (g1.2+1)))
def zC9 (a1:List aD) (g1:Int×Int) (g2:Int):Option (Int⊕(Unit⊕Bool)) :=
 (if (decide (g2 < g1.2))=true then
  gd (0≤g1.2∧g1.2 < (a1.length:Int)) <|
  gd ((!(zk7 (a1.getD g1.2.toNat aD.zero)))=true→0≤g2∧g2 < (a1.length:Int)) <|
  gd (((!(zk7 (a1.getD g1.2.toNat aD.zero)))&&(!(zk7 (a1.getD g2.toNat aD.zero))))=true→0≤g1.2∧g1.2 < (a1.length:Int)) <|
  gd (((!(zk7 (a1.getD g1.2.toNat aD.zero)))&&(!(zk7 (a1.getD g2.toNat aD.zero))))=true→0≤g2∧g2 < (a1.length:Int)) <|
  (if (((!(zk7 (a1.getD g1.2.toNat aD.zero)))&&(!(zk7 (a1.getD g2.toNat aD.zero))))&&(!(zK4 ((a1.getD g1.2.toNat aD.zero).mode) ((a1.getD g2.toNat aD.zero).mode))))=true then
   some (.inr (.inr false))
  else
   some (.inl (i64.wrap (g2+1))))
 else
  some (.inr (.inl ())))
def zz8 (a0:aI) (a1:List aD) (g1:Int×Int):Option ((Int×Int)⊕(Unit⊕Bool)) :=
 (if (decide (g1.2 < (a1.length:Int)))=true then
  gd (0≤g1.2∧g1.2 < (a1.length:Int)) <|
  (if (!(zt5 a0 (a1.getD g1.2.toNat aD.zero)))=true then
   some (.inr (.inr false))
  else
   (if (decide (a0.kind=2))=true then
    gd (0≤g1.2∧g1.2 < (a1.length:Int)) <|
    (if (decide (a0.aR < i64.wrap (g1.1+(a1.getD g1.2.toNat aD.zero).aR)))=true then
     some (.inr (.inr false))
    else
     some (.inl ((i64.wrap (g1.1+(a1.getD g1.2.toNat aD.zero).aR)),i64.wrap (g1.2+1))))
   else
    (zb9 (zC9 a1 g1) 0).bind (fun|.inl z=>zaf1 g1 z|.inr z=>some (.inr (.inr z)))))
 else
  some (.inr (.inl ())))
def zm1 (a0:aI) (a1:List aD):Option Bool :=
 (if (!(zG6 a0))=true then
  some false
 else
  (zb9 (zz8 a0 a1) (0,0)).bind (fun|.inl z=>zax2 z|.inr z=>some z))
@[reducible,instance] def zdM3 a0 a1:=mkJ (zm1 a0 a1) 0 (@zax2.eq_1) fun (j1:Unit)=>⟨[],[],0⟩
@[reducible,instance] def zdM4 (a0:aI) (a1:List aD) (g1:Int×Int):=mkJ (zz8 a0 a1 g1) 2 (@zaf1.eq_1 g1) fun (j2:Unit)=>⟨[(1,la a1),(2,.ptr 0 0 0),(5,.int .i64 g1.1),(6,.int .i64 g1.2)],[(0,bx a0)],1⟩
@[reducible,instance] def zdM5 (a0:aI) (a1:List aD) (g1:Int×Int):=mkL (zz8 a0 a1 g1) (@zC9.eq_1 a1 g1) fun (g2:Int)=>⟨[(1,la a1),(2,.ptr 0 0 0),(5,.int .i64 g1.1),(6,.int .i64 g1.2),(7,.int .i64 g2)],[(0,bx a0)],1⟩
@[reducible,instance] def zdM6 (a0:aI) (a1:List aD) {T:Type} (x:T):=mkL x (@zz8.eq_1 a0 a1) fun (g1:Int×Int)=>⟨[(1,la a1),(2,.ptr 0 0 0),(5,.int .i64 g1.1),(6,.int .i64 g1.2)],[(0,bx a0)],1⟩
instance zct4 (a0:aI) (a1:List aD):OkP (zm1 a0 a1) 277 [ga a0,la a1] (fun r=>.bool r):=ok1 (zm1.eq_1 a0 a1) Tryz.f277 []
attribute [local irreducible] zm1
def zt7 (a0:aA):Option (List aK) :=
 (zh3 a0.aQ).bind fun v1 =>
 (zj6 a0).bind fun v2 =>
 gd (v1.length+v2.length≤4294967296) <|
 (zj0 (v1++v2)).bind fun v3 =>
 some v3
instance zcX3 (a0:aA):OkP (zt7 a0) 131 [ga a0] (fun r=>la r):=ok1 (zt7.eq_1 a0) Tryz.f131 []
attribute [local irreducible] zt7
end
end Ab
end Go.Proofs.YtfkjffmjkbkmhaaGreatDoor
