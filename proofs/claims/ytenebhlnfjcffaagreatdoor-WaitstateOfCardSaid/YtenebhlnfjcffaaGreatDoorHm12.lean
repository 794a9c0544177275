import Derived.Test.YtenebhlnfjcffaaGreatDoorHm8
import Derived.Test.YtenebhlnfjcffaaGreatDoorSort
import Derived.Test.YtenebhlnfjcffaaGreatDoorStr
namespace Go.Proofs.YtenebhlnfjcffaaGreatDoor
namespace Ab
open IntKind (i64 u64 u8)
set_option linter.unusedSimpArgs false
set_option linter.defProp false
set_option linter.unusedVariables false
set_option maxRecDepth 100000
set_option maxHeartbeats 1000000
noncomputable section
attribute [local irreducible] zl1 ze7 zb3 za2 zd2 zj6 zb4 za8 zl5 zg4 zi6 zi7 zk5 zh8 ze1 za5 za9 zf7 zj1 zh5 zj7 zf2 ze3 zp5 zk3 zf6 zf0 zd1 zd7 zc3 za6 zi1 zf8 zl9 zf9 f_ref08_holds ze5 zg0 zl0 zf3 zg5 zf1 zb0 za0 zh0 zl2 zk4 ze4 zb5 zd3 ze6 zg8 zn2 zm1 zd8 zg1 zk6 zj5 zh7 zl3 zd0 zh1 zp9 zc8 zi0 zc5 zi4 zo6 za7 ze2 za4 zj0 zc2 za1 zf4 zi5 ze8 zn7
def ze0 (a0:aC):Option Bool :=
 (zd8 a0.name).bind fun v1 =>
 some (((v1&&zk8 a0)&&decide (0≤a0.home))&&decide (a0.home < 4))
instance zbz8 (a0:aC):OkP (ze0 a0) 203 [ga a0] (fun r=>.bool r):=ok1 (ze0.eq_1 a0) Tryz.f203 []
attribute [local irreducible] ze0
def zg9 (a0:aD):Option Bool :=
 (zd8 a0.name).bind fun v1 =>
 some (v1&&(zb8 ({ aC.zero with kind:=1,aP:=1 }) a0.aI||zb8 ({ aC.zero with kind:=2,aP:=8 }) a0.aI))
instance zaM7 (a0:aD):OkP (zg9 a0) 138 [ga a0] (fun r=>.bool r):=ok1 (zg9.eq_1 a0) Tryz.f138 []
attribute [local irreducible] zg9
def zc7 (a0:Int) (a1:aU):Option (Int×aU) :=
 (zc2 a0 4 a1).bind fun v1 =>
 some (v1.1,v1.2)
instance zC5 (a0:Int) (a1:aU):OkM (zc7 a0 a1) 48 [.ptr 0 0 0,.int .i64 a0] [(0,bx a1)] 1 (fun r=>.int .i64 r.1) (fun r=>[(0,bx r.2)]) 1:=okm (zc7.eq_1 a0 a1) (fun r=>[.int .i64 r.1]) Tryz.f48 []
attribute [local irreducible] zc7
def zd9 (a0:aU):Option (ByteArray×aU) :=
 (if (!decide (a0.bH.err=0))=true then
  some ((⟨#[]⟩:ByteArray),a0)
 else
  (zo6 a0.bH.rest).bind fun v1 =>
  (if (!decide (v1.2.2=0))=true then
   some ((⟨#[]⟩:ByteArray),{ a0 with bH:={ a0.bH with err:=v1.2.2 } })
  else
   gd (0≤v1.2.1∧v1.2.1≤(a0.bH.rest.length:Int)∧(a0.bH.rest.length:Int)≤(a0.bH.rest.length:Int)) <|
   some (v1.1,{ a0 with bH:={ a0.bH with rest:=(a0.bH.rest.drop v1.2.1.toNat) } })))
instance zY6 (a0:aU):OkM (zd9 a0) 96 [.ptr 0 0 0] [(0,bx a0)] 1 (fun r=>.str r.1) (fun r=>[(0,bx r.2)]) 1:=okm (zd9.eq_1 a0) (fun r=>[.str r.1]) Tryz.f96 []
attribute [local irreducible] zd9
theorem zaa5:SlLaysF0.n6 C.P ⟨fun|6=>163|15=>158|14=>228|28=>222|29=>223|20=>269|21=>270|22=>271|23=>272|24=>273|25=>274|26=>275|27=>276|46=>300|47=>264|48=>265|49=>301|50=>302|57=>315|n=>n,fun|22=>94|24=>46|25=>227|39=>209|53=>263|55=>162|46=>256|45=>255|50=>260|66=>291|70=>198|76=>318|77=>206|n=>n,fun n=>n⟩ where
 mixed:=zab9
 f6:=⟨ "slices.SortFunc[[]clusterlocks/api.Atom,clusterlocks/api.Atom]",by decide,Tryz.func163.trans (cW some (by kernel_rfl))⟩
 f14:=⟨ "slices.pdqsortCmpFunc[clusterlocks/api.Atom]",by decide,Tryz.func228.trans (cW some (by kernel_rfl))⟩
 f15:=Tryz.func158.trans (cW some (by kernel_rfl))
 f20:=⟨ "slices.insertionSortCmpFunc[clusterlocks/api.Atom]",by decide,Tryz.func269.trans (cW some (by kernel_rfl))⟩
 f21:=⟨ "slices.heapSortCmpFunc[clusterlocks/api.Atom]",by decide,Tryz.func270.trans (cW some (by kernel_rfl))⟩
 f22:=⟨ "slices.breakPatternsCmpFunc[clusterlocks/api.Atom]",by decide,Tryz.func271.trans (cW some (by kernel_rfl))⟩
 f23:=⟨ "slices.choosePivotCmpFunc[clusterlocks/api.Atom]",by decide,Tryz.func272.trans (cW some (by kernel_rfl))⟩
 f24:=⟨ "slices.reverseRangeCmpFunc[clusterlocks/api.Atom]",by decide,Tryz.func273.trans (cW some (by kernel_rfl))⟩
 f25:=⟨ "slices.partialInsertionSortCmpFunc[clusterlocks/api.Atom]",by decide,Tryz.func274.trans (cW some (by kernel_rfl))⟩
 f26:=⟨ "slices.partitionEqualCmpFunc[clusterlocks/api.Atom]",by decide,Tryz.func275.trans (cW some (by kernel_rfl))⟩
 f27:=⟨ "slices.partitionCmpFunc[clusterlocks/api.Atom]",by decide,Tryz.func276.trans (cW some (by kernel_rfl))⟩
 f28:=Tryz.func222.trans (cW some (by kernel_rfl))
 f29:=Tryz.func223.trans (cW some (by kernel_rfl))
 f46:=⟨ "slices.siftDownCmpFunc[clusterlocks/api.Atom]",by decide,Tryz.func300.trans (cW some (by kernel_rfl))⟩
 f47:=Tryz.func264.trans (cW some (by kernel_rfl))
 f48:=Tryz.func265.trans (cW some (by kernel_rfl))
 f49:=⟨ "slices.medianAdjacentCmpFunc[clusterlocks/api.Atom]",by decide,Tryz.func301.trans (cW some (by kernel_rfl))⟩
 f50:=⟨ "slices.medianCmpFunc[clusterlocks/api.Atom]",by decide,Tryz.func302.trans (cW some (by kernel_rfl))⟩
 f57:=⟨ "slices.order2CmpFunc[clusterlocks/api.Atom]",by decide,Tryz.func315.trans (cW some (by kernel_rfl))⟩
 t0:=Tryz.underlying0
 a0:=Tryz.isAgg0
 z0:=Tryz.sizeOf0
 v0:=Tryz.zeroValue0
 t3:=Tryz.underlying3
 a3:=Tryz.isAgg3
 z3:=Tryz.sizeOf3
 v3:=Tryz.zeroValue3
 t4:=Tryz.underlying4
 a4:=Tryz.isAgg4
 z4:=Tryz.sizeOf4
 v4:=Tryz.zeroValue4
 t5:=Tryz.underlying5
 a5:=Tryz.isAgg5
 z5:=Tryz.sizeOf5
 v5:=Tryz.zeroValue5
 t9:=Tryz.underlying9
 a9:=Tryz.isAgg9
 z9:=Tryz.sizeOf9
 v9:=Tryz.zeroValue9
 t22:=Tryz.underlying94
 a22:=Tryz.isAgg94
 z22:=Tryz.sizeOf94
 v22:=Tryz.zeroValue94
 t25:=Tryz.underlying227
 a25:=Tryz.isAgg227
 z25:=Tryz.sizeOf227
 v25:=Tryz.zeroValue227
 t39:=Tryz.underlying209
 a39:=Tryz.isAgg209
 z39:=Tryz.sizeOf209
 v39:=Tryz.zeroValue209
 t45:=Tryz.underlying255
 a45:=Tryz.isAgg255
 z45:=Tryz.sizeOf255
 v45:=Tryz.zeroValue255
 t46:=Tryz.underlying256
 a46:=Tryz.isAgg256
 z46:=Tryz.sizeOf256
 v46:=Tryz.zeroValue256
 t50:=Tryz.underlying260
 a50:=Tryz.isAgg260
 z50:=Tryz.sizeOf260
 v50:=Tryz.zeroValue260
 t53:=Tryz.underlying263
 a53:=Tryz.isAgg263
 z53:=Tryz.sizeOf263
 v53:=Tryz.zeroValue263
 t55:=Tryz.underlying162
 a55:=Tryz.isAgg162
 z55:=Tryz.sizeOf162
 v55:=Tryz.zeroValue162
 t66:=Tryz.underlying291
 a66:=Tryz.isAgg291
 z66:=Tryz.sizeOf291
 v66:=Tryz.zeroValue291
 t70:=Tryz.underlying198
 a70:=Tryz.isAgg198
 z70:=Tryz.sizeOf198
 v70:=Tryz.zeroValue198
 t76:=Tryz.underlying318
 a76:=Tryz.isAgg318
 z76:=Tryz.sizeOf318
 v76:=Tryz.zeroValue318
 t77:=Tryz.underlying206
 a77:=Tryz.isAgg206
 z77:=Tryz.sizeOf206
 v77:=Tryz.zeroValue206
def zr1 (x y:aD):Int:=Go.Lib.compareBytes x.name.data.toList y.name.data.toList
theorem zZ3 (x y:aD):zi5 x y=some (zr1 x y):=by unfold zi5 zf0; rfl
def zb7 (a0:List aD):Option (List aD):=gd (a0.length≤4294967296∧a0.Pairwise fun x y=>zr1 x y < 0∨zr1 y x < 0) (some (a0.mergeSort fun x y=>!decide (zr1 y x < 0)))
theorem zZ4 (a0 r:List aD) (h:zb7 a0=some r):r.length=a0.length:=by
 obtain ⟨_,h⟩:=zm3 h
 obtain rfl:=dG h
 exact iT _
theorem zZ5 (a0 r:List aD) (h:zb7 a0=some r):MFn C 163 [.own 0 0 a0.length,.clo 164 []] [(0,sx a0)] 1 (.tup []) [(0,sx r)] 1:=by
 obtain ⟨⟨hl,hp⟩,h⟩:=zm3 h
 obtain rfl:=dG h
 exact zbR1 zaa5 aD.enc 3 aD.len (by decide) (fun x=>by first|exact (aD.laws x).1|exact (aD.laws x).2.1) Tryz.isAgg46 Tryz.sizeOf46 zr1 (zcM8 (fun x:aD=>x.name) zcy5) 164 (fun x y=>(zbd3 x y).ok _ (zZ3 x y)) (enters_of Tryz.func164 (by kernel_rfl) rfl) rfl _ a0 hl (zch5 hp)
attribute [local irreducible] zb7
def zy6 (a0:aC) (a1:aA):Bool :=
 (zE6 a0&&(zq2 a1||zs6 a0 a1))
instance zbZ9 (a0:aC) (a1:aA):OkT 142 [.agg (aC.enc a0),.agg (aA.enc a1)] (.bool (zy6 a0 a1)):=ok2 (fun r=>.bool r) (zy6.eq_1 a0 a1) Tryz.f142 []
def zaw2 (a1:aH) (a2:aA) (j1:Bool×(List aT)):Option (List aT) :=
 (if (!j1.1)=true then
  gd (j1.2.length+1≤4294967296) <|
  some (j1.2++[(⟨a1,a2⟩:aT)])
 else
  some j1.2)
def zaa6 (a0:List aT) (a1:aH) (a2:aA) (g1:Bool×Int×(List aT)):Option ((Bool×Int×(List aT))⊕(Bool×(List aT))) :=
 (if (decide (g1.2.1 < (a0.length:Int)))=true then
  gd (0≤g1.2.1∧g1.2.1 < (a0.length:Int)) <|
  (if (decide ((a0.getD g1.2.1.toNat aT.zero).aN=a1))=true then
   some (.inl (g1.1,i64.wrap (g1.2.1+1),g1.2.2))
  else
   gd ((!g1.1)=true→0≤g1.2.1∧g1.2.1 < (a0.length:Int)) <|
   (if ((!g1.1)&&decide (0 < zw1 ((a0.getD g1.2.1.toNat aT.zero).aN) a1))=true then
    gd (g1.2.2.length+1≤4294967296) <|
    gd (0≤g1.2.1∧g1.2.1 < (a0.length:Int)) <|
    gd (g1.2.2.length+1+1≤4294967296) <|
    some (.inl (true,i64.wrap (g1.2.1+1),((g1.2.2++[(⟨a1,a2⟩:aT)])++[(a0.getD g1.2.1.toNat aT.zero)])))
   else
    gd (0≤g1.2.1∧g1.2.1 < (a0.length:Int)) <|
    gd (g1.2.2.length+1≤4294967296) <|
    some (.inl (g1.1,i64.wrap (g1.2.1+1),(g1.2.2++[(a0.getD g1.2.1.toNat aT.zero)])))))
 else
  some (.inr (g1.1,g1.2.2)))
def zr4 (a0:List aT) (a1:aH) (a2:aA):Option (List aT) :=
 (zc6 (zaa6 a0 a1 a2) ((zq2 a2),0,[])).bind (fun z=>zaw2 a1 a2 z)
@[reducible,instance] def zdl1 a0 (a1:aH) (a2:aA):=mkJ (zr4 a0 a1 a2) 0 (@zaw2.eq_1 a1 a2) fun (j1:Bool×(List aT))=>⟨[(4,.ptr 0 0 0),(5,.ptr 1 0 0),(7,.own 2 0 j1.2.length),(8,.bool j1.1)],[(0,bx a1),(1,bx a2),(2,sx j1.2)],3⟩
@[reducible,instance] def zdl2 (a0:List aT) (a1:aH) (a2:aA) {T:Type} (x:T):=mkL x (@zaa6.eq_1 a0 a1 a2) fun (g1:Bool×Int×(List aT))=>⟨[(0,la a0),(4,.ptr 0 0 0),(5,.ptr 1 0 0),(7,.own 2 0 g1.2.2.length),(8,.bool g1.1),(9,.int .i64 g1.2.1)],[(0,bx a1),(1,bx a2),(2,sx g1.2.2)],3⟩
instance zcN0 (a0:List aT) (a1:aH) (a2:aA):OkP (zr4 a0 a1 a2) 309 [la a0,ga a1,ga a2] (fun r=>la r):=ok1 (zr4.eq_1 a0 a1 a2) Tryz.f309 [(7,1)]
attribute [local irreducible] zr4
def zar0 (j1:(List aH)):Option (List aH) :=
 some j1
def zaa7 (g1:Int×(List aH)) (j2:(List aH)):Option ((Int×(List aH))⊕(List aH)) :=
 some (.inl ((i64.wrap (g1.1+1)),j2))
def zJ2 (g2:Int×(List aH)):Option ((Int×(List aH))⊕(List aH)) :=
 gd (decide (0 < g2.1)=true→0≤i64.wrap (g2.1 - 1)∧i64.wrap (g2.1 - 1) < ((g2.2.length:Nat):Int)) <|
 gd (decide (0 < g2.1)=true→0≤g2.1∧g2.1 < ((g2.2.length:Nat):Int)) <|
 (if (decide (0 < g2.1)&&decide (0 < zw1 (g2.2.getD ((i64.wrap (g2.1 - 1)).toNat) aH.zero) (g2.2.getD g2.1.toNat aH.zero)))=true then
  gd (0≤i64.wrap (g2.1 - 1)∧i64.wrap (g2.1 - 1) < ((g2.2.length:Nat):Int)) <|
  gd (0≤g2.1∧g2.1 < ((g2.2.length:Nat):Int)) <|
  gd (0≤i64.wrap (g2.1 - 1)∧i64.wrap (g2.1 - 1) < ((g2.2.length:Nat):Int)) <|
  gd (0≤g2.1∧g2.1 < ((g2.2.length:Nat):Int)) <|
  some (.inl ((i64.wrap (g2.1 - 1)),(g2.2.set ((i64.wrap (g2.1 - 1)).toNat) (g2.2.getD g2.1.toNat aH.zero)).set g2.1.toNat (g2.2.getD ((i64.wrap (g2.1 - 1)).toNat) aH.zero)))
 else
  some (.inr g2.2))
def zz4 (a0:List aH) (g1:Int×(List aH)):Option ((Int×(List aH))⊕(List aH)) :=
 (if (decide (g1.1 < (a0.length:Int)))=true then
  gd (0≤g1.1∧g1.1 < (a0.length:Int)) <|
  (zf8 g1.2 (a0.getD g1.1.toNat aH.zero)).bind fun v1 =>
  (if v1=true then
   some (.inl ((i64.wrap (g1.1+1)),g1.2))
  else
   gd (0≤g1.1∧g1.1 < (a0.length:Int)) <|
   gd (g1.2.length+1≤4294967296) <|
   (zc6 zJ2 (((g1.2.length:Nat):Int),(g1.2++[(a0.getD g1.1.toNat aH.zero)]))).bind (fun z=>zaa7 g1 z))
 else
  some (.inr g1.2))
def zh6 (a0:List aH):Option (List aH) :=
 (zc6 (zz4 a0) (0,[])).bind (fun z=>zar0 z)
@[reducible,instance] def zdl3 a0:=mkJ (zh6 a0) 0 (@zar0.eq_1) fun (j1:(List aH))=>⟨[(3,.own 0 0 j1.length)],[(0,sx j1)],1⟩
@[reducible,instance] def zdl4 (a0:List aH) (g1:Int×(List aH)) {T1:Type} (v1:T1):=mkJ (zz4 a0 g1,v1) 2 (@zaa7.eq_1 g1) fun (j2:(List aH))=>⟨[(0,la a0),(3,.own 0 0 j2.length),(4,.int .i64 g1.1)],[(0,sx j2)],1⟩
@[reducible,instance] def zdl5 (a0:List aH) (g1:Int×(List aH)) {T1:Type} (v1:T1):=mkL (zz4 a0 g1,v1) (@zJ2.eq_1) fun (g2:Int×(List aH))=>⟨[(0,la a0),(3,.own 0 0 g2.2.length),(4,.int .i64 g1.1),(5,.int .i64 g2.1)],[(0,sx g2.2)],1⟩
@[reducible,instance] def zdl6 (a0:List aH) {T:Type} (x:T):=mkL x (@zz4.eq_1 a0) fun (g1:Int×(List aH))=>⟨[(0,la a0),(3,.own 0 0 g1.2.length),(4,.int .i64 g1.1)],[(0,sx g1.2)],1⟩
instance zca0 (a0:List aH):OkP (zh6 a0) 116 [la a0] (fun r=>la r):=ok1 (zh6.eq_1 a0) Tryz.f116 [(3,1)]
attribute [local irreducible] zh6
def zat4 (j1:(List aD)):Option (List aD) :=
 some j1
def zR8 (a0:List aF) (a1:aH) (g1:Int×(List aD)):Option ((Int×(List aD))⊕(List aD)) :=
 (if (decide (g1.1 < (a0.length:Int)))=true then
  gd (0≤g1.1∧g1.1 < (a0.length:Int)) <|
  (zn2 (a0.getD g1.1.toNat aF.zero) a1).bind fun v1 =>
  (if (!(zq2 v1))=true then
   gd (0≤g1.1∧g1.1 < (a0.length:Int)) <|
   gd (g1.2.length+1≤4294967296) <|
   some (.inl ((i64.wrap (g1.1+1)),(g1.2++[(⟨((a0.getD g1.1.toNat aF.zero).aB).name,v1⟩:aD)])))
  else
   some (.inl ((i64.wrap (g1.1+1)),g1.2)))
 else
  some (.inr g1.2))
def zj3 (a0:List aF) (a1:aH):Option (List aD) :=
 (zc6 (zR8 a0 a1) (0,[])).bind (fun z=>zat4 z)
@[reducible,instance] def zdl7 a0 a1:=mkJ (zj3 a0 a1) 0 (@zat4.eq_1) fun (j1:(List aD))=>⟨[(5,.own 0 0 j1.length)],[(0,sx j1)],1⟩
@[reducible,instance] def zdl8 (a0:List aF) (a1:aH) {T:Type} (x:T):=mkL x (@zR8.eq_1 a0 a1) fun (g1:Int×(List aD))=>⟨[(0,la a0),(3,.ptr 0 0 0),(5,.own 1 0 g1.2.length),(6,.int .i64 g1.1)],[(0,bx a1),(1,sx g1.2)],2⟩
instance zci1 (a0:List aF) (a1:aH):OkP (zj3 a0 a1) 123 [la a0,ga a1] (fun r=>la r):=ok1 (zj3.eq_1 a0 a1) Tryz.f123 [(5,1)]
attribute [local irreducible] zj3
def zas4 (j1:Unit):Option Bool :=
 some true
def zP5 (a0 a1:List aF) (g1:Int):Option (Int⊕(Unit⊕Bool)) :=
 (if (decide (g1 < (a0.length:Int)))=true then
  gd (0≤g1∧g1 < (a0.length:Int)) <|
  gd (0≤g1∧g1 < (a1.length:Int)) <|
  (zn7 (a0.getD g1.toNat aF.zero) (a1.getD g1.toNat aF.zero)).bind fun v1 =>
  (if (!v1)=true then
   some (.inr (.inr false))
  else
   some (.inl (i64.wrap (g1+1))))
 else
  some (.inr (.inl ())))
def zp3 (a0 a1:List aF):Option Bool :=
 (if (!decide ((a0.length:Int)=(a1.length:Int)))=true then
  some false
 else
  (zc6 (zP5 a0 a1) 0).bind (fun|.inl z=>zas4 z|.inr z=>some z))
@[reducible,instance] def zdl9 a0 a1:=mkJ (zp3 a0 a1) 0 (@zas4.eq_1) fun (j1:Unit)=>⟨[],[],0⟩
@[reducible,instance] def zdm0 (a0 a1:List aF) {T:Type} (x:T):=mkL x (@zP5.eq_1 a0 a1) fun (g1:Int)=>⟨[(0,la a0),(1,la a1),(5,.int .i64 g1)],[],0⟩
instance zcI5 (a0 a1:List aF):OkP (zp3 a0 a1) 22 [la a0,la a1] (fun r=>.bool r):=ok1 (zp3.eq_1 a0 a1) Tryz.f22 []
attribute [local irreducible] zp3
def zs7 (a0:aR):Bool :=
 (((((zc9 a0.aN&&(zb8 ({ aC.zero with kind:=1,aP:=1 }) a0.aI||zb8 ({ aC.zero with kind:=2,aP:=8 }) a0.aI))&&decide (0≤a0.aW))&&decide (a0.aW≤7))&&decide (0≤a0.bO))&&decide (a0.bO≤3))
instance zci2 (a0:aR):OkT 298 [.agg (aR.enc a0)] (.bool (zs7 a0)):=ok2 (fun r=>.bool r) (zs7.eq_1 a0) Tryz.f298 []
def zo0 (a0:aF):Option (List aR) :=
 (zb5 [a0.aL,a0.aS]).bind fun v1 =>
 some v1
instance zcz3 (a0:aF):OkP (zo0 a0) 86 [ga a0] (fun r=>la r):=ok1 (zo0.eq_1 a0) Tryz.f86 []
attribute [local irreducible] zo0
def zb9 (a0:aU):Option (Int×aU) :=
 (zc2 1073741824 16 a0).bind fun v1 =>
 some (v1.1,v1.2)
instance zx1 (a0:aU):OkM (zb9 a0) 51 [.ptr 0 0 0] [(0,bx a0)] 1 (fun r=>.int .i64 r.1) (fun r=>[(0,bx r.2)]) 1:=okm (zb9.eq_1 a0) (fun r=>[.int .i64 r.1]) Tryz.f51 []
attribute [local irreducible] zb9
def zm6 (a0 a1:aA):Option Bool :=
 (if ((!(zX5 a1))||decide (a0=a1))=true then
  some false
 else
  (if (decide (a0={ aA.zero with  }))=true then
   some true
  else
   (if (!(zX5 a0))=true then
    some false
   else
    (if ((!decide (a0.mode=0))||(!decide (a1.mode=0)))=true then
     ((if ((!decide (a0.mode=0))&&(!decide (a1.mode=0)))=true then zj5 a1.mode a0.mode else some false)).bind fun v1 =>
     some (((!decide (a0.mode=0))&&(!decide (a1.mode=0)))&&v1)
    else
     some (decide (a0.aP < a1.aP))))))
instance zcs3 (a0 a1:aA):OkP (zm6 a0 a1) 160 [ga a0,ga a1] (fun r=>.bool r):=ok1 (zm6.eq_1 a0 a1) Tryz.f160 []
attribute [local irreducible] zm6
def zat5 (a0:aG) (j1:Int):Option Bool :=
 some (decide (a0.k≤j1))
def zR9 (a90:(aG→bN→Option Bool)) (a0:aG) (a1:bN) (g1:Int×Int):Option ((Int×Int)⊕Int) :=
 (if (decide (g1.2 < (a0.aV.length:Int)))=true then
  gd (0≤g1.2∧g1.2 < (a0.aV.length:Int)) <|
  (a90 (a0.aV.getD g1.2.toNat aG.zero) a1).bind fun v2 =>
  (if v2=true then
   some (.inl ((i64.wrap (g1.1+1)),i64.wrap (g1.2+1)))
  else
   some (.inl (g1.1,i64.wrap (g1.2+1))))
 else
  some (.inr g1.1))
def zH1 (a90:(aG→bN→Option Bool)) (a0:aG) (a1:bN):Option Bool :=
 (if (decide ((a0.aV.length:Int)=0))=true then
  (ze6 a1 a0.aZ).bind fun v1 =>
  some v1
 else
  (zc6 (zR9 a90 a0 a1) (0,0)).bind (fun z=>zat5 a0 z))
def zK5:Nat→(aG→bN→Option Bool)
 | 0=>fun _ _=>none
 | n+1=>zH1 (zK5 n)
def zk9 (a0:aG) (a1:bN):Option Bool:=zK5 (_root_.SizeOf.sizeOf a0+1) a0 a1
@[reducible,instance] def zdm1 (a90:(aG→bN→Option Bool)) (a0:aG) (a1:bN):=mkJ (zH1 a90 a0 a1) 0 (@zat5.eq_1 a0) fun (j1:Int)=>⟨[(2,.ptr 0 0 0),(5,.int .i64 j1)],[(0,bx a0)],1⟩
@[reducible,instance] def zdm2 (a90:(aG→bN→Option Bool)) (a0:aG) (a1:bN) {T:Type} (x:T):=mkL x (@zR9.eq_1 a90 a0 a1) fun (g1:Int×Int)=>⟨[(1,.bnd 280 (bN.enc a1)),(2,.ptr 0 0 0),(5,.int .i64 g1.1),(17,la a0.aV),(18,.int .i64 (a0.aV.length:Int)),(19,.int .i64 g1.2)],[(0,bx a0)],1⟩
abbrev zac5 (g:(aG→bN→Option Bool)):Prop:=∀ (a0:aG) (a1:bN),OkM (g a0 a1) 281 [.agg (aG.enc a0),.bnd 280 (bN.enc a1)] [] 0 (fun r=>.bool r) (fun r=>[]) 0
theorem zaV7 (a90:(aG→bN→Option Bool)) (hrc:zac5 a90):zac5 (zH1 a90):=fun a0 a1=>okm (zH1.eq_1 a90 a0 a1) (fun r=>[.bool r]) Tryz.f281 [(15,2)]
theorem zaV8:∀ n,zac5 (zK5 n):=zav6 (fun _ _=>⟨fun _ h=>nomatch h⟩) fun n=>zaV7 _
instance zca1:zac5 zk9:=fun a0 a1=>zaV8 _ a0 a1
attribute [local irreducible] zk9
def zat6 (j1:(List aD)):Option (List aD) :=
 some j1
def zS0 (a0:List aF) (a1:aH) (g1:Int×(List aD)):Option ((Int×(List aD))⊕(List aD)) :=
 (if (decide (g1.1 < (a0.length:Int)))=true then
  gd (0≤g1.1∧g1.1 < (a0.length:Int)) <|
  (zk6 (a0.getD g1.1.toNat aF.zero) a1).bind fun v1 =>
  (if (!decide (v1={ aA.zero with  }))=true then
   gd (g1.2.length+1≤4294967296) <|
   some (.inl ((i64.wrap (g1.1+1)),(g1.2++[(⟨((a0.getD g1.1.toNat aF.zero).aB).name,v1⟩:aD)])))
  else
   some (.inl ((i64.wrap (g1.1+1)),g1.2)))
 else
  some (.inr g1.2))
def zi3 (a0:List aF) (a1:aH):Option (List aD) :=
 (zc6 (zS0 a0 a1) (0,[])).bind (fun z=>zat6 z)
@[reducible,instance] def zdm3 a0 a1:=mkJ (zi3 a0 a1) 0 (@zat6.eq_1) fun (j1:(List aD))=>⟨[(5,.own 0 0 j1.length)],[(0,sx j1)],1⟩
@[reducible,instance] def zdm4 (a0:List aF) (a1:aH) {T:Type} (x:T):=mkL x (@zS0.eq_1 a0 a1) fun (g1:Int×(List aD))=>⟨[(3,.ptr 0 0 0),(5,.own 1 0 g1.2.length),(9,la a0),(10,.int .i64 (a0.length:Int)),(11,.int .i64 g1.1)],[(0,bx a1),(1,sx g1.2)],2⟩
instance zci3 (a0:List aF) (a1:aH):OkP (zi3 a0 a1) 176 [la a0,ga a1] (fun r=>la r):=ok1 (zi3.eq_1 a0 a1) Tryz.f176 [(5,1)]
attribute [local irreducible] zi3
def zar1 (j1:Unit):Option Bool :=
 some true
def zD7 (a0:ByteArray) (g1:Int):Option (Int⊕(Unit⊕Bool)) :=
 (if (decide (g1 < (a0.size:Int)))=true then
  gd (0≤g1∧g1 < (a0.size:Int)) <|
  (if (!(zA3 ((a0.toList.getD g1.toNat 0).toNat:Int)))=true then
   some (.inr (.inr false))
  else
   some (.inl (i64.wrap (g1+1))))
 else
  some (.inr (.inl ())))
def zg2 (a0:ByteArray):Option Bool :=
 gd ((!(decide ((a0.size:Int) < 1)||decide (12 < (a0.size:Int))))=true→0≤0∧0 < (a0.size:Int)) <|
 (if (((decide ((a0.size:Int) < 1)||decide (12 < (a0.size:Int)))||(!(zJ1 ((a0.toList.getD 0 0).toNat:Int))))||zD6 a0)=true then
  some false
 else
  (zc6 (zD7 a0) 0).bind (fun|.inl z=>zar1 z|.inr z=>some z))
@[reducible,instance] def zdm5 a0:=mkJ (zg2 a0) 0 (@zar1.eq_1) fun (j1:Unit)=>⟨[],[],0⟩
@[reducible,instance] def zdm6 (a0:ByteArray) {T:Type} (x:T):=mkL x (@zD7.eq_1 a0) fun (g1:Int)=>⟨[(0,.str a0),(3,.int .i64 g1)],[],0⟩
instance zaw3 (a0:ByteArray):OkP (zg2 a0) 147 [.str a0] (fun r=>.bool r):=ok1 (zg2.eq_1 a0) Tryz.f147 []
attribute [local irreducible] zg2
@[go_sem] def zdm7  (j1:Tape×aG):St:=⟨[(6,.ptr 1 0 0),(8,.ptr 2 0 0)],[(0,bx j1.1),(1,bx aG.zero),(2,⟨false,5,aG.enc aG.zero,[[.int .i64 j1.2.k,.str j1.2.aZ.name,.int .i64 j1.2.aZ.aI.mode,.int .i64 j1.2.aZ.aI.aP,.own 3 0 j1.2.aV.length]]⟩),(3,sx j1.2.aV)],4⟩
@[go_sem] def zdm8 (a0:List aD) (a1:Int) (v3:Int×Tape) (g1:Int×Tape×aG):St:=⟨[(0,.ptr 0 0 0),(1,la a0),(2,.int .i64 a1),(6,.ptr 1 0 0),(7,.int .i64 (i64.wrap (1+v3.1))),(8,.ptr 2 0 0),(9,.int .i64 g1.1)],[(0,bx g1.2.1),(1,bx aG.zero),(2,⟨false,5,aG.enc aG.zero,[[.int .i64 g1.2.2.k,.str g1.2.2.aZ.name,.int .i64 g1.2.2.aZ.aI.mode,.int .i64 g1.2.2.aZ.aI.aP,.own 3 0 g1.2.2.aV.length]]⟩),(3,sx g1.2.2.aV)],4⟩
def zd5 (a0:aC) (a1:aA):Bool :=
 (zk8 a0&&(zk2 a1||zb8 a0 a1))
instance zaR7 (a0:aC) (a1:aA):OkT 282 [.agg (aC.enc a0),.agg (aA.enc a1)] (.bool (zd5 a0 a1)):=ok2 (fun r=>.bool r) (zd5.eq_1 a0 a1) Tryz.f282 []
def ltS (x y:aH):Prop:=x.site < y.site∨x.site=y.site∧(x.inc < y.inc∨x.inc=y.inc∧x.num < y.num)
instance (x y:aH):Decidable (ltS x y):=by unfold ltS; infer_instance
def cmpS (x y:aH):Int:=if ltS x y then -1 else if ltS y x then 1 else 0
theorem zaD9 (x y:aH):ltOf cmpS x y=decide (ltS x y):=by
 unfold ltOf cmpS
 by_cases h:ltS x y
 · simp [h]
 · by_cases h2:ltS y x <;> simp [h,h2]
theorem zcz4:Go.Sort.SWO (ltOf cmpS) where
 irrefl x:=by rw [zaD9]; simp [ltS]
 trans x y z h1 h2:=by
  rw [zaD9,bV] at *; unfold ltS at *; omega
 ntrans x y z h1 h2:=by
  rw [zaD9,cG] at *; unfold ltS at *; omega
theorem zca2 (x y:aH) (h1:ltOf cmpS x y=false) (h2:ltOf cmpS y x=false):x=y:=by
 rw [zaD9,cG] at *; unfold ltS at *; rw [aH.ext_iff]; omega
theorem zcN1 (p q:aH):zc8 p q=some (cmpS p q):=by
 unfold zc8 zg0
 have e:∀ (x y z:Int) (i:Nat) (h:[x,y,z].length=3),Arr.get (⟨[x,y,z],h⟩:Arr Int 3) i 0=match i with|0=>x|1=>y|_=>z:=by
  intro x y z i h
  match i with
  | 0=>rfl
  | 1=>rfl
  | 2=>rfl
  | n+3 =>
    have:¬ (n+3 < 3):=by omega
    simp [Arr.get,zG0,this]
 have w1:i64.wrap (0+1)=1:=by decide
 have w2:i64.wrap (1+1)=2:=by decide
 have w3:i64.wrap (2+1)=3:=by decide
 have s3:zn6 ⟨[p.site,p.inc,p.num],rfl⟩ ⟨[q.site,q.inc,q.num],rfl⟩ 3=some (.inr (.inl ())):=by unfold zn6; simp
 have s2:zn6 ⟨[p.site,p.inc,p.num],rfl⟩ ⟨[q.site,q.inc,q.num],rfl⟩ 2=some (if p.num < q.num then .inr (.inr (-1)) else if q.num < p.num then .inr (.inr 1) else .inl 3):=by
  unfold zn6
  rw [bY (by decide),zn3 (by decide),zn3 (by decide),zn3 (by decide)]
  simp only [e,show (2:Int).toNat=2 from rfl,bV,w3]
  by_cases h:p.num < q.num
  · simp [h]
  · by_cases h2:q.num < p.num <;> simp [h,h2]
 have s1:zn6 ⟨[p.site,p.inc,p.num],rfl⟩ ⟨[q.site,q.inc,q.num],rfl⟩ 1=some (if p.inc < q.inc then .inr (.inr (-1)) else if q.inc < p.inc then .inr (.inr 1) else .inl 2):=by
  unfold zn6
  rw [bY (by decide),zn3 (by decide),zn3 (by decide),zn3 (by decide)]
  simp only [e,show (1:Int).toNat=1 from rfl,bV,w2]
  by_cases h:p.inc < q.inc
  · simp [h]
  · by_cases h2:q.inc < p.inc <;> simp [h,h2]
 have s0:zn6 ⟨[p.site,p.inc,p.num],rfl⟩ ⟨[q.site,q.inc,q.num],rfl⟩ 0=some (if p.site < q.site then .inr (.inr (-1)) else if q.site < p.site then .inr (.inr 1) else .inl 1):=by
  unfold zn6
  rw [bY (by decide),zn3 (by decide),zn3 (by decide),zn3 (by decide)]
  simp only [e,show (0:Int).toNat=0 from rfl,bV,w1]
  by_cases h:p.site < q.site
  · simp [h]
  · by_cases h2:q.site < p.site <;> simp [h,h2]
 unfold cmpS ltS
 by_cases a1:p.site < q.site
 · rw [zq6,s0]; simp [a1]
 · by_cases a2:q.site < p.site
   · rw [zq6,s0]
     have:¬ p.site=q.site:=by omega
     simp [a1,a2,this]
   · have h1:p.site=q.site:=by omega
     by_cases b1:p.inc < q.inc
     · rw [zq6,s0]; simp only [a1,a2,cA]; rw [zq6,s1]; simp [b1,h1]
     · by_cases b2:q.inc < p.inc
       · have:¬ p.inc=q.inc:=by omega
         rw [zq6,s0]; simp only [a1,a2,cA]; rw [zq6,s1]; simp [b1,b2,h1,this]
       · have h2:p.inc=q.inc:=by omega
         rw [zq6,s0]; simp only [a1,a2,cA]; rw [zq6,s1]; simp only [b1,b2,cA]; rw [zq6,s2]
         by_cases c1:p.num < q.num
         · simp [c1,h1,h2]
         · by_cases c2:q.num < p.num
           · simp [c1,c2,h1,h2]
           · simp only [c1,c2,cA]; rw [zq6,s3]; simp [h1,h2,zW1]
def zaw4 (j1:(List Int)):Option (List Int) :=
 some j1
def zaw5 (a1:aH) (g1:(List Int)×Int):Option (((List Int)×Int)⊕(List Int)) :=
 (if (decide (g1.2 < 3))=true then
  gd (0≤g1.2∧g1.2 < 3) <|
  (zg5 g1.1 (u64.wrap (Arr.get (⟨[a1.site,a1.inc,a1.num],rfl⟩:Arr Int 3) g1.2.toNat 0))).bind fun v1 =>
  some (.inl (v1,i64.wrap (g1.2+1)))
 else
  some (.inr g1.1))
def zj4 (a0:List Int) (a1:aH):Option (List Int) :=
 gd (a0.length≤4294967296) <|
 (if (!(zc9 a1))=true then
  some a0
 else
  (zc6 (zaw5 a1) (a0,0)).bind (fun z=>zaw4 z))
@[reducible,instance] def zdm9 (a0:List Int) (a1:aH):=mkJ (zj4 a0 a1) 0 (@zaw4.eq_1) fun (j1:(List Int))=>⟨[(5,.sl (j1.map (eI .u8)))],[],0⟩
@[reducible,instance] def zdn0 (a1:aH) {T:Type} (x:T):=mkL x (@zaw5.eq_1 a1) fun (g1:(List Int)×Int)=>⟨[(5,.sl (g1.1.map (eI .u8))),(20,.agg (Arr.enc (eI .i64) (⟨[a1.site,a1.inc,a1.num],rfl⟩:Arr Int 3))),(21,.int .i64 g1.2)],[],0⟩
instance zcm5 (a0:List Int) (a1:aH):OkP (zj4 a0 a1) 47 [.sl (a0.map (eI .u8)),ga a1] (fun r=>.sl (r.map (eI .u8))):=⟨fun r h=>by
 refine zae3 Tryz.f47 [] fun E hG hN hK=>?_
 have hm:Mk (zj4 a0 a1):=trivial
 unfold zj4 at h
 refine zb2 (zc0 hG ?_)
 refine zb2 ?_
 obtain ⟨hb2,h⟩:=zm3 h
 refine zc0 hG ?_
 refine g_gh (.fz [1]) ?_
 exact gogo⟩
attribute [local irreducible] zj4
def zak2 (j1:(List Int)):Option (List Int) :=
 some j1
def zak3 (a90:(List Int→aG→Option (List Int))) (a1:aG) (g1:(List Int)×Int):Option (((List Int)×Int)⊕(List Int)) :=
 (if (decide (g1.2 < (a1.aV.length:Int)))=true then
  gd (0≤g1.2∧g1.2 < (a1.aV.length:Int)) <|
  (a90 g1.1 (a1.aV.getD g1.2.toNat aG.zero)).bind fun v5 =>
  some (.inl (v5,i64.wrap (g1.2+1)))
 else
  some (.inr g1.1))
def zP2 (a90:(List Int→aG→Option (List Int))) (a0:List Int) (a1:aG):Option (List Int) :=
 (zc5 a0 [a1.k]).bind fun v1 =>
 (if (decide (a1.k=0))=true then
  (zi4 v1 a1.aZ.name).bind fun v2 =>
  (zc5 v2 [a1.aZ.aI.mode,a1.aZ.aI.aP]).bind fun v3 =>
  some v3
 else
  (zc5 v1 [(a1.aV.length:Int)]).bind fun v4 =>
  (zc6 (zak3 a90 a1) (v4,0)).bind (fun z=>zak2 z))
def zaa8:Nat→(List Int→aG→Option (List Int))
 | 0=>fun _ _=>none
 | n+1=>zP2 (zaa8 n)
def zi8 (a0:List Int) (a1:aG):Option (List Int):=zaa8 (_root_.SizeOf.sizeOf a1+1) a0 a1
@[reducible,instance] def zdn1 (a90:(List Int→aG→Option (List Int))) (a0:List Int) (a1:aG) {T1:Type} (v1:T1) {T2:Type} (v4:T2):=mkJ ((zP2 a90 a0 a1,v1),v4) 0 (@zak2.eq_1) fun (j1:(List Int))=>⟨[(0,.sl (j1.map (eI .u8)))],[],0⟩
@[reducible,instance] def zdn2 (a90:(List Int→aG→Option (List Int))) (a1:aG) {T:Type} (x:T):=mkL x (@zak3.eq_1 a90 a1) fun (g1:(List Int)×Int)=>⟨[(0,.sl (g1.1.map (eI .u8))),(37,la a1.aV),(38,.int .i64 (a1.aV.length:Int)),(39,.int .i64 g1.2)],[],0⟩
abbrev zS1 (g:(List Int→aG→Option (List Int))):Prop:=∀ (a0:List Int) (a1:aG),OkP (g a0 a1) 46 [.sl (a0.map (eI .u8)),.agg (aG.enc a1)] (fun r=>.sl (r.map (eI .u8)))
theorem zaK5 (a90:(List Int→aG→Option (List Int))) (hrc:zS1 a90):zS1 (zP2 a90):=fun a0 a1=>ok1 (zP2.eq_1 a90 a0 a1) Tryz.f46 []
theorem zaK6:∀ n,zS1 (zaa8 n):=zav6 (fun _ _=>⟨fun _ h=>nomatch h⟩) fun n=>zaK5 _
instance zbR9:zS1 zi8:=fun a0 a1=>zaK6 _ a0 a1
attribute [local irreducible] zi8
def zh2 (a0 a1:bK):Option Bool :=
 ((if (decide (a0.aN=a1.aN)&&decide (a0.gen=a1.gen))=true then zf4 a0.bL a1.bL else some false)).bind fun v1 =>
 some ((decide (a0.aN=a1.aN)&&decide (a0.gen=a1.gen))&&v1)
instance zbM4 (a0 a1:bK):OkP (zh2 a0 a1) 56 [ga a0,ga a1] (fun r=>.bool r):=ok1 (zh2.eq_1 a0 a1) Tryz.f56 []
attribute [local irreducible] zh2
def zh4 (a0:aO) (a1:aH):Option (Bool×aH) :=
 (zc8 a0.aN a1).bind fun v1 =>
 some ((decide (v1=0)),a1)
instance zbM5 (a0:aO) (a1:aH):OkM (zh4 a0 a1) 113 [ga a0,.ptr 0 0 0] [(0,bx a1)] 1 (fun r=>.bool r.1) (fun r=>[(0,bx r.2)]) 1:=okm (zh4.eq_1 a0 a1) (fun r=>[.bool r.1]) Tryz.f113 []
attribute [local irreducible] zh4
def zE2 (a0 a1:aA):Bool :=
 (if ((!(zq0 a1))||decide (a0=a1))=true then
  false
 else
  (if (decide (a0={ aA.zero with  }))=true then
   true
  else
   (if (!(zq0 a0))=true then
    false
   else
    (if (!decide (a0.mode=0))=true then
     (zC3 a1.mode a0.mode)
    else
     (decide (a0.aP < a1.aP))))))
instance zcz5 (a0 a1:aA):OkT 182 [.agg (aA.enc a0),.agg (aA.enc a1)] (.bool (zE2 a0 a1)):=ok2 (fun r=>.bool r) (zE2.eq_1 a0 a1) Tryz.f182 []
def zaz9 (j1:(List aD)):Option (List aD) :=
 some j1
def zY7 (a0:List aF) (a1:aH) (g1:Int×(List aD)):Option ((Int×(List aD))⊕(List aD)) :=
 (if (decide (g1.1 < (a0.length:Int)))=true then
  gd (0≤g1.1∧g1.1 < (a0.length:Int)) <|
  (zj0 (a0.getD g1.1.toNat aF.zero) a1).bind fun v1 =>
  (if v1.2=true then
   gd (0≤g1.1∧g1.1 < (a0.length:Int)) <|
   gd (g1.2.length+1≤4294967296) <|
   some (.inl ((i64.wrap (g1.1+1)),(g1.2++[(⟨((a0.getD g1.1.toNat aF.zero).aB).name,v1.1⟩:aD)])))
  else
   some (.inl ((i64.wrap (g1.1+1)),g1.2)))
 else
  some (.inr g1.2))
def zm7 (a0:List aF) (a1:aH):Option (List aD) :=
 (zc6 (zY7 a0 a1) (0,[])).bind (fun z=>zaz9 z)
@[reducible,instance] def zdn3 a0 a1:=mkJ (zm7 a0 a1) 0 (@zaz9.eq_1) fun (j1:(List aD))=>⟨[(5,.own 0 0 j1.length)],[(0,sx j1)],1⟩
@[reducible,instance] def zdn4 (a0:List aF) (a1:aH) {T:Type} (x:T):=mkL x (@zY7.eq_1 a0 a1) fun (g1:Int×(List aD))=>⟨[(0,la a0),(3,.ptr 0 0 0),(5,.own 1 0 g1.2.length),(6,.int .i64 g1.1)],[(0,bx a1),(1,sx g1.2)],2⟩
instance zcs4 (a0:List aF) (a1:aH):OkP (zm7 a0 a1) 124 [la a0,ga a1] (fun r=>la r):=ok1 (zm7.eq_1 a0 a1) Tryz.f124 [(5,1)]
attribute [local irreducible] zm7
def zaM8 (j1:Unit):Option Int :=
 some 0
def zak4 (a0 a1 g1:Int):Option (Int⊕(Unit⊕Int)) :=
 (if (decide (g1≤5))=true then
  (if (zC3 g1 a0&&zC3 g1 a1)=true then
   some (.inr (.inr g1))
  else
   some (.inl (i64.wrap (g1+1))))
 else
  some (.inr (.inl ())))
def zr9 (a0 a1:Int):Option Int :=
 (zc6 (zak4 a0 a1) 1).bind (fun|.inl z=>zaM8 z|.inr z=>some z)
@[reducible,instance] def zdn5 a0 a1:=mkJ (zr9 a0 a1) 0 (@zaM8.eq_1) fun (j1:Unit)=>⟨[],[],0⟩
@[reducible,instance] def zdn6 (a0 a1:Int) {T:Type} (x:T):=mkL x (@zak4.eq_1 a0 a1) fun (g1:Int)=>⟨[(0,.int .i64 a0),(1,.int .i64 a1),(5,.int .i64 g1)],[],0⟩
instance zcN2 (a0 a1:Int):OkP (zr9 a0 a1) 242 [.int .i64 a0,.int .i64 a1] (fun r=>.int .i64 r):=ok1 (zr9.eq_1 a0 a1) Tryz.f242 []
attribute [local irreducible] zr9
end
end Ab
end Go.Proofs.YtenebhlnfjcffaaGreatDoor
