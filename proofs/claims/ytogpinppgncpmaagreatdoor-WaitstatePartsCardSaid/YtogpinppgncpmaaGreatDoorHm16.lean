import Derived.Test.YtogpinppgncpmaaGreatDoorHm10
import Derived.Test.YtogpinppgncpmaaGreatDoorHm13
import Derived.Test.YtogpinppgncpmaaGreatDoorSort
namespace Go.Proofs.YtogpinppgncpmaaGreatDoor
namespace Ab
open IntKind (i64 u64 u8)
set_option linter.unusedSimpArgs false
set_option linter.defProp false
set_option linter.unusedVariables false
set_option maxRecDepth 100000
set_option maxHeartbeats 1000000
noncomputable section
attribute [local irreducible] zb2 za4 zd4 za6 zh1 zm5 zm4 zh2 zk4 zi2 zd7 zg4 za7 zn9 zh3 zj7 ze3 za8 zg8 zi3 zg1 zl1 zj1 za9 zf9 ze4 zh8 ze5 zk7 zk0 zk1 zn8 zg9 zm3 f_ref08_holds zj9 zc5 zf8 zd0 zd9 ze6 zn2 zm9 zg7 ze7 zg0 zb3 za0 zf2 zj3 zl8 zh9 zf3 zh4 zo0 zn0 zk2 zb4 zd1 zd2 zd6 zg3 zd8 zc3 zo7 za1 zq1 zi0 zi5 zh5 zj5 zc1 zb0 ze9 zf4 zn1 zo8 zp1 ze8 zb8 zi6 zi4 zp7 zi7 zc6 ze0 zs0 zj6 zo2 zj8 zg5 zp8 zl2 zh0 zb5 zi8 zr5 zp9 zk3 zb9 zk8 zl4 zr3 zh7 zt3 zf1 zg2 zf0 zr9 zu3 zi9
def zay1 (j1:(List aM)):Option (List aM) :=
 some j1
def zay2 (a0:aO) (g1:Int×(List aM)):Option ((Int×(List aM))⊕(List aM)) :=
 (if (decide (g1.1 < (a0.bA.length:Int)))=true then
  gd (0≤g1.1∧g1.1 < (a0.bA.length:Int)) <|
  (zk8 (a0.bA.getD g1.1.toNat aO.zero) g1.2).bind fun v2 =>
  some (.inl ((i64.wrap (g1.1+1)),v2))
 else
  some (.inr g1.2))
def zA5 (a90:(aO→Option (List aM))) (a0:aO):Option (List aM) :=
 (if (decide ((a0.bA.length:Int)=0))=true then
  (zb0 [] a0.bB).bind fun v1 =>
  (if v1=true then
   some []
  else
   gd (1≤4294967296) <|
   some [a0.bB])
 else
  (zc0 (zay2 a0) (0,[])).bind (fun z=>zay1 z))
def zal6:Nat→(aO→Option (List aM))
 | 0=>fun _=>none
 | n+1=>zA5 (zal6 n)
def zq7 (a0:aO):Option (List aM):=zal6 (_root_.SizeOf.sizeOf a0+1) a0
@[reducible,instance] def zdS2 (a90:(aO→Option (List aM))) (a0:aO):=mkJ (zA5 a90 a0) 0 (@zay1.eq_1) fun (j1:(List aM))=>⟨[(0,.own 0 0 j1.length)],[(0,sx j1)],1⟩
@[reducible,instance] def zdS3 (a0:aO) {T:Type} (x:T):=mkL x (@zay2.eq_1 a0) fun (g1:Int×(List aM))=>⟨[(0,.own 0 0 g1.2.length),(22,la a0.bA),(23,.int .i64 (a0.bA.length:Int)),(24,.int .i64 g1.1)],[(0,sx g1.2)],1⟩
abbrev zac8 (g:(aO→Option (List aM))):Prop:=∀ (a0:aO),OkM (g a0) 79 [.full ([].map aM.enc),.agg (aO.enc a0)] [] 0 (fun r=>.sl (r.map aM.enc)) (fun r=>[]) 0
theorem zbd7 (a90:(aO→Option (List aM))) (hrc:zac8 a90):zac8 (zA5 a90):=fun a0=>⟨fun r h=>by
 refine zaz8 Tryz.f79 [] [la r] fun E hG hN hK=>?_
 have hm:Mk (zA5 a90 a0):=trivial
 unfold zA5 at h
 refine g_gh (.own0 0 3 (aM.enc aM.zero)) ?_
 refine za2 (za3 hG ?_)
 refine za2 (za2 (za3 hG ?_))
 refine zl0 rfl hG h (fun _ h=>?_) (fun _ h=>?_)
 · refine za2 (za2 (za3 hG ?_))
   obtain ⟨v1,hv1,h⟩:=zc9 h
   have hm:=mkP hm v1
   refine zq4 (fun hg=>(zaq1 [] a0.bB).ok _ hv1) ?_
   refine zl0 rfl hG h (fun _ h=>?_) (fun _ h=>?_)
   · refine za2 (za3 hG ?_)
     refine g_gh (.fz [0]) ?_
     exact gogo
   refine zj2 ?_
   refine za2 ?_
   obtain ⟨hb1,h⟩:=zd5 h
   refine za3 hG ?_
   refine g_gh (.fz [2]) ?_
   exact gogo
 refine zj2 ?_
 refine za2 (za2 (za3 hG ?_))
 refine zax0 hm h (fun j1 hm h=>?_) ?_
 · try refine g_st ?_
   refine za2 (za3 hG ?_)
   refine g_gh (.fz [0]) ?_
   exact gogo
 exact gogo⟩
theorem zbd8:∀ n,zac8 (zal6 n):=zaR5 (fun _=>⟨fun _ h=>nomatch h⟩) fun n=>zbd7 _
instance zcm0:zac8 zq7:=fun a0=>zbd8 _ a0
attribute [local irreducible] zq7
def zaT7 (j1:Unit):Option Bool :=
 some true
def zao3 (a0:List aT) (g1:Int):Option (Int⊕(Unit⊕Bool)) :=
 (if (decide (g1 < (a0.length:Int)))=true then
  gd (0≤g1∧g1 < (a0.length:Int)) <|
  gd (zy2 (a0.getD g1.toNat aT.zero)=true→0≤g1∧g1 < (a0.length:Int)) <|
  ((if (zy2 (a0.getD g1.toNat aT.zero))=true then zk1 a0 ((a0.getD g1.toNat aT.zero).aN) else some 0)).bind fun v1 =>
  (if ((!(zy2 (a0.getD g1.toNat aT.zero)))||(!decide (v1=g1)))=true then
   some (.inr (.inr false))
  else
   some (.inl (i64.wrap (g1+1))))
 else
  some (.inr (.inl ())))
def zu0 (a0:List aT):Option Bool :=
 (if (decide (8 < (a0.length:Int)))=true then
  some false
 else
  (zc0 (zao3 a0) 0).bind (fun|.inl z=>zaT7 z|.inr z=>some z))
@[reducible,instance] def zdS4 a0:=mkJ (zu0 a0) 0 (@zaT7.eq_1) fun (j1:Unit)=>⟨[],[],0⟩
@[reducible,instance] def zdS5 (a0:List aT) {T:Type} (x:T):=mkL x (@zao3.eq_1 a0) fun (g1:Int)=>⟨[(0,la a0),(3,.int .i64 g1)],[],0⟩
instance zdb9 (a0:List aT):OkP (zu0 a0) 269 [la a0] (fun r=>.bool r):=ok1 (zu0.eq_1 a0) Tryz.f269 []
attribute [local irreducible] zu0
def zs4 (a0:aI) (a1 a2:aC):Bool :=
 (if ((!(zt5 a0 a1))||(!(zt5 a0 a2)))=true then
  false
 else
  (if (zl7 a2)=true then
   true
  else
   (if (zl7 a1)=true then
    false
   else
    (if (decide (a0.kind=1))=true then
     (zQ0 a1.mode a2.mode)
    else
     (decide (a2.aS≤a1.aS))))))
instance zbH6 (a0:aI) (a1 a2:aC):OkT 204 [.agg (aI.enc a0),.agg (aC.enc a1),.agg (aC.enc a2)] (.bool (zs4 a0 a1 a2)):=ok2 (fun r=>.bool r) (zs4.eq_1 a0 a1 a2) Tryz.f204 []
def zv1 (a0:aA):Option (List aJ) :=
 (zh2 a0.aR).bind fun v1 =>
 (zk4 a0).bind fun v2 =>
 gd (v1.length+v2.length≤4294967296) <|
 (zj6 (v1++v2)).bind fun v3 =>
 some v3
instance zdc0 (a0:aA):OkP (zv1 a0) 137 [ga a0] (fun r=>la r):=ok1 (zv1.eq_1 a0) Tryz.f137 []
attribute [local irreducible] zv1
def zaT8 (j2:Unit):Option Bool :=
 some true
def zV3 (a0:aX) (g1:Int):Option (Int⊕(Unit⊕Bool)) :=
 (if (decide (g1 < (a0.bD.length:Int)))=true then
  gd (0≤g1∧g1 < (a0.bD.length:Int)) <|
  gd (((!(((decide ((a0.bD.getD g1.toNat bR.zero).label < 1)||decide (99 < (a0.bD.getD g1.toNat bR.zero).label))||decide ((a0.bD.getD g1.toNat bR.zero).at_ < 0))||decide ((a0.aP.length:Int) < (a0.bD.getD g1.toNat bR.zero).at_)))&&decide (0 < g1))=true→0≤i64.wrap (g1 - 1)∧i64.wrap (g1 - 1) < (a0.bD.length:Int)) <|
  ((if (!((((decide ((a0.bD.getD g1.toNat bR.zero).label < 1)||decide (99 < (a0.bD.getD g1.toNat bR.zero).label))||decide ((a0.bD.getD g1.toNat bR.zero).at_ < 0))||decide ((a0.aP.length:Int) < (a0.bD.getD g1.toNat bR.zero).at_))||(decide (0 < g1)&&decide ((a0.bD.getD g1.toNat bR.zero).at_ < (a0.bD.getD ((i64.wrap (g1 - 1)).toNat) bR.zero).at_))))=true then zl8 a0.bD ((a0.bD.getD g1.toNat bR.zero).label) else some 0)).bind fun v2 =>
  (if (((((decide ((a0.bD.getD g1.toNat bR.zero).label < 1)||decide (99 < (a0.bD.getD g1.toNat bR.zero).label))||decide ((a0.bD.getD g1.toNat bR.zero).at_ < 0))||decide ((a0.aP.length:Int) < (a0.bD.getD g1.toNat bR.zero).at_))||(decide (0 < g1)&&decide ((a0.bD.getD g1.toNat bR.zero).at_ < (a0.bD.getD ((i64.wrap (g1 - 1)).toNat) bR.zero).at_)))||(!decide (v2=g1)))=true then
   some (.inr (.inr false))
  else
   some (.inl (i64.wrap (g1+1))))
 else
  some (.inr (.inl ())))
def zae0 (a0:aX) (j1:Unit):Option Bool :=
 (zi3 a0.aP).bind fun v1 =>
 (if (decide (8 < (v1.length:Int)))=true then
  some false
 else
  (zc0 (zV3 a0) 0).bind (fun|.inl z=>zaT8 z|.inr z=>some z))
def zae1 (a0:aX) (g2:Int):Option (Int⊕(Unit⊕Bool)) :=
 (if (decide (g2 < (a0.aP.length:Int)))=true then
  gd (0≤g2∧g2 < (a0.aP.length:Int)) <|
  (zh7 ((a0.aP.getD g2.toNat bK.zero).name)).bind fun v3 =>
  gd (v3=true→0≤0∧0≤g2∧g2≤(a0.aP.length:Int)) <|
  ((if v3=true then zj3 (a0.aP.take g2.toNat) ((a0.aP.getD g2.toNat bK.zero).name) else some aC.zero)).bind fun v4 =>
  (if (((!v3)||(!decide ((a0.aP.getD g2.toNat bK.zero).before=v4)))||(!(zO9 ((a0.aP.getD g2.toNat bK.zero).before) ((a0.aP.getD g2.toNat bK.zero).after))))=true then
   some (.inr (.inr false))
  else
   some (.inl (i64.wrap (g2+1))))
 else
  some (.inr (.inl ())))
def zq8 (a0:aX):Option Bool :=
 (if (decide (72 < (a0.aP.length:Int))||decide (4 < (a0.bD.length:Int)))=true then
  some false
 else
  (zc0 (zae1 a0) 0).bind (fun|.inl z=>zae0 a0 z|.inr z=>some z))
@[reducible,instance] def zdS6 a0 j1 {T1:Type} (v1:T1):=mkJ (zae0 a0 j1,v1) 2 (@zaT8.eq_1) fun (j2:Unit)=>⟨[],[],0⟩
@[reducible,instance] def zdS7 (a0:aX) {T:Type} (x:T):=mkL x (@zV3.eq_1 a0) fun (g1:Int)=>⟨[(1,.ptr 0 0 0),(5,.int .i64 g1)],[(0,bx a0)],1⟩
@[reducible,instance] def zdS8 (a0:aX):=mkJ (zq8 a0) 0 (@zae0.eq_1 a0) fun (j1:Unit)=>⟨[(1,.ptr 0 0 0)],[(0,bx a0)],1⟩
@[reducible,instance] def zdS9 (a0:aX) {T:Type} (x:T):=mkL x (@zae1.eq_1 a0) fun (g2:Int)=>⟨[(1,.ptr 0 0 0),(3,.int .i64 g2)],[(0,bx a0)],1⟩
instance zbg4 (a0:aX):OkP (zq8 a0) 140 [ga a0] (fun r=>.bool r):=ok1 (zq8.eq_1 a0) Tryz.f140 []
attribute [local irreducible] zq8
theorem zal7:SlLaysF0.n6 C.P ⟨fun|6=>31|15=>67|14=>69|28=>110|29=>111|20=>113|21=>114|22=>115|23=>116|24=>117|25=>118|26=>119|27=>120|46=>165|47=>161|48=>162|49=>166|50=>167|57=>219|n=>n,fun|22=>26|24=>50|25=>86|39=>141|53=>187|55=>146|46=>180|45=>179|50=>184|66=>229|70=>204|76=>275|77=>276|n=>n,fun n=>n⟩ where
 mixed:=zw6
 f6:=⟨ "slices.SortFunc[[]clusterlocks/api.Need,clusterlocks/api.Need]",by decide,Tryz.func31.trans (cP some (by kernel_rfl))⟩
 f14:=⟨ "slices.pdqsortCmpFunc[clusterlocks/api.Need]",by decide,Tryz.func69.trans (cP some (by kernel_rfl))⟩
 f15:=Tryz.func67.trans (cP some (by kernel_rfl))
 f20:=⟨ "slices.insertionSortCmpFunc[clusterlocks/api.Need]",by decide,Tryz.func113.trans (cP some (by kernel_rfl))⟩
 f21:=⟨ "slices.heapSortCmpFunc[clusterlocks/api.Need]",by decide,Tryz.func114.trans (cP some (by kernel_rfl))⟩
 f22:=⟨ "slices.breakPatternsCmpFunc[clusterlocks/api.Need]",by decide,Tryz.func115.trans (cP some (by kernel_rfl))⟩
 f23:=⟨ "slices.choosePivotCmpFunc[clusterlocks/api.Need]",by decide,Tryz.func116.trans (cP some (by kernel_rfl))⟩
 f24:=⟨ "slices.reverseRangeCmpFunc[clusterlocks/api.Need]",by decide,Tryz.func117.trans (cP some (by kernel_rfl))⟩
 f25:=⟨ "slices.partialInsertionSortCmpFunc[clusterlocks/api.Need]",by decide,Tryz.func118.trans (cP some (by kernel_rfl))⟩
 f26:=⟨ "slices.partitionEqualCmpFunc[clusterlocks/api.Need]",by decide,Tryz.func119.trans (cP some (by kernel_rfl))⟩
 f27:=⟨ "slices.partitionCmpFunc[clusterlocks/api.Need]",by decide,Tryz.func120.trans (cP some (by kernel_rfl))⟩
 f28:=Tryz.func110.trans (cP some (by kernel_rfl))
 f29:=Tryz.func111.trans (cP some (by kernel_rfl))
 f46:=⟨ "slices.siftDownCmpFunc[clusterlocks/api.Need]",by decide,Tryz.func165.trans (cP some (by kernel_rfl))⟩
 f47:=Tryz.func161.trans (cP some (by kernel_rfl))
 f48:=Tryz.func162.trans (cP some (by kernel_rfl))
 f49:=⟨ "slices.medianAdjacentCmpFunc[clusterlocks/api.Need]",by decide,Tryz.func166.trans (cP some (by kernel_rfl))⟩
 f50:=⟨ "slices.medianCmpFunc[clusterlocks/api.Need]",by decide,Tryz.func167.trans (cP some (by kernel_rfl))⟩
 f57:=⟨ "slices.order2CmpFunc[clusterlocks/api.Need]",by decide,Tryz.func219.trans (cP some (by kernel_rfl))⟩
 t0:=Tryz.underlying0
 a0:=Tryz.isAgg0
 z0:=Tryz.sizeOf0
 v0:=Tryz.zeroValue0
 t3:=Tryz.underlying3
 a3:=Tryz.isAgg3
 z3:=Tryz.sizeOf3
 v3:=Tryz.zeroValue3
 t4:=Tryz.underlying4
 a4:=Tryz.isAgg4
 z4:=Tryz.sizeOf4
 v4:=Tryz.zeroValue4
 t5:=Tryz.underlying5
 a5:=Tryz.isAgg5
 z5:=Tryz.sizeOf5
 v5:=Tryz.zeroValue5
 t9:=Tryz.underlying9
 a9:=Tryz.isAgg9
 z9:=Tryz.sizeOf9
 v9:=Tryz.zeroValue9
 t22:=Tryz.underlying26
 a22:=Tryz.isAgg26
 z22:=Tryz.sizeOf26
 v22:=Tryz.zeroValue26
 t25:=Tryz.underlying86
 a25:=Tryz.isAgg86
 z25:=Tryz.sizeOf86
 v25:=Tryz.zeroValue86
 t39:=Tryz.underlying141
 a39:=Tryz.isAgg141
 z39:=Tryz.sizeOf141
 v39:=Tryz.zeroValue141
 t45:=Tryz.underlying179
 a45:=Tryz.isAgg179
 z45:=Tryz.sizeOf179
 v45:=Tryz.zeroValue179
 t46:=Tryz.underlying180
 a46:=Tryz.isAgg180
 z46:=Tryz.sizeOf180
 v46:=Tryz.zeroValue180
 t50:=Tryz.underlying184
 a50:=Tryz.isAgg184
 z50:=Tryz.sizeOf184
 v50:=Tryz.zeroValue184
 t53:=Tryz.underlying187
 a53:=Tryz.isAgg187
 z53:=Tryz.sizeOf187
 v53:=Tryz.zeroValue187
 t55:=Tryz.underlying146
 a55:=Tryz.isAgg146
 z55:=Tryz.sizeOf146
 v55:=Tryz.zeroValue146
 t66:=Tryz.underlying229
 a66:=Tryz.isAgg229
 z66:=Tryz.sizeOf229
 v66:=Tryz.zeroValue229
 t70:=Tryz.underlying204
 a70:=Tryz.isAgg204
 z70:=Tryz.sizeOf204
 v70:=Tryz.zeroValue204
 t76:=Tryz.underlying275
 a76:=Tryz.isAgg275
 z76:=Tryz.sizeOf275
 v76:=Tryz.zeroValue275
 t77:=Tryz.underlying276
 a77:=Tryz.isAgg276
 z77:=Tryz.sizeOf276
 v77:=Tryz.zeroValue276
def zl9 (x y:bC):Int:=cmpS x.aN y.aN
theorem zak5 (x y:bC):zi8 x y=some (zl9 x y):=by unfold zi8; rw [zcJ7]; rfl
def zd3 (a0:List bC):Option (List bC):=gd (a0.length≤4294967296∧a0.Pairwise fun x y=>zl9 x y < 0∨zl9 y x < 0) (some (a0.mergeSort fun x y=>!decide (zl9 y x < 0)))
theorem zak6 (a0 r:List bC) (h:zd3 a0=some r):r.length=a0.length:=by
 obtain ⟨_,h⟩:=zd5 h
 obtain rfl:=dU h
 exact gU _
theorem zak7 (a0 r:List bC) (h:zd3 a0=some r):MFn C 31 [.own 0 0 a0.length,.clo 32 []] [(0,sx a0)] 1 (.tup []) [(0,sx r)] 1:=by
 obtain ⟨⟨hl,hp⟩,h⟩:=zd5 h
 obtain rfl:=dU h
 exact zbP1 zal7 bC.enc 9 bC.len (by decide) (fun x=>by first|exact (bC.laws x).1|exact (bC.laws x).2.1) Tryz.isAgg50 Tryz.sizeOf50 zl9 (zcI8 (fun x:bC=>x.aN) zcr0) 32 (fun x y=>(zbg1 x y).ok _ (zak5 x y)) (enters_of Tryz.func32 (by kernel_rfl) rfl) rfl _ a0 hl (zci4 hp)
attribute [local irreducible] zd3
def zaj2 (j1:(List aM)):Option (Bool×(List aM)) :=
 some (true,j1)
@[go_sem] def zdw9  (j1:(List aM)):St:=⟨[],[(0,⟨false,1,[A.sl ([].map aM.enc)],[[.own 2 0 j1.length]]⟩),(2,sx j1)],3⟩
def zM3 (a90:(aO→List aM→Option (Bool×(List aM)))) (a0:aO) (g1:Int×(List aM)):Option ((Int×(List aM))⊕((List aM)⊕(Bool×(List aM)))) :=
 (if (decide (g1.1 < (a0.bA.length:Int)))=true then
  gd (0≤g1.1∧g1.1 < (a0.bA.length:Int)) <|
  (a90 (a0.bA.getD g1.1.toNat aO.zero) g1.2).bind fun v3 =>
  (if (!v3.1)=true then
   some (.inr (.inr (false,v3.2)))
  else
   some (.inl ((i64.wrap (g1.1+1)),v3.2)))
 else
  some (.inr (.inl g1.2)))
@[go_sem] def zdx0 (a0:aO) (g1:Int×(List aM)):St:=⟨[(1,.ptr 0 0 0),(44,la a0.bA),(45,.int .i64 (a0.bA.length:Int)),(46,.int .i64 g1.1)],[(0,⟨false,1,[A.sl ([].map aM.enc)],[[.own 2 0 g1.2.length]]⟩),(2,sx g1.2)],3⟩
def zQ2 (a90:(aO→List aM→Option (Bool×(List aM)))) (a0:aO) (a1:List aM):Option (Bool×(List aM)) :=
 (if (decide ((a0.bA.length:Int)=0))=true then
  ((if (decide (a0.k=0))=true then zi7 a0.bB else some false)).bind fun v1 =>
  (if (decide (a0.k=0)&&v1)=true then
   (zg7 a0.bB a1).bind fun v2 =>
   some (((decide (a0.k=0)&&v1)&&decide (v2.1=0)),v2.2)
  else
   some (((decide (a0.k=0)&&v1)&&decide (0=0)),a1))
 else
  (if ((decide (a0.k < 1)||decide ((a0.bA.length:Int) < a0.k))||(!decide (a0.bB={ aM.zero with  })))=true then
   some (false,a1)
  else
   (zc0 (zM3 a90 a0) (0,a1)).bind (fun|.inl z=>zaj2 z|.inr z=>some z)))
def zv2:Nat→(aO→List aM→Option (Bool×(List aM)))
 | 0=>fun _ _=>none
 | n+1=>zQ2 (zv2 n)
def zq5 (a0:aO) (a1:List aM):Option (Bool×(List aM)):=zv2 (_root_.SizeOf.sizeOf a0+1) a0 a1
theorem zbg5 (a90:(aO→List aM→Option (Bool×(List aM)))) (hrc:∀ (a0:aO) (a1:List aM) (r:Bool×(List aM)),a90 a0 a1=some r→MFn C 84 [ga a0,.ptr 0 0 0] [(0,⟨false,1,[A.sl ([].map aM.enc)],[[.own 1 0 a1.length]]⟩),(1,sx a1)] 2 (.bool r.1) [(0,⟨false,1,[A.sl ([].map aM.enc)],[[.own 2 0 r.2.length]]⟩),(2,sx r.2)] 3) (a0:aO) (a1:List aM) (r:Bool×(List aM)) (h:zQ2 a90 a0 a1=some r):MFn C 84 [ga a0,.ptr 0 0 0] [(0,⟨false,1,[A.sl ([].map aM.enc)],[[.own 1 0 a1.length]]⟩),(1,sx a1)] 2 (.bool r.1) [(0,⟨false,1,[A.sl ([].map aM.enc)],[[.own 2 0 r.2.length]]⟩),(2,sx r.2)] 3:=by
 refine zaz8 Tryz.f84 [] [.bool r.1] fun E hG hN hK=>?_
 unfold zQ2 at h
 refine za2 (za3 hG ?_)
 refine za2 (za2 (za3 hG ?_))
 refine zl0 rfl hG h (fun _ h=>?_) (fun _ h=>?_)
 · refine za2 (za3 hG ?_)
   obtain ⟨v1,hv1,h⟩:=zc9 h
   refine zq4 (fun hg=>(zbg0 a0.bB).ok _ (zaH9 hg hv1)) ?_
   refine zcI1 h (fun hc h=>?_) (fun hc h=>?_)
   · obtain ⟨v2,hv2,h⟩:=zc9 h
     refine zcp6 hc [(0,0),(1,1)] [(2,3)] [0,1,2] ((zbq9 a0.bB a1).ok _ hv2) rfl rfl ?_
     refine zt2 ?_
     exact zS4 [(0,0),(2,3)] h
   refine zcp7 hc (.int .i64 0) ?_
   refine zt2 ?_
   exact zS4 [(0,0),(2,1)] h
 refine zj2 ?_
 refine za2 (za2 (za3 hG ?_))
 refine zl0 rfl hG h (fun _ h=>?_) (fun _ h=>?_)
 · refine za2 (za3 hG ?_)
   refine zt2 ?_
   exact zS4 [(0,0),(2,1)] h
 refine zj2 ?_
 refine za2 (za2 (za3 hG ?_))
 refine zB6 zdw9 (fun v=>zaj2 v=some r) ?_ ?_
 · intro j1 h
   unfold zaj2 at h
   refine g_st ?_
   refine za2 (za3 hG ?_)
   refine zt2 ?_
   exact zS4 [(0,0),(2,2)] h
 refine zY4 (zdx0 a0) hK [(0,0),(2,1)] h (fun x_l1 h g1 y_l1 h_l1 hx_l1=>?_)
 unfold zM3 at h_l1
 refine g_st ?_
 refine za2 (za3 hG ?_)
 refine za2 ?_
 refine zl0 rfl hG h_l1 (fun _ h_l1=>?_) (fun _ h_l1=>?_)
 · refine zj2 ?_
   refine za2 (zB5 (za2 ?_))
   obtain ⟨hb1,h_l1⟩:=zd5 h_l1
   refine za3 hG ?_
   refine za2 (za3 hG ?_)
   obtain ⟨v3,hv3,h_l1⟩:=zc9 h_l1
   refine zs2 [(0,0),(1,2)] [(2,4)] [0,1,2] (hrc (a0.bA.getD g1.1.toNat aO.zero) g1.2 _ hv3) rfl rfl ?_
   refine zl0 rfl hG h_l1 (fun _ h_l1=>?_) (fun _ h_l1=>?_)
   · refine za2 (za3 hG ?_)
     refine zt2 ?_
     cases h_l1
     cases hx_l1 _ rfl
     exact zS4 [(0,0),(2,4)] h
   refine zj2 ?_
   refine za3 hG ?_
   exact zF8 hK [(0,0),(2,4)] h_l1
 refine zH3 ?_
 cases h_l1
 cases hx_l1 _ rfl
 exact zy4 hK [(0,0),(2,2)] g1.2 (by exact h)
theorem zaF8:∀ (n:Nat) (a0:aO) (a1:List aM) (r:Bool×(List aM)),zv2 n a0 a1=some r→MFn C 84 [ga a0,.ptr 0 0 0] [(0,⟨false,1,[A.sl ([].map aM.enc)],[[.own 1 0 a1.length]]⟩),(1,sx a1)] 2 (.bool r.1) [(0,⟨false,1,[A.sl ([].map aM.enc)],[[.own 2 0 r.2.length]]⟩),(2,sx r.2)] 3
 | 0,_,_,_,h=>nomatch h
 | n+1,a0,a1,r,h=>zbg5 (zv2 n) (zaF8 n) a0 a1 r h
instance zbg6 (a0:aO) (a1:List aM):OkM (zq5 a0 a1) 84 [ga a0,.ptr 0 0 0] [(0,⟨false,1,[A.sl ([].map aM.enc)],[[.own 1 0 a1.length]]⟩),(1,sx a1)] 2 (fun r=>.bool r.1) (fun r=>[(0,⟨false,1,[A.sl ([].map aM.enc)],[[.own 2 0 r.2.length]]⟩),(2,sx r.2)]) 3:=⟨fun r h=>zaF8 _ a0 a1 r h⟩
attribute [local irreducible] zq5
def zaA8 (j1:(List aJ)):Option (List aJ) :=
 some j1
def zae2 (v1:(List aT)) (g1:Int×(List aJ)):Option ((Int×(List aJ))⊕(List aJ)) :=
 (if (decide (g1.1 < (v1.length:Int)))=true then
  gd (0≤g1.1∧g1.1 < (v1.length:Int)) <|
  gd (g1.2.length+1≤4294967296) <|
  some (.inl ((i64.wrap (g1.1+1)),(g1.2++[(v1.getD g1.1.toNat aT.zero).aN])))
 else
  some (.inr g1.2))
def zu1 (a0:aA):Option (List aJ) :=
 (zp9 a0).bind fun v1 =>
 (zc0 (zae2 v1) (0,[])).bind (fun z=>zaA8 z)
@[reducible,instance] def zdT0 a0 {T1:Type} (v1:T1):=mkJ (zu1 a0,v1) 0 (@zaA8.eq_1) fun (j1:(List aJ))=>⟨[(3,.own 0 0 j1.length)],[(0,sx j1)],1⟩
@[reducible,instance] def zdT1 (v1:(List aT)) {T:Type} (x:T):=mkL x (@zae2.eq_1 v1) fun (g1:Int×(List aJ))=>⟨[(3,.own 0 0 g1.2.length),(7,la v1),(8,.int .i64 (v1.length:Int)),(9,.int .i64 g1.1)],[(0,sx g1.2)],1⟩
instance zdc1 (a0:aA):OkP (zu1 a0) 134 [ga a0] (fun r=>la r):=ok1 (zu1.eq_1 a0) Tryz.f134 [(3,1)]
attribute [local irreducible] zu1
def zae3 (j3:(List Int)):Option (List Int) :=
 some j3
def zI0 (a1:aA) (g1:(List Int)×Int):Option (((List Int)×Int)⊕(List Int)) :=
 (if (decide (g1.2 < (a1.aV.length:Int)))=true then
  gd (0≤g1.2∧g1.2 < (a1.aV.length:Int)) <|
  (zk3 g1.1 ((a1.aV.getD g1.2.toNat aT.zero).aN)).bind fun v5 =>
  (zc3 v5 [((a1.aV.getD g1.2.toNat aT.zero).aK).mode,((a1.aV.getD g1.2.toNat aT.zero).aK).aS,(a1.aV.getD g1.2.toNat aT.zero).bG,(a1.aV.getD g1.2.toNat aT.zero).bQ]).bind fun v6 =>
  some (.inl (v6,i64.wrap (g1.2+1)))
 else
  some (.inr g1.1))
def zR8 (a1:aA) (j2:(List Int)):Option (List Int) :=
 (zc3 j2 [(a1.aV.length:Int)]).bind fun v4 =>
 (zc0 (zI0 a1) (v4,0)).bind (fun z=>zae3 z)
def zI1 (a1:aA) (g2:(List Int)×Int):Option (((List Int)×Int)⊕(List Int)) :=
 (if (decide (g2.2 < (a1.aL.length:Int)))=true then
  gd (0≤g2.2∧g2.2 < (a1.aL.length:Int)) <|
  (zk3 g2.1 ((a1.aL.getD g2.2.toNat aT.zero).aN)).bind fun v7 =>
  (zc3 v7 [((a1.aL.getD g2.2.toNat aT.zero).aK).mode,((a1.aL.getD g2.2.toNat aT.zero).aK).aS]).bind fun v8 =>
  some (.inl (v8,i64.wrap (g2.2+1)))
 else
  some (.inr g2.1))
def zR9 (a1:aA) (j1:(List Int)):Option (List Int) :=
 (zc3 j1 [(a1.aL.length:Int)]).bind fun v3 =>
 (zc0 (zI1 a1) (v3,0)).bind (fun z=>zR8 a1 z)
def zI2 (a1:aA) (g3:(List Int)×Int):Option (((List Int)×Int)⊕(List Int)) :=
 (if (decide (g3.2 < (a1.aR.length:Int)))=true then
  gd (0≤g3.2∧g3.2 < (a1.aR.length:Int)) <|
  (zk3 g3.1 ((a1.aR.getD g3.2.toNat aU.zero).aN)).bind fun v9 =>
  (zc3 v9 [((a1.aR.getD g3.2.toNat aU.zero).aK).mode,((a1.aR.getD g3.2.toNat aU.zero).aK).aS]).bind fun v10 =>
  some (.inl (v10,i64.wrap (g3.2+1)))
 else
  some (.inr g3.1))
def zl6 (a0:List Int) (a1:aA):Option (List Int) :=
 (zj5 a0 a1.aB.name).bind fun v1 =>
 (zc3 v1 [a1.aB.kind,a1.aB.aS,a1.aB.home,a1.gen,(a1.aR.length:Int)]).bind fun v2 =>
 (zc0 (zI2 a1) (v2,0)).bind (fun z=>zR9 a1 z)
@[reducible,instance] def zdT2 a1 j2 {T1:Type} (v4:T1):=mkJ (zR8 a1 j2,v4) 4 (@zae3.eq_1) fun (j3:(List Int))=>⟨[(0,.sl (j3.map (eI .u8)))],[],0⟩
@[reducible,instance] def zdT3 (a1:aA) {T:Type} (x:T):=mkL x (@zI0.eq_1 a1) fun (g1:(List Int)×Int)=>⟨[(0,.sl (g1.1.map (eI .u8))),(84,la a1.aV),(85,.int .i64 (a1.aV.length:Int)),(86,.int .i64 g1.2)],[],0⟩
@[reducible,instance] def zdT4 (a1:aA) j1 {T1:Type} (v3:T1):=mkJ (zR9 a1 j1,v3) 2 (@zR8.eq_1 a1) fun (j2:(List Int))=>⟨[(0,.sl (j2.map (eI .u8))),(3,.ptr 0 0 0)],[(0,bx a1)],1⟩
@[reducible,instance] def zdT5 (a1:aA) {T:Type} (x:T):=mkL x (@zI1.eq_1 a1) fun (g2:(List Int)×Int)=>⟨[(0,.sl (g2.1.map (eI .u8))),(3,.ptr 0 0 0),(58,la a1.aL),(59,.int .i64 (a1.aL.length:Int)),(60,.int .i64 g2.2)],[(0,bx a1)],1⟩
@[reducible,instance] def zdT6 a0 (a1:aA) {T1:Type} (v1:T1) {T2:Type} (v2:T2):=mkJ ((zl6 a0 a1,v1),v2) 0 (@zR9.eq_1 a1) fun (j1:(List Int))=>⟨[(0,.sl (j1.map (eI .u8))),(3,.ptr 0 0 0)],[(0,bx a1)],1⟩
@[reducible,instance] def zdT7 (a1:aA) {T:Type} (x:T):=mkL x (@zI2.eq_1 a1) fun (g3:(List Int)×Int)=>⟨[(0,.sl (g3.1.map (eI .u8))),(3,.ptr 0 0 0),(32,la a1.aR),(33,.int .i64 (a1.aR.length:Int)),(34,.int .i64 g3.2)],[(0,bx a1)],1⟩
instance zcm1 (a0:List Int) (a1:aA):OkP (zl6 a0 a1) 37 [.sl (a0.map (eI .u8)),ga a1] (fun r=>.sl (r.map (eI .u8))):=ok1 (zl6.eq_1 a0 a1) Tryz.f37 []
attribute [local irreducible] zl6
def ze1 (a0:aY):Option (aC×aY) :=
 (zb9 a0).bind fun v1 =>
 (zb9 v1.2).bind fun v2 =>
 some ((⟨v1.1,v2.1⟩:aC),v2.2)
instance zaA9 (a0:aY):OkM (ze1 a0) 77 [.ptr 0 0 0] [(0,bx a0)] 1 (fun r=>ga r.1) (fun r=>[(0,bx r.2)]) 1:=okm (ze1.eq_1 a0) (fun r=>[ga r.1]) Tryz.f77 []
attribute [local irreducible] ze1
def zaP4 (j1:Unit):Option (aC×Bool) :=
 some ({ aC.zero with  },false)
def zaP5 (a1:aJ) (v1:(List aT)) (g1:Int):Option (Int⊕(Unit⊕(aC×Bool))) :=
 (if (decide (g1 < (v1.length:Int)))=true then
  gd (0≤g1∧g1 < (v1.length:Int)) <|
  (if (decide ((v1.getD g1.toNat aT.zero).aN=a1))=true then
   some (.inr (.inr ((v1.getD g1.toNat aT.zero).aK,true)))
  else
   some (.inl (i64.wrap (g1+1))))
 else
  some (.inr (.inl ())))
def zu5 (a0:aA) (a1:aJ):Option (aC×Bool) :=
 (zp9 a0).bind fun v1 =>
 (zc0 (zaP5 a1 v1) 0).bind (fun|.inl z=>zaP4 z|.inr z=>some z)
@[reducible,instance] def zdT8 a0 a1 {T1:Type} (v1:T1):=mkJ (zu5 a0 a1,v1) 0 (@zaP4.eq_1) fun (j1:Unit)=>⟨[(4,.ptr 0 0 0)],[(0,bx aC.zero)],1⟩
@[reducible,instance] def zdT9 (a1:aJ) (v1:(List aT)) {T:Type} (x:T):=mkL x (@zaP5.eq_1 a1 v1) fun (g1:Int)=>⟨[(3,.ptr 0 0 0),(4,.ptr 1 0 0),(9,la v1),(10,.int .i64 (v1.length:Int)),(11,.int .i64 g1)],[(0,bx a1),(1,bx aC.zero)],2⟩
instance zcV3 (a0:aA) (a1:aJ):OkP (zu5 a0 a1) 46 [ga a0,ga a1] (fun r=>.tup [ga r.1,.bool r.2]):=ok1 (zu5.eq_1 a0 a1) Tryz.f46 []
attribute [local irreducible] zu5
def zaB0 (v1:Int×bJ) (j1:(List aM)):Option (aO×bJ) :=
 (zr3 j1 2 v1.2).bind fun v2 =>
 some (v2.1,v2.2)
def zao4 (a0:List aI) (v1:Int×bJ) (g1:Int×(List aM)):Option ((Int×(List aM))⊕(List aM)) :=
 (if (decide (g1.1 < (a0.length:Int)))=true then
  gd (0≤g1.1∧g1.1 < (a0.length:Int)) <|
  gd (0≤g1.1∧g1.1 < (a0.length:Int)) <|
  gd (0≤u64.wrap (i64.wrap (3 * g1.1))) <|
  (zp8 (a0.getD g1.1.toNat aI.zero) (v1.1.fdiv (2 ^ (Nat.min (u64.wrap (i64.wrap (3 * g1.1))).toNat i64.bits)))).bind fun v3 =>
  gd (g1.2.length+1≤4294967296) <|
  some (.inl ((i64.wrap (g1.1+1)),(g1.2++[(⟨(a0.getD g1.1.toNat aI.zero).name,v3⟩:aM)])))
 else
  some (.inr g1.2))
def zu2 (a0:List aI) (a1:bJ):Option (aO×bJ) :=
 (zb8 1048576 a1).bind fun v1 =>
 (zc0 (zao4 a0 v1) (0,[])).bind (fun z=>zaB0 v1 z)
@[reducible,instance] def zdU0 a0 a1 (v1:Int×bJ):=mkJ (zu2 a0 a1,v1) 0 (@zaB0.eq_1 v1) fun (j1:(List aM))=>⟨[(0,.ptr 0 0 0),(4,.ptr 1 0 0),(6,.own 2 0 j1.length)],[(0,bx v1.2),(1,bx aO.zero),(2,sx j1)],3⟩
@[reducible,instance] def zdU1 (a0:List aI) (v1:Int×bJ) {T:Type} (x:T):=mkL x (@zao4.eq_1 a0 v1) fun (g1:Int×(List aM))=>⟨[(0,.ptr 0 0 0),(1,la a0),(4,.ptr 1 0 0),(5,.int .i64 v1.1),(6,.own 2 0 g1.2.length),(7,.int .i64 g1.1)],[(0,bx v1.2),(1,bx aO.zero),(2,sx g1.2)],3⟩
instance zbH7 (a0:List aI) (a1:bJ):OkM (zu2 a0 a1) 206 [.ptr 0 0 0,la a0] [(0,bx a1)] 1 (fun r=>ga r.1) (fun r=>[(0,bx r.2)]) 1:=okm (zu2.eq_1 a0 a1) (fun r=>[ga r.1]) Tryz.f206 [(6,1)]
attribute [local irreducible] zu2
def zr6 (a0:aI) (a1 a2:aC):Option Bool :=
 (if ((!(zc7 a0 a1))||(!(zc7 a0 a2)))=true then
  some false
 else
  (if (zk5 a1||zk5 a2)=true then
   some (zk5 a2)
  else
   (if (decide (a0.kind=1))=true then
    (zn0 a1.mode a2.mode).bind fun v1 =>
    some v1
   else
    some (decide (a2.aS≤a1.aS)))))
instance zcP6 (a0:aI) (a1 a2:aC):OkP (zr6 a0 a1 a2) 225 [ga a0,ga a1,ga a2] (fun r=>.bool r):=ok1 (zr6.eq_1 a0 a1 a2) Tryz.f225 []
attribute [local irreducible] zr6
def zbc1 (j1:Unit):Option Bool :=
 some true
def zS9 (a0:List aT) (g1:Int):Option (Int⊕(Unit⊕Bool)) :=
 (if (decide (g1 < (a0.length:Int)))=true then
  gd (0≤g1∧g1 < (a0.length:Int)) <|
  ((if (zl3 (a0.getD g1.toNat aT.zero))=true then zn2 a0 ((a0.getD g1.toNat aT.zero).aN) else some 0)).bind fun v1 =>
  (if ((!(zl3 (a0.getD g1.toNat aT.zero)))||(!decide (v1=g1)))=true then
   some (.inr (.inr false))
  else
   some (.inl (i64.wrap (g1+1))))
 else
  some (.inr (.inl ())))
def zt6 (a0:List aT):Option Bool :=
 (if (decide (8 < (a0.length:Int)))=true then
  some false
 else
  (zc0 (zS9 a0) 0).bind (fun|.inl z=>zbc1 z|.inr z=>some z))
@[reducible,instance] def zeg0 a0:=mkJ (zt6 a0) 0 (@zbc1.eq_1) fun (j1:Unit)=>⟨[],[],0⟩
@[reducible,instance] def zeg1 (a0:List aT) {T:Type} (x:T):=mkL x (@zS9.eq_1 a0) fun (g1:Int)=>⟨[(0,la a0),(8,la a0),(9,.int .i64 (a0.length:Int)),(10,.int .i64 g1)],[],0⟩
instance zdl0 (a0:List aT):OkP (zt6 a0) 226 [la a0] (fun r=>.bool r):=ok1 (zt6.eq_1 a0) Tryz.f226 []
attribute [local irreducible] zt6
theorem zal8:SlLaysF0.n6 C.P ⟨fun|6=>86|15=>67|14=>135|28=>110|29=>111|20=>178|21=>179|22=>180|23=>181|24=>182|25=>183|26=>184|27=>185|46=>229|47=>161|48=>162|49=>230|50=>231|57=>267|n=>n,fun|22=>66|24=>41|25=>85|39=>141|53=>187|55=>146|46=>180|45=>179|50=>184|66=>229|70=>204|76=>275|77=>276|n=>n,fun n=>n⟩ where
 mixed:=zw6
 f6:=⟨ "slices.SortFunc[[]clusterlocks/api.Proc,clusterlocks/api.Proc]",by decide,Tryz.func86.trans (cP some (by kernel_rfl))⟩
 f14:=⟨ "slices.pdqsortCmpFunc[clusterlocks/api.Proc]",by decide,Tryz.func135.trans (cP some (by kernel_rfl))⟩
 f15:=Tryz.func67.trans (cP some (by kernel_rfl))
 f20:=⟨ "slices.insertionSortCmpFunc[clusterlocks/api.Proc]",by decide,Tryz.func178.trans (cP some (by kernel_rfl))⟩
 f21:=⟨ "slices.heapSortCmpFunc[clusterlocks/api.Proc]",by decide,Tryz.func179.trans (cP some (by kernel_rfl))⟩
 f22:=⟨ "slices.breakPatternsCmpFunc[clusterlocks/api.Proc]",by decide,Tryz.func180.trans (cP some (by kernel_rfl))⟩
 f23:=⟨ "slices.choosePivotCmpFunc[clusterlocks/api.Proc]",by decide,Tryz.func181.trans (cP some (by kernel_rfl))⟩
 f24:=⟨ "slices.reverseRangeCmpFunc[clusterlocks/api.Proc]",by decide,Tryz.func182.trans (cP some (by kernel_rfl))⟩
 f25:=⟨ "slices.partialInsertionSortCmpFunc[clusterlocks/api.Proc]",by decide,Tryz.func183.trans (cP some (by kernel_rfl))⟩
 f26:=⟨ "slices.partitionEqualCmpFunc[clusterlocks/api.Proc]",by decide,Tryz.func184.trans (cP some (by kernel_rfl))⟩
 f27:=⟨ "slices.partitionCmpFunc[clusterlocks/api.Proc]",by decide,Tryz.func185.trans (cP some (by kernel_rfl))⟩
 f28:=Tryz.func110.trans (cP some (by kernel_rfl))
 f29:=Tryz.func111.trans (cP some (by kernel_rfl))
 f46:=⟨ "slices.siftDownCmpFunc[clusterlocks/api.Proc]",by decide,Tryz.func229.trans (cP some (by kernel_rfl))⟩
 f47:=Tryz.func161.trans (cP some (by kernel_rfl))
 f48:=Tryz.func162.trans (cP some (by kernel_rfl))
 f49:=⟨ "slices.medianAdjacentCmpFunc[clusterlocks/api.Proc]",by decide,Tryz.func230.trans (cP some (by kernel_rfl))⟩
 f50:=⟨ "slices.medianCmpFunc[clusterlocks/api.Proc]",by decide,Tryz.func231.trans (cP some (by kernel_rfl))⟩
 f57:=⟨ "slices.order2CmpFunc[clusterlocks/api.Proc]",by decide,Tryz.func267.trans (cP some (by kernel_rfl))⟩
 t0:=Tryz.underlying0
 a0:=Tryz.isAgg0
 z0:=Tryz.sizeOf0
 v0:=Tryz.zeroValue0
 t3:=Tryz.underlying3
 a3:=Tryz.isAgg3
 z3:=Tryz.sizeOf3
 v3:=Tryz.zeroValue3
 t4:=Tryz.underlying4
 a4:=Tryz.isAgg4
 z4:=Tryz.sizeOf4
 v4:=Tryz.zeroValue4
 t5:=Tryz.underlying5
 a5:=Tryz.isAgg5
 z5:=Tryz.sizeOf5
 v5:=Tryz.zeroValue5
 t9:=Tryz.underlying9
 a9:=Tryz.isAgg9
 z9:=Tryz.sizeOf9
 v9:=Tryz.zeroValue9
 t22:=Tryz.underlying66
 a22:=Tryz.isAgg66
 z22:=Tryz.sizeOf66
 v22:=Tryz.zeroValue66
 t25:=Tryz.underlying85
 a25:=Tryz.isAgg85
 z25:=Tryz.sizeOf85
 v25:=Tryz.zeroValue85
 t39:=Tryz.underlying141
 a39:=Tryz.isAgg141
 z39:=Tryz.sizeOf141
 v39:=Tryz.zeroValue141
 t45:=Tryz.underlying179
 a45:=Tryz.isAgg179
 z45:=Tryz.sizeOf179
 v45:=Tryz.zeroValue179
 t46:=Tryz.underlying180
 a46:=Tryz.isAgg180
 z46:=Tryz.sizeOf180
 v46:=Tryz.zeroValue180
 t50:=Tryz.underlying184
 a50:=Tryz.isAgg184
 z50:=Tryz.sizeOf184
 v50:=Tryz.zeroValue184
 t53:=Tryz.underlying187
 a53:=Tryz.isAgg187
 z53:=Tryz.sizeOf187
 v53:=Tryz.zeroValue187
 t55:=Tryz.underlying146
 a55:=Tryz.isAgg146
 z55:=Tryz.sizeOf146
 v55:=Tryz.zeroValue146
 t66:=Tryz.underlying229
 a66:=Tryz.isAgg229
 z66:=Tryz.sizeOf229
 v66:=Tryz.zeroValue229
 t70:=Tryz.underlying204
 a70:=Tryz.isAgg204
 z70:=Tryz.sizeOf204
 v70:=Tryz.zeroValue204
 t76:=Tryz.underlying275
 a76:=Tryz.isAgg275
 z76:=Tryz.sizeOf275
 v76:=Tryz.zeroValue275
 t77:=Tryz.underlying276
 a77:=Tryz.isAgg276
 z77:=Tryz.sizeOf276
 v77:=Tryz.zeroValue276
def zc8 (a0:List aJ):Option (List aJ):=gd (a0.length≤4294967296) (some (a0.mergeSort fun x y=>!decide (y.site < x.site∨y.site=x.site∧(y.inc < x.inc∨y.inc=x.inc∧y.num < x.num))))
theorem zak8 (a0 r:List aJ) (h:zc8 a0=some r):r.length=a0.length:=by
 obtain ⟨_,h⟩:=zd5 h
 obtain rfl:=dU h
 exact gU _
theorem zak9 (a0 r:List aJ) (h:zc8 a0=some r):MFn C 86 [.own 0 0 a0.length,.clo 33 []] [(0,sx a0)] 1 (.tup []) [(0,sx r)] 1:=by
 obtain ⟨hl,h⟩:=zd5 h
 obtain rfl:=dU h
 haveI:Inhabited aJ:=⟨aJ.zero⟩
 have e:(fun x y:aJ=>!decide (y.site < x.site∨y.site=x.site∧(y.inc < x.inc∨y.inc=x.inc∧y.num < x.num)))=fun x y=>!(ltOf cmpS) y x:=by
  funext x y
  rw [zaT6]
  exact cP not (hX.2 jT)
 rw [e]
 exact zbP1 zal8 aJ.enc 3 aJ.len (by decide) (fun x=>(aJ.laws x).2.1) Tryz.isAgg41 Tryz.sizeOf41 cmpS zcr0 33 (fun x y=>(zaF5 x y).ok _ (zcJ7 x y)) (enters_of Tryz.func33 (by kernel_rfl) rfl) rfl _ a0 hl (fun x _ y _=>zcA9 x y)
attribute [local irreducible] zc8
def zL2 (j1:aJ):Option (Int×aJ) :=
 some ((-1),j1)
def zp0 (a0:List bC) (g1:Int×aJ):Option ((Int×aJ)⊕(aJ⊕(Int×aJ))) :=
 (if (decide (g1.1 < (a0.length:Int)))=true then
  gd (0≤g1.1∧g1.1 < (a0.length:Int)) <|
  (zg5 (a0.getD g1.1.toNat bC.zero) g1.2).bind fun v1 =>
  (if v1.1=true then
   some (.inr (.inr (g1.1,v1.2)))
  else
   some (.inl ((i64.wrap (g1.1+1)),v1.2)))
 else
  some (.inr (.inl g1.2)))
def zc2 (a0:List bC) (a1:aJ):Option (Int×aJ) :=
 (zc0 (zp0 a0) (0,a1)).bind (fun|.inl z=>zL2 z|.inr z=>some z)
@[reducible,instance] def zdU2 a0 a1:=mkJ (zc2 a0 a1) 0 (@zL2.eq_1) fun (j1:aJ)=>⟨[],[(0,bx j1)],1⟩
@[reducible,instance] def zdU3 (a0:List bC) {T:Type} (x:T):=mkL x (@zp0.eq_1 a0) fun (g1:Int×aJ)=>⟨[(0,la a0),(1,.clo 63 [.ptr 0 0 0]),(7,.int .i64 (a0.length:Int)),(8,.int .i64 g1.1)],[(0,bx g1.2)],1⟩
instance zbd9 (a0:List bC) (a1:aJ):OkM (zc2 a0 a1) 62 [la a0,.clo 63 [.ptr 0 0 0]] [(0,bx a1)] 1 (fun r=>.int .i64 r.1) (fun r=>[(0,bx r.2)]) 1:=okm (zc2.eq_1 a0 a1) (fun r=>[.int .i64 r.1]) Tryz.f62 [(16,1)]
attribute [local irreducible] zc2
def zj4 (a0:aI):Option Bool :=
 (zh7 a0.name).bind fun v1 =>
 some (((v1&&zJ1 a0)&&decide (0≤a0.home))&&decide (a0.home < 4))
instance zci7 (a0:aI):OkP (zj4 a0) 207 [ga a0] (fun r=>.bool r):=ok1 (zj4.eq_1 a0) Tryz.f207 []
attribute [local irreducible] zj4
def zay3 (a0:aO) (a1:List aM) (j1:Unit):Option (Nat⊕(Bool×(List aM))) :=
 gd (a1.length+1≤4294967296) <|
 some (.inr (true,(a1++[a0.bB])))
def zaj9 (a0:aO) (a1:List aM) (g1:Int):Option (Int⊕(Unit⊕(Nat⊕(Bool×(List aM))))) :=
 (if (decide (g1 < ((a1.length:Nat):Int)))=true then
  gd (0≤g1∧g1 < ((a1.length:Nat):Int)) <|
  (if (decide (a1.getD g1.toNat aM.zero=a0.bB))=true then
   some (.inr (.inr (.inr (true,a1))))
  else
   some (.inl (i64.wrap (g1+1))))
 else
  some (.inr (.inl ())))
def zaP6 (j2:(List aM)):Option (Nat⊕(Bool×(List aM))) :=
 some (.inr (true,j2))
def zaa4 (a90:(aO→List aM→Option (Nat⊕(Bool×(List aM))))) (a0:aO) (g2:Int×(List aM)):Option ((Int×(List aM))⊕((List aM)⊕(Nat⊕(Bool×(List aM))))) :=
 (if (decide (g2.1 < (a0.bA.length:Int)))=true then
  gd (0≤g2.1∧g2.1 < (a0.bA.length:Int)) <|
  (a90 (a0.bA.getD g2.1.toNat aO.zero) g2.2).bind fun v2=>match v2 with
  | .inl v2 =>
   some (.inr (.inr (.inl g2.2.length)))
  | .inr v2 =>
   (if (!v2.1)=true then
    some (.inr (.inr (.inl g2.2.length)))
   else
    some (.inl ((i64.wrap (g2.1+1)),v2.2)))
 else
  some (.inr (.inl g2.2)))
def zx4 (a90:(aO→List aM→Option (Nat⊕(Bool×(List aM))))) (a0:aO) (a1:List aM):Option (Nat⊕(Bool×(List aM))) :=
 (if (decide ((a0.bA.length:Int)=0))=true then
  ((if (decide (a0.k=0))=true then zh7 a0.bB.name else some false)).bind fun v1 =>
  (if (((!decide (a0.k=0))||(!v1))||(!(zp6 a0.bB.aK)))=true then
   some (.inr (false,a1))
  else
   (zc0 (zaj9 a0 a1) 0).bind (fun|.inl z=>zay3 a0 a1 z|.inr z=>some z))
 else
  (if ((decide (a0.k < 1)||decide ((a0.bA.length:Int) < a0.k))||(!decide (a0.bB={ aM.zero with  })))=true then
   some (.inr (false,a1))
  else
   (zc0 (zaa4 a90 a0) (0,a1)).bind (fun|.inl z=>zaP6 z|.inr z=>some z)))
def zz2:Nat→(aO→List aM→Option (Nat⊕(Bool×(List aM))))
 | 0=>fun _ _=>none
 | n+1=>zx4 (zz2 n)
def zr4 (a0:aO) (a1:List aM):Option (Nat⊕(Bool×(List aM))):=zz2 (_root_.SizeOf.sizeOf a0+1) a0 a1
@[reducible,instance] def zdU4 (a90:(aO→List aM→Option (Nat⊕(Bool×(List aM))))) (a0:aO) (a1:List aM) {T1:Type} (v1:T1):=mkJ (zx4 a90 a0 a1,v1) 0 (@zay3.eq_1 a0 a1) fun (j1:Unit)=>⟨[(0,.own 1 0 a1.length),(3,.ptr 2 0 0)],[(1,sx a1),(2,bx a0)],3⟩
@[reducible,instance] def zdU5 (a0:aO) (a1:List aM) {T:Type} (x:T):=mkL x (@zaj9.eq_1 a0 a1) fun (g1:Int)=>⟨[(0,.own 1 0 a1.length),(3,.ptr 2 0 0),(6,.int .i64 g1)],[(1,sx a1),(2,bx a0)],3⟩
@[reducible,instance] def zdU6 (a90:(aO→List aM→Option (Nat⊕(Bool×(List aM))))) (a0:aO) (a1:List aM):=mkJ (zx4 a90 a0 a1) 2 (@zaP6.eq_1) fun (j2:(List aM))=>⟨[(0,.own 1 0 j2.length)],[(1,sx j2)],2⟩
@[reducible,instance] def zdU7 (a90:(aO→List aM→Option (Nat⊕(Bool×(List aM))))) (a0:aO) {T:Type} (x:T):=mkL x (@zaa4.eq_1 a90 a0) fun (g2:Int×(List aM))=>⟨[(0,.own 1 0 g2.2.length),(3,.ptr 2 0 0),(7,.int .i64 g2.1)],[(1,sx g2.2),(2,bx a0)],3⟩
abbrev zZ1 (g:(aO→List aM→Option (Nat⊕(Bool×(List aM))))):Prop:=∀ (a0:aO) (a1:List aM),OkL (g a0 a1) 242 [.own 0 0 a1.length,.agg (aO.enc a0)] [(0,⟨false,3,aM.enc aM.zero,a1.map aM.enc⟩)] 1 (fun r=>.tup [.own 1 0 r,.bool false]) (fun r=>[]) 2
abbrev zZ2 (g:(aO→List aM→Option (Nat⊕(Bool×(List aM))))):Prop:=∀ (a0:aO) (a1:List aM),OkR (g a0 a1) 242 [.own 0 0 a1.length,.agg (aO.enc a0)] [(0,⟨false,3,aM.enc aM.zero,a1.map aM.enc⟩)] 1 (fun r=>.tup [.own 1 0 r.2.length,.bool r.1]) (fun r=>[(1,⟨false,3,aM.enc aM.zero,r.2.map aM.enc⟩)]) 2
theorem zbv1 (a90:(aO→List aM→Option (Nat⊕(Bool×(List aM))))) (h0:zZ1 a90) (h1:zZ2 a90):zZ1 (zx4 a90):=fun a0 a1=>⟨fun r h=>by
 refine zaz8 Tryz.f242 [(4,1)] [.own 1 0 r,.bool false] fun E hG hN hK=>?_
 have hm:Mk (zx4 a90 a0 a1):=trivial
 unfold zx4 at h
 exact gogo⟩
theorem zbv2 (a90:(aO→List aM→Option (Nat⊕(Bool×(List aM))))) (h0:zZ1 a90) (h1:zZ2 a90):zZ2 (zx4 a90):=fun a0 a1=>⟨fun r h=>by
 refine zaz8 Tryz.f242 [(4,1)] [.own 1 0 r.2.length,.bool r.1] fun E hG hN hK=>?_
 have hm:Mk (zx4 a90 a0 a1):=trivial
 unfold zx4 at h
 exact gogo⟩
theorem zaT9:∀ n,zZ1 (zz2 n)∧zZ2 (zz2 n):=zaR5 (P:=fun g=>zZ1 g∧zZ2 g) ⟨fun _ _=>⟨fun _ h=>nomatch h⟩,fun _ _=>⟨fun _ h=>nomatch h⟩⟩ fun n h=>⟨zbv1 _ h.1 h.2,zbv2 _ h.1 h.2⟩
instance zaP7:zZ1 zr4:=fun a0 a1=>(zaT9 _).1 a0 a1
instance zaP8:zZ2 zr4:=fun a0 a1=>(zaT9 _).2 a0 a1
attribute [local irreducible] zr4
end
end Ab
end Go.Proofs.YtogpinppgncpmaaGreatDoor
