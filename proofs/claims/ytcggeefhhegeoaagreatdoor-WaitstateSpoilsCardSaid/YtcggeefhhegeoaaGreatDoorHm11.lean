import Derived.Test.YtcggeefhhegeoaaGreatDoorHm8
import Derived.Test.YtcggeefhhegeoaaGreatDoorSort
import Derived.Test.YtcggeefhhegeoaaGreatDoorHm2
import Derived.Test.YtcggeefhhegeoaaGreatDoorHm4
namespace Go.Proofs.YtcggeefhhegeoaaGreatDoor
namespace Ab
open IntKind (i64 u64 u8)
set_option linter.unusedSimpArgs false
set_option linter.unusedVariables false
set_option linter.defProp false
set_option maxRecDepth 100000
set_option maxHeartbeats 1000000
noncomputable section
attribute [local irreducible] zk1 za4 zd6 za7 zg5 zj4 zl7 zg2 zl8 zg1 zd7 zk9 ze5 zi3 ze3 zi6 za8 za0 ze9 zl0 zn1 zi9 zi2 zg9 zh2 zg6 zc8 zf0 zh3 zg3 zf1 zb0 zb1 zh4 zj0 zf2 zo5 f_ref08_holds zk2 zc6 zn7 zn8 zn3 ze6 zf6 zm4 zn9 zh5 zl1 zm7 zd5 zj5 ze7 zf7 zo8 zo0 zb3 zc4 zi1 zj7 zp6 zh7 za6 za1 zb8 zi0 zf8 zo1 zj8 ze1 ze4 zd8 zj9 zf9 zr5 zi7 zd3 zp7 zi8
def zq1 (a0:aB):Option (List aX) :=
 (zb3 [a0.aI,a0.aV]).bind fun v1 =>
 some v1
instance zde4 (a0:aB):OkP (zq1 a0) 90 [ga a0] (fun r=>la r):=ok1 (zq1.eq_1 a0) Tryz.f90 []
attribute [local irreducible] zq1
def ltS (x y:aJ):Prop:=x.site < y.site∨x.site=y.site∧(x.inc < y.inc∨x.inc=y.inc∧x.num < y.num)
instance (x y:aJ):Decidable (ltS x y):=by unfold ltS; infer_instance
def cmpS (x y:aJ):Int:=if ltS x y then -1 else if ltS y x then 1 else 0
theorem zaV2 (x y:aJ):ltOf cmpS x y=decide (ltS x y):=by
 unfold ltOf cmpS
 by_cases h:ltS x y
 · simp [h]
 · by_cases h2:ltS y x <;> simp [h,h2]
theorem zde5:Go.Sort.SWO (ltOf cmpS) where
 irrefl x:=by rw [zaV2]; simp [ltS]
 trans x y z h1 h2:=by
  rw [zaV2,cB] at *; unfold ltS at *; omega
 ntrans x y z h1 h2:=by
  rw [zaV2,dD] at *; unfold ltS at *; omega
theorem zcC9 (x y:aJ) (h1:ltOf cmpS x y=false) (h2:ltOf cmpS y x=false):x=y:=by
 rw [zaV2,dD] at *; unfold ltS at *; rw [aJ.ext_iff]; omega
theorem zdt0 (p q:aJ):zd8 p q=some (cmpS p q):=by
 unfold zd8 zh3
 have e:∀ (x y z:Int) (i:Nat) (h:[x,y,z].length=3),Arr.get (⟨[x,y,z],h⟩:Arr Int 3) i 0=match i with|0=>x|1=>y|_=>z:=by
  intro x y z i h
  match i with
  | 0=>rfl
  | 1=>rfl
  | 2=>rfl
  | n+3 =>
    have:¬ (n+3 < 3):=by omega
    simp [Arr.get,zN5,this]
 have w1:i64.wrap (0+1)=1:=by decide
 have w2:i64.wrap (1+1)=2:=by decide
 have w3:i64.wrap (2+1)=3:=by decide
 have s3:zp4 ⟨[p.site,p.inc,p.num],rfl⟩ ⟨[q.site,q.inc,q.num],rfl⟩ 3=some (.inr (.inl ())):=by unfold zp4; simp
 have s2:zp4 ⟨[p.site,p.inc,p.num],rfl⟩ ⟨[q.site,q.inc,q.num],rfl⟩ 2=some (if p.num < q.num then .inr (.inr (-1)) else if q.num < p.num then .inr (.inr 1) else .inl 3):=by
  unfold zp4
  rw [bY (by decide),zh6 (by decide),zh6 (by decide),zh6 (by decide)]
  simp only [e,show (2:Int).toNat=2 from rfl,cB,w3]
  by_cases h:p.num < q.num
  · simp [h]
  · by_cases h2:q.num < p.num <;> simp [h,h2]
 have s1:zp4 ⟨[p.site,p.inc,p.num],rfl⟩ ⟨[q.site,q.inc,q.num],rfl⟩ 1=some (if p.inc < q.inc then .inr (.inr (-1)) else if q.inc < p.inc then .inr (.inr 1) else .inl 2):=by
  unfold zp4
  rw [bY (by decide),zh6 (by decide),zh6 (by decide),zh6 (by decide)]
  simp only [e,show (1:Int).toNat=1 from rfl,cB,w2]
  by_cases h:p.inc < q.inc
  · simp [h]
  · by_cases h2:q.inc < p.inc <;> simp [h,h2]
 have s0:zp4 ⟨[p.site,p.inc,p.num],rfl⟩ ⟨[q.site,q.inc,q.num],rfl⟩ 0=some (if p.site < q.site then .inr (.inr (-1)) else if q.site < p.site then .inr (.inr 1) else .inl 1):=by
  unfold zp4
  rw [bY (by decide),zh6 (by decide),zh6 (by decide),zh6 (by decide)]
  simp only [e,show (0:Int).toNat=0 from rfl,cB,w1]
  by_cases h:p.site < q.site
  · simp [h]
  · by_cases h2:q.site < p.site <;> simp [h,h2]
 unfold cmpS ltS
 by_cases a1:p.site < q.site
 · rw [ze0,s0]; simp [a1]
 · by_cases a2:q.site < p.site
   · rw [ze0,s0]
     have:¬ p.site=q.site:=by omega
     simp [a1,a2,this]
   · have h1:p.site=q.site:=by omega
     by_cases b1:p.inc < q.inc
     · rw [ze0,s0]; simp only [a1,a2,cD]; rw [ze0,s1]; simp [b1,h1]
     · by_cases b2:q.inc < p.inc
       · have:¬ p.inc=q.inc:=by omega
         rw [ze0,s0]; simp only [a1,a2,cD]; rw [ze0,s1]; simp [b1,b2,h1,this]
       · have h2:p.inc=q.inc:=by omega
         rw [ze0,s0]; simp only [a1,a2,cD]; rw [ze0,s1]; simp only [b1,b2,cD]; rw [ze0,s2]
         by_cases c1:p.num < q.num
         · simp [c1,h1,h2]
         · by_cases c2:q.num < p.num
           · simp [c1,c2,h1,h2]
           · simp only [c1,c2,cD]; rw [ze0,s3]; simp [h1,h2,zai3]
theorem zam8:SlLaysF0.n6 C.P ⟨fun|6=>112|15=>148|14=>147|28=>189|29=>190|20=>181|21=>182|22=>183|23=>184|24=>185|25=>186|26=>187|27=>188|46=>232|47=>233|48=>234|49=>235|50=>236|57=>266|n=>n,fun|22=>38|24=>44|25=>118|39=>174|53=>236|55=>136|46=>229|45=>228|50=>233|66=>266|70=>192|76=>293|77=>220|n=>n,fun n=>n⟩ where
 mixed:=zN6
 f6:=⟨ "slices.SortFunc[[]clusterlocks/api.Proc,clusterlocks/api.Proc]",by decide,Tryz.func112.trans (dR some (by kernel_rfl))⟩
 f14:=⟨ "slices.pdqsortCmpFunc[clusterlocks/api.Proc]",by decide,Tryz.func147.trans (dR some (by kernel_rfl))⟩
 f15:=Tryz.func148.trans (dR some (by kernel_rfl))
 f20:=⟨ "slices.insertionSortCmpFunc[clusterlocks/api.Proc]",by decide,Tryz.func181.trans (dR some (by kernel_rfl))⟩
 f21:=⟨ "slices.heapSortCmpFunc[clusterlocks/api.Proc]",by decide,Tryz.func182.trans (dR some (by kernel_rfl))⟩
 f22:=⟨ "slices.breakPatternsCmpFunc[clusterlocks/api.Proc]",by decide,Tryz.func183.trans (dR some (by kernel_rfl))⟩
 f23:=⟨ "slices.choosePivotCmpFunc[clusterlocks/api.Proc]",by decide,Tryz.func184.trans (dR some (by kernel_rfl))⟩
 f24:=⟨ "slices.reverseRangeCmpFunc[clusterlocks/api.Proc]",by decide,Tryz.func185.trans (dR some (by kernel_rfl))⟩
 f25:=⟨ "slices.partialInsertionSortCmpFunc[clusterlocks/api.Proc]",by decide,Tryz.func186.trans (dR some (by kernel_rfl))⟩
 f26:=⟨ "slices.partitionEqualCmpFunc[clusterlocks/api.Proc]",by decide,Tryz.func187.trans (dR some (by kernel_rfl))⟩
 f27:=⟨ "slices.partitionCmpFunc[clusterlocks/api.Proc]",by decide,Tryz.func188.trans (dR some (by kernel_rfl))⟩
 f28:=Tryz.func189.trans (dR some (by kernel_rfl))
 f29:=Tryz.func190.trans (dR some (by kernel_rfl))
 f46:=⟨ "slices.siftDownCmpFunc[clusterlocks/api.Proc]",by decide,Tryz.func232.trans (dR some (by kernel_rfl))⟩
 f47:=Tryz.func233.trans (dR some (by kernel_rfl))
 f48:=Tryz.func234.trans (dR some (by kernel_rfl))
 f49:=⟨ "slices.medianAdjacentCmpFunc[clusterlocks/api.Proc]",by decide,Tryz.func235.trans (dR some (by kernel_rfl))⟩
 f50:=⟨ "slices.medianCmpFunc[clusterlocks/api.Proc]",by decide,Tryz.func236.trans (dR some (by kernel_rfl))⟩
 f57:=⟨ "slices.order2CmpFunc[clusterlocks/api.Proc]",by decide,Tryz.func266.trans (dR some (by kernel_rfl))⟩
 t0:=Tryz.underlying0
 a0:=Tryz.isAgg0
 z0:=Tryz.sizeOf0
 v0:=Tryz.zeroValue0
 t3:=Tryz.underlying3
 a3:=Tryz.isAgg3
 z3:=Tryz.sizeOf3
 v3:=Tryz.zeroValue3
 t4:=Tryz.underlying4
 a4:=Tryz.isAgg4
 z4:=Tryz.sizeOf4
 v4:=Tryz.zeroValue4
 t5:=Tryz.underlying5
 a5:=Tryz.isAgg5
 z5:=Tryz.sizeOf5
 v5:=Tryz.zeroValue5
 t9:=Tryz.underlying9
 a9:=Tryz.isAgg9
 z9:=Tryz.sizeOf9
 v9:=Tryz.zeroValue9
 t22:=Tryz.underlying38
 a22:=Tryz.isAgg38
 z22:=Tryz.sizeOf38
 v22:=Tryz.zeroValue38
 t25:=Tryz.underlying118
 a25:=Tryz.isAgg118
 z25:=Tryz.sizeOf118
 v25:=Tryz.zeroValue118
 t39:=Tryz.underlying174
 a39:=Tryz.isAgg174
 z39:=Tryz.sizeOf174
 v39:=Tryz.zeroValue174
 t45:=Tryz.underlying228
 a45:=Tryz.isAgg228
 z45:=Tryz.sizeOf228
 v45:=Tryz.zeroValue228
 t46:=Tryz.underlying229
 a46:=Tryz.isAgg229
 z46:=Tryz.sizeOf229
 v46:=Tryz.zeroValue229
 t50:=Tryz.underlying233
 a50:=Tryz.isAgg233
 z50:=Tryz.sizeOf233
 v50:=Tryz.zeroValue233
 t53:=Tryz.underlying236
 a53:=Tryz.isAgg236
 z53:=Tryz.sizeOf236
 v53:=Tryz.zeroValue236
 t55:=Tryz.underlying136
 a55:=Tryz.isAgg136
 z55:=Tryz.sizeOf136
 v55:=Tryz.zeroValue136
 t66:=Tryz.underlying266
 a66:=Tryz.isAgg266
 z66:=Tryz.sizeOf266
 v66:=Tryz.zeroValue266
 t70:=Tryz.underlying192
 a70:=Tryz.isAgg192
 z70:=Tryz.sizeOf192
 v70:=Tryz.zeroValue192
 t76:=Tryz.underlying293
 a76:=Tryz.isAgg293
 z76:=Tryz.sizeOf293
 v76:=Tryz.zeroValue293
 t77:=Tryz.underlying220
 a77:=Tryz.isAgg220
 z77:=Tryz.sizeOf220
 v77:=Tryz.zeroValue220
def zb6 (a0:List aJ):Option (List aJ):=gd (a0.length≤4294967296) (some (a0.mergeSort fun x y=>!decide (y.site < x.site∨y.site=x.site∧(y.inc < x.inc∨y.inc=x.inc∧y.num < x.num))))
theorem zam1 (a0 r:List aJ) (h:zb6 a0=some r):r.length=a0.length:=by
 obtain ⟨_,h⟩:=zg0 h
 obtain rfl:=dN h
 exact iN _
theorem zam2 (a0 r:List aJ) (h:zb6 a0=some r):MFn C 112 [.own 0 0 a0.length,.clo 68 []] [(0,sx a0)] 1 (.tup []) [(0,sx r)] 1:=by
 obtain ⟨hl,h⟩:=zg0 h
 obtain rfl:=dN h
 haveI:Inhabited aJ:=⟨aJ.zero⟩
 have e:(fun x y:aJ=>!decide (y.site < x.site∨y.site=x.site∧(y.inc < x.inc∨y.inc=x.inc∧y.num < x.num)))=fun x y=>!(ltOf cmpS) y x:=by
  funext x y
  rw [zaV2]
  exact dR not (iA.2 jN)
 rw [e]
 exact zde3 zam8 aJ.enc 3 aJ.len (by decide) (fun x=>(aJ.laws x).2.1) Tryz.isAgg44 Tryz.sizeOf44 cmpS zde5 zcC9 68 (fun x y=>(zaH2 x y).ok _ (zdt0 x y)) (enters_of Tryz.func68 (by kernel_rfl) rfl) rfl _ a0 hl
attribute [local irreducible] zb6
def zaM7 (j1:(List Int)):Option (List Int) :=
 some j1
def zz6 (a1:aJ) (g1:(List Int)×Int):Option (((List Int)×Int)⊕(List Int)) :=
 (if (decide (g1.2 < 3))=true then
  gd (0≤g1.2∧g1.2 < 3) <|
  (ze6 g1.1 (u64.wrap (Arr.get (⟨[a1.site,a1.inc,a1.num],rfl⟩:Arr Int 3) g1.2.toNat 0))).bind fun v1 =>
  some (.inl (v1,i64.wrap (g1.2+1)))
 else
  some (.inr g1.1))
def zk0 (a0:List Int) (a1:aJ):Option (List Int) :=
 gd (a0.length≤4294967296) <|
 (if (!(zb2 a1))=true then
  some a0
 else
  (zc0 (zz6 a1) (a0,0)).bind (fun z=>zaM7 z))
@[reducible,instance] def zdR5 (a0:List Int) (a1:aJ):=mkJ (zk0 a0 a1) 0 (@zaM7.eq_1) fun (j1:(List Int))=>⟨[(5,.sl (j1.map (eI .u8)))],[],0⟩
@[reducible,instance] def zdR6 (a1:aJ) {T:Type} (x:T):=mkL x (@zz6.eq_1 a1) fun (g1:(List Int)×Int)=>⟨[(5,.sl (g1.1.map (eI .u8))),(20,.agg (Arr.enc (eI .i64) (⟨[a1.site,a1.inc,a1.num],rfl⟩:Arr Int 3))),(21,.int .i64 g1.2)],[],0⟩
instance zcQ8 (a0:List Int) (a1:aJ):OkP (zk0 a0 a1) 32 [.sl (a0.map (eI .u8)),ga a1] (fun r=>.sl (r.map (eI .u8))):=⟨fun r h=>by
 refine zak7 Tryz.f32 [] fun E hG hN hK=>?_
 have hm:Mk (zk0 a0 a1):=trivial
 unfold zk0 at h
 refine za2 (za5 hG ?_)
 refine za2 ?_
 obtain ⟨hb2,h⟩:=zg0 h
 refine za5 hG ?_
 refine g_gh (.fz [1]) ?_
 exact gogo⟩
attribute [local irreducible] zk0
def zg8 (a0:bN) (a1:aJ):Option (Bool×aJ) :=
 (zd8 a0.aP a1).bind fun v1 =>
 some ((decide (v1=0)),a1)
instance zce8 (a0:bN) (a1:aJ):OkM (zg8 a0 a1) 88 [ga a0,.ptr 0 0 0] [(0,bx a1)] 1 (fun r=>.bool r.1) (fun r=>[(0,bx r.2)]) 1:=okm (zg8.eq_1 a0 a1) (fun r=>[.bool r.1]) Tryz.f88 []
attribute [local irreducible] zg8
def zaw2 (j1:(List aM)):Option (List aM) :=
 some j1
def zaw3 (a90:(aN→List aM→Option (List aM))) (a0:aN) (g1:Int×(List aM)):Option ((Int×(List aM))⊕(List aM)) :=
 (if (decide (g1.1 < (a0.bE.length:Int)))=true then
  gd (0≤g1.1∧g1.1 < (a0.bE.length:Int)) <|
  (a90 (a0.bE.getD g1.1.toNat aN.zero) g1.2).bind fun v2 =>
  some (.inl ((i64.wrap (g1.1+1)),v2))
 else
  some (.inr g1.2))
def zV3 (a90:(aN→List aM→Option (List aM))) (a0:aN) (a1:List aM):Option (List aM) :=
 (if (decide ((a0.bE.length:Int)=0))=true then
  (za6 a1 a0.bF).bind fun v1 =>
  (if v1=true then
   some a1
  else
   gd (a1.length+1≤4294967296) <|
   some (a1++[a0.bF]))
 else
  (zc0 (zaw3 a90 a0) (0,a1)).bind (fun z=>zaw2 z))
def zak2:Nat→(aN→List aM→Option (List aM))
 | 0=>fun _ _=>none
 | n+1=>zV3 (zak2 n)
def zj3 (a0:aN) (a1:List aM):Option (List aM):=zak2 (_root_.SizeOf.sizeOf a0+1) a0 a1
@[reducible,instance] def zdR7 (a90:(aN→List aM→Option (List aM))) (a0:aN) (a1:List aM):=mkJ (zV3 a90 a0 a1) 0 (@zaw2.eq_1) fun (j1:(List aM))=>⟨[(0,.own 1 0 j1.length)],[(1,sx j1)],2⟩
@[reducible,instance] def zdR8 (a90:(aN→List aM→Option (List aM))) (a0:aN) {T:Type} (x:T):=mkL x (@zaw3.eq_1 a90 a0) fun (g1:Int×(List aM))=>⟨[(0,.own 1 0 g1.2.length),(22,la a0.bE),(23,.int .i64 (a0.bE.length:Int)),(24,.int .i64 g1.1)],[(1,sx g1.2)],2⟩
abbrev zab4 (g:(aN→List aM→Option (List aM))):Prop:=∀ (a0:aN) (a1:List aM),OkM (g a0 a1) 89 [.own 0 0 a1.length,.agg (aN.enc a0)] [(0,⟨false,3,aM.enc aM.zero,a1.map aM.enc⟩)] 1 (fun r=>.own 1 0 r.length) (fun r=>[(1,⟨false,3,aM.enc aM.zero,r.map aM.enc⟩)]) 2
theorem zaZ6 (a90:(aN→List aM→Option (List aM))) (hrc:zab4 a90):zab4 (zV3 a90):=fun a0 a1=>okm (zV3.eq_1 a90 a0 a1) (fun r=>[.own 1 0 r.length]) Tryz.f89 [(4,1)]
theorem zaZ7:∀ n,zab4 (zak2 n):=zaM3 (fun _ _=>⟨fun _ h=>nomatch h⟩) fun n=>zaZ6 _
instance zcl1:zab4 zj3:=fun a0 a1=>zaZ7 _ a0 a1
attribute [local irreducible] zj3
def zg4 (a0 a1:bN):Option Bool :=
 ((if (decide (a0.aP=a1.aP)&&decide (a0.gen=a1.gen))=true then zf9 a0.bS a1.bS else some false)).bind fun v1 =>
 some ((decide (a0.aP=a1.aP)&&decide (a0.gen=a1.gen))&&v1)
instance zco9 (a0 a1:bN):OkP (zg4 a0 a1) 41 [ga a0,ga a1] (fun r=>.bool r):=ok1 (zg4.eq_1 a0 a1) Tryz.f41 []
attribute [local irreducible] zg4
def zaQ9 (j1:(List aM)):Option (List aM) :=
 some j1
def zak9 (a0:List aB) (a1:aJ) (g1:Int×(List aM)):Option ((Int×(List aM))⊕(List aM)) :=
 (if (decide (g1.1 < (a0.length:Int)))=true then
  gd (0≤g1.1∧g1.1 < (a0.length:Int)) <|
  (zi1 (a0.getD g1.1.toNat aB.zero) a1).bind fun v1 =>
  (if v1.2=true then
   gd (0≤g1.1∧g1.1 < (a0.length:Int)) <|
   gd (g1.2.length+1≤4294967296) <|
   some (.inl ((i64.wrap (g1.1+1)),(g1.2++[(⟨((a0.getD g1.1.toNat aB.zero).aA).name,v1.1⟩:aM)])))
  else
   some (.inl ((i64.wrap (g1.1+1)),g1.2)))
 else
  some (.inr g1.2))
def zo4 (a0:List aB) (a1:aJ):Option (List aM) :=
 (zc0 (zak9 a0 a1) (0,[])).bind (fun z=>zaQ9 z)
@[reducible,instance] def zdR9 a0 a1:=mkJ (zo4 a0 a1) 0 (@zaQ9.eq_1) fun (j1:(List aM))=>⟨[(5,.own 0 0 j1.length)],[(0,sx j1)],1⟩
@[reducible,instance] def zdS0 (a0:List aB) (a1:aJ) {T:Type} (x:T):=mkL x (@zak9.eq_1 a0 a1) fun (g1:Int×(List aM))=>⟨[(0,la a0),(3,.ptr 0 0 0),(5,.own 1 0 g1.2.length),(6,.int .i64 g1.1)],[(0,bx a1),(1,sx g1.2)],2⟩
instance zcX6 (a0:List aB) (a1:aJ):OkP (zo4 a0 a1) 155 [la a0,ga a1] (fun r=>la r):=ok1 (zo4.eq_1 a0 a1) Tryz.f155 [(5,1)]
attribute [local irreducible] zo4
def zm9 (a0:List Int) (a1:aC):Option (List Int) :=
 (zj7 a0 a1.mode).bind fun v1 =>
 (zj7 v1 a1.aT).bind fun v2 =>
 some v2
instance zcX7 (a0:List Int) (a1:aC):OkP (zm9 a0 a1) 55 [.sl (a0.map (eI .u8)),ga a1] (fun r=>.sl (r.map (eI .u8))):=ok1 (zm9.eq_1 a0 a1) Tryz.f55 []
attribute [local irreducible] zm9
def zf5 (a0:aO):Option (ByteArray×aO) :=
 (if (!decide (a0.e=0))=true then
  some ((⟨#[]⟩:ByteArray),a0)
 else
  gd (0≤a0.at_∧a0.at_≤(a0.b.length:Int)∧(a0.b.length:Int)≤(a0.b.length:Int)) <|
  (zp6 (a0.b.drop a0.at_.toNat)).bind fun v1 =>
  (if (!decide (v1.2.2=0))=true then
   some ((⟨#[]⟩:ByteArray),{ a0 with e:=v1.2.2 })
  else
   some (v1.1,{ a0 with at_:=(i64.wrap (a0.at_+v1.2.1)) })))
instance zaw4 (a0:aO):OkM (zf5 a0) 101 [.ptr 0 0 0] [(0,bx a0)] 1 (fun r=>.str r.1) (fun r=>[(0,bx r.2)]) 1:=okm (zf5.eq_1 a0) (fun r=>[.str r.1]) Tryz.f101 []
attribute [local irreducible] zf5
def zq4 (a0:Int):Option aJ :=
 (zn7 a0 8).bind fun v1 =>
 some (⟨(v1.tmod 4),1,i64.wrap (1+i64.wrap (v1.tdiv 4))⟩:aJ)
instance zcl2 (a0:Int):OkP (zq4 a0) 22 [.int .i64 a0] (fun r=>ga r):=ok1 (zq4.eq_1 a0) Tryz.f22 []
attribute [local irreducible] zq4
def zl5 (a0:aN):Option Int :=
 (ze3 a0 1 0).bind fun v1 =>
 some v1.1
instance zbB4 (a0:aN):OkP (zl5 a0) 108 [ga a0] (fun r=>.int .i64 r):=ok1 (zl5.eq_1 a0) Tryz.f108 []
attribute [local irreducible] zl5
def zr4 (a2:aU) (v1:Int×Int×Int) (j1:Int):Option (Int×aU) :=
 (if (!decide (j1=0))=true then
  some (0,{ a2 with bC:={ a2.bC with err:=j1 } })
 else
  gd (0≤v1.2.1∧v1.2.1≤(a2.bC.rest.length:Int)∧(a2.bC.rest.length:Int)≤(a2.bC.rest.length:Int)) <|
  some ((i64.wrap v1.1),{ a2 with bC:={ a2.bC with rest:=(a2.bC.rest.drop v1.2.1.toNat) } }))
def zb7 (a0 a1:Int) (a2:aU):Option (Int×aU) :=
 (if (!decide (a2.bC.err=0))=true then
  some (0,a2)
 else
  (zi6 a2.bC.rest).bind fun v1 =>
  (if (decide (v1.2.2=0)&&decide (u64.wrap a0 < v1.1))=true then
   zr4 a2 v1 a1
  else
   zr4 a2 v1 v1.2.2))
@[reducible,instance] def zdS1 a0 a1 (a2:aU) (v1:Int×Int×Int):=mkJ (zb7 a0 a1 a2,v1) 999 (@zr4.eq_1 a2 v1) fun (j1:Int)=>⟨[(0,.ptr 0 0 0),(7,.int .u64 v1.1),(8,.int .i64 v1.2.1),(9,.int .i64 j1)],[(0,bx a2)],1⟩
instance zbH4 (a0 a1:Int) (a2:aU):OkM (zb7 a0 a1 a2) 77 [.ptr 0 0 0,.int .i64 a0,.int .i64 a1] [(0,bx a2)] 1 (fun r=>.int .i64 r.1) (fun r=>[(0,bx r.2)]) 1:=okm (zb7.eq_1 a0 a1 a2) (fun r=>[.int .i64 r.1]) Tryz.f77 []
attribute [local irreducible] zb7
def zn4 (a0:List Int):Option (ByteArray×Int×Int) :=
 (zi6 a0).bind fun v1 =>
 (if (!decide (v1.2.2=0))=true then
  some ((⟨#[]⟩:ByteArray),0,v1.2.2)
 else
  (if (decide (1024 < v1.1))=true then
   some ((⟨#[]⟩:ByteArray),0,3)
  else
   (if (decide (i64.wrap ((a0.length:Int) - v1.2.1) < i64.wrap v1.1))=true then
    some ((⟨#[]⟩:ByteArray),0,5)
   else
    gd (0≤v1.2.1∧v1.2.1≤i64.wrap (v1.2.1+i64.wrap v1.1)∧i64.wrap (v1.2.1+i64.wrap v1.1)≤(a0.length:Int)) <|
    some ((zam3 ((a0.take ((i64.wrap (v1.2.1+i64.wrap v1.1)).toNat)).drop v1.2.1.toNat)),i64.wrap (v1.2.1+i64.wrap v1.1),0))))
instance zdo4 (a0:List Int):OkP (zn4 a0) 123 [.sl (a0.map (eI .u8))] (fun r=>.tup [.str r.1,.int .i64 r.2.1,.int .i64 r.2.2]):=ok1 (zn4.eq_1 a0) Tryz.f123 []
attribute [local irreducible] zn4
def zd9 (a0:bN):Option bN :=
 (zd6 a0.bS).bind fun v1 =>
 some ({ a0 with bS:=v1 })
instance zaZ8 (a0:bN):OkP (zd9 a0) 64 [ga a0] (fun r=>ga r):=⟨fun r h=>by
 refine zak7 Tryz.f64 [] fun E hG hN hK=>?_
 have hm:Mk (zd9 a0):=trivial
 unfold zd9 at h
 refine za2 (za5 hG ?_)
 refine za2 (za5 hG ?_)
 obtain ⟨v1,hv1,h⟩:=zc2 h
 have hm:=mkP hm v1
 refine zw4 (fun hg=>(zaZ4 a0.bS).ok _ hv1) ?_
 refine za2 (za5 hG ?_)
 refine zx8 ?_
 exact zae1 h (by intro e; subst e; simp [aJ.enc,aM.enc,aC.enc])⟩
attribute [local irreducible] zd9
def zv4 (a0:aH) (a1:aC):Bool :=
 (if (!(zL1 a0))=true then
  false
 else
  (if (decide (a0.kind=1))=true then
   (zz5 a1.mode&&decide (a1.aT=0))
  else
   ((decide (a1.mode=0)&&decide (1≤a1.aT))&&decide (a1.aT≤a0.aT))))
instance zca1 (a0:aH) (a1:aC):OkT 151 [.agg (aH.enc a0),.agg (aC.enc a1)] (.bool (zv4 a0 a1)):=ok2 (fun r=>.bool r) (zv4.eq_1 a0 a1) Tryz.f151 []
def zP6 (a0 a1:Int):Bool :=
 (if ((((!(zz5 a0))||(!(zz5 a1)))||decide (a0=5))||decide (a1=5))=true then
  false
 else
  ((decide (a0=1)||decide (a1=1))||(decide (a0=a1)&&(!decide (a0=4)))))
instance zcA1 (a0 a1:Int):OkT 275 [.int .i64 a0,.int .i64 a1] (.bool (zP6 a0 a1)):=ok2 (fun r=>.bool r) (zP6.eq_1 a0 a1) Tryz.f275 []
def zS0 (a0 a1:Int):Bool :=
 (if ((!(zz5 a0))||(!(zz5 a1)))=true then
  false
 else
  (((decide (a0=a1)||decide (a0=5))||decide (a1=1))||(decide (a0=4)&&(!decide (a1=5)))))
instance zcX8 (a0 a1:Int):OkT 237 [.int .i64 a0,.int .i64 a1] (.bool (zS0 a0 a1)):=ok2 (fun r=>.bool r) (zS0.eq_1 a0 a1) Tryz.f237 []
def zj2 (a0:List Int) (a1:aJ):Option (List Int) :=
 (if (!(zj6 a1))=true then
  gd (a0.length≤4294967296) <|
  some a0
 else
  (ze7 a0 (u64.wrap a1.site)).bind fun v1 =>
  (ze7 v1 (u64.wrap a1.inc)).bind fun v2 =>
  (ze7 v2 (u64.wrap a1.num)).bind fun v3 =>
  some v3)
instance zcQ9 (a0:List Int) (a1:aJ):OkP (zj2 a0 a1) 56 [.sl (a0.map (eI .u8)),ga a1] (fun r=>.sl (r.map (eI .u8))):=ok1 (zj2.eq_1 a0 a1) Tryz.f56 [(8,1)]
attribute [local irreducible] zj2
def zaI6 (j1:Int×(Arr Int 3)):Option (aJ×Int×Int) :=
 (if ((decide (1073741824 < Arr.get j1.2 0 0)||decide (1073741824 < Arr.get j1.2 1 0))||decide (1073741824 < Arr.get j1.2 2 0))=true then
  some ({ aJ.zero with  },0,2)
 else
  (if (!(zj6 (⟨(i64.wrap (Arr.get j1.2 0 0)),i64.wrap (Arr.get j1.2 1 0),i64.wrap (Arr.get j1.2 2 0)⟩:aJ)))=true then
   some ({ aJ.zero with  },0,2)
  else
   some ((⟨(i64.wrap (Arr.get j1.2 0 0)),i64.wrap (Arr.get j1.2 1 0),i64.wrap (Arr.get j1.2 2 0)⟩:aJ),j1.1,0)))
def zC4 (a0:List Int) (g1:Int×Int×(Arr Int 3)):Option ((Int×Int×(Arr Int 3))⊕((Int×(Arr Int 3))⊕(aJ×Int×Int))) :=
 (if (decide (g1.2.1 < 3))=true then
  gd (0≤g1.1∧g1.1≤(a0.length:Int)∧(a0.length:Int)≤(a0.length:Int)) <|
  (zk9 (a0.drop g1.1.toNat)).bind fun v1 =>
  (if (!decide (v1.2.2=0))=true then
   some (.inr (.inr ({ aJ.zero with  },0,v1.2.2)))
  else
   gd (0≤g1.2.1∧g1.2.1 < 3) <|
   some (.inl ((i64.wrap (g1.1+v1.2.1)),i64.wrap (g1.2.1+1),Arr.put g1.2.2 g1.2.1.toNat v1.1)))
 else
  some (.inr (.inl (g1.1,g1.2.2))))
def zp8 (a0:List Int):Option (aJ×Int×Int) :=
 (zc0 (zC4 a0) (0,0,Arr.rep 3 0)).bind (fun|.inl z=>zaI6 z|.inr z=>some z)
@[reducible,instance] def zdS2 a0:=mkJ (zp8 a0) 0 (@zaI6.eq_1) fun (j1:Int×(Arr Int 3))=>⟨[(2,.ptr 0 0 0),(5,.ptr 1 0 0),(6,.int .i64 j1.1)],[(0,bx aJ.zero),(1,⟨false,3,Arr.enc (eI .u64) (Arr.rep 3 0),[Arr.enc (eI .u64) j1.2]⟩)],2⟩
@[reducible,instance] def zdS3 (a0:List Int) {T:Type} (x:T):=mkL x (@zC4.eq_1 a0) fun (g1:Int×Int×(Arr Int 3))=>⟨[(0,.sl (a0.map (eI .u8))),(2,.ptr 0 0 0),(5,.ptr 1 0 0),(6,.int .i64 g1.1),(7,.int .i64 g1.2.1)],[(0,bx aJ.zero),(1,⟨false,3,Arr.enc (eI .u64) (Arr.rep 3 0),[Arr.enc (eI .u64) g1.2.2]⟩)],2⟩
instance zdo5 (a0:List Int):OkP (zp8 a0) 103 [.sl (a0.map (eI .u8))] (fun r=>.tup [ga r.1,.int .i64 r.2.1,.int .i64 r.2.2]):=ok1 (zp8.eq_1 a0) Tryz.f103 []
attribute [local irreducible] zp8
def zf3 (a0:aH):Option Bool :=
 (ze4 a0.name).bind fun v1 =>
 some (((v1&&zh0 a0)&&decide (0≤a0.home))&&decide (a0.home < 4))
instance zca2 (a0:aH):OkP (zf3 a0) 173 [ga a0] (fun r=>.bool r):=ok1 (zf3.eq_1 a0) Tryz.f173 []
attribute [local irreducible] zf3
def zc9 (a0:aH) (a1:aC):Bool :=
 (zh0 a0&&(zm1 a1||zb4 a0 a1))
instance zbn7 (a0:aH) (a1:aC):OkT 261 [.agg (aH.enc a0),.agg (aC.enc a1)] (.bool (zc9 a0 a1)):=ok2 (fun r=>.bool r) (zc9.eq_1 a0 a1) Tryz.f261 []
def zay8 (j1:(List Int)):Option (List Int) :=
 some j1
def zL2 (a90:(List Int→aN→Option (List Int))) (a1:aN) (g1:(List Int)×Int):Option (((List Int)×Int)⊕(List Int)) :=
 (if (decide (g1.2 < (a1.bE.length:Int)))=true then
  gd (0≤g1.2∧g1.2 < (a1.bE.length:Int)) <|
  (a90 g1.1 (a1.bE.getD g1.2.toNat aN.zero)).bind fun v5 =>
  some (.inl (v5,i64.wrap (g1.2+1)))
 else
  some (.inr g1.1))
def zH6 (a90:(List Int→aN→Option (List Int))) (a0:List Int) (a1:aN):Option (List Int) :=
 (zc4 a0 [a1.k]).bind fun v1 =>
 (if (decide (a1.k=0))=true then
  (zj9 v1 a1.bF.name).bind fun v2 =>
  (zc4 v2 [a1.bF.aK.mode,a1.bF.aK.aT]).bind fun v3 =>
  some v3
 else
  (zc4 v1 [(a1.bE.length:Int)]).bind fun v4 =>
  (zc0 (zL2 a90 a1) (v4,0)).bind (fun z=>zay8 z))
def zJ4:Nat→(List Int→aN→Option (List Int))
 | 0=>fun _ _=>none
 | n+1=>zH6 (zJ4 n)
def zk7 (a0:List Int) (a1:aN):Option (List Int):=zJ4 (_root_.SizeOf.sizeOf a1+1) a0 a1
@[reducible,instance] def zdS4 (a90:(List Int→aN→Option (List Int))) (a0:List Int) (a1:aN) {T1:Type} (v1:T1) {T2:Type} (v4:T2):=mkJ ((zH6 a90 a0 a1,v1),v4) 0 (@zay8.eq_1) fun (j1:(List Int))=>⟨[(0,.sl (j1.map (eI .u8)))],[],0⟩
@[reducible,instance] def zdS5 (a90:(List Int→aN→Option (List Int))) (a1:aN) {T:Type} (x:T):=mkL x (@zL2.eq_1 a90 a1) fun (g1:(List Int)×Int)=>⟨[(0,.sl (g1.1.map (eI .u8))),(37,la a1.bE),(38,.int .i64 (a1.bE.length:Int)),(39,.int .i64 g1.2)],[],0⟩
abbrev zae5 (g:(List Int→aN→Option (List Int))):Prop:=∀ (a0:List Int) (a1:aN),OkP (g a0 a1) 31 [.sl (a0.map (eI .u8)),.agg (aN.enc a1)] (fun r=>.sl (r.map (eI .u8)))
theorem zbf0 (a90:(List Int→aN→Option (List Int))) (hrc:zae5 a90):zae5 (zH6 a90):=fun a0 a1=>ok1 (zH6.eq_1 a90 a0 a1) Tryz.f31 []
theorem zbf1:∀ n,zae5 (zJ4 n):=zaM3 (fun _ _=>⟨fun _ h=>nomatch h⟩) fun n=>zbf0 _
instance zct7:zae5 zk7:=fun a0 a1=>zbf1 _ a0 a1
attribute [local irreducible] zk7
def zb9 (a0:Int) (a1:aU):Option (Int×aU) :=
 (zb7 a0 4 a1).bind fun v1 =>
 some (v1.1,v1.2)
instance zI6 (a0:Int) (a1:aU):OkM (zb9 a0 a1) 33 [.ptr 0 0 0,.int .i64 a0] [(0,bx a1)] 1 (fun r=>.int .i64 r.1) (fun r=>[(0,bx r.2)]) 1:=okm (zb9.eq_1 a0 a1) (fun r=>[.int .i64 r.1]) Tryz.f33 []
attribute [local irreducible] zb9
def za9 (a0:aU):Option (Int×aU) :=
 (zb7 1073741824 16 a0).bind fun v1 =>
 some (v1.1,v1.2)
instance zB8 (a0:aU):OkM (za9 a0) 36 [.ptr 0 0 0] [(0,bx a0)] 1 (fun r=>.int .i64 r.1) (fun r=>[(0,bx r.2)]) 1:=okm (za9.eq_1 a0) (fun r=>[.int .i64 r.1]) Tryz.f36 []
attribute [local irreducible] za9
def zt8 :List ByteArray:=[(⟨#[97]⟩:ByteArray),(⟨#[98]⟩:ByteArray),(⟨#[99]⟩:ByteArray),(⟨#[100]⟩:ByteArray)]
def zar8 (j1:bP×(List aH)):Option ((List aH)×bP) :=
 (zb8 8 j1.1).bind fun v1 =>
 (zb8 4 v1.2).bind fun v2 =>
 gd (j1.2.length+1≤4294967296) <|
 (zb8 3 v2.2).bind fun v3 =>
 (zb8 4 v3.2).bind fun v4 =>
 gd (j1.2.length+1+1≤4294967296) <|
 some (((j1.2++[(⟨(⟨#[112]⟩:ByteArray),2,i64.wrap (1+v1.1),v2.1⟩:aH)])++[(⟨(⟨#[113]⟩:ByteArray),2,i64.wrap (1+v3.1),v4.1⟩:aH)]),v4.2)
def zM9 (g1:Int×bP×(List aH)):Option ((Int×bP×(List aH))⊕(bP×(List aH))) :=
 (if (decide (g1.1 < (zt8.length:Int)))=true then
  gd (0≤g1.1∧g1.1 < (zt8.length:Int)) <|
  (zb8 4 g1.2.1).bind fun v5 =>
  gd (g1.2.2.length+1≤4294967296) <|
  some (.inl ((i64.wrap (g1.1+1)),v5.2,(g1.2.2++[(⟨(zt8.getD g1.1.toNat ⟨#[]⟩),1,1,v5.1⟩:aH)])))
 else
  some (.inr (g1.2.1,g1.2.2)))
def zl2 (a0:bP):Option ((List aH)×bP) :=
 (zc0 zM9 (0,a0,[])).bind (fun z=>zar8 z)
@[reducible,instance] def zdS6 (a0:bP):=mkJ (zl2 a0) 0 (@zar8.eq_1) fun (j1:bP×(List aH))=>⟨[(0,.ptr 0 0 0),(3,.own 1 0 j1.2.length)],[(0,bx j1.1),(1,sx j1.2)],2⟩
@[reducible,instance] def zdS7 {T:Type} (x:T):=mkL x (@zM9.eq_1) fun (g1:Int×bP×(List aH))=>⟨[(0,.ptr 0 0 0),(3,.own 1 0 g1.2.2.length),(4,.full (zt8.map eS)),(5,.int .i64 g1.1)],[(0,bx g1.2.1),(1,sx g1.2.2)],2⟩
instance zcD0 (a0:bP):OkM (zl2 a0) 117 [.ptr 0 0 0] [(0,bx a0)] 1 (fun r=>la r.1) (fun r=>[(0,bx r.2)]) 1:=⟨fun r h=>by
 refine zay0 Tryz.f117 [(3,1)] [la r.1] fun E hG hN hK=>?_
 have hm:Mk (zl2 a0):=trivial
 unfold zl2 at h
 refine za2 (za5 hG ?_)
 refine za2 (za5 hG ?_)
 refine za2 (za5 hG ?_)
 refine g_gh (.cast 4 (.full (zt8.map eS))) ?_
 refine za2 (za2 (za5 hG ?_))
 refine zaj4 hm h (fun j1 hm h=>?_) ?_
 · try refine g_st ?_
   refine za2 (za5 hG ?_)
   obtain ⟨v1,hv1,h⟩:=zc2 h
   have hm:=mkP hm v1
   refine zs1 [(0,0)] [] [0] ((zv9 8 j1.1).ok _ hv1) rfl rfl ?_
   obtain ⟨v2,hv2,h⟩:=zc2 h
   have hm:=mkP hm v2
   obtain ⟨hb2,h⟩:=zg0 h
   refine zs1 [(0,0)] [] [0] ((zv9 4 v1.2).ok _ hv2) rfl rfl ?_
   refine za2 (za5 hG ?_)
   obtain ⟨v3,hv3,h⟩:=zc2 h
   have hm:=mkP hm v3
   refine zs1 [(0,0)] [] [0] ((zv9 3 v2.2).ok _ hv3) rfl rfl ?_
   obtain ⟨v4,hv4,h⟩:=zc2 h
   have hm:=mkP hm v4
   obtain ⟨hb1,h⟩:=zg0 h
   refine zs1 [(0,0)] [] [0] ((zv9 4 v3.2).ok _ hv4) rfl rfl ?_
   refine g_gh (.fz [3]) ?_
   exact gogo
 exact gogo⟩
attribute [local irreducible] zl2
def zay9 (j1:bP×aN):Option (aN×bP) :=
 some (j1.2,j1.1)
@[go_sem] def zdz8  (j1:bP×aN):St:=⟨[(6,.ptr 1 0 0),(8,.ptr 2 0 0)],[(0,bx j1.1),(1,bx aN.zero),(2,⟨false,5,aN.enc aN.zero,[[.int .i64 j1.2.k,.str j1.2.bF.name,.int .i64 j1.2.bF.aK.mode,.int .i64 j1.2.bF.aK.aT,.own 3 0 j1.2.bE.length]]⟩),(3,sx j1.2.bE)],4⟩
def zal0 (a90:(List aM→Int→bP→Option (aN×bP))) (a0:List aM) (a1:Int) (v3:Int×bP) (g1:Int×bP×aN):Option ((Int×bP×aN)⊕(bP×aN)) :=
 (if (decide (g1.1 < i64.wrap (1+v3.1)))=true then
  (a90 a0 (i64.wrap (a1 - 1)) g1.2.1).bind fun v5 =>
  gd (g1.2.2.bE.length+1≤4294967296) <|
  some (.inl ((i64.wrap (g1.1+1)),v5.2,(⟨g1.2.2.k,(⟨g1.2.2.bF.name,(⟨g1.2.2.bF.aK.mode,g1.2.2.bF.aK.aT⟩:aC)⟩:aM),(g1.2.2.bE++[v5.1])⟩:aN)))
 else
  some (.inr (g1.2.1,g1.2.2)))
@[go_sem] def zdz9 (a0:List aM) (a1:Int) (v3:Int×bP) (g1:Int×bP×aN):St:=⟨[(0,.ptr 0 0 0),(1,la a0),(2,.int .i64 a1),(6,.ptr 1 0 0),(7,.int .i64 (i64.wrap (1+v3.1))),(8,.ptr 2 0 0),(9,.int .i64 g1.1)],[(0,bx g1.2.1),(1,bx aN.zero),(2,⟨false,5,aN.enc aN.zero,[[.int .i64 g1.2.2.k,.str g1.2.2.bF.name,.int .i64 g1.2.2.bF.aK.mode,.int .i64 g1.2.2.bF.aK.aT,.own 3 0 g1.2.2.bE.length]]⟩),(3,sx g1.2.2.bE)],4⟩
def zaf6 (a90:(List aM→Int→bP→Option (aN×bP))) (a0:List aM) (a1:Int) (a2:bP):Option (aN×bP) :=
 ((if (!(decide (a1=0)))=true then zb8 4 a2 else some (0,a2))).bind fun v1 =>
 (if (decide (a1=0)||decide (v1.1=0))=true then
  (zb8 (a0.length:Int) v1.2).bind fun v2 =>
  gd (0≤v2.1∧v2.1 < (a0.length:Int)) <|
  some ({ aN.zero with bF:=(a0.getD v2.1.toNat aM.zero) },v2.2)
 else
  (zb8 3 v1.2).bind fun v3 =>
  (zb8 (i64.wrap (1+v3.1)) v3.2).bind fun v4 =>
  (zc0 (zal0 a90 a0 a1 v3) (0,v4.2,(⟨(i64.wrap (1+v4.1)),(⟨aM.zero.name,(⟨aM.zero.aK.mode,aM.zero.aK.aT⟩:aC)⟩:aM),[]⟩:aN))).bind (fun z=>zay9 z))
def zU2:Nat→(List aM→Int→bP→Option (aN×bP))
 | 0=>fun _ _ _=>none
 | n+1=>zaf6 (zU2 n)
def zr6 (a0:List aM) (a1:Int) (a2:bP):Option (aN×bP):=zU2 (a1.toNat+1) a0 a1 a2
theorem zbB5 (a90:(List aM→Int→bP→Option (aN×bP))) (hrc:∀ (a0:List aM) (a1:Int) (a2:bP) (r:aN×bP),a90 a0 a1 a2=some r→MFn C 242 [.ptr 0 0 0,la a0,.int .i64 a1] [(0,bx a2)] 1 (ga r.1) [(0,bx r.2)] 1) (a0:List aM) (a1:Int) (a2:bP) (r:aN×bP) (h:zaf6 a90 a0 a1 a2=some r):MFn C 242 [.ptr 0 0 0,la a0,.int .i64 a1] [(0,bx a2)] 1 (ga r.1) [(0,bx r.2)] 1:=by
 refine zay0 Tryz.f242 [(32,18),(8,18)] [ga r.1] fun E hG hN hK=>?_
 unfold zaf6 at h
 refine za2 (za5 hG ?_)
 refine za2 (za2 (za5 hG ?_))
 obtain ⟨v1,hv1,h⟩:=zc2 h
 refine zbw0 [(0,0)] [0] hv1 (fun hc=>(zv9 4 a2).ok _ hc) rfl ?_
 refine zp0 rfl hG h (fun _ h=>?_) (fun _ h=>?_)
 · refine za2 (za5 hG ?_)
   obtain ⟨v2,hv2,h⟩:=zc2 h
   obtain ⟨hb1,h⟩:=zg0 h
   refine zs1 [(0,0)] [] [0] ((zv9 (a0.length:Int) v1.2).ok _ hv2) rfl rfl ?_
   refine zx8 ?_
   exact zP0 [(0,0)] h
 refine zo3 ?_
 refine za2 (za5 hG ?_)
 obtain ⟨v3,hv3,h⟩:=zc2 h
 refine zs1 [(0,0)] [] [0] ((zv9 3 v1.2).ok _ hv3) rfl rfl ?_
 refine za2 (za5 hG ?_)
 obtain ⟨v4,hv4,h⟩:=zc2 h
 refine zs1 [(0,0)] [] [0] ((zv9 (i64.wrap (1+v3.1)) v3.2).ok _ hv4) rfl rfl ?_
 refine g_gh (.ownb 2 4 5 (aN.enc aN.zero)) ?_
 refine za2 (za2 (za5 hG ?_))
 refine zO2 zdz8 (fun v=>zay9 v=some r) ?_ ?_
 · intro j1 h
   unfold zay9 at h
   refine g_st ?_
   refine za2 (za5 hG ?_)
   refine g_gh (.fz [3]) ?_
   refine zx8 ?_
   exact zP0 [(0,0)] h
 refine zam4 (zdz9 a0 a1 v3) hK [(0,0),(1,1),(2,2),(3,3)] h (fun x_l1 h g1 y_l1 h_l1 hx_l1=>?_)
 unfold zal0 at h_l1
 refine g_st ?_
 refine za2 (za2 (za5 hG ?_))
 refine zp0 rfl hG h_l1 (fun _ h_l1=>?_) (fun _ h_l1=>?_)
 · refine zo3 ?_
   refine za2 (zK9 (zaB7 zN6 hG ?_))
   obtain ⟨v5,hv5,h_l1⟩:=zc2 h_l1
   obtain ⟨hb2,h_l1⟩:=zg0 h_l1
   refine zbw1 [(0,0)] [] [0] (hrc a0 (i64.wrap (a1 - 1)) g1.2.1 _ hv5) rfl rfl ?_
   refine za5 hG ?_
   exact zX7 hK [(0,0),(1,1),(2,2),(3,4)] h_l1
 refine zR8 ?_
 cases h_l1
 cases hx_l1 _ rfl
 exact zG8 hK [(0,0),(1,1),(2,2),(3,3)] (g1.2.1,g1.2.2) (by exact h)
theorem zaV3:∀ (n:Nat) (a0:List aM) (a1:Int) (a2:bP) (r:aN×bP),zU2 n a0 a1 a2=some r→MFn C 242 [.ptr 0 0 0,la a0,.int .i64 a1] [(0,bx a2)] 1 (ga r.1) [(0,bx r.2)] 1
 | 0,_,_,_,_,h=>nomatch h
 | n+1,a0,a1,a2,r,h=>zbB5 (zU2 n) (zaV3 n) a0 a1 a2 r h
instance zcR0 (a0:List aM) (a1:Int) (a2:bP):OkM (zr6 a0 a1 a2) 242 [.ptr 0 0 0,la a0,.int .i64 a1] [(0,bx a2)] 1 (fun r=>ga r.1) (fun r=>[(0,bx r.2)]) 1:=⟨fun r h=>zaV3 _ a0 a1 a2 r h⟩
attribute [local irreducible] zr6
def zaJ8 (j1:(List aM)):Option (List aM) :=
 some j1
def zae6 (a0:List aB) (a1:aJ) (g1:Int×(List aM)):Option ((Int×(List aM))⊕(List aM)) :=
 (if (decide (g1.1 < (a0.length:Int)))=true then
  gd (0≤g1.1∧g1.1 < (a0.length:Int)) <|
  (zi7 (a0.getD g1.1.toNat aB.zero) a1).bind fun v1 =>
  (if (!(zn2 v1))=true then
   gd (0≤g1.1∧g1.1 < (a0.length:Int)) <|
   gd (g1.2.length+1≤4294967296) <|
   some (.inl ((i64.wrap (g1.1+1)),(g1.2++[(⟨((a0.getD g1.1.toNat aB.zero).aA).name,v1⟩:aM)])))
  else
   some (.inl ((i64.wrap (g1.1+1)),g1.2)))
 else
  some (.inr g1.2))
def zm0 (a0:List aB) (a1:aJ):Option (List aM) :=
 (zc0 (zae6 a0 a1) (0,[])).bind (fun z=>zaJ8 z)
@[reducible,instance] def zdS8 a0 a1:=mkJ (zm0 a0 a1) 0 (@zaJ8.eq_1) fun (j1:(List aM))=>⟨[(5,.own 0 0 j1.length)],[(0,sx j1)],1⟩
@[reducible,instance] def zdS9 (a0:List aB) (a1:aJ) {T:Type} (x:T):=mkL x (@zae6.eq_1 a0 a1) fun (g1:Int×(List aM))=>⟨[(0,la a0),(3,.ptr 0 0 0),(5,.own 1 0 g1.2.length),(6,.int .i64 g1.1)],[(0,bx a1),(1,sx g1.2)],2⟩
instance zcL4 (a0:List aB) (a1:aJ):OkP (zm0 a0 a1) 154 [la a0,ga a1] (fun r=>la r):=ok1 (zm0.eq_1 a0 a1) Tryz.f154 [(5,1)]
attribute [local irreducible] zm0
def ze8 (a0:aO):Option (aJ×aO) :=
 (if (!decide (a0.e=0))=true then
  some ({ aJ.zero with  },a0)
 else
  gd (0≤a0.at_∧a0.at_≤(a0.b.length:Int)∧(a0.b.length:Int)≤(a0.b.length:Int)) <|
  (zp8 (a0.b.drop a0.at_.toNat)).bind fun v1 =>
  (if (!decide (v1.2.2=0))=true then
   some ({ aJ.zero with  },{ a0 with e:=v1.2.2 })
  else
   some (v1.1,{ a0 with at_:=(i64.wrap (a0.at_+v1.2.1)) })))
instance zce9 (a0:aO):OkM (ze8 a0) 60 [.ptr 0 0 0] [(0,bx a0)] 1 (fun r=>ga r.1) (fun r=>[(0,bx r.2)]) 1:=okm (ze8.eq_1 a0) (fun r=>[ga r.1]) Tryz.f60 []
attribute [local irreducible] ze8
def zaI7 (j1:Unit):Option Bool :=
 some true
def zaa2 (a0 a1:List aB) (g1:Int):Option (Int⊕(Unit⊕Bool)) :=
 (if (decide (g1 < (a0.length:Int)))=true then
  gd (0≤g1∧g1 < (a0.length:Int)) <|
  gd (0≤g1∧g1 < (a1.length:Int)) <|
  (zp7 (a0.getD g1.toNat aB.zero) (a1.getD g1.toNat aB.zero)).bind fun v1 =>
  (if (!v1)=true then
   some (.inr (.inr false))
  else
   some (.inl (i64.wrap (g1+1))))
 else
  some (.inr (.inl ())))
def zt1 (a0 a1:List aB):Option Bool :=
 (if (!decide ((a0.length:Int)=(a1.length:Int)))=true then
  some false
 else
  (zc0 (zaa2 a0 a1) 0).bind (fun|.inl z=>zaI7 z|.inr z=>some z))
@[reducible,instance] def zdT0 a0 a1:=mkJ (zt1 a0 a1) 0 (@zaI7.eq_1) fun (j1:Unit)=>⟨[],[],0⟩
@[reducible,instance] def zdT1 (a0 a1:List aB) {T:Type} (x:T):=mkL x (@zaa2.eq_1 a0 a1) fun (g1:Int)=>⟨[(0,la a0),(1,la a1),(5,.int .i64 g1)],[],0⟩
instance zdo6 (a0 a1:List aB):OkP (zt1 a0 a1) 16 [la a0,la a1] (fun r=>.bool r):=ok1 (zt1.eq_1 a0 a1) Tryz.f16 []
attribute [local irreducible] zt1
end
end Ab
end Go.Proofs.YtcggeefhhegeoaaGreatDoor
