import Derived.Test.YtcggeefhhegeoaaGreatDoorHm8
import Derived.Test.YtcggeefhhegeoaaGreatDoorSort
namespace Go.Proofs.YtcggeefhhegeoaaGreatDoor
namespace Ab
open IntKind (i64 u64 u8)
set_option linter.unusedSimpArgs false
set_option linter.unusedVariables false
set_option linter.defProp false
set_option maxRecDepth 100000
set_option maxHeartbeats 1000000
noncomputable section
attribute [local irreducible] zj2 za4 zd1 za7 zf7 zi6 zk5 zg4 zk6 zf3 zd2 zd8 zh9 zd6 zk1 za6 za0 ze0 zj7 zl9 zi3 zh5 zg2 zg8 zf8 zc5 ze1 ze2 zg9 zf5 ze3 zb0 za8 zh0 zi4 ze4 zn1 f_ref08_holds zj3 zc2 zn6 zm4 zm1 zd9 ze8 zk2 zm5 zh1 zj9 zl7 zd0 zi7 zf0 zf9 zl4 zn9 zm7 zb2 zc1 zh4 zq0 zh2 za5 za1 zb4 zh7 ze9 zm8 zk9 zd7 zd3 zi8 ze6 zq1 zi2 zc8 zo4
def zo5 (a0:Queue):Option (List Wait) :=
 (zb2 [a0.converts,a0.waits]).bind fun v1 =>
 some v1
instance zcX3 (a0:Queue):OkP (zo5 a0) 90 [ga a0] (fun r=>la r):=ok1 (zo5.eq_1 a0) Tryz.f90 []
attribute [local irreducible] zo5
def ltS (x y:Proc):Prop:=x.site < y.site∨x.site=y.site∧(x.inc < y.inc∨x.inc=y.inc∧x.num < y.num)
instance (x y:Proc):Decidable (ltS x y):=by unfold ltS; infer_instance
def cmpS (x y:Proc):Int:=if ltS x y then -1 else if ltS y x then 1 else 0
theorem zaR5 (x y:Proc):ltOf cmpS x y=decide (ltS x y):=by
 unfold ltOf cmpS
 by_cases h:ltS x y
 · simp [h]
 · by_cases h2:ltS y x <;> simp [h,h2]
theorem zcX4:Go.Sort.SWO (ltOf cmpS) where
 irrefl x:=by rw [zaR5]; simp [ltS]
 trans x y z h1 h2:=by
  rw [zaR5,decide_eq_true_eq] at *; unfold ltS at *; omega
 ntrans x y z h1 h2:=by
  rw [zaR5,decide_eq_false_iff_not] at *; unfold ltS at *; omega
theorem zcx4 (x y:Proc) (h1:ltOf cmpS x y=false) (h2:ltOf cmpS y x=false):x=y:=by
 rw [zaR5,decide_eq_false_iff_not] at *; unfold ltS at *; rw [Proc.ext_iff]; omega
theorem zdl2 (p q:Proc):zd3 p q=some (cmpS p q):=by
 unfold zd3 zg9
 have e:∀ (x y z:Int) (i:Nat) (h:[x,y,z].length=3),Arr.get (⟨[x,y,z],h⟩:Arr Int 3) i 0=match i with|0=>x|1=>y|_=>z:=by
  intro x y z i h
  match i with
  | 0=>rfl
  | 1=>rfl
  | 2=>rfl
  | n+3 =>
    have:¬ (n+3 < 3):=by omega
    simp [Arr.get,zL5,this]
 have w1:i64.wrap (0+1)=1:=by decide
 have w2:i64.wrap (1+1)=2:=by decide
 have w3:i64.wrap (2+1)=3:=by decide
 have s3:zo3 ⟨[p.site,p.inc,p.num],rfl⟩ ⟨[q.site,q.inc,q.num],rfl⟩ 3=some (.inr (.inl ())):=by unfold zo3; simp
 have s2:zo3 ⟨[p.site,p.inc,p.num],rfl⟩ ⟨[q.site,q.inc,q.num],rfl⟩ 2=some (if p.num < q.num then .inr (.inr (-1)) else if q.num < p.num then .inr (.inr 1) else .inl 3):=by
  unfold zo3
  rw [if_pos (by decide),zg7 (by decide),zg7 (by decide),zg7 (by decide)]
  simp only [e,show (2:Int).toNat=2 from rfl,decide_eq_true_eq,w3]
  by_cases h:p.num < q.num
  · simp [h]
  · by_cases h2:q.num < p.num <;> simp [h,h2]
 have s1:zo3 ⟨[p.site,p.inc,p.num],rfl⟩ ⟨[q.site,q.inc,q.num],rfl⟩ 1=some (if p.inc < q.inc then .inr (.inr (-1)) else if q.inc < p.inc then .inr (.inr 1) else .inl 2):=by
  unfold zo3
  rw [if_pos (by decide),zg7 (by decide),zg7 (by decide),zg7 (by decide)]
  simp only [e,show (1:Int).toNat=1 from rfl,decide_eq_true_eq,w2]
  by_cases h:p.inc < q.inc
  · simp [h]
  · by_cases h2:q.inc < p.inc <;> simp [h,h2]
 have s0:zo3 ⟨[p.site,p.inc,p.num],rfl⟩ ⟨[q.site,q.inc,q.num],rfl⟩ 0=some (if p.site < q.site then .inr (.inr (-1)) else if q.site < p.site then .inr (.inr 1) else .inl 1):=by
  unfold zo3
  rw [if_pos (by decide),zg7 (by decide),zg7 (by decide),zg7 (by decide)]
  simp only [e,show (0:Int).toNat=0 from rfl,decide_eq_true_eq,w1]
  by_cases h:p.site < q.site
  · simp [h]
  · by_cases h2:q.site < p.site <;> simp [h,h2]
 unfold cmpS ltS
 by_cases a1:p.site < q.site
 · rw [zg1,s0]; simp [a1]
 · by_cases a2:q.site < p.site
   · rw [zg1,s0]
     have:¬ p.site=q.site:=by omega
     simp [a1,a2,this]
   · have h1:p.site=q.site:=by omega
     by_cases b1:p.inc < q.inc
     · rw [zg1,s0]; simp only [a1,a2,if_false]; rw [zg1,s1]; simp [b1,h1]
     · by_cases b2:q.inc < p.inc
       · have:¬ p.inc=q.inc:=by omega
         rw [zg1,s0]; simp only [a1,a2,if_false]; rw [zg1,s1]; simp [b1,b2,h1,this]
       · have h2:p.inc=q.inc:=by omega
         rw [zg1,s0]; simp only [a1,a2,if_false]; rw [zg1,s1]; simp only [b1,b2,if_false]; rw [zg1,s2]
         by_cases c1:p.num < q.num
         · simp [c1,h1,h2]
         · by_cases c2:q.num < p.num
           · simp [c1,c2,h1,h2]
           · simp only [c1,c2,if_false]; rw [zg1,s3]; simp [h1,h2,zaf4]
theorem zaj6:SlLaysF0.n6 C.P ⟨fun|6=>112|15=>148|14=>147|28=>189|29=>190|20=>181|21=>182|22=>183|23=>184|24=>185|25=>186|26=>187|27=>188|46=>232|47=>233|48=>234|49=>235|50=>236|57=>266|n=>n,fun|22=>38|24=>44|25=>118|39=>174|53=>236|55=>136|46=>229|45=>228|50=>233|66=>266|70=>192|76=>293|77=>220|n=>n,fun n=>n⟩ where
 mixed:=zL7
 f6:=⟨ "slices.SortFunc[[]clusterlocks/api.Proc,clusterlocks/api.Proc]",by decide,Tryz.func112.trans (congrArg some (by kernel_rfl))⟩
 f14:=⟨ "slices.pdqsortCmpFunc[clusterlocks/api.Proc]",by decide,Tryz.func147.trans (congrArg some (by kernel_rfl))⟩
 f15:=Tryz.func148.trans (congrArg some (by kernel_rfl))
 f20:=⟨ "slices.insertionSortCmpFunc[clusterlocks/api.Proc]",by decide,Tryz.func181.trans (congrArg some (by kernel_rfl))⟩
 f21:=⟨ "slices.heapSortCmpFunc[clusterlocks/api.Proc]",by decide,Tryz.func182.trans (congrArg some (by kernel_rfl))⟩
 f22:=⟨ "slices.breakPatternsCmpFunc[clusterlocks/api.Proc]",by decide,Tryz.func183.trans (congrArg some (by kernel_rfl))⟩
 f23:=⟨ "slices.choosePivotCmpFunc[clusterlocks/api.Proc]",by decide,Tryz.func184.trans (congrArg some (by kernel_rfl))⟩
 f24:=⟨ "slices.reverseRangeCmpFunc[clusterlocks/api.Proc]",by decide,Tryz.func185.trans (congrArg some (by kernel_rfl))⟩
 f25:=⟨ "slices.partialInsertionSortCmpFunc[clusterlocks/api.Proc]",by decide,Tryz.func186.trans (congrArg some (by kernel_rfl))⟩
 f26:=⟨ "slices.partitionEqualCmpFunc[clusterlocks/api.Proc]",by decide,Tryz.func187.trans (congrArg some (by kernel_rfl))⟩
 f27:=⟨ "slices.partitionCmpFunc[clusterlocks/api.Proc]",by decide,Tryz.func188.trans (congrArg some (by kernel_rfl))⟩
 f28:=Tryz.func189.trans (congrArg some (by kernel_rfl))
 f29:=Tryz.func190.trans (congrArg some (by kernel_rfl))
 f46:=⟨ "slices.siftDownCmpFunc[clusterlocks/api.Proc]",by decide,Tryz.func232.trans (congrArg some (by kernel_rfl))⟩
 f47:=Tryz.func233.trans (congrArg some (by kernel_rfl))
 f48:=Tryz.func234.trans (congrArg some (by kernel_rfl))
 f49:=⟨ "slices.medianAdjacentCmpFunc[clusterlocks/api.Proc]",by decide,Tryz.func235.trans (congrArg some (by kernel_rfl))⟩
 f50:=⟨ "slices.medianCmpFunc[clusterlocks/api.Proc]",by decide,Tryz.func236.trans (congrArg some (by kernel_rfl))⟩
 f57:=⟨ "slices.order2CmpFunc[clusterlocks/api.Proc]",by decide,Tryz.func266.trans (congrArg some (by kernel_rfl))⟩
 t0:=Tryz.underlying0
 a0:=Tryz.isAgg0
 z0:=Tryz.sizeOf0
 v0:=Tryz.zeroValue0
 t3:=Tryz.underlying3
 a3:=Tryz.isAgg3
 z3:=Tryz.sizeOf3
 v3:=Tryz.zeroValue3
 t4:=Tryz.underlying4
 a4:=Tryz.isAgg4
 z4:=Tryz.sizeOf4
 v4:=Tryz.zeroValue4
 t5:=Tryz.underlying5
 a5:=Tryz.isAgg5
 z5:=Tryz.sizeOf5
 v5:=Tryz.zeroValue5
 t9:=Tryz.underlying9
 a9:=Tryz.isAgg9
 z9:=Tryz.sizeOf9
 v9:=Tryz.zeroValue9
 t22:=Tryz.underlying38
 a22:=Tryz.isAgg38
 z22:=Tryz.sizeOf38
 v22:=Tryz.zeroValue38
 t25:=Tryz.underlying118
 a25:=Tryz.isAgg118
 z25:=Tryz.sizeOf118
 v25:=Tryz.zeroValue118
 t39:=Tryz.underlying174
 a39:=Tryz.isAgg174
 z39:=Tryz.sizeOf174
 v39:=Tryz.zeroValue174
 t45:=Tryz.underlying228
 a45:=Tryz.isAgg228
 z45:=Tryz.sizeOf228
 v45:=Tryz.zeroValue228
 t46:=Tryz.underlying229
 a46:=Tryz.isAgg229
 z46:=Tryz.sizeOf229
 v46:=Tryz.zeroValue229
 t50:=Tryz.underlying233
 a50:=Tryz.isAgg233
 z50:=Tryz.sizeOf233
 v50:=Tryz.zeroValue233
 t53:=Tryz.underlying236
 a53:=Tryz.isAgg236
 z53:=Tryz.sizeOf236
 v53:=Tryz.zeroValue236
 t55:=Tryz.underlying136
 a55:=Tryz.isAgg136
 z55:=Tryz.sizeOf136
 v55:=Tryz.zeroValue136
 t66:=Tryz.underlying266
 a66:=Tryz.isAgg266
 z66:=Tryz.sizeOf266
 v66:=Tryz.zeroValue266
 t70:=Tryz.underlying192
 a70:=Tryz.isAgg192
 z70:=Tryz.sizeOf192
 v70:=Tryz.zeroValue192
 t76:=Tryz.underlying293
 a76:=Tryz.isAgg293
 z76:=Tryz.sizeOf293
 v76:=Tryz.zeroValue293
 t77:=Tryz.underlying220
 a77:=Tryz.isAgg220
 z77:=Tryz.sizeOf220
 v77:=Tryz.zeroValue220
def zb5 (a0:List Proc):Option (List Proc):=gd (a0.length≤4294967296) (some (a0.mergeSort fun x y=>!decide (y.site < x.site∨y.site=x.site∧(y.inc < x.inc∨y.inc=x.inc∧y.num < x.num))))
theorem zaj1 (a0 r:List Proc) (h:zb5 a0=some r):r.length=a0.length:=by
 obtain ⟨_,h⟩:=zg5 h
 obtain rfl:=Option.some.inj h
 exact List.length_mergeSort _
theorem zaj2 (a0 r:List Proc) (h:zb5 a0=some r):MFn C 112 [.own 0 0 a0.length,.clo 68 []] [(0,sx a0)] 1 (.tup []) [(0,sx r)] 1:=by
 obtain ⟨hl,h⟩:=zg5 h
 obtain rfl:=Option.some.inj h
 haveI:Inhabited Proc:=⟨Proc.zero⟩
 have e:(fun x y:Proc=>!decide (y.site < x.site∨y.site=x.site∧(y.inc < x.inc∨y.inc=x.inc∧y.num < x.num)))=fun x y=>!(ltOf cmpS) y x:=by
  funext x y
  rw [zaR5]
  exact congrArg not (decide_eq_decide.2 Iff.rfl)
 rw [e]
 exact zcX2 zaj6 Proc.enc 3 Proc.len (by decide) (fun x=>(Proc.laws x).2.1) Tryz.isAgg44 Tryz.sizeOf44 cmpS zcX4 zcx4 68 (fun x y=>(zaD7 x y).ok _ (zdl2 x y)) (enters_of Tryz.func68 (by kernel_rfl) rfl) rfl _ a0 hl
attribute [local irreducible] zb5
def zaI9 (j1:(List Int)):Option (List Int) :=
 some j1
def zx7 (a1:Proc) (g1:(List Int)×Int):Option (((List Int)×Int)⊕(List Int)) :=
 (if (decide (g1.2 < 3))=true then
  gd (0≤g1.2∧g1.2 < 3) <|
  (zd9 g1.1 (u64.wrap (Arr.get (⟨[a1.site,a1.inc,a1.num],rfl⟩:Arr Int 3) g1.2.toNat 0))).bind fun v1 =>
  some (.inl (v1,i64.wrap (g1.2+1)))
 else
  some (.inr g1.1))
def zi9 (a0:List Int) (a1:Proc):Option (List Int) :=
 gd (a0.length≤4294967296) <|
 (if (!(zb6 a1))=true then
  some a0
 else
  (zc0 (zx7 a1) (a0,0)).bind (fun z=>zaI9 z))
@[reducible,instance] def zdJ3 (a0:List Int) (a1:Proc):=mkJ (zi9 a0 a1) 0 (@zaI9.eq_1) fun (j1:(List Int))=>⟨[(5,.sl (j1.map (eI .u8)))],[],0⟩
@[reducible,instance] def zdJ4 (a1:Proc) {T:Type} (x:T):=mkL x (@zx7.eq_1 a1) fun (g1:(List Int)×Int)=>⟨[(5,.sl (g1.1.map (eI .u8))),(20,.agg (Arr.enc (eI .i64) (⟨[a1.site,a1.inc,a1.num],rfl⟩:Arr Int 3))),(21,.int .i64 g1.2)],[],0⟩
instance zcL1 (a0:List Int) (a1:Proc):OkP (zi9 a0 a1) 32 [.sl (a0.map (eI .u8)),ga a1] (fun r=>.sl (r.map (eI .u8))):=⟨fun r h=>by
 refine zag9 Tryz.f32 [] fun E hG hN hK=>?_
 have hm:Mk (zi9 a0 a1):=trivial
 unfold zi9 at h
 refine za2 (za9 hG ?_)
 refine za2 ?_
 obtain ⟨hb2,h⟩:=zg5 h
 refine za9 hG ?_
 refine g_gh (.fz [1]) ?_
 exact gogo⟩
attribute [local irreducible] zi9
def zf4 (a0:Need) (a1:Proc):Option (Bool×Proc) :=
 (zd3 a0.proc a1).bind fun v1 =>
 some ((decide (v1=0)),a1)
instance zbZ8 (a0:Need) (a1:Proc):OkM (zf4 a0 a1) 88 [ga a0,.ptr 0 0 0] [(0,bx a1)] 1 (fun r=>.bool r.1) (fun r=>[(0,bx r.2)]) 1:=okm (zf4.eq_1 a0 a1) (fun r=>[.bool r.1]) Tryz.f88 []
attribute [local irreducible] zf4
def zat1 (j1:(List Atom)):Option (List Atom) :=
 some j1
def zac5 (a90:(Expr→List Atom→Option (List Atom))) (a0:Expr) (g1:Int×(List Atom)):Option ((Int×(List Atom))⊕(List Atom)) :=
 (if (decide (g1.1 < (a0.kids.length:Int)))=true then
  gd (0≤g1.1∧g1.1 < (a0.kids.length:Int)) <|
  (a90 (a0.kids.getD g1.1.toNat Expr.zero) g1.2).bind fun v2 =>
  some (.inl ((i64.wrap (g1.1+1)),v2))
 else
  some (.inr g1.2))
def zD7 (a90:(Expr→List Atom→Option (List Atom))) (a0:Expr) (a1:List Atom):Option (List Atom) :=
 (if (decide ((a0.kids.length:Int)=0))=true then
  (za5 a1 a0.atom).bind fun v1 =>
  (if v1=true then
   some a1
  else
   gd (a1.length+1≤4294967296) <|
   some (a1++[a0.atom]))
 else
  (zc0 (zac5 a90 a0) (0,a1)).bind (fun z=>zat1 z))
def zF3:Nat→(Expr→List Atom→Option (List Atom))
 | 0=>fun _ _=>none
 | n+1=>zD7 (zF3 n)
def zh8 (a0:Expr) (a1:List Atom):Option (List Atom):=zF3 (_root_.SizeOf.sizeOf a0+1) a0 a1
@[reducible,instance] def zdJ5 (a90:(Expr→List Atom→Option (List Atom))) (a0:Expr) (a1:List Atom):=mkJ (zD7 a90 a0 a1) 0 (@zat1.eq_1) fun (j1:(List Atom))=>⟨[(0,.own 1 0 j1.length)],[(1,sx j1)],2⟩
@[reducible,instance] def zdJ6 (a90:(Expr→List Atom→Option (List Atom))) (a0:Expr) {T:Type} (x:T):=mkL x (@zac5.eq_1 a90 a0) fun (g1:Int×(List Atom))=>⟨[(0,.own 1 0 g1.2.length),(22,la a0.kids),(23,.int .i64 (a0.kids.length:Int)),(24,.int .i64 g1.1)],[(1,sx g1.2)],2⟩
abbrev zZ0 (g:(Expr→List Atom→Option (List Atom))):Prop:=∀ (a0:Expr) (a1:List Atom),OkM (g a0 a1) 89 [.own 0 0 a1.length,.agg (Expr.enc a0)] [(0,⟨false,3,Atom.enc Atom.zero,a1.map Atom.enc⟩)] 1 (fun r=>.own 1 0 r.length) (fun r=>[(1,⟨false,3,Atom.enc Atom.zero,r.map Atom.enc⟩)]) 2
theorem zaV7 (a90:(Expr→List Atom→Option (List Atom))) (hrc:zZ0 a90):zZ0 (zD7 a90):=fun a0 a1=>okm (zD7.eq_1 a90 a0 a1) (fun r=>[.own 1 0 r.length]) Tryz.f89 [(4,1)]
theorem zaV8:∀ n,zZ0 (zF3 n):=zaP4 (fun _ _=>⟨fun _ h=>nomatch h⟩) fun n=>zaV7 _
instance zcf6:zZ0 zh8:=fun a0 a1=>zaV8 _ a0 a1
attribute [local irreducible] zh8
def ze7 (a0 a1:Need):Option Bool :=
 ((if (decide (a0.proc=a1.proc)&&decide (a0.gen=a1.gen))=true then ze6 a0.expr a1.expr else some false)).bind fun v1 =>
 some ((decide (a0.proc=a1.proc)&&decide (a0.gen=a1.gen))&&v1)
instance zcj1 (a0 a1:Need):OkP (ze7 a0 a1) 41 [ga a0,ga a1] (fun r=>.bool r):=ok1 (ze7.eq_1 a0 a1) Tryz.f41 []
attribute [local irreducible] ze7
def zaN4 (j1:(List Atom)):Option (List Atom) :=
 some j1
def zai2 (a0:List Queue) (a1:Proc) (g1:Int×(List Atom)):Option ((Int×(List Atom))⊕(List Atom)) :=
 (if (decide (g1.1 < (a0.length:Int)))=true then
  gd (0≤g1.1∧g1.1 < (a0.length:Int)) <|
  (zh4 (a0.getD g1.1.toNat Queue.zero) a1).bind fun v1 =>
  (if v1.2=true then
   gd (0≤g1.1∧g1.1 < (a0.length:Int)) <|
   gd (g1.2.length+1≤4294967296) <|
   some (.inl ((i64.wrap (g1.1+1)),(g1.2++[(⟨((a0.getD g1.1.toNat Queue.zero).resource).name,v1.1⟩:Atom)])))
  else
   some (.inl ((i64.wrap (g1.1+1)),g1.2)))
 else
  some (.inr g1.2))
def zm9 (a0:List Queue) (a1:Proc):Option (List Atom) :=
 (zc0 (zai2 a0 a1) (0,[])).bind (fun z=>zaN4 z)
@[reducible,instance] def zdJ7 a0 a1:=mkJ (zm9 a0 a1) 0 (@zaN4.eq_1) fun (j1:(List Atom))=>⟨[(5,.own 0 0 j1.length)],[(0,sx j1)],1⟩
@[reducible,instance] def zdJ8 (a0:List Queue) (a1:Proc) {T:Type} (x:T):=mkL x (@zai2.eq_1 a0 a1) fun (g1:Int×(List Atom))=>⟨[(0,la a0),(3,.ptr 0 0 0),(5,.own 1 0 g1.2.length),(6,.int .i64 g1.1)],[(0,bx a1),(1,sx g1.2)],2⟩
instance zcQ9 (a0:List Queue) (a1:Proc):OkP (zm9 a0 a1) 155 [la a0,ga a1] (fun r=>la r):=ok1 (zm9.eq_1 a0 a1) Tryz.f155 [(5,1)]
attribute [local irreducible] zm9
def zp0 (a0:List Int) (a1:Amount):Option (List Int) :=
 (zq0 a0 a1.mode).bind fun v1 =>
 (zq0 v1 a1.units).bind fun v2 =>
 some v2
attribute [local irreducible] zp0
def zp4 (a0:WaitState) (a1:Proc) (a2:ByteArray):Option Bool :=
 (zh5 a0.queues a2).bind fun v1 =>
 (if (decide (v1 < 0))=true then
  some false
 else
  gd (0≤v1∧v1 < (a0.queues.length:Int)) <|
  (zh4 (a0.queues.getD v1.toNat Queue.zero) a1).bind fun v2 =>
  some v2.2)
instance zcX5 (a0:WaitState) (a1:Proc) (a2:ByteArray):OkP (zp4 a0 a1 a2) 51 [ga a0,ga a1,.str a2] (fun r=>.bool r):=ok1 (zp4.eq_1 a0 a1 a2) Tryz.f51 []
attribute [local irreducible] zp4
end
end Ab
end Go.Proofs.YtcggeefhhegeoaaGreatDoor
