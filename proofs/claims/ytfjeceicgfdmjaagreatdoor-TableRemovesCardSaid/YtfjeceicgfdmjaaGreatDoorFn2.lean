/-
  Functions of the program,as Lean functions; what the program's code computes is what they say.
-/
import Derived.Test.YtfjeceicgfdmjaaGreatDoorFn1
namespace Go.Proofs.YtfjeceicgfdmjaaGreatDoor
namespace Ab
set_option linter.unusedSimpArgs false
set_option linter.unusedVariables false
set_option maxRecDepth 100000
set_option maxHeartbeats 1000000
attribute [local irreducible] zf4 zd3 zj0 zu2 zu3 zh0 zd8 zA1 zG1 zr2 zs1 zj1 zd7 zh1 zf5 zg8 zl3 zh2 zk8 zj6 zg9 ze5 zm4 zg1 zn6 zo4 zi2 zi4 zj2 zj3 zh5 zh3 zc8
noncomputable def zm9  (j2:(List Wait)):Option ((List Wait)) :=
 some j2
@[go_sem] def zdE0  (j2:(List Wait)):St:=⟨[(6,.own 0 0 j2.length)],[(0,⟨false,7,(Wait.enc Wait.zero),j2.map Wait.enc⟩)],1⟩
noncomputable def zc9 (a0:List (List Wait)) (g1:Int×(List Wait)):Option ((Int×(List Wait))⊕(((List Wait)))) :=
 (if (decide (g1.1 < (a0.length:Int)))=true then
  gd (0≤g1.1∧g1.1 < (a0.length:Int)) <|
  gd (g1.2.length+(a0.getD g1.1.toNat []).length≤4294967296) <|
  some (.inl ((IntKind.i64.wrap (g1.1+1)),(g1.2++(a0.getD g1.1.toNat []))))
 else
  some (.inr g1.2))
@[go_sem] def zdE1 (a0:List (List Wait)) (g1:Int×(List Wait)):St:=⟨[(6,.own 0 0 g1.2.length),(25,.sl (a0.map (eL Wait.enc))),(26,.int .i64 (a0.length:Int)),(27,.int .i64 g1.1)],[(0,⟨false,7,(Wait.enc Wait.zero),g1.2.map Wait.enc⟩)],1⟩
noncomputable def zh9 (a0:List (List Wait)) (j1:Int):Option ((List Wait)) :=
 (zc8 j1).bind fun v1 =>
 (zb6 (zc9 a0) (0,v1)).bind (fun z=>zm9 z)
@[go_sem] def zdE2 (a0:List (List Wait)) (j1:Int):St:=⟨[(0,.sl (a0.map (eL Wait.enc))),(3,.int .i64 j1)],[],0⟩
noncomputable def zd0 (a0:List (List Wait)) (g2:Int×Int):Option ((Int×Int)⊕((Int))) :=
 (if (decide (g2.2 < (a0.length:Int)))=true then
  gd (0≤g2.2∧g2.2 < (a0.length:Int)) <|
  (if (decide ((IntKind.i64.wrap (g2.1+((a0.getD g2.2.toNat []).length:Int))) < 0))=true then
   none
  else
   some (.inl ((IntKind.i64.wrap (g2.1+((a0.getD g2.2.toNat []).length:Int))),(IntKind.i64.wrap (g2.2+1)))))
 else
  some (.inr g2.1))
@[go_sem] def zdE3 (a0:List (List Wait)) (g2:Int×Int):St:=⟨[(0,.sl (a0.map (eL Wait.enc))),(3,.int .i64 g2.1),(9,.sl (a0.map (eL Wait.enc))),(10,.int .i64 (a0.length:Int)),(11,.int .i64 g2.2)],[],0⟩
noncomputable def zc4 (a0:List (List Wait)):Option ((List Wait)) :=
 (zb6 (zd0 a0) (0,0)).bind (fun z=>zh9 a0 z)
theorem zL9 (a0:List (List Wait)) (r:(List Wait)) (h:zc4 a0=some r):PFn C 152 [.sl (a0.map (eL Wait.enc))] (.sl (r.map Wait.enc)):=by
 refine za6 zdS0 rfl fun E hG hN hK=>?_
 unfold zcf2
 unfold zc4 at h
 refine za0 (za1 hG ?_)
 refine za0 (za1 hG ?_)
 refine za0 (za0 (za1 hG ?_))
 refine zb4 (zdE2 a0) (fun v=>zh9 a0 v=some r) ?_ ?_
 · intro j1 h
   unfold zh9 at h
   refine g_st ?_
   refine za0 (za1 hG ?_)
   obtain ⟨v1,hv1,h⟩:=za5 h
   refine zA5 [] [(0,0)] [0] (zK9 j1 _ hv1) rfl rfl ?_
   refine za0 (za0 (za1 hG ?_))
   refine zb4 (zdE0) (fun v=>zm9 v=some r) ?_ ?_
   · intro j2 h
     unfold zm9 at h
     refine g_st ?_
     refine za0 (za1 hG ?_)
     refine za8 ?_
     exact zb1 h
   refine zd6 (zdE1 a0) hK [(0,0)] h (fun x_l1 h g1 y_l1 h_l1 hx_l1=>?_)
   unfold zc9 at h_l1
   refine g_st ?_
   refine za0 (za1 hG ?_)
   refine za0 ?_
   refine za3 rfl hG h_l1 (fun _ h_l1=>?_) (fun _ h_l1=>?_)
   · refine za4 ?_
     refine za0 (zb5 (za0 ?_))
     obtain ⟨hb2,h_l1⟩:=za2 h_l1
     refine za1 hG ?_
     obtain ⟨hb1,h_l1⟩:=za2 h_l1
     refine za1 hG ?_
     refine za1 hG ?_
     exact zc7 hK [(0,1)] h_l1
   refine zc2 ?_
   obtain rfl:=Option.some.inj h_l1
   have hx:=hx_l1 _ rfl
   subst hx
   try dsimp only at h
   exact zc6 hK [(0,0)] g1.2 (by exact h)
 refine zd6 (zdE3 a0) hK [] h (fun x_l2 h g2 y_l2 h_l2 hx_l2=>?_)
 unfold zd0 at h_l2
 refine g_st ?_
 refine za0 (za1 hG ?_)
 refine za0 ?_
 refine za3 rfl hG h_l2 (fun _ h_l2=>?_) (fun _ h_l2=>?_)
 · refine za4 ?_
   refine za0 (zb5 (za0 ?_))
   obtain ⟨hb3,h_l2⟩:=za2 h_l2
   refine za1 hG ?_
   refine za0 (za1 hG ?_)
   refine za0 (za1 hG ?_)
   refine za3 rfl hG h_l2 (fun _ h_l2=>?_) (fun _ h_l2=>?_)
   · exact zdy1 h_l2
   refine za4 ?_
   refine za1 hG ?_
   exact zc7 hK [] h_l2
 refine zc2 ?_
 obtain rfl:=Option.some.inj h_l2
 have hx:=hx_l2 _ rfl
 subst hx
 try dsimp only at h
 exact zc6 hK [] g2.1 (by exact h)
attribute [local irreducible] zc4
noncomputable def zn7 (a0:Queue):Option ((List Wait)) :=
 (zc4 [a0.converts,a0.waits]).bind fun v1 =>
 some v1
theorem zal6 (a0:Queue) (r:(List Wait)) (h:zn7 a0=some r):PFn C 112 [.agg (Queue.enc a0)] (.sl (r.map Wait.enc)):=by
 refine za6 zdS1 rfl fun E hG hN hK=>?_
 unfold zcf5
 unfold zn7 at h
 refine za0 (za1 hG ?_)
 refine za0 (za1 hG ?_)
 obtain ⟨v1,hv1,h⟩:=za5 h
 refine za7 (fun hg=>PFn.unfull (zL9 [a0.converts,a0.waits] _ (hv1))) ?_
 refine za8 ?_
 exact zb1 h
attribute [local irreducible] zn7
noncomputable def zH9  (j1:(List Proc)):Option ((List Proc)) :=
 some j1
@[go_sem] def zdE4  (j1:(List Proc)):St:=⟨[(3,.own 0 0 j1.length)],[(0,⟨false,3,(Proc.enc Proc.zero),j1.map Proc.enc⟩)],1⟩
noncomputable def zA9 (v1:(List Wait)) (g1:Int×(List Proc)):Option ((Int×(List Proc))⊕(((List Proc)))) :=
 (if (decide (g1.1 < (v1.length:Int)))=true then
  gd (0≤g1.1∧g1.1 < (v1.length:Int)) <|
  gd (g1.2.length+1≤4294967296) <|
  some (.inl ((IntKind.i64.wrap (g1.1+1)),(g1.2++[(v1.getD g1.1.toNat Wait.zero).proc])))
 else
  some (.inr g1.2))
@[go_sem] def zdE5 (v1:(List Wait)) (g1:Int×(List Proc)):St:=⟨[(3,.own 0 0 g1.2.length),(7,.sl (v1.map Wait.enc)),(8,.int .i64 (v1.length:Int)),(9,.int .i64 g1.1)],[(0,⟨false,3,(Proc.enc Proc.zero),g1.2.map Proc.enc⟩)],1⟩
noncomputable def zp9 (a0:Queue):Option ((List Proc)) :=
 (zn7 a0).bind fun v1 =>
 (zb6 (zA9 v1) (0,[])).bind (fun z=>zH9 z)
theorem zaP7 (a0:Queue) (r:(List Proc)) (h:zp9 a0=some r):PFn C 117 [.agg (Queue.enc a0)] (.sl (r.map Proc.enc)):=by
 refine za6 zdS2 rfl fun E hG hN hK=>?_
 unfold zcg4
 unfold zp9 at h
 refine za0 (za1 hG ?_)
 refine za0 (za1 hG ?_)
 refine za0 (za0 (za1 hG ?_))
 obtain ⟨v1,hv1,h⟩:=za5 h
 refine za7 (fun hg=>zal6 a0 _ (hv1)) ?_
 refine zb4 (zdE4) (fun v=>zH9 v=some r) ?_ ?_
 · intro j1 h
   unfold zH9 at h
   refine g_st ?_
   refine za0 (za1 hG ?_)
   refine za8 ?_
   exact zb1 h
 refine zd6 (zdE5 v1) hK [(0,1)] h (fun x_l1 h g1 y_l1 h_l1 hx_l1=>?_)
 unfold zA9 at h_l1
 refine g_st ?_
 refine za0 (za1 hG ?_)
 refine za0 ?_
 refine za3 rfl hG h_l1 (fun _ h_l1=>?_) (fun _ h_l1=>?_)
 · refine za4 ?_
   refine za0 (zb5 (za0 ?_))
   obtain ⟨hb2,h_l1⟩:=za2 h_l1
   refine za1 hG ?_
   obtain ⟨hb1,h_l1⟩:=za2 h_l1
   refine za1 hG ?_
   refine za1 hG ?_
   exact zc7 hK [(0,2)] h_l1
 refine zc2 ?_
 obtain rfl:=Option.some.inj h_l1
 have hx:=hx_l1 _ rfl
 subst hx
 try dsimp only at h
 exact zc6 hK [(0,0)] g1.2 (by exact h)
attribute [local irreducible] zp9
def ltS (x y:Proc):Prop:=x.site < y.site∨x.site=y.site∧(x.inc < y.inc∨x.inc=y.inc∧x.num < y.num)
instance (x y:Proc):Decidable (ltS x y):=by unfold ltS; infer_instance
def cmpS (x y:Proc):Int:=if ltS x y then -1 else if ltS y x then 1 else 0
theorem zae4 (x y:Proc):ltOf cmpS x y=decide (ltS x y):=by
 unfold ltOf cmpS
 by_cases h:ltS x y
 · simp [h]
 · by_cases h2:ltS y x <;> simp [h,h2]
theorem zbM6:Go.Sort.SWO (ltOf cmpS) where
 irrefl x:=by rw [zae4]; simp [ltS]
 trans x y z h1 h2:=by
  rw [zae4,decide_eq_true_eq] at *; unfold ltS at *; omega
 ntrans x y z h1 h2:=by
  rw [zae4,decide_eq_false_iff_not] at *; unfold ltS at *; omega
theorem zbp8 (x y:Proc) (h1:ltOf cmpS x y=false) (h2:ltOf cmpS y x=false):x=y:=by
 rw [zae4,decide_eq_false_iff_not] at *; unfold ltS at *; rw [Proc.ext_iff]; omega
theorem zbS4 (p q:Proc):zd7 p q=some (cmpS p q):=by
 unfold zd7 zj1
 have e:∀ (x y z:Int) (i:Nat) (h:[x,y,z].length=3),Arr.get (⟨[x,y,z],h⟩:Arr Int 3) i 0=match i with | 0=>x | 1=>y | _=>z:=by
  intro x y z i h
  match i with
  | 0=>rfl
  | 1=>rfl
  | 2=>rfl
  | n+3 =>
    have:¬ (n+3 < 3):=by omega
    simp [Arr.get,zp7,this]
 have w1:IntKind.i64.wrap (0+1)=1:=by decide
 have w2:IntKind.i64.wrap (1+1)=2:=by decide
 have w3:IntKind.i64.wrap (2+1)=3:=by decide
 have s3:zd1 ⟨[p.site,p.inc,p.num],rfl⟩ ⟨[q.site,q.inc,q.num],rfl⟩ 3=some (.inr (.inl ())):=by unfold zd1; simp
 have s2:zd1 ⟨[p.site,p.inc,p.num],rfl⟩ ⟨[q.site,q.inc,q.num],rfl⟩ 2=some (if p.num < q.num then .inr (.inr (-1)) else if q.num < p.num then .inr (.inr 1) else .inl 3):=by
  unfold zd1
  rw [if_pos (by decide),zb2 (by decide),zb2 (by decide),zb2 (by decide)]
  simp only [e,show (2:Int).toNat=2 from rfl,decide_eq_true_eq,w3]
  by_cases h:p.num < q.num
  · simp [h]
  · by_cases h2:q.num < p.num <;> simp [h,h2]
 have s1:zd1 ⟨[p.site,p.inc,p.num],rfl⟩ ⟨[q.site,q.inc,q.num],rfl⟩ 1=some (if p.inc < q.inc then .inr (.inr (-1)) else if q.inc < p.inc then .inr (.inr 1) else .inl 2):=by
  unfold zd1
  rw [if_pos (by decide),zb2 (by decide),zb2 (by decide),zb2 (by decide)]
  simp only [e,show (1:Int).toNat=1 from rfl,decide_eq_true_eq,w2]
  by_cases h:p.inc < q.inc
  · simp [h]
  · by_cases h2:q.inc < p.inc <;> simp [h,h2]
 have s0:zd1 ⟨[p.site,p.inc,p.num],rfl⟩ ⟨[q.site,q.inc,q.num],rfl⟩ 0=some (if p.site < q.site then .inr (.inr (-1)) else if q.site < p.site then .inr (.inr 1) else .inl 1):=by
  unfold zd1
  rw [if_pos (by decide),zb2 (by decide),zb2 (by decide),zb2 (by decide)]
  simp only [e,show (0:Int).toNat=0 from rfl,decide_eq_true_eq,w1]
  by_cases h:p.site < q.site
  · simp [h]
  · by_cases h2:q.site < p.site <;> simp [h,h2]
 unfold cmpS ltS
 by_cases a1:p.site < q.site
 · rw [zd9,s0]; simp [a1]
 · by_cases a2:q.site < p.site
   · rw [zd9,s0]
     have:¬ p.site=q.site:=by omega
     simp [a1,a2,this]
   · have h1:p.site=q.site:=by omega
     by_cases b1:p.inc < q.inc
     · rw [zd9,s0]; simp only [a1,a2,if_false]; rw [zd9,s1]; simp [b1,h1]
     · by_cases b2:q.inc < p.inc
       · have:¬ p.inc=q.inc:=by omega
         rw [zd9,s0]; simp only [a1,a2,if_false]; rw [zd9,s1]; simp [b1,b2,h1,this]
       · have h2:p.inc=q.inc:=by omega
         rw [zd9,s0]; simp only [a1,a2,if_false]; rw [zd9,s1]; simp only [b1,b2,if_false]; rw [zd9,s2]
         by_cases c1:p.num < q.num
         · simp [c1,h1,h2]
         · by_cases c2:q.num < p.num
           · simp [c1,c2,h1,h2]
           · simp only [c1,c2,if_false]; rw [zd9,s3]; simp [h1,h2,zy2]
theorem zG5:SlLaysF0.n6 C.P ⟨fun | 6=>118 | 15=>154 | 14=>153 | 28=>177 | 29=>178 | 20=>169 | 21=>170 | 22=>171 | 23=>172 | 24=>173 | 25=>174 | 26=>175 | 27=>176 | 46=>185 | 47=>186 | 48=>187 | 49=>188 | 50=>189 | 57=>192 | n=>n,fun | 22=>73 | 24=>31 | 25=>100 | 39=>145 | 53=>166 | 55=>168 | 46=>159 | 45=>158 | 50=>163 | 66=>172 | 70=>176 | 76=>178 | 77=>179 | n=>n,fun n=>n⟩ where
 mixed:=ze6
 f6:=⟨ "slices.SortFunc[[]clusterlocks/api.Proc,clusterlocks/api.Proc]",by decide,Tryz.func118.trans (congrArg some (by kernel_rfl))⟩
 f14:=⟨ "slices.pdqsortCmpFunc[clusterlocks/api.Proc]",by decide,Tryz.func153.trans (congrArg some (by kernel_rfl))⟩
 f15:=Tryz.func154.trans (congrArg some (by kernel_rfl))
 f20:=⟨ "slices.insertionSortCmpFunc[clusterlocks/api.Proc]",by decide,Tryz.func169.trans (congrArg some (by kernel_rfl))⟩
 f21:=⟨ "slices.heapSortCmpFunc[clusterlocks/api.Proc]",by decide,Tryz.func170.trans (congrArg some (by kernel_rfl))⟩
 f22:=⟨ "slices.breakPatternsCmpFunc[clusterlocks/api.Proc]",by decide,Tryz.func171.trans (congrArg some (by kernel_rfl))⟩
 f23:=⟨ "slices.choosePivotCmpFunc[clusterlocks/api.Proc]",by decide,Tryz.func172.trans (congrArg some (by kernel_rfl))⟩
 f24:=⟨ "slices.reverseRangeCmpFunc[clusterlocks/api.Proc]",by decide,Tryz.func173.trans (congrArg some (by kernel_rfl))⟩
 f25:=⟨ "slices.partialInsertionSortCmpFunc[clusterlocks/api.Proc]",by decide,Tryz.func174.trans (congrArg some (by kernel_rfl))⟩
 f26:=⟨ "slices.partitionEqualCmpFunc[clusterlocks/api.Proc]",by decide,Tryz.func175.trans (congrArg some (by kernel_rfl))⟩
 f27:=⟨ "slices.partitionCmpFunc[clusterlocks/api.Proc]",by decide,Tryz.func176.trans (congrArg some (by kernel_rfl))⟩
 f28:=Tryz.func177.trans (congrArg some (by kernel_rfl))
 f29:=Tryz.func178.trans (congrArg some (by kernel_rfl))
 f46:=⟨ "slices.siftDownCmpFunc[clusterlocks/api.Proc]",by decide,Tryz.func185.trans (congrArg some (by kernel_rfl))⟩
 f47:=Tryz.func186.trans (congrArg some (by kernel_rfl))
 f48:=Tryz.func187.trans (congrArg some (by kernel_rfl))
 f49:=⟨ "slices.medianAdjacentCmpFunc[clusterlocks/api.Proc]",by decide,Tryz.func188.trans (congrArg some (by kernel_rfl))⟩
 f50:=⟨ "slices.medianCmpFunc[clusterlocks/api.Proc]",by decide,Tryz.func189.trans (congrArg some (by kernel_rfl))⟩
 f57:=⟨ "slices.order2CmpFunc[clusterlocks/api.Proc]",by decide,Tryz.func192.trans (congrArg some (by kernel_rfl))⟩
 t0:=Tryz.underlying0
 a0:=Tryz.isAgg0
 z0:=Tryz.sizeOf0
 v0:=Tryz.zeroValue0
 t3:=Tryz.underlying3
 a3:=Tryz.isAgg3
 z3:=Tryz.sizeOf3
 v3:=Tryz.zeroValue3
 t4:=Tryz.underlying4
 a4:=Tryz.isAgg4
 z4:=Tryz.sizeOf4
 v4:=Tryz.zeroValue4
 t5:=Tryz.underlying5
 a5:=Tryz.isAgg5
 z5:=Tryz.sizeOf5
 v5:=Tryz.zeroValue5
 t9:=Tryz.underlying9
 a9:=Tryz.isAgg9
 z9:=Tryz.sizeOf9
 v9:=Tryz.zeroValue9
 t22:=Tryz.underlying73
 a22:=Tryz.isAgg73
 z22:=Tryz.sizeOf73
 v22:=Tryz.zeroValue73
 t25:=Tryz.underlying100
 a25:=Tryz.isAgg100
 z25:=Tryz.sizeOf100
 v25:=Tryz.zeroValue100
 t39:=Tryz.underlying145
 a39:=Tryz.isAgg145
 z39:=Tryz.sizeOf145
 v39:=Tryz.zeroValue145
 t45:=Tryz.underlying158
 a45:=Tryz.isAgg158
 z45:=Tryz.sizeOf158
 v45:=Tryz.zeroValue158
 t46:=Tryz.underlying159
 a46:=Tryz.isAgg159
 z46:=Tryz.sizeOf159
 v46:=Tryz.zeroValue159
 t50:=Tryz.underlying163
 a50:=Tryz.isAgg163
 z50:=Tryz.sizeOf163
 v50:=Tryz.zeroValue163
 t53:=Tryz.underlying166
 a53:=Tryz.isAgg166
 z53:=Tryz.sizeOf166
 v53:=Tryz.zeroValue166
 t55:=Tryz.underlying168
 a55:=Tryz.isAgg168
 z55:=Tryz.sizeOf168
 v55:=Tryz.zeroValue168
 t66:=Tryz.underlying172
 a66:=Tryz.isAgg172
 z66:=Tryz.sizeOf172
 v66:=Tryz.zeroValue172
 t70:=Tryz.underlying176
 a70:=Tryz.isAgg176
 z70:=Tryz.sizeOf176
 v70:=Tryz.zeroValue176
 t76:=Tryz.underlying178
 a76:=Tryz.isAgg178
 z76:=Tryz.sizeOf178
 v76:=Tryz.zeroValue178
 t77:=Tryz.underlying179
 a77:=Tryz.isAgg179
 z77:=Tryz.sizeOf179
 v77:=Tryz.zeroValue179
def zb7 (a0:List Proc):Option (List Proc):=gd (a0.length≤4294967296) (some (a0.mergeSort fun x y=>!decide (y.site < x.site∨y.site=x.site∧(y.inc < x.inc∨y.inc=x.inc∧y.num < x.num))))
theorem zF6 (a0 r:List Proc) (h:zb7 a0=some r):r.length=a0.length:=by
 obtain ⟨_,h⟩:=za2 h
 obtain rfl:=Option.some.inj h
 exact List.length_mergeSort _
theorem zF7 (a0:List Proc) (r:List Proc) (h:zb7 a0=some r):MFn C 118 [.own 0 0 a0.length,.clo 119 []] [(0,⟨false,3,(Proc.enc Proc.zero),a0.map Proc.enc⟩)] 1 (.tup []) [(0,⟨false,3,(Proc.enc Proc.zero),r.map Proc.enc⟩)] 1:=by
 obtain ⟨hl,h⟩:=za2 h
 obtain rfl:=Option.some.inj h
 haveI:Inhabited Proc:=⟨Proc.zero⟩
 have e:(fun x y:Proc=>!decide (y.site < x.site∨y.site=x.site∧(y.inc < x.inc∨y.inc=x.inc∧y.num < x.num)))=fun x y=>!(ltOf cmpS) y x:=by
  funext x y
  rw [zae4]
  exact congrArg not (decide_eq_decide.2 Iff.rfl)
 rw [e]
 exact zbM5 zG5 Proc.enc 3 Proc.len (by decide) Proc.scal Tryz.isAgg31 Tryz.sizeOf31 cmpS zbM6 zbp8 119 (fun x y=>zG2 x y _ (zbS4 x y)) (enters_of Tryz.func119 (by kernel_rfl) rfl) rfl _ a0 hl
attribute [local irreducible] zb7
noncomputable def zk6 (a0:List Proc) (j1:Unit):Option ((List Proc)×(List Proc)) :=
 some (a0,a0)
@[go_sem] def zdE6 (a0:List Proc) (j1:Unit):St:=⟨[(0,.own 0 0 a0.length)],[(0,⟨false,3,(Proc.enc Proc.zero),a0.map Proc.enc⟩)],1⟩
noncomputable def zg5  (j2:Int×(List Proc)):Option ((Int)⊕((Unit)⊕((List Proc)×(List Proc)))) :=
 gd (0≤j2.1∧j2.1≤((j2.2.length:Nat):Int)∧((j2.2.length:Nat):Int)≤((j2.2.length:Nat):Int)) <|
 gd (0≤0∧0≤j2.1∧j2.1≤((j2.2.length:Nat):Int)) <|
 some (.inr (.inr ((((j2.2.take j2.1.toNat++List.replicate (j2.2.length - j2.1.toNat) Proc.zero++j2.2.drop (j2.1.toNat+(j2.2.length - j2.1.toNat))).drop 0).take j2.1.toNat),(j2.2.take j2.1.toNat++List.replicate (j2.2.length - j2.1.toNat) Proc.zero++j2.2.drop (j2.1.toNat+(j2.2.length - j2.1.toNat))))))
@[go_sem] def zdE7  (j2:Int×(List Proc)):St:=⟨[(0,.own 0 0 j2.2.length),(3,.int .i64 j2.1)],[(0,⟨false,3,(Proc.enc Proc.zero),j2.2.map Proc.enc⟩)],1⟩
noncomputable def zg6 (a0:List Proc) (g1:Int) (g2:Int×Int×(List Proc)):Option ((Int×Int×(List Proc))⊕((Int×(List Proc)))) :=
 (if (decide (g2.2.1 < (((a0.length - g1.toNat):Nat):Int)))=true then
  gd (0≤g2.2.1∧g2.2.1 < (((a0.length - g1.toNat):Nat):Int)∧g1.toNat+(a0.length - g1.toNat)≤g2.2.2.length) <|
  gd (0≤(IntKind.i64.wrap (g2.2.1 - 1))∧(IntKind.i64.wrap (g2.2.1 - 1)) < (((a0.length - g1.toNat):Nat):Int)∧g1.toNat+(a0.length - g1.toNat)≤g2.2.2.length) <|
  (if (!decide ((g2.2.2.getD (g1.toNat+g2.2.1.toNat) Proc.zero)=(g2.2.2.getD (g1.toNat+(IntKind.i64.wrap (g2.2.1 - 1)).toNat) Proc.zero)))=true then
   gd (0≤g2.2.1∧g2.2.1 < (((a0.length - g1.toNat):Nat):Int)∧g1.toNat+(a0.length - g1.toNat)≤g2.2.2.length) <|
   gd (0≤g2.1∧g2.1 < ((g2.2.2.length:Nat):Int)) <|
   some (.inl ((IntKind.i64.wrap (g2.1+1)),(IntKind.i64.wrap (g2.2.1+1)),(g2.2.2.set g2.1.toNat (g2.2.2.getD (g1.toNat+g2.2.1.toNat) Proc.zero))))
  else
   some (.inl (g2.1,(IntKind.i64.wrap (g2.2.1+1)),g2.2.2)))
 else
  some (.inr (g2.1,g2.2.2)))
@[go_sem] def zdE8 (a0:List Proc) (g1:Int) (g2:Int×Int×(List Proc)):St:=⟨[(0,.own 0 0 g2.2.2.length),(3,.int .i64 g2.1),(4,.own 0 g1.toNat (a0.length - g1.toNat)),(5,.int .i64 g2.2.1)],[(0,⟨false,3,(Proc.enc Proc.zero),g2.2.2.map Proc.enc⟩)],1⟩
noncomputable def zg7 (a0:List Proc) (g1:Int):Option ((Int)⊕((Unit)⊕((List Proc)×(List Proc)))) :=
 (if (decide (g1 < ((a0.length:Nat):Int)))=true then
  gd (0≤g1∧g1 < ((a0.length:Nat):Int)) <|
  gd (0≤(IntKind.i64.wrap (g1 - 1))∧(IntKind.i64.wrap (g1 - 1)) < ((a0.length:Nat):Int)) <|
  (if (decide ((a0.getD g1.toNat Proc.zero)=(a0.getD ((IntKind.i64.wrap (g1 - 1)).toNat) Proc.zero)))=true then
   gd (0≤g1∧g1≤((a0.length:Nat):Int)∧((a0.length:Nat):Int)≤((a0.length:Nat):Int)) <|
   (zb6 (zg6 a0 g1) (g1,1,a0)).bind (fun z=>zg5 z)
  else
   some (.inl (IntKind.i64.wrap (g1+1))))
 else
  some (.inr (.inl ())))
@[go_sem] def zdE9 (a0:List Proc) (g1:Int):St:=⟨[(0,.own 0 0 a0.length),(3,.int .i64 g1)],[(0,⟨false,3,(Proc.enc Proc.zero),a0.map Proc.enc⟩)],1⟩
noncomputable def zc0 (a0:List Proc):Option ((List Proc)×(List Proc)) :=
 (if (decide (((a0.length:Nat):Int) < 2))=true then
  some (a0,a0)
 else
  (zb6 (zg7 a0) 1).bind (fun | .inl z=>zk6 a0 z | .inr z=>some z))
theorem zG6 (a0:List Proc) (r:(List Proc)×(List Proc)) (h:zc0 a0=some r):MFn C 120 [.own 0 0 a0.length] [(0,⟨false,3,(Proc.enc Proc.zero),a0.map Proc.enc⟩)] 1 (.sl (r.1.map Proc.enc)) [(0,⟨true,3,(Proc.enc Proc.zero),r.2.map Proc.enc⟩)] 1:=by
 refine zs0 (rl:=[.sl (r.1.map Proc.enc)]) zdS3 rfl rfl rfl rfl fun E hG hN hK=>?_
 unfold zch5
 unfold zc0 at h
 refine za0 (za1 hG ?_)
 refine za0 (za0 (za1 hG ?_))
 refine za3 rfl hG h (fun _ h=>?_) (fun _ h=>?_)
 · refine za0 (za1 hG ?_)
   refine g_gh (.fz [0]) ?_
   refine za8 ?_
   exact zC2 [(0,0)] h
 refine za4 ?_
 refine za0 (za0 (za1 hG ?_))
 refine zb4 (zdE6 a0) (fun v=>zk6 a0 v=some r) ?_ ?_
 · intro j1 h
   unfold zk6 at h
   refine g_st ?_
   refine za0 (za1 hG ?_)
   refine g_gh (.fz [0]) ?_
   refine za8 ?_
   exact zC2 [(0,0)] h
 refine zd6 (zdE9 a0) hK [(0,0)] h (fun x_l1 h g1 y_l1 h_l1 hx_l1=>?_)
 unfold zg7 at h_l1
 refine g_st ?_
 refine za0 (za0 (za1 hG ?_))
 refine za3 rfl hG h_l1 (fun _ h_l1=>?_) (fun _ h_l1=>?_)
 · refine za4 ?_
   refine za0 (zb5 (za0 ?_))
   obtain ⟨hb8,h_l1⟩:=za2 h_l1
   obtain ⟨hb9,h_l1⟩:=za2 h_l1
   refine zo8 ze6 hG ?_
   refine za3 rfl hG h_l1 (fun _ h_l1=>?_) (fun _ h_l1=>?_)
   · refine za0 ?_
     obtain ⟨hb7,h_l1⟩:=za2 h_l1
     refine za1 hG ?_
     refine za0 (za0 (za1 hG ?_))
     refine zb4 (zdE7) (fun v=>zg5 v=some y_l1) ?_ ?_
     · intro j2 h_l1
       unfold zg5 at h_l1
       refine g_st ?_
       refine za0 ?_
       obtain ⟨hb2,h_l1⟩:=za2 h_l1
       refine za1 hG ?_
       refine za0 ?_
       obtain ⟨hb1,h_l1⟩:=za2 h_l1
       refine za1 hG ?_
       refine g_gh (.fz [0]) ?_
       refine za8 ?_
       obtain rfl:=Option.some.inj h_l1
       have hx:=hx_l1 _ rfl
       subst hx
       try dsimp only at h
       exact zC2 [(0,0)] h
     refine zd6 (zdE8 a0 g1) hK [(0,0)] h_l1 (fun x_l2 h_l1 g2 y_l2 h_l2 hx_l2=>?_)
     unfold zg6 at h_l2
     refine g_st ?_
     refine za0 (za0 (za1 hG ?_))
     refine za3 rfl hG h_l2 (fun _ h_l2=>?_) (fun _ h_l2=>?_)
     · refine za4 ?_
       refine za0 (zb5 (za0 ?_))
       obtain ⟨hb5,h_l2⟩:=za2 h_l2
       obtain ⟨hb6,h_l2⟩:=za2 h_l2
       refine zo8 ze6 hG ?_
       refine za3 rfl hG h_l2 (fun _ h_l2=>?_) (fun _ h_l2=>?_)
       · refine za0 ?_
         obtain ⟨hb3,h_l2⟩:=za2 h_l2
         obtain ⟨hb4,h_l2⟩:=za2 h_l2
         refine za1 hG ?_
         refine za1 hG ?_
         refine za1 hG ?_
         exact zc7 hK [(0,0)] h_l2
       refine za4 ?_
       refine za1 hG ?_
       exact zc7 hK [(0,0)] h_l2
     refine zc2 ?_
     obtain rfl:=Option.some.inj h_l2
     have hx:=hx_l2 _ rfl
     subst hx
     try dsimp only at h_l1
     exact zc6 hK [(0,0)] (g2.1,g2.2.2) (by exact h_l1)
   refine za4 ?_
   refine za1 hG ?_
   exact zc7 hK [(0,0)] h_l1
 refine zc2 ?_
 obtain rfl:=Option.some.inj h_l1
 have hx:=hx_l1 _ rfl
 subst hx
 try dsimp only at h
 exact zc6 hK [(0,0)] () (by exact h)
attribute [local irreducible] zc0
noncomputable def zh4 (a0:List Proc):Option ((List Proc)) :=
 gd (a0.length≤4294967296) <|
 (zb7 a0).bind fun v1 =>
 (zc0 v1).bind fun v2 =>
 some v2.1
theorem zX9 (a0:List Proc) (r:(List Proc)) (h:zh4 a0=some r):PFn C 77 [.sl (a0.map Proc.enc)] (.sl (r.map Proc.enc)):=by
 refine za6 zdS4 rfl fun E hG hN hK=>?_
 unfold zci0
 unfold zh4 at h
 refine za0 (za1 hG ?_)
 refine za0 ?_
 obtain ⟨hb1,h⟩:=za2 h
 refine za1 hG ?_
 refine za0 (za1 hG ?_)
 obtain ⟨v1,hv1,h⟩:=za5 h
 have hl_v1:=zF6 a0 _ hv1
 refine zA5 [(0,0)] [] [0] (zF7 a0 _ hv1) rfl rfl ?_
 refine za0 (za1 hG ?_)
 obtain ⟨v2,hv2,h⟩:=za5 h
 refine zA5 [(0,0)] [] [0] (zG6 v1 _ hv2) rfl rfl ?_
 refine za8 ?_
 exact zb1 h
attribute [local irreducible] zh4
noncomputable def zn8 (a0:Queue):Option ((List Proc)) :=
 (zh3 a0.holds).bind fun v1 =>
 (zp9 a0).bind fun v2 =>
 gd (v1.length+v2.length≤4294967296) <|
 (zh4 (v1++v2)).bind fun v3 =>
 some v3
theorem zal7 (a0:Queue) (r:(List Proc)) (h:zn8 a0=some r):PFn C 76 [.agg (Queue.enc a0)] (.sl (r.map Proc.enc)):=by
 refine za6 zdS5 rfl fun E hG hN hK=>?_
 unfold zci3
 unfold zn8 at h
 refine za0 (za1 hG ?_)
 refine za0 (zX3 ze6 hG ?_)
 obtain ⟨v1,hv1,h⟩:=za5 h
 refine zax6 [] [(0,1)] [0] (zaq0 a0.holds _ hv1) rfl rfl ?_
 obtain ⟨v2,hv2,h⟩:=za5 h
 obtain ⟨hb1,h⟩:=za2 h
 refine zW1 (fun hg=>zaP7 a0 _ (hv2)) ?_
 obtain ⟨v3,hv3,h⟩:=za5 h
 refine zW1 (fun hg=>zX9 (v1++v2) _ (hv3)) ?_
 refine za8 ?_
 exact zb1 h
attribute [local irreducible] zn8
noncomputable def zI0  (j1:(List Proc)):Option ((List Proc)) :=
 (zh4 j1).bind fun v1 =>
 some v1
@[go_sem] def zdF0  (j1:(List Proc)):St:=⟨[(3,.own 0 0 j1.length)],[(0,⟨false,3,(Proc.enc Proc.zero),j1.map Proc.enc⟩)],1⟩
noncomputable def zB0 (a0:List Queue) (g1:Int×(List Proc)):Option ((Int×(List Proc))⊕(((List Proc)))) :=
 (if (decide (g1.1 < (a0.length:Int)))=true then
  gd (0≤g1.1∧g1.1 < (a0.length:Int)) <|
  (zn8 (a0.getD g1.1.toNat Queue.zero)).bind fun v2 =>
  gd (g1.2.length+v2.length≤4294967296) <|
  some (.inl ((IntKind.i64.wrap (g1.1+1)),(g1.2++v2)))
 else
  some (.inr g1.2))
@[go_sem] def zdF1 (a0:List Queue) (g1:Int×(List Proc)):St:=⟨[(3,.own 0 0 g1.2.length),(6,.sl (a0.map Queue.enc)),(7,.int .i64 (a0.length:Int)),(8,.int .i64 g1.1)],[(0,⟨false,3,(Proc.enc Proc.zero),g1.2.map Proc.enc⟩)],1⟩
noncomputable def zl4 (a0:List Queue):Option ((List Proc)) :=
 (zb6 (zB0 a0) (0,[])).bind (fun z=>zI0 z)
theorem zY0 (a0:List Queue) (r:(List Proc)) (h:zl4 a0=some r):PFn C 40 [.sl (a0.map Queue.enc)] (.sl (r.map Proc.enc)):=by
 refine za6 zdS6 rfl fun E hG hN hK=>?_
 unfold zcj2
 unfold zl4 at h
 refine za0 (za1 hG ?_)
 refine za0 (za1 hG ?_)
 refine za0 (za0 (za1 hG ?_))
 refine zb4 (zdF0) (fun v=>zI0 v=some r) ?_ ?_
 · intro j1 h
   unfold zI0 at h
   refine g_st ?_
   refine za0 (za1 hG ?_)
   obtain ⟨v1,hv1,h⟩:=za5 h
   refine za7 (fun hg=>zX9 j1 _ (hv1)) ?_
   refine za8 ?_
   exact zb1 h
 refine zd6 (zdF1 a0) hK [(0,0)] h (fun x_l1 h g1 y_l1 h_l1 hx_l1=>?_)
 unfold zB0 at h_l1
 refine g_st ?_
 refine za0 (za1 hG ?_)
 refine za0 ?_
 refine za3 rfl hG h_l1 (fun _ h_l1=>?_) (fun _ h_l1=>?_)
 · refine za4 ?_
   refine za0 (zb5 (za0 ?_))
   obtain ⟨hb2,h_l1⟩:=za2 h_l1
   refine za1 hG ?_
   refine za1 hG ?_
   obtain ⟨v2,hv2,h_l1⟩:=za5 h_l1
   obtain ⟨hb1,h_l1⟩:=za2 h_l1
   refine za7 (fun hg=>zal7 (a0.getD g1.1.toNat Queue.zero) _ (hv2)) ?_
   refine za1 hG ?_
   exact zc7 hK [(0,2)] h_l1
 refine zc2 ?_
 obtain rfl:=Option.some.inj h_l1
 have hx:=hx_l1 _ rfl
 subst hx
 try dsimp only at h
 exact zc6 hK [(0,0)] g1.2 (by exact h)
attribute [local irreducible] zl4
noncomputable def zI1 (a0:List Queue) (j1:Unit):Option (Bool) :=
 (zl4 a0).bind fun v1 =>
 some (decide ((v1.length:Int)≤8))
@[go_sem] def zdF2 (a0:List Queue) (j1:Unit):St:=⟨[(0,.sl (a0.map Queue.enc))],[],0⟩
noncomputable def zI2 (a0:List Queue) (g1:Int):Option ((Int)⊕((Unit)⊕(Bool))) :=
 (if (decide (g1 < (a0.length:Int)))=true then
  gd (0≤g1∧g1 < (a0.length:Int)) <|
  (zh5 (a0.getD g1.toNat Queue.zero)).bind fun v2 =>
  gd ((v2&&(decide (0 < g1)))=true→0≤(IntKind.i64.wrap (g1 - 1))∧(IntKind.i64.wrap (g1 - 1)) < (a0.length:Int)) <|
  (if ((!v2)||((decide (0 < g1))&&(!Op.bytesLess (((a0.getD ((IntKind.i64.wrap (g1 - 1)).toNat) Queue.zero).resource).name).toList (((a0.getD g1.toNat Queue.zero).resource).name).toList)))=true then
   some (.inr (.inr false))
  else
   some (.inl (IntKind.i64.wrap (g1+1))))
 else
  some (.inr (.inl ())))
@[go_sem] def zdF3 (a0:List Queue) (g1:Int):St:=⟨[(0,.sl (a0.map Queue.enc)),(8,.sl (a0.map Queue.enc)),(9,.int .i64 (a0.length:Int)),(10,.int .i64 g1)],[],0⟩
noncomputable def zj8 (a0:List Queue):Option (Bool) :=
 (if (decide (8 < (a0.length:Int)))=true then
  some false
 else
  (zb6 (zI2 a0) 0).bind (fun | .inl z=>zI1 a0 z | .inr z=>some z))
theorem zO1 (a0:List Queue) (r:Bool) (h:zj8 a0=some r):PFn C 53 [.sl (a0.map Queue.enc)] (.bool r):=by
 refine za6 zdS7 rfl fun E hG hN hK=>?_
 unfold zck3
 unfold zj8 at h
 refine za0 (za1 hG ?_)
 refine za0 (za0 (za1 hG ?_))
 refine za3 rfl hG h (fun _ h=>?_) (fun _ h=>?_)
 · refine za0 (za1 hG ?_)
   refine za8 ?_
   exact zb1 h
 refine za4 ?_
 refine za0 (za0 (za1 hG ?_))
 refine zb4 (zdF2 a0) (fun v=>zI1 a0 v=some r) ?_ ?_
 · intro j1 h
   unfold zI1 at h
   refine g_st ?_
   refine za0 (za1 hG ?_)
   obtain ⟨v1,hv1,h⟩:=za5 h
   refine za7 (fun hg=>zY0 a0 _ (hv1)) ?_
   refine za8 ?_
   exact zb1 h
 refine zd6 (zdF3 a0) hK [] h (fun x_l1 h g1 y_l1 h_l1 hx_l1=>?_)
 unfold zI2 at h_l1
 refine g_st ?_
 refine za0 (za1 hG ?_)
 refine za0 ?_
 refine za3 rfl hG h_l1 (fun _ h_l1=>?_) (fun _ h_l1=>?_)
 · refine za4 ?_
   refine za0 (zb5 (za0 ?_))
   obtain ⟨hb2,h_l1⟩:=za2 h_l1
   refine za1 hG ?_
   refine za0 (zo8 ze6 hG ?_)
   obtain ⟨v2,hv2,h_l1⟩:=za5 h_l1
   obtain ⟨hb1,h_l1⟩:=za2 h_l1
   refine zg4 (fun hg=>zX8 (a0.getD g1.toNat Queue.zero) _ (hv2)) ?_
   refine za3 rfl hG h_l1 (fun _ h_l1=>?_) (fun _ h_l1=>?_)
   · refine za0 (za1 hG ?_)
     refine za8 ?_
     obtain rfl:=Option.some.inj h_l1
     have hx:=hx_l1 _ rfl
     subst hx
     try dsimp only at h
     exact zb1 h
   refine za4 ?_
   refine za1 hG ?_
   exact zc7 hK [] h_l1
 refine zc2 ?_
 obtain rfl:=Option.some.inj h_l1
 have hx:=hx_l1 _ rfl
 subst hx
 try dsimp only at h
 exact zc6 hK [] () (by exact h)
attribute [local irreducible] zj8
noncomputable def zV0  (j1:Unit):Option (Int) :=
 some (-1)
@[go_sem] def zdF4  (j1:Unit):St:=⟨[],[],0⟩
noncomputable def zL3 (a0:List Queue) (a1:ByteArray) (g1:Int):Option ((Int)⊕((Unit)⊕(Int))) :=
 (if (decide (g1 < (a0.length:Int)))=true then
  gd (0≤g1∧g1 < (a0.length:Int)) <|
  (if ((((a0.getD g1.toNat Queue.zero).resource).name).toList == a1.toList)=true then
   some (.inr (.inr g1))
  else
   some (.inl (IntKind.i64.wrap (g1+1))))
 else
  some (.inr (.inl ())))
@[go_sem] def zdF5 (a0:List Queue) (a1:ByteArray) (g1:Int):St:=⟨[(1,.str a1),(7,.sl (a0.map Queue.enc)),(8,.int .i64 (a0.length:Int)),(9,.int .i64 g1)],[],0⟩
noncomputable def zr4 (a0:List Queue) (a1:ByteArray):Option (Int) :=
 (zb6 (zL3 a0 a1) 0).bind (fun | .inl z=>zV0 z | .inr z=>some z)
theorem zar9 (a0:List Queue) (a1:ByteArray) (r:Int) (h:zr4 a0 a1=some r):PFn C 52 [.sl (a0.map Queue.enc),.str a1] (.int .i64 r):=by
 refine za6 zdS8 rfl fun E hG hN hK=>?_
 unfold zcl2
 unfold zr4 at h
 refine za0 (za1 hG ?_)
 refine za0 (za0 (za1 hG ?_))
 refine zb4 (zdF4) (fun v=>zV0 v=some r) ?_ ?_
 · intro j1 h
   unfold zV0 at h
   refine g_st ?_
   refine za0 (za1 hG ?_)
   refine za8 ?_
   exact zb1 h
 refine zd6 (zdF5 a0 a1) hK [] h (fun x_l1 h g1 y_l1 h_l1 hx_l1=>?_)
 unfold zL3 at h_l1
 refine g_st ?_
 refine za0 (za1 hG ?_)
 refine za0 ?_
 refine za3 rfl hG h_l1 (fun _ h_l1=>?_) (fun _ h_l1=>?_)
 · refine za4 ?_
   refine za0 (zb5 (za0 ?_))
   obtain ⟨hb1,h_l1⟩:=za2 h_l1
   refine za1 hG ?_
   refine za0 (za1 hG ?_)
   refine za3 rfl hG h_l1 (fun _ h_l1=>?_) (fun _ h_l1=>?_)
   · refine za0 (za1 hG ?_)
     refine za8 ?_
     obtain rfl:=Option.some.inj h_l1
     have hx:=hx_l1 _ rfl
     subst hx
     try dsimp only at h
     exact zb1 h
   refine za4 ?_
   refine za1 hG ?_
   exact zc7 hK [] h_l1
 refine zc2 ?_
 obtain rfl:=Option.some.inj h_l1
 have hx:=hx_l1 _ rfl
 subst hx
 try dsimp only at h
 exact zc6 hK [] () (by exact h)
attribute [local irreducible] zr4
noncomputable def zw3 (a0:List Queue) (a1:ByteArray):Option (Int×Int) :=
 (zj8 a0).bind fun v1 =>
 (if (!v1)=true then
  some (0,2)
 else
  (zr4 a0 a1).bind fun v2 =>
  (if (decide (v2 < 0))=true then
   some (0,10)
  else
   some (v2,0)))
theorem zbk8 (a0:List Queue) (a1:ByteArray) (r:Int×Int) (h:zw3 a0 a1=some r):PFn C 54 [.sl (a0.map Queue.enc),.str a1] (.tup [.int .i64 r.1,.int .i64 r.2]):=by
 refine za6 zdS9 rfl fun E hG hN hK=>?_
 unfold zcm0
 unfold zw3 at h
 refine za0 (za1 hG ?_)
 refine za0 (za0 (za1 hG ?_))
 obtain ⟨v1,hv1,h⟩:=za5 h
 refine za7 (fun hg=>zO1 a0 _ (hv1)) ?_
 refine za3 rfl hG h (fun _ h=>?_) (fun _ h=>?_)
 · refine za0 (za1 hG ?_)
   refine za8 ?_
   exact zb1 h
 refine za4 ?_
 refine za0 (za1 hG ?_)
 obtain ⟨v2,hv2,h⟩:=za5 h
 refine za7 (fun hg=>zar9 a0 a1 _ (hv2)) ?_
 refine za0 (za0 (za1 hG ?_))
 refine za3 rfl hG h (fun _ h=>?_) (fun _ h=>?_)
 · refine za0 (za1 hG ?_)
   refine za8 ?_
   exact zb1 h
 refine za4 ?_
 refine za0 (za1 hG ?_)
 refine za8 ?_
 exact zb1 h
attribute [local irreducible] zw3
noncomputable def zn9  (j1:Unit):Option (Int) :=
 some (-1)
@[go_sem] def zdF6  (j1:Unit):St:=⟨[],[],0⟩
noncomputable def zf8 (a0:List Proc) (a1:Proc) (g1:Int):Option ((Int)⊕((Unit)⊕(Int))) :=
 (if (decide (g1 < (a0.length:Int)))=true then
  gd (0≤g1∧g1 < (a0.length:Int)) <|
  (if (decide (a1=(a0.getD g1.toNat Proc.zero)))=true then
   some (.inr (.inr g1))
  else
   some (.inl (IntKind.i64.wrap (g1+1))))
 else
  some (.inr (.inl ())))
@[go_sem] def zdF7 (a0:List Proc) (a1:Proc) (g1:Int):St:=⟨[(0,.sl (a0.map Proc.enc)),(3,.ptr 0 0 0),(7,.int .i64 (a0.length:Int)),(8,.int .i64 g1)],[(0,⟨false,3,(Proc.enc Proc.zero),[Proc.enc a1]⟩)],1⟩
noncomputable def zd2 (a0:List Proc) (a1:Proc):Option (Int) :=
 (zb6 (zf8 a0 a1) 0).bind (fun | .inl z=>zn9 z | .inr z=>some z)
theorem zN5 (a0:List Proc) (a1:Proc) (r:Int) (h:zd2 a0 a1=some r):PFn C 130 [.sl (a0.map Proc.enc),.agg (Proc.enc a1)] (.int .i64 r):=by
 refine za6 zdT0 rfl fun E hG hN hK=>?_
 unfold zcm9
 unfold zd2 at h
 refine za0 (za1 hG ?_)
 refine za0 (za0 (za1 hG ?_))
 refine zb4 (zdF6) (fun v=>zn9 v=some r) ?_ ?_
 · intro j1 h
   unfold zn9 at h
   refine g_st ?_
   refine za0 (za1 hG ?_)
   refine za8 ?_
   exact zb1 h
 refine zd6 (zdF7 a0 a1) hK [(0,0)] h (fun x_l1 h g1 y_l1 h_l1 hx_l1=>?_)
 unfold zf8 at h_l1
 refine g_st ?_
 refine za0 (za1 hG ?_)
 refine za0 ?_
 refine za3 rfl hG h_l1 (fun _ h_l1=>?_) (fun _ h_l1=>?_)
 · refine za4 ?_
   refine za0 (zb5 (za0 (za1 hG ?_)))
   refine za0 ?_
   obtain ⟨hb1,h_l1⟩:=za2 h_l1
   refine zo8 ze6 hG ?_
   refine za3 rfl hG h_l1 (fun _ h_l1=>?_) (fun _ h_l1=>?_)
   · refine za0 (za1 hG ?_)
     refine za8 ?_
     obtain rfl:=Option.some.inj h_l1
     have hx:=hx_l1 _ rfl
     subst hx
     try dsimp only at h
     exact zb1 h
   refine za4 ?_
   refine za1 hG ?_
   exact zc7 hK [(0,0)] h_l1
 refine zc2 ?_
 obtain rfl:=Option.some.inj h_l1
 have hx:=hx_l1 _ rfl
 subst hx
 try dsimp only at h
 exact zc6 hK [] () (by exact h)
attribute [local irreducible] zd2
noncomputable def zc1 (a0:List Proc) (a1:Proc):Option (Bool) :=
 (zd2 a0 a1).bind fun v1 =>
 some (decide (0≤v1))
theorem zK4 (a0:List Proc) (a1:Proc) (r:Bool) (h:zc1 a0 a1=some r):PFn C 85 [.sl (a0.map Proc.enc),.agg (Proc.enc a1)] (.bool r):=by
 refine za6 zdT1 rfl fun E hG hN hK=>?_
 unfold zcn2
 unfold zc1 at h
 refine za0 (za1 hG ?_)
 refine za0 (za1 hG ?_)
 obtain ⟨v1,hv1,h⟩:=za5 h
 refine za7 (fun hg=>zN5 a0 a1 _ (hv1)) ?_
 refine za8 ?_
 exact zb1 h
attribute [local irreducible] zc1
noncomputable def zj4 (a0:List Proc) (a1:Proc):Option (Bool) :=
 (zc1 a0 a1).bind fun v1 =>
 some v1
theorem zae5 (a0:List Proc) (a1:Proc) (r:Bool) (h:zj4 a0 a1=some r):PFn C 55 [.sl (a0.map Proc.enc),.agg (Proc.enc a1)] (.bool r):=by
 refine za6 zdT2 rfl fun E hG hN hK=>?_
 unfold zcn5
 unfold zj4 at h
 refine za0 (za1 hG ?_)
 refine za0 (za1 hG ?_)
 obtain ⟨v1,hv1,h⟩:=za5 h
 refine za7 (fun hg=>zK4 a0 a1 _ (hv1)) ?_
 refine za8 ?_
 exact zb1 h
attribute [local irreducible] zj4
noncomputable def zO2  (j1:Unit):Option (Amount×Bool) :=
 some ({ Amount.zero with  },false)
@[go_sem] def zdF8  (j1:Unit):St:=⟨[(4,.ptr 0 0 0)],[(0,⟨false,2,(Amount.enc Amount.zero),[Amount.enc Amount.zero]⟩)],1⟩
noncomputable def zz5 (a1:Proc) (v1:(List Wait)) (g1:Int):Option ((Int)⊕((Unit)⊕(Amount×Bool))) :=
 (if (decide (g1 < (v1.length:Int)))=true then
  gd (0≤g1∧g1 < (v1.length:Int)) <|
  (if (decide ((v1.getD g1.toNat Wait.zero).proc=a1))=true then
   some (.inr (.inr ((v1.getD g1.toNat Wait.zero).amount,true)))
  else
   some (.inl (IntKind.i64.wrap (g1+1))))
 else
  some (.inr (.inl ())))
@[go_sem] def zdF9 (a1:Proc) (v1:(List Wait)) (g1:Int):St:=⟨[(3,.ptr 0 0 0),(4,.ptr 1 0 0),(9,.sl (v1.map Wait.enc)),(10,.int .i64 (v1.length:Int)),(11,.int .i64 g1)],[(0,⟨false,3,(Proc.enc Proc.zero),[Proc.enc a1]⟩),(1,⟨false,2,(Amount.enc Amount.zero),[Amount.enc Amount.zero]⟩)],2⟩
noncomputable def zj5 (a0:Queue) (a1:Proc):Option (Amount×Bool) :=
 (zn7 a0).bind fun v1 =>
 (zb6 (zz5 a1 v1) 0).bind (fun | .inl z=>zO2 z | .inr z=>some z)
theorem zaH9 (a0:Queue) (a1:Proc) (r:Amount×Bool) (h:zj5 a0 a1=some r):PFn C 70 [.agg (Queue.enc a0),.agg (Proc.enc a1)] (.tup [.agg (Amount.enc r.1),.bool r.2]):=by
 refine za6 zdT3 rfl fun E hG hN hK=>?_
 unfold zco4
 unfold zj5 at h
 refine za0 (za1 hG ?_)
 refine za0 (za0 (za1 hG ?_))
 obtain ⟨v1,hv1,h⟩:=za5 h
 refine za7 (fun hg=>zal6 a0 _ (hv1)) ?_
 refine zb4 (zdF8) (fun v=>zO2 v=some r) ?_ ?_
 · intro j1 h
   unfold zO2 at h
   refine g_st ?_
   refine za0 (za1 hG ?_)
   refine za8 ?_
   exact zb1 h
 refine zd6 (zdF9 a1 v1) hK [(0,1),(1,2)] h (fun x_l1 h g1 y_l1 h_l1 hx_l1=>?_)
 unfold zz5 at h_l1
 refine g_st ?_
 refine za0 (za1 hG ?_)
 refine za0 ?_
 refine za3 rfl hG h_l1 (fun _ h_l1=>?_) (fun _ h_l1=>?_)
 · refine za4 ?_
   refine za0 (zb5 (za0 ?_))
   obtain ⟨hb1,h_l1⟩:=za2 h_l1
   refine za1 hG ?_
   refine za0 (za1 hG ?_)
   refine za3 rfl hG h_l1 (fun _ h_l1=>?_) (fun _ h_l1=>?_)
   · refine za0 (za1 hG ?_)
     refine za8 ?_
     obtain rfl:=Option.some.inj h_l1
     have hx:=hx_l1 _ rfl
     subst hx
     try dsimp only at h
     exact zb1 h
   refine za4 ?_
   refine za1 hG ?_
   exact zc7 hK [(0,0),(1,1)] h_l1
 refine zc2 ?_
 obtain rfl:=Option.some.inj h_l1
 have hx:=hx_l1 _ rfl
 subst hx
 try dsimp only at h
 exact zc6 hK [(0,1)] () (by exact h)
attribute [local irreducible] zj5
noncomputable def zl5 (a0:Queue):Option (Queue) :=
 gd (a0.holds.length≤4294967296) <|
 gd (a0.converts.length≤4294967296) <|
 gd (a0.waits.length≤4294967296) <|
 some a0
theorem zax9 (a0:Queue) (r:Queue) (h:zl5 a0=some r):MFn C 88 [.agg (Queue.enc a0)] [] 0 (.agg [.str r.resource.name,.int .i64 r.resource.kind,.int .i64 r.resource.units,.int .i64 r.resource.home,.own 0 0 r.holds.length,.own 1 0 r.converts.length,.own 2 0 r.waits.length,.int .i64 r.gen]) [(0,⟨false,5,(Hold.enc Hold.zero),r.holds.map Hold.enc⟩),(1,⟨false,7,(Wait.enc Wait.zero),r.converts.map Wait.enc⟩),(2,⟨false,7,(Wait.enc Wait.zero),r.waits.map Wait.enc⟩)] 3:=by
 refine zs0 (rl:=[.agg [.str r.resource.name,.int .i64 r.resource.kind,.int .i64 r.resource.units,.int .i64 r.resource.home,.own 0 0 r.holds.length,.own 1 0 r.converts.length,.own 2 0 r.waits.length,.int .i64 r.gen]]) zdT4 rfl rfl rfl rfl fun E hG hN hK=>?_
 unfold zcp0
 unfold zl5 at h
 refine za0 (za1 hG ?_)
 refine za0 ?_
 obtain ⟨hb3,h⟩:=za2 h
 refine za1 hG ?_
 refine za0 ?_
 obtain ⟨hb2,h⟩:=za2 h
 refine za1 hG ?_
 refine za0 ?_
 obtain ⟨hb1,h⟩:=za2 h
 refine za1 hG ?_
 refine za0 (za1 hG ?_)
 refine za8 ?_
 exact zC2 [(0,2),(1,3),(2,4)] h
attribute [local irreducible] zl5
noncomputable def zac3  (j1:Unit):Option (Int) :=
 some 0
@[go_sem] def zdG0  (j1:Unit):St:=⟨[],[],0⟩
noncomputable def zE2 (a0:Int) (a1:Int) (g1:Int):Option ((Int)⊕((Unit)⊕(Int))) :=
 (if (decide (g1≤5))=true then
  (zj6 g1 a0).bind fun v1 =>
  ((if v1=true then zj6 g1 a1 else some (false))).bind fun v2 =>
  (if (v1&&v2)=true then
   some (.inr (.inr g1))
  else
   some (.inl (IntKind.i64.wrap (g1+1))))
 else
  some (.inr (.inl ())))
@[go_sem] def zdG1 (a0:Int) (a1:Int) (g1:Int):St:=⟨[(0,.int .i64 a0),(1,.int .i64 a1),(5,.int .i64 g1)],[],0⟩
noncomputable def zC8 (a0:Int) (a1:Int):Option (Int) :=
 (zb6 (zE2 a0 a1) 1).bind (fun | .inl z=>zac3 z | .inr z=>some z)
theorem zbk9 (a0:Int) (a1:Int) (r:Int) (h:zC8 a0 a1=some r):PFn C 137 [.int .i64 a0,.int .i64 a1] (.int .i64 r):=by
 refine za6 zdT5 rfl fun E hG hN hK=>?_
 unfold zcp8
 unfold zC8 at h
 refine za0 (za1 hG ?_)
 refine za0 (za0 (za1 hG ?_))
 refine zb4 (zdG0) (fun v=>zac3 v=some r) ?_ ?_
 · intro j1 h
   unfold zac3 at h
   refine g_st ?_
   refine za0 (za1 hG ?_)
   refine za8 ?_
   exact zb1 h
 refine zd6 (zdG1 a0 a1) hK [] h (fun x_l1 h g1 y_l1 h_l1 hx_l1=>?_)
 unfold zE2 at h_l1
 refine g_st ?_
 refine za0 (za0 (za1 hG ?_))
 refine za3 rfl hG h_l1 (fun _ h_l1=>?_) (fun _ h_l1=>?_)
 · refine za4 ?_
   refine za0 (zb5 (za0 (za1 hG ?_)))
   obtain ⟨v1,hv1,h_l1⟩:=za5 h_l1
   refine za7 (fun hg=>zX6 g1 a0 _ (hv1)) ?_
   obtain ⟨v2,hv2,h_l1⟩:=za5 h_l1
   refine za7 (fun hg=>zX6 g1 a1 _ (zv7 hg hv2)) ?_
   refine za3 rfl hG h_l1 (fun _ h_l1=>?_) (fun _ h_l1=>?_)
   · refine za0 (za1 hG ?_)
     refine za8 ?_
     obtain rfl:=Option.some.inj h_l1
     have hx:=hx_l1 _ rfl
     subst hx
     try dsimp only at h
     exact zb1 h
   refine za4 ?_
   refine za1 hG ?_
   exact zc7 hK [] h_l1
 refine zc2 ?_
 obtain rfl:=Option.some.inj h_l1
 have hx:=hx_l1 _ rfl
 subst hx
 try dsimp only at h
 exact zc6 hK [] () (by exact h)
attribute [local irreducible] zC8
noncomputable def zq0 (a0:Resource) (a1:Amount) (a2:Amount):Option (Amount) :=
 (if ((!(zb0 a0 a1))||(!(zb0 a0 a2)))=true then
  some ({ Amount.zero with  })
 else
  (if (zb9 a1)=true then
   some a2
  else
   (if (zb9 a2)=true then
    some a1
   else
    (if (decide (a0.kind=1))=true then
     (zC8 a1.mode a2.mode).bind fun v1 =>
     some ({ Amount.zero with mode:=v1 })
    else
     some ({ Amount.zero with units:=(if a1.units < a2.units then a2.units else a1.units) })))))
theorem zaP8 (a0:Resource) (a1:Amount) (a2:Amount) (r:Amount) (h:zq0 a0 a1 a2=some r):PFn C 93 [.agg (Resource.enc a0),.agg (Amount.enc a1),.agg (Amount.enc a2)] (.agg (Amount.enc r)):=by
 refine za6 zdT6 rfl fun E hG hN hK=>?_
 unfold zcq9
 unfold zq0 at h
 refine za0 (za1 hG ?_)
 refine za0 (zb5 (za0 (za1 hG ?_)))
 refine za7 (fun hg=>zw6 a0 a1) ?_
 refine za7 (fun hg=>zw6 a0 a2) ?_
 refine za3 rfl hG h (fun _ h=>?_) (fun _ h=>?_)
 · refine za0 (za1 hG ?_)
   refine za8 ?_
   exact zb1 h
 refine za0 (za1 hG ?_)
 refine za7 (fun hg=>zn5 a1) ?_
 refine za3 rfl hG h (fun _ h=>?_) (fun _ h=>?_)
 · refine za0 (za1 hG ?_)
   refine za8 ?_
   exact zb1 h
 refine za0 (za1 hG ?_)
 refine za7 (fun hg=>zn5 a2) ?_
 refine za3 rfl hG h (fun _ h=>?_) (fun _ h=>?_)
 · refine za0 (za1 hG ?_)
   refine za8 ?_
   exact zb1 h
 refine za0 (za1 hG ?_)
 refine za3 rfl hG h (fun _ h=>?_) (fun _ h=>?_)
 · refine za0 (za1 hG ?_)
   obtain ⟨v1,hv1,h⟩:=za5 h
   refine za7 (fun hg=>zbk9 a1.mode a2.mode _ (hv1)) ?_
   refine za8 ?_
   exact zb1 h
 refine za4 ?_
 refine za0 (za1 hG ?_)
 refine za8 ?_
 exact zb1 h
attribute [local irreducible] zq0
noncomputable def zk2 (a0:Queue) (a1:Amount) (a2:Amount) (a3:Proc):Option (ByteArray×Int×Int×Int×Int×Amount×Amount×Proc×(List Hold)×(List Wait)×(List Wait)) :=
 (zq0 a0.resource a1 a2).bind fun v1 =>
 gd (a0.converts.length+1≤4294967296) <|
 some (a0.resource.name,a0.resource.kind,a0.resource.units,a0.resource.home,a0.gen,a1,a2,a3,a0.holds,a0.waits,(a0.converts++[{ Wait.zero with proc:=a3,amount:=v1 }]))
theorem zaq1 (a0:Queue) (a1:Amount) (a2:Amount) (a3:Proc) (r:ByteArray×Int×Int×Int×Int×Amount×Amount×Proc×(List Hold)×(List Wait)×(List Wait)) (h:zk2 a0 a1 a2 a3=some r):MFn C 92 [.ptr 0 0 0,.ptr 1 0 0,.ptr 2 0 0,.ptr 3 0 0] [(0,⟨false,8,(Queue.enc Queue.zero),[[.str a0.resource.name,.int .i64 a0.resource.kind,.int .i64 a0.resource.units,.int .i64 a0.resource.home,.own 4 0 a0.holds.length,.own 5 0 a0.converts.length,.own 6 0 a0.waits.length,.int .i64 a0.gen]]⟩),(1,⟨false,2,(Amount.enc Amount.zero),[Amount.enc a1]⟩),(2,⟨false,2,(Amount.enc Amount.zero),[Amount.enc a2]⟩),(3,⟨false,3,(Proc.enc Proc.zero),[Proc.enc a3]⟩),(4,⟨false,5,(Hold.enc Hold.zero),a0.holds.map Hold.enc⟩),(5,⟨false,7,(Wait.enc Wait.zero),a0.converts.map Wait.enc⟩),(6,⟨false,7,(Wait.enc Wait.zero),a0.waits.map Wait.enc⟩)] 7 (.tup []) [(0,⟨false,8,(Queue.enc Queue.zero),[[.str r.1,.int .i64 r.2.1,.int .i64 r.2.2.1,.int .i64 r.2.2.2.1,.own 4 0 r.2.2.2.2.2.2.2.2.1.length,.own 7 0 r.2.2.2.2.2.2.2.2.2.2.length,.own 6 0 r.2.2.2.2.2.2.2.2.2.1.length,.int .i64 r.2.2.2.2.1]]⟩),(1,⟨false,2,(Amount.enc Amount.zero),[Amount.enc r.2.2.2.2.2.1]⟩),(2,⟨false,2,(Amount.enc Amount.zero),[Amount.enc r.2.2.2.2.2.2.1]⟩),(3,⟨false,3,(Proc.enc Proc.zero),[Proc.enc r.2.2.2.2.2.2.2.1]⟩),(4,⟨false,5,(Hold.enc Hold.zero),r.2.2.2.2.2.2.2.2.1.map Hold.enc⟩),(6,⟨false,7,(Wait.enc Wait.zero),r.2.2.2.2.2.2.2.2.2.1.map Wait.enc⟩),(7,⟨false,7,(Wait.enc Wait.zero),r.2.2.2.2.2.2.2.2.2.2.map Wait.enc⟩)] 8:=by
 refine zs0 (rl:=[]) zdT7 rfl rfl rfl rfl fun E hG hN hK=>?_
 unfold zcr2
 unfold zk2 at h
 refine za0 (za1 hG ?_)
 obtain ⟨v1,hv1,h⟩:=za5 h
 refine za7 (fun hg=>zaP8 a0.resource a1 a2 _ (hv1)) ?_
 obtain ⟨hb1,h⟩:=za2 h
 refine za1 hG ?_
 exact zC2 [(0,0),(1,1),(2,2),(3,3),(4,4),(5,5),(6,6),(7,8)] h
attribute [local irreducible] zk2
noncomputable def zG7  (j1:Queue×(List Hold)):Option ((List Hold)×Queue) :=
 some (j1.2,j1.1)
@[go_sem] def zdG2  (j1:Queue×(List Hold)):St:=⟨[(3,.own 1 0 j1.2.length)],[(0,⟨false,8,(Queue.enc Queue.zero),[Queue.enc j1.1]⟩),(1,⟨false,5,(Hold.enc Hold.zero),j1.2.map Hold.enc⟩)],2⟩
noncomputable def zp5 (g1:Queue×(List Hold)) (v1:Wait×Bool) (j2:Queue):Option ((Queue×(List Hold))⊕((Queue×(List Hold)))) :=
 (zi4 j2.holds v1.1.proc v1.1.amount).bind fun v2 =>
 gd (g1.2.length+1≤4294967296) <|
 some (.inl ({ j2 with holds:=v2 },(g1.2++[(⟨v1.1.proc,v1.1.amount⟩:Hold)])))
@[go_sem] def zdG3 (g1:Queue×(List Hold)) (v1:Wait×Bool) (j2:Queue):St:=⟨[(0,.ptr 0 0 0),(3,.own 1 0 g1.2.length),(4,.ptr 2 0 0)],[(0,⟨false,8,(Queue.enc Queue.zero),[Queue.enc j2]⟩),(1,⟨false,5,(Hold.enc Hold.zero),g1.2.map Hold.enc⟩),(2,⟨false,7,(Wait.enc Wait.zero),[Wait.enc v1.1]⟩)],3⟩
noncomputable def zu5  (g1:Queue×(List Hold)):Option ((Queue×(List Hold))⊕((Queue×(List Hold)))) :=
 (zo4 g1.1).bind fun v1 =>
 ((if v1.2=true then zj2 g1.1.resource g1.1.holds v1.1.proc v1.1.amount else some (false))).bind fun v3 =>
 (if ((!v1.2)||(!v3))=true then
  some (.inr (g1.1,g1.2))
 else
  (if (decide (0 < (g1.1.converts.length:Int)))=true then
   gd (0≤1∧1≤(g1.1.converts.length:Int)∧(g1.1.converts.length:Int)≤(g1.1.converts.length:Int)) <|
   zp5 g1 v1 ({ g1.1 with converts:=(g1.1.converts.drop 1) })
  else
   gd (0≤1∧1≤(g1.1.waits.length:Int)∧(g1.1.waits.length:Int)≤(g1.1.waits.length:Int)) <|
   zp5 g1 v1 ({ g1.1 with waits:=(g1.1.waits.drop 1) })))
@[go_sem] def zdG4  (g1:Queue×(List Hold)):St:=⟨[(0,.ptr 0 0 0),(3,.own 1 0 g1.2.length)],[(0,⟨false,8,(Queue.enc Queue.zero),[Queue.enc g1.1]⟩),(1,⟨false,5,(Hold.enc Hold.zero),g1.2.map Hold.enc⟩)],2⟩
noncomputable def ze0 (a0:Queue):Option ((List Hold)×Queue) :=
 (zb6 (zu5) (a0,[])).bind (fun z=>zG7 z)
theorem zK5 (a0:Queue) (r:(List Hold)×Queue) (h:ze0 a0=some r):MFn C 135 [.ptr 0 0 0] [(0,⟨false,8,(Queue.enc Queue.zero),[Queue.enc a0]⟩)] 1 (.sl (r.1.map Hold.enc)) [(0,⟨false,8,(Queue.enc Queue.zero),[Queue.enc r.2]⟩)] 1:=by
 refine zs0 (rl:=[.sl (r.1.map Hold.enc)]) zdT8 rfl rfl rfl rfl fun E hG hN hK=>?_
 unfold zcs3
 unfold ze0 at h
 refine za0 (za1 hG ?_)
 refine zbi7 ?_
 refine za0 (za1 hG ?_)
 refine za0 ?_
 refine zbt6 ?_
 refine za0 ?_
 refine zb4 (zdG2) (fun v=>zG7 v=some r) ?_ ?_
 · intro j1 h
   unfold zG7 at h
   refine g_st ?_
   refine za0 (za1 hG ?_)
   refine g_gh (.fz [1]) ?_
   refine za8 ?_
   exact zC2 [(0,0)] h
 refine zd6 (zdG4) hK [(0,0),(1,1)] h (fun x_l1 h g1 y_l1 h_l1 hx_l1=>?_)
 unfold zu5 at h_l1
 refine g_st ?_
 refine zb5 (za0 (za1 hG ?_))
 obtain ⟨v1,hv1,h_l1⟩:=za5 h_l1
 refine za7 (fun hg=>zar8 g1.1 _ (hv1)) ?_
 refine za0 ?_
 refine zb4 (zdG3 g1 v1) (fun v=>zp5 g1 v1 v=some y_l1) ?_ ?_
 · intro j2 h_l1
   unfold zp5 at h_l1
   refine g_st ?_
   refine za0 (zX3 ze6 hG ?_)
   obtain ⟨v2,hv2,h_l1⟩:=za5 h_l1
   refine zW1 (fun hg=>zX7 j2.holds v1.1.proc v1.1.amount _ (hv2)) ?_
   obtain ⟨hb1,h_l1⟩:=za2 h_l1
   refine za1 hG ?_
   exact zc7 hK [(0,0),(1,3)] h_l1
 refine za0 (zo8 ze6 hG ?_)
 obtain ⟨v3,hv3,h_l1⟩:=za5 h_l1
 refine zg4 (fun hg=>zaj1 g1.1.resource g1.1.holds v1.1.proc v1.1.amount _ (zv7 hg hv3)) ?_
 refine za3 rfl hG h_l1 (fun _ h_l1=>?_) (fun _ h_l1=>?_)
 · refine zc2 ?_
   obtain rfl:=Option.some.inj h_l1
   have hx:=hx_l1 _ rfl
   subst hx
   try dsimp only at h
   exact zc6 hK [(0,0),(1,1)] (g1.1,g1.2) (by exact h)
 refine za0 (za1 hG ?_)
 refine za3 rfl hG h_l1 (fun _ h_l1=>?_) (fun _ h_l1=>?_)
 · obtain ⟨hb2,h_l1⟩:=za2 h_l1
   refine za1 hG ?_
   exact zc6 hK [(0,0),(1,1),(2,2)] ({ g1.1 with converts:=(g1.1.converts.drop 1) }) (by exact h_l1)
 obtain ⟨hb3,h_l1⟩:=za2 h_l1
 refine za1 hG ?_
 exact zc6 hK [(0,0),(1,1),(2,2)] ({ g1.1 with waits:=(g1.1.waits.drop 1) }) (by exact h_l1)
attribute [local irreducible] ze0
def zf7 (a0:Int):Int :=
 (if ((decide (a0 < 0))||(decide (1073741824≤a0)))=true then
  1
 else
  (IntKind.i64.wrap (a0+1)))
theorem zac4 (a0:Int):PFn C 136 [.int .i64 a0] (.int .i64 (zf7 a0)):=by
 generalize h:zf7 a0=r
 refine za6 zdT9 rfl fun E hG hN hK=>?_
 unfold zcs8
 unfold zf7 at h
 refine za0 (za1 hG ?_)
 refine za0 (za0 (za1 hG ?_))
 refine za3 rfl hG h (fun _ h=>?_) (fun _ h=>?_)
 · refine za0 (za1 hG ?_)
   refine za8 ?_
   exact ze9 h
 refine za4 ?_
 refine za0 (za1 hG ?_)
 refine za8 ?_
 exact ze9 h
noncomputable def zA6  (j1:ByteArray×Int×Int×Int×Int×(List Hold)×(List Wait)×Amount×Amount×Proc×(List Wait)):Option (Queue×(List Hold)×Int×Queue×(List Hold)×(List Wait)×Amount×Amount×Proc) :=
 (ze0 (⟨(⟨j1.1,j1.2.1,j1.2.2.1,j1.2.2.2.1⟩:Resource),j1.2.2.2.2.2.1,j1.2.2.2.2.2.2.2.2.2.2,j1.2.2.2.2.2.2.1,j1.2.2.2.2.1⟩:Queue)).bind fun v1 =>
 some ({ v1.2 with gen:=(zf7 v1.2.gen) },v1.1,0,{ v1.2 with gen:=(zf7 v1.2.gen) },j1.2.2.2.2.2.1,j1.2.2.2.2.2.2.1,j1.2.2.2.2.2.2.2.1,j1.2.2.2.2.2.2.2.2.1,j1.2.2.2.2.2.2.2.2.2.1)
@[go_sem] def zdG5  (j1:ByteArray×Int×Int×Int×Int×(List Hold)×(List Wait)×Amount×Amount×Proc×(List Wait)):St:=⟨[(0,.ptr 0 0 0),(4,.ptr 8 0 0)],[(0,⟨false,8,(Queue.enc Queue.zero),[[.str j1.1,.int .i64 j1.2.1,.int .i64 j1.2.2.1,.int .i64 j1.2.2.2.1,.own 2 0 j1.2.2.2.2.2.1.length,.own 9 0 j1.2.2.2.2.2.2.2.2.2.2.length,.own 4 0 j1.2.2.2.2.2.2.1.length,.int .i64 j1.2.2.2.2.1]]⟩),(1,⟨false,1,[A.any],[[.clo 92 [.ptr 0 0 0,.ptr 5 0 0,.ptr 6 0 0,.ptr 7 0 0]]]⟩),(2,⟨false,5,(Hold.enc Hold.zero),j1.2.2.2.2.2.1.map Hold.enc⟩),(4,⟨false,7,(Wait.enc Wait.zero),j1.2.2.2.2.2.2.1.map Wait.enc⟩),(5,⟨false,2,(Amount.enc Amount.zero),[Amount.enc j1.2.2.2.2.2.2.2.1]⟩),(6,⟨false,2,(Amount.enc Amount.zero),[Amount.enc j1.2.2.2.2.2.2.2.2.1]⟩),(7,⟨false,3,(Proc.enc Proc.zero),[Proc.enc j1.2.2.2.2.2.2.2.2.2.1]⟩),(8,⟨false,8,(Queue.enc Queue.zero),[Queue.enc Queue.zero]⟩),(9,⟨false,7,(Wait.enc Wait.zero),j1.2.2.2.2.2.2.2.2.2.2.map Wait.enc⟩)],10⟩
noncomputable def zm5 (a0:Queue) (a1:Amount) (a2:Amount) (a3:Proc):Option (Queue×(List Hold)×Int×Queue×(List Hold)×(List Wait)×Amount×Amount×Proc) :=
 gd (0≤0∧0 < (1:Int)) <|
 (zk2 a0 a1 a2 a3).bind fun v2 =>
 zA6 (v2.1,v2.2.1,v2.2.2.1,v2.2.2.2.1,v2.2.2.2.2.1,v2.2.2.2.2.2.2.2.2.1,v2.2.2.2.2.2.2.2.2.2.1,v2.2.2.2.2.2.1,v2.2.2.2.2.2.2.1,v2.2.2.2.2.2.2.2.1,v2.2.2.2.2.2.2.2.2.2.2)
theorem zau5 (a0:Queue) (a1:Amount) (a2:Amount) (a3:Proc) (r:Queue×(List Hold)×Int×Queue×(List Hold)×(List Wait)×Amount×Amount×Proc) (h:zm5 a0 a1 a2 a3=some r):MFn C 91 [.ptr 0 0 0,.own 1 0 1] [(0,⟨false,8,(Queue.enc Queue.zero),[[.str a0.resource.name,.int .i64 a0.resource.kind,.int .i64 a0.resource.units,.int .i64 a0.resource.home,.own 2 0 a0.holds.length,.own 3 0 a0.converts.length,.own 4 0 a0.waits.length,.int .i64 a0.gen]]⟩),(1,⟨false,1,[A.any],[[.clo 92 [.ptr 0 0 0,.ptr 5 0 0,.ptr 6 0 0,.ptr 7 0 0]]]⟩),(2,⟨false,5,(Hold.enc Hold.zero),a0.holds.map Hold.enc⟩),(3,⟨false,7,(Wait.enc Wait.zero),a0.converts.map Wait.enc⟩),(4,⟨false,7,(Wait.enc Wait.zero),a0.waits.map Wait.enc⟩),(5,⟨false,2,(Amount.enc Amount.zero),[Amount.enc a1]⟩),(6,⟨false,2,(Amount.enc Amount.zero),[Amount.enc a2]⟩),(7,⟨false,3,(Proc.enc Proc.zero),[Proc.enc a3]⟩)] 8 (.tup [.agg (Queue.enc r.1),.sl (r.2.1.map Hold.enc),.int .i64 r.2.2.1]) [(0,⟨false,8,(Queue.enc Queue.zero),[Queue.enc r.2.2.2.1]⟩),(1,⟨false,1,[A.any],[[.clo 92 [.ptr 0 0 0,.ptr 5 0 0,.ptr 6 0 0,.ptr 7 0 0]]]⟩),(2,⟨true,5,(Hold.enc Hold.zero),r.2.2.2.2.1.map Hold.enc⟩),(4,⟨true,7,(Wait.enc Wait.zero),r.2.2.2.2.2.1.map Wait.enc⟩),(5,⟨false,2,(Amount.enc Amount.zero),[Amount.enc r.2.2.2.2.2.2.1]⟩),(6,⟨false,2,(Amount.enc Amount.zero),[Amount.enc r.2.2.2.2.2.2.2.1]⟩),(7,⟨false,3,(Proc.enc Proc.zero),[Proc.enc r.2.2.2.2.2.2.2.2]⟩)] 8:=by
 refine zs0 (rl:=[.agg (Queue.enc r.1),.sl (r.2.1.map Hold.enc),.int .i64 r.2.2.1]) zdU0 rfl rfl rfl rfl fun E hG hN hK=>?_
 unfold zct8
 unfold zm5 at h
 refine za0 (za1 hG ?_)
 refine za0 (za0 (za1 hG ?_))
 refine zb4 (zdG5) (fun v=>zA6 v=some r) ?_ ?_
 · intro j1 h
   unfold zA6 at h
   refine g_st ?_
   refine za0 ?_
   refine g_gh (.fz [2,4,9]) ?_
   refine za1 hG ?_
   obtain ⟨v1,hv1,h⟩:=za5 h
   refine zA5 [(0,0)] [] [0] (zK5 (⟨(⟨j1.1,j1.2.1,j1.2.2.1,j1.2.2.2.1⟩:Resource),j1.2.2.2.2.2.1,j1.2.2.2.2.2.2.2.2.2.2,j1.2.2.2.2.2.2.1,j1.2.2.2.2.1⟩:Queue) _ hv1) rfl rfl ?_
   refine za0 (za1 hG ?_)
   refine za7 (fun hg=>zac4 v1.2.gen) ?_
   refine za0 (za1 hG ?_)
   refine za8 ?_
   exact zC2 [(0,0),(1,1),(2,2),(3,3),(4,4),(5,5),(6,6),(7,7)] h
 refine zaB3 3 ?_
 refine zab1 ?_
 refine za0 (za1 hG ?_)
 refine za0 ?_
 refine zax5 rfl hG ?_
 refine za4 ?_
 refine za0 (zb5 (za0 ?_))
 obtain ⟨hb1,h⟩:=za2 h
 refine za1 hG ?_
 refine za1 hG ?_
 obtain ⟨v2,hv2,h⟩:=za5 h
 refine zA5 [(0,0),(1,5),(2,6),(3,7),(4,2),(5,3),(6,4)] [(7,9)] [0,1,2,3,4,5,6,7] (zaq1 a0 a1 a2 a3 _ hv2) rfl rfl ?_
 refine za1 hG ?_
 refine zab1 ?_
 refine za0 (za1 hG ?_)
 refine za0 ?_
 refine zbd7 rfl hG ?_
 refine zc2 ?_
 exact zc6 hK [(0,0),(1,1),(2,2),(3,3),(4,4),(5,5),(6,6),(7,7),(8,8),(9,9)] (v2.1,v2.2.1,v2.2.2.1,v2.2.2.2.1,v2.2.2.2.2.1,v2.2.2.2.2.2.2.2.2.1,v2.2.2.2.2.2.2.2.2.2.1,v2.2.2.2.2.2.1,v2.2.2.2.2.2.2.1,v2.2.2.2.2.2.2.2.1,v2.2.2.2.2.2.2.2.2.2.2) (by exact h)
attribute [local irreducible] zm5
def zN3 (a0:Wait) (a1:Wait):Int :=
 (if ((decide (a1.priority < a0.priority))&&(decide (a1.passed < 3)))=true then
  1
 else
  0)
theorem zbe3 (a0:Wait) (a1:Wait):PFn C 140 [.agg (Wait.enc a0),.agg (Wait.enc a1)] (.int .i64 (zN3 a0 a1)):=by
 generalize h:zN3 a0 a1=r
 refine za6 zdU1 rfl fun E hG hN hK=>?_
 unfold zcu3
 unfold zN3 at h
 refine za0 (za1 hG ?_)
 refine za0 (za0 (za1 hG ?_))
 refine za3 rfl hG h (fun _ h=>?_) (fun _ h=>?_)
 · refine za0 (za1 hG ?_)
   refine za8 ?_
   exact ze9 h
 refine za4 ?_
 refine za0 (za1 hG ?_)
 refine za8 ?_
 exact ze9 h
noncomputable def zI3 (a1:Wait) (j1:Int×(List Wait)):Option ((List Wait)×Int×Int) :=
 gd (0≤j1.1∧j1.1 < ((j1.2.length:Nat):Int)) <|
 some ((j1.2.set j1.1.toNat a1),j1.1,0)
@[go_sem] def zdG6 (a1:Wait) (j1:Int×(List Wait)):St:=⟨[(3,.ptr 0 0 0),(7,.own 1 0 j1.2.length),(8,.int .i64 j1.1)],[(0,⟨false,7,(Wait.enc Wait.zero),[Wait.enc a1]⟩),(1,⟨false,7,(Wait.enc Wait.zero),j1.2.map Wait.enc⟩)],2⟩
noncomputable def zI4 (a1:Wait) (g1:Int×(List Wait)):Option ((Int×(List Wait))⊕((Int×(List Wait)))) :=
 gd ((decide (0 < g1.1))=true→0≤(IntKind.i64.wrap (g1.1 - 1))∧(IntKind.i64.wrap (g1.1 - 1)) < ((g1.2.length:Nat):Int)) <|
 (if ((decide (0 < g1.1))&&(decide ((zN3 a1 (g1.2.getD ((IntKind.i64.wrap (g1.1 - 1)).toNat) Wait.zero))=1)))=true then
  gd (0≤(IntKind.i64.wrap (g1.1 - 1))∧(IntKind.i64.wrap (g1.1 - 1)) < ((g1.2.length:Nat):Int)) <|
  gd (0≤g1.1∧g1.1 < ((g1.2.length:Nat):Int)) <|
  gd (0≤g1.1∧g1.1 < ((g1.2.length:Nat):Int)) <|
  gd (0≤g1.1∧g1.1 < ((g1.2.length:Nat):Int)) <|
  some (.inl ((IntKind.i64.wrap (g1.1 - 1)),((g1.2.set g1.1.toNat (g1.2.getD ((IntKind.i64.wrap (g1.1 - 1)).toNat) Wait.zero)).set g1.1.toNat ({ ((g1.2.set g1.1.toNat (g1.2.getD ((IntKind.i64.wrap (g1.1 - 1)).toNat) Wait.zero)).getD g1.1.toNat Wait.zero) with passed:=(IntKind.i64.wrap (((g1.2.set g1.1.toNat (g1.2.getD ((IntKind.i64.wrap (g1.1 - 1)).toNat) Wait.zero)).getD g1.1.toNat Wait.zero).passed+1)) }))))
 else
  some (.inr (g1.1,g1.2)))
@[go_sem] def zdG7 (a1:Wait) (g1:Int×(List Wait)):St:=⟨[(3,.ptr 0 0 0),(7,.own 1 0 g1.2.length),(8,.int .i64 g1.1)],[(0,⟨false,7,(Wait.enc Wait.zero),[Wait.enc a1]⟩),(1,⟨false,7,(Wait.enc Wait.zero),g1.2.map Wait.enc⟩)],2⟩
noncomputable def zq1 (a0:List Wait) (a1:Wait):Option ((List Wait)×Int×Int) :=
 (zm4 a0).bind fun v1 =>
 (if (!v1)=true then
  some ([],0,2)
 else
  (if ((!(zc3 a1))||(!decide (a1.passed=0)))=true then
   some ([],0,1)
  else
   (zk8 a0 a1.proc).bind fun v2 =>
   (if (decide (0≤v2))=true then
    some ([],0,11)
   else
    (if (decide ((a0.length:Int)=8))=true then
     some ([],0,4)
    else
     gd (0≤(IntKind.i64.wrap ((a0.length:Int)+1))∧(IntKind.i64.wrap ((a0.length:Int)+1))≤(IntKind.i64.wrap ((a0.length:Int)+1))∧(IntKind.i64.wrap ((a0.length:Int)+1))≤4294967296) <|
     (zb6 (zI4 a1) ((a0.length:Int),((List.replicate ((IntKind.i64.wrap ((a0.length:Int)+1)).toNat) Wait.zero).take 0++a0.take ((IntKind.i64.wrap ((a0.length:Int)+1)).toNat)++(List.replicate ((IntKind.i64.wrap ((a0.length:Int)+1)).toNat) Wait.zero).drop (0+min a0.length ((IntKind.i64.wrap ((a0.length:Int)+1)).toNat))))).bind (fun z=>zI3 a1 z)))))
theorem zaP9 (a0:List Wait) (a1:Wait) (r:(List Wait)×Int×Int) (h:zq1 a0 a1=some r):PFn C 94 [.sl (a0.map Wait.enc),.agg (Wait.enc a1)] (.tup [.sl (r.1.map Wait.enc),.int .i64 r.2.1,.int .i64 r.2.2]):=by
 refine za6 zdU2 rfl fun E hG hN hK=>?_
 unfold zcv4
 unfold zq1 at h
 refine za0 (za1 hG ?_)
 refine za0 (zb5 (za0 (za1 hG ?_)))
 obtain ⟨v1,hv1,h⟩:=za5 h
 refine za7 (fun hg=>zar7 a0 _ (hv1)) ?_
 refine za3 rfl hG h (fun _ h=>?_) (fun _ h=>?_)
 · refine za0 (za1 hG ?_)
   refine za8 ?_
   exact zb1 h
 refine za0 (za1 hG ?_)
 refine za7 (fun hg=>zab2 a1) ?_
 refine za3 rfl hG h (fun _ h=>?_) (fun _ h=>?_)
 · refine za0 (za1 hG ?_)
   refine za8 ?_
   exact zb1 h
 refine za0 (za1 hG ?_)
 obtain ⟨v2,hv2,h⟩:=za5 h
 refine za7 (fun hg=>zah4 a0 a1.proc _ (hv2)) ?_
 refine za3 rfl hG h (fun _ h=>?_) (fun _ h=>?_)
 · refine za0 (za1 hG ?_)
   refine za8 ?_
   exact zb1 h
 refine za0 (za1 hG ?_)
 refine za3 rfl hG h (fun _ h=>?_) (fun _ h=>?_)
 · refine za0 (za1 hG ?_)
   refine za8 ?_
   exact zb1 h
 refine za4 ?_
 refine za0 ?_
 obtain ⟨hb7,h⟩:=za2 h
 refine za1 hG ?_
 refine za0 (za1 hG ?_)
 refine za0 (za1 hG ?_)
 refine za0 ?_
 refine zb4 (zdG6 a1) (fun v=>zI3 a1 v=some r) ?_ ?_
 · intro j1 h
   unfold zI3 at h
   refine g_st ?_
   refine za0 ?_
   obtain ⟨hb1,h⟩:=za2 h
   refine za1 hG ?_
   refine za0 (za1 hG ?_)
   refine za8 ?_
   exact zb1 h
 refine zd6 (zdG7 a1) hK [(0,0),(1,1)] h (fun x_l1 h g1 y_l1 h_l1 hx_l1=>?_)
 unfold zI4 at h_l1
 refine g_st ?_
 refine za0 (za0 ?_)
 obtain ⟨hb6,h_l1⟩:=za2 h_l1
 refine zo8 ze6 hG ?_
 refine zg4 (fun hg=>zbe3 a1 (g1.2.getD ((IntKind.i64.wrap (g1.1 - 1)).toNat) Wait.zero)) ?_
 refine za3 rfl hG h_l1 (fun _ h_l1=>?_) (fun _ h_l1=>?_)
 · refine za4 ?_
   refine zb5 (za0 ?_)
   obtain ⟨hb4,h_l1⟩:=za2 h_l1
   obtain ⟨hb5,h_l1⟩:=za2 h_l1
   refine za1 hG ?_
   refine za0 ?_
   obtain ⟨hb2,h_l1⟩:=za2 h_l1
   obtain ⟨hb3,h_l1⟩:=za2 h_l1
   refine za1 hG ?_
   refine za1 hG ?_
   exact zc7 hK [(0,0),(1,1)] h_l1
 refine zc2 ?_
 obtain rfl:=Option.some.inj h_l1
 have hx:=hx_l1 _ rfl
 subst hx
 try dsimp only at h
 exact zc6 hK [(0,0),(1,1)] (g1.1,g1.2) (by exact h)
attribute [local irreducible] zq1
noncomputable def zk3 (a0:List Wait) (a1:Queue):Option ((List Wait)×ByteArray×Int×Int×Int×(List Wait)×Int×(List Hold)×(List Wait)×(List Wait)) :=
 some (a0,a1.resource.name,a1.resource.kind,a1.resource.units,a1.resource.home,a0,a1.gen,a1.holds,a1.converts,a1.waits)
theorem zaq2 (a0:List Wait) (a1:Queue) (r:(List Wait)×ByteArray×Int×Int×Int×(List Wait)×Int×(List Hold)×(List Wait)×(List Wait)) (h:zk3 a0 a1=some r):MFn C 95 [.ptr 0 0 0,.ptr 1 0 0] [(0,⟨false,1,[A.sl ([].map Wait.enc)],[[A.sl (a0.map Wait.enc)]]⟩),(1,⟨false,8,(Queue.enc Queue.zero),[[.str a1.resource.name,.int .i64 a1.resource.kind,.int .i64 a1.resource.units,.int .i64 a1.resource.home,.own 2 0 a1.holds.length,.own 3 0 a1.converts.length,.own 4 0 a1.waits.length,.int .i64 a1.gen]]⟩),(2,⟨false,5,(Hold.enc Hold.zero),a1.holds.map Hold.enc⟩),(3,⟨false,7,(Wait.enc Wait.zero),a1.converts.map Wait.enc⟩),(4,⟨false,7,(Wait.enc Wait.zero),a1.waits.map Wait.enc⟩)] 5 (.tup []) [(0,⟨false,1,[A.sl ([].map Wait.enc)],[[A.sl (r.1.map Wait.enc)]]⟩),(1,⟨false,8,(Queue.enc Queue.zero),[[.str r.2.1,.int .i64 r.2.2.1,.int .i64 r.2.2.2.1,.int .i64 r.2.2.2.2.1,.own 2 0 r.2.2.2.2.2.2.2.1.length,.own 3 0 r.2.2.2.2.2.2.2.2.1.length,.sl (r.2.2.2.2.2.1.map Wait.enc),.int .i64 r.2.2.2.2.2.2.1]]⟩),(2,⟨false,5,(Hold.enc Hold.zero),r.2.2.2.2.2.2.2.1.map Hold.enc⟩),(3,⟨false,7,(Wait.enc Wait.zero),r.2.2.2.2.2.2.2.2.1.map Wait.enc⟩),(4,⟨false,7,(Wait.enc Wait.zero),r.2.2.2.2.2.2.2.2.2.map Wait.enc⟩)] 5:=by
 refine zs0 (rl:=[]) zdU3 rfl rfl rfl rfl fun E hG hN hK=>?_
 unfold zcv6
 unfold zk3 at h
 refine za1 hG ?_
 exact zC2 [(0,0),(1,1),(2,2),(3,3),(4,4)] h
attribute [local irreducible] zk3
noncomputable def zz6  (j1:ByteArray×Int×Int×Int×(List Wait)×Int×(List Hold)×(List Wait)×(List Wait)×(List Wait)):Option (Queue×(List Hold)×Int×Queue×(List Hold)×(List Wait)×(List Wait)×(List Wait)) :=
 (ze0 (⟨(⟨j1.1,j1.2.1,j1.2.2.1,j1.2.2.2.1⟩:Resource),j1.2.2.2.2.2.2.1,j1.2.2.2.2.2.2.2.1,j1.2.2.2.2.1,j1.2.2.2.2.2.1⟩:Queue)).bind fun v1 =>
 some ({ v1.2 with gen:=(zf7 v1.2.gen) },v1.1,0,{ v1.2 with gen:=(zf7 v1.2.gen) },j1.2.2.2.2.2.2.1,j1.2.2.2.2.2.2.2.1,j1.2.2.2.2.2.2.2.2.1,j1.2.2.2.2.2.2.2.2.2)
@[go_sem] def zdG8  (j1:ByteArray×Int×Int×Int×(List Wait)×Int×(List Hold)×(List Wait)×(List Wait)×(List Wait)):St:=⟨[(0,.ptr 0 0 0),(4,.ptr 6 0 0)],[(0,⟨false,8,(Queue.enc Queue.zero),[[.str j1.1,.int .i64 j1.2.1,.int .i64 j1.2.2.1,.int .i64 j1.2.2.2.1,.own 2 0 j1.2.2.2.2.2.2.1.length,.own 3 0 j1.2.2.2.2.2.2.2.1.length,.sl (j1.2.2.2.2.1.map Wait.enc),.int .i64 j1.2.2.2.2.2.1]]⟩),(1,⟨false,1,[A.any],[[.clo 95 [.ptr 5 0 0,.ptr 0 0 0]]]⟩),(2,⟨false,5,(Hold.enc Hold.zero),j1.2.2.2.2.2.2.1.map Hold.enc⟩),(3,⟨false,7,(Wait.enc Wait.zero),j1.2.2.2.2.2.2.2.1.map Wait.enc⟩),(4,⟨false,7,(Wait.enc Wait.zero),j1.2.2.2.2.2.2.2.2.1.map Wait.enc⟩),(5,⟨false,1,[A.sl ([].map Wait.enc)],[[A.sl (j1.2.2.2.2.2.2.2.2.2.map Wait.enc)]]⟩),(6,⟨false,8,(Queue.enc Queue.zero),[Queue.enc Queue.zero]⟩)],7⟩
noncomputable def zk4 (a0:Queue) (a1:List Wait):Option (Queue×(List Hold)×Int×Queue×(List Hold)×(List Wait)×(List Wait)×(List Wait)) :=
 gd (0≤0∧0 < (1:Int)) <|
 (zk3 a1 a0).bind fun v2 =>
 zz6 (v2.2.1,v2.2.2.1,v2.2.2.2.1,v2.2.2.2.2.1,v2.2.2.2.2.2.1,v2.2.2.2.2.2.2.1,v2.2.2.2.2.2.2.2.1,v2.2.2.2.2.2.2.2.2.1,v2.2.2.2.2.2.2.2.2.2,v2.1)
theorem zaq3 (a0:Queue) (a1:List Wait) (r:Queue×(List Hold)×Int×Queue×(List Hold)×(List Wait)×(List Wait)×(List Wait)) (h:zk4 a0 a1=some r):MFn C 91 [.ptr 0 0 0,.own 1 0 1] [(0,⟨false,8,(Queue.enc Queue.zero),[[.str a0.resource.name,.int .i64 a0.resource.kind,.int .i64 a0.resource.units,.int .i64 a0.resource.home,.own 2 0 a0.holds.length,.own 3 0 a0.converts.length,.own 4 0 a0.waits.length,.int .i64 a0.gen]]⟩),(1,⟨false,1,[A.any],[[.clo 95 [.ptr 5 0 0,.ptr 0 0 0]]]⟩),(2,⟨false,5,(Hold.enc Hold.zero),a0.holds.map Hold.enc⟩),(3,⟨false,7,(Wait.enc Wait.zero),a0.converts.map Wait.enc⟩),(4,⟨false,7,(Wait.enc Wait.zero),a0.waits.map Wait.enc⟩),(5,⟨false,1,[A.sl ([].map Wait.enc)],[[A.sl (a1.map Wait.enc)]]⟩)] 6 (.tup [.agg (Queue.enc r.1),.sl (r.2.1.map Hold.enc),.int .i64 r.2.2.1]) [(0,⟨false,8,(Queue.enc Queue.zero),[Queue.enc r.2.2.2.1]⟩),(1,⟨false,1,[A.any],[[.clo 95 [.ptr 5 0 0,.ptr 0 0 0]]]⟩),(2,⟨true,5,(Hold.enc Hold.zero),r.2.2.2.2.1.map Hold.enc⟩),(3,⟨true,7,(Wait.enc Wait.zero),r.2.2.2.2.2.1.map Wait.enc⟩),(4,⟨false,7,(Wait.enc Wait.zero),r.2.2.2.2.2.2.1.map Wait.enc⟩),(5,⟨false,1,[A.sl ([].map Wait.enc)],[[A.sl (r.2.2.2.2.2.2.2.map Wait.enc)]]⟩)] 6:=by
 refine zs0 (rl:=[.agg (Queue.enc r.1),.sl (r.2.1.map Hold.enc),.int .i64 r.2.2.1]) zdU4 rfl rfl rfl rfl fun E hG hN hK=>?_
 unfold zcw6
 unfold zk4 at h
 refine za0 (za1 hG ?_)
 refine za0 (za0 (za1 hG ?_))
 refine zb4 (zdG8) (fun v=>zz6 v=some r) ?_ ?_
 · intro j1 h
   unfold zz6 at h
   refine g_st ?_
   refine za0 ?_
   refine g_gh (.fz [2,3]) ?_
   refine za1 hG ?_
   obtain ⟨v1,hv1,h⟩:=za5 h
   refine zA5 [(0,0)] [] [0] (zK5 (⟨(⟨j1.1,j1.2.1,j1.2.2.1,j1.2.2.2.1⟩:Resource),j1.2.2.2.2.2.2.1,j1.2.2.2.2.2.2.2.1,j1.2.2.2.2.1,j1.2.2.2.2.2.1⟩:Queue) _ hv1) rfl rfl ?_
   refine za0 (za1 hG ?_)
   refine za7 (fun hg=>zac4 v1.2.gen) ?_
   refine za0 (za1 hG ?_)
   refine za8 ?_
   exact zC2 [(0,0),(1,1),(2,2),(3,3),(4,4),(5,5)] h
 refine zaB3 3 ?_
 refine zab1 ?_
 refine za0 (za1 hG ?_)
 refine za0 ?_
 refine zax5 rfl hG ?_
 refine za4 ?_
 refine za0 (zb5 (za0 ?_))
 obtain ⟨hb1,h⟩:=za2 h
 refine za1 hG ?_
 refine za1 hG ?_
 obtain ⟨v2,hv2,h⟩:=za5 h
 refine zA5 [(0,5),(1,0),(2,2),(3,3),(4,4)] [] [0,1,2,3,4] (zaq2 a1 a0 _ hv2) rfl rfl ?_
 refine za1 hG ?_
 refine zab1 ?_
 refine za0 (za1 hG ?_)
 refine za0 ?_
 refine zbd7 rfl hG ?_
 refine zc2 ?_
 exact zc6 hK [(0,0),(1,1),(2,2),(3,3),(4,4),(5,5),(6,6)] (v2.2.1,v2.2.2.1,v2.2.2.2.1,v2.2.2.2.2.1,v2.2.2.2.2.2.1,v2.2.2.2.2.2.2.1,v2.2.2.2.2.2.2.2.1,v2.2.2.2.2.2.2.2.2.1,v2.2.2.2.2.2.2.2.2.2,v2.1) (by exact h)
attribute [local irreducible] zk4
noncomputable def zq2 (a0:Queue) (a1:Proc) (a2:Amount) (a3:Int):Option (Queue×(List Hold)×Int) :=
 (zh5 a0).bind fun v1 =>
 (if (!v1)=true then
  some ({ Queue.zero with  },[],2)
 else
  (if (((!(zb3 a1))||(decide (a3 < 0)))||(decide (7 < a3)))=true then
   some ({ Queue.zero with  },[],1)
  else
   (if (!(za9 a0.resource a2))=true then
    some ({ Queue.zero with  },[],12)
   else
    (zj5 a0 a1).bind fun v2 =>
    (if v2.2=true then
     some ({ Queue.zero with  },[],14)
    else
     (zl5 a0).bind fun v3 =>
     (zh2 a0 a1).bind fun v4 =>
     (zg9 a0.resource v4 a2).bind fun v5 =>
     (if v5=true then
      some (v3,[],0)
     else
      (if (!(zb9 v4))=true then
       (zm5 v3 v4 a2 a1).bind fun v6 =>
       some (v6.1,v6.2.1,v6.2.2.1)
      else
       (if (decide (8≤(IntKind.i64.wrap ((a0.holds.length:Int)+(a0.waits.length:Int)))))=true then
        some ({ Queue.zero with  },[],4)
       else
        (zq1 a0.waits ({ Wait.zero with proc:=a1,amount:=a2,priority:=a3 })).bind fun v7 =>
        (if (!decide (v7.2.2=0))=true then
         some ({ Queue.zero with  },[],v7.2.2)
        else
         (zk4 v3 v7.1).bind fun v8 =>
         some (v8.1,v8.2.1,v8.2.2.1)))))))))
theorem zaQ0 (a0:Queue) (a1:Proc) (a2:Amount) (a3:Int) (r:Queue×(List Hold)×Int) (h:zq2 a0 a1 a2 a3=some r):PFn C 56 [.agg (Queue.enc a0),.agg (Proc.enc a1),.agg (Amount.enc a2),.int .i64 a3] (.tup [.agg (Queue.enc r.1),.sl (r.2.1.map Hold.enc),.int .i64 r.2.2]):=by
 refine za6 zdU5 rfl fun E hG hN hK=>?_
 unfold zcx7
 unfold zq2 at h
 refine za0 (za1 hG ?_)
 refine za0 (za0 (za1 hG ?_))
 obtain ⟨v1,hv1,h⟩:=za5 h
 refine za7 (fun hg=>zX8 a0 _ (hv1)) ?_
 refine za3 rfl hG h (fun _ h=>?_) (fun _ h=>?_)
 · refine za0 (za1 hG ?_)
   refine za8 ?_
   exact zb1 h
 refine za4 ?_
 refine za0 (za0 (za1 hG ?_))
 refine za7 (fun hg=>zC5 a1) ?_
 refine za3 rfl hG h (fun _ h=>?_) (fun _ h=>?_)
 · refine za0 (za1 hG ?_)
   refine za8 ?_
   exact zb1 h
 refine za4 ?_
 refine za0 (za0 (za1 hG ?_))
 refine za7 (fun hg=>zu4 a0.resource a2) ?_
 refine za3 rfl hG h (fun _ h=>?_) (fun _ h=>?_)
 · refine za0 (za1 hG ?_)
   refine za8 ?_
   exact zb1 h
 refine za4 ?_
 refine za0 (za0 (za1 hG ?_))
 obtain ⟨v2,hv2,h⟩:=za5 h
 refine za7 (fun hg=>zaH9 a0 a1 _ (hv2)) ?_
 refine za0 (za1 hG ?_)
 refine za3 rfl hG h (fun _ h=>?_) (fun _ h=>?_)
 · refine za0 (za1 hG ?_)
   refine za8 ?_
   exact zb1 h
 refine za4 ?_
 refine za0 (zX3 ze6 hG ?_)
 obtain ⟨v3,hv3,h⟩:=za5 h
 refine zax6 [] [(0,5),(1,6),(2,7)] [0,1,2] (zax9 a0 _ hv3) rfl rfl ?_
 obtain ⟨v4,hv4,h⟩:=za5 h
 refine zW1 (fun hg=>zK8 a0 a1 _ (hv4)) ?_
 refine za0 (za0 (za1 hG ?_))
 obtain ⟨v5,hv5,h⟩:=za5 h
 refine za7 (fun hg=>zae3 a0.resource v4 a2 _ (hv5)) ?_
 refine za3 rfl hG h (fun _ h=>?_) (fun _ h=>?_)
 · refine za0 (za1 hG ?_)
   refine za8 ?_
   exact zb1 h
 refine za4 ?_
 refine za0 (za0 (za1 hG ?_))
 refine za7 (fun hg=>zn5 v4) ?_
 refine za3 rfl hG h (fun _ h=>?_) (fun _ h=>?_)
 · refine za0 (za1 hG ?_)
   obtain ⟨v6,hv6,h⟩:=za5 h
   refine zA5 [(0,8),(1,10),(2,5),(3,6),(4,7),(5,9),(6,2),(7,1)] [] [0,1,2,3,4,5,6,7] (zau5 v3 v4 a2 a1 _ hv6) rfl rfl ?_
   refine za8 ?_
   exact zb1 h
 refine za4 ?_
 refine za0 (za0 (za1 hG ?_))
 refine za3 rfl hG h (fun _ h=>?_) (fun _ h=>?_)
 · refine za0 (za1 hG ?_)
   refine za8 ?_
   exact zb1 h
 refine za4 ?_
 refine za0 (za1 hG ?_)
 obtain ⟨v7,hv7,h⟩:=za5 h
 refine za7 (fun hg=>zaP9 a0.waits ({ Wait.zero with proc:=a1,amount:=a2,priority:=a3 }) _ (hv7)) ?_
 refine za0 (za0 (za1 hG ?_))
 refine za3 rfl hG h (fun _ h=>?_) (fun _ h=>?_)
 · refine za0 (za1 hG ?_)
   refine za8 ?_
   exact zb1 h
 refine za4 ?_
 refine za0 (za1 hG ?_)
 obtain ⟨v8,hv8,h⟩:=za5 h
 refine zA5 [(0,8),(1,11),(2,5),(3,6),(4,7),(5,10)] [] [0,1,2,3,4,5] (zaq3 v3 v7.1 _ hv8) rfl rfl ?_
 refine za8 ?_
 exact zb1 h
attribute [local irreducible] zq2
noncomputable def zC9 (a1:Int) (a2:Queue) (j1:(List Queue)):Option ((List Queue)) :=
 (if (decide (0≤a1))=true then
  gd (0≤a1∧a1 < ((j1.length:Nat):Int)) <|
  some (j1.set a1.toNat a2)
 else
  some j1)
@[go_sem] def zdG9 (a1:Int) (a2:Queue) (j1:(List Queue)):St:=⟨[(1,.int .i64 a1),(5,.ptr 0 0 0),(7,.own 1 0 j1.length)],[(0,⟨false,8,(Queue.enc Queue.zero),[Queue.enc a2]⟩),(1,⟨false,8,(Queue.enc Queue.zero),j1.map Queue.enc⟩)],2⟩
noncomputable def zy4 (a0:List Queue) (g1:Int×(List Queue)):Option ((Int×(List Queue))⊕(((List Queue)))) :=
 (if (decide (g1.1 < (a0.length:Int)))=true then
  gd (0≤g1.1∧g1.1 < (a0.length:Int)) <|
  gd (((a0.getD g1.1.toNat Queue.zero).holds).length≤4294967296) <|
  gd ((({ (a0.getD g1.1.toNat Queue.zero) with holds:=(a0.getD g1.1.toNat Queue.zero).holds }).converts).length≤4294967296) <|
  gd ((({ { (a0.getD g1.1.toNat Queue.zero) with holds:=(a0.getD g1.1.toNat Queue.zero).holds } with converts:=({ (a0.getD g1.1.toNat Queue.zero) with holds:=(a0.getD g1.1.toNat Queue.zero).holds }).converts }).waits).length≤4294967296) <|
  gd (0≤g1.1∧g1.1 < ((g1.2.length:Nat):Int)) <|
  some (.inl ((IntKind.i64.wrap (g1.1+1)),(g1.2.set g1.1.toNat ({ { { (a0.getD g1.1.toNat Queue.zero) with holds:=(a0.getD g1.1.toNat Queue.zero).holds } with converts:=({ (a0.getD g1.1.toNat Queue.zero) with holds:=(a0.getD g1.1.toNat Queue.zero).holds }).converts } with waits:=({ { (a0.getD g1.1.toNat Queue.zero) with holds:=(a0.getD g1.1.toNat Queue.zero).holds } with converts:=({ (a0.getD g1.1.toNat Queue.zero) with holds:=(a0.getD g1.1.toNat Queue.zero).holds }).converts }).waits }))))
 else
  some (.inr g1.2))
@[go_sem] def zdH0 (a0:List Queue) (a1:Int) (a2:Queue) (g1:Int×(List Queue)):St:=⟨[(1,.int .i64 a1),(5,.ptr 0 0 0),(7,.own 1 0 g1.2.length),(13,.sl (a0.map Queue.enc)),(14,.int .i64 (a0.length:Int)),(15,.int .i64 g1.1)],[(0,⟨false,8,(Queue.enc Queue.zero),[Queue.enc a2]⟩),(1,⟨false,8,(Queue.enc Queue.zero),g1.2.map Queue.enc⟩)],2⟩
noncomputable def zf3 (a0:List Queue) (a1:Int) (a2:Queue):Option ((List Queue)) :=
 gd (0≤(a0.length:Int)∧(a0.length:Int)≤(a0.length:Int)∧(a0.length:Int)≤4294967296) <|
 (zb6 (zy4 a0) (0,(List.replicate ((a0.length:Int).toNat) Queue.zero))).bind (fun z=>zC9 a1 a2 z)
theorem zae6 (a0:List Queue) (a1:Int) (a2:Queue) (r:(List Queue)) (h:zf3 a0 a1 a2=some r):PFn C 57 [.sl (a0.map Queue.enc),.int .i64 a1,.agg (Queue.enc a2)] (.sl (r.map Queue.enc)):=by
 refine za6 zdU6 rfl fun E hG hN hK=>?_
 unfold zcy8
 unfold zf3 at h
 refine za0 (za1 hG ?_)
 refine za0 ?_
 obtain ⟨hb7,h⟩:=za2 h
 refine za1 hG ?_
 refine za0 (za0 (za1 hG ?_))
 refine zb4 (zdG9 a1 a2) (fun v=>zC9 a1 a2 v=some r) ?_ ?_
 · intro j1 h
   unfold zC9 at h
   refine g_st ?_
   refine za0 (za0 (za1 hG ?_))
   refine za3 rfl hG h (fun _ h=>?_) (fun _ h=>?_)
   · obtain ⟨hb1,h⟩:=za2 h
     refine za1 hG ?_
     refine za0 (za1 hG ?_)
     refine za8 ?_
     exact zb1 h
   refine za4 ?_
   refine za0 (za1 hG ?_)
   refine za8 ?_
   exact zb1 h
 refine zd6 (zdH0 a0 a1 a2) hK [(0,0),(1,1)] h (fun x_l1 h g1 y_l1 h_l1 hx_l1=>?_)
 unfold zy4 at h_l1
 refine g_st ?_
 refine za0 (za1 hG ?_)
 refine za0 ?_
 refine za3 rfl hG h_l1 (fun _ h_l1=>?_) (fun _ h_l1=>?_)
 · refine za4 ?_
   refine za0 (zb5 (za0 ?_))
   obtain ⟨hb6,h_l1⟩:=za2 h_l1
   refine za1 hG ?_
   refine za0 ?_
   obtain ⟨hb5,h_l1⟩:=za2 h_l1
   refine za1 hG ?_
   refine za0 ?_
   obtain ⟨hb4,h_l1⟩:=za2 h_l1
   refine za1 hG ?_
   refine za0 ?_
   obtain ⟨hb3,h_l1⟩:=za2 h_l1
   refine za1 hG ?_
   obtain ⟨hb2,h_l1⟩:=za2 h_l1
   refine za1 hG ?_
   refine za1 hG ?_
   exact zc7 hK [(0,0),(1,1)] h_l1
 refine zc2 ?_
 obtain rfl:=Option.some.inj h_l1
 have hx:=hx_l1 _ rfl
 subst hx
 try dsimp only at h
 exact zc6 hK [(0,0),(1,1)] g1.2 (by exact h)
attribute [local irreducible] zf3
noncomputable def zO3  (j1:(List Event)):Option ((List Event)) :=
 some j1
@[go_sem] def zdH1  (j1:(List Event)):St:=⟨[(2,.own 0 0 j1.length)],[(0,⟨false,7,(Event.enc Event.zero),j1.map Event.enc⟩)],1⟩
noncomputable def zF0 (a0:ByteArray) (a1:List Hold) (g1:Int×(List Event)):Option ((Int×(List Event))⊕(((List Event)))) :=
 (if (decide (g1.1 < (a1.length:Int)))=true then
  gd (0≤g1.1∧g1.1 < (a1.length:Int)) <|
  gd (g1.2.length+1≤4294967296) <|
  some (.inl ((IntKind.i64.wrap (g1.1+1)),(g1.2++[(⟨1,(a1.getD g1.1.toNat Hold.zero).proc,a0,(a1.getD g1.1.toNat Hold.zero).amount⟩:Event)])))
 else
  some (.inr g1.2))
@[go_sem] def zdH2 (a0:ByteArray) (a1:List Hold) (g1:Int×(List Event)):St:=⟨[(0,.str a0),(2,.own 0 0 g1.2.length),(9,.sl (a1.map Hold.enc)),(10,.int .i64 (a1.length:Int)),(11,.int .i64 g1.1)],[(0,⟨false,7,(Event.enc Event.zero),g1.2.map Event.enc⟩)],1⟩
noncomputable def zk9 (a0:ByteArray) (a1:List Hold):Option ((List Event)) :=
 (zb6 (zF0 a0 a1) (0,[])).bind (fun z=>zO3 z)
theorem zaC3 (a0:ByteArray) (a1:List Hold) (r:(List Event)) (h:zk9 a0 a1=some r):MFn C 58 [.str a0,.sl (a1.map Hold.enc),.full ([].map Event.enc)] [] 0 (.sl (r.map Event.enc)) [] 0:=by
 refine zs0 (rl:=[.sl (r.map Event.enc)]) zdU7 rfl rfl rfl rfl fun E hG hN hK=>?_
 unfold zcz6
 unfold zk9 at h
 refine g_gh (.own0 2 7 (Event.enc Event.zero)) ?_
 refine za0 (za1 hG ?_)
 refine za0 (za0 (za1 hG ?_))
 refine zb4 (zdH1) (fun v=>zO3 v=some r) ?_ ?_
 · intro j1 h
   unfold zO3 at h
   refine g_st ?_
   refine za0 (za1 hG ?_)
   refine g_gh (.fz [0]) ?_
   refine za8 ?_
   exact zC2 [] h
 refine zd6 (zdH2 a0 a1) hK [(0,0)] h (fun x_l1 h g1 y_l1 h_l1 hx_l1=>?_)
 unfold zF0 at h_l1
 refine g_st ?_
 refine za0 (za1 hG ?_)
 refine za0 ?_
 refine za3 rfl hG h_l1 (fun _ h_l1=>?_) (fun _ h_l1=>?_)
 · refine za4 ?_
   refine za0 (zb5 (za0 ?_))
   obtain ⟨hb2,h_l1⟩:=za2 h_l1
   refine za1 hG ?_
   obtain ⟨hb1,h_l1⟩:=za2 h_l1
   refine za1 hG ?_
   refine za1 hG ?_
   exact zc7 hK [(0,2)] h_l1
 refine zc2 ?_
 obtain rfl:=Option.some.inj h_l1
 have hx:=hx_l1 _ rfl
 subst hx
 try dsimp only at h
 exact zc6 hK [(0,0)] g1.2 (by exact h)
attribute [local irreducible] zk9
end Ab
end Go.Proofs.YtfjeceicgfdmjaaGreatDoor
