/-
  Functions of the program,as Lean functions; what the program's code computes is what they say.
-/
import Derived.Test.YtfjeceicgfdmjaaGreatDoorFn1
namespace Go.Proofs.YtfjeceicgfdmjaaGreatDoor
namespace Ab
set_option linter.unusedSimpArgs false
set_option linter.unusedVariables false
set_option maxRecDepth 100000
set_option maxHeartbeats 1000000
attribute [local irreducible] zf5 zd4 zj8 zw0 zw1 zh4 ze3 zo4 zw2 zs8 zq6 zj9 ze0 zh5 zf6 zh2 zm1 zh6 zl6 zk4 zh3 zf0 zn3 zg6 zo6 zp5 zi8 zj0 zk0 zk1 zi0 zh7 zc9
noncomputable def zn9  (j2:(List Wait)):Option ((List Wait)) :=
 some j2
@[go_sem] def zdZ6  (j2:(List Wait)):St:=⟨[(6,.own 0 0 j2.length)],[(0,⟨false,7,(Wait.enc Wait.zero),j2.map Wait.enc⟩)],1⟩
noncomputable def zd0 (a0:List (List Wait)) (g1:Int×(List Wait)):Option ((Int×(List Wait))⊕(((List Wait)))) :=
 (if (decide (g1.1 < (a0.length:Int)))=true then
  gd (0≤g1.1∧g1.1 < (a0.length:Int)) <|
  gd (g1.2.length+(a0.getD g1.1.toNat []).length≤4294967296) <|
  some (.inl ((IntKind.i64.wrap (g1.1+1)),(g1.2++(a0.getD g1.1.toNat []))))
 else
  some (.inr g1.2))
@[go_sem] def zdZ7 (a0:List (List Wait)) (g1:Int×(List Wait)):St:=⟨[(6,.own 0 0 g1.2.length),(25,.sl (a0.map (eL Wait.enc))),(26,.int .i64 (a0.length:Int)),(27,.int .i64 g1.1)],[(0,⟨false,7,(Wait.enc Wait.zero),g1.2.map Wait.enc⟩)],1⟩
noncomputable def zi4 (a0:List (List Wait)) (j1:Int):Option ((List Wait)) :=
 (zc9 j1).bind fun v1 =>
 (zb8 (zd0 a0) (0,v1)).bind (fun z=>zn9 z)
@[go_sem] def zdZ8 (a0:List (List Wait)) (j1:Int):St:=⟨[(0,.sl (a0.map (eL Wait.enc))),(3,.int .i64 j1)],[],0⟩
noncomputable def zd1 (a0:List (List Wait)) (g2:Int×Int):Option ((Int×Int)⊕((Int))) :=
 (if (decide (g2.2 < (a0.length:Int)))=true then
  gd (0≤g2.2∧g2.2 < (a0.length:Int)) <|
  (if (decide ((IntKind.i64.wrap (g2.1+((a0.getD g2.2.toNat []).length:Int))) < 0))=true then
   none
  else
   some (.inl ((IntKind.i64.wrap (g2.1+((a0.getD g2.2.toNat []).length:Int))),(IntKind.i64.wrap (g2.2+1)))))
 else
  some (.inr g2.1))
@[go_sem] def zdZ9 (a0:List (List Wait)) (g2:Int×Int):St:=⟨[(0,.sl (a0.map (eL Wait.enc))),(3,.int .i64 g2.1),(9,.sl (a0.map (eL Wait.enc))),(10,.int .i64 (a0.length:Int)),(11,.int .i64 g2.2)],[],0⟩
noncomputable def zc7 (a0:List (List Wait)):Option ((List Wait)) :=
 (zb8 (zd1 a0) (0,0)).bind (fun z=>zi4 a0 z)
theorem zR1 (a0:List (List Wait)) (r:(List Wait)) (h:zc7 a0=some r):PFn C 152 [.sl (a0.map (eL Wait.enc))] (.sl (r.map Wait.enc)):=by
 refine za8 zeo7 rfl fun E hG hN hK=>?_
 unfold zcw4
 unfold zc7 at h
 refine za0 (za1 hG ?_)
 refine za0 (za1 hG ?_)
 refine za0 (za0 (za1 hG ?_))
 refine zb5 (zdZ8 a0) (fun v=>zi4 a0 v=some r) ?_ ?_
 · intro j1 h
   unfold zi4 at h
   refine g_st ?_
   refine za0 (za1 hG ?_)
   obtain ⟨v1,hv1,h⟩:=za3 h
   refine zo0 [] [(0,0)] [0] (zP9 j1 _ hv1) rfl rfl ?_
   refine za0 (za0 (za1 hG ?_))
   refine zb5 (zdZ6) (fun v=>zn9 v=some r) ?_ ?_
   · intro j2 h
     unfold zn9 at h
     refine g_st ?_
     refine za0 (za1 hG ?_)
     refine za7 ?_
     exact zb1 h
   refine zd9 (zdZ7 a0) hK [(0,0)] h (fun x_l1 h g1 y_l1 h_l1 hx_l1=>?_)
   unfold zd0 at h_l1
   refine g_st ?_
   refine za0 (za1 hG ?_)
   refine za0 ?_
   refine za4 rfl hG h_l1 (fun _ h_l1=>?_) (fun _ h_l1=>?_)
   · refine za5 ?_
     refine za0 (zb6 (za0 ?_))
     obtain ⟨hb2,h_l1⟩:=za2 h_l1
     refine za1 hG ?_
     obtain ⟨hb1,h_l1⟩:=za2 h_l1
     refine za1 hG ?_
     refine za1 hG ?_
     exact zc8 hK [(0,1)] h_l1
   refine zc3 ?_
   obtain rfl:=Option.some.inj h_l1
   have hx:=hx_l1 _ rfl
   subst hx
   try dsimp only at h
   exact zc4 hK [(0,0)] g1.2 (by exact h)
 refine zd9 (zdZ9 a0) hK [] h (fun x_l2 h g2 y_l2 h_l2 hx_l2=>?_)
 unfold zd1 at h_l2
 refine g_st ?_
 refine za0 (za1 hG ?_)
 refine za0 ?_
 refine za4 rfl hG h_l2 (fun _ h_l2=>?_) (fun _ h_l2=>?_)
 · refine za5 ?_
   refine za0 (zb6 (za0 ?_))
   obtain ⟨hb3,h_l2⟩:=za2 h_l2
   refine za1 hG ?_
   refine za0 (za1 hG ?_)
   refine za0 (za1 hG ?_)
   refine za4 rfl hG h_l2 (fun _ h_l2=>?_) (fun _ h_l2=>?_)
   · exact zdX1 h_l2
   refine za5 ?_
   refine za1 hG ?_
   exact zc8 hK [] h_l2
 refine zc3 ?_
 obtain rfl:=Option.some.inj h_l2
 have hx:=hx_l2 _ rfl
 subst hx
 try dsimp only at h
 exact zc4 hK [] g2.1 (by exact h)
attribute [local irreducible] zc7
noncomputable def zo7 (a0:Queue):Option ((List Wait)) :=
 (zc7 [a0.converts,a0.waits]).bind fun v1 =>
 some v1
theorem zat0 (a0:Queue) (r:(List Wait)) (h:zo7 a0=some r):PFn C 112 [.agg (Queue.enc a0)] (.sl (r.map Wait.enc)):=by
 refine za8 zeo8 rfl fun E hG hN hK=>?_
 unfold zcw7
 unfold zo7 at h
 refine za0 (za1 hG ?_)
 refine za0 (za1 hG ?_)
 obtain ⟨v1,hv1,h⟩:=za3 h
 refine za6 (fun hg=>PFn.unfull (zR1 [a0.converts,a0.waits] _ (hv1))) ?_
 refine za7 ?_
 exact zb1 h
attribute [local irreducible] zo7
noncomputable def zN1  (j1:(List Proc)):Option ((List Proc)) :=
 some j1
@[go_sem] def zea0  (j1:(List Proc)):St:=⟨[(3,.own 0 0 j1.length)],[(0,⟨false,3,(Proc.enc Proc.zero),j1.map Proc.enc⟩)],1⟩
noncomputable def zF3 (v1:(List Wait)) (g1:Int×(List Proc)):Option ((Int×(List Proc))⊕(((List Proc)))) :=
 (if (decide (g1.1 < (v1.length:Int)))=true then
  gd (0≤g1.1∧g1.1 < (v1.length:Int)) <|
  gd (g1.2.length+1≤4294967296) <|
  some (.inl ((IntKind.i64.wrap (g1.1+1)),(g1.2++[(v1.getD g1.1.toNat Wait.zero).proc])))
 else
  some (.inr g1.2))
@[go_sem] def zea1 (v1:(List Wait)) (g1:Int×(List Proc)):St:=⟨[(3,.own 0 0 g1.2.length),(7,.sl (v1.map Wait.enc)),(8,.int .i64 (v1.length:Int)),(9,.int .i64 g1.1)],[(0,⟨false,3,(Proc.enc Proc.zero),g1.2.map Proc.enc⟩)],1⟩
noncomputable def zr5 (a0:Queue):Option ((List Proc)) :=
 (zo7 a0).bind fun v1 =>
 (zb8 (zF3 v1) (0,[])).bind (fun z=>zN1 z)
theorem zaX5 (a0:Queue) (r:(List Proc)) (h:zr5 a0=some r):PFn C 117 [.agg (Queue.enc a0)] (.sl (r.map Proc.enc)):=by
 refine za8 zeo9 rfl fun E hG hN hK=>?_
 unfold zcx6
 unfold zr5 at h
 refine za0 (za1 hG ?_)
 refine za0 (za1 hG ?_)
 refine za0 (za0 (za1 hG ?_))
 obtain ⟨v1,hv1,h⟩:=za3 h
 refine za6 (fun hg=>zat0 a0 _ (hv1)) ?_
 refine zb5 (zea0) (fun v=>zN1 v=some r) ?_ ?_
 · intro j1 h
   unfold zN1 at h
   refine g_st ?_
   refine za0 (za1 hG ?_)
   refine za7 ?_
   exact zb1 h
 refine zd9 (zea1 v1) hK [(0,1)] h (fun x_l1 h g1 y_l1 h_l1 hx_l1=>?_)
 unfold zF3 at h_l1
 refine g_st ?_
 refine za0 (za1 hG ?_)
 refine za0 ?_
 refine za4 rfl hG h_l1 (fun _ h_l1=>?_) (fun _ h_l1=>?_)
 · refine za5 ?_
   refine za0 (zb6 (za0 ?_))
   obtain ⟨hb2,h_l1⟩:=za2 h_l1
   refine za1 hG ?_
   obtain ⟨hb1,h_l1⟩:=za2 h_l1
   refine za1 hG ?_
   refine za1 hG ?_
   exact zc8 hK [(0,2)] h_l1
 refine zc3 ?_
 obtain rfl:=Option.some.inj h_l1
 have hx:=hx_l1 _ rfl
 subst hx
 try dsimp only at h
 exact zc4 hK [(0,0)] g1.2 (by exact h)
attribute [local irreducible] zr5
def ltS (x y:Proc):Prop:=x.site < y.site∨x.site=y.site∧(x.inc < y.inc∨x.inc=y.inc∧x.num < y.num)
instance (x y:Proc):Decidable (ltS x y):=by unfold ltS; infer_instance
def cmpS (x y:Proc):Int:=if ltS x y then -1 else if ltS y x then 1 else 0
theorem zal1 (x y:Proc):ltOf cmpS x y=decide (ltS x y):=by
 unfold ltOf cmpS
 by_cases h:ltS x y
 · simp [h]
 · by_cases h2:ltS y x <;> simp [h,h2]
theorem zcc7:Go.Sort.SWO (ltOf cmpS) where
 irrefl x:=by rw [zal1]; simp [ltS]
 trans x y z h1 h2:=by
  rw [zal1,decide_eq_true_eq] at *; unfold ltS at *; omega
 ntrans x y z h1 h2:=by
  rw [zal1,decide_eq_false_iff_not] at *; unfold ltS at *; omega
theorem zbA4 (x y:Proc) (h1:ltOf cmpS x y=false) (h2:ltOf cmpS y x=false):x=y:=by
 rw [zal1,decide_eq_false_iff_not] at *; unfold ltS at *; rw [Proc.ext_iff]; omega
theorem zcj5 (p q:Proc):ze0 p q=some (cmpS p q):=by
 unfold ze0 zj9
 have e:∀ (x y z:Int) (i:Nat) (h:[x,y,z].length=3),Arr.get (⟨[x,y,z],h⟩:Arr Int 3) i 0=match i with | 0=>x | 1=>y | _=>z:=by
  intro x y z i h
  match i with
  | 0=>rfl
  | 1=>rfl
  | 2=>rfl
  | n+3 =>
    have:¬ (n+3 < 3):=by omega
    simp [Arr.get,zr2,this]
 have w1:IntKind.i64.wrap (0+1)=1:=by decide
 have w2:IntKind.i64.wrap (1+1)=2:=by decide
 have w3:IntKind.i64.wrap (2+1)=3:=by decide
 have s3:zd2 ⟨[p.site,p.inc,p.num],rfl⟩ ⟨[q.site,q.inc,q.num],rfl⟩ 3=some (.inr (.inl ())):=by unfold zd2; simp
 have s2:zd2 ⟨[p.site,p.inc,p.num],rfl⟩ ⟨[q.site,q.inc,q.num],rfl⟩ 2=some (if p.num < q.num then .inr (.inr (-1)) else if q.num < p.num then .inr (.inr 1) else .inl 3):=by
  unfold zd2
  rw [if_pos (by decide),zb2 (by decide),zb2 (by decide),zb2 (by decide)]
  simp only [e,show (2:Int).toNat=2 from rfl,decide_eq_true_eq,w3]
  by_cases h:p.num < q.num
  · simp [h]
  · by_cases h2:q.num < p.num <;> simp [h,h2]
 have s1:zd2 ⟨[p.site,p.inc,p.num],rfl⟩ ⟨[q.site,q.inc,q.num],rfl⟩ 1=some (if p.inc < q.inc then .inr (.inr (-1)) else if q.inc < p.inc then .inr (.inr 1) else .inl 2):=by
  unfold zd2
  rw [if_pos (by decide),zb2 (by decide),zb2 (by decide),zb2 (by decide)]
  simp only [e,show (1:Int).toNat=1 from rfl,decide_eq_true_eq,w2]
  by_cases h:p.inc < q.inc
  · simp [h]
  · by_cases h2:q.inc < p.inc <;> simp [h,h2]
 have s0:zd2 ⟨[p.site,p.inc,p.num],rfl⟩ ⟨[q.site,q.inc,q.num],rfl⟩ 0=some (if p.site < q.site then .inr (.inr (-1)) else if q.site < p.site then .inr (.inr 1) else .inl 1):=by
  unfold zd2
  rw [if_pos (by decide),zb2 (by decide),zb2 (by decide),zb2 (by decide)]
  simp only [e,show (0:Int).toNat=0 from rfl,decide_eq_true_eq,w1]
  by_cases h:p.site < q.site
  · simp [h]
  · by_cases h2:q.site < p.site <;> simp [h,h2]
 unfold cmpS ltS
 by_cases a1:p.site < q.site
 · rw [zd6,s0]; simp [a1]
 · by_cases a2:q.site < p.site
   · rw [zd6,s0]
     have:¬ p.site=q.site:=by omega
     simp [a1,a2,this]
   · have h1:p.site=q.site:=by omega
     by_cases b1:p.inc < q.inc
     · rw [zd6,s0]; simp only [a1,a2,if_false]; rw [zd6,s1]; simp [b1,h1]
     · by_cases b2:q.inc < p.inc
       · have:¬ p.inc=q.inc:=by omega
         rw [zd6,s0]; simp only [a1,a2,if_false]; rw [zd6,s1]; simp [b1,b2,h1,this]
       · have h2:p.inc=q.inc:=by omega
         rw [zd6,s0]; simp only [a1,a2,if_false]; rw [zd6,s1]; simp only [b1,b2,if_false]; rw [zd6,s2]
         by_cases c1:p.num < q.num
         · simp [c1,h1,h2]
         · by_cases c2:q.num < p.num
           · simp [c1,c2,h1,h2]
           · simp only [c1,c2,if_false]; rw [zd6,s3]; simp [h1,h2,zB4]
theorem zL5:SlLaysF0.n6 C.P ⟨fun | 6=>118 | 15=>154 | 14=>153 | 28=>177 | 29=>178 | 20=>169 | 21=>170 | 22=>171 | 23=>172 | 24=>173 | 25=>174 | 26=>175 | 27=>176 | 46=>185 | 47=>186 | 48=>187 | 49=>188 | 50=>189 | 57=>192 | n=>n,fun | 22=>73 | 24=>31 | 25=>100 | 39=>145 | 53=>166 | 55=>168 | 46=>159 | 45=>158 | 50=>163 | 66=>172 | 70=>176 | 76=>178 | 77=>179 | n=>n,fun n=>n⟩ where
 mixed:=zd8
 f6:=⟨ "slices.SortFunc[[]clusterlocks/api.Proc,clusterlocks/api.Proc]",by decide,Tryz.func118.trans (congrArg some (by kernel_rfl))⟩
 f14:=⟨ "slices.pdqsortCmpFunc[clusterlocks/api.Proc]",by decide,Tryz.func153.trans (congrArg some (by kernel_rfl))⟩
 f15:=Tryz.func154.trans (congrArg some (by kernel_rfl))
 f20:=⟨ "slices.insertionSortCmpFunc[clusterlocks/api.Proc]",by decide,Tryz.func169.trans (congrArg some (by kernel_rfl))⟩
 f21:=⟨ "slices.heapSortCmpFunc[clusterlocks/api.Proc]",by decide,Tryz.func170.trans (congrArg some (by kernel_rfl))⟩
 f22:=⟨ "slices.breakPatternsCmpFunc[clusterlocks/api.Proc]",by decide,Tryz.func171.trans (congrArg some (by kernel_rfl))⟩
 f23:=⟨ "slices.choosePivotCmpFunc[clusterlocks/api.Proc]",by decide,Tryz.func172.trans (congrArg some (by kernel_rfl))⟩
 f24:=⟨ "slices.reverseRangeCmpFunc[clusterlocks/api.Proc]",by decide,Tryz.func173.trans (congrArg some (by kernel_rfl))⟩
 f25:=⟨ "slices.partialInsertionSortCmpFunc[clusterlocks/api.Proc]",by decide,Tryz.func174.trans (congrArg some (by kernel_rfl))⟩
 f26:=⟨ "slices.partitionEqualCmpFunc[clusterlocks/api.Proc]",by decide,Tryz.func175.trans (congrArg some (by kernel_rfl))⟩
 f27:=⟨ "slices.partitionCmpFunc[clusterlocks/api.Proc]",by decide,Tryz.func176.trans (congrArg some (by kernel_rfl))⟩
 f28:=Tryz.func177.trans (congrArg some (by kernel_rfl))
 f29:=Tryz.func178.trans (congrArg some (by kernel_rfl))
 f46:=⟨ "slices.siftDownCmpFunc[clusterlocks/api.Proc]",by decide,Tryz.func185.trans (congrArg some (by kernel_rfl))⟩
 f47:=Tryz.func186.trans (congrArg some (by kernel_rfl))
 f48:=Tryz.func187.trans (congrArg some (by kernel_rfl))
 f49:=⟨ "slices.medianAdjacentCmpFunc[clusterlocks/api.Proc]",by decide,Tryz.func188.trans (congrArg some (by kernel_rfl))⟩
 f50:=⟨ "slices.medianCmpFunc[clusterlocks/api.Proc]",by decide,Tryz.func189.trans (congrArg some (by kernel_rfl))⟩
 f57:=⟨ "slices.order2CmpFunc[clusterlocks/api.Proc]",by decide,Tryz.func192.trans (congrArg some (by kernel_rfl))⟩
 t0:=Tryz.underlying0
 a0:=Tryz.isAgg0
 z0:=Tryz.sizeOf0
 v0:=Tryz.zeroValue0
 t3:=Tryz.underlying3
 a3:=Tryz.isAgg3
 z3:=Tryz.sizeOf3
 v3:=Tryz.zeroValue3
 t4:=Tryz.underlying4
 a4:=Tryz.isAgg4
 z4:=Tryz.sizeOf4
 v4:=Tryz.zeroValue4
 t5:=Tryz.underlying5
 a5:=Tryz.isAgg5
 z5:=Tryz.sizeOf5
 v5:=Tryz.zeroValue5
 t9:=Tryz.underlying9
 a9:=Tryz.isAgg9
 z9:=Tryz.sizeOf9
 v9:=Tryz.zeroValue9
 t22:=Tryz.underlying73
 a22:=Tryz.isAgg73
 z22:=Tryz.sizeOf73
 v22:=Tryz.zeroValue73
 t25:=Tryz.underlying100
 a25:=Tryz.isAgg100
 z25:=Tryz.sizeOf100
 v25:=Tryz.zeroValue100
 t39:=Tryz.underlying145
 a39:=Tryz.isAgg145
 z39:=Tryz.sizeOf145
 v39:=Tryz.zeroValue145
 t45:=Tryz.underlying158
 a45:=Tryz.isAgg158
 z45:=Tryz.sizeOf158
 v45:=Tryz.zeroValue158
 t46:=Tryz.underlying159
 a46:=Tryz.isAgg159
 z46:=Tryz.sizeOf159
 v46:=Tryz.zeroValue159
 t50:=Tryz.underlying163
 a50:=Tryz.isAgg163
 z50:=Tryz.sizeOf163
 v50:=Tryz.zeroValue163
 t53:=Tryz.underlying166
 a53:=Tryz.isAgg166
 z53:=Tryz.sizeOf166
 v53:=Tryz.zeroValue166
 t55:=Tryz.underlying168
 a55:=Tryz.isAgg168
 z55:=Tryz.sizeOf168
 v55:=Tryz.zeroValue168
 t66:=Tryz.underlying172
 a66:=Tryz.isAgg172
 z66:=Tryz.sizeOf172
 v66:=Tryz.zeroValue172
 t70:=Tryz.underlying176
 a70:=Tryz.isAgg176
 z70:=Tryz.sizeOf176
 v70:=Tryz.zeroValue176
 t76:=Tryz.underlying178
 a76:=Tryz.isAgg178
 z76:=Tryz.sizeOf178
 v76:=Tryz.zeroValue178
 t77:=Tryz.underlying179
 a77:=Tryz.isAgg179
 z77:=Tryz.sizeOf179
 v77:=Tryz.zeroValue179
def zc0 (a0:List Proc):Option (List Proc):=gd (a0.length≤4294967296) (some (a0.mergeSort fun x y=>!decide (y.site < x.site∨y.site=x.site∧(y.inc < x.inc∨y.inc=x.inc∧y.num < x.num))))
theorem zK7 (a0 r:List Proc) (h:zc0 a0=some r):r.length=a0.length:=by
 obtain ⟨_,h⟩:=za2 h
 obtain rfl:=Option.some.inj h
 exact List.length_mergeSort _
theorem zK8 (a0:List Proc) (r:List Proc) (h:zc0 a0=some r):MFn C 118 [.own 0 0 a0.length,.clo 119 []] [(0,⟨false,3,(Proc.enc Proc.zero),a0.map Proc.enc⟩)] 1 (.tup []) [(0,⟨false,3,(Proc.enc Proc.zero),r.map Proc.enc⟩)] 1:=by
 obtain ⟨hl,h⟩:=za2 h
 obtain rfl:=Option.some.inj h
 haveI:Inhabited Proc:=⟨Proc.zero⟩
 have e:(fun x y:Proc=>!decide (y.site < x.site∨y.site=x.site∧(y.inc < x.inc∨y.inc=x.inc∧y.num < x.num)))=fun x y=>!(ltOf cmpS) y x:=by
  funext x y
  rw [zal1]
  exact congrArg not (decide_eq_decide.2 Iff.rfl)
 rw [e]
 exact zcc6 zL5 Proc.enc 3 Proc.len (by decide) Proc.scal Tryz.isAgg31 Tryz.sizeOf31 cmpS zcc7 zbA4 119 (fun x y=>zL2 x y _ (zcj5 x y)) (enters_of Tryz.func119 (by kernel_rfl) rfl) rfl _ a0 hl
attribute [local irreducible] zc0
noncomputable def zl4 (a0:List Proc) (j1:Unit):Option ((List Proc)×(List Proc)) :=
 some (a0,a0)
@[go_sem] def zea2 (a0:List Proc) (j1:Unit):St:=⟨[(0,.own 0 0 a0.length)],[(0,⟨false,3,(Proc.enc Proc.zero),a0.map Proc.enc⟩)],1⟩
noncomputable def zg9  (j2:Int×(List Proc)):Option ((Int)⊕((Unit)⊕((List Proc)×(List Proc)))) :=
 gd (0≤j2.1∧j2.1≤((j2.2.length:Nat):Int)∧((j2.2.length:Nat):Int)≤((j2.2.length:Nat):Int)) <|
 gd (0≤0∧0≤j2.1∧j2.1≤((j2.2.length:Nat):Int)) <|
 some (.inr (.inr ((((j2.2.take j2.1.toNat++List.replicate (j2.2.length - j2.1.toNat) Proc.zero++j2.2.drop (j2.1.toNat+(j2.2.length - j2.1.toNat))).drop 0).take j2.1.toNat),(j2.2.take j2.1.toNat++List.replicate (j2.2.length - j2.1.toNat) Proc.zero++j2.2.drop (j2.1.toNat+(j2.2.length - j2.1.toNat))))))
@[go_sem] def zea3  (j2:Int×(List Proc)):St:=⟨[(0,.own 0 0 j2.2.length),(3,.int .i64 j2.1)],[(0,⟨false,3,(Proc.enc Proc.zero),j2.2.map Proc.enc⟩)],1⟩
noncomputable def zh0 (a0:List Proc) (g1:Int) (g2:Int×Int×(List Proc)):Option ((Int×Int×(List Proc))⊕((Int×(List Proc)))) :=
 (if (decide (g2.2.1 < (((a0.length - g1.toNat):Nat):Int)))=true then
  gd (0≤g2.2.1∧g2.2.1 < (((a0.length - g1.toNat):Nat):Int)∧g1.toNat+(a0.length - g1.toNat)≤g2.2.2.length) <|
  gd (0≤(IntKind.i64.wrap (g2.2.1 - 1))∧(IntKind.i64.wrap (g2.2.1 - 1)) < (((a0.length - g1.toNat):Nat):Int)∧g1.toNat+(a0.length - g1.toNat)≤g2.2.2.length) <|
  (if (!decide ((g2.2.2.getD (g1.toNat+g2.2.1.toNat) Proc.zero)=(g2.2.2.getD (g1.toNat+(IntKind.i64.wrap (g2.2.1 - 1)).toNat) Proc.zero)))=true then
   gd (0≤g2.2.1∧g2.2.1 < (((a0.length - g1.toNat):Nat):Int)∧g1.toNat+(a0.length - g1.toNat)≤g2.2.2.length) <|
   gd (0≤g2.1∧g2.1 < ((g2.2.2.length:Nat):Int)) <|
   some (.inl ((IntKind.i64.wrap (g2.1+1)),(IntKind.i64.wrap (g2.2.1+1)),(g2.2.2.set g2.1.toNat (g2.2.2.getD (g1.toNat+g2.2.1.toNat) Proc.zero))))
  else
   some (.inl (g2.1,(IntKind.i64.wrap (g2.2.1+1)),g2.2.2)))
 else
  some (.inr (g2.1,g2.2.2)))
@[go_sem] def zea4 (a0:List Proc) (g1:Int) (g2:Int×Int×(List Proc)):St:=⟨[(0,.own 0 0 g2.2.2.length),(3,.int .i64 g2.1),(4,.own 0 g1.toNat (a0.length - g1.toNat)),(5,.int .i64 g2.2.1)],[(0,⟨false,3,(Proc.enc Proc.zero),g2.2.2.map Proc.enc⟩)],1⟩
noncomputable def zh1 (a0:List Proc) (g1:Int):Option ((Int)⊕((Unit)⊕((List Proc)×(List Proc)))) :=
 (if (decide (g1 < ((a0.length:Nat):Int)))=true then
  gd (0≤g1∧g1 < ((a0.length:Nat):Int)) <|
  gd (0≤(IntKind.i64.wrap (g1 - 1))∧(IntKind.i64.wrap (g1 - 1)) < ((a0.length:Nat):Int)) <|
  (if (decide ((a0.getD g1.toNat Proc.zero)=(a0.getD ((IntKind.i64.wrap (g1 - 1)).toNat) Proc.zero)))=true then
   gd (0≤g1∧g1≤((a0.length:Nat):Int)∧((a0.length:Nat):Int)≤((a0.length:Nat):Int)) <|
   (zb8 (zh0 a0 g1) (g1,1,a0)).bind (fun z=>zg9 z)
  else
   some (.inl (IntKind.i64.wrap (g1+1))))
 else
  some (.inr (.inl ())))
@[go_sem] def zea5 (a0:List Proc) (g1:Int):St:=⟨[(0,.own 0 0 a0.length),(3,.int .i64 g1)],[(0,⟨false,3,(Proc.enc Proc.zero),a0.map Proc.enc⟩)],1⟩
noncomputable def zc2 (a0:List Proc):Option ((List Proc)×(List Proc)) :=
 (if (decide (((a0.length:Nat):Int) < 2))=true then
  some (a0,a0)
 else
  (zb8 (zh1 a0) 1).bind (fun | .inl z=>zl4 a0 z | .inr z=>some z))
theorem zL6 (a0:List Proc) (r:(List Proc)×(List Proc)) (h:zc2 a0=some r):MFn C 120 [.own 0 0 a0.length] [(0,⟨false,3,(Proc.enc Proc.zero),a0.map Proc.enc⟩)] 1 (.sl (r.1.map Proc.enc)) [(0,⟨true,3,(Proc.enc Proc.zero),r.2.map Proc.enc⟩)] 1:=by
 refine zl5 (rl:=[.sl (r.1.map Proc.enc)]) zep0 rfl rfl rfl rfl fun E hG hN hK=>?_
 unfold zcy7
 unfold zc2 at h
 refine za0 (za1 hG ?_)
 refine za0 (za0 (za1 hG ?_))
 refine za4 rfl hG h (fun _ h=>?_) (fun _ h=>?_)
 · refine za0 (za1 hG ?_)
   refine g_gh (.fz [0]) ?_
   refine za7 ?_
   exact zz5 [(0,0)] h
 refine za5 ?_
 refine za0 (za0 (za1 hG ?_))
 refine zb5 (zea2 a0) (fun v=>zl4 a0 v=some r) ?_ ?_
 · intro j1 h
   unfold zl4 at h
   refine g_st ?_
   refine za0 (za1 hG ?_)
   refine g_gh (.fz [0]) ?_
   refine za7 ?_
   exact zz5 [(0,0)] h
 refine zd9 (zea5 a0) hK [(0,0)] h (fun x_l1 h g1 y_l1 h_l1 hx_l1=>?_)
 unfold zh1 at h_l1
 refine g_st ?_
 refine za0 (za0 (za1 hG ?_))
 refine za4 rfl hG h_l1 (fun _ h_l1=>?_) (fun _ h_l1=>?_)
 · refine za5 ?_
   refine za0 (zb6 (za0 ?_))
   obtain ⟨hb8,h_l1⟩:=za2 h_l1
   obtain ⟨hb9,h_l1⟩:=za2 h_l1
   refine zm9 zd8 hG ?_
   refine za4 rfl hG h_l1 (fun _ h_l1=>?_) (fun _ h_l1=>?_)
   · refine za0 ?_
     obtain ⟨hb7,h_l1⟩:=za2 h_l1
     refine za1 hG ?_
     refine za0 (za0 (za1 hG ?_))
     refine zb5 (zea3) (fun v=>zg9 v=some y_l1) ?_ ?_
     · intro j2 h_l1
       unfold zg9 at h_l1
       refine g_st ?_
       refine za0 ?_
       obtain ⟨hb2,h_l1⟩:=za2 h_l1
       refine za1 hG ?_
       refine za0 ?_
       obtain ⟨hb1,h_l1⟩:=za2 h_l1
       refine za1 hG ?_
       refine g_gh (.fz [0]) ?_
       refine za7 ?_
       obtain rfl:=Option.some.inj h_l1
       have hx:=hx_l1 _ rfl
       subst hx
       try dsimp only at h
       exact zz5 [(0,0)] h
     refine zd9 (zea4 a0 g1) hK [(0,0)] h_l1 (fun x_l2 h_l1 g2 y_l2 h_l2 hx_l2=>?_)
     unfold zh0 at h_l2
     refine g_st ?_
     refine za0 (za0 (za1 hG ?_))
     refine za4 rfl hG h_l2 (fun _ h_l2=>?_) (fun _ h_l2=>?_)
     · refine za5 ?_
       refine za0 (zb6 (za0 ?_))
       obtain ⟨hb5,h_l2⟩:=za2 h_l2
       obtain ⟨hb6,h_l2⟩:=za2 h_l2
       refine zm9 zd8 hG ?_
       refine za4 rfl hG h_l2 (fun _ h_l2=>?_) (fun _ h_l2=>?_)
       · refine za0 ?_
         obtain ⟨hb3,h_l2⟩:=za2 h_l2
         obtain ⟨hb4,h_l2⟩:=za2 h_l2
         refine za1 hG ?_
         refine za1 hG ?_
         refine za1 hG ?_
         exact zc8 hK [(0,0)] h_l2
       refine za5 ?_
       refine za1 hG ?_
       exact zc8 hK [(0,0)] h_l2
     refine zc3 ?_
     obtain rfl:=Option.some.inj h_l2
     have hx:=hx_l2 _ rfl
     subst hx
     try dsimp only at h_l1
     exact zc4 hK [(0,0)] (g2.1,g2.2.2) (by exact h_l1)
   refine za5 ?_
   refine za1 hG ?_
   exact zc8 hK [(0,0)] h_l1
 refine zc3 ?_
 obtain rfl:=Option.some.inj h_l1
 have hx:=hx_l1 _ rfl
 subst hx
 try dsimp only at h
 exact zc4 hK [(0,0)] () (by exact h)
attribute [local irreducible] zc2
noncomputable def zh8 (a0:List Proc):Option ((List Proc)) :=
 gd (a0.length≤4294967296) <|
 (zc0 a0).bind fun v1 =>
 (zc2 v1).bind fun v2 =>
 some v2.1
theorem zad3 (a0:List Proc) (r:(List Proc)) (h:zh8 a0=some r):PFn C 77 [.sl (a0.map Proc.enc)] (.sl (r.map Proc.enc)):=by
 refine za8 zep1 rfl fun E hG hN hK=>?_
 unfold zcz2
 unfold zh8 at h
 refine za0 (za1 hG ?_)
 refine za0 ?_
 obtain ⟨hb1,h⟩:=za2 h
 refine za1 hG ?_
 refine za0 (za1 hG ?_)
 obtain ⟨v1,hv1,h⟩:=za3 h
 have hl_v1:=zK7 a0 _ hv1
 refine zo0 [(0,0)] [] [0] (zK8 a0 _ hv1) rfl rfl ?_
 refine za0 (za1 hG ?_)
 obtain ⟨v2,hv2,h⟩:=za3 h
 refine zo0 [(0,0)] [] [0] (zL6 v1 _ hv2) rfl rfl ?_
 refine za7 ?_
 exact zb1 h
attribute [local irreducible] zh8
noncomputable def zo8 (a0:Queue):Option ((List Proc)) :=
 (zh7 a0.holds).bind fun v1 =>
 (zr5 a0).bind fun v2 =>
 gd (v1.length+v2.length≤4294967296) <|
 (zh8 (v1++v2)).bind fun v3 =>
 some v3
theorem zat1 (a0:Queue) (r:(List Proc)) (h:zo8 a0=some r):PFn C 76 [.agg (Queue.enc a0)] (.sl (r.map Proc.enc)):=by
 refine za8 zep2 rfl fun E hG hN hK=>?_
 unfold zcz5
 unfold zo8 at h
 refine za0 (za1 hG ?_)
 refine za0 (zF1 zd8 hG ?_)
 obtain ⟨v1,hv1,h⟩:=za3 h
 refine zac6 [] [(0,1)] [0] (zay6 a0.holds _ hv1) rfl rfl ?_
 obtain ⟨v2,hv2,h⟩:=za3 h
 obtain ⟨hb1,h⟩:=za2 h
 refine zC5 (fun hg=>zaX5 a0 _ (hv2)) ?_
 obtain ⟨v3,hv3,h⟩:=za3 h
 refine zC5 (fun hg=>zad3 (v1++v2) _ (hv3)) ?_
 refine za7 ?_
 exact zb1 h
attribute [local irreducible] zo8
noncomputable def zN2  (j1:(List Proc)):Option ((List Proc)) :=
 (zh8 j1).bind fun v1 =>
 some v1
@[go_sem] def zea6  (j1:(List Proc)):St:=⟨[(3,.own 0 0 j1.length)],[(0,⟨false,3,(Proc.enc Proc.zero),j1.map Proc.enc⟩)],1⟩
noncomputable def zF4 (a0:List Queue) (g1:Int×(List Proc)):Option ((Int×(List Proc))⊕(((List Proc)))) :=
 (if (decide (g1.1 < (a0.length:Int)))=true then
  gd (0≤g1.1∧g1.1 < (a0.length:Int)) <|
  (zo8 (a0.getD g1.1.toNat Queue.zero)).bind fun v2 =>
  gd (g1.2.length+v2.length≤4294967296) <|
  some (.inl ((IntKind.i64.wrap (g1.1+1)),(g1.2++v2)))
 else
  some (.inr g1.2))
@[go_sem] def zea7 (a0:List Queue) (g1:Int×(List Proc)):St:=⟨[(3,.own 0 0 g1.2.length),(6,.sl (a0.map Queue.enc)),(7,.int .i64 (a0.length:Int)),(8,.int .i64 g1.1)],[(0,⟨false,3,(Proc.enc Proc.zero),g1.2.map Proc.enc⟩)],1⟩
noncomputable def zm2 (a0:List Queue):Option ((List Proc)) :=
 (zb8 (zF4 a0) (0,[])).bind (fun z=>zN2 z)
theorem zat2 (a0:List Queue) (r:(List Proc)) (h:zm2 a0=some r):PFn C 40 [.sl (a0.map Queue.enc)] (.sl (r.map Proc.enc)):=by
 refine za8 zep3 rfl fun E hG hN hK=>?_
 unfold zcA4
 unfold zm2 at h
 refine za0 (za1 hG ?_)
 refine za0 (za1 hG ?_)
 refine za0 (za0 (za1 hG ?_))
 refine zb5 (zea6) (fun v=>zN2 v=some r) ?_ ?_
 · intro j1 h
   unfold zN2 at h
   refine g_st ?_
   refine za0 (za1 hG ?_)
   obtain ⟨v1,hv1,h⟩:=za3 h
   refine za6 (fun hg=>zad3 j1 _ (hv1)) ?_
   refine za7 ?_
   exact zb1 h
 refine zd9 (zea7 a0) hK [(0,0)] h (fun x_l1 h g1 y_l1 h_l1 hx_l1=>?_)
 unfold zF4 at h_l1
 refine g_st ?_
 refine za0 (za1 hG ?_)
 refine za0 ?_
 refine za4 rfl hG h_l1 (fun _ h_l1=>?_) (fun _ h_l1=>?_)
 · refine za5 ?_
   refine za0 (zb6 (za0 ?_))
   obtain ⟨hb2,h_l1⟩:=za2 h_l1
   refine za1 hG ?_
   refine za1 hG ?_
   obtain ⟨v2,hv2,h_l1⟩:=za3 h_l1
   obtain ⟨hb1,h_l1⟩:=za2 h_l1
   refine za6 (fun hg=>zat1 (a0.getD g1.1.toNat Queue.zero) _ (hv2)) ?_
   refine za1 hG ?_
   exact zc8 hK [(0,2)] h_l1
 refine zc3 ?_
 obtain rfl:=Option.some.inj h_l1
 have hx:=hx_l1 _ rfl
 subst hx
 try dsimp only at h
 exact zc4 hK [(0,0)] g1.2 (by exact h)
attribute [local irreducible] zm2
noncomputable def zN3 (a0:List Queue) (j1:Unit):Option (Bool) :=
 (zm2 a0).bind fun v1 =>
 some (decide ((v1.length:Int)≤8))
@[go_sem] def zea8 (a0:List Queue) (j1:Unit):St:=⟨[(0,.sl (a0.map Queue.enc))],[],0⟩
noncomputable def zN4 (a0:List Queue) (g1:Int):Option ((Int)⊕((Unit)⊕(Bool))) :=
 (if (decide (g1 < (a0.length:Int)))=true then
  gd (0≤g1∧g1 < (a0.length:Int)) <|
  (zi0 (a0.getD g1.toNat Queue.zero)).bind fun v2 =>
  gd ((v2&&(decide (0 < g1)))=true→0≤(IntKind.i64.wrap (g1 - 1))∧(IntKind.i64.wrap (g1 - 1)) < (a0.length:Int)) <|
  (if ((!v2)||((decide (0 < g1))&&(!Op.bytesLess (((a0.getD ((IntKind.i64.wrap (g1 - 1)).toNat) Queue.zero).resource).name).toList (((a0.getD g1.toNat Queue.zero).resource).name).toList)))=true then
   some (.inr (.inr false))
  else
   some (.inl (IntKind.i64.wrap (g1+1))))
 else
  some (.inr (.inl ())))
@[go_sem] def zea9 (a0:List Queue) (g1:Int):St:=⟨[(0,.sl (a0.map Queue.enc)),(8,.sl (a0.map Queue.enc)),(9,.int .i64 (a0.length:Int)),(10,.int .i64 g1)],[],0⟩
noncomputable def zk6 (a0:List Queue):Option (Bool) :=
 (if (decide (8 < (a0.length:Int)))=true then
  some false
 else
  (zb8 (zN4 a0) 0).bind (fun | .inl z=>zN3 a0 z | .inr z=>some z))
theorem zad4 (a0:List Queue) (r:Bool) (h:zk6 a0=some r):PFn C 53 [.sl (a0.map Queue.enc)] (.bool r):=by
 refine za8 zep4 rfl fun E hG hN hK=>?_
 unfold zcB5
 unfold zk6 at h
 refine za0 (za1 hG ?_)
 refine za0 (za0 (za1 hG ?_))
 refine za4 rfl hG h (fun _ h=>?_) (fun _ h=>?_)
 · refine za0 (za1 hG ?_)
   refine za7 ?_
   exact zb1 h
 refine za5 ?_
 refine za0 (za0 (za1 hG ?_))
 refine zb5 (zea8 a0) (fun v=>zN3 a0 v=some r) ?_ ?_
 · intro j1 h
   unfold zN3 at h
   refine g_st ?_
   refine za0 (za1 hG ?_)
   obtain ⟨v1,hv1,h⟩:=za3 h
   refine za6 (fun hg=>zat2 a0 _ (hv1)) ?_
   refine za7 ?_
   exact zb1 h
 refine zd9 (zea9 a0) hK [] h (fun x_l1 h g1 y_l1 h_l1 hx_l1=>?_)
 unfold zN4 at h_l1
 refine g_st ?_
 refine za0 (za1 hG ?_)
 refine za0 ?_
 refine za4 rfl hG h_l1 (fun _ h_l1=>?_) (fun _ h_l1=>?_)
 · refine za5 ?_
   refine za0 (zb6 (za0 ?_))
   obtain ⟨hb2,h_l1⟩:=za2 h_l1
   refine za1 hG ?_
   refine za0 (zm9 zd8 hG ?_)
   obtain ⟨v2,hv2,h_l1⟩:=za3 h_l1
   obtain ⟨hb1,h_l1⟩:=za2 h_l1
   refine zf8 (fun hg=>zad2 (a0.getD g1.toNat Queue.zero) _ (hv2)) ?_
   refine za4 rfl hG h_l1 (fun _ h_l1=>?_) (fun _ h_l1=>?_)
   · refine za0 (za1 hG ?_)
     refine za7 ?_
     obtain rfl:=Option.some.inj h_l1
     have hx:=hx_l1 _ rfl
     subst hx
     try dsimp only at h
     exact zb1 h
   refine za5 ?_
   refine za1 hG ?_
   exact zc8 hK [] h_l1
 refine zc3 ?_
 obtain rfl:=Option.some.inj h_l1
 have hx:=hx_l1 _ rfl
 subst hx
 try dsimp only at h
 exact zc4 hK [] () (by exact h)
attribute [local irreducible] zk6
noncomputable def zaa2  (j1:Unit):Option (Int) :=
 some (-1)
@[go_sem] def zeb0  (j1:Unit):St:=⟨[],[],0⟩
noncomputable def zQ6 (a0:List Queue) (a1:ByteArray) (g1:Int):Option ((Int)⊕((Unit)⊕(Int))) :=
 (if (decide (g1 < (a0.length:Int)))=true then
  gd (0≤g1∧g1 < (a0.length:Int)) <|
  (if ((((a0.getD g1.toNat Queue.zero).resource).name).toList == a1.toList)=true then
   some (.inr (.inr g1))
  else
   some (.inl (IntKind.i64.wrap (g1+1))))
 else
  some (.inr (.inl ())))
@[go_sem] def zeb1 (a0:List Queue) (a1:ByteArray) (g1:Int):St:=⟨[(1,.str a1),(7,.sl (a0.map Queue.enc)),(8,.int .i64 (a0.length:Int)),(9,.int .i64 g1)],[],0⟩
noncomputable def zt0 (a0:List Queue) (a1:ByteArray):Option (Int) :=
 (zb8 (zQ6 a0 a1) 0).bind (fun | .inl z=>zaa2 z | .inr z=>some z)
theorem zaA2 (a0:List Queue) (a1:ByteArray) (r:Int) (h:zt0 a0 a1=some r):PFn C 52 [.sl (a0.map Queue.enc),.str a1] (.int .i64 r):=by
 refine za8 zep5 rfl fun E hG hN hK=>?_
 unfold zcC4
 unfold zt0 at h
 refine za0 (za1 hG ?_)
 refine za0 (za0 (za1 hG ?_))
 refine zb5 (zeb0) (fun v=>zaa2 v=some r) ?_ ?_
 · intro j1 h
   unfold zaa2 at h
   refine g_st ?_
   refine za0 (za1 hG ?_)
   refine za7 ?_
   exact zb1 h
 refine zd9 (zeb1 a0 a1) hK [] h (fun x_l1 h g1 y_l1 h_l1 hx_l1=>?_)
 unfold zQ6 at h_l1
 refine g_st ?_
 refine za0 (za1 hG ?_)
 refine za0 ?_
 refine za4 rfl hG h_l1 (fun _ h_l1=>?_) (fun _ h_l1=>?_)
 · refine za5 ?_
   refine za0 (zb6 (za0 ?_))
   obtain ⟨hb1,h_l1⟩:=za2 h_l1
   refine za1 hG ?_
   refine za0 (za1 hG ?_)
   refine za4 rfl hG h_l1 (fun _ h_l1=>?_) (fun _ h_l1=>?_)
   · refine za0 (za1 hG ?_)
     refine za7 ?_
     obtain rfl:=Option.some.inj h_l1
     have hx:=hx_l1 _ rfl
     subst hx
     try dsimp only at h
     exact zb1 h
   refine za5 ?_
   refine za1 hG ?_
   exact zc8 hK [] h_l1
 refine zc3 ?_
 obtain rfl:=Option.some.inj h_l1
 have hx:=hx_l1 _ rfl
 subst hx
 try dsimp only at h
 exact zc4 hK [] () (by exact h)
attribute [local irreducible] zt0
noncomputable def zy3 (a0:List Queue) (a1:ByteArray):Option (Int×Int) :=
 (zk6 a0).bind fun v1 =>
 (if (!v1)=true then
  some (0,2)
 else
  (zt0 a0 a1).bind fun v2 =>
  (if (decide (v2 < 0))=true then
   some (0,10)
  else
   some (v2,0)))
theorem zbt4 (a0:List Queue) (a1:ByteArray) (r:Int×Int) (h:zy3 a0 a1=some r):PFn C 54 [.sl (a0.map Queue.enc),.str a1] (.tup [.int .i64 r.1,.int .i64 r.2]):=by
 refine za8 zep6 rfl fun E hG hN hK=>?_
 unfold zcD2
 unfold zy3 at h
 refine za0 (za1 hG ?_)
 refine za0 (za0 (za1 hG ?_))
 obtain ⟨v1,hv1,h⟩:=za3 h
 refine za6 (fun hg=>zad4 a0 _ (hv1)) ?_
 refine za4 rfl hG h (fun _ h=>?_) (fun _ h=>?_)
 · refine za0 (za1 hG ?_)
   refine za7 ?_
   exact zb1 h
 refine za5 ?_
 refine za0 (za1 hG ?_)
 obtain ⟨v2,hv2,h⟩:=za3 h
 refine za6 (fun hg=>zaA2 a0 a1 _ (hv2)) ?_
 refine za0 (za0 (za1 hG ?_))
 refine za4 rfl hG h (fun _ h=>?_) (fun _ h=>?_)
 · refine za0 (za1 hG ?_)
   refine za7 ?_
   exact zb1 h
 refine za5 ?_
 refine za0 (za1 hG ?_)
 refine za7 ?_
 exact zb1 h
attribute [local irreducible] zy3
noncomputable def zo9  (j1:Unit):Option (Int) :=
 some (-1)
@[go_sem] def zeb2  (j1:Unit):St:=⟨[],[],0⟩
noncomputable def zg1 (a0:List Proc) (a1:Proc) (g1:Int):Option ((Int)⊕((Unit)⊕(Int))) :=
 (if (decide (g1 < (a0.length:Int)))=true then
  gd (0≤g1∧g1 < (a0.length:Int)) <|
  (if (decide (a1=(a0.getD g1.toNat Proc.zero)))=true then
   some (.inr (.inr g1))
  else
   some (.inl (IntKind.i64.wrap (g1+1))))
 else
  some (.inr (.inl ())))
@[go_sem] def zeb3 (a0:List Proc) (a1:Proc) (g1:Int):St:=⟨[(0,.sl (a0.map Proc.enc)),(3,.ptr 0 0 0),(7,.int .i64 (a0.length:Int)),(8,.int .i64 g1)],[(0,⟨false,3,(Proc.enc Proc.zero),[Proc.enc a1]⟩)],1⟩
noncomputable def zd3 (a0:List Proc) (a1:Proc):Option (Int) :=
 (zb8 (zg1 a0 a1) 0).bind (fun | .inl z=>zo9 z | .inr z=>some z)
theorem zS2 (a0:List Proc) (a1:Proc) (r:Int) (h:zd3 a0 a1=some r):PFn C 130 [.sl (a0.map Proc.enc),.agg (Proc.enc a1)] (.int .i64 r):=by
 refine za8 zep7 rfl fun E hG hN hK=>?_
 unfold zcE1
 unfold zd3 at h
 refine za0 (za1 hG ?_)
 refine za0 (za0 (za1 hG ?_))
 refine zb5 (zeb2) (fun v=>zo9 v=some r) ?_ ?_
 · intro j1 h
   unfold zo9 at h
   refine g_st ?_
   refine za0 (za1 hG ?_)
   refine za7 ?_
   exact zb1 h
 refine zd9 (zeb3 a0 a1) hK [(0,0)] h (fun x_l1 h g1 y_l1 h_l1 hx_l1=>?_)
 unfold zg1 at h_l1
 refine g_st ?_
 refine za0 (za1 hG ?_)
 refine za0 ?_
 refine za4 rfl hG h_l1 (fun _ h_l1=>?_) (fun _ h_l1=>?_)
 · refine za5 ?_
   refine za0 (zb6 (za0 (za1 hG ?_)))
   refine za0 ?_
   obtain ⟨hb1,h_l1⟩:=za2 h_l1
   refine zm9 zd8 hG ?_
   refine za4 rfl hG h_l1 (fun _ h_l1=>?_) (fun _ h_l1=>?_)
   · refine za0 (za1 hG ?_)
     refine za7 ?_
     obtain rfl:=Option.some.inj h_l1
     have hx:=hx_l1 _ rfl
     subst hx
     try dsimp only at h
     exact zb1 h
   refine za5 ?_
   refine za1 hG ?_
   exact zc8 hK [(0,0)] h_l1
 refine zc3 ?_
 obtain rfl:=Option.some.inj h_l1
 have hx:=hx_l1 _ rfl
 subst hx
 try dsimp only at h
 exact zc4 hK [] () (by exact h)
attribute [local irreducible] zd3
noncomputable def zc5 (a0:List Proc) (a1:Proc):Option (Bool) :=
 (zd3 a0 a1).bind fun v1 =>
 some (decide (0≤v1))
theorem zP3 (a0:List Proc) (a1:Proc) (r:Bool) (h:zc5 a0 a1=some r):PFn C 85 [.sl (a0.map Proc.enc),.agg (Proc.enc a1)] (.bool r):=by
 refine za8 zep8 rfl fun E hG hN hK=>?_
 unfold zcE4
 unfold zc5 at h
 refine za0 (za1 hG ?_)
 refine za0 (za1 hG ?_)
 obtain ⟨v1,hv1,h⟩:=za3 h
 refine za6 (fun hg=>zS2 a0 a1 _ (hv1)) ?_
 refine za7 ?_
 exact zb1 h
attribute [local irreducible] zc5
noncomputable def zk2 (a0:List Proc) (a1:Proc):Option (Bool) :=
 (zc5 a0 a1).bind fun v1 =>
 some v1
theorem zal2 (a0:List Proc) (a1:Proc) (r:Bool) (h:zk2 a0 a1=some r):PFn C 55 [.sl (a0.map Proc.enc),.agg (Proc.enc a1)] (.bool r):=by
 refine za8 zep9 rfl fun E hG hN hK=>?_
 unfold zcE7
 unfold zk2 at h
 refine za0 (za1 hG ?_)
 refine za0 (za1 hG ?_)
 obtain ⟨v1,hv1,h⟩:=za3 h
 refine za6 (fun hg=>zP3 a0 a1 _ (hv1)) ?_
 refine za7 ?_
 exact zb1 h
attribute [local irreducible] zk2
noncomputable def zT1  (j1:Unit):Option (Amount×Bool) :=
 some ({ Amount.zero with  },false)
@[go_sem] def zeb4  (j1:Unit):St:=⟨[(4,.ptr 0 0 0)],[(0,⟨false,2,(Amount.enc Amount.zero),[Amount.enc Amount.zero]⟩)],1⟩
noncomputable def zD2 (a1:Proc) (v1:(List Wait)) (g1:Int):Option ((Int)⊕((Unit)⊕(Amount×Bool))) :=
 (if (decide (g1 < (v1.length:Int)))=true then
  gd (0≤g1∧g1 < (v1.length:Int)) <|
  (if (decide ((v1.getD g1.toNat Wait.zero).proc=a1))=true then
   some (.inr (.inr ((v1.getD g1.toNat Wait.zero).amount,true)))
  else
   some (.inl (IntKind.i64.wrap (g1+1))))
 else
  some (.inr (.inl ())))
@[go_sem] def zeb5 (a1:Proc) (v1:(List Wait)) (g1:Int):St:=⟨[(3,.ptr 0 0 0),(4,.ptr 1 0 0),(9,.sl (v1.map Wait.enc)),(10,.int .i64 (v1.length:Int)),(11,.int .i64 g1)],[(0,⟨false,3,(Proc.enc Proc.zero),[Proc.enc a1]⟩),(1,⟨false,2,(Amount.enc Amount.zero),[Amount.enc Amount.zero]⟩)],2⟩
noncomputable def zk3 (a0:Queue) (a1:Proc):Option (Amount×Bool) :=
 (zo7 a0).bind fun v1 =>
 (zb8 (zD2 a1 v1) 0).bind (fun | .inl z=>zT1 z | .inr z=>some z)
theorem zaq4 (a0:Queue) (a1:Proc) (r:Amount×Bool) (h:zk3 a0 a1=some r):PFn C 70 [.agg (Queue.enc a0),.agg (Proc.enc a1)] (.tup [.agg (Amount.enc r.1),.bool r.2]):=by
 refine za8 zeq0 rfl fun E hG hN hK=>?_
 unfold zcF6
 unfold zk3 at h
 refine za0 (za1 hG ?_)
 refine za0 (za0 (za1 hG ?_))
 obtain ⟨v1,hv1,h⟩:=za3 h
 refine za6 (fun hg=>zat0 a0 _ (hv1)) ?_
 refine zb5 (zeb4) (fun v=>zT1 v=some r) ?_ ?_
 · intro j1 h
   unfold zT1 at h
   refine g_st ?_
   refine za0 (za1 hG ?_)
   refine za7 ?_
   exact zb1 h
 refine zd9 (zeb5 a1 v1) hK [(0,1),(1,2)] h (fun x_l1 h g1 y_l1 h_l1 hx_l1=>?_)
 unfold zD2 at h_l1
 refine g_st ?_
 refine za0 (za1 hG ?_)
 refine za0 ?_
 refine za4 rfl hG h_l1 (fun _ h_l1=>?_) (fun _ h_l1=>?_)
 · refine za5 ?_
   refine za0 (zb6 (za0 ?_))
   obtain ⟨hb1,h_l1⟩:=za2 h_l1
   refine za1 hG ?_
   refine za0 (za1 hG ?_)
   refine za4 rfl hG h_l1 (fun _ h_l1=>?_) (fun _ h_l1=>?_)
   · refine za0 (za1 hG ?_)
     refine za7 ?_
     obtain rfl:=Option.some.inj h_l1
     have hx:=hx_l1 _ rfl
     subst hx
     try dsimp only at h
     exact zb1 h
   refine za5 ?_
   refine za1 hG ?_
   exact zc8 hK [(0,0),(1,1)] h_l1
 refine zc3 ?_
 obtain rfl:=Option.some.inj h_l1
 have hx:=hx_l1 _ rfl
 subst hx
 try dsimp only at h
 exact zc4 hK [(0,1)] () (by exact h)
attribute [local irreducible] zk3
noncomputable def zm3 (a0:Queue):Option (Queue) :=
 gd (a0.holds.length≤4294967296) <|
 gd (a0.converts.length≤4294967296) <|
 gd (a0.waits.length≤4294967296) <|
 some a0
theorem zaF5 (a0:Queue) (r:Queue) (h:zm3 a0=some r):MFn C 88 [.agg (Queue.enc a0)] [] 0 (.agg [.str r.resource.name,.int .i64 r.resource.kind,.int .i64 r.resource.units,.int .i64 r.resource.home,.own 0 0 r.holds.length,.own 1 0 r.converts.length,.own 2 0 r.waits.length,.int .i64 r.gen]) [(0,⟨false,5,(Hold.enc Hold.zero),r.holds.map Hold.enc⟩),(1,⟨false,7,(Wait.enc Wait.zero),r.converts.map Wait.enc⟩),(2,⟨false,7,(Wait.enc Wait.zero),r.waits.map Wait.enc⟩)] 3:=by
 refine zl5 (rl:=[.agg [.str r.resource.name,.int .i64 r.resource.kind,.int .i64 r.resource.units,.int .i64 r.resource.home,.own 0 0 r.holds.length,.own 1 0 r.converts.length,.own 2 0 r.waits.length,.int .i64 r.gen]]) zeq1 rfl rfl rfl rfl fun E hG hN hK=>?_
 unfold zcG2
 unfold zm3 at h
 refine za0 (za1 hG ?_)
 refine za0 ?_
 obtain ⟨hb3,h⟩:=za2 h
 refine za1 hG ?_
 refine za0 ?_
 obtain ⟨hb2,h⟩:=za2 h
 refine za1 hG ?_
 refine za0 ?_
 obtain ⟨hb1,h⟩:=za2 h
 refine za1 hG ?_
 refine za0 (za1 hG ?_)
 refine za7 ?_
 exact zz5 [(0,2),(1,3),(2,4)] h
attribute [local irreducible] zm3
noncomputable def zai9  (j1:Unit):Option (Int) :=
 some 0
@[go_sem] def zeb6  (j1:Unit):St:=⟨[],[],0⟩
noncomputable def zJ0 (a0:Int) (a1:Int) (g1:Int):Option ((Int)⊕((Unit)⊕(Int))) :=
 (if (decide (g1≤5))=true then
  (zk4 g1 a0).bind fun v1 =>
  ((if v1=true then zk4 g1 a1 else some (false))).bind fun v2 =>
  (if (v1&&v2)=true then
   some (.inr (.inr g1))
  else
   some (.inl (IntKind.i64.wrap (g1+1))))
 else
  some (.inr (.inl ())))
@[go_sem] def zeb7 (a0:Int) (a1:Int) (g1:Int):St:=⟨[(0,.int .i64 a0),(1,.int .i64 a1),(5,.int .i64 g1)],[],0⟩
noncomputable def zH2 (a0:Int) (a1:Int):Option (Int) :=
 (zb8 (zJ0 a0 a1) 1).bind (fun | .inl z=>zai9 z | .inr z=>some z)
theorem zbt5 (a0:Int) (a1:Int) (r:Int) (h:zH2 a0 a1=some r):PFn C 137 [.int .i64 a0,.int .i64 a1] (.int .i64 r):=by
 refine za8 zeq2 rfl fun E hG hN hK=>?_
 unfold zcH0
 unfold zH2 at h
 refine za0 (za1 hG ?_)
 refine za0 (za0 (za1 hG ?_))
 refine zb5 (zeb6) (fun v=>zai9 v=some r) ?_ ?_
 · intro j1 h
   unfold zai9 at h
   refine g_st ?_
   refine za0 (za1 hG ?_)
   refine za7 ?_
   exact zb1 h
 refine zd9 (zeb7 a0 a1) hK [] h (fun x_l1 h g1 y_l1 h_l1 hx_l1=>?_)
 unfold zJ0 at h_l1
 refine g_st ?_
 refine za0 (za0 (za1 hG ?_))
 refine za4 rfl hG h_l1 (fun _ h_l1=>?_) (fun _ h_l1=>?_)
 · refine za5 ?_
   refine za0 (zb6 (za0 (za1 hG ?_)))
   obtain ⟨v1,hv1,h_l1⟩:=za3 h_l1
   refine za6 (fun hg=>zad0 g1 a0 _ (hv1)) ?_
   obtain ⟨v2,hv2,h_l1⟩:=za3 h_l1
   refine za6 (fun hg=>zad0 g1 a1 _ (zD1 hg hv2)) ?_
   refine za4 rfl hG h_l1 (fun _ h_l1=>?_) (fun _ h_l1=>?_)
   · refine za0 (za1 hG ?_)
     refine za7 ?_
     obtain rfl:=Option.some.inj h_l1
     have hx:=hx_l1 _ rfl
     subst hx
     try dsimp only at h
     exact zb1 h
   refine za5 ?_
   refine za1 hG ?_
   exact zc8 hK [] h_l1
 refine zc3 ?_
 obtain rfl:=Option.some.inj h_l1
 have hx:=hx_l1 _ rfl
 subst hx
 try dsimp only at h
 exact zc4 hK [] () (by exact h)
attribute [local irreducible] zH2
noncomputable def zr6 (a0:Resource) (a1:Amount) (a2:Amount):Option (Amount) :=
 (if ((!(zb0 a0 a1))||(!(zb0 a0 a2)))=true then
  some ({ Amount.zero with  })
 else
  (if (zb7 a1)=true then
   some a2
  else
   (if (zb7 a2)=true then
    some a1
   else
    (if (decide (a0.kind=1))=true then
     (zH2 a1.mode a2.mode).bind fun v1 =>
     some ({ Amount.zero with mode:=v1 })
    else
     some ({ Amount.zero with units:=(if a1.units < a2.units then a2.units else a1.units) })))))
theorem zaX6 (a0:Resource) (a1:Amount) (a2:Amount) (r:Amount) (h:zr6 a0 a1 a2=some r):PFn C 93 [.agg (Resource.enc a0),.agg (Amount.enc a1),.agg (Amount.enc a2)] (.agg (Amount.enc r)):=by
 refine za8 zeq3 rfl fun E hG hN hK=>?_
 unfold zcI1
 unfold zr6 at h
 refine za0 (za1 hG ?_)
 refine za0 (zb6 (za0 (za1 hG ?_)))
 refine za6 (fun hg=>zy7 a0 a1) ?_
 refine za6 (fun hg=>zy7 a0 a2) ?_
 refine za4 rfl hG h (fun _ h=>?_) (fun _ h=>?_)
 · refine za0 (za1 hG ?_)
   refine za7 ?_
   exact zb1 h
 refine za0 (za1 hG ?_)
 refine za6 (fun hg=>zo5 a1) ?_
 refine za4 rfl hG h (fun _ h=>?_) (fun _ h=>?_)
 · refine za0 (za1 hG ?_)
   refine za7 ?_
   exact zb1 h
 refine za0 (za1 hG ?_)
 refine za6 (fun hg=>zo5 a2) ?_
 refine za4 rfl hG h (fun _ h=>?_) (fun _ h=>?_)
 · refine za0 (za1 hG ?_)
   refine za7 ?_
   exact zb1 h
 refine za0 (za1 hG ?_)
 refine za4 rfl hG h (fun _ h=>?_) (fun _ h=>?_)
 · refine za0 (za1 hG ?_)
   obtain ⟨v1,hv1,h⟩:=za3 h
   refine za6 (fun hg=>zbt5 a1.mode a2.mode _ (hv1)) ?_
   refine za7 ?_
   exact zb1 h
 refine za5 ?_
 refine za0 (za1 hG ?_)
 refine za7 ?_
 exact zb1 h
attribute [local irreducible] zr6
noncomputable def zl0 (a0:Queue) (a1:Amount) (a2:Amount) (a3:Proc):Option (ByteArray×Int×Int×Int×Int×Amount×Amount×Proc×(List Hold)×(List Wait)×(List Wait)) :=
 (zr6 a0.resource a1 a2).bind fun v1 =>
 gd (a0.converts.length+1≤4294967296) <|
 some (a0.resource.name,a0.resource.kind,a0.resource.units,a0.resource.home,a0.gen,a1,a2,a3,a0.holds,a0.waits,(a0.converts++[{ Wait.zero with proc:=a3,amount:=v1 }]))
theorem zay7 (a0:Queue) (a1:Amount) (a2:Amount) (a3:Proc) (r:ByteArray×Int×Int×Int×Int×Amount×Amount×Proc×(List Hold)×(List Wait)×(List Wait)) (h:zl0 a0 a1 a2 a3=some r):MFn C 92 [.ptr 0 0 0,.ptr 1 0 0,.ptr 2 0 0,.ptr 3 0 0] [(0,⟨false,8,(Queue.enc Queue.zero),[[.str a0.resource.name,.int .i64 a0.resource.kind,.int .i64 a0.resource.units,.int .i64 a0.resource.home,.own 4 0 a0.holds.length,.own 5 0 a0.converts.length,.own 6 0 a0.waits.length,.int .i64 a0.gen]]⟩),(1,⟨false,2,(Amount.enc Amount.zero),[Amount.enc a1]⟩),(2,⟨false,2,(Amount.enc Amount.zero),[Amount.enc a2]⟩),(3,⟨false,3,(Proc.enc Proc.zero),[Proc.enc a3]⟩),(4,⟨false,5,(Hold.enc Hold.zero),a0.holds.map Hold.enc⟩),(5,⟨false,7,(Wait.enc Wait.zero),a0.converts.map Wait.enc⟩),(6,⟨false,7,(Wait.enc Wait.zero),a0.waits.map Wait.enc⟩)] 7 (.tup []) [(0,⟨false,8,(Queue.enc Queue.zero),[[.str r.1,.int .i64 r.2.1,.int .i64 r.2.2.1,.int .i64 r.2.2.2.1,.own 4 0 r.2.2.2.2.2.2.2.2.1.length,.own 7 0 r.2.2.2.2.2.2.2.2.2.2.length,.own 6 0 r.2.2.2.2.2.2.2.2.2.1.length,.int .i64 r.2.2.2.2.1]]⟩),(1,⟨false,2,(Amount.enc Amount.zero),[Amount.enc r.2.2.2.2.2.1]⟩),(2,⟨false,2,(Amount.enc Amount.zero),[Amount.enc r.2.2.2.2.2.2.1]⟩),(3,⟨false,3,(Proc.enc Proc.zero),[Proc.enc r.2.2.2.2.2.2.2.1]⟩),(4,⟨false,5,(Hold.enc Hold.zero),r.2.2.2.2.2.2.2.2.1.map Hold.enc⟩),(6,⟨false,7,(Wait.enc Wait.zero),r.2.2.2.2.2.2.2.2.2.1.map Wait.enc⟩),(7,⟨false,7,(Wait.enc Wait.zero),r.2.2.2.2.2.2.2.2.2.2.map Wait.enc⟩)] 8:=by
 refine zl5 (rl:=[]) zeq4 rfl rfl rfl rfl fun E hG hN hK=>?_
 unfold zcI4
 unfold zl0 at h
 refine za0 (za1 hG ?_)
 obtain ⟨v1,hv1,h⟩:=za3 h
 refine za6 (fun hg=>zaX6 a0.resource a1 a2 _ (hv1)) ?_
 obtain ⟨hb1,h⟩:=za2 h
 refine za1 hG ?_
 exact zz5 [(0,0),(1,1),(2,2),(3,3),(4,4),(5,5),(6,6),(7,8)] h
attribute [local irreducible] zl0
noncomputable def zL7  (j1:Queue×(List Hold)):Option ((List Hold)×Queue) :=
 some (j1.2,j1.1)
@[go_sem] def zeb8  (j1:Queue×(List Hold)):St:=⟨[(3,.own 1 0 j1.2.length)],[(0,⟨false,8,(Queue.enc Queue.zero),[Queue.enc j1.1]⟩),(1,⟨false,5,(Hold.enc Hold.zero),j1.2.map Hold.enc⟩)],2⟩
noncomputable def zq7 (g1:Queue×(List Hold)) (v1:Wait×Bool) (j2:Queue):Option ((Queue×(List Hold))⊕((Queue×(List Hold)))) :=
 (zj0 j2.holds v1.1.proc v1.1.amount).bind fun v2 =>
 gd (g1.2.length+1≤4294967296) <|
 some (.inl ({ j2 with holds:=v2 },(g1.2++[(⟨v1.1.proc,v1.1.amount⟩:Hold)])))
@[go_sem] def zeb9 (g1:Queue×(List Hold)) (v1:Wait×Bool) (j2:Queue):St:=⟨[(0,.ptr 0 0 0),(3,.own 1 0 g1.2.length),(4,.ptr 2 0 0)],[(0,⟨false,8,(Queue.enc Queue.zero),[Queue.enc j2]⟩),(1,⟨false,5,(Hold.enc Hold.zero),g1.2.map Hold.enc⟩),(2,⟨false,7,(Wait.enc Wait.zero),[Wait.enc v1.1]⟩)],3⟩
noncomputable def zw4  (g1:Queue×(List Hold)):Option ((Queue×(List Hold))⊕((Queue×(List Hold)))) :=
 (zp5 g1.1).bind fun v1 =>
 ((if v1.2=true then zk0 g1.1.resource g1.1.holds v1.1.proc v1.1.amount else some (false))).bind fun v3 =>
 (if ((!v1.2)||(!v3))=true then
  some (.inr (g1.1,g1.2))
 else
  (if (decide (0 < (g1.1.converts.length:Int)))=true then
   gd (0≤1∧1≤(g1.1.converts.length:Int)∧(g1.1.converts.length:Int)≤(g1.1.converts.length:Int)) <|
   zq7 g1 v1 ({ g1.1 with converts:=(g1.1.converts.drop 1) })
  else
   gd (0≤1∧1≤(g1.1.waits.length:Int)∧(g1.1.waits.length:Int)≤(g1.1.waits.length:Int)) <|
   zq7 g1 v1 ({ g1.1 with waits:=(g1.1.waits.drop 1) })))
@[go_sem] def zec0  (g1:Queue×(List Hold)):St:=⟨[(0,.ptr 0 0 0),(3,.own 1 0 g1.2.length)],[(0,⟨false,8,(Queue.enc Queue.zero),[Queue.enc g1.1]⟩),(1,⟨false,5,(Hold.enc Hold.zero),g1.2.map Hold.enc⟩)],2⟩
noncomputable def ze4 (a0:Queue):Option ((List Hold)×Queue) :=
 (zb8 (zw4) (a0,[])).bind (fun z=>zL7 z)
theorem zP4 (a0:Queue) (r:(List Hold)×Queue) (h:ze4 a0=some r):MFn C 135 [.ptr 0 0 0] [(0,⟨false,8,(Queue.enc Queue.zero),[Queue.enc a0]⟩)] 1 (.sl (r.1.map Hold.enc)) [(0,⟨false,8,(Queue.enc Queue.zero),[Queue.enc r.2]⟩)] 1:=by
 refine zl5 (rl:=[.sl (r.1.map Hold.enc)]) zeq5 rfl rfl rfl rfl fun E hG hN hK=>?_
 unfold zcJ5
 unfold ze4 at h
 refine za0 (za1 hG ?_)
 refine zbr4 ?_
 refine za0 (za1 hG ?_)
 refine za0 ?_
 refine zbE9 ?_
 refine za0 ?_
 refine zb5 (zeb8) (fun v=>zL7 v=some r) ?_ ?_
 · intro j1 h
   unfold zL7 at h
   refine g_st ?_
   refine za0 (za1 hG ?_)
   refine g_gh (.fz [1]) ?_
   refine za7 ?_
   exact zz5 [(0,0)] h
 refine zd9 (zec0) hK [(0,0),(1,1)] h (fun x_l1 h g1 y_l1 h_l1 hx_l1=>?_)
 unfold zw4 at h_l1
 refine g_st ?_
 refine zb6 (za0 (za1 hG ?_))
 obtain ⟨v1,hv1,h_l1⟩:=za3 h_l1
 refine za6 (fun hg=>zaA1 g1.1 _ (hv1)) ?_
 refine za0 ?_
 refine zb5 (zeb9 g1 v1) (fun v=>zq7 g1 v1 v=some y_l1) ?_ ?_
 · intro j2 h_l1
   unfold zq7 at h_l1
   refine g_st ?_
   refine za0 (zF1 zd8 hG ?_)
   obtain ⟨v2,hv2,h_l1⟩:=za3 h_l1
   refine zC5 (fun hg=>zad1 j2.holds v1.1.proc v1.1.amount _ (hv2)) ?_
   obtain ⟨hb1,h_l1⟩:=za2 h_l1
   refine za1 hG ?_
   exact zc8 hK [(0,0),(1,3)] h_l1
 refine za0 (zm9 zd8 hG ?_)
 obtain ⟨v3,hv3,h_l1⟩:=za3 h_l1
 refine zf8 (fun hg=>zaq3 g1.1.resource g1.1.holds v1.1.proc v1.1.amount _ (zD1 hg hv3)) ?_
 refine za4 rfl hG h_l1 (fun _ h_l1=>?_) (fun _ h_l1=>?_)
 · refine zc3 ?_
   obtain rfl:=Option.some.inj h_l1
   have hx:=hx_l1 _ rfl
   subst hx
   try dsimp only at h
   exact zc4 hK [(0,0),(1,1)] (g1.1,g1.2) (by exact h)
 refine za0 (za1 hG ?_)
 refine za4 rfl hG h_l1 (fun _ h_l1=>?_) (fun _ h_l1=>?_)
 · obtain ⟨hb2,h_l1⟩:=za2 h_l1
   refine za1 hG ?_
   exact zc4 hK [(0,0),(1,1),(2,2)] ({ g1.1 with converts:=(g1.1.converts.drop 1) }) (by exact h_l1)
 obtain ⟨hb3,h_l1⟩:=za2 h_l1
 refine za1 hG ?_
 exact zc4 hK [(0,0),(1,1),(2,2)] ({ g1.1 with waits:=(g1.1.waits.drop 1) }) (by exact h_l1)
attribute [local irreducible] ze4
def zg0 (a0:Int):Int :=
 (if ((decide (a0 < 0))||(decide (1073741824≤a0)))=true then
  1
 else
  (IntKind.i64.wrap (a0+1)))
theorem zaj0 (a0:Int):PFn C 136 [.int .i64 a0] (.int .i64 (zg0 a0)):=by
 generalize h:zg0 a0=r
 refine za8 zeq6 rfl fun E hG hN hK=>?_
 unfold zcK0
 unfold zg0 at h
 refine za0 (za1 hG ?_)
 refine za0 (za0 (za1 hG ?_))
 refine za4 rfl hG h (fun _ h=>?_) (fun _ h=>?_)
 · refine za0 (za1 hG ?_)
   refine za7 ?_
   exact ze9 h
 refine za5 ?_
 refine za0 (za1 hG ?_)
 refine za7 ?_
 exact ze9 h
noncomputable def zE7  (j1:ByteArray×Int×Int×Int×Int×(List Hold)×(List Wait)×Amount×Amount×Proc×(List Wait)):Option (Queue×(List Hold)×Int×Queue×(List Hold)×(List Wait)×Amount×Amount×Proc) :=
 (ze4 (⟨(⟨j1.1,j1.2.1,j1.2.2.1,j1.2.2.2.1⟩:Resource),j1.2.2.2.2.2.1,j1.2.2.2.2.2.2.2.2.2.2,j1.2.2.2.2.2.2.1,j1.2.2.2.2.1⟩:Queue)).bind fun v1 =>
 some ({ v1.2 with gen:=(zg0 v1.2.gen) },v1.1,0,{ v1.2 with gen:=(zg0 v1.2.gen) },j1.2.2.2.2.2.1,j1.2.2.2.2.2.2.1,j1.2.2.2.2.2.2.2.1,j1.2.2.2.2.2.2.2.2.1,j1.2.2.2.2.2.2.2.2.2.1)
@[go_sem] def zec1  (j1:ByteArray×Int×Int×Int×Int×(List Hold)×(List Wait)×Amount×Amount×Proc×(List Wait)):St:=⟨[(0,.ptr 0 0 0),(4,.ptr 8 0 0)],[(0,⟨false,8,(Queue.enc Queue.zero),[[.str j1.1,.int .i64 j1.2.1,.int .i64 j1.2.2.1,.int .i64 j1.2.2.2.1,.own 2 0 j1.2.2.2.2.2.1.length,.own 9 0 j1.2.2.2.2.2.2.2.2.2.2.length,.own 4 0 j1.2.2.2.2.2.2.1.length,.int .i64 j1.2.2.2.2.1]]⟩),(1,⟨false,1,[A.any],[[.clo 92 [.ptr 0 0 0,.ptr 5 0 0,.ptr 6 0 0,.ptr 7 0 0]]]⟩),(2,⟨false,5,(Hold.enc Hold.zero),j1.2.2.2.2.2.1.map Hold.enc⟩),(4,⟨false,7,(Wait.enc Wait.zero),j1.2.2.2.2.2.2.1.map Wait.enc⟩),(5,⟨false,2,(Amount.enc Amount.zero),[Amount.enc j1.2.2.2.2.2.2.2.1]⟩),(6,⟨false,2,(Amount.enc Amount.zero),[Amount.enc j1.2.2.2.2.2.2.2.2.1]⟩),(7,⟨false,3,(Proc.enc Proc.zero),[Proc.enc j1.2.2.2.2.2.2.2.2.2.1]⟩),(8,⟨false,8,(Queue.enc Queue.zero),[Queue.enc Queue.zero]⟩),(9,⟨false,7,(Wait.enc Wait.zero),j1.2.2.2.2.2.2.2.2.2.2.map Wait.enc⟩)],10⟩
noncomputable def zn4 (a0:Queue) (a1:Amount) (a2:Amount) (a3:Proc):Option (Queue×(List Hold)×Int×Queue×(List Hold)×(List Wait)×Amount×Amount×Proc) :=
 gd (0≤0∧0 < (1:Int)) <|
 (zl0 a0 a1 a2 a3).bind fun v2 =>
 zE7 (v2.1,v2.2.1,v2.2.2.1,v2.2.2.2.1,v2.2.2.2.2.1,v2.2.2.2.2.2.2.2.2.1,v2.2.2.2.2.2.2.2.2.2.1,v2.2.2.2.2.2.1,v2.2.2.2.2.2.2.1,v2.2.2.2.2.2.2.2.1,v2.2.2.2.2.2.2.2.2.2.2)
theorem zaC5 (a0:Queue) (a1:Amount) (a2:Amount) (a3:Proc) (r:Queue×(List Hold)×Int×Queue×(List Hold)×(List Wait)×Amount×Amount×Proc) (h:zn4 a0 a1 a2 a3=some r):MFn C 91 [.ptr 0 0 0,.own 1 0 1] [(0,⟨false,8,(Queue.enc Queue.zero),[[.str a0.resource.name,.int .i64 a0.resource.kind,.int .i64 a0.resource.units,.int .i64 a0.resource.home,.own 2 0 a0.holds.length,.own 3 0 a0.converts.length,.own 4 0 a0.waits.length,.int .i64 a0.gen]]⟩),(1,⟨false,1,[A.any],[[.clo 92 [.ptr 0 0 0,.ptr 5 0 0,.ptr 6 0 0,.ptr 7 0 0]]]⟩),(2,⟨false,5,(Hold.enc Hold.zero),a0.holds.map Hold.enc⟩),(3,⟨false,7,(Wait.enc Wait.zero),a0.converts.map Wait.enc⟩),(4,⟨false,7,(Wait.enc Wait.zero),a0.waits.map Wait.enc⟩),(5,⟨false,2,(Amount.enc Amount.zero),[Amount.enc a1]⟩),(6,⟨false,2,(Amount.enc Amount.zero),[Amount.enc a2]⟩),(7,⟨false,3,(Proc.enc Proc.zero),[Proc.enc a3]⟩)] 8 (.tup [.agg (Queue.enc r.1),.sl (r.2.1.map Hold.enc),.int .i64 r.2.2.1]) [(0,⟨false,8,(Queue.enc Queue.zero),[Queue.enc r.2.2.2.1]⟩),(1,⟨false,1,[A.any],[[.clo 92 [.ptr 0 0 0,.ptr 5 0 0,.ptr 6 0 0,.ptr 7 0 0]]]⟩),(2,⟨true,5,(Hold.enc Hold.zero),r.2.2.2.2.1.map Hold.enc⟩),(4,⟨true,7,(Wait.enc Wait.zero),r.2.2.2.2.2.1.map Wait.enc⟩),(5,⟨false,2,(Amount.enc Amount.zero),[Amount.enc r.2.2.2.2.2.2.1]⟩),(6,⟨false,2,(Amount.enc Amount.zero),[Amount.enc r.2.2.2.2.2.2.2.1]⟩),(7,⟨false,3,(Proc.enc Proc.zero),[Proc.enc r.2.2.2.2.2.2.2.2]⟩)] 8:=by
 refine zl5 (rl:=[.agg (Queue.enc r.1),.sl (r.2.1.map Hold.enc),.int .i64 r.2.2.1]) zeq7 rfl rfl rfl rfl fun E hG hN hK=>?_
 unfold zcL0
 unfold zn4 at h
 refine za0 (za1 hG ?_)
 refine za0 (za0 (za1 hG ?_))
 refine zb5 (zec1) (fun v=>zE7 v=some r) ?_ ?_
 · intro j1 h
   unfold zE7 at h
   refine g_st ?_
   refine za0 ?_
   refine g_gh (.fz [2,4,9]) ?_
   refine za1 hG ?_
   obtain ⟨v1,hv1,h⟩:=za3 h
   refine zo0 [(0,0)] [] [0] (zP4 (⟨(⟨j1.1,j1.2.1,j1.2.2.1,j1.2.2.2.1⟩:Resource),j1.2.2.2.2.2.1,j1.2.2.2.2.2.2.2.2.2.2,j1.2.2.2.2.2.2.1,j1.2.2.2.2.1⟩:Queue) _ hv1) rfl rfl ?_
   refine za0 (za1 hG ?_)
   refine za6 (fun hg=>zaj0 v1.2.gen) ?_
   refine za0 (za1 hG ?_)
   refine za7 ?_
   exact zz5 [(0,0),(1,1),(2,2),(3,3),(4,4),(5,5),(6,6),(7,7)] h
 refine zaJ0 3 ?_
 refine zah4 ?_
 refine za0 (za1 hG ?_)
 refine za0 ?_
 refine zaF2 rfl hG ?_
 refine za5 ?_
 refine za0 (zb6 (za0 ?_))
 obtain ⟨hb1,h⟩:=za2 h
 refine za1 hG ?_
 refine za1 hG ?_
 obtain ⟨v2,hv2,h⟩:=za3 h
 refine zo0 [(0,0),(1,5),(2,6),(3,7),(4,2),(5,3),(6,4)] [(7,9)] [0,1,2,3,4,5,6,7] (zay7 a0 a1 a2 a3 _ hv2) rfl rfl ?_
 refine za1 hG ?_
 refine zah4 ?_
 refine za0 (za1 hG ?_)
 refine za0 ?_
 refine zbm5 rfl hG ?_
 refine zc3 ?_
 exact zc4 hK [(0,0),(1,1),(2,2),(3,3),(4,4),(5,5),(6,6),(7,7),(8,8),(9,9)] (v2.1,v2.2.1,v2.2.2.1,v2.2.2.2.1,v2.2.2.2.2.1,v2.2.2.2.2.2.2.2.2.1,v2.2.2.2.2.2.2.2.2.2.1,v2.2.2.2.2.2.1,v2.2.2.2.2.2.2.1,v2.2.2.2.2.2.2.2.1,v2.2.2.2.2.2.2.2.2.2.2) (by exact h)
attribute [local irreducible] zn4
def zS0 (a0:Wait) (a1:Wait):Int :=
 (if ((decide (a1.priority < a0.priority))&&(decide (a1.passed < 3)))=true then
  1
 else
  0)
theorem zbn1 (a0:Wait) (a1:Wait):PFn C 140 [.agg (Wait.enc a0),.agg (Wait.enc a1)] (.int .i64 (zS0 a0 a1)):=by
 generalize h:zS0 a0 a1=r
 refine za8 zeq8 rfl fun E hG hN hK=>?_
 unfold zcL5
 unfold zS0 at h
 refine za0 (za1 hG ?_)
 refine za0 (za0 (za1 hG ?_))
 refine za4 rfl hG h (fun _ h=>?_) (fun _ h=>?_)
 · refine za0 (za1 hG ?_)
   refine za7 ?_
   exact ze9 h
 refine za5 ?_
 refine za0 (za1 hG ?_)
 refine za7 ?_
 exact ze9 h
noncomputable def zN5 (a1:Wait) (j1:Int×(List Wait)):Option ((List Wait)×Int×Int) :=
 gd (0≤j1.1∧j1.1 < ((j1.2.length:Nat):Int)) <|
 some ((j1.2.set j1.1.toNat a1),j1.1,0)
@[go_sem] def zec2 (a1:Wait) (j1:Int×(List Wait)):St:=⟨[(3,.ptr 0 0 0),(7,.own 1 0 j1.2.length),(8,.int .i64 j1.1)],[(0,⟨false,7,(Wait.enc Wait.zero),[Wait.enc a1]⟩),(1,⟨false,7,(Wait.enc Wait.zero),j1.2.map Wait.enc⟩)],2⟩
noncomputable def zN6 (a1:Wait) (g1:Int×(List Wait)):Option ((Int×(List Wait))⊕((Int×(List Wait)))) :=
 gd ((decide (0 < g1.1))=true→0≤(IntKind.i64.wrap (g1.1 - 1))∧(IntKind.i64.wrap (g1.1 - 1)) < ((g1.2.length:Nat):Int)) <|
 (if ((decide (0 < g1.1))&&(decide ((zS0 a1 (g1.2.getD ((IntKind.i64.wrap (g1.1 - 1)).toNat) Wait.zero))=1)))=true then
  gd (0≤(IntKind.i64.wrap (g1.1 - 1))∧(IntKind.i64.wrap (g1.1 - 1)) < ((g1.2.length:Nat):Int)) <|
  gd (0≤g1.1∧g1.1 < ((g1.2.length:Nat):Int)) <|
  gd (0≤g1.1∧g1.1 < ((g1.2.length:Nat):Int)) <|
  gd (0≤g1.1∧g1.1 < ((g1.2.length:Nat):Int)) <|
  some (.inl ((IntKind.i64.wrap (g1.1 - 1)),((g1.2.set g1.1.toNat (g1.2.getD ((IntKind.i64.wrap (g1.1 - 1)).toNat) Wait.zero)).set g1.1.toNat ({ ((g1.2.set g1.1.toNat (g1.2.getD ((IntKind.i64.wrap (g1.1 - 1)).toNat) Wait.zero)).getD g1.1.toNat Wait.zero) with passed:=(IntKind.i64.wrap (((g1.2.set g1.1.toNat (g1.2.getD ((IntKind.i64.wrap (g1.1 - 1)).toNat) Wait.zero)).getD g1.1.toNat Wait.zero).passed+1)) }))))
 else
  some (.inr (g1.1,g1.2)))
@[go_sem] def zec3 (a1:Wait) (g1:Int×(List Wait)):St:=⟨[(3,.ptr 0 0 0),(7,.own 1 0 g1.2.length),(8,.int .i64 g1.1)],[(0,⟨false,7,(Wait.enc Wait.zero),[Wait.enc a1]⟩),(1,⟨false,7,(Wait.enc Wait.zero),g1.2.map Wait.enc⟩)],2⟩
noncomputable def zr7 (a0:List Wait) (a1:Wait):Option ((List Wait)×Int×Int) :=
 (zn3 a0).bind fun v1 =>
 (if (!v1)=true then
  some ([],0,2)
 else
  (if ((!(zc1 a1))||(!decide (a1.passed=0)))=true then
   some ([],0,1)
  else
   (zl6 a0 a1.proc).bind fun v2 =>
   (if (decide (0≤v2))=true then
    some ([],0,11)
   else
    (if (decide ((a0.length:Int)=8))=true then
     some ([],0,4)
    else
     gd (0≤(IntKind.i64.wrap ((a0.length:Int)+1))∧(IntKind.i64.wrap ((a0.length:Int)+1))≤(IntKind.i64.wrap ((a0.length:Int)+1))∧(IntKind.i64.wrap ((a0.length:Int)+1))≤4294967296) <|
     (zb8 (zN6 a1) ((a0.length:Int),((List.replicate ((IntKind.i64.wrap ((a0.length:Int)+1)).toNat) Wait.zero).take 0++a0.take ((IntKind.i64.wrap ((a0.length:Int)+1)).toNat)++(List.replicate ((IntKind.i64.wrap ((a0.length:Int)+1)).toNat) Wait.zero).drop (0+min a0.length ((IntKind.i64.wrap ((a0.length:Int)+1)).toNat))))).bind (fun z=>zN5 a1 z)))))
theorem zaX7 (a0:List Wait) (a1:Wait) (r:(List Wait)×Int×Int) (h:zr7 a0 a1=some r):PFn C 94 [.sl (a0.map Wait.enc),.agg (Wait.enc a1)] (.tup [.sl (r.1.map Wait.enc),.int .i64 r.2.1,.int .i64 r.2.2]):=by
 refine za8 zeq9 rfl fun E hG hN hK=>?_
 unfold zcM6
 unfold zr7 at h
 refine za0 (za1 hG ?_)
 refine za0 (zb6 (za0 (za1 hG ?_)))
 obtain ⟨v1,hv1,h⟩:=za3 h
 refine za6 (fun hg=>zaA0 a0 _ (hv1)) ?_
 refine za4 rfl hG h (fun _ h=>?_) (fun _ h=>?_)
 · refine za0 (za1 hG ?_)
   refine za7 ?_
   exact zb1 h
 refine za0 (za1 hG ?_)
 refine za6 (fun hg=>zah6 a1) ?_
 refine za4 rfl hG h (fun _ h=>?_) (fun _ h=>?_)
 · refine za0 (za1 hG ?_)
   refine za7 ?_
   exact zb1 h
 refine za0 (za1 hG ?_)
 obtain ⟨v2,hv2,h⟩:=za3 h
 refine za6 (fun hg=>zao0 a0 a1.proc _ (hv2)) ?_
 refine za4 rfl hG h (fun _ h=>?_) (fun _ h=>?_)
 · refine za0 (za1 hG ?_)
   refine za7 ?_
   exact zb1 h
 refine za0 (za1 hG ?_)
 refine za4 rfl hG h (fun _ h=>?_) (fun _ h=>?_)
 · refine za0 (za1 hG ?_)
   refine za7 ?_
   exact zb1 h
 refine za5 ?_
 refine za0 ?_
 obtain ⟨hb7,h⟩:=za2 h
 refine za1 hG ?_
 refine za0 (za1 hG ?_)
 refine za0 (za1 hG ?_)
 refine za0 ?_
 refine zb5 (zec2 a1) (fun v=>zN5 a1 v=some r) ?_ ?_
 · intro j1 h
   unfold zN5 at h
   refine g_st ?_
   refine za0 ?_
   obtain ⟨hb1,h⟩:=za2 h
   refine za1 hG ?_
   refine za0 (za1 hG ?_)
   refine za7 ?_
   exact zb1 h
 refine zd9 (zec3 a1) hK [(0,0),(1,1)] h (fun x_l1 h g1 y_l1 h_l1 hx_l1=>?_)
 unfold zN6 at h_l1
 refine g_st ?_
 refine za0 (za0 ?_)
 obtain ⟨hb6,h_l1⟩:=za2 h_l1
 refine zm9 zd8 hG ?_
 refine zf8 (fun hg=>zbn1 a1 (g1.2.getD ((IntKind.i64.wrap (g1.1 - 1)).toNat) Wait.zero)) ?_
 refine za4 rfl hG h_l1 (fun _ h_l1=>?_) (fun _ h_l1=>?_)
 · refine za5 ?_
   refine zb6 (za0 ?_)
   obtain ⟨hb4,h_l1⟩:=za2 h_l1
   obtain ⟨hb5,h_l1⟩:=za2 h_l1
   refine za1 hG ?_
   refine za0 ?_
   obtain ⟨hb2,h_l1⟩:=za2 h_l1
   obtain ⟨hb3,h_l1⟩:=za2 h_l1
   refine za1 hG ?_
   refine za1 hG ?_
   exact zc8 hK [(0,0),(1,1)] h_l1
 refine zc3 ?_
 obtain rfl:=Option.some.inj h_l1
 have hx:=hx_l1 _ rfl
 subst hx
 try dsimp only at h
 exact zc4 hK [(0,0),(1,1)] (g1.1,g1.2) (by exact h)
attribute [local irreducible] zr7
noncomputable def zl1 (a0:List Wait) (a1:Queue):Option ((List Wait)×ByteArray×Int×Int×Int×(List Wait)×Int×(List Hold)×(List Wait)×(List Wait)) :=
 some (a0,a1.resource.name,a1.resource.kind,a1.resource.units,a1.resource.home,a0,a1.gen,a1.holds,a1.converts,a1.waits)
theorem zay8 (a0:List Wait) (a1:Queue) (r:(List Wait)×ByteArray×Int×Int×Int×(List Wait)×Int×(List Hold)×(List Wait)×(List Wait)) (h:zl1 a0 a1=some r):MFn C 95 [.ptr 0 0 0,.ptr 1 0 0] [(0,⟨false,1,[A.sl ([].map Wait.enc)],[[A.sl (a0.map Wait.enc)]]⟩),(1,⟨false,8,(Queue.enc Queue.zero),[[.str a1.resource.name,.int .i64 a1.resource.kind,.int .i64 a1.resource.units,.int .i64 a1.resource.home,.own 2 0 a1.holds.length,.own 3 0 a1.converts.length,.own 4 0 a1.waits.length,.int .i64 a1.gen]]⟩),(2,⟨false,5,(Hold.enc Hold.zero),a1.holds.map Hold.enc⟩),(3,⟨false,7,(Wait.enc Wait.zero),a1.converts.map Wait.enc⟩),(4,⟨false,7,(Wait.enc Wait.zero),a1.waits.map Wait.enc⟩)] 5 (.tup []) [(0,⟨false,1,[A.sl ([].map Wait.enc)],[[A.sl (r.1.map Wait.enc)]]⟩),(1,⟨false,8,(Queue.enc Queue.zero),[[.str r.2.1,.int .i64 r.2.2.1,.int .i64 r.2.2.2.1,.int .i64 r.2.2.2.2.1,.own 2 0 r.2.2.2.2.2.2.2.1.length,.own 3 0 r.2.2.2.2.2.2.2.2.1.length,.sl (r.2.2.2.2.2.1.map Wait.enc),.int .i64 r.2.2.2.2.2.2.1]]⟩),(2,⟨false,5,(Hold.enc Hold.zero),r.2.2.2.2.2.2.2.1.map Hold.enc⟩),(3,⟨false,7,(Wait.enc Wait.zero),r.2.2.2.2.2.2.2.2.1.map Wait.enc⟩),(4,⟨false,7,(Wait.enc Wait.zero),r.2.2.2.2.2.2.2.2.2.map Wait.enc⟩)] 5:=by
 refine zl5 (rl:=[]) zer0 rfl rfl rfl rfl fun E hG hN hK=>?_
 unfold zcM8
 unfold zl1 at h
 refine za1 hG ?_
 exact zz5 [(0,0),(1,1),(2,2),(3,3),(4,4)] h
attribute [local irreducible] zl1
noncomputable def zD3  (j1:ByteArray×Int×Int×Int×(List Wait)×Int×(List Hold)×(List Wait)×(List Wait)×(List Wait)):Option (Queue×(List Hold)×Int×Queue×(List Hold)×(List Wait)×(List Wait)×(List Wait)) :=
 (ze4 (⟨(⟨j1.1,j1.2.1,j1.2.2.1,j1.2.2.2.1⟩:Resource),j1.2.2.2.2.2.2.1,j1.2.2.2.2.2.2.2.1,j1.2.2.2.2.1,j1.2.2.2.2.2.1⟩:Queue)).bind fun v1 =>
 some ({ v1.2 with gen:=(zg0 v1.2.gen) },v1.1,0,{ v1.2 with gen:=(zg0 v1.2.gen) },j1.2.2.2.2.2.2.1,j1.2.2.2.2.2.2.2.1,j1.2.2.2.2.2.2.2.2.1,j1.2.2.2.2.2.2.2.2.2)
@[go_sem] def zec4  (j1:ByteArray×Int×Int×Int×(List Wait)×Int×(List Hold)×(List Wait)×(List Wait)×(List Wait)):St:=⟨[(0,.ptr 0 0 0),(4,.ptr 6 0 0)],[(0,⟨false,8,(Queue.enc Queue.zero),[[.str j1.1,.int .i64 j1.2.1,.int .i64 j1.2.2.1,.int .i64 j1.2.2.2.1,.own 2 0 j1.2.2.2.2.2.2.1.length,.own 3 0 j1.2.2.2.2.2.2.2.1.length,.sl (j1.2.2.2.2.1.map Wait.enc),.int .i64 j1.2.2.2.2.2.1]]⟩),(1,⟨false,1,[A.any],[[.clo 95 [.ptr 5 0 0,.ptr 0 0 0]]]⟩),(2,⟨false,5,(Hold.enc Hold.zero),j1.2.2.2.2.2.2.1.map Hold.enc⟩),(3,⟨false,7,(Wait.enc Wait.zero),j1.2.2.2.2.2.2.2.1.map Wait.enc⟩),(4,⟨false,7,(Wait.enc Wait.zero),j1.2.2.2.2.2.2.2.2.1.map Wait.enc⟩),(5,⟨false,1,[A.sl ([].map Wait.enc)],[[A.sl (j1.2.2.2.2.2.2.2.2.2.map Wait.enc)]]⟩),(6,⟨false,8,(Queue.enc Queue.zero),[Queue.enc Queue.zero]⟩)],7⟩
noncomputable def zl2 (a0:Queue) (a1:List Wait):Option (Queue×(List Hold)×Int×Queue×(List Hold)×(List Wait)×(List Wait)×(List Wait)) :=
 gd (0≤0∧0 < (1:Int)) <|
 (zl1 a1 a0).bind fun v2 =>
 zD3 (v2.2.1,v2.2.2.1,v2.2.2.2.1,v2.2.2.2.2.1,v2.2.2.2.2.2.1,v2.2.2.2.2.2.2.1,v2.2.2.2.2.2.2.2.1,v2.2.2.2.2.2.2.2.2.1,v2.2.2.2.2.2.2.2.2.2,v2.1)
theorem zay9 (a0:Queue) (a1:List Wait) (r:Queue×(List Hold)×Int×Queue×(List Hold)×(List Wait)×(List Wait)×(List Wait)) (h:zl2 a0 a1=some r):MFn C 91 [.ptr 0 0 0,.own 1 0 1] [(0,⟨false,8,(Queue.enc Queue.zero),[[.str a0.resource.name,.int .i64 a0.resource.kind,.int .i64 a0.resource.units,.int .i64 a0.resource.home,.own 2 0 a0.holds.length,.own 3 0 a0.converts.length,.own 4 0 a0.waits.length,.int .i64 a0.gen]]⟩),(1,⟨false,1,[A.any],[[.clo 95 [.ptr 5 0 0,.ptr 0 0 0]]]⟩),(2,⟨false,5,(Hold.enc Hold.zero),a0.holds.map Hold.enc⟩),(3,⟨false,7,(Wait.enc Wait.zero),a0.converts.map Wait.enc⟩),(4,⟨false,7,(Wait.enc Wait.zero),a0.waits.map Wait.enc⟩),(5,⟨false,1,[A.sl ([].map Wait.enc)],[[A.sl (a1.map Wait.enc)]]⟩)] 6 (.tup [.agg (Queue.enc r.1),.sl (r.2.1.map Hold.enc),.int .i64 r.2.2.1]) [(0,⟨false,8,(Queue.enc Queue.zero),[Queue.enc r.2.2.2.1]⟩),(1,⟨false,1,[A.any],[[.clo 95 [.ptr 5 0 0,.ptr 0 0 0]]]⟩),(2,⟨true,5,(Hold.enc Hold.zero),r.2.2.2.2.1.map Hold.enc⟩),(3,⟨true,7,(Wait.enc Wait.zero),r.2.2.2.2.2.1.map Wait.enc⟩),(4,⟨false,7,(Wait.enc Wait.zero),r.2.2.2.2.2.2.1.map Wait.enc⟩),(5,⟨false,1,[A.sl ([].map Wait.enc)],[[A.sl (r.2.2.2.2.2.2.2.map Wait.enc)]]⟩)] 6:=by
 refine zl5 (rl:=[.agg (Queue.enc r.1),.sl (r.2.1.map Hold.enc),.int .i64 r.2.2.1]) zer1 rfl rfl rfl rfl fun E hG hN hK=>?_
 unfold zcN8
 unfold zl2 at h
 refine za0 (za1 hG ?_)
 refine za0 (za0 (za1 hG ?_))
 refine zb5 (zec4) (fun v=>zD3 v=some r) ?_ ?_
 · intro j1 h
   unfold zD3 at h
   refine g_st ?_
   refine za0 ?_
   refine g_gh (.fz [2,3]) ?_
   refine za1 hG ?_
   obtain ⟨v1,hv1,h⟩:=za3 h
   refine zo0 [(0,0)] [] [0] (zP4 (⟨(⟨j1.1,j1.2.1,j1.2.2.1,j1.2.2.2.1⟩:Resource),j1.2.2.2.2.2.2.1,j1.2.2.2.2.2.2.2.1,j1.2.2.2.2.1,j1.2.2.2.2.2.1⟩:Queue) _ hv1) rfl rfl ?_
   refine za0 (za1 hG ?_)
   refine za6 (fun hg=>zaj0 v1.2.gen) ?_
   refine za0 (za1 hG ?_)
   refine za7 ?_
   exact zz5 [(0,0),(1,1),(2,2),(3,3),(4,4),(5,5)] h
 refine zaJ0 3 ?_
 refine zah4 ?_
 refine za0 (za1 hG ?_)
 refine za0 ?_
 refine zaF2 rfl hG ?_
 refine za5 ?_
 refine za0 (zb6 (za0 ?_))
 obtain ⟨hb1,h⟩:=za2 h
 refine za1 hG ?_
 refine za1 hG ?_
 obtain ⟨v2,hv2,h⟩:=za3 h
 refine zo0 [(0,5),(1,0),(2,2),(3,3),(4,4)] [] [0,1,2,3,4] (zay8 a1 a0 _ hv2) rfl rfl ?_
 refine za1 hG ?_
 refine zah4 ?_
 refine za0 (za1 hG ?_)
 refine za0 ?_
 refine zbm5 rfl hG ?_
 refine zc3 ?_
 exact zc4 hK [(0,0),(1,1),(2,2),(3,3),(4,4),(5,5),(6,6)] (v2.2.1,v2.2.2.1,v2.2.2.2.1,v2.2.2.2.2.1,v2.2.2.2.2.2.1,v2.2.2.2.2.2.2.1,v2.2.2.2.2.2.2.2.1,v2.2.2.2.2.2.2.2.2.1,v2.2.2.2.2.2.2.2.2.2,v2.1) (by exact h)
attribute [local irreducible] zl2
noncomputable def zr8 (a0:Queue) (a1:Proc) (a2:Amount) (a3:Int):Option (Queue×(List Hold)×Int) :=
 (zi0 a0).bind fun v1 =>
 (if (!v1)=true then
  some ({ Queue.zero with  },[],2)
 else
  (if (((!(zb3 a1))||(decide (a3 < 0)))||(decide (7 < a3)))=true then
   some ({ Queue.zero with  },[],1)
  else
   (if (!(za9 a0.resource a2))=true then
    some ({ Queue.zero with  },[],12)
   else
    (zk3 a0 a1).bind fun v2 =>
    (if v2.2=true then
     some ({ Queue.zero with  },[],14)
    else
     (zm3 a0).bind fun v3 =>
     (zh6 a0 a1).bind fun v4 =>
     (zh3 a0.resource v4 a2).bind fun v5 =>
     (if v5=true then
      some (v3,[],0)
     else
      (if (!(zb7 v4))=true then
       (zn4 v3 v4 a2 a1).bind fun v6 =>
       some (v6.1,v6.2.1,v6.2.2.1)
      else
       (if (decide (8≤(IntKind.i64.wrap ((a0.holds.length:Int)+(a0.waits.length:Int)))))=true then
        some ({ Queue.zero with  },[],4)
       else
        (zr7 a0.waits ({ Wait.zero with proc:=a1,amount:=a2,priority:=a3 })).bind fun v7 =>
        (if (!decide (v7.2.2=0))=true then
         some ({ Queue.zero with  },[],v7.2.2)
        else
         (zl2 v3 v7.1).bind fun v8 =>
         some (v8.1,v8.2.1,v8.2.2.1)))))))))
theorem zaX8 (a0:Queue) (a1:Proc) (a2:Amount) (a3:Int) (r:Queue×(List Hold)×Int) (h:zr8 a0 a1 a2 a3=some r):PFn C 56 [.agg (Queue.enc a0),.agg (Proc.enc a1),.agg (Amount.enc a2),.int .i64 a3] (.tup [.agg (Queue.enc r.1),.sl (r.2.1.map Hold.enc),.int .i64 r.2.2]):=by
 refine za8 zer2 rfl fun E hG hN hK=>?_
 unfold zcO9
 unfold zr8 at h
 refine za0 (za1 hG ?_)
 refine za0 (za0 (za1 hG ?_))
 obtain ⟨v1,hv1,h⟩:=za3 h
 refine za6 (fun hg=>zad2 a0 _ (hv1)) ?_
 refine za4 rfl hG h (fun _ h=>?_) (fun _ h=>?_)
 · refine za0 (za1 hG ?_)
   refine za7 ?_
   exact zb1 h
 refine za5 ?_
 refine za0 (za0 (za1 hG ?_))
 refine za6 (fun hg=>zG9 a1) ?_
 refine za4 rfl hG h (fun _ h=>?_) (fun _ h=>?_)
 · refine za0 (za1 hG ?_)
   refine za7 ?_
   exact zb1 h
 refine za5 ?_
 refine za0 (za0 (za1 hG ?_))
 refine za6 (fun hg=>zw3 a0.resource a2) ?_
 refine za4 rfl hG h (fun _ h=>?_) (fun _ h=>?_)
 · refine za0 (za1 hG ?_)
   refine za7 ?_
   exact zb1 h
 refine za5 ?_
 refine za0 (za0 (za1 hG ?_))
 obtain ⟨v2,hv2,h⟩:=za3 h
 refine za6 (fun hg=>zaq4 a0 a1 _ (hv2)) ?_
 refine za0 (za1 hG ?_)
 refine za4 rfl hG h (fun _ h=>?_) (fun _ h=>?_)
 · refine za0 (za1 hG ?_)
   refine za7 ?_
   exact zb1 h
 refine za5 ?_
 refine za0 (zF1 zd8 hG ?_)
 obtain ⟨v3,hv3,h⟩:=za3 h
 refine zac6 [] [(0,5),(1,6),(2,7)] [0,1,2] (zaF5 a0 _ hv3) rfl rfl ?_
 obtain ⟨v4,hv4,h⟩:=za3 h
 refine zC5 (fun hg=>zP8 a0 a1 _ (hv4)) ?_
 refine za0 (za0 (za1 hG ?_))
 obtain ⟨v5,hv5,h⟩:=za3 h
 refine za6 (fun hg=>zal0 a0.resource v4 a2 _ (hv5)) ?_
 refine za4 rfl hG h (fun _ h=>?_) (fun _ h=>?_)
 · refine za0 (za1 hG ?_)
   refine za7 ?_
   exact zb1 h
 refine za5 ?_
 refine za0 (za0 (za1 hG ?_))
 refine za6 (fun hg=>zo5 v4) ?_
 refine za4 rfl hG h (fun _ h=>?_) (fun _ h=>?_)
 · refine za0 (za1 hG ?_)
   obtain ⟨v6,hv6,h⟩:=za3 h
   refine zo0 [(0,8),(1,10),(2,5),(3,6),(4,7),(5,9),(6,2),(7,1)] [] [0,1,2,3,4,5,6,7] (zaC5 v3 v4 a2 a1 _ hv6) rfl rfl ?_
   refine za7 ?_
   exact zb1 h
 refine za5 ?_
 refine za0 (za0 (za1 hG ?_))
 refine za4 rfl hG h (fun _ h=>?_) (fun _ h=>?_)
 · refine za0 (za1 hG ?_)
   refine za7 ?_
   exact zb1 h
 refine za5 ?_
 refine za0 (za1 hG ?_)
 obtain ⟨v7,hv7,h⟩:=za3 h
 refine za6 (fun hg=>zaX7 a0.waits ({ Wait.zero with proc:=a1,amount:=a2,priority:=a3 }) _ (hv7)) ?_
 refine za0 (za0 (za1 hG ?_))
 refine za4 rfl hG h (fun _ h=>?_) (fun _ h=>?_)
 · refine za0 (za1 hG ?_)
   refine za7 ?_
   exact zb1 h
 refine za5 ?_
 refine za0 (za1 hG ?_)
 obtain ⟨v8,hv8,h⟩:=za3 h
 refine zo0 [(0,8),(1,11),(2,5),(3,6),(4,7),(5,10)] [] [0,1,2,3,4,5] (zay9 v3 v7.1 _ hv8) rfl rfl ?_
 refine za7 ?_
 exact zb1 h
attribute [local irreducible] zr8
noncomputable def zH3 (a1:Int) (a2:Queue) (j1:(List Queue)):Option ((List Queue)) :=
 (if (decide (0≤a1))=true then
  gd (0≤a1∧a1 < ((j1.length:Nat):Int)) <|
  some (j1.set a1.toNat a2)
 else
  some j1)
@[go_sem] def zec5 (a1:Int) (a2:Queue) (j1:(List Queue)):St:=⟨[(1,.int .i64 a1),(5,.ptr 0 0 0),(7,.own 1 0 j1.length)],[(0,⟨false,8,(Queue.enc Queue.zero),[Queue.enc a2]⟩),(1,⟨false,8,(Queue.enc Queue.zero),j1.map Queue.enc⟩)],2⟩
noncomputable def zB6 (a0:List Queue) (g1:Int×(List Queue)):Option ((Int×(List Queue))⊕(((List Queue)))) :=
 (if (decide (g1.1 < (a0.length:Int)))=true then
  gd (0≤g1.1∧g1.1 < (a0.length:Int)) <|
  gd (((a0.getD g1.1.toNat Queue.zero).holds).length≤4294967296) <|
  gd ((({ (a0.getD g1.1.toNat Queue.zero) with holds:=(a0.getD g1.1.toNat Queue.zero).holds }).converts).length≤4294967296) <|
  gd ((({ { (a0.getD g1.1.toNat Queue.zero) with holds:=(a0.getD g1.1.toNat Queue.zero).holds } with converts:=({ (a0.getD g1.1.toNat Queue.zero) with holds:=(a0.getD g1.1.toNat Queue.zero).holds }).converts }).waits).length≤4294967296) <|
  gd (0≤g1.1∧g1.1 < ((g1.2.length:Nat):Int)) <|
  some (.inl ((IntKind.i64.wrap (g1.1+1)),(g1.2.set g1.1.toNat ({ { { (a0.getD g1.1.toNat Queue.zero) with holds:=(a0.getD g1.1.toNat Queue.zero).holds } with converts:=({ (a0.getD g1.1.toNat Queue.zero) with holds:=(a0.getD g1.1.toNat Queue.zero).holds }).converts } with waits:=({ { (a0.getD g1.1.toNat Queue.zero) with holds:=(a0.getD g1.1.toNat Queue.zero).holds } with converts:=({ (a0.getD g1.1.toNat Queue.zero) with holds:=(a0.getD g1.1.toNat Queue.zero).holds }).converts }).waits }))))
 else
  some (.inr g1.2))
@[go_sem] def zec6 (a0:List Queue) (a1:Int) (a2:Queue) (g1:Int×(List Queue)):St:=⟨[(1,.int .i64 a1),(5,.ptr 0 0 0),(7,.own 1 0 g1.2.length),(13,.sl (a0.map Queue.enc)),(14,.int .i64 (a0.length:Int)),(15,.int .i64 g1.1)],[(0,⟨false,8,(Queue.enc Queue.zero),[Queue.enc a2]⟩),(1,⟨false,8,(Queue.enc Queue.zero),g1.2.map Queue.enc⟩)],2⟩
noncomputable def zf4 (a0:List Queue) (a1:Int) (a2:Queue):Option ((List Queue)) :=
 gd (0≤(a0.length:Int)∧(a0.length:Int)≤(a0.length:Int)∧(a0.length:Int)≤4294967296) <|
 (zb8 (zB6 a0) (0,(List.replicate ((a0.length:Int).toNat) Queue.zero))).bind (fun z=>zH3 a1 a2 z)
theorem zaJ8 (a0:List Queue) (a1:Int) (a2:Queue) (r:(List Queue)) (h:zf4 a0 a1 a2=some r):PFn C 57 [.sl (a0.map Queue.enc),.int .i64 a1,.agg (Queue.enc a2)] (.sl (r.map Queue.enc)):=by
 refine za8 zer3 rfl fun E hG hN hK=>?_
 unfold zcQ0
 unfold zf4 at h
 refine za0 (za1 hG ?_)
 refine za0 ?_
 obtain ⟨hb7,h⟩:=za2 h
 refine za1 hG ?_
 refine za0 (za0 (za1 hG ?_))
 refine zb5 (zec5 a1 a2) (fun v=>zH3 a1 a2 v=some r) ?_ ?_
 · intro j1 h
   unfold zH3 at h
   refine g_st ?_
   refine za0 (za0 (za1 hG ?_))
   refine za4 rfl hG h (fun _ h=>?_) (fun _ h=>?_)
   · obtain ⟨hb1,h⟩:=za2 h
     refine za1 hG ?_
     refine za0 (za1 hG ?_)
     refine za7 ?_
     exact zb1 h
   refine za5 ?_
   refine za0 (za1 hG ?_)
   refine za7 ?_
   exact zb1 h
 refine zd9 (zec6 a0 a1 a2) hK [(0,0),(1,1)] h (fun x_l1 h g1 y_l1 h_l1 hx_l1=>?_)
 unfold zB6 at h_l1
 refine g_st ?_
 refine za0 (za1 hG ?_)
 refine za0 ?_
 refine za4 rfl hG h_l1 (fun _ h_l1=>?_) (fun _ h_l1=>?_)
 · refine za5 ?_
   refine za0 (zb6 (za0 ?_))
   obtain ⟨hb6,h_l1⟩:=za2 h_l1
   refine za1 hG ?_
   refine za0 ?_
   obtain ⟨hb5,h_l1⟩:=za2 h_l1
   refine za1 hG ?_
   refine za0 ?_
   obtain ⟨hb4,h_l1⟩:=za2 h_l1
   refine za1 hG ?_
   refine za0 ?_
   obtain ⟨hb3,h_l1⟩:=za2 h_l1
   refine za1 hG ?_
   obtain ⟨hb2,h_l1⟩:=za2 h_l1
   refine za1 hG ?_
   refine za1 hG ?_
   exact zc8 hK [(0,0),(1,1)] h_l1
 refine zc3 ?_
 obtain rfl:=Option.some.inj h_l1
 have hx:=hx_l1 _ rfl
 subst hx
 try dsimp only at h
 exact zc4 hK [(0,0),(1,1)] g1.2 (by exact h)
attribute [local irreducible] zf4
noncomputable def zT2  (j1:(List Event)):Option ((List Event)) :=
 some j1
@[go_sem] def zec7  (j1:(List Event)):St:=⟨[(2,.own 0 0 j1.length)],[(0,⟨false,7,(Event.enc Event.zero),j1.map Event.enc⟩)],1⟩
noncomputable def zJ8 (a0:ByteArray) (a1:List Hold) (g1:Int×(List Event)):Option ((Int×(List Event))⊕(((List Event)))) :=
 (if (decide (g1.1 < (a1.length:Int)))=true then
  gd (0≤g1.1∧g1.1 < (a1.length:Int)) <|
  gd (g1.2.length+1≤4294967296) <|
  some (.inl ((IntKind.i64.wrap (g1.1+1)),(g1.2++[(⟨1,(a1.getD g1.1.toNat Hold.zero).proc,a0,(a1.getD g1.1.toNat Hold.zero).amount⟩:Event)])))
 else
  some (.inr g1.2))
@[go_sem] def zec8 (a0:ByteArray) (a1:List Hold) (g1:Int×(List Event)):St:=⟨[(0,.str a0),(2,.own 0 0 g1.2.length),(9,.sl (a1.map Hold.enc)),(10,.int .i64 (a1.length:Int)),(11,.int .i64 g1.1)],[(0,⟨false,7,(Event.enc Event.zero),g1.2.map Event.enc⟩)],1⟩
noncomputable def zl7 (a0:ByteArray) (a1:List Hold):Option ((List Event)) :=
 (zb8 (zJ8 a0 a1) (0,[])).bind (fun z=>zT2 z)
theorem zaJ9 (a0:ByteArray) (a1:List Hold) (r:(List Event)) (h:zl7 a0 a1=some r):MFn C 58 [.str a0,.sl (a1.map Hold.enc),.full ([].map Event.enc)] [] 0 (.sl (r.map Event.enc)) [] 0:=by
 refine zl5 (rl:=[.sl (r.map Event.enc)]) zer4 rfl rfl rfl rfl fun E hG hN hK=>?_
 unfold zcQ8
 unfold zl7 at h
 refine g_gh (.own0 2 7 (Event.enc Event.zero)) ?_
 refine za0 (za1 hG ?_)
 refine za0 (za0 (za1 hG ?_))
 refine zb5 (zec7) (fun v=>zT2 v=some r) ?_ ?_
 · intro j1 h
   unfold zT2 at h
   refine g_st ?_
   refine za0 (za1 hG ?_)
   refine g_gh (.fz [0]) ?_
   refine za7 ?_
   exact zz5 [] h
 refine zd9 (zec8 a0 a1) hK [(0,0)] h (fun x_l1 h g1 y_l1 h_l1 hx_l1=>?_)
 unfold zJ8 at h_l1
 refine g_st ?_
 refine za0 (za1 hG ?_)
 refine za0 ?_
 refine za4 rfl hG h_l1 (fun _ h_l1=>?_) (fun _ h_l1=>?_)
 · refine za5 ?_
   refine za0 (zb6 (za0 ?_))
   obtain ⟨hb2,h_l1⟩:=za2 h_l1
   refine za1 hG ?_
   obtain ⟨hb1,h_l1⟩:=za2 h_l1
   refine za1 hG ?_
   refine za1 hG ?_
   exact zc8 hK [(0,2)] h_l1
 refine zc3 ?_
 obtain rfl:=Option.some.inj h_l1
 have hx:=hx_l1 _ rfl
 subst hx
 try dsimp only at h
 exact zc4 hK [(0,0)] g1.2 (by exact h)
attribute [local irreducible] zl7
end Ab
end Go.Proofs.YtfjeceicgfdmjaaGreatDoor
