import Derived.Test.YtfkjffmjkbkmhaaGreatDoorHm6
import Derived.Test.YtfkjffmjkbkmhaaGreatDoorHm13
import Derived.Test.YtfkjffmjkbkmhaaGreatDoorSort
namespace Go.Proofs.YtfkjffmjkbkmhaaGreatDoor
namespace Ab
open IntKind (i64 u64 u8)
set_option linter.unusedSimpArgs false
set_option linter.defProp false
set_option linter.unusedVariables false
set_option maxRecDepth 100000
set_option maxHeartbeats 1000000
noncomputable section
attribute [local irreducible] zl7 zl8 zb2 za3 zd9 za8 zm2 zj6 zg1 zg2 zf8 zb1 zf5 zg6 zj1 ze3 za9 zj4 zi1 zh6 zg4 zf2 zc4 zi7 zb0 zf0 zl9 zh2 zm6 zh3 zi2 zk8 zn7 zm0 f_ref08_holds zc3 zk9 ze0 zm3 zf7 zh4 zf6 zb3 zl0 za0 ze7 zi5 ze8 zj3 zd7 zg5 zb4 zb5 zf1 zh7 zm8 zd3 zh9 zn6 zk3 zc9 zq5 za1 zi6 zg3 zd8 zn8 zc0 zd5 zf3 zp8 zo8 ze4 zk2 zb7 zh8 zd6
def zk5 (a0:aT):Bool :=
 (((((zc5 a0.aJ&&(za4 ({ aI.zero with kind:=1,aR:=1 }) a0.aN||za4 ({ aI.zero with kind:=2,aR:=8 }) a0.aN))&&decide (0≤a0.bC))&&decide (a0.bC≤7))&&decide (0≤a0.bR))&&decide (a0.bR≤3))
instance zcE7 (a0:aT):OkT 261 [.agg (aT.enc a0)] (.bool (zk5 a0)):=ok2 (fun r=>.bool r) (zk5.eq_1 a0) Tryz.f261 []
def zi3 (a0:aM):Option Bool :=
 (ze4 a0.name).bind fun v1 =>
 some (v1&&(za4 ({ aI.zero with kind:=1,aR:=1 }) a0.aN||za4 ({ aI.zero with kind:=2,aR:=8 }) a0.aN))
instance zbd3 (a0:aM):OkP (zi3 a0) 125 [ga a0] (fun r=>.bool r):=ok1 (zi3.eq_1 a0) Tryz.f125 []
attribute [local irreducible] zi3
def ltS (x y:aK):Prop:=x.site < y.site∨x.site=y.site∧(x.inc < y.inc∨x.inc=y.inc∧x.num < y.num)
instance (x y:aK):Decidable (ltS x y):=by unfold ltS; infer_instance
def cmpS (x y:aK):Int:=if ltS x y then -1 else if ltS y x then 1 else 0
theorem zaR6 (x y:aK):ltOf cmpS x y=decide (ltS x y):=by
 unfold ltOf cmpS
 by_cases h:ltS x y
 · simp [h]
 · by_cases h2:ltS y x <;> simp [h,h2]
theorem zcm8:Go.Sort.SWO (ltOf cmpS) where
 irrefl x:=by rw [zaR6]; simp [ltS]
 trans x y z h1 h2:=by
  rw [zaR6,bX] at *; unfold ltS at *; omega
 ntrans x y z h1 h2:=by
  rw [zaR6,cR] at *; unfold ltS at *; omega
theorem zcw6 (x y:aK) (h1:ltOf cmpS x y=false) (h2:ltOf cmpS y x=false):x=y:=by
 rw [zaR6,cR] at *; unfold ltS at *; rw [aK.ext_iff]; omega
theorem zcE8 (p q:aK):zd8 p q=some (cmpS p q):=by
 unfold zd8 zg6
 have e:∀ (x y z:Int) (i:Nat) (h:[x,y,z].length=3),Arr.get (⟨[x,y,z],h⟩:Arr Int 3) i 0=match i with|0=>x|1=>y|_=>z:=by
  intro x y z i h
  match i with
  | 0=>rfl
  | 1=>rfl
  | 2=>rfl
  | n+3 =>
    have:¬ (n+3 < 3):=by omega
    simp [Arr.get,zI9,this]
 have w1:i64.wrap (0+1)=1:=by decide
 have w2:i64.wrap (1+1)=2:=by decide
 have w3:i64.wrap (2+1)=3:=by decide
 have s3:zn3 ⟨[p.site,p.inc,p.num],rfl⟩ ⟨[q.site,q.inc,q.num],rfl⟩ 3=some (.inr (.inl ())):=by unfold zn3; simp
 have s2:zn3 ⟨[p.site,p.inc,p.num],rfl⟩ ⟨[q.site,q.inc,q.num],rfl⟩ 2=some (if p.num < q.num then .inr (.inr (-1)) else if q.num < p.num then .inr (.inr 1) else .inl 3):=by
  unfold zn3
  rw [bW (by decide),zg0 (by decide),zg0 (by decide),zg0 (by decide)]
  simp only [e,show (2:Int).toNat=2 from rfl,bX,w3]
  by_cases h:p.num < q.num
  · simp [h]
  · by_cases h2:q.num < p.num <;> simp [h,h2]
 have s1:zn3 ⟨[p.site,p.inc,p.num],rfl⟩ ⟨[q.site,q.inc,q.num],rfl⟩ 1=some (if p.inc < q.inc then .inr (.inr (-1)) else if q.inc < p.inc then .inr (.inr 1) else .inl 2):=by
  unfold zn3
  rw [bW (by decide),zg0 (by decide),zg0 (by decide),zg0 (by decide)]
  simp only [e,show (1:Int).toNat=1 from rfl,bX,w2]
  by_cases h:p.inc < q.inc
  · simp [h]
  · by_cases h2:q.inc < p.inc <;> simp [h,h2]
 have s0:zn3 ⟨[p.site,p.inc,p.num],rfl⟩ ⟨[q.site,q.inc,q.num],rfl⟩ 0=some (if p.site < q.site then .inr (.inr (-1)) else if q.site < p.site then .inr (.inr 1) else .inl 1):=by
  unfold zn3
  rw [bW (by decide),zg0 (by decide),zg0 (by decide),zg0 (by decide)]
  simp only [e,show (0:Int).toNat=0 from rfl,bX,w1]
  by_cases h:p.site < q.site
  · simp [h]
  · by_cases h2:q.site < p.site <;> simp [h,h2]
 unfold cmpS ltS
 by_cases a1:p.site < q.site
 · rw [zn4,s0]; simp [a1]
 · by_cases a2:q.site < p.site
   · rw [zn4,s0]
     have:¬ p.site=q.site:=by omega
     simp [a1,a2,this]
   · have h1:p.site=q.site:=by omega
     by_cases b1:p.inc < q.inc
     · rw [zn4,s0]; simp only [a1,a2,cA]; rw [zn4,s1]; simp [b1,h1]
     · by_cases b2:q.inc < p.inc
       · have:¬ p.inc=q.inc:=by omega
         rw [zn4,s0]; simp only [a1,a2,cA]; rw [zn4,s1]; simp [b1,b2,h1,this]
       · have h2:p.inc=q.inc:=by omega
         rw [zn4,s0]; simp only [a1,a2,cA]; rw [zn4,s1]; simp only [b1,b2,cA]; rw [zn4,s2]
         by_cases c1:p.num < q.num
         · simp [c1,h1,h2]
         · by_cases c2:q.num < p.num
           · simp [c1,c2,h1,h2]
           · simp only [c1,c2,cA]; rw [zn4,s3]; simp [h1,h2,zac6]
def ze5 (a0:bD):Option (ByteArray×bD) :=
 (if (!decide (a0.bO.err=0))=true then
  some ((⟨#[]⟩:ByteArray),a0)
 else
  (zq5 a0.bO.rest).bind fun v1 =>
  (if (!decide (v1.2.2=0))=true then
   some ((⟨#[]⟩:ByteArray),{ a0 with bO:={ a0.bO with err:=v1.2.2 } })
  else
   gd (0≤v1.2.1∧v1.2.1≤(a0.bO.rest.length:Int)∧(a0.bO.rest.length:Int)≤(a0.bO.rest.length:Int)) <|
   some (v1.1,{ a0 with bO:={ a0.bO with rest:=(a0.bO.rest.drop v1.2.1.toNat) } })))
instance zaf9 (a0:bD):OkM (ze5 a0) 74 [.ptr 0 0 0] [(0,bx a0)] 1 (fun r=>.str r.1) (fun r=>[(0,bx r.2)]) 1:=okm (ze5.eq_1 a0) (fun r=>[.str r.1]) Tryz.f74 []
attribute [local irreducible] ze5
def ze2 (a0 a1:aA):Option Bool :=
 ((if (decide (a0.aB=a1.aB))=true then za9 a0.aQ a1.aQ else some false)).bind fun v1 =>
 ((if (decide (a0.aB=a1.aB)&&v1)=true then za8 a0.aO a1.aO else some false)).bind fun v2 =>
 ((if ((decide (a0.aB=a1.aB)&&v1)&&v2)=true then za1 a0.aS a1.aS else some false)).bind fun v3 =>
 some (((decide (a0.aB=a1.aB)&&v1)&&v2)&&v3)
instance zbX2 (a0 a1:aA):OkP (ze2 a0 a1) 34 [ga a0,ga a1] (fun r=>.bool r):=⟨fun r h=>by
 refine zY9 Tryz.f34 [] fun E hG hN hK=>?_
 have hm:Mk (ze2 a0 a1):=trivial
 unfold ze2 at h
 refine za2 (za5 hG ?_)
 refine za2 (za5 hG ?_)
 obtain ⟨v1,hv1,h⟩:=zc7 h
 have hm:=mkP hm v1
 refine zr9 (fun hg=>(zat0 a0.aQ a1.aQ).ok _ (zaN2 hg hv1)) ?_
 obtain ⟨v2,hv2,h⟩:=zc7 h
 have hm:=mkP hm v2
 refine zr9 (fun hg=>(zas8 a0.aO a1.aO).ok _ (zaN2 hg hv2)) ?_
 obtain ⟨v3,hv3,h⟩:=zc7 h
 have hm:=mkP hm v3
 refine zaQ8 [] [] hv3 (fun hc=>(zK5 a0.aS a1.aS).ok _ hc) rfl ?_
 exact gogo⟩
attribute [local irreducible] ze2
def zaJ1 (a1:aK) (a2:aD) (j1:Bool×(List aV)):Option (List aV) :=
 (if (!j1.1)=true then
  gd (j1.2.length+1≤4294967296) <|
  some (j1.2++[(⟨a1,a2⟩:aV)])
 else
  some j1.2)
def zah5 (a0:List aV) (a1:aK) (a2:aD) (g1:Bool×Int×(List aV)):Option ((Bool×Int×(List aV))⊕(Bool×(List aV))) :=
 (if (decide (g1.2.1 < (a0.length:Int)))=true then
  gd (0≤g1.2.1∧g1.2.1 < (a0.length:Int)) <|
  (if (decide ((a0.getD g1.2.1.toNat aV.zero).aJ=a1))=true then
   some (.inl (g1.1,i64.wrap (g1.2.1+1),g1.2.2))
  else
   gd ((!g1.1)=true→0≤g1.2.1∧g1.2.1 < (a0.length:Int)) <|
   (if ((!g1.1)&&decide (0 < zs1 ((a0.getD g1.2.1.toNat aV.zero).aJ) a1))=true then
    gd (g1.2.2.length+1≤4294967296) <|
    gd (0≤g1.2.1∧g1.2.1 < (a0.length:Int)) <|
    gd (g1.2.2.length+1+1≤4294967296) <|
    some (.inl (true,i64.wrap (g1.2.1+1),((g1.2.2++[(⟨a1,a2⟩:aV)])++[(a0.getD g1.2.1.toNat aV.zero)])))
   else
    gd (0≤g1.2.1∧g1.2.1 < (a0.length:Int)) <|
    gd (g1.2.2.length+1≤4294967296) <|
    some (.inl (g1.1,i64.wrap (g1.2.1+1),(g1.2.2++[(a0.getD g1.2.1.toNat aV.zero)])))))
 else
  some (.inr (g1.1,g1.2.2)))
def zq7 (a0:List aV) (a1:aK) (a2:aD):Option (List aV) :=
 (zb9 (zah5 a0 a1 a2) ((zk7 a2),0,[])).bind (fun z=>zaJ1 a1 a2 z)
@[reducible,instance] def zdM7 a0 (a1:aK) (a2:aD):=mkJ (zq7 a0 a1 a2) 0 (@zaJ1.eq_1 a1 a2) fun (j1:Bool×(List aV))=>⟨[(4,.ptr 0 0 0),(5,.ptr 1 0 0),(7,.own 2 0 j1.2.length),(8,.bool j1.1)],[(0,bx a1),(1,bx a2),(2,sx j1.2)],3⟩
@[reducible,instance] def zdM8 (a0:List aV) (a1:aK) (a2:aD) {T:Type} (x:T):=mkL x (@zah5.eq_1 a0 a1 a2) fun (g1:Bool×Int×(List aV))=>⟨[(0,la a0),(4,.ptr 0 0 0),(5,.ptr 1 0 0),(7,.own 2 0 g1.2.2.length),(8,.bool g1.1),(9,.int .i64 g1.2.1)],[(0,bx a1),(1,bx a2),(2,sx g1.2.2)],3⟩
instance zdl1 (a0:List aV) (a1:aK) (a2:aD):OkP (zq7 a0 a1 a2) 280 [la a0,ga a1,ga a2] (fun r=>la r):=ok1 (zq7.eq_1 a0 a1 a2) Tryz.f280 [(7,1)]
attribute [local irreducible] zq7
def zt2 (a0:aA) (a1:aK):Option Bool :=
 (zh7 a0 a1).bind fun v1 =>
 ((if (!v1.2)=true then zi6 a0 a1 else some aD.zero)).bind fun v2 =>
 some (v1.2||(!(zk7 v2)))
instance zdl2 (a0:aA) (a1:aK):OkP (zt2 a0 a1) 274 [ga a0,ga a1] (fun r=>.bool r):=ok1 (zt2.eq_1 a0 a1) Tryz.f274 []
attribute [local irreducible] zt2
def zad1 (j2:aL):Option aL :=
 some j2
@[go_sem] def zds6  (j2:aL):St:=⟨[(2,.ptr 0 0 0),(3,.ptr 1 0 0)],[(0,bx aL.zero),(1,⟨false,2,aL.enc aL.zero,[[.own 2 0 j2.aC.length,.own 3 0 j2.aU.length]]⟩),(2,sx j2.aC),(3,sx j2.aU)],4⟩
def zQ7 (a0:aL) (g1:Int×aL):Option ((Int×aL)⊕aL) :=
 (if (decide (g1.1 < (a0.aU.length:Int)))=true then
  gd (0≤g1.1∧g1.1 < (a0.aU.length:Int)) <|
  (zd5 (a0.aU.getD g1.1.toNat bI.zero)).bind fun v1 =>
  gd (g1.2.aU.length+1≤4294967296) <|
  some (.inl ((i64.wrap (g1.1+1)),(⟨g1.2.aC,(g1.2.aU++[v1])⟩:aL)))
 else
  some (.inr g1.2))
@[go_sem] def zds7 (a0:aL) (g1:Int×aL):St:=⟨[(2,.ptr 0 0 0),(3,.ptr 1 0 0),(24,la a0.aU),(25,.int .i64 (a0.aU.length:Int)),(26,.int .i64 g1.1)],[(0,bx aL.zero),(1,⟨false,2,aL.enc aL.zero,[[.own 2 0 g1.2.aC.length,.own 3 0 g1.2.aU.length]]⟩),(2,sx g1.2.aC),(3,sx g1.2.aU)],4⟩
def zQ8 (a0 j1:aL):Option aL :=
 (zb9 (zQ7 a0) (0,j1)).bind (fun z=>zad1 z)
@[go_sem] def zds8 (a0 j1:aL):St:=⟨[(1,.ptr 0 0 0),(2,.ptr 1 0 0),(3,.ptr 2 0 0)],[(0,bx a0),(1,bx aL.zero),(2,⟨false,2,aL.enc aL.zero,[[.own 3 0 j1.aC.length,.own 4 0 j1.aU.length]]⟩),(3,sx j1.aC),(4,sx j1.aU)],5⟩
def zQ9 (a0:aL) (g2:Int×aL):Option ((Int×aL)⊕aL) :=
 (if (decide (g2.1 < (a0.aC.length:Int)))=true then
  gd (0≤g2.1∧g2.1 < (a0.aC.length:Int)) <|
  (zd6 (a0.aC.getD g2.1.toNat aA.zero)).bind fun v2 =>
  gd (g2.2.aC.length+1≤4294967296) <|
  some (.inl ((i64.wrap (g2.1+1)),(⟨(g2.2.aC++[v2]),g2.2.aU⟩:aL)))
 else
  some (.inr g2.2))
@[go_sem] def zds9 (a0:aL) (g2:Int×aL):St:=⟨[(1,.ptr 0 0 0),(2,.ptr 1 0 0),(3,.ptr 2 0 0),(9,la a0.aC),(10,.int .i64 (a0.aC.length:Int)),(11,.int .i64 g2.1)],[(0,bx a0),(1,bx aL.zero),(2,⟨false,2,aL.enc aL.zero,[[.own 3 0 g2.2.aC.length,.own 4 0 g2.2.aU.length]]⟩),(3,sx g2.2.aC),(4,sx g2.2.aU)],5⟩
def zi4 (a0:aL):Option aL :=
 (zb9 (zQ9 a0) (0,(⟨[],[]⟩:aL))).bind (fun z=>zQ8 a0 z)
theorem zba7 (a0 r:aL) (h:zi4 a0=some r):MFn C 20 [ga a0] [] 0 (.agg [.own 0 0 r.aC.length,.own 1 0 r.aU.length]) [(0,sx r.aC),(1,sx r.aU)] 2:=by
 refine zax1 Tryz.f20 [(3,5)] [.agg [.own 0 0 r.aC.length,.own 1 0 r.aU.length]] fun E hG hN hK=>?_
 unfold zi4 at h
 refine za2 (za5 hG ?_)
 refine za2 (za5 hG ?_)
 refine g_gh (.ownb 2 0 8 (aA.enc aA.zero)) ?_
 refine g_gh (.ownb 2 1 9 (bI.enc bI.zero)) ?_
 refine za2 (za2 (za5 hG ?_))
 refine zD0 (zds8 a0) (fun v=>zQ8 a0 v=some r) ?_ ?_
 · intro j1 h
   unfold zQ8 at h
   refine g_st ?_
   refine za2 (za2 (za5 hG ?_))
   refine zD0 zds6 (fun v=>zad1 v=some r) ?_ ?_
   · intro j2 h
     unfold zad1 at h
     refine g_st ?_
     refine za2 (za5 hG ?_)
     refine zt4 ?_
     exact zO9 [(0,2),(1,3)] h
   refine zY8 (zds7 a0) hK [(0,1),(1,2),(2,3),(3,4)] h (fun x_l1 h g1 y_l1 h_l1 hx_l1=>?_)
   unfold zQ7 at h_l1
   refine g_st ?_
   refine za2 (za5 hG ?_)
   refine za2 ?_
   refine zl4 rfl hG h_l1 (fun _ h_l1=>?_) (fun _ h_l1=>?_)
   · refine zk1 ?_
     refine za2 (zC3 (za2 ?_))
     obtain ⟨hb2,h_l1⟩:=ze1 h_l1
     refine za5 hG ?_
     refine zam5 zz1 hG ?_
     obtain ⟨v1,hv1,h_l1⟩:=zc7 h_l1
     obtain ⟨hb1,h_l1⟩:=ze1 h_l1
     refine zV9 (fun hg=>(zac9 (a0.aU.getD g1.1.toNat bI.zero)).ok _ hv1) ?_
     refine za5 hG ?_
     exact zJ0 hK [(0,0),(1,1),(2,2),(3,5)] h_l1
   refine zG4 ?_
   cases h_l1
   cases hx_l1 _ rfl
   exact zA9 hK [(0,0),(1,1),(2,2),(3,3)] g1.2 (by exact h)
 refine zY8 (zds9 a0) hK [(0,0),(1,1),(2,2),(3,3),(4,4)] h (fun x_l2 h g2 y_l2 h_l2 hx_l2=>?_)
 unfold zQ9 at h_l2
 refine g_st ?_
 refine za2 (za5 hG ?_)
 refine za2 ?_
 refine zl4 rfl hG h_l2 (fun _ h_l2=>?_) (fun _ h_l2=>?_)
 · refine zk1 ?_
   refine za2 (zC3 (za2 ?_))
   obtain ⟨hb4,h_l2⟩:=ze1 h_l2
   refine za5 hG ?_
   refine zam5 zz1 hG ?_
   obtain ⟨v2,hv2,h_l2⟩:=zc7 h_l2
   obtain ⟨hb3,h_l2⟩:=ze1 h_l2
   refine zV9 (fun hg=>(zar5 (a0.aC.getD g2.1.toNat aA.zero)).ok _ hv2) ?_
   refine za5 hG ?_
   exact zJ0 hK [(0,0),(1,1),(2,2),(3,6),(4,4)] h_l2
 refine zG4 ?_
 cases h_l2
 cases hx_l2 _ rfl
 exact zA9 hK [(0,0),(1,1),(2,2),(3,3),(4,4)] g2.2 (by exact h)
attribute [local irreducible] zi4
attribute [local irreducible] zp2 zd0 zb8 zs6 zj0 zn9 zj2 zp3 zl1 zh1 zq0 zl5 zu2 zg8 zb6 ze6 zk4 zi9 zf9 zj5 zp4 zg9
def zs2 (a0:aI) (a1 a2:aD):Option Bool :=
 (if ((!(zc2 a0 a1))||(!(zc2 a0 a2)))=true then
  some false
 else
  (if (zj7 a1||zj7 a2)=true then
   some (zj7 a2)
  else
   (if (decide (a0.kind=1))=true then
    (zn6 a1.mode a2.mode).bind fun v1 =>
    some v1
   else
    some (decide (a2.aR≤a1.aR)))))
instance zcK1 (a0:aI) (a1 a2:aD):OkP (zs2 a0 a1 a2) 220 [ga a0,ga a1,ga a2] (fun r=>.bool r):=ok1 (zs2.eq_1 a0 a1 a2) Tryz.f220 []
attribute [local irreducible] zs2
def zf4 (a0:bD):Option (aD×bD) :=
 (zb8 a0).bind fun v1 =>
 (zb8 v1.2).bind fun v2 =>
 some ((⟨v1.1,v2.1⟩:aD),v2.2)
instance zay7 (a0:bD):OkM (zf4 a0) 75 [.ptr 0 0 0] [(0,bx a0)] 1 (fun r=>ga r.1) (fun r=>[(0,bx r.2)]) 1:=okm (zf4.eq_1 a0) (fun r=>[ga r.1]) Tryz.f75 []
attribute [local irreducible] zf4
def zav2 (j1:(List aM)):Option (List aM) :=
 some j1
def zav3 (a0:aP) (g1:Int×(List aM)):Option ((Int×(List aM))⊕(List aM)) :=
 (if (decide (g1.1 < (a0.bE.length:Int)))=true then
  gd (0≤g1.1∧g1.1 < (a0.bE.length:Int)) <|
  (zi9 (a0.bE.getD g1.1.toNat aP.zero) g1.2).bind fun v2 =>
  some (.inl ((i64.wrap (g1.1+1)),v2))
 else
  some (.inr g1.2))
def zJ5 (a90:(aP→Option (List aM))) (a0:aP):Option (List aM) :=
 (if (decide ((a0.bE.length:Int)=0))=true then
  (zb5 [] a0.bF).bind fun v1 =>
  (if v1=true then
   some []
  else
   gd (1≤4294967296) <|
   some [a0.bF])
 else
  (zb9 (zav3 a0) (0,[])).bind (fun z=>zav2 z))
def zah6:Nat→(aP→Option (List aM))
 | 0=>fun _=>none
 | n+1=>zJ5 (zah6 n)
def zr3 (a0:aP):Option (List aM):=zah6 (_root_.SizeOf.sizeOf a0+1) a0
@[reducible,instance] def zdM9 (a90:(aP→Option (List aM))) (a0:aP):=mkJ (zJ5 a90 a0) 0 (@zav2.eq_1) fun (j1:(List aM))=>⟨[(0,.own 0 0 j1.length)],[(0,sx j1)],1⟩
@[reducible,instance] def zdN0 (a0:aP) {T:Type} (x:T):=mkL x (@zav3.eq_1 a0) fun (g1:Int×(List aM))=>⟨[(0,.own 0 0 g1.2.length),(22,la a0.bE),(23,.int .i64 (a0.bE.length:Int)),(24,.int .i64 g1.1)],[(0,sx g1.2)],1⟩
abbrev zY6 (g:(aP→Option (List aM))):Prop:=∀ (a0:aP),OkM (g a0) 77 [.full ([].map aM.enc),.agg (aP.enc a0)] [] 0 (fun r=>.sl (r.map aM.enc)) (fun r=>[]) 0
theorem zba8 (a90:(aP→Option (List aM))) (hrc:zY6 a90):zY6 (zJ5 a90):=fun a0=>⟨fun r h=>by
 refine zax1 Tryz.f77 [] [la r] fun E hG hN hK=>?_
 have hm:Mk (zJ5 a90 a0):=trivial
 unfold zJ5 at h
 refine g_gh (.own0 0 3 (aM.enc aM.zero)) ?_
 refine za2 (za5 hG ?_)
 refine za2 (za2 (za5 hG ?_))
 refine zl4 rfl hG h (fun _ h=>?_) (fun _ h=>?_)
 · refine za2 (za2 (za5 hG ?_))
   obtain ⟨v1,hv1,h⟩:=zc7 h
   have hm:=mkP hm v1
   refine zr9 (fun hg=>(zam8 [] a0.bF).ok _ hv1) ?_
   refine zl4 rfl hG h (fun _ h=>?_) (fun _ h=>?_)
   · refine za2 (za5 hG ?_)
     refine g_gh (.fz [0]) ?_
     exact gogo
   refine zk1 ?_
   refine za2 ?_
   obtain ⟨hb1,h⟩:=ze1 h
   refine za5 hG ?_
   refine g_gh (.fz [2]) ?_
   exact gogo
 refine zk1 ?_
 refine za2 (za2 (za5 hG ?_))
 refine zat9 hm h (fun j1 hm h=>?_) ?_
 · try refine g_st ?_
   refine za2 (za5 hG ?_)
   refine g_gh (.fz [0]) ?_
   exact gogo
 exact gogo⟩
theorem zba9:∀ n,zY6 (zah6 n):=zaP2 (fun _=>⟨fun _ h=>nomatch h⟩) fun n=>zba8 _
instance zci0:zY6 zr3:=fun a0=>zba9 _ a0
attribute [local irreducible] zr3
def zaR7 (j1:Unit):Option Bool :=
 some true
def zak7 (a0:List aT) (g1:Int):Option (Int⊕(Unit⊕Bool)) :=
 (if (decide (g1 < (a0.length:Int)))=true then
  gd (0≤g1∧g1 < (a0.length:Int)) <|
  gd (zy1 (a0.getD g1.toNat aT.zero)=true→0≤g1∧g1 < (a0.length:Int)) <|
  ((if (zy1 (a0.getD g1.toNat aT.zero))=true then zj4 a0 ((a0.getD g1.toNat aT.zero).aJ) else some 0)).bind fun v1 =>
  (if ((!(zy1 (a0.getD g1.toNat aT.zero)))||(!decide (v1=g1)))=true then
   some (.inr (.inr false))
  else
   some (.inl (i64.wrap (g1+1))))
 else
  some (.inr (.inl ())))
def zt8 (a0:List aT):Option Bool :=
 (if (decide (8 < (a0.length:Int)))=true then
  some false
 else
  (zb9 (zak7 a0) 0).bind (fun|.inl z=>zaR7 z|.inr z=>some z))
@[reducible,instance] def zdN1 a0:=mkJ (zt8 a0) 0 (@zaR7.eq_1) fun (j1:Unit)=>⟨[],[],0⟩
@[reducible,instance] def zdN2 (a0:List aT) {T:Type} (x:T):=mkL x (@zak7.eq_1 a0) fun (g1:Int)=>⟨[(0,la a0),(3,.int .i64 g1)],[],0⟩
instance zcX4 (a0:List aT):OkP (zt8 a0) 264 [la a0] (fun r=>.bool r):=ok1 (zt8.eq_1 a0) Tryz.f264 []
attribute [local irreducible] zt8
def zaR8 (j2:Unit):Option Bool :=
 some true
def zZ8 (a0:aW) (g1:Int):Option (Int⊕(Unit⊕Bool)) :=
 (if (decide (g1 < (a0.aY.length:Int)))=true then
  gd (0≤g1∧g1 < (a0.aY.length:Int)) <|
  gd (((!(((decide ((a0.aY.getD g1.toNat bN.zero).label < 1)||decide (99 < (a0.aY.getD g1.toNat bN.zero).label))||decide ((a0.aY.getD g1.toNat bN.zero).at_ < 0))||decide ((a0.aH.length:Int) < (a0.aY.getD g1.toNat bN.zero).at_)))&&decide (0 < g1))=true→0≤i64.wrap (g1 - 1)∧i64.wrap (g1 - 1) < (a0.aY.length:Int)) <|
  ((if (!((((decide ((a0.aY.getD g1.toNat bN.zero).label < 1)||decide (99 < (a0.aY.getD g1.toNat bN.zero).label))||decide ((a0.aY.getD g1.toNat bN.zero).at_ < 0))||decide ((a0.aH.length:Int) < (a0.aY.getD g1.toNat bN.zero).at_))||(decide (0 < g1)&&decide ((a0.aY.getD g1.toNat bN.zero).at_ < (a0.aY.getD ((i64.wrap (g1 - 1)).toNat) bN.zero).at_))))=true then zk8 a0.aY ((a0.aY.getD g1.toNat bN.zero).label) else some 0)).bind fun v2 =>
  (if (((((decide ((a0.aY.getD g1.toNat bN.zero).label < 1)||decide (99 < (a0.aY.getD g1.toNat bN.zero).label))||decide ((a0.aY.getD g1.toNat bN.zero).at_ < 0))||decide ((a0.aH.length:Int) < (a0.aY.getD g1.toNat bN.zero).at_))||(decide (0 < g1)&&decide ((a0.aY.getD g1.toNat bN.zero).at_ < (a0.aY.getD ((i64.wrap (g1 - 1)).toNat) bN.zero).at_)))||(!decide (v2=g1)))=true then
   some (.inr (.inr false))
  else
   some (.inl (i64.wrap (g1+1))))
 else
  some (.inr (.inl ())))
def zZ9 (a0:aW) (j1:Unit):Option Bool :=
 (zi1 a0.aH).bind fun v1 =>
 (if (decide (8 < (v1.length:Int)))=true then
  some false
 else
  (zb9 (zZ8 a0) 0).bind (fun|.inl z=>zaR8 z|.inr z=>some z))
def zaa0 (a0:aW) (g2:Int):Option (Int⊕(Unit⊕Bool)) :=
 (if (decide (g2 < (a0.aH.length:Int)))=true then
  gd (0≤g2∧g2 < (a0.aH.length:Int)) <|
  (zg9 ((a0.aH.getD g2.toNat bG.zero).name)).bind fun v3 =>
  gd (v3=true→0≤0∧0≤g2∧g2≤(a0.aH.length:Int)) <|
  ((if v3=true then zi5 (a0.aH.take g2.toNat) ((a0.aH.getD g2.toNat bG.zero).name) else some aD.zero)).bind fun v4 =>
  (if (((!v3)||(!decide ((a0.aH.getD g2.toNat bG.zero).before=v4)))||(!(zu9 ((a0.aH.getD g2.toNat bG.zero).before) ((a0.aH.getD g2.toNat bG.zero).after))))=true then
   some (.inr (.inr false))
  else
   some (.inl (i64.wrap (g2+1))))
 else
  some (.inr (.inl ())))
def zp5 (a0:aW):Option Bool :=
 (if (decide (72 < (a0.aH.length:Int))||decide (4 < (a0.aY.length:Int)))=true then
  some false
 else
  (zb9 (zaa0 a0) 0).bind (fun|.inl z=>zZ9 a0 z|.inr z=>some z))
@[reducible,instance] def zdN3 a0 j1 {T1:Type} (v1:T1):=mkJ (zZ9 a0 j1,v1) 2 (@zaR8.eq_1) fun (j2:Unit)=>⟨[],[],0⟩
@[reducible,instance] def zdN4 (a0:aW) {T:Type} (x:T):=mkL x (@zZ8.eq_1 a0) fun (g1:Int)=>⟨[(1,.ptr 0 0 0),(5,.int .i64 g1)],[(0,bx a0)],1⟩
@[reducible,instance] def zdN5 (a0:aW):=mkJ (zp5 a0) 0 (@zZ9.eq_1 a0) fun (j1:Unit)=>⟨[(1,.ptr 0 0 0)],[(0,bx a0)],1⟩
@[reducible,instance] def zdN6 (a0:aW) {T:Type} (x:T):=mkL x (@zaa0.eq_1 a0) fun (g2:Int)=>⟨[(1,.ptr 0 0 0),(3,.int .i64 g2)],[(0,bx a0)],1⟩
instance zbd4 (a0:aW):OkP (zp5 a0) 134 [ga a0] (fun r=>.bool r):=ok1 (zp5.eq_1 a0) Tryz.f134 []
attribute [local irreducible] zp5
theorem zah7:SlLaysF0.n6 C.P ⟨fun|6=>30|15=>64|14=>66|28=>106|29=>107|20=>109|21=>110|22=>111|23=>112|24=>113|25=>114|26=>115|27=>116|46=>159|47=>155|48=>156|49=>160|50=>161|57=>214|n=>n,fun|22=>26|24=>53|25=>82|39=>137|53=>186|55=>145|46=>179|45=>178|50=>183|66=>228|70=>203|76=>274|77=>275|n=>n,fun n=>n⟩ where
 mixed:=zz1
 f6:=⟨ "slices.SortFunc[[]clusterlocks/api.Need,clusterlocks/api.Need]",by decide,Tryz.func30.trans (cQ some (by kernel_rfl))⟩
 f14:=⟨ "slices.pdqsortCmpFunc[clusterlocks/api.Need]",by decide,Tryz.func66.trans (cQ some (by kernel_rfl))⟩
 f15:=Tryz.func64.trans (cQ some (by kernel_rfl))
 f20:=⟨ "slices.insertionSortCmpFunc[clusterlocks/api.Need]",by decide,Tryz.func109.trans (cQ some (by kernel_rfl))⟩
 f21:=⟨ "slices.heapSortCmpFunc[clusterlocks/api.Need]",by decide,Tryz.func110.trans (cQ some (by kernel_rfl))⟩
 f22:=⟨ "slices.breakPatternsCmpFunc[clusterlocks/api.Need]",by decide,Tryz.func111.trans (cQ some (by kernel_rfl))⟩
 f23:=⟨ "slices.choosePivotCmpFunc[clusterlocks/api.Need]",by decide,Tryz.func112.trans (cQ some (by kernel_rfl))⟩
 f24:=⟨ "slices.reverseRangeCmpFunc[clusterlocks/api.Need]",by decide,Tryz.func113.trans (cQ some (by kernel_rfl))⟩
 f25:=⟨ "slices.partialInsertionSortCmpFunc[clusterlocks/api.Need]",by decide,Tryz.func114.trans (cQ some (by kernel_rfl))⟩
 f26:=⟨ "slices.partitionEqualCmpFunc[clusterlocks/api.Need]",by decide,Tryz.func115.trans (cQ some (by kernel_rfl))⟩
 f27:=⟨ "slices.partitionCmpFunc[clusterlocks/api.Need]",by decide,Tryz.func116.trans (cQ some (by kernel_rfl))⟩
 f28:=Tryz.func106.trans (cQ some (by kernel_rfl))
 f29:=Tryz.func107.trans (cQ some (by kernel_rfl))
 f46:=⟨ "slices.siftDownCmpFunc[clusterlocks/api.Need]",by decide,Tryz.func159.trans (cQ some (by kernel_rfl))⟩
 f47:=Tryz.func155.trans (cQ some (by kernel_rfl))
 f48:=Tryz.func156.trans (cQ some (by kernel_rfl))
 f49:=⟨ "slices.medianAdjacentCmpFunc[clusterlocks/api.Need]",by decide,Tryz.func160.trans (cQ some (by kernel_rfl))⟩
 f50:=⟨ "slices.medianCmpFunc[clusterlocks/api.Need]",by decide,Tryz.func161.trans (cQ some (by kernel_rfl))⟩
 f57:=⟨ "slices.order2CmpFunc[clusterlocks/api.Need]",by decide,Tryz.func214.trans (cQ some (by kernel_rfl))⟩
 t0:=Tryz.underlying0
 a0:=Tryz.isAgg0
 z0:=Tryz.sizeOf0
 v0:=Tryz.zeroValue0
 t3:=Tryz.underlying3
 a3:=Tryz.isAgg3
 z3:=Tryz.sizeOf3
 v3:=Tryz.zeroValue3
 t4:=Tryz.underlying4
 a4:=Tryz.isAgg4
 z4:=Tryz.sizeOf4
 v4:=Tryz.zeroValue4
 t5:=Tryz.underlying5
 a5:=Tryz.isAgg5
 z5:=Tryz.sizeOf5
 v5:=Tryz.zeroValue5
 t9:=Tryz.underlying9
 a9:=Tryz.isAgg9
 z9:=Tryz.sizeOf9
 v9:=Tryz.zeroValue9
 t22:=Tryz.underlying26
 a22:=Tryz.isAgg26
 z22:=Tryz.sizeOf26
 v22:=Tryz.zeroValue26
 t25:=Tryz.underlying82
 a25:=Tryz.isAgg82
 z25:=Tryz.sizeOf82
 v25:=Tryz.zeroValue82
 t39:=Tryz.underlying137
 a39:=Tryz.isAgg137
 z39:=Tryz.sizeOf137
 v39:=Tryz.zeroValue137
 t45:=Tryz.underlying178
 a45:=Tryz.isAgg178
 z45:=Tryz.sizeOf178
 v45:=Tryz.zeroValue178
 t46:=Tryz.underlying179
 a46:=Tryz.isAgg179
 z46:=Tryz.sizeOf179
 v46:=Tryz.zeroValue179
 t50:=Tryz.underlying183
 a50:=Tryz.isAgg183
 z50:=Tryz.sizeOf183
 v50:=Tryz.zeroValue183
 t53:=Tryz.underlying186
 a53:=Tryz.isAgg186
 z53:=Tryz.sizeOf186
 v53:=Tryz.zeroValue186
 t55:=Tryz.underlying145
 a55:=Tryz.isAgg145
 z55:=Tryz.sizeOf145
 v55:=Tryz.zeroValue145
 t66:=Tryz.underlying228
 a66:=Tryz.isAgg228
 z66:=Tryz.sizeOf228
 v66:=Tryz.zeroValue228
 t70:=Tryz.underlying203
 a70:=Tryz.isAgg203
 z70:=Tryz.sizeOf203
 v70:=Tryz.zeroValue203
 t76:=Tryz.underlying274
 a76:=Tryz.isAgg274
 z76:=Tryz.sizeOf274
 v76:=Tryz.zeroValue274
 t77:=Tryz.underlying275
 a77:=Tryz.isAgg275
 z77:=Tryz.sizeOf275
 v77:=Tryz.zeroValue275
def zl3 (x y:bI):Int:=cmpS x.aJ y.aJ
theorem zag5 (x y:bI):zj2 x y=some (zl3 x y):=by unfold zj2; rw [zcE8]; rfl
def zd4 (a0:List bI):Option (List bI):=gd (a0.length≤4294967296∧a0.Pairwise fun x y=>zl3 x y < 0∨zl3 y x < 0) (some (a0.mergeSort fun x y=>!decide (zl3 y x < 0)))
theorem zag6 (a0 r:List bI) (h:zd4 a0=some r):r.length=a0.length:=by
 obtain ⟨_,h⟩:=ze1 h
 obtain rfl:=dZ h
 exact iG _
theorem zag7 (a0 r:List bI) (h:zd4 a0=some r):MFn C 30 [.own 0 0 a0.length,.clo 31 []] [(0,sx a0)] 1 (.tup []) [(0,sx r)] 1:=by
 obtain ⟨⟨hl,hp⟩,h⟩:=ze1 h
 obtain rfl:=dZ h
 exact zbK1 zah7 bI.enc 9 bI.len (by decide) (fun x=>by first|exact (bI.laws x).1|exact (bI.laws x).2.1) Tryz.isAgg53 Tryz.sizeOf53 zl3 (zcD9 (fun x:bI=>x.aJ) zcm8) 31 (fun x y=>(zbc9 x y).ok _ (zag5 x y)) (enters_of Tryz.func31 (by kernel_rfl) rfl) rfl _ a0 hl (zcd5 hp)
attribute [local irreducible] zd4
def zaf2 (j1:(List aM)):Option (Bool×(List aM)) :=
 some (true,j1)
@[go_sem] def zdt0  (j1:(List aM)):St:=⟨[],[(0,⟨false,1,[A.sl ([].map aM.enc)],[[.own 2 0 j1.length]]⟩),(2,sx j1)],3⟩
def zJ6 (a90:(aP→List aM→Option (Bool×(List aM)))) (a0:aP) (g1:Int×(List aM)):Option ((Int×(List aM))⊕((List aM)⊕(Bool×(List aM)))) :=
 (if (decide (g1.1 < (a0.bE.length:Int)))=true then
  gd (0≤g1.1∧g1.1 < (a0.bE.length:Int)) <|
  (a90 (a0.bE.getD g1.1.toNat aP.zero) g1.2).bind fun v3 =>
  (if (!v3.1)=true then
   some (.inr (.inr (false,v3.2)))
  else
   some (.inl ((i64.wrap (g1.1+1)),v3.2)))
 else
  some (.inr (.inl g1.2)))
@[go_sem] def zdt1 (a0:aP) (g1:Int×(List aM)):St:=⟨[(1,.ptr 0 0 0),(44,la a0.bE),(45,.int .i64 (a0.bE.length:Int)),(46,.int .i64 g1.1)],[(0,⟨false,1,[A.sl ([].map aM.enc)],[[.own 2 0 g1.2.length]]⟩),(2,sx g1.2)],3⟩
def zN3 (a90:(aP→List aM→Option (Bool×(List aM)))) (a0:aP) (a1:List aM):Option (Bool×(List aM)) :=
 (if (decide ((a0.bE.length:Int)=0))=true then
  ((if (decide (a0.k=0))=true then zi3 a0.bF else some false)).bind fun v1 =>
  (if (decide (a0.k=0)&&v1)=true then
   (zf7 a0.bF a1).bind fun v2 =>
   some (((decide (a0.k=0)&&v1)&&decide (v2.1=0)),v2.2)
  else
   some (((decide (a0.k=0)&&v1)&&decide (0=0)),a1))
 else
  (if ((decide (a0.k < 1)||decide ((a0.bE.length:Int) < a0.k))||(!decide (a0.bF={ aM.zero with  })))=true then
   some (false,a1)
  else
   (zb9 (zJ6 a90 a0) (0,a1)).bind (fun|.inl z=>zaf2 z|.inr z=>some z)))
def zv0:Nat→(aP→List aM→Option (Bool×(List aM)))
 | 0=>fun _ _=>none
 | n+1=>zN3 (zv0 n)
def zq8 (a0:aP) (a1:List aM):Option (Bool×(List aM)):=zv0 (_root_.SizeOf.sizeOf a0+1) a0 a1
theorem zbd5 (a90:(aP→List aM→Option (Bool×(List aM)))) (hrc:∀ (a0:aP) (a1:List aM) (r:Bool×(List aM)),a90 a0 a1=some r→MFn C 82 [ga a0,.ptr 0 0 0] [(0,⟨false,1,[A.sl ([].map aM.enc)],[[.own 1 0 a1.length]]⟩),(1,sx a1)] 2 (.bool r.1) [(0,⟨false,1,[A.sl ([].map aM.enc)],[[.own 2 0 r.2.length]]⟩),(2,sx r.2)] 3) (a0:aP) (a1:List aM) (r:Bool×(List aM)) (h:zN3 a90 a0 a1=some r):MFn C 82 [ga a0,.ptr 0 0 0] [(0,⟨false,1,[A.sl ([].map aM.enc)],[[.own 1 0 a1.length]]⟩),(1,sx a1)] 2 (.bool r.1) [(0,⟨false,1,[A.sl ([].map aM.enc)],[[.own 2 0 r.2.length]]⟩),(2,sx r.2)] 3:=by
 refine zax1 Tryz.f82 [] [.bool r.1] fun E hG hN hK=>?_
 unfold zN3 at h
 refine za2 (za5 hG ?_)
 refine za2 (za2 (za5 hG ?_))
 refine zl4 rfl hG h (fun _ h=>?_) (fun _ h=>?_)
 · refine za2 (za5 hG ?_)
   obtain ⟨v1,hv1,h⟩:=zc7 h
   refine zr9 (fun hg=>(zbd3 a0.bF).ok _ (zaN2 hg hv1)) ?_
   refine zcD3 h (fun hc h=>?_) (fun hc h=>?_)
   · obtain ⟨v2,hv2,h⟩:=zc7 h
     refine zcl6 hc [(0,0),(1,1)] [(2,3)] [0,1,2] ((zbn9 a0.bF a1).ok _ hv2) rfl rfl ?_
     refine zt4 ?_
     exact zO9 [(0,0),(2,3)] h
   refine zcl7 hc (.int .i64 0) ?_
   refine zt4 ?_
   exact zO9 [(0,0),(2,1)] h
 refine zk1 ?_
 refine za2 (za2 (za5 hG ?_))
 refine zl4 rfl hG h (fun _ h=>?_) (fun _ h=>?_)
 · refine za2 (za5 hG ?_)
   refine zt4 ?_
   exact zO9 [(0,0),(2,1)] h
 refine zk1 ?_
 refine za2 (za2 (za5 hG ?_))
 refine zD0 zdt0 (fun v=>zaf2 v=some r) ?_ ?_
 · intro j1 h
   unfold zaf2 at h
   refine g_st ?_
   refine za2 (za5 hG ?_)
   refine zt4 ?_
   exact zO9 [(0,0),(2,2)] h
 refine zY8 (zdt1 a0) hK [(0,0),(2,1)] h (fun x_l1 h g1 y_l1 h_l1 hx_l1=>?_)
 unfold zJ6 at h_l1
 refine g_st ?_
 refine za2 (za5 hG ?_)
 refine za2 ?_
 refine zl4 rfl hG h_l1 (fun _ h_l1=>?_) (fun _ h_l1=>?_)
 · refine zk1 ?_
   refine za2 (zC3 (za2 ?_))
   obtain ⟨hb1,h_l1⟩:=ze1 h_l1
   refine za5 hG ?_
   refine za2 (za5 hG ?_)
   obtain ⟨v3,hv3,h_l1⟩:=zc7 h_l1
   refine zr6 [(0,0),(1,2)] [(2,4)] [0,1,2] (hrc (a0.bE.getD g1.1.toNat aP.zero) g1.2 _ hv3) rfl rfl ?_
   refine zl4 rfl hG h_l1 (fun _ h_l1=>?_) (fun _ h_l1=>?_)
   · refine za2 (za5 hG ?_)
     refine zt4 ?_
     cases h_l1
     cases hx_l1 _ rfl
     exact zO9 [(0,0),(2,4)] h
   refine zk1 ?_
   refine za5 hG ?_
   exact zJ0 hK [(0,0),(2,4)] h_l1
 refine zG4 ?_
 cases h_l1
 cases hx_l1 _ rfl
 exact zA9 hK [(0,0),(2,2)] g1.2 (by exact h)
theorem zaD6:∀ (n:Nat) (a0:aP) (a1:List aM) (r:Bool×(List aM)),zv0 n a0 a1=some r→MFn C 82 [ga a0,.ptr 0 0 0] [(0,⟨false,1,[A.sl ([].map aM.enc)],[[.own 1 0 a1.length]]⟩),(1,sx a1)] 2 (.bool r.1) [(0,⟨false,1,[A.sl ([].map aM.enc)],[[.own 2 0 r.2.length]]⟩),(2,sx r.2)] 3
 | 0,_,_,_,h=>nomatch h
 | n+1,a0,a1,r,h=>zbd5 (zv0 n) (zaD6 n) a0 a1 r h
instance zbd6 (a0:aP) (a1:List aM):OkM (zq8 a0 a1) 82 [ga a0,.ptr 0 0 0] [(0,⟨false,1,[A.sl ([].map aM.enc)],[[.own 1 0 a1.length]]⟩),(1,sx a1)] 2 (fun r=>.bool r.1) (fun r=>[(0,⟨false,1,[A.sl ([].map aM.enc)],[[.own 2 0 r.2.length]]⟩),(2,sx r.2)]) 3:=⟨fun r h=>zaD6 _ a0 a1 r h⟩
attribute [local irreducible] zq8
def zar8 (j3:(List Int)):Option (List Int) :=
 some j3
def zar9 (a1:aA) (g1:(List Int)×Int):Option (((List Int)×Int)⊕(List Int)) :=
 (if (decide (g1.2 < (a1.aS.length:Int)))=true then
  gd (0≤g1.2∧g1.2 < (a1.aS.length:Int)) <|
  (zk4 g1.1 ((a1.aS.getD g1.2.toNat aT.zero).aJ)).bind fun v5 =>
  (zc9 v5 [((a1.aS.getD g1.2.toNat aT.zero).aN).mode,((a1.aS.getD g1.2.toNat aT.zero).aN).aR,(a1.aS.getD g1.2.toNat aT.zero).bC,(a1.aS.getD g1.2.toNat aT.zero).bR]).bind fun v6 =>
  some (.inl (v6,i64.wrap (g1.2+1)))
 else
  some (.inr g1.1))
def zaa1 (a1:aA) (j2:(List Int)):Option (List Int) :=
 (zc9 j2 [(a1.aS.length:Int)]).bind fun v4 =>
 (zb9 (zar9 a1) (v4,0)).bind (fun z=>zar8 z)
def zas0 (a1:aA) (g2:(List Int)×Int):Option (((List Int)×Int)⊕(List Int)) :=
 (if (decide (g2.2 < (a1.aO.length:Int)))=true then
  gd (0≤g2.2∧g2.2 < (a1.aO.length:Int)) <|
  (zk4 g2.1 ((a1.aO.getD g2.2.toNat aT.zero).aJ)).bind fun v7 =>
  (zc9 v7 [((a1.aO.getD g2.2.toNat aT.zero).aN).mode,((a1.aO.getD g2.2.toNat aT.zero).aN).aR]).bind fun v8 =>
  some (.inl (v8,i64.wrap (g2.2+1)))
 else
  some (.inr g2.1))
def zaa2 (a1:aA) (j1:(List Int)):Option (List Int) :=
 (zc9 j1 [(a1.aO.length:Int)]).bind fun v3 =>
 (zb9 (zas0 a1) (v3,0)).bind (fun z=>zaa1 a1 z)
def zas1 (a1:aA) (g3:(List Int)×Int):Option (((List Int)×Int)⊕(List Int)) :=
 (if (decide (g3.2 < (a1.aQ.length:Int)))=true then
  gd (0≤g3.2∧g3.2 < (a1.aQ.length:Int)) <|
  (zk4 g3.1 ((a1.aQ.getD g3.2.toNat aV.zero).aJ)).bind fun v9 =>
  (zc9 v9 [((a1.aQ.getD g3.2.toNat aV.zero).aN).mode,((a1.aQ.getD g3.2.toNat aV.zero).aN).aR]).bind fun v10 =>
  some (.inl (v10,i64.wrap (g3.2+1)))
 else
  some (.inr g3.1))
def zo0 (a0:List Int) (a1:aA):Option (List Int) :=
 (zk2 a0 a1.aB.name).bind fun v1 =>
 (zc9 v1 [a1.aB.kind,a1.aB.aR,a1.aB.home,a1.gen,(a1.aQ.length:Int)]).bind fun v2 =>
 (zb9 (zas1 a1) (v2,0)).bind (fun z=>zaa2 a1 z)
@[reducible,instance] def zdN7 a1 j2 {T1:Type} (v4:T1):=mkJ (zaa1 a1 j2,v4) 4 (@zar8.eq_1) fun (j3:(List Int))=>⟨[(0,.sl (j3.map (eI .u8)))],[],0⟩
@[reducible,instance] def zdN8 (a1:aA) {T:Type} (x:T):=mkL x (@zar9.eq_1 a1) fun (g1:(List Int)×Int)=>⟨[(0,.sl (g1.1.map (eI .u8))),(84,la a1.aS),(85,.int .i64 (a1.aS.length:Int)),(86,.int .i64 g1.2)],[],0⟩
@[reducible,instance] def zdN9 (a1:aA) j1 {T1:Type} (v3:T1):=mkJ (zaa2 a1 j1,v3) 2 (@zaa1.eq_1 a1) fun (j2:(List Int))=>⟨[(0,.sl (j2.map (eI .u8))),(3,.ptr 0 0 0)],[(0,bx a1)],1⟩
@[reducible,instance] def zdO0 (a1:aA) {T:Type} (x:T):=mkL x (@zas0.eq_1 a1) fun (g2:(List Int)×Int)=>⟨[(0,.sl (g2.1.map (eI .u8))),(3,.ptr 0 0 0),(58,la a1.aO),(59,.int .i64 (a1.aO.length:Int)),(60,.int .i64 g2.2)],[(0,bx a1)],1⟩
@[reducible,instance] def zdO1 a0 (a1:aA) {T1:Type} (v1:T1) {T2:Type} (v2:T2):=mkJ ((zo0 a0 a1,v1),v2) 0 (@zaa2.eq_1 a1) fun (j1:(List Int))=>⟨[(0,.sl (j1.map (eI .u8))),(3,.ptr 0 0 0)],[(0,bx a1)],1⟩
@[reducible,instance] def zdO2 (a1:aA) {T:Type} (x:T):=mkL x (@zas1.eq_1 a1) fun (g3:(List Int)×Int)=>⟨[(0,.sl (g3.1.map (eI .u8))),(3,.ptr 0 0 0),(32,la a1.aQ),(33,.int .i64 (a1.aQ.length:Int)),(34,.int .i64 g3.2)],[(0,bx a1)],1⟩
instance zci1 (a0:List Int) (a1:aA):OkP (zo0 a0 a1) 37 [.sl (a0.map (eI .u8)),ga a1] (fun r=>.sl (r.map (eI .u8))):=ok1 (zo0.eq_1 a0 a1) Tryz.f37 []
attribute [local irreducible] zo0
def zh5 (a0:bD):Option (aK×bD) :=
 (if (!decide (a0.bO.err=0))=true then
  some ({ aK.zero with  },a0)
 else
  (zs6 a0.bO.rest).bind fun v1 =>
  (if (!decide (v1.2.2=0))=true then
   some ({ aK.zero with  },{ a0 with bO:={ a0.bO with err:=v1.2.2 } })
  else
   gd (0≤v1.2.1∧v1.2.1≤(a0.bO.rest.length:Int)∧(a0.bO.rest.length:Int)≤(a0.bO.rest.length:Int)) <|
   some (v1.1,{ a0 with bO:={ a0.bO with rest:=(a0.bO.rest.drop v1.2.1.toNat) } })))
instance zbF5 (a0:bD):OkM (zh5 a0) 42 [.ptr 0 0 0] [(0,bx a0)] 1 (fun r=>ga r.1) (fun r=>[(0,bx r.2)]) 1:=okm (zh5.eq_1 a0) (fun r=>[ga r.1]) Tryz.f42 []
attribute [local irreducible] zh5
def zI3 (j1:aK):Option (Int×aK) :=
 some ((-1),j1)
def zu4 (a0:List bI) (g1:Int×aK):Option ((Int×aK)⊕(aK⊕(Int×aK))) :=
 (if (decide (g1.1 < (a0.length:Int)))=true then
  gd (0≤g1.1∧g1.1 < (a0.length:Int)) <|
  (zh1 (a0.getD g1.1.toNat bI.zero) g1.2).bind fun v1 =>
  (if v1.1=true then
   some (.inr (.inr (g1.1,v1.2)))
  else
   some (.inl ((i64.wrap (g1.1+1)),v1.2)))
 else
  some (.inr (.inl g1.2)))
def zd2 (a0:List bI) (a1:aK):Option (Int×aK) :=
 (zb9 (zu4 a0) (0,a1)).bind (fun|.inl z=>zI3 z|.inr z=>some z)
@[reducible,instance] def zdO3 a0 a1:=mkJ (zd2 a0 a1) 0 (@zI3.eq_1) fun (j1:aK)=>⟨[],[(0,bx j1)],1⟩
@[reducible,instance] def zdO4 (a0:List bI) {T:Type} (x:T):=mkL x (@zu4.eq_1 a0) fun (g1:Int×aK)=>⟨[(0,la a0),(1,.clo 60 [.ptr 0 0 0]),(7,.int .i64 (a0.length:Int)),(8,.int .i64 g1.1)],[(0,bx g1.2)],1⟩
instance zbb0 (a0:List bI) (a1:aK):OkM (zd2 a0 a1) 59 [la a0,.clo 60 [.ptr 0 0 0]] [(0,bx a1)] 1 (fun r=>.int .i64 r.1) (fun r=>[(0,bx r.2)]) 1:=okm (zd2.eq_1 a0 a1) (fun r=>[.int .i64 r.1]) Tryz.f59 [(16,1)]
attribute [local irreducible] zd2
def zi8 (a0 a1:aA):Option Bool :=
 ((if (decide (a0.gen=a1.gen))=true then ze2 a0 a1 else some false)).bind fun v1 =>
 ((if (decide (a0.gen=a1.gen)&&v1)=true then za8 a0.aS a1.aS else some false)).bind fun v2 =>
 some ((decide (a0.gen=a1.gen)&&v1)&&v2)
instance zaW7 (a0 a1:aA):OkP (zi8 a0 a1) 23 [ga a0,ga a1] (fun r=>.bool r):=ok1 (zi8.eq_1 a0 a1) Tryz.f23 []
attribute [local irreducible] zi8
def zv3 (j1:Unit):Option Bool :=
 some true
def zm7 (a0 a1:List aA) (g1:Int):Option (Int⊕(Unit⊕Bool)) :=
 (if (decide (g1 < (a0.length:Int)))=true then
  gd (0≤g1∧g1 < (a0.length:Int)) <|
  gd (0≤g1∧g1 < (a1.length:Int)) <|
  (ze2 (a0.getD g1.toNat aA.zero) (a1.getD g1.toNat aA.zero)).bind fun v1 =>
  (if (!v1)=true then
   some (.inr (.inr false))
  else
   some (.inl (i64.wrap (g1+1))))
 else
  some (.inr (.inl ())))
def za7 (a0 a1:List aA):Option Bool :=
 (if (!decide ((a0.length:Int)=(a1.length:Int)))=true then
  some false
 else
  (zb9 (zm7 a0 a1) 0).bind (fun|.inl z=>zv3 z|.inr z=>some z))
@[reducible,instance] def zdO5 a0 a1:=mkJ (za7 a0 a1) 0 (@zv3.eq_1) fun (j1:Unit)=>⟨[],[],0⟩
@[reducible,instance] def zdO6 (a0 a1:List aA) {T:Type} (x:T):=mkL x (@zm7.eq_1 a0 a1) fun (g1:Int)=>⟨[(1,la a1),(2,.clo 34 []),(15,la a0),(16,.int .i64 (a0.length:Int)),(17,.int .i64 g1)],[],0⟩
instance zF8 (a0 a1:List aA):OkM (za7 a0 a1) 33 [la a0,la a1,.clo 34 []] [] 0 (fun r=>.bool r) (fun r=>[]) 0:=okm (za7.eq_1 a0 a1) (fun r=>[.bool r]) Tryz.f33 []
attribute [local irreducible] za7
end
end Ab
end Go.Proofs.YtfkjffmjkbkmhaaGreatDoor
