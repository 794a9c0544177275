import Derived.Test.YtcggeefhhegeoaaGreatDoorCode
import Derived.Test.YtcggeefhhegeoaaGreatDoorHm29
import Derived.Test.YtcggeefhhegeoaaGreatDoorHm30
namespace Go.Proofs.YtcggeefhhegeoaaGreatDoor
namespace Ab
set_option linter.unusedSimpArgs false
set_option linter.unusedVariables false
theorem zd2 {x:Int} (h1:-9223372036854775808≤x) (h2:x < 9223372036854775808):IntKind.i64.wrap x=x:=by
 rw [IntKind.wrap_i64]; omega
theorem zct8 {G X:Type} {body:G→Option (G⊕X)} (I:G→Prop) (μ:G→Nat) (spec:G→X)
  (h:∀ g,I g→(∃ g',body g=some (.inl g')∧I g'∧μ g' < μ g∧spec g'=spec g)∨body g=some (.inr (spec g))):∀ g,I g→zc0 body g=some (spec g):=by
 have key:∀ n g,μ g=n→I g→zc0 body g=some (spec g):=by
  intro n
  induction n using Nat.strongRecOn with
  | _ n ih =>
   intro g hn hg
   rw [ze0]
   rcases h g hg with ⟨g',h1,h2,h3,h4⟩|h1
   ·rw [h1]; simp only; rw [ih (μ g') (hn ▸ h3) g' rfl h2,h4]
   ·rw [h1]
 exact fun g hg=>key _ g rfl hg
def zU5 {X:Type} (out:Nat→Option X):Nat→Nat→Option X
 | 0,_=>none
 | n+1,i=>match out i with
  | some x=>some x
  | none=>zU5 out n (i+1)
theorem zM3 {X:Type} {body:Int→Option (Int⊕X)} (n:Nat) (out:Nat→Option X) (fin:X)
  (h:∀ i:Nat,i < n→body i=some (match out i with|some x=>.inr x|none=>.inl ((i:Int)+1))) (hend:body n=some (.inr fin)):zc0 body 0=some ((zU5 out n 0).getD fin):=by
 have key:∀ k i,i+k=n→zc0 body (i:Int)=some ((zU5 out k i).getD fin):=by
  intro k
  induction k with
  | zero =>
   intro i hi
   rw [ze0,show i=n by omega,hend]
   rfl
  | succ k ih =>
   intro i hi
   rw [ze0,h i (by omega)]
   simp only [zU5]
   cases ho:out i with
   | some x=>rfl
   | none =>
    simp only
    have:=ih (i+1) (by omega)
    rw [show ((i+1:Nat):Int)=(i:Int)+1 by omega] at this
    exact this
 exact key n 0 (by omega)
def zbe1 {S X:Type} (step:Nat→S→S⊕X) (fin:S→X):Nat→Nat→S→X
 | 0,_,s=>fin s
 | n+1,i,s=>match step i s with
  | .inl s'=>zbe1 step fin n (i+1) s'
  | .inr x=>x
theorem zcS1 {S X:Type} {body:Int×S→Option ((Int×S)⊕X)} (n:Nat) (step:Nat→S→S⊕X) (fin:S→X) (inv:Nat→S→Prop)
  (h:∀ i s,i < n→inv i s→body ((i:Int),s)=some (match step i s with|.inl s'=>.inl ((i:Int)+1,s')|.inr x=>.inr x)∧∀ s',step i s=.inl s'→inv (i+1) s')
  (hend:∀ s,inv n s→body ((n:Int),s)=some (.inr (fin s))) (s0:S) (h0:inv 0 s0):zc0 body (0,s0)=some (zbe1 step fin n 0 s0):=by
 have key:∀ k i s,i+k=n→inv i s→zc0 body ((i:Int),s)=some (zbe1 step fin k i s):=by
  intro k
  induction k with
  | zero =>
   intro i s hi hs
   rw [ze0,show i=n by omega,hend s (by rw [← show i=n by omega]; exact hs)]
   rfl
  | succ k ih =>
   intro i s hi hs
   obtain ⟨h1,h2⟩:=h i s (by omega) hs
   rw [ze0,h1]
   simp only [zbe1]
   cases ho:step i s with
   | inr x=>rfl
   | inl s' =>
    simp only
    have:=ih (i+1) s' (by omega) (h2 s' ho)
    rw [show ((i+1:Nat):Int)=(i:Int)+1 by omega] at this
    exact this
 exact key n 0 s0 (by omega) h0
theorem zw0 {G X:Type} {body:G→Option (G⊕X)} (I:G→Prop) (μ:G→Nat) (Post:X→Prop)
  (h:∀ g,I g→(∃ g',body g=some (.inl g')∧I g'∧μ g' < μ g)∨∃ x,body g=some (.inr x)∧Post x):∀ g,I g→∃ x,zc0 body g=some x∧Post x:=by
 have key:∀ n g,μ g=n→I g→∃ x,zc0 body g=some x∧Post x:=by
  intro n
  induction n using Nat.strongRecOn with
  | _ n ih =>
   intro g hn hg
   rw [ze0]
   rcases h g hg with ⟨g',h1,h2,h3⟩|⟨x,h1,h2⟩
   ·rw [h1]; exact ih (μ g') (hn ▸ h3) g' rfl h2
   ·rw [h1]; exact ⟨x,rfl,h2⟩
 exact fun g hg=>key _ g rfl hg
theorem zct9 {S X:Type} {body:Int×S→Option ((Int×S)⊕X)} (n:Nat) (step:Nat→S→S⊕X) (fin:S→X) (inv:Nat→S→Prop)
  (h:∀ i s,i < n→inv i s→body ((i:Int),s)=some (match step i s with|.inl s'=>.inl ((i:Int)+1,s')|.inr x=>.inr x)∧∀ s',step i s=.inl s'→inv (i+1) s')
  (hend:∀ s,inv n s→body ((n:Int),s)=some (.inr (fin s))):∀ k i s,i+k=n→inv i s→zc0 body ((i:Int),s)=some (zbe1 step fin k i s):=by
 intro k
 induction k with
 | zero =>
  intro i s hi hs
  rw [ze0,show i=n by omega,hend s (by rw [← show i=n by omega]; exact hs)]
  rfl
 | succ k ih =>
  intro i s hi hs
  obtain ⟨h1,h2⟩:=h i s (by omega) hs
  rw [ze0,h1]
  simp only [zbe1]
  cases ho:step i s with
  | inr x=>rfl
  | inl s' =>
   simp only
   have:=ih (i+1) s' (by omega) (h2 s' ho)
   rw [show ((i+1:Nat):Int)=(i:Int)+1 by omega] at this
   exact this
theorem zU6 (p:Nat→Bool) {U:Type}:∀ k i,zU5 (fun i=>if p i=true then none else some (Sum.inr (α:=U) false)) k i=if (List.range' i k).all p=true then none else some (.inr false)
 | 0,i=>rfl
 | k+1,i=>by
  simp only [zU5,gV,List.all_cons]
  cases hp:p i with
  | true =>
   simp only [cE,cN]
   exact zU6 p k (i+1)
  | false=>simp
theorem zdh4 {α:Type} [DecidableEq α] (a b:List α) (z:α) (h:a.length=b.length):((List.range a.length).all fun i=>decide (a.getD i z=b.getD i z))=decide (a=b):=by
 rw [dL]
 simp only [eO,eR,cB]
 constructor
 ·intro hh
  refine List.ext_getElem h fun i h1 h2=>?_
  have:=hh i h1
  rwa [bZ,bZ,cC h1,cC h2] at this
 ·rintro rfl i _; rfl
theorem zbC0 {α:Type} [DecidableEq α] (a b:List α) (z:α) {body:Int→Option (Int⊕(Unit⊕Bool))} (hl:a.length < 4611686018427387904) (h:a.length=b.length)
  (hb:∀ i:Int,body i=if (decide (i < (a.length:Int)))=true then gd (0≤i∧i < (a.length:Int)) <| gd (0≤i∧i < (b.length:Int)) <|
   (if (!decide (a.getD i.toNat z=b.getD i.toNat z))=true then some (.inr (.inr false)) else some (.inl (IntKind.i64.wrap (i+1)))) else some (.inr (.inl ()))) :
  (zc0 body 0).bind (fun|.inl _=>some true|.inr z=>some z)=some (decide (a=b)):=by
 have key:zc0 body 0=some ((zU5 (fun i=>if decide (a.getD i z=b.getD i z)=true then none else some (Sum.inr false)) a.length 0).getD (Sum.inl ())):=by
  refine zM3 a.length _ (Sum.inl ()) (fun i hi=>?_) ?_
  ·rw [hb,bY (cS (by omega)),zh6 (by omega),zh6 (by omega)]
   simp only [Int.toNat_natCast]
   by_cases hx:a.getD i z=b.getD i z
   ·simp only [hx,cF,cL,bV,cD,cE]
    rw [zd2 (by omega) (by omega)]
   ·simp only [hx,cK,cY,cE,bV,cD]
  ·rw [hb,bW (by simp)]
 rw [key,zU6,← eN,zdh4 a b z h]
 cases decide (a=b) <;> rfl
theorem zbS2 {α:Type} (f:Nat→α):∀ n i (s:List α),zbe1 (X:=List α) (fun i s=>.inl (s++[f i])) (fun s=>s) n i s=s++(List.range' i n).map f
 | 0,i,s=>by simp [zbe1]
 | n+1,i,s=>by simp [zbe1,zbS2 f n (i+1),gV]
theorem zbS3 {α:Type} (l:List α) (z:α) (p:α→Bool):∀ n i (s:List α),i+n=l.length→zbe1 (X:=List α) (fun i s=>.inl (if p (l.getD i z)=true then s++[l.getD i z] else s)) (fun s=>s) n i s=s++(l.drop i).filter p
 | 0,i,s,h=>by simp [zbe1,gJ (show l.length≤i by omega)]
 | n+1,i,s,h=>by
  have hd:l.drop i=l.getD i z :: l.drop (i+1):=by
   rw [fT (show i < l.length by omega),bZ,cC (show i < l.length by omega)]; rfl
  rw [hd]
  simp only [zbe1,zbS3 l z p n (i+1) _ (by omega),List.filter_cons]
  split <;> simp
theorem zaq9 {α:Type} (l:List α) (i:Nat) (z:α) (h:i < l.length):l.drop i=l.getD i z :: l.drop (i+1):=by
 rw [fT h,bZ,cC h]; rfl
theorem zbS4 {α β:Type} (l:List α) (z:α) (f:α→β):∀ n i,i+n≤l.length→(List.range' i n).map (fun i=>f (l.getD i z))=((l.drop i).take n).map f
 | 0,i,h=>by simp
 | n+1,i,h=>by
  rw [zaq9 l i z (by omega),List.take_succ_cons,gV,eD,eD,zbS4 l z f n (i+1) (by omega)]
theorem zcf2 {α:Type} (l:List α) (i n:Nat) (z:α) (h:i < n):(l.take n).getD i z=l.getD i z:=by
 rw [bZ,bZ,dP,bY h]
theorem zw3 {α:Type} (l:List α) (i:Nat) (x z:α) (h:i < l.length):(l.set i x).getD i z=x:=by
 rw [bZ,List.getElem?_set_self h]; rfl
theorem zcS2 {α:Type} (l m:List α) (i:Nat) (z:α) (h:i < l.length):(l++m).getD i z=l.getD i z:=by
 rw [bZ,bZ,dM h]
def walk {α S X:Type} (step:Nat→α→S→Option (S⊕X)) (fin:S→X):List α→Nat→S→Option X
 | [],_,s=>some (fin s)
 | a :: l,i,s=>match step i a s with
  | none=>none
  | some (.inl s')=>walk step fin l (i+1) s'
  | some (.inr x)=>some x
def wmap {G S X:Type} (mk:S→G):S⊕X→G⊕X
 | .inl s=>.inl (mk s)
 | .inr x=>.inr x
theorem zE6 {α S X G:Type} {body:G→Option (G⊕X)} (l:List α) (z:α) (mk:Nat→S→G) (step:Nat→α→S→Option (S⊕X)) (fin:S→X) (inv:Nat→S→Prop)
  (hb:∀ i s,i < l.length→inv i s→body (mk i s)=(step i (l.getD i z) s).map (wmap (mk (i+1)))∧∀ s',step i (l.getD i z) s=some (.inl s')→inv (i+1) s')
  (he:∀ s,inv l.length s→body (mk l.length s)=some (.inr (fin s))) (s0:S) (h0:inv 0 s0):zc0 body (mk 0 s0)=walk step fin l 0 s0:=by
 have key:∀ k i s,i+k=l.length→inv i s→zc0 body (mk i s)=walk step fin (l.drop i) i s:=by
  intro k
  induction k with
  | zero =>
   intro i s hi hs
   have:i=l.length:=by omega
   subst this
   rw [ze0,he s hs,iR]
   rfl
  | succ k ih =>
   intro i s hi hs
   obtain ⟨h1,h2⟩:=hb i s (by omega) hs
   rw [ze0,h1,zaq9 l i z (by omega)]
   simp only [walk]
   cases ho:step i (l.getD i z) s with
   | none=>rfl
   | some y =>
    cases y with
    | inl s'=>exact ih (i+1) s' (by omega) (h2 s' ho)
    | inr x=>rfl
 have:=key l.length 0 s0 (by omega) h0
 rwa [fP] at this
theorem zan6 {α S X G:Type} {body:G→Option (G⊕X)} (l:List α) (z:α) (mk:Nat→S→G) (step:Nat→α→S→Option (S⊕X)) (fin:S→X)
  (hb:∀ i s,i < l.length→body (mk i s)=(step i (l.getD i z) s).map (wmap (mk (i+1))))
  (he:∀ s,body (mk l.length s)=some (.inr (fin s))) (s0:S):zc0 body (mk 0 s0)=walk step fin l 0 s0 :=
 zE6 l z mk step fin (fun _ _=>True) (fun i s h _=>⟨hb i s h,fun _ _=>trivial⟩) (fun s _=>he s) s0 trivial
theorem zd0 (i:Nat) (h:i < 4611686018427387904):IntKind.i64.wrap ((i:Int)+1)=((i+1:Nat):Int):=by rw [zd2 (by omega) (by omega)]; omega
theorem zaD0 (i:Nat) (h:i < 4611686018427387904) (h0:0 < i):IntKind.i64.wrap ((i:Int) - 1)=((i - 1:Nat):Int):=by rw [zd2 (by omega) (by omega)]; omega
theorem gdp {α:Type} {p:Prop} [Decidable p] {k:Option α} (h:p):gd p k=k:=bY h
@[simp] theorem zo2 {α:Type} [Decidable True] (k:Option α):gd True k=k:=bY trivial
@[simp] theorem zdh5 {α:Type} [Decidable False] (k:Option α):gd False k=none:=bW (fun h=>h)
theorem gdn {α:Type} {p:Prop} [Decidable p] {k:Option α} (h:¬ p):gd p k=none:=bW h
def zaH6 {β:Type} (s:List β):Option β→List β
 | some b=>s++[b]
 | none=>s
theorem zcS3 {β:Type} (s:List β) (o:Option β):(zaH6 s o).length≤s.length+1:=by cases o <;> simp [zaH6]
theorem zaL2 {α β X:Type} (f:α→Option β) (fin:List β→X):∀ (l:List α) (i:Nat) (s:List β),
  walk (fun _ a s=>some (.inl (zaH6 s (f a)))) fin l i s=some (fin (s++l.filterMap f))
 | [],i,s=>by simp [walk]
 | a :: l,i,s=>by
  simp only [walk,List.filterMap_cons]
  rw [zaL2 f fin l (i+1)]
  cases f a <;> simp [zaH6]
abbrev cmpP (p q:aJ):Int:=zv1 p q
def ltP (p q:aJ):Prop:=p.site < q.site∨p.site=q.site∧(p.inc < q.inc∨p.inc=q.inc∧p.num < q.num)
instance (p q:aJ):Decidable (ltP p q):=by unfold ltP; infer_instance
theorem zcu0 (a b:Int):zQ5 a b=if a < b then -1 else if b < a then 1 else 0:=by
 unfold zQ5; simp only [cB]
theorem zbM1 (p q:aJ):cmpP p q=if ltP p q then -1 else if ltP q p then 1 else 0:=by
 obtain ⟨a,b,c⟩:=p
 obtain ⟨d,e,f⟩:=q
 unfold cmpP zv1 ltP
 simp only [zcu0,dB,dD]
 grind
theorem zaD1 (p:aJ):¬ ltP p p:=by unfold ltP; omega
theorem zaD2 {p q r:aJ} (h:ltP p q) (k:ltP q r):ltP p r:=by unfold ltP at *; omega
theorem zbC1 {p q:aJ} (h:ltP p q):¬ ltP q p:=by unfold ltP at *; omega
theorem zaD3 {p q:aJ} (h:p≠q):ltP p q∨ltP q p:=by
 obtain ⟨a,b,c⟩:=p
 obtain ⟨d,e,f⟩:=q
 simp only [ne_eq,aJ.mk.injEq] at h
 unfold ltP
 simp only
 omega
theorem zbS5 (p q:aJ):0 < cmpP p q ↔ ltP q p:=by
 rw [zbM1]
 by_cases h:ltP p q
 ·simp [h,zbC1 h]
 ·by_cases h2:ltP q p <;> simp [h,h2]
theorem zaR6 (p q:aJ):0≤cmpP p q ↔ ¬ ltP p q:=by
 rw [zbM1]
 by_cases h:ltP p q
 ·simp [h]
 ·by_cases h2:ltP q p <;> simp [h,h2]
theorem zar0 (p q:aJ):zd8 p q=some (cmpP p q):=by
 unfold zd8 zh3
 have e:∀ (x y z:Int) (i:Nat) (h:[x,y,z].length=3),Arr.get (⟨[x,y,z],h⟩:Arr Int 3) i 0=match i with|0=>x|1=>y|_=>z:=by
  intro x y z i h
  match i with
  | 0=>rfl
  | 1=>rfl
  | 2=>rfl
  | n+3 =>
   have:¬ (n+3 < 3):=by omega
   simp [Arr.get,zN5,this]
 have w1:IntKind.i64.wrap (0+1)=1:=by decide
 have w2:IntKind.i64.wrap (1+1)=2:=by decide
 have w3:IntKind.i64.wrap (2+1)=3:=by decide
 have s3:zp4 ⟨[p.site,p.inc,p.num],rfl⟩ ⟨[q.site,q.inc,q.num],rfl⟩ 3=some (.inr (.inl ())):=by unfold zp4; simp
 have s2:zp4 ⟨[p.site,p.inc,p.num],rfl⟩ ⟨[q.site,q.inc,q.num],rfl⟩ 2=some (if p.num < q.num then .inr (.inr (-1)) else if q.num < p.num then .inr (.inr 1) else .inl 3):=by
  unfold zp4
  rw [bY (by decide),gdp (by decide),gdp (by decide),gdp (by decide)]
  simp only [e,show (2:Int).toNat=2 from rfl,cB,w3]
  by_cases h:p.num < q.num
  ·simp [h]
  ·by_cases h2:q.num < p.num <;> simp [h,h2]
 have s1:zp4 ⟨[p.site,p.inc,p.num],rfl⟩ ⟨[q.site,q.inc,q.num],rfl⟩ 1=some (if p.inc < q.inc then .inr (.inr (-1)) else if q.inc < p.inc then .inr (.inr 1) else .inl 2):=by
  unfold zp4
  rw [bY (by decide),gdp (by decide),gdp (by decide),gdp (by decide)]
  simp only [e,Int.toNat_one,cB,w2]
  by_cases h:p.inc < q.inc
  ·simp [h]
  ·by_cases h2:q.inc < p.inc <;> simp [h,h2]
 have s0:zp4 ⟨[p.site,p.inc,p.num],rfl⟩ ⟨[q.site,q.inc,q.num],rfl⟩ 0=some (if p.site < q.site then .inr (.inr (-1)) else if q.site < p.site then .inr (.inr 1) else .inl 1):=by
  unfold zp4
  rw [bY (by decide),gdp (by decide),gdp (by decide),gdp (by decide)]
  simp only [e,Int.toNat_zero,cB,w1]
  by_cases h:p.site < q.site
  ·simp [h]
  ·by_cases h2:q.site < p.site <;> simp [h,h2]
 rw [zbM1]
 unfold ltP
 by_cases a1:p.site < q.site
 ·rw [ze0,s0]; simp [a1]
 ·by_cases a2:q.site < p.site
  ·rw [ze0,s0]
   have:¬ p.site=q.site:=by omega
   simp [a1,a2,this]
  ·have h1:p.site=q.site:=by omega
   by_cases b1:p.inc < q.inc
   ·rw [ze0,s0]; simp only [a1,a2,cD]; rw [ze0,s1]; simp [b1,h1]
   ·by_cases b2:q.inc < p.inc
    ·have:¬ p.inc=q.inc:=by omega
     rw [ze0,s0]; simp only [a1,a2,cD]; rw [ze0,s1]; simp [b1,b2,h1,this]
    ·have h2:p.inc=q.inc:=by omega
     rw [ze0,s0]; simp only [a1,a2,cD]; rw [ze0,s1]; simp only [b1,b2,cD]; rw [ze0,s2]
     by_cases c1:p.num < q.num
     ·simp [c1,h1,h2]
     ·by_cases c2:q.num < p.num
      ·simp [c1,c2,h1,h2]
      ·simp only [c1,c2,cD]; rw [ze0,s3]; simp [h1,h2,zai3]
def insP (p:aJ) (a:aC):List aY→List aY
 | []=>[⟨p,a⟩]
 | h :: t=>if ltP p h.aP then ⟨p,a⟩ :: h :: t else h :: insP p a t
def zx6 (p:aJ) (l:List aY):List aY:=l.filter fun h=>!decide (h.aP=p)
def setL (l:List aY) (p:aJ) (a:aC):List aY:=if a=aC.zero then zx6 p l else insP p a (zx6 p l)
theorem zdC0 (p:aJ):zx6 p []=[]:=rfl
theorem zaH7 (p:aJ) (h:aY) (t:List aY):zx6 p (h :: t)=if h.aP=p then zx6 p t else h :: zx6 p t:=by
 unfold zx6; rw [List.filter_cons]; by_cases e:h.aP=p <;> simp [e]
theorem zaN6 (p:aJ) (l:List aY):(zx6 p l).length≤l.length:=List.length_filter_le _ _
theorem zaA5 (l:List aY) (p:aJ) (a:aC) (hl:l.length≤1000000):zt0 l p a=some (setL l p a):=by
 unfold zt0
 have key:=zE6 (body:=zan0 l p a) l aY.zero (fun i (s:Bool×List aY)=>(s.1,(i:Int),s.2))
  (fun i h s=>some (.inl (if h.aP=p then s else if s.1=false∧ltP p h.aP then (true,s.2++[⟨p,a⟩]++[h]) else (s.1,s.2++[h])))) (fun s=>s) (fun i s=>s.2.length≤2 * i)
  (fun i s hi hs=>by
   refine ⟨?_,fun s' h=>?_⟩
   ·unfold zan0
    have h1:s.2.length+1≤4294967296:=by omega
    have h2:s.2.length+1+1≤4294967296:=by omega
    have h3:0≤(i:Int)∧(i:Int) < (l.length:Int):=by omega
    simp only [h1,h2,h3.1,h3.2,cW,eU,zo2,cF,cE,Int.toNat_natCast,cB,bX,dB,zbS5,zd0 i (by omega),Option.map_some,wmap]
    by_cases e:(l.getD i aY.zero).aP=p
    ·simp only [e,cE]
    ·simp only [e,cD]
     split <;> rfl
   ·simp only [cV,eW] at h
    subst h
    split
    ·omega
    ·split <;> simp <;> omega)
  (fun s hs=>by unfold zan0; simp) (zn2 a,[]) (by simp)
 have hz:zn2 a=decide (a=aC.zero):=rfl
 have fold:∀ (l:List aY) (i:Nat) (d:Bool) (o:List aY),walk (fun i h (s:Bool×List aY)=>some (.inl (if h.aP=p then s else if s.1=false∧ltP p h.aP then (true,s.2++[⟨p,a⟩]++[h]) else (s.1,s.2++[h])))) (fun s=>s) l i (d,o) =
   some (if d=true then (true,o++zx6 p l) else if (zx6 p l).any (fun h=>decide (ltP p h.aP))=true then (true,o++insP p a (zx6 p l)) else (false,o++zx6 p l)):=by
  intro l
  induction l with
  | nil=>intro i d o; cases d <;> simp [walk,zx6]
  | cons h t ih =>
   intro i d o
   simp only [walk,zaH7]
   by_cases e:h.aP=p
   ·simp only [e,cE]; exact ih (i+1) d o
   ·simp only [e,cD]
    by_cases e2:d=false∧ltP p h.aP
    ·obtain ⟨rfl,e3⟩:=e2
     simp only [e3,cW,cE]
     rw [ih]
     simp [insP,e3]
    ·rw [bW e2,ih]
     cases d with
     | true=>simp
     | false =>
      have e3:¬ ltP p h.aP:=fun hh=>e2 ⟨rfl,hh⟩
      simp only [bV,cD,insP,e3,List.any_cons,cK,dF]
      split <;> simp
 have noins:∀ l:List aY,l.any (fun h=>decide (ltP p h.aP))=false→insP p a l=l++[⟨p,a⟩]:=by
  intro l
  induction l with
  | nil=>intro _; rfl
  | cons h t ih =>
   intro hh
   simp only [List.any_cons,hZ,dD] at hh
   simp only [insP,hh.1,cD,ih hh.2,List.cons_append]
 rw [show ((zn2 a,(0:Int),([]:List aY)):Bool×Int×List aY)=(fun (i:Nat) (s:Bool×List aY)=>(s.1,(i:Int),s.2)) 0 (zn2 a,[]) from rfl,key,fold,hz]
 unfold setL zaM9
 have ho:=zaN6 p l
 by_cases ha:a=aC.zero
 ·simp [ha]
 ·simp only [ha,cK,bV,cD,List.nil_append]
  by_cases hx:(zx6 p l).any (fun h=>decide (ltP p h.aP))=true
  ·simp [hx]
  ·have hx:(zx6 p l).any (fun h=>decide (ltP p h.aP))=false:=by simpa using hx
   rw [bW (by rw [hx]; decide),Option.bind_some,noins _ hx]
   show gd ((zx6 p l).length+1≤4294967296) _=_
   rw [gdp (by omega)]
theorem zdh6 {α:Type} (l:List α) (k:Nat) (z x:α) (hk:k≤l.length) :
  (((l++[z]).take (k+1)++(((l++[z]).drop k).take (l.length+1 - k)).take (l.length+1 - (k+1))++(l++[z]).drop (k+1+min (((l++[z]).drop k).take (l.length+1 - k)).length (l.length+1 - (k+1)))).set k x)=l.take k++x :: l.drop k:=by
 have e1:((l++[z]).drop k).take (l.length+1 - k)=l.drop k++[z]:=by
  rw [eY hk,dV (by simp; omega)]
 have e2:(l.drop k++[z]).take (l.length+1 - (k+1))=l.drop k:=by
  rw [eX (by simp),dV (by simp)]
 have e3:(l++[z]).drop (k+1+min (l.drop k++[z]).length (l.length+1 - (k+1)))=[]:=by
  rw [gJ]; simp; omega
 rw [e1,e2,e3,dX]
 by_cases hkl:k=l.length
 ·subst hkl
  rw [dV (by simp),iR,dX,gQ _ _ (dC _)]
  simp
 ·have:(l++[z]).take (k+1)=l.take k++[l[k]'(by omega)]:=by
   rw [eX (by omega),fB (by omega)]
  rw [this,cG,gQ _ _ (by simp; omega)]
  simp [show min k l.length=k by omega]
theorem zbS6 (l:List aY) (p:aJ) (a:aC) (hl:l.length≤1000000):zq9 l p a=some (setL l p a):=by
 unfold zq9
 have hw:IntKind.i64.wrap ((l.length:Int)+1)=(l.length:Int)+1:=zd2 (by omega) (by omega)
 rw [hw,gdp (by omega)]
 have key:=zE6 (body:=zW6 l p) l aY.zero (fun i (s:Int×List aY)=>(s.1,(i:Int),s.2))
  (fun i h s=>some (.inl (if h.aP=p then s else (if s.1 < 0∧ltP p h.aP then (s.2.length:Int) else s.1,s.2++[h])))) (fun s=>s) (fun i s=>s.2.length≤i)
  (fun i s hi hs=>by
   refine ⟨?_,fun s' h=>?_⟩
   ·unfold zW6
    have h1:s.2.length+1≤4294967296:=by omega
    have h3:0≤(i:Int)∧(i:Int) < (l.length:Int):=by omega
    simp only [h1,h3.1,h3.2,cW,eU,zo2,cF,cE,Int.toNat_natCast,cB,bX,zar0,zd0 i (by omega),Option.map_some,wmap]
    by_cases e:(l.getD i aY.zero).aP=p
    ·simp only [e,cE]
    ·simp only [e,cD]
     by_cases e2:s.1 < 0
     ·simp only [e2,cE,Option.bind_some,gH,zbS5]
      split <;> rfl
     ·simp only [e2,cD,Option.bind_some,iQ]
   ·simp only [cV,eW] at h
    subst h
    split
    ·omega
    ·simp; omega)
  (fun s hs=>by unfold zW6; simp) (-1,[]) (by simp)
 have fold:∀ (l:List aY) (i:Nat) (d:Int) (o:List aY),walk (fun i h (s:Int×List aY)=>some (.inl (if h.aP=p then s else (if s.1 < 0∧ltP p h.aP then (s.2.length:Int) else s.1,s.2++[h])))) (fun s=>s) l i (d,o) =
   some (if d < 0∧(zx6 p l).any (fun h=>decide (ltP p h.aP))=true then (((o.length+(zx6 p l).findIdx (fun h=>decide (ltP p h.aP)):Nat):Int),o++zx6 p l) else (d,o++zx6 p l)):=by
  intro l
  induction l with
  | nil=>intro i d o; simp [walk,zx6]
  | cons h t ih =>
   intro i d o
   simp only [walk,zaH7]
   by_cases e:h.aP=p
   ·simp only [e,cE]; exact ih (i+1) d o
   ·simp only [e,cD]
    by_cases e2:d < 0∧ltP p h.aP
    ·simp only [e2,cW,cE]
     rw [ih,bW (by omega)]
     simp [e2.2,jD]
    ·rw [bW e2,ih]
     by_cases e3:d < 0
     ·have e4:¬ ltP p h.aP:=fun hh=>e2 ⟨e3,hh⟩
      simp only [e3,gH,List.any_cons,e4,cK,dF,jD,cond_false,cA,List.length_cons,List.length_nil,cG,List.cons_append,List.nil_append]
      split
      ·congr 3; omega
      ·rfl
     ·simp [e3]
 have ins:∀ l:List aY,insP p a l=l.take (l.findIdx (fun h=>decide (ltP p h.aP)))++⟨p,a⟩ :: l.drop (l.findIdx (fun h=>decide (ltP p h.aP))):=by
  intro l
  induction l with
  | nil=>rfl
  | cons h t ih =>
   simp only [insP,jD]
   by_cases e:ltP p h.aP
   ·simp [e]
   ·simp [e,ih]
 have key2:zc0 (zW6 l p) (-1,0,List.replicate 0 aY.zero)=some (if (zx6 p l).any (fun h=>decide (ltP p h.aP))=true then (((zx6 p l).findIdx (fun h=>decide (ltP p h.aP)):Nat):Int) else -1,zx6 p l):=by
  rw [show ((-1,0,List.replicate 0 aY.zero):Int×Int×List aY)=(fun (i:Nat) (s:Int×List aY)=>(s.1,(i:Int),s.2)) 0 (-1,[]) from rfl,key,fold]
  have:((-1:Int) < 0):=by decide
  simp only [this,gH,List.nil_append,List.length_nil,dU]
  split <;> rfl
 rw [key2,Option.bind_some]
 unfold zap5 setL
 have hz:zm1 a=decide (a=aC.zero):=rfl
 rw [hz]
 by_cases ha:a=aC.zero
 ·simp [ha]
 ·simp only [ha,cK,bV,cD,cB]
  have ho:=zaN6 p l
  generalize zx6 p l=o at ho
  have fi:o.findIdx (fun h=>decide (ltP p h.aP))≤o.length:=List.findIdx_le_length
  have hz2:({ aY.zero with }:aY)=aY.zero:=rfl
  by_cases hx:o.any (fun h=>decide (ltP p h.aP))=true
  ·simp only [hx,cE]
   generalize hk:o.findIdx (fun h=>decide (ltP p h.aP))=k at fi
   have hkl:k < o.length:=by rw [← hk]; exact List.findIdx_lt_length_of_exists (by simpa using hx)
   rw [bW (by omega)]
   simp only [zd0 k (by omega),Int.toNat_natCast]
   rw [gdp (by omega),gdp (by omega),gdp (by omega),gdp (by omega),zdh6 o k _ _ (by omega),ins o,hk]
  ·have hx':o.any (fun h=>decide (ltP p h.aP))=false:=by simpa using hx
   simp only [hx',bV,cD]
   rw [bY (by decide)]
   have hk:o.findIdx (fun h=>decide (ltP p h.aP))=o.length:=by
    rw [List.findIdx_eq_length]; simpa using hx'
   simp only [zd0 o.length (by omega),Int.toNat_natCast]
   rw [gdp (by omega),gdp (by omega),gdp (by omega),gdp (by omega),zdh6 o o.length _ _ (by omega),ins o,hk]
theorem zaW6 (r:aH):zL1 r=zh0 r:=by
 unfold zL1 zh0
 rw [dL]
 by_cases h1:r.kind=1
 ·simp [h1]
 ·by_cases h2:r.kind=2 <;> simp [h1,h2]
theorem zaR7 (r:aH) (a:aC):zv4 r a=zb4 r a:=by
 unfold zv4 zb4 zz5 zx7
 rw [zaW6]
theorem zbl5 (r:aH) (a:aC):zw1 r a=zc9 r a:=by
 unfold zw1 zc9 zn2 zm1
 rw [zaW6,zaR7]
theorem zaA6 (p:aJ):zj6 p=zb2 p:=by
 unfold zj6 zb2 zF3
 rw [dL]; simp; omega
theorem zM4 (r:aH):zh0 r=true ↔ (r.kind=1∧r.aT=1)∨(r.kind=2∧1≤r.aT∧r.aT≤8):=by
 unfold zh0
 by_cases h1:r.kind=1
 ·simp [h1]
 ·by_cases h2:r.kind=2 <;> simp [h1,h2]
theorem zM5 (r:aH) (a:aC):zb4 r a=true ↔ (r.kind=1∧r.aT=1∧1≤a.mode∧a.mode≤5∧a.aT=0)∨(r.kind=2∧1≤r.aT∧r.aT≤8∧a.mode=0∧1≤a.aT∧a.aT≤r.aT):=by
 unfold zb4 zx7
 have:=zM4 r
 cases h:zh0 r with
 | false =>
  rw [h] at this
  simp only [bV,false_iff] at this
  simp only [cY,cE,bV,false_iff]
  omega
 | true =>
  rw [h] at this
  simp only [true_iff] at this
  by_cases h1:r.kind=1
  ·simp [h1]; omega
  ·simp [h1]; omega
theorem perm_iff (r:aH) (a:aC):zc9 r a=true ↔ (zh0 r=true∧a=aC.zero)∨zb4 r a=true:=by
 unfold zc9 zm1
 have e:(decide (a={ aC.zero with }):Bool)=decide (a=aC.zero):=rfl
 rw [e]
 have hs:zb4 r a=true→zh0 r=true:=by
  rw [zM5,zM4]; omega
 cases h1:zh0 r <;> cases h2:zb4 r a <;> simp_all
theorem zaD4 {r:aH} {a:aC} (h:zc9 r a=true) (hk:r.kind=1):a.aT=0∧0≤a.mode∧a.mode≤5∧r.aT=1:=by
 rw [perm_iff,zM5,zM4] at h
 rcases h with ⟨h1,rfl⟩|h1
 ·simp [aC.zero]; omega
 ·omega
theorem zbl6 {r:aH} {a:aC} (h:zc9 r a=true) (hk:r.kind=2):a.mode=0∧0≤a.aT∧a.aT≤r.aT∧r.aT≤8:=by
 rw [perm_iff,zM5,zM4] at h
 rcases h with ⟨h1,rfl⟩|h1
 ·simp [aC.zero]; omega
 ·omega
theorem zai0 {r:aH} {a:aC} (h:zc9 r a=true):0≤a.aT∧a.aT≤8∧0≤a.mode∧a.mode≤5∧1≤r.aT∧r.aT≤8:=by
 rw [perm_iff,zM5,zM4] at h
 rcases h with ⟨h1,rfl⟩|h1
 ·simp [aC.zero]; omega
 ·omega
abbrev mC (a b:Int):Bool:=zP6 a b
theorem zcl6 (a b:Int):mC a b=true ↔ (1≤a∧a≤4∧1≤b∧b≤4)∧(a=1∨b=1∨a=b∧a≠4):=by
 unfold mC zP6 zz5
 split
 ·rename_i h; simp at h; simp; omega
 ·rename_i h; simp at h; simp; omega
theorem zbM2 (a b:Int):mC a b=mC b a:=by rw [dL,zcl6,zcl6]; omega
theorem zbs3 (a b:Int):zh7 a b=some (mC a b):=by
 unfold zh7 zx7
 by_cases h:(1≤a∧a≤5)∧(1≤b∧b≤5)
 ·obtain ⟨⟨a1,a2⟩,b1,b2⟩:=h
  have wa:IntKind.i64.wrap (a - 1)=a - 1:=zd2 (by omega) (by omega)
  have wb:IntKind.i64.wrap (b - 1)=b - 1:=zd2 (by omega) (by omega)
  simp only [wa,wb]
  rw [gdp (fun _=>by omega),gdp (fun _=>by omega)]
  congr 1
  have ha:a=1∨a=2∨a=3∨a=4∨a=5:=by omega
  have hb:b=1∨b=2∨b=3∨b=4∨b=5:=by omega
  rcases ha with rfl|rfl|rfl|rfl|rfl <;> rcases hb with rfl|rfl|rfl|rfl|rfl <;> decide
 ·have hv:(((decide (1≤a))&&(decide (a≤5)))&&((decide (1≤b))&&(decide (b≤5))))=false:=by
   rw [eA]; intro hh; simp at hh; omega
  rw [hv]
  rw [gdp (fun h=>by cases h),gdp (fun h=>by cases h)]
  have:mC a b=false:=by rw [eA]; intro hh; rw [zcl6] at hh; omega
  rw [this]; rfl
def zas8 (b a:aC):Prop:=b.mode≠0∧a.mode≠0∧mC b.mode a.mode=false
instance (b a:aC):Decidable (zas8 b a):=by unfold zas8; infer_instance
def sumU:List aC→Int
 | []=>0
 | a :: l=>a.aT+sumU l
structure CompP (r:aH) (l:List aC):Prop where
 perm:∀ a ∈ l,zc9 r a=true
 sum:sumU l≤r.aT
 pair:l.Pairwise fun b a=>¬ zas8 b a
instance (r:aH) (l:List aC):Decidable (CompP r l) :=
 decidable_of_iff ((∀ a ∈ l,zc9 r a=true)∧sumU l≤r.aT∧l.Pairwise fun b a=>¬ zas8 b a) ⟨fun ⟨a,b,c⟩=>⟨a,b,c⟩,fun ⟨a,b,c⟩=>⟨a,b,c⟩⟩
def zbH6 (r:aH) (l:List aC):Bool:=zh0 r&&decide (CompP r l)
theorem zcu1 {l:List aC} (h:∀ a ∈ l,0≤a.aT):0≤sumU l:=by
 induction l with
 | nil=>simp [sumU]
 | cons a l ih =>
  have:=ih fun b hb=>h b (.tail _ hb)
  have:=h a (.head _)
  simp only [sumU]; omega
def zbp5 (r:aH):List aC→List aC→Int→Bool
 | [],_,_=>true
 | a :: t,prev,s=>zc9 r a&&(decide (s+a.aT≤r.aT)&&(decide (∀ b ∈ prev,¬ zas8 b a)&&zbp5 r t (prev++[a]) (s+a.aT)))
theorem zbC2 (r:aH) (hr:0≤r.aT):∀ (l prev:List aC) (s:Int),s≤r.aT→(zbp5 r l prev s=true ↔ (∀ a ∈ l,zc9 r a=true)∧s+sumU l≤r.aT∧(∀ b ∈ prev,∀ a ∈ l,¬ zas8 b a)∧l.Pairwise fun b a=>¬ zas8 b a)
 | [],prev,s,hs=>by simp [zbp5,sumU]; exact hs
 | a :: t,prev,s,hs=>by
  simp only [zbp5,bX,cB,List.forall_mem_cons,cX,sumU]
  constructor
  ·rintro ⟨h1,h2,h3,h4⟩
   rw [zbC2 r hr t (prev++[a]) (s+a.aT) h2] at h4
   obtain ⟨k1,k2,k3,k4⟩:=h4
   refine ⟨⟨h1,k1⟩,by omega,fun b hb=>⟨h3 b hb,fun c hc=>k3 b (by simp [hb]) c hc⟩,fun c hc=>k3 a (by simp) c hc,k4⟩
  ·rintro ⟨⟨h1,k1⟩,h2,h3,h4,h5⟩
   have hn:0≤sumU t:=zcu1 fun b hb=>(zai0 (k1 b hb)).1
   have h6:s+a.aT≤r.aT:=by omega
   refine ⟨h1,h6,fun b hb=>(h3 b hb).1,?_⟩
   rw [zbC2 r hr t (prev++[a]) (s+a.aT) h6]
   refine ⟨k1,by omega,fun b hb c hc=>?_,h5⟩
   rcases cU.1 hb with hb|hb
   ·exact (h3 b hb).2 c hc
   ·simp at hb; subst hb; exact h4 c hc
theorem zcu2 (r:aH) (l:List aC) (hs:zh0 r=true):zbH6 r l=zbp5 r l [] 0:=by
 have hr:1≤r.aT:=by rw [zM4] at hs; omega
 unfold zbH6
 rw [hs,cN,dL,zbC2 r (by omega) l [] 0 (by omega),cB]
 exact ⟨fun ⟨a,b,c⟩=>⟨a,by omega,by simp,c⟩,fun ⟨a,b,_,c⟩=>⟨a,by omega,c⟩⟩
def zbs4 (seen:Arr Bool 6) (m:Int):Bool:=(List.range' 0 6).all fun k=>!(seen.get k false)||mC k m
theorem zcl7 (l:List aC) (g:Int×Int×Arr Bool 6):zc0 (zG0 l g) 0=some (if zbs4 g.2.2 (l.getD g.2.1.toNat aC.zero).mode=true then .inl () else .inr false):=by
 have key:=zM3 (body:=zG0 l g) 6 (fun i=>if (!(g.2.2.get i false)||mC i (l.getD g.2.1.toNat aC.zero).mode)=true then none else some (.inr false)) (.inl ()) (fun i hi=>by
  unfold zG0
  have h3:0≤(i:Int)∧(i:Int) < 6:=by omega
  have h4:IntKind.i64.wrap ((i:Int)+1)=(i:Int)+1:=zd2 (by omega) (by omega)
  simp only [h3.1,h3.2,cW,zo2,cF,cE,Int.toNat_natCast,zbs3,h4]
  cases Arr.get g.2.2 i false <;> cases mC i (l.getD g.2.1.toNat aC.zero).mode <;> rfl) (by unfold zG0; simp)
 rw [key,zU6]
 unfold zbs4
 split <;> simp_all
theorem zdt6 (s:Arr Bool 6) (i k:Nat) (hi:i < 6) (hk:k < 6):(s.put i true).get k false=if k=i then true else s.get k false:=by
 obtain ⟨l,hl⟩:=s
 simp only [Arr.put,Arr.get,zao7 hi,zao7 hk,bZ,List.getElem?_set]
 by_cases h:k=i
 ·subst h; simp [hl,hk]
 ·rw [bW (fun e=>h e.symm),bW h]
theorem zbi4 (r:aH) (l:List aC) (hl:l.length≤1000000):zk8 r l=some (zbH6 r l):=by
 unfold zk8
 cases hs:zh0 r with
 | false=>simp [zbH6,hs]
 | true =>
  have hru:1≤r.aT∧r.aT≤8:=by rw [zM4] at hs; omega
  rw [zcu2 r l hs]
  simp only [cL,bV,cD]
  have key:=zE6 (body:=zL3 r l) l aC.zero (fun i (s:Int×Arr Bool 6)=>(s.1,(i:Int),s.2))
   (fun i a s=>some (if zc9 r a=false∨r.aT < s.1+a.aT then .inr false else if a.mode=0 then .inl (s.1+a.aT,s.2) else if zbs4 s.2 a.mode=true then .inl (s.1+a.aT,s.2.put a.mode.toNat true) else .inr false)) (fun _=>true) (fun i s=>0≤s.1∧s.1≤8)
   (fun i s hi hi2=>by
    refine ⟨?_,fun s' h=>?_⟩
    ·unfold zL3
     have h3:0≤(i:Int)∧(i:Int) < (l.length:Int):=by omega
     simp only [h3.1,h3.2,cW,zo2,cF,cE,Int.toNat_natCast,zd0 i (by omega),Option.map_some,zcl7]
     cases hp:zc9 r (l.getD i aC.zero) with
     | false=>simp [wmap]
     | true =>
      have hb:=zai0 hp
      have hw:IntKind.i64.wrap (s.1+(l.getD i aC.zero).aT)=s.1+(l.getD i aC.zero).aT:=zd2 (by omega) (by omega)
      simp only [hw,cL,dF,cB,fV,iK]
      by_cases h4:r.aT < s.1+(l.getD i aC.zero).aT
      ·simp only [h4,cE,wmap]
      ·by_cases h5:(l.getD i aC.zero).mode=0
       ·simp only [h4,cD,h5,cE,wmap]
       ·simp only [h4,h5,cD]
        by_cases h6:zbs4 s.2 (l.getD i aC.zero).mode=true
        ·simp only [h6,cE,Option.bind_some,wmap]
         unfold zV5
         simp only [Int.toNat_natCast,hw,zd0 i (by omega)]
         rw [gdp (by omega)]
        ·simp only [h6,bV,cD,wmap,Option.bind_some]
    ·simp only [cV] at h
     split at h
     ·cases h
     ·rename_i hn
      simp only [jQ,fC] at hn
      have hb:=zai0 hn.1
      split at h
      ·cases h; simp only; omega
      ·split at h
       ·cases h; simp only; omega
       ·cases h)
   (fun s hs=>by unfold zL3; simp) (0,Arr.rep 6 false) (by simp)
  have fold:∀ (l prev:List aC) (i:Nat) (s:Int) (seen:Arr Bool 6),(∀ b ∈ prev,0≤b.mode∧b.mode≤5)→(∀ k,k < 6→seen.get k false=decide (∃ b ∈ prev,b.mode≠0∧b.mode=(k:Int))) →
    walk (fun i a (s:Int×Arr Bool 6)=>some (if zc9 r a=false∨r.aT < s.1+a.aT then .inr false else if a.mode=0 then .inl (s.1+a.aT,s.2) else if zbs4 s.2 a.mode=true then .inl (s.1+a.aT,s.2.put a.mode.toNat true) else .inr false)) (fun _=>true) l i (s,seen)=some (zbp5 r l prev s):=by
   intro l
   induction l with
   | nil=>intro prev i s seen _ _; rfl
   | cons a t ih =>
    intro prev i s seen hpv hsn
    simp only [walk,zbp5]
    cases hp:zc9 r a with
    | false=>simp
    | true =>
     have hb:=zai0 hp
     by_cases h4:r.aT < s+a.aT
     ·simp [h4]; intro h; omega
     ·have h4':s+a.aT≤r.aT:=by omega
      simp only [fV,iK,h4,cD,h4',cF,cN]
      by_cases h5:a.mode=0
      ·simp only [h5,cE]
       rw [ih (prev++[a]) (i+1) (s+a.aT) seen (by
        intro b hb'; rcases cU.1 hb' with h|h
        ·exact hpv b h
        ·simp at h; subst h; omega) (by
        intro k hk
        rw [hsn k hk,iA]
        constructor
        ·rintro ⟨b,h1,h2⟩; exact ⟨b,by simp [h1],h2⟩
        ·rintro ⟨b,h1,h2,h3⟩
         rcases cU.1 h1 with h|h
         ·exact ⟨b,h,h2,h3⟩
         ·simp at h; subst h; exact absurd h5 h2)]
       have:∀ b ∈ prev,¬ zas8 b a:=fun b _ hc=>hc.2.1 h5
       rw [cS this,cN]
      ·simp only [h5,cD]
       have hse:zbs4 seen a.mode=decide (∀ b ∈ prev,¬ zas8 b a):=by
        rw [dL,cB]
        unfold zbs4
        simp only [eO,List.mem_range'_1,dY,dB]
        constructor
        ·intro hh b hb' ⟨c1,c2,c3⟩
         have hbb:=hpv b hb'
         rcases hh b.mode.toNat (by omega) with h|h
         ·rw [hsn _ (by omega)] at h
          simp only [dD,not_exists,not_and] at h
          exact h b hb' c1 (by omega)
         ·rw [show ((b.mode.toNat:Nat):Int)=b.mode by omega,c3] at h; cases h
        ·intro hh k hk
         rw [hsn k (by omega)]
         by_cases he:∃ b ∈ prev,b.mode≠0∧b.mode=(k:Int)
         ·obtain ⟨b,h1,h2,h3⟩:=he
          right
          rw [← h3]
          have:=hh b h1
          unfold zas8 at this
          simp only [not_and,fC] at this
          exact this h2 h5
         ·left; simpa using he
       rw [hse]
       by_cases h7:∀ b ∈ prev,¬ zas8 b a
       ·rw [cS h7]
        simp only [cE,cN]
        rw [ih (prev++[a]) (i+1) (s+a.aT) (seen.put a.mode.toNat true) (by
         intro b hb'; rcases cU.1 hb' with h|h
         ·exact hpv b h
         ·simp at h; subst h; omega) (by
         intro k hk
         rw [zdt6 seen a.mode.toNat k (by omega) hk,hsn k hk]
         by_cases hka:k=a.mode.toNat
         ·rw [bY hka]
          exact (cS ⟨a,by simp,h5,by omega⟩).symm
         ·rw [bW hka,iA]
          constructor
          ·rintro ⟨b,h1,h2⟩; exact ⟨b,by simp [h1],h2⟩
          ·rintro ⟨b,h1,h2,h3⟩
           rcases cU.1 h1 with h|h
           ·exact ⟨b,h,h2,h3⟩
           ·simp at h; subst h; omega)]
       ·rw [gF h7]; rfl
  have k2:=fold l [] 0 0 (Arr.rep 6 false) (by simp) (by
   intro k hk
   have:k=0∨k=1∨k=2∨k=3∨k=4∨k=5:=by omega
   rcases this with rfl|rfl|rfl|rfl|rfl|rfl <;> rfl)
  rw [show ((0,0,Arr.rep 6 false):Int×Int×Arr Bool 6)=(fun (i:Nat) (s:Int×Arr Bool 6)=>(s.1,(i:Int),s.2)) 0 (0,Arr.rep 6 false) from rfl,key,k2]
  rfl
theorem zbC3 (l:List aC) (g:Int×Int) (h0:0≤g.2) (hl:g.2 < (l.length:Int)) (hll:l.length≤1000000):zc0 (zH7 l g) 0 =
  some (if (List.range' 0 g.2.toNat).all (fun k=>decide (l.getD g.2.toNat aC.zero=aC.zero)||(decide (l.getD k aC.zero=aC.zero)||mC (l.getD g.2.toNat aC.zero).mode (l.getD k aC.zero).mode))=true then .inl () else .inr false):=by
 have hz:∀ a:aC,zn2 a=decide (a=aC.zero):=fun _=>rfl
 have key:=zM3 (body:=zH7 l g) g.2.toNat (fun i=>if (decide (l.getD g.2.toNat aC.zero=aC.zero)||(decide (l.getD i aC.zero=aC.zero)||mC (l.getD g.2.toNat aC.zero).mode (l.getD i aC.zero).mode))=true then none else some (.inr false)) (.inl ()) (fun i hi=>by
  unfold zH7
  have h3:(i:Int) < g.2:=by omega
  have h4:IntKind.i64.wrap ((i:Int)+1)=(i:Int)+1:=zd2 (by omega) (by omega)
  have h5:0≤(i:Int)∧(i:Int) < (l.length:Int):=by omega
  simp only [h3,cF,cE,Int.toNat_natCast,h4,h5.1,h5.2,h0,hl,cW,eU,zo2,hz]
  cases decide (l.getD g.2.toNat aC.zero=aC.zero) <;> cases decide (l.getD i aC.zero=aC.zero) <;> cases hm:zP6 (l.getD g.2.toNat aC.zero).mode (l.getD i aC.zero).mode <;> simp only [mC,hm] <;> rfl) (by unfold zH7; rw [bW]; simp; omega)
 rw [key,zU6]
 split <;> simp_all
theorem zbo0 (r:aH) (l:List aC) (hl:l.length≤1000000):zl9 r l=some (zbH6 r l):=by
 unfold zl9
 rw [zaW6]
 cases hs:zh0 r with
 | false=>simp [zbH6,hs]
 | true =>
  have hru:1≤r.aT∧r.aT≤8∧(r.kind=1∨r.kind=2):=by rw [zM4] at hs; omega
  rw [zcu2 r l hs]
  simp only [cL,bV,cD]
  have key:=zE6 (body:=zE1 r l) l aC.zero (fun i (s:Int)=>(s,(i:Int)))
   (fun i a s=>some (if zc9 r a=false then .inr (.inr false) else if r.kind=2 then (if r.aT < s+a.aT then .inr (.inr false) else .inl (s+a.aT)) else
    if (List.range' 0 i).all (fun k=>decide (a=aC.zero)||(decide (l.getD k aC.zero=aC.zero)||mC a.mode (l.getD k aC.zero).mode))=true then .inl s else .inr (.inr false))) (fun _=>Sum.inl (β:=Bool) ()) (fun i s=>0≤s∧s≤8)
   (fun i s hi hi2=>by
    refine ⟨?_,fun s' h=>?_⟩
    ·unfold zE1
     have h3:0≤(i:Int)∧(i:Int) < (l.length:Int):=by omega
     simp only [h3.1,h3.2,cW,zo2,cF,cE,Int.toNat_natCast,zd0 i (by omega),Option.map_some,zbl5,zbC3 l (s,(i:Int)) h3.1 h3.2 hl]
     cases hp:zc9 r (l.getD i aC.zero) with
     | false=>simp [wmap]
     | true =>
      have hb:=zai0 hp
      have hw:IntKind.i64.wrap (s+(l.getD i aC.zero).aT)=s+(l.getD i aC.zero).aT:=zd2 (by omega) (by omega)
      simp only [hw,cL,bV,cD,fV,cB]
      by_cases h4:r.kind=2
      ·by_cases h5:r.aT < s+(l.getD i aC.zero).aT
       ·simp only [h4,h5,cE,wmap]
       ·simp only [h4,h5,cE,cD,wmap]
      ·simp only [h4,cD]
       split
       ·simp only [zak4,wmap,zd0 i (by omega:i < 4611686018427387904),Option.bind_some]
       ·simp only [wmap,Option.bind_some]
    ·simp only [cV] at h
     split at h
     ·cases h
     ·rename_i hn
      simp only [fC] at hn
      have hb:=zai0 hn
      split at h
      ·split at h
       ·cases h
       ·cases h; omega
      ·split at h
       ·cases h; exact hi2
       ·cases h)
   (fun s hs=>by unfold zE1; simp) 0 (by simp)
  have fold:∀ (t prev:List aC) (s:Int),l=prev++t→(∀ b ∈ prev,zc9 r b=true)→(r.kind=1→s=0)→s≤r.aT →
    walk (fun i a (s:Int)=>some (if zc9 r a=false then .inr (.inr false) else if r.kind=2 then (if r.aT < s+a.aT then .inr (.inr false) else .inl (s+a.aT)) else
     if (List.range' 0 i).all (fun k=>decide (a=aC.zero)||(decide (l.getD k aC.zero=aC.zero)||mC a.mode (l.getD k aC.zero).mode))=true then .inl s else .inr (.inr false))) (fun _=>Sum.inl (β:=Bool) ()) t prev.length s=some (if zbp5 r t prev s=true then .inl () else .inr false):=by
   intro t
   induction t with
   | nil=>intro prev s _ _ _ _; rfl
   | cons a t ih =>
    intro prev s hlt hpp hs0 hsu
    simp only [walk,zbp5]
    by_cases hp:zc9 r a=true
    ·have hpp':∀ b ∈ prev++[a],zc9 r b=true:=fun b hb=>by
      rcases cU.1 hb with h|h
      ·exact hpp b h
      ·simp at h; subst h; exact hp
     have hlt':l=(prev++[a])++t:=by rw [hlt]; simp
     have hlen:(prev++[a]).length=prev.length+1:=by simp
     rcases hru.2.2 with hk|hk
     ·
      have ha:=zaD4 hp hk
      have hs:=hs0 hk
      subst hs
      have hk2:¬ r.kind=2:=by omega
      have hsum:(0:Int)+a.aT≤r.aT:=by omega
      simp only [hp,fV,cD,hk2,hsum,cF,cN]
      have hall:(List.range' 0 prev.length).all (fun k=>decide (a=aC.zero)||(decide (l.getD k aC.zero=aC.zero)||mC a.mode (l.getD k aC.zero).mode))=decide (∀ b ∈ prev,¬ zas8 b a):=by
       rw [dL,cB]
       simp only [eO,List.mem_range'_1,dY,cB]
       have hget:∀ k,k < prev.length→l.getD k aC.zero=prev.getD k aC.zero:=fun k hk=>by rw [hlt,zcS2 _ _ _ _ hk]
       have hmem:∀ k,k < prev.length→prev.getD k aC.zero ∈ prev:=fun k hk=>by
        rw [bZ,cC hk]; exact gL hk
       have zak0:∀ b,zc9 r b=true→(b=aC.zero ↔ b.mode=0):=fun b hb=>by
        have:=zaD4 hb hk
        rw [aC.ext_iff]; simp [aC.zero]; omega
       constructor
       ·intro hh b hb ⟨c1,c2,c3⟩
        obtain ⟨k,hk1,hk2⟩:=fN.1 hb
        have e:prev.getD k aC.zero=b:=by rw [bZ,cC hk1,Option.getD_some,hk2]
        rcases hh k (by omega) with h|h|h
        ·exact c2 ((zak0 a hp).1 h)
        ·rw [hget k hk1,e] at h; exact c1 ((zak0 b (hpp b hb)).1 h)
        ·rw [hget k hk1,e,zbM2,c3] at h; cases h
       ·intro hh k hk1
        have hk2:k < prev.length:=by omega
        rw [hget k hk2]
        have h1:=hh _ (hmem k hk2)
        have h2:=hpp _ (hmem k hk2)
        unfold zas8 at h1
        rw [zak0 a hp,zak0 _ h2]
        by_cases e1:a.mode=0
        ·exact .inl e1
        ·by_cases e2:(prev.getD k aC.zero).mode=0
         ·exact .inr (.inl e2)
         ·refine .inr (.inr ?_)
          rw [zbM2]
          simp only [not_and,fC] at h1
          exact h1 e2 e1
      rw [hall]
      by_cases h7:∀ b ∈ prev,¬ zas8 b a
      ·rw [cS h7]
       simp only [cE,cN]
       have:=ih (prev++[a]) 0 hlt' hpp' (fun _=>rfl) (by omega)
       rw [hlen] at this
       simp only [hk2,cD] at this
       rw [this,ha.1]; rfl
      ·rw [gF h7]; rfl
     ·
      have ha:=zbl6 hp hk
      simp only [hp,fV,cD,hk,cE,cN]
      have h7:∀ b ∈ prev,¬ zas8 b a:=fun b _ hc=>hc.2.1 ha.1
      by_cases h5:r.aT < s+a.aT
      ·have:¬ s+a.aT≤r.aT:=by omega
       simp [h5,this]
      ·have:s+a.aT≤r.aT:=by omega
       rw [cS h7]
       simp only [h5,cD,this,cF,cN]
       have h8:=ih (prev++[a]) (s+a.aT) hlt' hpp' (fun h=>by omega) this
       rw [hlen] at h8
       simp only [hk,cE] at h8
       exact h8
    ·simp [hp]
  rw [show ((0,0):Int×Int)=(fun (i:Nat) (s:Int)=>(s,(i:Int))) 0 0 from rfl,key]
  have k2:=fold l [] 0 rfl (by simp) (fun _=>rfl) (by omega)
  rw [List.length_nil] at k2
  rw [k2]
  cases zbp5 r l [] 0 <;> rfl
structure GoodP (r:aH) (l:List aY):Prop where
 each:∀ h ∈ l,zb2 h.aP=true∧zb4 r h.aK=true
 asc:l.Pairwise fun a b=>ltP a.aP b.aP
instance (r:aH) (l:List aY):Decidable (GoodP r l) :=
 decidable_of_iff ((∀ h ∈ l,zb2 h.aP=true∧zb4 r h.aK=true)∧l.Pairwise fun a b=>ltP a.aP b.aP) ⟨fun ⟨a,b⟩=>⟨a,b⟩,fun ⟨a,b⟩=>⟨a,b⟩⟩
def zM6 (r:aH) (l:List aY):Bool:=zh0 r&&(decide (l.length≤8)&&(decide (GoodP r l)&&decide (CompP r (l.map (·.aK)))))
theorem zbH7 {r:aH} {a:aC} (h:zb4 r a=true):zh0 r=true:=by rw [zM5] at h; rw [zM4]; omega
theorem zE7 {r:aH} {a:aC} (h:zb4 r a=true):zc9 r a=true:=(perm_iff r a).2 (.inr h)
theorem zae8 {r:aH} {a:aC} (h:zb4 r a=true):a≠aC.zero:=by
 rw [zM5] at h; intro e; subst e; simp [aC.zero] at h
def zaw6 (r:aH):List aY→Option aJ→Bool
 | [],_=>true
 | h :: t,pv=>zb2 h.aP&&(zb4 r h.aK&&((match pv with|none=>true|some q=>decide (ltP q h.aP))&&zaw6 r t (some h.aP)))
theorem zbC4 (r:aH):∀ (l:List aY) (pv:Option aJ),zaw6 r l pv=true ↔ GoodP r l∧∀ q,pv=some q→∀ h ∈ l,ltP q h.aP
 | [],pv=>by
  simp only [zaw6,fW,iS,eU,jW,true_iff]
  exact ⟨by simp,.nil⟩
 | h :: t,pv=>by
  simp only [zaw6,bX]
  rw [zbC4 r t (some h.aP)]
  constructor
  ·rintro ⟨h1,h2,h3,⟨h4,h5⟩,h6⟩
   refine ⟨⟨fun x hx=>?_,cX.2 ⟨fun x hx=>h6 _ rfl x hx,h5⟩⟩,fun q hq x hx=>?_⟩
   ·rcases cJ.1 hx with rfl|hx
    ·exact ⟨h1,h2⟩
    ·exact h4 x hx
   ·subst hq
    simp only [cB] at h3
    rcases cJ.1 hx with rfl|hx
    ·exact h3
    ·exact zaD2 h3 (h6 _ rfl x hx)
  ·rintro ⟨⟨h1,h2⟩,h3⟩
   rw [cX] at h2
   refine ⟨(h1 h (.head _)).1,(h1 h (.head _)).2,?_,⟨fun x hx=>h1 x (.tail _ hx),h2.2⟩,fun q hq x hx=>by cases hq; exact h2.1 x hx⟩
   cases pv with
   | none=>rfl
   | some q=>exact cS (h3 q rfl h (.head _))
theorem zaD5 (r:aH) (l:List aY):zr9 r l=some (zM6 r l):=by
 unfold zr9 zM6
 cases hs:zh0 r with
 | false=>simp
 | true =>
  by_cases h8:8 < (l.length:Int)
  ·have:¬ l.length≤8:=by omega
   simp [h8,this]
  ·have hl8:l.length≤8:=by omega
   simp only [cL,dF,h8,cK,bV,cD,hl8,cF,cN]
   have key:=zE6 (body:=zY2 r l) l aY.zero (fun i (s:List aC)=>((i:Int),s))
    (fun i h s=>some (if zb2 h.aP=true∧zb4 r h.aK=true∧(i=0∨ltP (l.getD (i - 1) aY.zero).aP h.aP) then .inl (s++[h.aK]) else .inr (.inr false))) (fun s=>Sum.inl (β:=Bool) s) (fun i s=>s.length≤i)
    (fun i s hi hs=>by
     refine ⟨?_,fun s' h=>?_⟩
     ·unfold zY2
      have h1:s.length+1≤4294967296:=by omega
      have h3:0≤(i:Int)∧(i:Int) < (l.length:Int):=by omega
      simp only [h1,h3.1,h3.2,cW,zo2,cF,cE,Int.toNat_natCast,zar0,zd0 i (by omega),Option.map_some,cB,bX,dY,dB]
      by_cases e1:zb2 (l.getD i aY.zero).aP=false∨zb4 r (l.getD i aY.zero).aK=false
      ·rw [bY e1,bW (by rintro ⟨k1,k2,_⟩; rcases e1 with e|e <;> simp_all)]; rfl
      ·rw [bW e1]
       simp only [jQ,fC] at e1
       by_cases e2:i=0
       ·subst e2
        rw [gdp (by omega)]
        simp only [Int.natCast_zero,Int.lt_irrefl,cD,Option.bind_some,iQ,e1,cW,true_or,cE,wmap]
       ·have w:IntKind.i64.wrap ((i:Int) - 1)=((i - 1:Nat):Int):=zaD0 i (by omega) (by omega)
        rw [gdp (by rw [w]; omega)]
        simp only [w,Int.toNat_natCast,show (0:Int) < (i:Int) by omega,cE,Option.bind_some,gH,zaR6,e1,e2,iK]
        by_cases e3:ltP (l.getD (i - 1) aY.zero).aP (l.getD i aY.zero).aP
        ·simp only [e3,not_true,cD,cE,wmap]
        ·simp only [e3,hJ,cE,cD,wmap]
     ·simp only [cV] at h
      split at h
      ·cases h; simp; omega
      ·cases h)
    (fun s hs=>by unfold zY2; simp) [] (by simp)
   have fold:∀ (t prev:List aY) (s:List aC),l=prev++t →
     walk (fun i h (s:List aC)=>some (if zb2 h.aP=true∧zb4 r h.aK=true∧(i=0∨ltP (l.getD (i - 1) aY.zero).aP h.aP) then .inl (s++[h.aK]) else .inr (.inr false))) (fun s=>Sum.inl (β:=Bool) s) t prev.length s =
      some (if zaw6 r t (prev.getLast?.map (·.aP))=true then .inl (s++t.map (·.aK)) else .inr false):=by
    intro t
    induction t with
    | nil=>intro prev s _; simp [walk,zaw6]
    | cons h t ih =>
     intro prev s hlt
     simp only [walk]
     have hq:(prev.length=0∨ltP (l.getD (prev.length - 1) aY.zero).aP h.aP) ↔ (match prev.getLast?.map (·.aP) with|none=>true|some q=>decide (ltP q h.aP))=true:=by
      rcases List.eq_nil_or_concat prev with rfl|⟨pp,x,rfl⟩
      ·simp
      ·have:(l.getD ((pp.concat x).length - 1) aY.zero)=x:=by
        rw [hlt]; simp [bZ]
       rw [this]; simp
     by_cases e:zb2 h.aP=true∧zb4 r h.aK=true∧(prev.length=0∨ltP (l.getD (prev.length - 1) aY.zero).aP h.aP)
     ·rw [bY e]
      have:=ih (prev++[h]) (s++[h.aK]) (by rw [hlt]; simp)
      rw [show (prev++[h]).length=prev.length+1 by simp] at this
      simp only
      have ht:zaw6 r (h :: t) (prev.getLast?.map (·.aP))=zaw6 r t (some h.aP):=by simp only [zaw6,e.1,e.2.1,hq.1 e.2.2,cN]
      rw [this,ht]
      simp
     ·rw [bW e]
      rw [hq] at e
      have hf:zaw6 r (h :: t) (prev.getLast?.map (·.aP))=false:=by
       rw [eA]
       intro hh
       simp only [zaw6,bX] at hh
       exact e ⟨hh.1,hh.2.1,hh.2.2.1⟩
      rw [hf]; rfl
   have k2:=fold l [] [] rfl
   rw [List.length_nil] at k2
   rw [show ((0,[]):Int×List aC)=(fun (i:Nat) (s:List aC)=>((i:Int),s)) 0 [] from rfl,key,k2]
   have hg:=zbC4 r l none
   by_cases e:zaw6 r l none=true
   ·have hgp:GoodP r l:=(hg.1 e).1
    rw [bY (by simpa using e)]
    simp only [Option.bind_some,zav0,List.nil_append]
    rw [zbi4 r _ (by simp; omega)]
    simp [zbH6,hs,hgp]
   ·have hgp:¬ GoodP r l:=fun h=>e (hg.2 ⟨h,by simp⟩)
    rw [bW (by simpa using e)]
    simp [hgp]
theorem zbC5 (l:List aY) (hl:l.length≤1000000):zh4 l=some (l.map (·.aK)):=by
 unfold zh4
 have key:=zE6 (body:=zY0 l) l aY.zero (fun i (s:List aC)=>((i:Int),s)) (fun i h s=>some (.inl (zaH6 s (some h.aK)))) (fun s=>s) (fun i s=>s.length≤i)
  (fun i s hi hs=>by
   refine ⟨?_,fun s' h=>?_⟩
   ·unfold zY0
    have h1:s.length+1≤4294967296:=by omega
    have h3:0≤(i:Int)∧(i:Int) < (l.length:Int):=by omega
    simp only [h1,h3.1,h3.2,cW,zo2,cF,cE,Int.toNat_natCast,zd0 i (by omega),Option.map_some,wmap,zaH6]
   ·simp only [cV,eW] at h; subst h; simp [zaH6]; omega)
  (fun s hs=>by unfold zY0; simp) [] (by simp)
 rw [show ((0,[]):Int×List aC)=(fun (i:Nat) (s:List aC)=>((i:Int),s)) 0 [] from rfl,key,zaL2 (fun h:aY=>some h.aK)]
 simp [zau8]
theorem zaN7 (r:aH) (l:List aY):zv7 r l=some (zM6 r l):=by
 unfold zv7 zM6
 rw [zaW6]
 cases hs:zh0 r with
 | false=>simp
 | true =>
  by_cases h8:8 < (l.length:Int)
  ·have:¬ l.length≤8:=by omega
   simp [h8,this]
  ·have hl8:l.length≤8:=by omega
   simp only [cL,dF,h8,cK,bV,cD,hl8,cF,cN]
   have key:=zE6 (body:=zag6 r l) l aY.zero (fun i (_:Unit)=>(i:Int))
    (fun i h _=>some (if zb2 h.aP=true∧zb4 r h.aK=true∧(i=0∨ltP (l.getD (i - 1) aY.zero).aP h.aP) then .inl () else .inr (.inr false))) (fun _=>Sum.inl (β:=Bool) ()) (fun i s=>True)
    (fun i s hi _=>by
     refine ⟨?_,fun _ _=>trivial⟩
     unfold zag6
     have h3:0≤(i:Int)∧(i:Int) < (l.length:Int):=by omega
     simp only [h3.1,h3.2,cW,eU,zo2,cF,cE,Int.toNat_natCast,zd0 i (by omega),Option.map_some,zaA6,zaR7]
     by_cases e2:i=0
     ·subst e2
      rw [gdp (by simp)]
      by_cases e1:zb2 (l.getD 0 aY.zero).aP=true
      ·by_cases e3:zb4 r (l.getD 0 aY.zero).aK=true
       ·simp only [e1,e3]; simp [wmap]
       ·simp only [e1,e3]; simp [wmap]
      ·simp only [e1]; simp [wmap]
     ·have w:IntKind.i64.wrap ((i:Int) - 1)=((i - 1:Nat):Int):=zaD0 i (by omega) (by omega)
      rw [gdp (fun _=>by rw [w]; omega)]
      simp only [w,Int.toNat_natCast,show (0:Int) < (i:Int) by omega,cF,cN,zaR6,e2,iK]
      by_cases e1:zb2 (l.getD i aY.zero).aP=true
      ·by_cases e3:zb4 r (l.getD i aY.zero).aK=true
       ·by_cases e4:ltP (l.getD (i - 1) aY.zero).aP (l.getD i aY.zero).aP
        ·simp only [e1,e3,e4]; simp [wmap]
        ·simp only [e1,e3,e4]; simp [wmap]
       ·simp only [e1,e3]; simp [wmap]
      ·simp only [e1]; simp [wmap])
    (fun s hs=>by unfold zag6; simp) () trivial
   have fold:∀ (t prev:List aY),l=prev++t →
     walk (fun i h (_:Unit)=>some (if zb2 h.aP=true∧zb4 r h.aK=true∧(i=0∨ltP (l.getD (i - 1) aY.zero).aP h.aP) then .inl () else .inr (.inr false))) (fun _=>Sum.inl (β:=Bool) ()) t prev.length () =
      some (if zaw6 r t (prev.getLast?.map (·.aP))=true then .inl () else .inr false):=by
    intro t
    induction t with
    | nil=>intro prev _; simp [walk,zaw6]
    | cons h t ih =>
     intro prev hlt
     simp only [walk]
     have hq:(prev.length=0∨ltP (l.getD (prev.length - 1) aY.zero).aP h.aP) ↔ (match prev.getLast?.map (·.aP) with|none=>true|some q=>decide (ltP q h.aP))=true:=by
      rcases List.eq_nil_or_concat prev with rfl|⟨pp,x,rfl⟩
      ·simp
      ·have:(l.getD ((pp.concat x).length - 1) aY.zero)=x:=by
        rw [hlt]; simp [bZ]
       rw [this]; simp
     by_cases e:zb2 h.aP=true∧zb4 r h.aK=true∧(prev.length=0∨ltP (l.getD (prev.length - 1) aY.zero).aP h.aP)
     ·rw [bY e]
      have:=ih (prev++[h]) (by rw [hlt]; simp)
      rw [show (prev++[h]).length=prev.length+1 by simp] at this
      simp only
      have ht:zaw6 r (h :: t) (prev.getLast?.map (·.aP))=zaw6 r t (some h.aP):=by simp only [zaw6,e.1,e.2.1,hq.1 e.2.2,cN]
      rw [this,ht]
      simp
     ·rw [bW e]
      rw [hq] at e
      have hf:zaw6 r (h :: t) (prev.getLast?.map (·.aP))=false:=by
       rw [eA]
       intro hh
       simp only [zaw6,bX] at hh
       exact e ⟨hh.1,hh.2.1,hh.2.2.1⟩
      rw [hf]; rfl
   have k2:=fold l [] rfl
   rw [List.length_nil] at k2
   rw [show (0:Int)=(fun (i:Nat) (_:Unit)=>(i:Int)) 0 () from rfl,key,k2]
   have hg:=zbC4 r l none
   by_cases e:zaw6 r l none=true
   ·have hgp:GoodP r l:=(hg.1 e).1
    rw [bY (by simpa using e)]
    simp only [Option.bind_some,zaC5]
    rw [zbC5 l (by omega),Option.bind_some,zbo0 r _ (by simp; omega)]
    simp [zbH6,hs,hgp]
   ·have hgp:¬ GoodP r l:=fun h=>e (hg.2 ⟨h,by simp⟩)
    rw [bW (by simpa using e)]
    simp [hgp]
theorem zbw6 (p:aJ) (a:aC) (l:List aY):(insP p a l).length=l.length+1:=by
 induction l with
 | nil=>rfl
 | cons h t ih=>simp only [insP]; split <;> simp [ih]
theorem zdh7 (l:List aY) (p:aJ) (a:aC):(setL l p a).length≤l.length+1:=by
 have:=zaN6 p l
 unfold setL
 split
 ·omega
 ·rw [zbw6]; omega
theorem zan7 {r:aH} {l:List aY} (h:zM6 r l=true):l.length≤8:=by
 unfold zM6 at h; simp at h; exact h.2.1
def zal8 (r:aH) (l:List aY) (p:aJ) (a:aC):Bool:=zM6 r l&&(zb2 p&&zb4 r a)
def zaJ9 (r:aH) (l:List aY) (p:aJ) (a:aC):Bool:=zal8 r l p a&&zM6 r (setL l p a)
theorem zcS4 (r:aH) (l:List aY) (p:aJ) (a:aC):zB2 r l p a=some (zal8 r l p a):=by
 unfold zB2 zal8
 rw [zaD5,Option.bind_some,gU]
theorem zdt7 (r:aH) (l:List aY) (p:aJ) (a:aC):zL6 r l p a=some (zaJ9 r l p a):=by
 unfold zL6 zaJ9
 rw [zcS4,Option.bind_some]
 cases h:zal8 r l p a with
 | false=>simp
 | true =>
  have hv:zM6 r l=true:=by unfold zal8 at h; simp at h; exact h.1
  simp only [cE]
  rw [zbS6 l p a (by have:=zan7 hv; omega),Option.bind_some,zaD5]
  simp
theorem zcu3 (r:aH) (l:List aY) (p:aJ) (a:aC):zL5 r l p a=some (zaJ9 r l p a):=by
 unfold zL5 zaJ9
 rw [zaN7,Option.bind_some,zaA6,zaR7,gU]
 change ((if zal8 r l p a=true then _ else _):Option (List aY)).bind _=_
 cases h:zal8 r l p a with
 | false=>unfold zal8 at h; simp [h]
 | true =>
  have hv:zM6 r l=true:=by unfold zal8 at h; simp at h; exact h.1
  unfold zal8 at h
  simp only [h,cE]
  rw [zaA5 l p a (by have:=zan7 hv; omega),Option.bind_some,zaN7]
  simp
def zan8 (p:aJ):List aX→Nat→Option Nat
 | [],_=>none
 | w :: l,i=>if w.aP=p then some i else zan8 p l (i+1)
def zW4 (l:List aX) (p:aJ):Int:=match zan8 p l 0 with
 | some i=>i
 | none=>-1
theorem zbH8 (l:List aX) (p:aJ):∀ k i,i+k=l.length→zU5 (fun i=>if (l.getD i aX.zero).aP=p then some (i:Int) else none) k i=(zan8 p (l.drop i) i).map fun n:Nat=>(n:Int)
 | 0,i,h=>by rw [gJ (by omega)]; rfl
 | k+1,i,h=>by
  rw [zaq9 l i aX.zero (by omega)]
  simp only [zU5,zan8]
  by_cases hp:(l.getD i aX.zero).aP=p
  ·simp only [hp,cE,Option.map_some]
  ·simp only [hp,cD]
   exact zbH8 l p k (i+1) (by omega)
theorem zaK6 (l:List aX) (p:aJ) (hl:l.length < 4611686018427387904):zn8 l p=some (zW4 l p):=by
 unfold zn8
 have key:zc0 (zam6 l p) 0=some ((zU5 (fun i=>if (l.getD i aX.zero).aP=p then some (Sum.inr (i:Int)) else none) l.length 0).getD (Sum.inl ())):=by
  refine zM3 l.length _ (Sum.inl ()) (fun i hi=>?_) ?_
  ·unfold zam6
   rw [bY (by simpa using hi),zh6 (by omega)]
   simp only [Int.toNat_natCast,cB]
   split
   ·rfl
   ·rw [zd2 (by omega) (by omega)]
  ·unfold zam6
   rw [bW (by simp)]
 rw [key]
 have h2:=zbH8 l p l.length 0 (by omega)
 have h3:∀ k i,zU5 (fun i=>if (l.getD i aX.zero).aP=p then some (Sum.inr (α:=Unit) (i:Int)) else none) k i=(zU5 (fun i=>if (l.getD i aX.zero).aP=p then some (i:Int) else none) k i).map Sum.inr:=by
  intro k
  induction k with
  | zero=>intro i; rfl
  | succ k ih =>
   intro i
   simp only [zU5]
   by_cases hp:(l.getD i aX.zero).aP=p
   ·simp only [hp,cE,Option.map_some]
   ·simp only [hp,cD,ih]
 rw [h3,h2,fP]
 unfold zW4
 cases zan8 p l 0 <;> rfl
theorem zas9 (l:List aX) (p:aJ) (hl:l.length < 4611686018427387904):zl0 l p=some (zW4 l p):=by
 have e:zl0 l p=zn8 l p:=rfl
 rw [e]; exact zaK6 l p hl
theorem zaK7 (w:aX):zB7 w=zm8 w:=by
 unfold zB7 zm8 zj6 zb2 zF3 zs7 zb4 zh0 zz5 zx7
 rw [dL]
 simp
 omega
def zZ9 (l:List aX):Bool:=decide (l.length≤8)&&(List.range l.length).all fun i=>zm8 (l.getD i aX.zero)&&decide (zW4 l (l.getD i aX.zero).aP=i)
theorem zbp6 (l:List aX):zu3 l=some (zZ9 l):=by
 unfold zu3 zZ9
 by_cases h8:8 < (l.length:Int)
 ·rw [bY (by simpa using h8)]
  have:¬ l.length≤8:=by omega
  simp [this]
 ·rw [bW (by simpa using h8)]
  have hl:l.length < 4611686018427387904:=by omega
  have key:zc0 (zU3 l) 0=some ((zU5 (fun i=>if (zm8 (l.getD i aX.zero)&&decide (zW4 l (l.getD i aX.zero).aP=i))=true then none else some (Sum.inr false)) l.length 0).getD (Sum.inl ())):=by
   refine zM3 l.length _ (Sum.inl ()) (fun i hi=>?_) ?_
   ·unfold zU3
    rw [bY (by simpa using hi),zh6 (by omega)]
    simp only [Int.toNat_natCast]
    by_cases hv:zm8 (l.getD i aX.zero)=true
    ·simp only [hv,cE,zaK6 l _ hl,Option.bind_some,cL,dF,cN]
     by_cases hf:zW4 l (l.getD i aX.zero).aP=(i:Int)
     ·simp only [hf,cF,cL,bV,cD,cE]
      rw [zd2 (by omega) (by omega)]
     ·simp only [hf,cK,cY,cE,bV,cD]
    ·have hv:zm8 (l.getD i aX.zero)=false:=by simpa using hv
     simp only [hv,bV,cD,Option.bind_some,cY,fQ,cE,eG]
   ·unfold zU3
    rw [bW (by simp)]
  rw [key,zU6,← eN]
  have:l.length≤8:=by omega
  simp only [this,cF,cN]
  cases (List.range l.length).all fun i=>zm8 (l.getD i aX.zero)&&decide (zW4 l (l.getD i aX.zero).aP=i) <;> rfl
theorem zbi5 (l:List aX):zs8 l=some (zZ9 l):=by
 rw [← zbp6 l]
 unfold zs8 zu3
 by_cases h8:8 < (l.length:Int)
 ·rw [bY (cS h8),bY (cS h8)]
 ·rw [bW (by simpa using h8),bW (by simpa using h8)]
  have hl:l.length < 4611686018427387904:=by omega
  have e:zap6 l=zU3 l:=funext fun i=>by
   unfold zap6 zU3
   by_cases hi:i < (l.length:Int)
   ·rw [bY (cS hi),bY (cS hi)]
    by_cases h0:0≤i∧i < (l.length:Int)
    ·rw [zh6 h0,zh6 h0,zh6 (fun _=>h0)]
     simp only [zaK7,zas9 l _ hl,zaK6 l _ hl]
    ·unfold gd; rw [bW h0,bW h0]
   ·rw [bW (by simpa using hi)]; rw [bW (by simpa using hi)]
  rw [e]
  rfl
theorem zcu4 {p:aJ}:∀ {l:List aX} {i j:Nat},zan8 p l i=some j→i≤j∧j < i+l.length
 | w :: l,i,j,h=>by
  simp only [zan8] at h
  split at h
  ·cases h; simp
  ·have:=zcu4 h; simp only [List.length_cons]; omega
theorem zcu5 (l:List aX) (p:aJ):zW4 l p=-1∨0≤zW4 l p∧zW4 l p < l.length:=by
 unfold zW4
 cases h:zan8 p l 0 with
 | none=>exact .inl rfl
 | some j=>right; have:=zcu4 h; simp only; omega
def over (w e:aX):Bool:=decide (e.bH < w.bH)&&decide (e.bR < 3)
def zan9 (l:List aX) (w:aX):Nat→Nat
 | 0=>0
 | k+1=>if over w (l.getD k aX.zero)=true then zan9 l w k else k+1
theorem zbl7 (l:List aX) (w:aX):∀ k,zan9 l w k≤k
 | 0=>dC _
 | k+1=>by unfold zan9; split <;> have:=zbl7 l w k <;> omega
def bump (e:aX):aX:={ e with bR:=IntKind.i64.wrap (e.bR+1) }
def zbi6 (l:List aX) (w:aX) (n:Nat):List aX:=l.take n++w :: (l.drop n).map bump
def insS (l:List aX) (w:aX):List aX×Int×Int :=
 if zZ9 l=false then ([],0,2)
 else if zm8 w=false∨w.bR≠0 then ([],0,1)
 else if 0≤zW4 l w.aP then ([],0,11)
 else if l.length=8 then ([],0,4)
 else (zbi6 l w (zan9 l w l.length),(zan9 l w l.length:Int),0)
theorem zbs5 {l:List aX} (h:zZ9 l=true):l.length≤8:=by
 simp only [zZ9,bX,cB] at h; exact h.1
theorem zbK0 (l:List aX) (w:aX):zu7 l w=some (insS l w):=by
 unfold zu7 insS
 rw [zbi5,Option.bind_some]
 cases hv:zZ9 l with
 | false=>rfl
 | true =>
  have h8:=zbs5 hv
  simp only [cL,bV,fV,cD,zaK7]
  by_cases hw:zm8 w=false∨w.bR≠0
  ·rw [bY hw,bY (by rcases hw with h|h <;> simp [h])]
  ·have hw1:zm8 w=true:=by simpa using fun h=>hw (.inl h)
   have hw2:w.bR=0:=by simpa using fun h=>hw (.inr h)
   rw [bW hw,bW (by simp [hw1,hw2]),zas9 _ _ (by omega),Option.bind_some]
   by_cases hf:0≤zW4 l w.aP
   ·rw [bY hf,bY (cS hf)]
   ·rw [bW hf,bW (by simpa using hf)]
    by_cases h9:l.length=8
    ·rw [bY h9,bY (cS (by omega))]
    ·rw [bW h9,bW (by simp; omega)]
     have h2:=zct8 (body:=zal3 l w) (fun g=>∃ i:Nat,g=i∧i≤l.length) (fun g=>g.toNat) (fun g=>((zan9 l w g.toNat:Nat):Int)) (fun g ⟨i,g1,g2⟩=>by
      subst g1
      unfold zal3
      cases i with
      | zero=>right; rw [zh6 (by simp),zh6 (by simp)]; rfl
      | succ i =>
       have e2:IntKind.i64.wrap (((i+1:Nat):Int) - 1)=(i:Int):=by rw [zd2 (by omega) (by omega)]; omega
       simp only [e2,Int.toNat_natCast]
       rw [zh6 (by omega),zh6 (by omega),gU]
       by_cases ho:over w (l.getD i aX.zero)=true
       ·left
        rw [bY (by unfold over at ho; simp only [ho,eV,cB]; omega)]
        exact ⟨_,rfl,⟨i,rfl,by omega⟩,by simp only [Int.toNat_natCast]; omega,by simp only [Int.toNat_natCast,zan9,ho,cE]⟩
       ·right
        rw [bW (by rw [bX]; exact fun h=>ho h.2)]
        simp only [zan9,bW ho]) (l.length:Int) ⟨l.length,rfl,dC _⟩
     rw [h2,Option.bind_some]
     simp only [Int.toNat_natCast]
     have hp:=zbl7 l w l.length
     generalize zan9 l w l.length=n at hp
     unfold zab7
     simp only [Int.toNat_natCast]
     rw [zh6 (by omega),zh6 (by simp; omega),zh6 (by simp; omega)]
     have key:=zct9 (body:=zab6 l) l.length (fun i s=>.inl (s++[bump (l.getD i aX.zero)])) (fun s=>s) (fun i s=>s.length≤i+1) (fun i s hi hs=>by
      refine ⟨?_,fun s' h=>by cases h; simp; omega⟩
      unfold zab6
      rw [bY (cS (by simp only; omega)),zh6 (by simp only; omega),zh6 (by simp only; omega),zd2 (by simp only; omega) (by simp only; omega)]
      rfl) (fun s hs=>by
      unfold zab6
      rw [bW (by simp)]) (l.length - n) n (l.take n++[w]) (by omega) (by simp only [cA,dG,List.length_cons,List.length_nil]; omega)
     have e3:(l.drop n).take (l.length - n)=l.drop n:=dV (by simp)
     rw [key,zbS2,zbS4 l aX.zero bump _ n (by omega),e3,Option.bind_some]
     simp [zaz8,zbi6]
theorem zbw7 (a b:List aX) (hl:a.length < 4611686018427387904):ze5 a b=some (decide (a=b)):=by
 unfold ze5
 by_cases h:a.length=b.length
 ·rw [bW (by simp [h])]
  exact zbC0 a b aX.zero hl h fun i=>rfl
 ·rw [bY (by simp; omega)]
  have:a≠b:=fun e=>h (by rw [e])
  simp [this]
def notP (p:aJ) (w:aX):Bool:=!decide (w.aP=p)
def rmL (l:List aX) (p:aJ):List aX:=l.filter (notP p)
theorem zdt8 (l:List aX) (p:aJ):(rmL l p).length≤l.length:=List.length_filter_le _ _
theorem zau1 (l:List aX) (p:aJ) (hl:l.length < 4294967296):zh2 l p=some (rmL l p,decide ((rmL l p).length < l.length)):=by
 unfold zh2
 have key:=zcS1 (body:=zab2 l p) l.length (fun i s=>.inl (if notP p (l.getD i aX.zero)=true then s++[l.getD i aX.zero] else s)) (fun s=>s) (fun i s=>s.length≤i) (fun i s hi hs=>by
  refine ⟨?_,fun s' h=>by simp only [eW] at h; subst h; split <;> first|omega|(simp only [cA,List.length_cons,List.length_nil]; omega)⟩
  unfold zab2
  rw [bY (cS (by simp only; omega)),zh6 (by simp only; omega),zd2 (by simp only; omega) (by simp only; omega)]
  simp only [Int.toNat_natCast]
  by_cases hp:(!decide ((l.getD i aX.zero).aP=p))=true
  ·rw [bY hp,bY (show notP p _=true from hp),zh6 (by omega),zh6 (by omega)]
  ·rw [bW hp,bW (show ¬ notP p _=true from hp)]) (fun s hs=>by
  unfold zab2
  rw [bW (by simp)]) [] (gB _)
 rw [key,zbS3 l aX.zero (notP p) l.length 0 [] (by omega),List.nil_append,fP,Option.bind_some]
 unfold zay2 rmL
 simp
theorem zbS7 {p:aJ}:∀ {l:List aX} {i:Nat},zan8 p l i=none ↔ ∀ w ∈ l,w.aP≠p
 | [],i=>by simp [zan8]
 | w :: l,i=>by
  simp only [zan8]
  by_cases h:w.aP=p
  ·simp [h]
  ·simp only [h,cD,zbS7 (l:=l),cJ,forall_eq_or_imp,ne_eq,hJ,gH]
theorem zcS5 {l:List aX} {p:aJ}:¬ 0≤zW4 l p ↔ ∀ w ∈ l,w.aP≠p:=by
 rw [← zbS7 (i:=0)]
 unfold zW4
 cases zan8 p l 0 <;> simp
theorem zbC6 {w:aX} (h:zm8 w=true):0≤w.bR∧w.bR≤3:=by
 unfold zm8 at h
 simp only [bX,cB] at h
 exact ⟨h.1.2,h.2⟩
theorem zdC9 (e:aX):(bump e).aP=e.aP:=rfl
theorem zcu6 (s:ByteArray):zP3 s=zJ3 s:=by
 unfold zP3 zJ3 zD8
 generalize (s.toList == _)=a
 generalize (s.toList == _)=b
 generalize (s.toList == _)=c
 generalize (s.toList == _)=d
 generalize (s.toList == _)=e
 cases a <;> cases b <;> cases c <;> cases d <;> cases e <;> rfl
def chI (s:ByteArray) (i:Nat):Int:=((s.toList.getD i 0).toNat:Int)
def okC (s:ByteArray) (i:Nat):Bool:=zR9 (chI s i)||(!decide (i=0)&&zF7 (chI s i))
theorem zbw8 (s:ByteArray) (hl:s.size≤12):zc0 (zF8 s) 0=some (if (List.range s.size).all (okC s)=true then .inl () else .inr false):=by
 have key:zc0 (zF8 s) 0=some ((zU5 (fun i=>if okC s i=true then none else some (Sum.inr false)) s.size 0).getD (Sum.inl ())):=by
  refine zM3 s.size _ (Sum.inl ()) (fun i hi=>?_) ?_
  ·unfold zF8
   rw [bY (by simpa using hi),zh6 (by omega),zd2 (by omega) (by omega)]
   simp only [Int.toNat_natCast]
   have e:((!((decide (97≤((s.toList.getD i 0).toNat:Int)))&&(decide (((s.toList.getD i 0).toNat:Int)≤122))))&&((decide ((i:Int)=0))||(!((((decide (48≤((s.toList.getD i 0).toNat:Int)))&&(decide (((s.toList.getD i 0).toNat:Int)≤57)))||(decide (((s.toList.getD i 0).toNat:Int)=95)))||(decide (((s.toList.getD i 0).toNat:Int)=45))))))=!okC s i:=by
    unfold okC zF7 zR9 chI
    generalize ((s.toList.getD i 0).toNat:Int)=c
    rw [dL]
    simp
    omega
   cases hk:okC s i
   ·rw [hk] at e; exact bY e
   ·rw [hk] at e; exact bW (by rw [show _=false from e]; decide)
  ·unfold zF8
   rw [bW (by simp)]
 rw [key,zU6,← eN]
 cases (List.range s.size).all (okC s) <;> rfl
theorem zbK1 (s:ByteArray) (hl:s.size≤12):zc0 (zJ5 s) 0=some (if (List.range s.size).all (fun i=>zF7 (chI s i))=true then .inl () else .inr false):=by
 have key:zc0 (zJ5 s) 0=some ((zU5 (fun i=>if zF7 (chI s i)=true then none else some (Sum.inr false)) s.size 0).getD (Sum.inl ())):=by
  refine zM3 s.size _ (Sum.inl ()) (fun i hi=>?_) ?_
  ·unfold zJ5
   rw [bY (by simpa using hi),zh6 (by omega),zd2 (by omega) (by omega)]
   simp only [Int.toNat_natCast]
   show (if (!zF7 (chI s i))=true then _ else _)=_
   cases zF7 (chI s i) <;> rfl
  ·unfold zJ5
   rw [bW (by simp)]
 rw [key,zU6,← eN]
 cases (List.range s.size).all (fun i=>zF7 (chI s i)) <;> rfl
def zY9 (s:ByteArray):Bool:=decide (1≤s.size)&&(decide (s.size≤12)&&(!zJ3 s&&(List.range s.size).all (okC s)))
theorem zbe2 (s:ByteArray):ze4 s=some (zY9 s):=by
 unfold ze4 zY9
 rw [zcu6]
 by_cases h1:s.size < 1
 ·have:¬ 1≤s.size:=by omega
  rw [bY (by simp; omega)]
  simp [this]
 by_cases h2:12 < s.size
 ·have:¬ s.size≤12:=by omega
  rw [bY (by simp; omega)]
  simp [this]
 cases hr:zJ3 s
 ·rw [bW (by simp; omega),zbw8 s (by omega)]
  have a1:1≤s.size:=by omega
  have a2:s.size≤12:=by omega
  simp only [a1,a2,cF,cN,cY]
  cases (List.range s.size).all (okC s) <;> rfl
 ·rw [bY (by simp)]
  simp
theorem zaE9 (s:ByteArray):zh8 s=some (zY9 s):=by
 unfold zh8 zY9
 by_cases h1:s.size < 1
 ·have:¬ 1≤s.size:=by omega
  rw [zh6 (by simp; omega),bY (by simp; omega)]
  simp [this]
 by_cases h2:12 < s.size
 ·have:¬ s.size≤12:=by omega
  rw [zh6 (by simp; omega),bY (by simp; omega)]
  simp [this]
 have a1:1≤s.size:=by omega
 have a2:s.size≤12:=by omega
 rw [zh6 (by intro _; omega)]
 have c0:((s.toList.getD 0 0).toNat:Int)=chI s 0:=rfl
 have d1:decide ((s.size:Int) < 1)=false:=by simp; omega
 have d2:decide (12 < (s.size:Int))=false:=by simp; omega
 simp only [a1,a2,cF,cN,c0,d1,d2,dF]
 have hall:(List.range s.size).all (okC s)=(zR9 (chI s 0)&&(List.range s.size).all fun i=>zF7 (chI s i)):=by
  rw [dL]
  simp only [eO,eR,bX,okC,dY,dB,dD]
  constructor
  ·intro h
   refine ⟨?_,fun i hi=>?_⟩
   ·rcases h 0 (by omega) with h|h
    ·exact h
    ·exact absurd rfl h.1
   ·rcases h i hi with h|h
    ·unfold zF7; simp [h]
    ·exact h.2
  ·rintro ⟨h0,h⟩ i hi
   by_cases hz:i=0
   ·subst hz; exact .inl h0
   ·exact .inr ⟨hz,h i hi⟩
 rw [hall]
 cases hr:zJ3 s
 ·cases hL:zR9 (chI s 0)
  ·rfl
  ·simp only [cL,eT,bV,cD,zbK1 s a2,cY,cN]
   cases (List.range s.size).all (fun i=>zF7 (chI s i)) <;> rfl
 ·simp
def resV (r:aH):Bool:=zY9 r.name&&(zh0 r&&(decide (0≤r.home)&&decide (r.home < 4)))
theorem zbS8 (r:aH):zf3 r=some (resV r):=by
 unfold zf3 resV
 rw [zbe2]
 simp only [Option.bind_some,gU]
theorem zbw9 (r:aH):zj1 r=some (resV r):=by
 unfold zj1 resV
 rw [zaE9,zaW6]
 simp only [Option.bind_some,gU]
def getH (l:List aY) (p:aJ):aC:=match l.find? fun h=>decide (h.aP=p) with
 | some h=>h.aK
 | none=>aC.zero
theorem zbS9 (l:List aY) (p:aJ):∀ k i,i+k=l.length→((zU5 (fun i=>if (l.getD i aY.zero).aP=p then some (Sum.inr (α:=Unit) (l.getD i aY.zero).aK) else none) k i).getD (Sum.inl ()))=match (l.drop i).find? fun h=>decide (h.aP=p) with
  | some h=>Sum.inr h.aK
  | none=>Sum.inl ()
 | 0,i,h=>by rw [gJ (by omega)]; rfl
 | k+1,i,h=>by
  rw [zaq9 l i aY.zero (by omega)]
  simp only [zU5,List.find?_cons]
  by_cases hp:(l.getD i aY.zero).aP=p
  ·simp only [hp,cE,cF,Option.getD_some]
  ·simp only [hp,cD,cK]
   exact zbS9 l p k (i+1) (by omega)
theorem zbi7 (l:List aY) (p:aJ) (hl:l.length < 4611686018427387904):zk1 l p=some (getH l p):=by
 unfold zk1
 have key:zc0 (zP1 l p) 0=some ((zU5 (fun i=>if (l.getD i aY.zero).aP=p then some (Sum.inr (α:=Unit) (l.getD i aY.zero).aK) else none) l.length 0).getD (Sum.inl ())):=by
  refine zM3 l.length _ (Sum.inl ()) (fun i hi=>?_) ?_
  ·unfold zP1
   rw [bY (by simpa using hi),zh6 (by omega),zd2 (by omega) (by omega)]
   simp only [Int.toNat_natCast,cB]
   split <;> rfl
  ·unfold zP1
   rw [bW (by simp)]
 rw [key,zbS9 l p l.length 0 (by omega),fP]
 unfold getH
 cases l.find? fun h=>decide (h.aP=p) <;> rfl
theorem zaZ9 (l:List aY) (p:aJ) (hl:l.length < 4611686018427387904):zn9 l p=some (getH l p):=by
 rw [← zbi7 l p hl]
 unfold zn9 zk1
 have e:zay4 l p=zP1 l p:=funext fun i=>by
  unfold zay4 zP1
  by_cases h:0≤i∧i < (l.length:Int)
  ·simp only [zh6 h]
  ·by_cases hi:i < (l.length:Int)
   ·rw [bY (cS hi),bY (cS hi),gdn h,gdn h]
   ·rw [bW (by simpa using hi),bW (by simpa using hi)]
 rw [e]
 rfl
theorem zaF0 (a:aC):zn2 a=zm1 a:=rfl
abbrev covM (a b:Int):Bool:=zS0 a b
theorem zaW7 (a b:Int):covM a b=true ↔ (1≤a∧a≤5∧1≤b∧b≤5)∧(a=b∨a=5∨b=1∨a=4∧b≠5):=by
 unfold covM zS0 zz5
 by_cases h:1≤a∧a≤5∧1≤b∧b≤5
 ·rw [bW (by simp; omega)]
  simp
  omega
 ·rw [bY (by simp; omega)]
  simp
  omega
theorem zbT0 (a b:Int):zo0 a b=some (covM a b):=by
 unfold zo0 zx7
 rw [zh6 (by simp; omega)]
 congr 1
 rw [dL,zaW7]
 by_cases h:1≤a∧a≤5∧1≤b∧b≤5
 ·obtain ⟨h1,h2,h3,h4⟩:=h
  have ha:a=1∨a=2∨a=3∨a=4∨a=5:=by omega
  have hb:b=1∨b=2∨b=3∨b=4∨b=5:=by omega
  rcases ha with rfl|rfl|rfl|rfl|rfl <;> rcases hb with rfl|rfl|rfl|rfl|rfl <;> decide
 ·constructor
  ·intro hh
   simp only [bX,cB] at hh
   omega
  ·rintro ⟨hh,_⟩; exact absurd hh h
def covA (r:aH) (a b:aC):Bool:=zu6 r a b
theorem zbC7 (r:aH) (a b:aC):zq8 r a b=some (covA r a b):=by
 unfold zq8 covA zu6
 simp only [zbl5,zaF0,zbT0,Option.bind_some]
 cases zc9 r a <;> cases zc9 r b <;> simp
 cases ha:zm1 a <;> cases hb:zm1 b <;> simp
 split <;> rfl
theorem zaT1 (q:aB) (p:aJ) (hl:q.aS.length < 4611686018427387904):zo8 q p=some (getH q.aS p):=by
 unfold zo8
 rw [zbi7 _ _ hl]; rfl
theorem zI5 (q:aB) (p:aJ) (hl:q.aS.length < 4611686018427387904):zi7 q p=some (getH q.aS p):=by
 unfold zi7
 rw [zaZ9 _ _ hl]; rfl
theorem hb (b:Bool):b=true∨b=false:=by cases b <;> simp
def cvI (q:aB) (i:Nat):Bool :=
 let w:=q.aI.getD i aX.zero
 let h:=getH q.aS w.aP
 decide (zW4 q.aI w.aP=(i:Int))&&(!zm1 h&&(zb4 q.aA w.aK&&(covA q.aA w.aK h&&(!decide (w.aK=h)&&(decide (w.bH=0)&&decide (w.bR=0))))))
def cvOk (q:aB):Bool:=decide (q.aI.length≤8)&&(List.range q.aI.length).all (cvI q)
def wtI (q:aB) (i:Nat):Bool :=
 let w:=q.aV.getD i aX.zero
 zb4 q.aA w.aK&&zm1 (getH q.aS w.aP)
def wtOk (q:aB):Bool:=zZ9 q.aV&&(decide (q.aS.length+q.aV.length≤8)&&(List.range q.aV.length).all (wtI q))
theorem zca8 (q:aB) (hl:q.aS.length < 4611686018427387904) (hc:q.aI.length≤8):zc0 (zC9 q) 0=some (if (List.range q.aI.length).all (cvI q)=true then .inl () else .inr false):=by
 have key:zc0 (zC9 q) 0=some ((zU5 (fun i=>if cvI q i=true then none else some (Sum.inr false)) q.aI.length 0).getD (Sum.inl ())):=by
  refine zM3 q.aI.length _ (Sum.inl ()) (fun i hi=>?_) ?_
  ·unfold zC9
   rw [bY (by simpa using hi),zh6 (by omega),zd2 (by omega) (by omega),Int.toNat_natCast]
   unfold cvI
   generalize q.aI.getD i aX.zero=w
   rw [zaT1 q _ hl,Option.bind_some,zaK6 _ _ (show q.aI.length < 4611686018427387904 by omega),Option.bind_some]
   simp only [zbC7]
   rcases hb (decide (zW4 q.aI w.aP=(i:Int))) with c1|c1 <;> rcases hb (zm1 (getH q.aS w.aP)) with c2|c2 <;> rcases hb (zb4 q.aA w.aK) with c3|c3 <;> rcases hb (covA q.aA w.aK (getH q.aS w.aP)) with c4|c4 <;>
    rcases hb (decide (w.aK=getH q.aS w.aP)) with c5|c5 <;> rcases hb (decide (w.bH=0)) with c6|c6 <;> rcases hb (decide (w.bR=0)) with c7|c7 <;>
    simp only [c1,c2,c3,c4,c5,c6,c7,cL,cY,iL,fQ,iT,dF,eV,cN,gN,eG,cE,cD,bV,Option.bind_some,eT,gK]
  ·unfold zC9
   rw [bW (by simp)]
 rw [key,zU6,← eN]
 cases (List.range q.aI.length).all (cvI q) <;> rfl
theorem zba0 (q:aB) (hl:q.aS.length < 4611686018427387904):zr3 q=some (cvOk q):=by
 unfold zr3 cvOk
 by_cases h:8 < q.aI.length
 ·have:¬ q.aI.length≤8:=by omega
  rw [bY (by simp; omega)]
  simp [this]
 ·have h8:q.aI.length≤8:=by omega
  rw [bW (by simp; omega),zca8 q hl h8]
  simp only [h8,cF,cN]
  cases (List.range q.aI.length).all (cvI q) <;> rfl
theorem zbT1 (q:aB) (hl:q.aS.length < 4611686018427387904) (hc:q.aV.length≤8):zc0 (zE2 q) 0=some (if (List.range q.aV.length).all (wtI q)=true then .inl () else .inr false):=by
 have key:zc0 (zE2 q) 0=some ((zU5 (fun i=>if wtI q i=true then none else some (Sum.inr false)) q.aV.length 0).getD (Sum.inl ())):=by
  refine zM3 q.aV.length _ (Sum.inl ()) (fun i hi=>?_) ?_
  ·unfold zE2
   rw [bY (by simpa using hi),zh6 (by omega),zd2 (by omega) (by omega),Int.toNat_natCast]
   unfold wtI
   generalize q.aV.getD i aX.zero=w
   rw [zaT1 q _ hl]
   rcases hb (zm1 (getH q.aS w.aP)) with c2|c2 <;> rcases hb (zb4 q.aA w.aK) with c3|c3 <;> simp only [c2,c3,cL,cY,iL,fQ,iT,dF,eV,cN,gN,eG,cE,cD,bV,Option.bind_some,eT,gK]
  ·unfold zE2
   rw [bW (by simp)]
 rw [key,zU6,← eN]
 cases (List.range q.aV.length).all (wtI q) <;> rfl
theorem zbo1 (q:aB) (hl:q.aS.length≤1000000):zq6 q=some (wtOk q):=by
 unfold zq6 wtOk
 rw [zbp6,Option.bind_some]
 cases hv:zZ9 q.aV
 ·simp
 ·have h8:=zbs5 hv
  rw [zd2 (by omega) (by omega)]
  by_cases h:8 < q.aS.length+q.aV.length
  ·have:¬ q.aS.length+q.aV.length≤8:=by omega
   rw [bY (by simp; omega)]
   simp [this]
  ·have h9:q.aS.length+q.aV.length≤8:=by omega
   rw [bW (by simp; omega),zbT1 q (by omega) h8]
   simp only [h9,cF,cN]
   cases (List.range q.aV.length).all (wtI q) <;> rfl
def zaT2 (q:aB):Bool:=resV q.aA&&(zM6 q.aA q.aS&&(cvOk q&&(wtOk q&&(decide (0≤q.gen)&&decide (q.gen≤1073741824)))))
theorem zbT2 (q:aB):zK3 q=some (zaT2 q):=by
 unfold zK3 zaT2
 rw [zbS8,Option.bind_some]
 cases resV q.aA
 ·simp
 ·simp only [cE,zaD5,Option.bind_some,cN]
  cases hv:zM6 q.aA q.aS
  ·simp
  ·have hl:=zan7 hv
   simp only [cE,zba0 q (by omega),Option.bind_some,cN]
   cases cvOk q
   ·simp
   ·simp only [cE,zbo1 q (by omega),Option.bind_some,cN,gU]
theorem zbT3 (q:aB) (hl:q.aS.length≤1000000) (hc:q.aV.length≤8):zc0 (zaq4 q) 0=some (if (List.range q.aV.length).all (wtI q)=true then .inl () else .inr false):=by
 rw [← zbT1 q (by omega) hc]
 congr 1
 funext i
 unfold zaq4 zE2
 by_cases h:0≤i∧i < (q.aV.length:Int)
 ·rw [bY (cS h.2),bY (cS h.2),zh6 h,zh6 h,zh6 (fun _=>h)]
  simp only [zaR7,zaF0,zaZ9 _ _ (show q.aS.length < 4611686018427387904 by omega),zaT1 q _ (show q.aS.length < 4611686018427387904 by omega)]
 ·by_cases hi:i < (q.aV.length:Int)
  ·rw [bY (cS hi),bY (cS hi),gdn h,gdn h]
  ·rw [bW (by simpa using hi),bW (by simpa using hi)]
theorem zbx0 (q:aB) (hl:q.aS.length≤1000000) (hc:q.aI.length≤8):zc0 (zX0 q) 0=some (if (List.range q.aI.length).all (cvI q)=true then .inl () else .inr false):=by
 have key:zc0 (zX0 q) 0=some ((zU5 (fun i=>if cvI q i=true then none else some (Sum.inr false)) q.aI.length 0).getD (Sum.inl ())):=by
  refine zM3 q.aI.length _ (Sum.inl ()) (fun i hi=>?_) ?_
  ·unfold zX0
   rw [bY (by simpa using hi),zh6 (by omega),zd2 (by omega) (by omega),Int.toNat_natCast]
   unfold cvI covA
   generalize q.aI.getD i aX.zero=w
   rw [zaZ9 _ _ (show q.aS.length < 4611686018427387904 by omega),Option.bind_some,zas9 _ _ (show q.aI.length < 4611686018427387904 by omega)]
   simp only [zaF0,zaR7]
   rcases hb (decide (zW4 q.aI w.aP=(i:Int))) with c1|c1 <;> rcases hb (zm1 (getH q.aS w.aP)) with c2|c2 <;> rcases hb (zb4 q.aA w.aK) with c3|c3 <;> rcases hb (zu6 q.aA w.aK (getH q.aS w.aP)) with c4|c4 <;>
    rcases hb (decide (w.aK=getH q.aS w.aP)) with c5|c5 <;> rcases hb (decide (w.bH=0)) with c6|c6 <;> rcases hb (decide (w.bR=0)) with c7|c7 <;>
    simp only [c1,c2,c3,c4,c5,c6,c7,cL,cY,iL,fQ,iT,dF,eV,cN,gN,eG,cE,cD,bV,Option.bind_some,eT,gK]
  ·unfold zX0
   rw [bW (by simp)]
 rw [key,zU6,← eN]
 cases (List.range q.aI.length).all (cvI q) <;> rfl
theorem zaN8 (q:aB):zD2 q=some (zaT2 q):=by
 unfold zD2 zaT2 cvOk wtOk
 rw [zbw9,Option.bind_some]
 cases resV q.aA
 ·simp
 ·simp only [cE,zaN7,Option.bind_some,cN]
  cases hv:zM6 q.aA q.aS
  ·simp
  ·have hl:=zan7 hv
   by_cases hc:8 < q.aI.length
   ·have h1:¬ q.aI.length≤8:=by omega
    have h2:decide (8 < (q.aI.length:Int))=true:=by simp; omega
    simp [h1,h2]
   ·have h1:q.aI.length≤8:=by omega
    have h2:decide (8 < (q.aI.length:Int))=false:=by simp; omega
    simp only [h1,h2,cL,eT,cY,cE,zbi5,Option.bind_some,dF,cF,cN]
    cases hw:zZ9 q.aV
    ·simp
    ·have h8:=zbs5 hw
     simp only [cL,dF,cN]
     rw [zd2 (by omega) (by omega)]
     by_cases h:q.aS.length+q.aV.length≤8
     ·by_cases g1:0≤q.gen
      ·by_cases g2:q.gen≤1073741824
       ·rw [bW (by simp; omega),zbx0 q (by omega) h1]
        simp only [h,g1,g2,cF,cN,eV]
        cases (List.range q.aI.length).all (cvI q)
        ·rfl
        ·simp only [cE,Option.bind_some,cN]
         unfold zaq5
         rw [zbT3 q (by omega) h8]
         cases (List.range q.aV.length).all (wtI q) <;> rfl
       ·rw [bY (by simp; omega)]; simp [g2]
      ·rw [bY (by simp; omega)]; simp [g1]
     ·rw [bY (by simp; omega)]; simp [h]
def zO7 (q:aB):aX×Bool:=match q.aI++q.aV with
 | w :: _=>(w,true)
 | []=>(aX.zero,false)
theorem zbp7 (q:aB):zn3 q=some (zO7 q):=by
 unfold zn3 zO7
 cases q.aI with
 | cons a l=>rw [bY (by simp),zh6 (by simp)]; rfl
 | nil =>
  rw [bW (by simp)]
  cases q.aV with
  | cons a l=>rw [bY (by simp),zh6 (by simp)]; rfl
  | nil=>rw [bW (by simp)]; rfl
theorem zbp8 (q:aB):zn1 q=some (zO7 q):=by
 rw [← zbp7]; rfl
def zl4 (q:aB):Bool:=zaT2 q&&!((zO7 q).2&&zaJ9 q.aA q.aS (zO7 q).1.aP (zO7 q).1.aK)
theorem zbC8 (q:aB):zU4 q=some (zl4 q):=by
 unfold zU4 zl4
 rw [zbT2,Option.bind_some]
 cases zaT2 q
 ·simp
 ·rw [bW (by simp),zbp7,Option.bind_some]
  cases (zO7 q).2 <;> simp [zdt7]
theorem zaW8 (q:aB):zF4 q=some (zl4 q):=by
 unfold zF4 zl4
 rw [zaN8,Option.bind_some]
 cases zaT2 q
 ·simp
 ·rw [bW (by simp),zbp8,Option.bind_some]
  cases (zO7 q).2 <;> simp [zcu3]
theorem zbT4 (q:aB):zad5 q=some (zl4 q):=by
 unfold zad5
 rw [zbC8]; rfl
theorem zao0 (q:aB):zI2 q=some (zl4 q):=by
 unfold zI2
 rw [zaN8,Option.bind_some]
 cases h:zaT2 q
 ·simp [zl4,h]
 ·simp [zaW8]
theorem zca9 (a b:List aY) (hl:a.length < 4611686018427387904):zf0 a b=some (decide (a=b)):=by
 unfold zf0
 by_cases h:a.length=b.length
 ·rw [bW (by simp [h])]
  exact zbC0 a b aY.zero hl h (fun i=>rfl)
 ·rw [bY (by simp; omega)]
  have:a≠b:=fun e=>h (by rw [e])
  simp [this]
instance:DecidableEq aB:=fun a b=>decidable_of_iff (a.aA=b.aA∧a.aS=b.aS∧a.aI=b.aI∧a.aV=b.aV∧a.gen=b.gen) (by rw [aB.ext_iff])
theorem zcb0 (a b:aB) (h1:a.aS.length < 4611686018427387904) (h2:a.aI.length < 4611686018427387904) (h3:a.aV.length < 4611686018427387904):zp7 a b=some (decide (a=b)):=by
 unfold zp7
 simp only [zca9 _ _ h1,zbw7 _ _ h2,zbw7 _ _ h3]
 have e:decide (a=b)=(decide (a.aA=b.aA)&&(decide (a.gen=b.gen)&&(decide (a.aS=b.aS)&&(decide (a.aI=b.aI)&&decide (a.aV=b.aV))))):=by
  rw [dL]
  simp only [cB,bX,aB.ext_iff]
  constructor
  ·rintro ⟨a1,a2,a3,a4,a5⟩; exact ⟨a1,a5,a2,a3,a4⟩
  ·rintro ⟨a1,a5,a2,a3,a4⟩; exact ⟨a1,a2,a3,a4,a5⟩
 rw [e]
 cases decide (a.aA=b.aA) <;> cases decide (a.gen=b.gen) <;> cases decide (a.aS=b.aS) <;> cases decide (a.aI=b.aI) <;> cases decide (a.aV=b.aV) <;> rfl
theorem zcD9 (a b:List aX) (ha:a.length≤1000000) (hb:b.length≤1000000):zb3 [a,b]=some (a++b):=by
 unfold zb3
 have s0:zp3 [a,b] (0,0)=some (.inl ((a.length:Int),1)):=by
  unfold zp3
  rw [bY (by simp),zh6 (by simp)]
  show (if decide (IntKind.i64.wrap (0+(a.length:Int)) < 0)=true then none else some (Sum.inl (IntKind.i64.wrap (0+(a.length:Int)),_)))=_
  rw [zd2 (by omega) (by omega),bW (by simp),Int.zero_add]
  rfl
 have s1:zp3 [a,b] ((a.length:Int),1)=some (.inl ((a.length:Int)+(b.length:Int),2)):=by
  unfold zp3
  rw [bY (by simp),zh6 (by simp)]
  show (if decide (IntKind.i64.wrap ((a.length:Int)+(b.length:Int)) < 0)=true then none else some (Sum.inl (IntKind.i64.wrap ((a.length:Int)+(b.length:Int)),_)))=_
  rw [zd2 (by omega) (by omega),bW (by simp; omega)]
  rfl
 have s2:zp3 [a,b] ((a.length:Int)+(b.length:Int),2)=some (.inr ((a.length:Int)+(b.length:Int))):=by
  unfold zp3
  rw [bW (by simp)]
 rw [ze0,s0]
 simp only
 rw [ze0,s1]
 simp only
 rw [ze0,s2]
 simp only [Option.bind_some]
 unfold zA4 zb0
 rw [zh6 (by omega),Option.bind_some]
 have t0:zp2 [a,b] (0,[])=some (.inl (1,a)):=by
  unfold zp2
  rw [bY (by simp),zh6 (by simp),zh6 (by simp; omega)]
  rfl
 have t1:zp2 [a,b] (1,a)=some (.inl (2,a++b)):=by
  unfold zp2
  rw [bY (by simp),zh6 (by simp),zh6 (by simp; omega)]
  rfl
 have t2:zp2 [a,b] (2,a++b)=some (.inr (a++b)):=by
  unfold zp2
  rw [bW (by simp)]
 rw [ze0,t0]
 simp only
 rw [ze0,t1]
 simp only
 rw [ze0,t2]
 rfl
theorem zbT5 (q:aB) (h1:q.aI.length≤1000000) (h2:q.aV.length≤1000000):zq1 q=some (q.aI++q.aV):=by
 unfold zq1
 rw [zcD9 _ _ h1 h2]; rfl
def zbH9 (l:List aX) (p:aJ):aC×Bool:=match l.find? fun w=>decide (w.aP=p) with
 | some w=>(w.aK,true)
 | none=>(aC.zero,false)
def zE3 (q:aB) (p:aJ):aC×Bool:=zbH9 (q.aI++q.aV) p
def upM (a b g:Int):Bool:=covM g a&&covM g b
def supM (a b:Int):Int:=if upM a b 1=true then 1 else if upM a b 2=true then 2 else if upM a b 3=true then 3 else if upM a b 4=true then 4 else if upM a b 5=true then 5 else 0
theorem zdh8 {body:Int→Option (Int⊕(Unit⊕Int))} (a b:Int) (hs:∀ g,1≤g→g≤5→body g=some (if upM a b g=true then .inr (.inr g) else .inl (g+1))) (he:body 6=some (.inr (.inl ()))) :
  (zc0 body 1).bind (fun|.inl _=>some 0|.inr z=>some z)=some (supM a b):=by
 unfold supM
 rw [ze0,hs 1 (by decide) (by decide)]
 by_cases c1:upM a b 1=true
 ·simp [c1]
 simp only [c1,bV,cD]
 rw [show (1:Int)+1=2 from rfl,ze0,hs 2 (by decide) (by decide)]
 by_cases c2:upM a b 2=true
 ·simp [c2]
 simp only [c2,bV,cD]
 rw [show (2:Int)+1=3 from rfl,ze0,hs 3 (by decide) (by decide)]
 by_cases c3:upM a b 3=true
 ·simp [c3]
 simp only [c3,bV,cD]
 rw [show (3:Int)+1=4 from rfl,ze0,hs 4 (by decide) (by decide)]
 by_cases c4:upM a b 4=true
 ·simp [c4]
 simp only [c4,bV,cD]
 rw [show (4:Int)+1=5 from rfl,ze0,hs 5 (by decide) (by decide)]
 by_cases c5:upM a b 5=true
 ·simp [c5]
 simp only [c5,bV,cD]
 rw [show (5:Int)+1=6 from rfl,ze0,he]
 rfl
theorem zcl8 (a b:Int):zu8 a b=some (supM a b):=by
 refine zdh8 a b (fun g h1 h2=>?_) ?_
 ·unfold zaz3
  rw [bY (by simpa using h2),zd2 (by omega) (by omega)]
  rcases hb (covM g a) with c|c <;> rcases hb (covM g b) with d|d <;> simp [upM,c,d]
 ·unfold zaz3
  rw [bW (by decide)]
def zaw7 (r:aH) (a b:aC):aC :=
 if (!zc9 r a||!zc9 r b)=true then aC.zero else
 if zm1 a=true then b else if zm1 b=true then a else
 if r.kind=1 then { aC.zero with mode:=supM a.mode b.mode } else { aC.zero with aT:=if a.aT < b.aT then b.aT else a.aT }
theorem zdh9:∀ a ∈ [(1:Int),2,3,4,5],∀ b ∈ [(1:Int),2,3,4,5],covM a b=true→supM a b=a:=by decide
theorem zcS6:∀ a ∈ [(1:Int),2,3,4,5],∀ b ∈ [(1:Int),2,3,4,5],covM b a=true→supM a b=b:=by decide
theorem zbp9 (r:aH) (a b:aC):zB9 r a b=some (zaw7 r a b):=by
 unfold zB9 zaw7
 simp only [zbl5,zcl8,Option.bind_some]
 cases ha:zc9 r a
 ·simp
 cases hpb:zc9 r b
 ·simp
 simp only [cL,eT,bV,cD]
 unfold zu6
 simp only [zbl5,zaF0,ha,hpb,cL,eT,bV,cD]
 rcases hb (zm1 a) with hza|hza <;> rcases hb (zm1 b) with hzb|hzb
 rotate_left 3
 ·simp only [hza,hzb,bV,cD]
  by_cases hk:r.kind=1
  ·have pa:=zaD4 ha hk
   have pb:=zaD4 hpb hk
   have na:a.mode≠0:=fun h=>by
    have:a=aC.zero:=by cases a; simp only at *; simp [aC.zero]; omega
    rw [this] at hza; exact absurd hza (by decide)
   have nb:b.mode≠0:=fun h=>by
    have:b=aC.zero:=by cases b; simp only at *; simp [aC.zero]; omega
    rw [this] at hzb; exact absurd hzb (by decide)
   have ma:a.mode ∈ [(1:Int),2,3,4,5]:=by simp; omega
   have mb:b.mode ∈ [(1:Int),2,3,4,5]:=by simp; omega
   have ea:a={ aC.zero with mode:=a.mode }:=by cases a; simp only at *; simp [aC.zero]; omega
   have eb:b={ aC.zero with mode:=b.mode }:=by cases b; simp only at *; simp [aC.zero]; omega
   simp only [hk,cF,cE]
   by_cases c1:covM a.mode b.mode=true
   ·rw [bY c1,zdh9 _ ma _ mb c1]; exact dR some ea
   ·rw [bW c1]
    by_cases c2:covM b.mode a.mode=true
    ·rw [bY c2,zcS6 _ ma _ mb c2]; exact dR some eb
    ·rw [bW c2]
  ·have hk2:r.kind=2:=by
    have:=ha
    rw [perm_iff,zM4,zM5] at this
    omega
   have pa:=zbl6 ha hk2
   have pb:=zbl6 hpb hk2
   have ea:a={ aC.zero with aT:=a.aT }:=by cases a; simp only at *; simp [aC.zero]; omega
   have eb:b={ aC.zero with aT:=b.aT }:=by cases b; simp only at *; simp [aC.zero]; omega
   have d:decide (r.kind=1)=false:=by simpa using hk
   simp only [d,hk,bV,cD,cB]
   by_cases c1:b.aT≤a.aT
   ·have:¬ a.aT < b.aT:=by omega
    rw [bY c1,bW this]; exact dR some ea
   ·have:a.aT < b.aT:=by omega
    have c2:a.aT≤b.aT:=by omega
    rw [bW c1,bY c2,bY this]; exact dR some eb
 ·have e0:a=aC.zero:=by unfold zm1 at hza; simpa using hza
  have e1:b=aC.zero:=by unfold zm1 at hzb; simpa using hzb
  simp only [hza,hzb,cE]
  rw [e0,e1]
 ·simp only [hza,hzb,cE,bV,cD]
 ·simp only [hza,hzb,cE,bV,cD]
theorem zdt9 (g:Int):zo7 g=zo7 g:=rfl
theorem zaF1 (q:aB) (h1:q.aS.length≤1000000) (h2:q.aI.length≤1000000) (h3:q.aV.length≤1000000):zl8 q=some q:=by
 unfold zl8
 rw [zh6 (by omega),zh6 (by omega),zh6 (by omega)]
theorem zbK2 (q:aB) (h1:q.aS.length≤1000000) (h2:q.aI.length≤1000000) (h3:q.aV.length≤1000000):zj5 q=some q:=by
 unfold zj5
 rw [zh6 (by omega),zh6 (by omega),zh6 (by omega)]
def popQ (q:aB):aB :=
 if 0 < q.aI.length then { q with aS:=setL q.aS (zO7 q).1.aP (zO7 q).1.aK,aI:=q.aI.drop 1 }
 else { q with aS:=setL q.aS (zO7 q).1.aP (zO7 q).1.aK,aV:=q.aV.drop 1 }
def canQ (q:aB):Bool:=(zO7 q).2&&zaJ9 q.aA q.aS (zO7 q).1.aP (zO7 q).1.aK
def zbx1 (s:aB×List aY):aB×List aY:=(popQ s.1,s.2++[⟨(zO7 s.1).1.aP,(zO7 s.1).1.aK⟩])
def advN:Nat→aB×List aY→aB×List aY
 | 0,s=>s
 | n+1,s=>if canQ s.1=true then advN n (zbx1 s) else s
def zah3 (q:aB):Nat:=q.aI.length+q.aV.length
def advQ (q:aB):aB×List aY:=advN (zah3 q) (q,[])
theorem zaL3 {q:aB} (h:canQ q=true):0 < zah3 q∧zah3 (popQ q)+1=zah3 q∧q.aS.length≤8:=by
 unfold canQ at h
 simp only [bX] at h
 obtain ⟨h1,h2⟩:=h
 have hv:zM6 q.aA q.aS=true:=by
  unfold zaJ9 zal8 at h2
  simp only [bX] at h2
  exact h2.1.1
 refine ⟨?_,?_,zan7 hv⟩
 ·unfold zO7 at h1
  unfold zah3
  cases hc:q.aI with
  | cons a l=>simp; omega
  | nil =>
   cases hw:q.aV with
   | cons a l=>simp
   | nil=>simp [hc,hw] at h1
 ·unfold zO7 at h1
  unfold zah3 popQ
  cases hc:q.aI with
  | cons a l=>simp; omega
  | nil =>
   cases hw:q.aV with
   | cons a l=>simp
   | nil=>simp [hc,hw] at h1
theorem zbC9 (s:aB×List aY):advN (zah3 s.1) s=if canQ s.1=true then advN (zah3 (zbx1 s).1) (zbx1 s) else s:=by
 cases hc:canQ s.1 with
 | false =>
  cases hn:zah3 s.1 with
  | zero=>rfl
  | succ n=>simp [advN,hc]
 | true =>
  obtain ⟨h1,h2,_⟩:=zaL3 hc
  have:zah3 s.1=zah3 (popQ s.1)+1:=h2.symm
  rw [this]
  simp [advN,hc,zbx1]
theorem zbs6 (p:aJ):∀ (l:List aX) (i:Nat),match zan8 p l i with
  | some j=>i≤j∧(l.find? fun w=>decide (w.aP=p))=some (l.getD (j - i) aX.zero)
  | none=>(l.find? fun w=>decide (w.aP=p))=none
 | [],i=>rfl
 | w :: l,i=>by
  simp only [zan8,List.find?_cons]
  by_cases hp:w.aP=p
  ·simp [hp]
  ·have ih:=zbs6 p l (i+1)
   simp only [hp,cD,cK]
   cases hf:zan8 p l (i+1) with
   | none=>rw [hf] at ih; exact ih
   | some j =>
    rw [hf] at ih
    obtain ⟨h1,h2⟩:=ih
    refine ⟨by omega,?_⟩
    rw [h2,show j - i=(j - (i+1))+1 by omega,gI]
theorem zbT6 (l:List aX) (p:aJ):zbH9 l p=if 0≤zW4 l p then ((l.getD (zW4 l p).toNat aX.zero).aK,true) else (aC.zero,false):=by
 have h:=zbs6 p l 0
 unfold zbH9 zW4
 cases hf:zan8 p l 0 with
 | none=>rw [hf] at h; simp only at h; rw [h]; rfl
 | some j =>
  rw [hf] at h
  obtain ⟨_,h2⟩:=h
  rw [h2,bY (by simp only; omega)]
  simp
theorem zcl9 (l m:List aX) (p:aJ):zbH9 (l++m) p=if 0≤zW4 l p then zbH9 l p else zbH9 m p:=by
 have h:=zbs6 p l 0
 unfold zbH9 zW4
 rw [List.find?_append]
 cases hf:zan8 p l 0 with
 | none=>rw [hf] at h; simp only at h; rw [h,bW (by decide)]; rfl
 | some j =>
  rw [hf] at h
  obtain ⟨_,h2⟩:=h
  rw [h2,bY (by simp only; omega)]
  rfl
theorem zU7 (q:aB) (p:aJ) (h1:q.aI.length≤1000000) (h2:q.aV.length≤1000000):zi1 q p=some (zE3 q p):=by
 unfold zi1 zE3
 rw [zas9 _ _ (by omega),Option.bind_some,zcl9,zbT6 q.aI,zbT6 q.aV]
 have b1:=zcu5 q.aI p
 have b2:=zcu5 q.aV p
 by_cases c1:0≤zW4 q.aI p
 ·rw [bY (cS c1),zh6 (by omega),bY c1,bY c1]
 ·rw [bW (by simpa using c1),bW c1,zas9 _ _ (by omega),Option.bind_some]
  by_cases c2:0≤zW4 q.aV p
  ·rw [bY (cS c2),zh6 (by omega),bY c2]
  ·rw [bW (by simpa using c2),bW c2]
def optI (o:Option Nat):Int:=match o with
 | some i=>(i:Int)
 | none=>-1
theorem zcS7 (l:List aX) (p:aJ):zW4 l p=optI (zan8 p l 0):=rfl
theorem zdi0 (o:Option Nat):optI (o.map (·+1))=if 0≤optI o then optI o+1 else -1:=by
 cases o with
 | none=>rfl
 | some n =>
  have h:(0:Int)≤optI (some n):=Int.natCast_nonneg n
  rw [bY h]; exact Int.natCast_succ n
theorem zbs7 {l:List aX}:(∀ i,i < l.length→zW4 l (l.getD i aX.zero).aP=i) ↔ (l.map (·.aP)).Nodup:=by
 induction l with
 | nil=>simp
 | cons w l ih =>
  rw [eD,iD]
  have shift:∀ p i,zan8 p l (i+1)=(zan8 p l i).map (·+1):=by
   intro p
   clear ih
   induction l with
   | nil=>intro i; rfl
   | cons x l ih=>intro i; simp only [zan8]; split <;> simp [ih]
  have hcons:∀ i,zW4 (w :: l) (l.getD i aX.zero).aP=if w.aP=(l.getD i aX.zero).aP then 0 else if 0≤zW4 l (l.getD i aX.zero).aP then zW4 l (l.getD i aX.zero).aP+1 else -1:=fun i=>by
   simp only [zcS7,zan8,shift]
   by_cases h:w.aP=(l.getD i aX.zero).aP
   ·simp [h,optI]
   ·simp only [h,cD]
    exact zdi0 _
  constructor
  ·intro h
   have h1:∀ i,i < l.length→w.aP≠(l.getD i aX.zero).aP∧zW4 l (l.getD i aX.zero).aP=i:=fun i hi=>by
    have:=h (i+1) (by simpa using hi)
    rw [gI,hcons] at this
    split at this
    ·omega
    ·rename_i hne
     split at this
     ·exact ⟨hne,by omega⟩
     ·omega
   refine ⟨fun hm=>?_,ih.1 fun i hi=>(h1 i hi).2⟩
   obtain ⟨x,hx,he⟩:=cR.1 hm
   obtain ⟨i,hi,rfl⟩:=fN.1 hx
   have:=(h1 i hi).1
   rw [bZ,cC hi] at this
   exact this he.symm
  ·rintro ⟨h1,h2⟩ i hi
   have h3:=ih.2 h2
   cases i with
   | zero=>simp [zW4,zan8]
   | succ i =>
    have hi':i < l.length:=by simpa using hi
    have hne:w.aP≠(l.getD i aX.zero).aP:=fun e=>h1 (cR.2 ⟨l.getD i aX.zero,by
     rw [bZ,cC hi']; exact gL hi',e.symm⟩)
    rw [gI,hcons,bW hne,h3 i hi',bY (by omega)]
    omega
theorem zaN9 (l:List aX):zZ9 l=true ↔ l.length≤8∧(∀ w ∈ l,zm8 w=true)∧(l.map (·.aP)).Nodup:=by
 unfold zZ9
 simp only [bX,cB,eO,eR]
 constructor
 ·rintro ⟨h1,h2⟩
  refine ⟨h1,fun w hw=>?_,zbs7.1 fun i hi=>(h2 i hi).2⟩
  obtain ⟨i,hi,rfl⟩:=fN.1 hw
  have:=(h2 i hi).1
  rwa [bZ,cC hi] at this
 ·rintro ⟨h1,h2,h3⟩
  refine ⟨h1,fun i hi=>⟨h2 _ ?_,zbs7.2 h3 i hi⟩⟩
  rw [bZ,cC hi]
  exact gL hi
theorem zcf3 {l:List aX} (p:aJ) (h:zZ9 l=true):zZ9 (rmL l p)=true:=by
 rw [zaN9] at h ⊢
 refine ⟨eJ (zdt8 l p) h.1,fun w hw=>h.2.1 w ((gY.1 hw).1),?_⟩
 exact (h.2.2).sublist ((iW).map _)
theorem zbI0 (l:List aX) (w:aX):∀ k i,zan9 l w k≤i→i < k→over w (l.getD i aX.zero)=true
 | k+1,i,h1,h2=>by
  unfold zan9 at h1
  split at h1
  ·rename_i ho
   by_cases hi:i=k
   ·subst hi; exact ho
   ·exact zbI0 l w k i h1 (by omega)
  ·omega
theorem zcS8 {l:List aX} {w e:aX} (h:e ∈ l.drop (zan9 l w l.length)):over w e=true:=by
 obtain ⟨i,hi,rfl⟩:=fN.1 h
 have:=zbI0 l w l.length (zan9 l w l.length+i) (by omega) (by simp at hi; omega)
 rw [List.getElem_drop]
 rwa [bZ,cC (by simp at hi; omega)] at this
theorem zbT7 {w e:aX} (h:zm8 e=true) (ho:over w e=true):zm8 (bump e)=true∧(bump e).bR=e.bR+1:=by
 have h1:=zbC6 h
 have h2:e.bR < 3:=by unfold over at ho; simp at ho; exact ho.2
 have h3:(bump e).bR=e.bR+1:=by unfold bump; simp only; rw [zd2 (by omega) (by omega)]
 refine ⟨?_,h3⟩
 unfold zm8 at h ⊢
 simp only [bX,cB] at h ⊢
 rw [h3]
 exact ⟨⟨h.1.1,by omega⟩,by omega⟩
theorem zcm0 (l:List aX) (w:aX) (n:Nat):(zbi6 l w n).map (·.aP)=(l.take n).map (·.aP)++w.aP :: (l.drop n).map (·.aP):=by
 unfold zbi6
 rw [fG,eD,jP]
 rfl
theorem zcE0 {l:List aX} {w:aX} (h:zZ9 l=true) (hw:zm8 w=true) (hne:∀ e ∈ l,e.aP≠w.aP) (hl:l.length < 8):zZ9 (zbi6 l w (zan9 l w l.length))=true:=by
 rw [zaN9] at h ⊢
 have hn:=zbl7 l w l.length
 have ho:=fun e=>zcS8 (l:=l) (w:=w) (e:=e)
 generalize zan9 l w l.length=n at hn ho
 refine ⟨by simp [zbi6]; omega,fun e he=>?_,?_⟩
 ·simp only [zbi6,cU,cJ,cR] at he
  rcases he with he|rfl|⟨x,hx,rfl⟩
  ·exact h.2.1 e (gC he)
  ·exact hw
  ·exact (zbT7 (h.2.1 x (gD hx)) (ho x hx)).1
 ·rw [zcm0]
  have h3:=h.2.2
  rw [← eM n l,fG] at h3
  have hin:w.aP ∉ (l.take n).map (·.aP)++(l.drop n).map (·.aP):=by
   rw [← fG,eM]
   intro hm
   obtain ⟨x,hx,he⟩:=cR.1 hm
   exact hne x hx he
  exact (List.perm_middle.nodup_iff).2 (iD.2 ⟨hin,h3⟩)
end Ab
end Go.Proofs.YtcggeefhhegeoaaGreatDoor
