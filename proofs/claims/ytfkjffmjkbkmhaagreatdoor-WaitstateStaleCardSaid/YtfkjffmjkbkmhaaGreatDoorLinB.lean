import Derived.Test.YtfkjffmjkbkmhaaGreatDoorCode
import Derived.Test.YtfkjffmjkbkmhaaGreatDoorHm28
namespace Go.Proofs.YtfkjffmjkbkmhaaGreatDoor
namespace Ab
set_option linter.unusedSimpArgs false
set_option linter.unusedVariables false
theorem zi0 {x:Int} (h1:-9223372036854775808≤x) (h2:x < 9223372036854775808):IntKind.i64.wrap x=x:=by
 rw [IntKind.wrap_i64]; omega
theorem zcm9 {G X:Type} {body:G→Option (G⊕X)} (I:G→Prop) (μ:G→Nat) (spec:G→X)
  (h:∀ g,I g→(∃ g',body g=some (.inl g')∧I g'∧μ g' < μ g∧spec g'=spec g)∨body g=some (.inr (spec g))):∀ g,I g→zb9 body g=some (spec g):=by
 have key:∀ n g,μ g=n→I g→zb9 body g=some (spec g):=by
  intro n
  induction n using Nat.strongRecOn with
  | _ n ih =>
   intro g hn hg
   rw [zn4]
   rcases h g hg with ⟨g',h1,h2,h3,h4⟩|h1
   ·rw [h1]; simp only; rw [ih (μ g') (hn ▸ h3) g' rfl h2,h4]
   ·rw [h1]
 exact fun g hg=>key _ g rfl hg
def zR1 {X:Type} (out:Nat→Option X):Nat→Nat→Option X
 | 0,_=>none
 | n+1,i=>match out i with
  | some x=>some x
  | none=>zR1 out n (i+1)
theorem zL6 {X:Type} {body:Int→Option (Int⊕X)} (n:Nat) (out:Nat→Option X) (fin:X)
  (h:∀ i:Nat,i < n→body i=some (match out i with|some x=>.inr x|none=>.inl ((i:Int)+1))) (hend:body n=some (.inr fin)):zb9 body 0=some ((zR1 out n 0).getD fin):=by
 have key:∀ k i,i+k=n→zb9 body (i:Int)=some ((zR1 out k i).getD fin):=by
  intro k
  induction k with
  | zero =>
   intro i hi
   rw [zn4,show i=n by omega,hend]
   rfl
  | succ k ih =>
   intro i hi
   rw [zn4,h i (by omega)]
   simp only [zR1]
   cases ho:out i with
   | some x=>rfl
   | none =>
    simp only
    have:=ih (i+1) (by omega)
    rw [show ((i+1:Nat):Int)=(i:Int)+1 by omega] at this
    exact this
 exact key n 0 (by omega)
def zaZ8 {S X:Type} (step:Nat→S→S⊕X) (fin:S→X):Nat→Nat→S→X
 | 0,_,s=>fin s
 | n+1,i,s=>match step i s with
  | .inl s'=>zaZ8 step fin n (i+1) s'
  | .inr x=>x
theorem zcL1 {S X:Type} {body:Int×S→Option ((Int×S)⊕X)} (n:Nat) (step:Nat→S→S⊕X) (fin:S→X) (inv:Nat→S→Prop)
  (h:∀ i s,i < n→inv i s→body ((i:Int),s)=some (match step i s with|.inl s'=>.inl ((i:Int)+1,s')|.inr x=>.inr x)∧∀ s',step i s=.inl s'→inv (i+1) s')
  (hend:∀ s,inv n s→body ((n:Int),s)=some (.inr (fin s))) (s0:S) (h0:inv 0 s0):zb9 body (0,s0)=some (zaZ8 step fin n 0 s0):=by
 have key:∀ k i s,i+k=n→inv i s→zb9 body ((i:Int),s)=some (zaZ8 step fin k i s):=by
  intro k
  induction k with
  | zero =>
   intro i s hi hs
   rw [zn4,show i=n by omega,hend s (by rw [← show i=n by omega]; exact hs)]
   rfl
  | succ k ih =>
   intro i s hi hs
   obtain ⟨h1,h2⟩:=h i s (by omega) hs
   rw [zn4,h1]
   simp only [zaZ8]
   cases ho:step i s with
   | inr x=>rfl
   | inl s' =>
    simp only
    have:=ih (i+1) s' (by omega) (h2 s' ho)
    rw [show ((i+1:Nat):Int)=(i:Int)+1 by omega] at this
    exact this
 exact key n 0 s0 (by omega) h0
theorem zq4 {G X:Type} {body:G→Option (G⊕X)} (I:G→Prop) (μ:G→Nat) (Post:X→Prop)
  (h:∀ g,I g→(∃ g',body g=some (.inl g')∧I g'∧μ g' < μ g)∨∃ x,body g=some (.inr x)∧Post x):∀ g,I g→∃ x,zb9 body g=some x∧Post x:=by
 have key:∀ n g,μ g=n→I g→∃ x,zb9 body g=some x∧Post x:=by
  intro n
  induction n using Nat.strongRecOn with
  | _ n ih =>
   intro g hn hg
   rw [zn4]
   rcases h g hg with ⟨g',h1,h2,h3⟩|⟨x,h1,h2⟩
   ·rw [h1]; exact ih (μ g') (hn ▸ h3) g' rfl h2
   ·rw [h1]; exact ⟨x,rfl,h2⟩
 exact fun g hg=>key _ g rfl hg
theorem zcn0 {S X:Type} {body:Int×S→Option ((Int×S)⊕X)} (n:Nat) (step:Nat→S→S⊕X) (fin:S→X) (inv:Nat→S→Prop)
  (h:∀ i s,i < n→inv i s→body ((i:Int),s)=some (match step i s with|.inl s'=>.inl ((i:Int)+1,s')|.inr x=>.inr x)∧∀ s',step i s=.inl s'→inv (i+1) s')
  (hend:∀ s,inv n s→body ((n:Int),s)=some (.inr (fin s))):∀ k i s,i+k=n→inv i s→zb9 body ((i:Int),s)=some (zaZ8 step fin k i s):=by
 intro k
 induction k with
 | zero =>
  intro i s hi hs
  rw [zn4,show i=n by omega,hend s (by rw [← show i=n by omega]; exact hs)]
  rfl
 | succ k ih =>
  intro i s hi hs
  obtain ⟨h1,h2⟩:=h i s (by omega) hs
  rw [zn4,h1]
  simp only [zaZ8]
  cases ho:step i s with
  | inr x=>rfl
  | inl s' =>
   simp only
   have:=ih (i+1) s' (by omega) (h2 s' ho)
   rw [show ((i+1:Nat):Int)=(i:Int)+1 by omega] at this
   exact this
theorem zU1 (p:Nat→Bool) {U:Type}:∀ k i,zR1 (fun i=>if p i=true then none else some (Sum.inr (α:=U) false)) k i=if (List.range' i k).all p=true then none else some (.inr false)
 | 0,i=>rfl
 | k+1,i=>by
  simp only [zR1,iC,List.all_cons]
  cases hp:p i with
  | true =>
   simp only [cB,cJ]
   exact zU1 p k (i+1)
  | false=>simp
theorem zdv1 {α:Type} [DecidableEq α] (a b:List α) (z:α) (h:a.length=b.length):((List.range a.length).all fun i=>decide (a.getD i z=b.getD i z))=decide (a=b):=by
 rw [dW]
 simp only [eT,eO,bX]
 constructor
 ·intro hh
  refine kB h fun i h1 h2=>?_
  have:=hh i h1
  rwa [bV,bV,bY h1,bY h2] at this
 ·rintro rfl i _; rfl
theorem zcL2 {α:Type} [DecidableEq α] (a b:List α) (z:α) {body:Int→Option (Int⊕(Unit⊕Bool))} (hl:a.length < 4611686018427387904) (h:a.length=b.length)
  (hb:∀ i:Int,body i=if (decide (i < (a.length:Int)))=true then gd (0≤i∧i < (a.length:Int)) <| gd (0≤i∧i < (b.length:Int)) <|
   (if (!decide (a.getD i.toNat z=b.getD i.toNat z))=true then some (.inr (.inr false)) else some (.inl (IntKind.i64.wrap (i+1)))) else some (.inr (.inl ()))) :
  (zb9 body 0).bind (fun|.inl _=>some true|.inr z=>some z)=some (decide (a=b)):=by
 have key:zb9 body 0=some ((zR1 (fun i=>if decide (a.getD i z=b.getD i z)=true then none else some (Sum.inr false)) a.length 0).getD (Sum.inl ())):=by
  refine zL6 a.length _ (Sum.inl ()) (fun i hi=>?_) ?_
  ·rw [hb,bW (cF (by omega)),zg0 (by omega),zg0 (by omega)]
   simp only [Int.toNat_natCast]
   by_cases hx:a.getD i z=b.getD i z
   ·simp only [hx,cC,cU,bU,cA,cB]
    rw [zi0 (by omega) (by omega)]
   ·simp only [hx,cK,dF,cB,bU,cA]
  ·rw [hb,bT (by simp)]
 rw [key,zU1,← eY,zdv1 a b z h]
 cases decide (a=b) <;> rfl
theorem zbL3 {α:Type} (f:Nat→α):∀ n i (s:List α),zaZ8 (X:=List α) (fun i s=>.inl (s++[f i])) (fun s=>s) n i s=s++(List.range' i n).map f
 | 0,i,s=>by simp [zaZ8]
 | n+1,i,s=>by simp [zaZ8,zbL3 f n (i+1),iC]
theorem zbL4 {α:Type} (l:List α) (z:α) (p:α→Bool):∀ n i (s:List α),i+n=l.length→zaZ8 (X:=List α) (fun i s=>.inl (if p (l.getD i z)=true then s++[l.getD i z] else s)) (fun s=>s) n i s=s++(l.drop i).filter p
 | 0,i,s,h=>by simp [zaZ8,gR (show l.length≤i by omega)]
 | n+1,i,s,h=>by
  have hd:l.drop i=l.getD i z :: l.drop (i+1):=by
   rw [gA (show i < l.length by omega),bV,bY (show i < l.length by omega)]; rfl
  rw [hd]
  simp only [zaZ8,zbL4 l z p n (i+1) _ (by omega),iE]
  split <;> simp
theorem zaH5 {α:Type} (l:List α) (i:Nat) (z:α) (h:i < l.length):l.drop i=l.getD i z :: l.drop (i+1):=by
 rw [gA h,bV,bY h]; rfl
theorem zbL5 {α β:Type} (l:List α) (z:α) (f:α→β):∀ n i,i+n≤l.length→(List.range' i n).map (fun i=>f (l.getD i z))=((l.drop i).take n).map f
 | 0,i,h=>by simp
 | n+1,i,h=>by
  rw [zaH5 l i z (by omega),List.take_succ_cons,iC,eD,eD,zbL5 l z f n (i+1) (by omega)]
theorem zaz1 {α:Type} (l:List α) (i n:Nat) (z:α) (h:i < n):(l.take n).getD i z=l.getD i z:=by
 rw [bV,bV,dP,bW h]
theorem zm9 {α:Type} (l:List α) (i:Nat) (x z:α) (h:i < l.length):(l.set i x).getD i z=x:=by
 rw [bV,List.getElem?_set_self h]; rfl
theorem zaz2 {α:Type} (l m:List α) (i:Nat) (z:α) (h:i < l.length):(l++m).getD i z=l.getD i z:=by
 rw [bV,bV,dN h]
def walk {α S X:Type} (step:Nat→α→S→Option (S⊕X)) (fin:S→X):List α→Nat→S→Option X
 | [],_,s=>some (fin s)
 | a :: l,i,s=>match step i a s with
  | none=>none
  | some (.inl s')=>walk step fin l (i+1) s'
  | some (.inr x)=>some x
def wmap {G S X:Type} (mk:S→G):S⊕X→G⊕X
 | .inl s=>.inl (mk s)
 | .inr x=>.inr x
theorem zA2 {α S X G:Type} {body:G→Option (G⊕X)} (l:List α) (z:α) (mk:Nat→S→G) (step:Nat→α→S→Option (S⊕X)) (fin:S→X) (inv:Nat→S→Prop)
  (hb:∀ i s,i < l.length→inv i s→body (mk i s)=(step i (l.getD i z) s).map (wmap (mk (i+1)))∧∀ s',step i (l.getD i z) s=some (.inl s')→inv (i+1) s')
  (he:∀ s,inv l.length s→body (mk l.length s)=some (.inr (fin s))) (s0:S) (h0:inv 0 s0):zb9 body (mk 0 s0)=walk step fin l 0 s0:=by
 have key:∀ k i s,i+k=l.length→inv i s→zb9 body (mk i s)=walk step fin (l.drop i) i s:=by
  intro k
  induction k with
  | zero =>
   intro i s hi hs
   have:i=l.length:=by omega
   subst this
   rw [zn4,he s hs,kC]
   rfl
  | succ k ih =>
   intro i s hi hs
   obtain ⟨h1,h2⟩:=hb i s (by omega) hs
   rw [zn4,h1,zaH5 l i z (by omega)]
   simp only [walk]
   cases ho:step i (l.getD i z) s with
   | none=>rfl
   | some y =>
    cases y with
    | inl s'=>exact ih (i+1) s' (by omega) (h2 s' ho)
    | inr x=>rfl
 have:=key l.length 0 s0 (by omega) h0
 rwa [gV] at this
theorem zai2 {α S X G:Type} {body:G→Option (G⊕X)} (l:List α) (z:α) (mk:Nat→S→G) (step:Nat→α→S→Option (S⊕X)) (fin:S→X)
  (hb:∀ i s,i < l.length→body (mk i s)=(step i (l.getD i z) s).map (wmap (mk (i+1))))
  (he:∀ s,body (mk l.length s)=some (.inr (fin s))) (s0:S):zb9 body (mk 0 s0)=walk step fin l 0 s0 :=
 zA2 l z mk step fin (fun _ _=>True) (fun i s h _=>⟨hb i s h,fun _ _=>trivial⟩) (fun s _=>he s) s0 trivial
theorem zc6 (i:Nat) (h:i < 4611686018427387904):IntKind.i64.wrap ((i:Int)+1)=((i+1:Nat):Int):=by rw [zi0 (by omega) (by omega)]; omega
theorem zas2 (i:Nat) (h:i < 4611686018427387904) (h0:0 < i):IntKind.i64.wrap ((i:Int) - 1)=((i - 1:Nat):Int):=by rw [zi0 (by omega) (by omega)]; omega
theorem gdp {α:Type} {p:Prop} [Decidable p] {k:Option α} (h:p):gd p k=k:=bW h
@[simp] theorem zk6 {α:Type} [Decidable True] (k:Option α):gd True k=k:=bW trivial
theorem gdn {α:Type} {p:Prop} [Decidable p] {k:Option α} (h:¬ p):gd p k=none:=bT h
def zaD7 {β:Type} (s:List β):Option β→List β
 | some b=>s++[b]
 | none=>s
theorem zcL3 {β:Type} (s:List β) (o:Option β):(zaD7 s o).length≤s.length+1:=by cases o <;> simp [zaD7]
theorem zaH6 {α β X:Type} (f:α→Option β) (fin:List β→X):∀ (l:List α) (i:Nat) (s:List β),
  walk (fun _ a s=>some (.inl (zaD7 s (f a)))) fin l i s=some (fin (s++l.filterMap f))
 | [],i,s=>by simp [walk]
 | a :: l,i,s=>by
  simp only [walk,List.filterMap_cons]
  rw [zaH6 f fin l (i+1)]
  cases f a <;> simp [zaD7]
noncomputable def zaJ8  (j1:(List aK)):Option ((List aK)) :=
 some j1
noncomputable def zad5 (a0:List aV) (g1:Int×(List aK)):Option ((Int×(List aK))⊕(((List aK)))) :=
 (if (decide (g1.1 < (a0.length:Int)))=true then
  gd (0≤g1.1∧g1.1 < (a0.length:Int)) <|
  gd (g1.2.length+1≤4294967296) <|
  some (.inl ((IntKind.i64.wrap (g1.1+1)),(g1.2++[(a0.getD g1.1.toNat aV.zero).aJ])))
 else
  some (.inr g1.2))
noncomputable def zaF2 (a0:List aV):Option ((List aK)) :=
 (zb9 (zad5 a0) (0,[])).bind (fun z=>zaJ8 z)
abbrev cmpP (p q:aK):Int:=zs1 p q
def ltP (p q:aK):Prop:=p.site < q.site∨p.site=q.site∧(p.inc < q.inc∨p.inc=q.inc∧p.num < q.num)
instance (p q:aK):Decidable (ltP p q):=by unfold ltP; infer_instance
theorem zcn1 (a b:Int):zM0 a b=if a < b then -1 else if b < a then 1 else 0:=by
  unfold zM0; simp only [bX]
theorem zbh7 (p q:aK):cmpP p q=if ltP p q then -1 else if ltP q p then 1 else 0:=by
  obtain ⟨a,b,c⟩:=p
  obtain ⟨d,e,f⟩:=q
  unfold cmpP zs1 ltP
  simp only [zcn1,cS,cR]
  grind
theorem zP8 (p:aK):¬ ltP p p:=by unfold ltP; omega
theorem zae7 {p q r:aK} (h:ltP p q) (k:ltP q r):ltP p r:=by unfold ltP at *; omega
theorem zaT0 {p q:aK} (h:ltP p q):¬ ltP q p:=by unfold ltP at *; omega
theorem zal8 {p q:aK} (h:p≠q):ltP p q∨ltP q p:=by
  obtain ⟨a,b,c⟩:=p
  obtain ⟨d,e,f⟩:=q
  simp only [ne_eq,aK.mk.injEq] at h
  unfold ltP
  simp only
  omega
theorem zbL6 (p q:aK):0 < cmpP p q ↔ ltP q p:=by
  rw [zbh7]
  by_cases h:ltP p q
  · simp [h,zaT0 h]
  · by_cases h2:ltP q p <;> simp [h,h2]
theorem zaD8 (p q:aK):0≤cmpP p q ↔ ¬ ltP p q:=by
  rw [zbh7]
  by_cases h:ltP p q
  · simp [h]
  · by_cases h2:ltP q p <;> simp [h,h2]
theorem zal9 (p q:aK):zd8 p q=some (cmpP p q):=by
  unfold zd8 zg6
  have e:∀ (x y z:Int) (i:Nat) (h:[x,y,z].length=3),Arr.get (⟨[x,y,z],h⟩:Arr Int 3) i 0=match i with|0=>x|1=>y|_=>z:=by
    intro x y z i h
    match i with
    | 0=>rfl
    | 1=>rfl
    | 2=>rfl
    | n+3 =>
      have:¬ (n+3 < 3):=by omega
      simp [Arr.get,zI9,this]
  have w1:IntKind.i64.wrap (0+1)=1:=by decide
  have w2:IntKind.i64.wrap (1+1)=2:=by decide
  have w3:IntKind.i64.wrap (2+1)=3:=by decide
  have s3:zn3 ⟨[p.site,p.inc,p.num],rfl⟩ ⟨[q.site,q.inc,q.num],rfl⟩ 3=some (.inr (.inl ())):=by unfold zn3; simp
  have s2:zn3 ⟨[p.site,p.inc,p.num],rfl⟩ ⟨[q.site,q.inc,q.num],rfl⟩ 2=some (if p.num < q.num then .inr (.inr (-1)) else if q.num < p.num then .inr (.inr 1) else .inl 3):=by
    unfold zn3
    rw [bW (by decide),gdp (by decide),gdp (by decide),gdp (by decide)]
    simp only [e,show (2:Int).toNat=2 from rfl,bX,w3]
    by_cases h:p.num < q.num
    · simp [h]
    · by_cases h2:q.num < p.num <;> simp [h,h2]
  have s1:zn3 ⟨[p.site,p.inc,p.num],rfl⟩ ⟨[q.site,q.inc,q.num],rfl⟩ 1=some (if p.inc < q.inc then .inr (.inr (-1)) else if q.inc < p.inc then .inr (.inr 1) else .inl 2):=by
    unfold zn3
    rw [bW (by decide),gdp (by decide),gdp (by decide),gdp (by decide)]
    simp only [e,Int.toNat_one,bX,w2]
    by_cases h:p.inc < q.inc
    · simp [h]
    · by_cases h2:q.inc < p.inc <;> simp [h,h2]
  have s0:zn3 ⟨[p.site,p.inc,p.num],rfl⟩ ⟨[q.site,q.inc,q.num],rfl⟩ 0=some (if p.site < q.site then .inr (.inr (-1)) else if q.site < p.site then .inr (.inr 1) else .inl 1):=by
    unfold zn3
    rw [bW (by decide),gdp (by decide),gdp (by decide),gdp (by decide)]
    simp only [e,Int.toNat_zero,bX,w1]
    by_cases h:p.site < q.site
    · simp [h]
    · by_cases h2:q.site < p.site <;> simp [h,h2]
  rw [zbh7]
  unfold ltP
  by_cases a1:p.site < q.site
  · rw [zn4,s0]; simp [a1]
  · by_cases a2:q.site < p.site
    · rw [zn4,s0]
      have:¬ p.site=q.site:=by omega
      simp [a1,a2,this]
    · have h1:p.site=q.site:=by omega
      by_cases b1:p.inc < q.inc
      · rw [zn4,s0]; simp only [a1,a2,cA]; rw [zn4,s1]; simp [b1,h1]
      · by_cases b2:q.inc < p.inc
        · have:¬ p.inc=q.inc:=by omega
          rw [zn4,s0]; simp only [a1,a2,cA]; rw [zn4,s1]; simp [b1,b2,h1,this]
        · have h2:p.inc=q.inc:=by omega
          rw [zn4,s0]; simp only [a1,a2,cA]; rw [zn4,s1]; simp only [b1,b2,cA]; rw [zn4,s2]
          by_cases c1:p.num < q.num
          · simp [c1,h1,h2]
          · by_cases c2:q.num < p.num
            · simp [c1,c2,h1,h2]
            · simp only [c1,c2,cA]; rw [zn4,s3]; simp [h1,h2,zac6]
def insP (p:aK) (a:aD):List aV→List aV
  | []=>[⟨p,a⟩]
  | h :: t=>if ltP p h.aJ then ⟨p,a⟩ :: h :: t else h :: insP p a t
def zu0 (p:aK) (l:List aV):List aV:=l.filter fun h=>!decide (h.aJ=p)
def setL (l:List aV) (p:aK) (a:aD):List aV:=if a=aD.zero then zu0 p l else insP p a (zu0 p l)
theorem zdv2 (p:aK):zu0 p []=[]:=rfl
theorem zaD9 (p:aK) (h:aV) (t:List aV):zu0 p (h :: t)=if h.aJ=p then zu0 p t else h :: zu0 p t:=by
  unfold zu0; rw [iE]; by_cases e:h.aJ=p <;> simp [e]
theorem zaJ9 (p:aK) (l:List aV):(zu0 p l).length≤l.length:=gD _ _
theorem zaw0 (l:List aV) (p:aK) (a:aD) (hl:l.length≤1000000):zq7 l p a=some (setL l p a):=by
  unfold zq7
  have key:=zA2 (body:=zah5 l p a) l aV.zero (fun i (s:Bool×List aV)=>(s.1,(i:Int),s.2))
    (fun i h s=>some (.inl (if h.aJ=p then s else if s.1=false∧ltP p h.aJ then (true,s.2++[⟨p,a⟩]++[h]) else (s.1,s.2++[h])))) (fun s=>s) (fun i s=>s.2.length≤2 * i)
    (fun i s hi hs=>by
      refine ⟨?_,fun s' h=>?_⟩
      · unfold zah5
        have h1:s.2.length+1≤4294967296:=by omega
        have h2:s.2.length+1+1≤4294967296:=by omega
        have h3:0≤(i:Int)∧(i:Int) < (l.length:Int):=by omega
        simp only [h1,h2,h3.1,h3.2,cX,eQ,zk6,cC,cB,Int.toNat_natCast,bX,bS,cS,zbL6,zc6 i (by omega),Option.map_some,wmap]
        by_cases e:(l.getD i aV.zero).aJ=p
        · simp only [e,cB]
        · simp only [e,cA]
          split <;> rfl
      · simp only [dC,fF] at h
        subst h
        split
        · omega
        · split <;> simp <;> omega)
    (fun s hs=>by unfold zah5; simp) (zk7 a,[]) (by simp)
  have hz:zk7 a=decide (a=aD.zero):=rfl
  have fold:∀ (l:List aV) (i:Nat) (d:Bool) (o:List aV),walk (fun i h (s:Bool×List aV)=>some (.inl (if h.aJ=p then s else if s.1=false∧ltP p h.aJ then (true,s.2++[⟨p,a⟩]++[h]) else (s.1,s.2++[h])))) (fun s=>s) l i (d,o) =
      some (if d=true then (true,o++zu0 p l) else if (zu0 p l).any (fun h=>decide (ltP p h.aJ))=true then (true,o++insP p a (zu0 p l)) else (false,o++zu0 p l)):=by
    intro l
    induction l with
    | nil=>intro i d o; cases d <;> simp [walk,zu0]
    | cons h t ih =>
      intro i d o
      simp only [walk,zaD9]
      by_cases e:h.aJ=p
      · simp only [e,cB]; exact ih (i+1) d o
      · simp only [e,cA]
        by_cases e2:d=false∧ltP p h.aJ
        · obtain ⟨rfl,e3⟩:=e2
          simp only [e3,cX,cB]
          rw [ih]
          simp [insP,e3]
        · rw [bT e2,ih]
          cases d with
          | true=>simp
          | false =>
            have e3:¬ ltP p h.aJ:=fun hh=>e2 ⟨rfl,hh⟩
            simp only [bU,cA,insP,e3,List.any_cons,cK,dR]
            split <;> simp
  have noins:∀ l:List aV,l.any (fun h=>decide (ltP p h.aJ))=false→insP p a l=l++[⟨p,a⟩]:=by
    intro l
    induction l with
    | nil=>intro _; rfl
    | cons h t ih =>
      intro hh
      simp only [List.any_cons,fT,cR] at hh
      simp only [insP,hh.1,cA,ih hh.2,List.cons_append]
  rw [show ((zk7 a,(0:Int),([]:List aV)):Bool×Int×List aV)=(fun (i:Nat) (s:Bool×List aV)=>(s.1,(i:Int),s.2)) 0 (zk7 a,[]) from rfl,key,fold,hz]
  unfold setL zaJ1
  have ho:=zaJ9 p l
  by_cases ha:a=aD.zero
  · simp [ha]
  · simp only [ha,cK,bU,cA,List.nil_append]
    by_cases hx:(zu0 p l).any (fun h=>decide (ltP p h.aJ))=true
    · simp [hx]
    · have hx:(zu0 p l).any (fun h=>decide (ltP p h.aJ))=false:=by simpa using hx
      rw [bT (by rw [hx]; decide),Option.bind_some,noins _ hx]
      show gd ((zu0 p l).length+1≤4294967296) _=_
      rw [gdp (by omega)]
theorem zcZ6 {α:Type} (l:List α) (k:Nat) (z x:α) (hk:k≤l.length) :
    (((l++[z]).take (k+1)++(((l++[z]).drop k).take (l.length+1 - k)).take (l.length+1 - (k+1))++(l++[z]).drop (k+1+min (((l++[z]).drop k).take (l.length+1 - k)).length (l.length+1 - (k+1)))).set k x)=l.take k++x :: l.drop k:=by
  have e1:((l++[z]).drop k).take (l.length+1 - k)=l.drop k++[z]:=by
    rw [fN hk,dA (by simp; omega)]
  have e2:(l.drop k++[z]).take (l.length+1 - (k+1))=l.drop k:=by
    rw [eJ (by simp),dA (by simp)]
  have e3:(l++[z]).drop (k+1+min (l.drop k++[z]).length (l.length+1 - (k+1)))=[]:=by
    rw [gR]; simp; omega
  rw [e1,e2,e3,dV]
  by_cases hkl:k=l.length
  · subst hkl
    rw [dA (by simp),kC,dV,gE _ _ (cY _)]
    simp
  · have:(l++[z]).take (k+1)=l.take k++[l[k]'(by omega)]:=by
      rw [eJ (by omega),fH (by omega)]
    rw [this,dB,gE _ _ (by simp; omega)]
    simp [show min k l.length=k by omega]
theorem zbL7 (l:List aV) (p:aK) (a:aD) (hl:l.length≤1000000):zp2 l p a=some (setL l p a):=by
  unfold zp2
  have hw:IntKind.i64.wrap ((l.length:Int)+1)=(l.length:Int)+1:=zi0 (by omega) (by omega)
  rw [hw,gdp (by omega)]
  have key:=zA2 (body:=zS1 l p) l aV.zero (fun i (s:Int×List aV)=>(s.1,(i:Int),s.2))
    (fun i h s=>some (.inl (if h.aJ=p then s else (if s.1 < 0∧ltP p h.aJ then (s.2.length:Int) else s.1,s.2++[h])))) (fun s=>s) (fun i s=>s.2.length≤i)
    (fun i s hi hs=>by
      refine ⟨?_,fun s' h=>?_⟩
      · unfold zS1
        have h1:s.2.length+1≤4294967296:=by omega
        have h3:0≤(i:Int)∧(i:Int) < (l.length:Int):=by omega
        simp only [h1,h3.1,h3.2,cX,eQ,zk6,cC,cB,Int.toNat_natCast,bX,bS,zal9,zc6 i (by omega),Option.map_some,wmap]
        by_cases e:(l.getD i aV.zero).aJ=p
        · simp only [e,cB]
        · simp only [e,cA]
          by_cases e2:s.1 < 0
          · simp only [e2,cB,Option.bind_some,gC,zbL6]
            split <;> rfl
          · simp only [e2,cA,Option.bind_some,jP]
      · simp only [dC,fF] at h
        subst h
        split
        · omega
        · simp; omega)
    (fun s hs=>by unfold zS1; simp) (-1,[]) (by simp)
  have fold:∀ (l:List aV) (i:Nat) (d:Int) (o:List aV),walk (fun i h (s:Int×List aV)=>some (.inl (if h.aJ=p then s else (if s.1 < 0∧ltP p h.aJ then (s.2.length:Int) else s.1,s.2++[h])))) (fun s=>s) l i (d,o) =
      some (if d < 0∧(zu0 p l).any (fun h=>decide (ltP p h.aJ))=true then (((o.length+(zu0 p l).findIdx (fun h=>decide (ltP p h.aJ)):Nat):Int),o++zu0 p l) else (d,o++zu0 p l)):=by
    intro l
    induction l with
    | nil=>intro i d o; simp [walk,zu0]
    | cons h t ih =>
      intro i d o
      simp only [walk,zaD9]
      by_cases e:h.aJ=p
      · simp only [e,cB]; exact ih (i+1) d o
      · simp only [e,cA]
        by_cases e2:d < 0∧ltP p h.aJ
        · simp only [e2,cX,cB]
          rw [ih,bT (by omega)]
          simp [e2.2,jW]
        · rw [bT e2,ih]
          by_cases e3:d < 0
          · have e4:¬ ltP p h.aJ:=fun hh=>e2 ⟨e3,hh⟩
            simp only [e3,gC,List.any_cons,e4,cK,dR,jW,cond_false,bZ,List.length_cons,List.length_nil,dB,List.cons_append,List.nil_append]
            split
            · congr 3; omega
            · rfl
          · simp [e3]
  have ins:∀ l:List aV,insP p a l=l.take (l.findIdx (fun h=>decide (ltP p h.aJ)))++⟨p,a⟩ :: l.drop (l.findIdx (fun h=>decide (ltP p h.aJ))):=by
    intro l
    induction l with
    | nil=>rfl
    | cons h t ih =>
      simp only [insP,jW]
      by_cases e:ltP p h.aJ
      · simp [e]
      · simp [e,ih]
  have key2:zb9 (zS1 l p) (-1,0,List.replicate 0 aV.zero)=some (if (zu0 p l).any (fun h=>decide (ltP p h.aJ))=true then (((zu0 p l).findIdx (fun h=>decide (ltP p h.aJ)):Nat):Int) else -1,zu0 p l):=by
    rw [show ((-1,0,List.replicate 0 aV.zero):Int×Int×List aV)=(fun (i:Nat) (s:Int×List aV)=>(s.1,(i:Int),s.2)) 0 (-1,[]) from rfl,key,fold]
    have:((-1:Int) < 0):=by decide
    simp only [this,gC,List.nil_append,List.length_nil,dY]
    split <;> rfl
  rw [key2,Option.bind_some]
  unfold zak5 setL
  have hz:zj7 a=decide (a=aD.zero):=rfl
  rw [hz]
  by_cases ha:a=aD.zero
  · simp [ha]
  · simp only [ha,cK,bU,cA,bX]
    have ho:=zaJ9 p l
    generalize zu0 p l=o at ho
    have fi:o.findIdx (fun h=>decide (ltP p h.aJ))≤o.length:=List.findIdx_le_length
    have hz2:({ aV.zero with }:aV)=aV.zero:=rfl
    by_cases hx:o.any (fun h=>decide (ltP p h.aJ))=true
    · simp only [hx,cB]
      generalize hk:o.findIdx (fun h=>decide (ltP p h.aJ))=k at fi
      have hkl:k < o.length:=by rw [← hk]; exact List.findIdx_lt_length_of_exists (by simpa using hx)
      rw [bT (by omega)]
      simp only [zc6 k (by omega),Int.toNat_natCast]
      rw [gdp (by omega),gdp (by omega),gdp (by omega),gdp (by omega),zcZ6 o k _ _ (by omega),ins o,hk]
    · have hx':o.any (fun h=>decide (ltP p h.aJ))=false:=by simpa using hx
      simp only [hx',bU,cA]
      rw [bW (by decide)]
      have hk:o.findIdx (fun h=>decide (ltP p h.aJ))=o.length:=by
        rw [List.findIdx_eq_length]; simpa using hx'
      simp only [zc6 o.length (by omega),Int.toNat_natCast]
      rw [gdp (by omega),gdp (by omega),gdp (by omega),gdp (by omega),zcZ6 o o.length _ _ (by omega),ins o,hk]
theorem zaT1 (r:aI):zG6 r=ze9 r:=by
 unfold zG6 ze9
 rw [dW]
 by_cases h1:r.kind=1
 ·simp [h1]
 ·by_cases h2:r.kind=2 <;> simp [h1,h2]
theorem zaB4 (r:aI) (a:aD):zs7 r a=za4 r a:=by
 unfold zs7 za4 zy0 zu8
 rw [zaT1]
theorem zbh8 (r:aI) (a:aD):zt5 r a=zc2 r a:=by
 unfold zt5 zc2 zk7 zj7
 rw [zaT1,zaB4]
theorem zaK0 (p:aK):zo1 p=zc5 p:=by
 unfold zo1 zc5 zP0
 rw [dW]; simp; omega
theorem zE8 (r:aI):ze9 r=true ↔ (r.kind=1∧r.aR=1)∨(r.kind=2∧1≤r.aR∧r.aR≤8):=by
 unfold ze9
 by_cases h1:r.kind=1
 ·simp [h1]
 ·by_cases h2:r.kind=2 <;> simp [h1,h2]
theorem zA6 (r:aI) (a:aD):za4 r a=true ↔ (r.kind=1∧r.aR=1∧1≤a.mode∧a.mode≤5∧a.aR=0)∨(r.kind=2∧1≤r.aR∧r.aR≤8∧a.mode=0∧1≤a.aR∧a.aR≤r.aR):=by
 unfold za4 zu8
 have:=zE8 r
 cases h:ze9 r with
 | false =>
  rw [h] at this
  simp only [bU,false_iff] at this
  simp only [dF,cB,bU,false_iff]
  omega
 | true =>
  rw [h] at this
  simp only [true_iff] at this
  by_cases h1:r.kind=1
  ·simp [h1]; omega
  ·simp [h1]; omega
theorem perm_iff (r:aI) (a:aD):zc2 r a=true ↔ (ze9 r=true∧a=aD.zero)∨za4 r a=true:=by
 unfold zc2 zj7
 have e:(decide (a={ aD.zero with }):Bool)=decide (a=aD.zero):=rfl
 rw [e]
 have hs:za4 r a=true→ze9 r=true:=by
  rw [zA6,zE8]; omega
 cases h1:ze9 r <;> cases h2:za4 r a <;> simp_all
theorem zaz3 {r:aI} {a:aD} (h:zc2 r a=true) (hk:r.kind=1):a.aR=0∧0≤a.mode∧a.mode≤5∧r.aR=1:=by
 rw [perm_iff,zA6,zE8] at h
 rcases h with ⟨h1,rfl⟩|h1
 ·simp [aD.zero]; omega
 ·omega
theorem zbh9 {r:aI} {a:aD} (h:zc2 r a=true) (hk:r.kind=2):a.mode=0∧0≤a.aR∧a.aR≤r.aR∧r.aR≤8:=by
 rw [perm_iff,zA6,zE8] at h
 rcases h with ⟨h1,rfl⟩|h1
 ·simp [aD.zero]; omega
 ·omega
theorem zac3 {r:aI} {a:aD} (h:zc2 r a=true):0≤a.aR∧a.aR≤8∧0≤a.mode∧a.mode≤5∧1≤r.aR∧r.aR≤8:=by
 rw [perm_iff,zA6,zE8] at h
 rcases h with ⟨h1,rfl⟩|h1
 ·simp [aD.zero]; omega
 ·omega
abbrev mC (a b:Int):Bool:=zK4 a b
theorem zce0 (a b:Int):mC a b=true ↔ (1≤a∧a≤4∧1≤b∧b≤4)∧(a=1∨b=1∨a=b∧a≠4):=by
 unfold mC zK4 zy0
 split
 ·rename_i h; simp at h; simp; omega
 ·rename_i h; simp at h; simp; omega
theorem zbF6 (a b:Int):mC a b=mC b a:=by rw [dW,zce0,zce0]; omega
theorem zbo4 (a b:Int):zh9 a b=some (mC a b):=by
 unfold zh9 zu8
 by_cases h:(1≤a∧a≤5)∧(1≤b∧b≤5)
 ·obtain ⟨⟨a1,a2⟩,b1,b2⟩:=h
  have wa:IntKind.i64.wrap (a - 1)=a - 1:=zi0 (by omega) (by omega)
  have wb:IntKind.i64.wrap (b - 1)=b - 1:=zi0 (by omega) (by omega)
  simp only [wa,wb]
  rw [gdp (fun _=>by omega),gdp (fun _=>by omega)]
  congr 1
  have ha:a=1∨a=2∨a=3∨a=4∨a=5:=by omega
  have hb:b=1∨b=2∨b=3∨b=4∨b=5:=by omega
  rcases ha with rfl|rfl|rfl|rfl|rfl <;> rcases hb with rfl|rfl|rfl|rfl|rfl <;> decide
 ·have hv:(((decide (1≤a))&&(decide (a≤5)))&&((decide (1≤b))&&(decide (b≤5))))=false:=by
   rw [dU]; intro hh; simp at hh; omega
  rw [hv]
  rw [gdp (fun h=>by cases h),gdp (fun h=>by cases h)]
  have:mC a b=false:=by rw [dU]; intro hh; rw [zce0] at hh; omega
  rw [this]; rfl
def zan7 (b a:aD):Prop:=b.mode≠0∧a.mode≠0∧mC b.mode a.mode=false
instance (b a:aD):Decidable (zan7 b a):=by unfold zan7; infer_instance
def sumU:List aD→Int
 | []=>0
 | a :: l=>a.aR+sumU l
structure CompP (r:aI) (l:List aD):Prop where
 perm:∀ a ∈ l,zc2 r a=true
 sum:sumU l≤r.aR
 pair:l.Pairwise fun b a=>¬ zan7 b a
instance (r:aI) (l:List aD):Decidable (CompP r l) :=
 decidable_of_iff ((∀ a ∈ l,zc2 r a=true)∧sumU l≤r.aR∧l.Pairwise fun b a=>¬ zan7 b a) ⟨fun ⟨a,b,c⟩=>⟨a,b,c⟩,fun ⟨a,b,c⟩=>⟨a,b,c⟩⟩
def zbB6 (r:aI) (l:List aD):Bool:=ze9 r&&decide (CompP r l)
theorem zcn2 {l:List aD} (h:∀ a ∈ l,0≤a.aR):0≤sumU l:=by
 induction l with
 | nil=>simp [sumU]
 | cons a l ih =>
  have:=ih fun b hb=>h b (.tail _ hb)
  have:=h a (.head _)
  simp only [sumU]; omega
def zbl1 (r:aI):List aD→List aD→Int→Bool
 | [],_,_=>true
 | a :: t,prev,s=>zc2 r a&&(decide (s+a.aR≤r.aR)&&(decide (∀ b ∈ prev,¬ zan7 b a)&&zbl1 r t (prev++[a]) (s+a.aR)))
theorem zbw8 (r:aI) (hr:0≤r.aR):∀ (l prev:List aD) (s:Int),s≤r.aR→(zbl1 r l prev s=true ↔ (∀ a ∈ l,zc2 r a=true)∧s+sumU l≤r.aR∧(∀ b ∈ prev,∀ a ∈ l,¬ zan7 b a)∧l.Pairwise fun b a=>¬ zan7 b a)
 | [],prev,s,hs=>by simp [zbl1,sumU]; exact hs
 | a :: t,prev,s,hs=>by
  simp only [zbl1,bS,bX,List.forall_mem_cons,cP,sumU]
  constructor
  ·rintro ⟨h1,h2,h3,h4⟩
   rw [zbw8 r hr t (prev++[a]) (s+a.aR) h2] at h4
   obtain ⟨k1,k2,k3,k4⟩:=h4
   refine ⟨⟨h1,k1⟩,by omega,fun b hb=>⟨h3 b hb,fun c hc=>k3 b (by simp [hb]) c hc⟩,fun c hc=>k3 a (by simp) c hc,k4⟩
  ·rintro ⟨⟨h1,k1⟩,h2,h3,h4,h5⟩
   have hn:0≤sumU t:=zcn2 fun b hb=>(zac3 (k1 b hb)).1
   have h6:s+a.aR≤r.aR:=by omega
   refine ⟨h1,h6,fun b hb=>(h3 b hb).1,?_⟩
   rw [zbw8 r hr t (prev++[a]) (s+a.aR) h6]
   refine ⟨k1,by omega,fun b hb c hc=>?_,h5⟩
   rcases cI.1 hb with hb|hb
   ·exact (h3 b hb).2 c hc
   ·simp at hb; subst hb; exact h4 c hc
theorem zcn3 (r:aI) (l:List aD) (hs:ze9 r=true):zbB6 r l=zbl1 r l [] 0:=by
 have hr:1≤r.aR:=by rw [zE8] at hs; omega
 unfold zbB6
 rw [hs,cJ,dW,zbw8 r (by omega) l [] 0 (by omega),bX]
 exact ⟨fun ⟨a,b,c⟩=>⟨a,by omega,by simp,c⟩,fun ⟨a,b,_,c⟩=>⟨a,by omega,c⟩⟩
def zbo5 (seen:Arr Bool 6) (m:Int):Bool:=(List.range' 0 6).all fun k=>!(seen.get k false)||mC k m
theorem zce1 (l:List aD) (g:Int×Int×Arr Bool 6):zb9 (zB4 l g) 0=some (if zbo5 g.2.2 (l.getD g.2.1.toNat aD.zero).mode=true then .inl () else .inr false):=by
 have key:=zL6 (body:=zB4 l g) 6 (fun i=>if (!(g.2.2.get i false)||mC i (l.getD g.2.1.toNat aD.zero).mode)=true then none else some (.inr false)) (.inl ()) (fun i hi=>by
  unfold zB4
  have h3:0≤(i:Int)∧(i:Int) < 6:=by omega
  have h4:IntKind.i64.wrap ((i:Int)+1)=(i:Int)+1:=zi0 (by omega) (by omega)
  simp only [h3.1,h3.2,cX,zk6,cC,cB,Int.toNat_natCast,zbo4,h4]
  cases Arr.get g.2.2 i false <;> cases mC i (l.getD g.2.1.toNat aD.zero).mode <;> rfl) (by unfold zB4; simp)
 rw [key,zU1]
 unfold zbo5
 split <;> simp_all
theorem zdl5 (s:Arr Bool 6) (i k:Nat) (hi:i < 6) (hk:k < 6):(s.put i true).get k false=if k=i then true else s.get k false:=by
 obtain ⟨l,hl⟩:=s
 simp only [Arr.put,Arr.get,zaj6 hi,zaj6 hk,bV,jV]
 by_cases h:k=i
 ·subst h; simp [hl,hk]
 ·rw [bT (fun e=>h e.symm),bT h]
theorem zbe2 (r:aI) (l:List aD) (hl:l.length≤1000000):zl2 r l=some (zbB6 r l):=by
 unfold zl2
 cases hs:ze9 r with
 | false=>simp [zbB6,hs]
 | true =>
  have hru:1≤r.aR∧r.aR≤8:=by rw [zE8] at hs; omega
  rw [zcn3 r l hs]
  simp only [cU,bU,cA]
  have key:=zA2 (body:=zG8 r l) l aD.zero (fun i (s:Int×Arr Bool 6)=>(s.1,(i:Int),s.2))
   (fun i a s=>some (if zc2 r a=false∨r.aR < s.1+a.aR then .inr false else if a.mode=0 then .inl (s.1+a.aR,s.2) else if zbo5 s.2 a.mode=true then .inl (s.1+a.aR,s.2.put a.mode.toNat true) else .inr false)) (fun _=>true) (fun i s=>0≤s.1∧s.1≤8)
   (fun i s hi hi2=>by
    refine ⟨?_,fun s' h=>?_⟩
    ·unfold zG8
     have h3:0≤(i:Int)∧(i:Int) < (l.length:Int):=by omega
     simp only [h3.1,h3.2,cX,zk6,cC,cB,Int.toNat_natCast,zc6 i (by omega),Option.map_some,zce1]
     cases hp:zc2 r (l.getD i aD.zero) with
     | false=>simp [wmap]
     | true =>
      have hb:=zac3 hp
      have hw:IntKind.i64.wrap (s.1+(l.getD i aD.zero).aR)=s.1+(l.getD i aD.zero).aR:=zi0 (by omega) (by omega)
      simp only [hw,cU,dR,bX,gF,jB]
      by_cases h4:r.aR < s.1+(l.getD i aD.zero).aR
      ·simp only [h4,cB,wmap]
      ·by_cases h5:(l.getD i aD.zero).mode=0
       ·simp only [h4,cA,h5,cB,wmap]
       ·simp only [h4,h5,cA]
        by_cases h6:zbo5 s.2 (l.getD i aD.zero).mode=true
        ·simp only [h6,cB,Option.bind_some,wmap]
         unfold zQ6
         simp only [Int.toNat_natCast,hw,zc6 i (by omega)]
         rw [gdp (by omega)]
        ·simp only [h6,bU,cA,wmap,Option.bind_some]
    ·simp only [dC] at h
     split at h
     ·cases h
     ·rename_i hn
      simp only [jQ,eN] at hn
      have hb:=zac3 hn.1
      split at h
      ·cases h; simp only; omega
      ·split at h
       ·cases h; simp only; omega
       ·cases h)
   (fun s hs=>by unfold zG8; simp) (0,Arr.rep 6 false) (by simp)
  have fold:∀ (l prev:List aD) (i:Nat) (s:Int) (seen:Arr Bool 6),(∀ b ∈ prev,0≤b.mode∧b.mode≤5)→(∀ k,k < 6→seen.get k false=decide (∃ b ∈ prev,b.mode≠0∧b.mode=(k:Int))) →
    walk (fun i a (s:Int×Arr Bool 6)=>some (if zc2 r a=false∨r.aR < s.1+a.aR then .inr false else if a.mode=0 then .inl (s.1+a.aR,s.2) else if zbo5 s.2 a.mode=true then .inl (s.1+a.aR,s.2.put a.mode.toNat true) else .inr false)) (fun _=>true) l i (s,seen)=some (zbl1 r l prev s):=by
   intro l
   induction l with
   | nil=>intro prev i s seen _ _; rfl
   | cons a t ih =>
    intro prev i s seen hpv hsn
    simp only [walk,zbl1]
    cases hp:zc2 r a with
    | false=>simp
    | true =>
     have hb:=zac3 hp
     by_cases h4:r.aR < s+a.aR
     ·simp [h4]; intro h; omega
     ·have h4':s+a.aR≤r.aR:=by omega
      simp only [gF,jB,h4,cA,h4',cC,cJ]
      by_cases h5:a.mode=0
      ·simp only [h5,cB]
       rw [ih (prev++[a]) (i+1) (s+a.aR) seen (by
        intro b hb'; rcases cI.1 hb' with h|h
        ·exact hpv b h
        ·simp at h; subst h; omega) (by
        intro k hk
        rw [hsn k hk,iO]
        constructor
        ·rintro ⟨b,h1,h2⟩; exact ⟨b,by simp [h1],h2⟩
        ·rintro ⟨b,h1,h2,h3⟩
         rcases cI.1 h1 with h|h
         ·exact ⟨b,h,h2,h3⟩
         ·simp at h; subst h; exact absurd h5 h2)]
       have:∀ b ∈ prev,¬ zan7 b a:=fun b _ hc=>hc.2.1 h5
       rw [cF this,cJ]
      ·simp only [h5,cA]
       have hse:zbo5 seen a.mode=decide (∀ b ∈ prev,¬ zan7 b a):=by
        rw [dW,bX]
        unfold zbo5
        simp only [eT,List.mem_range'_1,dG,cS]
        constructor
        ·intro hh b hb' ⟨c1,c2,c3⟩
         have hbb:=hpv b hb'
         rcases hh b.mode.toNat (by omega) with h|h
         ·rw [hsn _ (by omega)] at h
          simp only [cR,not_exists,not_and] at h
          exact h b hb' c1 (by omega)
         ·rw [show ((b.mode.toNat:Nat):Int)=b.mode by omega,c3] at h; cases h
        ·intro hh k hk
         rw [hsn k (by omega)]
         by_cases he:∃ b ∈ prev,b.mode≠0∧b.mode=(k:Int)
         ·obtain ⟨b,h1,h2,h3⟩:=he
          right
          rw [← h3]
          have:=hh b h1
          unfold zan7 at this
          simp only [not_and,eN] at this
          exact this h2 h5
         ·left; simpa using he
       rw [hse]
       by_cases h7:∀ b ∈ prev,¬ zan7 b a
       ·rw [cF h7]
        simp only [cB,cJ]
        rw [ih (prev++[a]) (i+1) (s+a.aR) (seen.put a.mode.toNat true) (by
         intro b hb'; rcases cI.1 hb' with h|h
         ·exact hpv b h
         ·simp at h; subst h; omega) (by
         intro k hk
         rw [zdl5 seen a.mode.toNat k (by omega) hk,hsn k hk]
         by_cases hka:k=a.mode.toNat
         ·rw [bW hka]
          exact (cF ⟨a,by simp,h5,by omega⟩).symm
         ·rw [bT hka,iO]
          constructor
          ·rintro ⟨b,h1,h2⟩; exact ⟨b,by simp [h1],h2⟩
          ·rintro ⟨b,h1,h2,h3⟩
           rcases cI.1 h1 with h|h
           ·exact ⟨b,h,h2,h3⟩
           ·simp at h; subst h; omega)]
       ·rw [eX h7]; rfl
  have k2:=fold l [] 0 0 (Arr.rep 6 false) (by simp) (by
   intro k hk
   have:k=0∨k=1∨k=2∨k=3∨k=4∨k=5:=by omega
   rcases this with rfl|rfl|rfl|rfl|rfl|rfl <;> rfl)
  rw [show ((0,0,Arr.rep 6 false):Int×Int×Arr Bool 6)=(fun (i:Nat) (s:Int×Arr Bool 6)=>(s.1,(i:Int),s.2)) 0 (0,Arr.rep 6 false) from rfl,key,k2]
  rfl
theorem zbw9 (l:List aD) (g:Int×Int) (h0:0≤g.2) (hl:g.2 < (l.length:Int)) (hll:l.length≤1000000):zb9 (zC9 l g) 0 =
  some (if (List.range' 0 g.2.toNat).all (fun k=>decide (l.getD g.2.toNat aD.zero=aD.zero)||(decide (l.getD k aD.zero=aD.zero)||mC (l.getD g.2.toNat aD.zero).mode (l.getD k aD.zero).mode))=true then .inl () else .inr false):=by
 have hz:∀ a:aD,zk7 a=decide (a=aD.zero):=fun _=>rfl
 have key:=zL6 (body:=zC9 l g) g.2.toNat (fun i=>if (decide (l.getD g.2.toNat aD.zero=aD.zero)||(decide (l.getD i aD.zero=aD.zero)||mC (l.getD g.2.toNat aD.zero).mode (l.getD i aD.zero).mode))=true then none else some (.inr false)) (.inl ()) (fun i hi=>by
  unfold zC9
  have h3:(i:Int) < g.2:=by omega
  have h4:IntKind.i64.wrap ((i:Int)+1)=(i:Int)+1:=zi0 (by omega) (by omega)
  have h5:0≤(i:Int)∧(i:Int) < (l.length:Int):=by omega
  simp only [h3,cC,cB,Int.toNat_natCast,h4,h5.1,h5.2,h0,hl,cX,eQ,zk6,hz]
  cases decide (l.getD g.2.toNat aD.zero=aD.zero) <;> cases decide (l.getD i aD.zero=aD.zero) <;> cases hm:zK4 (l.getD g.2.toNat aD.zero).mode (l.getD i aD.zero).mode <;> simp only [mC,hm] <;> rfl) (by unfold zC9; rw [bT]; simp; omega)
 rw [key,zU1]
 split <;> simp_all
theorem zbj4 (r:aI) (l:List aD) (hl:l.length≤1000000):zm1 r l=some (zbB6 r l):=by
 unfold zm1
 rw [zaT1]
 cases hs:ze9 r with
 | false=>simp [zbB6,hs]
 | true =>
  have hru:1≤r.aR∧r.aR≤8∧(r.kind=1∨r.kind=2):=by rw [zE8] at hs; omega
  rw [zcn3 r l hs]
  simp only [cU,bU,cA]
  have key:=zA2 (body:=zz8 r l) l aD.zero (fun i (s:Int)=>(s,(i:Int)))
   (fun i a s=>some (if zc2 r a=false then .inr (.inr false) else if r.kind=2 then (if r.aR < s+a.aR then .inr (.inr false) else .inl (s+a.aR)) else
    if (List.range' 0 i).all (fun k=>decide (a=aD.zero)||(decide (l.getD k aD.zero=aD.zero)||mC a.mode (l.getD k aD.zero).mode))=true then .inl s else .inr (.inr false))) (fun _=>Sum.inl (β:=Bool) ()) (fun i s=>0≤s∧s≤8)
   (fun i s hi hi2=>by
    refine ⟨?_,fun s' h=>?_⟩
    ·unfold zz8
     have h3:0≤(i:Int)∧(i:Int) < (l.length:Int):=by omega
     simp only [h3.1,h3.2,cX,zk6,cC,cB,Int.toNat_natCast,zc6 i (by omega),Option.map_some,zbh8,zbw9 l (s,(i:Int)) h3.1 h3.2 hl]
     cases hp:zc2 r (l.getD i aD.zero) with
     | false=>simp [wmap]
     | true =>
      have hb:=zac3 hp
      have hw:IntKind.i64.wrap (s+(l.getD i aD.zero).aR)=s+(l.getD i aD.zero).aR:=zi0 (by omega) (by omega)
      simp only [hw,cU,bU,cA,gF,bX]
      by_cases h4:r.kind=2
      ·by_cases h5:r.aR < s+(l.getD i aD.zero).aR
       ·simp only [h4,h5,cB,wmap]
       ·simp only [h4,h5,cB,cA,wmap]
      ·simp only [h4,cA]
       split
       ·simp only [zaf1,wmap,zc6 i (by omega:i < 4611686018427387904),Option.bind_some]
       ·simp only [wmap,Option.bind_some]
    ·simp only [dC] at h
     split at h
     ·cases h
     ·rename_i hn
      simp only [eN] at hn
      have hb:=zac3 hn
      split at h
      ·split at h
       ·cases h
       ·cases h; omega
      ·split at h
       ·cases h; exact hi2
       ·cases h)
   (fun s hs=>by unfold zz8; simp) 0 (by simp)
  have fold:∀ (t prev:List aD) (s:Int),l=prev++t→(∀ b ∈ prev,zc2 r b=true)→(r.kind=1→s=0)→s≤r.aR →
    walk (fun i a (s:Int)=>some (if zc2 r a=false then .inr (.inr false) else if r.kind=2 then (if r.aR < s+a.aR then .inr (.inr false) else .inl (s+a.aR)) else
     if (List.range' 0 i).all (fun k=>decide (a=aD.zero)||(decide (l.getD k aD.zero=aD.zero)||mC a.mode (l.getD k aD.zero).mode))=true then .inl s else .inr (.inr false))) (fun _=>Sum.inl (β:=Bool) ()) t prev.length s=some (if zbl1 r t prev s=true then .inl () else .inr false):=by
   intro t
   induction t with
   | nil=>intro prev s _ _ _ _; rfl
   | cons a t ih =>
    intro prev s hlt hpp hs0 hsu
    simp only [walk,zbl1]
    by_cases hp:zc2 r a=true
    ·have hpp':∀ b ∈ prev++[a],zc2 r b=true:=fun b hb=>by
      rcases cI.1 hb with h|h
      ·exact hpp b h
      ·simp at h; subst h; exact hp
     have hlt':l=(prev++[a])++t:=by rw [hlt]; simp
     have hlen:(prev++[a]).length=prev.length+1:=by simp
     rcases hru.2.2 with hk|hk
     ·
      have ha:=zaz3 hp hk
      have hs:=hs0 hk
      subst hs
      have hk2:¬ r.kind=2:=by omega
      have hsum:(0:Int)+a.aR≤r.aR:=by omega
      simp only [hp,gF,cA,hk2,hsum,cC,cJ]
      have hall:(List.range' 0 prev.length).all (fun k=>decide (a=aD.zero)||(decide (l.getD k aD.zero=aD.zero)||mC a.mode (l.getD k aD.zero).mode))=decide (∀ b ∈ prev,¬ zan7 b a):=by
       rw [dW,bX]
       simp only [eT,List.mem_range'_1,dG,bX]
       have hget:∀ k,k < prev.length→l.getD k aD.zero=prev.getD k aD.zero:=fun k hk=>by rw [hlt,zaz2 _ _ _ _ hk]
       have hmem:∀ k,k < prev.length→prev.getD k aD.zero ∈ prev:=fun k hk=>by
        rw [bV,bY hk]; exact iP hk
       have zae4:∀ b,zc2 r b=true→(b=aD.zero ↔ b.mode=0):=fun b hb=>by
        have:=zaz3 hb hk
        rw [aD.ext_iff]; simp [aD.zero]; omega
       constructor
       ·intro hh b hb ⟨c1,c2,c3⟩
        obtain ⟨k,hk1,hk2⟩:=eR.1 hb
        have e:prev.getD k aD.zero=b:=by rw [bV,bY hk1,Option.getD_some,hk2]
        rcases hh k (by omega) with h|h|h
        ·exact c2 ((zae4 a hp).1 h)
        ·rw [hget k hk1,e] at h; exact c1 ((zae4 b (hpp b hb)).1 h)
        ·rw [hget k hk1,e,zbF6,c3] at h; cases h
       ·intro hh k hk1
        have hk2:k < prev.length:=by omega
        rw [hget k hk2]
        have h1:=hh _ (hmem k hk2)
        have h2:=hpp _ (hmem k hk2)
        unfold zan7 at h1
        rw [zae4 a hp,zae4 _ h2]
        by_cases e1:a.mode=0
        ·exact .inl e1
        ·by_cases e2:(prev.getD k aD.zero).mode=0
         ·exact .inr (.inl e2)
         ·refine .inr (.inr ?_)
          rw [zbF6]
          simp only [not_and,eN] at h1
          exact h1 e2 e1
      rw [hall]
      by_cases h7:∀ b ∈ prev,¬ zan7 b a
      ·rw [cF h7]
       simp only [cB,cJ]
       have:=ih (prev++[a]) 0 hlt' hpp' (fun _=>rfl) (by omega)
       rw [hlen] at this
       simp only [hk2,cA] at this
       rw [this,ha.1]; rfl
      ·rw [eX h7]; rfl
     ·
      have ha:=zbh9 hp hk
      simp only [hp,gF,cA,hk,cB,cJ]
      have h7:∀ b ∈ prev,¬ zan7 b a:=fun b _ hc=>hc.2.1 ha.1
      by_cases h5:r.aR < s+a.aR
      ·have:¬ s+a.aR≤r.aR:=by omega
       simp [h5,this]
      ·have:s+a.aR≤r.aR:=by omega
       rw [cF h7]
       simp only [h5,cA,this,cC,cJ]
       have h8:=ih (prev++[a]) (s+a.aR) hlt' hpp' (fun h=>by omega) this
       rw [hlen] at h8
       simp only [hk,cB] at h8
       exact h8
    ·simp [hp]
  rw [show ((0,0):Int×Int)=(fun (i:Nat) (s:Int)=>(s,(i:Int))) 0 0 from rfl,key]
  have k2:=fold l [] 0 rfl (by simp) (fun _=>rfl) (by omega)
  rw [List.length_nil] at k2
  rw [k2]
  cases zbl1 r l [] 0 <;> rfl
structure GoodP (r:aI) (l:List aV):Prop where
 each:∀ h ∈ l,zc5 h.aJ=true∧za4 r h.aN=true
 asc:l.Pairwise fun a b=>ltP a.aJ b.aJ
instance (r:aI) (l:List aV):Decidable (GoodP r l) :=
 decidable_of_iff ((∀ h ∈ l,zc5 h.aJ=true∧za4 r h.aN=true)∧l.Pairwise fun a b=>ltP a.aJ b.aJ) ⟨fun ⟨a,b⟩=>⟨a,b⟩,fun ⟨a,b⟩=>⟨a,b⟩⟩
def zF7 (r:aI) (l:List aV):Bool:=ze9 r&&(decide (l.length≤8)&&(decide (GoodP r l)&&decide (CompP r (l.map (·.aN)))))
theorem zbe3 {r:aI} {a:aD} (h:za4 r a=true):ze9 r=true:=by rw [zA6] at h; rw [zE8]; omega
theorem zz5 {r:aI} {a:aD} (h:za4 r a=true):zc2 r a=true:=(perm_iff r a).2 (.inr h)
theorem zR2 {r:aI} {a:aD} (h:za4 r a=true):a≠aD.zero:=by
 rw [zA6] at h; intro e; subst e; simp [aD.zero] at h
def zas3 (r:aI):List aV→Option aK→Bool
 | [],_=>true
 | h :: t,pv=>zc5 h.aJ&&(za4 r h.aN&&((match pv with|none=>true|some q=>decide (ltP q h.aJ))&&zas3 r t (some h.aJ)))
theorem zbx0 (r:aI):∀ (l:List aV) (pv:Option aK),zas3 r l pv=true ↔ GoodP r l∧∀ q,pv=some q→∀ h ∈ l,ltP q h.aJ
 | [],pv=>by
  simp only [zas3,gS,hY,eQ,jZ,true_iff]
  exact ⟨by simp,.nil⟩
 | h :: t,pv=>by
  simp only [zas3,bS]
  rw [zbx0 r t (some h.aJ)]
  constructor
  ·rintro ⟨h1,h2,h3,⟨h4,h5⟩,h6⟩
   refine ⟨⟨fun x hx=>?_,cP.2 ⟨fun x hx=>h6 _ rfl x hx,h5⟩⟩,fun q hq x hx=>?_⟩
   ·rcases cE.1 hx with rfl|hx
    ·exact ⟨h1,h2⟩
    ·exact h4 x hx
   ·subst hq
    simp only [bX] at h3
    rcases cE.1 hx with rfl|hx
    ·exact h3
    ·exact zae7 h3 (h6 _ rfl x hx)
  ·rintro ⟨⟨h1,h2⟩,h3⟩
   rw [cP] at h2
   refine ⟨(h1 h (.head _)).1,(h1 h (.head _)).2,?_,⟨fun x hx=>h1 x (.tail _ hx),h2.2⟩,fun q hq x hx=>by cases hq; exact h2.1 x hx⟩
   cases pv with
   | none=>rfl
   | some q=>exact cF (h3 q rfl h (.head _))
theorem zaz4 (r:aI) (l:List aV):zs3 r l=some (zF7 r l):=by
 unfold zs3 zF7
 cases hs:ze9 r with
 | false=>simp
 | true =>
  by_cases h8:8 < (l.length:Int)
  ·have:¬ l.length≤8:=by omega
   simp [h8,this]
  ·have hl8:l.length≤8:=by omega
   simp only [cU,dR,h8,cK,bU,cA,hl8,cC,cJ]
   have key:=zA2 (body:=zT1 r l) l aV.zero (fun i (s:List aD)=>((i:Int),s))
    (fun i h s=>some (if zc5 h.aJ=true∧za4 r h.aN=true∧(i=0∨ltP (l.getD (i - 1) aV.zero).aJ h.aJ) then .inl (s++[h.aN]) else .inr (.inr false))) (fun s=>Sum.inl (β:=Bool) s) (fun i s=>s.length≤i)
    (fun i s hi hs=>by
     refine ⟨?_,fun s' h=>?_⟩
     ·unfold zT1
      have h1:s.length+1≤4294967296:=by omega
      have h3:0≤(i:Int)∧(i:Int) < (l.length:Int):=by omega
      simp only [h1,h3.1,h3.2,cX,zk6,cC,cB,Int.toNat_natCast,zal9,zc6 i (by omega),Option.map_some,bX,bS,dG,cS]
      by_cases e1:zc5 (l.getD i aV.zero).aJ=false∨za4 r (l.getD i aV.zero).aN=false
      ·rw [bW e1,bT (by rintro ⟨k1,k2,_⟩; rcases e1 with e|e <;> simp_all)]; rfl
      ·rw [bT e1]
       simp only [jQ,eN] at e1
       by_cases e2:i=0
       ·subst e2
        rw [gdp (by omega)]
        simp only [Int.natCast_zero,fC,cA,Option.bind_some,jP,e1,cX,true_or,cB,wmap]
       ·have w:IntKind.i64.wrap ((i:Int) - 1)=((i - 1:Nat):Int):=zas2 i (by omega) (by omega)
        rw [gdp (by rw [w]; omega)]
        simp only [w,Int.toNat_natCast,show (0:Int) < (i:Int) by omega,cB,Option.bind_some,gC,zaD8,e1,e2,jB]
        by_cases e3:ltP (l.getD (i - 1) aV.zero).aJ (l.getD i aV.zero).aJ
        ·simp only [e3,not_true,cA,cB,wmap]
        ·simp only [e3,iJ,cB,cA,wmap]
     ·simp only [dC] at h
      split at h
      ·cases h; simp; omega
      ·cases h)
    (fun s hs=>by unfold zT1; simp) [] (by simp)
   have fold:∀ (t prev:List aV) (s:List aD),l=prev++t →
     walk (fun i h (s:List aD)=>some (if zc5 h.aJ=true∧za4 r h.aN=true∧(i=0∨ltP (l.getD (i - 1) aV.zero).aJ h.aJ) then .inl (s++[h.aN]) else .inr (.inr false))) (fun s=>Sum.inl (β:=Bool) s) t prev.length s =
      some (if zas3 r t (prev.getLast?.map (·.aJ))=true then .inl (s++t.map (·.aN)) else .inr false):=by
    intro t
    induction t with
    | nil=>intro prev s _; simp [walk,zas3]
    | cons h t ih =>
     intro prev s hlt
     simp only [walk]
     have hq:(prev.length=0∨ltP (l.getD (prev.length - 1) aV.zero).aJ h.aJ) ↔ (match prev.getLast?.map (·.aJ) with|none=>true|some q=>decide (ltP q h.aJ))=true:=by
      rcases iH prev with rfl|⟨pp,x,rfl⟩
      ·simp
      ·have:(l.getD ((pp.concat x).length - 1) aV.zero)=x:=by
        rw [hlt]; simp [bV]
       rw [this]; simp
     by_cases e:zc5 h.aJ=true∧za4 r h.aN=true∧(prev.length=0∨ltP (l.getD (prev.length - 1) aV.zero).aJ h.aJ)
     ·rw [bW e]
      have:=ih (prev++[h]) (s++[h.aN]) (by rw [hlt]; simp)
      rw [show (prev++[h]).length=prev.length+1 by simp] at this
      simp only
      have ht:zas3 r (h :: t) (prev.getLast?.map (·.aJ))=zas3 r t (some h.aJ):=by simp only [zas3,e.1,e.2.1,hq.1 e.2.2,cJ]
      rw [this,ht]
      simp
     ·rw [bT e]
      rw [hq] at e
      have hf:zas3 r (h :: t) (prev.getLast?.map (·.aJ))=false:=by
       rw [dU]
       intro hh
       simp only [zas3,bS] at hh
       exact e ⟨hh.1,hh.2.1,hh.2.2.1⟩
      rw [hf]; rfl
   have k2:=fold l [] [] rfl
   rw [List.length_nil] at k2
   rw [show ((0,[]):Int×List aD)=(fun (i:Nat) (s:List aD)=>((i:Int),s)) 0 [] from rfl,key,k2]
   have hg:=zbx0 r l none
   by_cases e:zas3 r l none=true
   ·have hgp:GoodP r l:=(hg.1 e).1
    rw [bW (by simpa using e)]
    simp only [Option.bind_some,zaq1,List.nil_append]
    rw [zbe2 r _ (by simp; omega)]
    simp [zbB6,hs,hgp]
   ·have hgp:¬ GoodP r l:=fun h=>e (hg.2 ⟨h,by simp⟩)
    rw [bT (by simpa using e)]
    simp [hgp]
theorem zbx1 (l:List aV) (hl:l.length≤1000000):zh2 l=some (l.map (·.aN)):=by
 unfold zh2
 have key:=zA2 (body:=zT0 l) l aV.zero (fun i (s:List aD)=>((i:Int),s)) (fun i h s=>some (.inl (zaD7 s (some h.aN)))) (fun s=>s) (fun i s=>s.length≤i)
  (fun i s hi hs=>by
   refine ⟨?_,fun s' h=>?_⟩
   ·unfold zT0
    have h1:s.length+1≤4294967296:=by omega
    have h3:0≤(i:Int)∧(i:Int) < (l.length:Int):=by omega
    simp only [h1,h3.1,h3.2,cX,zk6,cC,cB,Int.toNat_natCast,zc6 i (by omega),Option.map_some,wmap,zaD7]
   ·simp only [dC,fF] at h; subst h; simp [zaD7]; omega)
  (fun s hs=>by unfold zT0; simp) [] (by simp)
 rw [show ((0,[]):Int×List aD)=(fun (i:Nat) (s:List aD)=>((i:Int),s)) 0 [] from rfl,key,zaH6 (fun h:aV=>some h.aN)]
 simp [zap8]
theorem zaK1 (r:aI) (l:List aV):zt9 r l=some (zF7 r l):=by
 unfold zt9 zF7
 rw [zaT1]
 cases hs:ze9 r with
 | false=>simp
 | true =>
  by_cases h8:8 < (l.length:Int)
  ·have:¬ l.length≤8:=by omega
   simp [h8,this]
  ·have hl8:l.length≤8:=by omega
   simp only [cU,dR,h8,cK,bU,cA,hl8,cC,cJ]
   have key:=zA2 (body:=zaa8 r l) l aV.zero (fun i (_:Unit)=>(i:Int))
    (fun i h _=>some (if zc5 h.aJ=true∧za4 r h.aN=true∧(i=0∨ltP (l.getD (i - 1) aV.zero).aJ h.aJ) then .inl () else .inr (.inr false))) (fun _=>Sum.inl (β:=Bool) ()) (fun i s=>True)
    (fun i s hi _=>by
     refine ⟨?_,fun _ _=>trivial⟩
     unfold zaa8
     have h3:0≤(i:Int)∧(i:Int) < (l.length:Int):=by omega
     simp only [h3.1,h3.2,cX,eQ,zk6,cC,cB,Int.toNat_natCast,zc6 i (by omega),Option.map_some,zaK0,zaB4]
     by_cases e2:i=0
     ·subst e2
      rw [gdp (by simp)]
      by_cases e1:zc5 (l.getD 0 aV.zero).aJ=true
      ·by_cases e3:za4 r (l.getD 0 aV.zero).aN=true
       ·simp only [e1,e3]; simp [wmap]
       ·simp only [e1,e3]; simp [wmap]
      ·simp only [e1]; simp [wmap]
     ·have w:IntKind.i64.wrap ((i:Int) - 1)=((i - 1:Nat):Int):=zas2 i (by omega) (by omega)
      rw [gdp (fun _=>by rw [w]; omega)]
      simp only [w,Int.toNat_natCast,show (0:Int) < (i:Int) by omega,cC,cJ,zaD8,e2,jB]
      by_cases e1:zc5 (l.getD i aV.zero).aJ=true
      ·by_cases e3:za4 r (l.getD i aV.zero).aN=true
       ·by_cases e4:ltP (l.getD (i - 1) aV.zero).aJ (l.getD i aV.zero).aJ
        ·simp only [e1,e3,e4]; simp [wmap]
        ·simp only [e1,e3,e4]; simp [wmap]
       ·simp only [e1,e3]; simp [wmap]
      ·simp only [e1]; simp [wmap])
    (fun s hs=>by unfold zaa8; simp) () trivial
   have fold:∀ (t prev:List aV),l=prev++t →
     walk (fun i h (_:Unit)=>some (if zc5 h.aJ=true∧za4 r h.aN=true∧(i=0∨ltP (l.getD (i - 1) aV.zero).aJ h.aJ) then .inl () else .inr (.inr false))) (fun _=>Sum.inl (β:=Bool) ()) t prev.length () =
      some (if zas3 r t (prev.getLast?.map (·.aJ))=true then .inl () else .inr false):=by
    intro t
    induction t with
    | nil=>intro prev _; simp [walk,zas3]
    | cons h t ih =>
     intro prev hlt
     simp only [walk]
     have hq:(prev.length=0∨ltP (l.getD (prev.length - 1) aV.zero).aJ h.aJ) ↔ (match prev.getLast?.map (·.aJ) with|none=>true|some q=>decide (ltP q h.aJ))=true:=by
      rcases iH prev with rfl|⟨pp,x,rfl⟩
      ·simp
      ·have:(l.getD ((pp.concat x).length - 1) aV.zero)=x:=by
        rw [hlt]; simp [bV]
       rw [this]; simp
     by_cases e:zc5 h.aJ=true∧za4 r h.aN=true∧(prev.length=0∨ltP (l.getD (prev.length - 1) aV.zero).aJ h.aJ)
     ·rw [bW e]
      have:=ih (prev++[h]) (by rw [hlt]; simp)
      rw [show (prev++[h]).length=prev.length+1 by simp] at this
      simp only
      have ht:zas3 r (h :: t) (prev.getLast?.map (·.aJ))=zas3 r t (some h.aJ):=by simp only [zas3,e.1,e.2.1,hq.1 e.2.2,cJ]
      rw [this,ht]
      simp
     ·rw [bT e]
      rw [hq] at e
      have hf:zas3 r (h :: t) (prev.getLast?.map (·.aJ))=false:=by
       rw [dU]
       intro hh
       simp only [zas3,bS] at hh
       exact e ⟨hh.1,hh.2.1,hh.2.2.1⟩
      rw [hf]; rfl
   have k2:=fold l [] rfl
   rw [List.length_nil] at k2
   rw [show (0:Int)=(fun (i:Nat) (_:Unit)=>(i:Int)) 0 () from rfl,key,k2]
   have hg:=zbx0 r l none
   by_cases e:zas3 r l none=true
   ·have hgp:GoodP r l:=(hg.1 e).1
    rw [bW (by simpa using e)]
    simp only [Option.bind_some,zay9]
    rw [zbx1 l (by omega),Option.bind_some,zbj4 r _ (by simp; omega)]
    simp [zbB6,hs,hgp]
   ·have hgp:¬ GoodP r l:=fun h=>e (hg.2 ⟨h,by simp⟩)
    rw [bT (by simpa using e)]
    simp [hgp]
theorem zbs4 (p:aK) (a:aD) (l:List aV):(insP p a l).length=l.length+1:=by
 induction l with
 | nil=>rfl
 | cons h t ih=>simp only [insP]; split <;> simp [ih]
theorem zcZ7 (l:List aV) (p:aK) (a:aD):(setL l p a).length≤l.length+1:=by
 have:=zaJ9 p l
 unfold setL
 split
 ·omega
 ·rw [zbs4]; omega
theorem zai3 {r:aI} {l:List aV} (h:zF7 r l=true):l.length≤8:=by
 unfold zF7 at h; simp at h; exact h.2.1
def zag3 (r:aI) (l:List aV) (p:aK) (a:aD):Bool:=zF7 r l&&(zc5 p&&za4 r a)
def zaG2 (r:aI) (l:List aV) (p:aK) (a:aD):Bool:=zag3 r l p a&&zF7 r (setL l p a)
theorem zcL4 (r:aI) (l:List aV) (p:aK) (a:aD):zz3 r l p a=some (zag3 r l p a):=by
 unfold zz3 zag3
 rw [zaz4,Option.bind_some,gT]
theorem zdl6 (r:aI) (l:List aV) (p:aK) (a:aD):zT7 r l p a=some (zaG2 r l p a):=by
 unfold zT7 zaG2
 rw [zcL4,Option.bind_some]
 cases h:zag3 r l p a with
 | false=>simp
 | true =>
  have hv:zF7 r l=true:=by unfold zag3 at h; simp at h; exact h.1
  simp only [cB]
  rw [zbL7 l p a (by have:=zai3 hv; omega),Option.bind_some,zaz4]
  simp
theorem zcn4 (r:aI) (l:List aV) (p:aK) (a:aD):zM3 r l p a=some (zaG2 r l p a):=by
 unfold zM3 zaG2
 rw [zaK1,Option.bind_some,zaK0,zaB4,gT]
 change ((if zag3 r l p a=true then _ else _):Option (List aV)).bind _=_
 cases h:zag3 r l p a with
 | false=>unfold zag3 at h; simp [h]
 | true =>
  have hv:zF7 r l=true:=by unfold zag3 at h; simp at h; exact h.1
  unfold zag3 at h
  simp only [h,cB]
  rw [zaw0 l p a (by have:=zai3 hv; omega),Option.bind_some,zaK1]
  simp
def zai4 (p:aK):List aT→Nat→Option Nat
 | [],_=>none
 | w :: l,i=>if w.aJ=p then some i else zai4 p l (i+1)
def zR9 (l:List aT) (p:aK):Int:=match zai4 p l 0 with
 | some i=>i
 | none=>-1
theorem zbB7 (l:List aT) (p:aK):∀ k i,i+k=l.length→zR1 (fun i=>if (l.getD i aT.zero).aJ=p then some (i:Int) else none) k i=(zai4 p (l.drop i) i).map fun n:Nat=>(n:Int)
 | 0,i,h=>by rw [gR (by omega)]; rfl
 | k+1,i,h=>by
  rw [zaH5 l i aT.zero (by omega)]
  simp only [zR1,zai4]
  by_cases hp:(l.getD i aT.zero).aJ=p
  ·simp only [hp,cB,Option.map_some]
  ·simp only [hp,cA]
   exact zbB7 l p k (i+1) (by omega)
theorem zaG7 (l:List aT) (p:aK) (hl:l.length < 4611686018427387904):zm3 l p=some (zR9 l p):=by
 unfold zm3
 have key:zb9 (zah1 l p) 0=some ((zR1 (fun i=>if (l.getD i aT.zero).aJ=p then some (Sum.inr (i:Int)) else none) l.length 0).getD (Sum.inl ())):=by
  refine zL6 l.length _ (Sum.inl ()) (fun i hi=>?_) ?_
  ·unfold zah1
   rw [bW (by simpa using hi),zg0 (by omega)]
   simp only [Int.toNat_natCast,bX]
   split
   ·rfl
   ·rw [zi0 (by omega) (by omega)]
  ·unfold zah1
   rw [bT (by simp)]
 rw [key]
 have h2:=zbB7 l p l.length 0 (by omega)
 have h3:∀ k i,zR1 (fun i=>if (l.getD i aT.zero).aJ=p then some (Sum.inr (α:=Unit) (i:Int)) else none) k i=(zR1 (fun i=>if (l.getD i aT.zero).aJ=p then some (i:Int) else none) k i).map Sum.inr:=by
  intro k
  induction k with
  | zero=>intro i; rfl
  | succ k ih =>
   intro i
   simp only [zR1]
   by_cases hp:(l.getD i aT.zero).aJ=p
   ·simp only [hp,cB,Option.map_some]
   ·simp only [hp,cA,ih]
 rw [h3,h2,gV]
 unfold zR9
 cases zai4 p l 0 <;> rfl
theorem zan8 (l:List aT) (p:aK) (hl:l.length < 4611686018427387904):zj4 l p=some (zR9 l p):=by
 have e:zj4 l p=zm3 l p:=rfl
 rw [e]; exact zaG7 l p hl
theorem zaG8 (w:aT):zy1 w=zk5 w:=by
 unfold zy1 zk5 zo1 zc5 zP0 zm4 za4 ze9 zy0 zu8
 rw [dW]
 simp
 omega
def zU2 (l:List aT):Bool:=decide (l.length≤8)&&(List.range l.length).all fun i=>zk5 (l.getD i aT.zero)&&decide (zR9 l (l.getD i aT.zero).aJ=i)
theorem zbl2 (l:List aT):zu3 l=some (zU2 l):=by
 unfold zu3 zU2
 by_cases h8:8 < (l.length:Int)
 ·rw [bW (by simpa using h8)]
  have:¬ l.length≤8:=by omega
  simp [this]
 ·rw [bT (by simpa using h8)]
  have hl:l.length < 4611686018427387904:=by omega
  have key:zb9 (zP3 l) 0=some ((zR1 (fun i=>if (zk5 (l.getD i aT.zero)&&decide (zR9 l (l.getD i aT.zero).aJ=i))=true then none else some (Sum.inr false)) l.length 0).getD (Sum.inl ())):=by
   refine zL6 l.length _ (Sum.inl ()) (fun i hi=>?_) ?_
   ·unfold zP3
    rw [bW (by simpa using hi),zg0 (by omega)]
    simp only [Int.toNat_natCast]
    by_cases hv:zk5 (l.getD i aT.zero)=true
    ·simp only [hv,cB,zaG7 l _ hl,Option.bind_some,cU,dR,cJ]
     by_cases hf:zR9 l (l.getD i aT.zero).aJ=(i:Int)
     ·simp only [hf,cC,cU,bU,cA,cB]
      rw [zi0 (by omega) (by omega)]
     ·simp only [hf,cK,dF,cB,bU,cA]
    ·have hv:zk5 (l.getD i aT.zero)=false:=by simpa using hv
     simp only [hv,bU,cA,Option.bind_some,dF,gI,cB,eP]
   ·unfold zP3
    rw [bT (by simp)]
  rw [key,zU1,← eY]
  have:l.length≤8:=by omega
  simp only [this,cC,cJ]
  cases (List.range l.length).all fun i=>zk5 (l.getD i aT.zero)&&decide (zR9 l (l.getD i aT.zero).aJ=i) <;> rfl
theorem zbe4 (l:List aT):zt8 l=some (zU2 l):=by
 rw [← zbl2 l]
 unfold zt8 zu3
 by_cases h8:8 < (l.length:Int)
 ·rw [bW (cF h8),bW (cF h8)]
 ·rw [bT (by simpa using h8),bT (by simpa using h8)]
  have hl:l.length < 4611686018427387904:=by omega
  have e:zak7 l=zP3 l:=funext fun i=>by
   unfold zak7 zP3
   by_cases hi:i < (l.length:Int)
   ·rw [bW (cF hi),bW (cF hi)]
    by_cases h0:0≤i∧i < (l.length:Int)
    ·rw [zg0 h0,zg0 h0,zg0 (fun _=>h0)]
     simp only [zaG8,zan8 l _ hl,zaG7 l _ hl]
    ·unfold gd; rw [bT h0,bT h0]
   ·rw [bT (by simpa using hi)]; rw [bT (by simpa using hi)]
  rw [e]
  rfl
theorem zcn5 {p:aK}:∀ {l:List aT} {i j:Nat},zai4 p l i=some j→i≤j∧j < i+l.length
 | w :: l,i,j,h=>by
  simp only [zai4] at h
  split at h
  ·cases h; simp
  ·have:=zcn5 h; simp only [List.length_cons]; omega
theorem zcn6 (l:List aT) (p:aK):zR9 l p=-1∨0≤zR9 l p∧zR9 l p < l.length:=by
 unfold zR9
 cases h:zai4 p l 0 with
 | none=>exact .inl rfl
 | some j=>right; have:=zcn5 h; simp only; omega
def over (w e:aT):Bool:=decide (e.bC < w.bC)&&decide (e.bR < 3)
def zai5 (l:List aT) (w:aT):Nat→Nat
 | 0=>0
 | k+1=>if over w (l.getD k aT.zero)=true then zai5 l w k else k+1
theorem zbi0 (l:List aT) (w:aT):∀ k,zai5 l w k≤k
 | 0=>cY _
 | k+1=>by unfold zai5; split <;> have:=zbi0 l w k <;> omega
def bump (e:aT):aT:={ e with bR:=IntKind.i64.wrap (e.bR+1) }
def zaT2 (l:List aT) (w:aT) (n:Nat):List aT:=l.take n++w :: (l.drop n).map bump
def insS (l:List aT) (w:aT):List aT×Int×Int :=
 if zU2 l=false then ([],0,2)
 else if zk5 w=false∨w.bR≠0 then ([],0,1)
 else if 0≤zR9 l w.aJ then ([],0,11)
 else if l.length=8 then ([],0,4)
 else (zaT2 l w (zai5 l w l.length),(zai5 l w l.length:Int),0)
theorem zbo6 {l:List aT} (h:zU2 l=true):l.length≤8:=by
 simp only [zU2,bS,bX] at h; exact h.1
theorem zbD6 (l:List aT) (w:aT):zx6 l w=some (insS l w):=by
 unfold zx6 insS
 rw [zbe4,Option.bind_some]
 cases hv:zU2 l with
 | false=>rfl
 | true =>
  have h8:=zbo6 hv
  simp only [cU,bU,gF,cA,zaG8]
  by_cases hw:zk5 w=false∨w.bR≠0
  ·rw [bW hw,bW (by rcases hw with h|h <;> simp [h])]
  ·have hw1:zk5 w=true:=by simpa using fun h=>hw (.inl h)
   have hw2:w.bR=0:=by simpa using fun h=>hw (.inr h)
   rw [bT hw,bT (by simp [hw1,hw2]),zan8 _ _ (by omega),Option.bind_some]
   by_cases hf:0≤zR9 l w.aJ
   ·rw [bW hf,bW (cF hf)]
   ·rw [bT hf,bT (by simpa using hf)]
    by_cases h9:l.length=8
    ·rw [bW h9,bW (cF (by omega))]
    ·rw [bT h9,bT (by simp; omega)]
     have h2:=zcm9 (body:=zag1 l w) (fun g=>∃ i:Nat,g=i∧i≤l.length) (fun g=>g.toNat) (fun g=>((zai5 l w g.toNat:Nat):Int)) (fun g ⟨i,g1,g2⟩=>by
      subst g1
      unfold zag1
      cases i with
      | zero=>right; rw [zg0 (by simp),zg0 (by simp)]; rfl
      | succ i =>
       have e2:IntKind.i64.wrap (((i+1:Nat):Int) - 1)=(i:Int):=by rw [zi0 (by omega) (by omega)]; omega
       simp only [e2,Int.toNat_natCast]
       rw [zg0 (by omega),zg0 (by omega),gT]
       by_cases ho:over w (l.getD i aT.zero)=true
       ·left
        rw [bW (by unfold over at ho; simp only [ho,fE,bX]; omega)]
        exact ⟨_,rfl,⟨i,rfl,by omega⟩,by simp only [Int.toNat_natCast]; omega,by simp only [Int.toNat_natCast,zai5,ho,cB]⟩
       ·right
        rw [bT (by rw [bS]; exact fun h=>ho h.2)]
        simp only [zai5,bT ho]) (l.length:Int) ⟨l.length,rfl,cY _⟩
     rw [h2,Option.bind_some]
     simp only [Int.toNat_natCast]
     have hp:=zbi0 l w l.length
     generalize zai5 l w l.length=n at hp
     unfold zW5
     simp only [Int.toNat_natCast]
     rw [zg0 (by omega),zg0 (by simp; omega),zg0 (by simp; omega)]
     have key:=zcn0 (body:=zW4 l) l.length (fun i s=>.inl (s++[bump (l.getD i aT.zero)])) (fun s=>s) (fun i s=>s.length≤i+1) (fun i s hi hs=>by
      refine ⟨?_,fun s' h=>by cases h; simp; omega⟩
      unfold zW4
      rw [bW (cF (by simp only; omega)),zg0 (by simp only; omega),zg0 (by simp only; omega),zi0 (by simp only; omega) (by simp only; omega)]
      rfl) (fun s hs=>by
      unfold zW4
      rw [bT (by simp)]) (l.length - n) n (l.take n++[w]) (by omega) (by simp only [bZ,cO,List.length_cons,List.length_nil]; omega)
     have e3:(l.drop n).take (l.length - n)=l.drop n:=dA (by simp)
     rw [key,zbL3,zbL5 l aT.zero bump _ n (by omega),e3,Option.bind_some]
     simp [zav5,zaT2]
def notP (p:aK) (w:aT):Bool:=!decide (w.aJ=p)
def rmL (l:List aT) (p:aK):List aT:=l.filter (notP p)
theorem zdl7 (l:List aT) (p:aK):(rmL l p).length≤l.length:=gD _ _
theorem zap2 (l:List aT) (p:aK) (hl:l.length < 4294967296):zg5 l p=some (rmL l p,decide ((rmL l p).length < l.length)):=by
 unfold zg5
 have key:=zcL1 (body:=zW1 l p) l.length (fun i s=>.inl (if notP p (l.getD i aT.zero)=true then s++[l.getD i aT.zero] else s)) (fun s=>s) (fun i s=>s.length≤i) (fun i s hi hs=>by
  refine ⟨?_,fun s' h=>by simp only [fF] at h; subst h; split <;> first|omega|(simp only [bZ,List.length_cons,List.length_nil]; omega)⟩
  unfold zW1
  rw [bW (cF (by simp only; omega)),zg0 (by simp only; omega),zi0 (by simp only; omega) (by simp only; omega)]
  simp only [Int.toNat_natCast]
  by_cases hp:(!decide ((l.getD i aT.zero).aJ=p))=true
  ·rw [bW hp,bW (show notP p _=true from hp),zg0 (by omega),zg0 (by omega)]
  ·rw [bT hp,bT (show ¬ notP p _=true from hp)]) (fun s hs=>by
  unfold zW1
  rw [bT (by simp)]) [] (eZ _)
 rw [key,zbL4 l aT.zero (notP p) l.length 0 [] (by omega),List.nil_append,gV,Option.bind_some]
 unfold zau2 rmL
 simp
theorem zbL8 {p:aK}:∀ {l:List aT} {i:Nat},zai4 p l i=none ↔ ∀ w ∈ l,w.aJ≠p
 | [],i=>by simp [zai4]
 | w :: l,i=>by
  simp only [zai4]
  by_cases h:w.aJ=p
  ·simp [h]
  ·simp only [h,cA,zbL8 (l:=l),cE,forall_eq_or_imp,ne_eq,iJ,gC]
theorem zcL5 {l:List aT} {p:aK}:¬ 0≤zR9 l p ↔ ∀ w ∈ l,w.aJ≠p:=by
 rw [← zbL8 (i:=0)]
 unfold zR9
 cases zai4 p l 0 <;> simp
theorem zbx2 {w:aT} (h:zk5 w=true):0≤w.bR∧w.bR≤3:=by
 unfold zk5 at h
 simp only [bS,bX] at h
 exact ⟨h.1.2,h.2⟩
theorem zdw0 (e:aT):(bump e).aJ=e.aJ:=rfl
theorem zcn7 (s:ByteArray):zJ9 s=zF1 s:=by
 unfold zJ9 zF1 zz7
 generalize (s.toList == _)=a
 generalize (s.toList == _)=b
 generalize (s.toList == _)=c
 generalize (s.toList == _)=d
 generalize (s.toList == _)=e
 cases a <;> cases b <;> cases c <;> cases d <;> cases e <;> rfl
def chI (s:ByteArray) (i:Nat):Int:=((s.toList.getD i 0).toNat:Int)
def okC (s:ByteArray) (i:Nat):Bool:=zN0 (chI s i)||(!decide (i=0)&&zB3 (chI s i))
theorem zbs5 (s:ByteArray) (hl:s.size≤12):zb9 (zB2 s) 0=some (if (List.range s.size).all (okC s)=true then .inl () else .inr false):=by
 have key:zb9 (zB2 s) 0=some ((zR1 (fun i=>if okC s i=true then none else some (Sum.inr false)) s.size 0).getD (Sum.inl ())):=by
  refine zL6 s.size _ (Sum.inl ()) (fun i hi=>?_) ?_
  ·unfold zB2
   rw [bW (by simpa using hi),zg0 (by omega),zi0 (by omega) (by omega)]
   simp only [Int.toNat_natCast]
   have e:((!((decide (97≤((s.toList.getD i 0).toNat:Int)))&&(decide (((s.toList.getD i 0).toNat:Int)≤122))))&&((decide ((i:Int)=0))||(!((((decide (48≤((s.toList.getD i 0).toNat:Int)))&&(decide (((s.toList.getD i 0).toNat:Int)≤57)))||(decide (((s.toList.getD i 0).toNat:Int)=95)))||(decide (((s.toList.getD i 0).toNat:Int)=45))))))=!okC s i:=by
    unfold okC zB3 zN0 chI
    generalize ((s.toList.getD i 0).toNat:Int)=c
    rw [dW]
    simp
    omega
   cases hk:okC s i
   ·rw [hk] at e; exact bW e
   ·rw [hk] at e; exact bT (by rw [show _=false from e]; decide)
  ·unfold zB2
   rw [bT (by simp)]
 rw [key,zU1,← eY]
 cases (List.range s.size).all (okC s) <;> rfl
theorem zbD7 (s:ByteArray) (hl:s.size≤12):zb9 (zF2 s) 0=some (if (List.range s.size).all (fun i=>zB3 (chI s i))=true then .inl () else .inr false):=by
 have key:zb9 (zF2 s) 0=some ((zR1 (fun i=>if zB3 (chI s i)=true then none else some (Sum.inr false)) s.size 0).getD (Sum.inl ())):=by
  refine zL6 s.size _ (Sum.inl ()) (fun i hi=>?_) ?_
  ·unfold zF2
   rw [bW (by simpa using hi),zg0 (by omega),zi0 (by omega) (by omega)]
   simp only [Int.toNat_natCast]
   show (if (!zB3 (chI s i))=true then _ else _)=_
   cases zB3 (chI s i) <;> rfl
  ·unfold zF2
   rw [bT (by simp)]
 rw [key,zU1,← eY]
 cases (List.range s.size).all (fun i=>zB3 (chI s i)) <;> rfl
def zC1 (s:ByteArray):Bool:=decide (1≤s.size)&&(decide (s.size≤12)&&(!zF1 s&&(List.range s.size).all (okC s)))
theorem zaZ9 (s:ByteArray):ze4 s=some (zC1 s):=by
 unfold ze4 zC1
 rw [zcn7]
 by_cases h1:s.size < 1
 ·have:¬ 1≤s.size:=by omega
  rw [bW (by simp; omega)]
  simp [this]
 by_cases h2:12 < s.size
 ·have:¬ s.size≤12:=by omega
  rw [bW (by simp; omega)]
  simp [this]
 cases hr:zF1 s
 ·rw [bT (by simp; omega),zbs5 s (by omega)]
  have a1:1≤s.size:=by omega
  have a2:s.size≤12:=by omega
  simp only [a1,a2,cC,cJ,dF]
  cases (List.range s.size).all (okC s) <;> rfl
 ·rw [bW (by simp)]
  simp
theorem zaB5 (s:ByteArray):zg9 s=some (zC1 s):=by
 unfold zg9 zC1
 by_cases h1:s.size < 1
 ·have:¬ 1≤s.size:=by omega
  rw [zg0 (by simp; omega),bW (by simp; omega)]
  simp [this]
 by_cases h2:12 < s.size
 ·have:¬ s.size≤12:=by omega
  rw [zg0 (by simp; omega),bW (by simp; omega)]
  simp [this]
 have a1:1≤s.size:=by omega
 have a2:s.size≤12:=by omega
 rw [zg0 (by intro _; omega)]
 have c0:((s.toList.getD 0 0).toNat:Int)=chI s 0:=rfl
 have d1:decide ((s.size:Int) < 1)=false:=by simp; omega
 have d2:decide (12 < (s.size:Int))=false:=by simp; omega
 simp only [a1,a2,cC,cJ,c0,d1,d2,dR]
 have hall:(List.range s.size).all (okC s)=(zN0 (chI s 0)&&(List.range s.size).all fun i=>zB3 (chI s i)):=by
  rw [dW]
  simp only [eT,eO,bS,okC,dG,cS,cR]
  constructor
  ·intro h
   refine ⟨?_,fun i hi=>?_⟩
   ·rcases h 0 (by omega) with h|h
    ·exact h
    ·exact absurd rfl h.1
   ·rcases h i hi with h|h
    ·unfold zB3; simp [h]
    ·exact h.2
  ·rintro ⟨h0,h⟩ i hi
   by_cases hz:i=0
   ·subst hz; exact .inl h0
   ·exact .inr ⟨hz,h i hi⟩
 rw [hall]
 cases hr:zF1 s
 ·cases hL:zN0 (chI s 0)
  ·rfl
  ·simp only [cU,fA,bU,cA,zbD7 s a2,dF,cJ]
   cases (List.range s.size).all (fun i=>zB3 (chI s i)) <;> rfl
 ·simp
def resV (r:aI):Bool:=zC1 r.name&&(ze9 r&&(decide (0≤r.home)&&decide (r.home < 4)))
theorem zbL9 (r:aI):ze6 r=some (resV r):=by
 unfold ze6 resV
 rw [zaZ9]
 simp only [Option.bind_some,gT]
theorem zbs6 (r:aI):zj9 r=some (resV r):=by
 unfold zj9 resV
 rw [zaB5,zaT1]
 simp only [Option.bind_some,gT]
def getH (l:List aV) (p:aK):aD:=match l.find? fun h=>decide (h.aJ=p) with
 | some h=>h.aN
 | none=>aD.zero
theorem zbM0 (l:List aV) (p:aK):∀ k i,i+k=l.length→((zR1 (fun i=>if (l.getD i aV.zero).aJ=p then some (Sum.inr (α:=Unit) (l.getD i aV.zero).aN) else none) k i).getD (Sum.inl ()))=match (l.drop i).find? fun h=>decide (h.aJ=p) with
  | some h=>Sum.inr h.aN
  | none=>Sum.inl ()
 | 0,i,h=>by rw [gR (by omega)]; rfl
 | k+1,i,h=>by
  rw [zaH5 l i aV.zero (by omega)]
  simp only [zR1,List.find?_cons]
  by_cases hp:(l.getD i aV.zero).aJ=p
  ·simp only [hp,cB,cC,Option.getD_some]
  ·simp only [hp,cA,cK]
   exact zbM0 l p k (i+1) (by omega)
theorem zbe5 (l:List aV) (p:aK) (hl:l.length < 4611686018427387904):zj1 l p=some (getH l p):=by
 unfold zj1
 have key:zb9 (zK0 l p) 0=some ((zR1 (fun i=>if (l.getD i aV.zero).aJ=p then some (Sum.inr (α:=Unit) (l.getD i aV.zero).aN) else none) l.length 0).getD (Sum.inl ())):=by
  refine zL6 l.length _ (Sum.inl ()) (fun i hi=>?_) ?_
  ·unfold zK0
   rw [bW (by simpa using hi),zg0 (by omega),zi0 (by omega) (by omega)]
   simp only [Int.toNat_natCast,bX]
   split <;> rfl
  ·unfold zK0
   rw [bT (by simp)]
 rw [key,zbM0 l p l.length 0 (by omega),gV]
 unfold getH
 cases l.find? fun h=>decide (h.aJ=p) <;> rfl
theorem zaW8 (l:List aV) (p:aK) (hl:l.length < 4611686018427387904):zm2 l p=some (getH l p):=by
 rw [← zbe5 l p hl]
 unfold zm2 zj1
 have e:zau0 l p=zK0 l p:=funext fun i=>by
  unfold zau0 zK0
  by_cases h:0≤i∧i < (l.length:Int)
  ·simp only [zg0 h]
  ·by_cases hi:i < (l.length:Int)
   ·rw [bW (cF hi),bW (cF hi),gdn h,gdn h]
   ·rw [bT (by simpa using hi),bT (by simpa using hi)]
 rw [e]
 rfl
theorem zaB6 (a:aD):zk7 a=zj7 a:=rfl
abbrev covM (a b:Int):Bool:=zN1 a b
theorem zaK2 (a b:Int):covM a b=true ↔ (1≤a∧a≤5∧1≤b∧b≤5)∧(a=b∨a=5∨b=1∨a=4∧b≠5):=by
 unfold covM zN1 zy0
 by_cases h:1≤a∧a≤5∧1≤b∧b≤5
 ·rw [bT (by simp; omega)]
  simp
  omega
 ·rw [bW (by simp; omega)]
  simp
  omega
theorem zbM1 (a b:Int):zn6 a b=some (covM a b):=by
 unfold zn6 zu8
 rw [zg0 (by simp; omega)]
 congr 1
 rw [dW,zaK2]
 by_cases h:1≤a∧a≤5∧1≤b∧b≤5
 ·obtain ⟨h1,h2,h3,h4⟩:=h
  have ha:a=1∨a=2∨a=3∨a=4∨a=5:=by omega
  have hb:b=1∨b=2∨b=3∨b=4∨b=5:=by omega
  rcases ha with rfl|rfl|rfl|rfl|rfl <;> rcases hb with rfl|rfl|rfl|rfl|rfl <;> decide
 ·constructor
  ·intro hh
   simp only [bS,bX] at hh
   omega
  ·rintro ⟨hh,_⟩; exact absurd hh h
def covA (r:aI) (a b:aD):Bool:=zq9 r a b
theorem zbx3 (r:aI) (a b:aD):zs2 r a b=some (covA r a b):=by
 unfold zs2 covA zq9
 simp only [zbh8,zaB6,zbM1,Option.bind_some]
 cases zc2 r a <;> cases zc2 r b <;> simp
 cases ha:zj7 a <;> cases hb:zj7 b <;> simp
 split <;> rfl
theorem zaP4 (q:aA) (p:aK) (hl:q.aQ.length < 4611686018427387904):zn8 q p=some (getH q.aQ p):=by
 unfold zn8
 rw [zbe5 _ _ hl]; rfl
theorem zD7 (q:aA) (p:aK) (hl:q.aQ.length < 4611686018427387904):zi6 q p=some (getH q.aQ p):=by
 unfold zi6
 rw [zaW8 _ _ hl]; rfl
theorem hb (b:Bool):b=true∨b=false:=by cases b <;> simp
def cvI (q:aA) (i:Nat):Bool :=
 let w:=q.aO.getD i aT.zero
 let h:=getH q.aQ w.aJ
 decide (zR9 q.aO w.aJ=(i:Int))&&(!zj7 h&&(za4 q.aB w.aN&&(covA q.aB w.aN h&&(!decide (w.aN=h)&&(decide (w.bC=0)&&decide (w.bR=0))))))
def cvOk (q:aA):Bool:=decide (q.aO.length≤8)&&(List.range q.aO.length).all (cvI q)
def wtI (q:aA) (i:Nat):Bool :=
 let w:=q.aS.getD i aT.zero
 za4 q.aB w.aN&&zj7 (getH q.aQ w.aJ)
def wtOk (q:aA):Bool:=zU2 q.aS&&(decide (q.aQ.length+q.aS.length≤8)&&(List.range q.aS.length).all (wtI q))
theorem zbT7 (q:aA) (hl:q.aQ.length < 4611686018427387904) (hc:q.aO.length≤8):zb9 (zz2 q) 0=some (if (List.range q.aO.length).all (cvI q)=true then .inl () else .inr false):=by
 have key:zb9 (zz2 q) 0=some ((zR1 (fun i=>if cvI q i=true then none else some (Sum.inr false)) q.aO.length 0).getD (Sum.inl ())):=by
  refine zL6 q.aO.length _ (Sum.inl ()) (fun i hi=>?_) ?_
  ·unfold zz2
   rw [bW (by simpa using hi),zg0 (by omega),zi0 (by omega) (by omega),Int.toNat_natCast]
   unfold cvI
   generalize q.aO.getD i aT.zero=w
   rw [zaP4 q _ hl,Option.bind_some,zaG7 _ _ (show q.aO.length < 4611686018427387904 by omega),Option.bind_some]
   simp only [zbx3]
   rcases hb (decide (zR9 q.aO w.aJ=(i:Int))) with c1|c1 <;> rcases hb (zj7 (getH q.aQ w.aJ)) with c2|c2 <;> rcases hb (za4 q.aB w.aN) with c3|c3 <;> rcases hb (covA q.aB w.aN (getH q.aQ w.aJ)) with c4|c4 <;>
    rcases hb (decide (w.aN=getH q.aQ w.aJ)) with c5|c5 <;> rcases hb (decide (w.bC=0)) with c6|c6 <;> rcases hb (decide (w.bR=0)) with c7|c7 <;>
    simp only [c1,c2,c3,c4,c5,c6,c7,cU,dF,iQ,gI,jJ,dR,fE,cJ,iD,eP,cB,cA,bU,Option.bind_some,fA,gJ]
  ·unfold zz2
   rw [bT (by simp)]
 rw [key,zU1,← eY]
 cases (List.range q.aO.length).all (cvI q) <;> rfl
theorem zaW9 (q:aA) (hl:q.aQ.length < 4611686018427387904):zq6 q=some (cvOk q):=by
 unfold zq6 cvOk
 by_cases h:8 < q.aO.length
 ·have:¬ q.aO.length≤8:=by omega
  rw [bW (by simp; omega)]
  simp [this]
 ·have h8:q.aO.length≤8:=by omega
  rw [bT (by simp; omega),zbT7 q hl h8]
  simp only [h8,cC,cJ]
  cases (List.range q.aO.length).all (cvI q) <;> rfl
theorem zbM2 (q:aA) (hl:q.aQ.length < 4611686018427387904) (hc:q.aS.length≤8):zb9 (zz9 q) 0=some (if (List.range q.aS.length).all (wtI q)=true then .inl () else .inr false):=by
 have key:zb9 (zz9 q) 0=some ((zR1 (fun i=>if wtI q i=true then none else some (Sum.inr false)) q.aS.length 0).getD (Sum.inl ())):=by
  refine zL6 q.aS.length _ (Sum.inl ()) (fun i hi=>?_) ?_
  ·unfold zz9
   rw [bW (by simpa using hi),zg0 (by omega),zi0 (by omega) (by omega),Int.toNat_natCast]
   unfold wtI
   generalize q.aS.getD i aT.zero=w
   rw [zaP4 q _ hl]
   rcases hb (zj7 (getH q.aQ w.aJ)) with c2|c2 <;> rcases hb (za4 q.aB w.aN) with c3|c3 <;> simp only [c2,c3,cU,dF,iQ,gI,jJ,dR,fE,cJ,iD,eP,cB,cA,bU,Option.bind_some,fA,gJ]
  ·unfold zz9
   rw [bT (by simp)]
 rw [key,zU1,← eY]
 cases (List.range q.aS.length).all (wtI q) <;> rfl
theorem zbj5 (q:aA) (hl:q.aQ.length≤1000000):zo6 q=some (wtOk q):=by
 unfold zo6 wtOk
 rw [zbl2,Option.bind_some]
 cases hv:zU2 q.aS
 ·simp
 ·have h8:=zbo6 hv
  rw [zi0 (by omega) (by omega)]
  by_cases h:8 < q.aQ.length+q.aS.length
  ·have:¬ q.aQ.length+q.aS.length≤8:=by omega
   rw [bW (by simp; omega)]
   simp [this]
  ·have h9:q.aQ.length+q.aS.length≤8:=by omega
   rw [bT (by simp; omega),zbM2 q (by omega) h8]
   simp only [h9,cC,cJ]
   cases (List.range q.aS.length).all (wtI q) <;> rfl
def zaP5 (q:aA):Bool:=resV q.aB&&(zF7 q.aB q.aQ&&(cvOk q&&(wtOk q&&(decide (0≤q.gen)&&decide (q.gen≤1073741824)))))
theorem zbM3 (q:aA):zM4 q=some (zaP5 q):=by
 unfold zM4 zaP5
 rw [zbL9,Option.bind_some]
 cases resV q.aB
 ·simp
 ·simp only [cB,zaz4,Option.bind_some,cJ]
  cases hv:zF7 q.aB q.aQ
  ·simp
  ·have hl:=zai3 hv
   simp only [cB,zaW9 q (by omega),Option.bind_some,cJ]
   cases cvOk q
   ·simp
   ·simp only [cB,zbj5 q (by omega),Option.bind_some,cJ,gT]
theorem zbM4 (q:aA) (hl:q.aQ.length≤1000000) (hc:q.aS.length≤8):zb9 (zal0 q) 0=some (if (List.range q.aS.length).all (wtI q)=true then .inl () else .inr false):=by
 rw [← zbM2 q (by omega) hc]
 congr 1
 funext i
 unfold zal0 zz9
 by_cases h:0≤i∧i < (q.aS.length:Int)
 ·rw [bW (cF h.2),bW (cF h.2),zg0 h,zg0 h,zg0 (fun _=>h)]
  simp only [zaB4,zaB6,zaW8 _ _ (show q.aQ.length < 4611686018427387904 by omega),zaP4 q _ (show q.aQ.length < 4611686018427387904 by omega)]
 ·by_cases hi:i < (q.aS.length:Int)
  ·rw [bW (cF hi),bW (cF hi),gdn h,gdn h]
  ·rw [bT (by simpa using hi),bT (by simpa using hi)]
theorem zbs7 (q:aA) (hl:q.aQ.length≤1000000) (hc:q.aO.length≤8):zb9 (zS4 q) 0=some (if (List.range q.aO.length).all (cvI q)=true then .inl () else .inr false):=by
 have key:zb9 (zS4 q) 0=some ((zR1 (fun i=>if cvI q i=true then none else some (Sum.inr false)) q.aO.length 0).getD (Sum.inl ())):=by
  refine zL6 q.aO.length _ (Sum.inl ()) (fun i hi=>?_) ?_
  ·unfold zS4
   rw [bW (by simpa using hi),zg0 (by omega),zi0 (by omega) (by omega),Int.toNat_natCast]
   unfold cvI covA
   generalize q.aO.getD i aT.zero=w
   rw [zaW8 _ _ (show q.aQ.length < 4611686018427387904 by omega),Option.bind_some,zan8 _ _ (show q.aO.length < 4611686018427387904 by omega)]
   simp only [zaB6,zaB4]
   rcases hb (decide (zR9 q.aO w.aJ=(i:Int))) with c1|c1 <;> rcases hb (zj7 (getH q.aQ w.aJ)) with c2|c2 <;> rcases hb (za4 q.aB w.aN) with c3|c3 <;> rcases hb (zq9 q.aB w.aN (getH q.aQ w.aJ)) with c4|c4 <;>
    rcases hb (decide (w.aN=getH q.aQ w.aJ)) with c5|c5 <;> rcases hb (decide (w.bC=0)) with c6|c6 <;> rcases hb (decide (w.bR=0)) with c7|c7 <;>
    simp only [c1,c2,c3,c4,c5,c6,c7,cU,dF,iQ,gI,jJ,dR,fE,cJ,iD,eP,cB,cA,bU,Option.bind_some,fA,gJ]
  ·unfold zS4
   rw [bT (by simp)]
 rw [key,zU1,← eY]
 cases (List.range q.aO.length).all (cvI q) <;> rfl
theorem zaK3 (q:aA):zD2 q=some (zaP5 q):=by
 unfold zD2 zaP5 cvOk wtOk
 rw [zbs6,Option.bind_some]
 cases resV q.aB
 ·simp
 ·simp only [cB,zaK1,Option.bind_some,cJ]
  cases hv:zF7 q.aB q.aQ
  ·simp
  ·have hl:=zai3 hv
   by_cases hc:8 < q.aO.length
   ·have h1:¬ q.aO.length≤8:=by omega
    have h2:decide (8 < (q.aO.length:Int))=true:=by simp; omega
    simp [h1,h2]
   ·have h1:q.aO.length≤8:=by omega
    have h2:decide (8 < (q.aO.length:Int))=false:=by simp; omega
    simp only [h1,h2,cU,fA,dF,cB,zbe4,Option.bind_some,dR,cC,cJ]
    cases hw:zU2 q.aS
    ·simp
    ·have h8:=zbo6 hw
     simp only [cU,dR,cJ]
     rw [zi0 (by omega) (by omega)]
     by_cases h:q.aQ.length+q.aS.length≤8
     ·by_cases g1:0≤q.gen
      ·by_cases g2:q.gen≤1073741824
       ·rw [bT (by simp; omega),zbs7 q (by omega) h1]
        simp only [h,g1,g2,cC,cJ,fE]
        cases (List.range q.aO.length).all (cvI q)
        ·rfl
        ·simp only [cB,Option.bind_some,cJ]
         unfold zal1
         rw [zbM4 q (by omega) h8]
         cases (List.range q.aS.length).all (wtI q) <;> rfl
       ·rw [bW (by simp; omega)]; simp [g2]
      ·rw [bW (by simp; omega)]; simp [g1]
     ·rw [bW (by simp; omega)]; simp [h]
def zI8 (q:aA):aT×Bool:=match q.aO++q.aS with
 | w :: _=>(w,true)
 | []=>(aT.zero,false)
theorem zbl3 (q:aA):zl8 q=some (zI8 q):=by
 unfold zl8 zI8
 cases q.aO with
 | cons a l=>rw [bW (by simp),zg0 (by simp)]; rfl
 | nil =>
  rw [bT (by simp)]
  cases q.aS with
  | cons a l=>rw [bW (by simp),zg0 (by simp)]; rfl
  | nil=>rw [bT (by simp)]; rfl
theorem zbl4 (q:aA):zm6 q=some (zI8 q):=by
 rw [← zbl3]; rfl
def zg7 (q:aA):Bool:=zaP5 q&&!((zI8 q).2&&zaG2 q.aB q.aQ (zI8 q).1.aJ (zI8 q).1.aN)
theorem zbx4 (q:aA):zP7 q=some (zg7 q):=by
 unfold zP7 zg7
 rw [zbM3,Option.bind_some]
 cases zaP5 q
 ·simp
 ·rw [bT (by simp),zbl3,Option.bind_some]
  cases (zI8 q).2 <;> simp [zdl6]
theorem zaT3 (q:aA):zI6 q=some (zg7 q):=by
 unfold zI6 zg7
 rw [zaK3,Option.bind_some]
 cases zaP5 q
 ·simp
 ·rw [bT (by simp),zbl4,Option.bind_some]
  cases (zI8 q).2 <;> simp [zcn4]
theorem zbM5 (q:aA):zX4 q=some (zg7 q):=by
 unfold zX4
 rw [zbx4]; rfl
theorem zai6 (q:aA):zD3 q=some (zg7 q):=by
 unfold zD3
 rw [zaK3,Option.bind_some]
 cases h:zaP5 q
 ·simp [zg7,h]
 ·simp [zaT3]
instance:DecidableEq aA:=fun a b=>decidable_of_iff (a.aB=b.aB∧a.aQ=b.aQ∧a.aO=b.aO∧a.aS=b.aS∧a.gen=b.gen) (by rw [aA.ext_iff])
theorem zcx2 (a b:List aT) (ha:a.length≤1000000) (hb:b.length≤1000000):zb4 [a,b]=some (a++b):=by
 unfold zb4
 have s0:zn1 [a,b] (0,0)=some (.inl ((a.length:Int),1)):=by
  unfold zn1
  rw [bW (by simp),zg0 (by simp)]
  show (if decide (IntKind.i64.wrap (0+(a.length:Int)) < 0)=true then none else some (Sum.inl (IntKind.i64.wrap (0+(a.length:Int)),_)))=_
  rw [zi0 (by omega) (by omega),bT (by simp),Int.zero_add]
  rfl
 have s1:zn1 [a,b] ((a.length:Int),1)=some (.inl ((a.length:Int)+(b.length:Int),2)):=by
  unfold zn1
  rw [bW (by simp),zg0 (by simp)]
  show (if decide (IntKind.i64.wrap ((a.length:Int)+(b.length:Int)) < 0)=true then none else some (Sum.inl (IntKind.i64.wrap ((a.length:Int)+(b.length:Int)),_)))=_
  rw [zi0 (by omega) (by omega),bT (by simp; omega)]
  rfl
 have s2:zn1 [a,b] ((a.length:Int)+(b.length:Int),2)=some (.inr ((a.length:Int)+(b.length:Int))):=by
  unfold zn1
  rw [bT (by simp)]
 rw [zn4,s0]
 simp only
 rw [zn4,s1]
 simp only
 rw [zn4,s2]
 simp only [Option.bind_some]
 unfold zx0 zb2
 rw [zg0 (by omega),Option.bind_some]
 have t0:zn0 [a,b] (0,[])=some (.inl (1,a)):=by
  unfold zn0
  rw [bW (by simp),zg0 (by simp),zg0 (by simp; omega)]
  rfl
 have t1:zn0 [a,b] (1,a)=some (.inl (2,a++b)):=by
  unfold zn0
  rw [bW (by simp),zg0 (by simp),zg0 (by simp; omega)]
  rfl
 have t2:zn0 [a,b] (2,a++b)=some (.inr (a++b)):=by
  unfold zn0
  rw [bT (by simp)]
 rw [zn4,t0]
 simp only
 rw [zn4,t1]
 simp only
 rw [zn4,t2]
 rfl
theorem zbM6 (q:aA) (h1:q.aO.length≤1000000) (h2:q.aS.length≤1000000):zp3 q=some (q.aO++q.aS):=by
 unfold zp3
 rw [zcx2 _ _ h1 h2]; rfl
def zaw1 (l:List aT) (p:aK):aD×Bool:=match l.find? fun w=>decide (w.aJ=p) with
 | some w=>(w.aN,true)
 | none=>(aD.zero,false)
def zp7 (q:aA) (p:aK):aD×Bool:=zaw1 (q.aO++q.aS) p
def upM (a b g:Int):Bool:=covM g a&&covM g b
def supM (a b:Int):Int:=if upM a b 1=true then 1 else if upM a b 2=true then 2 else if upM a b 3=true then 3 else if upM a b 4=true then 4 else if upM a b 5=true then 5 else 0
theorem zcZ8 {body:Int→Option (Int⊕(Unit⊕Int))} (a b:Int) (hs:∀ g,1≤g→g≤5→body g=some (if upM a b g=true then .inr (.inr g) else .inl (g+1))) (he:body 6=some (.inr (.inl ()))) :
  (zb9 body 1).bind (fun|.inl _=>some 0|.inr z=>some z)=some (supM a b):=by
 unfold supM
 rw [zn4,hs 1 (by decide) (by decide)]
 by_cases c1:upM a b 1=true
 ·simp [c1]
 simp only [c1,bU,cA]
 rw [show (1:Int)+1=2 from rfl,zn4,hs 2 (by decide) (by decide)]
 by_cases c2:upM a b 2=true
 ·simp [c2]
 simp only [c2,bU,cA]
 rw [show (2:Int)+1=3 from rfl,zn4,hs 3 (by decide) (by decide)]
 by_cases c3:upM a b 3=true
 ·simp [c3]
 simp only [c3,bU,cA]
 rw [show (3:Int)+1=4 from rfl,zn4,hs 4 (by decide) (by decide)]
 by_cases c4:upM a b 4=true
 ·simp [c4]
 simp only [c4,bU,cA]
 rw [show (4:Int)+1=5 from rfl,zn4,hs 5 (by decide) (by decide)]
 by_cases c5:upM a b 5=true
 ·simp [c5]
 simp only [c5,bU,cA]
 rw [show (5:Int)+1=6 from rfl,zn4,he]
 rfl
theorem zce2 (a b:Int):zu2 a b=some (supM a b):=by
 refine zcZ8 a b (fun g h1 h2=>?_) ?_
 ·unfold zau9
  rw [bW (by simpa using h2),zi0 (by omega) (by omega)]
  rcases hb (covM g a) with c|c <;> rcases hb (covM g b) with d|d <;> simp [upM,c,d]
 ·unfold zau9
  rw [bT (by decide)]
def zH8 (r:aI) (a b:aD):aD :=
 if (!zc2 r a||!zc2 r b)=true then aD.zero else
 if zj7 a=true then b else if zj7 b=true then a else
 if r.kind=1 then { aD.zero with mode:=supM a.mode b.mode } else { aD.zero with aR:=if a.aR < b.aR then b.aR else a.aR }
theorem zcZ9:∀ a ∈ [(1:Int),2,3,4,5],∀ b ∈ [(1:Int),2,3,4,5],covM a b=true→supM a b=a:=by decide
theorem zcL6:∀ a ∈ [(1:Int),2,3,4,5],∀ b ∈ [(1:Int),2,3,4,5],covM b a=true→supM a b=b:=by decide
theorem zbl5 (r:aI) (a b:aD):zx1 r a b=some (zH8 r a b):=by
 unfold zx1 zH8
 simp only [zbh8,zce2,Option.bind_some]
 cases ha:zc2 r a
 ·simp
 cases hpb:zc2 r b
 ·simp
 simp only [cU,fA,bU,cA]
 unfold zq9
 simp only [zbh8,zaB6,ha,hpb,cU,fA,bU,cA]
 rcases hb (zj7 a) with hza|hza <;> rcases hb (zj7 b) with hzb|hzb
 rotate_left 3
 ·simp only [hza,hzb,bU,cA]
  by_cases hk:r.kind=1
  ·have pa:=zaz3 ha hk
   have pb:=zaz3 hpb hk
   have na:a.mode≠0:=fun h=>by
    have:a=aD.zero:=by cases a; simp only at *; simp [aD.zero]; omega
    rw [this] at hza; exact absurd hza (by decide)
   have nb:b.mode≠0:=fun h=>by
    have:b=aD.zero:=by cases b; simp only at *; simp [aD.zero]; omega
    rw [this] at hzb; exact absurd hzb (by decide)
   have ma:a.mode ∈ [(1:Int),2,3,4,5]:=by simp; omega
   have mb:b.mode ∈ [(1:Int),2,3,4,5]:=by simp; omega
   have ea:a={ aD.zero with mode:=a.mode }:=by cases a; simp only at *; simp [aD.zero]; omega
   have eb:b={ aD.zero with mode:=b.mode }:=by cases b; simp only at *; simp [aD.zero]; omega
   simp only [hk,cC,cB]
   by_cases c1:covM a.mode b.mode=true
   ·rw [bW c1,zcZ9 _ ma _ mb c1]; exact cQ some ea
   ·rw [bT c1]
    by_cases c2:covM b.mode a.mode=true
    ·rw [bW c2,zcL6 _ ma _ mb c2]; exact cQ some eb
    ·rw [bT c2]
  ·have hk2:r.kind=2:=by
    have:=ha
    rw [perm_iff,zE8,zA6] at this
    omega
   have pa:=zbh9 ha hk2
   have pb:=zbh9 hpb hk2
   have ea:a={ aD.zero with aR:=a.aR }:=by cases a; simp only at *; simp [aD.zero]; omega
   have eb:b={ aD.zero with aR:=b.aR }:=by cases b; simp only at *; simp [aD.zero]; omega
   have d:decide (r.kind=1)=false:=by simpa using hk
   simp only [d,hk,bU,cA,bX]
   by_cases c1:b.aR≤a.aR
   ·have:¬ a.aR < b.aR:=by omega
    rw [bW c1,bT this]; exact cQ some ea
   ·have:a.aR < b.aR:=by omega
    have c2:a.aR≤b.aR:=by omega
    rw [bT c1,bW c2,bW this]; exact cQ some eb
 ·have e0:a=aD.zero:=by unfold zj7 at hza; simpa using hza
  have e1:b=aD.zero:=by unfold zj7 at hzb; simpa using hzb
  simp only [hza,hzb,cB]
  rw [e0,e1]
 ·simp only [hza,hzb,cB,bU,cA]
 ·simp only [hza,hzb,cB,bU,cA]
theorem zdl8 (g:Int):zm5 g=zm5 g:=rfl
theorem zaB7 (q:aA) (h1:q.aQ.length≤1000000) (h2:q.aO.length≤1000000) (h3:q.aS.length≤1000000):zk9 q=some q:=by
 unfold zk9
 rw [zg0 (by omega),zg0 (by omega),zg0 (by omega)]
theorem zbD8 (q:aA) (h1:q.aQ.length≤1000000) (h2:q.aO.length≤1000000) (h3:q.aS.length≤1000000):zi7 q=some q:=by
 unfold zi7
 rw [zg0 (by omega),zg0 (by omega),zg0 (by omega)]
def popQ (q:aA):aA :=
 if 0 < q.aO.length then { q with aQ:=setL q.aQ (zI8 q).1.aJ (zI8 q).1.aN,aO:=q.aO.drop 1 }
 else { q with aQ:=setL q.aQ (zI8 q).1.aJ (zI8 q).1.aN,aS:=q.aS.drop 1 }
def canQ (q:aA):Bool:=(zI8 q).2&&zaG2 q.aB q.aQ (zI8 q).1.aJ (zI8 q).1.aN
def zbs8 (s:aA×List aV):aA×List aV:=(popQ s.1,s.2++[⟨(zI8 s.1).1.aJ,(zI8 s.1).1.aN⟩])
def advN:Nat→aA×List aV→aA×List aV
 | 0,s=>s
 | n+1,s=>if canQ s.1=true then advN n (zbs8 s) else s
def zab6 (q:aA):Nat:=q.aO.length+q.aS.length
def advQ (q:aA):aA×List aV:=advN (zab6 q) (q,[])
theorem zaH7 {q:aA} (h:canQ q=true):0 < zab6 q∧zab6 (popQ q)+1=zab6 q∧q.aQ.length≤8:=by
 unfold canQ at h
 simp only [bS] at h
 obtain ⟨h1,h2⟩:=h
 have hv:zF7 q.aB q.aQ=true:=by
  unfold zaG2 zag3 at h2
  simp only [bS] at h2
  exact h2.1.1
 refine ⟨?_,?_,zai3 hv⟩
 ·unfold zI8 at h1
  unfold zab6
  cases hc:q.aO with
  | cons a l=>simp; omega
  | nil =>
   cases hw:q.aS with
   | cons a l=>simp
   | nil=>simp [hc,hw] at h1
 ·unfold zI8 at h1
  unfold zab6 popQ
  cases hc:q.aO with
  | cons a l=>simp; omega
  | nil =>
   cases hw:q.aS with
   | cons a l=>simp
   | nil=>simp [hc,hw] at h1
theorem zbx5 (s:aA×List aV):advN (zab6 s.1) s=if canQ s.1=true then advN (zab6 (zbs8 s).1) (zbs8 s) else s:=by
 cases hc:canQ s.1 with
 | false =>
  cases hn:zab6 s.1 with
  | zero=>rfl
  | succ n=>simp [advN,hc]
 | true =>
  obtain ⟨h1,h2,_⟩:=zaH7 hc
  have:zab6 s.1=zab6 (popQ s.1)+1:=h2.symm
  rw [this]
  simp [advN,hc,zbs8]
theorem zbo7 (p:aK):∀ (l:List aT) (i:Nat),match zai4 p l i with
  | some j=>i≤j∧(l.find? fun w=>decide (w.aJ=p))=some (l.getD (j - i) aT.zero)
  | none=>(l.find? fun w=>decide (w.aJ=p))=none
 | [],i=>rfl
 | w :: l,i=>by
  simp only [zai4,List.find?_cons]
  by_cases hp:w.aJ=p
  ·simp [hp]
  ·have ih:=zbo7 p l (i+1)
   simp only [hp,cA,cK]
   cases hf:zai4 p l (i+1) with
   | none=>rw [hf] at ih; exact ih
   | some j =>
    rw [hf] at ih
    obtain ⟨h1,h2⟩:=ih
    refine ⟨by omega,?_⟩
    rw [h2,show j - i=(j - (i+1))+1 by omega,gP]
theorem zbM7 (l:List aT) (p:aK):zaw1 l p=if 0≤zR9 l p then ((l.getD (zR9 l p).toNat aT.zero).aN,true) else (aD.zero,false):=by
 have h:=zbo7 p l 0
 unfold zaw1 zR9
 cases hf:zai4 p l 0 with
 | none=>rw [hf] at h; simp only at h; rw [h]; rfl
 | some j =>
  rw [hf] at h
  obtain ⟨_,h2⟩:=h
  rw [h2,bW (by simp only; omega)]
  simp
theorem zce3 (l m:List aT) (p:aK):zaw1 (l++m) p=if 0≤zR9 l p then zaw1 l p else zaw1 m p:=by
 have h:=zbo7 p l 0
 unfold zaw1 zR9
 rw [List.find?_append]
 cases hf:zai4 p l 0 with
 | none=>rw [hf] at h; simp only at h; rw [h,bT (by decide)]; rfl
 | some j =>
  rw [hf] at h
  obtain ⟨_,h2⟩:=h
  rw [h2,bW (by simp only; omega)]
  rfl
theorem zP9 (q:aA) (p:aK) (h1:q.aO.length≤1000000) (h2:q.aS.length≤1000000):zh7 q p=some (zp7 q p):=by
 unfold zh7 zp7
 rw [zan8 _ _ (by omega),Option.bind_some,zce3,zbM7 q.aO,zbM7 q.aS]
 have b1:=zcn6 q.aO p
 have b2:=zcn6 q.aS p
 by_cases c1:0≤zR9 q.aO p
 ·rw [bW (cF c1),zg0 (by omega),bW c1,bW c1]
 ·rw [bT (by simpa using c1),bT c1,zan8 _ _ (by omega),Option.bind_some]
  by_cases c2:0≤zR9 q.aS p
  ·rw [bW (cF c2),zg0 (by omega),bW c2]
  ·rw [bT (by simpa using c2),bT c2]
def optI (o:Option Nat):Int:=match o with
 | some i=>(i:Int)
 | none=>-1
theorem zcL7 (l:List aT) (p:aK):zR9 l p=optI (zai4 p l 0):=rfl
theorem zda0 (o:Option Nat):optI (o.map (·+1))=if 0≤optI o then optI o+1 else -1:=by
 cases o with
 | none=>rfl
 | some n =>
  have h:(0:Int)≤optI (some n):=Int.natCast_nonneg n
  rw [bW h]; exact Int.natCast_succ n
theorem zbo8 {l:List aT}:(∀ i,i < l.length→zR9 l (l.getD i aT.zero).aJ=i) ↔ (l.map (·.aJ)).Nodup:=by
 induction l with
 | nil=>simp
 | cons w l ih =>
  rw [eD,fZ]
  have shift:∀ p i,zai4 p l (i+1)=(zai4 p l i).map (·+1):=by
   intro p
   clear ih
   induction l with
   | nil=>intro i; rfl
   | cons x l ih=>intro i; simp only [zai4]; split <;> simp [ih]
  have hcons:∀ i,zR9 (w :: l) (l.getD i aT.zero).aJ=if w.aJ=(l.getD i aT.zero).aJ then 0 else if 0≤zR9 l (l.getD i aT.zero).aJ then zR9 l (l.getD i aT.zero).aJ+1 else -1:=fun i=>by
   simp only [zcL7,zai4,shift]
   by_cases h:w.aJ=(l.getD i aT.zero).aJ
   ·simp [h,optI]
   ·simp only [h,cA]
    exact zda0 _
  constructor
  ·intro h
   have h1:∀ i,i < l.length→w.aJ≠(l.getD i aT.zero).aJ∧zR9 l (l.getD i aT.zero).aJ=i:=fun i hi=>by
    have:=h (i+1) (by simpa using hi)
    rw [gP,hcons] at this
    split at this
    ·omega
    ·rename_i hne
     split at this
     ·exact ⟨hne,by omega⟩
     ·omega
   refine ⟨fun hm=>?_,ih.1 fun i hi=>(h1 i hi).2⟩
   obtain ⟨x,hx,he⟩:=cH.1 hm
   obtain ⟨i,hi,rfl⟩:=eR.1 hx
   have:=(h1 i hi).1
   rw [bV,bY hi] at this
   exact this he.symm
  ·rintro ⟨h1,h2⟩ i hi
   have h3:=ih.2 h2
   cases i with
   | zero=>simp [zR9,zai4]
   | succ i =>
    have hi':i < l.length:=by simpa using hi
    have hne:w.aJ≠(l.getD i aT.zero).aJ:=fun e=>h1 (cH.2 ⟨l.getD i aT.zero,by
     rw [bV,bY hi']; exact iP hi',e.symm⟩)
    rw [gP,hcons,bT hne,h3 i hi',bW (by omega)]
    omega
theorem zaq5 (l:List aT):zU2 l=true ↔ l.length≤8∧(∀ w ∈ l,zk5 w=true)∧(l.map (·.aJ)).Nodup:=by
 unfold zU2
 simp only [bS,bX,eT,eO]
 constructor
 ·rintro ⟨h1,h2⟩
  refine ⟨h1,fun w hw=>?_,zbo8.1 fun i hi=>(h2 i hi).2⟩
  obtain ⟨i,hi,rfl⟩:=eR.1 hw
  have:=(h2 i hi).1
  rwa [bV,bY hi] at this
 ·rintro ⟨h1,h2,h3⟩
  refine ⟨h1,fun i hi=>⟨h2 _ ?_,zbo8.2 h3 i hi⟩⟩
  rw [bV,bY hi]
  exact iP hi
theorem zbX3 {l:List aT} (p:aK) (h:zU2 l=true):zU2 (rmL l p)=true:=by
 rw [zaq5] at h ⊢
 refine ⟨dX (zdl7 l p) h.1,fun w hw=>h.2.1 w ((fL.1 hw).1),?_⟩
 exact (h.2.2).sublist ((gQ).map _)
theorem zbB8 (l:List aT) (w:aT):∀ k i,zai5 l w k≤i→i < k→over w (l.getD i aT.zero)=true
 | k+1,i,h1,h2=>by
  unfold zai5 at h1
  split at h1
  ·rename_i ho
   by_cases hi:i=k
   ·subst hi; exact ho
   ·exact zbB8 l w k i h1 (by omega)
  ·omega
theorem zcL8 {l:List aT} {w e:aT} (h:e ∈ l.drop (zai5 l w l.length)):over w e=true:=by
 obtain ⟨i,hi,rfl⟩:=eR.1 h
 have:=zbB8 l w l.length (zai5 l w l.length+i) (by omega) (by simp at hi; omega)
 rw [List.getElem_drop]
 rwa [bV,bY (by simp at hi; omega)] at this
theorem zbM8 {w e:aT} (h:zk5 e=true) (ho:over w e=true):zk5 (bump e)=true∧(bump e).bR=e.bR+1:=by
 have h1:=zbx2 h
 have h2:e.bR < 3:=by unfold over at ho; simp at ho; exact ho.2
 have h3:(bump e).bR=e.bR+1:=by unfold bump; simp only; rw [zi0 (by omega) (by omega)]
 refine ⟨?_,h3⟩
 unfold zk5 at h ⊢
 simp only [bS,bX] at h ⊢
 rw [h3]
 exact ⟨⟨h.1.1,by omega⟩,by omega⟩
theorem zce4 (l:List aT) (w:aT) (n:Nat):(zaT2 l w n).map (·.aJ)=(l.take n).map (·.aJ)++w.aJ :: (l.drop n).map (·.aJ):=by
 unfold zaT2
 rw [eU,eD,kJ]
 rfl
theorem zcx3 {l:List aT} {w:aT} (h:zU2 l=true) (hw:zk5 w=true) (hne:∀ e ∈ l,e.aJ≠w.aJ) (hl:l.length < 8):zU2 (zaT2 l w (zai5 l w l.length))=true:=by
 rw [zaq5] at h ⊢
 have hn:=zbi0 l w l.length
 have ho:=fun e=>zcL8 (l:=l) (w:=w) (e:=e)
 generalize zai5 l w l.length=n at hn ho
 refine ⟨by simp [zaT2]; omega,fun e he=>?_,?_⟩
 ·simp only [zaT2,cI,cE,cH] at he
  rcases he with he|rfl|⟨x,hx,rfl⟩
  ·exact h.2.1 e (fJ he)
  ·exact hw
  ·exact (zbM8 (h.2.1 x (gM hx)) (ho x hx)).1
 ·rw [zce4]
  have h3:=h.2.2
  rw [← eC n l,eU] at h3
  have hin:w.aJ ∉ (l.take n).map (·.aJ)++(l.drop n).map (·.aJ):=by
   rw [← eU,eC]
   intro hm
   obtain ⟨x,hx,he⟩:=cH.1 hm
   exact hne x hx he
  exact (kD.nodup_iff).2 (fZ.2 ⟨hin,h3⟩)
end Ab
end Go.Proofs.YtfkjffmjkbkmhaaGreatDoor
