import Derived.Test.YtcggeefhhegeoaaGreatDoorAuto
import Derived.Test.YtcggeefhhegeoaaGreatDoorHm28
namespace Go.Proofs.YtcggeefhhegeoaaGreatDoor
namespace Ab
set_option linter.unusedSimpArgs false
set_option linter.unusedVariables false
theorem zf6 {x:Int} (h1:-9223372036854775808≤x) (h2:x < 9223372036854775808):IntKind.i64.wrap x=x:=by
 rw [IntKind.wrap_i64]; omega
theorem zco0 {G X:Type} {body:G→Option (G⊕X)} (I:G→Prop) (μ:G→Nat) (spec:G→X)
  (h:∀ g,I g→(∃ g',body g=some (.inl g')∧I g'∧μ g' < μ g∧spec g'=spec g)∨body g=some (.inr (spec g))):∀ g,I g→zc0 body g=some (spec g):=by
 have key:∀ n g,μ g=n→I g→zc0 body g=some (spec g):=by
  intro n
  induction n using Nat.strongRecOn with
  | _ n ih =>
   intro g hn hg
   rw [zg1]
   rcases h g hg with ⟨g',h1,h2,h3,h4⟩|h1
   ·rw [h1]; simp only; rw [ih (μ g') (hn ▸ h3) g' rfl h2,h4]
   ·rw [h1]
 exact fun g hg=>key _ g rfl hg
def zL6 {X:Type} (out:Nat→Option X):Nat→Nat→Option X
 | 0,_=>none
 | n+1,i=>match out i with
  | some x=>some x
  | none=>zL6 out n (i+1)
theorem zG6 {X:Type} {body:Int→Option (Int⊕X)} (n:Nat) (out:Nat→Option X) (fin:X)
  (h:∀ i:Nat,i < n→body i=some (match out i with|some x=>.inr x|none=>.inl ((i:Int)+1))) (hend:body n=some (.inr fin)):zc0 body 0=some ((zL6 out n 0).getD fin):=by
 have key:∀ k i,i+k=n→zc0 body (i:Int)=some ((zL6 out k i).getD fin):=by
  intro k
  induction k with
  | zero =>
   intro i hi
   rw [zg1,show i=n by omega,hend]
   rfl
  | succ k ih =>
   intro i hi
   rw [zg1,h i (by omega)]
   simp only [zL6]
   cases ho:out i with
   | some x=>rfl
   | none =>
    simp only
    have:=ih (i+1) (by omega)
    rw [show ((i+1:Nat):Int)=(i:Int)+1 by omega] at this
    exact this
 exact key n 0 (by omega)
def zba0 {S X:Type} (step:Nat→S→S⊕X) (fin:S→X):Nat→Nat→S→X
 | 0,_,s=>fin s
 | n+1,i,s=>match step i s with
  | .inl s'=>zba0 step fin n (i+1) s'
  | .inr x=>x
theorem zcM5 {S X:Type} {body:Int×S→Option ((Int×S)⊕X)} (n:Nat) (step:Nat→S→S⊕X) (fin:S→X) (inv:Nat→S→Prop)
  (h:∀ i s,i < n→inv i s→body ((i:Int),s)=some (match step i s with|.inl s'=>.inl ((i:Int)+1,s')|.inr x=>.inr x)∧∀ s',step i s=.inl s'→inv (i+1) s')
  (hend:∀ s,inv n s→body ((n:Int),s)=some (.inr (fin s))) (s0:S) (h0:inv 0 s0):zc0 body (0,s0)=some (zba0 step fin n 0 s0):=by
 have key:∀ k i s,i+k=n→inv i s→zc0 body ((i:Int),s)=some (zba0 step fin k i s):=by
  intro k
  induction k with
  | zero =>
   intro i s hi hs
   rw [zg1,show i=n by omega,hend s (by rw [← show i=n by omega]; exact hs)]
   rfl
  | succ k ih =>
   intro i s hi hs
   obtain ⟨h1,h2⟩:=h i s (by omega) hs
   rw [zg1,h1]
   simp only [zba0]
   cases ho:step i s with
   | inr x=>rfl
   | inl s' =>
    simp only
    have:=ih (i+1) s' (by omega) (h2 s' ho)
    rw [show ((i+1:Nat):Int)=(i:Int)+1 by omega] at this
    exact this
 exact key n 0 s0 (by omega) h0
theorem zr8 {G X:Type} {body:G→Option (G⊕X)} (I:G→Prop) (μ:G→Nat) (Post:X→Prop)
  (h:∀ g,I g→(∃ g',body g=some (.inl g')∧I g'∧μ g' < μ g)∨∃ x,body g=some (.inr x)∧Post x):∀ g,I g→∃ x,zc0 body g=some x∧Post x:=by
 have key:∀ n g,μ g=n→I g→∃ x,zc0 body g=some x∧Post x:=by
  intro n
  induction n using Nat.strongRecOn with
  | _ n ih =>
   intro g hn hg
   rw [zg1]
   rcases h g hg with ⟨g',h1,h2,h3⟩|⟨x,h1,h2⟩
   ·rw [h1]; exact ih (μ g') (hn ▸ h3) g' rfl h2
   ·rw [h1]; exact ⟨x,rfl,h2⟩
 exact fun g hg=>key _ g rfl hg
theorem zco1 {S X:Type} {body:Int×S→Option ((Int×S)⊕X)} (n:Nat) (step:Nat→S→S⊕X) (fin:S→X) (inv:Nat→S→Prop)
  (h:∀ i s,i < n→inv i s→body ((i:Int),s)=some (match step i s with|.inl s'=>.inl ((i:Int)+1,s')|.inr x=>.inr x)∧∀ s',step i s=.inl s'→inv (i+1) s')
  (hend:∀ s,inv n s→body ((n:Int),s)=some (.inr (fin s))):∀ k i s,i+k=n→inv i s→zc0 body ((i:Int),s)=some (zba0 step fin k i s):=by
 intro k
 induction k with
 | zero =>
  intro i s hi hs
  rw [zg1,show i=n by omega,hend s (by rw [← show i=n by omega]; exact hs)]
  rfl
 | succ k ih =>
  intro i s hi hs
  obtain ⟨h1,h2⟩:=h i s (by omega) hs
  rw [zg1,h1]
  simp only [zba0]
  cases ho:step i s with
  | inr x=>rfl
  | inl s' =>
   simp only
   have:=ih (i+1) s' (by omega) (h2 s' ho)
   rw [show ((i+1:Nat):Int)=(i:Int)+1 by omega] at this
   exact this
theorem zS1 (p:Nat→Bool) {U:Type}:∀ k i,zL6 (fun i=>if p i=true then none else some (Sum.inr (α:=U) false)) k i=if (List.range' i k).all p=true then none else some (.inr false)
 | 0,i=>rfl
 | k+1,i=>by
  simp only [zL6,List.range'_succ,List.all_cons]
  cases hp:p i with
  | true =>
   simp only [if_true,Bool.true_and]
   exact zS1 p k (i+1)
  | false=>simp
theorem zda4 {α:Type} [DecidableEq α] (a b:List α) (z:α) (h:a.length=b.length):((List.range a.length).all fun i=>decide (a.getD i z=b.getD i z))=decide (a=b):=by
 rw [Bool.eq_iff_iff]
 simp only [List.all_eq_true,List.mem_range,decide_eq_true_eq]
 constructor
 ·intro hh
  refine List.ext_getElem h fun i h1 h2=>?_
  have:=hh i h1
  rwa [List.getD_eq_getElem?_getD,List.getD_eq_getElem?_getD,List.getElem?_eq_getElem h1,List.getElem?_eq_getElem h2] at this
 ·rintro rfl i _; rfl
theorem zbx2 {α:Type} [DecidableEq α] (a b:List α) (z:α) {body:Int→Option (Int⊕(Unit⊕Bool))} (hl:a.length < 4611686018427387904) (h:a.length=b.length)
  (hb:∀ i:Int,body i=if (decide (i < (a.length:Int)))=true then gd (0≤i∧i < (a.length:Int)) <| gd (0≤i∧i < (b.length:Int)) <|
   (if (!decide (a.getD i.toNat z=b.getD i.toNat z))=true then some (.inr (.inr false)) else some (.inl (IntKind.i64.wrap (i+1)))) else some (.inr (.inl ()))) :
  (zc0 body 0).bind (fun|.inl _=>some true|.inr z=>some z)=some (decide (a=b)):=by
 have key:zc0 body 0=some ((zL6 (fun i=>if decide (a.getD i z=b.getD i z)=true then none else some (Sum.inr false)) a.length 0).getD (Sum.inl ())):=by
  refine zG6 a.length _ (Sum.inl ()) (fun i hi=>?_) ?_
  ·rw [hb,if_pos (decide_eq_true (by omega)),zg7 (by omega),zg7 (by omega)]
   simp only [Int.toNat_natCast]
   by_cases hx:a.getD i z=b.getD i z
   ·simp only [hx,decide_true,Bool.not_true,Bool.false_eq_true,if_false,if_true]
    rw [zf6 (by omega) (by omega)]
   ·simp only [hx,decide_false,Bool.not_false,if_true,Bool.false_eq_true,if_false]
  ·rw [hb,if_neg (by simp)]
 rw [key,zS1,← List.range_eq_range',zda4 a b z h]
 cases decide (a=b) <;> rfl
theorem zbN0 {α:Type} (f:Nat→α):∀ n i (s:List α),zba0 (X:=List α) (fun i s=>.inl (s++[f i])) (fun s=>s) n i s=s++(List.range' i n).map f
 | 0,i,s=>by simp [zba0]
 | n+1,i,s=>by simp [zba0,zbN0 f n (i+1),List.range'_succ]
theorem zbN1 {α:Type} (l:List α) (z:α) (p:α→Bool):∀ n i (s:List α),i+n=l.length→zba0 (X:=List α) (fun i s=>.inl (if p (l.getD i z)=true then s++[l.getD i z] else s)) (fun s=>s) n i s=s++(l.drop i).filter p
 | 0,i,s,h=>by simp [zba0,List.drop_eq_nil_of_le (show l.length≤i by omega)]
 | n+1,i,s,h=>by
  have hd:l.drop i=l.getD i z :: l.drop (i+1):=by
   rw [List.drop_eq_getElem_cons (show i < l.length by omega),List.getD_eq_getElem?_getD,List.getElem?_eq_getElem (show i < l.length by omega)]; rfl
  rw [hd]
  simp only [zba0,zbN1 l z p n (i+1) _ (by omega),List.filter_cons]
  split <;> simp
theorem zat2 {α:Type} (l:List α) (i:Nat) (z:α) (h:i < l.length):l.drop i=l.getD i z :: l.drop (i+1):=by
 rw [List.drop_eq_getElem_cons h,List.getD_eq_getElem?_getD,List.getElem?_eq_getElem h]; rfl
theorem zbN2 {α β:Type} (l:List α) (z:α) (f:α→β):∀ n i,i+n≤l.length→(List.range' i n).map (fun i=>f (l.getD i z))=((l.drop i).take n).map f
 | 0,i,h=>by simp
 | n+1,i,h=>by
  rw [zat2 l i z (by omega),List.take_succ_cons,List.range'_succ,List.map_cons,List.map_cons,zbN2 l z f n (i+1) (by omega)]
theorem zca0 {α:Type} (l:List α) (i n:Nat) (z:α) (h:i < n):(l.take n).getD i z=l.getD i z:=by
 rw [List.getD_eq_getElem?_getD,List.getD_eq_getElem?_getD,List.getElem?_take,if_pos h]
theorem zu5 {α:Type} (l:List α) (i:Nat) (x z:α) (h:i < l.length):(l.set i x).getD i z=x:=by
 rw [List.getD_eq_getElem?_getD,List.getElem?_set_self h]; rfl
theorem zcM6 {α:Type} (l m:List α) (i:Nat) (z:α) (h:i < l.length):(l++m).getD i z=l.getD i z:=by
 rw [List.getD_eq_getElem?_getD,List.getD_eq_getElem?_getD,List.getElem?_append_left h]
def walk {α S X:Type} (step:Nat→α→S→Option (S⊕X)) (fin:S→X):List α→Nat→S→Option X
 | [],_,s=>some (fin s)
 | a :: l,i,s=>match step i a s with
  | none=>none
  | some (.inl s')=>walk step fin l (i+1) s'
  | some (.inr x)=>some x
def wmap {G S X:Type} (mk:S→G):S⊕X→G⊕X
 | .inl s=>.inl (mk s)
 | .inr x=>.inr x
theorem zC3 {α S X G:Type} {body:G→Option (G⊕X)} (l:List α) (z:α) (mk:Nat→S→G) (step:Nat→α→S→Option (S⊕X)) (fin:S→X) (inv:Nat→S→Prop)
  (hb:∀ i s,i < l.length→inv i s→body (mk i s)=(step i (l.getD i z) s).map (wmap (mk (i+1)))∧∀ s',step i (l.getD i z) s=some (.inl s')→inv (i+1) s')
  (he:∀ s,inv l.length s→body (mk l.length s)=some (.inr (fin s))) (s0:S) (h0:inv 0 s0):zc0 body (mk 0 s0)=walk step fin l 0 s0:=by
 have key:∀ k i s,i+k=l.length→inv i s→zc0 body (mk i s)=walk step fin (l.drop i) i s:=by
  intro k
  induction k with
  | zero =>
   intro i s hi hs
   have:i=l.length:=by omega
   subst this
   rw [zg1,he s hs,List.drop_length]
   rfl
  | succ k ih =>
   intro i s hi hs
   obtain ⟨h1,h2⟩:=hb i s (by omega) hs
   rw [zg1,h1,zat2 l i z (by omega)]
   simp only [walk]
   cases ho:step i (l.getD i z) s with
   | none=>rfl
   | some y =>
    cases y with
    | inl s'=>exact ih (i+1) s' (by omega) (h2 s' ho)
    | inr x=>rfl
 have:=key l.length 0 s0 (by omega) h0
 rwa [List.drop_zero] at this
theorem zak3 {α S X G:Type} {body:G→Option (G⊕X)} (l:List α) (z:α) (mk:Nat→S→G) (step:Nat→α→S→Option (S⊕X)) (fin:S→X)
  (hb:∀ i s,i < l.length→body (mk i s)=(step i (l.getD i z) s).map (wmap (mk (i+1))))
  (he:∀ s,body (mk l.length s)=some (.inr (fin s))) (s0:S):zc0 body (mk 0 s0)=walk step fin l 0 s0 :=
 zC3 l z mk step fin (fun _ _=>True) (fun i s h _=>⟨hb i s h,fun _ _=>trivial⟩) (fun s _=>he s) s0 trivial
theorem zc4 (i:Nat) (h:i < 4611686018427387904):IntKind.i64.wrap ((i:Int)+1)=((i+1:Nat):Int):=by rw [zf6 (by omega) (by omega)]; omega
theorem zaz5 (i:Nat) (h:i < 4611686018427387904) (h0:0 < i):IntKind.i64.wrap ((i:Int) - 1)=((i - 1:Nat):Int):=by rw [zf6 (by omega) (by omega)]; omega
theorem gdp {α:Type} {p:Prop} [Decidable p] {k:Option α} (h:p):gd p k=k:=if_pos h
@[simp] theorem zm3 {α:Type} [Decidable True] (k:Option α):gd True k=k:=if_pos trivial
@[simp] theorem zda5 {α:Type} [Decidable False] (k:Option α):gd False k=none:=if_neg (fun h=>h)
theorem gdn {α:Type} {p:Prop} [Decidable p] {k:Option α} (h:¬ p):gd p k=none:=if_neg h
def zaE1 {β:Type} (s:List β):Option β→List β
 | some b=>s++[b]
 | none=>s
theorem zcM7 {β:Type} (s:List β) (o:Option β):(zaE1 s o).length≤s.length+1:=by cases o <;> simp [zaE1]
theorem zaH6 {α β X:Type} (f:α→Option β) (fin:List β→X):∀ (l:List α) (i:Nat) (s:List β),
  walk (fun _ a s=>some (.inl (zaE1 s (f a)))) fin l i s=some (fin (s++l.filterMap f))
 | [],i,s=>by simp [walk]
 | a :: l,i,s=>by
  simp only [walk,List.filterMap_cons]
  rw [zaH6 f fin l (i+1)]
  cases f a <;> simp [zaE1]
abbrev cmpP (p q:Proc):Int:=zt4 p q
def ltP (p q:Proc):Prop:=p.site < q.site∨p.site=q.site∧(p.inc < q.inc∨p.inc=q.inc∧p.num < q.num)
instance (p q:Proc):Decidable (ltP p q):=by unfold ltP; infer_instance
theorem zco2 (a b:Int):zO2 a b=if a < b then -1 else if b < a then 1 else 0:=by
 unfold zO2; simp only [decide_eq_true_eq]
theorem zbr9 (p q:Proc):cmpP p q=if ltP p q then -1 else if ltP q p then 1 else 0:=by
 obtain ⟨a,b,c⟩:=p
 obtain ⟨d,e,f⟩:=q
 unfold cmpP zt4 ltP
 simp only [zco2,Bool.not_eq_true',decide_eq_false_iff_not]
 grind
theorem zar7 (p:Proc):¬ ltP p p:=by unfold ltP; omega
theorem zat3 {p q r:Proc} (h:ltP p q) (k:ltP q r):ltP p r:=by unfold ltP at *; omega
theorem zbh5 {p q:Proc} (h:ltP p q):¬ ltP q p:=by unfold ltP at *; omega
theorem zat4 {p q:Proc} (h:p≠q):ltP p q∨ltP q p:=by
 obtain ⟨a,b,c⟩:=p
 obtain ⟨d,e,f⟩:=q
 simp only [ne_eq,Proc.mk.injEq] at h
 unfold ltP
 simp only
 omega
theorem zbN3 (p q:Proc):0 < cmpP p q ↔ ltP q p:=by
 rw [zbr9]
 by_cases h:ltP p q
 ·simp [h,zbh5 h]
 ·by_cases h2:ltP q p <;> simp [h,h2]
theorem zaE2 (p q:Proc):0≤cmpP p q ↔ ¬ ltP p q:=by
 rw [zbr9]
 by_cases h:ltP p q
 ·simp [h]
 ·by_cases h2:ltP q p <;> simp [h,h2]
theorem zae3 (p q:Proc):zd3 p q=some (cmpP p q):=by
 unfold zd3 zg9
 have e:∀ (x y z:Int) (i:Nat) (h:[x,y,z].length=3),Arr.get (⟨[x,y,z],h⟩:Arr Int 3) i 0=match i with|0=>x|1=>y|_=>z:=by
  intro x y z i h
  match i with
  | 0=>rfl
  | 1=>rfl
  | 2=>rfl
  | n+3 =>
   have:¬ (n+3 < 3):=by omega
   simp [Arr.get,zL5,this]
 have w1:IntKind.i64.wrap (0+1)=1:=by decide
 have w2:IntKind.i64.wrap (1+1)=2:=by decide
 have w3:IntKind.i64.wrap (2+1)=3:=by decide
 have s3:zo3 ⟨[p.site,p.inc,p.num],rfl⟩ ⟨[q.site,q.inc,q.num],rfl⟩ 3=some (.inr (.inl ())):=by unfold zo3; simp
 have s2:zo3 ⟨[p.site,p.inc,p.num],rfl⟩ ⟨[q.site,q.inc,q.num],rfl⟩ 2=some (if p.num < q.num then .inr (.inr (-1)) else if q.num < p.num then .inr (.inr 1) else .inl 3):=by
  unfold zo3
  rw [if_pos (by decide),gdp (by decide),gdp (by decide),gdp (by decide)]
  simp only [e,show (2:Int).toNat=2 from rfl,decide_eq_true_eq,w3]
  by_cases h:p.num < q.num
  ·simp [h]
  ·by_cases h2:q.num < p.num <;> simp [h,h2]
 have s1:zo3 ⟨[p.site,p.inc,p.num],rfl⟩ ⟨[q.site,q.inc,q.num],rfl⟩ 1=some (if p.inc < q.inc then .inr (.inr (-1)) else if q.inc < p.inc then .inr (.inr 1) else .inl 2):=by
  unfold zo3
  rw [if_pos (by decide),gdp (by decide),gdp (by decide),gdp (by decide)]
  simp only [e,Int.toNat_one,decide_eq_true_eq,w2]
  by_cases h:p.inc < q.inc
  ·simp [h]
  ·by_cases h2:q.inc < p.inc <;> simp [h,h2]
 have s0:zo3 ⟨[p.site,p.inc,p.num],rfl⟩ ⟨[q.site,q.inc,q.num],rfl⟩ 0=some (if p.site < q.site then .inr (.inr (-1)) else if q.site < p.site then .inr (.inr 1) else .inl 1):=by
  unfold zo3
  rw [if_pos (by decide),gdp (by decide),gdp (by decide),gdp (by decide)]
  simp only [e,Int.toNat_zero,decide_eq_true_eq,w1]
  by_cases h:p.site < q.site
  ·simp [h]
  ·by_cases h2:q.site < p.site <;> simp [h,h2]
 rw [zbr9]
 unfold ltP
 by_cases a1:p.site < q.site
 ·rw [zg1,s0]; simp [a1]
 ·by_cases a2:q.site < p.site
  ·rw [zg1,s0]
   have:¬ p.site=q.site:=by omega
   simp [a1,a2,this]
  ·have h1:p.site=q.site:=by omega
   by_cases b1:p.inc < q.inc
   ·rw [zg1,s0]; simp only [a1,a2,if_false]; rw [zg1,s1]; simp [b1,h1]
   ·by_cases b2:q.inc < p.inc
    ·have:¬ p.inc=q.inc:=by omega
     rw [zg1,s0]; simp only [a1,a2,if_false]; rw [zg1,s1]; simp [b1,b2,h1,this]
    ·have h2:p.inc=q.inc:=by omega
     rw [zg1,s0]; simp only [a1,a2,if_false]; rw [zg1,s1]; simp only [b1,b2,if_false]; rw [zg1,s2]
     by_cases c1:p.num < q.num
     ·simp [c1,h1,h2]
     ·by_cases c2:q.num < p.num
      ·simp [c1,c2,h1,h2]
      ·simp only [c1,c2,if_false]; rw [zg1,s3]; simp [h1,h2,zaf4]
def insP (p:Proc) (a:Amount):List Hold→List Hold
 | []=>[⟨p,a⟩]
 | h :: t=>if ltP p h.proc then ⟨p,a⟩ :: h :: t else h :: insP p a t
def zv7 (p:Proc) (l:List Hold):List Hold:=l.filter fun h=>!decide (h.proc=p)
def setL (l:List Hold) (p:Proc) (a:Amount):List Hold:=if a=Amount.zero then zv7 p l else insP p a (zv7 p l)
theorem zdt8 (p:Proc):zv7 p []=[]:=rfl
theorem zaE3 (p:Proc) (h:Hold) (t:List Hold):zv7 p (h :: t)=if h.proc=p then zv7 p t else h :: zv7 p t:=by
 unfold zv7; rw [List.filter_cons]; by_cases e:h.proc=p <;> simp [e]
theorem zaK0 (p:Proc) (l:List Hold):(zv7 p l).length≤l.length:=List.length_filter_le _ _
theorem zax1 (l:List Hold) (p:Proc) (a:Amount) (hl:l.length≤1000000):zr5 l p a=some (setL l p a):=by
 unfold zr5
 have key:=zC3 (body:=zaj8 l p a) l Hold.zero (fun i (s:Bool×List Hold)=>(s.1,(i:Int),s.2))
  (fun i h s=>some (.inl (if h.proc=p then s else if s.1=false∧ltP p h.proc then (true,s.2++[⟨p,a⟩]++[h]) else (s.1,s.2++[h])))) (fun s=>s) (fun i s=>s.2.length≤2 * i)
  (fun i s hi hs=>by
   refine ⟨?_,fun s' h=>?_⟩
   ·unfold zaj8
    have h1:s.2.length+1≤4294967296:=by omega
    have h2:s.2.length+1+1≤4294967296:=by omega
    have h3:0≤(i:Int)∧(i:Int) < (l.length:Int):=by omega
    simp only [h1,h2,h3.1,h3.2,and_self,implies_true,zm3,decide_true,if_true,Int.toNat_natCast,decide_eq_true_eq,Bool.and_eq_true,Bool.not_eq_true',zbN3,zc4 i (by omega),Option.map_some,wmap]
    by_cases e:(l.getD i Hold.zero).proc=p
    ·simp only [e,if_true]
    ·simp only [e,if_false]
     split <;> rfl
   ·simp only [Option.some.injEq,Sum.inl.injEq] at h
    subst h
    split
    ·omega
    ·split <;> simp <;> omega)
  (fun s hs=>by unfold zaj8; simp) (zm0 a,[]) (by simp)
 have hz:zm0 a=decide (a=Amount.zero):=rfl
 have fold:∀ (l:List Hold) (i:Nat) (d:Bool) (o:List Hold),walk (fun i h (s:Bool×List Hold)=>some (.inl (if h.proc=p then s else if s.1=false∧ltP p h.proc then (true,s.2++[⟨p,a⟩]++[h]) else (s.1,s.2++[h])))) (fun s=>s) l i (d,o) =
   some (if d=true then (true,o++zv7 p l) else if (zv7 p l).any (fun h=>decide (ltP p h.proc))=true then (true,o++insP p a (zv7 p l)) else (false,o++zv7 p l)):=by
  intro l
  induction l with
  | nil=>intro i d o; cases d <;> simp [walk,zv7]
  | cons h t ih =>
   intro i d o
   simp only [walk,zaE3]
   by_cases e:h.proc=p
   ·simp only [e,if_true]; exact ih (i+1) d o
   ·simp only [e,if_false]
    by_cases e2:d=false∧ltP p h.proc
    ·obtain ⟨rfl,e3⟩:=e2
     simp only [e3,and_self,if_true]
     rw [ih]
     simp [insP,e3]
    ·rw [if_neg e2,ih]
     cases d with
     | true=>simp
     | false =>
      have e3:¬ ltP p h.proc:=fun hh=>e2 ⟨rfl,hh⟩
      simp only [Bool.false_eq_true,if_false,insP,e3,List.any_cons,decide_false,Bool.false_or]
      split <;> simp
 have noins:∀ l:List Hold,l.any (fun h=>decide (ltP p h.proc))=false→insP p a l=l++[⟨p,a⟩]:=by
  intro l
  induction l with
  | nil=>intro _; rfl
  | cons h t ih =>
   intro hh
   simp only [List.any_cons,Bool.or_eq_false_iff,decide_eq_false_iff_not] at hh
   simp only [insP,hh.1,if_false,ih hh.2,List.cons_append]
 rw [show ((zm0 a,(0:Int),([]:List Hold)):Bool×Int×List Hold)=(fun (i:Nat) (s:Bool×List Hold)=>(s.1,(i:Int),s.2)) 0 (zm0 a,[]) from rfl,key,fold,hz]
 unfold setL zaJ2
 have ho:=zaK0 p l
 by_cases ha:a=Amount.zero
 ·simp [ha]
 ·simp only [ha,decide_false,Bool.false_eq_true,if_false,List.nil_append]
  by_cases hx:(zv7 p l).any (fun h=>decide (ltP p h.proc))=true
  ·simp [hx]
  ·have hx:(zv7 p l).any (fun h=>decide (ltP p h.proc))=false:=by simpa using hx
   rw [if_neg (by rw [hx]; decide),Option.bind_some,noins _ hx]
   show gd ((zv7 p l).length+1≤4294967296) _=_
   rw [gdp (by omega)]
theorem zda6 {α:Type} (l:List α) (k:Nat) (z x:α) (hk:k≤l.length) :
  (((l++[z]).take (k+1)++(((l++[z]).drop k).take (l.length+1 - k)).take (l.length+1 - (k+1))++(l++[z]).drop (k+1+min (((l++[z]).drop k).take (l.length+1 - k)).length (l.length+1 - (k+1)))).set k x)=l.take k++x :: l.drop k:=by
 have e1:((l++[z]).drop k).take (l.length+1 - k)=l.drop k++[z]:=by
  rw [List.drop_append_of_le_length hk,List.take_of_length_le (by simp; omega)]
 have e2:(l.drop k++[z]).take (l.length+1 - (k+1))=l.drop k:=by
  rw [List.take_append_of_le_length (by simp),List.take_of_length_le (by simp)]
 have e3:(l++[z]).drop (k+1+min (l.drop k++[z]).length (l.length+1 - (k+1)))=[]:=by
  rw [List.drop_eq_nil_of_le]; simp; omega
 rw [e1,e2,e3,List.append_nil]
 by_cases hkl:k=l.length
 ·subst hkl
  rw [List.take_of_length_le (by simp),List.drop_length,List.append_nil,List.set_append_right _ _ (Nat.le_refl _)]
  simp
 ·have:(l++[z]).take (k+1)=l.take k++[l[k]'(by omega)]:=by
   rw [List.take_append_of_le_length (by omega),List.take_succ_eq_append_getElem (by omega)]
  rw [this,List.append_assoc,List.set_append_right _ _ (by simp; omega)]
  simp [show min k l.length=k by omega]
theorem zbN4 (l:List Hold) (p:Proc) (a:Amount) (hl:l.length≤1000000):zp6 l p a=some (setL l p a):=by
 unfold zp6
 have hw:IntKind.i64.wrap ((l.length:Int)+1)=(l.length:Int)+1:=zf6 (by omega) (by omega)
 rw [hw,gdp (by omega)]
 have key:=zC3 (body:=zT8 l p) l Hold.zero (fun i (s:Int×List Hold)=>(s.1,(i:Int),s.2))
  (fun i h s=>some (.inl (if h.proc=p then s else (if s.1 < 0∧ltP p h.proc then (s.2.length:Int) else s.1,s.2++[h])))) (fun s=>s) (fun i s=>s.2.length≤i)
  (fun i s hi hs=>by
   refine ⟨?_,fun s' h=>?_⟩
   ·unfold zT8
    have h1:s.2.length+1≤4294967296:=by omega
    have h3:0≤(i:Int)∧(i:Int) < (l.length:Int):=by omega
    simp only [h1,h3.1,h3.2,and_self,implies_true,zm3,decide_true,if_true,Int.toNat_natCast,decide_eq_true_eq,Bool.and_eq_true,zae3,zc4 i (by omega),Option.map_some,wmap]
    by_cases e:(l.getD i Hold.zero).proc=p
    ·simp only [e,if_true]
    ·simp only [e,if_false]
     by_cases e2:s.1 < 0
     ·simp only [e2,if_true,Option.bind_some,true_and,zbN3]
      split <;> rfl
     ·simp only [e2,if_false,Option.bind_some,false_and]
   ·simp only [Option.some.injEq,Sum.inl.injEq] at h
    subst h
    split
    ·omega
    ·simp; omega)
  (fun s hs=>by unfold zT8; simp) (-1,[]) (by simp)
 have fold:∀ (l:List Hold) (i:Nat) (d:Int) (o:List Hold),walk (fun i h (s:Int×List Hold)=>some (.inl (if h.proc=p then s else (if s.1 < 0∧ltP p h.proc then (s.2.length:Int) else s.1,s.2++[h])))) (fun s=>s) l i (d,o) =
   some (if d < 0∧(zv7 p l).any (fun h=>decide (ltP p h.proc))=true then (((o.length+(zv7 p l).findIdx (fun h=>decide (ltP p h.proc)):Nat):Int),o++zv7 p l) else (d,o++zv7 p l)):=by
  intro l
  induction l with
  | nil=>intro i d o; simp [walk,zv7]
  | cons h t ih =>
   intro i d o
   simp only [walk,zaE3]
   by_cases e:h.proc=p
   ·simp only [e,if_true]; exact ih (i+1) d o
   ·simp only [e,if_false]
    by_cases e2:d < 0∧ltP p h.proc
    ·simp only [e2,and_self,if_true]
     rw [ih,if_neg (by omega)]
     simp [e2.2,List.findIdx_cons]
    ·rw [if_neg e2,ih]
     by_cases e3:d < 0
     ·have e4:¬ ltP p h.proc:=fun hh=>e2 ⟨e3,hh⟩
      simp only [e3,true_and,List.any_cons,e4,decide_false,Bool.false_or,List.findIdx_cons,cond_false,List.length_append,List.length_cons,List.length_nil,List.append_assoc,List.cons_append,List.nil_append]
      split
      ·congr 3; omega
      ·rfl
     ·simp [e3]
 have ins:∀ l:List Hold,insP p a l=l.take (l.findIdx (fun h=>decide (ltP p h.proc)))++⟨p,a⟩ :: l.drop (l.findIdx (fun h=>decide (ltP p h.proc))):=by
  intro l
  induction l with
  | nil=>rfl
  | cons h t ih =>
   simp only [insP,List.findIdx_cons]
   by_cases e:ltP p h.proc
   ·simp [e]
   ·simp [e,ih]
 have key2:zc0 (zT8 l p) (-1,0,List.replicate 0 Hold.zero)=some (if (zv7 p l).any (fun h=>decide (ltP p h.proc))=true then (((zv7 p l).findIdx (fun h=>decide (ltP p h.proc)):Nat):Int) else -1,zv7 p l):=by
  rw [show ((-1,0,List.replicate 0 Hold.zero):Int×Int×List Hold)=(fun (i:Nat) (s:Int×List Hold)=>(s.1,(i:Int),s.2)) 0 (-1,[]) from rfl,key,fold]
  have:((-1:Int) < 0):=by decide
  simp only [this,true_and,List.nil_append,List.length_nil,Nat.zero_add]
  split <;> rfl
 rw [key2,Option.bind_some]
 unfold zam2 setL
 have hz:zl2 a=decide (a=Amount.zero):=rfl
 rw [hz]
 by_cases ha:a=Amount.zero
 ·simp [ha]
 ·simp only [ha,decide_false,Bool.false_eq_true,if_false,decide_eq_true_eq]
  have ho:=zaK0 p l
  generalize zv7 p l=o at ho
  have fi:o.findIdx (fun h=>decide (ltP p h.proc))≤o.length:=List.findIdx_le_length
  have hz2:({ Hold.zero with }:Hold)=Hold.zero:=rfl
  by_cases hx:o.any (fun h=>decide (ltP p h.proc))=true
  ·simp only [hx,if_true]
   generalize hk:o.findIdx (fun h=>decide (ltP p h.proc))=k at fi
   have hkl:k < o.length:=by rw [← hk]; exact List.findIdx_lt_length_of_exists (by simpa using hx)
   rw [if_neg (by omega)]
   simp only [zc4 k (by omega),Int.toNat_natCast]
   rw [gdp (by omega),gdp (by omega),gdp (by omega),gdp (by omega),zda6 o k _ _ (by omega),ins o,hk]
  ·have hx':o.any (fun h=>decide (ltP p h.proc))=false:=by simpa using hx
   simp only [hx',Bool.false_eq_true,if_false]
   rw [if_pos (by decide)]
   have hk:o.findIdx (fun h=>decide (ltP p h.proc))=o.length:=by
    rw [List.findIdx_eq_length]; simpa using hx'
   simp only [zc4 o.length (by omega),Int.toNat_natCast]
   rw [gdp (by omega),gdp (by omega),gdp (by omega),gdp (by omega),zda6 o o.length _ _ (by omega),ins o,hk]
theorem zaS8 (r:Resource):zJ0 r=zg3 r:=by
 unfold zJ0 zg3
 rw [Bool.eq_iff_iff]
 by_cases h1:r.kind=1
 ·simp [h1]
 ·by_cases h2:r.kind=2 <;> simp [h1,h2]
theorem zaO0 (r:Resource) (a:Amount):zt6 r a=zb3 r a:=by
 unfold zt6 zb3 zx6 zv8
 rw [zaS8]
theorem zbh6 (r:Resource) (a:Amount):zu3 r a=zc6 r a:=by
 unfold zu3 zc6 zm0 zl2
 rw [zaS8,zaO0]
theorem zax2 (p:Proc):zm6 p=zb6 p:=by
 unfold zm6 zb6 zK8
 rw [Bool.eq_iff_iff]; simp; omega
theorem zK0 (r:Resource):zg3 r=true ↔ (r.kind=1∧r.units=1)∨(r.kind=2∧1≤r.units∧r.units≤8):=by
 unfold zg3
 by_cases h1:r.kind=1
 ·simp [h1]
 ·by_cases h2:r.kind=2 <;> simp [h1,h2]
theorem zK1 (r:Resource) (a:Amount):zb3 r a=true ↔ (r.kind=1∧r.units=1∧1≤a.mode∧a.mode≤5∧a.units=0)∨(r.kind=2∧1≤r.units∧r.units≤8∧a.mode=0∧1≤a.units∧a.units≤r.units):=by
 unfold zb3 zv8
 have:=zK0 r
 cases h:zg3 r with
 | false =>
  rw [h] at this
  simp only [Bool.false_eq_true,false_iff] at this
  simp only [Bool.not_false,if_true,Bool.false_eq_true,false_iff]
  omega
 | true =>
  rw [h] at this
  simp only [true_iff] at this
  by_cases h1:r.kind=1
  ·simp [h1]; omega
  ·simp [h1]; omega
theorem perm_iff (r:Resource) (a:Amount):zc6 r a=true ↔ (zg3 r=true∧a=Amount.zero)∨zb3 r a=true:=by
 unfold zc6 zl2
 have e:(decide (a={ Amount.zero with }):Bool)=decide (a=Amount.zero):=rfl
 rw [e]
 have hs:zb3 r a=true→zg3 r=true:=by
  rw [zK1,zK0]; omega
 cases h1:zg3 r <;> cases h2:zb3 r a <;> simp_all
theorem zaz6 {r:Resource} {a:Amount} (h:zc6 r a=true) (hk:r.kind=1):a.units=0∧0≤a.mode∧a.mode≤5∧r.units=1:=by
 rw [perm_iff,zK1,zK0] at h
 rcases h with ⟨h1,rfl⟩|h1
 ·simp [Amount.zero]; omega
 ·omega
theorem zbh7 {r:Resource} {a:Amount} (h:zc6 r a=true) (hk:r.kind=2):a.mode=0∧0≤a.units∧a.units≤r.units∧r.units≤8:=by
 rw [perm_iff,zK1,zK0] at h
 rcases h with ⟨h1,rfl⟩|h1
 ·simp [Amount.zero]; omega
 ·omega
theorem zaf1 {r:Resource} {a:Amount} (h:zc6 r a=true):0≤a.units∧a.units≤8∧0≤a.mode∧a.mode≤5∧1≤r.units∧r.units≤8:=by
 rw [perm_iff,zK1,zK0] at h
 rcases h with ⟨h1,rfl⟩|h1
 ·simp [Amount.zero]; omega
 ·omega
abbrev mC (a b:Int):Bool:=zN4 a b
theorem zcg1 (a b:Int):mC a b=true ↔ (1≤a∧a≤4∧1≤b∧b≤4)∧(a=1∨b=1∨a=b∧a≠4):=by
 unfold mC zN4 zx6
 split
 ·rename_i h; simp at h; simp; omega
 ·rename_i h; simp at h; simp; omega
theorem zbH1 (a b:Int):mC a b=mC b a:=by rw [Bool.eq_iff_iff,zcg1,zcg1]; omega
theorem zbn6 (a b:Int):zh2 a b=some (mC a b):=by
 unfold zh2 zv8
 by_cases h:(1≤a∧a≤5)∧(1≤b∧b≤5)
 ·obtain ⟨⟨a1,a2⟩,b1,b2⟩:=h
  have wa:IntKind.i64.wrap (a - 1)=a - 1:=zf6 (by omega) (by omega)
  have wb:IntKind.i64.wrap (b - 1)=b - 1:=zf6 (by omega) (by omega)
  simp only [wa,wb]
  rw [gdp (fun _=>by omega),gdp (fun _=>by omega)]
  congr 1
  have ha:a=1∨a=2∨a=3∨a=4∨a=5:=by omega
  have hb:b=1∨b=2∨b=3∨b=4∨b=5:=by omega
  rcases ha with rfl|rfl|rfl|rfl|rfl <;> rcases hb with rfl|rfl|rfl|rfl|rfl <;> decide
 ·have hv:(((decide (1≤a))&&(decide (a≤5)))&&((decide (1≤b))&&(decide (b≤5))))=false:=by
   rw [Bool.eq_false_iff]; intro hh; simp at hh; omega
  rw [hv]
  rw [gdp (fun h=>by cases h),gdp (fun h=>by cases h)]
  have:mC a b=false:=by rw [Bool.eq_false_iff]; intro hh; rw [zcg1] at hh; omega
  rw [this]; rfl
def zap3 (b a:Amount):Prop:=b.mode≠0∧a.mode≠0∧mC b.mode a.mode=false
instance (b a:Amount):Decidable (zap3 b a):=by unfold zap3; infer_instance
def sumU:List Amount→Int
 | []=>0
 | a :: l=>a.units+sumU l
structure CompP (r:Resource) (l:List Amount):Prop where
 perm:∀ a ∈ l,zc6 r a=true
 sum:sumU l≤r.units
 pair:l.Pairwise fun b a=>¬ zap3 b a
instance (r:Resource) (l:List Amount):Decidable (CompP r l) :=
 decidable_of_iff ((∀ a ∈ l,zc6 r a=true)∧sumU l≤r.units∧l.Pairwise fun b a=>¬ zap3 b a) ⟨fun ⟨a,b,c⟩=>⟨a,b,c⟩,fun ⟨a,b,c⟩=>⟨a,b,c⟩⟩
def zbC5 (r:Resource) (l:List Amount):Bool:=zg3 r&&decide (CompP r l)
theorem zco3 {l:List Amount} (h:∀ a ∈ l,0≤a.units):0≤sumU l:=by
 induction l with
 | nil=>simp [sumU]
 | cons a l ih =>
  have:=ih fun b hb=>h b (.tail _ hb)
  have:=h a (.head _)
  simp only [sumU]; omega
def zbl0 (r:Resource):List Amount→List Amount→Int→Bool
 | [],_,_=>true
 | a :: t,prev,s=>zc6 r a&&(decide (s+a.units≤r.units)&&(decide (∀ b ∈ prev,¬ zap3 b a)&&zbl0 r t (prev++[a]) (s+a.units)))
theorem zbx3 (r:Resource) (hr:0≤r.units):∀ (l prev:List Amount) (s:Int),s≤r.units→(zbl0 r l prev s=true ↔ (∀ a ∈ l,zc6 r a=true)∧s+sumU l≤r.units∧(∀ b ∈ prev,∀ a ∈ l,¬ zap3 b a)∧l.Pairwise fun b a=>¬ zap3 b a)
 | [],prev,s,hs=>by simp [zbl0,sumU]; exact hs
 | a :: t,prev,s,hs=>by
  simp only [zbl0,Bool.and_eq_true,decide_eq_true_eq,List.forall_mem_cons,List.pairwise_cons,sumU]
  constructor
  ·rintro ⟨h1,h2,h3,h4⟩
   rw [zbx3 r hr t (prev++[a]) (s+a.units) h2] at h4
   obtain ⟨k1,k2,k3,k4⟩:=h4
   refine ⟨⟨h1,k1⟩,by omega,fun b hb=>⟨h3 b hb,fun c hc=>k3 b (by simp [hb]) c hc⟩,fun c hc=>k3 a (by simp) c hc,k4⟩
  ·rintro ⟨⟨h1,k1⟩,h2,h3,h4,h5⟩
   have hn:0≤sumU t:=zco3 fun b hb=>(zaf1 (k1 b hb)).1
   have h6:s+a.units≤r.units:=by omega
   refine ⟨h1,h6,fun b hb=>(h3 b hb).1,?_⟩
   rw [zbx3 r hr t (prev++[a]) (s+a.units) h6]
   refine ⟨k1,by omega,fun b hb c hc=>?_,h5⟩
   rcases List.mem_append.1 hb with hb|hb
   ·exact (h3 b hb).2 c hc
   ·simp at hb; subst hb; exact h4 c hc
theorem zco4 (r:Resource) (l:List Amount) (hs:zg3 r=true):zbC5 r l=zbl0 r l [] 0:=by
 have hr:1≤r.units:=by rw [zK0] at hs; omega
 unfold zbC5
 rw [hs,Bool.true_and,Bool.eq_iff_iff,zbx3 r (by omega) l [] 0 (by omega),decide_eq_true_eq]
 exact ⟨fun ⟨a,b,c⟩=>⟨a,by omega,by simp,c⟩,fun ⟨a,b,_,c⟩=>⟨a,by omega,c⟩⟩
def zbn7 (seen:Arr Bool 6) (m:Int):Bool:=(List.range' 0 6).all fun k=>!(seen.get k false)||mC k m
theorem zcg2 (l:List Amount) (g:Int×Int×Arr Bool 6):zc0 (zD9 l g) 0=some (if zbn7 g.2.2 (l.getD g.2.1.toNat Amount.zero).mode=true then .inl () else .inr false):=by
 have key:=zG6 (body:=zD9 l g) 6 (fun i=>if (!(g.2.2.get i false)||mC i (l.getD g.2.1.toNat Amount.zero).mode)=true then none else some (.inr false)) (.inl ()) (fun i hi=>by
  unfold zD9
  have h3:0≤(i:Int)∧(i:Int) < 6:=by omega
  have h4:IntKind.i64.wrap ((i:Int)+1)=(i:Int)+1:=zf6 (by omega) (by omega)
  simp only [h3.1,h3.2,and_self,zm3,decide_true,if_true,Int.toNat_natCast,zbn6,h4]
  cases Arr.get g.2.2 i false <;> cases mC i (l.getD g.2.1.toNat Amount.zero).mode <;> rfl) (by unfold zD9; simp)
 rw [key,zS1]
 unfold zbn7
 split <;> simp_all
theorem zdl8 (s:Arr Bool 6) (i k:Nat) (hi:i < 6) (hk:k < 6):(s.put i true).get k false=if k=i then true else s.get k false:=by
 obtain ⟨l,hl⟩:=s
 simp only [Arr.put,Arr.get,zal4 hi,zal4 hk,List.getD_eq_getElem?_getD,List.getElem?_set]
 by_cases h:k=i
 ·subst h; simp [hl,hk]
 ·rw [if_neg (fun e=>h e.symm),if_neg h]
theorem zbe4 (r:Resource) (l:List Amount) (hl:l.length≤1000000):zj6 r l=some (zbC5 r l):=by
 unfold zj6
 cases hs:zg3 r with
 | false=>simp [zbC5,hs]
 | true =>
  have hru:1≤r.units∧r.units≤8:=by rw [zK0] at hs; omega
  rw [zco4 r l hs]
  simp only [Bool.not_true,Bool.false_eq_true,if_false]
  have key:=zC3 (body:=zJ2 r l) l Amount.zero (fun i (s:Int×Arr Bool 6)=>(s.1,(i:Int),s.2))
   (fun i a s=>some (if zc6 r a=false∨r.units < s.1+a.units then .inr false else if a.mode=0 then .inl (s.1+a.units,s.2) else if zbn7 s.2 a.mode=true then .inl (s.1+a.units,s.2.put a.mode.toNat true) else .inr false)) (fun _=>true) (fun i s=>0≤s.1∧s.1≤8)
   (fun i s hi hi2=>by
    refine ⟨?_,fun s' h=>?_⟩
    ·unfold zJ2
     have h3:0≤(i:Int)∧(i:Int) < (l.length:Int):=by omega
     simp only [h3.1,h3.2,and_self,zm3,decide_true,if_true,Int.toNat_natCast,zc4 i (by omega),Option.map_some,zcg2]
     cases hp:zc6 r (l.getD i Amount.zero) with
     | false=>simp [wmap]
     | true =>
      have hb:=zaf1 hp
      have hw:IntKind.i64.wrap (s.1+(l.getD i Amount.zero).units)=s.1+(l.getD i Amount.zero).units:=zf6 (by omega) (by omega)
      simp only [hw,Bool.not_true,Bool.false_or,decide_eq_true_eq,Bool.true_eq_false,false_or]
      by_cases h4:r.units < s.1+(l.getD i Amount.zero).units
      ·simp only [h4,if_true,wmap]
      ·by_cases h5:(l.getD i Amount.zero).mode=0
       ·simp only [h4,if_false,h5,if_true,wmap]
       ·simp only [h4,h5,if_false]
        by_cases h6:zbn7 s.2 (l.getD i Amount.zero).mode=true
        ·simp only [h6,if_true,Option.bind_some,wmap]
         unfold zS9
         simp only [Int.toNat_natCast,hw,zc4 i (by omega)]
         rw [gdp (by omega)]
        ·simp only [h6,Bool.false_eq_true,if_false,wmap,Option.bind_some]
    ·simp only [Option.some.injEq] at h
     split at h
     ·cases h
     ·rename_i hn
      simp only [not_or,Bool.not_eq_false] at hn
      have hb:=zaf1 hn.1
      split at h
      ·cases h; simp only; omega
      ·split at h
       ·cases h; simp only; omega
       ·cases h)
   (fun s hs=>by unfold zJ2; simp) (0,Arr.rep 6 false) (by simp)
  have fold:∀ (l prev:List Amount) (i:Nat) (s:Int) (seen:Arr Bool 6),(∀ b ∈ prev,0≤b.mode∧b.mode≤5)→(∀ k,k < 6→seen.get k false=decide (∃ b ∈ prev,b.mode≠0∧b.mode=(k:Int))) →
    walk (fun i a (s:Int×Arr Bool 6)=>some (if zc6 r a=false∨r.units < s.1+a.units then .inr false else if a.mode=0 then .inl (s.1+a.units,s.2) else if zbn7 s.2 a.mode=true then .inl (s.1+a.units,s.2.put a.mode.toNat true) else .inr false)) (fun _=>true) l i (s,seen)=some (zbl0 r l prev s):=by
   intro l
   induction l with
   | nil=>intro prev i s seen _ _; rfl
   | cons a t ih =>
    intro prev i s seen hpv hsn
    simp only [walk,zbl0]
    cases hp:zc6 r a with
    | false=>simp
    | true =>
     have hb:=zaf1 hp
     by_cases h4:r.units < s+a.units
     ·simp [h4]; intro h; omega
     ·have h4':s+a.units≤r.units:=by omega
      simp only [Bool.true_eq_false,false_or,h4,if_false,h4',decide_true,Bool.true_and]
      by_cases h5:a.mode=0
      ·simp only [h5,if_true]
       rw [ih (prev++[a]) (i+1) (s+a.units) seen (by
        intro b hb'; rcases List.mem_append.1 hb' with h|h
        ·exact hpv b h
        ·simp at h; subst h; omega) (by
        intro k hk
        rw [hsn k hk,decide_eq_decide]
        constructor
        ·rintro ⟨b,h1,h2⟩; exact ⟨b,by simp [h1],h2⟩
        ·rintro ⟨b,h1,h2,h3⟩
         rcases List.mem_append.1 h1 with h|h
         ·exact ⟨b,h,h2,h3⟩
         ·simp at h; subst h; exact absurd h5 h2)]
       have:∀ b ∈ prev,¬ zap3 b a:=fun b _ hc=>hc.2.1 h5
       rw [decide_eq_true this,Bool.true_and]
      ·simp only [h5,if_false]
       have hse:zbn7 seen a.mode=decide (∀ b ∈ prev,¬ zap3 b a):=by
        rw [Bool.eq_iff_iff,decide_eq_true_eq]
        unfold zbn7
        simp only [List.all_eq_true,List.mem_range'_1,Bool.or_eq_true,Bool.not_eq_true']
        constructor
        ·intro hh b hb' ⟨c1,c2,c3⟩
         have hbb:=hpv b hb'
         rcases hh b.mode.toNat (by omega) with h|h
         ·rw [hsn _ (by omega)] at h
          simp only [decide_eq_false_iff_not,not_exists,not_and] at h
          exact h b hb' c1 (by omega)
         ·rw [show ((b.mode.toNat:Nat):Int)=b.mode by omega,c3] at h; cases h
        ·intro hh k hk
         rw [hsn k (by omega)]
         by_cases he:∃ b ∈ prev,b.mode≠0∧b.mode=(k:Int)
         ·obtain ⟨b,h1,h2,h3⟩:=he
          right
          rw [← h3]
          have:=hh b h1
          unfold zap3 at this
          simp only [not_and,Bool.not_eq_false] at this
          exact this h2 h5
         ·left; simpa using he
       rw [hse]
       by_cases h7:∀ b ∈ prev,¬ zap3 b a
       ·rw [decide_eq_true h7]
        simp only [if_true,Bool.true_and]
        rw [ih (prev++[a]) (i+1) (s+a.units) (seen.put a.mode.toNat true) (by
         intro b hb'; rcases List.mem_append.1 hb' with h|h
         ·exact hpv b h
         ·simp at h; subst h; omega) (by
         intro k hk
         rw [zdl8 seen a.mode.toNat k (by omega) hk,hsn k hk]
         by_cases hka:k=a.mode.toNat
         ·rw [if_pos hka]
          exact (decide_eq_true ⟨a,by simp,h5,by omega⟩).symm
         ·rw [if_neg hka,decide_eq_decide]
          constructor
          ·rintro ⟨b,h1,h2⟩; exact ⟨b,by simp [h1],h2⟩
          ·rintro ⟨b,h1,h2,h3⟩
           rcases List.mem_append.1 h1 with h|h
           ·exact ⟨b,h,h2,h3⟩
           ·simp at h; subst h; omega)]
       ·rw [decide_eq_false h7]; rfl
  have k2:=fold l [] 0 0 (Arr.rep 6 false) (by simp) (by
   intro k hk
   have:k=0∨k=1∨k=2∨k=3∨k=4∨k=5:=by omega
   rcases this with rfl|rfl|rfl|rfl|rfl|rfl <;> rfl)
  rw [show ((0,0,Arr.rep 6 false):Int×Int×Arr Bool 6)=(fun (i:Nat) (s:Int×Arr Bool 6)=>(s.1,(i:Int),s.2)) 0 (0,Arr.rep 6 false) from rfl,key,k2]
  rfl
theorem zbx4 (l:List Amount) (g:Int×Int) (h0:0≤g.2) (hl:g.2 < (l.length:Int)) (hll:l.length≤1000000):zc0 (zF5 l g) 0 =
  some (if (List.range' 0 g.2.toNat).all (fun k=>decide (l.getD g.2.toNat Amount.zero=Amount.zero)||(decide (l.getD k Amount.zero=Amount.zero)||mC (l.getD g.2.toNat Amount.zero).mode (l.getD k Amount.zero).mode))=true then .inl () else .inr false):=by
 have hz:∀ a:Amount,zm0 a=decide (a=Amount.zero):=fun _=>rfl
 have key:=zG6 (body:=zF5 l g) g.2.toNat (fun i=>if (decide (l.getD g.2.toNat Amount.zero=Amount.zero)||(decide (l.getD i Amount.zero=Amount.zero)||mC (l.getD g.2.toNat Amount.zero).mode (l.getD i Amount.zero).mode))=true then none else some (.inr false)) (.inl ()) (fun i hi=>by
  unfold zF5
  have h3:(i:Int) < g.2:=by omega
  have h4:IntKind.i64.wrap ((i:Int)+1)=(i:Int)+1:=zf6 (by omega) (by omega)
  have h5:0≤(i:Int)∧(i:Int) < (l.length:Int):=by omega
  simp only [h3,decide_true,if_true,Int.toNat_natCast,h4,h5.1,h5.2,h0,hl,and_self,implies_true,zm3,hz]
  cases decide (l.getD g.2.toNat Amount.zero=Amount.zero) <;> cases decide (l.getD i Amount.zero=Amount.zero) <;> cases hm:zN4 (l.getD g.2.toNat Amount.zero).mode (l.getD i Amount.zero).mode <;> simp only [mC,hm] <;> rfl) (by unfold zF5; rw [if_neg]; simp; omega)
 rw [key,zS1]
 split <;> simp_all
theorem zbj7 (r:Resource) (l:List Amount) (hl:l.length≤1000000):zk7 r l=some (zbC5 r l):=by
 unfold zk7
 rw [zaS8]
 cases hs:zg3 r with
 | false=>simp [zbC5,hs]
 | true =>
  have hru:1≤r.units∧r.units≤8∧(r.kind=1∨r.kind=2):=by rw [zK0] at hs; omega
  rw [zco4 r l hs]
  simp only [Bool.not_true,Bool.false_eq_true,if_false]
  have key:=zC3 (body:=zB8 r l) l Amount.zero (fun i (s:Int)=>(s,(i:Int)))
   (fun i a s=>some (if zc6 r a=false then .inr (.inr false) else if r.kind=2 then (if r.units < s+a.units then .inr (.inr false) else .inl (s+a.units)) else
    if (List.range' 0 i).all (fun k=>decide (a=Amount.zero)||(decide (l.getD k Amount.zero=Amount.zero)||mC a.mode (l.getD k Amount.zero).mode))=true then .inl s else .inr (.inr false))) (fun _=>Sum.inl (β:=Bool) ()) (fun i s=>0≤s∧s≤8)
   (fun i s hi hi2=>by
    refine ⟨?_,fun s' h=>?_⟩
    ·unfold zB8
     have h3:0≤(i:Int)∧(i:Int) < (l.length:Int):=by omega
     simp only [h3.1,h3.2,and_self,zm3,decide_true,if_true,Int.toNat_natCast,zc4 i (by omega),Option.map_some,zbh6,zbx4 l (s,(i:Int)) h3.1 h3.2 hl]
     cases hp:zc6 r (l.getD i Amount.zero) with
     | false=>simp [wmap]
     | true =>
      have hb:=zaf1 hp
      have hw:IntKind.i64.wrap (s+(l.getD i Amount.zero).units)=s+(l.getD i Amount.zero).units:=zf6 (by omega) (by omega)
      simp only [hw,Bool.not_true,Bool.false_eq_true,if_false,Bool.true_eq_false,decide_eq_true_eq]
      by_cases h4:r.kind=2
      ·by_cases h5:r.units < s+(l.getD i Amount.zero).units
       ·simp only [h4,h5,if_true,wmap]
       ·simp only [h4,h5,if_true,if_false,wmap]
      ·simp only [h4,if_false]
       split
       ·simp only [zah8,wmap,zc4 i (by omega:i < 4611686018427387904),Option.bind_some]
       ·simp only [wmap,Option.bind_some]
    ·simp only [Option.some.injEq] at h
     split at h
     ·cases h
     ·rename_i hn
      simp only [Bool.not_eq_false] at hn
      have hb:=zaf1 hn
      split at h
      ·split at h
       ·cases h
       ·cases h; omega
      ·split at h
       ·cases h; exact hi2
       ·cases h)
   (fun s hs=>by unfold zB8; simp) 0 (by simp)
  have fold:∀ (t prev:List Amount) (s:Int),l=prev++t→(∀ b ∈ prev,zc6 r b=true)→(r.kind=1→s=0)→s≤r.units →
    walk (fun i a (s:Int)=>some (if zc6 r a=false then .inr (.inr false) else if r.kind=2 then (if r.units < s+a.units then .inr (.inr false) else .inl (s+a.units)) else
     if (List.range' 0 i).all (fun k=>decide (a=Amount.zero)||(decide (l.getD k Amount.zero=Amount.zero)||mC a.mode (l.getD k Amount.zero).mode))=true then .inl s else .inr (.inr false))) (fun _=>Sum.inl (β:=Bool) ()) t prev.length s=some (if zbl0 r t prev s=true then .inl () else .inr false):=by
   intro t
   induction t with
   | nil=>intro prev s _ _ _ _; rfl
   | cons a t ih =>
    intro prev s hlt hpp hs0 hsu
    simp only [walk,zbl0]
    by_cases hp:zc6 r a=true
    ·have hpp':∀ b ∈ prev++[a],zc6 r b=true:=fun b hb=>by
      rcases List.mem_append.1 hb with h|h
      ·exact hpp b h
      ·simp at h; subst h; exact hp
     have hlt':l=(prev++[a])++t:=by rw [hlt]; simp
     have hlen:(prev++[a]).length=prev.length+1:=by simp
     rcases hru.2.2 with hk|hk
     ·
      have ha:=zaz6 hp hk
      have hs:=hs0 hk
      subst hs
      have hk2:¬ r.kind=2:=by omega
      have hsum:(0:Int)+a.units≤r.units:=by omega
      simp only [hp,Bool.true_eq_false,if_false,hk2,hsum,decide_true,Bool.true_and]
      have hall:(List.range' 0 prev.length).all (fun k=>decide (a=Amount.zero)||(decide (l.getD k Amount.zero=Amount.zero)||mC a.mode (l.getD k Amount.zero).mode))=decide (∀ b ∈ prev,¬ zap3 b a):=by
       rw [Bool.eq_iff_iff,decide_eq_true_eq]
       simp only [List.all_eq_true,List.mem_range'_1,Bool.or_eq_true,decide_eq_true_eq]
       have hget:∀ k,k < prev.length→l.getD k Amount.zero=prev.getD k Amount.zero:=fun k hk=>by rw [hlt,zcM6 _ _ _ _ hk]
       have hmem:∀ k,k < prev.length→prev.getD k Amount.zero ∈ prev:=fun k hk=>by
        rw [List.getD_eq_getElem?_getD,List.getElem?_eq_getElem hk]; exact List.getElem_mem hk
       have zah5:∀ b,zc6 r b=true→(b=Amount.zero ↔ b.mode=0):=fun b hb=>by
        have:=zaz6 hb hk
        rw [Amount.ext_iff]; simp [Amount.zero]; omega
       constructor
       ·intro hh b hb ⟨c1,c2,c3⟩
        obtain ⟨k,hk1,hk2⟩:=List.mem_iff_getElem.1 hb
        have e:prev.getD k Amount.zero=b:=by rw [List.getD_eq_getElem?_getD,List.getElem?_eq_getElem hk1,Option.getD_some,hk2]
        rcases hh k (by omega) with h|h|h
        ·exact c2 ((zah5 a hp).1 h)
        ·rw [hget k hk1,e] at h; exact c1 ((zah5 b (hpp b hb)).1 h)
        ·rw [hget k hk1,e,zbH1,c3] at h; cases h
       ·intro hh k hk1
        have hk2:k < prev.length:=by omega
        rw [hget k hk2]
        have h1:=hh _ (hmem k hk2)
        have h2:=hpp _ (hmem k hk2)
        unfold zap3 at h1
        rw [zah5 a hp,zah5 _ h2]
        by_cases e1:a.mode=0
        ·exact .inl e1
        ·by_cases e2:(prev.getD k Amount.zero).mode=0
         ·exact .inr (.inl e2)
         ·refine .inr (.inr ?_)
          rw [zbH1]
          simp only [not_and,Bool.not_eq_false] at h1
          exact h1 e2 e1
      rw [hall]
      by_cases h7:∀ b ∈ prev,¬ zap3 b a
      ·rw [decide_eq_true h7]
       simp only [if_true,Bool.true_and]
       have:=ih (prev++[a]) 0 hlt' hpp' (fun _=>rfl) (by omega)
       rw [hlen] at this
       simp only [hk2,if_false] at this
       rw [this,ha.1]; rfl
      ·rw [decide_eq_false h7]; rfl
     ·
      have ha:=zbh7 hp hk
      simp only [hp,Bool.true_eq_false,if_false,hk,if_true,Bool.true_and]
      have h7:∀ b ∈ prev,¬ zap3 b a:=fun b _ hc=>hc.2.1 ha.1
      by_cases h5:r.units < s+a.units
      ·have:¬ s+a.units≤r.units:=by omega
       simp [h5,this]
      ·have:s+a.units≤r.units:=by omega
       rw [decide_eq_true h7]
       simp only [h5,if_false,this,decide_true,Bool.true_and]
       have h8:=ih (prev++[a]) (s+a.units) hlt' hpp' (fun h=>by omega) this
       rw [hlen] at h8
       simp only [hk,if_true] at h8
       exact h8
    ·simp [hp]
  rw [show ((0,0):Int×Int)=(fun (i:Nat) (s:Int)=>(s,(i:Int))) 0 0 from rfl,key]
  have k2:=fold l [] 0 rfl (by simp) (fun _=>rfl) (by omega)
  rw [List.length_nil] at k2
  rw [k2]
  cases zbl0 r l [] 0 <;> rfl
structure GoodP (r:Resource) (l:List Hold):Prop where
 each:∀ h ∈ l,zb6 h.proc=true∧zb3 r h.amount=true
 asc:l.Pairwise fun a b=>ltP a.proc b.proc
instance (r:Resource) (l:List Hold):Decidable (GoodP r l) :=
 decidable_of_iff ((∀ h ∈ l,zb6 h.proc=true∧zb3 r h.amount=true)∧l.Pairwise fun a b=>ltP a.proc b.proc) ⟨fun ⟨a,b⟩=>⟨a,b⟩,fun ⟨a,b⟩=>⟨a,b⟩⟩
def zK2 (r:Resource) (l:List Hold):Bool:=zg3 r&&(decide (l.length≤8)&&(decide (GoodP r l)&&decide (CompP r (l.map (·.amount)))))
theorem zbC6 {r:Resource} {a:Amount} (h:zb3 r a=true):zg3 r=true:=by rw [zK1] at h; rw [zK0]; omega
theorem zC4 {r:Resource} {a:Amount} (h:zb3 r a=true):zc6 r a=true:=(perm_iff r a).2 (.inr h)
theorem zab7 {r:Resource} {a:Amount} (h:zb3 r a=true):a≠Amount.zero:=by
 rw [zK1] at h; intro e; subst e; simp [Amount.zero] at h
def zat5 (r:Resource):List Hold→Option Proc→Bool
 | [],_=>true
 | h :: t,pv=>zb6 h.proc&&(zb3 r h.amount&&((match pv with|none=>true|some q=>decide (ltP q h.proc))&&zat5 r t (some h.proc)))
theorem zbx5 (r:Resource):∀ (l:List Hold) (pv:Option Proc),zat5 r l pv=true ↔ GoodP r l∧∀ q,pv=some q→∀ h ∈ l,ltP q h.proc
 | [],pv=>by
  simp only [zat5,List.not_mem_nil,false_implies,implies_true,and_true,true_iff]
  exact ⟨by simp,.nil⟩
 | h :: t,pv=>by
  simp only [zat5,Bool.and_eq_true]
  rw [zbx5 r t (some h.proc)]
  constructor
  ·rintro ⟨h1,h2,h3,⟨h4,h5⟩,h6⟩
   refine ⟨⟨fun x hx=>?_,List.pairwise_cons.2 ⟨fun x hx=>h6 _ rfl x hx,h5⟩⟩,fun q hq x hx=>?_⟩
   ·rcases List.mem_cons.1 hx with rfl|hx
    ·exact ⟨h1,h2⟩
    ·exact h4 x hx
   ·subst hq
    simp only [decide_eq_true_eq] at h3
    rcases List.mem_cons.1 hx with rfl|hx
    ·exact h3
    ·exact zat3 h3 (h6 _ rfl x hx)
  ·rintro ⟨⟨h1,h2⟩,h3⟩
   rw [List.pairwise_cons] at h2
   refine ⟨(h1 h (.head _)).1,(h1 h (.head _)).2,?_,⟨fun x hx=>h1 x (.tail _ hx),h2.2⟩,fun q hq x hx=>by cases hq; exact h2.1 x hx⟩
   cases pv with
   | none=>rfl
   | some q=>exact decide_eq_true (h3 q rfl h (.head _))
theorem zaz7 (r:Resource) (l:List Hold):zq7 r l=some (zK2 r l):=by
 unfold zq7 zK2
 cases hs:zg3 r with
 | false=>simp
 | true =>
  by_cases h8:8 < (l.length:Int)
  ·have:¬ l.length≤8:=by omega
   simp [h8,this]
  ·have hl8:l.length≤8:=by omega
   simp only [Bool.not_true,Bool.false_or,h8,decide_false,Bool.false_eq_true,if_false,hl8,decide_true,Bool.true_and]
   have key:=zC3 (body:=zV2 r l) l Hold.zero (fun i (s:List Amount)=>((i:Int),s))
    (fun i h s=>some (if zb6 h.proc=true∧zb3 r h.amount=true∧(i=0∨ltP (l.getD (i - 1) Hold.zero).proc h.proc) then .inl (s++[h.amount]) else .inr (.inr false))) (fun s=>Sum.inl (β:=Bool) s) (fun i s=>s.length≤i)
    (fun i s hi hs=>by
     refine ⟨?_,fun s' h=>?_⟩
     ·unfold zV2
      have h1:s.length+1≤4294967296:=by omega
      have h3:0≤(i:Int)∧(i:Int) < (l.length:Int):=by omega
      simp only [h1,h3.1,h3.2,and_self,zm3,decide_true,if_true,Int.toNat_natCast,zae3,zc4 i (by omega),Option.map_some,decide_eq_true_eq,Bool.and_eq_true,Bool.or_eq_true,Bool.not_eq_true']
      by_cases e1:zb6 (l.getD i Hold.zero).proc=false∨zb3 r (l.getD i Hold.zero).amount=false
      ·rw [if_pos e1,if_neg (by rintro ⟨k1,k2,_⟩; rcases e1 with e|e <;> simp_all)]; rfl
      ·rw [if_neg e1]
       simp only [not_or,Bool.not_eq_false] at e1
       by_cases e2:i=0
       ·subst e2
        rw [gdp (by omega)]
        simp only [Int.natCast_zero,Int.lt_irrefl,if_false,Option.bind_some,false_and,e1,and_self,true_or,if_true,wmap]
       ·have w:IntKind.i64.wrap ((i:Int) - 1)=((i - 1:Nat):Int):=zaz5 i (by omega) (by omega)
        rw [gdp (by rw [w]; omega)]
        simp only [w,Int.toNat_natCast,show (0:Int) < (i:Int) by omega,if_true,Option.bind_some,true_and,zaE2,e1,e2,false_or]
        by_cases e3:ltP (l.getD (i - 1) Hold.zero).proc (l.getD i Hold.zero).proc
        ·simp only [e3,not_true,if_false,if_true,wmap]
        ·simp only [e3,not_false_eq_true,if_true,if_false,wmap]
     ·simp only [Option.some.injEq] at h
      split at h
      ·cases h; simp; omega
      ·cases h)
    (fun s hs=>by unfold zV2; simp) [] (by simp)
   have fold:∀ (t prev:List Hold) (s:List Amount),l=prev++t →
     walk (fun i h (s:List Amount)=>some (if zb6 h.proc=true∧zb3 r h.amount=true∧(i=0∨ltP (l.getD (i - 1) Hold.zero).proc h.proc) then .inl (s++[h.amount]) else .inr (.inr false))) (fun s=>Sum.inl (β:=Bool) s) t prev.length s =
      some (if zat5 r t (prev.getLast?.map (·.proc))=true then .inl (s++t.map (·.amount)) else .inr false):=by
    intro t
    induction t with
    | nil=>intro prev s _; simp [walk,zat5]
    | cons h t ih =>
     intro prev s hlt
     simp only [walk]
     have hq:(prev.length=0∨ltP (l.getD (prev.length - 1) Hold.zero).proc h.proc) ↔ (match prev.getLast?.map (·.proc) with|none=>true|some q=>decide (ltP q h.proc))=true:=by
      rcases List.eq_nil_or_concat prev with rfl|⟨pp,x,rfl⟩
      ·simp
      ·have:(l.getD ((pp.concat x).length - 1) Hold.zero)=x:=by
        rw [hlt]; simp [List.getD_eq_getElem?_getD]
       rw [this]; simp
     by_cases e:zb6 h.proc=true∧zb3 r h.amount=true∧(prev.length=0∨ltP (l.getD (prev.length - 1) Hold.zero).proc h.proc)
     ·rw [if_pos e]
      have:=ih (prev++[h]) (s++[h.amount]) (by rw [hlt]; simp)
      rw [show (prev++[h]).length=prev.length+1 by simp] at this
      simp only
      have ht:zat5 r (h :: t) (prev.getLast?.map (·.proc))=zat5 r t (some h.proc):=by simp only [zat5,e.1,e.2.1,hq.1 e.2.2,Bool.true_and]
      rw [this,ht]
      simp
     ·rw [if_neg e]
      rw [hq] at e
      have hf:zat5 r (h :: t) (prev.getLast?.map (·.proc))=false:=by
       rw [Bool.eq_false_iff]
       intro hh
       simp only [zat5,Bool.and_eq_true] at hh
       exact e ⟨hh.1,hh.2.1,hh.2.2.1⟩
      rw [hf]; rfl
   have k2:=fold l [] [] rfl
   rw [List.length_nil] at k2
   rw [show ((0,[]):Int×List Amount)=(fun (i:Nat) (s:List Amount)=>((i:Int),s)) 0 [] from rfl,key,k2]
   have hg:=zbx5 r l none
   by_cases e:zat5 r l none=true
   ·have hgp:GoodP r l:=(hg.1 e).1
    rw [if_pos (by simpa using e)]
    simp only [Option.bind_some,zar4,List.nil_append]
    rw [zbe4 r _ (by simp; omega)]
    simp [zbC5,hs,hgp]
   ·have hgp:¬ GoodP r l:=fun h=>e (hg.2 ⟨h,by simp⟩)
    rw [if_neg (by simpa using e)]
    simp [hgp]
theorem zbx6 (l:List Hold) (hl:l.length≤1000000):zh0 l=some (l.map (·.amount)):=by
 unfold zh0
 have key:=zC3 (body:=zV0 l) l Hold.zero (fun i (s:List Amount)=>((i:Int),s)) (fun i h s=>some (.inl (zaE1 s (some h.amount)))) (fun s=>s) (fun i s=>s.length≤i)
  (fun i s hi hs=>by
   refine ⟨?_,fun s' h=>?_⟩
   ·unfold zV0
    have h1:s.length+1≤4294967296:=by omega
    have h3:0≤(i:Int)∧(i:Int) < (l.length:Int):=by omega
    simp only [h1,h3.1,h3.2,and_self,zm3,decide_true,if_true,Int.toNat_natCast,zc4 i (by omega),Option.map_some,wmap,zaE1]
   ·simp only [Option.some.injEq,Sum.inl.injEq] at h; subst h; simp [zaE1]; omega)
  (fun s hs=>by unfold zV0; simp) [] (by simp)
 rw [show ((0,[]):Int×List Amount)=(fun (i:Nat) (s:List Amount)=>((i:Int),s)) 0 [] from rfl,key,zaH6 (fun h:Hold=>some h.amount)]
 simp [zar2]
theorem zaK1 (r:Resource) (l:List Hold):zt8 r l=some (zK2 r l):=by
 unfold zt8 zK2
 rw [zaS8]
 cases hs:zg3 r with
 | false=>simp
 | true =>
  by_cases h8:8 < (l.length:Int)
  ·have:¬ l.length≤8:=by omega
   simp [h8,this]
  ·have hl8:l.length≤8:=by omega
   simp only [Bool.not_true,Bool.false_or,h8,decide_false,Bool.false_eq_true,if_false,hl8,decide_true,Bool.true_and]
   have key:=zC3 (body:=zad6 r l) l Hold.zero (fun i (_:Unit)=>(i:Int))
    (fun i h _=>some (if zb6 h.proc=true∧zb3 r h.amount=true∧(i=0∨ltP (l.getD (i - 1) Hold.zero).proc h.proc) then .inl () else .inr (.inr false))) (fun _=>Sum.inl (β:=Bool) ()) (fun i s=>True)
    (fun i s hi _=>by
     refine ⟨?_,fun _ _=>trivial⟩
     unfold zad6
     have h3:0≤(i:Int)∧(i:Int) < (l.length:Int):=by omega
     simp only [h3.1,h3.2,and_self,implies_true,zm3,decide_true,if_true,Int.toNat_natCast,zc4 i (by omega),Option.map_some,zax2,zaO0]
     by_cases e2:i=0
     ·subst e2
      rw [gdp (by simp)]
      by_cases e1:zb6 (l.getD 0 Hold.zero).proc=true
      ·by_cases e3:zb3 r (l.getD 0 Hold.zero).amount=true
       ·simp only [e1,e3]; simp [wmap]
       ·simp only [e1,e3]; simp [wmap]
      ·simp only [e1]; simp [wmap]
     ·have w:IntKind.i64.wrap ((i:Int) - 1)=((i - 1:Nat):Int):=zaz5 i (by omega) (by omega)
      rw [gdp (fun _=>by rw [w]; omega)]
      simp only [w,Int.toNat_natCast,show (0:Int) < (i:Int) by omega,decide_true,Bool.true_and,zaE2,e2,false_or]
      by_cases e1:zb6 (l.getD i Hold.zero).proc=true
      ·by_cases e3:zb3 r (l.getD i Hold.zero).amount=true
       ·by_cases e4:ltP (l.getD (i - 1) Hold.zero).proc (l.getD i Hold.zero).proc
        ·simp only [e1,e3,e4]; simp [wmap]
        ·simp only [e1,e3,e4]; simp [wmap]
       ·simp only [e1,e3]; simp [wmap]
      ·simp only [e1]; simp [wmap])
    (fun s hs=>by unfold zad6; simp) () trivial
   have fold:∀ (t prev:List Hold),l=prev++t →
     walk (fun i h (_:Unit)=>some (if zb6 h.proc=true∧zb3 r h.amount=true∧(i=0∨ltP (l.getD (i - 1) Hold.zero).proc h.proc) then .inl () else .inr (.inr false))) (fun _=>Sum.inl (β:=Bool) ()) t prev.length () =
      some (if zat5 r t (prev.getLast?.map (·.proc))=true then .inl () else .inr false):=by
    intro t
    induction t with
    | nil=>intro prev _; simp [walk,zat5]
    | cons h t ih =>
     intro prev hlt
     simp only [walk]
     have hq:(prev.length=0∨ltP (l.getD (prev.length - 1) Hold.zero).proc h.proc) ↔ (match prev.getLast?.map (·.proc) with|none=>true|some q=>decide (ltP q h.proc))=true:=by
      rcases List.eq_nil_or_concat prev with rfl|⟨pp,x,rfl⟩
      ·simp
      ·have:(l.getD ((pp.concat x).length - 1) Hold.zero)=x:=by
        rw [hlt]; simp [List.getD_eq_getElem?_getD]
       rw [this]; simp
     by_cases e:zb6 h.proc=true∧zb3 r h.amount=true∧(prev.length=0∨ltP (l.getD (prev.length - 1) Hold.zero).proc h.proc)
     ·rw [if_pos e]
      have:=ih (prev++[h]) (by rw [hlt]; simp)
      rw [show (prev++[h]).length=prev.length+1 by simp] at this
      simp only
      have ht:zat5 r (h :: t) (prev.getLast?.map (·.proc))=zat5 r t (some h.proc):=by simp only [zat5,e.1,e.2.1,hq.1 e.2.2,Bool.true_and]
      rw [this,ht]
      simp
     ·rw [if_neg e]
      rw [hq] at e
      have hf:zat5 r (h :: t) (prev.getLast?.map (·.proc))=false:=by
       rw [Bool.eq_false_iff]
       intro hh
       simp only [zat5,Bool.and_eq_true] at hh
       exact e ⟨hh.1,hh.2.1,hh.2.2.1⟩
      rw [hf]; rfl
   have k2:=fold l [] rfl
   rw [List.length_nil] at k2
   rw [show (0:Int)=(fun (i:Nat) (_:Unit)=>(i:Int)) 0 () from rfl,key,k2]
   have hg:=zbx5 r l none
   by_cases e:zat5 r l none=true
   ·have hgp:GoodP r l:=(hg.1 e).1
    rw [if_pos (by simpa using e)]
    simp only [Option.bind_some,zaz0]
    rw [zbx6 l (by omega),Option.bind_some,zbj7 r _ (by simp; omega)]
    simp [zbC5,hs,hgp]
   ·have hgp:¬ GoodP r l:=fun h=>e (hg.2 ⟨h,by simp⟩)
    rw [if_neg (by simpa using e)]
    simp [hgp]
theorem zbs0 (p:Proc) (a:Amount) (l:List Hold):(insP p a l).length=l.length+1:=by
 induction l with
 | nil=>rfl
 | cons h t ih=>simp only [insP]; split <;> simp [ih]
theorem zda7 (l:List Hold) (p:Proc) (a:Amount):(setL l p a).length≤l.length+1:=by
 have:=zaK0 p l
 unfold setL
 split
 ·omega
 ·rw [zbs0]; omega
theorem zak4 {r:Resource} {l:List Hold} (h:zK2 r l=true):l.length≤8:=by
 unfold zK2 at h; simp at h; exact h.2.1
def zai8 (r:Resource) (l:List Hold) (p:Proc) (a:Amount):Bool:=zK2 r l&&(zb6 p&&zb3 r a)
def zaG4 (r:Resource) (l:List Hold) (p:Proc) (a:Amount):Bool:=zai8 r l p a&&zK2 r (setL l p a)
theorem zcM8 (r:Resource) (l:List Hold) (p:Proc) (a:Amount):zz1 r l p a=some (zai8 r l p a):=by
 unfold zz1 zai8
 rw [zaz7,Option.bind_some,Bool.and_assoc]
theorem zdl9 (r:Resource) (l:List Hold) (p:Proc) (a:Amount):zJ5 r l p a=some (zaG4 r l p a):=by
 unfold zJ5 zaG4
 rw [zcM8,Option.bind_some]
 cases h:zai8 r l p a with
 | false=>simp
 | true =>
  have hv:zK2 r l=true:=by unfold zai8 at h; simp at h; exact h.1
  simp only [if_true]
  rw [zbN4 l p a (by have:=zak4 hv; omega),Option.bind_some,zaz7]
  simp
theorem zco5 (r:Resource) (l:List Hold) (p:Proc) (a:Amount):zJ4 r l p a=some (zaG4 r l p a):=by
 unfold zJ4 zaG4
 rw [zaK1,Option.bind_some,zax2,zaO0,Bool.and_assoc]
 change ((if zai8 r l p a=true then _ else _):Option (List Hold)).bind _=_
 cases h:zai8 r l p a with
 | false=>unfold zai8 at h; simp [h]
 | true =>
  have hv:zK2 r l=true:=by unfold zai8 at h; simp at h; exact h.1
  unfold zai8 at h
  simp only [h,if_true]
  rw [zax1 l p a (by have:=zak4 hv; omega),Option.bind_some,zaK1]
  simp
def zak5 (p:Proc):List Wait→Nat→Option Nat
 | [],_=>none
 | w :: l,i=>if w.proc=p then some i else zak5 p l (i+1)
def zT6 (l:List Wait) (p:Proc):Int:=match zak5 p l 0 with
 | some i=>i
 | none=>-1
theorem zbC7 (l:List Wait) (p:Proc):∀ k i,i+k=l.length→zL6 (fun i=>if (l.getD i Wait.zero).proc=p then some (i:Int) else none) k i=(zak5 p (l.drop i) i).map fun n:Nat=>(n:Int)
 | 0,i,h=>by rw [List.drop_eq_nil_of_le (by omega)]; rfl
 | k+1,i,h=>by
  rw [zat2 l i Wait.zero (by omega)]
  simp only [zL6,zak5]
  by_cases hp:(l.getD i Wait.zero).proc=p
  ·simp only [hp,if_true,Option.map_some]
  ·simp only [hp,if_false]
   exact zbC7 l p k (i+1) (by omega)
theorem zaH0 (l:List Wait) (p:Proc) (hl:l.length < 4611686018427387904):zm4 l p=some (zT6 l p):=by
 unfold zm4
 have key:zc0 (zaj4 l p) 0=some ((zL6 (fun i=>if (l.getD i Wait.zero).proc=p then some (Sum.inr (i:Int)) else none) l.length 0).getD (Sum.inl ())):=by
  refine zG6 l.length _ (Sum.inl ()) (fun i hi=>?_) ?_
  ·unfold zaj4
   rw [if_pos (by simpa using hi),zg7 (by omega)]
   simp only [Int.toNat_natCast,decide_eq_true_eq]
   split
   ·rfl
   ·rw [zf6 (by omega) (by omega)]
  ·unfold zaj4
   rw [if_neg (by simp)]
 rw [key]
 have h2:=zbC7 l p l.length 0 (by omega)
 have h3:∀ k i,zL6 (fun i=>if (l.getD i Wait.zero).proc=p then some (Sum.inr (α:=Unit) (i:Int)) else none) k i=(zL6 (fun i=>if (l.getD i Wait.zero).proc=p then some (i:Int) else none) k i).map Sum.inr:=by
  intro k
  induction k with
  | zero=>intro i; rfl
  | succ k ih =>
   intro i
   simp only [zL6]
   by_cases hp:(l.getD i Wait.zero).proc=p
   ·simp only [hp,if_true,Option.map_some]
   ·simp only [hp,if_false,ih]
 rw [h3,h2,List.drop_zero]
 unfold zT6
 cases zak5 p l 0 <;> rfl
theorem zap4 (l:List Wait) (p:Proc) (hl:l.length < 4611686018427387904):zj7 l p=some (zT6 l p):=by
 have e:zj7 l p=zm4 l p:=rfl
 rw [e]; exact zaH0 l p hl
theorem zaH1 (w:Wait):zz8 w=zl8 w:=by
 unfold zz8 zl8 zm6 zb6 zK8 zr2 zb3 zg3 zx6 zv8
 rw [Bool.eq_iff_iff]
 simp
 omega
def zX3 (l:List Wait):Bool:=decide (l.length≤8)&&(List.range l.length).all fun i=>zl8 (l.getD i Wait.zero)&&decide (zT6 l (l.getD i Wait.zero).proc=i)
theorem zbl1 (l:List Wait):zs5 l=some (zX3 l):=by
 unfold zs5 zX3
 by_cases h8:8 < (l.length:Int)
 ·rw [if_pos (by simpa using h8)]
  have:¬ l.length≤8:=by omega
  simp [this]
 ·rw [if_neg (by simpa using h8)]
  have hl:l.length < 4611686018427387904:=by omega
  have key:zc0 (zR9 l) 0=some ((zL6 (fun i=>if (zl8 (l.getD i Wait.zero)&&decide (zT6 l (l.getD i Wait.zero).proc=i))=true then none else some (Sum.inr false)) l.length 0).getD (Sum.inl ())):=by
   refine zG6 l.length _ (Sum.inl ()) (fun i hi=>?_) ?_
   ·unfold zR9
    rw [if_pos (by simpa using hi),zg7 (by omega)]
    simp only [Int.toNat_natCast]
    by_cases hv:zl8 (l.getD i Wait.zero)=true
    ·simp only [hv,if_true,zaH0 l _ hl,Option.bind_some,Bool.not_true,Bool.false_or,Bool.true_and]
     by_cases hf:zT6 l (l.getD i Wait.zero).proc=(i:Int)
     ·simp only [hf,decide_true,Bool.not_true,Bool.false_eq_true,if_false,if_true]
      rw [zf6 (by omega) (by omega)]
     ·simp only [hf,decide_false,Bool.not_false,if_true,Bool.false_eq_true,if_false]
    ·have hv:zl8 (l.getD i Wait.zero)=false:=by simpa using hv
     simp only [hv,Bool.false_eq_true,if_false,Option.bind_some,Bool.not_false,Bool.true_or,if_true,Bool.false_and]
   ·unfold zR9
    rw [if_neg (by simp)]
  rw [key,zS1,← List.range_eq_range']
  have:l.length≤8:=by omega
  simp only [this,decide_true,Bool.true_and]
  cases (List.range l.length).all fun i=>zl8 (l.getD i Wait.zero)&&decide (zT6 l (l.getD i Wait.zero).proc=i) <;> rfl
theorem zbe5 (l:List Wait):zr3 l=some (zX3 l):=by
 rw [← zbl1 l]
 unfold zr3 zs5
 by_cases h8:8 < (l.length:Int)
 ·rw [if_pos (decide_eq_true h8),if_pos (decide_eq_true h8)]
 ·rw [if_neg (by simpa using h8),if_neg (by simpa using h8)]
  have hl:l.length < 4611686018427387904:=by omega
  have e:zam3 l=zR9 l:=funext fun i=>by
   unfold zam3 zR9
   by_cases hi:i < (l.length:Int)
   ·rw [if_pos (decide_eq_true hi),if_pos (decide_eq_true hi)]
    by_cases h0:0≤i∧i < (l.length:Int)
    ·rw [zg7 h0,zg7 h0,zg7 (fun _=>h0)]
     simp only [zaH1,zap4 l _ hl,zaH0 l _ hl]
    ·unfold gd; rw [if_neg h0,if_neg h0]
   ·rw [if_neg (by simpa using hi)]; rw [if_neg (by simpa using hi)]
  rw [e]
  rfl
theorem zco6 {p:Proc}:∀ {l:List Wait} {i j:Nat},zak5 p l i=some j→i≤j∧j < i+l.length
 | w :: l,i,j,h=>by
  simp only [zak5] at h
  split at h
  ·cases h; simp
  ·have:=zco6 h; simp only [List.length_cons]; omega
theorem zco7 (l:List Wait) (p:Proc):zT6 l p=-1∨0≤zT6 l p∧zT6 l p < l.length:=by
 unfold zT6
 cases h:zak5 p l 0 with
 | none=>exact .inl rfl
 | some j=>right; have:=zco6 h; simp only; omega
def over (w e:Wait):Bool:=decide (e.priority < w.priority)&&decide (e.passed < 3)
def zak6 (l:List Wait) (w:Wait):Nat→Nat
 | 0=>0
 | k+1=>if over w (l.getD k Wait.zero)=true then zak6 l w k else k+1
theorem zbh8 (l:List Wait) (w:Wait):∀ k,zak6 l w k≤k
 | 0=>Nat.le_refl _
 | k+1=>by unfold zak6; split <;> have:=zbh8 l w k <;> omega
def bump (e:Wait):Wait:={ e with passed:=IntKind.i64.wrap (e.passed+1) }
def zbe6 (l:List Wait) (w:Wait) (n:Nat):List Wait:=l.take n++w :: (l.drop n).map bump
def insS (l:List Wait) (w:Wait):List Wait×Int×Int :=
 if zX3 l=false then ([],0,2)
 else if zl8 w=false∨w.passed≠0 then ([],0,1)
 else if 0≤zT6 l w.proc then ([],0,11)
 else if l.length=8 then ([],0,4)
 else (zbe6 l w (zak6 l w l.length),(zak6 l w l.length:Int),0)
theorem zbn8 {l:List Wait} (h:zX3 l=true):l.length≤8:=by
 simp only [zX3,Bool.and_eq_true,decide_eq_true_eq] at h; exact h.1
theorem zbF0 (l:List Wait) (w:Wait):zt0 l w=some (insS l w):=by
 unfold zt0 insS
 rw [zbe5,Option.bind_some]
 cases hv:zX3 l with
 | false=>rfl
 | true =>
  have h8:=zbn8 hv
  simp only [Bool.not_true,Bool.false_eq_true,Bool.true_eq_false,if_false,zaH1]
  by_cases hw:zl8 w=false∨w.passed≠0
  ·rw [if_pos hw,if_pos (by rcases hw with h|h <;> simp [h])]
  ·have hw1:zl8 w=true:=by simpa using fun h=>hw (.inl h)
   have hw2:w.passed=0:=by simpa using fun h=>hw (.inr h)
   rw [if_neg hw,if_neg (by simp [hw1,hw2]),zap4 _ _ (by omega),Option.bind_some]
   by_cases hf:0≤zT6 l w.proc
   ·rw [if_pos hf,if_pos (decide_eq_true hf)]
   ·rw [if_neg hf,if_neg (by simpa using hf)]
    by_cases h9:l.length=8
    ·rw [if_pos h9,if_pos (decide_eq_true (by omega))]
    ·rw [if_neg h9,if_neg (by simp; omega)]
     have h2:=zco0 (body:=zai6 l w) (fun g=>∃ i:Nat,g=i∧i≤l.length) (fun g=>g.toNat) (fun g=>((zak6 l w g.toNat:Nat):Int)) (fun g ⟨i,g1,g2⟩=>by
      subst g1
      unfold zai6
      cases i with
      | zero=>right; rw [zg7 (by simp),zg7 (by simp)]; rfl
      | succ i =>
       have e2:IntKind.i64.wrap (((i+1:Nat):Int) - 1)=(i:Int):=by rw [zf6 (by omega) (by omega)]; omega
       simp only [e2,Int.toNat_natCast]
       rw [zg7 (by omega),zg7 (by omega),Bool.and_assoc]
       by_cases ho:over w (l.getD i Wait.zero)=true
       ·left
        rw [if_pos (by unfold over at ho; simp only [ho,Bool.and_true,decide_eq_true_eq]; omega)]
        exact ⟨_,rfl,⟨i,rfl,by omega⟩,by simp only [Int.toNat_natCast]; omega,by simp only [Int.toNat_natCast,zak6,ho,if_true]⟩
       ·right
        rw [if_neg (by rw [Bool.and_eq_true]; exact fun h=>ho h.2)]
        simp only [zak6,if_neg ho]) (l.length:Int) ⟨l.length,rfl,Nat.le_refl _⟩
     rw [h2,Option.bind_some]
     simp only [Int.toNat_natCast]
     have hp:=zbh8 l w l.length
     generalize zak6 l w l.length=n at hp
     unfold zZ5
     simp only [Int.toNat_natCast]
     rw [zg7 (by omega),zg7 (by simp; omega),zg7 (by simp; omega)]
     have key:=zco1 (body:=zZ4 l) l.length (fun i s=>.inl (s++[bump (l.getD i Wait.zero)])) (fun s=>s) (fun i s=>s.length≤i+1) (fun i s hi hs=>by
      refine ⟨?_,fun s' h=>by cases h; simp; omega⟩
      unfold zZ4
      rw [if_pos (decide_eq_true (by simp only; omega)),zg7 (by simp only; omega),zg7 (by simp only; omega),zf6 (by simp only; omega) (by simp only; omega)]
      rfl) (fun s hs=>by
      unfold zZ4
      rw [if_neg (by simp)]) (l.length - n) n (l.take n++[w]) (by omega) (by simp only [List.length_append,List.length_take,List.length_cons,List.length_nil]; omega)
     have e3:(l.drop n).take (l.length - n)=l.drop n:=List.take_of_length_le (by simp)
     rw [key,zbN0,zbN2 l Wait.zero bump _ n (by omega),e3,Option.bind_some]
     simp [zaw7,zbe6]
theorem zbs1 (a b:List Wait) (hl:a.length < 4611686018427387904):zd8 a b=some (decide (a=b)):=by
 unfold zd8
 by_cases h:a.length=b.length
 ·rw [if_neg (by simp [h])]
  exact zbx2 a b Wait.zero hl h fun i=>rfl
 ·rw [if_pos (by simp; omega)]
  have:a≠b:=fun e=>h (by rw [e])
  simp [this]
def notP (p:Proc) (w:Wait):Bool:=!decide (w.proc=p)
def rmL (l:List Wait) (p:Proc):List Wait:=l.filter (notP p)
theorem zdm0 (l:List Wait) (p:Proc):(rmL l p).length≤l.length:=List.length_filter_le _ _
theorem zaq6 (l:List Wait) (p:Proc) (hl:l.length < 4294967296):zg8 l p=some (rmL l p,decide ((rmL l p).length < l.length)):=by
 unfold zg8
 have key:=zcM5 (body:=zY7 l p) l.length (fun i s=>.inl (if notP p (l.getD i Wait.zero)=true then s++[l.getD i Wait.zero] else s)) (fun s=>s) (fun i s=>s.length≤i) (fun i s hi hs=>by
  refine ⟨?_,fun s' h=>by simp only [Sum.inl.injEq] at h; subst h; split <;> first|omega|(simp only [List.length_append,List.length_cons,List.length_nil]; omega)⟩
  unfold zY7
  rw [if_pos (decide_eq_true (by simp only; omega)),zg7 (by simp only; omega),zf6 (by simp only; omega) (by simp only; omega)]
  simp only [Int.toNat_natCast]
  by_cases hp:(!decide ((l.getD i Wait.zero).proc=p))=true
  ·rw [if_pos hp,if_pos (show notP p _=true from hp),zg7 (by omega),zg7 (by omega)]
  ·rw [if_neg hp,if_neg (show ¬ notP p _=true from hp)]) (fun s hs=>by
  unfold zY7
  rw [if_neg (by simp)]) [] (Nat.zero_le _)
 rw [key,zbN1 l Wait.zero (notP p) l.length 0 [] (by omega),List.nil_append,List.drop_zero,Option.bind_some]
 unfold zav1 rmL
 simp
theorem zbN5 {p:Proc}:∀ {l:List Wait} {i:Nat},zak5 p l i=none ↔ ∀ w ∈ l,w.proc≠p
 | [],i=>by simp [zak5]
 | w :: l,i=>by
  simp only [zak5]
  by_cases h:w.proc=p
  ·simp [h]
  ·simp only [h,if_false,zbN5 (l:=l),List.mem_cons,forall_eq_or_imp,ne_eq,not_false_eq_true,true_and]
theorem zcM9 {l:List Wait} {p:Proc}:¬ 0≤zT6 l p ↔ ∀ w ∈ l,w.proc≠p:=by
 rw [← zbN5 (i:=0)]
 unfold zT6
 cases zak5 p l 0 <;> simp
theorem zbx7 {w:Wait} (h:zl8 w=true):0≤w.passed∧w.passed≤3:=by
 unfold zl8 at h
 simp only [Bool.and_eq_true,decide_eq_true_eq] at h
 exact ⟨h.1.2,h.2⟩
theorem zdu6 (e:Wait):(bump e).proc=e.proc:=rfl
end Ab
end Go.Proofs.YtcggeefhhegeoaaGreatDoor
