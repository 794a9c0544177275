import Derived.Test.YtenebhlnfjcffaaGreatDoorDec
import Derived.Test.YtenebhlnfjcffaaGreatDoorHm30
namespace Go.Proofs.YtenebhlnfjcffaaGreatDoor
namespace Ab
set_option linter.unusedSimpArgs false
set_option linter.unusedVariables false
theorem zo7 {x:Int} (h1:-9223372036854775808≤x) (h2:x < 9223372036854775808):IntKind.i64.wrap x=x:=by
 rw [IntKind.wrap_i64]; omega
def zG2 {X:Type} (out:Nat→Option X):Nat→Nat→Option X
 | 0,_=>none
 | n+1,i=>match out i with
  | some x=>some x
  | none=>zG2 out n (i+1)
theorem zF1 {X:Type} {body:Int→Option (Int⊕X)} (n:Nat) (out:Nat→Option X) (fin:X)
  (h:∀ i:Nat,i < n→body i=some (match out i with|some x=>.inr x|none=>.inl ((i:Int)+1))) (hend:body n=some (.inr fin)):zc6 body 0=some ((zG2 out n 0).getD fin):=by
 have key:∀ k i,i+k=n→zc6 body (i:Int)=some ((zG2 out k i).getD fin):=by
  intro k
  induction k with
  | zero =>
   intro i hi
   rw [zq6,show i=n by omega,hend]
   rfl
  | succ k ih =>
   intro i hi
   rw [zq6,h i (by omega)]
   simp only [zG2]
   cases ho:out i with
   | some x=>rfl
   | none =>
    simp only
    have:=ih (i+1) (by omega)
    rw [show ((i+1:Nat):Int)=(i:Int)+1 by omega] at this
    exact this
 exact key n 0 (by omega)
theorem zv4 {G X:Type} {body:G→Option (G⊕X)} (I:G→Prop) (μ:G→Nat) (Post:X→Prop)
  (h:∀ g,I g→(∃ g',body g=some (.inl g')∧I g'∧μ g' < μ g)∨∃ x,body g=some (.inr x)∧Post x):∀ g,I g→∃ x,zc6 body g=some x∧Post x:=by
 have key:∀ n g,μ g=n→I g→∃ x,zc6 body g=some x∧Post x:=by
  intro n
  induction n using Nat.strongRecOn with
  | _ n ih =>
   intro g hn hg
   rw [zq6]
   rcases h g hg with ⟨g',h1,h2,h3⟩|⟨x,h1,h2⟩
   ·rw [h1]; exact ih (μ g') (hn ▸ h3) g' rfl h2
   ·rw [h1]; exact ⟨x,rfl,h2⟩
 exact fun g hg=>key _ g rfl hg
theorem zO8 (p:Nat→Bool) {U:Type}:∀ k i,zG2 (fun i=>if p i=true then none else some (Sum.inr (α:=U) false)) k i=if (List.range' i k).all p=true then none else some (.inr false)
 | 0,i=>rfl
 | k+1,i=>by
  simp only [zG2,hZ,List.all_cons]
  cases hp:p i with
  | true =>
   simp only [bZ,cF]
   exact zO8 p k (i+1)
  | false=>simp
theorem zcC1 {α:Type} [DecidableEq α] (a b:List α) (z:α) (h:a.length=b.length):((List.range a.length).all fun i=>decide (a.getD i z=b.getD i z))=decide (a=b):=by
 rw [dP]
 simp only [eK,eC,bV]
 constructor
 ·intro hh
  refine iX h fun i h1 h2=>?_
  have:=hh i h1
  rwa [bU,bU,bX h1,bX h2] at this
 ·rintro rfl i _; rfl
theorem zbd8 {α:Type} [DecidableEq α] (a b:List α) (z:α) {body:Int→Option (Int⊕(Unit⊕Bool))} (hl:a.length < 4611686018427387904) (h:a.length=b.length)
  (hb:∀ i:Int,body i=if (decide (i < (a.length:Int)))=true then gd (0≤i∧i < (a.length:Int)) <| gd (0≤i∧i < (b.length:Int)) <|
   (if (!decide (a.getD i.toNat z=b.getD i.toNat z))=true then some (.inr (.inr false)) else some (.inl (IntKind.i64.wrap (i+1)))) else some (.inr (.inl ()))) :
  (zc6 body 0).bind (fun|.inl _=>some true|.inr z=>some z)=some (decide (a=b)):=by
 have key:zc6 body 0=some ((zG2 (fun i=>if decide (a.getD i z=b.getD i z)=true then none else some (Sum.inr false)) a.length 0).getD (Sum.inl ())):=by
  refine zF1 a.length _ (Sum.inl ()) (fun i hi=>?_) ?_
  ·rw [hb,bY (cR (by omega)),zn3 (by omega),zn3 (by omega)]
   simp only [Int.toNat_natCast]
   by_cases hx:a.getD i z=b.getD i z
   ·simp only [hx,cB,cP,bT,cA,bZ]
    rw [zo7 (by omega) (by omega)]
   ·simp only [hx,cL,cX,bZ,bT,cA]
  ·rw [hb,bW (by simp)]
 rw [key,zO8,← eO,zcC1 a b z h]
 cases decide (a=b) <;> rfl
theorem zaR0 {α:Type} (l:List α) (i:Nat) (z:α) (h:i < l.length):l.drop i=l.getD i z :: l.drop (i+1):=by
 rw [iB h,bU,bX h]; rfl
theorem zco2 {α:Type} (l:List α) (i n:Nat) (z:α) (h:i < n):(l.take n).getD i z=l.getD i z:=by
 rw [bU,bU,dH,bY h]
theorem zbz9 {α:Type} (l:List α) (i:Nat) (x z:α) (h:i < l.length):(l.set i x).getD i z=x:=by
 rw [bU,List.getElem?_set_self h]; rfl
theorem zco3 {α:Type} (l m:List α) (i:Nat) (z:α) (h:i < l.length):(l++m).getD i z=l.getD i z:=by
 rw [bU,bU,dE h]
def walk {α S X:Type} (step:Nat→α→S→Option (S⊕X)) (fin:S→X):List α→Nat→S→Option X
 | [],_,s=>some (fin s)
 | a :: l,i,s=>match step i a s with
  | none=>none
  | some (.inl s')=>walk step fin l (i+1) s'
  | some (.inr x)=>some x
def wmap {G S X:Type} (mk:S→G):S⊕X→G⊕X
 | .inl s=>.inl (mk s)
 | .inr x=>.inr x
theorem zz1 {α S X G:Type} {body:G→Option (G⊕X)} (l:List α) (z:α) (mk:Nat→S→G) (step:Nat→α→S→Option (S⊕X)) (fin:S→X) (inv:Nat→S→Prop)
  (hb:∀ i s,i < l.length→inv i s→body (mk i s)=(step i (l.getD i z) s).map (wmap (mk (i+1)))∧∀ s',step i (l.getD i z) s=some (.inl s')→inv (i+1) s')
  (he:∀ s,inv l.length s→body (mk l.length s)=some (.inr (fin s))) (s0:S) (h0:inv 0 s0):zc6 body (mk 0 s0)=walk step fin l 0 s0:=by
 have key:∀ k i s,i+k=l.length→inv i s→zc6 body (mk i s)=walk step fin (l.drop i) i s:=by
  intro k
  induction k with
  | zero =>
   intro i s hi hs
   have:i=l.length:=by omega
   subst this
   rw [zq6,he s hs,List.drop_length]
   rfl
  | succ k ih =>
   intro i s hi hs
   obtain ⟨h1,h2⟩:=hb i s (by omega) hs
   rw [zq6,h1,zaR0 l i z (by omega)]
   simp only [walk]
   cases ho:step i (l.getD i z) s with
   | none=>rfl
   | some y =>
    cases y with
    | inl s'=>exact ih (i+1) s' (by omega) (h2 s' ho)
    | inr x=>rfl
 have:=key l.length 0 s0 (by omega) h0
 rwa [gK] at this
theorem zab1 {α S X G:Type} {body:G→Option (G⊕X)} (l:List α) (z:α) (mk:Nat→S→G) (step:Nat→α→S→Option (S⊕X)) (fin:S→X)
  (hb:∀ i s,i < l.length→body (mk i s)=(step i (l.getD i z) s).map (wmap (mk (i+1))))
  (he:∀ s,body (mk l.length s)=some (.inr (fin s))) (s0:S):zc6 body (mk 0 s0)=walk step fin l 0 s0 :=
 zz1 l z mk step fin (fun _ _=>True) (fun i s h _=>⟨hb i s h,fun _ _=>trivial⟩) (fun s _=>he s) s0 trivial
theorem zd4 (i:Nat) (h:i < 4611686018427387904):IntKind.i64.wrap ((i:Int)+1)=((i+1:Nat):Int):=by rw [zo7 (by omega) (by omega)]; omega
theorem zad4 (i:Nat) (h:i < 4611686018427387904) (h0:0 < i):IntKind.i64.wrap ((i:Int) - 1)=((i - 1:Nat):Int):=by rw [zo7 (by omega) (by omega)]; omega
theorem gdp {α:Type} {p:Prop} [Decidable p] {k:Option α} (h:p):gd p k=k:=bY h
@[simp] theorem zk1 {α:Type} [Decidable True] (k:Option α):gd True k=k:=bY trivial
theorem gdn {α:Type} {p:Prop} [Decidable p] {k:Option α} (h:¬ p):gd p k=none:=bW h
def zas0 {β:Type} (s:List β):Option β→List β
 | some b=>s++[b]
 | none=>s
theorem zco4 {β:Type} (s:List β) (o:Option β):(zas0 s o).length≤s.length+1:=by cases o <;> simp [zas0]
theorem zau7 {α β X:Type} (f:α→Option β) (fin:List β→X):∀ (l:List α) (i:Nat) (s:List β),
  walk (fun _ a s=>some (.inl (zas0 s (f a)))) fin l i s=some (fin (s++l.filterMap f))
 | [],i,s=>by simp [walk]
 | a :: l,i,s=>by
  simp only [walk,List.filterMap_cons]
  rw [zau7 f fin l (i+1)]
  cases f a <;> simp [zas0]
noncomputable def zax1  (j1:(List aH)):Option ((List aH)) :=
 some j1
noncomputable def zW9 (a0:List aT) (g1:Int×(List aH)):Option ((Int×(List aH))⊕(((List aH)))) :=
 (if (decide (g1.1 < (a0.length:Int)))=true then
  gd (0≤g1.1∧g1.1 < (a0.length:Int)) <|
  gd (g1.2.length+1≤4294967296) <|
  some (.inl ((IntKind.i64.wrap (g1.1+1)),(g1.2++[(a0.getD g1.1.toNat aT.zero).aN])))
 else
  some (.inr g1.2))
noncomputable def zas6 (a0:List aT):Option ((List aH)) :=
 (zc6 (zW9 a0) (0,[])).bind (fun z=>zax1 z)
abbrev cmpP (p q:aH):Int:=zw1 p q
def ltP (p q:aH):Prop:=p.site < q.site∨p.site=q.site∧(p.inc < q.inc∨p.inc=q.inc∧p.num < q.num)
instance (p q:aH):Decidable (ltP p q):=by unfold ltP; infer_instance
theorem zbS0 (a b:Int):zI5 a b=if a < b then -1 else if b < a then 1 else 0:=by
  unfold zI5; simp only [bV]
theorem zba2 (p q:aH):cmpP p q=if ltP p q then -1 else if ltP q p then 1 else 0:=by
  obtain ⟨a,b,c⟩:=p
  obtain ⟨d,e,f⟩:=q
  unfold cmpP zw1 ltP
  simp only [zbS0,cN,cG]
  grind
theorem zao0 (p:aH):¬ ltP p p:=by unfold ltP; omega
theorem zau8 {p q r:aH} (h:ltP p q) (k:ltP q r):ltP p r:=by unfold ltP at *; omega
theorem zaR1 {p q:aH} (h:ltP p q):¬ ltP q p:=by unfold ltP at *; omega
theorem zao1 {p q:aH} (h:p≠q):ltP p q∨ltP q p:=by
  obtain ⟨a,b,c⟩:=p
  obtain ⟨d,e,f⟩:=q
  simp only [ne_eq,aH.mk.injEq] at h
  unfold ltP
  simp only
  omega
theorem zbs7 (p q:aH):0 < cmpP p q ↔ ltP q p:=by
  rw [zba2]
  by_cases h:ltP p q
  · simp [h,zaR1 h]
  · by_cases h2:ltP q p <;> simp [h,h2]
theorem zah5 (p q:aH):0≤cmpP p q ↔ ¬ ltP p q:=by
  rw [zba2]
  by_cases h:ltP p q
  · simp [h]
  · by_cases h2:ltP q p <;> simp [h,h2]
theorem zV0 (p q:aH):zc8 p q=some (cmpP p q):=by
  unfold zc8 zg0
  have e:∀ (x y z:Int) (i:Nat) (h:[x,y,z].length=3),Arr.get (⟨[x,y,z],h⟩:Arr Int 3) i 0=match i with|0=>x|1=>y|_=>z:=by
    intro x y z i h
    match i with
    | 0=>rfl
    | 1=>rfl
    | 2=>rfl
    | n+3 =>
      have:¬ (n+3 < 3):=by omega
      simp [Arr.get,zG0,this]
  have w1:IntKind.i64.wrap (0+1)=1:=by decide
  have w2:IntKind.i64.wrap (1+1)=2:=by decide
  have w3:IntKind.i64.wrap (2+1)=3:=by decide
  have s3:zn6 ⟨[p.site,p.inc,p.num],rfl⟩ ⟨[q.site,q.inc,q.num],rfl⟩ 3=some (.inr (.inl ())):=by unfold zn6; simp
  have s2:zn6 ⟨[p.site,p.inc,p.num],rfl⟩ ⟨[q.site,q.inc,q.num],rfl⟩ 2=some (if p.num < q.num then .inr (.inr (-1)) else if q.num < p.num then .inr (.inr 1) else .inl 3):=by
    unfold zn6
    rw [bY (by decide),gdp (by decide),gdp (by decide),gdp (by decide)]
    simp only [e,show (2:Int).toNat=2 from rfl,bV,w3]
    by_cases h:p.num < q.num
    · simp [h]
    · by_cases h2:q.num < p.num <;> simp [h,h2]
  have s1:zn6 ⟨[p.site,p.inc,p.num],rfl⟩ ⟨[q.site,q.inc,q.num],rfl⟩ 1=some (if p.inc < q.inc then .inr (.inr (-1)) else if q.inc < p.inc then .inr (.inr 1) else .inl 2):=by
    unfold zn6
    rw [bY (by decide),gdp (by decide),gdp (by decide),gdp (by decide)]
    simp only [e,Int.toNat_one,bV,w2]
    by_cases h:p.inc < q.inc
    · simp [h]
    · by_cases h2:q.inc < p.inc <;> simp [h,h2]
  have s0:zn6 ⟨[p.site,p.inc,p.num],rfl⟩ ⟨[q.site,q.inc,q.num],rfl⟩ 0=some (if p.site < q.site then .inr (.inr (-1)) else if q.site < p.site then .inr (.inr 1) else .inl 1):=by
    unfold zn6
    rw [bY (by decide),gdp (by decide),gdp (by decide),gdp (by decide)]
    simp only [e,Int.toNat_zero,bV,w1]
    by_cases h:p.site < q.site
    · simp [h]
    · by_cases h2:q.site < p.site <;> simp [h,h2]
  rw [zba2]
  unfold ltP
  by_cases a1:p.site < q.site
  · rw [zq6,s0]; simp [a1]
  · by_cases a2:q.site < p.site
    · rw [zq6,s0]
      have:¬ p.site=q.site:=by omega
      simp [a1,a2,this]
    · have h1:p.site=q.site:=by omega
      by_cases b1:p.inc < q.inc
      · rw [zq6,s0]; simp only [a1,a2,cA]; rw [zq6,s1]; simp [b1,h1]
      · by_cases b2:q.inc < p.inc
        · have:¬ p.inc=q.inc:=by omega
          rw [zq6,s0]; simp only [a1,a2,cA]; rw [zq6,s1]; simp [b1,b2,h1,this]
        · have h2:p.inc=q.inc:=by omega
          rw [zq6,s0]; simp only [a1,a2,cA]; rw [zq6,s1]; simp only [b1,b2,cA]; rw [zq6,s2]
          by_cases c1:p.num < q.num
          · simp [c1,h1,h2]
          · by_cases c2:q.num < p.num
            · simp [c1,c2,h1,h2]
            · simp only [c1,c2,cA]; rw [zq6,s3]; simp [h1,h2,zW1]
def insP (p:aH) (a:aA):List aT→List aT
  | []=>[⟨p,a⟩]
  | h :: t=>if ltP p h.aN then ⟨p,a⟩ :: h :: t else h :: insP p a t
def zF2 (p:aH) (l:List aT):List aT:=l.filter fun h=>!decide (h.aN=p)
def setL (l:List aT) (p:aH) (a:aA):List aT:=if a=aA.zero then zF2 p l else insP p a (zF2 p l)
theorem zcU5 (p:aH):zF2 p []=[]:=rfl
theorem zaN5 (p:aH) (h:aT) (t:List aT):zF2 p (h :: t)=if h.aN=p then zF2 p t else h :: zF2 p t:=by
  unfold zF2; rw [List.filter_cons]; by_cases e:h.aN=p <;> simp [e]
theorem zaW2 (p:aH) (l:List aT):(zF2 p l).length≤l.length:=List.length_filter_le _ _
theorem zbJ5 (l:List aT) (p:aH) (a:aA) (hl:l.length≤1000000):zr4 l p a=some (setL l p a):=by
  unfold zr4
  have key:=zz1 (body:=zaa6 l p a) l aT.zero (fun i (s:Bool×List aT)=>(s.1,(i:Int),s.2))
    (fun i h s=>some (.inl (if h.aN=p then s else if s.1=false∧ltP p h.aN then (true,s.2++[⟨p,a⟩]++[h]) else (s.1,s.2++[h])))) (fun s=>s) (fun i s=>s.2.length≤2 * i)
    (fun i s hi hs=>by
      refine ⟨?_,fun s' h=>?_⟩
      · unfold zaa6
        have h1:s.2.length+1≤4294967296:=by omega
        have h2:s.2.length+1+1≤4294967296:=by omega
        have h3:0≤(i:Int)∧(i:Int) < (l.length:Int):=by omega
        simp only [h1,h2,h3.1,h3.2,cQ,dU,zk1,cB,bZ,Int.toNat_natCast,bV,bS,cN,zbs7,zd4 i (by omega),Option.map_some,wmap]
        by_cases e:(l.getD i aT.zero).aN=p
        · simp only [e,bZ]
        · simp only [e,cA]
          split <;> rfl
      · simp only [cU,fD] at h
        subst h
        split
        · omega
        · split <;> simp <;> omega)
    (fun s hs=>by unfold zaa6; simp) (zq2 a,[]) (by simp)
  have hz:zq2 a=decide (a=aA.zero):=rfl
  have fold:∀ (l:List aT) (i:Nat) (d:Bool) (o:List aT),walk (fun i h (s:Bool×List aT)=>some (.inl (if h.aN=p then s else if s.1=false∧ltP p h.aN then (true,s.2++[⟨p,a⟩]++[h]) else (s.1,s.2++[h])))) (fun s=>s) l i (d,o) =
      some (if d=true then (true,o++zF2 p l) else if (zF2 p l).any (fun h=>decide (ltP p h.aN))=true then (true,o++insP p a (zF2 p l)) else (false,o++zF2 p l)):=by
    intro l
    induction l with
    | nil=>intro i d o; cases d <;> simp [walk,zF2]
    | cons h t ih =>
      intro i d o
      simp only [walk,zaN5]
      by_cases e:h.aN=p
      · simp only [e,bZ]; exact ih (i+1) d o
      · simp only [e,cA]
        by_cases e2:d=false∧ltP p h.aN
        · obtain ⟨rfl,e3⟩:=e2
          simp only [e3,cQ,bZ]
          rw [ih]
          simp [insP,e3]
        · rw [bW e2,ih]
          cases d with
          | true=>simp
          | false =>
            have e3:¬ ltP p h.aN:=fun hh=>e2 ⟨rfl,hh⟩
            simp only [bT,cA,insP,e3,List.any_cons,cL,dB]
            split <;> simp
  have noins:∀ l:List aT,l.any (fun h=>decide (ltP p h.aN))=false→insP p a l=l++[⟨p,a⟩]:=by
    intro l
    induction l with
    | nil=>intro _; rfl
    | cons h t ih =>
      intro hh
      simp only [List.any_cons,fZ,cG] at hh
      simp only [insP,hh.1,cA,ih hh.2,List.cons_append]
  rw [show ((zq2 a,(0:Int),([]:List aT)):Bool×Int×List aT)=(fun (i:Nat) (s:Bool×List aT)=>(s.1,(i:Int),s.2)) 0 (zq2 a,[]) from rfl,key,fold,hz]
  unfold setL zaw2
  have ho:=zaW2 p l
  by_cases ha:a=aA.zero
  · simp [ha]
  · simp only [ha,cL,bT,cA,List.nil_append]
    by_cases hx:(zF2 p l).any (fun h=>decide (ltP p h.aN))=true
    · simp [hx]
    · have hx:(zF2 p l).any (fun h=>decide (ltP p h.aN))=false:=by simpa using hx
      rw [bW (by rw [hx]; decide),Option.bind_some,noins _ hx]
      show gd ((zF2 p l).length+1≤4294967296) _=_
      rw [gdp (by omega)]
theorem zcC2 {α:Type} (l:List α) (k:Nat) (z x:α) (hk:k≤l.length) :
    (((l++[z]).take (k+1)++(((l++[z]).drop k).take (l.length+1 - k)).take (l.length+1 - (k+1))++(l++[z]).drop (k+1+min (((l++[z]).drop k).take (l.length+1 - k)).length (l.length+1 - (k+1)))).set k x)=l.take k++x :: l.drop k:=by
  have e1:((l++[z]).drop k).take (l.length+1 - k)=l.drop k++[z]:=by
    rw [fG hk,dO (by simp; omega)]
  have e2:(l.drop k++[z]).take (l.length+1 - (k+1))=l.drop k:=by
    rw [eU (by simp),dO (by simp)]
  have e3:(l++[z]).drop (k+1+min (l.drop k++[z]).length (l.length+1 - (k+1)))=[]:=by
    rw [gG]; simp; omega
  rw [e1,e2,e3,eN]
  by_cases hkl:k=l.length
  · subst hkl
    rw [dO (by simp),List.drop_length,eN,gQ _ _ (cS _)]
    simp
  · have:(l++[z]).take (k+1)=l.take k++[l[k]'(by omega)]:=by
      rw [eU (by omega),fP (by omega)]
    rw [this,dI,gQ _ _ (by simp; omega)]
    simp [show min k l.length=k by omega]
theorem zbs8 (l:List aT) (p:aH) (a:aA) (hl:l.length≤1000000):zo4 l p a=some (setL l p a):=by
  unfold zo4
  have hw:IntKind.i64.wrap ((l.length:Int)+1)=(l.length:Int)+1:=zo7 (by omega) (by omega)
  rw [hw,gdp (by omega)]
  have key:=zz1 (body:=zN4 l p) l aT.zero (fun i (s:Int×List aT)=>(s.1,(i:Int),s.2))
    (fun i h s=>some (.inl (if h.aN=p then s else (if s.1 < 0∧ltP p h.aN then (s.2.length:Int) else s.1,s.2++[h])))) (fun s=>s) (fun i s=>s.2.length≤i)
    (fun i s hi hs=>by
      refine ⟨?_,fun s' h=>?_⟩
      · unfold zN4
        have h1:s.2.length+1≤4294967296:=by omega
        have h3:0≤(i:Int)∧(i:Int) < (l.length:Int):=by omega
        simp only [h1,h3.1,h3.2,cQ,dU,zk1,cB,bZ,Int.toNat_natCast,bV,bS,zV0,zd4 i (by omega),Option.map_some,wmap]
        by_cases e:(l.getD i aT.zero).aN=p
        · simp only [e,bZ]
        · simp only [e,cA]
          by_cases e2:s.1 < 0
          · simp only [e2,bZ,Option.bind_some,fC,zbs7]
            split <;> rfl
          · simp only [e2,cA,Option.bind_some,iA]
      · simp only [cU,fD] at h
        subst h
        split
        · omega
        · simp; omega)
    (fun s hs=>by unfold zN4; simp) (-1,[]) (by simp)
  have fold:∀ (l:List aT) (i:Nat) (d:Int) (o:List aT),walk (fun i h (s:Int×List aT)=>some (.inl (if h.aN=p then s else (if s.1 < 0∧ltP p h.aN then (s.2.length:Int) else s.1,s.2++[h])))) (fun s=>s) l i (d,o) =
      some (if d < 0∧(zF2 p l).any (fun h=>decide (ltP p h.aN))=true then (((o.length+(zF2 p l).findIdx (fun h=>decide (ltP p h.aN)):Nat):Int),o++zF2 p l) else (d,o++zF2 p l)):=by
    intro l
    induction l with
    | nil=>intro i d o; simp [walk,zF2]
    | cons h t ih =>
      intro i d o
      simp only [walk,zaN5]
      by_cases e:h.aN=p
      · simp only [e,bZ]; exact ih (i+1) d o
      · simp only [e,cA]
        by_cases e2:d < 0∧ltP p h.aN
        · simp only [e2,cQ,bZ]
          rw [ih,bW (by omega)]
          simp [e2.2,jN]
        · rw [bW e2,ih]
          by_cases e3:d < 0
          · have e4:¬ ltP p h.aN:=fun hh=>e2 ⟨e3,hh⟩
            simp only [e3,fC,List.any_cons,e4,cL,dB,jN,cond_false,cI,List.length_cons,List.length_nil,dI,List.cons_append,List.nil_append]
            split
            · congr 3; omega
            · rfl
          · simp [e3]
  have ins:∀ l:List aT,insP p a l=l.take (l.findIdx (fun h=>decide (ltP p h.aN)))++⟨p,a⟩ :: l.drop (l.findIdx (fun h=>decide (ltP p h.aN))):=by
    intro l
    induction l with
    | nil=>rfl
    | cons h t ih =>
      simp only [insP,jN]
      by_cases e:ltP p h.aN
      · simp [e]
      · simp [e,ih]
  have key2:zc6 (zN4 l p) (-1,0,List.replicate 0 aT.zero)=some (if (zF2 p l).any (fun h=>decide (ltP p h.aN))=true then (((zF2 p l).findIdx (fun h=>decide (ltP p h.aN)):Nat):Int) else -1,zF2 p l):=by
    rw [show ((-1,0,List.replicate 0 aT.zero):Int×Int×List aT)=(fun (i:Nat) (s:Int×List aT)=>(s.1,(i:Int),s.2)) 0 (-1,[]) from rfl,key,fold]
    have:((-1:Int) < 0):=by decide
    simp only [this,fC,List.nil_append,List.length_nil,dJ]
    split <;> rfl
  rw [key2,Option.bind_some]
  unfold zac6 setL
  have hz:zk2 a=decide (a=aA.zero):=rfl
  rw [hz]
  by_cases ha:a=aA.zero
  · simp [ha]
  · simp only [ha,cL,bT,cA,bV]
    have ho:=zaW2 p l
    generalize zF2 p l=o at ho
    have fi:o.findIdx (fun h=>decide (ltP p h.aN))≤o.length:=List.findIdx_le_length
    have hz2:({ aT.zero with }:aT)=aT.zero:=rfl
    by_cases hx:o.any (fun h=>decide (ltP p h.aN))=true
    · simp only [hx,bZ]
      generalize hk:o.findIdx (fun h=>decide (ltP p h.aN))=k at fi
      have hkl:k < o.length:=by rw [← hk]; exact List.findIdx_lt_length_of_exists (by simpa using hx)
      rw [bW (by omega)]
      simp only [zd4 k (by omega),Int.toNat_natCast]
      rw [gdp (by omega),gdp (by omega),gdp (by omega),gdp (by omega),zcC2 o k _ _ (by omega),ins o,hk]
    · have hx':o.any (fun h=>decide (ltP p h.aN))=false:=by simpa using hx
      simp only [hx',bT,cA]
      rw [bY (by decide)]
      have hk:o.findIdx (fun h=>decide (ltP p h.aN))=o.length:=by
        rw [List.findIdx_eq_length]; simpa using hx'
      simp only [zd4 o.length (by omega),Int.toNat_natCast]
      rw [gdp (by omega),gdp (by omega),gdp (by omega),gdp (by omega),zcC2 o o.length _ _ (by omega),ins o,hk]
theorem zaE7 (r:aC):zE6 r=zk8 r:=by
 unfold zE6 zk8
 rw [dP]
 by_cases h1:r.kind=1
 ·simp [h1]
 ·by_cases h2:r.kind=2 <;> simp [h1,h2]
theorem zau1 (r:aC) (a:aA):zs6 r a=zb8 r a:=by
 unfold zs6 zb8 zx8 zs5
 rw [zaE7]
theorem zbm9 (r:aC) (a:aA):zy6 r a=zd5 r a:=by
 unfold zy6 zd5 zq2 zk2
 rw [zaE7,zau1]
theorem zba3 (p:aH):zq7 p=zc9 p:=by
 unfold zq7 zc9 zK9
 rw [dP]; simp; omega
theorem zR4 (r:aC):zk8 r=true ↔ (r.kind=1∧r.aP=1)∨(r.kind=2∧1≤r.aP∧r.aP≤8):=by
 unfold zk8
 by_cases h1:r.kind=1
 ·simp [h1]
 ·by_cases h2:r.kind=2 <;> simp [h1,h2]
theorem zaE8 (r:aC) (a:aA):zb8 r a=true ↔ (r.kind=1∧r.aP=1∧1≤a.mode∧a.mode≤5∧a.aP=0)∨(r.kind=2∧1≤r.aP∧r.aP≤8∧a.mode=0∧1≤a.aP∧a.aP≤r.aP):=by
 unfold zb8 zs5
 have:=zR4 r
 cases h:zk8 r with
 | false =>
  rw [h] at this
  simp only [bT,false_iff] at this
  simp only [cX,bZ,bT,false_iff]
  omega
 | true =>
  rw [h] at this
  simp only [true_iff] at this
  by_cases h1:r.kind=1
  ·simp [h1]; omega
  ·simp [h1]; omega
theorem zba4 (r:aC) (a:aA):zd5 r a=true ↔ (zk8 r=true∧a=aA.zero)∨zb8 r a=true:=by
 unfold zd5 zk2
 have e:(decide (a={ aA.zero with }):Bool)=decide (a=aA.zero):=rfl
 rw [e]
 have hs:zb8 r a=true→zk8 r=true:=by
  rw [zaE8,zR4]; omega
 cases h1:zk8 r <;> cases h2:zb8 r a <;> simp_all
theorem zaR2 {r:aC} {a:aA} (h:zd5 r a=true) (hk:r.kind=1):a.aP=0∧0≤a.mode∧a.mode≤5∧r.aP=1:=by
 rw [zba4,zaE8,zR4] at h
 rcases h with ⟨h1,rfl⟩|h1
 ·simp [aA.zero]; omega
 ·omega
theorem zbd9 {r:aC} {a:aA} (h:zd5 r a=true) (hk:r.kind=2):a.mode=0∧0≤a.aP∧a.aP≤r.aP∧r.aP≤8:=by
 rw [zba4,zaE8,zR4] at h
 rcases h with ⟨h1,rfl⟩|h1
 ·simp [aA.zero]; omega
 ·omega
theorem zah6 {r:aC} {a:aA} (h:zd5 r a=true):0≤a.aP∧a.aP≤8∧0≤a.mode∧a.mode≤5∧1≤r.aP∧r.aP≤8:=by
 rw [zba4,zaE8,zR4] at h
 rcases h with ⟨h1,rfl⟩|h1
 ·simp [aA.zero]; omega
 ·omega
abbrev mC (a b:Int):Bool:=zG8 a b
theorem zcb0 (a b:Int):mC a b=true ↔ (1≤a∧a≤4∧1≤b∧b≤4)∧(a=1∨b=1∨a=b∧a≠4):=by
 unfold mC zG8 zx8
 split
 ·rename_i h; simp at h; simp; omega
 ·rename_i h; simp at h; simp; omega
theorem zci5 (a b:Int):mC a b=mC b a:=by rw [dP,zcb0,zcb0]; omega
theorem zaW3 (a b:Int):zg1 a b=some (mC a b):=by
 unfold zg1 zs5
 by_cases h:(1≤a∧a≤5)∧(1≤b∧b≤5)
 ·obtain ⟨⟨a1,a2⟩,b1,b2⟩:=h
  have wa:IntKind.i64.wrap (a - 1)=a - 1:=zo7 (by omega) (by omega)
  have wb:IntKind.i64.wrap (b - 1)=b - 1:=zo7 (by omega) (by omega)
  simp only [wa,wb]
  rw [gdp (fun _=>by omega),gdp (fun _=>by omega)]
  congr 1
  have ha:a=1∨a=2∨a=3∨a=4∨a=5:=by omega
  have hb:b=1∨b=2∨b=3∨b=4∨b=5:=by omega
  rcases ha with rfl|rfl|rfl|rfl|rfl <;> rcases hb with rfl|rfl|rfl|rfl|rfl <;> decide
 ·have hv:(((decide (1≤a))&&(decide (a≤5)))&&((decide (1≤b))&&(decide (b≤5))))=false:=by
   rw [dD]; intro hh; simp at hh; omega
  rw [hv]
  rw [gdp (fun h=>by cases h),gdp (fun h=>by cases h)]
  have:mC a b=false:=by rw [dD]; intro hh; rw [zcb0] at hh; omega
  rw [this]; rfl
def zax2 (b a:aA):Prop:=b.mode≠0∧a.mode≠0∧mC b.mode a.mode=false
instance (b a:aA):Decidable (zax2 b a):=by unfold zax2; infer_instance
def sumU:List aA→Int
 | []=>0
 | a :: l=>a.aP+sumU l
structure CompP (r:aC) (l:List aA):Prop where
 perm:∀ a ∈ l,zd5 r a=true
 sum:sumU l≤r.aP
 pair:l.Pairwise fun b a=>¬ zax2 b a
instance (r:aC) (l:List aA):Decidable (CompP r l) :=
 decidable_of_iff ((∀ a ∈ l,zd5 r a=true)∧sumU l≤r.aP∧l.Pairwise fun b a=>¬ zax2 b a) ⟨fun ⟨a,b,c⟩=>⟨a,b,c⟩,fun ⟨a,b,c⟩=>⟨a,b,c⟩⟩
def zbi8 (r:aC) (l:List aA):Bool:=zk8 r&&decide (CompP r l)
theorem zbS1 {l:List aA} (h:∀ a ∈ l,0≤a.aP):0≤sumU l:=by
 induction l with
 | nil=>simp [sumU]
 | cons a l ih =>
  have:=ih fun b hb=>h b (.tail _ hb)
  have:=h a (.head _)
  simp only [sumU]; omega
def zaT3 (r:aC):List aA→List aA→Int→Bool
 | [],_,_=>true
 | a :: t,prev,s=>zd5 r a&&(decide (s+a.aP≤r.aP)&&(decide (∀ b ∈ prev,¬ zax2 b a)&&zaT3 r t (prev++[a]) (s+a.aP)))
theorem zbe0 (r:aC) (hr:0≤r.aP):∀ (l prev:List aA) (s:Int),s≤r.aP→(zaT3 r l prev s=true ↔ (∀ a ∈ l,zd5 r a=true)∧s+sumU l≤r.aP∧(∀ b ∈ prev,∀ a ∈ l,¬ zax2 b a)∧l.Pairwise fun b a=>¬ zax2 b a)
 | [],prev,s,hs=>by simp [zaT3,sumU]; exact hs
 | a :: t,prev,s,hs=>by
  simp only [zaT3,bS,bV,List.forall_mem_cons,dA,sumU]
  constructor
  ·rintro ⟨h1,h2,h3,h4⟩
   rw [zbe0 r hr t (prev++[a]) (s+a.aP) h2] at h4
   obtain ⟨k1,k2,k3,k4⟩:=h4
   refine ⟨⟨h1,k1⟩,by omega,fun b hb=>⟨h3 b hb,fun c hc=>k3 b (by simp [hb]) c hc⟩,fun c hc=>k3 a (by simp) c hc,k4⟩
  ·rintro ⟨⟨h1,k1⟩,h2,h3,h4,h5⟩
   have hn:0≤sumU t:=zbS1 fun b hb=>(zah6 (k1 b hb)).1
   have h6:s+a.aP≤r.aP:=by omega
   refine ⟨h1,h6,fun b hb=>(h3 b hb).1,?_⟩
   rw [zbe0 r hr t (prev++[a]) (s+a.aP) h6]
   refine ⟨k1,by omega,fun b hb c hc=>?_,h5⟩
   rcases dF.1 hb with hb|hb
   ·exact (h3 b hb).2 c hc
   ·simp at hb; subst hb; exact h4 c hc
theorem zbS2 (r:aC) (l:List aA) (hs:zk8 r=true):zbi8 r l=zaT3 r l [] 0:=by
 have hr:1≤r.aP:=by rw [zR4] at hs; omega
 unfold zbi8
 rw [hs,cF,dP,zbe0 r (by omega) l [] 0 (by omega),bV]
 exact ⟨fun ⟨a,b,c⟩=>⟨a,by omega,by simp,c⟩,fun ⟨a,b,_,c⟩=>⟨a,by omega,c⟩⟩
def zaW4 (seen:Arr Bool 6) (m:Int):Bool:=(List.range' 0 6).all fun k=>!(seen.get k false)||mC k m
theorem zbJ6 (l:List aA) (g:Int×Int×Arr Bool 6):zc6 (zA4 l g) 0=some (if zaW4 g.2.2 (l.getD g.2.1.toNat aA.zero).mode=true then .inl () else .inr false):=by
 have key:=zF1 (body:=zA4 l g) 6 (fun i=>if (!(g.2.2.get i false)||mC i (l.getD g.2.1.toNat aA.zero).mode)=true then none else some (.inr false)) (.inl ()) (fun i hi=>by
  unfold zA4
  have h3:0≤(i:Int)∧(i:Int) < 6:=by omega
  have h4:IntKind.i64.wrap ((i:Int)+1)=(i:Int)+1:=zo7 (by omega) (by omega)
  simp only [h3.1,h3.2,cQ,zk1,cB,bZ,Int.toNat_natCast,zaW3,h4]
  cases Arr.get g.2.2 i false <;> cases mC i (l.getD g.2.1.toNat aA.zero).mode <;> rfl) (by unfold zA4; simp)
 rw [key,zO8]
 unfold zaW4
 split <;> simp_all
theorem zcN3 (s:Arr Bool 6) (i k:Nat) (hi:i < 6) (hk:k < 6):(s.put i true).get k false=if k=i then true else s.get k false:=by
 obtain ⟨l,hl⟩:=s
 simp only [Arr.put,Arr.get,zab8 hi,zab8 hk,bU,List.getElem?_set]
 by_cases h:k=i
 ·subst h; simp [hl,hk]
 ·rw [bW (fun e=>h e.symm),bW h]
theorem zaN6 (r:aC) (l:List aA) (hl:l.length≤1000000):zh9 r l=some (zbi8 r l):=by
 unfold zh9
 cases hs:zk8 r with
 | false=>simp [zbi8,hs]
 | true =>
  have hru:1≤r.aP∧r.aP≤8:=by rw [zR4] at hs; omega
  rw [zbS2 r l hs]
  simp only [cP,bT,cA]
  have key:=zz1 (body:=zE7 r l) l aA.zero (fun i (s:Int×Arr Bool 6)=>(s.1,(i:Int),s.2))
   (fun i a s=>some (if zd5 r a=false∨r.aP < s.1+a.aP then .inr false else if a.mode=0 then .inl (s.1+a.aP,s.2) else if zaW4 s.2 a.mode=true then .inl (s.1+a.aP,s.2.put a.mode.toNat true) else .inr false)) (fun _=>true) (fun i s=>0≤s.1∧s.1≤8)
   (fun i s hi hi2=>by
    refine ⟨?_,fun s' h=>?_⟩
    ·unfold zE7
     have h3:0≤(i:Int)∧(i:Int) < (l.length:Int):=by omega
     simp only [h3.1,h3.2,cQ,zk1,cB,bZ,Int.toNat_natCast,zd4 i (by omega),Option.map_some,zbJ6]
     cases hp:zd5 r (l.getD i aA.zero) with
     | false=>simp [wmap]
     | true =>
      have hb:=zah6 hp
      have hw:IntKind.i64.wrap (s.1+(l.getD i aA.zero).aP)=s.1+(l.getD i aA.zero).aP:=zo7 (by omega) (by omega)
      simp only [hw,cP,dB,bV,gL,hX]
      by_cases h4:r.aP < s.1+(l.getD i aA.zero).aP
      ·simp only [h4,bZ,wmap]
      ·by_cases h5:(l.getD i aA.zero).mode=0
       ·simp only [h4,cA,h5,bZ,wmap]
       ·simp only [h4,h5,cA]
        by_cases h6:zaW4 s.2 (l.getD i aA.zero).mode=true
        ·simp only [h6,bZ,Option.bind_some,wmap]
         unfold zM3
         simp only [Int.toNat_natCast,hw,zd4 i (by omega)]
         rw [gdp (by omega)]
        ·simp only [h6,bT,cA,wmap,Option.bind_some]
    ·simp only [cU] at h
     split at h
     ·cases h
     ·rename_i hn
      simp only [kC,gC] at hn
      have hb:=zah6 hn.1
      split at h
      ·cases h; simp only; omega
      ·split at h
       ·cases h; simp only; omega
       ·cases h)
   (fun s hs=>by unfold zE7; simp) (0,Arr.rep 6 false) (by simp)
  have fold:∀ (l prev:List aA) (i:Nat) (s:Int) (seen:Arr Bool 6),(∀ b ∈ prev,0≤b.mode∧b.mode≤5)→(∀ k,k < 6→seen.get k false=decide (∃ b ∈ prev,b.mode≠0∧b.mode=(k:Int))) →
    walk (fun i a (s:Int×Arr Bool 6)=>some (if zd5 r a=false∨r.aP < s.1+a.aP then .inr false else if a.mode=0 then .inl (s.1+a.aP,s.2) else if zaW4 s.2 a.mode=true then .inl (s.1+a.aP,s.2.put a.mode.toNat true) else .inr false)) (fun _=>true) l i (s,seen)=some (zaT3 r l prev s):=by
   intro l
   induction l with
   | nil=>intro prev i s seen _ _; rfl
   | cons a t ih =>
    intro prev i s seen hpv hsn
    simp only [walk,zaT3]
    cases hp:zd5 r a with
    | false=>simp
    | true =>
     have hb:=zah6 hp
     by_cases h4:r.aP < s+a.aP
     ·simp [h4]; intro h; omega
     ·have h4':s+a.aP≤r.aP:=by omega
      simp only [gL,hX,h4,cA,h4',cB,cF]
      by_cases h5:a.mode=0
      ·simp only [h5,bZ]
       rw [ih (prev++[a]) (i+1) (s+a.aP) seen (by
        intro b hb'; rcases dF.1 hb' with h|h
        ·exact hpv b h
        ·simp at h; subst h; omega) (by
        intro k hk
        rw [hsn k hk,jA]
        constructor
        ·rintro ⟨b,h1,h2⟩; exact ⟨b,by simp [h1],h2⟩
        ·rintro ⟨b,h1,h2,h3⟩
         rcases dF.1 h1 with h|h
         ·exact ⟨b,h,h2,h3⟩
         ·simp at h; subst h; exact absurd h5 h2)]
       have:∀ b ∈ prev,¬ zax2 b a:=fun b _ hc=>hc.2.1 h5
       rw [cR this,cF]
      ·simp only [h5,cA]
       have hse:zaW4 seen a.mode=decide (∀ b ∈ prev,¬ zax2 b a):=by
        rw [dP,bV]
        unfold zaW4
        simp only [eK,List.mem_range'_1,dK,cN]
        constructor
        ·intro hh b hb' ⟨c1,c2,c3⟩
         have hbb:=hpv b hb'
         rcases hh b.mode.toNat (by omega) with h|h
         ·rw [hsn _ (by omega)] at h
          simp only [cG,not_exists,not_and] at h
          exact h b hb' c1 (by omega)
         ·rw [show ((b.mode.toNat:Nat):Int)=b.mode by omega,c3] at h; cases h
        ·intro hh k hk
         rw [hsn k (by omega)]
         by_cases he:∃ b ∈ prev,b.mode≠0∧b.mode=(k:Int)
         ·obtain ⟨b,h1,h2,h3⟩:=he
          right
          rw [← h3]
          have:=hh b h1
          unfold zax2 at this
          simp only [not_and,gC] at this
          exact this h2 h5
         ·left; simpa using he
       rw [hse]
       by_cases h7:∀ b ∈ prev,¬ zax2 b a
       ·rw [cR h7]
        simp only [bZ,cF]
        rw [ih (prev++[a]) (i+1) (s+a.aP) (seen.put a.mode.toNat true) (by
         intro b hb'; rcases dF.1 hb' with h|h
         ·exact hpv b h
         ·simp at h; subst h; omega) (by
         intro k hk
         rw [zcN3 seen a.mode.toNat k (by omega) hk,hsn k hk]
         by_cases hka:k=a.mode.toNat
         ·rw [bY hka]
          exact (cR ⟨a,by simp,h5,by omega⟩).symm
         ·rw [bW hka,jA]
          constructor
          ·rintro ⟨b,h1,h2⟩; exact ⟨b,by simp [h1],h2⟩
          ·rintro ⟨b,h1,h2,h3⟩
           rcases dF.1 h1 with h|h
           ·exact ⟨b,h,h2,h3⟩
           ·simp at h; subst h; omega)]
       ·rw [eD h7]; rfl
  have k2:=fold l [] 0 0 (Arr.rep 6 false) (by simp) (by
   intro k hk
   have:k=0∨k=1∨k=2∨k=3∨k=4∨k=5:=by omega
   rcases this with rfl|rfl|rfl|rfl|rfl|rfl <;> rfl)
  rw [show ((0,0,Arr.rep 6 false):Int×Int×Arr Bool 6)=(fun (i:Nat) (s:Int×Arr Bool 6)=>(s.1,(i:Int),s.2)) 0 (0,Arr.rep 6 false) from rfl,key,k2]
  rfl
theorem zbe1 (l:List aA) (g:Int×Int) (h0:0≤g.2) (hl:g.2 < (l.length:Int)) (hll:l.length≤1000000):zc6 (zB9 l g) 0 =
  some (if (List.range' 0 g.2.toNat).all (fun k=>decide (l.getD g.2.toNat aA.zero=aA.zero)||(decide (l.getD k aA.zero=aA.zero)||mC (l.getD g.2.toNat aA.zero).mode (l.getD k aA.zero).mode))=true then .inl () else .inr false):=by
 have hz:∀ a:aA,zq2 a=decide (a=aA.zero):=fun _=>rfl
 have key:=zF1 (body:=zB9 l g) g.2.toNat (fun i=>if (decide (l.getD g.2.toNat aA.zero=aA.zero)||(decide (l.getD i aA.zero=aA.zero)||mC (l.getD g.2.toNat aA.zero).mode (l.getD i aA.zero).mode))=true then none else some (.inr false)) (.inl ()) (fun i hi=>by
  unfold zB9
  have h3:(i:Int) < g.2:=by omega
  have h4:IntKind.i64.wrap ((i:Int)+1)=(i:Int)+1:=zo7 (by omega) (by omega)
  have h5:0≤(i:Int)∧(i:Int) < (l.length:Int):=by omega
  simp only [h3,cB,bZ,Int.toNat_natCast,h4,h5.1,h5.2,h0,hl,cQ,dU,zk1,hz]
  cases decide (l.getD g.2.toNat aA.zero=aA.zero) <;> cases decide (l.getD i aA.zero=aA.zero) <;> cases hm:zG8 (l.getD g.2.toNat aA.zero).mode (l.getD i aA.zero).mode <;> simp only [mC,hm] <;> rfl) (by unfold zB9; rw [bW]; simp; omega)
 rw [key,zO8]
 split <;> simp_all
theorem zaS0 (r:aC) (l:List aA) (hl:l.length≤1000000):zj2 r l=some (zbi8 r l):=by
 unfold zj2
 rw [zaE7]
 cases hs:zk8 r with
 | false=>simp [zbi8,hs]
 | true =>
  have hru:1≤r.aP∧r.aP≤8∧(r.kind=1∨r.kind=2):=by rw [zR4] at hs; omega
  rw [zbS2 r l hs]
  simp only [cP,bT,cA]
  have key:=zz1 (body:=zy4 r l) l aA.zero (fun i (s:Int)=>(s,(i:Int)))
   (fun i a s=>some (if zd5 r a=false then .inr (.inr false) else if r.kind=2 then (if r.aP < s+a.aP then .inr (.inr false) else .inl (s+a.aP)) else
    if (List.range' 0 i).all (fun k=>decide (a=aA.zero)||(decide (l.getD k aA.zero=aA.zero)||mC a.mode (l.getD k aA.zero).mode))=true then .inl s else .inr (.inr false))) (fun _=>Sum.inl (β:=Bool) ()) (fun i s=>0≤s∧s≤8)
   (fun i s hi hi2=>by
    refine ⟨?_,fun s' h=>?_⟩
    ·unfold zy4
     have h3:0≤(i:Int)∧(i:Int) < (l.length:Int):=by omega
     simp only [h3.1,h3.2,cQ,zk1,cB,bZ,Int.toNat_natCast,zd4 i (by omega),Option.map_some,zbm9,zbe1 l (s,(i:Int)) h3.1 h3.2 hl]
     cases hp:zd5 r (l.getD i aA.zero) with
     | false=>simp [wmap]
     | true =>
      have hb:=zah6 hp
      have hw:IntKind.i64.wrap (s+(l.getD i aA.zero).aP)=s+(l.getD i aA.zero).aP:=zo7 (by omega) (by omega)
      simp only [hw,cP,bT,cA,gL,bV]
      by_cases h4:r.kind=2
      ·by_cases h5:r.aP < s+(l.getD i aA.zero).aP
       ·simp only [h4,h5,bZ,wmap]
       ·simp only [h4,h5,bZ,cA,wmap]
      ·simp only [h4,cA]
       split
       ·simp only [zY0,wmap,zd4 i (by omega:i < 4611686018427387904),Option.bind_some]
       ·simp only [wmap,Option.bind_some]
    ·simp only [cU] at h
     split at h
     ·cases h
     ·rename_i hn
      simp only [gC] at hn
      have hb:=zah6 hn
      split at h
      ·split at h
       ·cases h
       ·cases h; omega
      ·split at h
       ·cases h; exact hi2
       ·cases h)
   (fun s hs=>by unfold zy4; simp) 0 (by simp)
  have fold:∀ (t prev:List aA) (s:Int),l=prev++t→(∀ b ∈ prev,zd5 r b=true)→(r.kind=1→s=0)→s≤r.aP →
    walk (fun i a (s:Int)=>some (if zd5 r a=false then .inr (.inr false) else if r.kind=2 then (if r.aP < s+a.aP then .inr (.inr false) else .inl (s+a.aP)) else
     if (List.range' 0 i).all (fun k=>decide (a=aA.zero)||(decide (l.getD k aA.zero=aA.zero)||mC a.mode (l.getD k aA.zero).mode))=true then .inl s else .inr (.inr false))) (fun _=>Sum.inl (β:=Bool) ()) t prev.length s=some (if zaT3 r t prev s=true then .inl () else .inr false):=by
   intro t
   induction t with
   | nil=>intro prev s _ _ _ _; rfl
   | cons a t ih =>
    intro prev s hlt hpp hs0 hsu
    simp only [walk,zaT3]
    by_cases hp:zd5 r a=true
    ·have hpp':∀ b ∈ prev++[a],zd5 r b=true:=fun b hb=>by
      rcases dF.1 hb with h|h
      ·exact hpp b h
      ·simp at h; subst h; exact hp
     have hlt':l=(prev++[a])++t:=by rw [hlt]; simp
     have hlen:(prev++[a]).length=prev.length+1:=by simp
     rcases hru.2.2 with hk|hk
     ·
      have ha:=zaR2 hp hk
      have hs:=hs0 hk
      subst hs
      have hk2:¬ r.kind=2:=by omega
      have hsum:(0:Int)+a.aP≤r.aP:=by omega
      simp only [hp,gL,cA,hk2,hsum,cB,cF]
      have hall:(List.range' 0 prev.length).all (fun k=>decide (a=aA.zero)||(decide (l.getD k aA.zero=aA.zero)||mC a.mode (l.getD k aA.zero).mode))=decide (∀ b ∈ prev,¬ zax2 b a):=by
       rw [dP,bV]
       simp only [eK,List.mem_range'_1,dK,bV]
       have hget:∀ k,k < prev.length→l.getD k aA.zero=prev.getD k aA.zero:=fun k hk=>by rw [hlt,zco3 _ _ _ _ hk]
       have hmem:∀ k,k < prev.length→prev.getD k aA.zero ∈ prev:=fun k hk=>by
        rw [bU,bX hk]; exact gW hk
       have zas1:∀ b,zd5 r b=true→(b=aA.zero ↔ b.mode=0):=fun b hb=>by
        have:=zaR2 hb hk
        rw [aA.ext_iff]; simp [aA.zero]; omega
       constructor
       ·intro hh b hb ⟨c1,c2,c3⟩
        obtain ⟨k,hk1,hk2⟩:=eV.1 hb
        have e:prev.getD k aA.zero=b:=by rw [bU,bX hk1,Option.getD_some,hk2]
        rcases hh k (by omega) with h|h|h
        ·exact c2 ((zas1 a hp).1 h)
        ·rw [hget k hk1,e] at h; exact c1 ((zas1 b (hpp b hb)).1 h)
        ·rw [hget k hk1,e,zci5,c3] at h; cases h
       ·intro hh k hk1
        have hk2:k < prev.length:=by omega
        rw [hget k hk2]
        have h1:=hh _ (hmem k hk2)
        have h2:=hpp _ (hmem k hk2)
        unfold zax2 at h1
        rw [zas1 a hp,zas1 _ h2]
        by_cases e1:a.mode=0
        ·exact .inl e1
        ·by_cases e2:(prev.getD k aA.zero).mode=0
         ·exact .inr (.inl e2)
         ·refine .inr (.inr ?_)
          rw [zci5]
          simp only [not_and,gC] at h1
          exact h1 e2 e1
      rw [hall]
      by_cases h7:∀ b ∈ prev,¬ zax2 b a
      ·rw [cR h7]
       simp only [bZ,cF]
       have:=ih (prev++[a]) 0 hlt' hpp' (fun _=>rfl) (by omega)
       rw [hlen] at this
       simp only [hk2,cA] at this
       rw [this,ha.1]; rfl
      ·rw [eD h7]; rfl
     ·
      have ha:=zbd9 hp hk
      simp only [hp,gL,cA,hk,bZ,cF]
      have h7:∀ b ∈ prev,¬ zax2 b a:=fun b _ hc=>hc.2.1 ha.1
      by_cases h5:r.aP < s+a.aP
      ·have:¬ s+a.aP≤r.aP:=by omega
       simp [h5,this]
      ·have:s+a.aP≤r.aP:=by omega
       rw [cR h7]
       simp only [h5,cA,this,cB,cF]
       have h8:=ih (prev++[a]) (s+a.aP) hlt' hpp' (fun h=>by omega) this
       rw [hlen] at h8
       simp only [hk,bZ] at h8
       exact h8
    ·simp [hp]
  rw [show ((0,0):Int×Int)=(fun (i:Nat) (s:Int)=>(s,(i:Int))) 0 0 from rfl,key]
  have k2:=fold l [] 0 rfl (by simp) (fun _=>rfl) (by omega)
  rw [List.length_nil] at k2
  rw [k2]
  cases zaT3 r l [] 0 <;> rfl
structure GoodP (r:aC) (l:List aT):Prop where
 each:∀ h ∈ l,zc9 h.aN=true∧zb8 r h.aI=true
 asc:l.Pairwise fun a b=>ltP a.aN b.aN
instance (r:aC) (l:List aT):Decidable (GoodP r l) :=
 decidable_of_iff ((∀ h ∈ l,zc9 h.aN=true∧zb8 r h.aI=true)∧l.Pairwise fun a b=>ltP a.aN b.aN) ⟨fun ⟨a,b⟩=>⟨a,b⟩,fun ⟨a,b⟩=>⟨a,b⟩⟩
def zab2 (r:aC) (l:List aT):Bool:=zk8 r&&(decide (l.length≤8)&&(decide (GoodP r l)&&decide (CompP r (l.map (·.aI)))))
def zah7 (r:aC):List aT→Option aH→Bool
 | [],_=>true
 | h :: t,pv=>zc9 h.aN&&(zb8 r h.aI&&((match pv with|none=>true|some q=>decide (ltP q h.aN))&&zah7 r t (some h.aN)))
theorem zbe2 (r:aC):∀ (l:List aT) (pv:Option aH),zah7 r l pv=true ↔ GoodP r l∧∀ q,pv=some q→∀ h ∈ l,ltP q h.aN
 | [],pv=>by
  simp only [zah7,iZ,iG,dU,iF,true_iff]
  exact ⟨by simp,.nil⟩
 | h :: t,pv=>by
  simp only [zah7,bS]
  rw [zbe2 r t (some h.aN)]
  constructor
  ·rintro ⟨h1,h2,h3,⟨h4,h5⟩,h6⟩
   refine ⟨⟨fun x hx=>?_,dA.2 ⟨fun x hx=>h6 _ rfl x hx,h5⟩⟩,fun q hq x hx=>?_⟩
   ·rcases cE.1 hx with rfl|hx
    ·exact ⟨h1,h2⟩
    ·exact h4 x hx
   ·subst hq
    simp only [bV] at h3
    rcases cE.1 hx with rfl|hx
    ·exact h3
    ·exact zau8 h3 (h6 _ rfl x hx)
  ·rintro ⟨⟨h1,h2⟩,h3⟩
   rw [dA] at h2
   refine ⟨(h1 h (.head _)).1,(h1 h (.head _)).2,?_,⟨fun x hx=>h1 x (.tail _ hx),h2.2⟩,fun q hq x hx=>by cases hq; exact h2.1 x hx⟩
   cases pv with
   | none=>rfl
   | some q=>exact cR (h3 q rfl h (.head _))
theorem zao2 (r:aC) (l:List aT):zp0 r l=some (zab2 r l):=by
 unfold zp0 zab2
 cases hs:zk8 r with
 | false=>simp
 | true =>
  by_cases h8:8 < (l.length:Int)
  ·have:¬ l.length≤8:=by omega
   simp [h8,this]
  ·have hl8:l.length≤8:=by omega
   simp only [cP,dB,h8,cL,bT,cA,hl8,cB,cF]
   have key:=zz1 (body:=zO5 r l) l aT.zero (fun i (s:List aA)=>((i:Int),s))
    (fun i h s=>some (if zc9 h.aN=true∧zb8 r h.aI=true∧(i=0∨ltP (l.getD (i - 1) aT.zero).aN h.aN) then .inl (s++[h.aI]) else .inr (.inr false))) (fun s=>Sum.inl (β:=Bool) s) (fun i s=>s.length≤i)
    (fun i s hi hs=>by
     refine ⟨?_,fun s' h=>?_⟩
     ·unfold zO5
      have h1:s.length+1≤4294967296:=by omega
      have h3:0≤(i:Int)∧(i:Int) < (l.length:Int):=by omega
      simp only [h1,h3.1,h3.2,cQ,zk1,cB,bZ,Int.toNat_natCast,zV0,zd4 i (by omega),Option.map_some,bV,bS,dK,cN]
      by_cases e1:zc9 (l.getD i aT.zero).aN=false∨zb8 r (l.getD i aT.zero).aI=false
      ·rw [bY e1,bW (by rintro ⟨k1,k2,_⟩; rcases e1 with e|e <;> simp_all)]; rfl
      ·rw [bW e1]
       simp only [kC,gC] at e1
       by_cases e2:i=0
       ·subst e2
        rw [gdp (by omega)]
        simp only [Int.natCast_zero,fV,cA,Option.bind_some,iA,e1,cQ,true_or,bZ,wmap]
       ·have w:IntKind.i64.wrap ((i:Int) - 1)=((i - 1:Nat):Int):=zad4 i (by omega) (by omega)
        rw [gdp (by rw [w]; omega)]
        simp only [w,Int.toNat_natCast,show (0:Int) < (i:Int) by omega,bZ,Option.bind_some,fC,zah5,e1,e2,hX]
        by_cases e3:ltP (l.getD (i - 1) aT.zero).aN (l.getD i aT.zero).aN
        ·simp only [e3,not_true,cA,bZ,wmap]
        ·simp only [e3,iP,bZ,cA,wmap]
     ·simp only [cU] at h
      split at h
      ·cases h; simp; omega
      ·cases h)
    (fun s hs=>by unfold zO5; simp) [] (by simp)
   have fold:∀ (t prev:List aT) (s:List aA),l=prev++t →
     walk (fun i h (s:List aA)=>some (if zc9 h.aN=true∧zb8 r h.aI=true∧(i=0∨ltP (l.getD (i - 1) aT.zero).aN h.aN) then .inl (s++[h.aI]) else .inr (.inr false))) (fun s=>Sum.inl (β:=Bool) s) t prev.length s =
      some (if zah7 r t (prev.getLast?.map (·.aN))=true then .inl (s++t.map (·.aI)) else .inr false):=by
    intro t
    induction t with
    | nil=>intro prev s _; simp [walk,zah7]
    | cons h t ih =>
     intro prev s hlt
     simp only [walk]
     have hq:(prev.length=0∨ltP (l.getD (prev.length - 1) aT.zero).aN h.aN) ↔ (match prev.getLast?.map (·.aN) with|none=>true|some q=>decide (ltP q h.aN))=true:=by
      rcases iU prev with rfl|⟨pp,x,rfl⟩
      ·simp
      ·have:(l.getD ((pp.concat x).length - 1) aT.zero)=x:=by
        rw [hlt]; simp [bU]
       rw [this]; simp
     by_cases e:zc9 h.aN=true∧zb8 r h.aI=true∧(prev.length=0∨ltP (l.getD (prev.length - 1) aT.zero).aN h.aN)
     ·rw [bY e]
      have:=ih (prev++[h]) (s++[h.aI]) (by rw [hlt]; simp)
      rw [show (prev++[h]).length=prev.length+1 by simp] at this
      simp only
      have ht:zah7 r (h :: t) (prev.getLast?.map (·.aN))=zah7 r t (some h.aN):=by simp only [zah7,e.1,e.2.1,hq.1 e.2.2,cF]
      rw [this,ht]
      simp
     ·rw [bW e]
      rw [hq] at e
      have hf:zah7 r (h :: t) (prev.getLast?.map (·.aN))=false:=by
       rw [dD]
       intro hh
       simp only [zah7,bS] at hh
       exact e ⟨hh.1,hh.2.1,hh.2.2.1⟩
      rw [hf]; rfl
   have k2:=fold l [] [] rfl
   rw [List.length_nil] at k2
   rw [show ((0,[]):Int×List aA)=(fun (i:Nat) (s:List aA)=>((i:Int),s)) 0 [] from rfl,key,k2]
   have hg:=zbe2 r l none
   by_cases e:zah7 r l none=true
   ·have hgp:GoodP r l:=(hg.1 e).1
    rw [bY (by simpa using e)]
    simp only [Option.bind_some,zag2,List.nil_append]
    rw [zaN6 r _ (by simp; omega)]
    simp [zbi8,hs,hgp]
   ·have hgp:¬ GoodP r l:=fun h=>e (hg.2 ⟨h,by simp⟩)
    rw [bW (by simpa using e)]
    simp [hgp]
theorem zbe3 (l:List aT) (hl:l.length≤1000000):zf7 l=some (l.map (·.aI)):=by
 unfold zf7
 have key:=zz1 (body:=zO3 l) l aT.zero (fun i (s:List aA)=>((i:Int),s)) (fun i h s=>some (.inl (zas0 s (some h.aI)))) (fun s=>s) (fun i s=>s.length≤i)
  (fun i s hi hs=>by
   refine ⟨?_,fun s' h=>?_⟩
   ·unfold zO3
    have h1:s.length+1≤4294967296:=by omega
    have h3:0≤(i:Int)∧(i:Int) < (l.length:Int):=by omega
    simp only [h1,h3.1,h3.2,cQ,zk1,cB,bZ,Int.toNat_natCast,zd4 i (by omega),Option.map_some,wmap,zas0]
   ·simp only [cU,fD] at h; subst h; simp [zas0]; omega)
  (fun s hs=>by unfold zO3; simp) [] (by simp)
 rw [show ((0,[]):Int×List aA)=(fun (i:Nat) (s:List aA)=>((i:Int),s)) 0 [] from rfl,key,zau7 (fun h:aT=>some h.aI)]
 simp [zaf8]
theorem zax3 (r:aC) (l:List aT):zr6 r l=some (zab2 r l):=by
 unfold zr6 zab2
 rw [zaE7]
 cases hs:zk8 r with
 | false=>simp
 | true =>
  by_cases h8:8 < (l.length:Int)
  ·have:¬ l.length≤8:=by omega
   simp [h8,this]
  ·have hl8:l.length≤8:=by omega
   simp only [cP,dB,h8,cL,bT,cA,hl8,cB,cF]
   have key:=zz1 (body:=zU7 r l) l aT.zero (fun i (_:Unit)=>(i:Int))
    (fun i h _=>some (if zc9 h.aN=true∧zb8 r h.aI=true∧(i=0∨ltP (l.getD (i - 1) aT.zero).aN h.aN) then .inl () else .inr (.inr false))) (fun _=>Sum.inl (β:=Bool) ()) (fun i s=>True)
    (fun i s hi _=>by
     refine ⟨?_,fun _ _=>trivial⟩
     unfold zU7
     have h3:0≤(i:Int)∧(i:Int) < (l.length:Int):=by omega
     simp only [h3.1,h3.2,cQ,dU,zk1,cB,bZ,Int.toNat_natCast,zd4 i (by omega),Option.map_some,zba3,zau1]
     by_cases e2:i=0
     ·subst e2
      rw [gdp (by simp)]
      by_cases e1:zc9 (l.getD 0 aT.zero).aN=true
      ·by_cases e3:zb8 r (l.getD 0 aT.zero).aI=true
       ·simp only [e1,e3]; simp [wmap]
       ·simp only [e1,e3]; simp [wmap]
      ·simp only [e1]; simp [wmap]
     ·have w:IntKind.i64.wrap ((i:Int) - 1)=((i - 1:Nat):Int):=zad4 i (by omega) (by omega)
      rw [gdp (fun _=>by rw [w]; omega)]
      simp only [w,Int.toNat_natCast,show (0:Int) < (i:Int) by omega,cB,cF,zah5,e2,hX]
      by_cases e1:zc9 (l.getD i aT.zero).aN=true
      ·by_cases e3:zb8 r (l.getD i aT.zero).aI=true
       ·by_cases e4:ltP (l.getD (i - 1) aT.zero).aN (l.getD i aT.zero).aN
        ·simp only [e1,e3,e4]; simp [wmap]
        ·simp only [e1,e3,e4]; simp [wmap]
       ·simp only [e1,e3]; simp [wmap]
      ·simp only [e1]; simp [wmap])
    (fun s hs=>by unfold zU7; simp) () trivial
   have fold:∀ (t prev:List aT),l=prev++t →
     walk (fun i h (_:Unit)=>some (if zc9 h.aN=true∧zb8 r h.aI=true∧(i=0∨ltP (l.getD (i - 1) aT.zero).aN h.aN) then .inl () else .inr (.inr false))) (fun _=>Sum.inl (β:=Bool) ()) t prev.length () =
      some (if zah7 r t (prev.getLast?.map (·.aN))=true then .inl () else .inr false):=by
    intro t
    induction t with
    | nil=>intro prev _; simp [walk,zah7]
    | cons h t ih =>
     intro prev hlt
     simp only [walk]
     have hq:(prev.length=0∨ltP (l.getD (prev.length - 1) aT.zero).aN h.aN) ↔ (match prev.getLast?.map (·.aN) with|none=>true|some q=>decide (ltP q h.aN))=true:=by
      rcases iU prev with rfl|⟨pp,x,rfl⟩
      ·simp
      ·have:(l.getD ((pp.concat x).length - 1) aT.zero)=x:=by
        rw [hlt]; simp [bU]
       rw [this]; simp
     by_cases e:zc9 h.aN=true∧zb8 r h.aI=true∧(prev.length=0∨ltP (l.getD (prev.length - 1) aT.zero).aN h.aN)
     ·rw [bY e]
      have:=ih (prev++[h]) (by rw [hlt]; simp)
      rw [show (prev++[h]).length=prev.length+1 by simp] at this
      simp only
      have ht:zah7 r (h :: t) (prev.getLast?.map (·.aN))=zah7 r t (some h.aN):=by simp only [zah7,e.1,e.2.1,hq.1 e.2.2,cF]
      rw [this,ht]
      simp
     ·rw [bW e]
      rw [hq] at e
      have hf:zah7 r (h :: t) (prev.getLast?.map (·.aN))=false:=by
       rw [dD]
       intro hh
       simp only [zah7,bS] at hh
       exact e ⟨hh.1,hh.2.1,hh.2.2.1⟩
      rw [hf]; rfl
   have k2:=fold l [] rfl
   rw [List.length_nil] at k2
   rw [show (0:Int)=(fun (i:Nat) (_:Unit)=>(i:Int)) 0 () from rfl,key,k2]
   have hg:=zbe2 r l none
   by_cases e:zah7 r l none=true
   ·have hgp:GoodP r l:=(hg.1 e).1
    rw [bY (by simpa using e)]
    simp only [Option.bind_some,zan6]
    rw [zbe3 l (by omega),Option.bind_some,zaS0 r _ (by simp; omega)]
    simp [zbi8,hs,hgp]
   ·have hgp:¬ GoodP r l:=fun h=>e (hg.2 ⟨h,by simp⟩)
    rw [bW (by simpa using e)]
    simp [hgp]
theorem zax4 {r:aC} {l:List aT} (h:zab2 r l=true):l.length≤8:=by
 unfold zab2 at h; simp at h; exact h.2.1
def zap3 (r:aC) (l:List aT) (p:aH) (a:aA):Bool:=zab2 r l&&(zc9 p&&zb8 r a)
def zbE7 (r:aC) (l:List aT) (p:aH) (a:aA):Bool:=zap3 r l p a&&zab2 r (setL l p a)
theorem zco5 (r:aC) (l:List aT) (p:aH) (a:aA):zt7 r l p a=some (zap3 r l p a):=by
 unfold zt7 zap3
 rw [zao2,Option.bind_some,gH]
theorem zcN4 (r:aC) (l:List aT) (p:aH) (a:aA):zJ7 r l p a=some (zbE7 r l p a):=by
 unfold zJ7 zbE7
 rw [zco5,Option.bind_some]
 cases h:zap3 r l p a with
 | false=>simp
 | true =>
  have hv:zab2 r l=true:=by unfold zap3 at h; simp at h; exact h.1
  simp only [bZ]
  rw [zbs8 l p a (by have:=zax4 hv; omega),Option.bind_some,zao2]
  simp
theorem zbS3 (r:aC) (l:List aT) (p:aH) (a:aA):zE9 r l p a=some (zbE7 r l p a):=by
 unfold zE9 zbE7
 rw [zax3,Option.bind_some,zba3,zau1,gH]
 change ((if zap3 r l p a=true then _ else _):Option (List aT)).bind _=_
 cases h:zap3 r l p a with
 | false=>unfold zap3 at h; simp [h]
 | true =>
  have hv:zab2 r l=true:=by unfold zap3 at h; simp at h; exact h.1
  unfold zap3 at h
  simp only [h,bZ]
  rw [zbJ5 l p a (by have:=zax4 hv; omega),Option.bind_some,zax3]
  simp
def zak9 (p:aH):List aR→Nat→Option Nat
 | [],_=>none
 | w :: l,i=>if w.aN=p then some i else zak9 p l (i+1)
def zR5 (l:List aR) (p:aH):Int:=match zak9 p l 0 with
 | some i=>i
 | none=>-1
theorem zbi9 (l:List aR) (p:aH):∀ k i,i+k=l.length→zG2 (fun i=>if (l.getD i aR.zero).aN=p then some (i:Int) else none) k i=(zak9 p (l.drop i) i).map fun n:Nat=>(n:Int)
 | 0,i,h=>by rw [gG (by omega)]; rfl
 | k+1,i,h=>by
  rw [zaR0 l i aR.zero (by omega)]
  simp only [zG2,zak9]
  by_cases hp:(l.getD i aR.zero).aN=p
  ·simp only [hp,bZ,Option.map_some]
  ·simp only [hp,cA]
   exact zbi9 l p k (i+1) (by omega)
theorem zau2 (l:List aR) (p:aH) (hl:l.length < 4611686018427387904):zl0 l p=some (zR5 l p):=by
 unfold zl0
 have key:zc6 (zaa1 l p) 0=some ((zG2 (fun i=>if (l.getD i aR.zero).aN=p then some (Sum.inr (i:Int)) else none) l.length 0).getD (Sum.inl ())):=by
  refine zF1 l.length _ (Sum.inl ()) (fun i hi=>?_) ?_
  ·unfold zaa1
   rw [bY (by simpa using hi),zn3 (by omega)]
   simp only [Int.toNat_natCast,bV]
   split
   ·rfl
   ·rw [zo7 (by omega) (by omega)]
  ·unfold zaa1
   rw [bW (by simp)]
 rw [key]
 have h2:=zbi9 l p l.length 0 (by omega)
 have h3:∀ k i,zG2 (fun i=>if (l.getD i aR.zero).aN=p then some (Sum.inr (α:=Unit) (i:Int)) else none) k i=(zG2 (fun i=>if (l.getD i aR.zero).aN=p then some (i:Int) else none) k i).map Sum.inr:=by
  intro k
  induction k with
  | zero=>intro i; rfl
  | succ k ih =>
   intro i
   simp only [zG2]
   by_cases hp:(l.getD i aR.zero).aN=p
   ·simp only [hp,bZ,Option.map_some]
   ·simp only [hp,cA,ih]
 rw [h3,h2,gK]
 unfold zR5
 cases zak9 p l 0 <;> rfl
theorem zap4 (l:List aR) (p:aH) (hl:l.length < 4611686018427387904):zi1 l p=some (zR5 l p):=by
 have e:zi1 l p=zl0 l p:=rfl
 rw [e]; exact zau2 l p hl
theorem zba5 (w:aR):zB3 w=zs7 w:=by
 unfold zB3 zs7 zq7 zc9 zK9 zq0 zb8 zk8 zx8 zs5
 rw [dP]
 simp
 omega
def zal0 (l:List aR):Bool:=decide (l.length≤8)&&(List.range l.length).all fun i=>zs7 (l.getD i aR.zero)&&decide (zR5 l (l.getD i aR.zero).aN=i)
theorem zaT4 (l:List aR):zq8 l=some (zal0 l):=by
 unfold zq8 zal0
 by_cases h8:8 < (l.length:Int)
 ·rw [bY (by simpa using h8)]
  have:¬ l.length≤8:=by omega
  simp [this]
 ·rw [bW (by simpa using h8)]
  have hl:l.length < 4611686018427387904:=by omega
  have key:zc6 (zL0 l) 0=some ((zG2 (fun i=>if (zs7 (l.getD i aR.zero)&&decide (zR5 l (l.getD i aR.zero).aN=i))=true then none else some (Sum.inr false)) l.length 0).getD (Sum.inl ())):=by
   refine zF1 l.length _ (Sum.inl ()) (fun i hi=>?_) ?_
   ·unfold zL0
    rw [bY (by simpa using hi),zn3 (by omega)]
    simp only [Int.toNat_natCast]
    by_cases hv:zs7 (l.getD i aR.zero)=true
    ·simp only [hv,bZ,zau2 l _ hl,Option.bind_some,cP,dB,cF]
     by_cases hf:zR5 l (l.getD i aR.zero).aN=(i:Int)
     ·simp only [hf,cB,cP,bT,cA,bZ]
      rw [zo7 (by omega) (by omega)]
     ·simp only [hf,cL,cX,bZ,bT,cA]
    ·have hv:zs7 (l.getD i aR.zero)=false:=by simpa using hv
     simp only [hv,bT,cA,Option.bind_some,cX,fW,bZ,eT]
   ·unfold zL0
    rw [bW (by simp)]
  rw [key,zO8,← eO]
  have:l.length≤8:=by omega
  simp only [this,cB,cF]
  cases (List.range l.length).all fun i=>zs7 (l.getD i aR.zero)&&decide (zR5 l (l.getD i aR.zero).aN=i) <;> rfl
theorem zbs9 (l:List aR):zp7 l=some (zal0 l):=by
 rw [← zaT4 l]
 unfold zp7 zq8
 by_cases h8:8 < (l.length:Int)
 ·rw [bY (cR h8),bY (cR h8)]
 ·rw [bW (by simpa using h8),bW (by simpa using h8)]
  have hl:l.length < 4611686018427387904:=by omega
  have e:zac7 l=zL0 l:=funext fun i=>by
   unfold zac7 zL0
   by_cases hi:i < (l.length:Int)
   ·rw [bY (cR hi),bY (cR hi)]
    by_cases h0:0≤i∧i < (l.length:Int)
    ·rw [zn3 h0,zn3 h0,zn3 (fun _=>h0)]
     simp only [zba5,zap4 l _ hl,zau2 l _ hl]
    ·unfold gd; rw [bW h0,bW h0]
   ·rw [bW (by simpa using hi)]; rw [bW (by simpa using hi)]
  rw [e]
  rfl
theorem zbS4 {p:aH}:∀ {l:List aR} {i j:Nat},zak9 p l i=some j→i≤j∧j < i+l.length
 | w :: l,i,j,h=>by
  simp only [zak9] at h
  split at h
  ·cases h; simp
  ·have:=zbS4 h; simp only [List.length_cons]; omega
theorem zbS5 (l:List aR) (p:aH):zR5 l p=-1∨0≤zR5 l p∧zR5 l p < l.length:=by
 unfold zR5
 cases h:zak9 p l 0 with
 | none=>exact .inl rfl
 | some j=>right; have:=zbS4 h; simp only; omega
theorem zbt0 {l:List aR} (h:zal0 l=true):l.length≤8:=by
 simp only [zal0,bS,bV] at h; exact h.1
theorem zba6 (a b:List aR) (hl:a.length < 4611686018427387904):ze3 a b=some (decide (a=b)):=by
 unfold ze3
 by_cases h:a.length=b.length
 ·rw [bW (by simp [h])]
  exact zbd8 a b aR.zero hl h fun i=>rfl
 ·rw [bY (by simp; omega)]
  have:a≠b:=fun e=>h (by rw [e])
  simp [this]
theorem zbS6 (s:ByteArray):zG6 s=zD6 s:=by
 unfold zG6 zD6 zy2
 generalize (s.toList == _)=a
 generalize (s.toList == _)=b
 generalize (s.toList == _)=c
 generalize (s.toList == _)=d
 generalize (s.toList == _)=e
 cases a <;> cases b <;> cases c <;> cases d <;> cases e <;> rfl
def chI (s:ByteArray) (i:Nat):Int:=((s.toList.getD i 0).toNat:Int)
def okC (s:ByteArray) (i:Nat):Bool:=zJ1 (chI s i)||(!decide (i=0)&&zA3 (chI s i))
theorem zba7 (s:ByteArray) (hl:s.size≤12):zc6 (zA1 s) 0=some (if (List.range s.size).all (okC s)=true then .inl () else .inr false):=by
 have key:zc6 (zA1 s) 0=some ((zG2 (fun i=>if okC s i=true then none else some (Sum.inr false)) s.size 0).getD (Sum.inl ())):=by
  refine zF1 s.size _ (Sum.inl ()) (fun i hi=>?_) ?_
  ·unfold zA1
   rw [bY (by simpa using hi),zn3 (by omega),zo7 (by omega) (by omega)]
   simp only [Int.toNat_natCast]
   have e:((!((decide (97≤((s.toList.getD i 0).toNat:Int)))&&(decide (((s.toList.getD i 0).toNat:Int)≤122))))&&((decide ((i:Int)=0))||(!((((decide (48≤((s.toList.getD i 0).toNat:Int)))&&(decide (((s.toList.getD i 0).toNat:Int)≤57)))||(decide (((s.toList.getD i 0).toNat:Int)=95)))||(decide (((s.toList.getD i 0).toNat:Int)=45))))))=!okC s i:=by
    unfold okC zA3 zJ1 chI
    generalize ((s.toList.getD i 0).toNat:Int)=c
    rw [dP]
    simp
    omega
   cases hk:okC s i
   ·rw [hk] at e; exact bY e
   ·rw [hk] at e; exact bW (by rw [show _=false from e]; decide)
  ·unfold zA1
   rw [bW (by simp)]
 rw [key,zO8,← eO]
 cases (List.range s.size).all (okC s) <;> rfl
theorem zbk6 (s:ByteArray) (hl:s.size≤12):zc6 (zD7 s) 0=some (if (List.range s.size).all (fun i=>zA3 (chI s i))=true then .inl () else .inr false):=by
 have key:zc6 (zD7 s) 0=some ((zG2 (fun i=>if zA3 (chI s i)=true then none else some (Sum.inr false)) s.size 0).getD (Sum.inl ())):=by
  refine zF1 s.size _ (Sum.inl ()) (fun i hi=>?_) ?_
  ·unfold zD7
   rw [bY (by simpa using hi),zn3 (by omega),zo7 (by omega) (by omega)]
   simp only [Int.toNat_natCast]
   show (if (!zA3 (chI s i))=true then _ else _)=_
   cases zA3 (chI s i) <;> rfl
  ·unfold zD7
   rw [bW (by simp)]
 rw [key,zO8,← eO]
 cases (List.range s.size).all (fun i=>zA3 (chI s i)) <;> rfl
def zJ8 (s:ByteArray):Bool:=decide (1≤s.size)&&(decide (s.size≤12)&&(!zD6 s&&(List.range s.size).all (okC s)))
theorem zas7 (s:ByteArray):zd8 s=some (zJ8 s):=by
 unfold zd8 zJ8
 rw [zbS6]
 by_cases h1:s.size < 1
 ·have:¬ 1≤s.size:=by omega
  rw [bY (by simp; omega)]
  simp [this]
 by_cases h2:12 < s.size
 ·have:¬ s.size≤12:=by omega
  rw [bY (by simp; omega)]
  simp [this]
 cases hr:zD6 s
 ·rw [bW (by simp; omega),zba7 s (by omega)]
  have a1:1≤s.size:=by omega
  have a2:s.size≤12:=by omega
  simp only [a1,a2,cB,cF,cX]
  cases (List.range s.size).all (okC s) <;> rfl
 ·rw [bY (by simp)]
  simp
theorem zap5 (s:ByteArray):zg2 s=some (zJ8 s):=by
 unfold zg2 zJ8
 by_cases h1:s.size < 1
 ·have:¬ 1≤s.size:=by omega
  rw [zn3 (by simp; omega),bY (by simp; omega)]
  simp [this]
 by_cases h2:12 < s.size
 ·have:¬ s.size≤12:=by omega
  rw [zn3 (by simp; omega),bY (by simp; omega)]
  simp [this]
 have a1:1≤s.size:=by omega
 have a2:s.size≤12:=by omega
 rw [zn3 (by intro _; omega)]
 have c0:((s.toList.getD 0 0).toNat:Int)=chI s 0:=rfl
 have d1:decide ((s.size:Int) < 1)=false:=by simp; omega
 have d2:decide (12 < (s.size:Int))=false:=by simp; omega
 simp only [a1,a2,cB,cF,c0,d1,d2,dB]
 have hall:(List.range s.size).all (okC s)=(zJ1 (chI s 0)&&(List.range s.size).all fun i=>zA3 (chI s i)):=by
  rw [dP]
  simp only [eK,eC,bS,okC,dK,cN,cG]
  constructor
  ·intro h
   refine ⟨?_,fun i hi=>?_⟩
   ·rcases h 0 (by omega) with h|h
    ·exact h
    ·exact absurd rfl h.1
   ·rcases h i hi with h|h
    ·unfold zA3; simp [h]
    ·exact h.2
  ·rintro ⟨h0,h⟩ i hi
   by_cases hz:i=0
   ·subst hz; exact .inl h0
   ·exact .inr ⟨hz,h i hi⟩
 rw [hall]
 cases hr:zD6 s
 ·cases hL:zJ1 (chI s 0)
  ·rfl
  ·simp only [cP,eZ,bT,cA,zbk6 s a2,cX,cF]
   cases (List.range s.size).all (fun i=>zA3 (chI s i)) <;> rfl
 ·simp
def resV (r:aC):Bool:=zJ8 r.name&&(zk8 r&&(decide (0≤r.home)&&decide (r.home < 4)))
theorem zaN7 (r:aC):ze0 r=some (resV r):=by
 unfold ze0 resV
 rw [zas7]
 simp only [Option.bind_some,gH]
theorem zba8 (r:aC):zg6 r=some (resV r):=by
 unfold zg6 resV
 rw [zap5,zaE7]
 simp only [Option.bind_some,gH]
def getH (l:List aT) (p:aH):aA:=match l.find? fun h=>decide (h.aN=p) with
 | some h=>h.aI
 | none=>aA.zero
theorem zbt1 (l:List aT) (p:aH):∀ k i,i+k=l.length→((zG2 (fun i=>if (l.getD i aT.zero).aN=p then some (Sum.inr (α:=Unit) (l.getD i aT.zero).aI) else none) k i).getD (Sum.inl ()))=match (l.drop i).find? fun h=>decide (h.aN=p) with
  | some h=>Sum.inr h.aI
  | none=>Sum.inl ()
 | 0,i,h=>by rw [gG (by omega)]; rfl
 | k+1,i,h=>by
  rw [zaR0 l i aT.zero (by omega)]
  simp only [zG2,List.find?_cons]
  by_cases hp:(l.getD i aT.zero).aN=p
  ·simp only [hp,bZ,cB,Option.getD_some]
  ·simp only [hp,cA,cL]
   exact zbt1 l p k (i+1) (by omega)
theorem zaN8 (l:List aT) (p:aH) (hl:l.length < 4611686018427387904):zh8 l p=some (getH l p):=by
 unfold zh8
 have key:zc6 (zG5 l p) 0=some ((zG2 (fun i=>if (l.getD i aT.zero).aN=p then some (Sum.inr (α:=Unit) (l.getD i aT.zero).aI) else none) l.length 0).getD (Sum.inl ())):=by
  refine zF1 l.length _ (Sum.inl ()) (fun i hi=>?_) ?_
  ·unfold zG5
   rw [bY (by simpa using hi),zn3 (by omega),zo7 (by omega) (by omega)]
   simp only [Int.toNat_natCast,bV]
   split <;> rfl
  ·unfold zG5
   rw [bW (by simp)]
 rw [key,zbt1 l p l.length 0 (by omega),gK]
 unfold getH
 cases l.find? fun h=>decide (h.aN=p) <;> rfl
theorem zaG9 (l:List aT) (p:aH) (hl:l.length < 4611686018427387904):zl5 l p=some (getH l p):=by
 rw [← zaN8 l p hl]
 unfold zl5 zh8
 have e:zaj4 l p=zG5 l p:=funext fun i=>by
  unfold zaj4 zG5
  by_cases h:0≤i∧i < (l.length:Int)
  ·simp only [zn3 h]
  ·by_cases hi:i < (l.length:Int)
   ·rw [bY (cR hi),bY (cR hi),gdn h,gdn h]
   ·rw [bW (by simpa using hi),bW (by simpa using hi)]
 rw [e]
 rfl
theorem zba9 (a:aA):zq2 a=zk2 a:=rfl
abbrev covM (a b:Int):Bool:=zC3 a b
theorem zbt2 (a b:Int):covM a b=true ↔ (1≤a∧a≤5∧1≤b∧b≤5)∧(a=b∨a=5∨b=1∨a=4∧b≠5):=by
 unfold covM zC3 zx8
 by_cases h:1≤a∧a≤5∧1≤b∧b≤5
 ·rw [bW (by simp; omega)]
  simp
  omega
 ·rw [bY (by simp; omega)]
  simp
  omega
theorem zal1 (a b:Int):zj5 a b=some (covM a b):=by
 unfold zj5 zs5
 rw [zn3 (by simp; omega)]
 congr 1
 rw [dP,zbt2]
 by_cases h:1≤a∧a≤5∧1≤b∧b≤5
 ·obtain ⟨h1,h2,h3,h4⟩:=h
  have ha:a=1∨a=2∨a=3∨a=4∨a=5:=by omega
  have hb:b=1∨b=2∨b=3∨b=4∨b=5:=by omega
  rcases ha with rfl|rfl|rfl|rfl|rfl <;> rcases hb with rfl|rfl|rfl|rfl|rfl <;> decide
 ·constructor
  ·intro hh
   simp only [bS,bV] at hh
   omega
  ·rintro ⟨hh,_⟩; exact absurd hh h
def covA (r:aC) (a b:aA):Bool:=zu5 r a b
theorem zao3 (r:aC) (a b:aA):zm8 r a b=some (covA r a b):=by
 unfold zm8 covA zu5
 simp only [zbm9,zba9,zal1,Option.bind_some]
 cases zd5 r a <;> cases zd5 r b <;> simp
 cases ha:zk2 a <;> cases hb:zk2 b <;> simp
 split <;> rfl
theorem zX7 (q:aF) (p:aH) (hl:q.bA.length < 4611686018427387904):zk6 q p=some (getH q.bA p):=by
 unfold zk6
 rw [zaN8 _ _ hl]; rfl
theorem zaC1 (q:aF) (p:aH) (hl:q.bA.length < 4611686018427387904):zn2 q p=some (getH q.bA p):=by
 unfold zn2
 rw [zaG9 _ _ hl]; rfl
theorem hb (b:Bool):b=true∨b=false:=by cases b <;> simp
def cvI (q:aF) (i:Nat):Bool :=
 let w:=q.aL.getD i aR.zero
 let h:=getH q.bA w.aN
 decide (zR5 q.aL w.aN=(i:Int))&&(!zk2 h&&(zb8 q.aB w.aI&&(covA q.aB w.aI h&&(!decide (w.aI=h)&&(decide (w.aW=0)&&decide (w.bO=0))))))
def cvOk (q:aF):Bool:=decide (q.aL.length≤8)&&(List.range q.aL.length).all (cvI q)
def wtI (q:aF) (i:Nat):Bool :=
 let w:=q.aS.getD i aR.zero
 zb8 q.aB w.aI&&zk2 (getH q.bA w.aN)
def wtOk (q:aF):Bool:=zal0 q.aS&&(decide (q.bA.length+q.aS.length≤8)&&(List.range q.aS.length).all (wtI q))
theorem zbA0 (q:aF) (hl:q.bA.length < 4611686018427387904) (hc:q.aL.length≤8):zc6 (zx9 q) 0=some (if (List.range q.aL.length).all (cvI q)=true then .inl () else .inr false):=by
 have key:zc6 (zx9 q) 0=some ((zG2 (fun i=>if cvI q i=true then none else some (Sum.inr false)) q.aL.length 0).getD (Sum.inl ())):=by
  refine zF1 q.aL.length _ (Sum.inl ()) (fun i hi=>?_) ?_
  ·unfold zx9
   rw [bY (by simpa using hi),zn3 (by omega),zo7 (by omega) (by omega),Int.toNat_natCast]
   unfold cvI
   generalize q.aL.getD i aR.zero=w
   rw [zX7 q _ hl,Option.bind_some,zau2 _ _ (show q.aL.length < 4611686018427387904 by omega),Option.bind_some]
   simp only [zao3]
   rcases hb (decide (zR5 q.aL w.aN=(i:Int))) with c1|c1 <;> rcases hb (zk2 (getH q.bA w.aN)) with c2|c2 <;> rcases hb (zb8 q.aB w.aI) with c3|c3 <;> rcases hb (covA q.aB w.aI (getH q.bA w.aN)) with c4|c4 <;>
    rcases hb (decide (w.aI=getH q.bA w.aN)) with c5|c5 <;> rcases hb (decide (w.aW=0)) with c6|c6 <;> rcases hb (decide (w.bO=0)) with c7|c7 <;>
    simp only [c1,c2,c3,c4,c5,c6,c7,cP,cX,jF,fW,jB,dB,fO,cF,iQ,eT,bZ,cA,bT,Option.bind_some,eZ,gU]
  ·unfold zx9
   rw [bW (by simp)]
 rw [key,zO8,← eO]
 cases (List.range q.aL.length).all (cvI q) <;> rfl
theorem zaH0 (q:aF) (hl:q.bA.length < 4611686018427387904):zl7 q=some (cvOk q):=by
 unfold zl7 cvOk
 by_cases h:8 < q.aL.length
 ·have:¬ q.aL.length≤8:=by omega
  rw [bY (by simp; omega)]
  simp [this]
 ·have h8:q.aL.length≤8:=by omega
  rw [bW (by simp; omega),zbA0 q hl h8]
  simp only [h8,cB,cF]
  cases (List.range q.aL.length).all (cvI q) <;> rfl
theorem zbt3 (q:aF) (hl:q.bA.length < 4611686018427387904) (hc:q.aS.length≤8):zc6 (zy5 q) 0=some (if (List.range q.aS.length).all (wtI q)=true then .inl () else .inr false):=by
 have key:zc6 (zy5 q) 0=some ((zG2 (fun i=>if wtI q i=true then none else some (Sum.inr false)) q.aS.length 0).getD (Sum.inl ())):=by
  refine zF1 q.aS.length _ (Sum.inl ()) (fun i hi=>?_) ?_
  ·unfold zy5
   rw [bY (by simpa using hi),zn3 (by omega),zo7 (by omega) (by omega),Int.toNat_natCast]
   unfold wtI
   generalize q.aS.getD i aR.zero=w
   rw [zX7 q _ hl]
   rcases hb (zk2 (getH q.bA w.aN)) with c2|c2 <;> rcases hb (zb8 q.aB w.aI) with c3|c3 <;> simp only [c2,c3,cP,cX,jF,fW,jB,dB,fO,cF,iQ,eT,bZ,cA,bT,Option.bind_some,eZ,gU]
  ·unfold zy5
   rw [bW (by simp)]
 rw [key,zO8,← eO]
 cases (List.range q.aS.length).all (wtI q) <;> rfl
theorem zaS1 (q:aF) (hl:q.bA.length≤1000000):zo1 q=some (wtOk q):=by
 unfold zo1 wtOk
 rw [zaT4,Option.bind_some]
 cases hv:zal0 q.aS
 ·simp
 ·have h8:=zbt0 hv
  rw [zo7 (by omega) (by omega)]
  by_cases h:8 < q.bA.length+q.aS.length
  ·have:¬ q.bA.length+q.aS.length≤8:=by omega
   rw [bY (by simp; omega)]
   simp [this]
  ·have h9:q.bA.length+q.aS.length≤8:=by omega
   rw [bW (by simp; omega),zbt3 q (by omega) h8]
   simp only [h9,cB,cF]
   cases (List.range q.aS.length).all (wtI q) <;> rfl
def zaC2 (q:aF):Bool:=resV q.aB&&(zab2 q.aB q.bA&&(cvOk q&&(wtOk q&&(decide (0≤q.gen)&&decide (q.gen≤1073741824)))))
theorem zbt4 (q:aF):zz6 q=some (zaC2 q):=by
 unfold zz6 zaC2
 rw [zaN7,Option.bind_some]
 cases resV q.aB
 ·simp
 ·simp only [bZ,zao2,Option.bind_some,cF]
  cases hv:zab2 q.aB q.bA
  ·simp
  ·have hl:=zax4 hv
   simp only [bZ,zaH0 q (by omega),Option.bind_some,cF]
   cases cvOk q
   ·simp
   ·simp only [bZ,zaS1 q (by omega),Option.bind_some,cF,gH]
theorem zbt5 (q:aF) (hl:q.bA.length≤1000000) (hc:q.aS.length≤8):zc6 (zad0 q) 0=some (if (List.range q.aS.length).all (wtI q)=true then .inl () else .inr false):=by
 rw [← zbt3 q (by omega) hc]
 congr 1
 funext i
 unfold zad0 zy5
 by_cases h:0≤i∧i < (q.aS.length:Int)
 ·rw [bY (cR h.2),bY (cR h.2),zn3 h,zn3 h,zn3 (fun _=>h)]
  simp only [zau1,zba9,zaG9 _ _ (show q.bA.length < 4611686018427387904 by omega),zX7 q _ (show q.bA.length < 4611686018427387904 by omega)]
 ·by_cases hi:i < (q.aS.length:Int)
  ·rw [bY (cR hi),bY (cR hi),gdn h,gdn h]
  ·rw [bW (by simpa using hi),bW (by simpa using hi)]
theorem zbb0 (q:aF) (hl:q.bA.length≤1000000) (hc:q.aL.length≤8):zc6 (zN7 q) 0=some (if (List.range q.aL.length).all (cvI q)=true then .inl () else .inr false):=by
 have key:zc6 (zN7 q) 0=some ((zG2 (fun i=>if cvI q i=true then none else some (Sum.inr false)) q.aL.length 0).getD (Sum.inl ())):=by
  refine zF1 q.aL.length _ (Sum.inl ()) (fun i hi=>?_) ?_
  ·unfold zN7
   rw [bY (by simpa using hi),zn3 (by omega),zo7 (by omega) (by omega),Int.toNat_natCast]
   unfold cvI covA
   generalize q.aL.getD i aR.zero=w
   rw [zaG9 _ _ (show q.bA.length < 4611686018427387904 by omega),Option.bind_some,zap4 _ _ (show q.aL.length < 4611686018427387904 by omega)]
   simp only [zba9,zau1]
   rcases hb (decide (zR5 q.aL w.aN=(i:Int))) with c1|c1 <;> rcases hb (zk2 (getH q.bA w.aN)) with c2|c2 <;> rcases hb (zb8 q.aB w.aI) with c3|c3 <;> rcases hb (zu5 q.aB w.aI (getH q.bA w.aN)) with c4|c4 <;>
    rcases hb (decide (w.aI=getH q.bA w.aN)) with c5|c5 <;> rcases hb (decide (w.aW=0)) with c6|c6 <;> rcases hb (decide (w.bO=0)) with c7|c7 <;>
    simp only [c1,c2,c3,c4,c5,c6,c7,cP,cX,jF,fW,jB,dB,fO,cF,iQ,eT,bZ,cA,bT,Option.bind_some,eZ,gU]
  ·unfold zN7
   rw [bW (by simp)]
 rw [key,zO8,← eO]
 cases (List.range q.aL.length).all (cvI q) <;> rfl
theorem zaN9 (q:aF):zw7 q=some (zaC2 q):=by
 unfold zw7 zaC2 cvOk wtOk
 rw [zba8,Option.bind_some]
 cases resV q.aB
 ·simp
 ·simp only [bZ,zax3,Option.bind_some,cF]
  cases hv:zab2 q.aB q.bA
  ·simp
  ·have hl:=zax4 hv
   by_cases hc:8 < q.aL.length
   ·have h1:¬ q.aL.length≤8:=by omega
    have h2:decide (8 < (q.aL.length:Int))=true:=by simp; omega
    simp [h1,h2]
   ·have h1:q.aL.length≤8:=by omega
    have h2:decide (8 < (q.aL.length:Int))=false:=by simp; omega
    simp only [h1,h2,cP,eZ,cX,bZ,zbs9,Option.bind_some,dB,cB,cF]
    cases hw:zal0 q.aS
    ·simp
    ·have h8:=zbt0 hw
     simp only [cP,dB,cF]
     rw [zo7 (by omega) (by omega)]
     by_cases h:q.bA.length+q.aS.length≤8
     ·by_cases g1:0≤q.gen
      ·by_cases g2:q.gen≤1073741824
       ·rw [bW (by simp; omega),zbb0 q (by omega) h1]
        simp only [h,g1,g2,cB,cF,fO]
        cases (List.range q.aL.length).all (cvI q)
        ·rfl
        ·simp only [bZ,Option.bind_some,cF]
         unfold zad1
         rw [zbt5 q (by omega) h8]
         cases (List.range q.aS.length).all (wtI q) <;> rfl
       ·rw [bY (by simp; omega)]; simp [g2]
      ·rw [bY (by simp; omega)]; simp [g1]
     ·rw [bY (by simp; omega)]; simp [h]
def zaO0 (q:aF):aR×Bool:=match q.aL++q.aS with
 | w :: _=>(w,true)
 | []=>(aR.zero,false)
theorem zaT5 (q:aF):zl1 q=some (zaO0 q):=by
 unfold zl1 zaO0
 cases q.aL with
 | cons a l=>rw [bY (by simp),zn3 (by simp)]; rfl
 | nil =>
  rw [bW (by simp)]
  cases q.aS with
  | cons a l=>rw [bY (by simp),zn3 (by simp)]; rfl
  | nil=>rw [bW (by simp)]; rfl
theorem zbA1 (q:aF):zl2 q=some (zaO0 q):=by
 rw [← zaT5]; rfl
def zw6 (q:aF):Bool:=zaC2 q&&!((zaO0 q).2&&zbE7 q.aB q.bA (zaO0 q).1.aN (zaO0 q).1.aI)
theorem zbe4 (q:aF):zL3 q=some (zw6 q):=by
 unfold zL3 zw6
 rw [zbt4,Option.bind_some]
 cases zaC2 q
 ·simp
 ·rw [bW (by simp),zaT5,Option.bind_some]
  cases (zaO0 q).2 <;> simp [zcN4]
theorem zbe5 (q:aF):zF8 q=some (zw6 q):=by
 unfold zF8 zw6
 rw [zaN9,Option.bind_some]
 cases zaC2 q
 ·simp
 ·rw [bW (by simp),zbA1,Option.bind_some]
  cases (zaO0 q).2 <;> simp [zbS3]
theorem zbt6 (q:aF):zN0 q=some (zw6 q):=by
 unfold zN0
 rw [zbe4]; rfl
theorem zbt7 (q:aF):zR1 q=some (zw6 q):=by
 unfold zR1
 rw [zaN9,Option.bind_some]
 cases h:zaC2 q
 ·simp [zw6,h]
 ·simp [zbe5]
theorem zbA2 (a b:List aT) (hl:a.length < 4611686018427387904):ze5 a b=some (decide (a=b)):=by
 unfold ze5
 by_cases h:a.length=b.length
 ·rw [bW (by simp [h])]
  exact zbd8 a b aT.zero hl h (fun i=>rfl)
 ·rw [bY (by simp; omega)]
  have:a≠b:=fun e=>h (by rw [e])
  simp [this]
instance:DecidableEq aF:=fun a b=>decidable_of_iff (a.aB=b.aB∧a.bA=b.bA∧a.aL=b.aL∧a.aS=b.aS∧a.gen=b.gen) (by rw [aF.ext_iff])
theorem zbA3 (a b:aF) (h1:a.bA.length < 4611686018427387904) (h2:a.aL.length < 4611686018427387904) (h3:a.aS.length < 4611686018427387904):zn7 a b=some (decide (a=b)):=by
 unfold zn7
 simp only [zbA2 _ _ h1,zba6 _ _ h2,zba6 _ _ h3]
 have e:decide (a=b)=(decide (a.aB=b.aB)&&(decide (a.gen=b.gen)&&(decide (a.bA=b.bA)&&(decide (a.aL=b.aL)&&decide (a.aS=b.aS))))):=by
  rw [dP]
  simp only [bV,bS,aF.ext_iff]
  constructor
  ·rintro ⟨a1,a2,a3,a4,a5⟩; exact ⟨a1,a5,a2,a3,a4⟩
  ·rintro ⟨a1,a5,a2,a3,a4⟩; exact ⟨a1,a2,a3,a4,a5⟩
 rw [e]
 cases decide (a.aB=b.aB) <;> cases decide (a.gen=b.gen) <;> cases decide (a.bA=b.bA) <;> cases decide (a.aL=b.aL) <;> cases decide (a.aS=b.aS) <;> rfl
theorem zcb1 (a b:List aR) (ha:a.length≤1000000) (hb:b.length≤1000000):zb5 [a,b]=some (a++b):=by
 unfold zb5
 have s0:zn5 [a,b] (0,0)=some (.inl ((a.length:Int),1)):=by
  unfold zn5
  rw [bY (by simp),zn3 (by simp)]
  show (if decide (IntKind.i64.wrap (0+(a.length:Int)) < 0)=true then none else some (Sum.inl (IntKind.i64.wrap (0+(a.length:Int)),_)))=_
  rw [zo7 (by omega) (by omega),bW (by simp),Int.zero_add]
  rfl
 have s1:zn5 [a,b] ((a.length:Int),1)=some (.inl ((a.length:Int)+(b.length:Int),2)):=by
  unfold zn5
  rw [bY (by simp),zn3 (by simp)]
  show (if decide (IntKind.i64.wrap ((a.length:Int)+(b.length:Int)) < 0)=true then none else some (Sum.inl (IntKind.i64.wrap ((a.length:Int)+(b.length:Int)),_)))=_
  rw [zo7 (by omega) (by omega),bW (by simp; omega)]
  rfl
 have s2:zn5 [a,b] ((a.length:Int)+(b.length:Int),2)=some (.inr ((a.length:Int)+(b.length:Int))):=by
  unfold zn5
  rw [bW (by simp)]
 rw [zq6,s0]
 simp only
 rw [zq6,s1]
 simp only
 rw [zq6,s2]
 simp only [Option.bind_some]
 unfold zw0 zb3
 rw [zn3 (by omega),Option.bind_some]
 have t0:zn4 [a,b] (0,[])=some (.inl (1,a)):=by
  unfold zn4
  rw [bY (by simp),zn3 (by simp),zn3 (by simp; omega)]
  rfl
 have t1:zn4 [a,b] (1,a)=some (.inl (2,a++b)):=by
  unfold zn4
  rw [bY (by simp),zn3 (by simp),zn3 (by simp; omega)]
  rfl
 have t2:zn4 [a,b] (2,a++b)=some (.inr (a++b)):=by
  unfold zn4
  rw [bW (by simp)]
 rw [zq6,t0]
 simp only
 rw [zq6,t1]
 simp only
 rw [zq6,t2]
 rfl
theorem zaO1 (q:aF) (h1:q.aL.length≤1000000) (h2:q.aS.length≤1000000):zo0 q=some (q.aL++q.aS):=by
 unfold zo0
 rw [zcb1 _ _ h1 h2]; rfl
def zbj0 (l:List aR) (p:aH):aA×Bool:=match l.find? fun w=>decide (w.aN=p) with
 | some w=>(w.aI,true)
 | none=>(aA.zero,false)
def zae6 (q:aF) (p:aH):aA×Bool:=zbj0 (q.aL++q.aS) p
theorem zbj1 (l:List aR) (p:aH):∀ k i,i+k=l.length→((zG2 (fun i=>if (l.getD i aR.zero).aN=p then some (Sum.inr (α:=Unit) ((l.getD i aR.zero).aI,true)) else none) k i).getD (Sum.inl ()))=match (l.drop i).find? fun w=>decide (w.aN=p) with
  | some w=>Sum.inr (w.aI,true)
  | none=>Sum.inl ()
 | 0,i,h=>by rw [gG (by omega)]; rfl
 | k+1,i,h=>by
  rw [zaR0 l i aR.zero (by omega)]
  simp only [zG2,List.find?_cons]
  by_cases hp:(l.getD i aR.zero).aN=p
  ·simp only [hp,bZ,cB,Option.getD_some]
  ·simp only [hp,cA,cL]
   exact zbj1 l p k (i+1) (by omega)
theorem zaJ9 (q:aF) (p:aH) (h1:q.aL.length≤1000000) (h2:q.aS.length≤1000000):zn8 q p=some (zae6 q p):=by
 unfold zn8 zae6
 rw [zaO1 q h1 h2,Option.bind_some]
 have hl:(q.aL++q.aS).length≤2000000:=by rw [cI]; omega
 generalize q.aL++q.aS=l at *
 have key:zc6 (zQ3 p l) 0=some ((zG2 (fun i=>if (l.getD i aR.zero).aN=p then some (Sum.inr (α:=Unit) ((l.getD i aR.zero).aI,true)) else none) l.length 0).getD (Sum.inl ())):=by
  refine zF1 l.length _ (Sum.inl ()) (fun i hi=>?_) ?_
  ·unfold zQ3
   rw [bY (by simpa using hi),zn3 (by omega),zo7 (by omega) (by omega)]
   simp only [Int.toNat_natCast,bV]
   split <;> rfl
  ·unfold zQ3
   rw [bW (by simp)]
 rw [key,zbj1 l p l.length 0 (by omega),gK]
 unfold zbj0
 cases l.find? fun w=>decide (w.aN=p) <;> rfl
def upM (a b g:Int):Bool:=covM g a&&covM g b
def supM (a b:Int):Int:=if upM a b 1=true then 1 else if upM a b 2=true then 2 else if upM a b 3=true then 3 else if upM a b 4=true then 4 else if upM a b 5=true then 5 else 0
theorem zbA4 (a b g:Int) (h1:1≤g) (h2:g≤5):zX6 a b g=some (if upM a b g=true then .inr (.inr g) else .inl (g+1)):=by
 unfold zX6 upM
 rw [bY (by simpa using h2),zal1,Option.bind_some,zo7 (by omega) (by omega),zal1]
 cases covM g a <;> cases covM g b <;> rfl
theorem zbJ7 (a b:Int):zX6 a b 6=some (.inr (.inl ())):=by
 unfold zX6
 rw [bW (by decide)]
theorem zbS7 {body:Int→Option (Int⊕(Unit⊕Int))} (a b:Int) (hs:∀ g,1≤g→g≤5→body g=some (if upM a b g=true then .inr (.inr g) else .inl (g+1))) (he:body 6=some (.inr (.inl ()))) :
  (zc6 body 1).bind (fun|.inl _=>some 0|.inr z=>some z)=some (supM a b):=by
 unfold supM
 rw [zq6,hs 1 (by decide) (by decide)]
 by_cases c1:upM a b 1=true
 ·simp [c1]
 simp only [c1,bT,cA]
 rw [show (1:Int)+1=2 from rfl,zq6,hs 2 (by decide) (by decide)]
 by_cases c2:upM a b 2=true
 ·simp [c2]
 simp only [c2,bT,cA]
 rw [show (2:Int)+1=3 from rfl,zq6,hs 3 (by decide) (by decide)]
 by_cases c3:upM a b 3=true
 ·simp [c3]
 simp only [c3,bT,cA]
 rw [show (3:Int)+1=4 from rfl,zq6,hs 4 (by decide) (by decide)]
 by_cases c4:upM a b 4=true
 ·simp [c4]
 simp only [c4,bT,cA]
 rw [show (4:Int)+1=5 from rfl,zq6,hs 5 (by decide) (by decide)]
 by_cases c5:upM a b 5=true
 ·simp [c5]
 simp only [c5,bT,cA]
 rw [show (5:Int)+1=6 from rfl,zq6,he]
 rfl
theorem zbS8 (a b:Int):zt4 a b=some (supM a b):=zbS7 a b (zbA4 a b) (zbJ7 a b)
theorem zbJ8 (a b:Int):zr9 a b=some (supM a b):=by
 refine zbS7 a b (fun g h1 h2=>?_) ?_
 ·unfold zak4
  rw [bY (by simpa using h2),zo7 (by omega) (by omega)]
  rcases hb (covM g a) with c|c <;> rcases hb (covM g b) with d|d <;> simp [upM,c,d]
 ·unfold zak4
  rw [bW (by decide)]
def zbj2 (r:aC) (a b:aA):aA :=
 if (!zd5 r a||!zd5 r b)=true then aA.zero else
 if zk2 a=true then b else if zk2 b=true then a else
 if r.kind=1 then { aA.zero with mode:=supM a.mode b.mode } else { aA.zero with aP:=if a.aP < b.aP then b.aP else a.aP }
theorem zbt8 (r:aC) (a b:aA):zq5 r a b=some (zbj2 r a b):=by
 unfold zq5 zbj2
 simp only [zbS8,Option.bind_some]
 split
 ·rfl
 split
 ·rfl
 split
 ·rfl
 by_cases h:r.kind=1
 ·simp [h]
 ·simp [h]
theorem zcC3:∀ a ∈ [(1:Int),2,3,4,5],∀ b ∈ [(1:Int),2,3,4,5],covM a b=true→supM a b=a:=by decide
theorem zco6:∀ a ∈ [(1:Int),2,3,4,5],∀ b ∈ [(1:Int),2,3,4,5],covM b a=true→supM a b=b:=by decide
theorem zbA5 (r:aC) (a b:aA):zu6 r a b=some (zbj2 r a b):=by
 unfold zu6 zbj2
 simp only [zbm9,zbJ8,Option.bind_some]
 cases ha:zd5 r a
 ·simp
 cases hpb:zd5 r b
 ·simp
 simp only [cP,eZ,bT,cA]
 unfold zu5
 simp only [zbm9,zba9,ha,hpb,cP,eZ,bT,cA]
 rcases hb (zk2 a) with hza|hza <;> rcases hb (zk2 b) with hzb|hzb
 rotate_left 3
 ·simp only [hza,hzb,bT,cA]
  by_cases hk:r.kind=1
  ·have pa:=zaR2 ha hk
   have pb:=zaR2 hpb hk
   have na:a.mode≠0:=fun h=>by
    have:a=aA.zero:=by cases a; simp only at *; simp [aA.zero]; omega
    rw [this] at hza; exact absurd hza (by decide)
   have nb:b.mode≠0:=fun h=>by
    have:b=aA.zero:=by cases b; simp only at *; simp [aA.zero]; omega
    rw [this] at hzb; exact absurd hzb (by decide)
   have ma:a.mode ∈ [(1:Int),2,3,4,5]:=by simp; omega
   have mb:b.mode ∈ [(1:Int),2,3,4,5]:=by simp; omega
   have ea:a={ aA.zero with mode:=a.mode }:=by cases a; simp only at *; simp [aA.zero]; omega
   have eb:b={ aA.zero with mode:=b.mode }:=by cases b; simp only at *; simp [aA.zero]; omega
   simp only [hk,cB,bZ]
   by_cases c1:covM a.mode b.mode=true
   ·rw [bY c1,zcC3 _ ma _ mb c1]; exact cW some ea
   ·rw [bW c1]
    by_cases c2:covM b.mode a.mode=true
    ·rw [bY c2,zco6 _ ma _ mb c2]; exact cW some eb
    ·rw [bW c2]
  ·have hk2:r.kind=2:=by
    have:=ha
    rw [zba4,zR4,zaE8] at this
    omega
   have pa:=zbd9 ha hk2
   have pb:=zbd9 hpb hk2
   have ea:a={ aA.zero with aP:=a.aP }:=by cases a; simp only at *; simp [aA.zero]; omega
   have eb:b={ aA.zero with aP:=b.aP }:=by cases b; simp only at *; simp [aA.zero]; omega
   have d:decide (r.kind=1)=false:=by simpa using hk
   simp only [d,hk,bT,cA,bV]
   by_cases c1:b.aP≤a.aP
   ·have:¬ a.aP < b.aP:=by omega
    rw [bY c1,bW this]; exact cW some ea
   ·have:a.aP < b.aP:=by omega
    have c2:a.aP≤b.aP:=by omega
    rw [bW c1,bY c2,bY this]; exact cW some eb
 ·have e0:a=aA.zero:=by unfold zk2 at hza; simpa using hza
  have e1:b=aA.zero:=by unfold zk2 at hzb; simpa using hzb
  simp only [hza,hzb,bZ]
  rw [e0,e1]
 ·simp only [hza,hzb,bZ,bT,cA]
 ·simp only [hza,hzb,bZ,bT,cA]
def canQ (q:aF):Bool:=(zaO0 q).2&&zbE7 q.aB q.bA (zaO0 q).1.aN (zaO0 q).1.aI
def zcC4 (q:aF):Nat:=q.aL.length+q.aS.length
theorem zaW5 (p:aH):∀ (l:List aR) (i:Nat),match zak9 p l i with
  | some j=>i≤j∧(l.find? fun w=>decide (w.aN=p))=some (l.getD (j - i) aR.zero)
  | none=>(l.find? fun w=>decide (w.aN=p))=none
 | [],i=>rfl
 | w :: l,i=>by
  simp only [zak9,List.find?_cons]
  by_cases hp:w.aN=p
  ·simp [hp]
  ·have ih:=zaW5 p l (i+1)
   simp only [hp,cA,cL]
   cases hf:zak9 p l (i+1) with
   | none=>rw [hf] at ih; exact ih
   | some j =>
    rw [hf] at ih
    obtain ⟨h1,h2⟩:=ih
    refine ⟨by omega,?_⟩
    rw [h2,show j - i=(j - (i+1))+1 by omega,gE]
theorem zbt9 (l:List aR) (p:aH):zbj0 l p=if 0≤zR5 l p then ((l.getD (zR5 l p).toNat aR.zero).aI,true) else (aA.zero,false):=by
 have h:=zaW5 p l 0
 unfold zbj0 zR5
 cases hf:zak9 p l 0 with
 | none=>rw [hf] at h; simp only at h; rw [h]; rfl
 | some j =>
  rw [hf] at h
  obtain ⟨_,h2⟩:=h
  rw [h2,bY (by simp only; omega)]
  simp
theorem zbJ9 (l m:List aR) (p:aH):zbj0 (l++m) p=if 0≤zR5 l p then zbj0 l p else zbj0 m p:=by
 have h:=zaW5 p l 0
 unfold zbj0 zR5
 rw [List.find?_append]
 cases hf:zak9 p l 0 with
 | none=>rw [hf] at h; simp only at h; rw [h,bW (by decide)]; rfl
 | some j =>
  rw [hf] at h
  obtain ⟨_,h2⟩:=h
  rw [h2,bY (by simp only; omega)]
  rfl
theorem zaK0 (q:aF) (p:aH) (h1:q.aL.length≤1000000) (h2:q.aS.length≤1000000):zj0 q p=some (zae6 q p):=by
 unfold zj0 zae6
 rw [zap4 _ _ (by omega),Option.bind_some,zbJ9,zbt9 q.aL,zbt9 q.aS]
 have b1:=zbS5 q.aL p
 have b2:=zbS5 q.aS p
 by_cases c1:0≤zR5 q.aL p
 ·rw [bY (cR c1),zn3 (by omega),bY c1,bY c1]
 ·rw [bW (by simpa using c1),bW c1,zap4 _ _ (by omega),Option.bind_some]
  by_cases c2:0≤zR5 q.aS p
  ·rw [bY (cR c2),zn3 (by omega),bY c2]
  ·rw [bW (by simpa using c2),bW c2]
def optI (o:Option Nat):Int:=match o with
 | some i=>(i:Int)
 | none=>-1
theorem zco7 (l:List aR) (p:aH):zR5 l p=optI (zak9 p l 0):=rfl
theorem zcC5 (o:Option Nat):optI (o.map (·+1))=if 0≤optI o then optI o+1 else -1:=by
 cases o with
 | none=>rfl
 | some n =>
  have h:(0:Int)≤optI (some n):=Int.natCast_nonneg n
  rw [bY h]; exact Int.natCast_succ n
theorem zaW6 {l:List aR}:(∀ i,i < l.length→zR5 l (l.getD i aR.zero).aN=i) ↔ (l.map (·.aN)).Nodup:=by
 induction l with
 | nil=>simp
 | cons w l ih =>
  rw [dM,iJ]
  have shift:∀ p i,zak9 p l (i+1)=(zak9 p l i).map (·+1):=by
   intro p
   clear ih
   induction l with
   | nil=>intro i; rfl
   | cons x l ih=>intro i; simp only [zak9]; split <;> simp [ih]
  have hcons:∀ i,zR5 (w :: l) (l.getD i aR.zero).aN=if w.aN=(l.getD i aR.zero).aN then 0 else if 0≤zR5 l (l.getD i aR.zero).aN then zR5 l (l.getD i aR.zero).aN+1 else -1:=fun i=>by
   simp only [zco7,zak9,shift]
   by_cases h:w.aN=(l.getD i aR.zero).aN
   ·simp [h,optI]
   ·simp only [h,cA]
    exact zcC5 _
  constructor
  ·intro h
   have h1:∀ i,i < l.length→w.aN≠(l.getD i aR.zero).aN∧zR5 l (l.getD i aR.zero).aN=i:=fun i hi=>by
    have:=h (i+1) (by simpa using hi)
    rw [gE,hcons] at this
    split at this
    ·omega
    ·rename_i hne
     split at this
     ·exact ⟨hne,by omega⟩
     ·omega
   refine ⟨fun hm=>?_,ih.1 fun i hi=>(h1 i hi).2⟩
   obtain ⟨x,hx,he⟩:=cV.1 hm
   obtain ⟨i,hi,rfl⟩:=eV.1 hx
   have:=(h1 i hi).1
   rw [bU,bX hi] at this
   exact this he.symm
  ·rintro ⟨h1,h2⟩ i hi
   have h3:=ih.2 h2
   cases i with
   | zero=>simp [zR5,zak9]
   | succ i =>
    have hi':i < l.length:=by simpa using hi
    have hne:w.aN≠(l.getD i aR.zero).aN:=fun e=>h1 (cV.2 ⟨l.getD i aR.zero,by
     rw [bU,bX hi']; exact gW hi',e.symm⟩)
    rw [gE,hcons,bW hne,h3 i hi',bY (by omega)]
    omega
theorem zcb2 (l:List aR):zal0 l=true ↔ l.length≤8∧(∀ w ∈ l,zs7 w=true)∧(l.map (·.aN)).Nodup:=by
 unfold zal0
 simp only [bS,bV,eK,eC]
 constructor
 ·rintro ⟨h1,h2⟩
  refine ⟨h1,fun w hw=>?_,zaW6.1 fun i hi=>(h2 i hi).2⟩
  obtain ⟨i,hi,rfl⟩:=eV.1 hw
  have:=(h2 i hi).1
  rwa [bU,bX hi] at this
 ·rintro ⟨h1,h2,h3⟩
  refine ⟨h1,fun i hi=>⟨h2 _ ?_,zaW6.2 h3 i hi⟩⟩
  rw [bU,bX hi]
  exact gW hi
theorem zaW7 (r:aC) (l:List aT):zab2 r l=true ↔ zk8 r=true∧l.length≤8∧GoodP r l∧CompP r (l.map (·.aI)):=by
 unfold zab2; simp
theorem zbu0 {α S X:Type} (f:S→α→S) (fin:S→X):∀ (l:List α) (i:Nat) (s:S),walk (fun _ a s=>some (.inl (f s a))) fin l i s=some (fin (l.foldl f s))
 | [],_,_=>rfl
 | a :: l,i,s=>by simp only [walk,List.foldl_cons]; exact zbu0 f fin l (i+1) _
theorem zcC6 (l:List aT) (hl:l.length≤1000000):zas6 l=some (l.map (·.aN)):=by
 unfold zas6
 have key:=zz1 (body:=zW9 l) l aT.zero (fun i (s:List aH)=>((i:Int),s)) (fun i h s=>some (.inl (zas0 s (some h.aN)))) (fun s=>s) (fun i s=>s.length≤i)
  (fun i s hi hs=>by
   refine ⟨?_,fun s' h=>?_⟩
   ·unfold zW9
    have h1:s.length+1≤4294967296:=by omega
    have h3:0≤(i:Int)∧(i:Int) < (l.length:Int):=by omega
    simp only [h1,h3.1,h3.2,cQ,zk1,cB,bZ,Int.toNat_natCast,zd4 i (by omega),Option.map_some,wmap,zas0]
   ·simp only [cU,fD] at h; subst h; simp [zas0]; omega)
  (fun s hs=>by unfold zW9; simp) [] (by simp)
 rw [show ((0,[]):Int×List aH)=(fun (i:Nat) (s:List aH)=>((i:Int),s)) 0 [] from rfl,key,zau7 (fun h:aT=>some h.aN)]
 simp [zax1]
theorem zX0 {α:Type} {P:α→Prop} {l:List α} {z:α}:(∀ i,i < l.length→P (l.getD i z)) ↔ ∀ w ∈ l,P w:=by
 constructor
 ·intro h w hw
  obtain ⟨i,hi,rfl⟩:=eV.1 hw
  have:=h i hi
  rwa [bU,bX hi] at this
 ·intro h i hi
  refine h _ ?_
  rw [bU,bX hi]
  exact gW hi
theorem zcZ8 (p:aH):getH [] p=aA.zero:=rfl
theorem zbE8 (h:aT) (t:List aT) (p:aH):getH (h :: t) p=if h.aN=p then h.aI else getH t p:=by
 unfold getH
 rw [List.find?_cons]
 by_cases e:h.aN=p <;> simp [e]
theorem zcC7 {l:List aT} {p:aH} (h:getH l p≠aA.zero):(⟨p,getH l p⟩:aT) ∈ l:=by
 induction l with
 | nil=>exact absurd rfl h
 | cons x t ih =>
  rw [zbE8] at h ⊢
  by_cases e:x.aN=p
  ·rw [bY e]; subst e; exact .head _
  ·rw [bW e] at h ⊢; exact .tail _ (ih h)
theorem zbS9 {l:List aT} {p:aH} (h:∀ x ∈ l,x.aN≠p):zF2 p l=l:=List.filter_eq_self.2 fun x hx=>by simpa using h x hx
def Asc (l:List aT):Prop:=l.Pairwise fun a b=>ltP a.aN b.aN
theorem zco8 {r:aC} {l:List aT} (h:zab2 r l=true):Asc l:=((zaW7 r l).1 h).2.2.1.asc
theorem zcU6 {h:aT} {t:List aT} (k:Asc (h :: t)):∀ x ∈ t,x.aN≠h.aN:=fun x hx e=>by
 have:=(dA.1 k).1 x hx
 rw [e] at this; exact zao0 _ this
theorem zcC8 {l:List aT} (h:Asc l) {p:aH} (hp:getH l p≠aA.zero):l.Perm (⟨p,getH l p⟩ :: zF2 p l):=by
 induction l with
 | nil=>exact absurd rfl hp
 | cons x t ih =>
  rw [zbE8] at hp ⊢
  rw [zaN5]
  by_cases e:x.aN=p
  ·rw [bY e,bY e,zbS9 (by rw [← e]; exact zcU6 h)]
   subst e; exact kA _
  ·rw [bW e] at hp
   rw [bW e,bW e]
   exact ((ih (dA.1 h).2 hp).cons x).trans (List.Perm.swap _ _ _)
theorem zco9 {l:List aT} (h:Asc l) {p:aH} (hp:getH l p≠aA.zero):(zF2 p l).length+1=l.length:=by
 have:=(zcC8 h hp).length_eq
 simpa using this.symm
theorem zas1 (a:aA):zk2 a=true ↔ a=aA.zero:=by unfold zk2; simp
theorem zbT0 (a:aA):zk2 a=false ↔ a≠aA.zero:=by rw [← jS,zas1]
structure SoundP (q:aF):Prop where
 res:resV q.aB=true
 hv:zab2 q.aB q.bA=true
 cl:q.aL.length≤8
 cn:(q.aL.map (·.aN)).Nodup
 cg:∀ w ∈ q.aL,getH q.bA w.aN≠aA.zero∧zb8 q.aB w.aI=true∧covA q.aB w.aI (getH q.bA w.aN)=true∧w.aI≠getH q.bA w.aN∧w.aW=0∧w.bO=0
 wv:zal0 q.aS=true
 wl:q.bA.length+q.aS.length≤8
 wg:∀ w ∈ q.aS,zb8 q.aB w.aI=true∧getH q.bA w.aN=aA.zero
 gen:0≤q.gen∧q.gen≤1073741824
theorem zcb3 (q:aF):zaC2 q=true ↔ SoundP q:=by
 have hc:cvOk q=true ↔ q.aL.length≤8∧(q.aL.map (·.aN)).Nodup∧∀ w ∈ q.aL,getH q.bA w.aN≠aA.zero∧zb8 q.aB w.aI=true∧covA q.aB w.aI (getH q.bA w.aN)=true∧w.aI≠getH q.bA w.aN∧w.aW=0∧w.bO=0:=by
  unfold cvOk
  rw [← zaW6,← zX0 (z:=aR.zero)]
  simp only [bS,bV,eK,eC,cvI,cN,zbT0,cG]
  constructor
  ·rintro ⟨h1,h2⟩; exact ⟨h1,fun i hi=>(h2 i hi).1,fun i hi=>(h2 i hi).2⟩
  ·rintro ⟨h1,h2,h3⟩; exact ⟨h1,fun i hi=>⟨h2 i hi,h3 i hi⟩⟩
 have hw:wtOk q=true ↔ zal0 q.aS=true∧q.bA.length+q.aS.length≤8∧∀ w ∈ q.aS,zb8 q.aB w.aI=true∧getH q.bA w.aN=aA.zero:=by
  unfold wtOk
  rw [← zX0 (z:=aR.zero)]
  simp only [bS,bV,eK,eC,wtI,zas1]
 unfold zaC2
 simp only [bS,hc,hw,bV]
 constructor
 ·rintro ⟨h1,h2,⟨h3,h4,h5⟩,⟨h6,h7,h8⟩,h9⟩; exact ⟨h1,h2,h3,h4,h5,h6,h7,h8,h9⟩
 ·rintro ⟨h1,h2,h3,h4,h5,h6,h7,h8,h9⟩; exact ⟨h1,h2,⟨h3,h4,h5⟩,⟨h6,h7,h8⟩,h9⟩
theorem zaO2 (q:aF):zw6 q=true ↔ SoundP q∧canQ q=false:=by
 unfold zw6
 rw [bS,zcb3]
 show SoundP q∧(!canQ q)=true ↔ _
 rw [cN]
theorem zcZ9 (q:aF) (g:Int):canQ { q with gen:=g }=canQ q:=rfl
def ordQ (q:aF):List aR:=q.aL++q.aS
theorem zax5:∀ {a b:List aH},a.Pairwise ltP→b.Pairwise ltP→(∀ x,x ∈ a ↔ x ∈ b)→a=b
 | [],b,_,_,h=>by
  cases b with
  | nil=>rfl
  | cons y b=>exact absurd ((h y).2 (.head _)) (by simp)
 | x :: a,[],_,_,h=>absurd ((h x).1 (.head _)) (by simp)
 | x :: a,y :: b,ha,hb,h=>by
  rw [dA] at ha hb
  have hxy:x=y:=by
   rcases cE.1 ((h x).1 (.head _)) with e|hx
   ·exact e
   ·rcases cE.1 ((h y).2 (.head _)) with e|hy
    ·exact e.symm
    ·exact absurd (zau8 (ha.1 y hy) (hb.1 x hx)) (zao0 x)
  subst hxy
  congr 1
  refine zax5 ha.2 hb.2 fun z=>?_
  have hz:=h z
  constructor
  ·intro hm
   rcases cE.1 (hz.1 (.tail _ hm)) with e|hm'
   ·subst e; exact absurd (ha.1 z hm) (zao0 z)
   ·exact hm'
  ·intro hm
   rcases cE.1 (hz.2 (.tail _ hm)) with e|hm'
   ·subst e; exact absurd (hb.1 z hm) (zao0 z)
   ·exact hm'
def zas2 (p:aH):List aH→List aH
 | []=>[p]
 | x :: t=>if p=x then x :: t else if ltP p x then p :: x :: t else x :: zas2 p t
theorem zao4 {p x:aH}:∀ {l:List aH},x ∈ zas2 p l ↔ x=p∨x ∈ l
 | []=>by simp [zas2]
 | y :: t=>by
  simp only [zas2]
  split
  ·rename_i h; subst h
   simp only [cE]
   constructor
   ·intro h; exact .inr h
   ·rintro (rfl|h)
    ·exact .inl rfl
    ·exact h
  ·split
   ·simp only [cE]
   ·simp only [cE,zao4 (l:=t)]
    constructor
    ·rintro (h|h|h)
     ·exact .inr (.inl h)
     ·exact .inl h
     ·exact .inr (.inr h)
    ·rintro (h|h|h)
     ·exact .inr (.inl h)
     ·exact .inl h
     ·exact .inr (.inr h)
theorem zao5 {p:aH}:∀ {l:List aH},l.Pairwise ltP→(zas2 p l).Pairwise ltP
 | [],_=>by simp [zas2]
 | y :: t,h=>by
  simp only [zas2]
  split
  ·exact h
  ·rename_i hne
   rw [dA] at h
   split
   ·rename_i hlt
    rw [dA]
    refine ⟨fun x hx=>?_,dA.2 h⟩
    rcases cE.1 hx with rfl|hx
    ·exact hlt
    ·exact zau8 hlt (h.1 x hx)
   ·rename_i hlt
    rw [dA]
    refine ⟨fun x hx=>?_,zao5 h.2⟩
    rcases zao4.1 hx with rfl|hx
    ·rcases zao1 hne with h1|h1
     ·exact absurd h1 hlt
     ·exact h1
    ·exact h.1 x hx
theorem zcb4 {p:aH}:∀ {l:List aH},l.Pairwise ltP→p ∈ l→zas2 p l=l:=fun hl hp =>
 zax5 (zao5 hl) hl fun x=>by
  rw [zao4]
  constructor
  ·rintro (rfl|h)
   ·exact hp
   ·exact h
  ·exact .inr
def zaO3 (l:List aH):List aH:=l.foldl (fun s p=>zas2 p s) []
theorem zaO4:∀ (l s:List aH),s.Pairwise ltP→(l.foldl (fun s p=>zas2 p s) s).Pairwise ltP∧∀ x,x ∈ l.foldl (fun s p=>zas2 p s) s ↔ x ∈ s∨x ∈ l
 | [],s,h=>⟨h,fun x=>by simp⟩
 | p :: l,s,h=>by
  obtain ⟨h1,h2⟩:=zaO4 l (zas2 p s) (zao5 h)
  refine ⟨h1,fun x=>?_⟩
  rw [List.foldl_cons,h2,zao4,cE]
  constructor
  ·rintro ((h|h)|h)
   ·exact .inr (.inl h)
   ·exact .inl h
   ·exact .inr (.inr h)
  ·rintro (h|h|h)
   ·exact .inl (.inr h)
   ·exact .inl (.inl h)
   ·exact .inr h
theorem zbe6 (l:List aH):(zaO3 l).Pairwise ltP:=(zaO4 l [] .nil).1
theorem zbe7 {l:List aH} {x:aH}:x ∈ zaO3 l ↔ x ∈ l:=by
 have:=(zaO4 l [] .nil).2 x
 unfold zaO3
 simpa using this
theorem zbK0 {l s:List aH} (h:s.Pairwise ltP) (hm:∀ x,x ∈ s ↔ x ∈ l):s=zaO3 l:=zax5 h (zbe6 l) fun x=>by rw [hm,zbe7]
theorem zbe8 {l:List aH} (h:l.Pairwise ltP):l.Nodup:=h.imp fun hab e=>by subst e; exact zao0 _ hab
theorem zcp0 (l:List aH):(zaO3 l).length≤l.length:=dZ (zbe8 (zbe6 l)) fun x hx=>zbe7.1 hx
def dst:List aH→List aH
 | []=>[]
 | [x]=>[x]
 | x :: y :: t=>if x=y then dst (y :: t) else x :: dst (y :: t)
theorem zbn0:∀ {l:List aH} {x:aH},x ∈ dst l ↔ x ∈ l
 | [],x=>by simp [dst]
 | [y],x=>by simp [dst]
 | y :: z :: t,x=>by
  simp only [dst]
  split
  ·rename_i h; subst h
   rw [zbn0 (l:=y :: t)]
   simp
  ·rw [cE,zbn0 (l:=z :: t),cE (b:=y)]
theorem zbK1:∀ {l:List aH},l.Pairwise (fun x y=>¬ ltP y x)→(dst l).Pairwise ltP
 | [],_=>by simp [dst]
 | [x],_=>by simp [dst]
 | x :: y :: t,h=>by
  simp only [dst]
  rw [dA] at h
  split
  ·exact zbK1 h.2
  ·rename_i hne
   rw [dA]
   refine ⟨fun z hz=>?_,zbK1 h.2⟩
   have hz:=zbn0.1 hz
   by_cases e:x=z
   ·subst e
    rcases cE.1 hz with e|hz'
    ·exact absurd e hne
    ·have h2:=(dA.1 h.2).1 x hz'
     rcases zao1 hne with h3|h3
     ·exact absurd h3 h2
     ·exact absurd h3 (h.1 y (.head _))
   ·rcases zao1 e with h1|h1
    ·exact h1
    ·exact absurd h1 (h.1 z hz)
theorem zcp1 {l s:List aH} (h:s.Pairwise fun x y=>¬ ltP y x) (hm:∀ x,x ∈ s ↔ x ∈ l):dst s=zaO3 l:=zbK0 (zbK1 h) fun x=>by rw [zbn0,hm]
theorem zbT1:∀ (l:List aH) (x y:aH),dst (l++[x,y])=if x=y then dst (l++[x]) else dst (l++[x])++[y]
 | [],x,y=>by
  by_cases h:x=y <;> simp [dst,h]
 | [a],x,y=>by
  by_cases h:x=y
  ·subst h; by_cases h2:a=x <;> simp [dst,h2]
  ·by_cases h2:a=x
   ·subst h2; simp [dst,h]
   ·simp [dst,h,h2]
 | a :: b :: l,x,y=>by
  have ih:=zbT1 (b :: l) x y
  simp only [List.cons_append,dst] at ih ⊢
  rw [ih]
  by_cases h:x=y <;> by_cases h2:a=b <;> simp [h,h2]
theorem zcb5 (x y:aH):¬ ltP y x∨¬ ltP x y:=by
 by_cases h:ltP y x
 ·exact .inr (zaR1 h)
 ·exact .inl h
theorem zbK2 (l:List aH):(l.mergeSort fun x y=>!decide (ltP y x)).Pairwise fun x y=>¬ ltP y x:=by
 have:=iL (le:=fun x y=>!decide (ltP y x)) (fun a b c h1 h2=>by
  simp only [cN,cG] at h1 h2 ⊢
  intro h3
  by_cases e:b=a
  ·subst e; exact h2 h3
  ·rcases zao1 e with h4|h4
   ·exact h1 h4
   ·by_cases e2:b=c
    ·subst e2; exact h1 h3
    ·rcases zao1 e2 with h5|h5
     ·exact zaR1 (zau8 h3 h4) h5
     ·exact h2 h5) (fun a b=>by
  rcases zcb5 a b with h|h
  ·simp [h]
  ·simp [h]) l
 exact this.imp fun h=>by simpa using h
end Ab
end Go.Proofs.YtenebhlnfjcffaaGreatDoor
