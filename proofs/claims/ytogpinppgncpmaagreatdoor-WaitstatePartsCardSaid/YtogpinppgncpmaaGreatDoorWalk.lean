import Derived.Test.YtogpinppgncpmaaGreatDoorDec
namespace Go.Proofs.YtogpinppgncpmaaGreatDoor
namespace Ab
set_option linter.unusedSimpArgs false
set_option linter.unusedVariables false
theorem zf5 {x:Int} (h1:-9223372036854775808≤x) (h2:x < 9223372036854775808):IntKind.i64.wrap x=x:=by
 rw [IntKind.wrap_i64]; omega
theorem zcp8 {G X:Type} {body:G→Option (G⊕X)} (I:G→Prop) (μ:G→Nat) (spec:G→X)
  (h:∀ g,I g→(∃ g',body g=some (.inl g')∧I g'∧μ g' < μ g∧spec g'=spec g)∨body g=some (.inr (spec g))):∀ g,I g→zc0 body g=some (spec g):=by
 have key:∀ n g,μ g=n→I g→zc0 body g=some (spec g):=by
  intro n
  induction n using Nat.strongRecOn with
  | _ n ih =>
   intro g hn hg
   rw [zf6]
   rcases h g hg with ⟨g',h1,h2,h3,h4⟩|h1
   ·rw [h1]; simp only; rw [ih (μ g') (hn ▸ h3) g' rfl h2,h4]
   ·rw [h1]
 exact fun g hg=>key _ g rfl hg
def zS5 {X:Type} (out:Nat→Option X):Nat→Nat→Option X
 | 0,_=>none
 | n+1,i=>match out i with
  | some x=>some x
  | none=>zS5 out n (i+1)
theorem zJ0 {X:Type} {body:Int→Option (Int⊕X)} (n:Nat) (out:Nat→Option X) (fin:X)
  (h:∀ i:Nat,i < n→body i=some (match out i with|some x=>.inr x|none=>.inl ((i:Int)+1))) (hend:body n=some (.inr fin)):zc0 body 0=some ((zS5 out n 0).getD fin):=by
 have key:∀ k i,i+k=n→zc0 body (i:Int)=some ((zS5 out k i).getD fin):=by
  intro k
  induction k with
  | zero =>
   intro i hi
   rw [zf6,show i=n by omega,hend]
   rfl
  | succ k ih =>
   intro i hi
   rw [zf6,h i (by omega)]
   simp only [zS5]
   cases ho:out i with
   | some x=>rfl
   | none =>
    simp only
    have:=ih (i+1) (by omega)
    rw [show ((i+1:Nat):Int)=(i:Int)+1 by omega] at this
    exact this
 exact key n 0 (by omega)
def zba8 {S X:Type} (step:Nat→S→S⊕X) (fin:S→X):Nat→Nat→S→X
 | 0,_,s=>fin s
 | n+1,i,s=>match step i s with
  | .inl s'=>zba8 step fin n (i+1) s'
  | .inr x=>x
theorem zcO4 {S X:Type} {body:Int×S→Option ((Int×S)⊕X)} (n:Nat) (step:Nat→S→S⊕X) (fin:S→X) (inv:Nat→S→Prop)
  (h:∀ i s,i < n→inv i s→body ((i:Int),s)=some (match step i s with|.inl s'=>.inl ((i:Int)+1,s')|.inr x=>.inr x)∧∀ s',step i s=.inl s'→inv (i+1) s')
  (hend:∀ s,inv n s→body ((n:Int),s)=some (.inr (fin s))) (s0:S) (h0:inv 0 s0):zc0 body (0,s0)=some (zba8 step fin n 0 s0):=by
 have key:∀ k i s,i+k=n→inv i s→zc0 body ((i:Int),s)=some (zba8 step fin k i s):=by
  intro k
  induction k with
  | zero =>
   intro i s hi hs
   rw [zf6,show i=n by omega,hend s (by rw [← show i=n by omega]; exact hs)]
   rfl
  | succ k ih =>
   intro i s hi hs
   obtain ⟨h1,h2⟩:=h i s (by omega) hs
   rw [zf6,h1]
   simp only [zba8]
   cases ho:step i s with
   | inr x=>rfl
   | inl s' =>
    simp only
    have:=ih (i+1) s' (by omega) (h2 s' ho)
    rw [show ((i+1:Nat):Int)=(i:Int)+1 by omega] at this
    exact this
 exact key n 0 s0 (by omega) h0
theorem zq3 {G X:Type} {body:G→Option (G⊕X)} (I:G→Prop) (μ:G→Nat) (Post:X→Prop)
  (h:∀ g,I g→(∃ g',body g=some (.inl g')∧I g'∧μ g' < μ g)∨∃ x,body g=some (.inr x)∧Post x):∀ g,I g→∃ x,zc0 body g=some x∧Post x:=by
 have key:∀ n g,μ g=n→I g→∃ x,zc0 body g=some x∧Post x:=by
  intro n
  induction n using Nat.strongRecOn with
  | _ n ih =>
   intro g hn hg
   rw [zf6]
   rcases h g hg with ⟨g',h1,h2,h3⟩|⟨x,h1,h2⟩
   ·rw [h1]; exact ih (μ g') (hn ▸ h3) g' rfl h2
   ·rw [h1]; exact ⟨x,rfl,h2⟩
 exact fun g hg=>key _ g rfl hg
theorem zcp9 {S X:Type} {body:Int×S→Option ((Int×S)⊕X)} (n:Nat) (step:Nat→S→S⊕X) (fin:S→X) (inv:Nat→S→Prop)
  (h:∀ i s,i < n→inv i s→body ((i:Int),s)=some (match step i s with|.inl s'=>.inl ((i:Int)+1,s')|.inr x=>.inr x)∧∀ s',step i s=.inl s'→inv (i+1) s')
  (hend:∀ s,inv n s→body ((n:Int),s)=some (.inr (fin s))):∀ k i s,i+k=n→inv i s→zc0 body ((i:Int),s)=some (zba8 step fin k i s):=by
 intro k
 induction k with
 | zero =>
  intro i s hi hs
  rw [zf6,show i=n by omega,hend s (by rw [← show i=n by omega]; exact hs)]
  rfl
 | succ k ih =>
  intro i s hi hs
  obtain ⟨h1,h2⟩:=h i s (by omega) hs
  rw [zf6,h1]
  simp only [zba8]
  cases ho:step i s with
  | inr x=>rfl
  | inl s' =>
   simp only
   have:=ih (i+1) s' (by omega) (h2 s' ho)
   rw [show ((i+1:Nat):Int)=(i:Int)+1 by omega] at this
   exact this
theorem zS6 (p:Nat→Bool) {U:Type}:∀ k i,zS5 (fun i=>if p i=true then none else some (Sum.inr (α:=U) false)) k i=if (List.range' i k).all p=true then none else some (.inr false)
 | 0,i=>rfl
 | k+1,i=>by
  simp only [zS5,gQ,List.all_cons]
  cases hp:p i with
  | true =>
   simp only [cB,cH]
   exact zS6 p k (i+1)
  | false=>simp
theorem zcZ6 {α:Type} [DecidableEq α] (a b:List α) (z:α) (h:a.length=b.length):((List.range a.length).all fun i=>decide (a.getD i z=b.getD i z))=decide (a=b):=by
 rw [dN]
 simp only [eJ,eG,bY]
 constructor
 ·intro hh
  refine List.ext_getElem h fun i h1 h2=>?_
  have:=hh i h1
  rwa [bW,bW,bZ h1,bZ h2] at this
 ·rintro rfl i _; rfl
theorem zbz8 {α:Type} [DecidableEq α] (a b:List α) (z:α) {body:Int→Option (Int⊕(Unit⊕Bool))} (hl:a.length < 4611686018427387904) (h:a.length=b.length)
  (hb:∀ i:Int,body i=if (decide (i < (a.length:Int)))=true then gd (0≤i∧i < (a.length:Int)) <| gd (0≤i∧i < (b.length:Int)) <|
   (if (!decide (a.getD i.toNat z=b.getD i.toNat z))=true then some (.inr (.inr false)) else some (.inl (IntKind.i64.wrap (i+1)))) else some (.inr (.inl ()))) :
  (zc0 body 0).bind (fun|.inl _=>some true|.inr z=>some z)=some (decide (a=b)):=by
 have key:zc0 body 0=some ((zS5 (fun i=>if decide (a.getD i z=b.getD i z)=true then none else some (Sum.inr false)) a.length 0).getD (Sum.inl ())):=by
  refine zJ0 a.length _ (Sum.inl ()) (fun i hi=>?_) ?_
  ·rw [hb,bV (cN (by omega)),zg6 (by omega),zg6 (by omega)]
   simp only [Int.toNat_natCast]
   by_cases hx:a.getD i z=b.getD i z
   ·simp only [hx,cC,cK,bS,cA,cB]
    rw [zf5 (by omega) (by omega)]
   ·simp only [hx,cJ,dE,cB,bS,cA]
  ·rw [hb,bU (by simp)]
 rw [key,zS6,← eM,zcZ6 a b z h]
 cases decide (a=b) <;> rfl
theorem zbO7 {α:Type} (f:Nat→α):∀ n i (s:List α),zba8 (X:=List α) (fun i s=>.inl (s++[f i])) (fun s=>s) n i s=s++(List.range' i n).map f
 | 0,i,s=>by simp [zba8]
 | n+1,i,s=>by simp [zba8,zbO7 f n (i+1),gQ]
theorem zbO8 {α:Type} (l:List α) (z:α) (p:α→Bool):∀ n i (s:List α),i+n=l.length→zba8 (X:=List α) (fun i s=>.inl (if p (l.getD i z)=true then s++[l.getD i z] else s)) (fun s=>s) n i s=s++(l.drop i).filter p
 | 0,i,s,h=>by simp [zba8,gF (show l.length≤i by omega)]
 | n+1,i,s,h=>by
  have hd:l.drop i=l.getD i z :: l.drop (i+1):=by
   rw [fQ (show i < l.length by omega),bW,bZ (show i < l.length by omega)]; rfl
  rw [hd]
  simp only [zba8,zbO8 l z p n (i+1) _ (by omega),jO]
  split <;> simp
theorem zaA2 {α:Type} (l:List α) (i:Nat) (z:α) (h:i < l.length):l.drop i=l.getD i z :: l.drop (i+1):=by
 rw [fQ h,bW,bZ h]; rfl
theorem zbO9 {α β:Type} (l:List α) (z:α) (f:α→β):∀ n i,i+n≤l.length→(List.range' i n).map (fun i=>f (l.getD i z))=((l.drop i).take n).map f
 | 0,i,h=>by simp
 | n+1,i,h=>by
  rw [zaA2 l i z (by omega),List.take_succ_cons,gQ,dZ,dZ,zbO9 l z f n (i+1) (by omega)]
theorem zcc4 {α:Type} (l:List α) (i n:Nat) (z:α) (h:i < n):(l.take n).getD i z=l.getD i z:=by
 rw [bW,bW,dK,bV h]
theorem zt9 {α:Type} (l:List α) (i:Nat) (x z:α) (h:i < l.length):(l.set i x).getD i z=x:=by
 rw [bW,List.getElem?_set_self h]; rfl
theorem zcO5 {α:Type} (l m:List α) (i:Nat) (z:α) (h:i < l.length):(l++m).getD i z=l.getD i z:=by
 rw [bW,bW,dJ h]
def walk {α S X:Type} (step:Nat→α→S→Option (S⊕X)) (fin:S→X):List α→Nat→S→Option X
 | [],_,s=>some (fin s)
 | a :: l,i,s=>match step i a s with
  | none=>none
  | some (.inl s')=>walk step fin l (i+1) s'
  | some (.inr x)=>some x
def wmap {G S X:Type} (mk:S→G):S⊕X→G⊕X
 | .inl s=>.inl (mk s)
 | .inr x=>.inr x
theorem zB3 {α S X G:Type} {body:G→Option (G⊕X)} (l:List α) (z:α) (mk:Nat→S→G) (step:Nat→α→S→Option (S⊕X)) (fin:S→X) (inv:Nat→S→Prop)
  (hb:∀ i s,i < l.length→inv i s→body (mk i s)=(step i (l.getD i z) s).map (wmap (mk (i+1)))∧∀ s',step i (l.getD i z) s=some (.inl s')→inv (i+1) s')
  (he:∀ s,inv l.length s→body (mk l.length s)=some (.inr (fin s))) (s0:S) (h0:inv 0 s0):zc0 body (mk 0 s0)=walk step fin l 0 s0:=by
 have key:∀ k i s,i+k=l.length→inv i s→zc0 body (mk i s)=walk step fin (l.drop i) i s:=by
  intro k
  induction k with
  | zero =>
   intro i s hi hs
   have:i=l.length:=by omega
   subst this
   rw [zf6,he s hs,iV]
   rfl
  | succ k ih =>
   intro i s hi hs
   obtain ⟨h1,h2⟩:=hb i s (by omega) hs
   rw [zf6,h1,zaA2 l i z (by omega)]
   simp only [walk]
   cases ho:step i (l.getD i z) s with
   | none=>rfl
   | some y =>
    cases y with
    | inl s'=>exact ih (i+1) s' (by omega) (h2 s' ho)
    | inr x=>rfl
 have:=key l.length 0 s0 (by omega) h0
 rwa [fY] at this
theorem zal0 {α S X G:Type} {body:G→Option (G⊕X)} (l:List α) (z:α) (mk:Nat→S→G) (step:Nat→α→S→Option (S⊕X)) (fin:S→X)
  (hb:∀ i s,i < l.length→body (mk i s)=(step i (l.getD i z) s).map (wmap (mk (i+1))))
  (he:∀ s,body (mk l.length s)=some (.inr (fin s))) (s0:S):zc0 body (mk 0 s0)=walk step fin l 0 s0 :=
 zB3 l z mk step fin (fun _ _=>True) (fun i s h _=>⟨hb i s h,fun _ _=>trivial⟩) (fun s _=>he s) s0 trivial
theorem zc4 (i:Nat) (h:i < 4611686018427387904):IntKind.i64.wrap ((i:Int)+1)=((i+1:Nat):Int):=by rw [zf5 (by omega) (by omega)]; omega
theorem zaA3 (i:Nat) (h:i < 4611686018427387904) (h0:0 < i):IntKind.i64.wrap ((i:Int) - 1)=((i - 1:Nat):Int):=by rw [zf5 (by omega) (by omega)]; omega
theorem gdp {α:Type} {p:Prop} [Decidable p] {k:Option α} (h:p):gd p k=k:=bV h
@[simp] theorem zm1 {α:Type} [Decidable True] (k:Option α):gd True k=k:=bV trivial
@[simp] theorem zcZ7 {α:Type} [Decidable False] (k:Option α):gd False k=none:=bU (fun h=>h)
theorem gdn {α:Type} {p:Prop} [Decidable p] {k:Option α} (h:¬ p):gd p k=none:=bU h
def zaE6 {β:Type} (s:List β):Option β→List β
 | some b=>s++[b]
 | none=>s
theorem zcO6 {β:Type} (s:List β) (o:Option β):(zaE6 s o).length≤s.length+1:=by cases o <;> simp [zaE6]
theorem zaJ4 {α β X:Type} (f:α→Option β) (fin:List β→X):∀ (l:List α) (i:Nat) (s:List β),
  walk (fun _ a s=>some (.inl (zaE6 s (f a)))) fin l i s=some (fin (s++l.filterMap f))
 | [],i,s=>by simp [walk]
 | a :: l,i,s=>by
  simp only [walk,List.filterMap_cons]
  rw [zaJ4 f fin l (i+1)]
  cases f a <;> simp [zaE6]
end Ab
end Go.Proofs.YtogpinppgncpmaaGreatDoor
