import Derived.Test.YtebopmkhhppfaaaGreatDoorPure
namespace Go.Proofs.YtebopmkhhppfaaaGreatDoor
namespace Ab
set_option linter.unusedSimpArgs false
set_option linter.unusedVariables false
def walk {α S X:Type} (step:Nat→α→S→Option (S⊕X)) (fin:S→X):List α→Nat→S→Option X
 | [],_,s=>some (fin s)
 | a :: l,i,s=>match step i a s with
  | none=>none
  | some (.inl s')=>walk step fin l (i+1) s'
  | some (.inr x)=>some x
def wmap {G S X:Type} (mk:S→G):S⊕X→G⊕X
 | .inl s=>.inl (mk s)
 | .inr x=>.inr x
theorem zv5 {α S X G:Type} {body:G→Option (G⊕X)} (l:List α) (z:α) (mk:Nat→S→G) (step:Nat→α→S→Option (S⊕X)) (fin:S→X) (inv:Nat→S→Prop)
  (hb:∀ i s,i < l.length→inv i s→body (mk i s)=(step i (l.getD i z) s).map (wmap (mk (i+1)))∧∀ s',step i (l.getD i z) s=some (.inl s')→inv (i+1) s')
  (he:∀ s,inv l.length s→body (mk l.length s)=some (.inr (fin s))) (s0:S) (h0:inv 0 s0):zb4 body (mk 0 s0)=walk step fin l 0 s0:=by
 have key:∀ k i s,i+k=l.length→inv i s→zb4 body (mk i s)=walk step fin (l.drop i) i s:=by
  intro k
  induction k with
  | zero =>
   intro i s hi hs
   have:i=l.length:=by omega
   subst this
   rw [zd2,he s hs,List.drop_length]
   rfl
  | succ k ih =>
   intro i s hi hs
   obtain ⟨h1,h2⟩:=hb i s (by omega) hs
   rw [zd2,h1,zao8 l i z (by omega)]
   simp only [walk]
   cases ho:step i (l.getD i z) s with
   | none=>rfl
   | some y =>
    cases y with
    | inl s'=>exact ih (i+1) s' (by omega) (h2 s' ho)
    | inr x=>rfl
 have:=key l.length 0 s0 (by omega) h0
 rwa [List.drop_zero] at this
theorem zai5 {α S X G:Type} {body:G→Option (G⊕X)} (l:List α) (z:α) (mk:Nat→S→G) (step:Nat→α→S→Option (S⊕X)) (fin:S→X)
  (hb:∀ i s,i < l.length→body (mk i s)=(step i (l.getD i z) s).map (wmap (mk (i+1))))
  (he:∀ s,body (mk l.length s)=some (.inr (fin s))) (s0:S):zb4 body (mk 0 s0)=walk step fin l 0 s0 :=
 zv5 l z mk step fin (fun _ _=>True) (fun i s h _=>⟨hb i s h,fun _ _=>trivial⟩) (fun s _=>he s) s0 trivial
theorem ze6 (i:Nat) (h:i < 4611686018427387904):IntKind.i64.wrap ((i:Int)+1)=((i+1:Nat):Int):=by rw [zc4 (by omega) (by omega)]; omega
theorem zaw3 (i:Nat) (h:i < 4611686018427387904) (h0:0 < i):IntKind.i64.wrap ((i:Int) - 1)=((i - 1:Nat):Int):=by rw [zc4 (by omega) (by omega)]; omega
theorem gdp {α:Type} {p:Prop} [Decidable p] {k:Option α} (h:p):gd p k=k:=if_pos h
@[simp] theorem zx3 {α:Type} [Decidable True] (k:Option α):gd True k=k:=if_pos trivial
@[simp] theorem zbX4 {α:Type} [Decidable False] (k:Option α):gd False k=none:=if_neg (fun h=>h)
theorem gdn {α:Type} {p:Prop} [Decidable p] {k:Option α} (h:¬ p):gd p k=none:=if_neg h
def zaw4 {β:Type} (s:List β):Option β→List β
 | some b=>s++[b]
 | none=>s
theorem zaw5 {α β X:Type} (f:α→Option β) (fin:List β→X):∀ (l:List α) (i:Nat) (s:List β),
  walk (fun _ a s=>some (.inl (zaw4 s (f a)))) fin l i s=some (fin (s++l.filterMap f))
 | [],i,s=>by simp [walk]
 | a :: l,i,s=>by
  simp only [walk,List.filterMap_cons]
  rw [zaw5 f fin l (i+1)]
  cases f a <;> simp [zaw4]
end Ab
end Go.Proofs.YtebopmkhhppfaaaGreatDoor
