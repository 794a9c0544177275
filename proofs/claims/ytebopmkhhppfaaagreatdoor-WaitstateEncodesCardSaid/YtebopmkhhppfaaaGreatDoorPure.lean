import Derived.Test.YtebopmkhhppfaaaGreatDoorDec
namespace Go.Proofs.YtebopmkhhppfaaaGreatDoor
namespace Ab
set_option linter.unusedSimpArgs false
set_option linter.unusedVariables false
theorem zc4 {x:Int} (h1:-9223372036854775808≤x) (h2:x < 9223372036854775808):IntKind.i64.wrap x=x:=by
 rw [IntKind.wrap_i64]; omega
def zH4 {X:Type} (out:Nat→Option X):Nat→Nat→Option X
 | 0,_=>none
 | n+1,i=>match out i with
  | some x=>some x
  | none=>zH4 out n (i+1)
theorem zz6 {X:Type} {body:Int→Option (Int⊕X)} (n:Nat) (out:Nat→Option X) (fin:X)
  (h:∀ i:Nat,i < n→body i=some (match out i with|some x=>.inr x|none=>.inl ((i:Int)+1))) (hend:body n=some (.inr fin)):zb4 body 0=some ((zH4 out n 0).getD fin):=by
 have key:∀ k i,i+k=n→zb4 body (i:Int)=some ((zH4 out k i).getD fin):=by
  intro k
  induction k with
  | zero =>
   intro i hi
   rw [zd2,show i=n by omega,hend]
   rfl
  | succ k ih =>
   intro i hi
   rw [zd2,h i (by omega)]
   simp only [zH4]
   cases ho:out i with
   | some x=>rfl
   | none =>
    simp only
    have:=ih (i+1) (by omega)
    rw [show ((i+1:Nat):Int)=(i:Int)+1 by omega] at this
    exact this
 exact key n 0 (by omega)
theorem zaQ9 {G X:Type} {body:G→Option (G⊕X)} (I:G→Prop) (μ:G→Nat) (Post:X→Prop)
  (h:∀ g,I g→(∃ g',body g=some (.inl g')∧I g'∧μ g' < μ g)∨∃ x,body g=some (.inr x)∧Post x):∀ g,I g→∃ x,zb4 body g=some x∧Post x:=by
 have key:∀ n g,μ g=n→I g→∃ x,zb4 body g=some x∧Post x:=by
  intro n
  induction n using Nat.strongRecOn with
  | _ n ih =>
   intro g hn hg
   rw [zd2]
   rcases h g hg with ⟨g',h1,h2,h3⟩|⟨x,h1,h2⟩
   ·rw [h1]; exact ih (μ g') (hn ▸ h3) g' rfl h2
   ·rw [h1]; exact ⟨x,rfl,h2⟩
 exact fun g hg=>key _ g rfl hg
theorem zJ7 (p:Nat→Bool) {U:Type}:∀ k i,zH4 (fun i=>if p i=true then none else some (Sum.inr (α:=U) false)) k i=if (List.range' i k).all p=true then none else some (.inr false)
 | 0,i=>rfl
 | k+1,i=>by
  simp only [zH4,List.range'_succ,List.all_cons]
  cases hp:p i with
  | true =>
   simp only [if_true,Bool.true_and]
   exact zJ7 p k (i+1)
  | false=>simp
theorem zbX3 {α:Type} [DecidableEq α] (a b:List α) (z:α) (h:a.length=b.length):((List.range a.length).all fun i=>decide (a.getD i z=b.getD i z))=decide (a=b):=by
 rw [Bool.eq_iff_iff]
 simp only [List.all_eq_true,List.mem_range,decide_eq_true_eq]
 constructor
 ·intro hh
  refine List.ext_getElem h fun i h1 h2=>?_
  have:=hh i h1
  rwa [List.getD_eq_getElem?_getD,List.getD_eq_getElem?_getD,List.getElem?_eq_getElem h1,List.getElem?_eq_getElem h2] at this
 ·rintro rfl i _; rfl
theorem zbu2 {α:Type} [DecidableEq α] (a b:List α) (z:α) {body:Int→Option (Int⊕(Unit⊕Bool))} (hl:a.length < 4611686018427387904) (h:a.length=b.length)
  (hb:∀ i:Int,body i=if (decide (i < (a.length:Int)))=true then gd (0≤i∧i < (a.length:Int)) <| gd (0≤i∧i < (b.length:Int)) <|
   (if (!decide (a.getD i.toNat z=b.getD i.toNat z))=true then some (.inr (.inr false)) else some (.inl (IntKind.i64.wrap (i+1)))) else some (.inr (.inl ()))) :
  (zb4 body 0).bind (fun|.inl _=>some true|.inr z=>some z)=some (decide (a=b)):=by
 have key:zb4 body 0=some ((zH4 (fun i=>if decide (a.getD i z=b.getD i z)=true then none else some (Sum.inr false)) a.length 0).getD (Sum.inl ())):=by
  refine zz6 a.length _ (Sum.inl ()) (fun i hi=>?_) ?_
  ·rw [hb,if_pos (decide_eq_true (by omega)),zg6 (by omega),zg6 (by omega)]
   simp only [Int.toNat_natCast]
   by_cases hx:a.getD i z=b.getD i z
   ·simp only [hx,decide_true,Bool.not_true,Bool.false_eq_true,if_false,if_true]
    rw [zc4 (by omega) (by omega)]
   ·simp only [hx,decide_false,Bool.not_false,if_true,Bool.false_eq_true,if_false]
  ·rw [hb,if_neg (by simp)]
 rw [key,zJ7,← List.range_eq_range',zbX3 a b z h]
 cases decide (a=b) <;> rfl
theorem zao8 {α:Type} (l:List α) (i:Nat) (z:α) (h:i < l.length):l.drop i=l.getD i z :: l.drop (i+1):=by
 rw [List.drop_eq_getElem_cons h,List.getD_eq_getElem?_getD,List.getElem?_eq_getElem h]; rfl
theorem zbQ9 {α:Type} (l:List α) (i n:Nat) (z:α) (h:i < n):(l.take n).getD i z=l.getD i z:=by
 rw [List.getD_eq_getElem?_getD,List.getD_eq_getElem?_getD,List.getElem?_take,if_pos h]
theorem zbp1 {α:Type} (l:List α) (i:Nat) (x z:α) (h:i < l.length):(l.set i x).getD i z=x:=by
 rw [List.getD_eq_getElem?_getD,List.getElem?_set_self h]; rfl
theorem zbR0 {α:Type} (l m:List α) (i:Nat) (z:α) (h:i < l.length):(l++m).getD i z=l.getD i z:=by
 rw [List.getD_eq_getElem?_getD,List.getD_eq_getElem?_getD,List.getElem?_append_left h]
end Ab
end Go.Proofs.YtebopmkhhppfaaaGreatDoor
