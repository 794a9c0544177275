/-
  The law TableEvents in plain Lean: the events of a removal tell what it did.
-/
import Derived.Test.YtfjeceicgfdmjaaGreatDoorTabG
import Derived.Test.YtfjeceicgfdmjaaGreatDoorFlaw13TableEvents
namespace Go.Proofs.YtfjeceicgfdmjaaGreatDoor
namespace Ab
set_option linter.unusedVariables false
set_option linter.unusedSimpArgs false
def zbd5 (l : List Hold) (e : Event) : List Hold := setL l e.proc e.amount
theorem adv_holds : ∀ q, (advS q).holds = (advG q).foldl (fun l g => setL l g.proc g.amount) q.holds := by
 refine zaG7 (fun q h => ?_) fun q hc h => ?_
 ·rw [zQ4 h, zbv5 h]; rfl
 ·rw [zV1 hc, zbv4 hc, List.foldl_cons, h, (zaH2 hc).2]
theorem remE_holds {q : Queue} (h : zb9 q = true) (p : Proc) : (remE p q).foldl zbd5 q.holds = (remN q p).holds := by
 have hs := ((zg3 q).1 h).1
 unfold remE remN
 cases hp : hasQ q p with
 | false =>
  have e : (zt5 q p).2.2 ≠ 0 := by rw [zY6 h hp]; decide
  rw [if_neg e, if_neg e]; rfl
 | true =>
  have e := zap1 h hp
  have e0 : (zt5 q p).2.2 = 0 := by rw [e]; rfl
  rw [if_pos e0, if_pos e0, e, zV3]
  show _ = (advS (del q p)).holds
  rw [adv_holds, List.foldl_append]
  have hd : ((if getH q.holds p = Amount.zero then [] else [zce4 p q.resource.name Amount.zero]) : List Event).foldl zbd5 q.holds = (del q p).holds := by
   show _ = others p q.holds
   by_cases hz : getH q.holds p = Amount.zero
   ·rw [if_pos hz]
    refine (zav5 fun x hx ex => ?_).symm
    exact ((zbw0 hs.hv p).2 (List.mem_map.2 ⟨x, hx, ex⟩)) hz
   ·rw [if_neg hz]
    show setL q.holds p Amount.zero = _
    unfold setL
    rw [if_pos rfl]
  rw [hd]
  show (zK6 q.resource.name (advG (del q p))).foldl zbd5 (del q p).holds = _
  unfold zK6
  rw [List.foldl_map]; rfl
theorem zbk2 {p : Proc} {q : Queue} {e : Event} (h : e ∈ remE p q) : e.name = q.resource.name ∧ (e.kind = 1 ∨ (e.kind = 3 ∧ e.proc = p)) := by
 unfold remE at h
 split at h
 ·rcases List.mem_append.1 h with h | h
  ·split at h
   ·cases h
   ·rw [List.mem_singleton.1 h]; exact ⟨rfl, .inr ⟨rfl, rfl⟩⟩
  ·unfold zK6 at h
   obtain ⟨g, _, rfl⟩ := List.mem_map.1 h
   exact ⟨rfl, .inl rfl⟩
 ·cases h
def zaH8 (t : List Queue) (s : List (List Hold)) (e : Event) : List (List Hold) := s.set (zi3 t e.name).toNat (zbd5 (s.getD (zi3 t e.name).toNat []) e)
theorem zby5 {α : Type} (l : List α) (i : Nat) (x z : α) (h : i < l.length) : (l.set i x).getD i z = x := by
 rw [List.getD_eq_getElem?_getD, List.getElem?_set_self h]; rfl
theorem zbd6 (t : List Queue) (n : Nat) : ∀ (es : List Event) (s : List (List Hold)), (∀ e ∈ es, zi3 t e.name = n) → n < s.length → es.foldl (zaH8 t) s = s.set n (es.foldl zbd5 (s.getD n []))
 | [], s, _, hn => by rw [List.foldl_nil, List.foldl_nil, zaB6 _ _ _ hn]
 | e :: es, s, h, hn => by
  have he := h e (.head _)
  rw [List.foldl_cons, List.foldl_cons, zbd6 t n es _ (fun x hx => h x (.tail _ hx)) (by unfold zaH8; rw [List.length_set]; exact hn)]
  unfold zaH8
  rw [he, Int.toNat_natCast, List.set_set, zby5 _ _ _ _ hn]
theorem zbG2 {t : List Queue} (h : ValidT t) (p : Proc) : ∀ n, n ≤ t.length → ((t.take n).flatMap (remE p)).foldl (zaH8 t) (t.map (·.holds)) = (t.take n).map (fun q => (remN q p).holds) ++ (t.drop n).map (·.holds)
 | 0, _ => by simp
 | n + 1, hn => by
  have hlt : n < t.length := by omega
  have hq := h.each _ (zr1 (z := Queue.zero) hlt)
  have hd : t.drop n = t.getD n Queue.zero :: t.drop (n + 1) := by rw [List.drop_eq_getElem_cons hlt, List.getD_eq_getElem?_getD, List.getElem?_eq_getElem hlt]; rfl
  have hml : ((t.take n).map (fun q => (remN q p).holds)).length = n := by rw [List.length_map, List.length_take]; omega
  rw [zX8 (z := Queue.zero) hlt, List.flatMap_append, List.foldl_append, zbG2 h p n (by omega)]
  have ef : [t.getD n Queue.zero].flatMap (remE p) = remE p (t.getD n Queue.zero) := by simp
  rw [ef, zbd6 t n _ _ (fun e he => by rw [(zbk2 he).1]; exact zbx3 h.asc hlt) (by rw [List.length_append, hml, List.length_map, List.length_drop]; omega), hd]
  have eg : ((t.take n).map (fun q => (remN q p).holds) ++ (t.getD n Queue.zero :: t.drop (n + 1)).map (·.holds)).getD n [] = (t.getD n Queue.zero).holds := by
   rw [List.getD_eq_getElem?_getD, List.getElem?_append_right (by omega), hml, Nat.sub_self]; rfl
  rw [eg, remE_holds hq, List.set_append_right _ _ (by omega), hml, Nat.sub_self, List.map_append, List.append_assoc]
  rfl
theorem zbL4 (t : List Queue) (hl : t.length ≤ 1000) (hs : Lens t) : zb8 (zt8 t) (0, List.replicate t.length []) = some (t.map (·.holds)) := by
 obtain ⟨x, hx, hp⟩ := zQ1 (body := zt8 t) (fun g => ∃ i : Nat, i ≤ t.length ∧ g.1 = (i : Int) ∧ g.2.length = t.length ∧ g.2.take i = (t.map (·.holds)).take i) (fun g => t.length - g.1.toNat) (fun x => x = t.map (·.holds)) (by
  rintro ⟨gi, s⟩ ⟨i, hi, h1, h2, h3⟩
  simp only at h1 h2 h3
  subst h1
  unfold zt8
  by_cases hlt : i < t.length
  ·left
   have hq := hs _ (zr1 (z := Queue.zero) hlt)
   have g3 : 0 ≤ (i : Int) ∧ (i : Int) < (t.length : Int) := by omega
   have g4 : 0 ≤ (i : Int) ∧ (i : Int) < ((s.length : Nat) : Int) := by omega
   refine ⟨(((i + 1 : Nat) : Int), s.set i (t.getD i Queue.zero).holds), ?_, ⟨i + 1, by omega, rfl, by simp [h2], ?_⟩, by simp only [Int.toNat_natCast]; omega⟩
   ·simp only [Int.toNat_natCast, zd5 i (show i < 4611686018427387904 by omega)]
    rw [if_pos (decide_eq_true g3.2), zb2 g3, zb2 (by omega), zb2 g4]
   ·simp only
    rw [zX8 (z := []) (show i < (s.set i (t.getD i Queue.zero).holds).length by rw [List.length_set]; omega), List.take_set_of_le (Nat.le_refl _), h3, zby5 _ _ _ _ (by omega), zX8 (z := []) (show i < (t.map (·.holds)).length by rw [List.length_map]; exact hlt)]
    congr 2
    rw [List.getD_eq_getElem?_getD, List.getD_eq_getElem?_getD, List.getElem?_map, List.getElem?_eq_getElem hlt]; rfl
  ·right
   have : i = t.length := by omega
   subst this
   refine ⟨s, by rw [if_neg (by simp)], ?_⟩
   rw [List.take_of_length_le (by omega), List.take_of_length_le (by rw [List.length_map]; omega)] at h3
   exact h3) (0, List.replicate t.length []) ⟨0, by omega, rfl, by simp, by simp⟩
 rw [hx, hp]
theorem zby6 {q : Queue} (h : zb9 q = true) (p : Proc) : getH (remN q p).holds p = Amount.zero ∧ (zz0 (remN q p) p).2 = false := by
 have hf : hasQ (remN q p) p = false := by rw [Bool.eq_false_iff]; exact fun e => ((zbw2 h p p).1 e).2 rfl
 refine ⟨Classical.byContradiction fun hz => ?_, ?_⟩
 ·rw [(zl3 _ p).2 (.inr hz)] at hf; cases hf
 ·unfold hasQ at hf
  rw [Bool.or_eq_false_iff] at hf
  exact hf.1
theorem zaN0 (l : List Int) (n : Int) : zz1 l n = some true := by
 unfold zz1
 split
 ·rw [zbF7]; rfl
 ·next hl =>
  obtain ⟨t, ht, hv, h6⟩ := zek6 (l := l) (zek4 (by simpa using hl))
  have hl8 := hv.len
  rw [ht, Option.bind_some, zap2, Option.bind_some, zaR7, Option.bind_some]
  generalize zbw8 n = p
  have hr := zbp6 hv p
  have hrv := zbC3 hv p
  have hre := zcl1 hv p
  rw [hr] at hrv hre
  rw [hr]
  simp only at hrv hre ⊢
  have hlen : (t.map (remN · p)).length = t.length := List.length_map ..
  rw [hlen, if_neg (nd0 rfl), zb2 (by omega), Int.toNat_natCast, zbL4 t (by omega) hv.lens, Option.bind_some]
  have gl : ∀ i, i < t.length → (t.map (remN · p)).getD i Queue.zero = remN (t.getD i Queue.zero) p := fun i hi => by
   rw [List.getD_eq_getElem?_getD, List.getD_eq_getElem?_getD, List.getElem?_map, List.getElem?_eq_getElem hi]; rfl
  unfold zA3
  have key := zr0 (body := zt7 t p (t.map (remN · p), t.flatMap (remE p))) (t.flatMap (remE p)) Event.zero (fun i (s : List (List Hold)) => ((i : Int), s)) (fun _ e s => some (.inl (zaH8 t s e))) (fun s => Sum.inl (β := Bool) s) (fun i s => s.length = t.length ∧ ∀ x ∈ s, x.length ≤ 8 + i)
   (fun i s hi hs => by
    have h3 : 0 ≤ (i : Int) ∧ (i : Int) < ((t.flatMap (remE p)).length : Int) := by omega
    obtain ⟨q, hq, hm⟩ := List.mem_flatMap.1 (zr1 (z := Event.zero) hi)
    obtain ⟨f1, f2⟩ := zbk2 hm
    obtain ⟨k, hk, ek⟩ := List.getElem_of_mem hq
    have eq2 : t.getD k Queue.zero = q := by rw [List.getD_eq_getElem?_getD, List.getElem?_eq_getElem hk]; exact ek
    have hf : zi3 t ((t.flatMap (remE p)).getD i Event.zero).name = k := by rw [f1, ← eq2]; exact zbx3 hv.asc hk
    have hks : k < s.length := by rw [hs.1]; exact hk
    have hxl := hs.2 _ (zr1 (z := []) hks)
    refine ⟨?_, fun s2 h => ?_⟩
    ·unfold zt7
     simp only [Int.toNat_natCast]
     rw [if_pos (decide_eq_true h3.2), zb2 h3, zY8 _ _ (by omega), Option.bind_some, hf, zb2 (fun _ => h3), zb2 (fun _ => h3), zb2 (fun _ => h3)]
     have hc : (decide ((k : Int) < 0) || ((!decide (((t.flatMap (remE p)).getD i Event.zero).kind = 1)) && ((!decide (((t.flatMap (remE p)).getD i Event.zero).kind = 3)) || (!decide (((t.flatMap (remE p)).getD i Event.zero).proc = p))))) = false := by
      have k0 : decide ((k : Int) < 0) = false := decide_eq_false (by omega)
      rcases f2 with f2 | ⟨f2, f3⟩
      ·simp only [k0, f2, decide_true, Bool.not_true, Bool.false_and, Bool.or_self]
      ·have k1 : decide ((3 : Int) = 1) = false := by decide
       simp only [k0, f2, f3, k1, decide_true, Bool.not_true, Bool.or_self, Bool.and_false]
     rw [hc, if_neg (by decide), zb2 (by omega), zb2 h3, zb2 h3, Int.toNat_natCast, zU7 _ _ _ (by omega), Option.bind_some, zb2 (by omega), zd5 i (by omega)]
     unfold zaH8
     rw [hf]; rfl
    ·simp only [Option.some.injEq, Sum.inl.injEq] at h; subst h
     unfold zaH8
     rw [hf, Int.toNat_natCast]
     refine ⟨by rw [List.length_set]; exact hs.1, fun x hx => ?_⟩
     rcases List.mem_or_eq_of_mem_set hx with hx | rfl
     ·have := hs.2 x hx; omega
     ·have := zbu1 (s.getD k []) ((t.flatMap (remE p)).getD i Event.zero).proc ((t.flatMap (remE p)).getD i Event.zero).amount
      show (setL _ _ _).length ≤ _
      omega)
   (fun s hs => by unfold zt7; simp) (t.map (·.holds)) ⟨List.length_map .., fun x hx => by
    obtain ⟨q, hq, rfl⟩ := List.mem_map.1 hx
    have := zA0 (hv.each q hq)
    omega⟩
  have hfin : (t.flatMap (remE p)).foldl (zaH8 t) (t.map (·.holds)) = t.map (fun q => (remN q p).holds) := by
   have := zbG2 hv p t.length (Nat.le_refl _)
   rw [List.take_length, List.drop_length] at this
   rw [this]; simp
  rw [show ((0, t.map (·.holds)) : Int × List (List Hold)) = (fun (i : Nat) (s : List (List Hold)) => ((i : Int), s)) 0 (t.map (·.holds)) from rfl, key, zaD4 (zaH8 t), hfin, Option.bind_some]
  simp only
  unfold zA2
  have gh : ∀ i, i < t.length → (t.map (fun q => (remN q p).holds)).getD i [] = (remN (t.getD i Queue.zero) p).holds := fun i hi => by
   rw [List.getD_eq_getElem?_getD, List.getD_eq_getElem?_getD, List.getElem?_map, List.getElem?_eq_getElem hi]; rfl
  have hl1 : zb8 (zt6 t p (t.map (remN · p), t.flatMap (remE p)) (t.map fun q => (remN q p).holds)) 0 = some (.inl ()) := by
   obtain ⟨z, hz, hq⟩ := zQ1 (body := zt6 t p (t.map (remN · p), t.flatMap (remE p)) (t.map fun q => (remN q p).holds)) (fun g => ∃ i : Nat, i ≤ t.length ∧ g = (i : Int)) (fun g => t.length - g.toNat) (fun z => z = .inl ()) (by
    rintro g ⟨i, hi, rfl⟩
    unfold zt6
    simp only [List.length_map]
    by_cases hlt : i < t.length
    ·left
     have g3 : 0 ≤ (i : Int) ∧ (i : Int) < (t.length : Int) := by omega
     have hq := hv.each _ (zr1 (z := Queue.zero) hlt)
     have hlens := zA0 (zab7 hq p)
     have hz : zc6 Amount.zero = true := rfl
     refine ⟨((i + 1 : Nat) : Int), ?_, ⟨i + 1, by omega, rfl⟩, by simp only [Int.toNat_natCast]; omega⟩
     rw [if_pos (decide_eq_true g3.2), zb2 g3, zb2 g3]
     simp only [Int.toNat_natCast]
     rw [gh i hlt, gl i hlt, zbf2 _ _ (by omega), Option.bind_some, zb2 (fun _ => g3), if_pos (decide_eq_true rfl), zY5 _ _ (by omega), Option.bind_some, (zby6 hq p).1, hz, zd5 i (by omega)]
     simp only [decide_true, Bool.not_true, Bool.or_self, Bool.false_eq_true, if_false]
    ·right
     have : i = t.length := by omega
     subst this
     exact ⟨_, by rw [if_neg (by simp)], rfl⟩) 0 ⟨0, by omega, rfl⟩
   rw [hz, hq]
  rw [hl1, Option.bind_some]
  simp only
  unfold zA1
  have hcl : zC2 (t.map (remN · p)) p = some [] := by
   unfold zC2
   obtain ⟨z, hz, hq⟩ := zQ1 (body := zK5 (t.map (remN · p)) p) (fun g => ∃ i : Nat, i ≤ t.length ∧ g = ((i : Int), [])) (fun g => t.length - g.1.toNat) (fun z => z = []) (by
    rintro g ⟨i, hi, rfl⟩
    unfold zK5
    simp only [List.length_map]
    by_cases hlt : i < t.length
    ·left
     have g3 : 0 ≤ (i : Int) ∧ (i : Int) < (t.length : Int) := by omega
     have hq := hv.each _ (zr1 (z := Queue.zero) hlt)
     have hlens := zA0 (zab7 hq p)
     refine ⟨(((i + 1 : Nat) : Int), []), ?_, ⟨i + 1, by omega, rfl⟩, by simp only [Int.toNat_natCast]; omega⟩
     rw [if_pos (decide_eq_true g3.2), zb2 g3]
     simp only [Int.toNat_natCast]
     rw [gl i hlt, zar0 _ _ (by omega) (by omega), Option.bind_some, (zby6 hq p).2, zd5 i (by omega)]
     rfl
    ·right
     have : i = t.length := by omega
     subst this
     exact ⟨_, by rw [if_neg (by simp)], rfl⟩) (0, []) ⟨0, by omega, rfl⟩
   rw [hz, hq]; rfl
  simp only [zbF7, Option.bind_some, if_true, hcl]
  rfl
end Ab
end Go.Proofs.YtfjeceicgfdmjaaGreatDoor
