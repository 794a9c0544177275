/-
  Valid lines, in parts; what an insertion and a removal keep.
-/
import Derived.Test.YtfjeceicgfdmjaaGreatDoorLinA
import Derived.Test.YtfjeceicgfdmjaaGreatDoorQueF
namespace Go.Proofs.YtfjeceicgfdmjaaGreatDoor
namespace Ab
set_option linter.unusedVariables false
set_option linter.unusedSimpArgs false
def optI (o : Option Nat) : Int := match o with
 | some i => (i : Int)
 | none => -1
theorem zbJ4 (l : List Wait) (p : Proc) : zz7 l p = optI (zN5 p l 0) := rfl
theorem zcc0 (o : Option Nat) : optI (o.map (· + 1)) = if 0 ≤ optI o then optI o + 1 else -1 := by
 cases o with
 | none => rfl
 | some n =>
  have h : (0 : Int) ≤ optI (some n) := Int.natCast_nonneg n
  rw [if_pos h]; exact Int.natCast_succ n
theorem zaE4 {l : List Wait} : (∀ i, i < l.length → zz7 l (l.getD i Wait.zero).proc = i) ↔ (l.map (·.proc)).Nodup := by
 induction l with
 | nil => simp
 | cons w l ih =>
  rw [List.map_cons, List.nodup_cons]
  have shift : ∀ p i, zN5 p l (i + 1) = (zN5 p l i).map (· + 1) := by
   intro p
   clear ih
   induction l with
   | nil => intro i; rfl
   | cons x l ih => intro i; simp only [zN5]; split <;> simp [ih]
  have hcons : ∀ i, zz7 (w :: l) (l.getD i Wait.zero).proc = if w.proc = (l.getD i Wait.zero).proc then 0 else if 0 ≤ zz7 l (l.getD i Wait.zero).proc then zz7 l (l.getD i Wait.zero).proc + 1 else -1 := fun i => by
   simp only [zbJ4, zN5, shift]
   by_cases h : w.proc = (l.getD i Wait.zero).proc
   ·simp [h, optI]
   ·simp only [h, if_false]
    exact zcc0 _
  constructor
  ·intro h
   have h1 : ∀ i, i < l.length → w.proc ≠ (l.getD i Wait.zero).proc ∧ zz7 l (l.getD i Wait.zero).proc = i := fun i hi => by
    have := h (i + 1) (by simpa using hi)
    rw [List.getD_cons_succ, hcons] at this
    split at this
    ·omega
    ·rename_i hne
     split at this
     ·exact ⟨hne, by omega⟩
     ·omega
   refine ⟨fun hm => ?_, ih.1 fun i hi => (h1 i hi).2⟩
   obtain ⟨x, hx, he⟩ := List.mem_map.1 hm
   obtain ⟨i, hi, rfl⟩ := List.mem_iff_getElem.1 hx
   have := (h1 i hi).1
   rw [List.getD_eq_getElem?_getD, List.getElem?_eq_getElem hi] at this
   exact this he.symm
  ·rintro ⟨h1, h2⟩ i hi
   have h3 := ih.2 h2
   cases i with
   | zero => simp [zz7, zN5]
   | succ i =>
    have hi' : i < l.length := by simpa using hi
    have hne : w.proc ≠ (l.getD i Wait.zero).proc := fun e => h1 (List.mem_map.2 ⟨l.getD i Wait.zero, by
     rw [List.getD_eq_getElem?_getD, List.getElem?_eq_getElem hi']; exact List.getElem_mem hi', e.symm⟩)
    rw [List.getD_cons_succ, hcons, if_neg hne, h3 i hi', if_pos (by omega)]
    omega
theorem zY8 (l : List Wait) : zE1 l = true ↔ l.length ≤ 8 ∧ (∀ w ∈ l, zc4 w = true) ∧ (l.map (·.proc)).Nodup := by
 unfold zE1
 simp only [Bool.and_eq_true, decide_eq_true_eq, List.all_eq_true, List.mem_range]
 constructor
 ·rintro ⟨h1, h2⟩
  refine ⟨h1, fun w hw => ?_, zaE4.1 fun i hi => (h2 i hi).2⟩
  obtain ⟨i, hi, rfl⟩ := List.mem_iff_getElem.1 hw
  have := (h2 i hi).1
  rwa [List.getD_eq_getElem?_getD, List.getElem?_eq_getElem hi] at this
 ·rintro ⟨h1, h2, h3⟩
  refine ⟨h1, fun i hi => ⟨h2 _ ?_, zaE4.2 h3 i hi⟩⟩
  rw [List.getD_eq_getElem?_getD, List.getElem?_eq_getElem hi]
  exact List.getElem_mem hi
theorem zbm0 {l : List Wait} (p : Proc) (h : zE1 l = true) : zE1 (rmL l p) = true := by
 rw [zY8] at h ⊢
 refine ⟨Nat.le_trans (zcj6 l p) h.1, fun w hw => h.2.1 w ((List.mem_filter.1 hw).1), ?_⟩
 exact (h.2.2).sublist ((List.filter_sublist).map _)
theorem zaR8 (l : List Wait) (w : Wait) : ∀ k i, zs2 l w k ≤ i → i < k → over w (l.getD i Wait.zero) = true
 | k + 1, i, h1, h2 => by
  unfold zs2 at h1
  split at h1
  ·rename_i ho
   by_cases hi : i = k
   ·subst hi; exact ho
   ·exact zaR8 l w k i h1 (by omega)
  ·omega
theorem zbJ5 {l : List Wait} {w e : Wait} (h : e ∈ l.drop (zs2 l w l.length)) : over w e = true := by
 obtain ⟨i, hi, rfl⟩ := List.mem_iff_getElem.1 h
 have := zaR8 l w l.length (zs2 l w l.length + i) (by omega) (by simp at hi; omega)
 rw [List.getElem_drop]
 rwa [List.getD_eq_getElem?_getD, List.getElem?_eq_getElem (by simp at hi; omega)] at this
theorem zbd3 {w e : Wait} (h : zc4 e = true) (ho : over w e = true) : zc4 (bump e) = true ∧ (bump e).passed = e.passed + 1 := by
 have h1 := zaN8 h
 have h2 : e.passed < 3 := by unfold over at ho; simp at ho; exact ho.2
 have h3 : (bump e).passed = e.passed + 1 := by unfold bump; simp only; rw [ze2 (by omega) (by omega)]
 refine ⟨?_, h3⟩
 unfold zc4 at h ⊢
 simp only [Bool.and_eq_true, decide_eq_true_eq] at h ⊢
 rw [h3]
 exact ⟨⟨h.1.1, by omega⟩, by omega⟩
theorem zbr4 (l : List Wait) (w : Wait) (n : Nat) : (zas1 l w n).map (·.proc) = (l.take n).map (·.proc) ++ w.proc :: (l.drop n).map (·.proc) := by
 unfold zas1
 rw [List.map_append, List.map_cons, List.map_map]
 rfl
theorem zbB8 {l : List Wait} {w : Wait} (h : zE1 l = true) (hw : zc4 w = true) (hne : ∀ e ∈ l, e.proc ≠ w.proc) (hl : l.length < 8) : zE1 (zas1 l w (zs2 l w l.length)) = true := by
 rw [zY8] at h ⊢
 have hn := zan4 l w l.length
 have ho := fun e => zbJ5 (l := l) (w := w) (e := e)
 generalize zs2 l w l.length = n at hn ho
 refine ⟨by simp [zas1]; omega, fun e he => ?_, ?_⟩
 ·simp only [zas1, List.mem_append, List.mem_cons, List.mem_map] at he
  rcases he with he | rfl | ⟨x, hx, rfl⟩
  ·exact h.2.1 e (List.mem_of_mem_take he)
  ·exact hw
  ·exact (zbd3 (h.2.1 x (List.mem_of_mem_drop hx)) (ho x hx)).1
 ·rw [zbr4]
  have h3 := h.2.2
  rw [← List.take_append_drop n l, List.map_append] at h3
  have hin : w.proc ∉ (l.take n).map (·.proc) ++ (l.drop n).map (·.proc) := by
   rw [← List.map_append, List.take_append_drop]
   intro hm
   obtain ⟨x, hx, he⟩ := List.mem_map.1 hm
   exact hne x hx he
  exact (List.perm_middle.nodup_iff).2 (List.nodup_cons.2 ⟨hin, h3⟩)
end Ab
end Go.Proofs.YtfjeceicgfdmjaaGreatDoor
namespace Go.Proofs.YtfjeceicgfdmjaaGreatDoor
namespace Ab
set_option linter.unusedVariables false
set_option linter.unusedSimpArgs false
theorem zJ4 {p : Proc} {l : List Hold} {h : Hold} : h ∈ others p l ↔ h ∈ l ∧ h.proc ≠ p := by unfold others; simp
theorem zbx1 {l m : List Amount} (h : l.Sublist m) (hn : ∀ a ∈ m, 0 ≤ a.units) : sumU l ≤ sumU m := by
 induction h with
 | slnil => exact Int.le_refl _
 | cons a h ih =>
  have := ih fun b hb => hn b (.tail _ hb)
  have := hn a (.head _)
  simp only [sumU]; omega
 | cons_cons a h ih =>
  have := ih fun b hb => hn b (.tail _ hb)
  simp only [sumU]; omega
theorem CompP.sub {r : Resource} {l m : List Amount} (h : CompP r m) (hs : l.Sublist m) : CompP r l where
 perm := fun a ha => h.perm a (hs.subset ha)
 sum := Int.le_trans (zbx1 hs fun a ha => (zF6 (h.perm a ha)).1) h.sum
 pair := h.pair.sublist hs
theorem GoodP.sub {r : Resource} {l m : List Hold} (h : GoodP r m) (hs : l.Sublist m) : GoodP r l := ⟨fun x hx => h.each x (hs.subset hx), h.asc.sublist hs⟩
theorem zA5 (r : Resource) (l : List Hold) : zs9 r l = true ↔ zb5 r = true ∧ l.length ≤ 8 ∧ GoodP r l ∧ CompP r (l.map (·.amount)) := by
 unfold zs9; simp
theorem zah4 {r : Resource} {l m : List Hold} (h : zs9 r m = true) (hs : l.Sublist m) : zs9 r l = true := by
 rw [zA5] at h ⊢
 exact ⟨h.1, Nat.le_trans hs.length_le h.2.1, h.2.2.1.sub hs, h.2.2.2.sub (hs.map _)⟩
theorem zY9 (p : Proc) (l : List Hold) : (others p l).Sublist l := List.filter_sublist
theorem zbB9 {r : Resource} (hr : zb5 r = true) : zs9 r [] = true := by
 rw [zA5]
 have : 1 ≤ r.units := by rw [zx4] at hr; omega
 exact ⟨hr, by simp, ⟨by simp, .nil⟩, ⟨by simp, by simp [sumU]; omega, .nil⟩⟩
theorem zay9 (p : Proc) (a : Amount) (l : List Hold) : (insP p a l).Perm (⟨p, a⟩ :: l) := by
 induction l with
 | nil => exact List.Perm.refl _
 | cons h t ih =>
  simp only [insP]
  split
  ·exact List.Perm.refl _
  ·exact (List.Perm.cons h ih).trans (List.Perm.swap _ _ _)
theorem zbx2 {p : Proc} {a : Amount} : ∀ {l : List Hold}, l.Pairwise (fun a b => ltP a.proc b.proc) → (∀ h ∈ l, h.proc ≠ p) → (insP p a l).Pairwise fun a b => ltP a.proc b.proc
 | [], _, _ => by simp [insP]
 | h :: t, hp, hn => by
  rw [List.pairwise_cons] at hp
  simp only [insP]
  split
  ·rename_i hlt
   rw [List.pairwise_cons]
   refine ⟨fun x hx => ?_, List.pairwise_cons.2 hp⟩
   rcases List.mem_cons.1 hx with rfl | hx
   ·exact hlt
   ·exact zY4 hlt (hp.1 x hx)
  ·rename_i hlt
   rw [List.pairwise_cons]
   refine ⟨fun x hx => ?_, zbx2 hp.2 fun x hx => hn x (.tail _ hx)⟩
   rcases List.mem_cons.1 ((zay9 p a t).mem_iff.1 hx) with rfl | hx
   ·rcases zY5 (hn h (.head _)) with h1 | h1
    ·exact h1
    ·exact absurd h1 hlt
   ·exact hp.1 x hx
theorem zaO2 {l m : List Amount} (h : l.Perm m) : sumU l = sumU m := by
 induction h with
 | nil => rfl
 | cons a _ ih => simp only [sumU, ih]
 | swap a b l => simp only [sumU]; omega
 | trans _ _ ih1 ih2 => exact ih1.trans ih2
theorem zaq3 {a b : Amount} (h : ¬ zN3 a b) : ¬ zN3 b a := fun ⟨h1, h2, h3⟩ => h ⟨h2, h1, by rw [zaV5]; exact h3⟩
theorem CompP.perm_iff {r : Resource} {l m : List Amount} (h : l.Perm m) : CompP r l ↔ CompP r m := by
 constructor
 ·intro k
  exact ⟨fun a ha => k.perm a (h.mem_iff.2 ha), by rw [← zaO2 h]; exact k.sum, (h.pairwise_iff (fun h => zaq3 h)).1 k.pair⟩
 ·intro k
  exact ⟨fun a ha => k.perm a (h.mem_iff.1 ha), by rw [zaO2 h]; exact k.sum, (h.pairwise_iff (fun h => zaq3 h)).2 k.pair⟩
theorem zbd4 {r : Resource} {l : List Hold} {p : Proc} {a : Amount} (hv : zs9 r l = true) (hp : zb3 p = true) (ha : za9 r a = true) (hlen : (others p l).length + 1 ≤ 8) :
  zH7 r l p a = true ↔ (∀ h ∈ others p l, ¬ zN3 h.amount a) ∧ a.units + sumU ((others p l).map (·.amount)) ≤ r.units := by
 have hv' := (zA5 r l).1 hv
 have hz := zG7 ha
 have ho := zah4 hv (zY9 p l)
 have ho' := (zA5 r _).1 ho
 have hpr : zF7 r l p a = true := by unfold zF7; simp [hv, hp, ha]
 have hpm : ((insP p a (others p l)).map (·.amount)).Perm (a :: (others p l).map (·.amount)) := (zay9 p a (others p l)).map _
 unfold zH7
 rw [hpr, Bool.true_and, zA5]
 unfold setL
 rw [if_neg hz, CompP.perm_iff hpm]
 constructor
 ·rintro ⟨_, _, _, h4⟩
  refine ⟨fun h hh => ?_, h4.sum⟩
  have := (List.pairwise_cons.1 h4.pair).1 h.amount (List.mem_map.2 ⟨h, hh, rfl⟩)
  exact zaq3 this
 ·rintro ⟨h1, h2⟩
  refine ⟨hv'.1, by rw [zaH5]; exact hlen, ⟨fun x hx => ?_, zbx2 ho'.2.2.1.asc fun h hh => (zJ4.1 hh).2⟩, ⟨fun b hb => ?_, h2, ?_⟩⟩
  ·rcases List.mem_cons.1 ((zay9 p a _).mem_iff.1 hx) with rfl | hx
   ·exact ⟨hp, ha⟩
   ·exact ho'.2.2.1.each x hx
  ·rcases List.mem_cons.1 hb with rfl | hb
   ·exact zn6 ha
   ·exact ho'.2.2.2.perm b hb
  ·rw [List.pairwise_cons]
   refine ⟨fun b hb => ?_, ho'.2.2.2.pair⟩
   obtain ⟨h, hh, rfl⟩ := List.mem_map.1 hb
   exact zaq3 (h1 h hh)
theorem zbd5 {α S X : Type} (f : S → α → S) (fin : S → X) : ∀ (l : List α) (i : Nat) (s : S), walk (fun _ a s => some (.inl (f s a))) fin l i s = some (fin (l.foldl f s))
 | [], _, _ => rfl
 | a :: l, i, s => by simp only [walk, List.foldl_cons]; exact zbd5 f fin l (i + 1) _
def foe (r : Resource) (p : Proc) (a : Amount) (h : Hold) : Bool := !decide (h.proc = p) && !(decide (r.kind = 1) && zaC1 r [h.amount, a])
def zan8 (r : Resource) (l : List Hold) (p : Proc) (a : Amount) : List Proc :=
 if (!zF7 r l p a || zH7 r l p a) = true then [] else (l.filter (foe r p a)).map (·.proc)
theorem zcc1 (l : List Hold) (hl : l.length ≤ 1000000) : zE3 l = some (l.map (·.proc)) := by
 unfold zE3
 have key := zv4 (body := zJ3 l) l Hold.zero (fun i (s : List Proc) => ((i : Int), s)) (fun i h s => some (.inl (zan0 s (some h.proc)))) (fun s => s) (fun i s => s.length ≤ i)
  (fun i s hi hs => by
   refine ⟨?_, fun s' h => ?_⟩
   ·unfold zJ3
    have h1 : s.length + 1 ≤ 4294967296 := by omega
    have h3 : 0 ≤ (i : Int) ∧ (i : Int) < (l.length : Int) := by omega
    simp only [h1, h3.1, h3.2, and_self, zl3, decide_true, if_true, Int.toNat_natCast, ze3 i (by omega), Option.map_some, wmap, zan0]
   ·simp only [Option.some.injEq, Sum.inl.injEq] at h; subst h; simp [zan0]; omega)
  (fun s hs => by unfold zJ3; simp) [] (by simp)
 rw [show ((0, []) : Int × List Proc) = (fun (i : Nat) (s : List Proc) => ((i : Int), s)) 0 [] from rfl, key, zan1 (fun h : Hold => some h.proc)]
 simp [zag4]
theorem zcc2 {r : Resource} {p : Proc} {a : Amount} {h : Hold} (hk : r.kind = 1) (hs : zb5 r = true) (hh : za9 r h.amount = true) (ha : za9 r a = true) : foe r p a h = true ↔ h.proc ≠ p ∧ zN3 h.amount a := by
 unfold foe zaC1
 have p1 := zK5 (zn6 hh) hk
 have p2 := zK5 (zn6 ha) hk
 have hc : CompP r [h.amount, a] ↔ ¬ zN3 h.amount a := by
  constructor
  ·intro c; have := c.pair; simp at this; exact this
  ·intro c
   exact ⟨fun b hb => by
    simp only [List.mem_cons, List.not_mem_nil, or_false] at hb
    rcases hb with rfl | rfl
    ·exact zn6 hh
    ·exact zn6 ha, by simp [sumU]; omega, by simp; exact c⟩
 simp [hk, hs, hc]
theorem zcc3 {r : Resource} {p : Proc} {a : Amount} {h : Hold} (hk : r.kind ≠ 1) : foe r p a h = true ↔ h.proc ≠ p := by
 unfold foe; simp [hk]
end Ab
end Go.Proofs.YtfjeceicgfdmjaaGreatDoor
namespace Go.Proofs.YtfjeceicgfdmjaaGreatDoor
namespace Ab
set_option linter.unusedVariables false
set_option linter.unusedSimpArgs false
theorem zbG0 {α : Type} {P : α → Prop} {l : List α} {z : α} : (∀ i, i < l.length → P (l.getD i z)) ↔ ∀ w ∈ l, P w := by
 constructor
 ·intro h w hw
  obtain ⟨i, hi, rfl⟩ := List.mem_iff_getElem.1 hw
  have := h i hi
  rwa [List.getD_eq_getElem?_getD, List.getElem?_eq_getElem hi] at this
 ·intro h i hi
  refine h _ ?_
  rw [List.getD_eq_getElem?_getD, List.getElem?_eq_getElem hi]
  exact List.getElem_mem hi
theorem zE4 (h : Hold) (t : List Hold) (p : Proc) : getH (h :: t) p = if h.proc = p then h.amount else getH t p := by
 unfold getH
 rw [List.find?_cons]
 by_cases e : h.proc = p <;> simp [e]
theorem zaO3 (p : Proc) (l : List Hold) : getH (others p l) p = Amount.zero := by
 induction l with
 | nil => rfl
 | cons h t ih =>
  rw [zy9]
  by_cases e : h.proc = p
  ·simp only [e, if_true]; exact ih
  ·simp only [e, if_false, zE4]; exact ih
theorem zW2 {p q : Proc} (hq : q ≠ p) (l : List Hold) : getH (others p l) q = getH l q := by
 induction l with
 | nil => rfl
 | cons h t ih =>
  rw [zy9]
  by_cases e : h.proc = p
  ·simp only [e, if_true, zE4]
   rw [if_neg (fun e2 => hq e2.symm)]; exact ih
  ·simp only [e, if_false, zE4]
   split
   ·rfl
   ·exact ih
theorem zaw5 (p : Proc) (a : Amount) : ∀ l : List Hold, (∀ h ∈ l, h.proc ≠ p) → getH (insP p a l) p = a
 | [], _ => by simp [insP, zE4]
 | h :: t, hh => by
  simp only [insP]
  split
  ·simp [zE4]
  ·simp only [zE4, hh h (.head _), if_false]
   exact zaw5 p a t fun x hx => hh x (.tail _ hx)
theorem zaI0 {p q : Proc} (a : Amount) (hq : q ≠ p) : ∀ l : List Hold, getH (insP p a l) q = getH l q
 | [] => by simp only [insP, zE4]; rw [if_neg (fun e : p = q => hq e.symm)]
 | h :: t => by
  simp only [insP]
  split
  ·simp only [zE4]; rw [if_neg (fun e : p = q => hq e.symm)]
  ·simp only [zE4]
   split
   ·rfl
   ·exact zaI0 a hq t
theorem zaw6 (l : List Hold) (p : Proc) (a : Amount) : getH (setL l p a) p = a := by
 unfold setL
 split
 ·rename_i h; rw [zaO3, h]
 ·exact zaw5 p a _ fun h hh => (zJ4.1 hh).2
theorem zF8 {p q : Proc} (hq : q ≠ p) (l : List Hold) (a : Amount) : getH (setL l p a) q = getH l q := by
 unfold setL
 split
 ·exact zW2 hq l
 ·rw [zaI0 a hq]; exact zW2 hq l
theorem zan9 {l : List Hold} {p : Proc} (h : getH l p ≠ Amount.zero) : (⟨p, getH l p⟩ : Hold) ∈ l := by
 induction l with
 | nil => exact absurd rfl h
 | cons x t ih =>
  rw [zE4] at h ⊢
  by_cases e : x.proc = p
  ·rw [if_pos e]; subst e; exact .head _
  ·rw [if_neg e] at h ⊢; exact .tail _ (ih h)
theorem zaR9 {l : List Hold} {p : Proc} (h : ∀ x ∈ l, x.proc ≠ p) : others p l = l := List.filter_eq_self.2 fun x hx => by simpa using h x hx
theorem zbx3 (p : Proc) (a : Amount) {l : List Hold} : others p (insP p a l) = others p l := by
 induction l with
 | nil => simp [insP, others]
 | cons h t ih =>
  simp only [insP]
  split
  ·simp [zy9]
  ·simp only [zy9, ih]
theorem zaC6 (p : Proc) (l : List Hold) : others p (others p l) = others p l := by
 unfold others; rw [List.filter_filter]; simp
theorem zaS0 (p q : Proc) (l : List Hold) : others p (others q l) = others q (others p l) := by
 unfold others; rw [List.filter_filter, List.filter_filter]; congr 1; funext h; exact Bool.and_comm _ _
theorem zaS1 (p : Proc) (a : Amount) (l : List Hold) : others p (setL l p a) = others p l := by
 unfold setL
 split
 ·exact zaC6 p l
 ·rw [zbx3, zaC6]
def Asc (l : List Hold) : Prop := l.Pairwise fun a b => ltP a.proc b.proc
theorem Asc.others {l : List Hold} (h : Asc l) (p : Proc) : Asc (others p l) := List.Pairwise.sublist (zY9 p l) h
theorem zao0 {r : Resource} {l : List Hold} (h : zs9 r l = true) : Asc l := ((zA5 r l).1 h).2.2.1.asc
theorem zcc4 {h : Hold} {t : List Hold} (k : Asc (h :: t)) : ∀ x ∈ t, x.proc ≠ h.proc := fun x hx e => by
 have := (List.pairwise_cons.1 k).1 x hx
 rw [e] at this; exact zag6 _ this
theorem zbx4 {l : List Hold} (h : Asc l) {p : Proc} (hp : getH l p ≠ Amount.zero) : l.Perm (⟨p, getH l p⟩ :: others p l) := by
 induction l with
 | nil => exact absurd rfl hp
 | cons x t ih =>
  rw [zE4] at hp ⊢
  rw [zy9]
  by_cases e : x.proc = p
  ·rw [if_pos e, if_pos e, zaR9 (by rw [← e]; exact zcc4 h)]
   subst e; exact List.Perm.refl _
  ·rw [if_neg e] at hp
   rw [if_neg e, if_neg e]
   exact ((ih (List.pairwise_cons.1 h).2 hp).cons x).trans (List.Perm.swap _ _ _)
theorem zaO4 {l : List Hold} (h : Asc l) {p : Proc} (hp : getH l p ≠ Amount.zero) : (others p l).length + 1 = l.length := by
 have := (zbx4 h hp).length_eq
 simpa using this.symm
theorem zbC0 {p : Proc} {a : Amount} {l : List Hold} (h : ∀ x ∈ l, ltP p x.proc) : insP p a l = ⟨p, a⟩ :: l := by
 cases l with
 | nil => rfl
 | cons x t => simp only [insP]; rw [if_pos (h x (.head _))]
theorem zbd6 {p q : Proc} (hq : q ≠ p) (a : Amount) {l : List Hold} (h : Asc l) : others q (insP p a l) = insP p a (others q l) := by
 induction l with
 | nil => simp only [insP, zbB6, zy9]; rw [if_neg (fun e : p = q => hq e.symm)]
 | cons x t ih =>
  simp only [insP]
  split
  ·rename_i hlt
   have hall : ∀ y ∈ others q (x :: t), ltP p y.proc := fun y hy => by
    rcases List.mem_cons.1 (zJ4.1 hy).1 with rfl | hy
    ·exact hlt
    ·exact zY4 hlt ((List.pairwise_cons.1 h).1 y hy)
   rw [zbC0 hall, zy9]
   rw [if_neg (fun e : p = q => hq e.symm)]
  ·rename_i hlt
   rw [zy9, zy9, ih (List.pairwise_cons.1 h).2]
   split
   ·rfl
   ·simp only [insP]; rw [if_neg hlt]
theorem zaw7 {p q : Proc} (hq : q ≠ p) (a : Amount) {l : List Hold} (h : Asc l) : others q (setL l p a) = setL (others q l) p a := by
 unfold setL
 split
 ·exact zaS0 q p l
 ·rw [zbd6 hq a (h.others p), zaS0]
theorem zbx5 {l : List Hold} (ha : Asc l) {x : Hold} (hx : x ∈ l) : getH l x.proc = x.amount := by
 induction l with
 | nil => cases hx
 | cons y t ih =>
  rw [zE4]
  rcases List.mem_cons.1 hx with rfl | hx
  ·rw [if_pos rfl]
  ·rw [if_neg (fun e : y.proc = x.proc => zcc4 ha x hx e.symm)]
   exact ih (List.pairwise_cons.1 ha).2 hx
theorem zH8 (a : Amount) : zb8 a = true ↔ a = Amount.zero := by unfold zb8; simp
theorem zN6 (a : Amount) : zb8 a = false ↔ a ≠ Amount.zero := by rw [← Bool.not_eq_true, zH8]
structure SoundP (q : Queue) : Prop where
 res : resV q.resource = true
 hv : zs9 q.resource q.holds = true
 cl : q.converts.length ≤ 8
 cn : (q.converts.map (·.proc)).Nodup
 cg : ∀ w ∈ q.converts, getH q.holds w.proc ≠ Amount.zero ∧ za9 q.resource w.amount = true ∧ covA q.resource w.amount (getH q.holds w.proc) = true ∧ w.amount ≠ getH q.holds w.proc ∧ w.priority = 0 ∧ w.passed = 0
 wv : zE1 q.waits = true
 wl : q.holds.length + q.waits.length ≤ 8
 wg : ∀ w ∈ q.waits, za9 q.resource w.amount = true ∧ getH q.holds w.proc = Amount.zero
 gen : 0 ≤ q.gen ∧ q.gen ≤ 1073741824
theorem zaE5 (q : Queue) : zal2 q = true ↔ SoundP q := by
 have hc : cvOk q = true ↔ q.converts.length ≤ 8 ∧ (q.converts.map (·.proc)).Nodup ∧ ∀ w ∈ q.converts, getH q.holds w.proc ≠ Amount.zero ∧ za9 q.resource w.amount = true ∧ covA q.resource w.amount (getH q.holds w.proc) = true ∧ w.amount ≠ getH q.holds w.proc ∧ w.priority = 0 ∧ w.passed = 0 := by
  unfold cvOk
  rw [← zaE4, ← zbG0 (z := Wait.zero)]
  simp only [Bool.and_eq_true, decide_eq_true_eq, List.all_eq_true, List.mem_range, cvI, Bool.not_eq_true', zN6, decide_eq_false_iff_not]
  constructor
  ·rintro ⟨h1, h2⟩; exact ⟨h1, fun i hi => (h2 i hi).1, fun i hi => (h2 i hi).2⟩
  ·rintro ⟨h1, h2, h3⟩; exact ⟨h1, fun i hi => ⟨h2 i hi, h3 i hi⟩⟩
 have hw : wtOk q = true ↔ zE1 q.waits = true ∧ q.holds.length + q.waits.length ≤ 8 ∧ ∀ w ∈ q.waits, za9 q.resource w.amount = true ∧ getH q.holds w.proc = Amount.zero := by
  unfold wtOk
  rw [← zbG0 (z := Wait.zero)]
  simp only [Bool.and_eq_true, decide_eq_true_eq, List.all_eq_true, List.mem_range, wtI, zH8]
 unfold zal2
 simp only [Bool.and_eq_true, hc, hw, decide_eq_true_eq]
 constructor
 ·rintro ⟨h1, h2, ⟨h3, h4, h5⟩, ⟨h6, h7, h8⟩, h9⟩; exact ⟨h1, h2, h3, h4, h5, h6, h7, h8, h9⟩
 ·rintro ⟨h1, h2, h3, h4, h5, h6, h7, h8, h9⟩; exact ⟨h1, h2, ⟨h3, h4, h5⟩, ⟨h6, h7, h8⟩, h9⟩
theorem SoundP.apart {q : Queue} (h : SoundP q) {c w : Wait} (hc : c ∈ q.converts) (hw : w ∈ q.waits) : c.proc ≠ w.proc := fun e =>
 (h.cg c hc).1 (by rw [e]; exact (h.wg w hw).2)
theorem SoundP.nodup {q : Queue} (h : SoundP q) : ((q.converts ++ q.waits).map (·.proc)).Nodup := by
 rw [List.map_append, List.nodup_append]
 refine ⟨h.cn, ((zY8 _).1 h.wv).2.2, fun a ha b hb => ?_⟩
 obtain ⟨c, hc, rfl⟩ := List.mem_map.1 ha
 obtain ⟨w, hw, rfl⟩ := List.mem_map.1 hb
 exact h.apart hc hw
inductive Pop (q : Queue) : Prop where
 | con (w : Wait) (cs : List Wait) (h : q.converts = w :: cs) (hd : (zl4 q).1 = w) (hr : zH7 q.resource q.holds w.proc w.amount = true) (hp : popQ q = { q with holds := setL q.holds w.proc w.amount, converts := cs })
 | wait (w : Wait) (ws : List Wait) (hc : q.converts = []) (h : q.waits = w :: ws) (hd : (zl4 q).1 = w) (hr : zH7 q.resource q.holds w.proc w.amount = true) (hp : popQ q = { q with holds := setL q.holds w.proc w.amount, waits := ws })
theorem zbr5 {q : Queue} (h : canQ q = true) : Pop q := by
 unfold canQ at h
 rw [Bool.and_eq_true] at h
 obtain ⟨h1, h2⟩ := h
 cases hc : q.converts with
 | cons w cs =>
  have hd : (zl4 q).1 = w := by unfold zl4; rw [hc]; rfl
  exact .con w cs hc hd (by rw [← hd]; exact h2) (by unfold popQ; rw [hd]; simp [hc])
 | nil =>
  cases hw : q.waits with
  | cons w ws =>
   have hd : (zl4 q).1 = w := by unfold zl4; rw [hc, hw]; rfl
   exact .wait w ws hc hw hd (by rw [← hd]; exact h2) (by unfold popQ; rw [hd]; simp [hc, hw])
  | nil => unfold zl4 at h1; rw [hc, hw] at h1; exact absurd h1 (by decide)
theorem zah5 {r : Resource} {l : List Hold} {p : Proc} {a : Amount} (h : zH7 r l p a = true) : zs9 r l = true ∧ zb3 p = true ∧ za9 r a = true ∧ zs9 r (setL l p a) = true := by
 unfold zH7 zF7 at h
 simp only [Bool.and_eq_true] at h
 exact ⟨h.1.1, h.1.2.1, h.1.2.2, h.2⟩
theorem zbm1 {r : Resource} {l : List Hold} {p : Proc} (a : Amount) (h : zs9 r l = true) (hp : getH l p ≠ Amount.zero) : (setL l p a).length ≤ l.length := by
 have := zaO4 (zao0 h) hp
 unfold setL
 split
 ·omega
 ·rw [zaH5]; omega
theorem zbx6 {w : Wait} {l : List Wait} (h : zE1 (w :: l) = true) : zE1 l = true := by
 rw [zY8] at h ⊢
 obtain ⟨h1, h2, h3⟩ := h
 rw [List.map_cons, List.nodup_cons] at h3
 exact ⟨by simp at h1; omega, fun x hx => h2 x (.tail _ hx), h3.2⟩
theorem SoundP.pop {q : Queue} (h : SoundP q) (hc : canQ q = true) : SoundP (popQ q) := by
 cases zbr5 hc with
 | con w cs he hd hr hp =>
  rw [hp]
  obtain ⟨_, _, _, hv⟩ := zah5 hr
  have hn : w.proc ∉ cs.map (·.proc) ∧ (cs.map (·.proc)).Nodup := by have := h.cn; rw [he, List.map_cons, List.nodup_cons] at this; exact this
  have hw := h.cg w (by rw [he]; exact .head _)
  have hl := zbm1 w.amount h.hv hw.1
  have h8 := h.cl
  rw [he, List.length_cons] at h8
  refine ⟨h.res, hv, by simp only; omega, hn.2, fun c hcc => ?_, h.wv, ?_, fun x hx => ?_, h.gen⟩
  ·have hne : c.proc ≠ w.proc := fun e => hn.1 (List.mem_map.2 ⟨c, hcc, e⟩)
   simp only [zF8 hne]
   exact h.cg c (by rw [he]; exact .tail _ hcc)
  ·have := h.wl; simp only; omega
  ·have hne : x.proc ≠ w.proc := fun e => h.apart (c := w) (by rw [he]; exact .head _) hx e.symm
   simp only [zF8 hne]
   exact h.wg x hx
 | wait w ws hcn he hd hr hp =>
  rw [hp]
  obtain ⟨_, _, _, hv⟩ := zah5 hr
  have hl := zcb8 q.holds w.proc w.amount
  have h8 := h.wl
  have hwv := h.wv
  rw [he] at h8 hwv
  have hn : w.proc ∉ ws.map (·.proc) := by have := ((zY8 _).1 hwv).2.2; rw [List.map_cons, List.nodup_cons] at this; exact this.1
  rw [List.length_cons] at h8
  refine ⟨h.res, hv, h.cl, h.cn, fun c hcc => ?_, zbx6 hwv, by simp only; omega, fun x hx => ?_, h.gen⟩
  ·rw [hcn] at hcc; cases hcc
  ·have hne : x.proc ≠ w.proc := fun e => hn (List.mem_map.2 ⟨x, hx, e⟩)
   simp only [zF8 hne]
   exact h.wg x (by rw [he]; exact .tail _ hx)
theorem zaw8 : ∀ (n : Nat) (q : Queue) (l : List Hold), advN n (q, l) = ((advN n (q, [])).1, l ++ (advN n (q, [])).2)
 | 0, q, l => by simp [advN]
 | n + 1, q, l => by
  simp only [advN]
  split
  ·unfold zan6
   simp only [List.nil_append]
   rw [zaw8 n (popQ q) (l ++ _), zaw8 n (popQ q) [_], List.append_assoc]
  ·simp
def advS (q : Queue) : Queue := (advQ q).1
def advG (q : Queue) : List Hold := (advQ q).2
theorem zaz0 (q : Queue) : advQ q = if canQ q = true then ((advQ (popQ q)).1, ⟨(zl4 q).1.proc, (zl4 q).1.amount⟩ :: (advQ (popQ q)).2) else (q, []) := by
 unfold advQ
 rw [zan7 (q, [])]
 show (if canQ q = true then advN (zz1 (popQ q)) (popQ q, [] ++ [_]) else (q, [])) = _
 split
 ·rw [zaw8]; rfl
 ·rfl
theorem zab1 {q : Queue} (h : canQ q = true) : advS q = advS (popQ q) := by unfold advS; rw [zaz0 q, if_pos h]
theorem zcc5 {q : Queue} (h : canQ q = true) : advG q = ⟨(zl4 q).1.proc, (zl4 q).1.amount⟩ :: advG (popQ q) := by unfold advG; rw [zaz0 q, if_pos h]
theorem zW3 {q : Queue} (h : canQ q = false) : advS q = q := by unfold advS; rw [zaz0 q, h]; rfl
theorem zcc6 {q : Queue} (h : canQ q = false) : advG q = [] := by unfold advG; rw [zaz0 q, h]; rfl
theorem zaV6 {P : Queue → Prop} (h : ∀ q, canQ q = true → P q → P (popQ q)) : ∀ q, P q → P (advS q) := by
 have key : ∀ n q, zz1 q = n → P q → P (advS q) := by
  intro n
  induction n using Nat.strongRecOn with
  | _ n ih =>
   intro q hn hq
   cases hc : canQ q with
   | false => rw [zW3 hc]; exact hq
   | true =>
    rw [zab1 hc]
    have := (zQ2 hc).2.1
    exact ih (zz1 (popQ q)) (by omega) _ rfl (h q hc hq)
 exact fun q hq => key _ q rfl hq
theorem zaV7 {P : Queue → Prop} (h0 : ∀ q, canQ q = false → P q) (h : ∀ q, canQ q = true → P (popQ q) → P q) : ∀ q, P q := by
 have key : ∀ n q, zz1 q = n → P q := by
  intro n
  induction n using Nat.strongRecOn with
  | _ n ih =>
   intro q hn
   cases hc : canQ q with
   | false => exact h0 q hc
   | true =>
    have := (zQ2 hc).2.1
    exact h q hc (ih (zz1 (popQ q)) (by omega) _ rfl)
 exact fun q => key _ q rfl
theorem zbx7 : ∀ q, canQ (advS q) = false := by
 refine zaV7 (fun q h => by rw [zW3 h]; exact h) fun q h ih => by rw [zab1 h]; exact ih
theorem SoundP.adv {q : Queue} (h : SoundP q) : SoundP (advS q) := zaV6 (P := SoundP) (fun _ hc h => h.pop hc) q h
theorem zh4 (q : Queue) : zc3 q = true ↔ SoundP q ∧ canQ q = false := by
 unfold zc3
 rw [Bool.and_eq_true, zaE5]
 show SoundP q ∧ (!canQ q) = true ↔ _
 rw [Bool.not_eq_true']
theorem zcc7 : ∀ q, (advG q).length + zz1 (advS q) = zz1 q := by
 refine zaV7 (fun q h => by rw [zW3 h, zcc6 h]; simp) fun q h ih => by
  rw [zab1 h, zcc5 h, List.length_cons]
  have := (zQ2 h).2.1
  omega
end Ab
end Go.Proofs.YtfjeceicgfdmjaaGreatDoor
namespace Go.Proofs.YtfjeceicgfdmjaaGreatDoor
namespace Ab
set_option linter.unusedVariables false
set_option linter.unusedSimpArgs false
theorem zcj8 (r : Resource) (a b : Amount) : covA r a b = (!(!zb1 r a || !zb1 r b) && (zb8 b || (!zb8 a && (if r.kind = 1 then covM a.mode b.mode else decide (b.units ≤ a.units))))) := by
 have e1 := zay7 r a
 have e2 := zay7 r b
 have e3 := zaj4 a
 have e4 := zaj4 b
 have h : covA r a b = (!(!zf2 r a || !zf2 r b) && (zd0 b || (!zd0 a && (if r.kind = 1 then covM a.mode b.mode else decide (b.units ≤ a.units))))) := by
  unfold covA zg0
  generalize (!zf2 r a || !zf2 r b) = x
  generalize zd0 b = y
  generalize zd0 a = z
  by_cases hk : r.kind = 1 <;> cases x <;> cases y <;> cases z <;> simp [hk]
 rw [h, e1, e2, e3, e4]
theorem zao1 (r : Resource) (a b : Amount) : covA r a b = true ↔ zb1 r a = true ∧ zb1 r b = true ∧ (b = Amount.zero ∨ a ≠ Amount.zero ∧ b ≠ Amount.zero ∧ ((r.kind = 1 ∧ covM a.mode b.mode = true) ∨ (r.kind ≠ 1 ∧ b.units ≤ a.units))) := by
 rw [zcj8]
 have za := zH8 a
 have zb := zH8 b
 simp only [Bool.and_eq_true, Bool.or_eq_true, Bool.not_eq_true', Bool.or_eq_false_iff, Bool.not_eq_false', zb, zN6]
 by_cases e : b = Amount.zero
 ·simp [e, and_assoc]
 ·by_cases hk : r.kind = 1 <;> simp [e, hk, and_assoc]
def low (a b : Amount) : Prop := a.units ≤ b.units ∧ ∀ c, ¬ zN3 b c → ¬ zN3 a c
theorem zeo3 {r : Resource} {a b : Amount} (h : covA r b a = true) : low a b := by
 rw [zao1] at h
 obtain ⟨h1, h2, h3⟩ := h
 have hb1 := zF6 h1
 rcases h3 with e | ⟨hb0, ha0, h3⟩
 ·subst e
  refine ⟨hb1.1, fun c _ hc => ?_⟩
  exact hc.1 rfl
 ·rcases h3 with ⟨k, h3⟩ | ⟨k, h3⟩
  ·have p1 := zK5 h1 k
   have p2 := zK5 h2 k
   refine ⟨by omega, fun c hc hc' => hc ⟨?_, hc'.2.1, ?_⟩⟩
   ·rw [zbc7] at h3; omega
   ·have h4 := hc'.2.2
    rw [← Bool.not_eq_true] at h4 ⊢
    intro h5; apply h4
    rw [zbq7] at h5 ⊢
    rw [zbc7] at h3
    omega
  ·have hk : r.kind = 2 := by
    have := (perm_iff r a).1 h2
    rw [zx4, zH6] at this
    omega
   have p2 := zay8 h2 hk
   exact ⟨h3, fun c _ hc => hc.1 p2.1⟩
theorem zbm2 {r : Resource} {l : List Hold} {p : Proc} {a : Amount} : zH7 r l p a = true ↔ zs9 r l = true ∧ zb3 p = true ∧ za9 r a = true ∧ (others p l).length + 1 ≤ 8 ∧ (∀ h ∈ others p l, ¬ zN3 h.amount a) ∧ a.units + sumU ((others p l).map (·.amount)) ≤ r.units := by
 constructor
 ·intro h
  obtain ⟨h1, h2, h3, h4⟩ := zah5 h
  have hl : (others p l).length + 1 ≤ 8 := by
   have := zN4 h4
   unfold setL at this
   rw [if_neg (zG7 h3), zaH5] at this
   exact this
  exact ⟨h1, h2, h3, hl, (zbd4 h1 h2 h3 hl).1 h⟩
 ·rintro ⟨h1, h2, h3, h4, h5⟩
  exact (zbd4 h1 h2 h3 h4).2 h5
theorem zbd7 {r : Resource} {l m : List Hold} {p : Proc} {a : Amount} (h : zH7 r m p a = true) (hs : l.Sublist m) : zH7 r l p a = true := by
 rw [zbm2] at h ⊢
 obtain ⟨h1, h2, h3, h4, h5, h6⟩ := h
 have ho : (others p l).Sublist (others p m) := hs.filter _
 have hm := (zA5 r m).1 h1
 refine ⟨zah4 h1 hs, h2, h3, by have := ho.length_le; omega, fun x hx => h5 x (ho.subset hx), ?_⟩
 have := zbx1 (ho.map (·.amount)) fun b hb => by
  obtain ⟨x, hx, rfl⟩ := List.mem_map.1 hb
  exact (zF6 (zn6 (hm.2.2.1.each x (zJ4.1 hx).1).2)).1
 omega
theorem zbx8 {r : Resource} {l : List Hold} {p : Proc} {a : Amount} (hv : zs9 r l = true) (hp : getH l p ≠ Amount.zero) (hc : covA r (getH l p) a = true) : zs9 r (setL l p a) = true := by
 have hasc := zao0 hv
 have hv' := (zA5 r l).1 hv
 by_cases hz : a = Amount.zero
 ·unfold setL; rw [if_pos hz]; exact zah4 hv (zY9 p l)
 ·have hfit : za9 r a = true := by
   rcases (perm_iff r a).1 ((zao1 _ _ _).1 hc).2.1 with h | h
   ·exact absurd h.2 hz
   ·exact h
  have hlow := zeo3 hc
  have hm := zan9 hp
  have hlt := zaO4 hasc hp
  have hpm := zbx4 hasc hp
  have hroom : zH7 r l p a = true := by
   rw [zbm2]
   refine ⟨hv, (hv'.2.2.1.each _ hm).1, hfit, by have := hv'.2.1; omega, fun x hx hcl => ?_, ?_⟩
   ·have hpr := (CompP.perm_iff (hpm.map (·.amount))).1 hv'.2.2.2
    have := (List.pairwise_cons.1 hpr.pair).1 x.amount (List.mem_map.2 ⟨x, hx, rfl⟩)
    exact hlow.2 _ this (by
     obtain ⟨c1, c2, c3⟩ := hcl
     exact ⟨c2, c1, by rw [zaV5]; exact c3⟩)
   ·have h1 := zaO2 (hpm.map (·.amount))
    have h2 := hv'.2.2.2.sum
    rw [h1] at h2
    simp only [List.map_cons, sumU] at h2
    have := hlow.1
    omega
  exact (zah5 hroom).2.2.2
def del (q : Queue) (p : Proc) : Queue := { q with holds := others p q.holds, converts := rmL q.converts p, waits := rmL q.waits p }
theorem zaI1 (w : Wait) (l : List Wait) (p : Proc) : rmL (w :: l) p = if w.proc = p then rmL l p else w :: rmL l p := by
 unfold rmL notP; rw [List.filter_cons]; by_cases e : w.proc = p <;> simp [e]
theorem zaI2 {w : Wait} {l : List Wait} {p : Proc} : w ∈ rmL l p ↔ w ∈ l ∧ w.proc ≠ p := by unfold rmL notP; simp
theorem zaz1 (l : List Wait) (p : Proc) : (rmL l p).Sublist l := List.filter_sublist
theorem zbx9 {l : List Wait} {p : Proc} (h : ∀ w ∈ l, w.proc ≠ p) : rmL l p = l := List.filter_eq_self.2 fun w hw => by unfold notP; simpa using h w hw
theorem SoundP.del {q : Queue} (h : SoundP q) (p : Proc) : SoundP (del q p) := by
 have h1 := (zaz1 q.converts p).length_le
 have h2 := (zaz1 q.waits p).length_le
 have h3 := zag7 p q.holds
 have h4 := h.cl; have h5 := h.wl
 refine ⟨h.res, zah4 h.hv (zY9 p _), by simp only [Ab.del]; omega, h.cn.sublist ((zaz1 _ _).map _), fun w hw => ?_, zbm0 p h.wv, by simp only [Ab.del]; omega, fun w hw => ?_, h.gen⟩
 ·obtain ⟨a1, a2⟩ := zaI2.1 hw
  simp only [Ab.del, zW2 a2]
  exact h.cg w a1
 ·obtain ⟨a1, a2⟩ := zaI2.1 hw
  simp only [Ab.del, zW2 a2]
  exact h.wg w a1
theorem zbC1 {q : Queue} (hc : canQ q = true) : del (popQ q) (zl4 q).1.proc = del q (zl4 q).1.proc := by
 cases zbr5 hc with
 | con w cs he hd hr hp =>
  rw [hp, hd]
  unfold del
  simp only [zaS1, he, zaI1, if_true]
 | wait w ws hcn he hd hr hp =>
  rw [hp, hd]
  unfold del
  simp only [zaS1, he, zaI1, if_true]
theorem zaV8 {q : Queue} {w : Wait} {cs : List Wait} (h : q.converts ++ q.waits = w :: cs) : canQ q = zH7 q.resource q.holds w.proc w.amount := by
 unfold canQ zl4; rw [h]; exact Bool.true_and _
theorem zcc8 {q : Queue} {w : Wait} {cs : List Wait} (h : q.converts = w :: cs) : popQ q = { q with holds := setL q.holds w.proc w.amount, converts := cs } := by
 unfold popQ zl4; rw [h]; simp
theorem zbJ6 {q : Queue} {w : Wait} {ws : List Wait} (hc : q.converts = []) (h : q.waits = w :: ws) : popQ q = { q with holds := setL q.holds w.proc w.amount, waits := ws } := by
 unfold popQ zl4; rw [hc, h]; simp
theorem zbC2 {q : Queue} (h : SoundP q) (hc : canQ q = true) {p : Proc} (hp : (zl4 q).1.proc ≠ p) : canQ (del q p) = true ∧ popQ (del q p) = del (popQ q) p := by
 have hasc := zao0 h.hv
 cases zbr5 hc with
 | con w cs he hd hr hpp =>
  rw [hd] at hp
  have hc1 : (del q p).converts = w :: rmL cs p := by unfold del; simp only [he, zaI1, if_neg hp]
  have hr' : zH7 q.resource (others p q.holds) w.proc w.amount = true := zbd7 hr (zY9 p _)
  refine ⟨by rw [zaV8 (w := w) (cs := rmL cs p ++ (del q p).waits) (by rw [hc1]; rfl)]; exact hr', ?_⟩
  rw [zcc8 hc1, hpp]
  unfold del
  simp only [zaw7 (Ne.symm hp) _ hasc]
 | wait w ws hcn he hd hr hpp =>
  rw [hd] at hp
  have hc1 : (del q p).converts = [] := by unfold del; rw [hcn]; rfl
  have hw1 : (del q p).waits = w :: rmL ws p := by unfold del; simp only [he, zaI1, if_neg hp]
  have hr' : zH7 q.resource (others p q.holds) w.proc w.amount = true := zbd7 hr (zY9 p _)
  refine ⟨by rw [zaV8 (w := w) (cs := rmL ws p) (by rw [hc1, hw1]; rfl)]; exact hr', ?_⟩
  rw [zbJ6 hc1 hw1, hpp]
  unfold del
  simp only [zaw7 (Ne.symm hp) _ hasc]
theorem zcj9 : ∀ q, SoundP q → ∀ p, advS (del (advS q) p) = advS (del q p) := by
 refine zaV7 (fun q h hs p => by rw [zW3 h]) fun q hc ih hs p => ?_
 rw [zab1 hc, ih (hs.pop hc) p]
 by_cases hp : (zl4 q).1.proc = p
 ·subst hp; rw [zbC1 hc]
 ·obtain ⟨h1, h2⟩ := zbC2 hs hc hp
  rw [zab1 h1, h2]
def dels (q : Queue) (ps : List Proc) : Queue := ps.foldl del q
theorem SoundP.dels : ∀ (ps : List Proc) {q : Queue}, SoundP q → SoundP (dels q ps)
 | [], _, h => h
 | p :: ps, _, h => SoundP.dels ps (h.del p)
theorem zcc9 {q : Queue} {p : Proc} (h1 : ∀ x ∈ q.holds, x.proc ≠ p) (h2 : ∀ x ∈ q.converts, x.proc ≠ p) (h3 : ∀ x ∈ q.waits, x.proc ≠ p) : del q p = q := by
 unfold del; rw [zaR9 h1, zbx9 h2, zbx9 h3]
def noG (q : Queue) : Queue := { q with gen := 0 }
theorem zaI3 (q : Queue) (g : Int) : canQ { q with gen := g } = canQ q := rfl
theorem zcd0 (q : Queue) (g : Int) : popQ { q with gen := g } = { popQ q with gen := g } := by
 unfold popQ zl4
 split <;> rfl
theorem zcd1 (g : Int) : ∀ q, advS { q with gen := g } = { advS q with gen := g } := by
 refine zaV7 (P := fun q => advS { q with gen := g } = { advS q with gen := g }) (fun q h => ?_) fun q h ih => ?_
 ·rw [zW3 h, zW3 (by rw [zaI3]; exact h)]
 ·rw [zab1 h, zab1 (q := { q with gen := g }) (by rw [zaI3]; exact h), zcd0, ih]
theorem zbG1 (q : Queue) : (popQ q).gen = q.gen ∧ (popQ q).resource = q.resource := by unfold popQ; split <;> exact ⟨rfl, rfl⟩
theorem zaI4 (q : Queue) : (advS q).gen = q.gen ∧ (advS q).resource = q.resource :=
 zaV6 (P := fun x => x.gen = q.gen ∧ x.resource = q.resource) (fun x _ h => by rw [(zbG1 x).1, (zbG1 x).2]; exact h) q ⟨rfl, rfl⟩
end Ab
end Go.Proofs.YtfjeceicgfdmjaaGreatDoor
