/-
  Valid lines, in parts; what an insertion and a removal keep.
-/
import Derived.Test.YtfjeceicgfdmjaaGreatDoorLinA
import Derived.Test.YtfjeceicgfdmjaaGreatDoorQueF
namespace Go.Proofs.YtfjeceicgfdmjaaGreatDoor
namespace Ab
set_option linter.unusedVariables false
set_option linter.unusedSimpArgs false
def optI (o : Option Nat) : Int := match o with
 | some i => (i : Int)
 | none => -1
theorem zbJ3 (l : List Wait) (p : Proc) : zy9 l p = optI (zM6 p l 0) := rfl
theorem zcd0 (o : Option Nat) : optI (o.map (· + 1)) = if 0 ≤ optI o then optI o + 1 else -1 := by
 cases o with
 | none => rfl
 | some n =>
  have h : (0 : Int) ≤ optI (some n) := Int.natCast_nonneg n
  rw [if_pos h]; exact Int.natCast_succ n
theorem zaD3 {l : List Wait} : (∀ i, i < l.length → zy9 l (l.getD i Wait.zero).proc = i) ↔ (l.map (·.proc)).Nodup := by
 induction l with
 | nil => simp
 | cons w l ih =>
  rw [List.map_cons, List.nodup_cons]
  have shift : ∀ p i, zM6 p l (i + 1) = (zM6 p l i).map (· + 1) := by
   intro p
   clear ih
   induction l with
   | nil => intro i; rfl
   | cons x l ih => intro i; simp only [zM6]; split <;> simp [ih]
  have hcons : ∀ i, zy9 (w :: l) (l.getD i Wait.zero).proc = if w.proc = (l.getD i Wait.zero).proc then 0 else if 0 ≤ zy9 l (l.getD i Wait.zero).proc then zy9 l (l.getD i Wait.zero).proc + 1 else -1 := fun i => by
   simp only [zbJ3, zM6, shift]
   by_cases h : w.proc = (l.getD i Wait.zero).proc
   ·simp [h, optI]
   ·simp only [h, if_false]
    exact zcd0 _
  constructor
  ·intro h
   have h1 : ∀ i, i < l.length → w.proc ≠ (l.getD i Wait.zero).proc ∧ zy9 l (l.getD i Wait.zero).proc = i := fun i hi => by
    have := h (i + 1) (by simpa using hi)
    rw [List.getD_cons_succ, hcons] at this
    split at this
    ·omega
    ·rename_i hne
     split at this
     ·exact ⟨hne, by omega⟩
     ·omega
   refine ⟨fun hm => ?_, ih.1 fun i hi => (h1 i hi).2⟩
   obtain ⟨x, hx, he⟩ := List.mem_map.1 hm
   obtain ⟨i, hi, rfl⟩ := List.mem_iff_getElem.1 hx
   have := (h1 i hi).1
   rw [List.getD_eq_getElem?_getD, List.getElem?_eq_getElem hi] at this
   exact this he.symm
  ·rintro ⟨h1, h2⟩ i hi
   have h3 := ih.2 h2
   cases i with
   | zero => simp [zy9, zM6]
   | succ i =>
    have hi' : i < l.length := by simpa using hi
    have hne : w.proc ≠ (l.getD i Wait.zero).proc := fun e => h1 (List.mem_map.2 ⟨l.getD i Wait.zero, by
     rw [List.getD_eq_getElem?_getD, List.getElem?_eq_getElem hi']; exact List.getElem_mem hi', e.symm⟩)
    rw [List.getD_cons_succ, hcons, if_neg hne, h3 i hi', if_pos (by omega)]
    omega
theorem zX3 (l : List Wait) : zC8 l = true ↔ l.length ≤ 8 ∧ (∀ w ∈ l, zc1 w = true) ∧ (l.map (·.proc)).Nodup := by
 unfold zC8
 simp only [Bool.and_eq_true, decide_eq_true_eq, List.all_eq_true, List.mem_range]
 constructor
 ·rintro ⟨h1, h2⟩
  refine ⟨h1, fun w hw => ?_, zaD3.1 fun i hi => (h2 i hi).2⟩
  obtain ⟨i, hi, rfl⟩ := List.mem_iff_getElem.1 hw
  have := (h2 i hi).1
  rwa [List.getD_eq_getElem?_getD, List.getElem?_eq_getElem hi] at this
 ·rintro ⟨h1, h2, h3⟩
  refine ⟨h1, fun i hi => ⟨h2 _ ?_, zaD3.2 h3 i hi⟩⟩
  rw [List.getD_eq_getElem?_getD, List.getElem?_eq_getElem hi]
  exact List.getElem_mem hi
theorem zbi8 {l : List Wait} (p : Proc) (h : zC8 l = true) : zC8 (rmL l p) = true := by
 rw [zX3] at h ⊢
 refine ⟨Nat.le_trans (zcj8 l p) h.1, fun w hw => h.2.1 w ((List.mem_filter.1 hw).1), ?_⟩
 exact (h.2.2).sublist ((List.filter_sublist).map _)
theorem zaP2 (l : List Wait) (w : Wait) : ∀ k i, zq4 l w k ≤ i → i < k → over w (l.getD i Wait.zero) = true
 | k + 1, i, h1, h2 => by
  unfold zq4 at h1
  split at h1
  ·rename_i ho
   by_cases hi : i = k
   ·subst hi; exact ho
   ·exact zaP2 l w k i h1 (by omega)
  ·omega
theorem zbJ4 {l : List Wait} {w e : Wait} (h : e ∈ l.drop (zq4 l w l.length)) : over w e = true := by
 obtain ⟨i, hi, rfl⟩ := List.mem_iff_getElem.1 h
 have := zaP2 l w l.length (zq4 l w l.length + i) (by omega) (by simp at hi; omega)
 rw [List.getElem_drop]
 rwa [List.getD_eq_getElem?_getD, List.getElem?_eq_getElem (by simp at hi; omega)] at this
theorem zba3 {w e : Wait} (h : zc1 e = true) (ho : over w e = true) : zc1 (bump e) = true ∧ (bump e).passed = e.passed + 1 := by
 have h1 := zaL6 h
 have h2 : e.passed < 3 := by unfold over at ho; simp at ho; exact ho.2
 have h3 : (bump e).passed = e.passed + 1 := by unfold bump; simp only; rw [ze1 (by omega) (by omega)]
 refine ⟨?_, h3⟩
 unfold zc1 at h ⊢
 simp only [Bool.and_eq_true, decide_eq_true_eq] at h ⊢
 rw [h3]
 exact ⟨⟨h.1.1, by omega⟩, by omega⟩
theorem zbo2 (l : List Wait) (w : Wait) (n : Nat) : (zaq8 l w n).map (·.proc) = (l.take n).map (·.proc) ++ w.proc :: (l.drop n).map (·.proc) := by
 unfold zaq8
 rw [List.map_append, List.map_cons, List.map_map]
 rfl
theorem zbA7 {l : List Wait} {w : Wait} (h : zC8 l = true) (hw : zc1 w = true) (hne : ∀ e ∈ l, e.proc ≠ w.proc) (hl : l.length < 8) : zC8 (zaq8 l w (zq4 l w l.length)) = true := by
 rw [zX3] at h ⊢
 have hn := zal9 l w l.length
 have ho := fun e => zbJ4 (l := l) (w := w) (e := e)
 generalize zq4 l w l.length = n at hn ho
 refine ⟨by simp [zaq8]; omega, fun e he => ?_, ?_⟩
 ·simp only [zaq8, List.mem_append, List.mem_cons, List.mem_map] at he
  rcases he with he | rfl | ⟨x, hx, rfl⟩
  ·exact h.2.1 e (List.mem_of_mem_take he)
  ·exact hw
  ·exact (zba3 (h.2.1 x (List.mem_of_mem_drop hx)) (ho x hx)).1
 ·rw [zbo2]
  have h3 := h.2.2
  rw [← List.take_append_drop n l, List.map_append] at h3
  have hin : w.proc ∉ (l.take n).map (·.proc) ++ (l.drop n).map (·.proc) := by
   rw [← List.map_append, List.take_append_drop]
   intro hm
   obtain ⟨x, hx, he⟩ := List.mem_map.1 hm
   exact hne x hx he
  exact (List.perm_middle.nodup_iff).2 (List.nodup_cons.2 ⟨hin, h3⟩)
end Ab
end Go.Proofs.YtfjeceicgfdmjaaGreatDoor
namespace Go.Proofs.YtfjeceicgfdmjaaGreatDoor
namespace Ab
set_option linter.unusedVariables false
set_option linter.unusedSimpArgs false
theorem zI2 {p : Proc} {l : List Hold} {h : Hold} : h ∈ others p l ↔ h ∈ l ∧ h.proc ≠ p := by unfold others; simp
theorem zbu8 {l m : List Amount} (h : l.Sublist m) (hn : ∀ a ∈ m, 0 ≤ a.units) : sumU l ≤ sumU m := by
 induction h with
 | slnil => exact Int.le_refl _
 | cons a h ih =>
  have := ih fun b hb => hn b (.tail _ hb)
  have := hn a (.head _)
  simp only [sumU]; omega
 | cons_cons a h ih =>
  have := ih fun b hb => hn b (.tail _ hb)
  simp only [sumU]; omega
theorem CompP.sub {r : Resource} {l m : List Amount} (h : CompP r m) (hs : l.Sublist m) : CompP r l where
 perm := fun a ha => h.perm a (hs.subset ha)
 sum := Int.le_trans (zbu8 hs fun a ha => (zE0 (h.perm a ha)).1) h.sum
 pair := h.pair.sublist hs
theorem GoodP.sub {r : Resource} {l m : List Hold} (h : GoodP r m) (hs : l.Sublist m) : GoodP r l := ⟨fun x hx => h.each x (hs.subset hx), h.asc.sublist hs⟩
theorem zv3 (r : Resource) (l : List Hold) : zq3 r l = true ↔ zb4 r = true ∧ l.length ≤ 8 ∧ GoodP r l ∧ CompP r (l.map (·.amount)) := by
 unfold zq3; simp
theorem zaf6 {r : Resource} {l m : List Hold} (h : zq3 r m = true) (hs : l.Sublist m) : zq3 r l = true := by
 rw [zv3] at h ⊢
 exact ⟨h.1, Nat.le_trans hs.length_le h.2.1, h.2.2.1.sub hs, h.2.2.2.sub (hs.map _)⟩
theorem zX4 (p : Proc) (l : List Hold) : (others p l).Sublist l := List.filter_sublist
theorem zbA8 {r : Resource} (hr : zb4 r = true) : zq3 r [] = true := by
 rw [zv3]
 have : 1 ≤ r.units := by rw [zt4] at hr; omega
 exact ⟨hr, by simp, ⟨by simp, .nil⟩, ⟨by simp, by simp [sumU]; omega, .nil⟩⟩
theorem zax7 (p : Proc) (a : Amount) (l : List Hold) : (insP p a l).Perm (⟨p, a⟩ :: l) := by
 induction l with
 | nil => exact List.Perm.refl _
 | cons h t ih =>
  simp only [insP]
  split
  ·exact List.Perm.refl _
  ·exact (List.Perm.cons h ih).trans (List.Perm.swap _ _ _)
theorem zbu9 {p : Proc} {a : Amount} : ∀ {l : List Hold}, l.Pairwise (fun a b => ltP a.proc b.proc) → (∀ h ∈ l, h.proc ≠ p) → (insP p a l).Pairwise fun a b => ltP a.proc b.proc
 | [], _, _ => by simp [insP]
 | h :: t, hp, hn => by
  rw [List.pairwise_cons] at hp
  simp only [insP]
  split
  ·rename_i hlt
   rw [List.pairwise_cons]
   refine ⟨fun x hx => ?_, List.pairwise_cons.2 hp⟩
   rcases List.mem_cons.1 hx with rfl | hx
   ·exact hlt
   ·exact zX0 hlt (hp.1 x hx)
  ·rename_i hlt
   rw [List.pairwise_cons]
   refine ⟨fun x hx => ?_, zbu9 hp.2 fun x hx => hn x (.tail _ hx)⟩
   rcases List.mem_cons.1 ((zax7 p a t).mem_iff.1 hx) with rfl | hx
   ·rcases zX1 (hn h (.head _)) with h1 | h1
    ·exact h1
    ·exact absurd h1 hlt
   ·exact hp.1 x hx
theorem zaM0 {l m : List Amount} (h : l.Perm m) : sumU l = sumU m := by
 induction h with
 | nil => rfl
 | cons a _ ih => simp only [sumU, ih]
 | swap a b l => simp only [sumU]; omega
 | trans _ _ ih1 ih2 => exact ih1.trans ih2
theorem zao8 {a b : Amount} (h : ¬ zM4 a b) : ¬ zM4 b a := fun ⟨h1, h2, h3⟩ => h ⟨h2, h1, by rw [zaS9]; exact h3⟩
theorem CompP.perm_iff {r : Resource} {l m : List Amount} (h : l.Perm m) : CompP r l ↔ CompP r m := by
 constructor
 ·intro k
  exact ⟨fun a ha => k.perm a (h.mem_iff.2 ha), by rw [← zaM0 h]; exact k.sum, (h.pairwise_iff (fun h => zao8 h)).1 k.pair⟩
 ·intro k
  exact ⟨fun a ha => k.perm a (h.mem_iff.1 ha), by rw [zaM0 h]; exact k.sum, (h.pairwise_iff (fun h => zao8 h)).2 k.pair⟩
theorem zba4 {r : Resource} {l : List Hold} {p : Proc} {a : Amount} (hv : zq3 r l = true) (hp : zb3 p = true) (ha : za9 r a = true) (hlen : (others p l).length + 1 ≤ 8) :
  zG0 r l p a = true ↔ (∀ h ∈ others p l, ¬ zM4 h.amount a) ∧ a.units + sumU ((others p l).map (·.amount)) ≤ r.units := by
 have hv' := (zv3 r l).1 hv
 have hz := zE9 ha
 have ho := zaf6 hv (zX4 p l)
 have ho' := (zv3 r _).1 ho
 have hpr : zE1 r l p a = true := by unfold zE1; simp [hv, hp, ha]
 have hpm : ((insP p a (others p l)).map (·.amount)).Perm (a :: (others p l).map (·.amount)) := (zax7 p a (others p l)).map _
 unfold zG0
 rw [hpr, Bool.true_and, zv3]
 unfold setL
 rw [if_neg hz, CompP.perm_iff hpm]
 constructor
 ·rintro ⟨_, _, _, h4⟩
  refine ⟨fun h hh => ?_, h4.sum⟩
  have := (List.pairwise_cons.1 h4.pair).1 h.amount (List.mem_map.2 ⟨h, hh, rfl⟩)
  exact zao8 this
 ·rintro ⟨h1, h2⟩
  refine ⟨hv'.1, by rw [zaG1]; exact hlen, ⟨fun x hx => ?_, zbu9 ho'.2.2.1.asc fun h hh => (zI2.1 hh).2⟩, ⟨fun b hb => ?_, h2, ?_⟩⟩
  ·rcases List.mem_cons.1 ((zax7 p a _).mem_iff.1 hx) with rfl | hx
   ·exact ⟨hp, ha⟩
   ·exact ho'.2.2.1.each x hx
  ·rcases List.mem_cons.1 hb with rfl | hb
   ·exact zj5 ha
   ·exact ho'.2.2.2.perm b hb
  ·rw [List.pairwise_cons]
   refine ⟨fun b hb => ?_, ho'.2.2.2.pair⟩
   obtain ⟨h, hh, rfl⟩ := List.mem_map.1 hb
   exact zao8 (h1 h hh)
theorem zaD4 {α S X : Type} (f : S → α → S) (fin : S → X) : ∀ (l : List α) (i : Nat) (s : S), walk (fun _ a s => some (.inl (f s a))) fin l i s = some (fin (l.foldl f s))
 | [], _, _ => rfl
 | a :: l, i, s => by simp only [walk, List.foldl_cons]; exact zaD4 f fin l (i + 1) _
def foe (r : Resource) (p : Proc) (a : Amount) (h : Hold) : Bool := !decide (h.proc = p) && !(decide (r.kind = 1) && zaA8 r [h.amount, a])
def zam4 (r : Resource) (l : List Hold) (p : Proc) (a : Amount) : List Proc :=
 if (!zE1 r l p a || zG0 r l p a) = true then [] else (l.filter (foe r p a)).map (·.proc)
theorem zcd1 (l : List Hold) (hl : l.length ≤ 1000000) : zI8 l = some (l.map (·.proc)) := by
 unfold zI8
 have key := zr0 (body := zI1 l) l Hold.zero (fun i (s : List Proc) => ((i : Int), s)) (fun i h s => some (.inl (zal5 s (some h.proc)))) (fun s => s) (fun i s => s.length ≤ i)
  (fun i s hi hs => by
   refine ⟨?_, fun s' h => ?_⟩
   ·unfold zI1
    have h1 : s.length + 1 ≤ 4294967296 := by omega
    have h3 : 0 ≤ (i : Int) ∧ (i : Int) < (l.length : Int) := by omega
    simp only [h1, h3.1, h3.2, and_self, zj7, decide_true, if_true, Int.toNat_natCast, zd5 i (by omega), Option.map_some, wmap, zal5]
   ·simp only [Option.some.injEq, Sum.inl.injEq] at h; subst h; simp [zal5]; omega)
  (fun s hs => by unfold zI1; simp) [] (by simp)
 rw [show ((0, []) : Int × List Proc) = (fun (i : Nat) (s : List Proc) => ((i : Int), s)) 0 [] from rfl, key, zal6 (fun h : Hold => some h.proc)]
 simp [zae6]
theorem zcd2 {r : Resource} {p : Proc} {a : Amount} {h : Hold} (hk : r.kind = 1) (hs : zb4 r = true) (hh : za9 r h.amount = true) (ha : za9 r a = true) : foe r p a h = true ↔ h.proc ≠ p ∧ zM4 h.amount a := by
 unfold foe zaA8
 have p1 := zF9 (zj5 hh) hk
 have p2 := zF9 (zj5 ha) hk
 have hc : CompP r [h.amount, a] ↔ ¬ zM4 h.amount a := by
  constructor
  ·intro c; have := c.pair; simp at this; exact this
  ·intro c
   exact ⟨fun b hb => by
    simp only [List.mem_cons, List.not_mem_nil, or_false] at hb
    rcases hb with rfl | rfl
    ·exact zj5 hh
    ·exact zj5 ha, by simp [sumU]; omega, by simp; exact c⟩
 simp [hk, hs, hc]
theorem zcd3 {r : Resource} {p : Proc} {a : Amount} {h : Hold} (hk : r.kind ≠ 1) : foe r p a h = true ↔ h.proc ≠ p := by
 unfold foe; simp [hk]
end Ab
end Go.Proofs.YtfjeceicgfdmjaaGreatDoor
namespace Go.Proofs.YtfjeceicgfdmjaaGreatDoor
namespace Ab
set_option linter.unusedVariables false
set_option linter.unusedSimpArgs false
theorem zbF1 {α : Type} {P : α → Prop} {l : List α} {z : α} : (∀ i, i < l.length → P (l.getD i z)) ↔ ∀ w ∈ l, P w := by
 constructor
 ·intro h w hw
  obtain ⟨i, hi, rfl⟩ := List.mem_iff_getElem.1 hw
  have := h i hi
  rwa [List.getD_eq_getElem?_getD, List.getElem?_eq_getElem hi] at this
 ·intro h i hi
  refine h _ ?_
  rw [List.getD_eq_getElem?_getD, List.getElem?_eq_getElem hi]
  exact List.getElem_mem hi
theorem zC9 (h : Hold) (t : List Hold) (p : Proc) : getH (h :: t) p = if h.proc = p then h.amount else getH t p := by
 unfold getH
 rw [List.find?_cons]
 by_cases e : h.proc = p <;> simp [e]
theorem zam5 (p : Proc) (l : List Hold) : getH (others p l) p = Amount.zero := by
 induction l with
 | nil => rfl
 | cons h t ih =>
  rw [zx4]
  by_cases e : h.proc = p
  ·simp only [e, if_true]; exact ih
  ·simp only [e, if_false, zC9]; exact ih
theorem zG1 {p q : Proc} (hq : q ≠ p) (l : List Hold) : getH (others p l) q = getH l q := by
 induction l with
 | nil => rfl
 | cons h t ih =>
  rw [zx4]
  by_cases e : h.proc = p
  ·simp only [e, if_true, zC9]
   rw [if_neg (fun e2 => hq e2.symm)]; exact ih
  ·simp only [e, if_false, zC9]
   split
   ·rfl
   ·exact ih
theorem zav4 (p : Proc) (a : Amount) : ∀ l : List Hold, (∀ h ∈ l, h.proc ≠ p) → getH (insP p a l) p = a
 | [], _ => by simp [insP, zC9]
 | h :: t, hh => by
  simp only [insP]
  split
  ·simp [zC9]
  ·simp only [zC9, hh h (.head _), if_false]
   exact zav4 p a t fun x hx => hh x (.tail _ hx)
theorem zaG5 {p q : Proc} (a : Amount) (hq : q ≠ p) : ∀ l : List Hold, getH (insP p a l) q = getH l q
 | [] => by simp only [insP, zC9]; rw [if_neg (fun e : p = q => hq e.symm)]
 | h :: t => by
  simp only [insP]
  split
  ·simp only [zC9]; rw [if_neg (fun e : p = q => hq e.symm)]
  ·simp only [zC9]
   split
   ·rfl
   ·exact zaG5 a hq t
theorem zaf7 (l : List Hold) (p : Proc) (a : Amount) : getH (setL l p a) p = a := by
 unfold setL
 split
 ·rename_i h; rw [zam5, h]
 ·exact zav4 p a _ fun h hh => (zI2.1 hh).2
theorem zz9 {p q : Proc} (hq : q ≠ p) (l : List Hold) (a : Amount) : getH (setL l p a) q = getH l q := by
 unfold setL
 split
 ·exact zG1 hq l
 ·rw [zaG5 a hq]; exact zG1 hq l
theorem zaf8 {l : List Hold} {p : Proc} (h : getH l p ≠ Amount.zero) : (⟨p, getH l p⟩ : Hold) ∈ l := by
 induction l with
 | nil => exact absurd rfl h
 | cons x t ih =>
  rw [zC9] at h ⊢
  by_cases e : x.proc = p
  ·rw [if_pos e]; subst e; exact .head _
  ·rw [if_neg e] at h ⊢; exact .tail _ (ih h)
theorem zav5 {l : List Hold} {p : Proc} (h : ∀ x ∈ l, x.proc ≠ p) : others p l = l := List.filter_eq_self.2 fun x hx => by simpa using h x hx
theorem zbv0 (p : Proc) (a : Amount) {l : List Hold} : others p (insP p a l) = others p l := by
 induction l with
 | nil => simp [insP, others]
 | cons h t ih =>
  simp only [insP]
  split
  ·simp [zx4]
  ·simp only [zx4, ih]
theorem zaB2 (p : Proc) (l : List Hold) : others p (others p l) = others p l := by
 unfold others; rw [List.filter_filter]; simp
theorem zaP3 (p q : Proc) (l : List Hold) : others p (others q l) = others q (others p l) := by
 unfold others; rw [List.filter_filter, List.filter_filter]; congr 1; funext h; exact Bool.and_comm _ _
theorem zaP4 (p : Proc) (a : Amount) (l : List Hold) : others p (setL l p a) = others p l := by
 unfold setL
 split
 ·exact zaB2 p l
 ·rw [zbv0, zaB2]
def Asc (l : List Hold) : Prop := l.Pairwise fun a b => ltP a.proc b.proc
theorem Asc.others {l : List Hold} (h : Asc l) (p : Proc) : Asc (others p l) := List.Pairwise.sublist (zX4 p l) h
theorem zam6 {r : Resource} {l : List Hold} (h : zq3 r l = true) : Asc l := ((zv3 r l).1 h).2.2.1.asc
theorem zcd4 {h : Hold} {t : List Hold} (k : Asc (h :: t)) : ∀ x ∈ t, x.proc ≠ h.proc := fun x hx e => by
 have := (List.pairwise_cons.1 k).1 x hx
 rw [e] at this; exact zae7 _ this
theorem zbv1 {l : List Hold} (h : Asc l) {p : Proc} (hp : getH l p ≠ Amount.zero) : l.Perm (⟨p, getH l p⟩ :: others p l) := by
 induction l with
 | nil => exact absurd rfl hp
 | cons x t ih =>
  rw [zC9] at hp ⊢
  rw [zx4]
  by_cases e : x.proc = p
  ·rw [if_pos e, if_pos e, zav5 (by rw [← e]; exact zcd4 h)]
   subst e; exact List.Perm.refl _
  ·rw [if_neg e] at hp
   rw [if_neg e, if_neg e]
   exact ((ih (List.pairwise_cons.1 h).2 hp).cons x).trans (List.Perm.swap _ _ _)
theorem zaM1 {l : List Hold} (h : Asc l) {p : Proc} (hp : getH l p ≠ Amount.zero) : (others p l).length + 1 = l.length := by
 have := (zbv1 h hp).length_eq
 simpa using this.symm
theorem zbA9 {p : Proc} {a : Amount} {l : List Hold} (h : ∀ x ∈ l, ltP p x.proc) : insP p a l = ⟨p, a⟩ :: l := by
 cases l with
 | nil => rfl
 | cons x t => simp only [insP]; rw [if_pos (h x (.head _))]
theorem zba5 {p q : Proc} (hq : q ≠ p) (a : Amount) {l : List Hold} (h : Asc l) : others q (insP p a l) = insP p a (others q l) := by
 induction l with
 | nil => simp only [insP, zbA5, zx4]; rw [if_neg (fun e : p = q => hq e.symm)]
 | cons x t ih =>
  simp only [insP]
  split
  ·rename_i hlt
   have hall : ∀ y ∈ others q (x :: t), ltP p y.proc := fun y hy => by
    rcases List.mem_cons.1 (zI2.1 hy).1 with rfl | hy
    ·exact hlt
    ·exact zX0 hlt ((List.pairwise_cons.1 h).1 y hy)
   rw [zbA9 hall, zx4]
   rw [if_neg (fun e : p = q => hq e.symm)]
  ·rename_i hlt
   rw [zx4, zx4, ih (List.pairwise_cons.1 h).2]
   split
   ·rfl
   ·simp only [insP]; rw [if_neg hlt]
theorem zav6 {p q : Proc} (hq : q ≠ p) (a : Amount) {l : List Hold} (h : Asc l) : others q (setL l p a) = setL (others q l) p a := by
 unfold setL
 split
 ·exact zaP3 q p l
 ·rw [zba5 hq a (h.others p), zaP3]
theorem zbv2 {l : List Hold} (ha : Asc l) {x : Hold} (hx : x ∈ l) : getH l x.proc = x.amount := by
 induction l with
 | nil => cases hx
 | cons y t ih =>
  rw [zC9]
  rcases List.mem_cons.1 hx with rfl | hx
  ·rw [if_pos rfl]
  ·rw [if_neg (fun e : y.proc = x.proc => zcd4 ha x hx e.symm)]
   exact ih (List.pairwise_cons.1 ha).2 hx
theorem zbi9 {r : Resource} {l : List Hold} (h : zq3 r l = true) (p : Proc) : zb0 r (getH l p) = true := by
 have hv := (zv3 r l).1 h
 by_cases e : getH l p = Amount.zero
 ·rw [e, perm_iff]; exact .inl ⟨hv.1, rfl⟩
 ·exact zj5 (hv.2.2.1.each _ (zaf8 e)).2
theorem zI9 (a : Amount) : zb7 a = true ↔ a = Amount.zero := by unfold zb7; simp
theorem zQ3 (a : Amount) : zb7 a = false ↔ a ≠ Amount.zero := by rw [← Bool.not_eq_true, zI9]
structure SoundP (q : Queue) : Prop where
 res : resV q.resource = true
 hv : zq3 q.resource q.holds = true
 cl : q.converts.length ≤ 8
 cn : (q.converts.map (·.proc)).Nodup
 cg : ∀ w ∈ q.converts, getH q.holds w.proc ≠ Amount.zero ∧ za9 q.resource w.amount = true ∧ covA q.resource w.amount (getH q.holds w.proc) = true ∧ w.amount ≠ getH q.holds w.proc ∧ w.priority = 0 ∧ w.passed = 0
 wv : zC8 q.waits = true
 wl : q.holds.length + q.waits.length ≤ 8
 wg : ∀ w ∈ q.waits, za9 q.resource w.amount = true ∧ getH q.holds w.proc = Amount.zero
 gen : 0 ≤ q.gen ∧ q.gen ≤ 1073741824
theorem zaD5 (q : Queue) : zaj5 q = true ↔ SoundP q := by
 have hc : cvOk q = true ↔ q.converts.length ≤ 8 ∧ (q.converts.map (·.proc)).Nodup ∧ ∀ w ∈ q.converts, getH q.holds w.proc ≠ Amount.zero ∧ za9 q.resource w.amount = true ∧ covA q.resource w.amount (getH q.holds w.proc) = true ∧ w.amount ≠ getH q.holds w.proc ∧ w.priority = 0 ∧ w.passed = 0 := by
  unfold cvOk
  rw [← zaD3, ← zbF1 (z := Wait.zero)]
  simp only [Bool.and_eq_true, decide_eq_true_eq, List.all_eq_true, List.mem_range, cvI, Bool.not_eq_true', zQ3, decide_eq_false_iff_not]
  constructor
  ·rintro ⟨h1, h2⟩; exact ⟨h1, fun i hi => (h2 i hi).1, fun i hi => (h2 i hi).2⟩
  ·rintro ⟨h1, h2, h3⟩; exact ⟨h1, fun i hi => ⟨h2 i hi, h3 i hi⟩⟩
 have hw : wtOk q = true ↔ zC8 q.waits = true ∧ q.holds.length + q.waits.length ≤ 8 ∧ ∀ w ∈ q.waits, za9 q.resource w.amount = true ∧ getH q.holds w.proc = Amount.zero := by
  unfold wtOk
  rw [← zbF1 (z := Wait.zero)]
  simp only [Bool.and_eq_true, decide_eq_true_eq, List.all_eq_true, List.mem_range, wtI, zI9]
 unfold zaj5
 simp only [Bool.and_eq_true, hc, hw, decide_eq_true_eq]
 constructor
 ·rintro ⟨h1, h2, ⟨h3, h4, h5⟩, ⟨h6, h7, h8⟩, h9⟩; exact ⟨h1, h2, h3, h4, h5, h6, h7, h8, h9⟩
 ·rintro ⟨h1, h2, h3, h4, h5, h6, h7, h8, h9⟩; exact ⟨h1, h2, ⟨h3, h4, h5⟩, ⟨h6, h7, h8⟩, h9⟩
theorem SoundP.apart {q : Queue} (h : SoundP q) {c w : Wait} (hc : c ∈ q.converts) (hw : w ∈ q.waits) : c.proc ≠ w.proc := fun e =>
 (h.cg c hc).1 (by rw [e]; exact (h.wg w hw).2)
theorem SoundP.nodup {q : Queue} (h : SoundP q) : ((q.converts ++ q.waits).map (·.proc)).Nodup := by
 rw [List.map_append, List.nodup_append]
 refine ⟨h.cn, ((zX3 _).1 h.wv).2.2, fun a ha b hb => ?_⟩
 obtain ⟨c, hc, rfl⟩ := List.mem_map.1 ha
 obtain ⟨w, hw, rfl⟩ := List.mem_map.1 hb
 exact h.apart hc hw
inductive Pop (q : Queue) : Prop where
 | con (w : Wait) (cs : List Wait) (h : q.converts = w :: cs) (hd : (zj4 q).1 = w) (hr : zG0 q.resource q.holds w.proc w.amount = true) (hp : popQ q = { q with holds := setL q.holds w.proc w.amount, converts := cs })
 | wait (w : Wait) (ws : List Wait) (hc : q.converts = []) (h : q.waits = w :: ws) (hd : (zj4 q).1 = w) (hr : zG0 q.resource q.holds w.proc w.amount = true) (hp : popQ q = { q with holds := setL q.holds w.proc w.amount, waits := ws })
theorem zba6 {q : Queue} (h : canQ q = true) : Pop q := by
 unfold canQ at h
 rw [Bool.and_eq_true] at h
 obtain ⟨h1, h2⟩ := h
 cases hc : q.converts with
 | cons w cs =>
  have hd : (zj4 q).1 = w := by unfold zj4; rw [hc]; rfl
  exact .con w cs hc hd (by rw [← hd]; exact h2) (by unfold popQ; rw [hd]; simp [hc])
 | nil =>
  cases hw : q.waits with
  | cons w ws =>
   have hd : (zj4 q).1 = w := by unfold zj4; rw [hc, hw]; rfl
   exact .wait w ws hc hw hd (by rw [← hd]; exact h2) (by unfold popQ; rw [hd]; simp [hc, hw])
  | nil => unfold zj4 at h1; rw [hc, hw] at h1; exact absurd h1 (by decide)
theorem zX5 {r : Resource} {l : List Hold} {p : Proc} {a : Amount} (h : zG0 r l p a = true) : zq3 r l = true ∧ zb3 p = true ∧ za9 r a = true ∧ zq3 r (setL l p a) = true := by
 unfold zG0 zE1 at h
 simp only [Bool.and_eq_true] at h
 exact ⟨h.1.1, h.1.2.1, h.1.2.2, h.2⟩
theorem zbj0 {r : Resource} {l : List Hold} {p : Proc} (a : Amount) (h : zq3 r l = true) (hp : getH l p ≠ Amount.zero) : (setL l p a).length ≤ l.length := by
 have := zaM1 (zam6 h) hp
 unfold setL
 split
 ·omega
 ·rw [zaG1]; omega
theorem zbv3 {w : Wait} {l : List Wait} (h : zC8 (w :: l) = true) : zC8 l = true := by
 rw [zX3] at h ⊢
 obtain ⟨h1, h2, h3⟩ := h
 rw [List.map_cons, List.nodup_cons] at h3
 exact ⟨by simp at h1; omega, fun x hx => h2 x (.tail _ hx), h3.2⟩
theorem SoundP.pop {q : Queue} (h : SoundP q) (hc : canQ q = true) : SoundP (popQ q) := by
 cases zba6 hc with
 | con w cs he hd hr hp =>
  rw [hp]
  obtain ⟨_, _, _, hv⟩ := zX5 hr
  have hn : w.proc ∉ cs.map (·.proc) ∧ (cs.map (·.proc)).Nodup := by have := h.cn; rw [he, List.map_cons, List.nodup_cons] at this; exact this
  have hw := h.cg w (by rw [he]; exact .head _)
  have hl := zbj0 w.amount h.hv hw.1
  have h8 := h.cl
  rw [he, List.length_cons] at h8
  refine ⟨h.res, hv, by simp only; omega, hn.2, fun c hcc => ?_, h.wv, ?_, fun x hx => ?_, h.gen⟩
  ·have hne : c.proc ≠ w.proc := fun e => hn.1 (List.mem_map.2 ⟨c, hcc, e⟩)
   simp only [zz9 hne]
   exact h.cg c (by rw [he]; exact .tail _ hcc)
  ·have := h.wl; simp only; omega
  ·have hne : x.proc ≠ w.proc := fun e => h.apart (c := w) (by rw [he]; exact .head _) hx e.symm
   simp only [zz9 hne]
   exact h.wg x hx
 | wait w ws hcn he hd hr hp =>
  rw [hp]
  obtain ⟨_, _, _, hv⟩ := zX5 hr
  have hl := zbu1 q.holds w.proc w.amount
  have h8 := h.wl
  have hwv := h.wv
  rw [he] at h8 hwv
  have hn : w.proc ∉ ws.map (·.proc) := by have := ((zX3 _).1 hwv).2.2; rw [List.map_cons, List.nodup_cons] at this; exact this.1
  rw [List.length_cons] at h8
  refine ⟨h.res, hv, h.cl, h.cn, fun c hcc => ?_, zbv3 hwv, by simp only; omega, fun x hx => ?_, h.gen⟩
  ·rw [hcn] at hcc; cases hcc
  ·have hne : x.proc ≠ w.proc := fun e => hn (List.mem_map.2 ⟨x, hx, e⟩)
   simp only [zz9 hne]
   exact h.wg x (by rw [he]; exact .tail _ hx)
theorem zav7 : ∀ (n : Nat) (q : Queue) (l : List Hold), advN n (q, l) = ((advN n (q, [])).1, l ++ (advN n (q, [])).2)
 | 0, q, l => by simp [advN]
 | n + 1, q, l => by
  simp only [advN]
  split
  ·unfold zam2
   simp only [List.nil_append]
   rw [zav7 n (popQ q) (l ++ _), zav7 n (popQ q) [_], List.append_assoc]
  ·simp
def advS (q : Queue) : Queue := (advQ q).1
def advG (q : Queue) : List Hold := (advQ q).2
theorem zax8 (q : Queue) : advQ q = if canQ q = true then ((advQ (popQ q)).1, ⟨(zj4 q).1.proc, (zj4 q).1.amount⟩ :: (advQ (popQ q)).2) else (q, []) := by
 unfold advQ
 rw [zam3 (q, [])]
 show (if canQ q = true then advN (zx5 (popQ q)) (popQ q, [] ++ [_]) else (q, [])) = _
 split
 ·rw [zav7]; rfl
 ·rfl
theorem zV1 {q : Queue} (h : canQ q = true) : advS q = advS (popQ q) := by unfold advS; rw [zax8 q, if_pos h]
theorem zbv4 {q : Queue} (h : canQ q = true) : advG q = ⟨(zj4 q).1.proc, (zj4 q).1.amount⟩ :: advG (popQ q) := by unfold advG; rw [zax8 q, if_pos h]
theorem zQ4 {q : Queue} (h : canQ q = false) : advS q = q := by unfold advS; rw [zax8 q, h]; rfl
theorem zbv5 {q : Queue} (h : canQ q = false) : advG q = [] := by unfold advG; rw [zax8 q, h]; rfl
theorem zaG6 {P : Queue → Prop} (h : ∀ q, canQ q = true → P q → P (popQ q)) : ∀ q, P q → P (advS q) := by
 have key : ∀ n q, zx5 q = n → P q → P (advS q) := by
  intro n
  induction n using Nat.strongRecOn with
  | _ n ih =>
   intro q hn hq
   cases hc : canQ q with
   | false => rw [zQ4 hc]; exact hq
   | true =>
    rw [zV1 hc]
    have := (zP0 hc).2.1
    exact ih (zx5 (popQ q)) (by omega) _ rfl (h q hc hq)
 exact fun q hq => key _ q rfl hq
theorem zaG7 {P : Queue → Prop} (h0 : ∀ q, canQ q = false → P q) (h : ∀ q, canQ q = true → P (popQ q) → P q) : ∀ q, P q := by
 have key : ∀ n q, zx5 q = n → P q := by
  intro n
  induction n using Nat.strongRecOn with
  | _ n ih =>
   intro q hn
   cases hc : canQ q with
   | false => exact h0 q hc
   | true =>
    have := (zP0 hc).2.1
    exact h q hc (ih (zx5 (popQ q)) (by omega) _ rfl)
 exact fun q => key _ q rfl
theorem zbv6 : ∀ q, canQ (advS q) = false := by
 refine zaG7 (fun q h => by rw [zQ4 h]; exact h) fun q h ih => by rw [zV1 h]; exact ih
theorem SoundP.adv {q : Queue} (h : SoundP q) : SoundP (advS q) := zaG6 (P := SoundP) (fun _ hc h => h.pop hc) q h
theorem zg3 (q : Queue) : zb9 q = true ↔ SoundP q ∧ canQ q = false := by
 unfold zb9
 rw [Bool.and_eq_true, zaD5]
 show SoundP q ∧ (!canQ q) = true ↔ _
 rw [Bool.not_eq_true']
theorem zcd5 : ∀ q, (advG q).length + zx5 (advS q) = zx5 q := by
 refine zaG7 (fun q h => by rw [zQ4 h, zbv5 h]; simp) fun q h ih => by
  rw [zV1 h, zbv4 h, List.length_cons]
  have := (zP0 h).2.1
  omega
end Ab
end Go.Proofs.YtfjeceicgfdmjaaGreatDoor
namespace Go.Proofs.YtfjeceicgfdmjaaGreatDoor
namespace Ab
set_option linter.unusedVariables false
set_option linter.unusedSimpArgs false
theorem zck0 (r : Resource) (a b : Amount) : covA r a b = (!(!zb0 r a || !zb0 r b) && (zb7 b || (!zb7 a && (if r.kind = 1 then covM a.mode b.mode else decide (b.units ≤ a.units))))) := by
 have e1 := zax5 r a
 have e2 := zax5 r b
 have e3 := zai0 a
 have e4 := zai0 b
 have h : covA r a b = (!(!zf1 r a || !zf1 r b) && (zc6 b || (!zc6 a && (if r.kind = 1 then covM a.mode b.mode else decide (b.units ≤ a.units))))) := by
  unfold covA zf7
  generalize (!zf1 r a || !zf1 r b) = x
  generalize zc6 b = y
  generalize zc6 a = z
  by_cases hk : r.kind = 1 <;> cases x <;> cases y <;> cases z <;> simp [hk]
 rw [h, e1, e2, e3, e4]
theorem zV2 (r : Resource) (a b : Amount) : covA r a b = true ↔ zb0 r a = true ∧ zb0 r b = true ∧ (b = Amount.zero ∨ a ≠ Amount.zero ∧ b ≠ Amount.zero ∧ ((r.kind = 1 ∧ covM a.mode b.mode = true) ∨ (r.kind ≠ 1 ∧ b.units ≤ a.units))) := by
 rw [zck0]
 have za := zI9 a
 have zb := zI9 b
 simp only [Bool.and_eq_true, Bool.or_eq_true, Bool.not_eq_true', Bool.or_eq_false_iff, Bool.not_eq_false', zb, zQ3]
 by_cases e : b = Amount.zero
 ·simp [e, and_assoc]
 ·by_cases hk : r.kind = 1 <;> simp [e, hk, and_assoc]
theorem zbj1 {r : Resource} {a : Amount} (h : zb0 r a = true) : covA r a a = true := by
 rw [zV2]
 refine ⟨h, h, ?_⟩
 by_cases e : a = Amount.zero
 ·exact .inl e
 ·refine .inr ⟨e, e, ?_⟩
  by_cases hk : r.kind = 1
  ·left
   refine ⟨hk, ?_⟩
   have := zF9 h hk
   have hm : a.mode ≠ 0 := fun hm => e (by obtain ⟨m, u⟩ := a; simp only at *; unfold Amount.zero; congr; omega)
   rw [zav2]; omega
  ·exact .inr ⟨hk, Int.le_refl _⟩
theorem zbJ5 {r : Resource} {a : Amount} (h : zb0 r a = true) (hs : zb4 r = true) : covA r a Amount.zero = true := by
 rw [zV2]; exact ⟨h, (perm_iff r _).2 (.inl ⟨hs, rfl⟩), .inl rfl⟩
theorem zbB0 {r : Resource} {a b c : Amount} (h1 : covA r a b = true) (h2 : covA r b c = true) : covA r a c = true := by
 rw [zV2] at h1 h2 ⊢
 refine ⟨h1.1, h2.2.1, ?_⟩
 rcases h2.2.2 with e | ⟨hb0, hc0, h3⟩
 ·exact .inl e
 ·rcases h1.2.2 with e | ⟨ha0, _, h4⟩
  ·exact absurd e hb0
  ·refine .inr ⟨ha0, hc0, ?_⟩
   rcases h3 with ⟨k, h3⟩ | ⟨k, h3⟩
   ·rcases h4 with ⟨_, h4⟩ | ⟨k', _⟩
    ·left; refine ⟨k, ?_⟩
     rw [zav2] at h3 h4 ⊢; omega
    ·exact absurd k k'
   ·rcases h4 with ⟨k', _⟩ | ⟨_, h4⟩
    ·exact absurd k' k
    ·exact .inr ⟨k, by omega⟩
def low (a b : Amount) : Prop := a.units ≤ b.units ∧ ∀ c, ¬ zM4 b c → ¬ zM4 a c
theorem zek3 {r : Resource} {a b : Amount} (h : covA r b a = true) : low a b := by
 rw [zV2] at h
 obtain ⟨h1, h2, h3⟩ := h
 have hb1 := zE0 h1
 rcases h3 with e | ⟨hb0, ha0, h3⟩
 ·subst e
  refine ⟨hb1.1, fun c _ hc => ?_⟩
  exact hc.1 rfl
 ·rcases h3 with ⟨k, h3⟩ | ⟨k, h3⟩
  ·have p1 := zF9 h1 k
   have p2 := zF9 h2 k
   refine ⟨by omega, fun c hc hc' => hc ⟨?_, hc'.2.1, ?_⟩⟩
   ·rw [zav2] at h3; omega
   ·have h4 := hc'.2.2
    rw [← Bool.not_eq_true] at h4 ⊢
    intro h5; apply h4
    rw [zbn5] at h5 ⊢
    rw [zav2] at h3
    omega
  ·have hk : r.kind = 2 := by
    have := (perm_iff r a).1 h2
    rw [zt4, zD9] at this
    omega
   have p2 := zax6 h2 hk
   exact ⟨h3, fun c _ hc => hc.1 p2.1⟩
theorem zbj2 {r : Resource} {l : List Hold} {p : Proc} {a : Amount} : zG0 r l p a = true ↔ zq3 r l = true ∧ zb3 p = true ∧ za9 r a = true ∧ (others p l).length + 1 ≤ 8 ∧ (∀ h ∈ others p l, ¬ zM4 h.amount a) ∧ a.units + sumU ((others p l).map (·.amount)) ≤ r.units := by
 constructor
 ·intro h
  obtain ⟨h1, h2, h3, h4⟩ := zX5 h
  have hl : (others p l).length + 1 ≤ 8 := by
   have := zM5 h4
   unfold setL at this
   rw [if_neg (zE9 h3), zaG1] at this
   exact this
  exact ⟨h1, h2, h3, hl, (zba4 h1 h2 h3 hl).1 h⟩
 ·rintro ⟨h1, h2, h3, h4, h5⟩
  exact (zba4 h1 h2 h3 h4).2 h5
theorem zba7 {r : Resource} {l m : List Hold} {p : Proc} {a : Amount} (h : zG0 r m p a = true) (hs : l.Sublist m) : zG0 r l p a = true := by
 rw [zbj2] at h ⊢
 obtain ⟨h1, h2, h3, h4, h5, h6⟩ := h
 have ho : (others p l).Sublist (others p m) := hs.filter _
 have hm := (zv3 r m).1 h1
 refine ⟨zaf6 h1 hs, h2, h3, by have := ho.length_le; omega, fun x hx => h5 x (ho.subset hx), ?_⟩
 have := zbu8 (ho.map (·.amount)) fun b hb => by
  obtain ⟨x, hx, rfl⟩ := List.mem_map.1 hb
  exact (zE0 (zj5 (hm.2.2.1.each x (zI2.1 hx).1).2)).1
 omega
theorem zbv7 {r : Resource} {l : List Hold} {p : Proc} {a : Amount} (hv : zq3 r l = true) (hp : getH l p ≠ Amount.zero) (hc : covA r (getH l p) a = true) : zq3 r (setL l p a) = true := by
 have hasc := zam6 hv
 have hv' := (zv3 r l).1 hv
 by_cases hz : a = Amount.zero
 ·unfold setL; rw [if_pos hz]; exact zaf6 hv (zX4 p l)
 ·have hfit : za9 r a = true := by
   rcases (perm_iff r a).1 ((zV2 _ _ _).1 hc).2.1 with h | h
   ·exact absurd h.2 hz
   ·exact h
  have hlow := zek3 hc
  have hm := zaf8 hp
  have hlt := zaM1 hasc hp
  have hpm := zbv1 hasc hp
  have hroom : zG0 r l p a = true := by
   rw [zbj2]
   refine ⟨hv, (hv'.2.2.1.each _ hm).1, hfit, by have := hv'.2.1; omega, fun x hx hcl => ?_, ?_⟩
   ·have hpr := (CompP.perm_iff (hpm.map (·.amount))).1 hv'.2.2.2
    have := (List.pairwise_cons.1 hpr.pair).1 x.amount (List.mem_map.2 ⟨x, hx, rfl⟩)
    exact hlow.2 _ this (by
     obtain ⟨c1, c2, c3⟩ := hcl
     exact ⟨c2, c1, by rw [zaS9]; exact c3⟩)
   ·have h1 := zaM0 (hpm.map (·.amount))
    have h2 := hv'.2.2.2.sum
    rw [h1] at h2
    simp only [List.map_cons, sumU] at h2
    have := hlow.1
    omega
  exact (zX5 hroom).2.2.2
def del (q : Queue) (p : Proc) : Queue := { q with holds := others p q.holds, converts := rmL q.converts p, waits := rmL q.waits p }
theorem zaG8 (w : Wait) (l : List Wait) (p : Proc) : rmL (w :: l) p = if w.proc = p then rmL l p else w :: rmL l p := by
 unfold rmL notP; rw [List.filter_cons]; by_cases e : w.proc = p <;> simp [e]
theorem zax9 {w : Wait} {l : List Wait} {p : Proc} : w ∈ rmL l p ↔ w ∈ l ∧ w.proc ≠ p := by unfold rmL notP; simp
theorem zay0 (l : List Wait) (p : Proc) : (rmL l p).Sublist l := List.filter_sublist
theorem zbv8 {l : List Wait} {p : Proc} (h : ∀ w ∈ l, w.proc ≠ p) : rmL l p = l := List.filter_eq_self.2 fun w hw => by unfold notP; simpa using h w hw
theorem SoundP.del {q : Queue} (h : SoundP q) (p : Proc) : SoundP (del q p) := by
 have h1 := (zay0 q.converts p).length_le
 have h2 := (zay0 q.waits p).length_le
 have h3 := zae8 p q.holds
 have h4 := h.cl; have h5 := h.wl
 refine ⟨h.res, zaf6 h.hv (zX4 p _), by simp only [Ab.del]; omega, h.cn.sublist ((zay0 _ _).map _), fun w hw => ?_, zbi8 p h.wv, by simp only [Ab.del]; omega, fun w hw => ?_, h.gen⟩
 ·obtain ⟨a1, a2⟩ := zax9.1 hw
  simp only [Ab.del, zG1 a2]
  exact h.cg w a1
 ·obtain ⟨a1, a2⟩ := zax9.1 hw
  simp only [Ab.del, zG1 a2]
  exact h.wg w a1
theorem zbB1 {q : Queue} (hc : canQ q = true) : del (popQ q) (zj4 q).1.proc = del q (zj4 q).1.proc := by
 cases zba6 hc with
 | con w cs he hd hr hp =>
  rw [hp, hd]
  unfold del
  simp only [zaP4, he, zaG8, if_true]
 | wait w ws hcn he hd hr hp =>
  rw [hp, hd]
  unfold del
  simp only [zaP4, he, zaG8, if_true]
theorem zaT0 {q : Queue} {w : Wait} {cs : List Wait} (h : q.converts ++ q.waits = w :: cs) : canQ q = zG0 q.resource q.holds w.proc w.amount := by
 unfold canQ zj4; rw [h]; exact Bool.true_and _
theorem zcd6 {q : Queue} {w : Wait} {cs : List Wait} (h : q.converts = w :: cs) : popQ q = { q with holds := setL q.holds w.proc w.amount, converts := cs } := by
 unfold popQ zj4; rw [h]; simp
theorem zbJ6 {q : Queue} {w : Wait} {ws : List Wait} (hc : q.converts = []) (h : q.waits = w :: ws) : popQ q = { q with holds := setL q.holds w.proc w.amount, waits := ws } := by
 unfold popQ zj4; rw [hc, h]; simp
theorem zbB2 {q : Queue} (h : SoundP q) (hc : canQ q = true) {p : Proc} (hp : (zj4 q).1.proc ≠ p) : canQ (del q p) = true ∧ popQ (del q p) = del (popQ q) p := by
 have hasc := zam6 h.hv
 cases zba6 hc with
 | con w cs he hd hr hpp =>
  rw [hd] at hp
  have hc1 : (del q p).converts = w :: rmL cs p := by unfold del; simp only [he, zaG8, if_neg hp]
  have hr' : zG0 q.resource (others p q.holds) w.proc w.amount = true := zba7 hr (zX4 p _)
  refine ⟨by rw [zaT0 (w := w) (cs := rmL cs p ++ (del q p).waits) (by rw [hc1]; rfl)]; exact hr', ?_⟩
  rw [zcd6 hc1, hpp]
  unfold del
  simp only [zav6 (Ne.symm hp) _ hasc]
 | wait w ws hcn he hd hr hpp =>
  rw [hd] at hp
  have hc1 : (del q p).converts = [] := by unfold del; rw [hcn]; rfl
  have hw1 : (del q p).waits = w :: rmL ws p := by unfold del; simp only [he, zaG8, if_neg hp]
  have hr' : zG0 q.resource (others p q.holds) w.proc w.amount = true := zba7 hr (zX4 p _)
  refine ⟨by rw [zaT0 (w := w) (cs := rmL ws p) (by rw [hc1, hw1]; rfl)]; exact hr', ?_⟩
  rw [zbJ6 hc1 hw1, hpp]
  unfold del
  simp only [zav6 (Ne.symm hp) _ hasc]
theorem zck1 : ∀ q, SoundP q → ∀ p, advS (del (advS q) p) = advS (del q p) := by
 refine zaG7 (fun q h hs p => by rw [zQ4 h]) fun q hc ih hs p => ?_
 rw [zV1 hc, ih (hs.pop hc) p]
 by_cases hp : (zj4 q).1.proc = p
 ·subst hp; rw [zbB1 hc]
 ·obtain ⟨h1, h2⟩ := zbB2 hs hc hp
  rw [zV1 h1, h2]
def dels (q : Queue) (ps : List Proc) : Queue := ps.foldl del q
theorem SoundP.dels : ∀ (ps : List Proc) {q : Queue}, SoundP q → SoundP (dels q ps)
 | [], _, h => h
 | p :: ps, _, h => SoundP.dels ps (h.del p)
theorem zcd7 {q : Queue} {p : Proc} (h1 : ∀ x ∈ q.holds, x.proc ≠ p) (h2 : ∀ x ∈ q.converts, x.proc ≠ p) (h3 : ∀ x ∈ q.waits, x.proc ≠ p) : del q p = q := by
 unfold del; rw [zav5 h1, zbv8 h2, zbv8 h3]
def noG (q : Queue) : Queue := { q with gen := 0 }
theorem zaG9 (q : Queue) (g : Int) : canQ { q with gen := g } = canQ q := rfl
theorem zcd8 (q : Queue) (g : Int) : popQ { q with gen := g } = { popQ q with gen := g } := by
 unfold popQ zj4
 split <;> rfl
theorem zcd9 (g : Int) : ∀ q, advS { q with gen := g } = { advS q with gen := g } := by
 refine zaG7 (P := fun q => advS { q with gen := g } = { advS q with gen := g }) (fun q h => ?_) fun q h ih => ?_
 ·rw [zQ4 h, zQ4 (by rw [zaG9]; exact h)]
 ·rw [zV1 h, zV1 (q := { q with gen := g }) (by rw [zaG9]; exact h), zcd8, ih]
theorem zbo3 (q : Queue) : (popQ q).gen = q.gen ∧ (popQ q).resource = q.resource := by unfold popQ; split <;> exact ⟨rfl, rfl⟩
theorem zaH0 (q : Queue) : (advS q).gen = q.gen ∧ (advS q).resource = q.resource :=
 zaG6 (P := fun x => x.gen = q.gen ∧ x.resource = q.resource) (fun x _ h => by rw [(zbo3 x).1, (zbo3 x).2]; exact h) q ⟨rfl, rfl⟩
end Ab
end Go.Proofs.YtfjeceicgfdmjaaGreatDoor
