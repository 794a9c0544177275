/-
  Valid lines, in parts; what an insertion and a removal keep.
-/
import Derived.Test.YtfjeceicgfdmjaaGreatDoorLinA
import Derived.Test.YtfjeceicgfdmjaaGreatDoorQueF
namespace Go.Proofs.YtfjeceicgfdmjaaGreatDoor
namespace Ab
set_option linter.unusedVariables false
set_option linter.unusedSimpArgs false
def optI (o : Option Nat) : Int := match o with
 | some i => (i : Int)
 | none => -1
theorem zbA9 (l : List Wait) (p : Proc) : zy6 l p = optI (zL0 p l 0) := rfl
theorem zbS0 (o : Option Nat) : optI (o.map (· + 1)) = if 0 ≤ optI o then optI o + 1 else -1 := by
 cases o with
 | none => rfl
 | some n =>
  have h : (0 : Int) ≤ optI (some n) := Int.natCast_nonneg n
  rw [if_pos h]; exact Int.natCast_succ n
theorem zaz6 {l : List Wait} : (∀ i, i < l.length → zy6 l (l.getD i Wait.zero).proc = i) ↔ (l.map (·.proc)).Nodup := by
 induction l with
 | nil => simp
 | cons w l ih =>
  rw [List.map_cons, List.nodup_cons]
  have shift : ∀ p i, zL0 p l (i + 1) = (zL0 p l i).map (· + 1) := by
   intro p
   clear ih
   induction l with
   | nil => intro i; rfl
   | cons x l ih => intro i; simp only [zL0]; split <;> simp [ih]
  have hcons : ∀ i, zy6 (w :: l) (l.getD i Wait.zero).proc = if w.proc = (l.getD i Wait.zero).proc then 0 else if 0 ≤ zy6 l (l.getD i Wait.zero).proc then zy6 l (l.getD i Wait.zero).proc + 1 else -1 := fun i => by
   simp only [zbA9, zL0, shift]
   by_cases h : w.proc = (l.getD i Wait.zero).proc
   ·simp [h, optI]
   ·simp only [h, if_false]
    exact zbS0 _
  constructor
  ·intro h
   have h1 : ∀ i, i < l.length → w.proc ≠ (l.getD i Wait.zero).proc ∧ zy6 l (l.getD i Wait.zero).proc = i := fun i hi => by
    have := h (i + 1) (by simpa using hi)
    rw [List.getD_cons_succ, hcons] at this
    split at this
    ·omega
    ·rename_i hne
     split at this
     ·exact ⟨hne, by omega⟩
     ·omega
   refine ⟨fun hm => ?_, ih.1 fun i hi => (h1 i hi).2⟩
   obtain ⟨x, hx, he⟩ := List.mem_map.1 hm
   obtain ⟨i, hi, rfl⟩ := List.mem_iff_getElem.1 hx
   have := (h1 i hi).1
   rw [List.getD_eq_getElem?_getD, List.getElem?_eq_getElem hi] at this
   exact this he.symm
  ·rintro ⟨h1, h2⟩ i hi
   have h3 := ih.2 h2
   cases i with
   | zero => simp [zy6, zL0]
   | succ i =>
    have hi' : i < l.length := by simpa using hi
    have hne : w.proc ≠ (l.getD i Wait.zero).proc := fun e => h1 (List.mem_map.2 ⟨l.getD i Wait.zero, by
     rw [List.getD_eq_getElem?_getD, List.getElem?_eq_getElem hi']; exact List.getElem_mem hi', e.symm⟩)
    rw [List.getD_cons_succ, hcons, if_neg hne, h3 i hi', if_pos (by omega)]
    omega
theorem zam0 (l : List Wait) : zD1 l = true ↔ l.length ≤ 8 ∧ (∀ w ∈ l, zc2 w = true) ∧ (l.map (·.proc)).Nodup := by
 unfold zD1
 simp only [Bool.and_eq_true, decide_eq_true_eq, List.all_eq_true, List.mem_range]
 constructor
 ·rintro ⟨h1, h2⟩
  refine ⟨h1, fun w hw => ?_, zaz6.1 fun i hi => (h2 i hi).2⟩
  obtain ⟨i, hi, rfl⟩ := List.mem_iff_getElem.1 hw
  have := (h2 i hi).1
  rwa [List.getD_eq_getElem?_getD, List.getElem?_eq_getElem hi] at this
 ·rintro ⟨h1, h2, h3⟩
  refine ⟨h1, fun i hi => ⟨h2 _ ?_, zaz6.2 h3 i hi⟩⟩
  rw [List.getD_eq_getElem?_getD, List.getElem?_eq_getElem hi]
  exact List.getElem_mem hi
theorem zbB0 {l : List Wait} (p : Proc) (h : zD1 l = true) : zD1 (rmL l p) = true := by
 rw [zam0] at h ⊢
 refine ⟨Nat.le_trans (zbW7 l p) h.1, fun w hw => h.2.1 w ((List.mem_filter.1 hw).1), ?_⟩
 exact (h.2.2).sublist ((List.filter_sublist).map _)
theorem zaN0 (l : List Wait) (w : Wait) : ∀ k i, zs8 l w k ≤ i → i < k → over w (l.getD i Wait.zero) = true
 | k + 1, i, h1, h2 => by
  unfold zs8 at h1
  split at h1
  ·rename_i ho
   by_cases hi : i = k
   ·subst hi; exact ho
   ·exact zaN0 l w k i h1 (by omega)
  ·omega
theorem zbB1 {l : List Wait} {w e : Wait} (h : e ∈ l.drop (zs8 l w l.length)) : over w e = true := by
 obtain ⟨i, hi, rfl⟩ := List.mem_iff_getElem.1 h
 have := zaN0 l w l.length (zs8 l w l.length + i) (by omega) (by simp at hi; omega)
 rw [List.getElem_drop]
 rwa [List.getD_eq_getElem?_getD, List.getElem?_eq_getElem (by simp at hi; omega)] at this
theorem zaX9 {w e : Wait} (h : zc2 e = true) (ho : over w e = true) : zc2 (bump e) = true ∧ (bump e).passed = e.passed + 1 := by
 have h1 := zaI4 h
 have h2 : e.passed < 3 := by unfold over at ho; simp at ho; exact ho.2
 have h3 : (bump e).passed = e.passed + 1 := by unfold bump; simp only; rw [zf1 (by omega) (by omega)]
 refine ⟨?_, h3⟩
 unfold zc2 at h ⊢
 simp only [Bool.and_eq_true, decide_eq_true_eq] at h ⊢
 rw [h3]
 exact ⟨⟨h.1.1, by omega⟩, by omega⟩
theorem zbk6 (l : List Wait) (w : Wait) (n : Nat) : (zar8 l w n).map (·.proc) = (l.take n).map (·.proc) ++ w.proc :: (l.drop n).map (·.proc) := by
 unfold zar8
 rw [List.map_append, List.map_cons, List.map_map]
 rfl
theorem zbu3 {l : List Wait} {w : Wait} (h : zD1 l = true) (hw : zc2 w = true) (hne : ∀ e ∈ l, e.proc ≠ w.proc) (hl : l.length < 8) : zD1 (zar8 l w (zs8 l w l.length)) = true := by
 rw [zam0] at h ⊢
 have hn := zaj8 l w l.length
 have ho := fun e => zbB1 (l := l) (w := w) (e := e)
 generalize zs8 l w l.length = n at hn ho
 refine ⟨by simp [zar8]; omega, fun e he => ?_, ?_⟩
 ·simp only [zar8, List.mem_append, List.mem_cons, List.mem_map] at he
  rcases he with he | rfl | ⟨x, hx, rfl⟩
  ·exact h.2.1 e (List.mem_of_mem_take he)
  ·exact hw
  ·exact (zaX9 (h.2.1 x (List.mem_of_mem_drop hx)) (ho x hx)).1
 ·rw [zbk6]
  have h3 := h.2.2
  rw [← List.take_append_drop n l, List.map_append] at h3
  have hin : w.proc ∉ (l.take n).map (·.proc) ++ (l.drop n).map (·.proc) := by
   rw [← List.map_append, List.take_append_drop]
   intro hm
   obtain ⟨x, hx, he⟩ := List.mem_map.1 hm
   exact hne x hx he
  exact (List.perm_middle.nodup_iff).2 (List.nodup_cons.2 ⟨hin, h3⟩)
end Ab
end Go.Proofs.YtfjeceicgfdmjaaGreatDoor
namespace Go.Proofs.YtfjeceicgfdmjaaGreatDoor
namespace Ab
set_option linter.unusedVariables false
set_option linter.unusedSimpArgs false
theorem zaz7 {p : Proc} {l : List Hold} {h : Hold} : h ∈ others p l ↔ h ∈ l ∧ h.proc ≠ p := by unfold others; simp
theorem zbS1 {l m : List Amount} (h : l.Sublist m) (hn : ∀ a ∈ m, 0 ≤ a.units) : sumU l ≤ sumU m := by
 induction h with
 | slnil => exact Int.le_refl _
 | cons a h ih =>
  have := ih fun b hb => hn b (.tail _ hb)
  have := hn a (.head _)
  simp only [sumU]; omega
 | cons_cons a h ih =>
  have := ih fun b hb => hn b (.tail _ hb)
  simp only [sumU]; omega
theorem CompP.sub {r : Resource} {l m : List Amount} (h : CompP r m) (hs : l.Sublist m) : CompP r l where
 perm := fun a ha => h.perm a (hs.subset ha)
 sum := Int.le_trans (zbS1 hs fun a ha => (zF0 (h.perm a ha)).1) h.sum
 pair := h.pair.sublist hs
theorem GoodP.sub {r : Resource} {l m : List Hold} (h : GoodP r m) (hs : l.Sublist m) : GoodP r l := ⟨fun x hx => h.each x (hs.subset hx), h.asc.sublist hs⟩
theorem zL1 (r : Resource) (l : List Hold) : zv3 r l = true ↔ zc6 r = true ∧ l.length ≤ 8 ∧ GoodP r l ∧ CompP r (l.map (·.amount)) := by
 unfold zv3; simp
theorem zaY0 {r : Resource} {l m : List Hold} (h : zv3 r m = true) (hs : l.Sublist m) : zv3 r l = true := by
 rw [zL1] at h ⊢
 exact ⟨h.1, Nat.le_trans hs.length_le h.2.1, h.2.2.1.sub hs, h.2.2.2.sub (hs.map _)⟩
theorem zaz8 (p : Proc) (l : List Hold) : (others p l).Sublist l := List.filter_sublist
theorem zau7 (p : Proc) (a : Amount) (l : List Hold) : (insP p a l).Perm (⟨p, a⟩ :: l) := by
 induction l with
 | nil => exact List.Perm.refl _
 | cons h t ih =>
  simp only [insP]
  split
  ·exact List.Perm.refl _
  ·exact (List.Perm.cons h ih).trans (List.Perm.swap _ _ _)
theorem zbq3 {p : Proc} {a : Amount} : ∀ {l : List Hold}, l.Pairwise (fun a b => ltP a.proc b.proc) → (∀ h ∈ l, h.proc ≠ p) → (insP p a l).Pairwise fun a b => ltP a.proc b.proc
 | [], _, _ => by simp [insP]
 | h :: t, hp, hn => by
  rw [List.pairwise_cons] at hp
  simp only [insP]
  split
  ·rename_i hlt
   rw [List.pairwise_cons]
   refine ⟨fun x hx => ?_, List.pairwise_cons.2 hp⟩
   rcases List.mem_cons.1 hx with rfl | hx
   ·exact hlt
   ·exact zaa8 hlt (hp.1 x hx)
  ·rename_i hlt
   rw [List.pairwise_cons]
   refine ⟨fun x hx => ?_, zbq3 hp.2 fun x hx => hn x (.tail _ hx)⟩
   rcases List.mem_cons.1 ((zau7 p a t).mem_iff.1 hx) with rfl | hx
   ·rcases zV8 (hn h (.head _)) with h1 | h1
    ·exact h1
    ·exact absurd h1 hlt
   ·exact hp.1 x hx
theorem zaI8 {l m : List Amount} (h : l.Perm m) : sumU l = sumU m := by
 induction h with
 | nil => rfl
 | cons a _ ih => simp only [sumU, ih]
 | swap a b l => simp only [sumU]; omega
 | trans _ _ ih1 ih2 => exact ih1.trans ih2
theorem zam1 {a b : Amount} (h : ¬ zO9 a b) : ¬ zO9 b a := fun ⟨h1, h2, h3⟩ => h ⟨h2, h1, by rw [zaQ2]; exact h3⟩
theorem CompP.perm_iff {r : Resource} {l m : List Amount} (h : l.Perm m) : CompP r l ↔ CompP r m := by
 constructor
 ·intro k
  exact ⟨fun a ha => k.perm a (h.mem_iff.2 ha), by rw [← zaI8 h]; exact k.sum, (h.pairwise_iff (fun h => zam1 h)).1 k.pair⟩
 ·intro k
  exact ⟨fun a ha => k.perm a (h.mem_iff.1 ha), by rw [zaI8 h]; exact k.sum, (h.pairwise_iff (fun h => zam1 h)).2 k.pair⟩
theorem zbq4 {r : Resource} {l : List Hold} {p : Proc} {a : Amount} (hv : zv3 r l = true) (hp : zb3 p = true) (ha : za9 r a = true) (hlen : (others p l).length + 1 ≤ 8) :
  zZ6 r l p a = true ↔ (∀ h ∈ others p l, ¬ zO9 h.amount a) ∧ a.units + sumU ((others p l).map (·.amount)) ≤ r.units := by
 have hv' := (zL1 r l).1 hv
 have hz := zG5 ha
 have ho := zaY0 hv (zaz8 p l)
 have ho' := (zL1 r _).1 ho
 have hpr : zI7 r l p a = true := by unfold zI7; simp [hv, hp, ha]
 have hpm : ((insP p a (others p l)).map (·.amount)).Perm (a :: (others p l).map (·.amount)) := (zau7 p a (others p l)).map _
 unfold zZ6
 rw [hpr, Bool.true_and, zL1]
 unfold setL
 rw [if_neg hz, CompP.perm_iff hpm]
 constructor
 ·rintro ⟨_, _, _, h4⟩
  refine ⟨fun h hh => ?_, h4.sum⟩
  have := (List.pairwise_cons.1 h4.pair).1 h.amount (List.mem_map.2 ⟨h, hh, rfl⟩)
  exact zam1 this
 ·rintro ⟨h1, h2⟩
  refine ⟨hv'.1, by rw [zaD1]; exact hlen, ⟨fun x hx => ?_, zbq3 ho'.2.2.1.asc fun h hh => (zaz7.1 hh).2⟩, ⟨fun b hb => ?_, h2, ?_⟩⟩
  ·rcases List.mem_cons.1 ((zau7 p a _).mem_iff.1 hx) with rfl | hx
   ·exact ⟨hp, ha⟩
   ·exact ho'.2.2.1.each x hx
  ·rcases List.mem_cons.1 hb with rfl | hb
   ·exact zA3 ha
   ·exact ho'.2.2.2.perm b hb
  ·rw [List.pairwise_cons]
   refine ⟨fun b hb => ?_, ho'.2.2.2.pair⟩
   obtain ⟨h, hh, rfl⟩ := List.mem_map.1 hb
   exact zam1 (h1 h hh)
theorem zaY1 {α S X : Type} (f : S → α → S) (fin : S → X) : ∀ (l : List α) (i : Nat) (s : S), walk (fun _ a s => some (.inl (f s a))) fin l i s = some (fin (l.foldl f s))
 | [], _, _ => rfl
 | a :: l, i, s => by simp only [walk, List.foldl_cons]; exact zaY1 f fin l (i + 1) _
theorem zbS2 (l : List Hold) (hl : l.length ≤ 1000000) : zy8 l = some (l.map (·.proc)) := by
 unfold zy8
 have key := zv0 (body := zG4 l) l Hold.zero (fun i (s : List Proc) => ((i : Int), s)) (fun i h s => some (.inl (zaj4 s (some h.proc)))) (fun s => s) (fun i s => s.length ≤ i)
  (fun i s hi hs => by
   refine ⟨?_, fun s' h => ?_⟩
   ·unfold zG4
    have h1 : s.length + 1 ≤ 4294967296 := by omega
    have h3 : 0 ≤ (i : Int) ∧ (i : Int) < (l.length : Int) := by omega
    simp only [h1, h3.1, h3.2, and_self, zm2, decide_true, if_true, Int.toNat_natCast, ze3 i (by omega), Option.map_some, wmap, zaj4]
   ·simp only [Option.some.injEq, Sum.inl.injEq] at h; subst h; simp [zaj4]; omega)
  (fun s hs => by unfold zG4; simp) [] (by simp)
 rw [show ((0, []) : Int × List Proc) = (fun (i : Nat) (s : List Proc) => ((i : Int), s)) 0 [] from rfl, key, zaj5 (fun h : Hold => some h.proc)]
 simp [zad1]
end Ab
end Go.Proofs.YtfjeceicgfdmjaaGreatDoor
namespace Go.Proofs.YtfjeceicgfdmjaaGreatDoor
namespace Ab
set_option linter.unusedVariables false
set_option linter.unusedSimpArgs false
theorem zbx7 {α : Type} {P : α → Prop} {l : List α} {z : α} : (∀ i, i < l.length → P (l.getD i z)) ↔ ∀ w ∈ l, P w := by
 constructor
 ·intro h w hw
  obtain ⟨i, hi, rfl⟩ := List.mem_iff_getElem.1 hw
  have := h i hi
  rwa [List.getD_eq_getElem?_getD, List.getElem?_eq_getElem hi] at this
 ·intro h i hi
  refine h _ ?_
  rw [List.getD_eq_getElem?_getD, List.getElem?_eq_getElem hi]
  exact List.getElem_mem hi
theorem zR4 (h : Hold) (t : List Hold) (p : Proc) : getH (h :: t) p = if h.proc = p then h.amount else getH t p := by
 unfold getH
 rw [List.find?_cons]
 by_cases e : h.proc = p <;> simp [e]
theorem zas2 {p q : Proc} (hq : q ≠ p) (l : List Hold) : getH (others p l) q = getH l q := by
 induction l with
 | nil => rfl
 | cons h t ih =>
  rw [zaf8]
  by_cases e : h.proc = p
  ·simp only [e, if_true, zR4]
   rw [if_neg (fun e2 => hq e2.symm)]; exact ih
  ·simp only [e, if_false, zR4]
   split
   ·rfl
   ·exact ih
theorem zaD7 {p q : Proc} (a : Amount) (hq : q ≠ p) : ∀ l : List Hold, getH (insP p a l) q = getH l q
 | [] => by simp only [insP, zR4]; rw [if_neg (fun e : p = q => hq e.symm)]
 | h :: t => by
  simp only [insP]
  split
  ·simp only [zR4]; rw [if_neg (fun e : p = q => hq e.symm)]
  ·simp only [zR4]
   split
   ·rfl
   ·exact zaD7 a hq t
theorem zT8 {p q : Proc} (hq : q ≠ p) (l : List Hold) (a : Amount) : getH (setL l p a) q = getH l q := by
 unfold setL
 split
 ·exact zas2 hq l
 ·rw [zaD7 a hq]; exact zas2 hq l
theorem zas3 {l : List Hold} {p : Proc} (h : getH l p ≠ Amount.zero) : (⟨p, getH l p⟩ : Hold) ∈ l := by
 induction l with
 | nil => exact absurd rfl h
 | cons x t ih =>
  rw [zR4] at h ⊢
  by_cases e : x.proc = p
  ·rw [if_pos e]; subst e; exact .head _
  ·rw [if_neg e] at h ⊢; exact .tail _ (ih h)
theorem zbq5 {l : List Hold} {p : Proc} (h : ∀ x ∈ l, x.proc ≠ p) : others p l = l := List.filter_eq_self.2 fun x hx => by simpa using h x hx
def Asc (l : List Hold) : Prop := l.Pairwise fun a b => ltP a.proc b.proc
theorem Asc.others {l : List Hold} (h : Asc l) (p : Proc) : Asc (others p l) := List.Pairwise.sublist (zaz8 p l) h
theorem zaI9 {r : Resource} {l : List Hold} (h : zv3 r l = true) : Asc l := ((zL1 r l).1 h).2.2.1.asc
theorem zbS3 {h : Hold} {t : List Hold} (k : Asc (h :: t)) : ∀ x ∈ t, x.proc ≠ h.proc := fun x hx e => by
 have := (List.pairwise_cons.1 k).1 x hx
 rw [e] at this; exact zad3 _ this
theorem zbq6 {l : List Hold} (h : Asc l) {p : Proc} (hp : getH l p ≠ Amount.zero) : l.Perm (⟨p, getH l p⟩ :: others p l) := by
 induction l with
 | nil => exact absurd rfl hp
 | cons x t ih =>
  rw [zR4] at hp ⊢
  rw [zaf8]
  by_cases e : x.proc = p
  ·rw [if_pos e, if_pos e, zbq5 (by rw [← e]; exact zbS3 h)]
   subst e; exact List.Perm.refl _
  ·rw [if_neg e] at hp
   rw [if_neg e, if_neg e]
   exact ((ih (List.pairwise_cons.1 h).2 hp).cons x).trans (List.Perm.swap _ _ _)
theorem zbg0 {l : List Hold} (h : Asc l) {p : Proc} (hp : getH l p ≠ Amount.zero) : (others p l).length + 1 = l.length := by
 have := (zbq6 h hp).length_eq
 simpa using this.symm
theorem zbq7 {l : List Hold} (ha : Asc l) {x : Hold} (hx : x ∈ l) : getH l x.proc = x.amount := by
 induction l with
 | nil => cases hx
 | cons y t ih =>
  rw [zR4]
  rcases List.mem_cons.1 hx with rfl | hx
  ·rw [if_pos rfl]
  ·rw [if_neg (fun e : y.proc = x.proc => zbS3 ha x hx e.symm)]
   exact ih (List.pairwise_cons.1 ha).2 hx
theorem zE5 (a : Amount) : zb8 a = true ↔ a = Amount.zero := by unfold zb8; simp
theorem zL2 (a : Amount) : zb8 a = false ↔ a ≠ Amount.zero := by rw [← Bool.not_eq_true, zE5]
structure SoundP (q : Queue) : Prop where
 res : resV q.resource = true
 hv : zv3 q.resource q.holds = true
 cl : q.converts.length ≤ 8
 cn : (q.converts.map (·.proc)).Nodup
 cg : ∀ w ∈ q.converts, getH q.holds w.proc ≠ Amount.zero ∧ za9 q.resource w.amount = true ∧ covA q.resource w.amount (getH q.holds w.proc) = true ∧ w.amount ≠ getH q.holds w.proc ∧ w.priority = 0 ∧ w.passed = 0
 wv : zD1 q.waits = true
 wl : q.holds.length + q.waits.length ≤ 8
 wg : ∀ w ∈ q.waits, za9 q.resource w.amount = true ∧ getH q.holds w.proc = Amount.zero
 gen : 0 ≤ q.gen ∧ q.gen ≤ 1073741824
theorem zaz9 (q : Queue) : zah4 q = true ↔ SoundP q := by
 have hc : cvOk q = true ↔ q.converts.length ≤ 8 ∧ (q.converts.map (·.proc)).Nodup ∧ ∀ w ∈ q.converts, getH q.holds w.proc ≠ Amount.zero ∧ za9 q.resource w.amount = true ∧ covA q.resource w.amount (getH q.holds w.proc) = true ∧ w.amount ≠ getH q.holds w.proc ∧ w.priority = 0 ∧ w.passed = 0 := by
  unfold cvOk
  rw [← zaz6, ← zbx7 (z := Wait.zero)]
  simp only [Bool.and_eq_true, decide_eq_true_eq, List.all_eq_true, List.mem_range, cvI, Bool.not_eq_true', zL2, decide_eq_false_iff_not]
  constructor
  ·rintro ⟨h1, h2⟩; exact ⟨h1, fun i hi => (h2 i hi).1, fun i hi => (h2 i hi).2⟩
  ·rintro ⟨h1, h2, h3⟩; exact ⟨h1, fun i hi => ⟨h2 i hi, h3 i hi⟩⟩
 have hw : wtOk q = true ↔ zD1 q.waits = true ∧ q.holds.length + q.waits.length ≤ 8 ∧ ∀ w ∈ q.waits, za9 q.resource w.amount = true ∧ getH q.holds w.proc = Amount.zero := by
  unfold wtOk
  rw [← zbx7 (z := Wait.zero)]
  simp only [Bool.and_eq_true, decide_eq_true_eq, List.all_eq_true, List.mem_range, wtI, zE5]
 unfold zah4
 simp only [Bool.and_eq_true, hc, hw, decide_eq_true_eq]
 constructor
 ·rintro ⟨h1, h2, ⟨h3, h4, h5⟩, ⟨h6, h7, h8⟩, h9⟩; exact ⟨h1, h2, h3, h4, h5, h6, h7, h8, h9⟩
 ·rintro ⟨h1, h2, h3, h4, h5, h6, h7, h8, h9⟩; exact ⟨h1, h2, ⟨h3, h4, h5⟩, ⟨h6, h7, h8⟩, h9⟩
theorem SoundP.apart {q : Queue} (h : SoundP q) {c w : Wait} (hc : c ∈ q.converts) (hw : w ∈ q.waits) : c.proc ≠ w.proc := fun e =>
 (h.cg c hc).1 (by rw [e]; exact (h.wg w hw).2)
inductive Pop (q : Queue) : Prop where
 | con (w : Wait) (cs : List Wait) (h : q.converts = w :: cs) (hd : (zz1 q).1 = w) (hr : zZ6 q.resource q.holds w.proc w.amount = true) (hp : popQ q = { q with holds := setL q.holds w.proc w.amount, converts := cs })
 | wait (w : Wait) (ws : List Wait) (hc : q.converts = []) (h : q.waits = w :: ws) (hd : (zz1 q).1 = w) (hr : zZ6 q.resource q.holds w.proc w.amount = true) (hp : popQ q = { q with holds := setL q.holds w.proc w.amount, waits := ws })
theorem zdZ7 {q : Queue} (h : canQ q = true) : Pop q := by
 unfold canQ at h
 rw [Bool.and_eq_true] at h
 obtain ⟨h1, h2⟩ := h
 cases hc : q.converts with
 | cons w cs =>
  have hd : (zz1 q).1 = w := by unfold zz1; rw [hc]; rfl
  exact .con w cs hc hd (by rw [← hd]; exact h2) (by unfold popQ; rw [hd]; simp [hc])
 | nil =>
  cases hw : q.waits with
  | cons w ws =>
   have hd : (zz1 q).1 = w := by unfold zz1; rw [hc, hw]; rfl
   exact .wait w ws hc hw hd (by rw [← hd]; exact h2) (by unfold popQ; rw [hd]; simp [hc, hw])
  | nil => unfold zz1 at h1; rw [hc, hw] at h1; exact absurd h1 (by decide)
theorem zam2 {r : Resource} {l : List Hold} {p : Proc} {a : Amount} (h : zZ6 r l p a = true) : zv3 r l = true ∧ zb3 p = true ∧ za9 r a = true ∧ zv3 r (setL l p a) = true := by
 unfold zZ6 zI7 at h
 simp only [Bool.and_eq_true] at h
 exact ⟨h.1.1, h.1.2.1, h.1.2.2, h.2⟩
theorem zbg1 {r : Resource} {l : List Hold} {p : Proc} (a : Amount) (h : zv3 r l = true) (hp : getH l p ≠ Amount.zero) : (setL l p a).length ≤ l.length := by
 have := zbg0 (zaI9 h) hp
 unfold setL
 split
 ·omega
 ·rw [zaD1]; omega
theorem zbq8 {w : Wait} {l : List Wait} (h : zD1 (w :: l) = true) : zD1 l = true := by
 rw [zam0] at h ⊢
 obtain ⟨h1, h2, h3⟩ := h
 rw [List.map_cons, List.nodup_cons] at h3
 exact ⟨by simp at h1; omega, fun x hx => h2 x (.tail _ hx), h3.2⟩
theorem SoundP.pop {q : Queue} (h : SoundP q) (hc : canQ q = true) : SoundP (popQ q) := by
 cases zdZ7 hc with
 | con w cs he hd hr hp =>
  rw [hp]
  obtain ⟨_, _, _, hv⟩ := zam2 hr
  have hn : w.proc ∉ cs.map (·.proc) ∧ (cs.map (·.proc)).Nodup := by have := h.cn; rw [he, List.map_cons, List.nodup_cons] at this; exact this
  have hw := h.cg w (by rw [he]; exact .head _)
  have hl := zbg1 w.amount h.hv hw.1
  have h8 := h.cl
  rw [he, List.length_cons] at h8
  refine ⟨h.res, hv, by simp only; omega, hn.2, fun c hcc => ?_, h.wv, ?_, fun x hx => ?_, h.gen⟩
  ·have hne : c.proc ≠ w.proc := fun e => hn.1 (List.mem_map.2 ⟨c, hcc, e⟩)
   simp only [zT8 hne]
   exact h.cg c (by rw [he]; exact .tail _ hcc)
  ·have := h.wl; simp only; omega
  ·have hne : x.proc ≠ w.proc := fun e => h.apart (c := w) (by rw [he]; exact .head _) hx e.symm
   simp only [zT8 hne]
   exact h.wg x hx
 | wait w ws hcn he hd hr hp =>
  rw [hp]
  obtain ⟨_, _, _, hv⟩ := zam2 hr
  have hl := zbR8 q.holds w.proc w.amount
  have h8 := h.wl
  have hwv := h.wv
  rw [he] at h8 hwv
  have hn : w.proc ∉ ws.map (·.proc) := by have := ((zam0 _).1 hwv).2.2; rw [List.map_cons, List.nodup_cons] at this; exact this.1
  rw [List.length_cons] at h8
  refine ⟨h.res, hv, h.cl, h.cn, fun c hcc => ?_, zbq8 hwv, by simp only; omega, fun x hx => ?_, h.gen⟩
  ·rw [hcn] at hcc; cases hcc
  ·have hne : x.proc ≠ w.proc := fun e => hn (List.mem_map.2 ⟨x, hx, e⟩)
   simp only [zT8 hne]
   exact h.wg x (by rw [he]; exact .tail _ hx)
theorem zas4 : ∀ (n : Nat) (q : Queue) (l : List Hold), advN n (q, l) = ((advN n (q, [])).1, l ++ (advN n (q, [])).2)
 | 0, q, l => by simp [advN]
 | n + 1, q, l => by
  simp only [advN]
  split
  ·unfold zak0
   simp only [List.nil_append]
   rw [zas4 n (popQ q) (l ++ _), zas4 n (popQ q) [_], List.append_assoc]
  ·simp
def advS (q : Queue) : Queue := (advQ q).1
def advG (q : Queue) : List Hold := (advQ q).2
theorem zau8 (q : Queue) : advQ q = if canQ q = true then ((advQ (popQ q)).1, ⟨(zz1 q).1.proc, (zz1 q).1.amount⟩ :: (advQ (popQ q)).2) else (q, []) := by
 unfold advQ
 rw [zak1 (q, [])]
 show (if canQ q = true then advN (zx9 (popQ q)) (popQ q, [] ++ [_]) else (q, [])) = _
 split
 ·rw [zas4]; rfl
 ·rfl
theorem zbq9 {q : Queue} (h : canQ q = true) : advS q = advS (popQ q) := by unfold advS; rw [zau8 q, if_pos h]
theorem zbS4 {q : Queue} (h : canQ q = true) : advG q = ⟨(zz1 q).1.proc, (zz1 q).1.amount⟩ :: advG (popQ q) := by unfold advG; rw [zau8 q, if_pos h]
theorem zbr0 {q : Queue} (h : canQ q = false) : advS q = q := by unfold advS; rw [zau8 q, h]; rfl
theorem zbS5 {q : Queue} (h : canQ q = false) : advG q = [] := by unfold advG; rw [zau8 q, h]; rfl
theorem zbx8 {P : Queue → Prop} (h : ∀ q, canQ q = true → P q → P (popQ q)) : ∀ q, P q → P (advS q) := by
 have key : ∀ n q, zx9 q = n → P q → P (advS q) := by
  intro n
  induction n using Nat.strongRecOn with
  | _ n ih =>
   intro q hn hq
   cases hc : canQ q with
   | false => rw [zbr0 hc]; exact hq
   | true =>
    rw [zbq9 hc]
    have := (zN9 hc).2.1
    exact ih (zx9 (popQ q)) (by omega) _ rfl (h q hc hq)
 exact fun q hq => key _ q rfl hq
theorem zbW9 {P : Queue → Prop} (h0 : ∀ q, canQ q = false → P q) (h : ∀ q, canQ q = true → P (popQ q) → P q) : ∀ q, P q := by
 have key : ∀ n q, zx9 q = n → P q := by
  intro n
  induction n using Nat.strongRecOn with
  | _ n ih =>
   intro q hn
   cases hc : canQ q with
   | false => exact h0 q hc
   | true =>
    have := (zN9 hc).2.1
    exact h q hc (ih (zx9 (popQ q)) (by omega) _ rfl)
 exact fun q => key _ q rfl
theorem SoundP.adv {q : Queue} (h : SoundP q) : SoundP (advS q) := zbx8 (P := SoundP) (fun _ hc h => h.pop hc) q h
theorem zv2 (q : Queue) : zd8 q = true ↔ SoundP q ∧ canQ q = false := by
 unfold zd8
 rw [Bool.and_eq_true, zaz9]
 show SoundP q ∧ (!canQ q) = true ↔ _
 rw [Bool.not_eq_true']
theorem zbS6 : ∀ q, (advG q).length + zx9 (advS q) = zx9 q := by
 refine zbW9 (fun q h => by rw [zbr0 h, zbS5 h]; simp) fun q h ih => by
  rw [zbq9 h, zbS4 h, List.length_cons]
  have := (zN9 h).2.1
  omega
end Ab
end Go.Proofs.YtfjeceicgfdmjaaGreatDoor
namespace Go.Proofs.YtfjeceicgfdmjaaGreatDoor
namespace Ab
set_option linter.unusedVariables false
set_option linter.unusedSimpArgs false
theorem zbX0 (r : Resource) (a b : Amount) : covA r a b = (!(!zb1 r a || !zb1 r b) && (zb8 b || (!zb8 a && (if r.kind = 1 then covM a.mode b.mode else decide (b.units ≤ a.units))))) := by
 have e1 := zau5 r a
 have e2 := zau5 r b
 have e3 := zaf9 a
 have e4 := zaf9 b
 have h : covA r a b = (!(!zf0 r a || !zf0 r b) && (zc9 b || (!zc9 a && (if r.kind = 1 then covM a.mode b.mode else decide (b.units ≤ a.units))))) := by
  unfold covA zg3
  generalize (!zf0 r a || !zf0 r b) = x
  generalize zc9 b = y
  generalize zc9 a = z
  by_cases hk : r.kind = 1 <;> cases x <;> cases y <;> cases z <;> simp [hk]
 rw [h, e1, e2, e3, e4]
theorem zak2 (r : Resource) (a b : Amount) : covA r a b = true ↔ zb1 r a = true ∧ zb1 r b = true ∧ (b = Amount.zero ∨ a ≠ Amount.zero ∧ b ≠ Amount.zero ∧ ((r.kind = 1 ∧ covM a.mode b.mode = true) ∨ (r.kind ≠ 1 ∧ b.units ≤ a.units))) := by
 rw [zbX0]
 have za := zE5 a
 have zb := zE5 b
 simp only [Bool.and_eq_true, Bool.or_eq_true, Bool.not_eq_true', Bool.or_eq_false_iff, Bool.not_eq_false', zb, zL2]
 by_cases e : b = Amount.zero
 ·simp [e, and_assoc]
 ·by_cases hk : r.kind = 1 <;> simp [e, hk, and_assoc]
def low (a b : Amount) : Prop := a.units ≤ b.units ∧ ∀ c, ¬ zO9 b c → ¬ zO9 a c
theorem zdZ8 {r : Resource} {a b : Amount} (h : covA r b a = true) : low a b := by
 rw [zak2] at h
 obtain ⟨h1, h2, h3⟩ := h
 have hb1 := zF0 h1
 rcases h3 with e | ⟨hb0, ha0, h3⟩
 ·subst e
  refine ⟨hb1.1, fun c _ hc => ?_⟩
  exact hc.1 rfl
 ·rcases h3 with ⟨k, h3⟩ | ⟨k, h3⟩
  ·have p1 := zaa9 h1 k
   have p2 := zaa9 h2 k
   refine ⟨by omega, fun c hc hc' => hc ⟨?_, hc'.2.1, ?_⟩⟩
   ·rw [zaX3] at h3; omega
   ·have h4 := hc'.2.2
    rw [← Bool.not_eq_true] at h4 ⊢
    intro h5; apply h4
    rw [zbj9] at h5 ⊢
    rw [zaX3] at h3
    omega
  ·have hk : r.kind = 2 := by
    have := (perm_iff r a).1 h2
    rw [zD0, zH1] at this
    omega
   have p2 := zau6 h2 hk
   exact ⟨h3, fun c _ hc => hc.1 p2.1⟩
theorem zbB2 {r : Resource} {l : List Hold} {p : Proc} {a : Amount} : zZ6 r l p a = true ↔ zv3 r l = true ∧ zb3 p = true ∧ za9 r a = true ∧ (others p l).length + 1 ≤ 8 ∧ (∀ h ∈ others p l, ¬ zO9 h.amount a) ∧ a.units + sumU ((others p l).map (·.amount)) ≤ r.units := by
 constructor
 ·intro h
  obtain ⟨h1, h2, h3, h4⟩ := zam2 h
  have hl : (others p l).length + 1 ≤ 8 := by
   have := zK9 h4
   unfold setL at this
   rw [if_neg (zG5 h3), zaD1] at this
   exact this
  exact ⟨h1, h2, h3, hl, (zbq4 h1 h2 h3 hl).1 h⟩
 ·rintro ⟨h1, h2, h3, h4, h5⟩
  exact (zbq4 h1 h2 h3 h4).2 h5
theorem zbr1 {r : Resource} {l : List Hold} {p : Proc} {a : Amount} (hv : zv3 r l = true) (hp : getH l p ≠ Amount.zero) (hc : covA r (getH l p) a = true) : zv3 r (setL l p a) = true := by
 have hasc := zaI9 hv
 have hv' := (zL1 r l).1 hv
 by_cases hz : a = Amount.zero
 ·unfold setL; rw [if_pos hz]; exact zaY0 hv (zaz8 p l)
 ·have hfit : za9 r a = true := by
   rcases (perm_iff r a).1 ((zak2 _ _ _).1 hc).2.1 with h | h
   ·exact absurd h.2 hz
   ·exact h
  have hlow := zdZ8 hc
  have hm := zas3 hp
  have hlt := zbg0 hasc hp
  have hpm := zbq6 hasc hp
  have hroom : zZ6 r l p a = true := by
   rw [zbB2]
   refine ⟨hv, (hv'.2.2.1.each _ hm).1, hfit, by have := hv'.2.1; omega, fun x hx hcl => ?_, ?_⟩
   ·have hpr := (CompP.perm_iff (hpm.map (·.amount))).1 hv'.2.2.2
    have := (List.pairwise_cons.1 hpr.pair).1 x.amount (List.mem_map.2 ⟨x, hx, rfl⟩)
    exact hlow.2 _ this (by
     obtain ⟨c1, c2, c3⟩ := hcl
     exact ⟨c2, c1, by rw [zaQ2]; exact c3⟩)
   ·have h1 := zaI8 (hpm.map (·.amount))
    have h2 := hv'.2.2.2.sum
    rw [h1] at h2
    simp only [List.map_cons, sumU] at h2
    have := hlow.1
    omega
  exact (zam2 hroom).2.2.2
theorem zbx9 {w : Wait} {l : List Wait} {p : Proc} : w ∈ rmL l p ↔ w ∈ l ∧ w.proc ≠ p := by unfold rmL notP; simp
theorem zbk7 (l : List Wait) (p : Proc) : (rmL l p).Sublist l := List.filter_sublist
theorem zby0 (q : Queue) : (popQ q).gen = q.gen ∧ (popQ q).resource = q.resource := by unfold popQ; split <;> exact ⟨rfl, rfl⟩
theorem zaQ3 (q : Queue) : (advS q).gen = q.gen ∧ (advS q).resource = q.resource :=
 zbx8 (P := fun x => x.gen = q.gen ∧ x.resource = q.resource) (fun x _ h => by rw [(zby0 x).1, (zby0 x).2]; exact h) q ⟨rfl, rfl⟩
end Ab
end Go.Proofs.YtfjeceicgfdmjaaGreatDoor
