/-
  Valid lines, in parts; what an insertion and a removal keep.
-/
import Derived.Test.YtfjeceicgfdmjaaGreatDoorLinA
import Derived.Test.YtfjeceicgfdmjaaGreatDoorQueF
namespace Go.Proofs.YtfjeceicgfdmjaaGreatDoor
namespace Ab
set_option linter.unusedVariables false
set_option linter.unusedSimpArgs false
def optI (o : Option Nat) : Int := match o with
 | some i => (i : Int)
 | none => -1
theorem zbx2 (l : List Wait) (p : Proc) : zx6 l p = optI (zH6 p l 0) := rfl
theorem zbN1 (o : Option Nat) : optI (o.map (· + 1)) = if 0 ≤ optI o then optI o + 1 else -1 := by
 cases o with
 | none => rfl
 | some n =>
  have h : (0 : Int) ≤ optI (some n) := Int.natCast_nonneg n
  rw [if_pos h]; exact Int.natCast_succ n
theorem zav4 {l : List Wait} : (∀ i, i < l.length → zx6 l (l.getD i Wait.zero).proc = i) ↔ (l.map (·.proc)).Nodup := by
 induction l with
 | nil => simp
 | cons w l ih =>
  rw [List.map_cons, List.nodup_cons]
  have shift : ∀ p i, zH6 p l (i + 1) = (zH6 p l i).map (· + 1) := by
   intro p
   clear ih
   induction l with
   | nil => intro i; rfl
   | cons x l ih => intro i; simp only [zH6]; split <;> simp [ih]
  have hcons : ∀ i, zx6 (w :: l) (l.getD i Wait.zero).proc = if w.proc = (l.getD i Wait.zero).proc then 0 else if 0 ≤ zx6 l (l.getD i Wait.zero).proc then zx6 l (l.getD i Wait.zero).proc + 1 else -1 := fun i => by
   simp only [zbx2, zH6, shift]
   by_cases h : w.proc = (l.getD i Wait.zero).proc
   ·simp [h, optI]
   ·simp only [h, if_false]
    exact zbN1 _
  constructor
  ·intro h
   have h1 : ∀ i, i < l.length → w.proc ≠ (l.getD i Wait.zero).proc ∧ zx6 l (l.getD i Wait.zero).proc = i := fun i hi => by
    have := h (i + 1) (by simpa using hi)
    rw [List.getD_cons_succ, hcons] at this
    split at this
    ·omega
    ·rename_i hne
     split at this
     ·exact ⟨hne, by omega⟩
     ·omega
   refine ⟨fun hm => ?_, ih.1 fun i hi => (h1 i hi).2⟩
   obtain ⟨x, hx, he⟩ := List.mem_map.1 hm
   obtain ⟨i, hi, rfl⟩ := List.mem_iff_getElem.1 hx
   have := (h1 i hi).1
   rw [List.getD_eq_getElem?_getD, List.getElem?_eq_getElem hi] at this
   exact this he.symm
  ·rintro ⟨h1, h2⟩ i hi
   have h3 := ih.2 h2
   cases i with
   | zero => simp [zx6, zH6]
   | succ i =>
    have hi' : i < l.length := by simpa using hi
    have hne : w.proc ≠ (l.getD i Wait.zero).proc := fun e => h1 (List.mem_map.2 ⟨l.getD i Wait.zero, by
     rw [List.getD_eq_getElem?_getD, List.getElem?_eq_getElem hi']; exact List.getElem_mem hi', e.symm⟩)
    rw [List.getD_cons_succ, hcons, if_neg hne, h3 i hi', if_pos (by omega)]
    omega
theorem zai3 (l : List Wait) : zB6 l = true ↔ l.length ≤ 8 ∧ (∀ w ∈ l, zc3 w = true) ∧ (l.map (·.proc)).Nodup := by
 unfold zB6
 simp only [Bool.and_eq_true, decide_eq_true_eq, List.all_eq_true, List.mem_range]
 constructor
 ·rintro ⟨h1, h2⟩
  refine ⟨h1, fun w hw => ?_, zav4.1 fun i hi => (h2 i hi).2⟩
  obtain ⟨i, hi, rfl⟩ := List.mem_iff_getElem.1 hw
  have := (h2 i hi).1
  rwa [List.getD_eq_getElem?_getD, List.getElem?_eq_getElem hi] at this
 ·rintro ⟨h1, h2, h3⟩
  refine ⟨h1, fun i hi => ⟨h2 _ ?_, zav4.2 h3 i hi⟩⟩
  rw [List.getD_eq_getElem?_getD, List.getElem?_eq_getElem hi]
  exact List.getElem_mem hi
theorem zbx3 {l : List Wait} (p : Proc) (h : zB6 l = true) : zB6 (rmL l p) = true := by
 rw [zai3] at h ⊢
 refine ⟨Nat.le_trans (zbS7 l p) h.1, fun w hw => h.2.1 w ((List.mem_filter.1 hw).1), ?_⟩
 exact (h.2.2).sublist ((List.filter_sublist).map _)
theorem zaH4 (l : List Wait) (w : Wait) : ∀ k i, zt4 l w k ≤ i → i < k → over w (l.getD i Wait.zero) = true
 | k + 1, i, h1, h2 => by
  unfold zt4 at h1
  split at h1
  ·rename_i ho
   by_cases hi : i = k
   ·subst hi; exact ho
   ·exact zaH4 l w k i h1 (by omega)
  ·omega
theorem zbx4 {l : List Wait} {w e : Wait} (h : e ∈ l.drop (zt4 l w l.length)) : over w e = true := by
 obtain ⟨i, hi, rfl⟩ := List.mem_iff_getElem.1 h
 have := zaH4 l w l.length (zt4 l w l.length + i) (by omega) (by simp at hi; omega)
 rw [List.getElem_drop]
 rwa [List.getD_eq_getElem?_getD, List.getElem?_eq_getElem (by simp at hi; omega)] at this
theorem zaS8 {w e : Wait} (h : zc3 e = true) (ho : over w e = true) : zc3 (bump e) = true ∧ (bump e).passed = e.passed + 1 := by
 have h1 := zaD7 h
 have h2 : e.passed < 3 := by unfold over at ho; simp at ho; exact ho.2
 have h3 : (bump e).passed = e.passed + 1 := by unfold bump; simp only; rw [zf2 (by omega) (by omega)]
 refine ⟨?_, h3⟩
 unfold zc3 at h ⊢
 simp only [Bool.and_eq_true, decide_eq_true_eq] at h ⊢
 rw [h3]
 exact ⟨⟨h.1.1, by omega⟩, by omega⟩
theorem zbf2 (l : List Wait) (w : Wait) (n : Nat) : (zas7 l w n).map (·.proc) = (l.take n).map (·.proc) ++ w.proc :: (l.drop n).map (·.proc) := by
 unfold zas7
 rw [List.map_append, List.map_cons, List.map_map]
 rfl
theorem zbq1 {l : List Wait} {w : Wait} (h : zB6 l = true) (hw : zc3 w = true) (hne : ∀ e ∈ l, e.proc ≠ w.proc) (hl : l.length < 8) : zB6 (zas7 l w (zt4 l w l.length)) = true := by
 rw [zai3] at h ⊢
 have hn := zap3 l w l.length
 have ho := fun e => zbx4 (l := l) (w := w) (e := e)
 generalize zt4 l w l.length = n at hn ho
 refine ⟨by simp [zas7]; omega, fun e he => ?_, ?_⟩
 ·simp only [zas7, List.mem_append, List.mem_cons, List.mem_map] at he
  rcases he with he | rfl | ⟨x, hx, rfl⟩
  ·exact h.2.1 e (List.mem_of_mem_take he)
  ·exact hw
  ·exact (zaS8 (h.2.1 x (List.mem_of_mem_drop hx)) (ho x hx)).1
 ·rw [zbf2]
  have h3 := h.2.2
  rw [← List.take_append_drop n l, List.map_append] at h3
  have hin : w.proc ∉ (l.take n).map (·.proc) ++ (l.drop n).map (·.proc) := by
   rw [← List.map_append, List.take_append_drop]
   intro hm
   obtain ⟨x, hx, he⟩ := List.mem_map.1 hm
   exact hne x hx he
  exact (List.perm_middle.nodup_iff).2 (List.nodup_cons.2 ⟨hin, h3⟩)
end Ab
end Go.Proofs.YtfjeceicgfdmjaaGreatDoor
namespace Go.Proofs.YtfjeceicgfdmjaaGreatDoor
namespace Ab
set_option linter.unusedVariables false
set_option linter.unusedSimpArgs false
theorem zav5 {p : Proc} {l : List Hold} {h : Hold} : h ∈ others p l ↔ h ∈ l ∧ h.proc ≠ p := by unfold others; simp
theorem zbN2 {l m : List Amount} (h : l.Sublist m) (hn : ∀ a ∈ m, 0 ≤ a.units) : sumU l ≤ sumU m := by
 induction h with
 | slnil => exact Int.le_refl _
 | cons a h ih =>
  have := ih fun b hb => hn b (.tail _ hb)
  have := hn a (.head _)
  simp only [sumU]; omega
 | cons_cons a h ih =>
  have := ih fun b hb => hn b (.tail _ hb)
  simp only [sumU]; omega
theorem CompP.sub {r : Resource} {l m : List Amount} (h : CompP r m) (hs : l.Sublist m) : CompP r l where
 perm := fun a ha => h.perm a (hs.subset ha)
 sum := Int.le_trans (zbN2 hs fun a ha => (zH5 (h.perm a ha)).1) h.sum
 pair := h.pair.sublist hs
theorem GoodP.sub {r : Resource} {l m : List Hold} (h : GoodP r m) (hs : l.Sublist m) : GoodP r l := ⟨fun x hx => h.each x (hs.subset hx), h.asc.sublist hs⟩
theorem zZ7 (r : Resource) (l : List Hold) : zw5 r l = true ↔ zb8 r = true ∧ l.length ≤ 8 ∧ GoodP r l ∧ CompP r (l.map (·.amount)) := by
 unfold zw5; simp
theorem zbq2 {r : Resource} {l m : List Hold} (h : zw5 r m = true) (hs : l.Sublist m) : zw5 r l = true := by
 rw [zZ7] at h ⊢
 exact ⟨h.1, Nat.le_trans hs.length_le h.2.1, h.2.2.1.sub hs, h.2.2.2.sub (hs.map _)⟩
theorem zaS9 (p : Proc) (l : List Hold) : (others p l).Sublist l := List.filter_sublist
theorem zbx5 (p : Proc) (a : Amount) (l : List Hold) : (insP p a l).Perm (⟨p, a⟩ :: l) := by
 induction l with
 | nil => exact List.Perm.refl _
 | cons h t ih =>
  simp only [insP]
  split
  ·exact List.Perm.refl _
  ·exact (List.Perm.cons h ih).trans (List.Perm.swap _ _ _)
theorem zba3 {l m : List Amount} (h : l.Perm m) : sumU l = sumU m := by
 induction h with
 | nil => rfl
 | cons a _ ih => simp only [sumU, ih]
 | swap a b l => simp only [sumU]; omega
 | trans _ _ ih1 ih2 => exact ih1.trans ih2
theorem zaT0 {a b : Amount} (h : ¬ zU4 a b) : ¬ zU4 b a := fun ⟨h1, h2, h3⟩ => h ⟨h2, h1, by rw [zbe5]; exact h3⟩
theorem CompP.perm_iff {r : Resource} {l m : List Amount} (h : l.Perm m) : CompP r l ↔ CompP r m := by
 constructor
 ·intro k
  exact ⟨fun a ha => k.perm a (h.mem_iff.2 ha), by rw [← zba3 h]; exact k.sum, (h.pairwise_iff (fun h => zaT0 h)).1 k.pair⟩
 ·intro k
  exact ⟨fun a ha => k.perm a (h.mem_iff.1 ha), by rw [zba3 h]; exact k.sum, (h.pairwise_iff (fun h => zaT0 h)).2 k.pair⟩
theorem zav6 {α S X : Type} (f : S → α → S) (fin : S → X) : ∀ (l : List α) (i : Nat) (s : S), walk (fun _ a s => some (.inl (f s a))) fin l i s = some (fin (l.foldl f s))
 | [], _, _ => rfl
 | a :: l, i, s => by simp only [walk, List.foldl_cons]; exact zav6 f fin l (i + 1) _
theorem zbN3 (l : List Hold) (hl : l.length ≤ 1000000) : zE1 l = some (l.map (·.proc)) := by
 unfold zE1
 have key := zp6 (body := zD5 l) l Hold.zero (fun i (s : List Proc) => ((i : Int), s)) (fun i h s => some (.inl (zaf1 s (some h.proc)))) (fun s => s) (fun i s => s.length ≤ i)
  (fun i s hi hs => by
   refine ⟨?_, fun s' h => ?_⟩
   ·unfold zD5
    have h1 : s.length + 1 ≤ 4294967296 := by omega
    have h3 : 0 ≤ (i : Int) ∧ (i : Int) < (l.length : Int) := by omega
    simp only [h1, h3.1, h3.2, and_self, zk7, decide_true, if_true, Int.toNat_natCast, zd4 i (by omega), Option.map_some, wmap, zaf1]
   ·simp only [Option.some.injEq, Sum.inl.injEq] at h; subst h; simp [zaf1]; omega)
  (fun s hs => by unfold zD5; simp) [] (by simp)
 rw [show ((0, []) : Int × List Proc) = (fun (i : Nat) (s : List Proc) => ((i : Int), s)) 0 [] from rfl, key, zaf2 (fun h : Hold => some h.proc)]
 simp [zY8]
end Ab
end Go.Proofs.YtfjeceicgfdmjaaGreatDoor
namespace Go.Proofs.YtfjeceicgfdmjaaGreatDoor
namespace Ab
set_option linter.unusedVariables false
set_option linter.unusedSimpArgs false
theorem zbt8 {α : Type} {P : α → Prop} {l : List α} {z : α} : (∀ i, i < l.length → P (l.getD i z)) ↔ ∀ w ∈ l, P w := by
 constructor
 ·intro h w hw
  obtain ⟨i, hi, rfl⟩ := List.mem_iff_getElem.1 hw
  have := h i hi
  rwa [List.getD_eq_getElem?_getD, List.getElem?_eq_getElem hi] at this
 ·intro h i hi
  refine h _ ?_
  rw [List.getD_eq_getElem?_getD, List.getElem?_eq_getElem hi]
  exact List.getElem_mem hi
theorem zz4 (h : Hold) (t : List Hold) (p : Proc) : getH (h :: t) p = if h.proc = p then h.amount else getH t p := by
 unfold getH
 rw [List.find?_cons]
 by_cases e : h.proc = p <;> simp [e]
theorem zag1 (p : Proc) (l : List Hold) : getH (others p l) p = Amount.zero := by
 induction l with
 | nil => rfl
 | cons h t ih =>
  rw [zU3]
  by_cases e : h.proc = p
  ·simp only [e, if_true]; exact ih
  ·simp only [e, if_false, zz4]; exact ih
theorem zB7 {p q : Proc} (hq : q ≠ p) (l : List Hold) : getH (others p l) q = getH l q := by
 induction l with
 | nil => rfl
 | cons h t ih =>
  rw [zU3]
  by_cases e : h.proc = p
  ·simp only [e, if_true, zz4]
   rw [if_neg (fun e2 => hq e2.symm)]; exact ih
  ·simp only [e, if_false, zz4]
   split
   ·rfl
   ·exact ih
theorem zan6 (p : Proc) (a : Amount) : ∀ l : List Hold, (∀ h ∈ l, h.proc ≠ p) → getH (insP p a l) p = a
 | [], _ => by simp [insP, zz4]
 | h :: t, hh => by
  simp only [insP]
  split
  ·simp [zz4]
  ·simp only [zz4, hh h (.head _), if_false]
   exact zan6 p a t fun x hx => hh x (.tail _ hx)
theorem zaz6 {p q : Proc} (a : Amount) (hq : q ≠ p) : ∀ l : List Hold, getH (insP p a l) q = getH l q
 | [] => by simp only [insP, zz4]; rw [if_neg (fun e : p = q => hq e.symm)]
 | h :: t => by
  simp only [insP]
  split
  ·simp only [zz4]; rw [if_neg (fun e : p = q => hq e.symm)]
  ·simp only [zz4]
   split
   ·rfl
   ·exact zaz6 a hq t
theorem zan7 (l : List Hold) (p : Proc) (a : Amount) : getH (setL l p a) p = a := by
 unfold setL
 split
 ·rename_i h; rw [zag1, h]
 ·exact zan6 p a _ fun h hh => (zav5.1 hh).2
theorem zQ1 {p q : Proc} (hq : q ≠ p) (l : List Hold) (a : Amount) : getH (setL l p a) q = getH l q := by
 unfold setL
 split
 ·exact zB7 hq l
 ·rw [zaz6 a hq]; exact zB7 hq l
theorem zan8 {l : List Hold} {p : Proc} (h : getH l p ≠ Amount.zero) : (⟨p, getH l p⟩ : Hold) ∈ l := by
 induction l with
 | nil => exact absurd rfl h
 | cons x t ih =>
  rw [zz4] at h ⊢
  by_cases e : x.proc = p
  ·rw [if_pos e]; subst e; exact .head _
  ·rw [if_neg e] at h ⊢; exact .tail _ (ih h)
theorem zbm1 {l : List Hold} {p : Proc} (h : ∀ x ∈ l, x.proc ≠ p) : others p l = l := List.filter_eq_self.2 fun x hx => by simpa using h x hx
def Asc (l : List Hold) : Prop := l.Pairwise fun a b => ltP a.proc b.proc
theorem Asc.others {l : List Hold} (h : Asc l) (p : Proc) : Asc (others p l) := List.Pairwise.sublist (zaS9 p l) h
theorem zba4 {r : Resource} {l : List Hold} (h : zw5 r l = true) : Asc l := ((zZ7 r l).1 h).2.2.1.asc
theorem zbN4 {h : Hold} {t : List Hold} (k : Asc (h :: t)) : ∀ x ∈ t, x.proc ≠ h.proc := fun x hx e => by
 have := (List.pairwise_cons.1 k).1 x hx
 rw [e] at this; exact zZ0 _ this
theorem zbN5 {l : List Hold} (h : Asc l) {p : Proc} (hp : getH l p ≠ Amount.zero) : l.Perm (⟨p, getH l p⟩ :: others p l) := by
 induction l with
 | nil => exact absurd rfl hp
 | cons x t ih =>
  rw [zz4] at hp ⊢
  rw [zU3]
  by_cases e : x.proc = p
  ·rw [if_pos e, if_pos e, zbm1 (by rw [← e]; exact zbN4 h)]
   subst e; exact List.Perm.refl _
  ·rw [if_neg e] at hp
   rw [if_neg e, if_neg e]
   exact ((ih (List.pairwise_cons.1 h).2 hp).cons x).trans (List.Perm.swap _ _ _)
theorem zbx6 {l : List Hold} (h : Asc l) {p : Proc} (hp : getH l p ≠ Amount.zero) : (others p l).length + 1 = l.length := by
 have := (zbN5 h hp).length_eq
 simpa using this.symm
theorem zbm2 {l : List Hold} (ha : Asc l) {x : Hold} (hx : x ∈ l) : getH l x.proc = x.amount := by
 induction l with
 | nil => cases hx
 | cons y t ih =>
  rw [zz4]
  rcases List.mem_cons.1 hx with rfl | hx
  ·rw [if_pos rfl]
  ·rw [if_neg (fun e : y.proc = x.proc => zbN4 ha x hx e.symm)]
   exact ih (List.pairwise_cons.1 ha).2 hx
theorem zba5 {r : Resource} {l : List Hold} (h : zw5 r l = true) (p : Proc) : zb0 r (getH l p) = true := by
 have hv := (zZ7 r l).1 h
 by_cases e : getH l p = Amount.zero
 ·rw [e, perm_iff]; exact .inl ⟨hv.1, rfl⟩
 ·exact zw0 (hv.2.2.1.each _ (zan8 e)).2
theorem zL1 (a : Amount) : zb9 a = true ↔ a = Amount.zero := by unfold zb9; simp
theorem zU5 (a : Amount) : zb9 a = false ↔ a ≠ Amount.zero := by rw [← Bool.not_eq_true, zL1]
structure SoundP (q : Queue) : Prop where
 res : resV q.resource = true
 hv : zw5 q.resource q.holds = true
 cl : q.converts.length ≤ 8
 cn : (q.converts.map (·.proc)).Nodup
 cg : ∀ w ∈ q.converts, getH q.holds w.proc ≠ Amount.zero ∧ za9 q.resource w.amount = true ∧ covA q.resource w.amount (getH q.holds w.proc) = true ∧ w.amount ≠ getH q.holds w.proc ∧ w.priority = 0 ∧ w.passed = 0
 wv : zB6 q.waits = true
 wl : q.holds.length + q.waits.length ≤ 8
 wg : ∀ w ∈ q.waits, za9 q.resource w.amount = true ∧ getH q.holds w.proc = Amount.zero
 gen : 0 ≤ q.gen ∧ q.gen ≤ 1073741824
theorem zav7 (q : Queue) : zac8 q = true ↔ SoundP q := by
 have hc : cvOk q = true ↔ q.converts.length ≤ 8 ∧ (q.converts.map (·.proc)).Nodup ∧ ∀ w ∈ q.converts, getH q.holds w.proc ≠ Amount.zero ∧ za9 q.resource w.amount = true ∧ covA q.resource w.amount (getH q.holds w.proc) = true ∧ w.amount ≠ getH q.holds w.proc ∧ w.priority = 0 ∧ w.passed = 0 := by
  unfold cvOk
  rw [← zav4, ← zbt8 (z := Wait.zero)]
  simp only [Bool.and_eq_true, decide_eq_true_eq, List.all_eq_true, List.mem_range, cvI, Bool.not_eq_true', zU5, decide_eq_false_iff_not]
  constructor
  ·rintro ⟨h1, h2⟩; exact ⟨h1, fun i hi => (h2 i hi).1, fun i hi => (h2 i hi).2⟩
  ·rintro ⟨h1, h2, h3⟩; exact ⟨h1, fun i hi => ⟨h2 i hi, h3 i hi⟩⟩
 have hw : wtOk q = true ↔ zB6 q.waits = true ∧ q.holds.length + q.waits.length ≤ 8 ∧ ∀ w ∈ q.waits, za9 q.resource w.amount = true ∧ getH q.holds w.proc = Amount.zero := by
  unfold wtOk
  rw [← zbt8 (z := Wait.zero)]
  simp only [Bool.and_eq_true, decide_eq_true_eq, List.all_eq_true, List.mem_range, wtI, zL1]
 unfold zac8
 simp only [Bool.and_eq_true, hc, hw, decide_eq_true_eq]
 constructor
 ·rintro ⟨h1, h2, ⟨h3, h4, h5⟩, ⟨h6, h7, h8⟩, h9⟩; exact ⟨h1, h2, h3, h4, h5, h6, h7, h8, h9⟩
 ·rintro ⟨h1, h2, h3, h4, h5, h6, h7, h8, h9⟩; exact ⟨h1, h2, ⟨h3, h4, h5⟩, ⟨h6, h7, h8⟩, h9⟩
theorem SoundP.apart {q : Queue} (h : SoundP q) {c w : Wait} (hc : c ∈ q.converts) (hw : w ∈ q.waits) : c.proc ≠ w.proc := fun e =>
 (h.cg c hc).1 (by rw [e]; exact (h.wg w hw).2)
inductive Pop (q : Queue) : Prop where
 | con (w : Wait) (cs : List Wait) (h : q.converts = w :: cs) (hd : (zp8 q).1 = w) (hr : zaf6 q.resource q.holds w.proc w.amount = true) (hp : popQ q = { q with holds := setL q.holds w.proc w.amount, converts := cs })
 | wait (w : Wait) (ws : List Wait) (hc : q.converts = []) (h : q.waits = w :: ws) (hd : (zp8 q).1 = w) (hr : zaf6 q.resource q.holds w.proc w.amount = true) (hp : popQ q = { q with holds := setL q.holds w.proc w.amount, waits := ws })
theorem zbq3 {q : Queue} (h : canQ q = true) : Pop q := by
 unfold canQ at h
 rw [Bool.and_eq_true] at h
 obtain ⟨h1, h2⟩ := h
 cases hc : q.converts with
 | cons w cs =>
  have hd : (zp8 q).1 = w := by unfold zp8; rw [hc]; rfl
  exact .con w cs hc hd (by rw [← hd]; exact h2) (by unfold popQ; rw [hd]; simp [hc])
 | nil =>
  cases hw : q.waits with
  | cons w ws =>
   have hd : (zp8 q).1 = w := by unfold zp8; rw [hc, hw]; rfl
   exact .wait w ws hc hw hd (by rw [← hd]; exact h2) (by unfold popQ; rw [hd]; simp [hc, hw])
  | nil => unfold zp8 at h1; rw [hc, hw] at h1; exact absurd h1 (by decide)
theorem zai4 {r : Resource} {l : List Hold} {p : Proc} {a : Amount} (h : zaf6 r l p a = true) : zw5 r l = true ∧ zb3 p = true ∧ za9 r a = true ∧ zw5 r (setL l p a) = true := by
 unfold zaf6 zL5 at h
 simp only [Bool.and_eq_true] at h
 exact ⟨h.1.1, h.1.2.1, h.1.2.2, h.2⟩
theorem zbx7 {r : Resource} {l : List Hold} {p : Proc} (a : Amount) (h : zw5 r l = true) (hp : getH l p ≠ Amount.zero) : (setL l p a).length ≤ l.length := by
 have := zbx6 (zba4 h) hp
 unfold setL
 split
 ·omega
 ·rw [zbl5]; omega
theorem zbm3 {w : Wait} {l : List Wait} (h : zB6 (w :: l) = true) : zB6 l = true := by
 rw [zai3] at h ⊢
 obtain ⟨h1, h2, h3⟩ := h
 rw [List.map_cons, List.nodup_cons] at h3
 exact ⟨by simp at h1; omega, fun x hx => h2 x (.tail _ hx), h3.2⟩
theorem SoundP.pop {q : Queue} (h : SoundP q) (hc : canQ q = true) : SoundP (popQ q) := by
 cases zbq3 hc with
 | con w cs he hd hr hp =>
  rw [hp]
  obtain ⟨_, _, _, hv⟩ := zai4 hr
  have hn : w.proc ∉ cs.map (·.proc) ∧ (cs.map (·.proc)).Nodup := by have := h.cn; rw [he, List.map_cons, List.nodup_cons] at this; exact this
  have hw := h.cg w (by rw [he]; exact .head _)
  have hl := zbx7 w.amount h.hv hw.1
  have h8 := h.cl
  rw [he, List.length_cons] at h8
  refine ⟨h.res, hv, by simp only; omega, hn.2, fun c hcc => ?_, h.wv, ?_, fun x hx => ?_, h.gen⟩
  ·have hne : c.proc ≠ w.proc := fun e => hn.1 (List.mem_map.2 ⟨c, hcc, e⟩)
   simp only [zQ1 hne]
   exact h.cg c (by rw [he]; exact .tail _ hcc)
  ·have := h.wl; simp only; omega
  ·have hne : x.proc ≠ w.proc := fun e => h.apart (c := w) (by rw [he]; exact .head _) hx e.symm
   simp only [zQ1 hne]
   exact h.wg x hx
 | wait w ws hcn he hd hr hp =>
  rw [hp]
  obtain ⟨_, _, _, hv⟩ := zai4 hr
  have hl := zbM9 q.holds w.proc w.amount
  have h8 := h.wl
  have hwv := h.wv
  rw [he] at h8 hwv
  have hn : w.proc ∉ ws.map (·.proc) := by have := ((zai3 _).1 hwv).2.2; rw [List.map_cons, List.nodup_cons] at this; exact this.1
  rw [List.length_cons] at h8
  refine ⟨h.res, hv, h.cl, h.cn, fun c hcc => ?_, zbm3 hwv, by simp only; omega, fun x hx => ?_, h.gen⟩
  ·rw [hcn] at hcc; cases hcc
  ·have hne : x.proc ≠ w.proc := fun e => hn (List.mem_map.2 ⟨x, hx, e⟩)
   simp only [zQ1 hne]
   exact h.wg x (by rw [he]; exact .tail _ hx)
theorem zan9 : ∀ (n : Nat) (q : Queue) (l : List Hold), advN n (q, l) = ((advN n (q, [])).1, l ++ (advN n (q, [])).2)
 | 0, q, l => by simp [advN]
 | n + 1, q, l => by
  simp only [advN]
  split
  ·unfold zaf9
   simp only [List.nil_append]
   rw [zan9 n (popQ q) (l ++ _), zan9 n (popQ q) [_], List.append_assoc]
  ·simp
def advS (q : Queue) : Queue := (advQ q).1
def advG (q : Queue) : List Hold := (advQ q).2
theorem zap5 (q : Queue) : advQ q = if canQ q = true then ((advQ (popQ q)).1, ⟨(zp8 q).1.proc, (zp8 q).1.amount⟩ :: (advQ (popQ q)).2) else (q, []) := by
 unfold advQ
 rw [zag0 (q, [])]
 show (if canQ q = true then advN (zv2 (popQ q)) (popQ q, [] ++ [_]) else (q, [])) = _
 split
 ·rw [zan9]; rfl
 ·rfl
theorem zaT1 {q : Queue} (h : canQ q = true) : advS q = advS (popQ q) := by unfold advS; rw [zap5 q, if_pos h]
theorem zbN6 {q : Queue} (h : canQ q = true) : advG q = ⟨(zp8 q).1.proc, (zp8 q).1.amount⟩ :: advG (popQ q) := by unfold advG; rw [zap5 q, if_pos h]
theorem zaT2 {q : Queue} (h : canQ q = false) : advS q = q := by unfold advS; rw [zap5 q, h]; rfl
theorem zbN7 {q : Queue} (h : canQ q = false) : advG q = [] := by unfold advG; rw [zap5 q, h]; rfl
theorem zaK9 {P : Queue → Prop} (h : ∀ q, canQ q = true → P q → P (popQ q)) : ∀ q, P q → P (advS q) := by
 have key : ∀ n q, zv2 q = n → P q → P (advS q) := by
  intro n
  induction n using Nat.strongRecOn with
  | _ n ih =>
   intro q hn hq
   cases hc : canQ q with
   | false => rw [zaT2 hc]; exact hq
   | true =>
    rw [zaT1 hc]
    have := (zK1 hc).2.1
    exact ih (zv2 (popQ q)) (by omega) _ rfl (h q hc hq)
 exact fun q hq => key _ q rfl hq
theorem zbt9 {P : Queue → Prop} (h0 : ∀ q, canQ q = false → P q) (h : ∀ q, canQ q = true → P (popQ q) → P q) : ∀ q, P q := by
 have key : ∀ n q, zv2 q = n → P q := by
  intro n
  induction n using Nat.strongRecOn with
  | _ n ih =>
   intro q hn
   cases hc : canQ q with
   | false => exact h0 q hc
   | true =>
    have := (zK1 hc).2.1
    exact h q hc (ih (zv2 (popQ q)) (by omega) _ rfl)
 exact fun q => key _ q rfl
theorem zbN8 : ∀ q, canQ (advS q) = false := by
 refine zbt9 (fun q h => by rw [zaT2 h]; exact h) fun q h ih => by rw [zaT1 h]; exact ih
theorem SoundP.adv {q : Queue} (h : SoundP q) : SoundP (advS q) := zaK9 (P := SoundP) (fun _ hc h => h.pop hc) q h
theorem zx7 (q : Queue) : zd5 q = true ↔ SoundP q ∧ canQ q = false := by
 unfold zd5
 rw [Bool.and_eq_true, zav7]
 show SoundP q ∧ (!canQ q) = true ↔ _
 rw [Bool.not_eq_true']
theorem zbN9 : ∀ q, (advG q).length + zv2 (advS q) = zv2 q := by
 refine zbt9 (fun q h => by rw [zaT2 h, zbN7 h]; simp) fun q h ih => by
  rw [zaT1 h, zbN6 h, List.length_cons]
  have := (zK1 h).2.1
  omega
end Ab
end Go.Proofs.YtfjeceicgfdmjaaGreatDoor
namespace Go.Proofs.YtfjeceicgfdmjaaGreatDoor
namespace Ab
set_option linter.unusedVariables false
set_option linter.unusedSimpArgs false
theorem zbS9 (r : Resource) (a b : Amount) : covA r a b = (!(!zb0 r a || !zb0 r b) && (zb9 b || (!zb9 a && (if r.kind = 1 then covM a.mode b.mode else decide (b.units ≤ a.units))))) := by
 have e1 := zaK8 r a
 have e2 := zaK8 r b
 have e3 := zap4 a
 have e4 := zap4 b
 have h : covA r a b = (!(!ze7 r a || !ze7 r b) && (zc5 b || (!zc5 a && (if r.kind = 1 then covM a.mode b.mode else decide (b.units ≤ a.units))))) := by
  unfold covA zi3
  generalize (!ze7 r a || !ze7 r b) = x
  generalize zc5 b = y
  generalize zc5 a = z
  by_cases hk : r.kind = 1 <;> cases x <;> cases y <;> cases z <;> simp [hk]
 rw [h, e1, e2, e3, e4]
theorem zZ8 (r : Resource) (a b : Amount) : covA r a b = true ↔ zb0 r a = true ∧ zb0 r b = true ∧ (b = Amount.zero ∨ a ≠ Amount.zero ∧ b ≠ Amount.zero ∧ ((r.kind = 1 ∧ covM a.mode b.mode = true) ∨ (r.kind ≠ 1 ∧ b.units ≤ a.units))) := by
 rw [zbS9]
 have za := zL1 a
 have zb := zL1 b
 simp only [Bool.and_eq_true, Bool.or_eq_true, Bool.not_eq_true', Bool.or_eq_false_iff, Bool.not_eq_false', zb, zU5]
 by_cases e : b = Amount.zero
 ·simp [e, and_assoc]
 ·by_cases hk : r.kind = 1 <;> simp [e, hk, and_assoc]
theorem zba6 {r : Resource} {a : Amount} (h : zb0 r a = true) : covA r a a = true := by
 rw [zZ8]
 refine ⟨h, h, ?_⟩
 by_cases e : a = Amount.zero
 ·exact .inl e
 ·refine .inr ⟨e, e, ?_⟩
  by_cases hk : r.kind = 1
  ·left
   refine ⟨hk, ?_⟩
   have := zaD2 h hk
   have hm : a.mode ≠ 0 := fun hm => e (by obtain ⟨m, u⟩ := a; simp only at *; unfold Amount.zero; congr; omega)
   rw [zaS1]; omega
  ·exact .inr ⟨hk, Int.le_refl _⟩
theorem zbx8 {r : Resource} {a : Amount} (h : zb0 r a = true) (hs : zb8 r = true) : covA r a Amount.zero = true := by
 rw [zZ8]; exact ⟨h, (perm_iff r _).2 (.inl ⟨hs, rfl⟩), .inl rfl⟩
theorem zbq4 {r : Resource} {a b c : Amount} (h1 : covA r a b = true) (h2 : covA r b c = true) : covA r a c = true := by
 rw [zZ8] at h1 h2 ⊢
 refine ⟨h1.1, h2.2.1, ?_⟩
 rcases h2.2.2 with e | ⟨hb0, hc0, h3⟩
 ·exact .inl e
 ·rcases h1.2.2 with e | ⟨ha0, _, h4⟩
  ·exact absurd e hb0
  ·refine .inr ⟨ha0, hc0, ?_⟩
   rcases h3 with ⟨k, h3⟩ | ⟨k, h3⟩
   ·rcases h4 with ⟨_, h4⟩ | ⟨k', _⟩
    ·left; refine ⟨k, ?_⟩
     rw [zaS1] at h3 h4 ⊢; omega
    ·exact absurd k k'
   ·rcases h4 with ⟨k', _⟩ | ⟨_, h4⟩
    ·exact absurd k' k
    ·exact .inr ⟨k, by omega⟩
def del (q : Queue) (p : Proc) : Queue := { q with holds := others p q.holds, converts := rmL q.converts p, waits := rmL q.waits p }
theorem zbf3 {w : Wait} {l : List Wait} {p : Proc} : w ∈ rmL l p ↔ w ∈ l ∧ w.proc ≠ p := by unfold rmL notP; simp
theorem zbf4 (l : List Wait) (p : Proc) : (rmL l p).Sublist l := List.filter_sublist
theorem SoundP.del {q : Queue} (h : SoundP q) (p : Proc) : SoundP (del q p) := by
 have h1 := (zbf4 q.converts p).length_le
 have h2 := (zbf4 q.waits p).length_le
 have h3 := zai0 p q.holds
 have h4 := h.cl; have h5 := h.wl
 refine ⟨h.res, zbq2 h.hv (zaS9 p _), by simp only [Ab.del]; omega, h.cn.sublist ((zbf4 _ _).map _), fun w hw => ?_, zbx3 p h.wv, by simp only [Ab.del]; omega, fun w hw => ?_, h.gen⟩
 ·obtain ⟨a1, a2⟩ := zbf3.1 hw
  simp only [Ab.del, zB7 a2]
  exact h.cg w a1
 ·obtain ⟨a1, a2⟩ := zbf3.1 hw
  simp only [Ab.del, zB7 a2]
  exact h.wg w a1
theorem zbf5 (q : Queue) : (popQ q).gen = q.gen ∧ (popQ q).resource = q.resource := by unfold popQ; split <;> exact ⟨rfl, rfl⟩
theorem zaL0 (q : Queue) : (advS q).gen = q.gen ∧ (advS q).resource = q.resource :=
 zaK9 (P := fun x => x.gen = q.gen ∧ x.resource = q.resource) (fun x _ h => by rw [(zbf5 x).1, (zbf5 x).2]; exact h) q ⟨rfl, rfl⟩
end Ab
end Go.Proofs.YtfjeceicgfdmjaaGreatDoor
