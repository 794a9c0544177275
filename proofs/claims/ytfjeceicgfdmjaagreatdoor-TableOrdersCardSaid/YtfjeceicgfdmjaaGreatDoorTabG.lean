/-
  For whom a process waits; that it is let in when all of these are gone.
-/
import Derived.Test.YtfjeceicgfdmjaaGreatDoorProcs
import Derived.Test.YtfjeceicgfdmjaaGreatDoorTabE
namespace Go.Proofs.YtfjeceicgfdmjaaGreatDoor
namespace Ab
set_option linter.unusedVariables false
set_option linter.unusedSimpArgs false
theorem zas2 : ∀ (ps : List Proc) (q : Queue), dels q ps = { q with holds := q.holds.filter fun x => decide (x.proc ∉ ps), converts := q.converts.filter fun x => decide (x.proc ∉ ps), waits := q.waits.filter fun x => decide (x.proc ∉ ps) }
 | [], q => by simp [dels, List.filter_eq_self.2]
 | p :: ps, q => by
  show dels (del q p) ps = _
  rw [zas2 ps]
  have e : ∀ {α : Type} (f : α → Proc) (l : List α), (l.filter fun x => !decide (f x = p)).filter (fun x => decide (f x ∉ ps)) = l.filter fun x => decide (f x ∉ p :: ps) := by
   intro α f l
   rw [List.filter_filter]
   congr 1
   funext x
   by_cases e1 : f x = p <;> by_cases e2 : f x ∈ ps <;> simp [e1, e2]
  have e1 := e (fun x : Hold => x.proc) q.holds
  have e2 := e (fun x : Wait => x.proc) q.converts
  have e3 := e (fun x : Wait => x.proc) q.waits
  unfold del others rmL notP
  simp only [e1, e2, e3]
theorem zch5 (ps : List Proc) (q : Queue) : ordQ (dels q ps) = (ordQ q).filter fun w => decide (w.proc ∉ ps) := by
 rw [zas2]; unfold ordQ; rw [List.filter_append]
theorem zaS2 {r : Resource} {l : List Hold} {p : Proc} {a : Amount} (hv : zs3 r l = true) (hp : zb3 p = true) (ha : za9 r a = true) (hl : (others p l).length + 1 ≤ 8) (hf : ∀ h ∈ l, ¬ foe r p a h = true) : zH0 r l p a = true := by
 have hv' := (zw9 r l).1 hv
 rw [zbd9 hv hp ha hl]
 by_cases hk : r.kind = 1
 ·refine ⟨fun h hh hc => ?_, ?_⟩
  ·obtain ⟨h1, h2⟩ := zJ2.1 hh
   exact hf h h1 ((zcf8 hk hv'.1 (hv'.2.2.1.each h h1).2 ha).2 ⟨h2, hc⟩)
  ·have p2 := zG9 (zl1 ha) hk
   have : ∀ m : List Hold, (∀ h ∈ m, h.amount.units = 0) → sumU (m.map (·.amount)) = 0 := by
    intro m
    induction m with
    | nil => intro _; rfl
    | cons h t ih => intro hh; simp only [List.map_cons, sumU, ih fun y hy => hh y (.tail _ hy), hh h (.head _)]; rfl
   rw [this _ fun h hh => (zG9 (zl1 (hv'.2.2.1.each h (zJ2.1 hh).1).2) hk).1]
   omega
 ·have hnil : others p l = [] := by
   rw [List.eq_nil_iff_forall_not_mem]
   intro h hh
   obtain ⟨h1, h2⟩ := zJ2.1 hh
   exact hf h h1 ((zcf9 hk).2 h2)
  rw [hnil]
  have := (zE7 r a).1 ha
  exact ⟨by simp, by simp [sumU]; omega⟩
def zbg7 : List Wait → Proc → List Proc
 | [], _ => []
 | w :: l, p => if w.proc = p then [] else w.proc :: zbg7 l p
theorem zaS3 {p : Proc} : ∀ {l : List Wait}, (∃ w ∈ l, w.proc = p) → ∃ pre w post, l = pre ++ w :: post ∧ w.proc = p ∧ zbg7 l p = pre.map (·.proc) ∧ ∀ x ∈ pre, x.proc ≠ p
 | [], h => by obtain ⟨w, hw, _⟩ := h; cases hw
 | x :: l, h => by
  by_cases e : x.proc = p
  ·exact ⟨[], x, l, rfl, e, by simp [zbg7, e], by simp⟩
  ·obtain ⟨pre, w, post, h1, h2, h3, h4⟩ := zaS3 (l := l) (p := p) (by
    obtain ⟨w, hw, hp⟩ := h
    rcases List.mem_cons.1 hw with rfl | hw
    ·exact absurd hp e
    ·exact ⟨w, hw, hp⟩)
   refine ⟨x :: pre, w, post, by rw [h1]; rfl, h2, by simp [zbg7, e, h3], fun y hy => ?_⟩
   rcases List.mem_cons.1 hy with rfl | hy
   ·exact e
   ·exact h4 y hy
theorem zbF4 {q : Queue} (hs : SoundP q) {w : Wait} (hw : w ∈ ordQ q) : zb3 w.proc = true ∧ za9 q.resource w.amount = true ∧ (others w.proc q.holds).length + 1 ≤ 8 := by
 have hvh := (zw9 _ _).1 hs.hv
 rcases List.mem_append.1 hw with h | h
 ·obtain ⟨h1, h2, _⟩ := hs.cg w h
  refine ⟨(hvh.2.2.1.each _ (zai1 h1)).1, h2, ?_⟩
  have := zaO6 (zap3 hs.hv) h1
  omega
 ·have h1 := hs.wg w h
  have h2 := ((zZ2 _).1 hs.wv).2.1 w h
  refine ⟨?_, h1.1, ?_⟩
  ·rw [← zad8] at h2
   unfold zi5 at h2
   rw [zaw7] at h2
   simp only [Bool.and_eq_true] at h2
   exact h2.1.1.1.1.1
  ·have := hs.wl
   have h3 := zah1 w.proc q.holds
   have : 0 < q.waits.length := List.length_pos_of_mem h
   omega
structure Blocks (q : Queue) (p : Proc) (l : List Proc) : Prop where
 some : l ≠ []
 has : ∀ x ∈ l, hasQ q x = true ∧ x ≠ p
 got : getH (remS q l).holds p = (zB4 q p).1
theorem zep9 {q : Queue} (h : zb9 q = true) {p : Proc} (hw : (zB4 q p).2 = true) (l : List Proc) (hl : ∀ x, x ∈ l ↔ x ∈ zbg7 (ordQ q) p ∨ x ∈ zap1 q.resource q.holds p (zB4 q p).1) : Blocks q p l := by
 obtain ⟨hs, hc⟩ := (zh4 q).1 h
 have hex := (zbe4 q p).1 hw
 obtain ⟨pre, w, post, e1, e2, e3, e4⟩ := zaS3 (l := ordQ q) hex
 have hwm : w ∈ ordQ q := by rw [e1]; exact List.mem_append_right _ (.head _)
 have hwa : zB4 q p = (w.amount, true) := by rw [← e2]; exact zby8 hs.nodup hwm
 obtain ⟨o1, o2, o3⟩ := zbF4 hs hwm
 rw [e2] at o1 o3
 have hwa1 : (zB4 q p).1 = w.amount := by rw [hwa]
 rw [hwa1] at hl
 have hpr : zE9 q.resource q.holds p w.amount = true := by unfold zE9; rw [hs.hv, o1, o2]; rfl
 have hag : ∀ x ∈ zap1 q.resource q.holds p w.amount, x ∈ q.holds.map (·.proc) ∧ x ≠ p := fun x hx => by
  unfold zap1 at hx
  split at hx
  ·cases hx
  ·obtain ⟨y, hy, rfl⟩ := List.mem_map.1 hx
   obtain ⟨hy1, hy2⟩ := List.mem_filter.1 hy
   refine ⟨List.mem_map.2 ⟨y, hy1, rfl⟩, fun e => ?_⟩
   unfold foe at hy2
   rw [decide_eq_true e] at hy2
   simp at hy2
 have hpl : p ∉ l := fun hp => by
  rcases (hl p).1 hp with hp | hp
  ·rw [e3] at hp
   obtain ⟨x, hx, e⟩ := List.mem_map.1 hp
   exact e4 x hx e
  ·exact (hag p hp).2 rfl
 refine ⟨fun e => ?_, fun x hx => ?_, ?_⟩
 ·
  subst e
  have hpre : pre = [] := by
   cases pre with
   | nil => rfl
   | cons x pre => exact absurd ((hl x.proc).2 (.inl (by rw [e3]; exact .head _))) (by simp)
  rw [hpre, List.nil_append] at e1
  have hcq := zaW0 e1
  rw [e2, hc] at hcq
  have : zH0 q.resource q.holds p w.amount = true := by
   refine zaS2 hs.hv o1 o2 o3 fun y hy hf => ?_
   have : y.proc ∈ zap1 q.resource q.holds p w.amount := by
    unfold zap1
    rw [hpr, ← hcq]
    exact List.mem_map.2 ⟨y, List.mem_filter.2 ⟨hy, hf⟩, rfl⟩
   exact absurd ((hl y.proc).2 (.inr this)) (by simp)
  rw [this] at hcq; cases hcq
 ·refine ⟨?_, fun e => hpl (by rw [← e]; exact hx)⟩
  rw [zbr8 hs]
  rcases (hl x).1 hx with hx | hx
  ·left
   rw [e3] at hx
   rw [e1, List.map_append]
   exact List.mem_append_left _ hx
  ·exact .inr (hag x hx).1
 ·rw [hwa1]
  have e5 : (remS q l).holds = (advS (dels (noG q) l)).holds := by rw [← zaW2 l h]; rfl
  rw [e5]
  have hsd : SoundP (dels (noG q) l) := hs.noG.dels l
  have hod : ordQ (dels (noG q) l) = w :: post.filter fun x => decide (x.proc ∉ l) := by
   rw [zch5]
   show (ordQ q).filter _ = _
   rw [e1, List.filter_append, List.filter_eq_nil_iff.2 ?_, List.nil_append, List.filter_cons, if_pos (by rw [e2]; simpa using hpl)]
   intro x hx
   have : x.proc ∈ l := (hl x.proc).2 (.inl (by rw [e3]; exact List.mem_map.2 ⟨x, hx, rfl⟩))
   simpa using this
  have hhold : (dels (noG q) l).holds = q.holds.filter fun x => decide (x.proc ∉ l) := by rw [zas2]; rfl
  have hres : (dels (noG q) l).resource = q.resource := by rw [zas2]; rfl
  have hsub : (q.holds.filter fun x => decide (x.proc ∉ l)).Sublist q.holds := List.filter_sublist
  have hroom : zH0 q.resource (q.holds.filter fun x => decide (x.proc ∉ l)) p w.amount = true := by
   cases hr : zH0 q.resource q.holds p w.amount with
   | true => exact zbe2 hr hsub
   | false =>
    refine zaS2 (zah9 hs.hv hsub) o1 o2 (by have := (hsub.filter (fun h => !decide (h.proc = p))).length_le; unfold others at o3 ⊢; omega) fun y hy hf => ?_
    obtain ⟨hy1, hy2⟩ := List.mem_filter.1 hy
    simp only [decide_eq_true_eq] at hy2
    refine hy2 ((hl y.proc).2 (.inr ?_))
    unfold zap1
    rw [hpr, hr]
    exact List.mem_map.2 ⟨y, List.mem_filter.2 ⟨hy1, hf⟩, rfl⟩
  have hcan : canQ (dels (noG q) l) = true := by rw [zaW0 hod, hhold, hres, e2]; exact hroom
  have hhd : (zl0 (dels (noG q) l)).1 = w := by
   have : (dels (noG q) l).converts ++ (dels (noG q) l).waits = w :: _ := hod
   unfold zl0; rw [this]
  have := (zbM6 hsd hcan).1
  rw [hhd, e2] at this
  exact this
end Ab
end Go.Proofs.YtfjeceicgfdmjaaGreatDoor
namespace Go.Proofs.YtfjeceicgfdmjaaGreatDoor
namespace Ab
set_option linter.unusedVariables false
set_option linter.unusedSimpArgs false
inductive StepQ (q : Queue) : Queue → Prop where
 | same : StepQ q q
 | claim (p : Proc) (a : Amount) (pr : Int) (h : (zC9 q p a pr).2.2 = 0) : StepQ q (zC9 q p a pr).1
 | cancel (p : Proc) (h : (zF0 q p).2.2 = 0) : StepQ q (zF0 q p).1
 | lower (p : Proc) (a : Amount) (h : (zD0 q p a).2.2 = 0) : StepQ q (zD0 q p a).1
 | remove (p : Proc) (h : (zx8 q p).2.2 = 0) : StepQ q (zx8 q p).1
theorem zas3 {q x : Queue} (h : zb9 q = true) (hx : StepQ q x) : zb9 x = true ∧ x.resource = q.resource := by
 have hr : ∀ y : Queue, (zn9 y).1.resource = y.resource := fun y => (zaJ3 y).2
 cases hx with
 | same => exact ⟨h, rfl⟩
 | claim p a pr h0 =>
  obtain ⟨_, _, _, _, _, hh⟩ := zaO7 h0
  rcases hh with ⟨_, e⟩ | ⟨_, _, e, hs⟩ | ⟨_, _, _, e, hs⟩
  ·rw [e]; exact ⟨h, rfl⟩
  ·rw [e, hr]; exact ⟨zD7 hs, rfl⟩
  ·rw [e, hr]; exact ⟨zD7 hs, rfl⟩
 | cancel p h0 => obtain ⟨_, _, _, e, hs⟩ := zar8 h0; rw [e, hr]; exact ⟨zD7 hs, rfl⟩
 | lower p a h0 =>
  obtain ⟨_, _, _, _, _, hh⟩ := zaA0 h0
  rcases hh with ⟨_, e⟩ | ⟨_, e, hs⟩
  ·rw [e]; exact ⟨h, rfl⟩
  ·rw [e, hr]; exact ⟨zD7 hs, rfl⟩
 | remove p h0 => obtain ⟨_, _, _, e, hs⟩ := zaF2 h0; rw [e, hr]; exact ⟨zD7 hs, rfl⟩
end Ab
end Go.Proofs.YtfjeceicgfdmjaaGreatDoor
namespace Go.Proofs.YtfjeceicgfdmjaaGreatDoor
namespace Ab
set_option linter.unusedVariables false
set_option linter.unusedSimpArgs false
theorem zak1 (q : Queue) (x : Proc) : hasQ (zn9 q).1 x = hasQ q x := by rw [zad9, zbI3, zbI2]
theorem zbN2 {q : Queue} {p : Proc} {a : Amount} {pr : Int} (h : (zC9 q p a pr).2.2 = 0) {x : Proc} (hx : hasQ (zC9 q p a pr).1 x = true) : hasQ q x = true ∨ x = p := by
 obtain ⟨_, _, _, _, _, hh⟩ := zaO7 h
 rcases hh with ⟨_, e⟩ | ⟨_, _, e, _⟩ | ⟨_, _, _, e, _⟩
 ·rw [e] at hx; exact .inl hx
 ·rw [e, zak1, zo0] at hx
  rcases hx with ⟨w, hw, ew⟩ | hx
  ·unfold ordQ claimC at hw
   simp only [List.mem_append, List.mem_singleton] at hw
   rcases hw with (hw | hw) | hw
   ·exact .inl ((zo0 q x).2 (.inl ⟨w, List.mem_append_left _ hw, ew⟩))
   ·rw [hw] at ew; exact .inr ew.symm
   ·exact .inl ((zo0 q x).2 (.inl ⟨w, List.mem_append_right _ hw, ew⟩))
  ·exact .inl ((zo0 q x).2 (.inr hx))
 ·rw [e, zak1, zo0] at hx
  rcases hx with ⟨w, hw, ew⟩ | hx
  ·unfold ordQ claimW zat5 at hw
   simp only [List.mem_append, List.mem_cons, List.mem_map] at hw
   rcases hw with hw | hw | hw | ⟨y, hy, rfl⟩
   ·exact .inl ((zo0 q x).2 (.inl ⟨w, List.mem_append_left _ hw, ew⟩))
   ·exact .inl ((zo0 q x).2 (.inl ⟨w, List.mem_append_right _ (List.mem_of_mem_take hw), ew⟩))
   ·rw [hw] at ew; exact .inr ew.symm
   ·exact .inl ((zo0 q x).2 (.inl ⟨y, List.mem_append_right _ (List.mem_of_mem_drop hy), ew⟩))
  ·exact .inl ((zo0 q x).2 (.inr hx))
theorem zbF5 {q : Queue} {p : Proc} (h : (zF0 q p).2.2 = 0) {x : Proc} (hx : hasQ (zF0 q p).1 x = true) : hasQ q x = true := by
 obtain ⟨_, _, _, e, _⟩ := zar8 h
 rw [e, zak1, zo0] at hx
 rcases hx with ⟨w, hw, ew⟩ | hx
 ·unfold ordQ zak0 at hw
  simp only [List.mem_append, zaz8] at hw
  rcases hw with hw | hw
  ·exact (zo0 q x).2 (.inl ⟨w, List.mem_append_left _ hw.1, ew⟩)
  ·exact (zo0 q x).2 (.inl ⟨w, List.mem_append_right _ hw.1, ew⟩)
 ·exact (zo0 q x).2 (.inr hx)
theorem zbN3 {q : Queue} {p : Proc} {a : Amount} (h : (zD0 q p a).2.2 = 0) {x : Proc} (hx : hasQ (zD0 q p a).1 x = true) : hasQ q x = true := by
 obtain ⟨_, _, hp, _, _, hh⟩ := zaA0 h
 rcases hh with ⟨_, e⟩ | ⟨_, e, _⟩
 ·rw [e] at hx; exact hx
 ·rw [e, zak1, zo0] at hx
  rcases hx with hx | hx
  ·exact (zo0 q x).2 (.inl hx)
  ·refine (zo0 q x).2 (.inr ?_)
   by_cases e : x = p
   ·rw [e]; exact hp
   ·unfold zar7 at hx
    rwa [zA8 e] at hx
theorem ValidT.set {t : List Queue} (h : ValidT t) {i : Nat} (hi : i < t.length) {q : Queue} (p : Proc) (h1 : zb9 q = true) (h2 : q.resource = (t.getD i Queue.zero).resource) (h3 : ∀ x, hasQ q x = true → x ∈ ze7 t ∨ x = p)
  (h4 : zat8 t p = false) : ValidT (t.set i q) := by
 have he : ∀ y ∈ t.set i q, zb9 y = true := fun y hy => by
  rcases List.mem_or_eq_of_mem_set hy with hy | rfl
  ·exact h.each y hy
  ·exact h1
 refine ⟨by rw [List.length_set]; exact h.len, he, ?_, ?_⟩
 ·have ha := h.asc
  unfold AscN at *
  rw [List.pairwise_iff_getElem] at ha ⊢
  have hr : ∀ k (hk : k < (t.set i q).length), ((t.set i q)[k]).resource = (t[k]'(by rw [List.length_set] at hk; exact hk)).resource := fun k hk => by
   rw [List.getElem_set]
   split
   ·next e => subst e; rw [h2, List.getD_eq_getElem?_getD, List.getElem?_eq_getElem hi]; rfl
   ·rfl
  intro a b hla hlb hab
  rw [hr a hla, hr b hlb]
  exact ha a b _ _ hab
 ·have hsub : ∀ x ∈ ze7 (t.set i q), x ∈ ze7 t ∨ x = p := fun x hx => by
   obtain ⟨y, hy, hp⟩ := (zO0 he).1 hx
   rcases List.mem_or_eq_of_mem_set hy with hy | rfl
   ·exact .inl ((zO0 h.each).2 ⟨y, hy, hp⟩)
   ·exact h3 x hp
  have hpl := h.procs
  by_cases hp : p ∈ ze7 t
  ·refine Nat.le_trans (List.Nodup.length_le_of_subset (zas1 _) (l₂ := ze7 t) fun x hx => ?_) hpl
   rcases hsub x hx with hx | rfl
   ·exact hx
   ·exact hp
  ·have h5 : (ze7 t).length < 8 := by
    unfold zat8 at h4
    simp only [hp, decide_false, Bool.not_false, Bool.and_true, decide_eq_false_iff_not] at h4
    omega
   have := List.Nodup.length_le_of_subset (zas1 (t.set i q)) (l₂ := p :: ze7 t) fun x hx => by
    rcases hsub x hx with hx | rfl
    ·exact .tail _ hx
    ·exact .head _
   rw [List.length_cons] at this
   omega
theorem zX1 {t : List Queue} (h : ValidT t) {i : Nat} (hi : i < t.length) {x : Proc} (hx : hasQ (t.getD i Queue.zero) x = true) : x ∈ ze7 t := (zO0 h.each).2 ⟨_, zF2 hi, hx⟩
theorem zbI5 {t : List Queue} {p : Proc} (h : p ∈ ze7 t) : zat8 t p = false := by unfold zat8; simp [h]
theorem zch6 {t : List Queue} {nm : ByteArray} {f : Queue → ResT} (h : (atT t nm f).2.2 = 0) : ValidT t ∧ ∃ i : Nat, zm6 t nm = i ∧ i < t.length ∧ (t.getD i Queue.zero).resource.name = nm ∧ atT t nm f = f (t.getD i Queue.zero) := by
 unfold atT at h ⊢
 cases hv : zK7 t with
 | false => rw [hv, if_pos rfl] at h; exact absurd h (by decide)
 | true =>
  rw [hv, if_neg (by decide)] at h
  rw [if_neg (by decide)]
  by_cases hf : zm6 t nm < 0
  ·rw [if_pos hf] at h; exact absurd h (by decide)
  ·rw [if_neg hf]
   rcases zbA0 (t := t) (nm := nm) with h1 | ⟨i, h1, h2, h3⟩
   ·omega
   ·exact ⟨(zD1 t).1 hv, i, h1, h2, h3, by rw [h1]; rfl⟩
theorem zbF6 {t : List Queue} {nm : ByteArray} {x : Queue × List Hold × Int} {ev : List Event} (h : (putT t nm x ev).2.2 = 0) : x.2.2 = 0 ∧ putT t nm x ev = (zat7 t (zm6 t nm) x.1, ev ++ zX0 nm x.2.1, 0) := by
 unfold putT at h ⊢
 by_cases e : x.2.2 = 0
 ·rw [if_pos e]; exact ⟨e, rfl⟩
 ·rw [if_neg e] at h; exact absurd h e
theorem zbg8 (t : List Queue) (i : Nat) (q : Queue) : zat7 t (i : Int) q = t.set i q := by unfold zat7; rw [if_pos (by omega)]; rfl
theorem zbN4 {t : List Queue} {p : Proc} {a : Atom} {pr : Int} (h : (zam6 t p a pr).2.2 = 0) : ∃ i : Nat, i < t.length ∧ (t.getD i Queue.zero).resource.name = a.name ∧ zm6 t a.name = i ∧ (zC9 (t.getD i Queue.zero) p a.amount pr).2.2 = 0 ∧ (zam6 t p a pr).1 = t.set i (zC9 (t.getD i Queue.zero) p a.amount pr).1 ∧ ValidT t ∧ ValidT (zam6 t p a pr).1 := by
 unfold zam6 at h ⊢
 obtain ⟨hv, i, h1, h2, h3, e⟩ := zch6 h
 rw [e] at h ⊢
 cases hfu : zat8 t p with
 | true => rw [hfu, if_pos rfl] at h; exact absurd h (by decide)
 | false =>
  rw [hfu, if_neg (by decide)] at h
  rw [if_neg (by decide)]
  obtain ⟨e0, e1⟩ := zbF6 h
  rw [e1, h1, zbg8]
  have hq := hv.each _ (zF2 (z := Queue.zero) h2)
  have hs := zas3 hq (.claim p a.amount pr e0)
  refine ⟨i, h2, h3, rfl, e0, rfl, hv, hv.set h2 p hs.1 hs.2 (fun x hx => ?_) hfu⟩
  rcases zbN2 e0 hx with hx | hx
  ·exact .inl (zX1 hv h2 hx)
  ·exact .inr hx
theorem zbF7 {t : List Queue} {p : Proc} {nm : ByteArray} (h : (zas0 t p nm).2.2 = 0) : ∃ i : Nat, i < t.length ∧ (zas0 t p nm).1 = t.set i (zF0 (t.getD i Queue.zero) p).1 ∧ ValidT t ∧ ValidT (zas0 t p nm).1 := by
 unfold zas0 at h ⊢
 obtain ⟨hv, i, h1, h2, h3, e⟩ := zch6 h
 rw [e] at h ⊢
 obtain ⟨e0, e1⟩ := zbF6 h
 rw [e1, h1, zbg8]
 have hq := hv.each _ (zF2 (z := Queue.zero) h2)
 have hs := zas3 hq (.cancel p e0)
 obtain ⟨_, _, hw, _, _⟩ := zar8 e0
 have hp : hasQ (t.getD i Queue.zero) p = true := by unfold hasQ; rw [hw]; rfl
 exact ⟨i, h2, rfl, hv, hv.set h2 p hs.1 hs.2 (fun x hx => .inl (zX1 hv h2 (zbF5 e0 hx))) (zbI5 (zX1 hv h2 hp))⟩
theorem zbN5 {t : List Queue} {p : Proc} {a : Atom} (h : (zaF8 t p a).2.2 = 0) : ∃ i : Nat, i < t.length ∧ (zaF8 t p a).1 = t.set i (zD0 (t.getD i Queue.zero) p a.amount).1 ∧ ValidT t ∧ ValidT (zaF8 t p a).1 := by
 unfold zaF8 at h ⊢
 obtain ⟨hv, i, h1, h2, h3, e⟩ := zch6 h
 rw [e] at h ⊢
 obtain ⟨e0, e1⟩ := zbF6 h
 rw [e1, h1, zbg8]
 have hq := hv.each _ (zF2 (z := Queue.zero) h2)
 have hs := zas3 hq (.lower p a.amount e0)
 obtain ⟨_, _, hp0, _, _, _⟩ := zaA0 e0
 have hp : hasQ (t.getD i Queue.zero) p = true := (zo0 _ _).2 (.inr hp0)
 exact ⟨i, h2, rfl, hv, hv.set h2 p hs.1 hs.2 (fun x hx => .inl (zX1 hv h2 (zbN3 e0 hx))) (zbI5 (zX1 hv h2 hp))⟩
abbrev StT := List Queue × Tape
def zbt1 (t : List Queue) (i : Int) : ByteArray := (t.getD i.toNat Queue.zero).resource.name
def zbI6 (t : List Queue) (i : Int) : Resource := (t.getD i.toNat Queue.zero).resource
def zat9 (g : StT) : ResT × Tape :=
 let i := zB5 g.1.length (zz2 g.2)
 let p := zv6 (zB5 8 (zD3 2 g.2))
 let a := amtM (zbI6 g.1 i) (zB5 64 (zD3 3 g.2))
 if zB5 8 g.2 = 0 then (zas0 g.1 p (zbt1 g.1 i), zD3 4 g.2)
 else if zB5 8 g.2 = 1 then (zaF8 g.1 p ⟨zbt1 g.1 i, a⟩, zD3 4 g.2)
 else (zam6 g.1 p ⟨zbt1 g.1 i, a⟩ (zB5 8 (zD3 4 g.2)), zD3 5 g.2)
def zaS4 (g : StT) : StT := (if (zat9 g).1.2.2 = 0 then (zat9 g).1.1 else g.1, (zat9 g).2)
structure InvT (g : StT) : Prop where
 valid : ValidT g.1
 pos : 0 < g.1.length
 tape : TapeOk g.2
def zbI7 (g : StT) : Nat := g.2.l.length - g.2.at_.toNat
theorem zbt2 {t : List Queue} (h : ValidT t) {i : Int} (h0 : 0 ≤ i) (h1 : i < t.length) : zb4 (zbI6 t i) = true := zbf5 (h.each _ (zF2 (by omega)))
theorem zaS5 {g : StT} (h : InvT g) : ValidT (zaS4 g).1 ∧ (zaS4 g).1.length = g.1.length := by
 unfold zaS4
 by_cases e : (zat9 g).1.2.2 = 0
 ·rw [if_pos e]
  unfold zat9 at e ⊢
  simp only at e ⊢
  split at e
  ·next h0 =>
   rw [if_pos h0]
   obtain ⟨i, _, e1, _, e2⟩ := zbF7 e
   exact ⟨e2, by simp only [e1, List.length_set]⟩
  ·next h0 =>
   rw [if_neg h0]
   split at e
   ·next h1 =>
    rw [if_pos h1]
    obtain ⟨i, _, e1, _, e2⟩ := zbN5 e
    exact ⟨e2, by simp only [e1, List.length_set]⟩
   ·next h1 =>
    rw [if_neg h1]
    obtain ⟨i, _, _, _, _, e1, _, e2⟩ := zbN4 e
    exact ⟨e2, by simp only [e1, List.length_set]⟩
 ·rw [if_neg e]; exact ⟨h.valid, rfl⟩
theorem zbI8 : ∀ (n : Nat) (u : Tape), (zD3 n u).l = u.l
 | 0, _ => rfl
 | n + 1, u => by rw [zD3, zbI8 n, zcn0]
theorem zbB0 : ∀ (n : Nat) {u : Tape}, TapeOk u → u.at_ ≤ (zD3 n u).at_
 | 0, _, _ => Int.le_refl _
 | n + 1, u, h => by
  rw [zD3]
  refine Int.le_trans ?_ (zbB0 n (zF1 h))
  unfold zz2
  split
  ·exact Int.le_refl _
  ·simp only; omega
theorem zbg9 (g : StT) : (zat9 g).2 = zD3 4 g.2 ∨ (zat9 g).2 = zD3 5 g.2 := by
 unfold zat9
 simp only
 split
 ·exact .inl rfl
 ·split
  ·exact .inl rfl
  ·exact .inr rfl
theorem zbN6 {g : StT} (h : InvT g) : InvT (zaS4 g) := by
 have h1 := zaS5 h
 refine ⟨h1.1, by rw [h1.2]; exact h.pos, ?_⟩
 show TapeOk (zat9 g).2
 rcases zbg9 g with e | e <;> rw [e] <;> exact zbf3 _ h.tape
theorem zbF8 {g : StT} (h : InvT g) (hm : g.2.at_ < g.2.l.length) : zbI7 (zaS4 g) < zbI7 g := by
 have ht := h.tape.at_
 have e1 : (zz2 g.2).at_ = g.2.at_ + 1 := by unfold zz2; rw [if_neg (by omega)]
 have key : ∀ n, g.2.at_ + 1 ≤ (zD3 (n + 1) g.2).at_ := fun n => by rw [zD3, ← e1]; exact zbB0 n (zF1 h.tape)
 unfold zbI7
 show (zat9 g).2.l.length - (zat9 g).2.at_.toNat < _
 rcases zbg9 g with e | e <;> rw [e, zbI8]
 ·have : g.2.at_ + 1 ≤ (zD3 4 g.2).at_ := key 3
  omega
 ·have : g.2.at_ + 1 ≤ (zD3 5 g.2).at_ := key 4
  omega
theorem zbN7 {g : StT} (h : InvT g) : zJ8 g = some (if g.2.at_ < g.2.l.length then .inl (zaS4 g) else .inr g.1) := by
 have hl := h.valid.len
 have hp := h.pos
 have o1 := zF1 h.tape
 have o2 := zF1 o1
 have o3 := zF1 o2
 have o4 := zF1 o3
 have r1 := zH5 (g.1.length : Int) (zz2 g.2) (by omega)
 unfold zJ8 zn5
 simp only [Option.bind_some]
 by_cases hm : g.2.at_ < g.2.l.length
 ·rw [if_pos (decide_eq_true hm), if_pos hm, zaa2 8 _ h.tape (by decide) (by decide), Option.bind_some]
  simp only
  rw [zaa2 _ _ o1 (by omega) (by omega), Option.bind_some, zb2 r1]
  simp only
  rw [zaa2 8 _ o2 (by decide) (by decide), Option.bind_some, zae0, Option.bind_some]
  simp only
  rw [zaa2 64 _ o3 (by decide) (by decide), Option.bind_some]
  have hsh := zbt2 h.valid r1.1 r1.2
  unfold zbI6 at hsh
  simp only
  rw [zbf2 _ _ hsh, Option.bind_some]
  have k2 : ∀ (r : ResT) (u : Tape), zz5 g (r.1, r.2.2, u) = some (.inl (if r.2.2 = 0 then r.1 else g.1, u)) := fun r u => by
   unfold zz5
   by_cases e : r.2.2 = 0
   ·simp only [e, decide_true, if_true]
   ·simp only [e, decide_false, Bool.false_eq_true, if_false]
  unfold zaS4 zat9 zbI6 zbt1
  simp only [zaU5, zbg4, zbg3, Option.bind_some, k2, zaa2 8 _ o4 (by decide) (by decide), decide_eq_true_eq]
  by_cases h0 : zB5 8 g.2 = 0
  ·simp only [h0, if_true]; rfl
  ·simp only [h0, if_false]
   by_cases h1 : zB5 8 g.2 = 1
   ·simp only [h1, if_true]; rfl
   ·simp only [h1, if_false]; rfl
 ·rw [if_neg (by rw [decide_eq_true_eq]; exact hm), if_neg hm]
def zbn4 (l : List Int) : Tape := { Tape.zero with l := l }
def zas4 (l : List Int) : StT := ((newT (catL (zbn4 l))).1, zD3 8 (zbn4 l))
theorem zbB1 {l : List Int} (h : l.length ≤ 1000000) : TapeOk (zbn4 l) := ⟨h, by show 0 ≤ (0 : Int) ∧ (0 : Int) ≤ l.length; omega⟩
theorem zch7 (u : Tape) : (catL u).Pairwise (fun a b => ltN a.name b.name) := by
 have h : ∀ x y : UInt8, x < y → ltN ⟨#[x]⟩ ⟨#[y]⟩ := by
  intro x y hxy
  unfold ltN
  rw [ByteArray.toList_eq, ByteArray.toList_eq]
  simp [Op.bytesLess, hxy]
 unfold catL
 simp only [List.pairwise_cons, List.mem_cons, List.not_mem_nil, or_false, forall_eq_or_imp, forall_eq, List.Pairwise.nil, and_true, false_implies, implies_true]
 refine ⟨⟨?_, ?_, ?_, ?_, ?_⟩, ⟨?_, ?_, ?_, ?_⟩, ⟨?_, ?_, ?_⟩, ⟨?_, ?_⟩, ?_⟩ <;> exact h _ _ (by decide)
theorem zbB2 (u : Tape) : catV (catL u) = true := by
 rw [zaK0]
 exact ⟨by show 6 ≤ 8; decide, zbF0 u, zch7 u⟩
theorem zbN8 {r : Resource} (x : Proc) : hasQ (zK6 r) x = false := by
 rw [Bool.eq_false_iff, Ne, zo0]
 rintro (⟨w, hw, _⟩ | h)
 ·cases hw
 ·exact h rfl
theorem zbN9 {l : List Resource} (h : catV l = true) : ValidT (l.map zK6) := by
 obtain ⟨h1, h2, h3⟩ := (zaK0 l).1 h
 have he : ∀ q ∈ l.map zK6, zb9 q = true := fun q hq => by
  obtain ⟨r, hr, rfl⟩ := List.mem_map.1 hq
  exact zbj1 (h2 r hr)
 refine ⟨by rw [List.length_map]; exact h1, he, ?_, ?_⟩
 ·unfold AscN; rw [List.pairwise_map]; exact h3
 ·have : ze7 (l.map zK6) = [] := by
   refine List.eq_nil_iff_forall_not_mem.2 fun x hx => ?_
   obtain ⟨q, hq, hp⟩ := (zO0 he).1 hx
   obtain ⟨r, _, rfl⟩ := List.mem_map.1 hq
   rw [zbN8] at hp; cases hp
  rw [this]; exact Nat.zero_le _
theorem zbO0 {l : List Int} (h : l.length ≤ 1000000) : InvT (zas4 l) ∧ (zas4 l).1.length = 6 := by
 have e : (newT (catL (zbn4 l))).1 = (catL (zbn4 l)).map zK6 := by unfold newT; rw [if_pos (zbB2 _)]
 have hl : (zas4 l).1.length = 6 := by unfold zas4; rw [e, List.length_map]; rfl
 refine ⟨⟨?_, by omega, zbf3 8 (zbB1 h)⟩, hl⟩
 unfold zas4
 simp only
 rw [e]
 exact zbN9 (zbB2 _)
theorem zch8 {l : List Int} (h : l.length ≤ 1000000) : ∃ t, zx7 l = some t ∧ ValidT t ∧ t.length = 6 := by
 unfold zx7
 rw [show ({ Tape.zero with l := l } : Tape) = zbn4 l from rfl, zbE9 _ (zbB1 h), Option.bind_some, zbs8, Option.bind_some]
 obtain ⟨h1, h2⟩ := zbO0 h
 obtain ⟨x, hx, hp⟩ := zW0 (body := zJ8) (fun g => InvT g ∧ g.1.length = 6) zbI7 (fun t => ValidT t ∧ t.length = 6) (by
  rintro g ⟨hg, hl⟩
  rw [zbN7 hg]
  by_cases hm : g.2.at_ < g.2.l.length
  ·exact .inl ⟨zaS4 g, by rw [if_pos hm], ⟨zbN6 hg, by rw [(zaS5 hg).2, hl]⟩, zbF8 hg hm⟩
  ·exact .inr ⟨g.1, by rw [if_neg hm], hg.valid, hl⟩) (zas4 l) ⟨h1, h2⟩
 refine ⟨x, ?_, hp⟩
 unfold zas4 at hx
 rw [hx]; rfl
end Ab
end Go.Proofs.YtfjeceicgfdmjaaGreatDoor
namespace Go.Proofs.YtfjeceicgfdmjaaGreatDoor
namespace Ab
set_option linter.unusedVariables false
set_option linter.unusedSimpArgs false
theorem zbB3 : ∀ (ps : List Proc) {q : Queue}, zb9 q = true → (remS q ps).resource = q.resource
 | [], _, _ => rfl
 | p :: ps, q, h => by
  show (remS (remN q p) ps).resource = _
  rw [zbB3 ps (zW6 h p), zbA9 h]
def zH6 (t : List Queue) (ps : List Proc) : List Queue := t.map (remS · ps)
theorem zab7 {t : List Queue} (h : ValidT t) (ps : List Proc) : ValidT (zH6 t ps) :=
 h.map _ (fun q hq => zar9 ps (h.each q hq)) (fun q hq => zbB3 ps (h.each q hq)) fun q hq x hx => ((zaJ5 ps (h.each q hq) x).1 hx).1
theorem zaP4 (t : List Queue) (ps : List Proc) : (zH6 t ps).length = t.length := by unfold zH6; rw [List.length_map]
theorem zbn5 (t : List Queue) : zH6 t [] = t := by
 unfold zH6
 have : (fun q => remS q []) = id := rfl
 rw [this, List.map_id]
theorem zaG0 {t : List Queue} (h : ValidT t) (ps : List Proc) (p : Proc) : (remT (zH6 t ps) p).1 = zH6 t (ps ++ [p]) := by
 rw [zbt0 (zab7 h ps)]
 unfold zH6
 rw [List.map_map]
 refine List.map_congr_left fun q _ => ?_
 exact (zbN0 q ps p).symm
theorem zbB4 {t : List Queue} (h : ValidT t) (ps : List Proc) {x : Proc} : x ∈ ze7 (zH6 t ps) ↔ x ∈ ze7 t ∧ x ∉ ps := by
 rw [zO0 (zab7 h ps).each, zO0 h.each]
 unfold zH6
 constructor
 ·rintro ⟨q, hq, hp⟩
  obtain ⟨y, hy, rfl⟩ := List.mem_map.1 hq
  have := (zaJ5 ps (h.each y hy) x).1 hp
  exact ⟨⟨y, hy, this.1⟩, this.2⟩
 ·rintro ⟨⟨y, hy, hp⟩, hn⟩
  exact ⟨_, List.mem_map.2 ⟨y, hy, rfl⟩, (zaJ5 ps (h.each y hy) x).2 ⟨hp, hn⟩⟩
theorem zaG1 {t : List Queue} (h : ValidT t) (a b : Int) : ∀ (ps done : List Proc) (ev : List Event), (ps.foldl (zD8 a b) (zH6 t done, ev)).1 = zH6 t (done ++ ps.filter (oldP a b))
 | [], done, ev => by simp
 | p :: ps, done, ev => by
  rw [List.foldl_cons]
  unfold zD8
  cases e : oldP a b p with
  | true =>
   rw [if_pos rfl, zaG0 h, List.filter_cons_of_pos e]
   have := zaG1 h a b ps (done ++ [p]) (ev ++ (remT (zH6 t done) p).2)
   unfold zD8 at this
   rw [this, List.append_assoc]; rfl
  | false =>
   rw [if_neg (by decide), List.filter_cons_of_neg (by rw [e]; decide)]
   have := zaG1 h a b ps done ev
   unfold zD8 at this
   exact this
theorem zbh0 {t : List Queue} (h : ValidT t) (a b : Int) : (zaF9 t a b).1 = zH6 t ((ze7 t).filter (oldP a b)) := by
 unfold zaF9
 rw [if_pos ((zD1 t).2 h)]
 have := zaG1 h a b (ze7 t) [] []
 rw [zbn5] at this
 rw [this, List.nil_append]
theorem zbB5 {t : List Queue} (h : ValidT t) (a b : Int) : ze7 (zaF9 t a b).1 = (ze7 t).filter fun p => !oldP a b p := by
 rw [zbh0 h]
 refine zZ5 (zap4 _) ((zap4 _).sublist List.filter_sublist) fun x => ?_
 rw [zbB4 h, List.mem_filter, List.mem_filter]
 constructor
 ·rintro ⟨h1, h2⟩
  refine ⟨h1, ?_⟩
  rw [Bool.not_eq_true', ← Bool.not_eq_true]
  exact fun e => h2 ⟨h1, e⟩
 ·rintro ⟨h1, h2⟩
  rw [Bool.not_eq_true'] at h2
  exact ⟨h1, fun e => by rw [e.2] at h2; cases h2⟩
end Ab
end Go.Proofs.YtfjeceicgfdmjaaGreatDoor
