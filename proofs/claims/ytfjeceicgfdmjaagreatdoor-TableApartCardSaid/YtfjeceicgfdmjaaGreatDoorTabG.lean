/-
  For whom a process waits; that it is let in when all of these are gone.
-/
import Derived.Test.YtfjeceicgfdmjaaGreatDoorProcs
import Derived.Test.YtfjeceicgfdmjaaGreatDoorTabE
namespace Go.Proofs.YtfjeceicgfdmjaaGreatDoor
namespace Ab
set_option linter.unusedVariables false
set_option linter.unusedSimpArgs false
theorem zaq8 : ∀ (ps : List Proc) (q : Queue), dels q ps = { q with holds := q.holds.filter fun x => decide (x.proc ∉ ps), converts := q.converts.filter fun x => decide (x.proc ∉ ps), waits := q.waits.filter fun x => decide (x.proc ∉ ps) }
 | [], q => by simp [dels, List.filter_eq_self.2]
 | p :: ps, q => by
  show dels (del q p) ps = _
  rw [zaq8 ps]
  have e : ∀ {α : Type} (f : α → Proc) (l : List α), (l.filter fun x => !decide (f x = p)).filter (fun x => decide (f x ∉ ps)) = l.filter fun x => decide (f x ∉ p :: ps) := by
   intro α f l
   rw [List.filter_filter]
   congr 1
   funext x
   by_cases e1 : f x = p <;> by_cases e2 : f x ∈ ps <;> simp [e1, e2]
  have e1 := e (fun x : Hold => x.proc) q.holds
  have e2 := e (fun x : Wait => x.proc) q.converts
  have e3 := e (fun x : Wait => x.proc) q.waits
  unfold del others rmL notP
  simp only [e1, e2, e3]
theorem zce1 (ps : List Proc) (q : Queue) : ordQ (dels q ps) = (ordQ q).filter fun w => decide (w.proc ∉ ps) := by
 rw [zaq8]; unfold ordQ; rw [List.filter_append]
theorem zaS2 {r : Resource} {l : List Hold} {p : Proc} {a : Amount} (hv : zs9 r l = true) (hp : zb3 p = true) (ha : za9 r a = true) (hl : (others p l).length + 1 ≤ 8) (hf : ∀ h ∈ l, ¬ foe r p a h = true) : zH7 r l p a = true := by
 have hv' := (zA5 r l).1 hv
 rw [zbd4 hv hp ha hl]
 by_cases hk : r.kind = 1
 ·refine ⟨fun h hh hc => ?_, ?_⟩
  ·obtain ⟨h1, h2⟩ := zJ4.1 hh
   exact hf h h1 ((zcc2 hk hv'.1 (hv'.2.2.1.each h h1).2 ha).2 ⟨h2, hc⟩)
  ·have p2 := zK5 (zn6 ha) hk
   have : ∀ m : List Hold, (∀ h ∈ m, h.amount.units = 0) → sumU (m.map (·.amount)) = 0 := by
    intro m
    induction m with
    | nil => intro _; rfl
    | cons h t ih => intro hh; simp only [List.map_cons, sumU, ih fun y hy => hh y (.tail _ hy), hh h (.head _)]; rfl
   rw [this _ fun h hh => (zK5 (zn6 (hv'.2.2.1.each h (zJ4.1 hh).1).2) hk).1]
   omega
 ·have hnil : others p l = [] := by
   rw [List.eq_nil_iff_forall_not_mem]
   intro h hh
   obtain ⟨h1, h2⟩ := zJ4.1 hh
   exact hf h h1 ((zcc3 hk).2 h2)
  rw [hnil]
  have := (zH6 r a).1 ha
  exact ⟨by simp, by simp [sumU]; omega⟩
def zbg3 : List Wait → Proc → List Proc
 | [], _ => []
 | w :: l, p => if w.proc = p then [] else w.proc :: zbg3 l p
theorem zaS3 {p : Proc} : ∀ {l : List Wait}, (∃ w ∈ l, w.proc = p) → ∃ pre w post, l = pre ++ w :: post ∧ w.proc = p ∧ zbg3 l p = pre.map (·.proc) ∧ ∀ x ∈ pre, x.proc ≠ p
 | [], h => by obtain ⟨w, hw, _⟩ := h; cases hw
 | x :: l, h => by
  by_cases e : x.proc = p
  ·exact ⟨[], x, l, rfl, e, by simp [zbg3, e], by simp⟩
  ·obtain ⟨pre, w, post, h1, h2, h3, h4⟩ := zaS3 (l := l) (p := p) (by
    obtain ⟨w, hw, hp⟩ := h
    rcases List.mem_cons.1 hw with rfl | hw
    ·exact absurd hp e
    ·exact ⟨w, hw, hp⟩)
   refine ⟨x :: pre, w, post, by rw [h1]; rfl, h2, by simp [zbg3, e, h3], fun y hy => ?_⟩
   rcases List.mem_cons.1 hy with rfl | hy
   ·exact e
   ·exact h4 y hy
theorem zbD4 {q : Queue} (hs : SoundP q) {w : Wait} (hw : w ∈ ordQ q) : zb3 w.proc = true ∧ za9 q.resource w.amount = true ∧ (others w.proc q.holds).length + 1 ≤ 8 := by
 have hvh := (zA5 _ _).1 hs.hv
 rcases List.mem_append.1 hw with h | h
 ·obtain ⟨h1, h2, _⟩ := hs.cg w h
  refine ⟨(hvh.2.2.1.each _ (zan9 h1)).1, h2, ?_⟩
  have := zaO4 (zao0 hs.hv) h1
  omega
 ·have h1 := hs.wg w h
  have h2 := ((zY8 _).1 hs.wv).2.1 w h
  refine ⟨?_, h1.1, ?_⟩
  ·rw [← zad3] at h2
   unfold zi5 at h2
   rw [zav9] at h2
   simp only [Bool.and_eq_true] at h2
   exact h2.1.1.1.1.1
  ·have := hs.wl
   have h3 := zag7 w.proc q.holds
   have : 0 < q.waits.length := List.length_pos_of_mem h
   omega
structure Blocks (q : Queue) (p : Proc) (l : List Proc) : Prop where
 some : l ≠ []
 has : ∀ x ∈ l, hasQ q x = true ∧ x ≠ p
 got : getH (remS q l).holds p = (zz0 q p).1
theorem zeo4 {q : Queue} (h : zc3 q = true) {p : Proc} (hw : (zz0 q p).2 = true) (l : List Proc) (hl : ∀ x, x ∈ l ↔ x ∈ zbg3 (ordQ q) p ∨ x ∈ zan8 q.resource q.holds p (zz0 q p).1) : Blocks q p l := by
 obtain ⟨hs, hc⟩ := (zh4 q).1 h
 have hex := (zaI5 q p).1 hw
 obtain ⟨pre, w, post, e1, e2, e3, e4⟩ := zaS3 (l := ordQ q) hex
 have hwm : w ∈ ordQ q := by rw [e1]; exact List.mem_append_right _ (.head _)
 have hwa : zz0 q p = (w.amount, true) := by rw [← e2]; exact zby0 hs.nodup hwm
 obtain ⟨o1, o2, o3⟩ := zbD4 hs hwm
 rw [e2] at o1 o3
 have hwa1 : (zz0 q p).1 = w.amount := by rw [hwa]
 rw [hwa1] at hl
 have hpr : zF7 q.resource q.holds p w.amount = true := by unfold zF7; rw [hs.hv, o1, o2]; rfl
 have hag : ∀ x ∈ zan8 q.resource q.holds p w.amount, x ∈ q.holds.map (·.proc) ∧ x ≠ p := fun x hx => by
  unfold zan8 at hx
  split at hx
  ·cases hx
  ·obtain ⟨y, hy, rfl⟩ := List.mem_map.1 hx
   obtain ⟨hy1, hy2⟩ := List.mem_filter.1 hy
   refine ⟨List.mem_map.2 ⟨y, hy1, rfl⟩, fun e => ?_⟩
   unfold foe at hy2
   rw [decide_eq_true e] at hy2
   simp at hy2
 have hpl : p ∉ l := fun hp => by
  rcases (hl p).1 hp with hp | hp
  ·rw [e3] at hp
   obtain ⟨x, hx, e⟩ := List.mem_map.1 hp
   exact e4 x hx e
  ·exact (hag p hp).2 rfl
 refine ⟨fun e => ?_, fun x hx => ?_, ?_⟩
 ·
  subst e
  have hpre : pre = [] := by
   cases pre with
   | nil => rfl
   | cons x pre => exact absurd ((hl x.proc).2 (.inl (by rw [e3]; exact .head _))) (by simp)
  rw [hpre, List.nil_append] at e1
  have hcq := zaV8 e1
  rw [e2, hc] at hcq
  have : zH7 q.resource q.holds p w.amount = true := by
   refine zaS2 hs.hv o1 o2 o3 fun y hy hf => ?_
   have : y.proc ∈ zan8 q.resource q.holds p w.amount := by
    unfold zan8
    rw [hpr, ← hcq]
    exact List.mem_map.2 ⟨y, List.mem_filter.2 ⟨hy, hf⟩, rfl⟩
   exact absurd ((hl y.proc).2 (.inr this)) (by simp)
  rw [this] at hcq; cases hcq
 ·refine ⟨?_, fun e => hpl (by rw [← e]; exact hx)⟩
  rw [zbr7 hs]
  rcases (hl x).1 hx with hx | hx
  ·left
   rw [e3] at hx
   rw [e1, List.map_append]
   exact List.mem_append_left _ hx
  ·exact .inr (hag x hx).1
 ·rw [hwa1]
  have e5 : (remS q l).holds = (advS (dels (noG q) l)).holds := by rw [← zbG3 l h]; rfl
  rw [e5]
  have hsd : SoundP (dels (noG q) l) := hs.noG.dels l
  have hod : ordQ (dels (noG q) l) = w :: post.filter fun x => decide (x.proc ∉ l) := by
   rw [zce1]
   show (ordQ q).filter _ = _
   rw [e1, List.filter_append, List.filter_eq_nil_iff.2 ?_, List.nil_append, List.filter_cons, if_pos (by rw [e2]; simpa using hpl)]
   intro x hx
   have : x.proc ∈ l := (hl x.proc).2 (.inl (by rw [e3]; exact List.mem_map.2 ⟨x, hx, rfl⟩))
   simpa using this
  have hhold : (dels (noG q) l).holds = q.holds.filter fun x => decide (x.proc ∉ l) := by rw [zaq8]; rfl
  have hres : (dels (noG q) l).resource = q.resource := by rw [zaq8]; rfl
  have hsub : (q.holds.filter fun x => decide (x.proc ∉ l)).Sublist q.holds := List.filter_sublist
  have hroom : zH7 q.resource (q.holds.filter fun x => decide (x.proc ∉ l)) p w.amount = true := by
   cases hr : zH7 q.resource q.holds p w.amount with
   | true => exact zbd7 hr hsub
   | false =>
    refine zaS2 (zah4 hs.hv hsub) o1 o2 (by have := (hsub.filter (fun h => !decide (h.proc = p))).length_le; unfold others at o3 ⊢; omega) fun y hy hf => ?_
    obtain ⟨hy1, hy2⟩ := List.mem_filter.1 hy
    simp only [decide_eq_true_eq] at hy2
    refine hy2 ((hl y.proc).2 (.inr ?_))
    unfold zan8
    rw [hpr, hr]
    exact List.mem_map.2 ⟨y, List.mem_filter.2 ⟨hy1, hf⟩, rfl⟩
  have hcan : canQ (dels (noG q) l) = true := by rw [zaV8 hod, hhold, hres, e2]; exact hroom
  have hhd : (zl4 (dels (noG q) l)).1 = w := by
   have : (dels (noG q) l).converts ++ (dels (noG q) l).waits = w :: _ := hod
   unfold zl4; rw [this]
  have := (zbK1 hsd hcan).1
  rw [hhd, e2] at this
  exact this
end Ab
end Go.Proofs.YtfjeceicgfdmjaaGreatDoor
namespace Go.Proofs.YtfjeceicgfdmjaaGreatDoor
namespace Ab
set_option linter.unusedVariables false
set_option linter.unusedSimpArgs false
inductive StepQ (q : Queue) : Queue → Prop where
 | same : StepQ q q
 | claim (p : Proc) (a : Amount) (pr : Int) (h : (zD5 q p a pr).2.2 = 0) : StepQ q (zD5 q p a pr).1
 | cancel (p : Proc) (h : (zz8 q p).2.2 = 0) : StepQ q (zz8 q p).1
 | lower (p : Proc) (a : Amount) (h : (zw0 q p a).2.2 = 0) : StepQ q (zw0 q p a).1
 | remove (p : Proc) (h : (zW4 q p).2.2 = 0) : StepQ q (zW4 q p).1
theorem zaq9 {q x : Queue} (h : zc3 q = true) (hx : StepQ q x) : zc3 x = true ∧ x.resource = q.resource := by
 have hr : ∀ y : Queue, (zp7 y).1.resource = y.resource := fun y => (zaI4 y).2
 cases hx with
 | same => exact ⟨h, rfl⟩
 | claim p a pr h0 =>
  obtain ⟨_, _, _, _, _, hh⟩ := zaO5 h0
  rcases hh with ⟨_, e⟩ | ⟨_, _, e, hs⟩ | ⟨_, _, _, e, hs⟩
  ·rw [e]; exact ⟨h, rfl⟩
  ·rw [e, hr]; exact ⟨zE5 hs, rfl⟩
  ·rw [e, hr]; exact ⟨zE5 hs, rfl⟩
 | cancel p h0 => obtain ⟨_, _, _, e, hs⟩ := zaq4 h0; rw [e, hr]; exact ⟨zE5 hs, rfl⟩
 | lower p a h0 =>
  obtain ⟨_, _, _, _, _, hh⟩ := zao2 h0
  rcases hh with ⟨_, e⟩ | ⟨_, e, hs⟩
  ·rw [e]; exact ⟨h, rfl⟩
  ·rw [e, hr]; exact ⟨zE5 hs, rfl⟩
 | remove p h0 => obtain ⟨_, _, _, e, hs⟩ := zbd9 h0; rw [e, hr]; exact ⟨zE5 hs, rfl⟩
end Ab
end Go.Proofs.YtfjeceicgfdmjaaGreatDoor
namespace Go.Proofs.YtfjeceicgfdmjaaGreatDoor
namespace Ab
set_option linter.unusedVariables false
set_option linter.unusedSimpArgs false
theorem zaj5 (q : Queue) (x : Proc) : hasQ (zp7 q).1 x = hasQ q x := by rw [zaI7, zck3, zck2]
theorem zbK7 {q : Queue} {p : Proc} {a : Amount} {pr : Int} (h : (zD5 q p a pr).2.2 = 0) {x : Proc} (hx : hasQ (zD5 q p a pr).1 x = true) : hasQ q x = true ∨ x = p := by
 obtain ⟨_, _, _, _, _, hh⟩ := zaO5 h
 rcases hh with ⟨_, e⟩ | ⟨_, _, e, _⟩ | ⟨_, _, _, e, _⟩
 ·rw [e] at hx; exact .inl hx
 ·rw [e, zaj5, zr2] at hx
  rcases hx with ⟨w, hw, ew⟩ | hx
  ·unfold ordQ claimC at hw
   simp only [List.mem_append, List.mem_singleton] at hw
   rcases hw with (hw | hw) | hw
   ·exact .inl ((zr2 q x).2 (.inl ⟨w, List.mem_append_left _ hw, ew⟩))
   ·rw [hw] at ew; exact .inr ew.symm
   ·exact .inl ((zr2 q x).2 (.inl ⟨w, List.mem_append_right _ hw, ew⟩))
  ·exact .inl ((zr2 q x).2 (.inr hx))
 ·rw [e, zaj5, zr2] at hx
  rcases hx with ⟨w, hw, ew⟩ | hx
  ·unfold ordQ claimW zas1 at hw
   simp only [List.mem_append, List.mem_cons, List.mem_map] at hw
   rcases hw with hw | hw | hw | ⟨y, hy, rfl⟩
   ·exact .inl ((zr2 q x).2 (.inl ⟨w, List.mem_append_left _ hw, ew⟩))
   ·exact .inl ((zr2 q x).2 (.inl ⟨w, List.mem_append_right _ (List.mem_of_mem_take hw), ew⟩))
   ·rw [hw] at ew; exact .inr ew.symm
   ·exact .inl ((zr2 q x).2 (.inl ⟨y, List.mem_append_right _ (List.mem_of_mem_drop hy), ew⟩))
  ·exact .inl ((zr2 q x).2 (.inr hx))
theorem zbD5 {q : Queue} {p : Proc} (h : (zz8 q p).2.2 = 0) {x : Proc} (hx : hasQ (zz8 q p).1 x = true) : hasQ q x = true := by
 obtain ⟨_, _, _, e, _⟩ := zaq4 h
 rw [e, zaj5, zr2] at hx
 rcases hx with ⟨w, hw, ew⟩ | hx
 ·unfold ordQ zZ7 at hw
  simp only [List.mem_append, zaI2] at hw
  rcases hw with hw | hw
  ·exact (zr2 q x).2 (.inl ⟨w, List.mem_append_left _ hw.1, ew⟩)
  ·exact (zr2 q x).2 (.inl ⟨w, List.mem_append_right _ hw.1, ew⟩)
 ·exact (zr2 q x).2 (.inr hx)
theorem zbK8 {q : Queue} {p : Proc} {a : Amount} (h : (zw0 q p a).2.2 = 0) {x : Proc} (hx : hasQ (zw0 q p a).1 x = true) : hasQ q x = true := by
 obtain ⟨_, _, hp, _, _, hh⟩ := zao2 h
 rcases hh with ⟨_, e⟩ | ⟨_, e, _⟩
 ·rw [e] at hx; exact hx
 ·rw [e, zaj5, zr2] at hx
  rcases hx with hx | hx
  ·exact (zr2 q x).2 (.inl hx)
  ·refine (zr2 q x).2 (.inr ?_)
   by_cases e : x = p
   ·rw [e]; exact hp
   ·unfold zah6 at hx
    rwa [zF8 e] at hx
theorem ValidT.set {t : List Queue} (h : ValidT t) {i : Nat} (hi : i < t.length) {q : Queue} (p : Proc) (h1 : zc3 q = true) (h2 : q.resource = (t.getD i Queue.zero).resource) (h3 : ∀ x, hasQ q x = true → x ∈ zt0 t ∨ x = p)
  (h4 : zao4 t p = false) : ValidT (t.set i q) := by
 have he : ∀ y ∈ t.set i q, zc3 y = true := fun y hy => by
  rcases List.mem_or_eq_of_mem_set hy with hy | rfl
  ·exact h.each y hy
  ·exact h1
 refine ⟨by rw [List.length_set]; exact h.len, he, ?_, ?_⟩
 ·have ha := h.asc
  unfold AscN at *
  rw [List.pairwise_iff_getElem] at ha ⊢
  have hr : ∀ k (hk : k < (t.set i q).length), ((t.set i q)[k]).resource = (t[k]'(by rw [List.length_set] at hk; exact hk)).resource := fun k hk => by
   rw [List.getElem_set]
   split
   ·next e => subst e; rw [h2, List.getD_eq_getElem?_getD, List.getElem?_eq_getElem hi]; rfl
   ·rfl
  intro a b hla hlb hab
  rw [hr a hla, hr b hlb]
  exact ha a b _ _ hab
 ·have hsub : ∀ x ∈ zt0 (t.set i q), x ∈ zt0 t ∨ x = p := fun x hx => by
   obtain ⟨y, hy, hp⟩ := (zZ3 he).1 hx
   rcases List.mem_or_eq_of_mem_set hy with hy | rfl
   ·exact .inl ((zZ3 h.each).2 ⟨y, hy, hp⟩)
   ·exact h3 x hp
  have hpl := h.procs
  by_cases hp : p ∈ zt0 t
  ·refine Nat.le_trans (List.Nodup.length_le_of_subset (zaq7 _) (l₂ := zt0 t) fun x hx => ?_) hpl
   rcases hsub x hx with hx | rfl
   ·exact hx
   ·exact hp
  ·have h5 : (zt0 t).length < 8 := by
    unfold zao4 at h4
    simp only [hp, decide_false, Bool.not_false, Bool.and_true, decide_eq_false_iff_not] at h4
    omega
   have := List.Nodup.length_le_of_subset (zaq7 (t.set i q)) (l₂ := p :: zt0 t) fun x hx => by
    rcases hsub x hx with hx | rfl
    ·exact .tail _ hx
    ·exact .head _
   rw [List.length_cons] at this
   omega
theorem zW7 {t : List Queue} (h : ValidT t) {i : Nat} (hi : i < t.length) {x : Proc} (hx : hasQ (t.getD i Queue.zero) x = true) : x ∈ zt0 t := (zZ3 h.each).2 ⟨_, zD7 hi, hx⟩
theorem zbG6 {t : List Queue} {p : Proc} (h : p ∈ zt0 t) : zao4 t p = false := by unfold zao4; simp [h]
theorem zce2 {t : List Queue} {nm : ByteArray} {f : Queue → ResT} (h : (atT t nm f).2.2 = 0) : ValidT t ∧ ∃ i : Nat, zi0 t nm = i ∧ i < t.length ∧ (t.getD i Queue.zero).resource.name = nm ∧ atT t nm f = f (t.getD i Queue.zero) := by
 unfold atT at h ⊢
 cases hv : zN7 t with
 | false => rw [hv, if_pos rfl] at h; exact absurd h (by decide)
 | true =>
  rw [hv, if_neg (by decide)] at h
  rw [if_neg (by decide)]
  by_cases hf : zi0 t nm < 0
  ·rw [if_pos hf] at h; exact absurd h (by decide)
  ·rw [if_neg hf]
   rcases zbf5 (t := t) (nm := nm) with h1 | ⟨i, h1, h2, h3⟩
   ·omega
   ·exact ⟨(zJ7 t).1 hv, i, h1, h2, h3, by rw [h1]; rfl⟩
theorem zbD6 {t : List Queue} {nm : ByteArray} {x : Queue × List Hold × Int} {ev : List Event} (h : (putT t nm x ev).2.2 = 0) : x.2.2 = 0 ∧ putT t nm x ev = (zaJ2 t (zi0 t nm) x.1, ev ++ zad5 nm x.2.1, 0) := by
 unfold putT at h ⊢
 by_cases e : x.2.2 = 0
 ·rw [if_pos e]; exact ⟨e, rfl⟩
 ·rw [if_neg e] at h; exact absurd h e
theorem zbg4 (t : List Queue) (i : Nat) (q : Queue) : zaJ2 t (i : Int) q = t.set i q := by unfold zaJ2; rw [if_pos (by omega)]; rfl
theorem zbn1 {t : List Queue} {p : Proc} {a : Atom} {pr : Int} (h : (zW6 t p a pr).2.2 = 0) : ∃ i : Nat, i < t.length ∧ (t.getD i Queue.zero).resource.name = a.name ∧ zi0 t a.name = i ∧ (zD5 (t.getD i Queue.zero) p a.amount pr).2.2 = 0 ∧ (zW6 t p a pr).1 = t.set i (zD5 (t.getD i Queue.zero) p a.amount pr).1 ∧ ValidT t ∧ ValidT (zW6 t p a pr).1 := by
 unfold zW6 at h ⊢
 obtain ⟨hv, i, h1, h2, h3, e⟩ := zce2 h
 rw [e] at h ⊢
 cases hfu : zao4 t p with
 | true => rw [hfu, if_pos rfl] at h; exact absurd h (by decide)
 | false =>
  rw [hfu, if_neg (by decide)] at h
  rw [if_neg (by decide)]
  obtain ⟨e0, e1⟩ := zbD6 h
  rw [e1, h1, zbg4]
  have hq := hv.each _ (zD7 (z := Queue.zero) h2)
  have hs := zaq9 hq (.claim p a.amount pr e0)
  refine ⟨i, h2, h3, rfl, e0, rfl, hv, hv.set h2 p hs.1 hs.2 (fun x hx => ?_) hfu⟩
  rcases zbK7 e0 hx with hx | hx
  ·exact .inl (zW7 hv h2 hx)
  ·exact .inr hx
theorem zbD7 {t : List Queue} {p : Proc} {nm : ByteArray} (h : (zad6 t p nm).2.2 = 0) : ∃ i : Nat, i < t.length ∧ (zad6 t p nm).1 = t.set i (zz8 (t.getD i Queue.zero) p).1 ∧ ValidT t ∧ ValidT (zad6 t p nm).1 := by
 unfold zad6 at h ⊢
 obtain ⟨hv, i, h1, h2, h3, e⟩ := zce2 h
 rw [e] at h ⊢
 obtain ⟨e0, e1⟩ := zbD6 h
 rw [e1, h1, zbg4]
 have hq := hv.each _ (zD7 (z := Queue.zero) h2)
 have hs := zaq9 hq (.cancel p e0)
 obtain ⟨_, _, hw, _, _⟩ := zaq4 e0
 have hp : hasQ (t.getD i Queue.zero) p = true := by unfold hasQ; rw [hw]; rfl
 exact ⟨i, h2, rfl, hv, hv.set h2 p hs.1 hs.2 (fun x hx => .inl (zW7 hv h2 (zbD5 e0 hx))) (zbG6 (zW7 hv h2 hp))⟩
theorem zbK9 {t : List Queue} {p : Proc} {a : Atom} (h : (zaq5 t p a).2.2 = 0) : ∃ i : Nat, i < t.length ∧ (zaq5 t p a).1 = t.set i (zw0 (t.getD i Queue.zero) p a.amount).1 ∧ ValidT t ∧ ValidT (zaq5 t p a).1 := by
 unfold zaq5 at h ⊢
 obtain ⟨hv, i, h1, h2, h3, e⟩ := zce2 h
 rw [e] at h ⊢
 obtain ⟨e0, e1⟩ := zbD6 h
 rw [e1, h1, zbg4]
 have hq := hv.each _ (zD7 (z := Queue.zero) h2)
 have hs := zaq9 hq (.lower p a.amount e0)
 obtain ⟨_, _, hp0, _, _, _⟩ := zao2 e0
 have hp : hasQ (t.getD i Queue.zero) p = true := (zr2 _ _).2 (.inr hp0)
 exact ⟨i, h2, rfl, hv, hv.set h2 p hs.1 hs.2 (fun x hx => .inl (zW7 hv h2 (zbK8 e0 hx))) (zbG6 (zW7 hv h2 hp))⟩
abbrev StT := List Queue × Tape
def zbg5 (t : List Queue) (i : Int) : ByteArray := (t.getD i.toNat Queue.zero).resource.name
def zbn2 (t : List Queue) (i : Int) : Resource := (t.getD i.toNat Queue.zero).resource
def zao5 (g : StT) : ResT × Tape :=
 let i := zz9 g.1.length (zz2 g.2)
 let p := zby5 (zz9 8 (zD6 2 g.2))
 let a := amtM (zbn2 g.1 i) (zz9 64 (zD6 3 g.2))
 if zz9 8 g.2 = 0 then (zad6 g.1 p (zbg5 g.1 i), zD6 4 g.2)
 else if zz9 8 g.2 = 1 then (zaq5 g.1 p ⟨zbg5 g.1 i, a⟩, zD6 4 g.2)
 else (zW6 g.1 p ⟨zbg5 g.1 i, a⟩ (zz9 8 (zD6 4 g.2)), zD6 5 g.2)
def zax6 (g : StT) : StT := (if (zao5 g).1.2.2 = 0 then (zao5 g).1.1 else g.1, (zao5 g).2)
structure InvT (g : StT) : Prop where
 valid : ValidT g.1
 pos : 0 < g.1.length
 tape : TapeOk g.2
def zbz4 (g : StT) : Nat := g.2.l.length - g.2.at_.toNat
theorem zaJ7 {t : List Queue} (h : ValidT t) {i : Int} (h0 : 0 ≤ i) (h1 : i < t.length) : zb5 (zbn2 t i) = true := zax1 (h.each _ (zD7 (by omega)))
theorem zax7 {g : StT} (h : InvT g) : ValidT (zax6 g).1 ∧ (zax6 g).1.length = g.1.length := by
 unfold zax6
 by_cases e : (zao5 g).1.2.2 = 0
 ·rw [if_pos e]
  unfold zao5 at e ⊢
  simp only at e ⊢
  split at e
  ·next h0 =>
   rw [if_pos h0]
   obtain ⟨i, _, e1, _, e2⟩ := zbD7 e
   exact ⟨e2, by simp only [e1, List.length_set]⟩
  ·next h0 =>
   rw [if_neg h0]
   split at e
   ·next h1 =>
    rw [if_pos h1]
    obtain ⟨i, _, e1, _, e2⟩ := zbK9 e
    exact ⟨e2, by simp only [e1, List.length_set]⟩
   ·next h1 =>
    rw [if_neg h1]
    obtain ⟨i, _, _, _, _, e1, _, e2⟩ := zbn1 e
    exact ⟨e2, by simp only [e1, List.length_set]⟩
 ·rw [if_neg e]; exact ⟨h.valid, rfl⟩
theorem zbG7 : ∀ (n : Nat) (u : Tape), (zD6 n u).l = u.l
 | 0, _ => rfl
 | n + 1, u => by rw [zD6, zbG7 n, zck6]
theorem zbz5 : ∀ (n : Nat) {u : Tape}, TapeOk u → u.at_ ≤ (zD6 n u).at_
 | 0, _, _ => Int.le_refl _
 | n + 1, u, h => by
  rw [zD6]
  refine Int.le_trans ?_ (zbz5 n (zw3 h))
  unfold zz2
  split
  ·exact Int.le_refl _
  ·simp only; omega
theorem zbg6 (g : StT) : (zao5 g).2 = zD6 4 g.2 ∨ (zao5 g).2 = zD6 5 g.2 := by
 unfold zao5
 simp only
 split
 ·exact .inl rfl
 ·split
  ·exact .inl rfl
  ·exact .inr rfl
theorem zbn3 {g : StT} (h : InvT g) : InvT (zax6 g) := by
 have h1 := zax7 h
 refine ⟨h1.1, by rw [h1.2]; exact h.pos, ?_⟩
 show TapeOk (zao5 g).2
 rcases zbg6 g with e | e <;> rw [e] <;> exact zbf0 _ h.tape
theorem zbg7 {g : StT} (h : InvT g) (hm : g.2.at_ < g.2.l.length) : zbz4 (zax6 g) < zbz4 g := by
 have ht := h.tape.at_
 have e1 : (zz2 g.2).at_ = g.2.at_ + 1 := by unfold zz2; rw [if_neg (by omega)]
 have key : ∀ n, g.2.at_ + 1 ≤ (zD6 (n + 1) g.2).at_ := fun n => by rw [zD6, ← e1]; exact zbz5 n (zw3 h.tape)
 unfold zbz4
 show (zao5 g).2.l.length - (zao5 g).2.at_.toNat < _
 rcases zbg6 g with e | e <;> rw [e, zbG7]
 ·have : g.2.at_ + 1 ≤ (zD6 4 g.2).at_ := key 3
  omega
 ·have : g.2.at_ + 1 ≤ (zD6 5 g.2).at_ := key 4
  omega
theorem zbn4 {g : StT} (h : InvT g) : zv8 g = some (if g.2.at_ < g.2.l.length then .inl (zax6 g) else .inr g.1) := by
 have hl := h.valid.len
 have hp := h.pos
 have o1 := zw3 h.tape
 have o2 := zw3 o1
 have o3 := zw3 o2
 have o4 := zw3 o3
 have r1 := zF9 (g.1.length : Int) (zz2 g.2) (by omega)
 unfold zv8 zj0
 simp only [Option.bind_some]
 by_cases hm : g.2.at_ < g.2.l.length
 ·rw [if_pos (decide_eq_true hm), if_pos hm, zJ5 8 _ h.tape (by decide) (by decide), Option.bind_some]
  simp only
  rw [zJ5 _ _ o1 (by omega) (by omega), Option.bind_some, zb2 r1]
  simp only
  rw [zJ5 8 _ o2 (by decide) (by decide), Option.bind_some, zad4, Option.bind_some]
  simp only
  rw [zJ5 64 _ o3 (by decide) (by decide), Option.bind_some]
  have hsh := zaJ7 h.valid r1.1 r1.2
  unfold zbn2 at hsh
  simp only
  rw [zah9 _ _ hsh, Option.bind_some]
  have k2 : ∀ (r : ResT) (u : Tape), zA3 g (r.1, r.2.2, u) = some (.inl (if r.2.2 = 0 then r.1 else g.1, u)) := fun r u => by
   unfold zA3
   by_cases e : r.2.2 = 0
   ·simp only [e, decide_true, if_true]
   ·simp only [e, decide_false, Bool.false_eq_true, if_false]
  unfold zax6 zao5 zbn2 zbg5
  simp only [zaU1, zbg1, zbg0, Option.bind_some, k2, zJ5 8 _ o4 (by decide) (by decide), decide_eq_true_eq]
  by_cases h0 : zz9 8 g.2 = 0
  ·simp only [h0, if_true]; rfl
  ·simp only [h0, if_false]
   by_cases h1 : zz9 8 g.2 = 1
   ·simp only [h1, if_true]; rfl
   ·simp only [h1, if_false]; rfl
 ·rw [if_neg (by rw [decide_eq_true_eq]; exact hm), if_neg hm]
def zas4 (l : List Int) : Tape := { Tape.zero with l := l }
def zW8 (l : List Int) : StT := ((newT (catL (zas4 l))).1, zD6 8 (zas4 l))
theorem zaJ8 {l : List Int} (h : l.length ≤ 1000000) : TapeOk (zas4 l) := ⟨h, by show 0 ≤ (0 : Int) ∧ (0 : Int) ≤ l.length; omega⟩
theorem zce3 (u : Tape) : (catL u).Pairwise (fun a b => ltN a.name b.name) := by
 have h : ∀ x y : UInt8, x < y → ltN ⟨#[x]⟩ ⟨#[y]⟩ := by
  intro x y hxy
  unfold ltN
  rw [ByteArray.toList_eq, ByteArray.toList_eq]
  simp [Op.bytesLess, hxy]
 unfold catL
 simp only [List.pairwise_cons, List.mem_cons, List.not_mem_nil, or_false, forall_eq_or_imp, forall_eq, List.Pairwise.nil, and_true, false_implies, implies_true]
 refine ⟨⟨?_, ?_, ?_, ?_, ?_⟩, ⟨?_, ?_, ?_, ?_⟩, ⟨?_, ?_, ?_⟩, ⟨?_, ?_⟩, ?_⟩ <;> exact h _ _ (by decide)
theorem zbz6 (u : Tape) : catV (catL u) = true := by
 rw [zaJ3]
 exact ⟨by show 6 ≤ 8; decide, zbD0 u, zce3 u⟩
theorem zbL0 {r : Resource} (x : Proc) : hasQ (zK8 r) x = false := by
 rw [Bool.eq_false_iff, Ne, zr2]
 rintro (⟨w, hw, _⟩ | h)
 ·cases hw
 ·exact h rfl
theorem zbL1 {l : List Resource} (h : catV l = true) : ValidT (l.map zK8) := by
 obtain ⟨h1, h2, h3⟩ := (zaJ3 l).1 h
 have he : ∀ q ∈ l.map zK8, zc3 q = true := fun q hq => by
  obtain ⟨r, hr, rfl⟩ := List.mem_map.1 hq
  exact zbi8 (h2 r hr)
 refine ⟨by rw [List.length_map]; exact h1, he, ?_, ?_⟩
 ·unfold AscN; rw [List.pairwise_map]; exact h3
 ·have : zt0 (l.map zK8) = [] := by
   refine List.eq_nil_iff_forall_not_mem.2 fun x hx => ?_
   obtain ⟨q, hq, hp⟩ := (zZ3 he).1 hx
   obtain ⟨r, _, rfl⟩ := List.mem_map.1 hq
   rw [zbL0] at hp; cases hp
  rw [this]; exact Nat.zero_le _
theorem zbn5 {l : List Int} (h : l.length ≤ 1000000) : InvT (zW8 l) ∧ (zW8 l).1.length = 6 := by
 have e : (newT (catL (zas4 l))).1 = (catL (zas4 l)).map zK8 := by unfold newT; rw [if_pos (zbz6 _)]
 have hl : (zW8 l).1.length = 6 := by unfold zW8; rw [e, List.length_map]; rfl
 refine ⟨⟨?_, by omega, zbf0 8 (zaJ8 h)⟩, hl⟩
 unfold zW8
 simp only
 rw [e]
 exact zbL1 (zbz6 _)
theorem zce4 {l : List Int} (h : l.length ≤ 1000000) : ∃ t, zu7 l = some t ∧ ValidT t ∧ t.length = 6 := by
 unfold zu7
 rw [show ({ Tape.zero with l := l } : Tape) = zas4 l from rfl, zaE8 _ (zaJ8 h), Option.bind_some, zaJ4, Option.bind_some]
 obtain ⟨h1, h2⟩ := zbn5 h
 obtain ⟨x, hx, hp⟩ := zag5 (body := zv8) (fun g => InvT g ∧ g.1.length = 6) zbz4 (fun t => ValidT t ∧ t.length = 6) (by
  rintro g ⟨hg, hl⟩
  rw [zbn4 hg]
  by_cases hm : g.2.at_ < g.2.l.length
  ·exact .inl ⟨zax6 g, by rw [if_pos hm], ⟨zbn3 hg, by rw [(zax7 hg).2, hl]⟩, zbg7 hg hm⟩
  ·exact .inr ⟨g.1, by rw [if_neg hm], hg.valid, hl⟩) (zW8 l) ⟨h1, h2⟩
 refine ⟨x, ?_, hp⟩
 unfold zW8 at hx
 rw [hx]; rfl
end Ab
end Go.Proofs.YtfjeceicgfdmjaaGreatDoor
namespace Go.Proofs.YtfjeceicgfdmjaaGreatDoor
namespace Ab
set_option linter.unusedVariables false
set_option linter.unusedSimpArgs false
theorem zbL2 {G X Y : Type} {b1 : G → Option (G ⊕ X)} {b2 : G → Option (G ⊕ Y)} (I : G → Prop) (μ : G → Nat) (f : X → Y)
  (h : ∀ g, I g → (∃ g', b1 g = some (.inl g') ∧ b2 g = some (.inl g') ∧ I g' ∧ μ g' < μ g) ∨ ∃ x, b1 g = some (.inr x) ∧ b2 g = some (.inr (f x))) : ∀ g, I g → zb9 b2 g = (zb9 b1 g).map f := by
 have key : ∀ n g, μ g = n → I g → zb9 b2 g = (zb9 b1 g).map f := by
  intro n
  induction n using Nat.strongRecOn with
  | _ n ih =>
   intro g hn hg
   rw [zd7 (body := b2), zd7 (body := b1)]
   rcases h g hg with ⟨g', h1, h2, h3, h4⟩ | ⟨x, h1, h2⟩
   ·rw [h1, h2]; exact ih (μ g') (hn ▸ h4) g' rfl h3
   ·rw [h1, h2]; rfl
 exact fun g hg => key _ g rfl hg
theorem zbD8 {t : List Queue} {p : Proc} {a : Atom} {pr : Int} (h : (zW6 t p a pr).2.2 ≠ 0) : (zW6 t p a pr).1 = [] := by
 unfold zW6 atT at h ⊢
 by_cases h1 : zN7 t = false
 ·rw [if_pos h1]; rfl
 rw [if_neg h1] at h ⊢
 by_cases h2 : zi0 t a.name < 0
 ·rw [if_pos h2]; rfl
 rw [if_neg h2] at h ⊢
 dsimp only at h ⊢
 by_cases h3 : zao4 t p = true
 ·rw [if_pos h3]; rfl
 rw [if_neg h3] at h ⊢
 unfold putT at h ⊢
 split
 ·next e => rw [if_pos e] at h; exact absurd rfl h
 ·rfl
theorem zbz7 {q : Queue} (h : zc3 q = true) : zp5 q q = some true := zbs3 h
end Ab
end Go.Proofs.YtfjeceicgfdmjaaGreatDoor
