/-
  For whom a process waits; that it is let in when all of these are gone.
-/
import Derived.Test.YtfjeceicgfdmjaaGreatDoorProcs
import Derived.Test.YtfjeceicgfdmjaaGreatDoorTabE
namespace Go.Proofs.YtfjeceicgfdmjaaGreatDoor
namespace Ab
set_option linter.unusedVariables false
set_option linter.unusedSimpArgs false
theorem zap5 : ∀ (ps : List Proc) (q : Queue), dels q ps = { q with holds := q.holds.filter fun x => decide (x.proc ∉ ps), converts := q.converts.filter fun x => decide (x.proc ∉ ps), waits := q.waits.filter fun x => decide (x.proc ∉ ps) }
 | [], q => by simp [dels, List.filter_eq_self.2]
 | p :: ps, q => by
  show dels (del q p) ps = _
  rw [zap5 ps]
  have e : ∀ {α : Type} (f : α → Proc) (l : List α), (l.filter fun x => !decide (f x = p)).filter (fun x => decide (f x ∉ ps)) = l.filter fun x => decide (f x ∉ p :: ps) := by
   intro α f l
   rw [List.filter_filter]
   congr 1
   funext x
   by_cases e1 : f x = p <;> by_cases e2 : f x ∈ ps <;> simp [e1, e2]
  have e1 := e (fun x : Hold => x.proc) q.holds
  have e2 := e (fun x : Wait => x.proc) q.converts
  have e3 := e (fun x : Wait => x.proc) q.waits
  unfold del others rmL notP
  simp only [e1, e2, e3]
theorem zce7 (ps : List Proc) (q : Queue) : ordQ (dels q ps) = (ordQ q).filter fun w => decide (w.proc ∉ ps) := by
 rw [zap5]; unfold ordQ; rw [List.filter_append]
theorem zaP5 {r : Resource} {l : List Hold} {p : Proc} {a : Amount} (hv : zq3 r l = true) (hp : zb3 p = true) (ha : za9 r a = true) (hl : (others p l).length + 1 ≤ 8) (hf : ∀ h ∈ l, ¬ foe r p a h = true) : zG0 r l p a = true := by
 have hv' := (zv3 r l).1 hv
 rw [zba4 hv hp ha hl]
 by_cases hk : r.kind = 1
 ·refine ⟨fun h hh hc => ?_, ?_⟩
  ·obtain ⟨h1, h2⟩ := zI2.1 hh
   exact hf h h1 ((zcd2 hk hv'.1 (hv'.2.2.1.each h h1).2 ha).2 ⟨h2, hc⟩)
  ·have p2 := zF9 (zj5 ha) hk
   have : ∀ m : List Hold, (∀ h ∈ m, h.amount.units = 0) → sumU (m.map (·.amount)) = 0 := by
    intro m
    induction m with
    | nil => intro _; rfl
    | cons h t ih => intro hh; simp only [List.map_cons, sumU, ih fun y hy => hh y (.tail _ hy), hh h (.head _)]; rfl
   rw [this _ fun h hh => (zF9 (zj5 (hv'.2.2.1.each h (zI2.1 hh).1).2) hk).1]
   omega
 ·have hnil : others p l = [] := by
   rw [List.eq_nil_iff_forall_not_mem]
   intro h hh
   obtain ⟨h1, h2⟩ := zI2.1 hh
   exact hf h h1 ((zcd3 hk).2 h2)
  rw [hnil]
  have := (zD9 r a).1 ha
  exact ⟨by simp, by simp [sumU]; omega⟩
def zbd2 : List Wait → Proc → List Proc
 | [], _ => []
 | w :: l, p => if w.proc = p then [] else w.proc :: zbd2 l p
theorem zaP6 {p : Proc} : ∀ {l : List Wait}, (∃ w ∈ l, w.proc = p) → ∃ pre w post, l = pre ++ w :: post ∧ w.proc = p ∧ zbd2 l p = pre.map (·.proc) ∧ ∀ x ∈ pre, x.proc ≠ p
 | [], h => by obtain ⟨w, hw, _⟩ := h; cases hw
 | x :: l, h => by
  by_cases e : x.proc = p
  ·exact ⟨[], x, l, rfl, e, by simp [zbd2, e], by simp⟩
  ·obtain ⟨pre, w, post, h1, h2, h3, h4⟩ := zaP6 (l := l) (p := p) (by
    obtain ⟨w, hw, hp⟩ := h
    rcases List.mem_cons.1 hw with rfl | hw
    ·exact absurd hp e
    ·exact ⟨w, hw, hp⟩)
   refine ⟨x :: pre, w, post, by rw [h1]; rfl, h2, by simp [zbd2, e, h3], fun y hy => ?_⟩
   rcases List.mem_cons.1 hy with rfl | hy
   ·exact e
   ·exact h4 y hy
theorem zbC4 {q : Queue} (hs : SoundP q) {w : Wait} (hw : w ∈ ordQ q) : zb3 w.proc = true ∧ za9 q.resource w.amount = true ∧ (others w.proc q.holds).length + 1 ≤ 8 := by
 have hvh := (zv3 _ _).1 hs.hv
 rcases List.mem_append.1 hw with h | h
 ·obtain ⟨h1, h2, _⟩ := hs.cg w h
  refine ⟨(hvh.2.2.1.each _ (zaf8 h1)).1, h2, ?_⟩
  have := zaM1 (zam6 hs.hv) h1
  omega
 ·have h1 := hs.wg w h
  have h2 := ((zX3 _).1 hs.wv).2.1 w h
  refine ⟨?_, h1.1, ?_⟩
  ·rw [← zab6] at h2
   unfold zh9 at h2
   rw [zau8] at h2
   simp only [Bool.and_eq_true] at h2
   exact h2.1.1.1.1.1
  ·have := hs.wl
   have h3 := zae8 w.proc q.holds
   have : 0 < q.waits.length := List.length_pos_of_mem h
   omega
structure Blocks (q : Queue) (p : Proc) (l : List Proc) : Prop where
 some : l ≠ []
 has : ∀ x ∈ l, hasQ q x = true ∧ x ≠ p
 got : getH (remS q l).holds p = (zz0 q p).1
theorem zek5 {q : Queue} (h : zb9 q = true) {p : Proc} (hw : (zz0 q p).2 = true) (l : List Proc) (hl : ∀ x, x ∈ l ↔ x ∈ zbd2 (ordQ q) p ∨ x ∈ zam4 q.resource q.holds p (zz0 q p).1) : Blocks q p l := by
 obtain ⟨hs, hc⟩ := (zg3 q).1 h
 have hex := (zba9 q p).1 hw
 obtain ⟨pre, w, post, e1, e2, e3, e4⟩ := zaP6 (l := ordQ q) hex
 have hwm : w ∈ ordQ q := by rw [e1]; exact List.mem_append_right _ (.head _)
 have hwa : zz0 q p = (w.amount, true) := by rw [← e2]; exact zbv9 hs.nodup hwm
 obtain ⟨o1, o2, o3⟩ := zbC4 hs hwm
 rw [e2] at o1 o3
 have hwa1 : (zz0 q p).1 = w.amount := by rw [hwa]
 rw [hwa1] at hl
 have hpr : zE1 q.resource q.holds p w.amount = true := by unfold zE1; rw [hs.hv, o1, o2]; rfl
 have hag : ∀ x ∈ zam4 q.resource q.holds p w.amount, x ∈ q.holds.map (·.proc) ∧ x ≠ p := fun x hx => by
  unfold zam4 at hx
  split at hx
  ·cases hx
  ·obtain ⟨y, hy, rfl⟩ := List.mem_map.1 hx
   obtain ⟨hy1, hy2⟩ := List.mem_filter.1 hy
   refine ⟨List.mem_map.2 ⟨y, hy1, rfl⟩, fun e => ?_⟩
   unfold foe at hy2
   rw [decide_eq_true e] at hy2
   simp at hy2
 have hpl : p ∉ l := fun hp => by
  rcases (hl p).1 hp with hp | hp
  ·rw [e3] at hp
   obtain ⟨x, hx, e⟩ := List.mem_map.1 hp
   exact e4 x hx e
  ·exact (hag p hp).2 rfl
 refine ⟨fun e => ?_, fun x hx => ?_, ?_⟩
 ·
  subst e
  have hpre : pre = [] := by
   cases pre with
   | nil => rfl
   | cons x pre => exact absurd ((hl x.proc).2 (.inl (by rw [e3]; exact .head _))) (by simp)
  rw [hpre, List.nil_append] at e1
  have hcq := zaT0 e1
  rw [e2, hc] at hcq
  have : zG0 q.resource q.holds p w.amount = true := by
   refine zaP5 hs.hv o1 o2 o3 fun y hy hf => ?_
   have : y.proc ∈ zam4 q.resource q.holds p w.amount := by
    unfold zam4
    rw [hpr, ← hcq]
    exact List.mem_map.2 ⟨y, List.mem_filter.2 ⟨hy, hf⟩, rfl⟩
   exact absurd ((hl y.proc).2 (.inr this)) (by simp)
  rw [this] at hcq; cases hcq
 ·refine ⟨?_, fun e => hpl (by rw [← e]; exact hx)⟩
  rw [zbo4 hs]
  rcases (hl x).1 hx with hx | hx
  ·left
   rw [e3] at hx
   rw [e1, List.map_append]
   exact List.mem_append_left _ hx
  ·exact .inr (hag x hx).1
 ·rw [hwa1]
  have e5 : (remS q l).holds = (advS (dels (noG q) l)).holds := by rw [← zbF5 l h]; rfl
  rw [e5]
  have hsd : SoundP (dels (noG q) l) := hs.noG.dels l
  have hod : ordQ (dels (noG q) l) = w :: post.filter fun x => decide (x.proc ∉ l) := by
   rw [zce7]
   show (ordQ q).filter _ = _
   rw [e1, List.filter_append, List.filter_eq_nil_iff.2 ?_, List.nil_append, List.filter_cons, if_pos (by rw [e2]; simpa using hpl)]
   intro x hx
   have : x.proc ∈ l := (hl x.proc).2 (.inl (by rw [e3]; exact List.mem_map.2 ⟨x, hx, rfl⟩))
   simpa using this
  have hhold : (dels (noG q) l).holds = q.holds.filter fun x => decide (x.proc ∉ l) := by rw [zap5]; rfl
  have hres : (dels (noG q) l).resource = q.resource := by rw [zap5]; rfl
  have hsub : (q.holds.filter fun x => decide (x.proc ∉ l)).Sublist q.holds := List.filter_sublist
  have hroom : zG0 q.resource (q.holds.filter fun x => decide (x.proc ∉ l)) p w.amount = true := by
   cases hr : zG0 q.resource q.holds p w.amount with
   | true => exact zba7 hr hsub
   | false =>
    refine zaP5 (zaf6 hs.hv hsub) o1 o2 (by have := (hsub.filter (fun h => !decide (h.proc = p))).length_le; unfold others at o3 ⊢; omega) fun y hy hf => ?_
    obtain ⟨hy1, hy2⟩ := List.mem_filter.1 hy
    simp only [decide_eq_true_eq] at hy2
    refine hy2 ((hl y.proc).2 (.inr ?_))
    unfold zam4
    rw [hpr, hr]
    exact List.mem_map.2 ⟨y, List.mem_filter.2 ⟨hy1, hf⟩, rfl⟩
  have hcan : canQ (dels (noG q) l) = true := by rw [zaT0 hod, hhold, hres, e2]; exact hroom
  have hhd : (zj4 (dels (noG q) l)).1 = w := by
   have : (dels (noG q) l).converts ++ (dels (noG q) l).waits = w :: _ := hod
   unfold zj4; rw [this]
  have := (zbK1 hsd hcan).1
  rw [hhd, e2] at this
  exact this
end Ab
end Go.Proofs.YtfjeceicgfdmjaaGreatDoor
namespace Go.Proofs.YtfjeceicgfdmjaaGreatDoor
namespace Ab
set_option linter.unusedVariables false
set_option linter.unusedSimpArgs false
inductive StepQ (q : Queue) : Queue → Prop where
 | same : StepQ q q
 | claim (p : Proc) (a : Amount) (pr : Int) (h : (zC3 q p a pr).2.2 = 0) : StepQ q (zC3 q p a pr).1
 | cancel (p : Proc) (h : (zE2 q p).2.2 = 0) : StepQ q (zE2 q p).1
 | lower (p : Proc) (a : Amount) (h : (zC4 q p a).2.2 = 0) : StepQ q (zC4 q p a).1
 | remove (p : Proc) (h : (zt5 q p).2.2 = 0) : StepQ q (zt5 q p).1
theorem zap6 {q x : Queue} (h : zb9 q = true) (hx : StepQ q x) : zb9 x = true ∧ x.resource = q.resource := by
 have hr : ∀ y : Queue, (zm0 y).1.resource = y.resource := fun y => (zaH0 y).2
 cases hx with
 | same => exact ⟨h, rfl⟩
 | claim p a pr h0 =>
  obtain ⟨_, _, _, _, _, hh⟩ := zaM2 h0
  rcases hh with ⟨_, e⟩ | ⟨_, _, e, hs⟩ | ⟨_, _, _, e, hs⟩
  ·rw [e]; exact ⟨h, rfl⟩
  ·rw [e, hr]; exact ⟨zD0 hs, rfl⟩
  ·rw [e, hr]; exact ⟨zD0 hs, rfl⟩
 | cancel p h0 => obtain ⟨_, _, _, e, hs⟩ := zap0 h0; rw [e, hr]; exact ⟨zD0 hs, rfl⟩
 | lower p a h0 =>
  obtain ⟨_, _, _, _, _, hh⟩ := zay1 h0
  rcases hh with ⟨_, e⟩ | ⟨_, e, hs⟩
  ·rw [e]; exact ⟨h, rfl⟩
  ·rw [e, hr]; exact ⟨zD0 hs, rfl⟩
 | remove p h0 => obtain ⟨_, _, _, e, hs⟩ := zaD6 h0; rw [e, hr]; exact ⟨zD0 hs, rfl⟩
end Ab
end Go.Proofs.YtfjeceicgfdmjaaGreatDoor
namespace Go.Proofs.YtfjeceicgfdmjaaGreatDoor
namespace Ab
set_option linter.unusedVariables false
set_option linter.unusedSimpArgs false
theorem zai2 (q : Queue) (x : Proc) : hasQ (zm0 q).1 x = hasQ q x := by rw [zV3, zbF4, zbF3]
theorem zbK5 {q : Queue} {p : Proc} {a : Amount} {pr : Int} (h : (zC3 q p a pr).2.2 = 0) {x : Proc} (hx : hasQ (zC3 q p a pr).1 x = true) : hasQ q x = true ∨ x = p := by
 obtain ⟨_, _, _, _, _, hh⟩ := zaM2 h
 rcases hh with ⟨_, e⟩ | ⟨_, _, e, _⟩ | ⟨_, _, _, e, _⟩
 ·rw [e] at hx; exact .inl hx
 ·rw [e, zai2, zl3] at hx
  rcases hx with ⟨w, hw, ew⟩ | hx
  ·unfold ordQ claimC at hw
   simp only [List.mem_append, List.mem_singleton] at hw
   rcases hw with (hw | hw) | hw
   ·exact .inl ((zl3 q x).2 (.inl ⟨w, List.mem_append_left _ hw, ew⟩))
   ·rw [hw] at ew; exact .inr ew.symm
   ·exact .inl ((zl3 q x).2 (.inl ⟨w, List.mem_append_right _ hw, ew⟩))
  ·exact .inl ((zl3 q x).2 (.inr hx))
 ·rw [e, zai2, zl3] at hx
  rcases hx with ⟨w, hw, ew⟩ | hx
  ·unfold ordQ claimW zaq8 at hw
   simp only [List.mem_append, List.mem_cons, List.mem_map] at hw
   rcases hw with hw | hw | hw | ⟨y, hy, rfl⟩
   ·exact .inl ((zl3 q x).2 (.inl ⟨w, List.mem_append_left _ hw, ew⟩))
   ·exact .inl ((zl3 q x).2 (.inl ⟨w, List.mem_append_right _ (List.mem_of_mem_take hw), ew⟩))
   ·rw [hw] at ew; exact .inr ew.symm
   ·exact .inl ((zl3 q x).2 (.inl ⟨y, List.mem_append_right _ (List.mem_of_mem_drop hy), ew⟩))
  ·exact .inl ((zl3 q x).2 (.inr hx))
theorem zbC5 {q : Queue} {p : Proc} (h : (zE2 q p).2.2 = 0) {x : Proc} (hx : hasQ (zE2 q p).1 x = true) : hasQ q x = true := by
 obtain ⟨_, _, _, e, _⟩ := zap0 h
 rw [e, zai2, zl3] at hx
 rcases hx with ⟨w, hw, ew⟩ | hx
 ·unfold ordQ zai1 at hw
  simp only [List.mem_append, zax9] at hw
  rcases hw with hw | hw
  ·exact (zl3 q x).2 (.inl ⟨w, List.mem_append_left _ hw.1, ew⟩)
  ·exact (zl3 q x).2 (.inl ⟨w, List.mem_append_right _ hw.1, ew⟩)
 ·exact (zl3 q x).2 (.inr hx)
theorem zbK6 {q : Queue} {p : Proc} {a : Amount} (h : (zC4 q p a).2.2 = 0) {x : Proc} (hx : hasQ (zC4 q p a).1 x = true) : hasQ q x = true := by
 obtain ⟨_, _, hp, _, _, hh⟩ := zay1 h
 rcases hh with ⟨_, e⟩ | ⟨_, e, _⟩
 ·rw [e] at hx; exact hx
 ·rw [e, zai2, zl3] at hx
  rcases hx with hx | hx
  ·exact (zl3 q x).2 (.inl hx)
  ·refine (zl3 q x).2 (.inr ?_)
   by_cases e : x = p
   ·rw [e]; exact hp
   ·unfold zao9 at hx
    rwa [zz9 e] at hx
theorem ValidT.set {t : List Queue} (h : ValidT t) {i : Nat} (hi : i < t.length) {q : Queue} (p : Proc) (h1 : zb9 q = true) (h2 : q.resource = (t.getD i Queue.zero).resource) (h3 : ∀ x, hasQ q x = true → x ∈ zr4 t ∨ x = p)
  (h4 : zar1 t p = false) : ValidT (t.set i q) := by
 have he : ∀ y ∈ t.set i q, zb9 y = true := fun y hy => by
  rcases List.mem_or_eq_of_mem_set hy with hy | rfl
  ·exact h.each y hy
  ·exact h1
 refine ⟨by rw [List.length_set]; exact h.len, he, ?_, ?_⟩
 ·have ha := h.asc
  unfold AscN at *
  rw [List.pairwise_iff_getElem] at ha ⊢
  have hr : ∀ k (hk : k < (t.set i q).length), ((t.set i q)[k]).resource = (t[k]'(by rw [List.length_set] at hk; exact hk)).resource := fun k hk => by
   rw [List.getElem_set]
   split
   ·next e => subst e; rw [h2, List.getD_eq_getElem?_getD, List.getElem?_eq_getElem hi]; rfl
   ·rfl
  intro a b hla hlb hab
  rw [hr a hla, hr b hlb]
  exact ha a b _ _ hab
 ·have hsub : ∀ x ∈ zr4 (t.set i q), x ∈ zr4 t ∨ x = p := fun x hx => by
   obtain ⟨y, hy, hp⟩ := (zY0 he).1 hx
   rcases List.mem_or_eq_of_mem_set hy with hy | rfl
   ·exact .inl ((zY0 h.each).2 ⟨y, hy, hp⟩)
   ·exact h3 x hp
  have hpl := h.procs
  by_cases hp : p ∈ zr4 t
  ·refine Nat.le_trans (List.Nodup.length_le_of_subset (zap4 _) (l₂ := zr4 t) fun x hx => ?_) hpl
   rcases hsub x hx with hx | rfl
   ·exact hx
   ·exact hp
  ·have h5 : (zr4 t).length < 8 := by
    unfold zar1 at h4
    simp only [hp, decide_false, Bool.not_false, Bool.and_true, decide_eq_false_iff_not] at h4
    omega
   have := List.Nodup.length_le_of_subset (zap4 (t.set i q)) (l₂ := p :: zr4 t) fun x hx => by
    rcases hsub x hx with hx | rfl
    ·exact .tail _ hx
    ·exact .head _
   rw [List.length_cons] at this
   omega
theorem zV4 {t : List Queue} (h : ValidT t) {i : Nat} (hi : i < t.length) {x : Proc} (hx : hasQ (t.getD i Queue.zero) x = true) : x ∈ zr4 t := (zY0 h.each).2 ⟨_, zr1 hi, hx⟩
theorem zbF8 {t : List Queue} {p : Proc} (h : p ∈ zr4 t) : zar1 t p = false := by unfold zar1; simp [h]
theorem zce8 {t : List Queue} {nm : ByteArray} {f : Queue → ResT} (h : (atT t nm f).2.2 = 0) : ValidT t ∧ ∃ i : Nat, zi3 t nm = i ∧ i < t.length ∧ (t.getD i Queue.zero).resource.name = nm ∧ atT t nm f = f (t.getD i Queue.zero) := by
 unfold atT at h ⊢
 cases hv : zP6 t with
 | false => rw [hv, if_pos rfl] at h; exact absurd h (by decide)
 | true =>
  rw [hv, if_neg (by decide)] at h
  rw [if_neg (by decide)]
  by_cases hf : zi3 t nm < 0
  ·rw [if_pos hf] at h; exact absurd h (by decide)
  ·rw [if_neg hf]
   rcases zbc4 (t := t) (nm := nm) with h1 | ⟨i, h1, h2, h3⟩
   ·omega
   ·exact ⟨(zM7 t).1 hv, i, h1, h2, h3, by rw [h1]; rfl⟩
theorem zbC6 {t : List Queue} {nm : ByteArray} {x : Queue × List Hold × Int} {ev : List Event} (h : (putT t nm x ev).2.2 = 0) : x.2.2 = 0 ∧ putT t nm x ev = (zaw5 t (zi3 t nm) x.1, ev ++ zK6 nm x.2.1, 0) := by
 unfold putT at h ⊢
 by_cases e : x.2.2 = 0
 ·rw [if_pos e]; exact ⟨e, rfl⟩
 ·rw [if_neg e] at h; exact absurd h e
theorem zbd3 (t : List Queue) (i : Nat) (q : Queue) : zaw5 t (i : Int) q = t.set i q := by unfold zaw5; rw [if_pos (by omega)]; rfl
theorem zbK7 {t : List Queue} {p : Proc} {a : Atom} {pr : Int} (h : (zak0 t p a pr).2.2 = 0) : ∃ i : Nat, i < t.length ∧ (t.getD i Queue.zero).resource.name = a.name ∧ zi3 t a.name = i ∧ (zC3 (t.getD i Queue.zero) p a.amount pr).2.2 = 0 ∧ (zak0 t p a pr).1 = t.set i (zC3 (t.getD i Queue.zero) p a.amount pr).1 ∧ ValidT t ∧ ValidT (zak0 t p a pr).1 := by
 unfold zak0 at h ⊢
 obtain ⟨hv, i, h1, h2, h3, e⟩ := zce8 h
 rw [e] at h ⊢
 cases hfu : zar1 t p with
 | true => rw [hfu, if_pos rfl] at h; exact absurd h (by decide)
 | false =>
  rw [hfu, if_neg (by decide)] at h
  rw [if_neg (by decide)]
  obtain ⟨e0, e1⟩ := zbC6 h
  rw [e1, h1, zbd3]
  have hq := hv.each _ (zr1 (z := Queue.zero) h2)
  have hs := zap6 hq (.claim p a.amount pr e0)
  refine ⟨i, h2, h3, rfl, e0, rfl, hv, hv.set h2 p hs.1 hs.2 (fun x hx => ?_) hfu⟩
  rcases zbK5 e0 hx with hx | hx
  ·exact .inl (zV4 hv h2 hx)
  ·exact .inr hx
theorem zbC7 {t : List Queue} {p : Proc} {nm : ByteArray} (h : (zap3 t p nm).2.2 = 0) : ∃ i : Nat, i < t.length ∧ (zap3 t p nm).1 = t.set i (zE2 (t.getD i Queue.zero) p).1 ∧ ValidT t ∧ ValidT (zap3 t p nm).1 := by
 unfold zap3 at h ⊢
 obtain ⟨hv, i, h1, h2, h3, e⟩ := zce8 h
 rw [e] at h ⊢
 obtain ⟨e0, e1⟩ := zbC6 h
 rw [e1, h1, zbd3]
 have hq := hv.each _ (zr1 (z := Queue.zero) h2)
 have hs := zap6 hq (.cancel p e0)
 obtain ⟨_, _, hw, _, _⟩ := zap0 e0
 have hp : hasQ (t.getD i Queue.zero) p = true := by unfold hasQ; rw [hw]; rfl
 exact ⟨i, h2, rfl, hv, hv.set h2 p hs.1 hs.2 (fun x hx => .inl (zV4 hv h2 (zbC5 e0 hx))) (zbF8 (zV4 hv h2 hp))⟩
theorem zbK8 {t : List Queue} {p : Proc} {a : Atom} (h : (zaE1 t p a).2.2 = 0) : ∃ i : Nat, i < t.length ∧ (zaE1 t p a).1 = t.set i (zC4 (t.getD i Queue.zero) p a.amount).1 ∧ ValidT t ∧ ValidT (zaE1 t p a).1 := by
 unfold zaE1 at h ⊢
 obtain ⟨hv, i, h1, h2, h3, e⟩ := zce8 h
 rw [e] at h ⊢
 obtain ⟨e0, e1⟩ := zbC6 h
 rw [e1, h1, zbd3]
 have hq := hv.each _ (zr1 (z := Queue.zero) h2)
 have hs := zap6 hq (.lower p a.amount e0)
 obtain ⟨_, _, hp0, _, _, _⟩ := zay1 e0
 have hp : hasQ (t.getD i Queue.zero) p = true := (zl3 _ _).2 (.inr hp0)
 exact ⟨i, h2, rfl, hv, hv.set h2 p hs.1 hs.2 (fun x hx => .inl (zV4 hv h2 (zbK6 e0 hx))) (zbF8 (zV4 hv h2 hp))⟩
abbrev StT := List Queue × Tape
def zbp7 (t : List Queue) (i : Int) : ByteArray := (t.getD i.toNat Queue.zero).resource.name
def zbF9 (t : List Queue) (i : Int) : Resource := (t.getD i.toNat Queue.zero).resource
def zar2 (g : StT) : ResT × Tape :=
 let i := zA8 g.1.length (zy1 g.2)
 let p := zbw8 (zA8 8 (zC7 2 g.2))
 let a := amtM (zbF9 g.1 i) (zA8 64 (zC7 3 g.2))
 if zA8 8 g.2 = 0 then (zap3 g.1 p (zbp7 g.1 i), zC7 4 g.2)
 else if zA8 8 g.2 = 1 then (zaE1 g.1 p ⟨zbp7 g.1 i, a⟩, zC7 4 g.2)
 else (zak0 g.1 p ⟨zbp7 g.1 i, a⟩ (zA8 8 (zC7 4 g.2)), zC7 5 g.2)
def zaP7 (g : StT) : StT := (if (zar2 g).1.2.2 = 0 then (zar2 g).1.1 else g.1, (zar2 g).2)
structure InvT (g : StT) : Prop where
 valid : ValidT g.1
 pos : 0 < g.1.length
 tape : TapeOk g.2
def zbG0 (g : StT) : Nat := g.2.l.length - g.2.at_.toNat
theorem zbp8 {t : List Queue} (h : ValidT t) {i : Int} (h0 : 0 ≤ i) (h1 : i < t.length) : zb4 (zbF9 t i) = true := zbc0 (h.each _ (zr1 (by omega)))
theorem zaP8 {g : StT} (h : InvT g) : ValidT (zaP7 g).1 ∧ (zaP7 g).1.length = g.1.length := by
 unfold zaP7
 by_cases e : (zar2 g).1.2.2 = 0
 ·rw [if_pos e]
  unfold zar2 at e ⊢
  simp only at e ⊢
  split at e
  ·next h0 =>
   rw [if_pos h0]
   obtain ⟨i, _, e1, _, e2⟩ := zbC7 e
   exact ⟨e2, by simp only [e1, List.length_set]⟩
  ·next h0 =>
   rw [if_neg h0]
   split at e
   ·next h1 =>
    rw [if_pos h1]
    obtain ⟨i, _, e1, _, e2⟩ := zbK8 e
    exact ⟨e2, by simp only [e1, List.length_set]⟩
   ·next h1 =>
    rw [if_neg h1]
    obtain ⟨i, _, _, _, _, e1, _, e2⟩ := zbK7 e
    exact ⟨e2, by simp only [e1, List.length_set]⟩
 ·rw [if_neg e]; exact ⟨h.valid, rfl⟩
theorem zbG1 : ∀ (n : Nat) (u : Tape), (zC7 n u).l = u.l
 | 0, _ => rfl
 | n + 1, u => by rw [zC7, zbG1 n, zck7]
theorem zby2 : ∀ (n : Nat) {u : Tape}, TapeOk u → u.at_ ≤ (zC7 n u).at_
 | 0, _, _ => Int.le_refl _
 | n + 1, u, h => by
  rw [zC7]
  refine Int.le_trans ?_ (zby2 n (zE3 h))
  unfold zy1
  split
  ·exact Int.le_refl _
  ·simp only; omega
theorem zbd4 (g : StT) : (zar2 g).2 = zC7 4 g.2 ∨ (zar2 g).2 = zC7 5 g.2 := by
 unfold zar2
 simp only
 split
 ·exact .inl rfl
 ·split
  ·exact .inl rfl
  ·exact .inr rfl
theorem zbK9 {g : StT} (h : InvT g) : InvT (zaP7 g) := by
 have h1 := zaP8 h
 refine ⟨h1.1, by rw [h1.2]; exact h.pos, ?_⟩
 show TapeOk (zar2 g).2
 rcases zbd4 g with e | e <;> rw [e] <;> exact zbb8 _ h.tape
theorem zbC8 {g : StT} (h : InvT g) (hm : g.2.at_ < g.2.l.length) : zbG0 (zaP7 g) < zbG0 g := by
 have ht := h.tape.at_
 have e1 : (zy1 g.2).at_ = g.2.at_ + 1 := by unfold zy1; rw [if_neg (by omega)]
 have key : ∀ n, g.2.at_ + 1 ≤ (zC7 (n + 1) g.2).at_ := fun n => by rw [zC7, ← e1]; exact zby2 n (zE3 h.tape)
 unfold zbG0
 show (zar2 g).2.l.length - (zar2 g).2.at_.toNat < _
 rcases zbd4 g with e | e <;> rw [e, zbG1]
 ·have : g.2.at_ + 1 ≤ (zC7 4 g.2).at_ := key 3
  omega
 ·have : g.2.at_ + 1 ≤ (zC7 5 g.2).at_ := key 4
  omega
theorem zbL0 {g : StT} (h : InvT g) : zI7 g = some (if g.2.at_ < g.2.l.length then .inl (zaP7 g) else .inr g.1) := by
 have hl := h.valid.len
 have hp := h.pos
 have o1 := zE3 h.tape
 have o2 := zE3 o1
 have o3 := zE3 o2
 have o4 := zE3 o3
 have r1 := zG5 (g.1.length : Int) (zy1 g.2) (by omega)
 unfold zI7 zp9
 simp only [Option.bind_some]
 by_cases hm : g.2.at_ < g.2.l.length
 ·rw [if_pos (decide_eq_true hm), if_pos hm, zY7 8 _ h.tape (by decide) (by decide), Option.bind_some]
  simp only
  rw [zY7 _ _ o1 (by omega) (by omega), Option.bind_some, zb2 r1]
  simp only
  rw [zY7 8 _ o2 (by decide) (by decide), Option.bind_some, zap2, Option.bind_some]
  simp only
  rw [zY7 64 _ o3 (by decide) (by decide), Option.bind_some]
  have hsh := zbp8 h.valid r1.1 r1.2
  unfold zbF9 at hsh
  simp only
  rw [zbb7 _ _ hsh, Option.bind_some]
  have k2 : ∀ (r : ResT) (u : Tape), zy5 g (r.1, r.2.2, u) = some (.inl (if r.2.2 = 0 then r.1 else g.1, u)) := fun r u => by
   unfold zy5
   by_cases e : r.2.2 = 0
   ·simp only [e, decide_true, if_true]
   ·simp only [e, decide_false, Bool.false_eq_true, if_false]
  unfold zaP7 zar2 zbF9 zbp7
  simp only [zaR6, zbd0, zbc9, Option.bind_some, k2, zY7 8 _ o4 (by decide) (by decide), decide_eq_true_eq]
  by_cases h0 : zA8 8 g.2 = 0
  ·simp only [h0, if_true]; rfl
  ·simp only [h0, if_false]
   by_cases h1 : zA8 8 g.2 = 1
   ·simp only [h1, if_true]; rfl
   ·simp only [h1, if_false]; rfl
 ·rw [if_neg (by rw [decide_eq_true_eq]; exact hm), if_neg hm]
def zbk1 (l : List Int) : Tape := { Tape.zero with l := l }
def zap7 (l : List Int) : StT := ((newT (catL (zbk1 l))).1, zC7 8 (zbk1 l))
theorem zby3 {l : List Int} (h : l.length ≤ 1000000) : TapeOk (zbk1 l) := ⟨h, by show 0 ≤ (0 : Int) ∧ (0 : Int) ≤ l.length; omega⟩
theorem zce9 (u : Tape) : (catL u).Pairwise (fun a b => ltN a.name b.name) := by
 have h : ∀ x y : UInt8, x < y → ltN ⟨#[x]⟩ ⟨#[y]⟩ := by
  intro x y hxy
  unfold ltN
  rw [ByteArray.toList_eq, ByteArray.toList_eq]
  simp [Op.bytesLess, hxy]
 unfold catL
 simp only [List.pairwise_cons, List.mem_cons, List.not_mem_nil, or_false, forall_eq_or_imp, forall_eq, List.Pairwise.nil, and_true, false_implies, implies_true]
 refine ⟨⟨?_, ?_, ?_, ?_, ?_⟩, ⟨?_, ?_, ?_, ?_⟩, ⟨?_, ?_, ?_⟩, ⟨?_, ?_⟩, ?_⟩ <;> exact h _ _ (by decide)
theorem zby4 (u : Tape) : catV (catL u) = true := by
 rw [zaH7]
 exact ⟨by show 6 ≤ 8; decide, zbC1 u, zce9 u⟩
theorem zbL1 {r : Resource} (x : Proc) : hasQ (zJ6 r) x = false := by
 rw [Bool.eq_false_iff, Ne, zl3]
 rintro (⟨w, hw, _⟩ | h)
 ·cases hw
 ·exact h rfl
theorem zbL2 {l : List Resource} (h : catV l = true) : ValidT (l.map zJ6) := by
 obtain ⟨h1, h2, h3⟩ := (zaH7 l).1 h
 have he : ∀ q ∈ l.map zJ6, zb9 q = true := fun q hq => by
  obtain ⟨r, hr, rfl⟩ := List.mem_map.1 hq
  exact zbf8 (h2 r hr)
 refine ⟨by rw [List.length_map]; exact h1, he, ?_, ?_⟩
 ·unfold AscN; rw [List.pairwise_map]; exact h3
 ·have : zr4 (l.map zJ6) = [] := by
   refine List.eq_nil_iff_forall_not_mem.2 fun x hx => ?_
   obtain ⟨q, hq, hp⟩ := (zY0 he).1 hx
   obtain ⟨r, _, rfl⟩ := List.mem_map.1 hq
   rw [zbL1] at hp; cases hp
  rw [this]; exact Nat.zero_le _
theorem zbL3 {l : List Int} (h : l.length ≤ 1000000) : InvT (zap7 l) ∧ (zap7 l).1.length = 6 := by
 have e : (newT (catL (zbk1 l))).1 = (catL (zbk1 l)).map zJ6 := by unfold newT; rw [if_pos (zby4 _)]
 have hl : (zap7 l).1.length = 6 := by unfold zap7; rw [e, List.length_map]; rfl
 refine ⟨⟨?_, by omega, zbb8 8 (zby3 h)⟩, hl⟩
 unfold zap7
 simp only
 rw [e]
 exact zbL2 (zby4 _)
theorem zek6 {l : List Int} (h : l.length ≤ 1000000) : ∃ t, zD7 l = some t ∧ ValidT t ∧ t.length = 6 := by
 unfold zD7
 rw [show ({ Tape.zero with l := l } : Tape) = zbk1 l from rfl, zbC0 _ (zby3 h), Option.bind_some, zbp4, Option.bind_some]
 obtain ⟨h1, h2⟩ := zbL3 h
 obtain ⟨x, hx, hp⟩ := zQ1 (body := zI7) (fun g => InvT g ∧ g.1.length = 6) zbG0 (fun t => ValidT t ∧ t.length = 6) (by
  rintro g ⟨hg, hl⟩
  rw [zbL0 hg]
  by_cases hm : g.2.at_ < g.2.l.length
  ·exact .inl ⟨zaP7 g, by rw [if_pos hm], ⟨zbK9 hg, by rw [(zaP8 hg).2, hl]⟩, zbC8 hg hm⟩
  ·exact .inr ⟨g.1, by rw [if_neg hm], hg.valid, hl⟩) (zap7 l) ⟨h1, h2⟩
 refine ⟨x, ?_, hp⟩
 unfold zap7 at hx
 rw [hx]; rfl
end Ab
end Go.Proofs.YtfjeceicgfdmjaaGreatDoor
namespace Go.Proofs.YtfjeceicgfdmjaaGreatDoor
namespace Ab
set_option linter.unusedVariables false
set_option linter.unusedSimpArgs false
end Ab
end Go.Proofs.YtfjeceicgfdmjaaGreatDoor
