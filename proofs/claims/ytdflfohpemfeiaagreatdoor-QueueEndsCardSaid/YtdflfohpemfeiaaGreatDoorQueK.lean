/-
  For whom a process waits; that it is let in when all of these are gone.
-/
import Derived.Test.YtdflfohpemfeiaaGreatDoorQueJ
namespace Go.Proofs.YtdflfohpemfeiaaGreatDoor
namespace Ab
set_option linter.unusedVariables false
set_option linter.unusedSimpArgs false
theorem filter_dels {α : Type} (f : α → Proc) : ∀ (ps : List Proc) (l : List α), ps.foldl (fun l p => l.filter fun x => !decide (f x = p)) l = l.filter fun x => decide (f x ∉ ps)
 | [], l => (List.filter_eq_self.2 (by simp)).symm
 | p :: ps, l => by
  rw [List.foldl_cons, filter_dels f ps, List.filter_filter]
  congr 1
  funext x
  by_cases e1 : f x = p <;> by_cases e2 : f x ∈ ps <;> simp [e1, e2]
theorem dels_parts : ∀ (ps : List Proc) (q : Queue), dels q ps = { q with holds := q.holds.filter fun x => decide (x.proc ∉ ps), converts := q.converts.filter fun x => decide (x.proc ∉ ps), waits := q.waits.filter fun x => decide (x.proc ∉ ps) }
 | [], q => by simp [dels, List.filter_eq_self.2]
 | p :: ps, q => by
  show dels (del q p) ps = _
  rw [dels_parts ps]
  have e : ∀ {α : Type} (f : α → Proc) (l : List α), (l.filter fun x => !decide (f x = p)).filter (fun x => decide (f x ∉ ps)) = l.filter fun x => decide (f x ∉ p :: ps) := by
   intro α f l
   rw [List.filter_filter]
   congr 1
   funext x
   by_cases e1 : f x = p <;> by_cases e2 : f x ∈ ps <;> simp [e1, e2]
  have e1 := e (fun x : Hold => x.proc) q.holds
  have e2 := e (fun x : Wait => x.proc) q.converts
  have e3 := e (fun x : Wait => x.proc) q.waits
  unfold del others rmL notP
  simp only [e1, e2, e3]
theorem ord_dels (ps : List Proc) (q : Queue) : ordQ (dels q ps) = (ordQ q).filter fun w => decide (w.proc ∉ ps) := by
 rw [dels_parts]; unfold ordQ; rw [List.filter_append]
theorem no_foe_room {r : Resource} {l : List Hold} {p : Proc} {a : Amount} (hv : validH r l = true) (hp : f_ident_ValidProc p = true) (ha : f_amount_Fits r a = true) (hl : (others p l).length + 1 ≤ 8) (hf : ∀ h ∈ l, ¬ foe r p a h = true) : roomH r l p a = true := by
 have hv' := (validH_iff r l).1 hv
 rw [room_iff hv hp ha hl]
 by_cases hk : r.kind = 1
 ·refine ⟨fun h hh hc => ?_, ?_⟩
  ·obtain ⟨h1, h2⟩ := mem_others.1 hh
   exact hf h h1 ((foe_lock hk hv'.1 (hv'.2.2.1.each h h1).2 ha).2 ⟨h2, hc⟩)
  ·have p2 := perm_lock (fits_perm ha) hk
   have : ∀ m : List Hold, (∀ h ∈ m, h.amount.units = 0) → sumU (m.map (·.amount)) = 0 := by
    intro m
    induction m with
    | nil => intro _; rfl
    | cons h t ih => intro hh; simp only [List.map_cons, sumU, ih fun y hy => hh y (.tail _ hy), hh h (.head _)]; rfl
   rw [this _ fun h hh => (perm_lock (fits_perm (hv'.2.2.1.each h (mem_others.1 hh).1).2) hk).1]
   omega
 ·have hnil : others p l = [] := by
   rw [List.eq_nil_iff_forall_not_mem]
   intro h hh
   obtain ⟨h1, h2⟩ := mem_others.1 hh
   exact hf h h1 ((foe_pool hk).2 h2)
  rw [hnil]
  have := (fits_iff r a).1 ha
  exact ⟨by simp, by simp [sumU]; omega⟩
def aheadL : List Wait → Proc → List Proc
 | [], _ => []
 | w :: l, p => if w.proc = p then [] else w.proc :: aheadL l p
theorem ahead_split {p : Proc} : ∀ {l : List Wait}, (∃ w ∈ l, w.proc = p) → ∃ pre w post, l = pre ++ w :: post ∧ w.proc = p ∧ aheadL l p = pre.map (·.proc) ∧ ∀ x ∈ pre, x.proc ≠ p
 | [], h => by obtain ⟨w, hw, _⟩ := h; cases hw
 | x :: l, h => by
  by_cases e : x.proc = p
  ·exact ⟨[], x, l, rfl, e, by simp [aheadL, e], by simp⟩
  ·obtain ⟨pre, w, post, h1, h2, h3, h4⟩ := ahead_split (l := l) (p := p) (by
    obtain ⟨w, hw, hp⟩ := h
    rcases List.mem_cons.1 hw with rfl | hw
    ·exact absurd hp e
    ·exact ⟨w, hw, hp⟩)
   refine ⟨x :: pre, w, post, by rw [h1]; rfl, h2, by simp [aheadL, e, h3], fun y hy => ?_⟩
   rcases List.mem_cons.1 hy with rfl | hy
   ·exact e
   ·exact h4 y hy
theorem waiting_ok {q : Queue} (hs : SoundP q) {w : Wait} (hw : w ∈ ordQ q) : f_ident_ValidProc w.proc = true ∧ f_amount_Fits q.resource w.amount = true ∧ (others w.proc q.holds).length + 1 ≤ 8 := by
 have hvh := (validH_iff _ _).1 hs.hv
 rcases List.mem_append.1 hw with h | h
 ·obtain ⟨h1, h2, _⟩ := hs.cg w h
  refine ⟨(hvh.2.2.1.each _ (getH_mem h1)).1, h2, ?_⟩
  have := others_lt (valid_asc hs.hv) h1
  omega
 ·have h1 := hs.wg w h
  have h2 := ((validL_iff _).1 hs.wv).2.1 w h
  refine ⟨?_, h1.1, ?_⟩
  ·rw [← validWait_eq] at h2
   unfold f_ref11_ValidWait at h2
   rw [vproc_eq] at h2
   simp only [Bool.and_eq_true] at h2
   exact h2.1.1.1.1.1
  ·have := hs.wl
   have h3 := others_len w.proc q.holds
   have : 0 < q.waits.length := List.length_pos_of_mem h
   omega
structure Blocks (q : Queue) (p : Proc) (l : List Proc) : Prop where
 some : l ≠ []
 has : ∀ x ∈ l, hasQ q x = true ∧ x ≠ p
 got : getH (remS q l).holds p = (wantQ q p).1
theorem blocks {q : Queue} (h : settledQ q = true) {p : Proc} (hw : (wantQ q p).2 = true) (l : List Proc) (hl : ∀ x, x ∈ l ↔ x ∈ aheadL (ordQ q) p ∨ x ∈ againstL q.resource q.holds p (wantQ q p).1) : Blocks q p l := by
 obtain ⟨hs, hc⟩ := (settled_iff q).1 h
 have hex := (want_iff q p).1 hw
 obtain ⟨pre, w, post, e1, e2, e3, e4⟩ := ahead_split (l := ordQ q) hex
 have hwm : w ∈ ordQ q := by rw [e1]; exact List.mem_append_right _ (.head _)
 have hwa : wantQ q p = (w.amount, true) := by rw [← e2]; exact want_amount hs.nodup hwm
 obtain ⟨o1, o2, o3⟩ := waiting_ok hs hwm
 rw [e2] at o1 o3
 have hwa1 : (wantQ q p).1 = w.amount := by rw [hwa]
 rw [hwa1] at hl
 have hpr : properH q.resource q.holds p w.amount = true := by unfold properH; rw [hs.hv, o1, o2]; rfl
 have hag : ∀ x ∈ againstL q.resource q.holds p w.amount, x ∈ q.holds.map (·.proc) ∧ x ≠ p := fun x hx => by
  unfold againstL at hx
  split at hx
  ·cases hx
  ·obtain ⟨y, hy, rfl⟩ := List.mem_map.1 hx
   obtain ⟨hy1, hy2⟩ := List.mem_filter.1 hy
   refine ⟨List.mem_map.2 ⟨y, hy1, rfl⟩, fun e => ?_⟩
   unfold foe at hy2
   rw [decide_eq_true e] at hy2
   simp at hy2
 have hpl : p ∉ l := fun hp => by
  rcases (hl p).1 hp with hp | hp
  ·rw [e3] at hp
   obtain ⟨x, hx, e⟩ := List.mem_map.1 hp
   exact e4 x hx e
  ·exact (hag p hp).2 rfl
 refine ⟨fun e => ?_, fun x hx => ?_, ?_⟩
 ·
  subst e
  have hpre : pre = [] := by
   cases pre with
   | nil => rfl
   | cons x pre => exact absurd ((hl x.proc).2 (.inl (by rw [e3]; exact .head _))) (by simp)
  rw [hpre, List.nil_append] at e1
  have hcq := canQ_of e1
  rw [e2, hc] at hcq
  have : roomH q.resource q.holds p w.amount = true := by
   refine no_foe_room hs.hv o1 o2 o3 fun y hy hf => ?_
   have : y.proc ∈ againstL q.resource q.holds p w.amount := by
    unfold againstL
    rw [hpr, ← hcq]
    exact List.mem_map.2 ⟨y, List.mem_filter.2 ⟨hy, hf⟩, rfl⟩
   exact absurd ((hl y.proc).2 (.inr this)) (by simp)
  rw [this] at hcq; cases hcq
 ·refine ⟨?_, fun e => hpl (by rw [← e]; exact hx)⟩
  rw [has_iff hs]
  rcases (hl x).1 hx with hx | hx
  ·left
   rw [e3] at hx
   rw [e1, List.map_append]
   exact List.mem_append_left _ hx
  ·exact .inr (hag x hx).1
 ·rw [hwa1]
  have e5 : (remS q l).holds = (advS (dels (noG q) l)).holds := by rw [← remS_eq l h]; rfl
  rw [e5]
  have hsd : SoundP (dels (noG q) l) := hs.noG.dels l
  have hod : ordQ (dels (noG q) l) = w :: post.filter fun x => decide (x.proc ∉ l) := by
   rw [ord_dels]
   show (ordQ q).filter _ = _
   rw [e1, List.filter_append, List.filter_eq_nil_iff.2 ?_, List.nil_append, List.filter_cons, if_pos (by rw [e2]; simpa using hpl)]
   intro x hx
   have : x.proc ∈ l := (hl x.proc).2 (.inl (by rw [e3]; exact List.mem_map.2 ⟨x, hx, rfl⟩))
   simpa using this
  have hhold : (dels (noG q) l).holds = q.holds.filter fun x => decide (x.proc ∉ l) := by rw [dels_parts]; rfl
  have hres : (dels (noG q) l).resource = q.resource := by rw [dels_parts]; rfl
  have hsub : (q.holds.filter fun x => decide (x.proc ∉ l)).Sublist q.holds := List.filter_sublist
  have hroom : roomH q.resource (q.holds.filter fun x => decide (x.proc ∉ l)) p w.amount = true := by
   cases hr : roomH q.resource q.holds p w.amount with
   | true => exact room_sub hr hsub
   | false =>
    refine no_foe_room (validH_sub hs.hv hsub) o1 o2 (by have := (hsub.filter (fun h => !decide (h.proc = p))).length_le; unfold others at o3 ⊢; omega) fun y hy hf => ?_
    obtain ⟨hy1, hy2⟩ := List.mem_filter.1 hy
    simp only [decide_eq_true_eq] at hy2
    refine hy2 ((hl y.proc).2 (.inr ?_))
    unfold againstL
    rw [hpr, hr]
    exact List.mem_map.2 ⟨y, List.mem_filter.2 ⟨hy1, hf⟩, rfl⟩
  have hcan : canQ (dels (noG q) l) = true := by rw [canQ_of hod, hhold, hres, e2]; exact hroom
  have hhd : (headQ (dels (noG q) l)).1 = w := by
   have : (dels (noG q) l).converts ++ (dels (noG q) l).waits = w :: _ := hod
   unfold headQ; rw [this]
  have := (adv_first hsd hcan).1
  rw [hhd, e2] at this
  exact this
end Ab
end Go.Proofs.YtdflfohpemfeiaaGreatDoor
