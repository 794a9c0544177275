/-
  How often a claim in the line is overtaken.
-/
import Derived.Test.YtdflfohpemfeiaaGreatDoorQueK
namespace Go.Proofs.YtdflfohpemfeiaaGreatDoor
namespace Ab
set_option linter.unusedVariables false
set_option linter.unusedSimpArgs false
def passOf (l : List Wait) (p : Proc) : Int := match l.find? fun w => decide (w.proc = p) with
 | some w => w.passed
 | none => 0
def newC (old l : List Wait) (p : Proc) : Nat := (l.take (find1 l p).toNat).countP fun w => decide (find1 old w.proc < 0)
theorem find_split {p : Proc} : ∀ {l : List Wait}, (∃ w ∈ l, w.proc = p) → ∃ pre w post, l = pre ++ w :: post ∧ w.proc = p ∧ (∀ x ∈ pre, x.proc ≠ p) ∧ l.find? (fun w => decide (w.proc = p)) = some w ∧ find1 l p = (pre.length : Int) := by
 intro l h
 obtain ⟨pre, w, post, h1, h2, _, h4⟩ := ahead_split h
 refine ⟨pre, w, post, h1, h2, h4, ?_, ?_⟩
 ·rw [h1, List.find?_append, List.find?_eq_none.2 (by simpa using h4), List.find?_cons]
  simp [h2]
 ·unfold find1
  rw [h1, findI_append h4]
  simp [findI, h2]
theorem nodup_split {α : Type} {a b c d : List α} {x : α} (h : (a ++ x :: b).Nodup) (e : a ++ x :: b = c ++ x :: d) : a = c := by
 induction a generalizing c with
 | nil =>
  cases c with
  | nil => rfl
  | cons y c =>
   rw [List.nil_append, List.cons_append] at e
   injection e with e1 e2
   subst e1
   rw [List.nil_append, List.nodup_cons] at h
   exact absurd (by rw [e2]; exact List.mem_append_right _ (.head _)) h.1
 | cons z a ih =>
  cases c with
  | nil =>
   rw [List.nil_append, List.cons_append] at e
   injection e with e1 e2
   subst e1
   rw [List.cons_append, List.nodup_cons] at h
   exact absurd (List.mem_append_right _ (.head _)) h.1
  | cons y c =>
   rw [List.cons_append, List.cons_append] at e
   injection e with e1 e2
   subst e1
   rw [List.cons_append, List.nodup_cons] at h
   rw [ih h.2 e2]
theorem find_nodup {l : List Wait} {w : Wait} (hn : (l.map (·.proc)).Nodup) (hw : w ∈ l) : l.find? (fun x => decide (x.proc = w.proc)) = some w := by
 induction l with
 | nil => cases hw
 | cons x t ih =>
  rw [List.find?_cons]
  rcases List.mem_cons.1 hw with rfl | hw'
  ·simp
  ·have := nd_head hn w hw'
   have hne : ¬ x.proc = w.proc := fun e => this e.symm
   simp only [hne, decide_false]
   rw [List.map_cons, List.nodup_cons] at hn
   exact ih hn.2 hw'
theorem find1_mem {l : List Wait} {p : Proc} : find1 l p < 0 ↔ ∀ w ∈ l, w.proc ≠ p := by rw [← find1_neg]; omega
theorem over_sub {old l : List Wait} {p : Proc} (hn : (old.map (·.proc)).Nodup) (hs : l.Sublist old) (hp : ∃ w ∈ l, w.proc = p) : newC old l p = 0 ∧ passOf l p = passOf old p := by
 obtain ⟨pre, w, post, h1, h2, h3, h4, h5⟩ := find_split hp
 have hw : w ∈ old := hs.subset (by rw [h1]; exact List.mem_append_right _ (.head _))
 constructor
 ·unfold newC
  rw [List.countP_eq_zero]
  intro x hx hlt
  have hx' : x ∈ old := hs.subset (List.mem_of_mem_take hx)
  have := find1_mem.1 (by simpa using hlt) x hx'
  exact this rfl
 ·unfold passOf
  rw [h4, ← h2, find_nodup hn hw]
theorem over_ins {old : List Wait} {w : Wait} {n j : Nat} {p : Proc} (hv : validL old = true) (hw : ∀ e ∈ old, e.proc ≠ w.proc) (hov : ∀ e ∈ old.drop n, over w e = true)
  (hold : ∃ e ∈ old, e.proc = p) (hp : ∃ e ∈ (insAt old w n).drop j, e.proc = p) : (newC old ((insAt old w n).drop j) p : Int) + passOf old p ≤ passOf ((insAt old w n).drop j) p := by
 obtain ⟨h8, hval, hn⟩ := (validL_iff _).1 hv
 obtain ⟨pre, e', post, h1, h2, h3, h4, h5⟩ := find_split hp
 obtain ⟨e, he, hep⟩ := hold
 have hpo : passOf old p = e.passed := by unfold passOf; rw [← hep, find_nodup hn he]
 have hpn : passOf ((insAt old w n).drop j) p = e'.passed := by unfold passOf; rw [h4]
 have hpw : p ≠ w.proc := by rw [← hep]; exact hw e he
 have hL : insAt old w n = ((insAt old w n).take j ++ pre) ++ e' :: post := by rw [List.append_assoc, ← h1, List.take_append_drop]
 have hLn : ((insAt old w n).map (·.proc)).Nodup := by
  rw [map_proc_ins]
  rw [← List.take_append_drop n old, List.map_append] at hn
  have hin : w.proc ∉ (old.take n).map (·.proc) ++ (old.drop n).map (·.proc) := by
   rw [← List.map_append, List.take_append_drop]
   intro hm
   obtain ⟨x, hx, hxe⟩ := List.mem_map.1 hm
   exact hw x hx hxe
  exact (List.perm_middle.nodup_iff).2 (List.nodup_cons.2 ⟨hin, hn⟩)
 have hcnt : newC old ((insAt old w n).drop j) p = pre.countP fun x => decide (find1 old x.proc < 0) := by
  unfold newC
  rw [h5, h1, Int.toNat_natCast, List.take_left]
 have hpren : (pre.map (·.proc)).Nodup := by
  rw [hL, List.map_append, List.map_append] at hLn
  exact (List.nodup_append.1 (List.nodup_append.1 hLn).1).2.1
 have hnew : ∀ x ∈ pre, find1 old x.proc < 0 → x.proc = w.proc := by
  intro x hx hlt
  have hxL : x ∈ insAt old w n := by rw [hL]; exact List.mem_append_left _ (List.mem_append_right _ hx)
  unfold insAt at hxL
  simp only [List.mem_append, List.mem_cons, List.mem_map] at hxL
  have hno := find1_mem.1 hlt
  rcases hxL with hxL | hxL | ⟨y, hy, hxL⟩
  ·exact absurd rfl (hno x (List.mem_of_mem_take hxL))
  ·rw [hxL]
  ·exact absurd (by rw [← hxL]; rfl) (hno y (List.mem_of_mem_drop hy))
 have hone : pre.countP (fun x => decide (find1 old x.proc < 0)) ≤ 1 := by
  have h1 : pre.countP (fun x => decide (find1 old x.proc < 0)) ≤ (pre.map (·.proc)).count w.proc := by
   rw [List.count, List.countP_map]
   refine List.countP_mono_left fun x hx h => ?_
   simpa using hnew x hx (by simpa using h)
  exact Nat.le_trans h1 (List.nodup_iff_count.1 hpren w.proc)
 have he'L : e' ∈ insAt old w n := by rw [hL]; exact List.mem_append_right _ (.head _)
 have hmem : e' ∈ old.take n ∨ e' = w ∨ ∃ y ∈ old.drop n, bump y = e' := by
  unfold insAt at he'L
  simpa only [List.mem_append, List.mem_cons, List.mem_map] using he'L
 rw [hcnt, hpo, hpn]
 have same : ∀ y ∈ old, y.proc = p → y = e := fun y hy hyp => by
  have a1 := find_nodup hn hy
  have a2 := find_nodup hn he
  rw [hyp] at a1
  rw [hep] at a2
  rw [a1] at a2
  exact Option.some.inj a2
 rcases hmem with hm | hm | ⟨y, hy, hm⟩
 ·
  have : e' = e := same e' (List.mem_of_mem_take hm) h2
  have hz : pre.countP (fun x => decide (find1 old x.proc < 0)) = 0 := by
   rw [List.countP_eq_zero]
   intro x hx hlt
   have hxw := hnew x hx (by simpa using hlt)
   obtain ⟨a, b, hab⟩ := List.append_of_mem hm
   have hsp : insAt old w n = a ++ e' :: (b ++ w :: (old.drop n).map bump) := by unfold insAt; rw [hab]; simp
   have heq : ((insAt old w n).take j ++ pre).map (·.proc) = a.map (·.proc) := by
    have e1 := congrArg (fun l : List Wait => l.map (·.proc)) hL
    have e2 := congrArg (fun l : List Wait => l.map (·.proc)) hsp
    simp only [List.map_append, List.map_cons] at e1 e2
    rw [← List.map_append] at e1
    have hnn := hLn
    rw [e1] at hnn
    exact nodup_split hnn (e1.symm.trans e2)
   have hin : w.proc ∈ a.map (·.proc) := by
    rw [← heq, ← hxw]
    exact List.mem_map.2 ⟨x, List.mem_append_right _ hx, rfl⟩
   obtain ⟨z, hz, hzw⟩ := List.mem_map.1 hin
   refine hw z ?_ hzw
   refine List.mem_of_mem_take (i := n) ?_
   rw [hab]; exact List.mem_append_left _ hz
  rw [hz, this]; omega
 ·exact absurd (by rw [← h2, hm]) hpw
 ·have hyo : y ∈ old := List.mem_of_mem_drop hy
  have hye : y = e := same y hyo (by rw [← h2, ← hm]; rfl)
  have hb := (validWait_bump (hval y hyo) (hov y hy)).2
  rw [← hm, hb, hye]
  omega
theorem adv_waits : ∀ q, ∃ j, (advS q).waits = q.waits.drop j := by
 refine adv_rec (fun q h => ⟨0, by rw [advS_not h]; rfl⟩) fun q hc ⟨j, h⟩ => ?_
 rw [advS_can hc]
 cases pop_of hc with
 | con w cs he hd hr hp => rw [hp] at h ⊢; exact ⟨j, h⟩
 | wait w ws hcn he hd hr hp => rw [hp] at h ⊢; exact ⟨j + 1, by rw [h, he]; rfl⟩
inductive StepQ (q : Queue) : Queue → Prop where
 | same : StepQ q q
 | claim (p : Proc) (a : Amount) (pr : Int) (h : (claimS q p a pr).2.2 = 0) : StepQ q (claimS q p a pr).1
 | cancel (p : Proc) (h : (cancelS q p).2.2 = 0) : StepQ q (cancelS q p).1
 | lower (p : Proc) (a : Amount) (h : (lowerS q p a).2.2 = 0) : StepQ q (lowerS q p a).1
 | remove (p : Proc) (h : (removeS q p).2.2 = 0) : StepQ q (removeS q p).1
theorem step_settled {q x : Queue} (h : settledQ q = true) (hx : StepQ q x) : settledQ x = true ∧ x.resource = q.resource := by
 have hr : ∀ y : Queue, (changedQ y).1.resource = y.resource := fun y => (adv_gen y).2
 cases hx with
 | same => exact ⟨h, rfl⟩
 | claim p a pr h0 =>
  obtain ⟨_, _, _, _, _, hh⟩ := claimS_ok h0
  rcases hh with ⟨_, e⟩ | ⟨_, _, e, hs⟩ | ⟨_, _, _, e, hs⟩
  ·rw [e]; exact ⟨h, rfl⟩
  ·rw [e, hr]; exact ⟨changed_settled hs, rfl⟩
  ·rw [e, hr]; exact ⟨changed_settled hs, rfl⟩
 | cancel p h0 => obtain ⟨_, _, _, e, hs⟩ := cancelS_ok h0; rw [e, hr]; exact ⟨changed_settled hs, rfl⟩
 | lower p a h0 =>
  obtain ⟨_, _, _, _, _, hh⟩ := lowerS_ok h0
  rcases hh with ⟨_, e⟩ | ⟨_, e, hs⟩
  ·rw [e]; exact ⟨h, rfl⟩
  ·rw [e, hr]; exact ⟨changed_settled hs, rfl⟩
 | remove p h0 => obtain ⟨_, _, _, e, hs⟩ := removeS_ok h0; rw [e, hr]; exact ⟨changed_settled hs, rfl⟩
theorem over_step {q x : Queue} (h : settledQ q = true) (hx : StepQ q x) {p : Proc} (h1 : ¬ find1 q.waits p < 0) (h2 : ¬ find1 x.waits p < 0) : (newC q.waits x.waits p : Int) + passOf q.waits p ≤ passOf x.waits p := by
 obtain ⟨hs, hc⟩ := (settled_iff q).1 h
 have hn := ((validL_iff _).1 hs.wv).2.2
 have ex : ∀ {l : List Wait}, ¬ find1 l p < 0 → ∃ w ∈ l, w.proc = p := fun {l} hh => by
  rw [find1_mem] at hh
  exact Classical.byContradiction fun hno => hh fun w hw e => hno ⟨w, hw, e⟩
 have sub : ∀ y : Queue, (∃ j, y.waits = q.waits.drop j) ∨ y.waits.Sublist q.waits → ¬ find1 y.waits p < 0 → (newC q.waits y.waits p : Int) + passOf q.waits p ≤ passOf y.waits p := fun y hy hyf => by
  have hsub : y.waits.Sublist q.waits := by
   rcases hy with ⟨j, e⟩ | e
   ·rw [e]; exact List.drop_sublist _ _
   ·exact e
  obtain ⟨e1, e2⟩ := over_sub hn hsub (ex hyf)
  rw [e1, e2]; simp
 have chg : ∀ y : Queue, y.waits.Sublist q.waits → (changedQ y).1.waits.Sublist q.waits := fun y hy => by
  obtain ⟨j, e⟩ := adv_waits y
  show (advS y).waits.Sublist q.waits
  rw [e]; exact (List.drop_sublist _ _).trans hy
 cases hx with
 | same => exact sub _ (.inr (List.Sublist.refl _)) h2
 | claim a b pr h0 =>
  obtain ⟨_, _, _, _, hw, hh⟩ := claimS_ok h0
  rcases hh with ⟨_, e⟩ | ⟨_, _, e, hs'⟩ | ⟨_, _, _, e, hs'⟩
  ·rw [e] at h2 ⊢; exact sub _ (.inr (List.Sublist.refl _)) h2
  ·rw [e] at h2 ⊢; exact sub _ (.inr (chg (claimC q a b) (List.Sublist.refl _))) h2
  ·rw [e] at h2 ⊢
   obtain ⟨j, ej⟩ := adv_waits (claimW q a b pr)
   have hwt : (changedQ (claimW q a b pr)).1.waits = (insAt q.waits ⟨a, b, pr, 0⟩ (placeI q.waits ⟨a, b, pr, 0⟩ q.waits.length)).drop j := ej
   rw [hwt] at h2 ⊢
   exact over_ins hs.wv (fun e he => want_not.1 hw e (List.mem_append_right _ he)) (fun e he => over_drop he) (ex h1) (ex h2)
 | cancel a h0 => obtain ⟨_, _, _, e, _⟩ := cancelS_ok h0; rw [e] at h2 ⊢; exact sub _ (.inr (chg (cancelQ q a) (rmL_sub _ _))) h2
 | lower a b h0 =>
  obtain ⟨_, _, _, _, _, hh⟩ := lowerS_ok h0
  rcases hh with ⟨_, e⟩ | ⟨_, e, _⟩
  ·rw [e] at h2 ⊢; exact sub _ (.inr (List.Sublist.refl _)) h2
  ·rw [e] at h2 ⊢; exact sub _ (.inr (chg (lowerQ q a b) (List.Sublist.refl _))) h2
 | remove a h0 => obtain ⟨_, _, _, e, _⟩ := removeS_ok h0; rw [e] at h2 ⊢; exact sub _ (.inr (chg (del q a) (rmL_sub _ _))) h2
theorem pass_range {q : Queue} (h : settledQ q = true) (p : Proc) : 0 ≤ passOf q.waits p ∧ passOf q.waits p ≤ 3 := by
 have hs := ((settled_iff q).1 h).1
 unfold passOf
 cases hf : q.waits.find? fun w => decide (w.proc = p) with
 | none => simp
 | some w => exact validWait_passed (((validL_iff _).1 hs.wv).2.1 w (List.mem_of_find?_eq_some hf))
end Ab
end Go.Proofs.YtdflfohpemfeiaaGreatDoor
