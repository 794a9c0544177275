/-
  The law QueueSafe in plain Lean: grants are compatible and valid in whatever script.
-/
import Derived.Test.YtdflfohpemfeiaaGreatDoorQueN
import Derived.Test.YtdflfohpemfeiaaGreatDoorFlaw12QueueSafe
namespace Go.Proofs.YtdflfohpemfeiaaGreatDoor
namespace Ab
set_option linter.unusedVariables false
set_option linter.unusedSimpArgs false
theorem stepG_ok {q : Queue} (h : settledQ q = true) (n : Int) : ∀ g ∈ stepG q n, getH (stepN q n).holds g.proc = g.amount ∧ (wantQ (stepN q n) g.proc).2 = false := by
 have chg : ∀ y : Queue, SoundP y → ∀ g ∈ (changedQ y).2.1, getH (changedQ y).1.holds g.proc = g.amount ∧ (wantQ (changedQ y).1 g.proc).2 = false := fun y hy g hg => by
  obtain ⟨h1, h2⟩ := adv_grants y hy g hg
  exact ⟨h1, want_not.2 h2⟩
 have key : (stepR q n).2.2 = 0 → ∀ g ∈ (stepR q n).2.1, getH (stepR q n).1.holds g.proc = g.amount ∧ (wantQ (stepR q n).1 g.proc).2 = false := by
  unfold stepR
  intro h0
  split at h0
  ·rename_i h1
   simp only [h1, if_true]
   obtain ⟨_, _, _, e, hs⟩ := cancelS_ok h0
   rw [e]; exact chg _ hs
  rename_i h1
  simp only [h1, if_false]
  split at h0
  ·rename_i h2
   simp only [h2, if_true]
   obtain ⟨_, _, _, _, _, hh⟩ := lowerS_ok h0
   rcases hh with ⟨_, e⟩ | ⟨_, e, hs⟩
   ·rw [e]; intro g hg; cases hg
   ·rw [e]; exact chg _ hs
  rename_i h2
  simp only [h2, if_false]
  split at h0
  ·rename_i h3
   simp only [h3, if_true]
   obtain ⟨_, _, _, e, hs⟩ := removeS_ok h0
   rw [e]; exact chg _ hs
  ·rename_i h3
   simp only [h3, if_false]
   obtain ⟨_, _, _, _, _, hh⟩ := claimS_ok h0
   rcases hh with ⟨_, e⟩ | ⟨_, _, e, hs⟩ | ⟨_, _, _, e, hs⟩
   ·rw [e]; intro g hg; cases hg
   ·rw [e]; exact chg _ hs
   ·rw [e]; exact chg _ hs
 unfold stepG stepN
 by_cases h0 : (stepR q n).2.2 = 0
 ·simp only [h0, if_true]; exact key h0
 ·simp only [h0, if_false]; intro g hg; cases hg
theorem safe_inner (x : Queue) (G : List Hold) (b : Bool) (hx : settledQ x = true) (hG : ∀ g ∈ G, getH x.holds g.proc = g.amount ∧ (wantQ x g.proc).2 = false) (hl : G.length ≤ 1000000) : loopO (f_law12_QueueSafe_l2 (x, G, b)) 0 = some (.inl ()) := by
 have hsl := settled_lens hx
 have key := loop_list' (body := f_law12_QueueSafe_l2 (x, G, b)) G Hold.zero (fun i (_ : Unit) => (i : Int)) (fun _ _ _ => some (.inl ())) (fun _ => Sum.inl (β := Bool) ())
  (fun i s hi => by
   unfold f_law12_QueueSafe_l2
   have h3 : 0 ≤ (i : Int) ∧ (i : Int) < (G.length : Int) := by omega
   have hm : G.getD i Hold.zero ∈ G := by rw [List.getD_eq_getElem?_getD, List.getElem?_eq_getElem hi]; exact List.getElem_mem hi
   obtain ⟨g1, g2⟩ := hG _ hm
   simp only [h3.1, h3.2, and_self, gd_true, decide_true, if_true, Int.toNat_natCast, wrap_succ i (by omega), Option.map_some]
   rw [queue_Held_eq x _ (by omega), Option.bind_some, queue_Wanted_eq x _ (by omega) (by omega), g1]
   simp only [decide_true, Bool.not_true, Bool.false_eq_true, if_false, Option.bind_some, g2]
   rfl)
  (fun s => by unfold f_law12_QueueSafe_l2; simp) ()
 rw [show (0 : Int) = (fun (i : Nat) (_ : Unit) => (i : Int)) 0 () from rfl, key]
 have : ∀ (l : List Hold) (i : Nat), walk (fun _ _ (_ : Unit) => some (Sum.inl (β := Unit ⊕ Bool) ())) (fun _ => Sum.inl (β := Bool) ()) l i () = some (.inl ()) := by
  intro l
  induction l with
  | nil => intro i; rfl
  | cons a t ih => intro i; simp only [walk]; exact ih (i + 1)
 exact this G 0
theorem compat_settled {q : Queue} (h : settledQ q = true) : compL q.resource (q.holds.map (·.amount)) = true := by
 have hv := (validH_iff _ _).1 ((settled_iff q).1 h).1.hv
 unfold compL
 rw [hv.1, decide_eq_true hv.2.2.2]; rfl
theorem QueueSafe_true (n : Int) (l : List Int) : f_law12_QueueSafe n l = some true := by
 unfold f_law12_QueueSafe
 rw [awake12]
 cases hL : f_mill_Light l with
 | false => rfl
 | true =>
  have hl := lightT hL
  rw [ifNT, mill_Resource_eq, Option.bind_some, queue_New_eq, newQ_mill, Option.bind_some]
  have key := loop_list (body := f_law12_QueueSafe_l1 l) l 0 (fun i (s : Queue) => ((i : Int), s)) (fun _ k s => some (.inl (stepN s k))) (fun s => Sum.inl (β := Bool) ()) (fun _ s => settledQ s = true)
   (fun i s hi hs => ⟨by
    unfold f_law12_QueueSafe_l1
    have h3 : 0 ≤ (i : Int) ∧ (i : Int) < (l.length : Int) := by omega
    simp only [h3.1, h3.2, and_self, gd_true, decide_true, if_true, Int.toNat_natCast, law12_step_eq s _ (settled_shaped hs), Option.bind_some, Bool.not_true, Bool.false_eq_true, if_false]
    generalize hk : l.getD i 0 = k
    have hx := (stepN_settled hs k).1
    have hlen := settled_lens hx
    rw [ref10_Amounts_eq _ (by omega), Option.bind_some, ref04_Compatible_eq _ _ (by simp; omega), Option.bind_some, compat_settled hx]
    simp only [if_true, queue_Valid_eq, Option.bind_some, hx, Bool.not_true, Bool.or_self, Bool.false_eq_true, if_false]
    rw [safe_inner _ _ _ hx (stepG_ok hs k) (by have := stepG_len s k; omega)]
    simp only [Option.bind_some]
    unfold f_law12_QueueSafe_k2
    simp only [wrap_succ i (by omega), Option.map_some, wmap], fun s' h => by simp only [Option.some.injEq, Sum.inl.injEq] at h; subst h; exact (stepN_settled hs _).1⟩)
   (fun s hs => by unfold f_law12_QueueSafe_l1; simp) (emptyQ (resM n)) (empty_settled (resM_valid n))
  have e : ((0, emptyQ (resM n)) : Int × Queue) = (fun (i : Nat) (s : Queue) => ((i : Int), s)) 0 (emptyQ (resM n)) := rfl
  rw [e, key, walk_foldl stepN]
  simp only [Option.bind_some]
  unfold f_law12_QueueSafe_k1
  rw [awake12]; rfl
end Ab
end Go.Proofs.YtdflfohpemfeiaaGreatDoor
