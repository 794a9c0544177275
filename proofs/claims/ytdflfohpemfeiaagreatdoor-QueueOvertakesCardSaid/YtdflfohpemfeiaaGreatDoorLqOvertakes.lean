/-
  The law QueueOvertakes in plain Lean: nobody is overtaken more than MaxPass times.
-/
import Derived.Test.YtdflfohpemfeiaaGreatDoorQueN
import Derived.Test.YtdflfohpemfeiaaGreatDoorFlaw12QueueOvertakes
namespace Go.Proofs.YtdflfohpemfeiaaGreatDoor
namespace Ab
set_option linter.unusedVariables false
set_option linter.unusedSimpArgs false
theorem Arr.get_put {α : Type} {n : Nat} (a : Arr α n) (i j : Nat) (x z : α) (hi : i < n) (hj : j < n) : (a.put i x).get j z = if j = i then x else a.get j z := by
 unfold Arr.get Arr.put
 simp only [clampN_of_lt hj, clampN_of_lt hi]
 show (a.l.set i x).getD j z = _
 by_cases h : j = i
 ·subst h; rw [if_pos rfl]; exact getD_set_self _ _ _ _ (by rw [a.h]; exact hi)
 ·rw [if_neg h, List.getD_eq_getElem?_getD, List.getD_eq_getElem?_getD, List.getElem?_set_ne (Ne.symm h)]
def OverOk (q : Queue) (a : Arr Int 8) (j : Nat) : Prop := 0 ≤ a.get j 0 ∧ a.get j 0 ≤ passOf q.waits (procM j)
theorem over_inner (q x : Queue) (ov : Arr Int 8) (n : Int) (G : List Hold) (b : Bool) (k : Nat) (hk : k < 8) (a : Arr Int 8) (hq : settledQ q = true) (hx : settledQ x = true) (m : Nat) (hm : m ≤ x.waits.length) (ha : 0 ≤ a.get k 0 ∧ a.get k 0 ≤ 3) :
  ∃ a', loopO (f_law12_QueueOvertakes_l3 (n, q, ov) (x, G, b) ((k : Int), a) (m : Int)) (0, a) = some a' ∧ a'.get k 0 = a.get k 0 + (((x.waits.take m).countP fun w => decide (find1 q.waits w.proc < 0) : Nat) : Int) ∧ ∀ j, j < 8 → j ≠ k → a'.get j 0 = a.get j 0 := by
 have hql := settled_lens hq
 have hxl := settled_lens hx
 refine loop_rel (body := f_law12_QueueOvertakes_l3 (n, q, ov) (x, G, b) ((k : Int), a) (m : Int)) (fun g => ∃ i : Nat, i ≤ m ∧ g.1 = (i : Int) ∧ g.2.get k 0 = a.get k 0 + (((x.waits.take i).countP fun w => decide (find1 q.waits w.proc < 0) : Nat) : Int) ∧ ∀ j, j < 8 → j ≠ k → g.2.get j 0 = a.get j 0) (fun g => m - g.1.toNat)
  (fun a' => a'.get k 0 = a.get k 0 + (((x.waits.take m).countP fun w => decide (find1 q.waits w.proc < 0) : Nat) : Int) ∧ ∀ j, j < 8 → j ≠ k → a'.get j 0 = a.get j 0) ?_ (0, a) ⟨0, by omega, rfl, by simp, fun _ _ _ => rfl⟩
 rintro ⟨gi, ga⟩ ⟨i, hi, h1, h2, h3⟩
 simp only at h1 h2 h3
 subst h1
 unfold f_law12_QueueOvertakes_l3
 by_cases hlt : i < m
 ·left
  have hb1 : 0 ≤ (i : Int) ∧ (i : Int) < (x.waits.length : Int) := by omega
  have hb2 : (i : Int) < (m : Int) := by omega
  have hb3 : 0 ≤ (k : Int) ∧ (k : Int) < 8 := by omega
  have hcnt : (x.waits.take i).countP (fun w => decide (find1 q.waits w.proc < 0)) ≤ 8 := by
   have := List.countP_le_length (p := fun w : Wait => decide (find1 q.waits w.proc < 0)) (l := x.waits.take i)
   have := List.length_take_le i x.waits
   omega
  have hc : (x.waits.take (i + 1)).countP (fun w => decide (find1 q.waits w.proc < 0)) = (x.waits.take i).countP (fun w => decide (find1 q.waits w.proc < 0)) + if find1 q.waits (x.waits.getD i Wait.zero).proc < 0 then 1 else 0 := by
   rw [take_snoc (z := Wait.zero) (show i < x.waits.length by omega), List.countP_append, List.countP_cons]
   simp
  simp only [hb1.1, hb1.2, hb2, hb3.1, hb3.2, and_self, gd_true, decide_true, if_true, Int.toNat_natCast, wrap_succ i (by omega)]
  rw [ref11_Find_eq _ _ (by omega), Option.bind_some]
  by_cases hf : find1 q.waits (x.waits.getD i Wait.zero).proc < 0
  ·rw [if_pos hf] at hc
   rw [if_pos (decide_eq_true hf), wrap_id (x := ga.get k 0 + 1) (by omega) (by omega)]
   refine ⟨_, rfl, ⟨i + 1, by omega, rfl, ?_, fun j hj hjk => ?_⟩, by simp only [Int.toNat_natCast]; omega⟩
   ·simp only
    rw [Arr.get_put _ _ _ _ _ hk hk, if_pos rfl, hc, h2]; omega
   ·simp only
    rw [Arr.get_put _ _ _ _ _ hk hj, if_neg hjk]; exact h3 j hj hjk
  ·rw [if_neg hf] at hc
   rw [if_neg (by simpa using hf)]
   exact ⟨_, rfl, ⟨i + 1, by omega, rfl, by simp only; rw [hc, h2]; omega, h3⟩, by simp only [Int.toNat_natCast]; omega⟩
 ·right
  have : i = m := by omega
  subst this
  exact ⟨ga, by rw [if_neg (by simp)], h2, h3⟩
theorem over_mid (q x : Queue) (ov : Arr Int 8) (n : Int) (G : List Hold) (b : Bool) (hq : settledQ q = true) (hst : StepQ q x) (ho : ∀ j, j < 8 → OverOk q ov j) :
  ∃ y, loopO (f_law12_QueueOvertakes_l2 (n, q, ov) (x, G, b)) (0, ov) = some y ∧ ∃ a', y = .inl a' ∧ ∀ j, j < 8 → OverOk x a' j := by
 have hx := (step_settled hq hst).1
 have hql := settled_lens hq
 have hxl := settled_lens hx
 refine loop_rel (body := f_law12_QueueOvertakes_l2 (n, q, ov) (x, G, b)) (fun g => ∃ k : Nat, k ≤ 8 ∧ g.1 = (k : Int) ∧ ∀ j, j < 8 → if j < k then OverOk x g.2 j else OverOk q g.2 j) (fun g => 8 - g.1.toNat) (fun y => ∃ a', y = .inl a' ∧ ∀ j, j < 8 → OverOk x a' j) ?_ (0, ov) ⟨0, by omega, rfl, fun j hj => by rw [if_neg (by omega)]; exact ho j hj⟩
 rintro ⟨gi, ga⟩ ⟨k, hk, h1, h2⟩
 simp only at h1 h2
 subst h1
 unfold f_law12_QueueOvertakes_l2
 by_cases hlt : k < 8
 ·left
  have hb3 : 0 ≤ (k : Int) ∧ (k : Int) < 8 := by omega
  have hpx := pass_range hx (procM k)
  have hpq := pass_range hq (procM k)
  have hgk : OverOk q ga k := by have := h2 k hlt; rwa [if_neg (by omega)] at this
  have nxt : ∀ a' : Arr Int 8, OverOk x a' k → (∀ j, j < 8 → j ≠ k → a'.get j 0 = ga.get j 0) → ∀ j, j < 8 → if j < k + 1 then OverOk x a' j else OverOk q a' j := fun a' hak hoth j hj => by
   by_cases hjk : j = k
   ·subst hjk; rw [if_pos (by omega)]; exact hak
   ·have e := hoth j hj hjk
    have := h2 j hj
    unfold OverOk at this ⊢
    rw [e]
    by_cases hc : j < k
    ·rw [if_pos hc] at this; rw [if_pos (by omega)]; exact this
    ·rw [if_neg hc] at this; rw [if_neg (by omega)]; exact this
  simp only [hb3.1, hb3.2, and_self, gd_true, decide_true, if_true, Int.toNat_natCast, mill_Proc_eq, Option.bind_some]
  rw [ref11_Find_eq _ _ (by omega), Option.bind_some, ref11_Find_eq _ _ (by omega), Option.bind_some]
  by_cases hf : find1 q.waits (procM k) < 0 ∨ find1 x.waits (procM k) < 0
  ·rw [if_pos (by simpa using hf), wrap_succ k (by omega)]
   refine ⟨_, rfl, ⟨k + 1, by omega, rfl, nxt _ ?_ fun j hj hjk => by simp only; rw [Arr.get_put _ _ _ _ _ hlt hj, if_neg hjk]⟩, by simp only [Int.toNat_natCast]; omega⟩
   unfold OverOk
   rw [Arr.get_put _ _ _ _ _ hlt hlt, if_pos rfl]
   exact ⟨by omega, hpx.1⟩
  ·rw [if_neg (by simpa using hf)]
   simp only [not_or] at hf
   have hfl := find1_lt x.waits (procM k)
   obtain ⟨m, hm⟩ : ∃ m : Nat, find1 x.waits (procM k) = m := ⟨(find1 x.waits (procM k)).toNat, by omega⟩
   have hst2 := over_step hq hst (p := procM k) hf.1 hf.2
   unfold newC at hst2
   rw [hm, Int.toNat_natCast] at hst2
   obtain ⟨a', e1, e2, e3⟩ := over_inner q x ov n G b k hlt ga hq hx m (by omega) ⟨hgk.1, by have := hgk.2; omega⟩
   rw [hm, e1, Option.bind_some]
   unfold f_law12_QueueOvertakes_k3
   have hle : a'.get k 0 ≤ passOf x.waits (procM k) := by rw [e2]; have := hgk.2; omega
   have hge : 0 ≤ a'.get k 0 := by rw [e2]; have := hgk.1; omega
   simp only [hb3.1, hb3.2, and_self, gd_true, Int.toNat_natCast, wrap_succ k (by omega)]
   rw [if_neg (by simp; omega)]
   exact ⟨_, rfl, ⟨k + 1, by omega, rfl, nxt a' ⟨hge, hle⟩ e3⟩, by simp only [Int.toNat_natCast]; omega⟩
 ·right
  have : k = 8 := by omega
  subst this
  refine ⟨.inl ga, by rw [if_neg (by simp)], ga, rfl, fun j hj => ?_⟩
  have := h2 j hj
  rwa [if_pos hj] at this
theorem QueueOvertakes_true (n : Int) (l : List Int) : f_law12_QueueOvertakes n l = some true := by
 unfold f_law12_QueueOvertakes
 rw [awake12]
 cases hL : f_mill_Light l with
 | false => rfl
 | true =>
  have hl := lightT hL
  rw [ifNT, mill_Resource_eq, Option.bind_some, queue_New_eq, newQ_mill, Option.bind_some]
  obtain ⟨x, hx, hp⟩ := loop_rel (body := f_law12_QueueOvertakes_l1 l) (fun g => ∃ i : Nat, i ≤ l.length ∧ g.1 = (i : Int) ∧ settledQ g.2.1 = true ∧ ∀ j, j < 8 → OverOk g.2.1 g.2.2 j) (fun g => l.length - g.1.toNat)
   (fun x => x = .inl ()) (by
    rintro ⟨gi, q, ov⟩ ⟨i, hi, h1, h2, h3⟩
    simp only at h1 h2 h3
    subst h1
    unfold f_law12_QueueOvertakes_l1
    by_cases hlt : i < l.length
    ·left
     have hb : 0 ≤ (i : Int) ∧ (i : Int) < (l.length : Int) := by omega
     obtain ⟨y, e1, a', e2, e3⟩ := over_mid q (stepN q (l.getD i 0)) ov (i : Int) (stepG q (l.getD i 0)) true h2 (stepN_step q _) h3
     simp only [hb.1, hb.2, and_self, gd_true, decide_true, if_true, Int.toNat_natCast, law12_step_eq q _ (settled_shaped h2), Option.bind_some, Bool.not_true, Bool.false_eq_true, if_false]
     rw [e1, e2]
     simp only [Option.bind_some]
     unfold f_law12_QueueOvertakes_k2
     simp only [wrap_succ i (by omega)]
     exact ⟨_, rfl, ⟨i + 1, by omega, rfl, (stepN_settled h2 _).1, e3⟩, by simp only [Int.toNat_natCast]; omega⟩
    ·right
     have : i = l.length := by omega
     subst this
     exact ⟨_, by rw [if_neg (by simp)], rfl⟩) (0, emptyQ (resM n), Arr.rep 8 0) ⟨0, by omega, rfl, empty_settled (resM_valid n), fun j hj => by
      unfold OverOk
      have e : (Arr.rep 8 (0 : Int)).get j 0 = 0 := by
       have : ∀ j : Fin 8, (Arr.rep 8 (0 : Int)).get j.val 0 = 0 := by decide
       exact this ⟨j, hj⟩
      have e2 : passOf (emptyQ (resM n)).waits (procM j) = 0 := rfl
      rw [e]; simp only [e2]; omega⟩
  rw [hx, hp]
  simp only [Option.bind_some]
  unfold f_law12_QueueOvertakes_k1
  rw [awake12]; rfl
end Ab
end Go.Proofs.YtdflfohpemfeiaaGreatDoor
