/-
  The law QueueBlocked in plain Lean: who waits has a blocker, and is let in when all blockers are gone.
-/
import Derived.Test.YtdflfohpemfeiaaGreatDoorQueN
import Derived.Test.YtdflfohpemfeiaaGreatDoorFlaw12QueueBlocked
namespace Go.Proofs.YtdflfohpemfeiaaGreatDoor
namespace Ab
set_option linter.unusedVariables false
set_option linter.unusedSimpArgs false
theorem line_Ahead_eq (l : List Wait) (p : Proc) (hl : l.length < 4294967296) : f_line_Ahead l p = some ((l.take (find1 l p).toNat).map (·.proc)) := by
 unfold f_line_Ahead
 rw [line_Find_eq l p (by omega), Option.bind_some]
 have hb := find1_lt l p
 generalize find1 l p = v at hb
 have key := loop_fold (body := f_line_Ahead_l1 l v) v.toNat (fun i s => .inl (s ++ [(l.getD i Wait.zero).proc])) (fun s => s) (fun i s => s.length = i) (fun i s hi hs => by
  refine ⟨?_, fun s' h => by cases h; simp [hs]⟩
  unfold f_line_Ahead_l1
  rw [if_pos (decide_eq_true (by simp only; omega)), gd_pos (by simp only; omega), gd_pos (by simp only; omega), wrap_id (by simp only; omega) (by simp only; omega)]
  rfl) (fun s hs => by
  unfold f_line_Ahead_l1
  rw [if_neg (by simp only [decide_eq_true_eq]; omega)]) [] rfl
 rw [key, foldR_snoc, List.nil_append, range_getD l Wait.zero (·.proc) _ 0 (by omega), List.drop_zero]
 rfl
theorem against_eq (r : Resource) (l : List Hold) (p : Proc) (a : Amount) : f_holders_Against r l p a = some (againstL r l p a) := by
 unfold f_holders_Against againstL
 rw [proper_eq, Option.bind_some]
 cases hp : properH r l p a with
 | false => simp
 | true =>
  have hv : validH r l = true := by unfold properH at hp; simp at hp; exact hp.1
  have hl := validH_len hv
  simp only [if_true, room_eq, Option.bind_some, Bool.not_true, Bool.false_or]
  cases hr : roomH r l p a with
  | true => simp
  | false =>
   simp only [Bool.false_eq_true, if_false]
   have key := loop_list (body := f_holders_Against_l1 r l p a) l Hold.zero (fun i (s : List Proc) => ((i : Int), s)) (fun i h s => some (.inl (snocO s ((if foe r p a h = true then some h.proc else none))))) (fun s => s) (fun i s => s.length ≤ i)
    (fun i s hi hs => by
     refine ⟨?_, fun s' h => ?_⟩
     ·unfold f_holders_Against_l1 foe
      have h1 : s.length + 1 ≤ 4294967296 := by omega
      have h3 : 0 ≤ (i : Int) ∧ (i : Int) < (l.length : Int) := by omega
      have hc : f_amount_Compatible r [(l.getD i Hold.zero).amount, a] = some (compL r [(l.getD i Hold.zero).amount, a]) := amount_Compatible_eq r _ (by simp)
      simp only [h1, h3.1, h3.2, and_self, gd_true, decide_true, if_true, Int.toNat_natCast, wrap_succ i (by omega), Option.map_some, wmap, hc, snocO]
      by_cases e1 : (l.getD i Hold.zero).proc = p
      ·simp only [e1, decide_true, if_true, Bool.not_true, Bool.false_and, Bool.false_eq_true, if_false]
      ·simp only [e1, decide_false, if_false, Bool.not_false, Bool.true_and, Bool.false_eq_true]
       by_cases e2 : r.kind = 1
       ·simp only [e2, decide_true, if_true, Option.bind_some, Bool.true_and]
        cases compL r [(l.getD i Hold.zero).amount, a] <;> rfl
       ·simp only [e2, decide_false, Bool.false_eq_true, if_false, Option.bind_some, Bool.false_and, Bool.not_false, if_true]
     ·simp only [Option.some.injEq, Sum.inl.injEq] at h; subst h; have := snocO_len s (if foe r p a (l.getD i Hold.zero) = true then some (l.getD i Hold.zero).proc else none); omega)
    (fun s hs => by unfold f_holders_Against_l1; simp) [] (by simp)
   rw [show ((0, []) : Int × List Proc) = (fun (i : Nat) (s : List Proc) => ((i : Int), s)) 0 [] from rfl, key, walk_snoc (fun h : Hold => if foe r p a h = true then some h.proc else none), filterMap_foe]
   simp [f_holders_Against_k1]
theorem ahead_take {p : Proc} {l : List Wait} (h : ∃ w ∈ l, w.proc = p) : (l.take (find1 l p).toNat).map (·.proc) = aheadL l p := by
 obtain ⟨pre, w, post, h1, h2, h3, h4⟩ := ahead_split h
 have hf : find1 l p = (pre.length : Int) := by
  unfold find1
  rw [h1, findI_append h4]
  simp [findI, h2]
 rw [h3, hf, Int.toNat_natCast]
 rw [h1, List.take_left]
def blockL (q : Queue) (p : Proc) : List Proc := if (wantQ q p).2 = true then sortP (((ordQ q).take (find1 (ordQ q) p).toNat).map (·.proc) ++ againstL q.resource q.holds p (wantQ q p).1) else []
theorem against_len {r : Resource} {l : List Hold} {p : Proc} {a : Amount} : (againstL r l p a).length ≤ l.length := by
 unfold againstL
 split
 ·simp
 ·have := List.length_filter_le (foe r p a) l; simpa using this
theorem queue_Blockers_eq {q : Queue} (h : settledQ q = true) (p : Proc) : f_queue_Blockers q p = some (blockL q p) := by
 have hl := settled_lens h
 unfold f_queue_Blockers blockL
 rw [queue_Wanted_eq q p (by omega) (by omega), Option.bind_some]
 cases hw : (wantQ q p).2 with
 | false => rfl
 | true =>
  have hol : (ordQ q).length ≤ 16 := by unfold ordQ; rw [List.length_append]; omega
  have hag := against_len (r := q.resource) (l := q.holds) (p := p) (a := (wantQ q p).1)
  have ea : f_line_Ahead_m (ordQ q) p = f_line_Ahead (ordQ q) p := rfl
  simp only [if_true, queue_Valid_eq, h, Option.bind_some, Bool.not_true, Bool.or_self, Bool.false_eq_true, if_false, queue_order_eq q (show q.converts.length ≤ 1000000 by omega) (show q.waits.length ≤ 1000000 by omega)]
  show (f_line_Ahead_m (ordQ q) p).bind _ = _
  rw [ea, line_Ahead_eq _ _ (by omega), Option.bind_some, against_eq, Option.bind_some, gd_pos (by simp; omega), ident_SortProcs_eq _ (by simp; omega)]
  rfl
theorem mem_blockL {q : Queue} {p : Proc} (hw : (wantQ q p).2 = true) (x : Proc) : x ∈ blockL q p ↔ x ∈ aheadL (ordQ q) p ∨ x ∈ againstL q.resource q.holds p (wantQ q p).1 := by
 unfold blockL
 rw [if_pos hw, mem_sortP, List.mem_append, ahead_take (l := ordQ q) ((want_iff q p).1 hw)]
theorem QueueBlocked_true (n : Int) (l : List Int) (who : Int) : f_law12_QueueBlocked n l who = some true := by
 unfold f_law12_QueueBlocked
 rw [awake12]
 cases hL : f_mill_Light l with
 | false => rfl
 | true =>
  have hl := lightT hL
  have hq := made_settled n l
  have hlen := settled_lens hq
  rw [ifNT, law12_made_eq n l hl, Option.bind_some, mill_Proc_eq, Option.bind_some, queue_Wanted_eq _ _ (by omega) (by omega), Option.bind_some, queue_Blockers_eq hq, Option.bind_some]
  generalize madeQ n l = q at hq hlen
  generalize procM who = p
  have hs := ((settled_iff q).1 hq).1
  have hnd : (blockL q p).Nodup := by
   unfold blockL
   split
   ·exact asc_nodup (sortP_asc _)
   ·exact List.nodup_nil
  have hbl : (blockL q p).length ≤ 1000000 := by
   unfold blockL
   split
   ·have h1 := sortP_len (((ordQ q).take (find1 (ordQ q) p).toNat).map (·.proc) ++ againstL q.resource q.holds p (wantQ q p).1)
    have h2 := against_len (r := q.resource) (l := q.holds) (p := p) (a := (wantQ q p).1)
    have h3 : (ordQ q).length ≤ 16 := by unfold ordQ; rw [List.length_append]; omega
    have h4 : ((ordQ q).take (find1 (ordQ q) p).toNat).length ≤ (ordQ q).length := by rw [List.length_take]; exact Nat.min_le_right _ _
    simp only [List.length_append, List.length_map] at h1
    omega
   ·simp
  have hB : (wantQ q p).2 = true → Blocks q p (blockL q p) := fun hw => blocks hq hw _ (mem_blockL hw)
  have hhas : ∀ x ∈ blockL q p, hasQ q x = true := fun x hx => by
   cases hw : (wantQ q p).2 with
   | true => exact ((hB hw).has x hx).1
   | false => unfold blockL at hx; rw [hw] at hx; cases hx
  have hlen0 : decide ((wantQ q p).2 = decide (0 < ((blockL q p).length : Int))) = true := by
   rw [decide_eq_true_eq]
   cases hw : (wantQ q p).2 with
   | true =>
    have := List.length_pos_iff.2 (hB hw).some
    symm; rw [decide_eq_true_eq]; omega
   | false =>
    have : blockL q p = [] := by unfold blockL; rw [hw]; rfl
    rw [this]; rfl
  simp only [Option.bind_some, hlen0, Bool.not_true, Bool.or_self, Bool.false_eq_true, if_false]
  obtain ⟨x, hx, hp⟩ := loop_rel (body := f_law12_QueueBlocked_l1 (blockL q p)) (fun g => ∃ i : Nat, i ≤ (blockL q p).length ∧ g = ((i : Int), remS q ((blockL q p).take i))) (fun g => (blockL q p).length - g.1.toNat)
   (fun x => x = .inl (remS q (blockL q p))) (by
    rintro g ⟨i, hi, rfl⟩
    unfold f_law12_QueueBlocked_l1
    by_cases hlt : i < (blockL q p).length
    ·left
     have h3 : 0 ≤ (i : Int) ∧ (i : Int) < ((blockL q p).length : Int) := by omega
     have hxs := remS_settled ((blockL q p).take i) hq
     have hh : hasQ (remS q ((blockL q p).take i)) ((blockL q p).getD i Proc.zero) = true := (remS_has _ hq _).2 ⟨hhas _ (getD_in hlt), getD_notin_take hnd hlt⟩
     have hsn : remS q ((blockL q p).take (i + 1)) = remN (remS q ((blockL q p).take i)) ((blockL q p).getD i Proc.zero) := by rw [take_snoc (z := Proc.zero) hlt, remS_snoc]
     obtain ⟨r1, r2⟩ := remove_snoc hxs hh
     refine ⟨(((i + 1 : Nat) : Int), remS q ((blockL q p).take (i + 1))), ?_, ⟨i + 1, by omega, rfl⟩, by simp only [Int.toNat_natCast]; omega⟩
     simp only [h3.1, h3.2, and_self, gd_true, decide_true, if_true, Int.toNat_natCast, queue_Remove_eq, Option.bind_some, r1, Bool.not_true, Bool.false_eq_true, if_false, wrap_succ i (by omega)]
     rw [r2, hsn]
    ·right
     have : i = (blockL q p).length := by omega
     subst this
     exact ⟨_, by rw [if_neg (by simp)], by simp only [List.take_length]⟩) (0, q) ⟨0, by omega, by simp [remS]⟩
  rw [hx, hp]
  simp only [Option.bind_some]
  unfold f_law12_QueueBlocked_k1
  have hz := settled_lens (remS_settled (blockL q p) hq)
  rw [queue_Held_eq _ _ (by omega)]
  cases hw : (wantQ q p).2 with
  | false => rfl
  | true => simp only [if_true, Option.bind_some, (hB hw).got, decide_true, Bool.not_true, Bool.or_true]
end Ab
end Go.Proofs.YtdflfohpemfeiaaGreatDoor
