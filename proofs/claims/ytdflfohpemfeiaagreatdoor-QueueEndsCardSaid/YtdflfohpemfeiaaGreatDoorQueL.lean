/-
  The queue's functions, both sides: each is its plain description.
-/
import Derived.Test.YtdflfohpemfeiaaGreatDoorQueJ
import Derived.Test.YtdflfohpemfeiaaGreatDoorProcs
namespace Go.Proofs.YtdflfohpemfeiaaGreatDoor
namespace Ab
set_option linter.unusedVariables false
set_option linter.unusedSimpArgs false
theorem ifNT {α : Type} (x y : α) : (if (!true) = true then x else y) = y := rfl
theorem ifTF {α : Type} (x y : α) : (if true = false then x else y) = y := rfl
theorem ifFT {α : Type} (x y : α) : (if false = true then x else y) = y := rfl
theorem sortFunc_eq (l : List Proc) (hl : l.length ≤ 4294967296) : f_slices_SortFunc_api_Proc_api_Proc_m l = some (l.mergeSort fun x y => !decide (ltP y x)) := by
 unfold f_slices_SortFunc_api_Proc_api_Proc_m
 rw [gd_pos hl]
 congr 2
theorem take_two {l : List Proc} {i : Nat} (h : i + 1 < l.length) : l.take (i + 2) = l.take i ++ [l.getD i Proc.zero, l.getD (i + 1) Proc.zero] := by
 rw [List.take_succ_eq_append_getElem (by omega), List.take_succ_eq_append_getElem (by omega), List.append_assoc]
 congr 1
 rw [List.getD_eq_getElem?_getD, List.getElem?_eq_getElem (by omega), List.getD_eq_getElem?_getD, List.getElem?_eq_getElem h]
 rfl
theorem take_one {l : List Proc} {i : Nat} (h : i < l.length) : l.take (i + 1) = l.take i ++ [l.getD i Proc.zero] := by
 rw [List.take_succ_eq_append_getElem h]
 congr 1
 rw [List.getD_eq_getElem?_getD, List.getElem?_eq_getElem h]
 rfl
theorem dst_take {l : List Proc} {i : Nat} (h : i + 1 < l.length) : dst (l.take (i + 2)) = if l.getD i Proc.zero = l.getD (i + 1) Proc.zero then dst (l.take (i + 1)) else dst (l.take (i + 1)) ++ [l.getD (i + 1) Proc.zero] := by
 rw [take_two h, dst_snoc, ← take_one (by omega)]
theorem getD_of_drop {l m : List Proc} {i j : Nat} (h : l.drop i = m.drop i) (hij : i ≤ j) : l.getD j Proc.zero = m.getD j Proc.zero := by
 have e : ∀ x : List Proc, x.getD j Proc.zero = (x.drop i).getD (j - i) Proc.zero := fun x => by
  rw [List.getD_eq_getElem?_getD, List.getD_eq_getElem?_getD, List.getElem?_drop, show i + (j - i) = j by omega]
 rw [e l, e m, h]
theorem compact_inner (a : List Proc) (g : Nat) (hg : 1 ≤ g) (hgl : g < a.length) (hl : a.length ≤ 1000000) (he : a.getD g Proc.zero = a.getD (g - 1) Proc.zero) (hd : dst (a.take g) = a.take g) :
  ∃ x, loopO (f_slices_Compact_api_Proc_api_Proc_m_l2 a g) ((g : Int), 1, a) = some x ∧ ∃ k : Nat, x.1 = (k : Int) ∧ x.2.length = a.length ∧ k ≤ a.length ∧ x.2.take k = dst a := by
 refine loop_rel (fun s => ∃ k k2 : Nat, s.1 = (k : Int) ∧ s.2.1 = (k2 : Int) ∧ s.2.2.length = a.length ∧ 1 ≤ k2 ∧ g + k2 ≤ a.length ∧ k + 1 ≤ g + k2 ∧ s.2.2.take k = dst (a.take (g + k2)) ∧ s.2.2.drop (g + k2 - 1) = a.drop (g + k2 - 1)) (fun s => (a.length - s.2.1.toNat)) _ ?_ _ ?_
 ·rintro ⟨k, k2, s⟩ ⟨kn, k2n, h1, h2, h3, h4, h5, h6, h7, h8⟩
  simp only at h1 h2 h3 h7 h8
  subst h1; subst h2
  unfold f_slices_Compact_api_Proc_api_Proc_m_l2
  by_cases hlt : g + k2n < a.length
  ·left
   have w : IntKind.i64.wrap ((k2n : Int) - 1) = ((k2n - 1 : Nat) : Int) := by rw [wrap_id (by omega) (by omega)]; omega
   have w2 : IntKind.i64.wrap ((k2n : Int) + 1) = ((k2n + 1 : Nat) : Int) := by rw [wrap_id (by omega) (by omega)]; omega
   have w3 : IntKind.i64.wrap ((kn : Int) + 1) = ((kn + 1 : Nat) : Int) := by rw [wrap_id (by omega) (by omega)]; omega
   have r1 : s.getD (g + k2n) Proc.zero = a.getD (g + k2n) Proc.zero := getD_of_drop h8 (by omega)
   have r2 : s.getD (g + (k2n - 1)) Proc.zero = a.getD (g + (k2n - 1)) Proc.zero := getD_of_drop h8 (by omega)
   have hdt := dst_take (l := a) (i := g + (k2n - 1)) (by omega)
   rw [show g + (k2n - 1) + 2 = g + (k2n + 1) by omega, show g + (k2n - 1) + 1 = g + k2n by omega] at hdt
   simp only [Int.toNat_natCast, w, w2, w3]
   rw [if_pos (by simp; omega), gd_pos (by omega), gd_pos (by omega), r1, r2]
   by_cases hne : a.getD (g + k2n) Proc.zero = a.getD (g + (k2n - 1)) Proc.zero
   ·refine ⟨((kn : Int), ((k2n + 1 : Nat) : Int), s), by rw [if_neg (by simp only [hne, decide_true, Bool.not_true, Bool.false_eq_true, not_false_eq_true])], ⟨kn, k2n + 1, rfl, rfl, h3, by omega, by omega, by omega, ?_, ?_⟩, by simp only [Int.toNat_natCast]; omega⟩
    ·simp only
     rw [h7, hdt, if_pos hne.symm]
    ·simp only
     rw [show g + (k2n + 1) - 1 = (g + k2n - 1) + 1 by omega, ← List.drop_drop, ← List.drop_drop, h8]
   ·rw [if_pos (by simpa using hne), gd_pos (by omega), gd_pos (by omega)]
    refine ⟨(((kn + 1 : Nat) : Int), ((k2n + 1 : Nat) : Int), s.set kn (a.getD (g + k2n) Proc.zero)), rfl, ⟨kn + 1, k2n + 1, rfl, rfl, by simp [h3], by omega, by omega, by omega, ?_, ?_⟩, by simp only [Int.toNat_natCast]; omega⟩
    ·simp only
     rw [hdt, if_neg (fun e => hne e.symm), ← h7, take_one (by rw [List.length_set]; omega), List.take_set_of_le (by omega), getD_set_self _ _ _ _ (by omega)]
    ·simp only
     rw [List.drop_set_of_lt (by omega), show g + (k2n + 1) - 1 = (g + k2n - 1) + 1 by omega, ← List.drop_drop, ← List.drop_drop, h8]
  ·right
   refine ⟨((kn : Int), s), by simp only [Int.toNat_natCast]; rw [if_neg (by simp; omega)], kn, rfl, h3, by omega, ?_⟩
   simp only
   rw [h7, List.take_of_length_le (by omega)]
 ·refine ⟨g, 1, rfl, rfl, rfl, by omega, by omega, by omega, ?_, rfl⟩
  simp only
  have hdt := dst_take (l := a) (i := g - 1) (by omega)
  rw [show g - 1 + 2 = g + 1 by omega, show g - 1 + 1 = g by omega, if_pos he.symm, hd] at hdt
  exact hdt.symm
theorem compact_eq (a : List Proc) (hl : a.length ≤ 1000000) : ∃ r, f_slices_Compact_api_Proc_api_Proc_m a = some (dst a, r) := by
 unfold f_slices_Compact_api_Proc_api_Proc_m
 by_cases h2 : a.length < 2
 ·rw [if_pos (by simp; omega)]
  refine ⟨a, ?_⟩
  have : dst a = a := by
   match a, h2 with
   | [], _ => rfl
   | [x], _ => rfl
   | x :: y :: t, h => simp at h; omega
  rw [this]
 ·rw [if_neg (by simp; omega)]
  obtain ⟨x, hx, hp⟩ := loop_rel (body := f_slices_Compact_api_Proc_api_Proc_m_l1 a) (fun g => ∃ n : Nat, g = (n : Int) ∧ 1 ≤ n ∧ n ≤ a.length ∧ dst (a.take n) = a.take n) (fun g => a.length - g.toNat)
   (fun x => match x with | .inl _ => dst a = a | .inr z => z.1 = dst a) (by
    rintro g ⟨n, rfl, h1, h3, h4⟩
    unfold f_slices_Compact_api_Proc_api_Proc_m_l1
    by_cases hlt : n < a.length
    ·have w : IntKind.i64.wrap ((n : Int) - 1) = ((n - 1 : Nat) : Int) := by rw [wrap_id (by omega) (by omega)]; omega
     have w2 : IntKind.i64.wrap ((n : Int) + 1) = ((n + 1 : Nat) : Int) := by rw [wrap_id (by omega) (by omega)]; omega
     rw [if_pos (by simp; omega), gd_pos (by omega), w, w2, gd_pos (by omega)]
     simp only [Int.toNat_natCast]
     by_cases he : a.getD n Proc.zero = a.getD (n - 1) Proc.zero
     ·right
      obtain ⟨x, hx, k, hk1, hk2, hk3, hk4⟩ := compact_inner a n h1 hlt hl he h4
      rw [if_pos (decide_eq_true he), gd_pos (by omega), hx]
      obtain ⟨x1, x2⟩ := x
      simp only at hk1 hk2 hk4
      subst hk1
      rw [Option.bind_some]
      unfold f_slices_Compact_api_Proc_api_Proc_m_k2
      simp only [Int.toNat_natCast]
      rw [gd_pos (by omega), gd_pos (by omega)]
      refine ⟨_, rfl, ?_⟩
      simp only
      rw [List.drop_zero, List.append_assoc, List.take_append_of_le_length (by simp; omega), List.take_take, Nat.min_self, hk4]
     ·left
      refine ⟨((n + 1 : Nat) : Int), by rw [if_neg (by simpa using he)], ⟨n + 1, rfl, by omega, by omega, ?_⟩, by simp only [Int.toNat_natCast]; omega⟩
      have hdt := dst_take (l := a) (i := n - 1) (by omega)
      rw [show n - 1 + 2 = n + 1 by omega, show n - 1 + 1 = n by omega, if_neg (fun e => he e.symm), h4, ← take_one hlt] at hdt
      exact hdt
    ·right
     refine ⟨.inl (), by rw [if_neg (by simp; omega)], ?_⟩
     simp only
     rw [List.take_of_length_le (by omega)] at h4
     exact h4) 1 ⟨1, rfl, by omega, by omega, by
      match a, h2 with
      | x :: t, _ => simp [dst]⟩
  rw [hx]
  cases x with
  | inl u =>
   simp only at hp
   refine ⟨a, ?_⟩
   rw [hp]; rfl
  | inr z =>
   simp only at hp
   refine ⟨z.2, ?_⟩
   rw [← hp]; rfl
theorem ident_SortProcs_eq (l : List Proc) (hl : l.length ≤ 1000000) : f_ident_SortProcs l = some (sortP l) := by
 unfold f_ident_SortProcs
 rw [gd_pos (by omega), sortFunc_eq l (by omega), Option.bind_some]
 obtain ⟨r, h⟩ := compact_eq (l.mergeSort fun x y => !decide (ltP y x)) (by rw [List.length_mergeSort]; exact hl)
 rw [h]
 simp only [Option.bind_some]
 rw [dst_sortP (merge_sorted l) fun x => List.mem_mergeSort]
theorem index_eq (l : List Proc) (p : Proc) (hl : l.length ≤ 1000000) : f_slices_Contains_api_Proc_api_Proc l p = some (decide (p ∈ l)) := by
 unfold f_slices_Contains_api_Proc_api_Proc f_slices_Index_api_Proc_api_Proc
 have key : loopO (f_slices_Index_api_Proc_api_Proc_l1 l p) 0 = some ((firstR (fun i => if p = l.getD i Proc.zero then some (Sum.inr (i : Int)) else none) l.length 0).getD (Sum.inl ())) := by
  refine loop_range l.length _ (Sum.inl ()) (fun i hi => ?_) ?_
  ·unfold f_slices_Index_api_Proc_api_Proc_l1
   rw [if_pos (by simpa using hi), gd_pos (by omega), wrap_id (by omega) (by omega)]
   simp only [Int.toNat_natCast, decide_eq_true_eq]
   split <;> rfl
  ·unfold f_slices_Index_api_Proc_api_Proc_l1
   rw [if_neg (by simp)]
 rw [key]
 have fr : ∀ k i, i + k = l.length → (p ∈ l.drop i → ∃ j : Nat, firstR (fun i => if p = l.getD i Proc.zero then some (Sum.inr (α := Unit) (i : Int)) else none) k i = some (.inr (j : Int))) ∧ (p ∉ l.drop i → firstR (fun i => if p = l.getD i Proc.zero then some (Sum.inr (α := Unit) (i : Int)) else none) k i = none) := by
  intro k
  induction k with
  | zero => intro i hi; rw [List.drop_eq_nil_of_le (by omega)]; simp [firstR]
  | succ k ih =>
   intro i hi
   obtain ⟨h1, h2⟩ := ih (i + 1) (by omega)
   rw [getD_drop l i Proc.zero (by omega)]
   simp only [firstR]
   by_cases hp : p = l.getD i Proc.zero
   ·rw [← hp]
    simp only [if_true, List.mem_cons, true_or, forall_const, not_true, false_implies, and_true]
    exact ⟨i, rfl⟩
   ·simp only [hp, if_false, List.mem_cons, false_or]
    exact ⟨h1, h2⟩
 obtain ⟨h1, h2⟩ := fr l.length 0 (by omega)
 rw [List.drop_zero] at h1 h2
 by_cases hp : p ∈ l
 ·obtain ⟨j, hj⟩ := h1 hp
  rw [hj]
  simp only [Option.getD_some, Option.bind_some, hp, decide_true, Option.some.injEq, decide_eq_true_eq]
  omega
 ·rw [h2 hp]
  simp only [Option.getD_none, Option.bind_some, hp, decide_false]
  rfl
theorem ident_HasProc_eq (l : List Proc) (p : Proc) (hl : l.length ≤ 1000000) : f_ident_HasProc l p = some (decide (p ∈ l)) := by
 unfold f_ident_HasProc; rw [index_eq l p hl]; rfl
theorem ref02_HasProc_eq (l : List Proc) (p : Proc) (hl : l.length ≤ 1000000) : f_ref02_HasProc l p = some (decide (p ∈ l)) := by
 unfold f_ref02_HasProc
 have key := loop_list' (body := f_ref02_HasProc_l1 l p) l Proc.zero (fun i (_ : Unit) => (i : Int)) (fun _ x _ => some (if x = p then .inr (Sum.inr true) else .inl ())) (fun _ => Sum.inl (β := Bool) ())
  (fun i s hi => by
   unfold f_ref02_HasProc_l1
   have h3 : 0 ≤ (i : Int) ∧ (i : Int) < (l.length : Int) := by omega
   simp only [h3.1, h3.2, and_self, gd_true, decide_true, if_true, Int.toNat_natCast, wrap_succ i (by omega), Option.map_some, decide_eq_true_eq]
   split <;> rfl)
  (fun s => by unfold f_ref02_HasProc_l1; simp) ()
 rw [show (0 : Int) = (fun (i : Nat) (_ : Unit) => (i : Int)) 0 () from rfl, key]
 have fold : ∀ (l : List Proc) (i : Nat), walk (fun _ x (_ : Unit) => some (if x = p then .inr (Sum.inr true) else .inl ())) (fun _ => Sum.inl (β := Bool) ()) l i () = some (if p ∈ l then .inr true else .inl ()) := by
  intro l
  induction l with
  | nil => intro i; simp [walk]
  | cons x t ih =>
   intro i
   simp only [walk]
   by_cases e : x = p
   ·subst e; simp
   ·simp only [e, if_false, List.mem_cons, fun h : p = x => e h.symm, false_or]
    rw [ih]
    have : ¬ p = x := fun h => e h.symm
    simp [this]
 rw [fold]
 by_cases hp : p ∈ l <;> simp [hp, f_ref02_HasProc_k1]
theorem queue_Order_eq (q : Queue) (h1 : q.converts.length ≤ 1000) (h2 : q.waits.length ≤ 1000) : f_queue_Order q = some ((ordQ q).map (·.proc)) := by
 unfold f_queue_Order
 rw [queue_order_eq q (by omega) (by omega), Option.bind_some]
 have hl : (q.converts ++ q.waits).length ≤ 2000 := by rw [List.length_append]; omega
 show _ = some ((q.converts ++ q.waits).map (·.proc))
 generalize q.converts ++ q.waits = l at hl
 have key := loop_list (body := f_queue_Order_l1 l) l Wait.zero (fun i (s : List Proc) => ((i : Int), s)) (fun i h s => some (.inl (snocO s (some h.proc)))) (fun s => s) (fun i s => s.length ≤ i)
  (fun i s hi hs => by
   refine ⟨?_, fun s' h => ?_⟩
   ·unfold f_queue_Order_l1
    have h1 : s.length + 1 ≤ 4294967296 := by omega
    have h3 : 0 ≤ (i : Int) ∧ (i : Int) < (l.length : Int) := by omega
    simp only [h1, h3.1, h3.2, and_self, gd_true, decide_true, if_true, Int.toNat_natCast, wrap_succ i (by omega), Option.map_some, wmap, snocO]
   ·simp only [Option.some.injEq, Sum.inl.injEq] at h; subst h; simp [snocO]; omega)
  (fun s hs => by unfold f_queue_Order_l1; simp) [] (by simp)
 rw [show ((0, []) : Int × List Proc) = (fun (i : Nat) (s : List Proc) => ((i : Int), s)) 0 [] from rfl, key, walk_snoc (fun h : Wait => some h.proc)]
 simp [f_queue_Order_k1]
theorem holders_Procs_m_eq (l : List Hold) (hl : l.length ≤ 1000000) : f_holders_Procs_m l = some (l.map (·.proc)) := by
 have e : f_holders_Procs_m l = f_holders_Procs l := rfl
 rw [e]; exact procs_eq l hl
def procsQ (q : Queue) : List Proc := sortP (q.holds.map (·.proc) ++ (ordQ q).map (·.proc))
theorem queue_Procs_eq (q : Queue) (h0 : q.holds.length ≤ 1000) (h1 : q.converts.length ≤ 1000) (h2 : q.waits.length ≤ 1000) : f_queue_Procs q = some (procsQ q) := by
 unfold f_queue_Procs procsQ
 have hl : (ordQ q).length ≤ 2000 := by unfold ordQ; rw [List.length_append]; omega
 rw [holders_Procs_m_eq _ (by omega), Option.bind_some, queue_Order_eq q h1 h2, Option.bind_some, gd_pos (by simp; omega), ident_SortProcs_eq _ (by simp; omega)]
 rfl
theorem mem_procsQ {q : Queue} (h : SoundP q) {p : Proc} : p ∈ procsQ q ↔ hasQ q p = true := by
 unfold procsQ
 rw [mem_sortP, List.mem_append, has_iff h, or_comm]
theorem SoundP.lens {q : Queue} (h : SoundP q) : q.holds.length ≤ 8 ∧ q.converts.length ≤ 8 ∧ q.waits.length ≤ 8 ∧ sizeQ q ≤ 16 := by
 have := h.cl; have := h.wl; have := validH_len h.hv
 unfold sizeQ; omega
theorem settled_sound {q : Queue} (h : SoundP q) : settledQ q = !canQ q := by
 unfold settledQ
 rw [(soundQ_iff q).2 h, Bool.true_and]; rfl
theorem ref_advance_body (g : Queue × List Hold) (hs : SoundP g.1) (hg : g.2.length ≤ 1000000) : f_ref12_Advance_l1 g = some (if canQ g.1 = true then .inl (nextQ g) else .inr g) := by
 unfold f_ref12_Advance_l1
 rw [ref12_Settled_eq, Option.bind_some, settled_sound hs]
 cases hc : canQ g.1 with
 | false => simp
 | true =>
  obtain ⟨h1, _, hl⟩ := canQ_size hc
  rw [if_pos (by simp), ref12_Head_eq, Option.bind_some, if_pos rfl]
  unfold nextQ popQ
  by_cases h0 : 0 < g.1.converts.length
  ·rw [if_pos (by simpa using h0), gd_pos (by omega), if_pos h0]
   unfold f_ref12_Advance_k2
   rw [ref10_Set_eq _ _ _ (by simp only; omega), Option.bind_some, gd_pos (by omega)]
  ·rw [if_neg (by simpa using h0), if_neg h0]
   have hw : 0 < g.1.waits.length := by unfold sizeQ at h1; omega
   rw [gd_pos (by omega)]
   unfold f_ref12_Advance_k2
   rw [ref10_Set_eq _ _ _ (by simp only; omega), Option.bind_some, gd_pos (by omega)]
theorem ref12_Advance_eq {q : Queue} (h : SoundP q) : f_ref12_Advance q = some (advS q, advG q) := by
 unfold f_ref12_Advance
 have hl := h.lens
 rw [ref12_Sound_eq, Option.bind_some, (soundQ_iff q).2 h, if_neg (by decide), ref12_Copy_eq q (by omega) (by omega) (by omega), Option.bind_some]
 have key := loop_ind (body := f_ref12_Advance_l1) (fun g => SoundP g.1 ∧ sizeQ g.1 + g.2.length ≤ 1000) (fun g => sizeQ g.1) (fun g => advN (sizeQ g.1) g) (fun g hg => by
  rw [ref_advance_body g hg.1 (by omega)]
  cases hc : canQ g.1 with
  | false => right; rw [if_neg (by decide), advN_step, if_neg (by rw [hc]; decide)]
  | true =>
   left
   obtain ⟨h1, h2, _⟩ := canQ_size hc
   refine ⟨nextQ g, by rw [if_pos rfl], ⟨hg.1.pop hc, ?_⟩, ?_, ?_⟩
   ·unfold nextQ; simp only [List.length_append, List.length_cons, List.length_nil]; omega
   ·show sizeQ (popQ g.1) < sizeQ g.1; omega
   ·rw [advN_step g, if_pos hc]) (q, []) ⟨h, by simp only [List.length_nil]; omega⟩
 rw [key]
 rfl
theorem ref12_Advance_not {q : Queue} (h : soundQ q = false) : f_ref12_Advance q = some (Queue.zero, []) := by
 unfold f_ref12_Advance; rw [ref12_Sound_eq, Option.bind_some, h]; rfl
theorem ref12_changed_eq {q : Queue} (h : SoundP q) : f_ref12_changed q = some (changedQ q) := by
 unfold f_ref12_changed; rw [ref12_Advance_eq h, Option.bind_some, next_eq]; rfl
theorem okArg_eq (p : Proc) (pr : Int) : (((!(f_ident_ValidProc p)) || (decide (pr < 0))) || (decide (7 < pr))) = !okArg p pr := by
 unfold okArg
 generalize f_ident_ValidProc p = b
 rw [Bool.eq_iff_iff]
 cases b
 ·simp
 ·simp
theorem queue_fin_adv (q : Queue) (h : sizeQ q ≤ 1000) : f_queue_advance_m q = some (advG q, advS q) := queue_advance_eq q h
theorem queue_Claim_eq (q : Queue) (p : Proc) (a : Amount) (pr : Int) : f_queue_Claim q p a pr = some (claimS q p a pr) := by
 unfold f_queue_Claim claimS
 rw [queue_Valid_eq, Option.bind_some]
 cases h1 : settledQ q with
 | false => rfl
 | true =>
  obtain ⟨hs, hcan⟩ := (settled_iff q).1 h1
  have hl := hs.lens
  rw [ifNT, ifTF, okArg_eq]
  cases h2 : okArg p pr with
  | false => rfl
  | true =>
   rw [ifNT, ifTF]
   cases h3 : f_amount_Fits q.resource a with
   | false => rfl
   | true =>
    rw [ifNT, ifTF, queue_Wanted_eq q p (by omega) (by omega), Option.bind_some]
    cases h4 : (wantQ q p).2 with
    | true => rfl
    | false =>
     rw [ifFT, ifFT, queue_clone_m_eq q (by omega) (by omega) (by omega), Option.bind_some, queue_Held_eq q p (by omega), Option.bind_some, amount_Covers_eq, Option.bind_some]
     cases h5 : covA q.resource (getH q.holds p) a with
     | true => rfl
     | false =>
      rw [ifFT, ifFT]
      by_cases h6 : getH q.holds p = Amount.zero
      ·rw [if_neg (by rw [(zero_iff _).2 h6]; decide), if_neg (show ¬ getH q.holds p ≠ Amount.zero from fun k => k h6), wrap_id (by omega) (by omega)]
       by_cases h7 : 8 ≤ q.holds.length + q.waits.length
       ·rw [if_pos (by simp; omega), if_pos h7]; rfl
       ·rw [if_neg (by simp; omega), if_neg h7, line_Insert_eq, Option.bind_some]
        have hi := insS_ok hs h3 h2 h4 (p := p) (a := a) (pr := pr) (by omega)
        have e : ({ Wait.zero with proc := p, amount := a, priority := pr } : Wait) = ⟨p, a, pr, 0⟩ := rfl
        rw [e, hi, if_neg (by simp)]
        have hsc := hs.claimW h3 h2 h4 h6 (by omega) (p := p) (a := a) (pr := pr)
        have hl2 := hsc.lens
        unfold f_queue_finish_m1 f_queue_Claim_2_m f_queue_finish_m1_k1
        rw [gd_pos (by decide), Option.bind_some]
        have hq : (⟨(⟨q.resource.name, q.resource.kind, q.resource.units, q.resource.home⟩ : Resource), q.holds, q.converts, (claimW q p a pr).waits, q.gen⟩ : Queue) = claimW q p a pr := rfl
        simp only [hq]
        rw [queue_fin_adv _ (by omega)]
        simp only [Option.bind_some]
        unfold changedQ
        rw [(adv_gen (claimW q p a pr)).1]
      ·rw [if_pos (by rw [(zero_not _).2 h6]; rfl), if_pos h6]
       have hsc := hs.claimC h3 h4 h5 h6
       have hl2 := hsc.lens
       unfold f_queue_finish_m f_queue_Claim_1_m f_queue_finish_m_k1
       rw [gd_pos (by decide), amount_Join_eq, Option.bind_some, gd_pos (by omega), Option.bind_some]
       have hq : (⟨(⟨q.resource.name, q.resource.kind, q.resource.units, q.resource.home⟩ : Resource), q.holds, q.converts ++ [{ Wait.zero with proc := p, amount := joinA q.resource (getH q.holds p) a }], q.waits, q.gen⟩ : Queue) = claimC q p a := rfl
       simp only [hq]
       rw [queue_fin_adv _ (by omega)]
       simp only [Option.bind_some]
       unfold changedQ
       rw [(adv_gen (claimC q p a)).1]
theorem ref12_Claim_eq (q : Queue) (p : Proc) (a : Amount) (pr : Int) : f_ref12_Claim q p a pr = some (claimS q p a pr) := by
 unfold f_ref12_Claim claimS
 rw [ref12_Valid_eq, Option.bind_some]
 cases h1 : settledQ q with
 | false => rfl
 | true =>
  obtain ⟨hs, hcan⟩ := (settled_iff q).1 h1
  have hl := hs.lens
  rw [ifNT, ifTF, vproc_eq, okArg_eq]
  cases h2 : okArg p pr with
  | false => rfl
  | true =>
   rw [ifNT, ifTF, fits_eq]
   cases h3 : f_amount_Fits q.resource a with
   | false => rfl
   | true =>
    rw [ifNT, ifTF, ref12_Wanted_eq q p (by omega) (by omega), Option.bind_some]
    cases h4 : (wantQ q p).2 with
    | true => rfl
    | false =>
     rw [ifFT, ifFT, ref12_Copy_m_eq q (by omega) (by omega) (by omega), Option.bind_some, ref12_Held_eq q p (by omega), Option.bind_some]
     have hcv : f_ref04_Covers q.resource (getH q.holds p) a = covA q.resource (getH q.holds p) a := rfl
     rw [hcv]
     cases h5 : covA q.resource (getH q.holds p) a with
     | true => rfl
     | false =>
      rw [ifFT, ifFT, zero_eq]
      by_cases h6 : getH q.holds p = Amount.zero
      ·rw [if_neg (by rw [(zero_iff _).2 h6]; decide), if_neg (show ¬ getH q.holds p ≠ Amount.zero from fun k => k h6), wrap_id (by omega) (by omega)]
       by_cases h7 : 8 ≤ q.holds.length + q.waits.length
       ·rw [if_pos (by simp; omega), if_pos h7]; rfl
       ·rw [if_neg (by simp; omega), if_neg h7, ref11_Insert_eq, Option.bind_some]
        have hi := insS_ok hs h3 h2 h4 (p := p) (a := a) (pr := pr) (by omega)
        have e : ({ Wait.zero with proc := p, amount := a, priority := pr } : Wait) = ⟨p, a, pr, 0⟩ := rfl
        rw [e, hi, if_neg (by simp)]
        have hsc := hs.claimW h3 h2 h4 h6 (by omega) (p := p) (a := a) (pr := pr)
        have hq : (⟨(⟨q.resource.name, q.resource.kind, q.resource.units, q.resource.home⟩ : Resource), q.holds, q.converts, (claimW q p a pr).waits, q.gen⟩ : Queue) = claimW q p a pr := rfl
        simp only [hq]
        rw [ref12_changed_eq hsc]; rfl
      ·rw [if_pos (by rw [(zero_not _).2 h6]; rfl), if_pos h6]
       have hsc := hs.claimC h3 h4 h5 h6
       rw [ref04_Join_eq, Option.bind_some, gd_pos (by omega)]
       have hq : (⟨(⟨q.resource.name, q.resource.kind, q.resource.units, q.resource.home⟩ : Resource), q.holds, q.converts ++ [{ Wait.zero with proc := p, amount := joinA q.resource (getH q.holds p) a }], q.waits, q.gen⟩ : Queue) = claimC q p a := rfl
       rw [hq, ref12_changed_eq hsc]; rfl
theorem queue_Cancel_eq (q : Queue) (p : Proc) : f_queue_Cancel q p = some (cancelS q p) := by
 unfold f_queue_Cancel cancelS
 rw [queue_Valid_eq, Option.bind_some]
 cases h1 : settledQ q with
 | false => rfl
 | true =>
  obtain ⟨hs, hcan⟩ := (settled_iff q).1 h1
  have hl := hs.lens
  rw [ifNT, ifTF, queue_Wanted_eq q p (by omega) (by omega), Option.bind_some]
  cases h4 : (wantQ q p).2 with
  | false => rfl
  | true =>
   rw [ifNT, ifTF, queue_clone_eq q (by omega) (by omega) (by omega), Option.bind_some]
   have hsc := hs.cancel p
   have hl2 := hsc.lens
   unfold f_queue_finish_m3 f_queue_Cancel_1_m f_queue_Cancel_2_m f_queue_finish_m3_k1
   rw [gd_pos (by decide), line_Remove_eq _ _ (by omega), Option.bind_some, Option.bind_some, gd_pos (by decide), line_Remove_eq _ _ (by simp only; omega), Option.bind_some, Option.bind_some]
   have hq : ({ { q with converts := rmL q.converts p } with waits := rmL q.waits p } : Queue) = cancelQ q p := rfl
   simp only [hq]
   rw [queue_fin_adv _ (by omega)]
   simp only [Option.bind_some]
   unfold changedQ
   rw [(adv_gen (cancelQ q p)).1]
theorem ref12_Cancel_eq (q : Queue) (p : Proc) : f_ref12_Cancel q p = some (cancelS q p) := by
 unfold f_ref12_Cancel cancelS
 rw [ref12_Valid_eq, Option.bind_some]
 cases h1 : settledQ q with
 | false => rfl
 | true =>
  obtain ⟨hs, hcan⟩ := (settled_iff q).1 h1
  have hl := hs.lens
  rw [ifNT, ifTF, ref12_Wanted_eq q p (by omega) (by omega), Option.bind_some]
  cases h4 : (wantQ q p).2 with
  | false => rfl
  | true =>
   rw [ifNT, ifTF, ref12_Copy_eq q (by omega) (by omega) (by omega), Option.bind_some, ref11_Remove_eq _ _ (by omega), Option.bind_some, ref11_Remove_eq _ _ (by simp only; omega), Option.bind_some]
   have hq : ({ { q with converts := rmL q.converts p } with waits := rmL q.waits p } : Queue) = cancelQ q p := rfl
   simp only [hq]
   rw [ref12_changed_eq (hs.cancel p)]; rfl
theorem want_held {q : Queue} (hs : SoundP q) {p : Proc} (hz : getH q.holds p ≠ Amount.zero) : decide (0 ≤ find1 q.converts p) = (wantQ q p).2 := by
 rw [Bool.eq_iff_iff, want_iff, decide_eq_true_eq]
 constructor
 ·intro h
  refine Classical.byContradiction fun hno => ?_
  have : ∀ w ∈ q.converts, w.proc ≠ p := fun w hw e => hno ⟨w, List.mem_append_left _ hw, e⟩
  exact find1_neg.2 this h
 ·rintro ⟨w, hw, e⟩
  rcases List.mem_append.1 hw with hw | hw
  ·refine Classical.byContradiction fun hno => ?_
   exact find1_neg.1 hno w hw e
  ·exact absurd (by rw [← e]; exact (hs.wg w hw).2) hz
theorem queue_Lower_eq (q : Queue) (p : Proc) (a : Amount) : f_queue_Lower q p a = some (lowerS q p a) := by
 unfold f_queue_Lower lowerS
 rw [queue_Valid_eq, Option.bind_some]
 cases h1 : settledQ q with
 | false => rfl
 | true =>
  obtain ⟨hs, hcan⟩ := (settled_iff q).1 h1
  have hl := hs.lens
  rw [ifNT, ifTF, queue_Held_eq q p (by omega), Option.bind_some]
  by_cases h6 : getH q.holds p = Amount.zero
  ·rw [if_pos ((zero_iff _).2 h6), if_pos h6]; rfl
  ·rw [if_neg (by rw [(zero_not _).2 h6]; decide), if_neg h6, line_Find_eq _ _ (by omega), Option.bind_some, want_held hs h6]
   cases h4 : (wantQ q p).2 with
   | true => rfl
   | false =>
    rw [ifFT, ifFT, amount_Covers_eq, Option.bind_some]
    cases h5 : covA q.resource (getH q.holds p) a with
    | false => rfl
    | true =>
     rw [ifNT, ifTF, queue_clone_eq q (by omega) (by omega) (by omega), Option.bind_some]
     by_cases h7 : getH q.holds p = a
     ·rw [if_pos (by simp [h7]), if_pos h7]
     ·rw [if_neg (by simpa using fun e => h7 e.symm), if_neg h7]
      have hsc := hs.lower h4 h6 h5
      have hl2 := hsc.lens
      unfold f_queue_finish_m4 f_queue_Lower_1_m f_queue_finish_m4_k1
      rw [gd_pos (by decide), holders_Set_eq _ _ _ (by omega), Option.bind_some, Option.bind_some]
      have hq : ({ q with holds := setL q.holds p a } : Queue) = lowerQ q p a := rfl
      simp only [hq]
      rw [queue_fin_adv _ (by omega)]
      simp only [Option.bind_some]
      unfold changedQ
      rw [(adv_gen (lowerQ q p a)).1]
theorem ref12_Lower_eq (q : Queue) (p : Proc) (a : Amount) : f_ref12_Lower q p a = some (lowerS q p a) := by
 unfold f_ref12_Lower lowerS
 rw [ref12_Valid_eq, Option.bind_some]
 cases h1 : settledQ q with
 | false => rfl
 | true =>
  obtain ⟨hs, hcan⟩ := (settled_iff q).1 h1
  have hl := hs.lens
  rw [ifNT, ifTF, ref12_Held_eq q p (by omega), Option.bind_some, zero_eq]
  by_cases h6 : getH q.holds p = Amount.zero
  ·rw [if_pos ((zero_iff _).2 h6), if_pos h6]; rfl
  ·rw [if_neg (by rw [(zero_not _).2 h6]; decide), if_neg h6, ref12_Wanted_eq q p (by omega) (by omega), Option.bind_some]
   cases h4 : (wantQ q p).2 with
   | true => rfl
   | false =>
    have hcv : f_ref04_Covers q.resource (getH q.holds p) a = covA q.resource (getH q.holds p) a := rfl
    rw [ifFT, ifFT, hcv]
    cases h5 : covA q.resource (getH q.holds p) a with
    | false => rfl
    | true =>
     rw [ifNT, ifTF, ref12_Copy_eq q (by omega) (by omega) (by omega), Option.bind_some]
     by_cases h7 : getH q.holds p = a
     ·rw [if_pos (by simp [h7]), if_pos h7]
     ·rw [if_neg (by simpa using h7), if_neg h7, ref10_Set_eq _ _ _ (by omega), Option.bind_some]
      have hq : ({ q with holds := setL q.holds p a } : Queue) = lowerQ q p a := rfl
      simp only [hq]
      rw [ref12_changed_eq (hs.lower h4 h6 h5)]; rfl
theorem queue_Remove_eq (q : Queue) (p : Proc) : f_queue_Remove q p = some (removeS q p) := by
 unfold f_queue_Remove removeS
 rw [queue_Valid_eq, Option.bind_some]
 cases h1 : settledQ q with
 | false => rfl
 | true =>
  obtain ⟨hs, hcan⟩ := (settled_iff q).1 h1
  have hl := hs.lens
  have hpl : (procsQ q).length ≤ 1000000 := by
   have := sortP_len (q.holds.map (·.proc) ++ (ordQ q).map (·.proc))
   unfold procsQ
   unfold ordQ at *
   simp only [List.length_append, List.length_map] at this
   omega
  rw [ifNT, ifTF, queue_Procs_eq q (by omega) (by omega) (by omega), Option.bind_some, ident_HasProc_eq _ _ hpl, Option.bind_some]
  have he : decide (p ∈ procsQ q) = hasQ q p := by rw [Bool.eq_iff_iff, decide_eq_true_eq, mem_procsQ hs]
  rw [he]
  cases h4 : hasQ q p with
  | false => rfl
  | true =>
   rw [ifNT, ifTF, queue_clone_eq q (by omega) (by omega) (by omega), Option.bind_some]
   have hsc := hs.del p
   have hl2 := hsc.lens
   unfold f_queue_finish_m2 f_queue_Remove_1_m f_queue_Remove_2_m f_queue_Remove_3_m f_queue_finish_m2_k1
   rw [gd_pos (by decide), holders_Set_eq _ _ _ (by omega), Option.bind_some, Option.bind_some, gd_pos (by decide), line_Remove_eq _ _ (by simp only; omega), Option.bind_some, Option.bind_some, gd_pos (by decide), line_Remove_eq _ _ (by simp only; omega), Option.bind_some, Option.bind_some]
   have hz : setL q.holds p ({ Amount.zero with }) = others p q.holds := if_pos rfl
   have hq : ({ { { q with holds := others p q.holds } with converts := rmL q.converts p } with waits := rmL q.waits p } : Queue) = del q p := rfl
   simp only [hz, hq]
   rw [queue_fin_adv _ (by omega)]
   simp only [Option.bind_some]
   unfold changedQ
   rw [(adv_gen (del q p)).1]
theorem ref12_Has_eq (q : Queue) (p : Proc) (h0 : q.holds.length ≤ 1000000) (h1 : q.converts.length ≤ 1000000) (h2 : q.waits.length ≤ 1000000) : f_ref12_Has q p = some (hasQ q p) := by
 unfold f_ref12_Has hasQ
 rw [ref12_Wanted_eq q p h1 h2, Option.bind_some, ref12_Held_eq q p (by omega)]
 cases h : (wantQ q p).2 <;> simp [zero_eq]
theorem ref12_Remove_eq (q : Queue) (p : Proc) : f_ref12_Remove q p = some (removeS q p) := by
 unfold f_ref12_Remove removeS
 rw [ref12_Valid_eq, Option.bind_some]
 cases h1 : settledQ q with
 | false => rfl
 | true =>
  obtain ⟨hs, hcan⟩ := (settled_iff q).1 h1
  have hl := hs.lens
  rw [ifNT, ifTF, ref12_Has_eq q p (by omega) (by omega) (by omega), Option.bind_some]
  cases h4 : hasQ q p with
  | false => rfl
  | true =>
   rw [ifNT, ifTF, ref12_Copy_eq q (by omega) (by omega) (by omega), Option.bind_some, ref10_Set_eq _ _ _ (by omega), Option.bind_some, ref11_Remove_eq _ _ (by simp only; omega), Option.bind_some, ref11_Remove_eq _ _ (by simp only; omega), Option.bind_some]
   have hz : setL q.holds p ({ Amount.zero with }) = others p q.holds := if_pos rfl
   have hq : ({ { { q with holds := others p q.holds } with converts := rmL q.converts p } with waits := rmL q.waits p } : Queue) = del q p := rfl
   simp only [hz, hq]
   rw [ref12_changed_eq (hs.del p)]; rfl
end Ab
end Go.Proofs.YtdflfohpemfeiaaGreatDoor
