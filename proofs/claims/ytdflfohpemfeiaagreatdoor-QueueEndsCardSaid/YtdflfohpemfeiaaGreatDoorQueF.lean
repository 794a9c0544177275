/-
  Names, resources, what is held, what covers: both sides say the same.
-/
import Derived.Test.YtdflfohpemfeiaaGreatDoorHoldC
import Derived.Test.YtdflfohpemfeiaaGreatDoorLinA
namespace Go.Proofs.YtdflfohpemfeiaaGreatDoor
namespace Ab
set_option linter.unusedVariables false
set_option linter.unusedSimpArgs false
theorem reserved_eq (s : ByteArray) : f_catalog_Reserved s = f_ref05_Reserved s := by
 unfold f_catalog_Reserved f_ref05_Reserved f_catalog_Reserved_k1
 generalize (s.toList == _) = a
 generalize (s.toList == _) = b
 generalize (s.toList == _) = c
 generalize (s.toList == _) = d
 generalize (s.toList == _) = e
 cases a <;> cases b <;> cases c <;> cases d <;> cases e <;> rfl
def chI (s : ByteArray) (i : Nat) : Int := ((s.toList.getD i 0).toNat : Int)
def okC (s : ByteArray) (i : Nat) : Bool := f_ref05_Letter (chI s i) || (!decide (i = 0) && f_ref05_Part (chI s i))
theorem catalog_Name_loop (s : ByteArray) (hl : s.size ≤ 12) : loopO (f_catalog_ValidName_l1 s) 0 = some (if (List.range s.size).all (okC s) = true then .inl () else .inr false) := by
 have key : loopO (f_catalog_ValidName_l1 s) 0 = some ((firstR (fun i => if okC s i = true then none else some (Sum.inr false)) s.size 0).getD (Sum.inl ())) := by
  refine loop_range s.size _ (Sum.inl ()) (fun i hi => ?_) ?_
  ·unfold f_catalog_ValidName_l1
   rw [if_pos (by simpa using hi), gd_pos (by omega), wrap_id (by omega) (by omega)]
   simp only [Int.toNat_natCast]
   have e : ((!((decide (97 ≤ ((s.toList.getD i 0).toNat : Int))) && (decide (((s.toList.getD i 0).toNat : Int) ≤ 122)))) && ((decide ((i : Int) = 0)) || (!((((decide (48 ≤ ((s.toList.getD i 0).toNat : Int))) && (decide (((s.toList.getD i 0).toNat : Int) ≤ 57))) || (decide (((s.toList.getD i 0).toNat : Int) = 95))) || (decide (((s.toList.getD i 0).toNat : Int) = 45)))))) = !okC s i := by
    unfold okC f_ref05_Part f_ref05_Letter chI
    generalize ((s.toList.getD i 0).toNat : Int) = c
    rw [Bool.eq_iff_iff]
    simp
    omega
   cases hk : okC s i
   ·rw [hk] at e; exact if_pos e
   ·rw [hk] at e; exact if_neg (by rw [show _ = false from e]; decide)
  ·unfold f_catalog_ValidName_l1
   rw [if_neg (by simp)]
 rw [key, firstR_all, ← List.range_eq_range']
 cases (List.range s.size).all (okC s) <;> rfl
theorem ref05_Name_loop (s : ByteArray) (hl : s.size ≤ 12) : loopO (f_ref05_ValidName_l1 s) 0 = some (if (List.range s.size).all (fun i => f_ref05_Part (chI s i)) = true then .inl () else .inr false) := by
 have key : loopO (f_ref05_ValidName_l1 s) 0 = some ((firstR (fun i => if f_ref05_Part (chI s i) = true then none else some (Sum.inr false)) s.size 0).getD (Sum.inl ())) := by
  refine loop_range s.size _ (Sum.inl ()) (fun i hi => ?_) ?_
  ·unfold f_ref05_ValidName_l1
   rw [if_pos (by simpa using hi), gd_pos (by omega), wrap_id (by omega) (by omega)]
   simp only [Int.toNat_natCast]
   show (if (!f_ref05_Part (chI s i)) = true then _ else _) = _
   cases f_ref05_Part (chI s i) <;> rfl
  ·unfold f_ref05_ValidName_l1
   rw [if_neg (by simp)]
 rw [key, firstR_all, ← List.range_eq_range']
 cases (List.range s.size).all (fun i => f_ref05_Part (chI s i)) <;> rfl
def nameOk (s : ByteArray) : Bool := decide (1 ≤ s.size) && (decide (s.size ≤ 12) && (!f_ref05_Reserved s && (List.range s.size).all (okC s)))
theorem catalog_Name_eq (s : ByteArray) : f_catalog_ValidName s = some (nameOk s) := by
 unfold f_catalog_ValidName nameOk
 rw [reserved_eq]
 by_cases h1 : s.size < 1
 ·have : ¬ 1 ≤ s.size := by omega
  rw [if_pos (by simp; omega)]
  simp [this]
 by_cases h2 : 12 < s.size
 ·have : ¬ s.size ≤ 12 := by omega
  rw [if_pos (by simp; omega)]
  simp [this]
 cases hr : f_ref05_Reserved s
 ·rw [if_neg (by simp; omega), catalog_Name_loop s (by omega)]
  have a1 : 1 ≤ s.size := by omega
  have a2 : s.size ≤ 12 := by omega
  simp only [a1, a2, decide_true, Bool.true_and, Bool.not_false]
  cases (List.range s.size).all (okC s) <;> rfl
 ·rw [if_pos (by simp)]
  simp
theorem ref05_Name_eq (s : ByteArray) : f_ref05_ValidName s = some (nameOk s) := by
 unfold f_ref05_ValidName nameOk
 by_cases h1 : s.size < 1
 ·have : ¬ 1 ≤ s.size := by omega
  rw [gd_pos (by simp; omega), if_pos (by simp; omega)]
  simp [this]
 by_cases h2 : 12 < s.size
 ·have : ¬ s.size ≤ 12 := by omega
  rw [gd_pos (by simp; omega), if_pos (by simp; omega)]
  simp [this]
 have a1 : 1 ≤ s.size := by omega
 have a2 : s.size ≤ 12 := by omega
 rw [gd_pos (by intro _; omega)]
 have c0 : ((s.toList.getD 0 0).toNat : Int) = chI s 0 := rfl
 have d1 : decide ((s.size : Int) < 1) = false := by simp; omega
 have d2 : decide (12 < (s.size : Int)) = false := by simp; omega
 simp only [a1, a2, decide_true, Bool.true_and, c0, d1, d2, Bool.false_or]
 have hall : (List.range s.size).all (okC s) = (f_ref05_Letter (chI s 0) && (List.range s.size).all fun i => f_ref05_Part (chI s i)) := by
  rw [Bool.eq_iff_iff]
  simp only [List.all_eq_true, List.mem_range, Bool.and_eq_true, okC, Bool.or_eq_true, Bool.not_eq_true', decide_eq_false_iff_not]
  constructor
  ·intro h
   refine ⟨?_, fun i hi => ?_⟩
   ·rcases h 0 (by omega) with h | h
    ·exact h
    ·exact absurd rfl h.1
   ·rcases h i hi with h | h
    ·unfold f_ref05_Part; simp [h]
    ·exact h.2
  ·rintro ⟨h0, h⟩ i hi
   by_cases hz : i = 0
   ·subst hz; exact .inl h0
   ·exact .inr ⟨hz, h i hi⟩
 rw [hall]
 cases hr : f_ref05_Reserved s
 ·cases hL : f_ref05_Letter (chI s 0)
  ·rfl
  ·simp only [Bool.not_true, Bool.or_self, Bool.false_eq_true, if_false, ref05_Name_loop s a2, Bool.not_false, Bool.true_and]
   cases (List.range s.size).all (fun i => f_ref05_Part (chI s i)) <;> rfl
 ·simp
def resV (r : Resource) : Bool := nameOk r.name && (f_amount_Shaped r && (decide (0 ≤ r.home) && decide (r.home < 4)))
theorem catalog_Res_eq (r : Resource) : f_catalog_ValidResource r = some (resV r) := by
 unfold f_catalog_ValidResource resV
 rw [catalog_Name_eq]
 simp only [Option.bind_some, Bool.and_assoc]
theorem ref05_Res_eq (r : Resource) : f_ref05_ValidResource r = some (resV r) := by
 unfold f_ref05_ValidResource resV
 rw [ref05_Name_eq, shaped_eq]
 simp only [Option.bind_some, Bool.and_assoc]
def getH (l : List Hold) (p : Proc) : Amount := match l.find? fun h => decide (h.proc = p) with
 | some h => h.amount
 | none => Amount.zero
theorem firstR_get (l : List Hold) (p : Proc) : ∀ k i, i + k = l.length → ((firstR (fun i => if (l.getD i Hold.zero).proc = p then some (Sum.inr (α := Unit) (l.getD i Hold.zero).amount) else none) k i).getD (Sum.inl ())) = match (l.drop i).find? fun h => decide (h.proc = p) with
  | some h => Sum.inr h.amount
  | none => Sum.inl ()
 | 0, i, h => by rw [List.drop_eq_nil_of_le (by omega)]; rfl
 | k + 1, i, h => by
  rw [getD_drop l i Hold.zero (by omega)]
  simp only [firstR, List.find?_cons]
  by_cases hp : (l.getD i Hold.zero).proc = p
  ·simp only [hp, if_true, decide_true, Option.getD_some]
  ·simp only [hp, if_false, decide_false]
   exact firstR_get l p k (i + 1) (by omega)
theorem holders_Get_eq (l : List Hold) (p : Proc) (hl : l.length < 4611686018427387904) : f_holders_Get l p = some (getH l p) := by
 unfold f_holders_Get
 have key : loopO (f_holders_Get_l1 l p) 0 = some ((firstR (fun i => if (l.getD i Hold.zero).proc = p then some (Sum.inr (α := Unit) (l.getD i Hold.zero).amount) else none) l.length 0).getD (Sum.inl ())) := by
  refine loop_range l.length _ (Sum.inl ()) (fun i hi => ?_) ?_
  ·unfold f_holders_Get_l1
   rw [if_pos (by simpa using hi), gd_pos (by omega), wrap_id (by omega) (by omega)]
   simp only [Int.toNat_natCast, decide_eq_true_eq]
   split <;> rfl
  ·unfold f_holders_Get_l1
   rw [if_neg (by simp)]
 rw [key, firstR_get l p l.length 0 (by omega), List.drop_zero]
 unfold getH
 cases l.find? fun h => decide (h.proc = p) <;> rfl
theorem ref10_Get_eq (l : List Hold) (p : Proc) (hl : l.length < 4611686018427387904) : f_ref10_Get l p = some (getH l p) := by
 rw [← holders_Get_eq l p hl]
 unfold f_ref10_Get f_holders_Get
 have e : f_ref10_Get_l1 l p = f_holders_Get_l1 l p := funext fun i => by
  unfold f_ref10_Get_l1 f_holders_Get_l1
  by_cases h : 0 ≤ i ∧ i < (l.length : Int)
  ·simp only [gd_pos h]
  ·by_cases hi : i < (l.length : Int)
   ·rw [if_pos (decide_eq_true hi), if_pos (decide_eq_true hi), gdn h, gdn h]
   ·rw [if_neg (by simpa using hi), if_neg (by simpa using hi)]
 rw [e]
 rfl
theorem zero_eq (a : Amount) : f_ref04_Zero a = f_amount_Zero a := rfl
abbrev covM (a b : Int) : Bool := f_ref03_Covers a b
theorem covM_iff (a b : Int) : covM a b = true ↔ (1 ≤ a ∧ a ≤ 5 ∧ 1 ≤ b ∧ b ≤ 5) ∧ (a = b ∨ a = 5 ∨ b = 1 ∨ a = 4 ∧ b ≠ 5) := by
 unfold covM f_ref03_Covers f_ref03_Valid
 by_cases h : 1 ≤ a ∧ a ≤ 5 ∧ 1 ≤ b ∧ b ≤ 5
 ·rw [if_neg (by simp; omega)]
  simp
  omega
 ·rw [if_pos (by simp; omega)]
  simp
  omega
theorem mode_Covers_eq (a b : Int) : f_mode_Covers a b = some (covM a b) := by
 unfold f_mode_Covers f_mode_Valid
 rw [gd_pos (by simp; omega)]
 congr 1
 rw [Bool.eq_iff_iff, covM_iff]
 by_cases h : 1 ≤ a ∧ a ≤ 5 ∧ 1 ≤ b ∧ b ≤ 5
 ·obtain ⟨h1, h2, h3, h4⟩ := h
  have ha : a = 1 ∨ a = 2 ∨ a = 3 ∨ a = 4 ∨ a = 5 := by omega
  have hb : b = 1 ∨ b = 2 ∨ b = 3 ∨ b = 4 ∨ b = 5 := by omega
  rcases ha with rfl | rfl | rfl | rfl | rfl <;> rcases hb with rfl | rfl | rfl | rfl | rfl <;> decide
 ·constructor
  ·intro hh
   simp only [Bool.and_eq_true, decide_eq_true_eq] at hh
   omega
  ·rintro ⟨hh, _⟩; exact absurd hh h
def covA (r : Resource) (a b : Amount) : Bool := f_ref04_Covers r a b
theorem amount_Covers_eq (r : Resource) (a b : Amount) : f_amount_Covers r a b = some (covA r a b) := by
 unfold f_amount_Covers covA f_ref04_Covers
 simp only [perm_eq, zero_eq, mode_Covers_eq, Option.bind_some]
 cases f_amount_permitted r a <;> cases f_amount_permitted r b <;> simp
 cases ha : f_amount_Zero a <;> cases hb : f_amount_Zero b <;> simp
 split <;> rfl
end Ab
end Go.Proofs.YtdflfohpemfeiaaGreatDoor
namespace Go.Proofs.YtdflfohpemfeiaaGreatDoor
namespace Ab
set_option linter.unusedVariables false
set_option linter.unusedSimpArgs false
theorem queue_Held_eq (q : Queue) (p : Proc) (hl : q.holds.length < 4611686018427387904) : f_queue_Held q p = some (getH q.holds p) := by
 unfold f_queue_Held
 rw [holders_Get_eq _ _ hl]; rfl
theorem ref12_Held_eq (q : Queue) (p : Proc) (hl : q.holds.length < 4611686018427387904) : f_ref12_Held q p = some (getH q.holds p) := by
 unfold f_ref12_Held
 rw [ref10_Get_eq _ _ hl]; rfl
theorem hb (b : Bool) : b = true ∨ b = false := by cases b <;> simp
def cvI (q : Queue) (i : Nat) : Bool :=
 let w := q.converts.getD i Wait.zero
 let h := getH q.holds w.proc
 decide (find1 q.converts w.proc = (i : Int)) && (!f_amount_Zero h && (f_amount_Fits q.resource w.amount && (covA q.resource w.amount h && (!decide (w.amount = h) && (decide (w.priority = 0) && decide (w.passed = 0))))))
def cvOk (q : Queue) : Bool := decide (q.converts.length ≤ 8) && (List.range q.converts.length).all (cvI q)
def wtI (q : Queue) (i : Nat) : Bool :=
 let w := q.waits.getD i Wait.zero
 f_amount_Fits q.resource w.amount && f_amount_Zero (getH q.holds w.proc)
def wtOk (q : Queue) : Bool := validL q.waits && (decide (q.holds.length + q.waits.length ≤ 8) && (List.range q.waits.length).all (wtI q))
theorem converts_loop (q : Queue) (hl : q.holds.length < 4611686018427387904) (hc : q.converts.length ≤ 8) : loopO (f_queue_soundConverts_l1 q) 0 = some (if (List.range q.converts.length).all (cvI q) = true then .inl () else .inr false) := by
 have key : loopO (f_queue_soundConverts_l1 q) 0 = some ((firstR (fun i => if cvI q i = true then none else some (Sum.inr false)) q.converts.length 0).getD (Sum.inl ())) := by
  refine loop_range q.converts.length _ (Sum.inl ()) (fun i hi => ?_) ?_
  ·unfold f_queue_soundConverts_l1
   rw [if_pos (by simpa using hi), gd_pos (by omega), wrap_id (by omega) (by omega), Int.toNat_natCast]
   unfold cvI
   generalize q.converts.getD i Wait.zero = w
   rw [queue_Held_eq q _ hl, Option.bind_some, line_Find_eq _ _ (show q.converts.length < 4611686018427387904 by omega), Option.bind_some]
   simp only [amount_Covers_eq]
   rcases hb (decide (find1 q.converts w.proc = (i : Int))) with c1 | c1 <;> rcases hb (f_amount_Zero (getH q.holds w.proc)) with c2 | c2 <;> rcases hb (f_amount_Fits q.resource w.amount) with c3 | c3 <;> rcases hb (covA q.resource w.amount (getH q.holds w.proc)) with c4 | c4 <;>
    rcases hb (decide (w.amount = getH q.holds w.proc)) with c5 | c5 <;> rcases hb (decide (w.priority = 0)) with c6 | c6 <;> rcases hb (decide (w.passed = 0)) with c7 | c7 <;>
    simp only [c1, c2, c3, c4, c5, c6, c7, Bool.not_true, Bool.not_false, Bool.or_true, Bool.true_or, Bool.or_false, Bool.false_or, Bool.and_true, Bool.true_and, Bool.and_false, Bool.false_and, if_true, if_false, Bool.false_eq_true, Option.bind_some, Bool.or_self, Bool.and_self]
  ·unfold f_queue_soundConverts_l1
   rw [if_neg (by simp)]
 rw [key, firstR_all, ← List.range_eq_range']
 cases (List.range q.converts.length).all (cvI q) <;> rfl
theorem queue_soundConverts_eq (q : Queue) (hl : q.holds.length < 4611686018427387904) : f_queue_soundConverts q = some (cvOk q) := by
 unfold f_queue_soundConverts cvOk
 by_cases h : 8 < q.converts.length
 ·have : ¬ q.converts.length ≤ 8 := by omega
  rw [if_pos (by simp; omega)]
  simp [this]
 ·have h8 : q.converts.length ≤ 8 := by omega
  rw [if_neg (by simp; omega), converts_loop q hl h8]
  simp only [h8, decide_true, Bool.true_and]
  cases (List.range q.converts.length).all (cvI q) <;> rfl
theorem waits_loop (q : Queue) (hl : q.holds.length < 4611686018427387904) (hc : q.waits.length ≤ 8) : loopO (f_queue_soundWaits_l1 q) 0 = some (if (List.range q.waits.length).all (wtI q) = true then .inl () else .inr false) := by
 have key : loopO (f_queue_soundWaits_l1 q) 0 = some ((firstR (fun i => if wtI q i = true then none else some (Sum.inr false)) q.waits.length 0).getD (Sum.inl ())) := by
  refine loop_range q.waits.length _ (Sum.inl ()) (fun i hi => ?_) ?_
  ·unfold f_queue_soundWaits_l1
   rw [if_pos (by simpa using hi), gd_pos (by omega), wrap_id (by omega) (by omega), Int.toNat_natCast]
   unfold wtI
   generalize q.waits.getD i Wait.zero = w
   rw [queue_Held_eq q _ hl]
   rcases hb (f_amount_Zero (getH q.holds w.proc)) with c2 | c2 <;> rcases hb (f_amount_Fits q.resource w.amount) with c3 | c3 <;> simp only [c2, c3, Bool.not_true, Bool.not_false, Bool.or_true, Bool.true_or, Bool.or_false, Bool.false_or, Bool.and_true, Bool.true_and, Bool.and_false, Bool.false_and, if_true, if_false, Bool.false_eq_true, Option.bind_some, Bool.or_self, Bool.and_self]
  ·unfold f_queue_soundWaits_l1
   rw [if_neg (by simp)]
 rw [key, firstR_all, ← List.range_eq_range']
 cases (List.range q.waits.length).all (wtI q) <;> rfl
theorem queue_soundWaits_eq (q : Queue) (hl : q.holds.length ≤ 1000000) : f_queue_soundWaits q = some (wtOk q) := by
 unfold f_queue_soundWaits wtOk
 rw [line_Valid_eq, Option.bind_some]
 cases hv : validL q.waits
 ·simp
 ·have h8 := validL_len hv
  rw [wrap_id (by omega) (by omega)]
  by_cases h : 8 < q.holds.length + q.waits.length
  ·have : ¬ q.holds.length + q.waits.length ≤ 8 := by omega
   rw [if_pos (by simp; omega)]
   simp [this]
  ·have h9 : q.holds.length + q.waits.length ≤ 8 := by omega
   rw [if_neg (by simp; omega), waits_loop q (by omega) h8]
   simp only [h9, decide_true, Bool.true_and]
   cases (List.range q.waits.length).all (wtI q) <;> rfl
def soundQ (q : Queue) : Bool := resV q.resource && (validH q.resource q.holds && (cvOk q && (wtOk q && (decide (0 ≤ q.gen) && decide (q.gen ≤ 1073741824)))))
theorem queue_Sound_eq (q : Queue) : f_queue_Sound q = some (soundQ q) := by
 unfold f_queue_Sound soundQ
 rw [catalog_Res_eq, Option.bind_some]
 cases resV q.resource
 ·simp
 ·simp only [if_true, holders_Valid_eq, Option.bind_some, Bool.true_and]
  cases hv : validH q.resource q.holds
  ·simp
  ·have hl := validH_len hv
   simp only [if_true, queue_soundConverts_eq q (by omega), Option.bind_some, Bool.true_and]
   cases cvOk q
   ·simp
   ·simp only [if_true, queue_soundWaits_eq q (by omega), Option.bind_some, Bool.true_and, Bool.and_assoc]
theorem ref_waits_loop (q : Queue) (hl : q.holds.length ≤ 1000000) (hc : q.waits.length ≤ 8) : loopO (f_ref12_Sound_l1 q) 0 = some (if (List.range q.waits.length).all (wtI q) = true then .inl () else .inr false) := by
 rw [← waits_loop q (by omega) hc]
 congr 1
 funext i
 unfold f_ref12_Sound_l1 f_queue_soundWaits_l1
 by_cases h : 0 ≤ i ∧ i < (q.waits.length : Int)
 ·rw [if_pos (decide_eq_true h.2), if_pos (decide_eq_true h.2), gd_pos h, gd_pos h, gd_pos (fun _ => h)]
  simp only [fits_eq, zero_eq, ref10_Get_eq _ _ (show q.holds.length < 4611686018427387904 by omega), queue_Held_eq q _ (show q.holds.length < 4611686018427387904 by omega)]
 ·by_cases hi : i < (q.waits.length : Int)
  ·rw [if_pos (decide_eq_true hi), if_pos (decide_eq_true hi), gdn h, gdn h]
  ·rw [if_neg (by simpa using hi), if_neg (by simpa using hi)]
theorem ref_converts_loop (q : Queue) (hl : q.holds.length ≤ 1000000) (hc : q.converts.length ≤ 8) : loopO (f_ref12_Sound_l2 q) 0 = some (if (List.range q.converts.length).all (cvI q) = true then .inl () else .inr false) := by
 have key : loopO (f_ref12_Sound_l2 q) 0 = some ((firstR (fun i => if cvI q i = true then none else some (Sum.inr false)) q.converts.length 0).getD (Sum.inl ())) := by
  refine loop_range q.converts.length _ (Sum.inl ()) (fun i hi => ?_) ?_
  ·unfold f_ref12_Sound_l2
   rw [if_pos (by simpa using hi), gd_pos (by omega), wrap_id (by omega) (by omega), Int.toNat_natCast]
   unfold cvI covA
   generalize q.converts.getD i Wait.zero = w
   rw [ref10_Get_eq _ _ (show q.holds.length < 4611686018427387904 by omega), Option.bind_some, ref11_Find_eq _ _ (show q.converts.length < 4611686018427387904 by omega)]
   simp only [zero_eq, fits_eq]
   rcases hb (decide (find1 q.converts w.proc = (i : Int))) with c1 | c1 <;> rcases hb (f_amount_Zero (getH q.holds w.proc)) with c2 | c2 <;> rcases hb (f_amount_Fits q.resource w.amount) with c3 | c3 <;> rcases hb (f_ref04_Covers q.resource w.amount (getH q.holds w.proc)) with c4 | c4 <;>
    rcases hb (decide (w.amount = getH q.holds w.proc)) with c5 | c5 <;> rcases hb (decide (w.priority = 0)) with c6 | c6 <;> rcases hb (decide (w.passed = 0)) with c7 | c7 <;>
    simp only [c1, c2, c3, c4, c5, c6, c7, Bool.not_true, Bool.not_false, Bool.or_true, Bool.true_or, Bool.or_false, Bool.false_or, Bool.and_true, Bool.true_and, Bool.and_false, Bool.false_and, if_true, if_false, Bool.false_eq_true, Option.bind_some, Bool.or_self, Bool.and_self]
  ·unfold f_ref12_Sound_l2
   rw [if_neg (by simp)]
 rw [key, firstR_all, ← List.range_eq_range']
 cases (List.range q.converts.length).all (cvI q) <;> rfl
theorem ref12_Sound_eq (q : Queue) : f_ref12_Sound q = some (soundQ q) := by
 unfold f_ref12_Sound soundQ cvOk wtOk
 rw [ref05_Res_eq, Option.bind_some]
 cases resV q.resource
 ·simp
 ·simp only [if_true, ref10_Valid_eq, Option.bind_some, Bool.true_and]
  cases hv : validH q.resource q.holds
  ·simp
  ·have hl := validH_len hv
   by_cases hc : 8 < q.converts.length
   ·have h1 : ¬ q.converts.length ≤ 8 := by omega
    have h2 : decide (8 < (q.converts.length : Int)) = true := by simp; omega
    simp [h1, h2]
   ·have h1 : q.converts.length ≤ 8 := by omega
    have h2 : decide (8 < (q.converts.length : Int)) = false := by simp; omega
    simp only [h1, h2, Bool.not_true, Bool.or_self, Bool.not_false, if_true, ref11_Valid_eq, Option.bind_some, Bool.false_or, decide_true, Bool.true_and]
    cases hw : validL q.waits
    ·simp
    ·have h8 := validL_len hw
     simp only [Bool.not_true, Bool.false_or, Bool.true_and]
     rw [wrap_id (by omega) (by omega)]
     by_cases h : q.holds.length + q.waits.length ≤ 8
     ·by_cases g1 : 0 ≤ q.gen
      ·by_cases g2 : q.gen ≤ 1073741824
       ·rw [if_neg (by simp; omega), ref_converts_loop q (by omega) h1]
        simp only [h, g1, g2, decide_true, Bool.true_and, Bool.and_true]
        cases (List.range q.converts.length).all (cvI q)
        ·rfl
        ·simp only [if_true, Option.bind_some, Bool.true_and]
         unfold f_ref12_Sound_k1
         rw [ref_waits_loop q (by omega) h8]
         cases (List.range q.waits.length).all (wtI q) <;> rfl
       ·rw [if_pos (by simp; omega)]; simp [g2]
      ·rw [if_pos (by simp; omega)]; simp [g1]
     ·rw [if_pos (by simp; omega)]; simp [h]
def headQ (q : Queue) : Wait × Bool := match q.converts ++ q.waits with
 | w :: _ => (w, true)
 | [] => (Wait.zero, false)
theorem queue_head_eq (q : Queue) : f_queue_head q = some (headQ q) := by
 unfold f_queue_head headQ
 cases q.converts with
 | cons a l => rw [if_pos (by simp), gd_pos (by simp)]; rfl
 | nil =>
  rw [if_neg (by simp)]
  cases q.waits with
  | cons a l => rw [if_pos (by simp), gd_pos (by simp)]; rfl
  | nil => rw [if_neg (by simp)]; rfl
theorem ref12_Head_eq (q : Queue) : f_ref12_Head q = some (headQ q) := by
 rw [← queue_head_eq]; rfl
def settledQ (q : Queue) : Bool := soundQ q && !((headQ q).2 && roomH q.resource q.holds (headQ q).1.proc (headQ q).1.amount)
theorem queue_Settled_eq (q : Queue) : f_queue_Settled q = some (settledQ q) := by
 unfold f_queue_Settled settledQ
 rw [queue_Sound_eq, Option.bind_some]
 cases soundQ q
 ·simp
 ·rw [if_neg (by simp), queue_head_eq, Option.bind_some]
  cases (headQ q).2 <;> simp [room_eq]
theorem ref12_Settled_eq (q : Queue) : f_ref12_Settled q = some (settledQ q) := by
 unfold f_ref12_Settled settledQ
 rw [ref12_Sound_eq, Option.bind_some]
 cases soundQ q
 ·simp
 ·rw [if_neg (by simp), ref12_Head_eq, Option.bind_some]
  cases (headQ q).2 <;> simp [ref_room_eq]
theorem queue_Valid_eq (q : Queue) : f_queue_Valid q = some (settledQ q) := by
 unfold f_queue_Valid
 rw [queue_Settled_eq]; rfl
theorem ref12_Valid_eq (q : Queue) : f_ref12_Valid q = some (settledQ q) := by
 unfold f_ref12_Valid
 rw [ref12_Sound_eq, Option.bind_some]
 cases h : soundQ q
 ·simp [settledQ, h]
 ·simp [ref12_Settled_eq]
end Ab
end Go.Proofs.YtdflfohpemfeiaaGreatDoor
namespace Go.Proofs.YtdflfohpemfeiaaGreatDoor
namespace Ab
set_option linter.unusedVariables false
set_option linter.unusedSimpArgs false
theorem sameHolds_eq' (a b : List Hold) (hl : a.length < 4611686018427387904) : f_ref10_SameHolds a b = some (decide (a = b)) := by
 unfold f_ref10_SameHolds
 by_cases h : a.length = b.length
 ·rw [if_neg (by simp [h])]
  exact same_loop a b Hold.zero hl h (fun i => rfl)
 ·rw [if_pos (by simp; omega)]
  have : a ≠ b := fun e => h (by rw [e])
  simp [this]
instance : DecidableEq Queue := fun a b => decidable_of_iff (a.resource = b.resource ∧ a.holds = b.holds ∧ a.converts = b.converts ∧ a.waits = b.waits ∧ a.gen = b.gen) (by rw [Queue.ext_iff])
theorem ref12_Same_eq (a b : Queue) (h1 : a.holds.length < 4611686018427387904) (h2 : a.converts.length < 4611686018427387904) (h3 : a.waits.length < 4611686018427387904) : f_ref12_Same a b = some (decide (a = b)) := by
 unfold f_ref12_Same
 simp only [sameHolds_eq' _ _ h1, sameWaits_eq _ _ h2, sameWaits_eq _ _ h3]
 have e : decide (a = b) = (decide (a.resource = b.resource) && (decide (a.gen = b.gen) && (decide (a.holds = b.holds) && (decide (a.converts = b.converts) && decide (a.waits = b.waits))))) := by
  rw [Bool.eq_iff_iff]
  simp only [decide_eq_true_eq, Bool.and_eq_true, Queue.ext_iff]
  constructor
  ·rintro ⟨a1, a2, a3, a4, a5⟩; exact ⟨a1, a5, a2, a3, a4⟩
  ·rintro ⟨a1, a5, a2, a3, a4⟩; exact ⟨a1, a2, a3, a4, a5⟩
 rw [e]
 cases decide (a.resource = b.resource) <;> cases decide (a.gen = b.gen) <;> cases decide (a.holds = b.holds) <;> cases decide (a.converts = b.converts) <;> cases decide (a.waits = b.waits) <;> rfl
def newQ (r : Resource) : Queue × Int := if resV r = true then ({ Queue.zero with resource := r }, 0) else (Queue.zero, 1)
theorem queue_New_eq (r : Resource) : f_queue_New r = some (newQ r) := by
 unfold f_queue_New newQ
 rw [catalog_Res_eq, Option.bind_some]
 cases resV r <;> rfl
theorem concat2_eq (a b : List Wait) (ha : a.length ≤ 1000000) (hb : b.length ≤ 1000000) : f_slices_Concat_api_Wait_api_Wait [a, b] = some (a ++ b) := by
 unfold f_slices_Concat_api_Wait_api_Wait
 have s0 : f_slices_Concat_api_Wait_api_Wait_l2 [a, b] (0, 0) = some (.inl ((a.length : Int), 1)) := by
  unfold f_slices_Concat_api_Wait_api_Wait_l2
  rw [if_pos (by simp), gd_pos (by simp)]
  show (if decide (IntKind.i64.wrap (0 + (a.length : Int)) < 0) = true then none else some (Sum.inl (IntKind.i64.wrap (0 + (a.length : Int)), _))) = _
  rw [wrap_id (by omega) (by omega), if_neg (by simp), Int.zero_add]
  rfl
 have s1 : f_slices_Concat_api_Wait_api_Wait_l2 [a, b] ((a.length : Int), 1) = some (.inl ((a.length : Int) + (b.length : Int), 2)) := by
  unfold f_slices_Concat_api_Wait_api_Wait_l2
  rw [if_pos (by simp), gd_pos (by simp)]
  show (if decide (IntKind.i64.wrap ((a.length : Int) + (b.length : Int)) < 0) = true then none else some (Sum.inl (IntKind.i64.wrap ((a.length : Int) + (b.length : Int)), _))) = _
  rw [wrap_id (by omega) (by omega), if_neg (by simp; omega)]
  rfl
 have s2 : f_slices_Concat_api_Wait_api_Wait_l2 [a, b] ((a.length : Int) + (b.length : Int), 2) = some (.inr ((a.length : Int) + (b.length : Int))) := by
  unfold f_slices_Concat_api_Wait_api_Wait_l2
  rw [if_neg (by simp)]
 rw [loopO_eq, s0]
 simp only
 rw [loopO_eq, s1]
 simp only
 rw [loopO_eq, s2]
 simp only [Option.bind_some]
 unfold f_slices_Concat_api_Wait_api_Wait_k1 f_slices_Grow_api_Wait_api_Wait_m
 rw [gd_pos (by omega), Option.bind_some]
 have t0 : f_slices_Concat_api_Wait_api_Wait_l1 [a, b] (0, []) = some (.inl (1, a)) := by
  unfold f_slices_Concat_api_Wait_api_Wait_l1
  rw [if_pos (by simp), gd_pos (by simp), gd_pos (by simp; omega)]
  rfl
 have t1 : f_slices_Concat_api_Wait_api_Wait_l1 [a, b] (1, a) = some (.inl (2, a ++ b)) := by
  unfold f_slices_Concat_api_Wait_api_Wait_l1
  rw [if_pos (by simp), gd_pos (by simp), gd_pos (by simp; omega)]
  rfl
 have t2 : f_slices_Concat_api_Wait_api_Wait_l1 [a, b] (2, a ++ b) = some (.inr (a ++ b)) := by
  unfold f_slices_Concat_api_Wait_api_Wait_l1
  rw [if_neg (by simp)]
 rw [loopO_eq, t0]
 simp only
 rw [loopO_eq, t1]
 simp only
 rw [loopO_eq, t2]
 rfl
theorem queue_order_eq (q : Queue) (h1 : q.converts.length ≤ 1000000) (h2 : q.waits.length ≤ 1000000) : f_queue_order q = some (q.converts ++ q.waits) := by
 unfold f_queue_order
 rw [concat2_eq _ _ h1 h2]; rfl
def wantL (l : List Wait) (p : Proc) : Amount × Bool := match l.find? fun w => decide (w.proc = p) with
 | some w => (w.amount, true)
 | none => (Amount.zero, false)
def wantQ (q : Queue) (p : Proc) : Amount × Bool := wantL (q.converts ++ q.waits) p
theorem firstR_want (l : List Wait) (p : Proc) : ∀ k i, i + k = l.length → ((firstR (fun i => if (l.getD i Wait.zero).proc = p then some (Sum.inr (α := Unit) ((l.getD i Wait.zero).amount, true)) else none) k i).getD (Sum.inl ())) = match (l.drop i).find? fun w => decide (w.proc = p) with
  | some w => Sum.inr (w.amount, true)
  | none => Sum.inl ()
 | 0, i, h => by rw [List.drop_eq_nil_of_le (by omega)]; rfl
 | k + 1, i, h => by
  rw [getD_drop l i Wait.zero (by omega)]
  simp only [firstR, List.find?_cons]
  by_cases hp : (l.getD i Wait.zero).proc = p
  ·simp only [hp, if_true, decide_true, Option.getD_some]
  ·simp only [hp, if_false, decide_false]
   exact firstR_want l p k (i + 1) (by omega)
theorem queue_Wanted_eq (q : Queue) (p : Proc) (h1 : q.converts.length ≤ 1000000) (h2 : q.waits.length ≤ 1000000) : f_queue_Wanted q p = some (wantQ q p) := by
 unfold f_queue_Wanted wantQ
 rw [queue_order_eq q h1 h2, Option.bind_some]
 have hl : (q.converts ++ q.waits).length ≤ 2000000 := by rw [List.length_append]; omega
 generalize q.converts ++ q.waits = l at *
 have key : loopO (f_queue_Wanted_l1 p l) 0 = some ((firstR (fun i => if (l.getD i Wait.zero).proc = p then some (Sum.inr (α := Unit) ((l.getD i Wait.zero).amount, true)) else none) l.length 0).getD (Sum.inl ())) := by
  refine loop_range l.length _ (Sum.inl ()) (fun i hi => ?_) ?_
  ·unfold f_queue_Wanted_l1
   rw [if_pos (by simpa using hi), gd_pos (by omega), wrap_id (by omega) (by omega)]
   simp only [Int.toNat_natCast, decide_eq_true_eq]
   split <;> rfl
  ·unfold f_queue_Wanted_l1
   rw [if_neg (by simp)]
 rw [key, firstR_want l p l.length 0 (by omega), List.drop_zero]
 unfold wantL
 cases l.find? fun w => decide (w.proc = p) <;> rfl
end Ab
end Go.Proofs.YtdflfohpemfeiaaGreatDoor
namespace Go.Proofs.YtdflfohpemfeiaaGreatDoor
namespace Ab
set_option linter.unusedVariables false
set_option linter.unusedSimpArgs false
def upM (a b g : Int) : Bool := covM g a && covM g b
def supM (a b : Int) : Int := if upM a b 1 = true then 1 else if upM a b 2 = true then 2 else if upM a b 3 = true then 3 else if upM a b 4 = true then 4 else if upM a b 5 = true then 5 else 0
theorem mode_Sup_step (a b g : Int) (h1 : 1 ≤ g) (h2 : g ≤ 5) : f_mode_Sup_l1 a b g = some (if upM a b g = true then .inr (.inr g) else .inl (g + 1)) := by
 unfold f_mode_Sup_l1 upM
 rw [if_pos (by simpa using h2), mode_Covers_eq, Option.bind_some, wrap_id (by omega) (by omega), mode_Covers_eq]
 cases covM g a <;> cases covM g b <;> rfl
theorem mode_Sup_end (a b : Int) : f_mode_Sup_l1 a b 6 = some (.inr (.inl ())) := by
 unfold f_mode_Sup_l1
 rw [if_neg (by decide)]
theorem sup_loop {body : Int → Option (Int ⊕ (Unit ⊕ Int))} (a b : Int) (hs : ∀ g, 1 ≤ g → g ≤ 5 → body g = some (if upM a b g = true then .inr (.inr g) else .inl (g + 1))) (he : body 6 = some (.inr (.inl ()))) :
  (loopO body 1).bind (fun | .inl _ => some 0 | .inr z => some z) = some (supM a b) := by
 unfold supM
 rw [loopO_eq, hs 1 (by decide) (by decide)]
 by_cases c1 : upM a b 1 = true
 ·simp [c1]
 simp only [c1, Bool.false_eq_true, if_false]
 rw [show (1 : Int) + 1 = 2 from rfl, loopO_eq, hs 2 (by decide) (by decide)]
 by_cases c2 : upM a b 2 = true
 ·simp [c2]
 simp only [c2, Bool.false_eq_true, if_false]
 rw [show (2 : Int) + 1 = 3 from rfl, loopO_eq, hs 3 (by decide) (by decide)]
 by_cases c3 : upM a b 3 = true
 ·simp [c3]
 simp only [c3, Bool.false_eq_true, if_false]
 rw [show (3 : Int) + 1 = 4 from rfl, loopO_eq, hs 4 (by decide) (by decide)]
 by_cases c4 : upM a b 4 = true
 ·simp [c4]
 simp only [c4, Bool.false_eq_true, if_false]
 rw [show (4 : Int) + 1 = 5 from rfl, loopO_eq, hs 5 (by decide) (by decide)]
 by_cases c5 : upM a b 5 = true
 ·simp [c5]
 simp only [c5, Bool.false_eq_true, if_false]
 rw [show (5 : Int) + 1 = 6 from rfl, loopO_eq, he]
 rfl
theorem mode_Sup_eq (a b : Int) : f_mode_Sup a b = some (supM a b) := sup_loop a b (mode_Sup_step a b) (mode_Sup_end a b)
theorem ref03_Sup_eq (a b : Int) : f_ref03_Sup a b = some (supM a b) := by
 refine sup_loop a b (fun g h1 h2 => ?_) ?_
 ·unfold f_ref03_Sup_l1
  rw [if_pos (by simpa using h2), wrap_id (by omega) (by omega)]
  rcases hb (covM g a) with c | c <;> rcases hb (covM g b) with d | d <;> simp [upM, c, d]
 ·unfold f_ref03_Sup_l1
  rw [if_neg (by decide)]
def joinA (r : Resource) (a b : Amount) : Amount :=
 if (!f_amount_permitted r a || !f_amount_permitted r b) = true then Amount.zero else
 if f_amount_Zero a = true then b else if f_amount_Zero b = true then a else
 if r.kind = 1 then { Amount.zero with mode := supM a.mode b.mode } else { Amount.zero with units := if a.units < b.units then b.units else a.units }
theorem amount_Join_eq (r : Resource) (a b : Amount) : f_amount_Join r a b = some (joinA r a b) := by
 unfold f_amount_Join joinA
 simp only [mode_Sup_eq, Option.bind_some]
 split
 ·rfl
 split
 ·rfl
 split
 ·rfl
 by_cases h : r.kind = 1
 ·simp [h]
 ·simp [h]
theorem sup_left : ∀ a ∈ [(1 : Int), 2, 3, 4, 5], ∀ b ∈ [(1 : Int), 2, 3, 4, 5], covM a b = true → supM a b = a := by decide
theorem sup_right : ∀ a ∈ [(1 : Int), 2, 3, 4, 5], ∀ b ∈ [(1 : Int), 2, 3, 4, 5], covM b a = true → supM a b = b := by decide
theorem ref04_Join_eq (r : Resource) (a b : Amount) : f_ref04_Join r a b = some (joinA r a b) := by
 unfold f_ref04_Join joinA
 simp only [perm_eq, ref03_Sup_eq, Option.bind_some]
 cases ha : f_amount_permitted r a
 ·simp
 cases hpb : f_amount_permitted r b
 ·simp
 simp only [Bool.not_true, Bool.or_self, Bool.false_eq_true, if_false]
 unfold f_ref04_Covers
 simp only [perm_eq, zero_eq, ha, hpb, Bool.not_true, Bool.or_self, Bool.false_eq_true, if_false]
 rcases hb (f_amount_Zero a) with hza | hza <;> rcases hb (f_amount_Zero b) with hzb | hzb
 rotate_left 3
 ·simp only [hza, hzb, Bool.false_eq_true, if_false]
  by_cases hk : r.kind = 1
  ·have pa := perm_lock ha hk
   have pb := perm_lock hpb hk
   have na : a.mode ≠ 0 := fun h => by
    have : a = Amount.zero := by cases a; simp only at *; simp [Amount.zero]; omega
    rw [this] at hza; exact absurd hza (by decide)
   have nb : b.mode ≠ 0 := fun h => by
    have : b = Amount.zero := by cases b; simp only at *; simp [Amount.zero]; omega
    rw [this] at hzb; exact absurd hzb (by decide)
   have ma : a.mode ∈ [(1 : Int), 2, 3, 4, 5] := by simp; omega
   have mb : b.mode ∈ [(1 : Int), 2, 3, 4, 5] := by simp; omega
   have ea : a = { Amount.zero with mode := a.mode } := by cases a; simp only at *; simp [Amount.zero]; omega
   have eb : b = { Amount.zero with mode := b.mode } := by cases b; simp only at *; simp [Amount.zero]; omega
   simp only [hk, decide_true, if_true]
   by_cases c1 : covM a.mode b.mode = true
   ·rw [if_pos c1, sup_left _ ma _ mb c1]; exact congrArg some ea
   ·rw [if_neg c1]
    by_cases c2 : covM b.mode a.mode = true
    ·rw [if_pos c2, sup_right _ ma _ mb c2]; exact congrArg some eb
    ·rw [if_neg c2]
  ·have hk2 : r.kind = 2 := by
    have := ha
    rw [perm_iff, shaped_iff, fits_iff] at this
    omega
   have pa := perm_pool ha hk2
   have pb := perm_pool hpb hk2
   have ea : a = { Amount.zero with units := a.units } := by cases a; simp only at *; simp [Amount.zero]; omega
   have eb : b = { Amount.zero with units := b.units } := by cases b; simp only at *; simp [Amount.zero]; omega
   have d : decide (r.kind = 1) = false := by simpa using hk
   simp only [d, hk, Bool.false_eq_true, if_false, decide_eq_true_eq]
   by_cases c1 : b.units ≤ a.units
   ·have : ¬ a.units < b.units := by omega
    rw [if_pos c1, if_neg this]; exact congrArg some ea
   ·have : a.units < b.units := by omega
    have c2 : a.units ≤ b.units := by omega
    rw [if_neg c1, if_pos c2, if_pos this]; exact congrArg some eb
 ·have e0 : a = Amount.zero := by unfold f_amount_Zero at hza; simpa using hza
  have e1 : b = Amount.zero := by unfold f_amount_Zero at hzb; simpa using hzb
  simp only [hza, hzb, if_true]
  rw [e0, e1]
 ·simp only [hza, hzb, if_true, Bool.false_eq_true, if_false]
 ·simp only [hza, hzb, if_true, Bool.false_eq_true, if_false]
theorem next_eq (g : Int) : f_ref02_Next g = f_ident_Next g := rfl
theorem queue_clone_eq (q : Queue) (h1 : q.holds.length ≤ 1000000) (h2 : q.converts.length ≤ 1000000) (h3 : q.waits.length ≤ 1000000) : f_queue_clone q = some q := by
 unfold f_queue_clone
 rw [gd_pos (by omega), gd_pos (by omega), gd_pos (by omega)]
theorem queue_clone_m_eq (q : Queue) (h1 : q.holds.length ≤ 1000000) (h2 : q.converts.length ≤ 1000000) (h3 : q.waits.length ≤ 1000000) : f_queue_clone_m q = some q := by
 unfold f_queue_clone_m
 rw [gd_pos (by omega), gd_pos (by omega), gd_pos (by omega)]
theorem ref12_Copy_eq (q : Queue) (h1 : q.holds.length ≤ 1000000) (h2 : q.converts.length ≤ 1000000) (h3 : q.waits.length ≤ 1000000) : f_ref12_Copy q = some q := by
 unfold f_ref12_Copy
 rw [gd_pos (by omega), gd_pos (by omega), gd_pos (by omega)]
theorem ref12_Copy_m_eq (q : Queue) (h1 : q.holds.length ≤ 1000000) (h2 : q.converts.length ≤ 1000000) (h3 : q.waits.length ≤ 1000000) : f_ref12_Copy_m q = some q := by
 unfold f_ref12_Copy_m
 rw [gd_pos (by omega), gd_pos (by omega), gd_pos (by omega)]
end Ab
end Go.Proofs.YtdflfohpemfeiaaGreatDoor
namespace Go.Proofs.YtdflfohpemfeiaaGreatDoor
namespace Ab
set_option linter.unusedVariables false
set_option linter.unusedSimpArgs false
def popQ (q : Queue) : Queue :=
 if 0 < q.converts.length then { q with holds := setL q.holds (headQ q).1.proc (headQ q).1.amount, converts := q.converts.drop 1 }
 else { q with holds := setL q.holds (headQ q).1.proc (headQ q).1.amount, waits := q.waits.drop 1 }
def canQ (q : Queue) : Bool := (headQ q).2 && roomH q.resource q.holds (headQ q).1.proc (headQ q).1.amount
def nextQ (s : Queue × List Hold) : Queue × List Hold := (popQ s.1, s.2 ++ [⟨(headQ s.1).1.proc, (headQ s.1).1.amount⟩])
def advN : Nat → Queue × List Hold → Queue × List Hold
 | 0, s => s
 | n + 1, s => if canQ s.1 = true then advN n (nextQ s) else s
def sizeQ (q : Queue) : Nat := q.converts.length + q.waits.length
def advQ (q : Queue) : Queue × List Hold := advN (sizeQ q) (q, [])
theorem canQ_size {q : Queue} (h : canQ q = true) : 0 < sizeQ q ∧ sizeQ (popQ q) + 1 = sizeQ q ∧ q.holds.length ≤ 8 := by
 unfold canQ at h
 simp only [Bool.and_eq_true] at h
 obtain ⟨h1, h2⟩ := h
 have hv : validH q.resource q.holds = true := by
  unfold roomH properH at h2
  simp only [Bool.and_eq_true] at h2
  exact h2.1.1
 refine ⟨?_, ?_, validH_len hv⟩
 ·unfold headQ at h1
  unfold sizeQ
  cases hc : q.converts with
  | cons a l => simp; omega
  | nil =>
   cases hw : q.waits with
   | cons a l => simp
   | nil => simp [hc, hw] at h1
 ·unfold headQ at h1
  unfold sizeQ popQ
  cases hc : q.converts with
  | cons a l => simp; omega
  | nil =>
   cases hw : q.waits with
   | cons a l => simp
   | nil => simp [hc, hw] at h1
theorem canQ_zero {q : Queue} (h : sizeQ q = 0) : canQ q = false := by
 cases hc : canQ q with
 | false => rfl
 | true => have := (canQ_size hc).1; omega
theorem advN_step (s : Queue × List Hold) : advN (sizeQ s.1) s = if canQ s.1 = true then advN (sizeQ (nextQ s).1) (nextQ s) else s := by
 cases hc : canQ s.1 with
 | false =>
  cases hn : sizeQ s.1 with
  | zero => rfl
  | succ n => simp [advN, hc]
 | true =>
  obtain ⟨h1, h2, _⟩ := canQ_size hc
  have : sizeQ s.1 = sizeQ (popQ s.1) + 1 := h2.symm
  rw [this]
  simp [advN, hc, nextQ]
theorem advance_body (g : Queue × List Hold) (hg : g.2.length ≤ 1000000) : f_queue_advance_m_l1 g = some (if canQ g.1 = true then .inl (nextQ g) else .inr g) := by
 unfold f_queue_advance_m_l1
 rw [queue_head_eq, Option.bind_some]
 rcases hb (headQ g.1).2 with h2 | h2
 ·rw [if_pos h2, room_eq, Option.bind_some]
  rcases hb (roomH g.1.resource g.1.holds (headQ g.1).1.proc (headQ g.1).1.amount) with hr | hr
  ·have hc : canQ g.1 = true := by unfold canQ; rw [h2, hr]; rfl
   obtain ⟨_, _, hl⟩ := canQ_size hc
   rw [if_neg (by rw [h2, hr]; decide), if_pos hc]
   unfold nextQ popQ
   by_cases h0 : 0 < g.1.converts.length
   ·rw [if_pos (by simpa using h0), gd_pos (by omega), if_pos h0]
    unfold f_queue_advance_m_k2
    rw [holders_Set_eq _ _ _ (by simp only; omega), Option.bind_some, gd_pos (by omega)]
   ·rw [if_neg (by simpa using h0), if_neg h0]
    have hw : 0 < g.1.waits.length := by
     have := (canQ_size hc).1
     unfold sizeQ at this
     omega
    rw [gd_pos (by omega)]
    unfold f_queue_advance_m_k2
    rw [holders_Set_eq _ _ _ (by simp only; omega), Option.bind_some, gd_pos (by omega)]
  ·have hc : canQ g.1 = false := by unfold canQ; rw [h2, hr]; rfl
   rw [if_pos (by rw [h2, hr]; decide), if_neg (by rw [hc]; decide)]
 ·have hc : canQ g.1 = false := by unfold canQ; rw [h2]; rfl
  rw [if_neg (by rw [h2]; decide), Option.bind_some, if_pos (by rw [h2]; decide), if_neg (by rw [hc]; decide)]
theorem queue_advance_eq (q : Queue) (h : sizeQ q ≤ 1000) : f_queue_advance_m q = some ((advQ q).2, (advQ q).1) := by
 unfold f_queue_advance_m
 have key := loop_ind (body := f_queue_advance_m_l1) (fun g => sizeQ g.1 + g.2.length ≤ 1000) (fun g => sizeQ g.1) (fun g => advN (sizeQ g.1) g) (fun g hg => by
  rw [advance_body g (by omega)]
  cases hc : canQ g.1 with
  | false => right; rw [if_neg (by decide), advN_step, if_neg (by rw [hc]; decide)]
  | true =>
   left
   obtain ⟨h1, h2, _⟩ := canQ_size hc
   refine ⟨nextQ g, by rw [if_pos rfl], ?_, ?_, ?_⟩
   ·unfold nextQ; simp only [List.length_append, List.length_cons, List.length_nil]; omega
   ·show sizeQ (popQ g.1) < sizeQ g.1; omega
   ·rw [advN_step g, if_pos hc]) (q, []) (by simpa using h)
 rw [key]
 rfl
end Ab
end Go.Proofs.YtdflfohpemfeiaaGreatDoor
namespace Go.Proofs.YtdflfohpemfeiaaGreatDoor
namespace Ab
set_option linter.unusedVariables false
set_option linter.unusedSimpArgs false
theorem findI_find (p : Proc) : ∀ (l : List Wait) (i : Nat), match findI p l i with
  | some j => i ≤ j ∧ (l.find? fun w => decide (w.proc = p)) = some (l.getD (j - i) Wait.zero)
  | none => (l.find? fun w => decide (w.proc = p)) = none
 | [], i => rfl
 | w :: l, i => by
  simp only [findI, List.find?_cons]
  by_cases hp : w.proc = p
  ·simp [hp]
  ·have ih := findI_find p l (i + 1)
   simp only [hp, if_false, decide_false]
   cases hf : findI p l (i + 1) with
   | none => rw [hf] at ih; exact ih
   | some j =>
    rw [hf] at ih
    obtain ⟨h1, h2⟩ := ih
    refine ⟨by omega, ?_⟩
    rw [h2, show j - i = (j - (i + 1)) + 1 by omega, List.getD_cons_succ]
theorem find1_want (l : List Wait) (p : Proc) : wantL l p = if 0 ≤ find1 l p then ((l.getD (find1 l p).toNat Wait.zero).amount, true) else (Amount.zero, false) := by
 have h := findI_find p l 0
 unfold wantL find1
 cases hf : findI p l 0 with
 | none => rw [hf] at h; simp only at h; rw [h]; rfl
 | some j =>
  rw [hf] at h
  obtain ⟨_, h2⟩ := h
  rw [h2, if_pos (by simp only; omega)]
  simp
theorem wantL_append (l m : List Wait) (p : Proc) : wantL (l ++ m) p = if 0 ≤ find1 l p then wantL l p else wantL m p := by
 have h := findI_find p l 0
 unfold wantL find1
 rw [List.find?_append]
 cases hf : findI p l 0 with
 | none => rw [hf] at h; simp only at h; rw [h, if_neg (by decide)]; rfl
 | some j =>
  rw [hf] at h
  obtain ⟨_, h2⟩ := h
  rw [h2, if_pos (by simp only; omega)]
  rfl
theorem ref12_Wanted_eq (q : Queue) (p : Proc) (h1 : q.converts.length ≤ 1000000) (h2 : q.waits.length ≤ 1000000) : f_ref12_Wanted q p = some (wantQ q p) := by
 unfold f_ref12_Wanted wantQ
 rw [ref11_Find_eq _ _ (by omega), Option.bind_some, wantL_append, find1_want q.converts, find1_want q.waits]
 have b1 := find1_lt q.converts p
 have b2 := find1_lt q.waits p
 by_cases c1 : 0 ≤ find1 q.converts p
 ·rw [if_pos (decide_eq_true c1), gd_pos (by omega), if_pos c1, if_pos c1]
 ·rw [if_neg (by simpa using c1), if_neg c1, ref11_Find_eq _ _ (by omega), Option.bind_some]
  by_cases c2 : 0 ≤ find1 q.waits p
  ·rw [if_pos (decide_eq_true c2), gd_pos (by omega), if_pos c2]
  ·rw [if_neg (by simpa using c2), if_neg c2]
end Ab
end Go.Proofs.YtdflfohpemfeiaaGreatDoor
