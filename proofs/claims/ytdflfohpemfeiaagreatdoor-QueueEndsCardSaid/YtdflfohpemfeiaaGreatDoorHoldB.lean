/-
  Amounts that may be held together, in plain Lean.
-/
import Derived.Test.YtdflfohpemfeiaaGreatDoorHoldA
namespace Go.Proofs.YtdflfohpemfeiaaGreatDoor
namespace Ab
set_option linter.unusedVariables false
set_option linter.unusedSimpArgs false
theorem shaped_eq (r : Resource) : f_ref04_Shaped r = f_amount_Shaped r := by
 unfold f_ref04_Shaped f_amount_Shaped
 rw [Bool.eq_iff_iff]
 by_cases h1 : r.kind = 1
 ·simp [h1]
 ·by_cases h2 : r.kind = 2 <;> simp [h1, h2]
theorem fits_eq (r : Resource) (a : Amount) : f_ref04_Fits r a = f_amount_Fits r a := by
 unfold f_ref04_Fits f_amount_Fits f_ref03_Valid f_mode_Valid
 rw [shaped_eq]
theorem perm_eq (r : Resource) (a : Amount) : f_ref04_Permitted r a = f_amount_permitted r a := by
 unfold f_ref04_Permitted f_amount_permitted f_ref04_Zero f_amount_Zero
 rw [shaped_eq, fits_eq]
theorem vproc_eq (p : Proc) : f_ref02_ValidProc p = f_ident_ValidProc p := by
 unfold f_ref02_ValidProc f_ident_ValidProc f_ident_between
 rw [Bool.eq_iff_iff]; simp; omega
theorem shaped_iff (r : Resource) : f_amount_Shaped r = true ↔ (r.kind = 1 ∧ r.units = 1) ∨ (r.kind = 2 ∧ 1 ≤ r.units ∧ r.units ≤ 8) := by
 unfold f_amount_Shaped
 by_cases h1 : r.kind = 1
 ·simp [h1]
 ·by_cases h2 : r.kind = 2 <;> simp [h1, h2]
theorem fits_iff (r : Resource) (a : Amount) : f_amount_Fits r a = true ↔ (r.kind = 1 ∧ r.units = 1 ∧ 1 ≤ a.mode ∧ a.mode ≤ 5 ∧ a.units = 0) ∨ (r.kind = 2 ∧ 1 ≤ r.units ∧ r.units ≤ 8 ∧ a.mode = 0 ∧ 1 ≤ a.units ∧ a.units ≤ r.units) := by
 unfold f_amount_Fits f_mode_Valid
 have := shaped_iff r
 cases h : f_amount_Shaped r with
 | false =>
  rw [h] at this
  simp only [Bool.false_eq_true, false_iff] at this
  simp only [Bool.not_false, if_true, Bool.false_eq_true, false_iff]
  omega
 | true =>
  rw [h] at this
  simp only [true_iff] at this
  by_cases h1 : r.kind = 1
  ·simp [h1]; omega
  ·simp [h1]; omega
theorem perm_iff (r : Resource) (a : Amount) : f_amount_permitted r a = true ↔ (f_amount_Shaped r = true ∧ a = Amount.zero) ∨ f_amount_Fits r a = true := by
 unfold f_amount_permitted f_amount_Zero
 have e : (decide (a = { Amount.zero with }) : Bool) = decide (a = Amount.zero) := rfl
 rw [e]
 have hs : f_amount_Fits r a = true → f_amount_Shaped r = true := by
  rw [fits_iff, shaped_iff]; omega
 cases h1 : f_amount_Shaped r <;> cases h2 : f_amount_Fits r a <;> simp_all
theorem perm_lock {r : Resource} {a : Amount} (h : f_amount_permitted r a = true) (hk : r.kind = 1) : a.units = 0 ∧ 0 ≤ a.mode ∧ a.mode ≤ 5 ∧ r.units = 1 := by
 rw [perm_iff, fits_iff, shaped_iff] at h
 rcases h with ⟨h1, rfl⟩ | h1
 ·simp [Amount.zero]; omega
 ·omega
theorem perm_pool {r : Resource} {a : Amount} (h : f_amount_permitted r a = true) (hk : r.kind = 2) : a.mode = 0 ∧ 0 ≤ a.units ∧ a.units ≤ r.units ∧ r.units ≤ 8 := by
 rw [perm_iff, fits_iff, shaped_iff] at h
 rcases h with ⟨h1, rfl⟩ | h1
 ·simp [Amount.zero]; omega
 ·omega
theorem perm_bounds {r : Resource} {a : Amount} (h : f_amount_permitted r a = true) : 0 ≤ a.units ∧ a.units ≤ 8 ∧ 0 ≤ a.mode ∧ a.mode ≤ 5 ∧ 1 ≤ r.units ∧ r.units ≤ 8 := by
 rw [perm_iff, fits_iff, shaped_iff] at h
 rcases h with ⟨h1, rfl⟩ | h1
 ·simp [Amount.zero]; omega
 ·omega
abbrev mC (a b : Int) : Bool := f_ref03_Compatible a b
theorem mC_iff (a b : Int) : mC a b = true ↔ (1 ≤ a ∧ a ≤ 4 ∧ 1 ≤ b ∧ b ≤ 4) ∧ (a = 1 ∨ b = 1 ∨ a = b ∧ a ≠ 4) := by
 unfold mC f_ref03_Compatible f_ref03_Valid
 split
 ·rename_i h; simp at h; simp; omega
 ·rename_i h; simp at h; simp; omega
theorem mC_comm (a b : Int) : mC a b = mC b a := by rw [Bool.eq_iff_iff, mC_iff, mC_iff]; omega
theorem mode_Compatible_eq (a b : Int) : f_mode_Compatible a b = some (mC a b) := by
 unfold f_mode_Compatible f_mode_Valid
 by_cases h : (1 ≤ a ∧ a ≤ 5) ∧ (1 ≤ b ∧ b ≤ 5)
 ·obtain ⟨⟨a1, a2⟩, b1, b2⟩ := h
  have wa : IntKind.i64.wrap (a - 1) = a - 1 := wrap_id (by omega) (by omega)
  have wb : IntKind.i64.wrap (b - 1) = b - 1 := wrap_id (by omega) (by omega)
  simp only [wa, wb]
  rw [gdp (fun _ => by omega), gdp (fun _ => by omega)]
  congr 1
  have ha : a = 1 ∨ a = 2 ∨ a = 3 ∨ a = 4 ∨ a = 5 := by omega
  have hb : b = 1 ∨ b = 2 ∨ b = 3 ∨ b = 4 ∨ b = 5 := by omega
  rcases ha with rfl | rfl | rfl | rfl | rfl <;> rcases hb with rfl | rfl | rfl | rfl | rfl <;> decide
 ·have hv : (((decide (1 ≤ a)) && (decide (a ≤ 5))) && ((decide (1 ≤ b)) && (decide (b ≤ 5)))) = false := by
   rw [Bool.eq_false_iff]; intro hh; simp at hh; omega
  rw [hv]
  rw [gdp (fun h => by cases h), gdp (fun h => by cases h)]
  have : mC a b = false := by rw [Bool.eq_false_iff]; intro hh; rw [mC_iff] at hh; omega
  rw [this]; rfl
def clash (b a : Amount) : Prop := b.mode ≠ 0 ∧ a.mode ≠ 0 ∧ mC b.mode a.mode = false
instance (b a : Amount) : Decidable (clash b a) := by unfold clash; infer_instance
def sumU : List Amount → Int
 | [] => 0
 | a :: l => a.units + sumU l
structure CompP (r : Resource) (l : List Amount) : Prop where
 perm : ∀ a ∈ l, f_amount_permitted r a = true
 sum : sumU l ≤ r.units
 pair : l.Pairwise fun b a => ¬ clash b a
instance (r : Resource) (l : List Amount) : Decidable (CompP r l) :=
 decidable_of_iff ((∀ a ∈ l, f_amount_permitted r a = true) ∧ sumU l ≤ r.units ∧ l.Pairwise fun b a => ¬ clash b a) ⟨fun ⟨a, b, c⟩ => ⟨a, b, c⟩, fun ⟨a, b, c⟩ => ⟨a, b, c⟩⟩
def compL (r : Resource) (l : List Amount) : Bool := f_amount_Shaped r && decide (CompP r l)
theorem sumU_append (l m : List Amount) : sumU (l ++ m) = sumU l + sumU m := by
 induction l with
 | nil => simp [sumU]
 | cons a l ih => simp only [List.cons_append, sumU, ih]; omega
theorem sumU_nonneg {l : List Amount} (h : ∀ a ∈ l, 0 ≤ a.units) : 0 ≤ sumU l := by
 induction l with
 | nil => simp [sumU]
 | cons a l ih =>
  have := ih fun b hb => h b (.tail _ hb)
  have := h a (.head _)
  simp only [sumU]; omega
def compW (r : Resource) : List Amount → List Amount → Int → Bool
 | [], _, _ => true
 | a :: t, prev, s => f_amount_permitted r a && (decide (s + a.units ≤ r.units) && (decide (∀ b ∈ prev, ¬ clash b a) && compW r t (prev ++ [a]) (s + a.units)))
theorem compW_iff (r : Resource) (hr : 0 ≤ r.units) : ∀ (l prev : List Amount) (s : Int), s ≤ r.units → (compW r l prev s = true ↔ (∀ a ∈ l, f_amount_permitted r a = true) ∧ s + sumU l ≤ r.units ∧ (∀ b ∈ prev, ∀ a ∈ l, ¬ clash b a) ∧ l.Pairwise fun b a => ¬ clash b a)
 | [], prev, s, hs => by simp [compW, sumU]; exact hs
 | a :: t, prev, s, hs => by
  simp only [compW, Bool.and_eq_true, decide_eq_true_eq, List.forall_mem_cons, List.pairwise_cons, sumU]
  constructor
  ·rintro ⟨h1, h2, h3, h4⟩
   rw [compW_iff r hr t (prev ++ [a]) (s + a.units) h2] at h4
   obtain ⟨k1, k2, k3, k4⟩ := h4
   refine ⟨⟨h1, k1⟩, by omega, fun b hb => ⟨h3 b hb, fun c hc => k3 b (by simp [hb]) c hc⟩, fun c hc => k3 a (by simp) c hc, k4⟩
  ·rintro ⟨⟨h1, k1⟩, h2, h3, h4, h5⟩
   have hn : 0 ≤ sumU t := sumU_nonneg fun b hb => (perm_bounds (k1 b hb)).1
   have h6 : s + a.units ≤ r.units := by omega
   refine ⟨h1, h6, fun b hb => (h3 b hb).1, ?_⟩
   rw [compW_iff r hr t (prev ++ [a]) (s + a.units) h6]
   refine ⟨k1, by omega, fun b hb c hc => ?_, h5⟩
   rcases List.mem_append.1 hb with hb | hb
   ·exact (h3 b hb).2 c hc
   ·simp at hb; subst hb; exact h4 c hc
theorem compL_eq (r : Resource) (l : List Amount) (hs : f_amount_Shaped r = true) : compL r l = compW r l [] 0 := by
 have hr : 1 ≤ r.units := by rw [shaped_iff] at hs; omega
 unfold compL
 rw [hs, Bool.true_and, Bool.eq_iff_iff, compW_iff r (by omega) l [] 0 (by omega), decide_eq_true_eq]
 exact ⟨fun ⟨a, b, c⟩ => ⟨a, by omega, by simp, c⟩, fun ⟨a, b, _, c⟩ => ⟨a, by omega, c⟩⟩
def seenOk (seen : Arr Bool 6) (m : Int) : Bool := (List.range' 0 6).all fun k => !(seen.get k false) || mC k m
theorem compat_inner (l : List Amount) (g : Int × Int × Arr Bool 6) : loopO (f_amount_Compatible_l2 l g) 0 = some (if seenOk g.2.2 (l.getD g.2.1.toNat Amount.zero).mode = true then .inl () else .inr false) := by
 have key := loop_range (body := f_amount_Compatible_l2 l g) 6 (fun i => if (!(g.2.2.get i false) || mC i (l.getD g.2.1.toNat Amount.zero).mode) = true then none else some (.inr false)) (.inl ()) (fun i hi => by
  unfold f_amount_Compatible_l2
  have h3 : 0 ≤ (i : Int) ∧ (i : Int) < 6 := by omega
  have h4 : IntKind.i64.wrap ((i : Int) + 1) = (i : Int) + 1 := wrap_id (by omega) (by omega)
  simp only [h3.1, h3.2, and_self, gd_true, decide_true, if_true, Int.toNat_natCast, mode_Compatible_eq, h4]
  cases Arr.get g.2.2 i false <;> cases mC i (l.getD g.2.1.toNat Amount.zero).mode <;> rfl) (by unfold f_amount_Compatible_l2; simp)
 rw [key, firstR_all]
 unfold seenOk
 split <;> simp_all
theorem put_get (s : Arr Bool 6) (i k : Nat) (hi : i < 6) (hk : k < 6) : (s.put i true).get k false = if k = i then true else s.get k false := by
 obtain ⟨l, hl⟩ := s
 simp only [Arr.put, Arr.get, clampN_of_lt hi, clampN_of_lt hk, List.getD_eq_getElem?_getD, List.getElem?_set]
 by_cases h : k = i
 ·subst h; simp [hl, hk]
 ·rw [if_neg (fun e => h e.symm), if_neg h]
theorem amount_Compatible_eq (r : Resource) (l : List Amount) (hl : l.length ≤ 1000000) : f_amount_Compatible r l = some (compL r l) := by
 unfold f_amount_Compatible
 cases hs : f_amount_Shaped r with
 | false => simp [compL, hs]
 | true =>
  have hru : 1 ≤ r.units ∧ r.units ≤ 8 := by rw [shaped_iff] at hs; omega
  rw [compL_eq r l hs]
  simp only [Bool.not_true, Bool.false_eq_true, if_false]
  have key := loop_list (body := f_amount_Compatible_l1 r l) l Amount.zero (fun i (s : Int × Arr Bool 6) => (s.1, (i : Int), s.2))
   (fun i a s => some (if f_amount_permitted r a = false ∨ r.units < s.1 + a.units then .inr false else if a.mode = 0 then .inl (s.1 + a.units, s.2) else if seenOk s.2 a.mode = true then .inl (s.1 + a.units, s.2.put a.mode.toNat true) else .inr false)) (fun _ => true) (fun i s => 0 ≤ s.1 ∧ s.1 ≤ 8)
   (fun i s hi hi2 => by
    refine ⟨?_, fun s' h => ?_⟩
    ·unfold f_amount_Compatible_l1
     have h3 : 0 ≤ (i : Int) ∧ (i : Int) < (l.length : Int) := by omega
     simp only [h3.1, h3.2, and_self, gd_true, decide_true, if_true, Int.toNat_natCast, wrap_succ i (by omega), Option.map_some, compat_inner]
     cases hp : f_amount_permitted r (l.getD i Amount.zero) with
     | false => simp [wmap]
     | true =>
      have hb := perm_bounds hp
      have hw : IntKind.i64.wrap (s.1 + (l.getD i Amount.zero).units) = s.1 + (l.getD i Amount.zero).units := wrap_id (by omega) (by omega)
      simp only [hw, Bool.not_true, Bool.false_or, decide_eq_true_eq, Bool.true_eq_false, false_or]
      by_cases h4 : r.units < s.1 + (l.getD i Amount.zero).units
      ·simp only [h4, if_true, wmap]
      ·by_cases h5 : (l.getD i Amount.zero).mode = 0
       ·simp only [h4, if_false, h5, if_true, wmap]
       ·simp only [h4, h5, if_false]
        by_cases h6 : seenOk s.2 (l.getD i Amount.zero).mode = true
        ·simp only [h6, if_true, Option.bind_some, wmap]
         unfold f_amount_Compatible_k2
         simp only [Int.toNat_natCast, hw, wrap_succ i (by omega)]
         rw [gdp (by omega)]
        ·simp only [h6, Bool.false_eq_true, if_false, wmap, Option.bind_some]
    ·simp only [Option.some.injEq] at h
     split at h
     ·cases h
     ·rename_i hn
      simp only [not_or, Bool.not_eq_false] at hn
      have hb := perm_bounds hn.1
      split at h
      ·cases h; simp only; omega
      ·split at h
       ·cases h; simp only; omega
       ·cases h)
   (fun s hs => by unfold f_amount_Compatible_l1; simp) (0, Arr.rep 6 false) (by simp)
  have fold : ∀ (l prev : List Amount) (i : Nat) (s : Int) (seen : Arr Bool 6), (∀ b ∈ prev, 0 ≤ b.mode ∧ b.mode ≤ 5) → (∀ k, k < 6 → seen.get k false = decide (∃ b ∈ prev, b.mode ≠ 0 ∧ b.mode = (k : Int))) →
    walk (fun i a (s : Int × Arr Bool 6) => some (if f_amount_permitted r a = false ∨ r.units < s.1 + a.units then .inr false else if a.mode = 0 then .inl (s.1 + a.units, s.2) else if seenOk s.2 a.mode = true then .inl (s.1 + a.units, s.2.put a.mode.toNat true) else .inr false)) (fun _ => true) l i (s, seen) = some (compW r l prev s) := by
   intro l
   induction l with
   | nil => intro prev i s seen _ _; rfl
   | cons a t ih =>
    intro prev i s seen hpv hsn
    simp only [walk, compW]
    cases hp : f_amount_permitted r a with
    | false => simp
    | true =>
     have hb := perm_bounds hp
     by_cases h4 : r.units < s + a.units
     ·simp [h4]; intro h; omega
     ·have h4' : s + a.units ≤ r.units := by omega
      simp only [Bool.true_eq_false, false_or, h4, if_false, h4', decide_true, Bool.true_and]
      by_cases h5 : a.mode = 0
      ·simp only [h5, if_true]
       rw [ih (prev ++ [a]) (i + 1) (s + a.units) seen (by
        intro b hb'; rcases List.mem_append.1 hb' with h | h
        ·exact hpv b h
        ·simp at h; subst h; omega) (by
        intro k hk
        rw [hsn k hk, decide_eq_decide]
        constructor
        ·rintro ⟨b, h1, h2⟩; exact ⟨b, by simp [h1], h2⟩
        ·rintro ⟨b, h1, h2, h3⟩
         rcases List.mem_append.1 h1 with h | h
         ·exact ⟨b, h, h2, h3⟩
         ·simp at h; subst h; exact absurd h5 h2)]
       have : ∀ b ∈ prev, ¬ clash b a := fun b _ hc => hc.2.1 h5
       rw [decide_eq_true this, Bool.true_and]
      ·simp only [h5, if_false]
       have hse : seenOk seen a.mode = decide (∀ b ∈ prev, ¬ clash b a) := by
        rw [Bool.eq_iff_iff, decide_eq_true_eq]
        unfold seenOk
        simp only [List.all_eq_true, List.mem_range'_1, Bool.or_eq_true, Bool.not_eq_true']
        constructor
        ·intro hh b hb' ⟨c1, c2, c3⟩
         have hbb := hpv b hb'
         rcases hh b.mode.toNat (by omega) with h | h
         ·rw [hsn _ (by omega)] at h
          simp only [decide_eq_false_iff_not, not_exists, not_and] at h
          exact h b hb' c1 (by omega)
         ·rw [show ((b.mode.toNat : Nat) : Int) = b.mode by omega, c3] at h; cases h
        ·intro hh k hk
         rw [hsn k (by omega)]
         by_cases he : ∃ b ∈ prev, b.mode ≠ 0 ∧ b.mode = (k : Int)
         ·obtain ⟨b, h1, h2, h3⟩ := he
          right
          rw [← h3]
          have := hh b h1
          unfold clash at this
          simp only [not_and, Bool.not_eq_false] at this
          exact this h2 h5
         ·left; simpa using he
       rw [hse]
       by_cases h7 : ∀ b ∈ prev, ¬ clash b a
       ·rw [decide_eq_true h7]
        simp only [if_true, Bool.true_and]
        rw [ih (prev ++ [a]) (i + 1) (s + a.units) (seen.put a.mode.toNat true) (by
         intro b hb'; rcases List.mem_append.1 hb' with h | h
         ·exact hpv b h
         ·simp at h; subst h; omega) (by
         intro k hk
         rw [put_get seen a.mode.toNat k (by omega) hk, hsn k hk]
         by_cases hka : k = a.mode.toNat
         ·rw [if_pos hka]
          exact (decide_eq_true ⟨a, by simp, h5, by omega⟩).symm
         ·rw [if_neg hka, decide_eq_decide]
          constructor
          ·rintro ⟨b, h1, h2⟩; exact ⟨b, by simp [h1], h2⟩
          ·rintro ⟨b, h1, h2, h3⟩
           rcases List.mem_append.1 h1 with h | h
           ·exact ⟨b, h, h2, h3⟩
           ·simp at h; subst h; omega)]
       ·rw [decide_eq_false h7]; rfl
  have k2 := fold l [] 0 0 (Arr.rep 6 false) (by simp) (by
   intro k hk
   have : k = 0 ∨ k = 1 ∨ k = 2 ∨ k = 3 ∨ k = 4 ∨ k = 5 := by omega
   rcases this with rfl | rfl | rfl | rfl | rfl | rfl <;> rfl)
  rw [show ((0, 0, Arr.rep 6 false) : Int × Int × Arr Bool 6) = (fun (i : Nat) (s : Int × Arr Bool 6) => (s.1, (i : Int), s.2)) 0 (0, Arr.rep 6 false) from rfl, key, k2]
  rfl
theorem compat_inner_ref (l : List Amount) (g : Int × Int) (h0 : 0 ≤ g.2) (hl : g.2 < (l.length : Int)) (hll : l.length ≤ 1000000) : loopO (f_ref04_Compatible_l2 l g) 0 =
  some (if (List.range' 0 g.2.toNat).all (fun k => decide (l.getD g.2.toNat Amount.zero = Amount.zero) || (decide (l.getD k Amount.zero = Amount.zero) || mC (l.getD g.2.toNat Amount.zero).mode (l.getD k Amount.zero).mode)) = true then .inl () else .inr false) := by
 have hz : ∀ a : Amount, f_ref04_Zero a = decide (a = Amount.zero) := fun _ => rfl
 have key := loop_range (body := f_ref04_Compatible_l2 l g) g.2.toNat (fun i => if (decide (l.getD g.2.toNat Amount.zero = Amount.zero) || (decide (l.getD i Amount.zero = Amount.zero) || mC (l.getD g.2.toNat Amount.zero).mode (l.getD i Amount.zero).mode)) = true then none else some (.inr false)) (.inl ()) (fun i hi => by
  unfold f_ref04_Compatible_l2
  have h3 : (i : Int) < g.2 := by omega
  have h4 : IntKind.i64.wrap ((i : Int) + 1) = (i : Int) + 1 := wrap_id (by omega) (by omega)
  have h5 : 0 ≤ (i : Int) ∧ (i : Int) < (l.length : Int) := by omega
  simp only [h3, decide_true, if_true, Int.toNat_natCast, h4, h5.1, h5.2, h0, hl, and_self, implies_true, gd_true, hz]
  cases decide (l.getD g.2.toNat Amount.zero = Amount.zero) <;> cases decide (l.getD i Amount.zero = Amount.zero) <;> cases hm : f_ref03_Compatible (l.getD g.2.toNat Amount.zero).mode (l.getD i Amount.zero).mode <;> simp only [mC, hm] <;> rfl) (by unfold f_ref04_Compatible_l2; rw [if_neg]; simp; omega)
 rw [key, firstR_all]
 split <;> simp_all
theorem ref04_Compatible_eq (r : Resource) (l : List Amount) (hl : l.length ≤ 1000000) : f_ref04_Compatible r l = some (compL r l) := by
 unfold f_ref04_Compatible
 rw [shaped_eq]
 cases hs : f_amount_Shaped r with
 | false => simp [compL, hs]
 | true =>
  have hru : 1 ≤ r.units ∧ r.units ≤ 8 ∧ (r.kind = 1 ∨ r.kind = 2) := by rw [shaped_iff] at hs; omega
  rw [compL_eq r l hs]
  simp only [Bool.not_true, Bool.false_eq_true, if_false]
  have key := loop_list (body := f_ref04_Compatible_l1 r l) l Amount.zero (fun i (s : Int) => (s, (i : Int)))
   (fun i a s => some (if f_amount_permitted r a = false then .inr (.inr false) else if r.kind = 2 then (if r.units < s + a.units then .inr (.inr false) else .inl (s + a.units)) else
    if (List.range' 0 i).all (fun k => decide (a = Amount.zero) || (decide (l.getD k Amount.zero = Amount.zero) || mC a.mode (l.getD k Amount.zero).mode)) = true then .inl s else .inr (.inr false))) (fun _ => Sum.inl (β := Bool) ()) (fun i s => 0 ≤ s ∧ s ≤ 8)
   (fun i s hi hi2 => by
    refine ⟨?_, fun s' h => ?_⟩
    ·unfold f_ref04_Compatible_l1
     have h3 : 0 ≤ (i : Int) ∧ (i : Int) < (l.length : Int) := by omega
     simp only [h3.1, h3.2, and_self, gd_true, decide_true, if_true, Int.toNat_natCast, wrap_succ i (by omega), Option.map_some, perm_eq, compat_inner_ref l (s, (i : Int)) h3.1 h3.2 hl]
     cases hp : f_amount_permitted r (l.getD i Amount.zero) with
     | false => simp [wmap]
     | true =>
      have hb := perm_bounds hp
      have hw : IntKind.i64.wrap (s + (l.getD i Amount.zero).units) = s + (l.getD i Amount.zero).units := wrap_id (by omega) (by omega)
      simp only [hw, Bool.not_true, Bool.false_eq_true, if_false, Bool.true_eq_false, decide_eq_true_eq]
      by_cases h4 : r.kind = 2
      ·by_cases h5 : r.units < s + (l.getD i Amount.zero).units
       ·simp only [h4, h5, if_true, wmap]
       ·simp only [h4, h5, if_true, if_false, wmap]
      ·simp only [h4, if_false]
       split
       ·simp only [f_ref04_Compatible_k2, wmap, wrap_succ i (by omega : i < 4611686018427387904), Option.bind_some]
       ·simp only [wmap, Option.bind_some]
    ·simp only [Option.some.injEq] at h
     split at h
     ·cases h
     ·rename_i hn
      simp only [Bool.not_eq_false] at hn
      have hb := perm_bounds hn
      split at h
      ·split at h
       ·cases h
       ·cases h; omega
      ·split at h
       ·cases h; exact hi2
       ·cases h)
   (fun s hs => by unfold f_ref04_Compatible_l1; simp) 0 (by simp)
  have fold : ∀ (t prev : List Amount) (s : Int), l = prev ++ t → (∀ b ∈ prev, f_amount_permitted r b = true) → (r.kind = 1 → s = 0) → s ≤ r.units →
    walk (fun i a (s : Int) => some (if f_amount_permitted r a = false then .inr (.inr false) else if r.kind = 2 then (if r.units < s + a.units then .inr (.inr false) else .inl (s + a.units)) else
     if (List.range' 0 i).all (fun k => decide (a = Amount.zero) || (decide (l.getD k Amount.zero = Amount.zero) || mC a.mode (l.getD k Amount.zero).mode)) = true then .inl s else .inr (.inr false))) (fun _ => Sum.inl (β := Bool) ()) t prev.length s = some (if compW r t prev s = true then .inl () else .inr false) := by
   intro t
   induction t with
   | nil => intro prev s _ _ _ _; rfl
   | cons a t ih =>
    intro prev s hlt hpp hs0 hsu
    simp only [walk, compW]
    by_cases hp : f_amount_permitted r a = true
    ·have hpp' : ∀ b ∈ prev ++ [a], f_amount_permitted r b = true := fun b hb => by
      rcases List.mem_append.1 hb with h | h
      ·exact hpp b h
      ·simp at h; subst h; exact hp
     have hlt' : l = (prev ++ [a]) ++ t := by rw [hlt]; simp
     have hlen : (prev ++ [a]).length = prev.length + 1 := by simp
     rcases hru.2.2 with hk | hk
     ·
      have ha := perm_lock hp hk
      have hs := hs0 hk
      subst hs
      have hk2 : ¬ r.kind = 2 := by omega
      have hsum : (0 : Int) + a.units ≤ r.units := by omega
      simp only [hp, Bool.true_eq_false, if_false, hk2, hsum, decide_true, Bool.true_and]
      have hall : (List.range' 0 prev.length).all (fun k => decide (a = Amount.zero) || (decide (l.getD k Amount.zero = Amount.zero) || mC a.mode (l.getD k Amount.zero).mode)) = decide (∀ b ∈ prev, ¬ clash b a) := by
       rw [Bool.eq_iff_iff, decide_eq_true_eq]
       simp only [List.all_eq_true, List.mem_range'_1, Bool.or_eq_true, decide_eq_true_eq]
       have hget : ∀ k, k < prev.length → l.getD k Amount.zero = prev.getD k Amount.zero := fun k hk => by rw [hlt, getD_left _ _ _ _ hk]
       have hmem : ∀ k, k < prev.length → prev.getD k Amount.zero ∈ prev := fun k hk => by
        rw [List.getD_eq_getElem?_getD, List.getElem?_eq_getElem hk]; exact List.getElem_mem hk
       have zero_iff : ∀ b, f_amount_permitted r b = true → (b = Amount.zero ↔ b.mode = 0) := fun b hb => by
        have := perm_lock hb hk
        rw [Amount.ext_iff]; simp [Amount.zero]; omega
       constructor
       ·intro hh b hb ⟨c1, c2, c3⟩
        obtain ⟨k, hk1, hk2⟩ := List.mem_iff_getElem.1 hb
        have e : prev.getD k Amount.zero = b := by rw [List.getD_eq_getElem?_getD, List.getElem?_eq_getElem hk1, Option.getD_some, hk2]
        rcases hh k (by omega) with h | h | h
        ·exact c2 ((zero_iff a hp).1 h)
        ·rw [hget k hk1, e] at h; exact c1 ((zero_iff b (hpp b hb)).1 h)
        ·rw [hget k hk1, e, mC_comm, c3] at h; cases h
       ·intro hh k hk1
        have hk2 : k < prev.length := by omega
        rw [hget k hk2]
        have h1 := hh _ (hmem k hk2)
        have h2 := hpp _ (hmem k hk2)
        unfold clash at h1
        rw [zero_iff a hp, zero_iff _ h2]
        by_cases e1 : a.mode = 0
        ·exact .inl e1
        ·by_cases e2 : (prev.getD k Amount.zero).mode = 0
         ·exact .inr (.inl e2)
         ·refine .inr (.inr ?_)
          rw [mC_comm]
          simp only [not_and, Bool.not_eq_false] at h1
          exact h1 e2 e1
      rw [hall]
      by_cases h7 : ∀ b ∈ prev, ¬ clash b a
      ·rw [decide_eq_true h7]
       simp only [if_true, Bool.true_and]
       have := ih (prev ++ [a]) 0 hlt' hpp' (fun _ => rfl) (by omega)
       rw [hlen] at this
       simp only [hk2, if_false] at this
       rw [this, ha.1]; rfl
      ·rw [decide_eq_false h7]; rfl
     ·
      have ha := perm_pool hp hk
      simp only [hp, Bool.true_eq_false, if_false, hk, if_true, Bool.true_and]
      have h7 : ∀ b ∈ prev, ¬ clash b a := fun b _ hc => hc.2.1 ha.1
      by_cases h5 : r.units < s + a.units
      ·have : ¬ s + a.units ≤ r.units := by omega
       simp [h5, this]
      ·have : s + a.units ≤ r.units := by omega
       rw [decide_eq_true h7]
       simp only [h5, if_false, this, decide_true, Bool.true_and]
       have h8 := ih (prev ++ [a]) (s + a.units) hlt' hpp' (fun h => by omega) this
       rw [hlen] at h8
       simp only [hk, if_true] at h8
       exact h8
    ·simp [hp]
  rw [show ((0, 0) : Int × Int) = (fun (i : Nat) (s : Int) => (s, (i : Int))) 0 0 from rfl, key]
  have k2 := fold l [] 0 rfl (by simp) (fun _ => rfl) (by omega)
  rw [List.length_nil] at k2
  rw [k2]
  cases compW r l [] 0 <;> rfl
end Ab
end Go.Proofs.YtdflfohpemfeiaaGreatDoor
