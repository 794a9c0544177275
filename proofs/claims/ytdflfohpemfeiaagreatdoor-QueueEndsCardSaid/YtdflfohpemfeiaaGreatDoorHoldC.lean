/-
  Valid grants, room, who is against: in plain Lean.
-/
import Derived.Test.YtdflfohpemfeiaaGreatDoorHoldB
namespace Go.Proofs.YtdflfohpemfeiaaGreatDoor
namespace Ab
set_option linter.unusedVariables false
set_option linter.unusedSimpArgs false
structure GoodP (r : Resource) (l : List Hold) : Prop where
 each : ∀ h ∈ l, f_ident_ValidProc h.proc = true ∧ f_amount_Fits r h.amount = true
 asc : l.Pairwise fun a b => ltP a.proc b.proc
instance (r : Resource) (l : List Hold) : Decidable (GoodP r l) :=
 decidable_of_iff ((∀ h ∈ l, f_ident_ValidProc h.proc = true ∧ f_amount_Fits r h.amount = true) ∧ l.Pairwise fun a b => ltP a.proc b.proc) ⟨fun ⟨a, b⟩ => ⟨a, b⟩, fun ⟨a, b⟩ => ⟨a, b⟩⟩
def validH (r : Resource) (l : List Hold) : Bool := f_amount_Shaped r && (decide (l.length ≤ 8) && (decide (GoodP r l) && decide (CompP r (l.map (·.amount)))))
theorem fits_shaped {r : Resource} {a : Amount} (h : f_amount_Fits r a = true) : f_amount_Shaped r = true := by rw [fits_iff] at h; rw [shaped_iff]; omega
theorem fits_perm {r : Resource} {a : Amount} (h : f_amount_Fits r a = true) : f_amount_permitted r a = true := (perm_iff r a).2 (.inr h)
theorem fits_nz {r : Resource} {a : Amount} (h : f_amount_Fits r a = true) : a ≠ Amount.zero := by
 rw [fits_iff] at h; intro e; subst e; simp [Amount.zero] at h
def goodW (r : Resource) : List Hold → Option Proc → Bool
 | [], _ => true
 | h :: t, pv => f_ident_ValidProc h.proc && (f_amount_Fits r h.amount && ((match pv with | none => true | some q => decide (ltP q h.proc)) && goodW r t (some h.proc)))
theorem goodW_iff (r : Resource) : ∀ (l : List Hold) (pv : Option Proc), goodW r l pv = true ↔ GoodP r l ∧ ∀ q, pv = some q → ∀ h ∈ l, ltP q h.proc
 | [], pv => by
  simp only [goodW, List.not_mem_nil, false_implies, implies_true, and_true, true_iff]
  exact ⟨by simp, .nil⟩
 | h :: t, pv => by
  simp only [goodW, Bool.and_eq_true]
  rw [goodW_iff r t (some h.proc)]
  constructor
  ·rintro ⟨h1, h2, h3, ⟨h4, h5⟩, h6⟩
   refine ⟨⟨fun x hx => ?_, List.pairwise_cons.2 ⟨fun x hx => h6 _ rfl x hx, h5⟩⟩, fun q hq x hx => ?_⟩
   ·rcases List.mem_cons.1 hx with rfl | hx
    ·exact ⟨h1, h2⟩
    ·exact h4 x hx
   ·subst hq
    simp only [decide_eq_true_eq] at h3
    rcases List.mem_cons.1 hx with rfl | hx
    ·exact h3
    ·exact ltP_trans h3 (h6 _ rfl x hx)
  ·rintro ⟨⟨h1, h2⟩, h3⟩
   rw [List.pairwise_cons] at h2
   refine ⟨(h1 h (.head _)).1, (h1 h (.head _)).2, ?_, ⟨fun x hx => h1 x (.tail _ hx), h2.2⟩, fun q hq x hx => by cases hq; exact h2.1 x hx⟩
   cases pv with
   | none => rfl
   | some q => exact decide_eq_true (h3 q rfl h (.head _))
theorem holders_Valid_eq (r : Resource) (l : List Hold) : f_holders_Valid r l = some (validH r l) := by
 unfold f_holders_Valid validH
 cases hs : f_amount_Shaped r with
 | false => simp
 | true =>
  by_cases h8 : 8 < (l.length : Int)
  ·have : ¬ l.length ≤ 8 := by omega
   simp [h8, this]
  ·have hl8 : l.length ≤ 8 := by omega
   simp only [Bool.not_true, Bool.false_or, h8, decide_false, Bool.false_eq_true, if_false, hl8, decide_true, Bool.true_and]
   have key := loop_list (body := f_holders_Valid_l1 r l) l Hold.zero (fun i (s : List Amount) => ((i : Int), s))
    (fun i h s => some (if f_ident_ValidProc h.proc = true ∧ f_amount_Fits r h.amount = true ∧ (i = 0 ∨ ltP (l.getD (i - 1) Hold.zero).proc h.proc) then .inl (s ++ [h.amount]) else .inr (.inr false))) (fun s => Sum.inl (β := Bool) s) (fun i s => s.length ≤ i)
    (fun i s hi hs => by
     refine ⟨?_, fun s' h => ?_⟩
     ·unfold f_holders_Valid_l1
      have h1 : s.length + 1 ≤ 4294967296 := by omega
      have h3 : 0 ≤ (i : Int) ∧ (i : Int) < (l.length : Int) := by omega
      simp only [h1, h3.1, h3.2, and_self, gd_true, decide_true, if_true, Int.toNat_natCast, ident_Compare_eq, wrap_succ i (by omega), Option.map_some, decide_eq_true_eq, Bool.and_eq_true, Bool.or_eq_true, Bool.not_eq_true']
      by_cases e1 : f_ident_ValidProc (l.getD i Hold.zero).proc = false ∨ f_amount_Fits r (l.getD i Hold.zero).amount = false
      ·rw [if_pos e1, if_neg (by rintro ⟨k1, k2, _⟩; rcases e1 with e | e <;> simp_all)]; rfl
      ·rw [if_neg e1]
       simp only [not_or, Bool.not_eq_false] at e1
       by_cases e2 : i = 0
       ·subst e2
        rw [gdp (by omega)]
        simp only [Int.natCast_zero, Int.lt_irrefl, if_false, Option.bind_some, false_and, e1, and_self, true_or, if_true, wmap]
       ·have w : IntKind.i64.wrap ((i : Int) - 1) = ((i - 1 : Nat) : Int) := wrap_pred i (by omega) (by omega)
        rw [gdp (by rw [w]; omega)]
        simp only [w, Int.toNat_natCast, show (0 : Int) < (i : Int) by omega, if_true, Option.bind_some, true_and, cmpP_nonneg, e1, e2, false_or]
        by_cases e3 : ltP (l.getD (i - 1) Hold.zero).proc (l.getD i Hold.zero).proc
        ·simp only [e3, not_true, if_false, if_true, wmap]
        ·simp only [e3, not_false_eq_true, if_true, if_false, wmap]
     ·simp only [Option.some.injEq] at h
      split at h
      ·cases h; simp; omega
      ·cases h)
    (fun s hs => by unfold f_holders_Valid_l1; simp) [] (by simp)
   have fold : ∀ (t prev : List Hold) (s : List Amount), l = prev ++ t →
     walk (fun i h (s : List Amount) => some (if f_ident_ValidProc h.proc = true ∧ f_amount_Fits r h.amount = true ∧ (i = 0 ∨ ltP (l.getD (i - 1) Hold.zero).proc h.proc) then .inl (s ++ [h.amount]) else .inr (.inr false))) (fun s => Sum.inl (β := Bool) s) t prev.length s =
      some (if goodW r t (prev.getLast?.map (·.proc)) = true then .inl (s ++ t.map (·.amount)) else .inr false) := by
    intro t
    induction t with
    | nil => intro prev s _; simp [walk, goodW]
    | cons h t ih =>
     intro prev s hlt
     simp only [walk]
     have hq : (prev.length = 0 ∨ ltP (l.getD (prev.length - 1) Hold.zero).proc h.proc) ↔ (match prev.getLast?.map (·.proc) with | none => true | some q => decide (ltP q h.proc)) = true := by
      rcases List.eq_nil_or_concat prev with rfl | ⟨pp, x, rfl⟩
      ·simp
      ·have : (l.getD ((pp.concat x).length - 1) Hold.zero) = x := by
        rw [hlt]; simp [List.getD_eq_getElem?_getD]
       rw [this]; simp
     by_cases e : f_ident_ValidProc h.proc = true ∧ f_amount_Fits r h.amount = true ∧ (prev.length = 0 ∨ ltP (l.getD (prev.length - 1) Hold.zero).proc h.proc)
     ·rw [if_pos e]
      have := ih (prev ++ [h]) (s ++ [h.amount]) (by rw [hlt]; simp)
      rw [show (prev ++ [h]).length = prev.length + 1 by simp] at this
      simp only
      have ht : goodW r (h :: t) (prev.getLast?.map (·.proc)) = goodW r t (some h.proc) := by simp only [goodW, e.1, e.2.1, hq.1 e.2.2, Bool.true_and]
      rw [this, ht]
      simp
     ·rw [if_neg e]
      rw [hq] at e
      have hf : goodW r (h :: t) (prev.getLast?.map (·.proc)) = false := by
       rw [Bool.eq_false_iff]
       intro hh
       simp only [goodW, Bool.and_eq_true] at hh
       exact e ⟨hh.1, hh.2.1, hh.2.2.1⟩
      rw [hf]; rfl
   have k2 := fold l [] [] rfl
   rw [List.length_nil] at k2
   rw [show ((0, []) : Int × List Amount) = (fun (i : Nat) (s : List Amount) => ((i : Int), s)) 0 [] from rfl, key, k2]
   have hg := goodW_iff r l none
   by_cases e : goodW r l none = true
   ·have hgp : GoodP r l := (hg.1 e).1
    rw [if_pos (by simpa using e)]
    simp only [Option.bind_some, f_holders_Valid_k1, List.nil_append]
    rw [amount_Compatible_eq r _ (by simp; omega)]
    simp [compL, hs, hgp]
   ·have hgp : ¬ GoodP r l := fun h => e (hg.2 ⟨h, by simp⟩)
    rw [if_neg (by simpa using e)]
    simp [hgp]
theorem ref10_Amounts_eq (l : List Hold) (hl : l.length ≤ 1000000) : f_ref10_Amounts l = some (l.map (·.amount)) := by
 unfold f_ref10_Amounts
 have key := loop_list (body := f_ref10_Amounts_l1 l) l Hold.zero (fun i (s : List Amount) => ((i : Int), s)) (fun i h s => some (.inl (snocO s (some h.amount)))) (fun s => s) (fun i s => s.length ≤ i)
  (fun i s hi hs => by
   refine ⟨?_, fun s' h => ?_⟩
   ·unfold f_ref10_Amounts_l1
    have h1 : s.length + 1 ≤ 4294967296 := by omega
    have h3 : 0 ≤ (i : Int) ∧ (i : Int) < (l.length : Int) := by omega
    simp only [h1, h3.1, h3.2, and_self, gd_true, decide_true, if_true, Int.toNat_natCast, wrap_succ i (by omega), Option.map_some, wmap, snocO]
   ·simp only [Option.some.injEq, Sum.inl.injEq] at h; subst h; simp [snocO]; omega)
  (fun s hs => by unfold f_ref10_Amounts_l1; simp) [] (by simp)
 rw [show ((0, []) : Int × List Amount) = (fun (i : Nat) (s : List Amount) => ((i : Int), s)) 0 [] from rfl, key, walk_snoc (fun h : Hold => some h.amount)]
 simp [f_ref10_Amounts_k1]
theorem ref10_Valid_eq (r : Resource) (l : List Hold) : f_ref10_Valid r l = some (validH r l) := by
 unfold f_ref10_Valid validH
 rw [shaped_eq]
 cases hs : f_amount_Shaped r with
 | false => simp
 | true =>
  by_cases h8 : 8 < (l.length : Int)
  ·have : ¬ l.length ≤ 8 := by omega
   simp [h8, this]
  ·have hl8 : l.length ≤ 8 := by omega
   simp only [Bool.not_true, Bool.false_or, h8, decide_false, Bool.false_eq_true, if_false, hl8, decide_true, Bool.true_and]
   have key := loop_list (body := f_ref10_Valid_l1 r l) l Hold.zero (fun i (_ : Unit) => (i : Int))
    (fun i h _ => some (if f_ident_ValidProc h.proc = true ∧ f_amount_Fits r h.amount = true ∧ (i = 0 ∨ ltP (l.getD (i - 1) Hold.zero).proc h.proc) then .inl () else .inr (.inr false))) (fun _ => Sum.inl (β := Bool) ()) (fun i s => True)
    (fun i s hi _ => by
     refine ⟨?_, fun _ _ => trivial⟩
     unfold f_ref10_Valid_l1
     have h3 : 0 ≤ (i : Int) ∧ (i : Int) < (l.length : Int) := by omega
     simp only [h3.1, h3.2, and_self, implies_true, gd_true, decide_true, if_true, Int.toNat_natCast, wrap_succ i (by omega), Option.map_some, vproc_eq, fits_eq]
     by_cases e2 : i = 0
     ·subst e2
      rw [gdp (by simp)]
      by_cases e1 : f_ident_ValidProc (l.getD 0 Hold.zero).proc = true
      ·by_cases e3 : f_amount_Fits r (l.getD 0 Hold.zero).amount = true
       ·simp only [e1, e3]; simp [wmap]
       ·simp only [e1, e3]; simp [wmap]
      ·simp only [e1]; simp [wmap]
     ·have w : IntKind.i64.wrap ((i : Int) - 1) = ((i - 1 : Nat) : Int) := wrap_pred i (by omega) (by omega)
      rw [gdp (fun _ => by rw [w]; omega)]
      simp only [w, Int.toNat_natCast, show (0 : Int) < (i : Int) by omega, decide_true, Bool.true_and, cmpP_nonneg, e2, false_or]
      by_cases e1 : f_ident_ValidProc (l.getD i Hold.zero).proc = true
      ·by_cases e3 : f_amount_Fits r (l.getD i Hold.zero).amount = true
       ·by_cases e4 : ltP (l.getD (i - 1) Hold.zero).proc (l.getD i Hold.zero).proc
        ·simp only [e1, e3, e4]; simp [wmap]
        ·simp only [e1, e3, e4]; simp [wmap]
       ·simp only [e1, e3]; simp [wmap]
      ·simp only [e1]; simp [wmap])
    (fun s hs => by unfold f_ref10_Valid_l1; simp) () trivial
   have fold : ∀ (t prev : List Hold), l = prev ++ t →
     walk (fun i h (_ : Unit) => some (if f_ident_ValidProc h.proc = true ∧ f_amount_Fits r h.amount = true ∧ (i = 0 ∨ ltP (l.getD (i - 1) Hold.zero).proc h.proc) then .inl () else .inr (.inr false))) (fun _ => Sum.inl (β := Bool) ()) t prev.length () =
      some (if goodW r t (prev.getLast?.map (·.proc)) = true then .inl () else .inr false) := by
    intro t
    induction t with
    | nil => intro prev _; simp [walk, goodW]
    | cons h t ih =>
     intro prev hlt
     simp only [walk]
     have hq : (prev.length = 0 ∨ ltP (l.getD (prev.length - 1) Hold.zero).proc h.proc) ↔ (match prev.getLast?.map (·.proc) with | none => true | some q => decide (ltP q h.proc)) = true := by
      rcases List.eq_nil_or_concat prev with rfl | ⟨pp, x, rfl⟩
      ·simp
      ·have : (l.getD ((pp.concat x).length - 1) Hold.zero) = x := by
        rw [hlt]; simp [List.getD_eq_getElem?_getD]
       rw [this]; simp
     by_cases e : f_ident_ValidProc h.proc = true ∧ f_amount_Fits r h.amount = true ∧ (prev.length = 0 ∨ ltP (l.getD (prev.length - 1) Hold.zero).proc h.proc)
     ·rw [if_pos e]
      have := ih (prev ++ [h]) (by rw [hlt]; simp)
      rw [show (prev ++ [h]).length = prev.length + 1 by simp] at this
      simp only
      have ht : goodW r (h :: t) (prev.getLast?.map (·.proc)) = goodW r t (some h.proc) := by simp only [goodW, e.1, e.2.1, hq.1 e.2.2, Bool.true_and]
      rw [this, ht]
      simp
     ·rw [if_neg e]
      rw [hq] at e
      have hf : goodW r (h :: t) (prev.getLast?.map (·.proc)) = false := by
       rw [Bool.eq_false_iff]
       intro hh
       simp only [goodW, Bool.and_eq_true] at hh
       exact e ⟨hh.1, hh.2.1, hh.2.2.1⟩
      rw [hf]; rfl
   have k2 := fold l [] rfl
   rw [List.length_nil] at k2
   rw [show (0 : Int) = (fun (i : Nat) (_ : Unit) => (i : Int)) 0 () from rfl, key, k2]
   have hg := goodW_iff r l none
   by_cases e : goodW r l none = true
   ·have hgp : GoodP r l := (hg.1 e).1
    rw [if_pos (by simpa using e)]
    simp only [Option.bind_some, f_ref10_Valid_k1]
    rw [ref10_Amounts_eq l (by omega), Option.bind_some, ref04_Compatible_eq r _ (by simp; omega)]
    simp [compL, hs, hgp]
   ·have hgp : ¬ GoodP r l := fun h => e (hg.2 ⟨h, by simp⟩)
    rw [if_neg (by simpa using e)]
    simp [hgp]
theorem insP_len (p : Proc) (a : Amount) (l : List Hold) : (insP p a l).length = l.length + 1 := by
 induction l with
 | nil => rfl
 | cons h t ih => simp only [insP]; split <;> simp [ih]
theorem setL_len (l : List Hold) (p : Proc) (a : Amount) : (setL l p a).length ≤ l.length + 1 := by
 have := others_len p l
 unfold setL
 split
 ·omega
 ·rw [insP_len]; omega
theorem validH_len {r : Resource} {l : List Hold} (h : validH r l = true) : l.length ≤ 8 := by
 unfold validH at h; simp at h; exact h.2.1
def properH (r : Resource) (l : List Hold) (p : Proc) (a : Amount) : Bool := validH r l && (f_ident_ValidProc p && f_amount_Fits r a)
def roomH (r : Resource) (l : List Hold) (p : Proc) (a : Amount) : Bool := properH r l p a && validH r (setL l p a)
theorem proper_eq (r : Resource) (l : List Hold) (p : Proc) (a : Amount) : f_holders_proper r l p a = some (properH r l p a) := by
 unfold f_holders_proper properH
 rw [holders_Valid_eq, Option.bind_some, Bool.and_assoc]
theorem room_eq (r : Resource) (l : List Hold) (p : Proc) (a : Amount) : f_holders_Room r l p a = some (roomH r l p a) := by
 unfold f_holders_Room roomH
 rw [proper_eq, Option.bind_some]
 cases h : properH r l p a with
 | false => simp
 | true =>
  have hv : validH r l = true := by unfold properH at h; simp at h; exact h.1
  simp only [if_true]
  rw [holders_Set_eq l p a (by have := validH_len hv; omega), Option.bind_some, holders_Valid_eq]
  simp
theorem ref_room_eq (r : Resource) (l : List Hold) (p : Proc) (a : Amount) : f_ref10_Room r l p a = some (roomH r l p a) := by
 unfold f_ref10_Room roomH
 rw [ref10_Valid_eq, Option.bind_some, vproc_eq, fits_eq, Bool.and_assoc]
 change ((if properH r l p a = true then _ else _) : Option (List Hold)).bind _ = _
 cases h : properH r l p a with
 | false => unfold properH at h; simp [h]
 | true =>
  have hv : validH r l = true := by unfold properH at h; simp at h; exact h.1
  unfold properH at h
  simp only [h, if_true]
  rw [ref10_Set_eq l p a (by have := validH_len hv; omega), Option.bind_some, ref10_Valid_eq]
  simp
end Ab
end Go.Proofs.YtdflfohpemfeiaaGreatDoor
