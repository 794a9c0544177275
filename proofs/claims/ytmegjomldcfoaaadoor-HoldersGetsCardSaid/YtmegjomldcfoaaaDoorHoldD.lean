/-
  Who is against, what is got; the laws over arbitrary grants.
-/
import Derived.Test.YtmegjomldcfoaaaDoorHoldC
namespace Go.Proofs.YtmegjomldcfoaaaDoor
namespace Ab
set_option linter.unusedVariables false
set_option linter.unusedSimpArgs false

def foe (r : Resource) (p : Proc) (a : Amount) (h : Hold) : Bool := !decide (h.proc = p) && !(decide (r.kind = 1) && compL r [h.amount, a])
def againstL (r : Resource) (l : List Hold) (p : Proc) (a : Amount) : List Proc :=
  if (!properH r l p a || roomH r l p a) = true then [] else (l.filter (foe r p a)).map (·.proc)

theorem filterMap_foe (l : List Hold) (f : Hold → Bool) : l.filterMap (fun h => if f h = true then some h.proc else none) = (l.filter f).map (·.proc) := by
  induction l with
  | nil => rfl
  | cons h t ih => simp only [List.filterMap_cons, List.filter_cons]; split <;> simp_all

theorem against_eq (r : Resource) (l : List Hold) (p : Proc) (a : Amount) : f_holders_Against r l p a = some (againstL r l p a) := by
  unfold f_holders_Against againstL
  rw [proper_eq, Option.bind_some]
  cases hp : properH r l p a with
  | false => simp
  | true =>
    have hv : validH r l = true := by unfold properH at hp; simp at hp; exact hp.1
    have hl := validH_len hv
    simp only [if_true, room_eq, Option.bind_some, Bool.not_true, Bool.false_or]
    cases hr : roomH r l p a with
    | true => simp
    | false =>
      simp only [Bool.false_eq_true, if_false]
      have key := loop_list (body := f_holders_Against_l1 r l p a) l Hold.zero (fun i (s : List Proc) => ((i : Int), s)) (fun i h s => some (.inl (snocO s ((if foe r p a h = true then some h.proc else none))))) (fun s => s) (fun i s => s.length ≤ i)
        (fun i s hi hs => by
          refine ⟨?_, fun s' h => ?_⟩
          · unfold f_holders_Against_l1 foe
            have h1 : s.length + 1 ≤ 4294967296 := by omega
            have h3 : 0 ≤ (i : Int) ∧ (i : Int) < (l.length : Int) := by omega
            have hc : f_amount_Compatible r [(l.getD i Hold.zero).amount, a] = some (compL r [(l.getD i Hold.zero).amount, a]) := amount_Compatible_eq r _ (by simp)
            simp only [h1, h3.1, h3.2, and_self, gd_true, decide_true, if_true, Int.toNat_natCast, wrap_succ i (by omega), Option.map_some, wmap, hc, snocO]
            by_cases e1 : (l.getD i Hold.zero).proc = p
            · simp only [e1, decide_true, if_true, Bool.not_true, Bool.false_and, Bool.false_eq_true, if_false]
            · simp only [e1, decide_false, if_false, Bool.not_false, Bool.true_and, Bool.false_eq_true]
              by_cases e2 : r.kind = 1
              · simp only [e2, decide_true, if_true, Option.bind_some, Bool.true_and]
                cases compL r [(l.getD i Hold.zero).amount, a] <;> rfl
              · simp only [e2, decide_false, Bool.false_eq_true, if_false, Option.bind_some, Bool.false_and, Bool.not_false, if_true]
          · simp only [Option.some.injEq, Sum.inl.injEq] at h; subst h; have := snocO_len s (if foe r p a (l.getD i Hold.zero) = true then some (l.getD i Hold.zero).proc else none); omega)
        (fun s hs => by unfold f_holders_Against_l1; simp) [] (by simp)
      rw [show ((0, []) : Int × List Proc) = (fun (i : Nat) (s : List Proc) => ((i : Int), s)) 0 [] from rfl, key, walk_snoc (fun h : Hold => if foe r p a h = true then some h.proc else none), filterMap_foe]
      simp [f_holders_Against_k1]

theorem ref_against_eq (r : Resource) (l : List Hold) (p : Proc) (a : Amount) : f_ref10_Against r l p a = some (againstL r l p a) := by
  unfold f_ref10_Against againstL
  rw [ref10_Valid_eq, Option.bind_some, vproc_eq, fits_eq]
  have e : (((!validH r l) || (!f_ident_ValidProc p)) || (!f_amount_Fits r a)) = !properH r l p a := by unfold properH; cases validH r l <;> cases f_ident_ValidProc p <;> cases f_amount_Fits r a <;> rfl
  rw [e]
  cases hp : properH r l p a with
  | false => simp
  | true =>
    have hv : validH r l = true := by unfold properH at hp; simp at hp; exact hp.1
    have hs : f_amount_Shaped r = true := by unfold validH at hv; simp at hv; exact hv.1
    have hk : r.kind = 1 ∨ r.kind = 2 := by rw [shaped_iff] at hs; omega
    have hl := validH_len hv
    simp only [Bool.not_true, Bool.not_false, if_true, ref_room_eq, Option.bind_some, Bool.false_or]
    cases hr : roomH r l p a with
    | true => simp
    | false =>
      simp only [Bool.false_eq_true, if_false]
      have key := loop_list (body := f_ref10_Against_l1 r l p a) l Hold.zero (fun i (s : List Proc) => ((i : Int), s)) (fun i h s => some (.inl (snocO s ((if foe r p a h = true then some h.proc else none))))) (fun s => s) (fun i s => s.length ≤ i)
        (fun i s hi hs => by
          refine ⟨?_, fun s' h => ?_⟩
          · unfold f_ref10_Against_l1 foe
            have h1 : s.length + 1 ≤ 4294967296 := by omega
            have h3 : 0 ≤ (i : Int) ∧ (i : Int) < (l.length : Int) := by omega
            have hc : f_ref04_Compatible r [(l.getD i Hold.zero).amount, a] = some (compL r [(l.getD i Hold.zero).amount, a]) := ref04_Compatible_eq r _ (by simp)
            simp only [h1, h3.1, h3.2, and_self, implies_true, gd_true, decide_true, if_true, Int.toNat_natCast, wrap_succ i (by omega), Option.map_some, wmap, hc, snocO]
            by_cases e1 : (l.getD i Hold.zero).proc = p
            · simp only [e1, decide_true, if_true, Bool.not_true, Bool.false_and, Bool.false_eq_true, if_false]
            · simp only [e1, decide_false, if_false, Bool.not_false, Bool.true_and, Bool.false_eq_true]
              rcases hk with e2 | e2
              · have e3 : ¬ r.kind = 2 := by omega
                simp only [e2, e3, decide_true, decide_false, if_true, Option.bind_some, Bool.true_and, Bool.not_false, Bool.false_or]
                have e4 : ¬ ((1 : Int) = 2) := by decide
                simp only [e4, decide_false, Bool.not_false, if_true, Option.bind_some, Bool.false_or]
                cases compL r [(l.getD i Hold.zero).amount, a] <;> rfl
              · have e3 : ¬ ((2 : Int) = 1) := by decide
                simp only [e2, e3, decide_true, decide_false, Bool.not_true, Bool.not_false, Bool.false_eq_true, if_false, Option.bind_some, Bool.false_and, Bool.true_or, if_true]
          · simp only [Option.some.injEq, Sum.inl.injEq] at h; subst h; have := snocO_len s (if foe r p a (l.getD i Hold.zero) = true then some (l.getD i Hold.zero).proc else none); omega)
        (fun s hs => by unfold f_ref10_Against_l1; simp) [] (by simp)
      rw [show ((0, []) : Int × List Proc) = (fun (i : Nat) (s : List Proc) => ((i : Int), s)) 0 [] from rfl, key, walk_snoc (fun h : Hold => if foe r p a h = true then some h.proc else none), filterMap_foe]
      simp [f_ref10_Against_k1]

/-! ### What is got -/

def getL : List Hold → Proc → Amount
  | [], _ => Amount.zero
  | h :: t, p => if h.proc = p then h.amount else getL t p

theorem walk_get (p : Proc) : ∀ (l : List Hold) (i : Nat), walk (fun _ h (_ : Unit) => some (if h.proc = p then .inr (Sum.inr (α := Unit) h.amount) else .inl ())) (fun _ => .inl ()) l i () = some (if l.any (fun h => decide (h.proc = p)) = true then .inr (getL l p) else .inl ()) ∧ (l.any (fun h => decide (h.proc = p)) = false → getL l p = Amount.zero)
  | [], i => by simp [walk, getL]
  | h :: t, i => by
    obtain ⟨h1, h2⟩ := walk_get p t (i + 1)
    simp only [walk, List.any_cons, getL]
    by_cases e : h.proc = p
    · simp [e]
    · simp only [e, if_false, decide_false, Bool.false_or]; exact ⟨h1, h2⟩

theorem get_eq (l : List Hold) (p : Proc) (hl : l.length ≤ 1000000) : f_holders_Get l p = some (getL l p) := by
  unfold f_holders_Get
  have key := loop_list' (body := f_holders_Get_l1 l p) l Hold.zero (fun i (_ : Unit) => (i : Int)) (fun _ h _ => some (if h.proc = p then .inr (.inr h.amount) else .inl ())) (fun _ => .inl ())
    (fun i s hi => by
      unfold f_holders_Get_l1
      have h3 : 0 ≤ (i : Int) ∧ (i : Int) < (l.length : Int) := by omega
      simp only [h3.1, h3.2, and_self, gd_true, decide_true, if_true, Int.toNat_natCast, wrap_succ i (by omega), Option.map_some, decide_eq_true_eq]
      split <;> rfl)
    (fun s => by unfold f_holders_Get_l1; simp) ()
  obtain ⟨h1, h2⟩ := walk_get p l 0
  rw [show (0 : Int) = (fun (i : Nat) (_ : Unit) => (i : Int)) 0 () from rfl, key, h1]
  cases e : l.any (fun h => decide (h.proc = p)) with
  | true => rfl
  | false => rw [h2 e]; rfl
theorem ref_get_eq (l : List Hold) (p : Proc) (hl : l.length ≤ 1000000) : f_ref10_Get l p = some (getL l p) := by
  rw [← get_eq l p hl]
  unfold f_ref10_Get f_holders_Get
  have e : f_ref10_Get_l1 l p = f_holders_Get_l1 l p := funext fun i => by
    unfold f_ref10_Get_l1 f_holders_Get_l1
    by_cases h : 0 ≤ i ∧ i < (l.length : Int)
    · simp only [gdp h]
    · simp only [gdn h]
  rw [e]; rfl

theorem procs_eq (l : List Hold) (hl : l.length ≤ 1000000) : f_holders_Procs l = some (l.map (·.proc)) := by
  unfold f_holders_Procs
  have key := loop_list (body := f_holders_Procs_l1 l) l Hold.zero (fun i (s : List Proc) => ((i : Int), s)) (fun i h s => some (.inl (snocO s (some h.proc)))) (fun s => s) (fun i s => s.length ≤ i)
    (fun i s hi hs => by
      refine ⟨?_, fun s' h => ?_⟩
      · unfold f_holders_Procs_l1
        have h1 : s.length + 1 ≤ 4294967296 := by omega
        have h3 : 0 ≤ (i : Int) ∧ (i : Int) < (l.length : Int) := by omega
        simp only [h1, h3.1, h3.2, and_self, gd_true, decide_true, if_true, Int.toNat_natCast, wrap_succ i (by omega), Option.map_some, wmap, snocO]
      · simp only [Option.some.injEq, Sum.inl.injEq] at h; subst h; simp [snocO]; omega)
    (fun s hs => by unfold f_holders_Procs_l1; simp) [] (by simp)
  rw [show ((0, []) : Int × List Proc) = (fun (i : Nat) (s : List Proc) => ((i : Int), s)) 0 [] from rfl, key, walk_snoc (fun h : Hold => some h.proc)]
  simp [f_holders_Procs_k1]
theorem ref_procs_eq (l : List Hold) (hl : l.length ≤ 1000000) : f_ref10_Procs l = some (l.map (·.proc)) := by rw [← procs_eq l hl]; rfl

theorem sameHolds_eq (a b : List Hold) (ha : a.length ≤ 1000000) : f_ref10_SameHolds a b = some (decide (a = b)) := by
  unfold f_ref10_SameHolds
  by_cases h : a.length = b.length
  · rw [if_neg (by simp [h])]
    exact same_loop a b Hold.zero (by omega) h (fun i => rfl)
  · have : ¬ a = b := fun e => h (by rw [e])
    rw [if_pos (by simp; omega), decide_eq_false this]
theorem sameProcs_eq (a b : List Proc) (ha : a.length ≤ 1000000) : f_ref02_SameProcs a b = some (decide (a = b)) := by
  unfold f_ref02_SameProcs
  by_cases h : a.length = b.length
  · rw [if_neg (by simp [h])]
    exact same_loop a b Proc.zero (by omega) h (fun i => rfl)
  · have : ¬ a = b := fun e => h (by rw [e])
    rw [if_pos (by simp; omega), decide_eq_false this]

/-! ### The laws -/

theorem awake10 : f_law10_awake = some true := by
  unfold f_law10_awake
  have e1 : setL [] { Proc.zero with inc := 1, num := 2 } { Amount.zero with mode := 1 } = [⟨⟨0, 1, 2⟩, ⟨1, 0⟩⟩] := by decide
  have e2 : setL [⟨⟨0, 1, 2⟩, ⟨1, 0⟩⟩] { Proc.zero with inc := 1, num := 1 } { Amount.zero with mode := 2 } = [⟨⟨0, 1, 1⟩, ⟨2, 0⟩⟩, ⟨⟨0, 1, 2⟩, ⟨1, 0⟩⟩] := by decide
  have e3 : validH ({ Resource.zero with name := (⟨#[97]⟩ : ByteArray), kind := 1, units := 1 }) [⟨⟨0, 1, 1⟩, ⟨2, 0⟩⟩, ⟨⟨0, 1, 2⟩, ⟨1, 0⟩⟩] = true := by decide
  have e4 : againstL ({ Resource.zero with name := (⟨#[97]⟩ : ByteArray), kind := 1, units := 1 }) [⟨⟨0, 1, 1⟩, ⟨2, 0⟩⟩, ⟨⟨0, 1, 2⟩, ⟨1, 0⟩⟩] ({ Proc.zero with inc := 1, num := 2 }) ({ Amount.zero with mode := 3 }) = [⟨0, 1, 1⟩] := by decide
  have e5 : roomH ({ Resource.zero with name := (⟨#[97]⟩ : ByteArray), kind := 1, units := 1 }) [⟨⟨0, 1, 1⟩, ⟨2, 0⟩⟩, ⟨⟨0, 1, 2⟩, ⟨1, 0⟩⟩] ({ Proc.zero with inc := 1, num := 2 }) ({ Amount.zero with mode := 2 }) = true := by decide
  rw [holders_Set_eq _ _ _ (by simp), Option.bind_some, e1, holders_Set_eq _ _ _ (by simp), Option.bind_some, e2, against_eq, Option.bind_some, e4, gdp (by decide), holders_Valid_eq, e3, room_eq, e5]
  rfl

theorem HoldersSets_true (l : List Hold) (p : Proc) (a : Amount) : f_law10_HoldersSets l p a = some true := by
  unfold f_law10_HoldersSets
  rw [awake10]
  by_cases h : 100 < (l.length : Int)
  · simp [h]
  · have hs := setL_len l p a
    simp only [h, decide_false, Bool.false_eq_true, if_false, Option.bind_some, if_true]
    rw [holders_Set_eq _ _ _ (by omega), Option.bind_some, ref10_Set_eq _ _ _ (by omega), Option.bind_some, sameHolds_eq _ _ (by omega)]
    simp
theorem HoldersRoom_true (r : Resource) (l : List Hold) (p : Proc) (a : Amount) : f_law10_HoldersRoom r l p a = some true := by
  unfold f_law10_HoldersRoom
  rw [awake10]
  by_cases h : 100 < (l.length : Int)
  · simp [h]
  · simp only [h, decide_false, Bool.false_eq_true, if_false, Option.bind_some, if_true, room_eq, ref_room_eq]
    simp
theorem HoldersAgainst_true (r : Resource) (l : List Hold) (p : Proc) (a : Amount) : f_law10_HoldersAgainst r l p a = some true := by
  unfold f_law10_HoldersAgainst
  rw [awake10]
  by_cases h : 100 < (l.length : Int)
  · simp [h]
  · simp only [h, decide_false, Bool.false_eq_true, if_false, Option.bind_some, if_true, against_eq, ref_against_eq]
    rw [sameProcs_eq]
    · simp
    · unfold againstL
      split
      · simp
      · have := List.length_filter_le (foe r p a) l
        simp; omega
theorem HoldersValid_true (r : Resource) (l : List Hold) (p : Proc) : f_law10_HoldersValid r l p = some true := by
  unfold f_law10_HoldersValid
  rw [awake10]
  by_cases h : 100 < (l.length : Int)
  · simp [h]
  · simp only [h, decide_false, Bool.false_eq_true, if_false, Option.bind_some, if_true, holders_Valid_eq, ref10_Valid_eq, decide_true, Bool.and_self, get_eq l p (by omega), ref_get_eq l p (by omega), procs_eq l (by omega), ref_procs_eq l (by omega)]
    rw [sameProcs_eq _ _ (by simp; omega)]
    simp
end Ab
end Go.Proofs.YtmegjomldcfoaaaDoor
