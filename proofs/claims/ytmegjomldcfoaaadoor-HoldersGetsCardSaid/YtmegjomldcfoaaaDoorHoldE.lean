/-
  The laws of grants over what the mill makes, in plain Lean.
-/
import Derived.Test.YtmegjomldcfoaaaDoorMill
namespace Go.Proofs.YtmegjomldcfoaaaDoor
namespace Ab
set_option linter.unusedVariables false
set_option linter.unusedSimpArgs false

/-! ### What is got from what was put -/

theorem getL_others_self (p : Proc) (l : List Hold) : getL (others p l) p = Amount.zero := by
  induction l with
  | nil => rfl
  | cons h t ih =>
    rw [others_cons]
    by_cases e : h.proc = p
    · simp only [e, if_true]; exact ih
    · simp only [e, if_false, getL]; exact ih
theorem getL_others_ne {p q : Proc} (hq : q ≠ p) (l : List Hold) : getL (others p l) q = getL l q := by
  induction l with
  | nil => rfl
  | cons h t ih =>
    rw [others_cons]
    by_cases e : h.proc = p
    · have : ¬ h.proc = q := fun e2 => hq (e2.symm.trans e)
      simp only [e, if_true, getL, this, if_false]
      rw [if_neg (fun e2 => hq e2.symm)]; exact ih
    · simp only [e, if_false, getL]
      split
      · rfl
      · exact ih
theorem mem_others {p : Proc} {l : List Hold} {h : Hold} : h ∈ others p l ↔ h ∈ l ∧ h.proc ≠ p := by unfold others; simp
theorem getL_insP_self (p : Proc) (a : Amount) : ∀ l : List Hold, (∀ h ∈ l, h.proc ≠ p) → getL (insP p a l) p = a
  | [], _ => by simp [insP, getL]
  | h :: t, hh => by
    simp only [insP]
    split
    · simp [getL]
    · simp only [getL, hh h (.head _), if_false]
      exact getL_insP_self p a t fun x hx => hh x (.tail _ hx)
theorem getL_insP_ne {p q : Proc} (a : Amount) (hq : q ≠ p) : ∀ l : List Hold, getL (insP p a l) q = getL l q
  | [] => by simp only [insP, getL]; rw [if_neg (fun e : p = q => hq e.symm)]
  | h :: t => by
    simp only [insP]
    split
    · simp only [getL]; rw [if_neg (fun e : p = q => hq e.symm)]
    · simp only [getL]
      split
      · rfl
      · exact getL_insP_ne a hq t
theorem getL_setL_self (l : List Hold) (p : Proc) (a : Amount) : getL (setL l p a) p = a := by
  unfold setL
  split
  · rename_i h; rw [getL_others_self, h]
  · exact getL_insP_self p a _ fun h hh => (mem_others.1 hh).2
theorem getL_setL_ne {p q : Proc} (hq : q ≠ p) (l : List Hold) (a : Amount) : getL (setL l p a) q = getL l q := by
  unfold setL
  split
  · exact getL_others_ne hq l
  · rw [getL_insP_ne a hq]; exact getL_others_ne hq l

/-! ### Fewer grants -/

theorem sumU_sub {l m : List Amount} (h : l.Sublist m) (hn : ∀ a ∈ m, 0 ≤ a.units) : sumU l ≤ sumU m := by
  induction h with
  | slnil => exact Int.le_refl _
  | cons a h ih =>
    have := ih fun b hb => hn b (.tail _ hb)
    have := hn a (.head _)
    simp only [sumU]; omega
  | cons_cons a h ih =>
    have := ih fun b hb => hn b (.tail _ hb)
    simp only [sumU]; omega
theorem CompP.sub {r : Resource} {l m : List Amount} (h : CompP r m) (hs : l.Sublist m) : CompP r l where
  perm := fun a ha => h.perm a (hs.subset ha)
  sum := Int.le_trans (sumU_sub hs fun a ha => (perm_bounds (h.perm a ha)).1) h.sum
  pair := h.pair.sublist hs
theorem GoodP.sub {r : Resource} {l m : List Hold} (h : GoodP r m) (hs : l.Sublist m) : GoodP r l := ⟨fun x hx => h.each x (hs.subset hx), h.asc.sublist hs⟩

theorem validH_iff (r : Resource) (l : List Hold) : validH r l = true ↔ f_amount_Shaped r = true ∧ l.length ≤ 8 ∧ GoodP r l ∧ CompP r (l.map (·.amount)) := by
  unfold validH; simp
theorem validH_sub {r : Resource} {l m : List Hold} (h : validH r m = true) (hs : l.Sublist m) : validH r l = true := by
  rw [validH_iff] at h ⊢
  exact ⟨h.1, Nat.le_trans hs.length_le h.2.1, h.2.2.1.sub hs, h.2.2.2.sub (hs.map _)⟩
theorem others_sub (p : Proc) (l : List Hold) : (others p l).Sublist l := List.filter_sublist
theorem validH_nil {r : Resource} (hr : f_amount_Shaped r = true) : validH r [] = true := by
  rw [validH_iff]
  have : 1 ≤ r.units := by rw [shaped_iff] at hr; omega
  exact ⟨hr, by simp, ⟨by simp, .nil⟩, ⟨by simp, by simp [sumU]; omega, .nil⟩⟩

/-! ### One more grant -/

theorem insP_perm (p : Proc) (a : Amount) (l : List Hold) : (insP p a l).Perm (⟨p, a⟩ :: l) := by
  induction l with
  | nil => exact List.Perm.refl _
  | cons h t ih =>
    simp only [insP]
    split
    · exact List.Perm.refl _
    · exact (List.Perm.cons h ih).trans (List.Perm.swap _ _ _)
theorem insP_asc {p : Proc} {a : Amount} : ∀ {l : List Hold}, l.Pairwise (fun a b => ltP a.proc b.proc) → (∀ h ∈ l, h.proc ≠ p) → (insP p a l).Pairwise fun a b => ltP a.proc b.proc
  | [], _, _ => by simp [insP]
  | h :: t, hp, hn => by
    rw [List.pairwise_cons] at hp
    simp only [insP]
    split
    · rename_i hlt
      rw [List.pairwise_cons]
      refine ⟨fun x hx => ?_, List.pairwise_cons.2 hp⟩
      rcases List.mem_cons.1 hx with rfl | hx
      · exact hlt
      · exact ltP_trans hlt (hp.1 x hx)
    · rename_i hlt
      rw [List.pairwise_cons]
      refine ⟨fun x hx => ?_, insP_asc hp.2 fun x hx => hn x (.tail _ hx)⟩
      rcases List.mem_cons.1 ((insP_perm p a t).mem_iff.1 hx) with rfl | hx
      · rcases ltP_total (hn h (.head _)) with h1 | h1
        · exact h1
        · exact absurd h1 hlt
      · exact hp.1 x hx

theorem sumU_perm {l m : List Amount} (h : l.Perm m) : sumU l = sumU m := by
  induction h with
  | nil => rfl
  | cons a _ ih => simp only [sumU, ih]
  | swap a b l => simp only [sumU]; omega
  | trans _ _ ih1 ih2 => exact ih1.trans ih2
theorem clash_symm {a b : Amount} (h : ¬ clash a b) : ¬ clash b a := fun ⟨h1, h2, h3⟩ => h ⟨h2, h1, by rw [mC_comm]; exact h3⟩
theorem CompP.perm_iff {r : Resource} {l m : List Amount} (h : l.Perm m) : CompP r l ↔ CompP r m := by
  constructor
  · intro k
    exact ⟨fun a ha => k.perm a (h.mem_iff.2 ha), by rw [← sumU_perm h]; exact k.sum, (h.pairwise_iff (fun h => clash_symm h)).1 k.pair⟩
  · intro k
    exact ⟨fun a ha => k.perm a (h.mem_iff.1 ha), by rw [sumU_perm h]; exact k.sum, (h.pairwise_iff (fun h => clash_symm h)).2 k.pair⟩

/-- When there is room: nobody's amount clashes, and the units are enough. -/
theorem room_iff {r : Resource} {l : List Hold} {p : Proc} {a : Amount} (hv : validH r l = true) (hp : f_ident_ValidProc p = true) (ha : f_amount_Fits r a = true) (hlen : (others p l).length + 1 ≤ 8) :
    roomH r l p a = true ↔ (∀ h ∈ others p l, ¬ clash h.amount a) ∧ a.units + sumU ((others p l).map (·.amount)) ≤ r.units := by
  have hv' := (validH_iff r l).1 hv
  have hz := fits_nz ha
  have ho := validH_sub hv (others_sub p l)
  have ho' := (validH_iff r _).1 ho
  have hpr : properH r l p a = true := by unfold properH; simp [hv, hp, ha]
  have hpm : ((insP p a (others p l)).map (·.amount)).Perm (a :: (others p l).map (·.amount)) := (insP_perm p a (others p l)).map _
  unfold roomH
  rw [hpr, Bool.true_and, validH_iff]
  unfold setL
  rw [if_neg hz, CompP.perm_iff hpm]
  constructor
  · rintro ⟨_, _, _, h4⟩
    refine ⟨fun h hh => ?_, h4.sum⟩
    have := (List.pairwise_cons.1 h4.pair).1 h.amount (List.mem_map.2 ⟨h, hh, rfl⟩)
    exact clash_symm this
  · rintro ⟨h1, h2⟩
    refine ⟨hv'.1, by rw [insP_len]; exact hlen, ⟨fun x hx => ?_, insP_asc ho'.2.2.1.asc fun h hh => (mem_others.1 hh).2⟩, ⟨fun b hb => ?_, h2, ?_⟩⟩
    · rcases List.mem_cons.1 ((insP_perm p a _).mem_iff.1 hx) with rfl | hx
      · exact ⟨hp, ha⟩
      · exact ho'.2.2.1.each x hx
    · rcases List.mem_cons.1 hb with rfl | hb
      · exact fits_perm ha
      · exact ho'.2.2.2.perm b hb
    · rw [List.pairwise_cons]
      refine ⟨fun b hb => ?_, ho'.2.2.2.pair⟩
      obtain ⟨h, hh, rfl⟩ := List.mem_map.1 hb
      exact clash_symm (h1 h hh)

/-- Grants of the mill's processes. -/
def MillH (l : List Hold) : Prop := ∀ h ∈ l, MillP h.proc
theorem MillH.sub {l m : List Hold} (h : MillH m) (hs : l.Sublist m) : MillH l := fun x hx => h x (hs.subset hx)
theorem MillH.set {l : List Hold} {p : Proc} (h : MillH l) (hp : MillP p) (a : Amount) : MillH (setL l p a) := by
  intro x hx
  unfold setL at hx
  split at hx
  · exact h x (mem_others.1 hx).1
  · rcases List.mem_cons.1 ((insP_perm p a _).mem_iff.1 hx) with rfl | hx
    · exact hp
    · exact h x (mem_others.1 hx).1
theorem mill_others {r : Resource} {l : List Hold} {p : Proc} (hv : validH r l = true) (hm : MillH l) (hp : MillP p) : (others p l).length + 1 ≤ 8 := by
  have hv' := (validH_iff r l).1 hv
  have h1 := insP_asc (a := Amount.zero) (hv'.2.2.1.sub (others_sub p l)).asc (p := p) fun h hh => (mem_others.1 hh).2
  have h2 := mill_len (insP p Amount.zero (others p l)) 0 h1 (fun h hh => by
    rcases List.mem_cons.1 ((insP_perm p Amount.zero _).mem_iff.1 hh) with rfl | hx
    · exact hp
    · exact hm h (mem_others.1 hx).1) (fun h hh => by
    have : MillP h.proc := by
      rcases List.mem_cons.1 ((insP_perm p Amount.zero _).mem_iff.1 hh) with rfl | hx
      · exact hp
      · exact hm h (mem_others.1 hx).1
    unfold MillP at this; omega) (by decide)
  rw [insP_len] at h2
  omega

/-! ### What is made -/

def madeS (r : Resource) (x : List Hold) (k : Int) : List Hold := if roomH r x (procM k) (amtM r (k.fdiv (2 ^ 3))) = true then setL x (procM k) (amtM r (k.fdiv (2 ^ 3))) else x
def madeL (r : Resource) (l : List Int) : List Hold := l.foldl (madeS r) []
theorem madeS_valid {r : Resource} {x : List Hold} (k : Int) (h : validH r x = true) : validH r (madeS r x k) = true := by
  unfold madeS
  split
  · rename_i hr; unfold roomH at hr; simp at hr; exact hr.2
  · exact h
theorem madeS_mill {r : Resource} {x : List Hold} (k : Int) (h : MillH x) : MillH (madeS r x k) := by
  unfold madeS
  split
  · exact h.set (procM_mill k) _
  · exact h
theorem foldl_made {r : Resource} : ∀ (l : List Int) (x : List Hold), validH r x = true → MillH x → validH r (l.foldl (madeS r) x) = true ∧ MillH (l.foldl (madeS r) x)
  | [], x, h1, h2 => ⟨h1, h2⟩
  | k :: l, x, h1, h2 => foldl_made l _ (madeS_valid k h1) (madeS_mill k h2)
theorem madeL_valid {r : Resource} (hr : f_amount_Shaped r = true) (l : List Int) : validH r (madeL r l) = true := (foldl_made l [] (validH_nil hr) (by intro h hh; simp at hh)).1
theorem madeL_mill {r : Resource} (hr : f_amount_Shaped r = true) (l : List Int) : MillH (madeL r l) := (foldl_made l [] (validH_nil hr) (by intro h hh; simp at hh)).2

theorem walk_foldl {α S X : Type} (f : S → α → S) (fin : S → X) : ∀ (l : List α) (i : Nat) (s : S), walk (fun _ a s => some (.inl (f s a))) fin l i s = some (fin (l.foldl f s))
  | [], _, _ => rfl
  | a :: l, i, s => by simp only [walk, List.foldl_cons]; exact walk_foldl f fin l (i + 1) _

theorem made_eq (r : Resource) (l : List Int) (hr : f_amount_Shaped r = true) (hl : l.length ≤ 1000000) : f_law10_made r l = some (madeL r l) := by
  unfold f_law10_made
  have key := loop_list (body := f_law10_made_l1 r l) l 0 (fun i (s : List Hold) => (s, (i : Int))) (fun _ k s => some (.inl (madeS r s k))) (fun s => s) (fun _ s => validH r s = true)
    (fun i s hi hs => by
      refine ⟨?_, fun s' h => ?_⟩
      · unfold f_law10_made_l1
        have h3 : 0 ≤ (i : Int) ∧ (i : Int) < (l.length : Int) := by omega
        simp only [h3.1, h3.2, and_self, gd_true, decide_true, if_true, Int.toNat_natCast, wrap_succ i (by omega), Option.map_some, wmap, mill_Proc_eq, Option.bind_some, mill_Amount_eq r _ hr, ref_room_eq]
        unfold madeS
        by_cases e : roomH r s (procM (l.getD i 0)) (amtM r ((l.getD i 0).fdiv (2 ^ 3))) = true
        · simp only [e, if_true]
          rw [ref10_Set_eq _ _ _ (by have := validH_len hs; omega)]; rfl
        · simp only [e, Bool.false_eq_true, if_false]
      · simp only [Option.some.injEq, Sum.inl.injEq] at h; subst h; exact madeS_valid _ hs)
    (fun s hs => by unfold f_law10_made_l1; simp) [] (validH_nil hr)
  rw [show (([], 0) : List Hold × Int) = (fun (i : Nat) (s : List Hold) => (s, (i : Int))) 0 [] from rfl, key, walk_foldl (madeS r)]
  rfl

theorem light_len {l : List Int} (h : f_mill_Light l = true) : l.length ≤ 300 := by unfold f_mill_Light at h; simp at h; omega

theorem HoldersGrow_true (n : Int) (l : List Int) : f_law10_HoldersGrow n l = some true := by
  unfold f_law10_HoldersGrow
  cases hL : f_mill_Light l with
  | false => simp [awake10]
  | true =>
    have hl := light_len hL
    have hr := resM_shaped n
    simp only [Bool.not_true, Bool.false_eq_true, if_false, mill_Resource_eq, Option.bind_some]
    have key := loop_list (body := f_law10_HoldersGrow_l1 l (resM n)) l 0 (fun i (s : List Hold) => (s, (i : Int))) (fun _ k s => some (.inl (madeS (resM n) s k))) (fun s => Sum.inl (β := Bool) s) (fun _ s => validH (resM n) s = true)
      (fun i s hi hs => by
        refine ⟨?_, fun s' h => ?_⟩
        · unfold f_law10_HoldersGrow_l1
          have h3 : 0 ≤ (i : Int) ∧ (i : Int) < (l.length : Int) := by omega
          simp only [h3.1, h3.2, and_self, gd_true, decide_true, if_true, Int.toNat_natCast, Option.map_some, wmap, mill_Proc_eq, Option.bind_some, mill_Amount_eq _ _ hr, room_eq]
          have hnext := madeS_valid (l.getD i 0) hs
          unfold madeS at hnext ⊢
          by_cases e : roomH (resM n) s (procM (l.getD i 0)) (amtM (resM n) ((l.getD i 0).fdiv (2 ^ 3))) = true
          · rw [if_pos e] at hnext ⊢
            rw [if_pos e, holders_Set_eq _ _ _ (by have := validH_len hs; omega), Option.bind_some]
            unfold f_law10_HoldersGrow_k2
            rw [ref10_Valid_eq, hnext]
            simp [wrap_succ i (by omega : i < 4611686018427387904)]
          · rw [if_neg e, if_neg e]
            unfold f_law10_HoldersGrow_k2
            rw [ref10_Valid_eq, hs]
            simp [wrap_succ i (by omega : i < 4611686018427387904)]
        · simp only [Option.some.injEq, Sum.inl.injEq] at h; subst h; exact madeS_valid _ hs)
      (fun s hs => by unfold f_law10_HoldersGrow_l1; simp) [] (validH_nil hr)
    rw [show (([], 0) : List Hold × Int) = (fun (i : Nat) (s : List Hold) => (s, (i : Int))) 0 [] from rfl, key, walk_foldl (madeS (resM n))]
    simp only [Option.bind_some]
    unfold f_law10_HoldersGrow_k1
    have hv := madeL_valid hr l
    rw [awake10, Option.bind_some, if_pos rfl, made_eq _ _ hr (by omega), Option.bind_some, if_pos rfl, sameHolds_eq _ _ (by have := validH_len hv; unfold madeL at this; omega)]
    simp [madeL]

theorem HoldersGets_true (n : Int) (l : List Int) (who what other : Int) : f_law10_HoldersGets n l who what other = some true := by
  unfold f_law10_HoldersGets
  cases hL : f_mill_Light l with
  | false => simp [awake10]
  | true =>
    have hl := light_len hL
    have hr := resM_shaped n
    have hv := madeL_valid hr l
    have h8 := validH_len hv
    have ha := fits_nz (amtM_fits (resM n) what hr)
    simp only [Bool.not_true, Bool.false_eq_true, if_false, mill_Resource_eq, Option.bind_some, made_eq _ _ hr (show l.length ≤ 1000000 by omega), mill_Proc_eq, mill_Amount_eq _ _ hr, awake10]
    generalize madeL (resM n) l = x at hv h8
    generalize amtM (resM n) what = a at ha
    generalize procM who = p
    generalize procM other = q
    have l1 := setL_len x p a
    have l2 := setL_len (setL x p a) p Amount.zero
    have hz : ({ Amount.zero with } : Amount) = Amount.zero := rfl
    rw [holders_Set_eq x p a (by omega), Option.bind_some]
    rw [show f_holders_Set (setL x p a) p { Amount.zero with } = f_holders_Set (setL x p a) p Amount.zero from rfl, holders_Set_eq (setL x p a) p Amount.zero (by omega), Option.bind_some]
    simp only [if_true, get_eq (setL x p a) p (by omega), get_eq (setL x p a) q (by omega), get_eq (setL (setL x p a) p Amount.zero) p (by omega), get_eq (setL (setL x p a) p Amount.zero) q (by omega), ref_get_eq x q (by omega), Option.bind_some, getL_setL_self, decide_true, Bool.true_and]
    have hz2 : f_ref04_Zero Amount.zero = true := rfl
    by_cases hpq : p = q
    · simp [hpq, hz2]
    · have e1 : getL (setL x p a) q = getL x q := getL_setL_ne (fun e => hpq e.symm) x a
      have e2 : getL (setL (setL x p a) p Amount.zero) q = getL x q := by rw [getL_setL_ne (fun e => hpq e.symm), e1]
      simp [hpq, hz2, e1, e2]

theorem HoldersShrinks_true (n : Int) (l : List Int) (drop who what : Int) : f_law10_HoldersShrinks n l drop who what = some true := by
  unfold f_law10_HoldersShrinks
  cases hL : f_mill_Light l with
  | false => simp [awake10]
  | true =>
    have hl := light_len hL
    have hr := resM_shaped n
    have hv := madeL_valid hr l
    have hm := madeL_mill hr l
    have h8 := validH_len hv
    have haf := amtM_fits (resM n) what hr
    have hz : ({ Amount.zero with } : Amount) = Amount.zero := rfl
    simp only [Bool.not_true, Bool.false_eq_true, if_false, mill_Resource_eq, Option.bind_some, made_eq _ _ hr (show l.length ≤ 1000000 by omega), mill_Proc_eq, mill_Amount_eq _ _ hr, awake10, hz]
    rw [holders_Set_eq _ _ _ (by omega), Option.bind_some]
    have hs : setL (madeL (resM n) l) (procM drop) Amount.zero = others (procM drop) (madeL (resM n) l) := by unfold setL; rw [if_pos rfl]
    have hvy := validH_sub hv (others_sub (procM drop) (madeL (resM n) l))
    rw [hs]
    simp only [holders_Valid_eq, room_eq, if_true, Option.bind_some, hv, hvy, Bool.true_and, Bool.and_self]
    by_cases hd : procM drop = procM who
    · simp [hd, hvy]
    · have hpv := (procM_mill who).valid
      have hlx := mill_others hv hm (procM_mill who)
      have hly := mill_others hvy (hm.sub (others_sub _ _)) (procM_mill who)
      have hxy : roomH (resM n) (madeL (resM n) l) (procM who) (amtM (resM n) what) = true → roomH (resM n) (others (procM drop) (madeL (resM n) l)) (procM who) (amtM (resM n) what) = true := by
        rw [room_iff hv hpv haf hlx, room_iff hvy hpv haf hly]
        have hsub : (others (procM who) (others (procM drop) (madeL (resM n) l))).Sublist (others (procM who) (madeL (resM n) l)) := (others_sub _ _).filter _
        rintro ⟨h1, h2⟩
        refine ⟨fun h hh => h1 h (hsub.subset hh), ?_⟩
        have hvo := (validH_iff _ _).1 (validH_sub hv (others_sub (procM who) (madeL (resM n) l)))
        have := sumU_sub (hsub.map (·.amount)) fun a ha => (perm_bounds (hvo.2.2.2.perm a ha)).1
        omega
      simp only [hd, decide_false, Bool.false_eq_true, if_false]
      cases hrx : roomH (resM n) (madeL (resM n) l) (procM who) (amtM (resM n) what) with
      | false => simp
      | true => simp [hxy hrx]

/-! ### Who yields -/

theorem foe_lock {r : Resource} {p : Proc} {a : Amount} {h : Hold} (hk : r.kind = 1) (hs : f_amount_Shaped r = true) (hh : f_amount_Fits r h.amount = true) (ha : f_amount_Fits r a = true) : foe r p a h = true ↔ h.proc ≠ p ∧ clash h.amount a := by
  unfold foe compL
  have p1 := perm_lock (fits_perm hh) hk
  have p2 := perm_lock (fits_perm ha) hk
  have hc : CompP r [h.amount, a] ↔ ¬ clash h.amount a := by
    constructor
    · intro c; have := c.pair; simp at this; exact this
    · intro c
      exact ⟨fun b hb => by
        simp only [List.mem_cons, List.not_mem_nil, or_false] at hb
        rcases hb with rfl | rfl
        · exact fits_perm hh
        · exact fits_perm ha, by simp [sumU]; omega, by simp; exact c⟩
  simp [hk, hs, hc]
theorem foe_pool {r : Resource} {p : Proc} {a : Amount} {h : Hold} (hk : r.kind ≠ 1) : foe r p a h = true ↔ h.proc ≠ p := by
  unfold foe; simp [hk]

theorem others_foldl (rest : List Hold) : ∀ (ps : List Proc), ps.foldl (fun x q => setL x q Amount.zero) rest = rest.filter fun h => decide (h.proc ∉ ps) := by
  intro ps
  induction ps generalizing rest with
  | nil => exact (List.filter_eq_self.2 (by simp)).symm
  | cons q ps ih =>
    rw [List.foldl_cons, ih]
    unfold setL others
    rw [if_pos rfl, List.filter_filter]
    congr 1
    funext h
    by_cases e1 : h.proc = q <;> by_cases e2 : h.proc ∈ ps <;> simp [e1, e2]

theorem HoldersYield_true (n : Int) (l : List Int) (who what : Int) : f_law10_HoldersYield n l who what = some true := by
  unfold f_law10_HoldersYield
  cases hL : f_mill_Light l with
  | false => simp [awake10]
  | true =>
    have hl := light_len hL
    have hr := resM_shaped n
    have hv := madeL_valid hr l
    have hm := madeL_mill hr l
    have haf := amtM_fits (resM n) what hr
    have hpv := (procM_mill who).valid
    have hlx := mill_others hv hm (procM_mill who)
    simp only [Bool.not_true, Bool.false_eq_true, if_false, mill_Resource_eq, Option.bind_some, made_eq _ _ hr (show l.length ≤ 1000000 by omega), mill_Proc_eq, mill_Amount_eq _ _ hr, against_eq]
    have hmp := procM_mill who
    generalize madeL (resM n) l = x at hv hm hlx
    generalize resM n = r at hr hv haf hlx
    generalize amtM r what = a at haf
    generalize procM who = p at hpv hlx hmp
    have h8 := validH_len hv
    have hv' := (validH_iff r x).1 hv
    have hal : (againstL r x p a).length ≤ 8 := by
      unfold againstL
      split
      · simp
      · have := List.length_filter_le (foe r p a) x; simp; omega
    -- the loop that removes them
    have key := loop_list (body := f_law10_HoldersYield_l1 (againstL r x p a)) (againstL r x p a) Proc.zero (fun i (s : List Hold) => (s, (i : Int))) (fun _ q s => some (.inl (setL s q Amount.zero))) (fun s => s) (fun _ s => s.length ≤ 8)
      (fun i s hi hs => by
        refine ⟨?_, fun s' h => ?_⟩
        · unfold f_law10_HoldersYield_l1
          have h3 : 0 ≤ (i : Int) ∧ (i : Int) < ((againstL r x p a).length : Int) := by omega
          have hz : ({ Amount.zero with } : Amount) = Amount.zero := rfl
          simp only [h3.1, h3.2, and_self, gd_true, decide_true, if_true, Int.toNat_natCast, wrap_succ i (by omega), Option.map_some, wmap, hz]
          rw [ref10_Set_eq _ _ _ (by omega)]; rfl
        · simp only [Option.some.injEq, Sum.inl.injEq] at h; subst h
          have := others_len ((againstL r x p a).getD i Proc.zero) s
          unfold setL; rw [if_pos rfl]; omega)
      (fun s hs => by unfold f_law10_HoldersYield_l1; simp) x h8
    rw [show ((x, 0) : List Hold × Int) = (fun (i : Nat) (s : List Hold) => (s, (i : Int))) 0 x from rfl, key, walk_foldl (fun s q => setL s q Amount.zero), others_foldl, Option.bind_some]
    unfold f_law10_HoldersYield_k1
    rw [awake10]
    simp only [Option.bind_some, if_true, room_eq, Bool.true_and]
    have hpr : properH r x p a = true := by unfold properH; simp [hv, hpv, haf]
    have hsub : (x.filter fun h => decide (h.proc ∉ againstL r x p a)).Sublist x := List.filter_sublist
    have hvr := validH_sub hv hsub
    have hlr := mill_others hvr (hm.sub hsub) hmp
    have e1 : roomH r x p a = decide (((againstL r x p a).length : Int) = 0) := by
      cases hR : roomH r x p a with
      | true => simp [againstL, hpr, hR]
      | false =>
        symm
        rw [decide_eq_false_iff_not]
        intro he
        have he : againstL r x p a = [] := List.eq_nil_of_length_eq_zero (by omega)
        unfold againstL at he
        rw [hpr, hR] at he
        simp only [Bool.not_true, Bool.false_or, Bool.false_eq_true, if_false, List.map_eq_nil_iff, List.filter_eq_nil_iff] at he
        have hnot : ¬ roomH r x p a = true := by rw [hR]; decide
        rw [room_iff hv hpv haf hlx] at hnot
        apply hnot
        by_cases hk : r.kind = 1
        · refine ⟨fun h hh hc => ?_, ?_⟩
          · have hm1 := mem_others.1 hh
            exact he h hm1.1 ((foe_lock hk hr (hv'.2.2.1.each h hm1.1).2 haf).2 ⟨hm1.2, hc⟩)
          · have p2 := perm_lock (fits_perm haf) hk
            have : sumU ((others p x).map (·.amount)) = 0 := by
              have : ∀ m : List Hold, (∀ h ∈ m, h.amount.units = 0) → sumU (m.map (·.amount)) = 0 := by
                intro m
                induction m with
                | nil => intro _; rfl
                | cons h t ih => intro hh; simp only [List.map_cons, sumU, ih fun y hy => hh y (.tail _ hy), hh h (.head _)]; rfl
              exact this _ fun h hh => (perm_lock (fits_perm (hv'.2.2.1.each h (mem_others.1 hh).1).2) hk).1
            omega
        · have hnil : others p x = [] := by
            unfold others
            rw [List.filter_eq_nil_iff]
            intro h hh hc
            exact he h hh ((foe_pool hk).2 (by simpa using hc))
          rw [hnil]
          have := fits_iff r a
          rw [haf] at this
          simp only [true_iff] at this
          exact ⟨by simp, by simp [sumU]; omega⟩
    have e2 : roomH r (x.filter fun h => decide (h.proc ∉ againstL r x p a)) p a = true := by
      cases hR : roomH r x p a with
      | true =>
        have : againstL r x p a = [] := by simp [againstL, hpr, hR]
        rw [this]
        have : (x.filter fun h => decide (h.proc ∉ ([] : List Proc))) = x := by simp
        rw [this]; exact hR
      | false =>
        have hag : againstL r x p a = (x.filter (foe r p a)).map (·.proc) := by simp [againstL, hpr, hR]
        rw [room_iff hvr hpv haf hlr]
        have hout : ∀ h ∈ others p (x.filter fun h => decide (h.proc ∉ againstL r x p a)), h ∈ x ∧ h.proc ≠ p ∧ ¬ foe r p a h = true := by
          intro h hh
          obtain ⟨h1, h2⟩ := mem_others.1 hh
          obtain ⟨h3, h4⟩ := List.mem_filter.1 h1
          refine ⟨h3, h2, fun hf => ?_⟩
          simp only [decide_eq_true_eq] at h4
          rw [hag] at h4
          exact h4 (List.mem_map.2 ⟨h, List.mem_filter.2 ⟨h3, hf⟩, rfl⟩)
        by_cases hk : r.kind = 1
        · refine ⟨fun h hh hc => ?_, ?_⟩
          · obtain ⟨h1, h2, h3⟩ := hout h hh
            exact h3 ((foe_lock hk hr (hv'.2.2.1.each h h1).2 haf).2 ⟨h2, hc⟩)
          · have p2 := perm_lock (fits_perm haf) hk
            have : ∀ m : List Hold, (∀ h ∈ m, h.amount.units = 0) → sumU (m.map (·.amount)) = 0 := by
              intro m
              induction m with
              | nil => intro _; rfl
              | cons h t ih => intro hh; simp only [List.map_cons, sumU, ih fun y hy => hh y (.tail _ hy), hh h (.head _)]; rfl
            rw [this _ fun h hh => (perm_lock (fits_perm (hv'.2.2.1.each h (hout h hh).1).2) hk).1]
            omega
        · have hnil : others p (x.filter fun h => decide (h.proc ∉ againstL r x p a)) = [] := by
            rw [List.eq_nil_iff_forall_not_mem]
            intro h hh
            obtain ⟨h1, h2, h3⟩ := hout h hh
            exact h3 ((foe_pool hk).2 h2)
          rw [hnil]
          have := fits_iff r a
          rw [haf] at this
          simp only [true_iff] at this
          exact ⟨by simp, by simp [sumU]; omega⟩
    rw [e1, e2]
    simp
end Ab
end Go.Proofs.YtmegjomldcfoaaaDoor
