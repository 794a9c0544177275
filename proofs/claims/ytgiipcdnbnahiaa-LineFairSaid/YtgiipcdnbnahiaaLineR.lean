/-
  The line's laws over scripts, in plain Lean.
-/
import Derived.Test.YtgiipcdnbnahiaaLineQ
namespace Go.Proofs.Ytgiipcdnbnahiaa
namespace Ab
set_option linter.unusedVariables false
set_option linter.unusedSimpArgs false

theorem Arr.get_put {α : Type} {n : Nat} (a : Arr α n) (i j : Nat) (x z : α) (hi : i < n) (hj : j < n) : (a.put i x).get j z = if j = i then x else a.get j z := by
  unfold Arr.get Arr.put
  simp only [clampN_of_lt hj, clampN_of_lt hi]
  show (a.l.set i x).getD j z = _
  by_cases h : j = i
  · subst h; rw [if_pos rfl]; exact getD_set_self _ _ _ _ (by rw [a.h]; exact hi)
  · rw [if_neg h, List.getD_eq_getElem?_getD, List.getD_eq_getElem?_getD, List.getElem?_set_ne (Ne.symm h)]

theorem tmod_neg {n m : Int} (hm : 0 < m) (h : n.tmod m < 0) : n.tmod m + m = n % m := by
  have := Int.emod_nonneg n (show m ≠ 0 by omega)
  rw [Int.tmod_eq_emod] at *
  by_cases hc : 0 ≤ n ∨ m ∣ n
  · rw [if_pos hc] at *; simp at h; omega
  · rw [if_neg hc] at *; omega
theorem tmod_pos {n m : Int} (hm : 0 < m) (h : ¬ n.tmod m < 0) : n.tmod m = n % m := by
  have := Int.emod_nonneg n (show m ≠ 0 by omega)
  have := Int.emod_lt_of_pos n hm
  rw [Int.tmod_eq_emod] at *
  by_cases hc : 0 ≤ n ∨ m ∣ n
  · rw [if_pos hc]; simp
  · rw [if_neg hc] at *; omega
theorem mill_Mod_eq (n m : Int) (h1 : 1 ≤ m) (h2 : m < 4611686018427387904) : f_mill_Mod n m = some (n % m) := by
  unfold f_mill_Mod
  rw [if_neg (by simp; omega), gd_pos (by omega)]
  by_cases h : n.tmod m < 0
  · have e := tmod_neg (by omega) h
    have := Int.emod_nonneg n (show m ≠ 0 by omega)
    have := Int.emod_lt_of_pos n (show 0 < m by omega)
    rw [if_pos (decide_eq_true h), e, wrap_id (by omega) (by omega)]
  · rw [if_neg (by simpa using h), tmod_pos (by omega) h]

/-- The processes of the mill. -/
def PP (k : Nat) : Proc := ⟨((k % 4 : Nat) : Int), 1, ((1 + k / 4 : Nat) : Int)⟩
theorem PP_inj {j k : Nat} (hj : j < 8) (hk : k < 8) (h : PP j = PP k) : j = k := by
  have h1 := congrArg Proc.site h
  have h2 := congrArg Proc.num h
  simp only [PP] at h1 h2
  omega
theorem mill_Proc_eq (n : Int) : f_mill_Proc n = some (PP (n % 8).toNat) := by
  unfold f_mill_Proc
  rw [mill_Mod_eq n 8 (by omega) (by omega), Option.bind_some]
  have h1 := Int.emod_nonneg n (show (8 : Int) ≠ 0 by omega)
  have h2 := Int.emod_lt_of_pos n (show (0 : Int) < 8 by omega)
  obtain ⟨k, hk⟩ : ∃ k : Nat, n % 8 = k := ⟨(n % 8).toNat, by omega⟩
  rw [hk]
  have e1 : ((k : Nat) : Int).tmod 4 = ((k % 4 : Nat) : Int) := by rw [Int.tmod_eq_emod_of_nonneg (by omega)]; omega
  have e2 : ((k : Nat) : Int).tdiv 4 = ((k / 4 : Nat) : Int) := by rw [Int.tdiv_eq_ediv_of_nonneg (by omega)]; omega
  rw [e1, e2, wrap_id (x := ((k / 4 : Nat) : Int)) (by omega) (by omega), wrap_id (by omega) (by omega), Int.toNat_natCast]
  unfold PP
  congr 2
theorem number_eq {k : Nat} (hk : k < 8) : f_law11_number (PP k) = some (k : Int) := by
  unfold f_law11_number PP
  simp only
  rw [wrap_id (x := ((1 + k / 4 : Nat) : Int) - 1) (by omega) (by omega), wrap_id (x := (((1 + k / 4 : Nat) : Int) - 1) * 4) (by omega) (by omega), wrap_id (by omega) (by omega), mill_Mod_eq _ 8 (by omega) (by omega), Option.bind_some]
  congr 1
  omega
theorem valid_PP (k : Nat) (hk : k < 8) : f_ident_ValidProc (PP k) = true := by
  have : ∀ k : Fin 8, f_ident_ValidProc (PP k.val) = true := by decide
  exact this ⟨k, hk⟩

/-! ### Valid lines -/

def optI (o : Option Nat) : Int := match o with
  | some i => (i : Int)
  | none => -1
theorem find1_opt (l : List Wait) (p : Proc) : find1 l p = optI (findI p l 0) := rfl
theorem find1_up (o : Option Nat) : optI (o.map (· + 1)) = if 0 ≤ optI o then optI o + 1 else -1 := by
  cases o with
  | none => rfl
  | some n =>
    have h : (0 : Int) ≤ optI (some n) := Int.natCast_nonneg n
    rw [if_pos h]; exact Int.natCast_succ n
theorem find1_self {l : List Wait} : (∀ i, i < l.length → find1 l (l.getD i Wait.zero).proc = i) ↔ (l.map (·.proc)).Nodup := by
  induction l with
  | nil => simp
  | cons w l ih =>
    rw [List.map_cons, List.nodup_cons]
    have shift : ∀ p i, findI p l (i + 1) = (findI p l i).map (· + 1) := by
      intro p
      clear ih
      induction l with
      | nil => intro i; rfl
      | cons x l ih => intro i; simp only [findI]; split <;> simp [ih]
    have hcons : ∀ i, find1 (w :: l) (l.getD i Wait.zero).proc = if w.proc = (l.getD i Wait.zero).proc then 0 else if 0 ≤ find1 l (l.getD i Wait.zero).proc then find1 l (l.getD i Wait.zero).proc + 1 else -1 := fun i => by
      simp only [find1_opt, findI, shift]
      by_cases h : w.proc = (l.getD i Wait.zero).proc
      · simp [h, optI]
      · simp only [h, if_false]
        exact find1_up _
    constructor
    · intro h
      have h1 : ∀ i, i < l.length → w.proc ≠ (l.getD i Wait.zero).proc ∧ find1 l (l.getD i Wait.zero).proc = i := fun i hi => by
        have := h (i + 1) (by simpa using hi)
        rw [List.getD_cons_succ, hcons] at this
        split at this
        · omega
        · rename_i hne
          split at this
          · exact ⟨hne, by omega⟩
          · omega
      refine ⟨fun hm => ?_, ih.1 fun i hi => (h1 i hi).2⟩
      obtain ⟨x, hx, he⟩ := List.mem_map.1 hm
      obtain ⟨i, hi, rfl⟩ := List.mem_iff_getElem.1 hx
      have := (h1 i hi).1
      rw [List.getD_eq_getElem?_getD, List.getElem?_eq_getElem hi] at this
      exact this he.symm
    · rintro ⟨h1, h2⟩ i hi
      have h3 := ih.2 h2
      cases i with
      | zero => simp [find1, findI]
      | succ i =>
        have hi' : i < l.length := by simpa using hi
        have hne : w.proc ≠ (l.getD i Wait.zero).proc := fun e => h1 (List.mem_map.2 ⟨l.getD i Wait.zero, by
          rw [List.getD_eq_getElem?_getD, List.getElem?_eq_getElem hi']; exact List.getElem_mem hi', e.symm⟩)
        rw [List.getD_cons_succ, hcons, if_neg hne, h3 i hi', if_pos (by omega)]
        omega

theorem validL_iff (l : List Wait) : validL l = true ↔ l.length ≤ 8 ∧ (∀ w ∈ l, f_line_ValidWait w = true) ∧ (l.map (·.proc)).Nodup := by
  unfold validL
  simp only [Bool.and_eq_true, decide_eq_true_eq, List.all_eq_true, List.mem_range]
  constructor
  · rintro ⟨h1, h2⟩
    refine ⟨h1, fun w hw => ?_, find1_self.1 fun i hi => (h2 i hi).2⟩
    obtain ⟨i, hi, rfl⟩ := List.mem_iff_getElem.1 hw
    have := (h2 i hi).1
    rwa [List.getD_eq_getElem?_getD, List.getElem?_eq_getElem hi] at this
  · rintro ⟨h1, h2, h3⟩
    refine ⟨h1, fun i hi => ⟨h2 _ ?_, find1_self.2 h3 i hi⟩⟩
    rw [List.getD_eq_getElem?_getD, List.getElem?_eq_getElem hi]
    exact List.getElem_mem hi

theorem validL_rm {l : List Wait} (p : Proc) (h : validL l = true) : validL (rmL l p) = true := by
  rw [validL_iff] at h ⊢
  refine ⟨Nat.le_trans (rmL_len l p) h.1, fun w hw => h.2.1 w ((List.mem_filter.1 hw).1), ?_⟩
  exact (h.2.2).sublist ((List.filter_sublist).map _)

theorem placeI_over (l : List Wait) (w : Wait) : ∀ k i, placeI l w k ≤ i → i < k → over w (l.getD i Wait.zero) = true
  | k + 1, i, h1, h2 => by
    unfold placeI at h1
    split at h1
    · rename_i ho
      by_cases hi : i = k
      · subst hi; exact ho
      · exact placeI_over l w k i h1 (by omega)
    · omega
theorem over_drop {l : List Wait} {w e : Wait} (h : e ∈ l.drop (placeI l w l.length)) : over w e = true := by
  obtain ⟨i, hi, rfl⟩ := List.mem_iff_getElem.1 h
  have := placeI_over l w l.length (placeI l w l.length + i) (by omega) (by simp at hi; omega)
  rw [List.getElem_drop]
  rwa [List.getD_eq_getElem?_getD, List.getElem?_eq_getElem (by simp at hi; omega)] at this

theorem validWait_bump {w e : Wait} (h : f_line_ValidWait e = true) (ho : over w e = true) : f_line_ValidWait (bump e) = true ∧ (bump e).passed = e.passed + 1 := by
  have h1 := validWait_passed h
  have h2 : e.passed < 3 := by unfold over at ho; simp at ho; exact ho.2
  have h3 : (bump e).passed = e.passed + 1 := by unfold bump; simp only; rw [wrap_id (by omega) (by omega)]
  refine ⟨?_, h3⟩
  unfold f_line_ValidWait at h ⊢
  simp only [Bool.and_eq_true, decide_eq_true_eq] at h ⊢
  rw [h3]
  exact ⟨⟨h.1.1, by omega⟩, by omega⟩

theorem map_proc_ins (l : List Wait) (w : Wait) (n : Nat) : (insAt l w n).map (·.proc) = (l.take n).map (·.proc) ++ w.proc :: (l.drop n).map (·.proc) := by
  unfold insAt
  rw [List.map_append, List.map_cons, List.map_map]
  rfl
theorem validL_ins {l : List Wait} {w : Wait} (h : validL l = true) (hw : f_line_ValidWait w = true) (hne : ∀ e ∈ l, e.proc ≠ w.proc) (hl : l.length < 8) : validL (insAt l w (placeI l w l.length)) = true := by
  rw [validL_iff] at h ⊢
  have hn := placeI_le l w l.length
  have ho := fun e => over_drop (l := l) (w := w) (e := e)
  generalize placeI l w l.length = n at hn ho
  refine ⟨by simp [insAt]; omega, fun e he => ?_, ?_⟩
  · simp only [insAt, List.mem_append, List.mem_cons, List.mem_map] at he
    rcases he with he | rfl | ⟨x, hx, rfl⟩
    · exact h.2.1 e (List.mem_of_mem_take he)
    · exact hw
    · exact (validWait_bump (h.2.1 x (List.mem_of_mem_drop hx)) (ho x hx)).1
  · rw [map_proc_ins]
    have h3 := h.2.2
    rw [← List.take_append_drop n l, List.map_append] at h3
    have hin : w.proc ∉ (l.take n).map (·.proc) ++ (l.drop n).map (·.proc) := by
      rw [← List.map_append, List.take_append_drop]
      intro hm
      obtain ⟨x, hx, he⟩ := List.mem_map.1 hm
      exact hne x hx he
    exact (List.perm_middle.nodup_iff).2 (List.nodup_cons.2 ⟨hin, h3⟩)

/-! ### A step of a script -/

theorem claim_eq (n pr : Int) : f_law11_claim n pr = some { Wait.zero with proc := PP (n % 8).toNat, amount := { Amount.zero with mode := 5 }, priority := pr } := by
  unfold f_law11_claim
  rw [mill_Proc_eq, Option.bind_some]
def clm (k : Nat) (pr : Int) : Wait := { Wait.zero with proc := PP k, amount := { Amount.zero with mode := 5 }, priority := pr }
theorem clm_valid {k : Nat} {pr : Int} (hk : k < 8) (h1 : 0 ≤ pr) (h2 : pr ≤ 7) : f_line_ValidWait (clm k pr) = true := by
  have : ∀ k : Fin 8, ∀ q : Fin 8, f_line_ValidWait (clm k.val (q.val : Nat)) = true := by decide
  have := this ⟨k, hk⟩ ⟨pr.toNat, by omega⟩
  simpa [Int.toNat_of_nonneg h1] using this

/-- What a step does: a removal; nothing; an insertion. -/
theorem step_cases {l : List Wait} (hv : validL l = true) {n : Int} (h0 : 0 ≤ n) (h4 : n < 400) :
    (∃ k, k < 8 ∧ f_law11_step l n = some (rmL l (PP k), false, true)) ∨ f_law11_step l n = some (l, false, true) ∨
    (∃ k pr, k < 8 ∧ k = (n.tdiv 5 % 8).toNat ∧ 0 ≤ pr ∧ pr ≤ 7 ∧ (∀ e ∈ l, e.proc ≠ PP k) ∧ l.length < 8 ∧ f_law11_step l n = some (insAt l (clm k pr) (placeI l (clm k pr) l.length), true, true)) := by
  have h8 := validL_len hv
  have hd : n.tdiv 5 = n / 5 := Int.tdiv_eq_ediv_of_nonneg h0
  have hk1 := Int.emod_nonneg (n.tdiv 5) (show (8 : Int) ≠ 0 by omega)
  have hk2 := Int.emod_lt_of_pos (n.tdiv 5) (show (0 : Int) < 8 by omega)
  have hw : IntKind.i64.wrap (n.tdiv 5) = n.tdiv 5 := wrap_id (by omega) (by omega)
  unfold f_law11_step
  rw [hw]
  by_cases hm : n.tmod 5 = 0
  · left
    refine ⟨(n.tdiv 5 % 8).toNat, by omega, ?_⟩
    rw [if_pos (decide_eq_true hm), mill_Proc_eq, Option.bind_some, line_Remove_eq _ _ (by omega), Option.bind_some]
  · right
    have hp1 := Int.emod_nonneg n (show (8 : Int) ≠ 0 by omega)
    have hp2 := Int.emod_lt_of_pos n (show (0 : Int) < 8 by omega)
    rw [if_neg (by simpa using hm), mill_Mod_eq n 8 (by omega) (by omega), Option.bind_some, claim_eq, Option.bind_some, line_Insert_eq, Option.bind_some]
    rw [show ({ Wait.zero with proc := PP (n.tdiv 5 % 8).toNat, amount := { Amount.zero with mode := 5 }, priority := n % 8 } : Wait) = clm (n.tdiv 5 % 8).toNat (n % 8) from rfl]
    have hcv : f_line_ValidWait (clm (n.tdiv 5 % 8).toNat (n % 8)) = true := clm_valid (by omega) hp1 (by omega)
    rcases insS_cases l (clm (n.tdiv 5 % 8).toNat (n % 8)) with ⟨h1, _, _⟩ | ⟨_, _, _, hne, hlen, he⟩
    · left
      rw [if_pos (by simpa using h1)]
      have : (insS l (clm (n.tdiv 5 % 8).toNat (n % 8))).2.2 = 11 ∨ (insS l (clm (n.tdiv 5 % 8).toNat (n % 8))).2.2 = 4 := by
        revert h1
        unfold insS
        rw [if_neg (by simp [hv]), if_neg (by rw [hcv]; simp [clm]; rfl)]
        split
        · intro _; left; rfl
        · split
          · intro _; right; rfl
          · intro h; exact absurd rfl h
      rcases this with h | h <;> rw [h] <;> rfl
    · right
      refine ⟨(n.tdiv 5 % 8).toNat, n % 8, by omega, rfl, hp1, by omega, hne, hlen, ?_⟩
      rw [he, if_neg (by simp)]

/-- All processes of a line are the mill's. -/
def Mill (l : List Wait) : Prop := ∀ w ∈ l, ∃ k, k < 8 ∧ w.proc = PP k
theorem mill_rm {l : List Wait} (p : Proc) (h : Mill l) : Mill (rmL l p) := fun w hw => h w ((List.mem_filter.1 hw).1)
theorem mill_ins {l : List Wait} {k : Nat} {pr : Int} (hk : k < 8) (h : Mill l) (n : Nat) : Mill (insAt l (clm k pr) n) := fun w hw => by
  simp only [insAt, List.mem_append, List.mem_cons, List.mem_map] at hw
  rcases hw with hw | rfl | ⟨x, hx, rfl⟩
  · exact h w (List.mem_of_mem_take hw)
  · exact ⟨k, hk, rfl⟩
  · exact h x (List.mem_of_mem_drop hx)
end Ab
end Go.Proofs.Ytgiipcdnbnahiaa
