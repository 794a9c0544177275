/-
  How often one is overtaken, for all scripts, in plain Lean.
-/
import Derived.Test.YtgiipcdnbnahiaaLineS
namespace Go.Proofs.Ytgiipcdnbnahiaa
namespace Ab
set_option linter.unusedVariables false
set_option linter.unusedSimpArgs false

/-- The counts tell what the waits carry. -/
def Cnt (c : Arr Int 8) (l : List Wait) : Prop := ∀ w ∈ l, ∀ k, k < 8 → w.proc = PP k → w.passed = c.get k 0

theorem fair_check {l : List Wait} {c : Arr Int 8} {b1 b2 : Bool} (hv : validL l = true) (hc : Cnt c l) (g1 : (List Wait) × Int × (Arr Int 8)) :
    f_law11_LineFair_k2 g1 (l, b1, b2) c = some (.inl (l, IntKind.i64.wrap (g1.2.1 + 1), c)) := by
  unfold f_law11_LineFair_k2
  have h8 := validL_len hv
  have inner : ∀ a : Nat, a < l.length → loopO (f_law11_LineFair_l3 (l, b1, b2) c (a : Int)) 0 = some (.inl ()) := fun a ha => by
    refine loop_ind (body := f_law11_LineFair_l3 (l, b1, b2) c (a : Int)) (fun g => ∃ b : Nat, g = b ∧ b ≤ 8) (fun g => 8 - g.toNat) (fun _ => .inl ()) (fun g ⟨b, g1, g3⟩ => ?_) _ ⟨0, rfl, by omega⟩
    subst g1
    unfold f_law11_LineFair_l3
    by_cases hb : b < 8
    · left
      have hm := getD_mem (z := Wait.zero) ha
      have hp := validWait_passed (((validL_iff l).1 hv).2.1 _ hm)
      have hbe : ((b : Int) % 8).toNat = b := by omega
      simp only [Int.toNat_natCast]
      rw [if_pos (decide_eq_true (by omega)), gd_pos (by omega), mill_Proc_eq, Option.bind_some, hbe, gd_pos (fun _ => by omega), gd_pos (fun _ => by omega), gd_pos (fun _ => by omega)]
      rw [if_neg, wrap_id (by omega) (by omega)]
      · exact ⟨_, rfl, ⟨b + 1, by omega, by omega⟩, by omega, by first | rfl | trivial⟩
      · intro h
        simp only [Bool.and_eq_true, decide_eq_true_eq, Bool.or_eq_true, Bool.not_eq_true', decide_eq_false_iff_not] at h
        have h1 := hc _ hm b hb h.1
        rcases h.2 with h2 | h2
        · exact h2 h1
        · omega
    · right
      rw [if_neg (by simp; omega)]
  have outer := loop_ind (body := f_law11_LineFair_l2 (l, b1, b2) c) (fun g => ∃ a : Nat, g = a ∧ a ≤ l.length) (fun g => l.length - g.toNat) (fun _ => .inl ()) (fun g ⟨a, g1, g2⟩ => by
    subst g1
    unfold f_law11_LineFair_l2
    by_cases ha : a < l.length
    · left
      rw [if_pos (decide_eq_true (by simp only; omega)), inner a ha]
      refine ⟨(a : Int) + 1, ?_, ⟨a + 1, by omega, by omega⟩, by omega, by first | rfl | trivial⟩
      show f_law11_LineFair_k4 (a : Int) () = _
      unfold f_law11_LineFair_k4
      rw [wrap_id (by omega) (by omega)]
    · right
      rw [if_neg (by simp; omega)]) 0 ⟨0, rfl, Nat.zero_le _⟩
  rw [outer]
  rfl

/-- The count of one process after an insertion. -/
def newC (l l' : List Wait) (p : Nat) (c : Arr Int 8) (k : Nat) : Int :=
  if k = p then 0 else if find1 l' (PP p) < find1 l' (PP k) ∧ 0 ≤ find1 l (PP k) then IntKind.i64.wrap (c.get k 0 + 1) else c.get k 0

theorem fair_count {l l' : List Wait} {c : Arr Int 8} {p : Nat} (hp : p < 8) (h8 : l.length ≤ 8) (h8' : l'.length ≤ 8) (b : Bool) (gi : Int) :
    ∃ c', loopO (f_law11_LineFair_l4 (l, gi, c) (l', true, b) (PP p)) (0, c) = some c' ∧ ∀ k, k < 8 → c'.get k 0 = newC l l' p c k := by
  refine loop_rel (body := f_law11_LineFair_l4 (l, gi, c) (l', true, b) (PP p)) (fun g => ∃ i : Nat, g.1 = i ∧ i ≤ 8 ∧ ∀ k, k < 8 → g.2.get k 0 = if k < i then newC l l' p c k else c.get k 0) (fun g => 8 - g.1.toNat) (fun c' => ∀ k, k < 8 → c'.get k 0 = newC l l' p c k) (fun g ⟨i, h1, h2, h3⟩ => ?_) _ ⟨0, rfl, by omega, fun k _ => by simp⟩
  obtain ⟨gi2, d⟩ := g
  simp only at h1 h3
  subst h1
  unfold f_law11_LineFair_l4
  by_cases hi : i < 8
  · left
    have hie : ((i : Int) % 8).toNat = i := by omega
    have hup : ∀ (x : Int), x = newC l l' p c i → ∀ k, k < 8 → (d.put i x).get k 0 = if k < i + 1 then newC l l' p c k else c.get k 0 := fun x hx k hk => by
      rw [Arr.get_put _ _ _ _ _ hi hk, h3 k hk]
      by_cases hki : k = i
      · subst hki; rw [if_pos rfl, if_pos (by omega), hx]
      · rw [if_neg hki]
        by_cases hlt : k < i
        · rw [if_pos hlt, if_pos (by omega)]
        · rw [if_neg hlt, if_neg (by omega)]
    have hdi : d.get i 0 = c.get i 0 := by rw [h3 i hi, if_neg (by omega)]
    simp only [Int.toNat_natCast]
    rw [if_pos (by simp; omega), mill_Proc_eq, Option.bind_some, hie]
    by_cases hip : i = p
    · subst hip
      rw [if_pos (by simp), gd_pos (by omega), wrap_id (by omega) (by omega)]
      exact ⟨_, rfl, ⟨i + 1, by simp, by omega, hup 0 (by unfold newC; rw [if_pos rfl])⟩, by simp only; omega⟩
    · rw [if_neg (by simp; exact fun h => hip (PP_inj hi hp h)), ref11_Find_eq _ _ (by omega), Option.bind_some, ref11_Find_eq _ _ (by omega), Option.bind_some]
      by_cases hlt : find1 l' (PP p) < find1 l' (PP i)
      · simp only [hlt, decide_true, if_true, Bool.true_and]
        rw [ref11_Find_eq _ _ (by omega), Option.bind_some]
        by_cases hge : 0 ≤ find1 l (PP i)
        · rw [if_pos (by simpa using hge), gd_pos (by omega), gd_pos (by omega), wrap_id (x := (i : Int) + 1) (by omega) (by omega)]
          exact ⟨_, rfl, ⟨i + 1, by simp, by omega, hup _ (by unfold newC; rw [if_neg hip, if_pos ⟨hlt, hge⟩, hdi])⟩, by simp only; omega⟩
        · rw [if_neg (by simpa using hge), wrap_id (x := (i : Int) + 1) (by omega) (by omega)]
          refine ⟨_, rfl, ⟨i + 1, by simp, by omega, fun k hk => ?_⟩, by simp only; omega⟩
          simp only
          rw [h3 k hk]
          by_cases hki : k = i
          · subst hki; rw [if_neg (by omega), if_pos (by omega)]; unfold newC; rw [if_neg hip, if_neg (fun h => hge h.2)]
          · by_cases hlt : k < i
            · rw [if_pos hlt, if_pos (by omega)]
            · rw [if_neg hlt, if_neg (by omega)]
      · simp only [hlt, decide_false, Bool.false_and, Bool.false_eq_true, if_false, Option.bind_some]
        rw [wrap_id (x := (i : Int) + 1) (by omega) (by omega)]
        refine ⟨_, rfl, ⟨i + 1, by simp, by omega, fun k hk => ?_⟩, by simp only; omega⟩
        simp only
        rw [h3 k hk]
        by_cases hki : k = i
        · subst hki; rw [if_neg (by omega), if_pos (by omega)]; unfold newC; rw [if_neg hip, if_neg (fun h => hlt h.1)]
        · by_cases hlt : k < i
          · rw [if_pos hlt, if_pos (by omega)]
          · rw [if_neg hlt, if_neg (by omega)]
  · right
    refine ⟨d, ?_, fun k hk => by rw [h3 k hk, if_pos (by omega)]⟩
    rw [if_neg (by simp; omega)]

theorem cnt_ins {l : List Wait} {c c' : Arr Int 8} {k : Nat} {pr : Int} (hk : k < 8) (hv : validL l = true) (hv' : validL (insAt l (clm k pr) (placeI l (clm k pr) l.length)) = true) (h : Cnt c l) (hne : ∀ e ∈ l, e.proc ≠ PP k)
    (hc : ∀ j, j < 8 → c'.get j 0 = newC l (insAt l (clm k pr) (placeI l (clm k pr) l.length)) k c j) : Cnt c' (insAt l (clm k pr) (placeI l (clm k pr) l.length)) := by
  have ho := fun e => over_drop (l := l) (w := clm k pr) (e := e)
  have hn := placeI_le l (clm k pr) l.length
  generalize placeI l (clm k pr) l.length = n at *
  have hs := find1_self.2 ((validL_iff _).1 hv').2.2
  have hl0 := find1_self.2 ((validL_iff _).1 hv).2.2
  have hlen : (insAt l (clm k pr) n).length = l.length + 1 := by simp [insAt]; omega
  have htl : (l.take n).length = n := by simp; omega
  have hat : (insAt l (clm k pr) n).getD n Wait.zero = clm k pr := by
    unfold insAt; rw [getD_right _ _ _ _ (by omega), htl, Nat.sub_self]; rfl
  have hfp : find1 (insAt l (clm k pr) n) (PP k) = n := by
    have := hs n (by omega)
    rwa [hat] at this
  intro w hw j hj hwj
  rw [hc j hj]
  unfold newC
  rw [hfp]
  obtain ⟨i, hi, he⟩ := List.mem_iff_getElem.1 hw
  have hwi : (insAt l (clm k pr) n).getD i Wait.zero = w := by rw [getD_of_lt _ _ _ hi]; exact he
  have hfi : find1 (insAt l (clm k pr) n) (PP j) = i := by
    have := hs i hi
    rwa [hwi, hwj] at this
  rw [hfi]
  have hjk : j = k → i = n := fun e => by
    subst e; rw [hfp] at hfi; omega
  by_cases hin : i < n
  · rw [if_neg (fun e => by have := hjk e; omega), if_neg (by omega)]
    refine h w ?_ j hj hwj
    rw [← hwi]
    unfold insAt
    rw [getD_left _ _ _ _ (by omega), getD_take _ _ _ _ hin]
    exact getD_mem (by omega)
  · by_cases hie : i = n
    · subst hie
      rw [hat] at hwi
      subst hwi
      have : j = k := (PP_inj hk hj hwj).symm
      rw [if_pos this]; rfl
    · have hgt : n < i := by omega
      obtain ⟨m, rfl⟩ : ∃ m, i = n + 1 + m := ⟨i - (n + 1), by omega⟩
      have hm : n + m < l.length := by omega
      have hwb : w = bump (l.getD (n + m) Wait.zero) := by
        rw [← hwi]
        unfold insAt
        rw [getD_right _ _ _ _ (by omega), htl, show n + 1 + m - n = m + 1 by omega, List.getD_cons_succ]
        have h1 : ((l.drop n).map bump).length = l.length - n := by simp
        rw [getD_of_lt _ _ _ (by omega), List.getElem_map, List.getElem_drop, getD_of_lt _ _ _ hm]
      have hme : l.getD (n + m) Wait.zero ∈ l := getD_mem hm
      have hpj : (l.getD (n + m) Wait.zero).proc = PP j := by rw [← hwj, hwb]; rfl
      have hfl := hl0 (n + m) hm
      rw [hpj] at hfl
      rw [if_neg (fun e => by have := hjk e; omega), if_pos ⟨by omega, by omega⟩, hwb, ← h _ hme j hj hpj]
      rfl

theorem LineFair_true (s : List Int) : f_law11_LineFair s = some true := by
  unfold f_law11_LineFair f_mill_Light
  by_cases hs : (s.length : Int) ≤ 300
  · rw [if_neg (by simp; omega)]
    obtain ⟨x, hx, l, rfl, hl⟩ := loop_rel (body := f_law11_LineFair_l1 s) (fun g => ∃ i : Nat, g.2.1 = i ∧ i ≤ s.length ∧ validL g.1 = true ∧ Mill g.1 ∧ Cnt g.2.2 g.1) (fun g => s.length - g.2.1.toNat) (fun x => ∃ l, x = .inl l ∧ validL l = true) (fun g ⟨i, h1, h2, h3, h4, h5⟩ => by
      obtain ⟨l, gi, c⟩ := g
      simp only at h1 h3 h4 h5
      subst h1
      have h8 := validL_len h3
      unfold f_law11_LineFair_l1
      by_cases hi : i < s.length
      · left
        rw [if_pos (decide_eq_true (by simp only; omega)), gd_pos (by simp only; omega), mill_Mod_eq _ 400 (by omega) (by omega), Option.bind_some]
        have hn1 := Int.emod_nonneg (s.getD (i : Int).toNat 0) (show (400 : Int) ≠ 0 by omega)
        have hn2 := Int.emod_lt_of_pos (s.getD (i : Int).toNat 0) (show (0 : Int) < 400 by omega)
        generalize s.getD (i : Int).toNat 0 % 400 = n at hn1 hn2
        have hd : n.tdiv 5 = n / 5 := Int.tdiv_eq_ediv_of_nonneg hn1
        have hwn : IntKind.i64.wrap (n.tdiv 5) = n.tdiv 5 := wrap_id (by omega) (by omega)
        have hwr : IntKind.i64.wrap ((i : Int) + 1) = (i : Int) + 1 := wrap_id (by omega) (by omega)
        have hno : ∀ (l' : List Wait) (p : Proc), loopO (f_law11_LineFair_l4 (l, (i : Int), c) (l', false, true) p) (0, c) = some c := fun l' p =>
          loop_of_iter 1 (by
            unfold iter f_law11_LineFair_l4
            rw [if_neg (by simp)])
        rcases step_cases h3 hn1 hn2 with ⟨k, hk, he⟩ | he | ⟨k, pr, hk, hkn, hp1, hp2, hne, hlen, he⟩
        · have hc2 : Cnt c (rmL l (PP k)) := fun w hw => h5 w ((List.mem_filter.1 hw).1)
          simp only [he, Option.bind_some]
          rw [if_neg (by decide), hwn, mill_Proc_eq, Option.bind_some, hno, Option.bind_some, fair_check (validL_rm _ h3) hc2]
          simp only [hwr]
          exact ⟨_, rfl, ⟨i + 1, by simp, by omega, validL_rm _ h3, mill_rm _ h4, hc2⟩, by simp only; omega⟩
        · simp only [he, Option.bind_some]
          rw [if_neg (by decide), hwn, mill_Proc_eq, Option.bind_some, hno, Option.bind_some, fair_check h3 h5]
          simp only [hwr]
          exact ⟨_, rfl, ⟨i + 1, by simp, by omega, h3, h4, h5⟩, by simp only; omega⟩
        · have hv2 := validL_ins h3 (clm_valid hk hp1 hp2) hne hlen
          simp only [he, Option.bind_some]
          rw [if_neg (by decide), hwn, mill_Proc_eq, Option.bind_some, ← hkn]
          obtain ⟨c', hc1, hc2⟩ := fair_count (c := c) hk h8 (validL_len hv2) true (i : Int)
          rw [hc1, Option.bind_some, fair_check hv2 (cnt_ins hk h3 hv2 h5 hne hc2)]
          simp only [hwr]
          exact ⟨_, rfl, ⟨i + 1, by simp, by omega, hv2, mill_ins hk h4 _, cnt_ins hk h3 hv2 h5 hne hc2⟩, by simp only; omega⟩
      · right
        exact ⟨.inl l, by rw [if_neg (by simp; omega)], l, rfl, h3⟩) ([], 0, Arr.rep 8 0) ⟨0, rfl, Nat.zero_le _, by decide, fun w hw => by simp at hw, fun w hw => by simp at hw⟩
    rw [hx, Option.bind_some]
    show f_law11_LineFair_k1 l = _
    unfold f_law11_LineFair_k1
    rw [awake_eq, Option.bind_some, if_pos rfl, ref11_Valid_eq, hl]
    · rfl
  · rw [if_pos (by simp; omega), awake_eq]; rfl
end Ab
end Go.Proofs.Ytgiipcdnbnahiaa
