/-
  Who came first stands first; how often one is overtaken: for all scripts, in plain Lean.
-/
import Derived.Test.YtgiipcdnbnahiaaLineR
namespace Go.Proofs.Ytgiipcdnbnahiaa
namespace Ab
set_option linter.unusedVariables false
set_option linter.unusedSimpArgs false

theorem getD_mem {α : Type} {l : List α} {i : Nat} {z : α} (h : i < l.length) : l.getD i z ∈ l := by
  rw [List.getD_eq_getElem?_getD, List.getElem?_eq_getElem h]; exact List.getElem_mem h

/-! ### First come, first -/

def Ord (c : Arr Int 8) (x y : Wait) : Prop := x.priority = y.priority → ∀ j k, j < 8 → k < 8 → x.proc = PP j → y.proc = PP k → c.get j 0 ≤ c.get k 0

theorem ord_put {c : Arr Int 8} {x y : Wait} {p : Nat} {i : Int} (hp : p < 8) (h : Ord c x y) (hx : x.proc ≠ PP p) (hy : y.proc ≠ PP p) : Ord (c.put p i) x y := fun he j k hj hk hxj hyk => by
  rw [Arr.get_put _ _ _ _ _ hp hj, Arr.get_put _ _ _ _ _ hp hk, if_neg (fun e => hx (by rw [hxj, e])), if_neg (fun e => hy (by rw [hyk, e]))]
  exact h he j k hj hk hxj hyk

theorem ord_ins {c : Arr Int 8} {l : List Wait} {k : Nat} {pr i : Int} (hk : k < 8) (h : l.Pairwise (Ord c)) (hne : ∀ e ∈ l, e.proc ≠ PP k) (hb : ∀ j, j < 8 → c.get j 0 ≤ i) :
    (insAt l (clm k pr) (placeI l (clm k pr) l.length)).Pairwise (Ord (c.put k i)) := by
  have ho := fun e => over_drop (l := l) (w := clm k pr) (e := e)
  generalize placeI l (clm k pr) l.length = n at ho
  have h' : l.Pairwise (Ord (c.put k i)) := by
    refine List.Pairwise.imp_of_mem (fun {a b} ha hb2 hab => ord_put hk hab (hne a ha) (hne b hb2)) h
  rw [← List.take_append_drop n l, List.pairwise_append] at h'
  unfold insAt
  rw [List.pairwise_append, List.pairwise_cons]
  refine ⟨h'.1, ⟨fun y hy => ?_, ?_⟩, fun x hx y hy => ?_⟩
  · obtain ⟨e, he, rfl⟩ := List.mem_map.1 hy
    intro hpe
    have h1 := ho e he
    unfold over at h1
    simp only [Bool.and_eq_true, decide_eq_true_eq] at h1
    exact absurd hpe (by show pr ≠ e.priority; have : e.priority < pr := h1.1; omega)
  · rw [List.pairwise_map]
    exact h'.2.1.imp fun {a b} hab => hab
  · rcases List.mem_cons.1 hy with rfl | hy
    · intro _ j k2 hj hk2 hxj hyk
      have e : k2 = k := (PP_inj hk hk2 hyk).symm
      subst e
      rw [Arr.get_put _ _ _ _ _ hk hj, Arr.get_put _ _ _ _ _ hk hk, if_pos rfl]
      split
      · exact Int.le_refl _
      · exact hb j hj
    · obtain ⟨e, he, rfl⟩ := List.mem_map.1 hy
      exact h'.2.2 x hx e he

theorem first_check {l : List Wait} {c : Arr Int 8} {b1 b2 : Bool} (h8 : l.length ≤ 8) (hm : Mill l) (h : l.Pairwise (Ord c)) (g1 : (List Wait) × Int × (Arr Int 8)) :
    f_law11_LineFirst_k2 g1 (l, b1, b2) c = some (.inl (l, IntKind.i64.wrap (g1.2.1 + 1), c)) := by
  unfold f_law11_LineFirst_k2
  have inner : ∀ a : Nat, a < l.length → loopO (f_law11_LineFirst_l3 (l, b1, b2) c (a : Int)) ((a : Int) + 1) = some (.inl ()) := fun a ha => by
    refine loop_ind (body := f_law11_LineFirst_l3 (l, b1, b2) c (a : Int)) (fun g => ∃ b : Nat, g = b ∧ a < b ∧ b ≤ l.length) (fun g => l.length - g.toNat) (fun _ => .inl ()) (fun g ⟨b, g1, g2, g3⟩ => ?_) _ ⟨a + 1, by omega, by omega, by omega⟩
    subst g1
    unfold f_law11_LineFirst_l3
    by_cases hb : b < l.length
    · left
      simp only [Int.toNat_natCast]
      rw [if_pos (decide_eq_true (by omega)), gd_pos (by omega), gd_pos (by omega), gd_pos (fun _ => by omega)]
      obtain ⟨j, hj, hpj⟩ := hm _ (getD_mem (z := Wait.zero) ha)
      obtain ⟨k, hk, hpk⟩ := hm _ (getD_mem (z := Wait.zero) hb)
      by_cases he : (l.getD a Wait.zero).priority = (l.getD b Wait.zero).priority
      · have hle : c.get j 0 ≤ c.get k 0 := by
          have h1 := List.pairwise_iff_getElem.1 h a b ha hb g2
          have e1 : l.getD a Wait.zero = l[a] := getD_of_lt l a _ ha
          have e2 : l.getD b Wait.zero = l[b] := getD_of_lt l b _ hb
          exact h1 (by rw [← e1, ← e2]; exact he) j k hj hk (by rw [← e1]; exact hpj) (by rw [← e2]; exact hpk)
        simp only [he, decide_true, if_true, hpj, hpk, number_eq hj, number_eq hk, Option.bind_some, Int.toNat_natCast, Bool.true_and]
        rw [gd_pos (fun _ => by omega), gd_pos (fun _ => by omega), gd_pos (fun _ => by omega), if_neg (by simp; omega), wrap_id (by omega) (by omega)]
        exact ⟨_, rfl, ⟨b + 1, by omega, by omega, by omega⟩, by omega, by first | rfl | trivial⟩
      · simp only [he, decide_false, Bool.false_eq_true, if_false, Option.bind_some, Bool.false_and]
        rw [gd_pos (fun h => by cases h), gd_pos (fun h => by cases h), gd_pos (fun h => by cases h), wrap_id (by omega) (by omega)]
        exact ⟨_, rfl, ⟨b + 1, by omega, by omega, by omega⟩, by omega, by first | rfl | trivial⟩
    · right
      rw [if_neg (by simp; omega)]
  have outer := loop_ind (body := f_law11_LineFirst_l2 (l, b1, b2) c) (fun g => ∃ a : Nat, g = a ∧ a ≤ l.length) (fun g => l.length - g.toNat) (fun _ => .inl ()) (fun g ⟨a, g1, g2⟩ => by
    subst g1
    unfold f_law11_LineFirst_l2
    by_cases ha : a < l.length
    · left
      rw [if_pos (decide_eq_true (by simp only; omega)), wrap_id (x := (a : Int) + 1) (by omega) (by omega), inner a ha]
      refine ⟨(a : Int) + 1, ?_, ⟨a + 1, by omega, by omega⟩, by omega, by first | rfl | trivial⟩
      show f_law11_LineFirst_k4 (a : Int) () = _
      unfold f_law11_LineFirst_k4
      rw [wrap_id (by omega) (by omega)]
    · right
      rw [if_neg (by simp; omega)]) 0 ⟨0, rfl, Nat.zero_le _⟩
  rw [outer]
  rfl

theorem LineFirst_true (s : List Int) : f_law11_LineFirst s = some true := by
  unfold f_law11_LineFirst f_mill_Light
  by_cases hs : (s.length : Int) ≤ 300
  · rw [if_neg (by simp; omega)]
    have key := loop_ind (body := f_law11_LineFirst_l1 s) (fun g => ∃ i : Nat, g.2.1 = i ∧ i ≤ s.length ∧ validL g.1 = true ∧ Mill g.1 ∧ g.1.Pairwise (Ord g.2.2) ∧ ∀ j, j < 8 → g.2.2.get j 0 ≤ i) (fun g => s.length - g.2.1.toNat) (fun _ => .inl ()) (fun g ⟨i, h1, h2, h3, h4, h5, h6⟩ => by
      obtain ⟨l, gi, c⟩ := g
      simp only at h1 h3 h4 h5 h6
      subst h1
      have h8 := validL_len h3
      unfold f_law11_LineFirst_l1
      by_cases hi : i < s.length
      · left
        rw [if_pos (decide_eq_true (by simp only; omega)), gd_pos (by simp only; omega), mill_Mod_eq _ 400 (by omega) (by omega), Option.bind_some]
        have hn1 := Int.emod_nonneg (s.getD (i : Int).toNat 0) (show (400 : Int) ≠ 0 by omega)
        have hn2 := Int.emod_lt_of_pos (s.getD (i : Int).toNat 0) (show (0 : Int) < 400 by omega)
        generalize s.getD (i : Int).toNat 0 % 400 = n at hn1 hn2
        have hd : n.tdiv 5 = n / 5 := Int.tdiv_eq_ediv_of_nonneg hn1
        have hwr : IntKind.i64.wrap ((i : Int) + 1) = (i : Int) + 1 := wrap_id (by omega) (by omega)
        rcases step_cases h3 hn1 hn2 with ⟨k, hk, he⟩ | he | ⟨k, pr, hk, hkn, hp1, hp2, hne, hlen, he⟩
        · simp only [he, Option.bind_some]
          rw [if_neg (by decide), if_neg (by decide), first_check (Nat.le_trans (rmL_len _ _) h8) (mill_rm _ h4) (h5.sublist List.filter_sublist)]
          simp only [hwr]
          exact ⟨_, rfl, ⟨i + 1, by simp, by omega, validL_rm _ h3, mill_rm _ h4, h5.sublist List.filter_sublist, fun j hj => by have := h6 j hj; simp only; omega⟩, by simp only; omega, by first | rfl | trivial⟩
        · simp only [he, Option.bind_some]
          rw [if_neg (by decide), if_neg (by decide), first_check h8 h4 h5]
          simp only [hwr]
          exact ⟨_, rfl, ⟨i + 1, by simp, by omega, h3, h4, h5, fun j hj => by have := h6 j hj; simp only; omega⟩, by simp only; omega, by first | rfl | trivial⟩
        · have hv2 := validL_ins h3 (clm_valid hk hp1 hp2) hne hlen
          have ho := ord_ins (pr := pr) (i := (i : Int)) hk h5 hne h6
          simp only [he, Option.bind_some]
          rw [if_neg (by decide), if_pos trivial, mill_Mod_eq _ 8 (by omega) (by omega), Option.bind_some, wrap_id (x := n.tdiv 5) (by omega) (by omega)]
          have hk1 := Int.emod_nonneg (n.tdiv 5) (show (8 : Int) ≠ 0 by omega)
          have hk2 := Int.emod_lt_of_pos (n.tdiv 5) (show (0 : Int) < 8 by omega)
          rw [gd_pos (by omega), ← hkn, first_check (validL_len hv2) (mill_ins hk h4 _) ho]
          simp only [hwr]
          refine ⟨_, rfl, ⟨i + 1, by simp, by omega, hv2, mill_ins hk h4 _, ho, fun j hj => ?_⟩, by simp only; omega, by first | rfl | trivial⟩
          simp only
          rw [Arr.get_put _ _ _ _ _ hk hj]
          split
          · omega
          · have := h6 j hj; omega
      · right
        rw [if_neg (by simp; omega)]) ([], 0, Arr.rep 8 0) ⟨0, rfl, Nat.zero_le _, by decide, fun w hw => by simp at hw, List.Pairwise.nil, fun j hj => by
        have : ∀ j : Fin 8, (Arr.rep 8 (0 : Int)).get j.val 0 ≤ 0 := by decide
        exact this ⟨j, hj⟩⟩
    rw [key, Option.bind_some]
    show f_law11_LineFirst_k1 () = _
    unfold f_law11_LineFirst_k1
    rw [awake_eq]; rfl
  · rw [if_pos (by simp; omega), awake_eq]; rfl
end Ab
end Go.Proofs.Ytgiipcdnbnahiaa
