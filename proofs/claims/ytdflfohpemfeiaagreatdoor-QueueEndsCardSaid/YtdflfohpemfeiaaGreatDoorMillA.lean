/-
  The mill: valid values out of plain numbers, in plain Lean.
-/
import Derived.Test.YtdflfohpemfeiaaGreatDoorHoldG
namespace Go.Proofs.YtdflfohpemfeiaaGreatDoor
namespace Ab
set_option linter.unusedVariables false
set_option linter.unusedSimpArgs false
theorem mod_eq (n m : Int) (h1 : 1 ≤ m) (h2 : m ≤ 1000000) : f_mill_Mod n m = some (n % m) := by
  unfold f_mill_Mod
  rw [if_neg (by simp; omega), gdp (by omega)]
  have hlt : n.tmod m < m := Int.tmod_lt_of_pos n (by omega)
  have hgt : -m < n.tmod m := by have := Int.lt_tmod_of_pos n (show 0 < m by omega); omega
  have e : n % m = if n.tmod m < 0 then n.tmod m + m else n.tmod m := by
    rw [Int.emod_eq_tmod]
    by_cases h3 : 0 ≤ n ∨ m ∣ n
    · rw [if_pos h3]
      have : 0 ≤ n.tmod m := by
        rcases h3 with h | h
        · exact Int.tmod_nonneg m h
        · rw [Int.tmod_eq_zero_of_dvd h]; omega
      rw [if_neg (by omega)]; omega
    · rw [if_neg h3]
      simp only [not_or] at h3
      have h5 : 0 ≤ (-n).tmod m := Int.tmod_nonneg m (by omega)
      rw [Int.neg_tmod] at h5
      have h6 : n.tmod m ≠ 0 := fun h => h3.2 (Int.dvd_of_tmod_eq_zero h)
      rw [if_pos (by omega)]; omega
  rw [e]
  by_cases hc : n.tmod m < 0
  · rw [if_pos (by simpa using hc), if_pos hc, wrap_id (by omega) (by omega)]
  · rw [if_neg (by simpa using hc), if_neg hc]
def procM (n : Int) : Proc := ⟨(n % 8) % 4, 1, 1 + (n % 8) / 4⟩
theorem mill_Proc_eq (n : Int) : f_mill_Proc n = some (procM n) := by
  unfold f_mill_Proc procM
  rw [mod_eq n 8 (by decide) (by decide), Option.bind_some]
  have h1 : 0 ≤ n % 8 := Int.emod_nonneg _ (by decide)
  have h2 : n % 8 < 8 := Int.emod_lt_of_pos _ (by decide)
  rw [Int.tmod_eq_emod_of_nonneg h1, Int.tdiv_eq_ediv_of_nonneg h1, wrap_id (x := n % 8 / 4) (by omega) (by omega), wrap_id (by omega) (by omega)]
def MillP (p : Proc) : Prop := p.inc = 1 ∧ 0 ≤ p.site ∧ p.site < 4 ∧ 1 ≤ p.num ∧ p.num ≤ 2
theorem procM_mill (n : Int) : MillP (procM n) := by
  unfold MillP procM
  have h1 : 0 ≤ n % 8 := Int.emod_nonneg _ (by decide)
  have h2 : n % 8 < 8 := Int.emod_lt_of_pos _ (by decide)
  refine ⟨rfl, ?_⟩
  show 0 ≤ (n % 8) % 4 ∧ (n % 8) % 4 < 4 ∧ 1 ≤ 1 + (n % 8) / 4 ∧ 1 + (n % 8) / 4 ≤ 2
  omega
theorem MillP.valid {p : Proc} (h : MillP p) : f_ident_ValidProc p = true := by
  unfold MillP at h
  unfold f_ident_ValidProc f_ident_between
  simp; omega
theorem mill_len : ∀ (l : List Hold) (k : Int), l.Pairwise (fun a b => ltP a.proc b.proc) → (∀ h ∈ l, MillP h.proc) → (∀ h ∈ l, k ≤ h.proc.site * 2 + (h.proc.num - 1)) → k ≤ 8 → (l.length : Int) ≤ 8 - k
  | [], k, _, _, _, h => by simp; omega
  | h :: t, k, hp, hm, hk, _ => by
    rw [List.pairwise_cons] at hp
    have h1 := hm h (.head _)
    have h2 := hk h (.head _)
    unfold MillP at h1
    have := mill_len t (h.proc.site * 2 + (h.proc.num - 1) + 1) hp.2 (fun x hx => hm x (.tail _ hx)) (fun x hx => by
      have h3 := hp.1 x hx
      have h4 := hm x (.tail _ hx)
      unfold MillP at h4
      unfold ltP at h3
      omega) (by omega)
    simp only [List.length_cons]
    omega
def modeM (n : Int) : Int := lit_mill_Mode_1.getD (n % 8).toNat 0
def amtM (r : Resource) (n : Int) : Amount := if r.kind = 1 then ⟨modeM n, 0⟩ else ⟨0, 1 + n % r.units⟩
theorem modeM_range (n : Int) : 1 ≤ modeM n ∧ modeM n ≤ 5 := by
  unfold modeM
  have h1 : 0 ≤ n % 8 := Int.emod_nonneg _ (by decide)
  have h2 : n % 8 < 8 := Int.emod_lt_of_pos _ (by decide)
  have : (n % 8).toNat = 0 ∨ (n % 8).toNat = 1 ∨ (n % 8).toNat = 2 ∨ (n % 8).toNat = 3 ∨ (n % 8).toNat = 4 ∨ (n % 8).toNat = 5 ∨ (n % 8).toNat = 6 ∨ (n % 8).toNat = 7 := by omega
  rcases this with h | h | h | h | h | h | h | h <;> rw [h] <;> decide
theorem mill_Mode_eq (n : Int) : f_mill_Mode n = some (modeM n) := by
  unfold f_mill_Mode
  have hl : (lit_mill_Mode_1.length : Int) = 8 := rfl
  have h1 : 0 ≤ n % 8 := Int.emod_nonneg _ (by decide)
  have h2 : n % 8 < 8 := Int.emod_lt_of_pos _ (by decide)
  rw [hl, mod_eq n 8 (by decide) (by decide), Option.bind_some, gdp ⟨h1, h2⟩]
  rfl
theorem mill_Amount_eq (r : Resource) (n : Int) (hr : f_amount_Shaped r = true) : f_mill_Amount r n = some (amtM r n) := by
  rw [shaped_iff] at hr
  unfold f_mill_Amount amtM
  by_cases hk : r.kind = 1
  · simp only [hk, decide_true, if_true, mill_Mode_eq, Option.bind_some]; rfl
  · simp only [hk, decide_false, Bool.false_eq_true, if_false]
    rw [mod_eq n r.units (by omega) (by omega), Option.bind_some]
    have h1 : 0 ≤ n % r.units := Int.emod_nonneg _ (by omega)
    have h2 : n % r.units < r.units := Int.emod_lt_of_pos _ (by omega)
    rw [wrap_id (by omega) (by omega)]; rfl
theorem amtM_fits (r : Resource) (n : Int) (hr : f_amount_Shaped r = true) : f_amount_Fits r (amtM r n) = true := by
  rw [shaped_iff] at hr
  rw [fits_iff]
  unfold amtM
  by_cases hk : r.kind = 1
  · have := modeM_range n
    rw [if_pos hk]
    exact .inl ⟨hk, by omega, this.1, this.2, rfl⟩
  · have h1 : 0 ≤ n % r.units := Int.emod_nonneg _ (by omega)
    have h2 : n % r.units < r.units := Int.emod_lt_of_pos _ (by omega)
    rw [if_neg hk]
    exact .inr ⟨by omega, by omega, by omega, rfl, by simp only; omega, by simp only; omega⟩
structure TapeOk (t : Tape) : Prop where
  len : t.l.length ≤ 1000000
  at_ : 0 ≤ t.at_ ∧ t.at_ ≤ t.l.length
def nextV (m : Int) (t : Tape) : Int := if (t.l.length : Int) ≤ t.at_ then 0 else (t.l.getD t.at_.toNat 0) % m
def nextT (t : Tape) : Tape := if (t.l.length : Int) ≤ t.at_ then t else { t with at_ := t.at_ + 1 }
theorem tape_eq (m : Int) (t : Tape) (ht : TapeOk t) (h1 : 1 ≤ m) (h2 : m ≤ 1000000) : f_mill_Tape_Next_m m t = some (nextV m t, nextT t) := by
  unfold f_mill_Tape_Next_m nextV nextT
  have hl := ht.len; have ha := ht.at_
  by_cases h : (t.l.length : Int) ≤ t.at_
  · simp only [h, decide_true, if_true]
  · simp only [h, decide_false, Bool.false_eq_true, if_false]
    have w1 : IntKind.i64.wrap (t.at_ + 1) = t.at_ + 1 := wrap_id (by omega) (by omega)
    have w2 : IntKind.i64.wrap (t.at_ + 1 - 1) = t.at_ := by rw [wrap_id (by omega) (by omega)]; omega
    simp only [w1, w2]
    rw [gdp (by omega), mod_eq _ m h1 h2]
    rfl
theorem nextT_ok {t : Tape} (h : TapeOk t) : TapeOk (nextT t) := by
  unfold nextT
  split
  · exact h
  · have := h.at_; exact ⟨h.len, by simp only; omega⟩
theorem nextT_l (t : Tape) : (nextT t).l = t.l := by unfold nextT; split <;> rfl
theorem nextV_range (m : Int) (t : Tape) (h1 : 1 ≤ m) : 0 ≤ nextV m t ∧ nextV m t < m := by
  unfold nextV
  split
  · omega
  · exact ⟨Int.emod_nonneg _ (by omega), Int.emod_lt_of_pos _ (by omega)⟩
def nextN : Nat → Tape → Tape
  | 0, t => t
  | n + 1, t => nextN n (nextT t)
theorem nextN_ok : ∀ (n : Nat) {t : Tape}, TapeOk t → TapeOk (nextN n t)
  | 0, _, h => h
  | n + 1, _, h => nextN_ok n (nextT_ok h)
def catL (t : Tape) : List Resource :=
  [⟨⟨#[97]⟩, 1, 1, nextV 4 t⟩, ⟨⟨#[98]⟩, 1, 1, nextV 4 (nextT t)⟩, ⟨⟨#[99]⟩, 1, 1, nextV 4 (nextN 2 t)⟩, ⟨⟨#[100]⟩, 1, 1, nextV 4 (nextN 3 t)⟩,
   ⟨⟨#[112]⟩, 2, 1 + nextV 8 (nextN 4 t), nextV 4 (nextN 5 t)⟩, ⟨⟨#[113]⟩, 2, 1 + nextV 3 (nextN 6 t), nextV 4 (nextN 7 t)⟩]
theorem catalog_eq (t : Tape) (ht : TapeOk t) : f_mill_Catalog_m t = some (catL t, nextN 8 t) := by
  unfold f_mill_Catalog_m
  have hlit : (lit_mill_Catalog_m_1.length : Int) = 4 := rfl
  have step : ∀ (i : Nat) (u : Tape) (l : List Resource), i < 4 → TapeOk u → l.length ≤ 10 → f_mill_Catalog_m_l1 ((i : Int), u, l) = some (.inl ((i : Int) + 1, nextT u, l ++ [⟨lit_mill_Catalog_m_1.getD i (⟨#[]⟩), 1, 1, nextV 4 u⟩])) := by
    intro i u l hi hu hl
    unfold f_mill_Catalog_m_l1
    have h1 : (i : Int) < 4 := by omega
    have h0 : 0 ≤ (i : Int) := by omega
    simp only [hlit, h1, h0, and_self, gd_true, decide_true, if_true]
    rw [tape_eq 4 u hu (by decide) (by decide), Option.bind_some, gdp (by omega), wrap_id (by omega) (by omega)]
    simp only [Int.toNat_natCast]
  have s0 := step 0 t [] (by decide) ht (by simp)
  have o1 := nextT_ok ht
  have s1 := step 1 (nextT t) [⟨lit_mill_Catalog_m_1.getD 0 (⟨#[]⟩), 1, 1, nextV 4 t⟩] (by decide) o1 (by simp)
  have o2 := nextT_ok o1
  have s2 := step 2 (nextT (nextT t)) ([⟨lit_mill_Catalog_m_1.getD 0 (⟨#[]⟩), 1, 1, nextV 4 t⟩] ++ [⟨lit_mill_Catalog_m_1.getD 1 (⟨#[]⟩), 1, 1, nextV 4 (nextT t)⟩]) (by decide) o2 (by simp)
  have o3 := nextT_ok o2
  have s3 := step 3 (nextT (nextT (nextT t))) ([⟨lit_mill_Catalog_m_1.getD 0 (⟨#[]⟩), 1, 1, nextV 4 t⟩] ++ [⟨lit_mill_Catalog_m_1.getD 1 (⟨#[]⟩), 1, 1, nextV 4 (nextT t)⟩] ++ [⟨lit_mill_Catalog_m_1.getD 2 (⟨#[]⟩), 1, 1, nextV 4 (nextT (nextT t))⟩]) (by decide) o3 (by simp)
  have o4 := nextT_ok o3
  have s4 : ∀ u l, f_mill_Catalog_m_l1 ((4 : Int), u, l) = some (.inr (u, l)) := fun u l => by unfold f_mill_Catalog_m_l1; simp [hlit]
  rw [loopO_eq, show ((0 : Int), t, ([] : List Resource)) = (((0 : Nat) : Int), t, []) from rfl, s0]
  simp only [List.nil_append]
  rw [loopO_eq, show ((0 : Nat) : Int) + 1 = ((1 : Nat) : Int) from rfl, s1]
  simp only
  rw [loopO_eq, show ((1 : Nat) : Int) + 1 = ((2 : Nat) : Int) from rfl, s2]
  simp only
  rw [loopO_eq, show ((2 : Nat) : Int) + 1 = ((3 : Nat) : Int) from rfl, s3]
  simp only
  rw [loopO_eq, show ((3 : Nat) : Int) + 1 = (4 : Int) from rfl, s4]
  simp only [Option.bind_some]
  unfold f_mill_Catalog_m_k1
  have o5 := nextT_ok o4; have o6 := nextT_ok o5; have o7 := nextT_ok o6
  have w8 := nextV_range 8 (nextT (nextT (nextT (nextT t)))) (by decide)
  have w3 := nextV_range 3 (nextT (nextT (nextT (nextT (nextT (nextT t)))))) (by decide)
  simp only
  rw [tape_eq 8 _ o4 (by decide) (by decide), Option.bind_some]
  simp only
  rw [tape_eq 4 _ o5 (by decide) (by decide), Option.bind_some, gdp (by simp)]
  simp only
  rw [tape_eq 3 _ o6 (by decide) (by decide), Option.bind_some]
  simp only
  rw [tape_eq 4 _ o7 (by decide) (by decide), Option.bind_some, gdp (by simp)]
  simp only
  rw [wrap_id (x := 1 + nextV 8 _) (by omega) (by omega), wrap_id (x := 1 + nextV 3 _) (by omega) (by omega)]
  rfl
theorem catL_shaped (t : Tape) : ∀ r ∈ catL t, f_amount_Shaped r = true := by
  intro r hr
  have w8 := nextV_range 8 (nextN 4 t) (by decide)
  have w3 := nextV_range 3 (nextN 6 t) (by decide)
  unfold catL at hr
  simp only [List.mem_cons, List.not_mem_nil, or_false] at hr
  rw [shaped_iff]
  rcases hr with rfl | rfl | rfl | rfl | rfl | rfl
  · exact .inl ⟨rfl, rfl⟩
  · exact .inl ⟨rfl, rfl⟩
  · exact .inl ⟨rfl, rfl⟩
  · exact .inl ⟨rfl, rfl⟩
  · exact .inr ⟨rfl, by simp only; omega, by simp only; omega⟩
  · exact .inr ⟨rfl, by simp only; omega, by simp only; omega⟩
def MillH (l : List Hold) : Prop := ∀ h ∈ l, MillP h.proc
theorem MillH.sub {l m : List Hold} (h : MillH m) (hs : l.Sublist m) : MillH l := fun x hx => h x (hs.subset hx)
theorem MillH.set {l : List Hold} {p : Proc} (h : MillH l) (hp : MillP p) (a : Amount) : MillH (setL l p a) := by
  intro x hx
  unfold setL at hx
  split at hx
  · exact h x (mem_others.1 hx).1
  · rcases List.mem_cons.1 ((insP_perm p a _).mem_iff.1 hx) with rfl | hx
    · exact hp
    · exact h x (mem_others.1 hx).1
theorem mill_others {r : Resource} {l : List Hold} {p : Proc} (hv : validH r l = true) (hm : MillH l) (hp : MillP p) : (others p l).length + 1 ≤ 8 := by
  have hv' := (validH_iff r l).1 hv
  have h1 := insP_asc (a := Amount.zero) (hv'.2.2.1.sub (others_sub p l)).asc (p := p) fun h hh => (mem_others.1 hh).2
  have h2 := mill_len (insP p Amount.zero (others p l)) 0 h1 (fun h hh => by
    rcases List.mem_cons.1 ((insP_perm p Amount.zero _).mem_iff.1 hh) with rfl | hx
    · exact hp
    · exact hm h (mem_others.1 hx).1) (fun h hh => by
    have : MillP h.proc := by
      rcases List.mem_cons.1 ((insP_perm p Amount.zero _).mem_iff.1 hh) with rfl | hx
      · exact hp
      · exact hm h (mem_others.1 hx).1
    unfold MillP at this; omega) (by decide)
  rw [insP_len] at h2
  omega
theorem light_len {l : List Int} (h : f_mill_Light l = true) : l.length ≤ 300 := by unfold f_mill_Light at h; simp at h; omega
end Ab
end Go.Proofs.YtdflfohpemfeiaaGreatDoor
