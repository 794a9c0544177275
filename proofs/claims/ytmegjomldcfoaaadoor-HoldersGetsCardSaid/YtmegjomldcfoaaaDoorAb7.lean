/-
  What each operation of the program yields, by the readings of its operands: cuts of slices and strings; structs compared.
-/
import Derived.Test.YtmegjomldcfoaaaDoorAb6
namespace Go.Proofs.YtmegjomldcfoaaaDoor
namespace Ab

section
variable {P : Program} {o : Oper} {a : Act} {E : Env} {s : S} {w : World} {W : Nat → Prop} {μ : Nat → Loc}

/-- The bounds of a cut, resolved. -/
theorem run_sliceBounds (isS : Bool) (len cap l h m : Nat) (lo hi mx : Option Value) (hm : mx = none ∧ m = cap ∨ ∃ k, mx = some (.int k m) ∧ hi ≠ none ∧ m ≤ cap) (hh : hi = none ∧ h = len ∨ ∃ k, hi = some (.int k h) ∧ h ≤ m)
    (hl : lo = none ∧ l = 0 ∨ ∃ k, lo = some (.int k l) ∧ l ≤ h) : (Instr.sliceBounds isS len cap lo hi mx).run P w = .ok (l, h, m) w := by
  rcases hm with ⟨rfl, rfl⟩ | ⟨km, rfl, hhi, hmc⟩
  · rcases hh with ⟨rfl, rfl⟩ | ⟨kh, rfl, hle⟩ <;> rcases hl with ⟨rfl, rfl⟩ | ⟨kl, rfl, hll⟩ <;> simp [Instr.sliceBounds, Instr.sliceBound, asIntOf, *]
  · rcases hh with ⟨rfl, rfl⟩ | ⟨kh, rfl, hle⟩
    · exact absurd rfl hhi
    · rcases hl with ⟨rfl, rfl⟩ | ⟨kl, rfl, hll⟩ <;> simp [Instr.sliceBounds, Instr.sliceBound, asIntOf, *]

/-- A cut's bounds as the operation gives them. -/
structure Bds (lo hi mx : Option Value) (l h m : Option Int) : Prop where
  l : lo = none ∧ l = none ∨ ∃ k n, lo = some (.int k n) ∧ l = some n
  h : hi = none ∧ h = none ∨ ∃ k n, hi = some (.int k n) ∧ h = some n
  m : mx = none ∧ m = none ∨ ∃ k n, mx = some (.int k n) ∧ m = some n

def slcTy (P : Program) (T : TypeId) (sz : Nat) : Bool := match P.underlying T with | some (.slice e) => szIs P e sz | some .string => true | _ => false

theorem run_sliceAt_slice {T e : TypeId} {sz : Nat} (hu : P.underlying T = some (.slice e)) (hz : szIs P e sz = true) (ad : Option Addr) (n c l h m : Nat) (lo hi mx : Option Value)
    (hb : (Instr.sliceBounds true n c lo hi mx).run P w = .ok (l, h, m) w) :
    (Instr.sliceAt T (.slice ad n c) lo hi mx).run P w = .ok (.slice (if m = l then ad else ad.map (·.add (l * sz))) (h - l) (m - l)) w := by
  simp [Instr.sliceAt, Instr.slice, run_underlying hu, hb, run_szIs hz]

theorem run_sliceAt_string {T : TypeId} (hu : P.underlying T = some .string) (b : ByteArray) (l h m : Nat) (lo hi : Option Value)
    (hb : (Instr.sliceBounds false b.size b.size lo hi none).run P w = .ok (l, h, m) w) :
    (Instr.sliceAt T (.string b) lo hi none).run P w = .ok (.string (b.extract l h)) w := by
  simp [Instr.sliceAt, Instr.slice, run_underlying hu, hb]

theorem rep_cut {b off cap sz l h : Nat} {es : List (List A)} {us : List Value} {c : Nat} (hb : ¬ W b) (hlt : b < w.heap.size) (hle : l ≤ h) (hh : h ≤ es.length) (hc1 : h ≤ c) (hf : Flat (RepC w W) sz us es)
    (hc : ∀ (q : Nat) (u : Value), us[q]? = some u → w.cell? ⟨b, off + q, none⟩ = some u) (_hcap : es.length ≤ cap) :
    RepC w W (.slice (if c = l then some ⟨b, off, none⟩ else (some (⟨b, off, none⟩ : Addr)).map (·.add (l * sz))) (h - l) (c - l)) (.sl ((es.take h).drop l)) := by
  have hlen : ((es.take h).drop l).length = h - l := by simp; omega
  by_cases he : c = l
  · have : h - l = 0 := by omega
    rw [if_pos he, this]
    have : (es.take h).drop l = [] := List.eq_nil_of_length_eq_zero (by omega)
    rw [this]; exact .sl0 _ _
  · rw [if_neg he]
    simp only [Option.map_some, Addr.add_lit]
    rw [← hlen]
    refine RepC.mk_sl hb hlt (by omega) ((hf.take h).drop l) fun q u hq => ?_
    rw [List.getElem?_drop, List.getElem?_take] at hq
    split at hq
    · rw [Nat.add_assoc]; exact hc _ _ hq
    · cases hq

theorem y_slc (hs : SatW E s a w W μ) {x : Operand} {lo hi mx : Option Operand} {T : TypeId} {sz : Nat} {ax av : A} {l h m : Option Int} {obl : Prop} (ho : o.op = .slice T x lo hi mx) (hT : slcTy P T sz = true) (hx : Rep w W μ (a.eval x) ax)
    (hstr : (∃ b, ax = .str b) ↔ P.underlying T = some .string)
    (hb : Bds (lo.map a.eval) (hi.map a.eval) (mx.map a.eval) l h m) (he : evSlc s.mem sz ax l h m = some (obl, av)) (hobl : obl) : Yields P o a w W μ s.mem av s.mem := by
  have fin : ∀ v, (Instr.sliceAt T (a.eval x) (lo.map a.eval) (hi.map a.eval) (mx.map a.eval)).run P w = .ok v w → Rep w W μ v av → Yields P o a w W μ s.mem av s.mem := fun v h1 h2 =>
    hs.still (v := v) (by simp only [execOp, ho, Sem.run_bind, h1, Result.andThen_ok, Sem.run_pure]) h2
  generalize lo.map a.eval = lo' at hb fin
  generalize hi.map a.eval = hi' at hb fin
  generalize mx.map a.eval = mx' at hb fin
  obtain ⟨hl, hh, hm⟩ := hb
  -- what a slice of plain data gives
  have plain : ∀ (es : List (List A)) (full : Bool), RepC w W (a.eval x) (.sl es) → (∀ b, ax ≠ .str b) → 0 ≤ l.getD 0 → l.getD 0 ≤ h.getD es.length → h.getD es.length ≤ es.length → AllLen sz es →
      (full = false → m = none) → (full = true → m = some (h.getD es.length) ∧ h ≠ none) → av = (if full then .full ((es.take (h.getD es.length).toNat).drop (l.getD 0).toNat) else .sl ((es.take (h.getD es.length).toNat).drop (l.getD 0).toNat)) → Yields P o a w W μ s.mem av s.mem := by
    intro es full hes hns h1 h2 h3 hall hf0 hf1 hav
    have hsl : ∃ e, P.underlying T = some (.slice e) ∧ szIs P e sz = true := by
      unfold slcTy at hT
      split at hT
      · rename_i e hu; exact ⟨e, hu, hT⟩
      · rename_i hu; obtain ⟨b, hb⟩ := hstr.2 hu; exact absurd hb (hns b)
      · cases hT
    obtain ⟨e, hu, hz⟩ := hsl
    obtain ⟨ad, cap, hv, hcap, hrep⟩ : ∃ ad cap, a.eval x = .slice ad es.length cap ∧ es.length ≤ cap ∧ ∀ l h c : Nat, l ≤ h → h ≤ es.length → h ≤ c → RepC w W (.slice (if c = l then ad else ad.map (·.add (l * sz))) (h - l) (c - l)) (.sl ((es.take h).drop l)) := by
      rcases hes.open_sl with ⟨rfl, ad, cap, hv⟩ | ⟨b, off, cap, sz', us, hv, hb, hlt, hn, hcap, hf, hc⟩
      · refine ⟨ad, cap, hv, Nat.zero_le _, fun l h c h1 h2 h3 => ?_⟩
        have : h = 0 := by simpa using h2
        subst this
        have : l = 0 := by omega
        subst this
        simp only [Nat.sub_self, List.take_nil, List.drop_nil]
        exact .sl0 _ _
      · have hsz : sz' = sz := by
          have h0 : es[0]? = some es[0] := by simp
          rw [← hf.hs _ _ h0]; exact hall _ (List.mem_of_getElem? h0)
        subst hsz
        exact ⟨_, cap, hv, hcap, fun l h c h1 h2 h3 => rep_cut hb hlt h1 h2 h3 hf hc hcap⟩
    have hl' : lo' = none ∧ (l.getD 0).toNat = 0 ∨ ∃ k, lo' = some (.int k ((l.getD 0).toNat : Int)) ∧ (l.getD 0).toNat ≤ (h.getD es.length).toNat := by
      rcases hl with ⟨h4, rfl⟩ | ⟨k, n, h4, rfl⟩
      · exact .inl ⟨h4, rfl⟩
      · refine .inr ⟨k, ?_, by simp at *; omega⟩
        simp at h1
        simp [h4]; omega
    cases full with
    | false =>
      have hm0 := hf0 rfl
      have hmx : mx' = none := by
        rcases hm with ⟨h4, _⟩ | ⟨k, n, _, h5⟩
        · exact h4
        · rw [hm0] at h5; cases h5
      have hh' : hi' = none ∧ (h.getD es.length).toNat = es.length ∨ ∃ k, hi' = some (.int k ((h.getD es.length).toNat : Int)) ∧ (h.getD es.length).toNat ≤ cap := by
        rcases hh with ⟨h4, rfl⟩ | ⟨k, n, h4, rfl⟩
        · exact .inl ⟨h4, by simp⟩
        · refine .inr ⟨k, ?_, by simp at *; omega⟩
          simp at h2 h1
          have : 0 ≤ n := by omega
          simp [h4]; omega
      have hbds := run_sliceBounds (P := P) (w := w) true es.length cap (l.getD 0).toNat (h.getD es.length).toNat cap lo' hi' mx' (.inl ⟨hmx, rfl⟩) hh' hl'
      refine fin _ (by rw [hv]; exact run_sliceAt_slice hu hz ad _ _ _ _ _ _ _ _ hbds) ?_
      rw [hav]
      exact rep_of_C (hrep _ _ _ (by omega) (by omega) (by omega))
    | true =>
      obtain ⟨hm0, hhn⟩ := hf1 rfl
      obtain ⟨kh, nh, hhi, hhe⟩ : ∃ k n, hi' = some (.int k n) ∧ h = some n := by
        rcases hh with ⟨_, h5⟩ | h4
        · exact absurd h5 hhn
        · exact h4
      subst hhe
      simp only [Option.getD_some] at *
      have hn0 : 0 ≤ nh := by omega
      have hmx : ∃ k, mx' = some (.int k (nh.toNat : Int)) := by
        rcases hm with ⟨_, h5⟩ | ⟨k, n, h4, h5⟩
        · rw [hm0] at h5; cases h5
        · rw [hm0] at h5; cases h5; exact ⟨k, by simp [h4]; omega⟩
      obtain ⟨km, hmx⟩ := hmx
      have hbds := run_sliceBounds (P := P) (w := w) true es.length cap (l.getD 0).toNat nh.toNat nh.toNat lo' hi' mx' (.inr ⟨km, hmx, by simp [hhi], by omega⟩) (.inr ⟨kh, by simp [hhi]; omega, Nat.le_refl _⟩) hl'
      refine fin _ (by rw [hv]; exact run_sliceAt_slice hu hz ad _ _ _ _ _ _ _ _ hbds) ?_
      rw [hav]
      exact rep_of_C (.full _ _ _ (hrep _ _ _ (by omega) (by omega) (Nat.le_refl _)))
  unfold evSlc at he
  split at he
  · cases he
    obtain ⟨h1, h2, h3, h4⟩ := hobl
    exact plain _ false hx (by simp) h1 h2 h3 h4 (fun _ => rfl) (by simp) rfl
  · cases he
    obtain ⟨h1, h2, h3, h4⟩ := hobl
    exact plain _ false (RepC.of_full hx).1 (by simp) h1 h2 h3 h4 (fun _ => rfl) (by simp) rfl
  · rename_i y lo0 n
    split at he
    · rename_i r hr
      cases he
      obtain ⟨h1, h2, h3, h4⟩ := hobl
      have hmx : mx' = none := by
        rcases hm with ⟨h5, _⟩ | ⟨k, q, _, h6⟩
        · exact h5
        · cases h6
      obtain ⟨e, hu, hz⟩ : ∃ e, P.underlying T = some (.slice e) ∧ szIs P e sz = true := by
        unfold slcTy at hT
        split at hT
        · rename_i e hu; exact ⟨e, hu, hT⟩
        · rename_i hu; obtain ⟨b, hb⟩ := hstr.2 hu; cases hb
        · cases hT
      have hl' : ∀ hh : Nat, (l.getD 0).toNat ≤ hh → (lo' = none ∧ (l.getD 0).toNat = 0 ∨ ∃ k, lo' = some (.int k ((l.getD 0).toNat : Int)) ∧ (l.getD 0).toNat ≤ hh) := by
        intro hh' hle
        rcases hl with ⟨h4, rfl⟩ | ⟨k, n, h4, rfl⟩
        · exact .inl ⟨h4, rfl⟩
        · refine .inr ⟨k, ?_, hle⟩
          simp at h1
          simp [h4]; omega
      have hh' : ∀ cap, n ≤ cap → (hi' = none ∧ (h.getD n).toNat = n ∨ ∃ k, hi' = some (.int k ((h.getD n).toNat : Int)) ∧ (h.getD n).toNat ≤ cap) := by
        intro cap hcap
        rcases hh with ⟨h4, rfl⟩ | ⟨k, q, h4, rfl⟩
        · exact .inl ⟨h4, by simp⟩
        · refine .inr ⟨k, ?_, by simp at *; omega⟩
          simp at h2 h1
          have : 0 ≤ q := by omega
          simp [h4]; omega
      have hm' := hs.mem y
      rw [hr] at hm'
      rcases hs.own hx hr with ⟨rfl, ad, hv⟩ | ⟨k, cap, h5, h6, h7, h8, h9, hrow⟩
      · have hbds := run_sliceBounds (P := P) (w := w) true 0 0 (l.getD 0).toNat (h.getD (0 : Nat)).toNat 0 lo' hi' mx' (.inl ⟨hmx, rfl⟩) (by simpa using hh' 0 (Nat.le_refl _)) (hl' _ (by simp at *; omega))
        refine fin _ (by rw [hv]; exact run_sliceAt_slice hu hz ad _ _ _ _ _ _ _ _ hbds) ?_
        have e1 : (h.getD (0 : Nat)).toNat - (l.getD 0).toNat = 0 := by simp at *; omega
        have e2 : 0 - (l.getD 0).toNat = 0 := by omega
        rw [e1, e2]
        refine (show RepK w W μ _ (.own y _ 0) from ⟨rfl, ?_⟩)
        rcases hm' with ⟨hmy, _⟩ | ⟨k, hmy, _⟩
        · rw [hmy]; exact ⟨rfl, _, rfl⟩
        · rw [hmy]; exact .inl ⟨rfl, _, rfl⟩
      · have hbds := run_sliceBounds (P := P) (w := w) true n cap (l.getD 0).toNat (h.getD n).toNat cap lo' hi' mx' (.inl ⟨hmx, rfl⟩) (hh' cap h8) (hl' _ (by omega))
        refine fin _ (by rw [h6]; exact run_sliceAt_slice hu hz _ _ _ _ _ _ _ _ _ hbds) ?_
        refine (show RepK w W μ _ (.own y _ _) from ⟨rfl, ?_⟩)
        rw [h5]
        have hksz : k.sz = sz := hrow.2.1.trans h4
        by_cases hcl : cap = (l.getD 0).toNat
        · left
          rw [if_pos hcl]
          have e1 : (h.getD n).toNat - (l.getD 0).toNat = 0 := by omega
          have e2 : cap - (l.getD 0).toNat = 0 := by omega
          rw [e1, e2]
          exact ⟨rfl, _, rfl⟩
        · right
          refine ⟨cap - (l.getD 0).toNat, ?_, ?_, by omega, by omega⟩
          · rw [if_neg hcl]
            simp only [Option.map_some, Addr.add_lit, hksz, Nat.add_mul]
          · rw [h7]; congr 1; omega
    · cases he
  · rename_i b
    cases he
    obtain ⟨h1, h2, h3⟩ := hobl
    have hu : P.underlying T = some .string := hstr.1 ⟨b, rfl⟩
    have hmx : mx' = none := by
      rcases hm with ⟨h5, _⟩ | ⟨k, q, _, h6⟩
      · exact h5
      · cases h6
    have hl' : lo' = none ∧ (l.getD 0).toNat = 0 ∨ ∃ k, lo' = some (.int k ((l.getD 0).toNat : Int)) ∧ (l.getD 0).toNat ≤ (h.getD b.size).toNat := by
      rcases hl with ⟨h4, rfl⟩ | ⟨k, n, h4, rfl⟩
      · exact .inl ⟨h4, rfl⟩
      · refine .inr ⟨k, ?_, by simp at *; omega⟩
        simp at h1
        simp [h4]; omega
    have hh' : hi' = none ∧ (h.getD b.size).toNat = b.size ∨ ∃ k, hi' = some (.int k ((h.getD b.size).toNat : Int)) ∧ (h.getD b.size).toNat ≤ b.size := by
      rcases hh with ⟨h4, rfl⟩ | ⟨k, q, h4, rfl⟩
      · exact .inl ⟨h4, by simp⟩
      · refine .inr ⟨k, ?_, by simp at *; omega⟩
        simp at h2 h1
        have : 0 ≤ q := by omega
        simp [h4]; omega
    have hbds := run_sliceBounds (P := P) (w := w) false b.size b.size (l.getD 0).toNat (h.getD b.size).toNat b.size lo' hi' none (.inl ⟨rfl, rfl⟩) hh' hl'
    rw [hmx] at fin
    rw [hx.str] at fin
    exact fin _ (run_sliceAt_string hu b _ _ _ _ _ hbds) (rep_of_C (.str _))
  · rename_i es mm
    split at he
    · rename_i hq
      cases he
      obtain ⟨h1, h2, h3, h4, h5⟩ := hobl
      exact plain _ true hx (by simp) h1 h2 h3 h5 (by simp) (fun _ => ⟨by rw [← h4]; rfl, by simp⟩) rfl
    · cases he
  · rename_i es mm
    split at he
    · rename_i hq
      cases he
      obtain ⟨h1, h2, h3, h4, h5⟩ := hobl
      exact plain _ true (RepC.of_full hx).1 (by simp) h1 h2 h3 h5 (by simp) (fun _ => ⟨by rw [← h4]; rfl, by simp⟩) rfl
    · cases he
  · cases he
end
end Ab
end Go.Proofs.YtmegjomldcfoaaaDoor
