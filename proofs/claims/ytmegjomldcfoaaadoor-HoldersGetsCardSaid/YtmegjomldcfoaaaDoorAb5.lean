/-
  What each operation of the program yields, by the readings of its operands: addresses, loads, cuts, parts.
-/
import Derived.Test.YtmegjomldcfoaaaDoorAb4
namespace Go.Proofs.YtmegjomldcfoaaaDoor
namespace Ab

def aggD : TypeDesc → Bool
  | .struct _ | .array _ _ => true
  | _ => false

/-- What is asked of a type: is it a struct or an array; its cells. -/
def tyOk (P : Program) (T : TypeId) (ag : Bool) (n : Nat) : Bool :=
  (match P.underlying T with | some d => aggD d == ag | none => false) && (match P.info? T with | some i => i.size == n | none => false) && (ag || n == 1)

section
variable {P : Program} {o : Oper} {a : Act} {E : Env} {s : S} {w : World} {W : Nat → Prop} {μ : Nat → Loc}

theorem run_isAgg {T : TypeId} {d : TypeDesc} (h : P.underlying T = some d) (w : World) : (isAgg T).run P w = .ok (aggD d) w := by
  unfold isAgg
  simp only [Sem.run_bind, run_underlying h, Result.andThen_ok]
  cases d <;> rfl

theorem run_sizeOf' {T : TypeId} {i : TypeInfo} (h : P.info? T = some i) (w : World) : (sizeOf T).run P w = .ok i.size w := by
  simp [sizeOf, typeInfo, h]

theorem run_loadVar {T : TypeId} {ag : Bool} {n : Nat} (hT : tyOk P T ag n = true) {b q : Nat} {vs : List Value} (hl : vs.length = n) (hc : ∀ (i : Nat) (u : Value), vs[i]? = some u → w.cell? ⟨b, q + i, none⟩ = some u) :
    (Instr.loadAt T (.pointer (some ⟨b, q, none⟩))).run P w = .ok (if ag then .agg vs.toArray else vs.headD undef) w := by
  unfold tyOk at hT
  simp only [Bool.and_eq_true] at hT
  obtain ⟨⟨h1, h2⟩, h3⟩ := hT
  cases hu : P.underlying T with
  | none => simp [hu] at h1
  | some d =>
    cases hi : P.info? T with
    | none => simp [hi] at h2
    | some i =>
      simp [hu] at h1
      simp [hi] at h2
      subst h2
      have hcs : ∀ (j : Nat) (v : Value), vs[j]? = some v → w.cell? ((⟨b, q, none⟩ : Addr).add j) = some v := fun j v hj => by
        rw [Addr.add_lit]; exact hc j v hj
      cases ag with
      | true =>
        have := run_loadCells_list (P := P) w ⟨b, q, none⟩ vs hcs
        rw [hl] at this
        simp [Instr.loadAt, Instr.sureAddr, loadVar, run_isAgg hu, h1, run_sizeOf' hi, this]
      | false =>
        simp at h3
        match vs, hl with
        | [v], _ =>
          have := hc 0 v rfl
          simp [Instr.loadAt, Instr.sureAddr, loadVar, run_isAgg hu, h1]
          rw [Nat.add_zero] at this
          simp [this]
        | [], h => simp [h3] at h
        | _ :: _ :: _, h => simp [h3] at h

theorem rep_ofCells {ag : Bool} {n : Nat} {vs : List Value} {cs : List A} (hn : ag = false → n = 1) (hl : vs.length = n) (hc : cs.length = n) (hr : ∀ (i : Nat) (u : Value) (b : A), vs[i]? = some u → cs[i]? = some b → RepK w W μ u b) :
    Rep w W μ (if ag then .agg vs.toArray else vs.headD undef) (ofCells ag cs) := by
  cases ag with
  | true => exact ⟨vs, rfl, by omega, hr⟩
  | false =>
    have h1 := hn rfl
    subst h1
    match vs, cs, hl, hc with
    | [v], [c], _, _ => exact rep_of_V (repV_of_K (hr 0 v c rfl rfl))

theorem tyOk_one {T : TypeId} {ag : Bool} {n : Nat} (h : tyOk P T ag n = true) : ag = false → n = 1 := by
  intro ha
  unfold tyOk at h
  simp only [Bool.and_eq_true] at h
  simpa [ha] using h.2

theorem length_sub {cs : List A} {off n : Nat} (h : off + n ≤ cs.length) : (sub cs off n).length = n := by
  simp [sub]; omega

theorem getElem?_sub (cs : List A) (off n i : Nat) : (sub cs off n)[i]? = if i < n then cs[off + i]? else none := by
  simp only [sub, List.getElem?_take, List.getElem?_drop]

/-- A pointer into a row that lives. -/
theorem SatW.ptr (hs : SatW E s a w W μ) {v : Value} {y i j : Nat} {r : Row} (hx : Rep w W μ v (.ptr y i j)) (hr : s.mem y = .row r) :
    ∃ k, μ y = .at_ k ∧ v = .pointer (some ⟨k.b, i * k.sz + j, none⟩) ∧ RowOk w W μ r k := by
  obtain ⟨_, hk⟩ : RepK w W μ v (.ptr y i j) := hx
  have hm := hs.mem y
  rw [hr] at hm
  rcases hm with ⟨h3, _⟩ | ⟨k, h3, h4⟩
  · rw [h3] at hk; exact hk.elim
  · rw [h3] at hk; exact ⟨k, h3, hk, h4⟩

theorem rep_ptr {y : Nat} {k : Blk} (h : μ y = .at_ k) (i j : Nat) : Rep w W μ (.pointer (some ⟨k.b, i * k.sz + j, none⟩)) (.ptr y i j) := by
  refine (show RepK w W μ _ (.ptr y i j) from ⟨rfl, ?_⟩)
  rw [h]

/-- A slice over a row that lives. -/
theorem SatW.own (hs : SatW E s a w W μ) {v : Value} {y lo n : Nat} {r : Row} (hx : Rep w W μ v (.own y lo n)) (hr : s.mem y = .row r) :
    (n = 0 ∧ ∃ a, v = .slice a 0 0) ∨ ∃ k cap, μ y = .at_ k ∧ v = .slice (some ⟨k.b, lo * k.sz, none⟩) n cap ∧ k.tot = (lo + cap) * k.sz ∧ n ≤ cap ∧ lo + cap ≤ maxLen ∧ RowOk w W μ r k := by
  obtain ⟨_, hk⟩ : RepK w W μ v (.own y lo n) := hx
  have hm := hs.mem y
  rw [hr] at hm
  rcases hm with ⟨h3, _⟩ | ⟨k, h3, h4⟩
  · rw [h3] at hk; exact .inl hk
  · rw [h3] at hk
    rcases hk with hk | ⟨cap, h5, h6, h7, h8⟩
    · exact .inl hk
    · exact .inr ⟨k, cap, h3, h5, h6, h7, h8, h4⟩

theorem load_run {id : Nat} (hs : SatW E s a w W μ) {vx : Value} {T : TypeId} {ag : Bool} {n : Nat} {av : A} {ef : Ef} (hT : tyOk P T ag n = true) (hx : Rep w W μ vx av)
    (he : ev id s.mem (.load n ag) [av] = some ef) (hobl : ef.obl) : ∃ b q u, vx = .pointer (some ⟨b, q, none⟩) ∧ (loadVar T ⟨b, q, none⟩).run P w = .ok u w ∧ Rep w W μ u ef.v := by
  have fin : ∀ (b q : Nat) (vs : List Value) (cs : List A), vx = .pointer (some ⟨b, q, none⟩) → vs.length = n → cs.length = n → (∀ (i : Nat) (u : Value), vs[i]? = some u → w.cell? ⟨b, q + i, none⟩ = some u) →
      (∀ (i : Nat) (u : Value) (b : A), vs[i]? = some u → cs[i]? = some b → RepK w W μ u b) → ef.v = ofCells ag cs → ∃ b q u, vx = .pointer (some ⟨b, q, none⟩) ∧ (loadVar T ⟨b, q, none⟩).run P w = .ok u w ∧ Rep w W μ u ef.v := fun b q vs cs h1 h2 h3 h4 h5 h6 => by
    rw [h6]
    exact ⟨b, q, if ag then .agg vs.toArray else vs.headD undef, h1, run_loadVar hT h2 h4, rep_ofCells (tyOk_one hT) h2 h3 h5⟩
  cases av <;> simp only [ev] at he <;> try (cases he; done)
  · rename_i y i j
    split at he
    · rename_i r hr
      cases he
      obtain ⟨h1, h2⟩ := hobl
      have hk : RepK w W μ (vx) (.ptr y i j) := hx
      obtain ⟨_, hk⟩ := hk
      have hm := hs.mem y
      rw [hr] at hm
      rcases hm with ⟨h3, h4, _⟩ | ⟨k, h3, _, h5, h6, us, rest, e, h7, h8, hf⟩
      · simp [h4] at h1
      · rw [h3] at hk
        simp only at hk
        have hc : r.es[i]? = some (r.es.getD i r.z) := by simp [h1]
        have hlen := hf.hs i _ hc
        have hsp := hf.split hc
        refine fin k.b (i * k.sz + j) ((((us.drop (i * r.sz)).take r.sz).drop j).take n) _ hk ?_ (length_sub (by omega)) ?_ ?_ rfl
        · have := hsp.hl
          simp only [List.length_take, List.length_drop] at this ⊢
          simp at this; omega
        · intro q u hq
          rw [List.getElem?_take] at hq
          split at hq
          · rename_i hqn
            rw [List.getElem?_drop, List.getElem?_take] at hq
            split at hq
            · rw [List.getElem?_drop] at hq
              simp only [World.cell?, h7, h5]
              have : i * r.sz + j + q = i * r.sz + (j + q) := by omega
              simp only [this, Option.isSome_none, Bool.false_eq_true, if_false, List.getElem?_toArray]
              rw [List.getElem?_append_left (List.getElem?_eq_some_iff.1 hq).1, hq]
            · cases hq
          · cases hq
        · intro q u b hq hb
          rw [getElem?_sub] at hb
          split at hb
          · rename_i hqn
            rw [List.getElem?_take, if_pos hqn, List.getElem?_drop] at hq
            obtain ⟨u', hu', hr'⟩ := hsp.ha 0 _ (j + q) b rfl hb
            simp only [Nat.zero_mul, Nat.zero_add] at hu'
            rw [hq] at hu'
            cases hu'
            exact hr'
          · cases hb
    · cases he
  · rename_i cs off
    cases he
    obtain ⟨b, q, hv, hb, hlt, hc⟩ : RepK w W μ (vx) (.rd cs off) := hx
    have hlen : off + n ≤ cs.length := hobl
    have : ∃ vs : List Value, vs.length = n ∧ ∀ i, i < n → ∃ c, cs[off + i]? = some c ∧ w.cell? ⟨b, q + (off + i), none⟩ = some (vs.getD i undef) ∧ RepC w W (vs.getD i undef) c := by
      refine ⟨(List.range n).map fun i => (w.cell? ⟨b, q + (off + i), none⟩).getD undef, by simp, fun i hi => ?_⟩
      have hlt : off + i < cs.length := by omega
      obtain ⟨u, hu, hr⟩ := hc (off + i) cs[off + i] (by simp [hlt])
      refine ⟨cs[off + i], by simp [hlt], ?_, ?_⟩
      · simp [hi, hu]
      · simpa [hi, hu] using hr
    obtain ⟨vs, hl, hvs⟩ := this
    refine fin b (q + off) vs _ hv hl (length_sub hlen) ?_ ?_ rfl
    · intro i u hi
      obtain ⟨c, _, h2, _⟩ := hvs i (by have := (List.getElem?_eq_some_iff.1 hi).1; omega)
      rw [Nat.add_assoc, h2]
      simp [hi]
    · intro i u c hi hc
      obtain ⟨c', h1, _, h3⟩ := hvs i (by have := (List.getElem?_eq_some_iff.1 hi).1; omega)
      rw [getElem?_sub] at hc
      split at hc
      · rw [h1] at hc; cases hc
        simp [hi] at h3
        exact repK_of_C h3
      · cases hc

theorem y_load {id : Nat} (hs : SatW E s a w W μ) {x : Operand} {T : TypeId} {ag : Bool} {n : Nat} {av : A} {ef : Ef} (ho : o.op = .load T x) (hT : tyOk P T ag n = true) (hx : Rep w W μ (a.eval x) av)
    (he : ev id s.mem (.load n ag) [av] = some ef) (hobl : ef.obl) : Yields P o a w W μ s.mem ef.v s.mem := by
  obtain ⟨b, q, u, h1, h2, h3⟩ := load_run hs hT hx he hobl
  refine hs.still (v := u) ?_ h3
  simp only [execOp, ho, h1, Sem.run_bind]
  show (((loadVar T ⟨b, q, none⟩).run P w).andThen _) = _
  rw [h2]
  rfl


/-- What is asked of a struct's field. -/
def fieldOk (P : Program) (T : TypeId) (f off : Nat) : Bool :=
  match P.underlying T with
  | some (.struct fs) => match fs[f]? with
    | some g => g.offset == off && (match P.info? g.type with | some i => i.size != 0 | none => false)
    | none => false
  | _ => false

theorem run_fieldAt {T : TypeId} {f off b q : Nat} (h : fieldOk P T f off = true) : (Instr.fieldAt T (.pointer (some ⟨b, q, none⟩)) f).run P w = .ok (.pointer (some ⟨b, q + off, none⟩)) w := by
  unfold fieldOk at h
  split at h
  · rename_i fs hu
    split at h
    · rename_i g hg
      simp only [Bool.and_eq_true] at h
      obtain ⟨h1, h2⟩ := h
      split at h2
      · rename_i i hi
        simp at h1 h2
        subst h1
        simp [Instr.fieldAt, run_underlying hu, hg, Instr.sureAddr, fieldPlace, run_sizeOf' hi, h2, Addr.add_lit]
      · cases h2
    · cases h
  · cases h

theorem y_faddr {id : Nat} (hs : SatW E s a w W μ) {x : Operand} {T : TypeId} {f off : Nat} {av : A} {ef : Ef} (ho : o.op = .fieldAddr T x f) (hT : fieldOk P T f off = true) (hx : Rep w W μ (a.eval x) av)
    (he : ev id s.mem (.faddr off) [av] = some ef) : Yields P o a w W μ s.mem ef.v s.mem := by
  have fin : ∀ b q, a.eval x = .pointer (some ⟨b, q, none⟩) → Rep w W μ (.pointer (some ⟨b, q + off, none⟩)) ef.v → Yields P o a w W μ s.mem ef.v s.mem := fun b q h1 h2 =>
    hs.still (by simp only [execOp, ho, h1, Sem.run_bind, run_fieldAt hT, Result.andThen_ok, Sem.run_pure]) h2
  cases av <;> simp only [ev] at he <;> try (cases he; done)
  · rename_i y i j
    split at he
    · rename_i r hr
      cases he
      obtain ⟨k, h3, hk, _⟩ := hs.ptr hx hr
      exact fin _ _ hk (by rw [Nat.add_assoc]; exact rep_ptr h3 i (j + off))
    · cases he
  · rename_i cs q
    cases he
    obtain ⟨b, q', hv, hb, hlt, hc⟩ : RepK w W μ (a.eval x) (.rd cs q) := hx
    exact fin _ _ hv (show RepK w W μ _ (.rd cs (q + off)) from ⟨b, q', by rw [Nat.add_assoc], hb, hlt, hc⟩)
end
end Ab
end Go.Proofs.YtmegjomldcfoaaaDoor
