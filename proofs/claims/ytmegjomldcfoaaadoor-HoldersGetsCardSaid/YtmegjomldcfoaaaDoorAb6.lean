/-
  What each operation of the program yields, by the readings of its operands: indexes, cuts, comparisons, numbers.
-/
import Derived.Test.YtmegjomldcfoaaaDoorAb5
namespace Go.Proofs.YtmegjomldcfoaaaDoor
namespace Ab

section
variable {P : Program} {o : Oper} {a : Act} {E : Env} {s : S} {w : World} {W : Nat → Prop} {μ : Nat → Loc}

def szIs (P : Program) (e : TypeId) (sz : Nat) : Bool := match P.info? e with | some i => i.size == sz | none => false

theorem run_szIs {e : TypeId} {sz : Nat} (h : szIs P e sz = true) (w : World) : (sizeOf e).run P w = .ok sz w := by
  unfold szIs at h
  split at h
  · rename_i i hi; simp at h; subst h; exact run_sizeOf' hi w
  · cases h

def arrOk (P : Program) (T : TypeId) (n sz : Nat) : Bool := match P.underlying T with | some (.array m e) => m == n && szIs P e sz | _ => false
def slcOk (P : Program) (T : TypeId) (sz : Nat) : Bool := match P.underlying T with | some (.slice e) => szIs P e sz | _ => false

theorem arrOk_spec {T : TypeId} {n sz : Nat} (h : arrOk P T n sz = true) : ∃ e, P.underlying T = some (.array n e) ∧ szIs P e sz = true := by
  unfold arrOk at h
  split at h
  · rename_i m e hu; simp at h; obtain ⟨rfl, h⟩ := h; exact ⟨e, hu, h⟩
  · cases h
theorem slcOk_spec {T : TypeId} {sz : Nat} (h : slcOk P T sz = true) : ∃ e, P.underlying T = some (.slice e) ∧ szIs P e sz = true := by
  unfold slcOk at h
  split at h
  · rename_i e hu; exact ⟨e, hu, h⟩
  · cases h

theorem y_iaA {id : Nat} (hs : SatW E s a w W μ) {x i : Operand} {T : TypeId} {n sz : Nat} {ax ai : A} {ef : Ef} (ho : o.op = .indexAddr T x i) (hT : arrOk P T n sz = true) (hx : Rep w W μ (a.eval x) ax) (hi : Rep w W μ (a.eval i) ai)
    (he : ev id s.mem (.iaA n sz) [ax, ai] = some ef) (hobl : ef.obl) : Yields P o a w W μ s.mem ef.v s.mem := by
  obtain ⟨e, hu, hz⟩ := arrOk_spec hT
  cases ai <;> try (simp only [ev] at he; cases he; done)
  rename_i k q
  have fin : ∀ (b p : Nat), a.eval x = .pointer (some ⟨b, p, none⟩) → 0 ≤ q → q < n → Rep w W μ (.pointer (some ⟨b, p + q.toNat * sz, none⟩)) ef.v → Yields P o a w W μ s.mem ef.v s.mem := fun b p h1 h2 h3 h4 =>
    hs.still (v := .pointer (some ⟨b, p + q.toNat * sz, none⟩)) (by simp [execOp, ho, h1, hi.int, Instr.indexAt, asIntOf, run_underlying hu, Instr.sureAddr, h2, h3, run_szIs hz, Addr.add_lit]) h4
  cases ax <;> simp only [ev] at he <;> try (cases he; done)
  · rename_i y i j
    split at he
    · rename_i r hr
      cases he
      have hcl : clampN q.toNat n = q.toNat := by unfold clampN; rw [if_pos (by have := hobl.1; have := hobl.2; omega)]
      simp only [hcl] at fin ⊢
      obtain ⟨k', h3, hk, _⟩ := hs.ptr hx hr
      exact fin _ _ hk hobl.1 hobl.2 (by rw [Nat.add_assoc]; exact rep_ptr h3 i _)
    · cases he
  · rename_i cs p
    cases he
    have hcl : clampN q.toNat n = q.toNat := by unfold clampN; rw [if_pos (by have := hobl.1; have := hobl.2; omega)]
    simp only [hcl] at fin ⊢
    obtain ⟨b, q', hv, hb, hlt, hc⟩ : RepK w W μ (a.eval x) (.rd cs p) := hx
    exact fin _ _ hv hobl.1 hobl.2 (show RepK w W μ _ (.rd cs _) from ⟨b, q', by rw [Nat.add_assoc], hb, hlt, hc⟩)

theorem y_iaS {id : Nat} (hs : SatW E s a w W μ) {x i : Operand} {T : TypeId} {sz : Nat} {z : List A} {ax ai : A} {ef : Ef} (ho : o.op = .indexAddr T x i) (hT : slcOk P T sz = true) (hx : Rep w W μ (a.eval x) ax) (hi : Rep w W μ (a.eval i) ai)
    (he : ev id s.mem (.iaS sz z) [ax, ai] = some ef) (hobl : ef.obl) : Yields P o a w W μ s.mem ef.v s.mem := by
  obtain ⟨e, hu, hz⟩ := slcOk_spec hT
  cases ai <;> try (simp only [ev] at he; cases he; done)
  rename_i k q
  have fin : ∀ (b p n c : Nat), a.eval x = .slice (some ⟨b, p, none⟩) n c → 0 ≤ q → q < n → Rep w W μ (.pointer (some ⟨b, p + q.toNat * sz, none⟩)) ef.v → Yields P o a w W μ s.mem ef.v s.mem := fun b p n c h1 h2 h3 h4 =>
    hs.still (v := .pointer (some ⟨b, p + q.toNat * sz, none⟩)) (by simp [execOp, ho, h1, hi.int, Instr.indexAt, asIntOf, run_underlying hu, h2, h3, run_szIs hz, Addr.add_lit]) h4
  have plain : ∀ es, RepC w W (a.eval x) (.sl es) → (0 ≤ q ∧ q < es.length ∧ (es.getD q.toNat z).length = sz) → ef.v = .rd (es.getD q.toNat z) 0 → Yields P o a w W μ s.mem ef.v s.mem := fun es h1 h2 h3 => by
    obtain ⟨h4, h5, h6⟩ := h2
    rcases h1.open_sl with ⟨rfl, _⟩ | ⟨b, off, cap, sz', us, hv, hb, hlt, hn, hcap, hf, hc⟩
    · simp at h5; omega
    · have hqn : q.toNat < es.length := by omega
      have hce : es[q.toNat]? = some (es.getD q.toNat z) := by simp [hqn]
      have hsz : sz' = sz := by rw [← hf.hs _ _ hce, h6]
      subst hsz
      refine fin b off _ _ hv h4 h5 ?_
      rw [h3]
      refine (show RepK w W μ _ (.rd _ 0) from ⟨b, off + q.toNat * sz', by simp, hb, hlt, fun j c hj => ?_⟩)
      obtain ⟨u, hu', hr⟩ := hf.ha _ _ _ _ hce hj
      exact ⟨u, by rw [Nat.add_assoc]; exact hc _ _ hu', hr⟩
  cases ax <;> simp only [ev] at he <;> try (cases he; done)
  · rename_i es
    cases he
    exact plain es hx hobl rfl
  · rename_i es
    cases he
    exact plain es (RepC.of_full hx).1 hobl rfl
  · rename_i y lo n
    split at he
    · rename_i r hr
      cases he
      obtain ⟨h1, h2, h3⟩ := hobl
      rcases hs.own hx hr with ⟨rfl, _⟩ | ⟨k', cap, h4, h5, h6, h7, h8, hrow⟩
      · simp at h2; omega
      · have hsz : k'.sz = sz := hrow.2.1.trans h3
        refine fin _ _ _ _ h5 h1 h2 ?_
        have := rep_ptr (w := w) (W := W) h4 (lo + q.toNat) 0
        rw [Nat.add_zero, Nat.add_mul, hsz] at this
        rw [hsz]
        exact this
    · cases he

theorem take_one_drop {vs : List Value} {i : Nat} (h : i < vs.length) : (vs.drop i).take 1 = [vs[i]] := by
  rw [List.drop_eq_getElem_cons h, List.take_succ_cons, List.take_zero]

theorem y_idxA {id : Nat} (hs : SatW E s a w W μ) {x i : Operand} {T : TypeId} {n sz : Nat} {ag : Bool} {ax ai : A} {ef : Ef} (ho : o.op = .index T x i) (hT : (match P.underlying T with | some (.array m e) => m == n && tyOk P e ag sz | _ => false) = true) (hx : Rep w W μ (a.eval x) ax) (hi : Rep w W μ (a.eval i) ai)
    (he : ev id s.mem (.idxA n sz ag) [ax, ai] = some ef) (hobl : ef.obl) : Yields P o a w W μ s.mem ef.v s.mem := by
  cases ax <;> cases ai <;> simp only [ev] at he <;> try (cases he; done)
  rename_i cs k q
  cases he
  obtain ⟨h1, h2, h3⟩ := hobl
  have hcl : clampN q.toNat n = q.toNat := by unfold clampN; rw [if_pos (by omega)]
  simp only [hcl]
  clear hcl
  split at hT
  · rename_i m e hu
    simp only [Bool.and_eq_true, beq_iff_eq] at hT
    obtain ⟨rfl, hT⟩ := hT
    obtain ⟨vs, hv, hl, hr⟩ : RepV w W μ (a.eval x) (.agg cs) := hx
    have hq : q.toNat < m := by omega
    have hle : q.toNat * sz + sz ≤ cs.length := by
      have : (q.toNat + 1) * sz ≤ m * sz := Nat.mul_le_mul_right _ hq
      rw [Nat.add_mul] at this; omega
    have hpart : (part e vs.toArray (q.toNat * sz)).run P w = .ok (if ag then .agg ((vs.drop (q.toNat * sz)).take sz).toArray else ((vs.drop (q.toNat * sz)).take sz).headD undef) w := by
      have hT' := hT
      unfold tyOk at hT
      simp only [Bool.and_eq_true] at hT
      obtain ⟨⟨h4, h5⟩, h6⟩ := hT
      cases hu' : P.underlying e with
      | none => simp [hu'] at h4
      | some d =>
        cases hi' : P.info? e with
        | none => simp [hi'] at h5
        | some i' =>
          simp [hu'] at h4
          simp [hi'] at h5
          subst h5
          cases ag with
          | true => simp [part, run_isAgg hu', h4, run_sizeOf' hi']
          | false =>
            simp at h6
            have hlt : q.toNat * i'.size < vs.length := by omega
            simp only [part, Sem.run_bind, run_isAgg hu', h4, Result.andThen_ok, Bool.false_eq_true, if_false]
            rw [h6] at hlt ⊢
            simp only [Nat.mul_one] at hlt ⊢
            have := take_one_drop hlt
            simp [this, hlt]
    refine hs.still (v := if ag then .agg ((vs.drop (q.toNat * sz)).take sz).toArray else ((vs.drop (q.toNat * sz)).take sz).headD undef) ?_
      (rep_ofCells (tyOk_one hT) (by simp; omega) (length_sub hle) fun i u b hi hb => ?_)
    · have hz : (sizeOf e).run P w = .ok sz w := by
        unfold tyOk at hT
        simp only [Bool.and_eq_true] at hT
        cases hi' : P.info? e with
        | none => simp [hi'] at hT
        | some i' => simp [hi'] at hT; rw [← hT.1.2]; exact run_sizeOf' hi' w
      simp [execOp, ho, hv, hi.int, Instr.index, asIntOf, run_underlying hu, h1, h2, hz, hpart]
    · rw [getElem?_sub] at hb
      split at hb
      · rename_i hin
        rw [List.getElem?_take, if_pos hin, List.getElem?_drop] at hi
        exact hr _ u b hi hb
      · cases hb
  · cases hT

theorem y_field {id : Nat} (hs : SatW E s a w W μ) {x : Operand} {T : TypeId} {f off n : Nat} {ag : Bool} {ax : A} {ef : Ef} (ho : o.op = .field T x f)
    (hT : (match P.underlying T with | some (.struct fs) => (match fs[f]? with | some g => g.offset == off && tyOk P g.type ag n | none => false) | _ => false) = true) (hx : Rep w W μ (a.eval x) ax)
    (he : ev id s.mem (.field off n ag) [ax] = some ef) (hobl : ef.obl) : Yields P o a w W μ s.mem ef.v s.mem := by
  cases ax <;> simp only [ev] at he <;> try (cases he; done)
  rename_i cs
  cases he
  have hle : off + n ≤ cs.length := hobl
  split at hT
  · rename_i fs hu
    split at hT
    · rename_i g hg
      simp only [Bool.and_eq_true, beq_iff_eq] at hT
      obtain ⟨rfl, hT⟩ := hT
      obtain ⟨vs, hv, hl, hr⟩ : RepV w W μ (a.eval x) (.agg cs) := hx
      have hpart : (part g.type vs.toArray g.offset).run P w = .ok (if ag then .agg ((vs.drop g.offset).take n).toArray else ((vs.drop g.offset).take n).headD undef) w := by
        have hT' := hT
        unfold tyOk at hT
        simp only [Bool.and_eq_true] at hT
        obtain ⟨⟨h4, h5⟩, h6⟩ := hT
        cases hu' : P.underlying g.type with
        | none => simp [hu'] at h4
        | some d =>
          cases hi' : P.info? g.type with
          | none => simp [hi'] at h5
          | some i' =>
            simp [hu'] at h4
            simp [hi'] at h5
            subst h5
            cases ag with
            | true => simp [part, run_isAgg hu', h4, run_sizeOf' hi']
            | false =>
              simp at h6
              have hlt : g.offset < vs.length := by omega
              simp only [part, Sem.run_bind, run_isAgg hu', h4, Result.andThen_ok, Bool.false_eq_true, if_false]
              rw [h6]
              have := take_one_drop hlt
              simp [this, hlt]
      refine hs.still (v := if ag then .agg ((vs.drop g.offset).take n).toArray else ((vs.drop g.offset).take n).headD undef) ?_
        (rep_ofCells (tyOk_one hT) (by simp; omega) (length_sub hle) fun i u b hi hb => ?_)
      · simp [execOp, ho, hv, Instr.field, run_underlying hu, hg, asAgg, hpart]
      · rw [getElem?_sub] at hb
        split at hb
        · rename_i hin
          rw [List.getElem?_take, if_pos hin, List.getElem?_drop] at hi
          exact hr _ u b hi hb
        · cases hb
    · cases hT
  · cases hT

theorem y_conv (hs : SatW E s a w W μ) {x : Operand} {T T2 : TypeId} {k k2 : IntKind} {n : Int} (ho : o.op = .convert T T2 x) (hT : (∃ d, P.underlying T = some d) ∧ P.underlying T2 = some (.int k)) (hx : Rep w W μ (a.eval x) (.int k2 n)) :
    Yields P o a w W μ s.mem (.int k (k.wrap n)) s.mem := by
  obtain ⟨⟨d, hd⟩, h2⟩ := hT
  refine hs.still (v := .int k (k.wrap n)) ?_ (rep_of_C (.int _ _))
  simp only [execOp, ho, hx.int, convert, Sem.run_bind, run_underlying hd, run_underlying h2, Result.andThen_ok]
  cases d <;> simp [Conv.intToInt]

theorem y_min (hs : SatW E s a w W μ) {x y : Operand} {ats : Array TypeId} {k : IntKind} {p q : Int} (ho : o.op = .call { callee := .builtin .min, args := #[x, y], argTypes := ats }) (hx : Rep w W μ (a.eval x) (.int k p)) (hy : Rep w W μ (a.eval y) (.int k q)) :
    Yields P o a w W μ s.mem (.int k (if q < p then q else p)) s.mem := by
  refine hs.still (v := .int k (if q < p then q else p)) ?_ (rep_of_C (.int _ _))
  simp [execOp, ho, resolve, invoke, builtin, Builtin.min_, hx.int, hy.int, Builtin.min2]

theorem y_max (hs : SatW E s a w W μ) {x y : Operand} {ats : Array TypeId} {k : IntKind} {p q : Int} (ho : o.op = .call { callee := .builtin .max, args := #[x, y], argTypes := ats }) (hx : Rep w W μ (a.eval x) (.int k p)) (hy : Rep w W μ (a.eval y) (.int k q)) :
    Yields P o a w W μ s.mem (.int k (if p < q then q else p)) s.mem := by
  refine hs.still (v := .int k (if p < q then q else p)) ?_ (rep_of_C (.int _ _))
  simp [execOp, ho, resolve, invoke, builtin, Builtin.max_, hx.int, hy.int, Builtin.max2]

theorem y_nilck {id : Nat} (hs : SatW E s a w W μ) {x : Operand} {ax : A} {ef : Ef} (ho : o.op = .nilCheck x) (hx : Rep w W μ (a.eval x) ax) (he : ev id s.mem .nilck [ax] = some ef) : Yields P o a w W μ s.mem ef.v s.mem := by
  cases ax <;> simp only [ev] at he <;> try (cases he; done)
  · rename_i y i j
    split at he
    · rename_i r hr
      cases he
      obtain ⟨k, _, hk, _⟩ := hs.ptr hx hr
      refine hs.still (v := a.eval x) ?_ hx
      simp [execOp, ho, hk]
    · cases he
  · rename_i cs off
    cases he
    have hx' := hx
    obtain ⟨b, q, hv, _⟩ : RepK w W μ (a.eval x) (.rd cs off) := hx'
    refine hs.still (v := a.eval x) ?_ hx
    simp [execOp, ho, hv]
  · rename_i f cs
    cases he
    have hx' := hx
    obtain ⟨vs, hv, _⟩ : RepV w W μ (a.eval x) (.clo f cs) := hx'
    refine hs.still (v := a.eval x) ?_ hx
    simp [execOp, ho, hv]

theorem y_eqb (hs : SatW E s a w W μ) {x y : Operand} {T T2 : TypeId} {neg p q : Bool} (ho : o.op = .binOp (if neg then .neq else .eql) T x y T2) (hT : P.underlying T = some .bool) (hx : Rep w W μ (a.eval x) (.bool p)) (hy : Rep w W μ (a.eval y) (.bool q)) :
    Yields P o a w W μ s.mem (.bool (if neg then !decide (p = q) else decide (p = q))) s.mem := by
  refine hs.still (v := .bool (if neg then !decide (p = q) else decide (p = q))) ?_ (rep_of_C (.bool _))
  have h := run_equalIn_bool' (P := P) w 9999 T p q hT
  cases neg
  · have ho' : o.op = .binOp .eql T x y T2 := ho
    simp [execOp, ho', hx.bool, hy.bool, eqGuard, binOp, Op.equal, Op.maxDepth, h]
    cases p <;> cases q <;> rfl
  · have ho' : o.op = .binOp .neq T x y T2 := ho
    simp [execOp, ho', hx.bool, hy.bool, eqGuard, binOp, Op.equal, Op.maxDepth, h]
    cases p <;> cases q <;> rfl
end
end Ab
end Go.Proofs.YtmegjomldcfoaaaDoor
