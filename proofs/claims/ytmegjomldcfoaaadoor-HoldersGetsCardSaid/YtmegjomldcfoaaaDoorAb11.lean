/-
  What each operation of the program yields, by the readings of its operands: structs compared, closures, bytes of a string.
-/
import Derived.Test.YtmegjomldcfoaaaDoorAb10
namespace Go.Proofs.YtmegjomldcfoaaaDoor
namespace Ab

def leafsL (f : TypeId → Option (List LK)) (P : Program) : Nat → List Field → Option (List LK)
  | _, [] => some []
  | off, g :: gs => if g.offset == off && g.name != "_" then
      match f g.type with
      | some ks => if szIs P g.type ks.length && !ks.isEmpty then (match leafsL f P (off + ks.length) gs with | some r => some (ks ++ r) | none => none) else none
      | none => none
    else none

/-- The kinds of a comparable type's cells. -/
def leafs (P : Program) : Nat → TypeId → Option (List LK)
  | 0, _ => none
  | d + 1, T => match P.underlying T with
    | some .bool => some [.b]
    | some (.int k) => some [.i k]
    | some .string => some [.s]
    | some (.struct fs) => if P.stoodInHeld T then none else leafsL (leafs P d) P 0 fs.toList
    | _ => none

section
variable {P : Program} {o : Oper} {a : Act} {E : Env} {s : S} {w : World} {W : Nat → Prop} {μ : Nat → Loc}

/-- The value of a type with these cells. -/
def valOf (P : Program) (T : TypeId) (us : List Value) : Value := match P.underlying T with
  | some d => if aggD d then .agg us.toArray else us.headD undef
  | none => undef

theorem kindsOk_length : ∀ {ks : List LK} {cs : List A}, kindsOk ks cs = true → cs.length = ks.length
  | [], [], _ => rfl
  | k :: ks, c :: cs, h => by
    simp only [kindsOk, Bool.and_eq_true] at h
    simp [kindsOk_length h.2]
  | [], _ :: _, h => by simp [kindsOk] at h
  | _ :: _, [], h => by simp [kindsOk] at h

theorem eqA_append : ∀ {as bs cs ds : List A}, as.length = bs.length → eqA (as ++ cs) (bs ++ ds) = (eqA as bs && eqA cs ds)
  | [], [], cs, ds, _ => by simp [eqA]
  | a :: as, b :: bs, cs, ds, h => by
    simp only [List.cons_append, eqA]
    rw [eqA_append (by simpa using h), Bool.and_assoc]
  | [], _ :: _, _, _, h => by simp at h
  | _ :: _, [], _, _, h => by simp at h

theorem kindsOk_append : ∀ {k1 k2 : List LK} {cs : List A}, kindsOk (k1 ++ k2) cs = true → kindsOk k1 (cs.take k1.length) = true ∧ kindsOk k2 (cs.drop k1.length) = true
  | [], k2, cs, h => by simpa [kindsOk] using h
  | k :: k1, k2, c :: cs, h => by
    simp only [List.cons_append, kindsOk, Bool.and_eq_true] at h
    have := kindsOk_append h.2
    simp [kindsOk, h.1, this.1, this.2]
  | k :: k1, k2, [], h => by simp [kindsOk] at h

theorem Cs.take {R : Value → A → Prop} {us : List Value} {cs : List A} (h : Cs R us cs) (n : Nat) : Cs R (us.take n) (cs.take n) :=
  ⟨by simp [h.1], fun i u b hu hb => by
    rw [List.getElem?_take] at hu hb
    split at hu
    · rename_i hi; rw [if_pos hi] at hb; exact h.2 i u b hu hb
    · cases hu⟩
theorem Cs.drop {R : Value → A → Prop} {us : List Value} {cs : List A} (h : Cs R us cs) (n : Nat) : Cs R (us.drop n) (cs.drop n) :=
  ⟨by simp [h.1], fun i u b hu hb => by
    rw [List.getElem?_drop] at hu hb
    exact h.2 _ u b hu hb⟩

theorem leafs_agg {d : Nat} {T : TypeId} {ks : List LK} (h : leafs P d T = some ks) : ∃ t, P.underlying T = some t ∧ (aggD t = false → ks.length = 1) := by
  cases d with
  | zero => simp [leafs] at h
  | succ d =>
    unfold leafs at h
    split at h
    · rename_i hu; cases h; exact ⟨_, hu, fun _ => rfl⟩
    · rename_i k hu; cases h; exact ⟨_, hu, fun _ => rfl⟩
    · rename_i hu; cases h; exact ⟨_, hu, fun _ => rfl⟩
    · rename_i fs hu; exact ⟨_, hu, fun h => by simp [aggD] at h⟩
    · cases h

theorem run_part {T : TypeId} {t : TypeDesc} {n off : Nat} (hu : P.underlying T = some t) (hz : szIs P T n = true) (hn : aggD t = false → n = 1) (us : List Value) (hfit : off + n ≤ us.length) :
    (part T us.toArray off).run P w = .ok (valOf P T ((us.drop off).take n)) w := by
  unfold valOf
  simp only [hu]
  cases ha : aggD t with
  | true => simp [part, run_isAgg hu, ha, run_szIs hz]
  | false =>
    have := hn ha
    subst this
    have hlt : off < us.length := by omega
    simp [part, run_isAgg hu, ha, take_one_drop hlt, hlt]

theorem run_equal_leafs (d : Nat) : ∀ (T : TypeId) (ks : List LK), leafs P d T = some ks → ∀ (D : Nat), d ≤ D → ∀ (us vs : List Value) (cs ds : List A), kindsOk ks cs = true → kindsOk ks ds = true → Cs (RepK w W μ) us cs → Cs (RepK w W μ) vs ds →
    (Op.equalIn D T (valOf P T us) (valOf P T vs)).run P w = .ok (eqA cs ds) w := by
  induction d with
  | zero => intro T ks h; simp [leafs] at h
  | succ d ih =>
    intro T ks h D hD us vs cs ds hc hd hu hv
    obtain ⟨D', rfl⟩ : ∃ D', D = D' + 1 := ⟨D - 1, by omega⟩
    have one : ∀ (k : LK), ks = [k] → ∃ c e u v, cs = [c] ∧ ds = [e] ∧ us = [u] ∧ vs = [v] ∧ k.fits c = true ∧ k.fits e = true ∧ RepK w W μ u c ∧ RepK w W μ v e := fun k hk => by
      subst hk
      have l1 := kindsOk_length hc
      have l2 := kindsOk_length hd
      have l3 := hu.1
      have l4 := hv.1
      match cs, ds, us, vs, l1, l2, l3, l4 with
      | [c], [e], [u], [v], _, _, _, _ =>
        simp only [kindsOk, Bool.and_true] at hc hd
        exact ⟨c, e, u, v, rfl, rfl, rfl, rfl, hc, hd, hu.2 0 u c rfl rfl, hv.2 0 v e rfl rfl⟩
    unfold leafs at h
    split at h
    · rename_i hT
      cases h
      obtain ⟨c, e, u, v, rfl, rfl, rfl, rfl, h1, h2, h3, h4⟩ := one _ rfl
      cases c <;> simp [LK.fits] at h1
      cases e <;> simp [LK.fits] at h2
      have e1 := Rep.bool (rep_of_V (repV_of_K h3))
      have e2 := Rep.bool (rep_of_V (repV_of_K h4))
      subst e1; subst e2
      simp only [valOf, hT, aggD, Bool.false_eq_true, if_false, List.headD_cons, run_equalIn_bool' w D' T _ _ hT, eqA, eq1, Bool.and_true]
    · rename_i k hT
      cases h
      obtain ⟨c, e, u, v, rfl, rfl, rfl, rfl, h1, h2, h3, h4⟩ := one _ rfl
      cases c <;> simp [LK.fits] at h1
      cases e <;> simp [LK.fits] at h2
      have e1 := Rep.int (rep_of_V (repV_of_K h3))
      have e2 := Rep.int (rep_of_V (repV_of_K h4))
      subst e1; subst e2; subst h1; subst h2
      simp only [valOf, hT, aggD, Bool.false_eq_true, if_false, List.headD_cons, run_equalIn_int w D' T _ _ _ _ hT, eqA, eq1, Bool.and_true]
    · rename_i hT
      cases h
      obtain ⟨c, e, u, v, rfl, rfl, rfl, rfl, h1, h2, h3, h4⟩ := one _ rfl
      cases c <;> simp [LK.fits] at h1
      cases e <;> simp [LK.fits] at h2
      have e1 := Rep.str (rep_of_V (repV_of_K h3))
      have e2 := Rep.str (rep_of_V (repV_of_K h4))
      subst e1; subst e2
      simp only [valOf, hT, aggD, Bool.false_eq_true, if_false, List.headD_cons, run_equalIn_string w D' T _ _ hT, eqA, eq1, Bool.and_true]
    · rename_i fs hT
      split at h
      · cases h
      · rename_i hst
        have hfo : P.fieldsOf T = fs := by simp [Program.fieldsOf, hT]
        simp only [valOf, hT, aggD, if_true]
        rw [run_equalIn_agg w D' T us.toArray vs.toArray (by rw [hfo]; exact hT) (by simpa using hst), hfo]
        have key : ∀ (gs : List Field) (off : Nat) (kk : List LK), leafsL (leafs P d) P off gs = some kk → kindsOk kk (cs.drop off) = true → kindsOk kk (ds.drop off) = true →
            (Op.eqFields D' us.toArray vs.toArray gs).run P w = .ok (eqA (cs.drop off) (ds.drop off)) w := by
          intro gs
          induction gs with
          | nil =>
            intro off kk h1 h2 h3
            simp only [leafsL, Option.some.injEq] at h1
            subst h1
            have l1 := kindsOk_length h2
            have l2 := kindsOk_length h3
            rw [List.eq_nil_of_length_eq_zero l1, List.eq_nil_of_length_eq_zero l2]
            rfl
          | cons g gs ihg =>
            intro off kk h1 h2 h3
            unfold leafsL at h1
            split at h1
            · rename_i hg
              simp only [Bool.and_eq_true, beq_iff_eq, bne_iff_ne] at hg
              obtain ⟨hgo, hgn⟩ := hg
              split at h1
              · rename_i ks1 hk1
                split at h1
                · rename_i hsz
                  split at h1
                  · rename_i r hr
                    cases h1
                    obtain ⟨a1, a2⟩ := kindsOk_append h2
                    obtain ⟨b1, b2⟩ := kindsOk_append h3
                    obtain ⟨t, ht, htn⟩ := leafs_agg hk1
                    have l1 := kindsOk_length h2
                    have l2 := kindsOk_length h3
                    simp only [List.length_drop, List.length_append] at l1 l2
                    simp only [Bool.and_eq_true, Bool.not_eq_true', List.isEmpty_eq_false_iff] at hsz
                    obtain ⟨hsz, hne⟩ := hsz
                    have hpos : 0 < ks1.length := List.length_pos_iff.2 hne
                    have l3 := hu.1
                    have l4 := hv.1
                    have p1 := run_part (w := w) ht hsz htn us (off := off) (by omega)
                    have p2 := run_part (w := w) ht hsz htn vs (off := off) (by omega)
                    have q := ih g.type ks1 hk1 D' (by omega) _ _ _ _ a1 b1 ((hu.drop off).take _) ((hv.drop off).take _)
                    rw [List.drop_drop] at a2 b2
                    have r2 := ihg (off + ks1.length) r hr a2 b2
                    have hsplit : eqA (cs.drop off) (ds.drop off) = (eqA ((cs.drop off).take ks1.length) ((ds.drop off).take ks1.length) && eqA (cs.drop (off + ks1.length)) (ds.drop (off + ks1.length))) := by
                      rw [← List.drop_drop, ← List.drop_drop, ← eqA_append (by simp; omega), List.take_append_drop, List.take_append_drop]
                    rw [hsplit]
                    simp only [Op.eqFields, ne_eq, hgn, not_false_eq_true, if_true, hgo, Sem.run_bind, p1, p2, Result.andThen_ok, q]
                    cases eqA ((cs.drop off).take ks1.length) ((ds.drop off).take ks1.length) with
                    | true => simpa using r2
                    | false => simp
                  · cases h1
                · cases h1
              · cases h1
            · cases h1
        exact key fs.toList 0 ks h (by simpa using hc) (by simpa using hd)
    · cases h

theorem y_eqa (hs : SatW E s a w W μ) {x y : Operand} {T T2 : TypeId} {neg : Bool} {ks : List LK} {cs ds : List A} (ho : o.op = .binOp (if neg then .neq else .eql) T x y T2) (hT : leafs P 20 T = some ks) (hag : (match P.underlying T with | some d => aggD d | none => false) = true)
    (hg : P.eqGuardType P.depth T = false) (hx : Rep w W μ (a.eval x) (.agg cs)) (hy : Rep w W μ (a.eval y) (.agg ds)) (hc : kindsOk ks cs = true) (hd : kindsOk ks ds = true) :
    Yields P o a w W μ s.mem (.bool (if neg then !eqA cs ds else eqA cs ds)) s.mem := by
  obtain ⟨us, hxv, hu1, hu2⟩ : RepV w W μ (a.eval x) (.agg cs) := hx
  obtain ⟨vs, hyv, hv1, hv2⟩ : RepV w W μ (a.eval y) (.agg ds) := hy
  have h := run_equal_leafs (P := P) (w := w) (W := W) (μ := μ) 20 T ks hT 10000 (by omega) us vs cs ds hc hd ⟨hu1, hu2⟩ ⟨hv1, hv2⟩
  obtain ⟨d, hd', _⟩ := leafs_agg hT
  rw [hd'] at hag
  simp only [valOf, hd', show aggD d = true from hag, if_true] at h
  refine hs.still (v := .bool (if neg then !eqA cs ds else eqA cs ds)) ?_ (rep_of_C (.bool _))
  cases neg
  · have ho' : o.op = .binOp .eql T x y T2 := ho
    simp only [execOp, ho', hxv, hyv, Sem.run_bind, run_eqGuard_agg w .eql T x y us.toArray vs.toArray hg, Result.andThen_ok, run_eql_struct, h, Bool.false_eq_true, if_false, Sem.run_pure]
  · have ho' : o.op = .binOp .neq T x y T2 := ho
    simp only [execOp, ho', hxv, hyv, Sem.run_bind, run_eqGuard_agg w .neq T x y us.toArray vs.toArray hg, Result.andThen_ok, run_neq_struct, h, if_true, Sem.run_pure]

theorem y_mkf (hs : SatW E s a w W μ) {f : FuncId} {caps : Array Operand} {xs : List A} (ho : o.op = .makeFunc (.func f) #[] caps) (hl : caps.toList.length = xs.length) (hx : ∀ (i : Nat) (p : Operand) (x : A), caps.toList[i]? = some p → xs[i]? = some x → Rep w W μ (a.eval p) x)
    (hv : ∀ x ∈ xs, x.isK = true) : Yields P o a w W μ s.mem (.clo f xs) s.mem := by
  refine hs.still (v := .func (.func f) #[] (caps.map a.eval)) (by simp [execOp, ho, Instr.makeFunc]) (rep_of_V ?_)
  refine ⟨(caps.map a.eval).toList, by rw [Array.toArray_toList], by simpa using hl, fun i u b hu hb => ?_⟩
  simp only [Array.toList_map, List.getElem?_map, Option.map_eq_some_iff] at hu
  obtain ⟨p, hp, rfl⟩ := hu
  have h1 := hx i p b hp hb
  have h2 := hv b (List.mem_of_getElem? hb)
  cases b <;> first | exact h1 | (simp [A.isK] at h2; done) | skip
  rename_i f' cs
  cases cs with
  | nil =>
    obtain ⟨vs, hv', hl', _⟩ : RepK w W μ _ (.clo f' []) := h1
    have : vs = [] := List.eq_nil_of_length_eq_zero hl'
    subst this
    rw [hv']
    exact show RepC w W _ _ from .fn f'
  | cons => simp [A.isK] at h2

theorem y_idxS (hs : SatW E s a w W μ) {x i : Operand} {T : TypeId} {b : ByteArray} {k : IntKind} {q : Int} (ho : o.op = .index T x i) (hT : P.underlying T = some .string) (hx : Rep w W μ (a.eval x) (.str b)) (hi : Rep w W μ (a.eval i) (.int k q)) (h0 : 0 ≤ q) (h1 : q < b.size) :
    Yields P o a w W μ s.mem (.int .u8 (b.toList.getD q.toNat 0).toNat) s.mem := by
  refine hs.still (v := .int .u8 (b.toList.getD q.toNat 0).toNat) ?_ (rep_of_C (.int _ _))
  have hlt : q.toNat < b.size := by omega
  have hbl : b.toList = b.data.toList := ByteArray.toList_eq b
  have hb : b[q.toNat]? = some (b.toList.getD q.toNat 0) := by
    rw [hbl]
    simp [getElem?_def, hlt]
    rfl
  simp [execOp, ho, hx.str, hi.int, Instr.index, asIntOf, run_underlying hT, h0, hb]
end
end Ab
end Go.Proofs.YtmegjomldcfoaaaDoor
