/-
  What each operation of the program yields, by the readings of its operands: the ones that leave memory alone.
-/
import Derived.Test.YtmegjomldcfoaaaDoorAb3
namespace Go.Proofs.YtmegjomldcfoaaaDoor
namespace Ab

/-- The operation yields a value that reads as 'av', and memory reads as 'm'' behind it. -/
def Yields (P : Program) (o : Oper) (a : Act) (w : World) (W : Nat → Prop) (μ : Nat → Loc) (m : Nat → MS) (av : A) (m' : Nat → MS) : Prop :=
  ∃ r v w' W' μ', (execOp a.eval o).run P w = .ok r w' ∧ (r = .value v ∨ r = .skip ∧ v = undef) ∧ Rep w' W' μ' v av ∧ Step m m' w w' W W' μ μ'

theorem SatW.refl {E : Env} {s : S} {a : Act} {w : World} {W : Nat → Prop} {μ : Nat → Loc} (hs : SatW E s a w W μ) : Step s.mem s.mem w w W W μ μ :=
  Step.quiet (Keeps.refl _ w) hs.mem hs.inj hs.wlt

section
variable {P : Program} {o : Oper} {a : Act} {E : Env} {s : S} {w : World} {W : Nat → Prop} {μ : Nat → Loc}

/-- An operation that yields a value in the world that it got. -/
theorem SatW.still (hs : SatW E s a w W μ) {v : Value} {av : A} (hr : (execOp a.eval o).run P w = .ok (.value v) w) (hv : Rep w W μ v av) : Yields P o a w W μ s.mem av s.mem :=
  ⟨_, v, w, W, μ, hr, .inl rfl, hv, hs.refl⟩

theorem y_move (hs : SatW E s a w W μ) {x : Operand} {av : A} (ho : o.op = .move x ∨ o.op = .assign x) (hx : Rep w W μ (a.eval x) av) : Yields P o a w W μ s.mem av s.mem := by
  refine hs.still (v := a.eval x) ?_ hx
  rcases ho with ho | ho <;> simp [execOp, ho]

theorem y_pick (hs : SatW E s a w W μ) {c x y : Operand} {b p q : Bool} (ho : o.op = .pick c x y) (hc : Rep w W μ (a.eval c) (.bool b)) (hx : b = true → Rep w W μ (a.eval x) (.bool p)) (hy : b = false → Rep w W μ (a.eval y) (.bool q)) :
    Yields P o a w W μ s.mem (.bool (cond b p q)) s.mem := by
  refine hs.still (v := .bool (cond b p q)) ?_ (rep_of_C (.bool _))
  cases b
  · simp [execOp, ho, hc.bool, asBool, (hy rfl).bool]
  · simp [execOp, ho, hc.bool, asBool, (hx rfl).bool]

theorem y_not (hs : SatW E s a w W μ) {t : TypeId} {x : Operand} {b : Bool} (ho : o.op = .unOp .not t x) (hx : Rep w W μ (a.eval x) (.bool b)) : Yields P o a w W μ s.mem (.bool (!b)) s.mem := by
  refine hs.still (v := .bool (!b)) ?_ (rep_of_C (.bool _))
  simp [execOp, ho, hx.bool, Op.unary]

theorem y_neg (hs : SatW E s a w W μ) {t : TypeId} {x : Operand} {k : IntKind} {n : Int} (ho : o.op = .unOp .neg t x) (hx : Rep w W μ (a.eval x) (.int k n)) : Yields P o a w W μ s.mem (.int k (k.wrap (0 - n))) s.mem := by
  refine hs.still (v := .int k (k.wrap (0 - n))) ?_ (rep_of_C (.int _ _))
  simp [execOp, ho, hx.int, Op.unary, Op.intArith]

theorem y_bin (hs : SatW E s a w W μ) {op : BinOp} {t t2 : TypeId} {x y : Operand} {ax ay av : A} {obl : Prop} (ho : o.op = .binOp op t x y t2) (hx : Rep w W μ (a.eval x) ax) (hy : Rep w W μ (a.eval y) ay)
    (he : evBin op ax ay = some (obl, av)) (hobl : obl) : Yields P o a w W μ s.mem av s.mem := by
  have fin : ∀ v, (binOp op t (a.eval x) (a.eval y)).run P w = .ok v w → (∀ i j, eqGuard op t i j (a.eval x) (a.eval y) = pure ()) → RepC w W v av → Yields P o a w W μ s.mem av s.mem := fun v h1 h2 h3 =>
    hs.still (v := v) (by simp [execOp, ho, h2, h1]) (rep_of_C h3)
  cases ax <;> cases ay <;> try (simp [evBin] at he; done)
  · rename_i k n k' n'
    rw [hx.int, hy.int] at fin
    have hg : ∀ i j, eqGuard op t i j (Value.int k n) (Value.int k' n') = pure () := by intro i j; cases op <;> rfl
    cases op <;> simp only [evBin] at he <;>
      first
        | (cases he
           refine fin _ ?_ hg (.int _ _)
           simp [binOp, Op.shift, show ¬ n' < 0 by omega]; done)
        | (split at he
           · rename_i hk
             subst hk
             first
               | (cases he
                  refine fin _ ?_ hg (.int _ _)
                  first
                    | (simp [binOp, Op.intArith]; done)
                    | (simp [binOp, Op.intDiv, hobl]; done)
                    | (simp [binOp, Op.intBits, bitop]; done))
               | (cases he
                  refine fin _ ?_ hg (.bool _)
                  first
                    | (simp only [binOp, Op.intCmp, ne_eq, not_true_eq_false, if_false, Sem.run_pure, gt_iff_lt, ge_iff_le]; done)
                    | (simp only [binOp, Op.intCmp, ne_eq, not_true_eq_false, if_false, Sem.run_pure]; exact congrArg (fun b => Result.ok (Value.bool b) w) (by rw [Bool.eq_iff_iff]; simp)))
               | (simp at he; done)
           · cases he)
  · rename_i sa sb
    rw [hx.str, hy.str] at fin
    have hg : ∀ i j, eqGuard op t i j (Value.string sa) (Value.string sb) = pure () := by intro i j; cases op <;> rfl
    cases op <;> simp only [evBin] at he <;>
      first
        | (cases he; done)
        | (cases he
           refine fin _ ?_ hg (by first | exact .str _ | exact .bool _)
           first
             | (simp [binOp, Op.stringOp]; done)
             | (have : ¬ IntKind.i64.max < ((sa.size + sb.size : Nat) : Int) := by omega
                simp only [binOp, Op.stringOp]
                rw [if_neg (by omega)]; rfl))

theorem y_ext (hs : SatW E s a w W μ) {x : Operand} {i : Nat} {vs : List A} (ho : o.op = .extract x i) (hx : Rep w W μ (a.eval x) (.tup vs)) (hi : i < vs.length) : Yields P o a w W μ s.mem (vs.getD i .any) s.mem := by
  obtain ⟨us, hv, hl, hr⟩ := hx
  have hi' : i < us.length := by omega
  refine hs.still (v := us[i]) ?_ (rep_of_V (hr i _ _ (by simp [hi']) (by simp [hi])))
  simp [execOp, ho, hv, Instr.extract, hi']

theorem y_lenS (hs : SatW E s a w W μ) {x : Operand} {t : TypeId} {ats : Array TypeId} {b : ByteArray} (ho : o.op = .call { callee := .builtin .len, args := #[x], argTypes := ats }) (hat : ats[0]? = some t)
    (ht : P.underlying t = some .string) (hx : Rep w W μ (a.eval x) (.str b)) : Yields P o a w W μ s.mem (.int .i64 b.size) s.mem := by
  refine hs.still (v := goInt b.size) ?_ (rep_of_C (.int _ _))
  have h1 : (Builtin.len_ ats o.type #[a.eval x]).run P w = .ok (goInt b.size) w := by simp [Builtin.len_, hat, hx.str, run_underlying ht]
  simp [execOp, ho, resolve, invoke, builtin, h1]

theorem y_len {id : Nat} (hs : SatW E s a w W μ) {x : Operand} {t : TypeId} {ats : Array TypeId} {av : A} {ef : Ef} (ho : o.op = .call { callee := .builtin .len, args := #[x], argTypes := ats }) (hat : ats[0]? = some t)
    (hsl : ∃ e, P.underlying t = some (.slice e)) (hx : Rep w W μ (a.eval x) av) (he : ev id s.mem .len [av] = some ef) : Yields P o a w W μ s.mem ef.v s.mem := by
  have fin : ∀ n : Nat, (Builtin.len_ ats o.type #[a.eval x]).run P w = .ok (goInt n) w → ef.v = .int .i64 n → Yields P o a w W μ s.mem ef.v s.mem := fun n h1 h2 => by
    rw [h2]
    refine hs.still (v := goInt n) ?_ (rep_of_C (.int _ _))
    simp [execOp, ho, resolve, invoke, builtin, h1]
  have slc : ∀ a' n c, a.eval x = .slice a' n c → (Builtin.len_ ats o.type #[a.eval x]).run P w = .ok (goInt n) w := by
    intro a' n c hv
    obtain ⟨e, he⟩ := hsl
    simp [Builtin.len_, hat, hv, run_underlying he]
  cases av <;> simp only [ev] at he <;> try (cases he; done)
  · rename_i es
    cases he
    have hx' : RepC w W (a.eval x) (.sl es) := hx
    rcases hx'.open_sl with ⟨rfl, a', cap, hv⟩ | ⟨b, off, cap, sz, us, hv, _⟩
    · exact fin 0 (slc _ _ _ hv) rfl
    · exact fin es.length (slc _ _ _ hv) rfl
  · rename_i es
    cases he
    have hx' : RepC w W (a.eval x) (.full es) := hx
    obtain ⟨_, a', hv⟩ := hx'.of_full
    exact fin es.length (slc _ _ _ hv) rfl
  · rename_i y lo n
    split at he
    · rename_i r hr
      cases he
      refine fin n ?_ rfl
      obtain ⟨h1, h2⟩ : RepK w W μ (a.eval x) (.own y lo n) := hx
      have hm := hs.mem y
      rw [hr] at hm
      rcases hm with ⟨h3, _⟩ | ⟨k, h3, _⟩
      · rw [h3] at h2
        obtain ⟨rfl, a', hv⟩ := h2
        exact slc _ _ _ hv
      · rw [h3] at h2
        rcases h2 with ⟨rfl, a', hv⟩ | ⟨cap, hv, _⟩
        · exact slc _ _ _ hv
        · exact slc _ _ _ hv
    · cases he
end
end Ab
end Go.Proofs.YtmegjomldcfoaaaDoor
