/-
  Each operation that is checked yields what the small machine says.
-/
import Derived.Test.YtmegjomldcfoaaaDoorAb12
namespace Go.Proofs.YtmegjomldcfoaaaDoor
namespace Ab

section
variable {P : Program} {o : Oper} {a : Act} {E : Env} {s : S} {w : World} {W : Nat → Prop} {μ : Nat → Loc}

theorem Yields.mw {av : A} {m m' m'' : Nat → MS} (h : Yields P o a w W μ m av m') (e : m' = m'') : Yields P o a w W μ m av m'' := e ▸ h

theorem parts_vals {parts : List (Nat × Operand)} {vs : List A} (h : Vals w W μ a (parts.map (·.2)) vs) :
    parts.length = vs.length ∧ ∀ (i : Nat) (p : Nat × Operand) (x : A), parts[i]? = some p → vs[i]? = some x → Rep w W μ (a.eval p.2) x :=
  ⟨by simpa using h.1, fun i p x h1 h2 => h.2 i p.2 x (by simp [h1]) h2⟩

theorem isNilC_spec {x : Operand} (h : isNilC x = true) : x = .const (.slice none 0 0) := by
  unfold isNilC at h
  split at h
  · rfl
  · cases h

theorem allK_spec : ∀ {xs : List A}, allK xs = true → ∀ x ∈ xs, x.isK = true
  | x :: xs, h, y, hy => by
    simp only [allK, Bool.and_eq_true] at h
    rcases List.mem_cons.1 hy with rfl | hy
    · exact h.1
    · exact allK_spec h.2 y hy

theorem ev_sound (hs : SatW E s a w W μ) {id : Nat} (hid : s.mem id = .fresh) (po : PO) (xs : List PX) (vals : List A) (hV : ∀ ops, chkXs ops xs = true → Vals w W μ a ops vals) (hlen : xs.length = vals.length)
    (hchk : chkOp P o.op po xs = true) {ef : Ef} (he : ev id s.mem po vals = some ef) (hobl : ef.obl) (hnp : po ≠ .pick) : Yields P o a w W μ s.mem ef.v (setM s.mem ef.mw) := by
  cases po <;> simp only [chkOp] at hchk
  case pick => exact absurd rfl hnp
  case mv =>
    split at hchk
    · rename_i x ho
      obtain ⟨v, rfl, hv⟩ := (hV _ hchk).one
      cases he
      exact y_move hs (.inl ho) hv
    · rename_i x ho
      obtain ⟨v, rfl, hv⟩ := (hV _ hchk).one
      cases he
      exact y_move hs (.inr ho) hv
    · cases hchk
  case nilown sz z =>
    have key : ∀ x, (o.op = .move x ∨ o.op = .assign x) → (isNilC x && xs.length == 1) = true → Yields P o a w W μ s.mem ef.v (setM s.mem ef.mw) := fun x ho h => by
      simp only [Bool.and_eq_true, beq_iff_eq] at h
      match vals, (show vals.length = 1 by omega) with
      | [v], _ =>
        cases he
        exact y_nilown hs ho (isNilC_spec h.1) hid hobl
    split at hchk
    · rename_i x ho; exact key x (.inl ho) hchk
    · rename_i x ho; exact key x (.inr ho) hchk
    · cases hchk
  case box n =>
    split at hchk
    · rename_i T x ho
      obtain ⟨v, rfl, hv⟩ := (hV _ hchk).one
      cases he
      exact y_box hs ho hv hid hobl.1 hobl.2.1 hobl.2.2
    · cases hchk
  case alloc n z =>
    split at hchk
    · rename_i T ho
      simp only [Bool.and_eq_true, beq_iff_eq] at hchk
      obtain ⟨⟨h1, h2⟩, h3⟩ := hchk
      have : vals = [] := by
        have : xs = [] := by simpa using h3
        subst this
        exact List.eq_nil_of_length_eq_zero hlen.symm
      subst this
      subst h2
      cases he
      exact y_alloc hs ho h1 hid hobl.1
    · cases hchk
  case build z ps =>
    split at hchk
    · rename_i T parts ho
      simp only [Bool.and_eq_true] at hchk
      obtain ⟨⟨h1, h2⟩, h3⟩ := hchk
      obtain ⟨h4, h5⟩ := parts_vals (hV _ h3)
      cases vals <;> (cases he; exact y_build hs ho h1 h2 h4 h5 hobl)
    · cases hchk
  case bslice sz z =>
    split at hchk
    · rename_i T n parts ho
      simp only [Bool.and_eq_true, beq_iff_eq] at hchk
      obtain ⟨⟨⟨h0, h1⟩, h2⟩, h3⟩ := hchk
      obtain ⟨h4, h5⟩ := parts_vals (hV _ h3)
      cases vals <;> (cases he; exact y_bslice hs ho (by omega) h1 h2 h4 hobl.2.2.2.2 h5 hobl.2.1 hobl.2.2.1 hobl.2.2.2.1)
    · cases hchk
  case bown sz z =>
    split at hchk
    · rename_i T n parts ho
      simp only [Bool.and_eq_true, beq_iff_eq] at hchk
      obtain ⟨⟨⟨h0, h1⟩, h2⟩, h3⟩ := hchk
      obtain ⟨h4, h5⟩ := parts_vals (hV _ h3)
      cases vals <;> (cases he; exact y_bown hs ho (by omega) h1 h2 h4 hobl.2.2.2 h5 hid hobl.1 hobl.2.1 hobl.2.2.1)
    · cases hchk
  case load n ag =>
    split at hchk
    · rename_i T x ho
      simp only [Bool.and_eq_true] at hchk
      obtain ⟨v, rfl, hv⟩ := (hV _ hchk.2).one
      refine (y_load hs ho hchk.1 hv he hobl).mw ?_
      simp only [ev] at he
      split at he
      · split at he <;> first | (cases he; rfl) | cases he
      · cases he; rfl
      · cases he
    · cases hchk
  case store n =>
    split at hchk
    · rename_i T x y ho
      simp only [Bool.and_eq_true] at hchk
      obtain ⟨v, u, rfl, hv, hu⟩ := (hV _ hchk.2).two
      exact y_store hs ho hchk.1 hv hu he hobl
    · cases hchk
  case bin b =>
    split at hchk
    · rename_i b' T x y T2 ho
      simp only [Bool.and_eq_true, beq_iff_eq] at hchk
      obtain ⟨rfl, h2⟩ := hchk
      obtain ⟨v, u, rfl, hv, hu⟩ := (hV _ h2).two
      simp only [ev, Option.map_eq_some_iff] at he
      obtain ⟨q, hq, rfl⟩ := he
      exact y_bin hs ho hv hu hq hobl
    · cases hchk
  case eqb neg =>
    split at hchk
    · rename_i b' T x y T2 ho
      simp only [Bool.and_eq_true, beq_iff_eq] at hchk
      obtain ⟨⟨rfl, h2⟩, h3⟩ := hchk
      obtain ⟨v, u, rfl, hv, hu⟩ := (hV _ h3).two
      obtain ⟨d, hd, hd2⟩ := undIs_spec h2
      have hT : P.underlying T = some .bool := by cases d <;> simp [isBool] at hd2; exact hd
      cases v <;> simp only [ev] at he <;> try (cases he; done)
      cases u <;> simp only [ev] at he <;> try (cases he; done)
      cases he
      exact y_eqb hs ho hT hv hu
    · cases hchk
  case eqa neg ks =>
    split at hchk
    · rename_i b' T x y T2 ho
      simp only [Bool.and_eq_true, beq_iff_eq, Bool.not_eq_true'] at hchk
      obtain ⟨⟨⟨⟨rfl, h2⟩, h3⟩, h4⟩, h5⟩ := hchk
      obtain ⟨v, u, rfl, hv, hu⟩ := (hV _ h5).two
      cases v <;> simp only [ev] at he <;> try (cases he; done)
      cases u <;> simp only [ev] at he <;> try (cases he; done)
      cases he
      exact y_eqa hs ho h2 h3 h4 hv hu hobl.1 hobl.2
    · cases hchk
  case not =>
    split at hchk
    · rename_i T x ho
      obtain ⟨v, rfl, hv⟩ := (hV _ hchk).one
      cases v <;> simp only [ev] at he <;> try (cases he; done)
      cases he
      exact y_not hs ho hv
    · cases hchk
  case neg =>
    split at hchk
    · rename_i T x ho
      obtain ⟨v, rfl, hv⟩ := (hV _ hchk).one
      cases v <;> simp only [ev] at he <;> try (cases he; done)
      cases he
      exact y_neg hs ho hv
    · cases hchk
  case field off n ag =>
    split at hchk
    · rename_i T x f ho
      simp only [Bool.and_eq_true] at hchk
      obtain ⟨v, rfl, hv⟩ := (hV _ hchk.2).one
      refine (y_field hs ho hchk.1 hv he hobl).mw ?_
      cases v <;> simp only [ev] at he <;> first | (cases he; rfl) | cases he
    · cases hchk
  case faddr off =>
    split at hchk
    · rename_i T x f ho
      simp only [Bool.and_eq_true] at hchk
      obtain ⟨v, rfl, hv⟩ := (hV _ hchk.2).one
      refine (y_faddr hs ho hchk.1 hv he).mw ?_
      simp only [ev] at he
      split at he
      · split at he <;> first | (cases he; rfl) | cases he
      · cases he; rfl
      · cases he
    · cases hchk
  case iaA n sz =>
    split at hchk
    · rename_i T x i ho
      simp only [Bool.and_eq_true] at hchk
      obtain ⟨v, u, rfl, hv, hu⟩ := (hV _ hchk.2).two
      refine (y_iaA hs ho hchk.1 hv hu he hobl).mw ?_
      cases u <;> simp only [ev] at he <;> try (cases he; done)
      split at he
      · split at he <;> first | (cases he; rfl) | cases he
      · cases he; rfl
      · cases he
    · cases hchk
  case iaS sz z =>
    split at hchk
    · rename_i T x i ho
      simp only [Bool.and_eq_true] at hchk
      obtain ⟨v, u, rfl, hv, hu⟩ := (hV _ hchk.2).two
      refine (y_iaS hs ho hchk.1 hv hu he hobl).mw ?_
      cases u <;> simp only [ev] at he <;> try (cases he; done)
      split at he
      · cases he; rfl
      · cases he; rfl
      · split at he <;> first | (cases he; rfl) | cases he
      · cases he
    · cases hchk
  case idxA n sz ag =>
    split at hchk
    · rename_i T x i ho
      simp only [Bool.and_eq_true] at hchk
      obtain ⟨v, u, rfl, hv, hu⟩ := (hV _ hchk.2).two
      refine (y_idxA hs ho hchk.1 hv hu he hobl).mw ?_
      cases v <;> simp only [ev] at he <;> try (cases he; done)
      cases u <;> simp only [ev] at he <;> try (cases he; done)
      cases he; rfl
    · cases hchk
  case idxS =>
    split at hchk
    · rename_i T x i ho
      simp only [Bool.and_eq_true] at hchk
      obtain ⟨v, u, rfl, hv, hu⟩ := (hV _ hchk.2).two
      obtain ⟨d, hd, hd2⟩ := undIs_spec hchk.1
      have hT : P.underlying T = some .string := by cases d <;> simp [isString] at hd2; exact hd
      cases v <;> simp only [ev] at he <;> try (cases he; done)
      cases u <;> simp only [ev] at he <;> try (cases he; done)
      cases he
      exact y_idxS hs ho hT hv hu hobl.1 hobl.2
    · cases hchk
  case slc sz l h m =>
    split at hchk
    · rename_i T x lo hi mx ho
      simp only [Bool.and_eq_true, beq_iff_eq] at hchk
      obtain ⟨⟨⟨⟨⟨h1, h2⟩, rfl⟩, rfl⟩, rfl⟩, h6⟩ := hchk
      have V := hV _ h6
      obtain ⟨d, hd, hd2⟩ := undIs_spec h1
      have fin : ∀ v, Rep w W μ (a.eval x) v → ∀ l h m, Bds (lo.map a.eval) (hi.map a.eval) (mx.map a.eval) l h m → (if v.isStr then none else (evSlc s.mem sz v l h m).map fun q => (⟨q.1, q.2, []⟩ : Ef)) = some ef → Yields P o a w W μ s.mem ef.v (setM s.mem ef.mw) := fun v hv l h m hb hq => by
        split at hq
        · cases hq
        · rename_i hns
          simp only [Option.map_eq_some_iff] at hq
          obtain ⟨q, hq, rfl⟩ := hq
          refine y_slc hs ho h2 hv ⟨fun ⟨b, hb⟩ => ?_, fun hu => ?_⟩ hb hq hobl
          · subst hb; exact absurd rfl hns
          · rw [hd] at hu; cases hu; simp [isSlice] at hd2
      cases lo with
      | none =>
        cases hi with
        | none =>
          cases mx with
          | none =>
            obtain ⟨v, rfl, hv⟩ := V.one
            exact fin v hv none none none ⟨.inl ⟨rfl, rfl⟩, .inl ⟨rfl, rfl⟩, .inl ⟨rfl, rfl⟩⟩ he
          | some m0 =>
            obtain ⟨v, u, rfl, hv, hu⟩ := V.two
            exact absurd he (by simp [ev])
        | some h0 =>
          cases mx with
          | none =>
            obtain ⟨v, u, rfl, hv, hu⟩ := V.two
            cases u <;> simp only [ev, Option.isSome] at he <;> try (cases he; done)
            exact fin v hv none (some _) none ⟨.inl ⟨rfl, rfl⟩, .inr ⟨_, _, congrArg some hu.int, rfl⟩, .inl ⟨rfl, rfl⟩⟩ he
          | some m0 =>
            obtain ⟨v, u, t, rfl, hv, hu, ht⟩ := V.three
            cases u <;> simp only [ev, Option.isSome] at he <;> try (cases he; done)
            cases t <;> (try simp only at he) <;> try (cases he; done)
            exact fin v hv none (some _) (some _) ⟨.inl ⟨rfl, rfl⟩, .inr ⟨_, _, congrArg some hu.int, rfl⟩, .inr ⟨_, _, congrArg some ht.int, rfl⟩⟩ he
      | some l0 =>
        cases hi with
        | none =>
          cases mx with
          | none =>
            obtain ⟨v, u, rfl, hv, hu⟩ := V.two
            cases u <;> simp only [ev, Option.isSome] at he <;> try (cases he; done)
            exact fin v hv (some _) none none ⟨.inr ⟨_, _, congrArg some hu.int, rfl⟩, .inl ⟨rfl, rfl⟩, .inl ⟨rfl, rfl⟩⟩ he
          | some m0 =>
            obtain ⟨v, u, t, rfl, hv, hu, ht⟩ := V.three
            exact absurd he (by simp [ev])
        | some h0 =>
          cases mx with
          | none =>
            obtain ⟨v, u, t, rfl, hv, hu, ht⟩ := V.three
            cases u <;> simp only [ev, Option.isSome] at he <;> try (cases he; done)
            cases t <;> (try simp only at he) <;> try (cases he; done)
            exact fin v hv (some _) (some _) none ⟨.inr ⟨_, _, congrArg some hu.int, rfl⟩, .inr ⟨_, _, congrArg some ht.int, rfl⟩, .inl ⟨rfl, rfl⟩⟩ he
          | some m0 =>
            obtain ⟨v, u, t, r, rfl, hv, hu, ht, hr⟩ := V.four
            cases u <;> simp only [ev, Option.isSome] at he <;> try (cases he; done)
            cases t <;> (try simp only at he) <;> try (cases he; done)
            cases r <;> (try simp only at he) <;> try (cases he; done)
            exact fin v hv (some _) (some _) (some _) ⟨.inr ⟨_, _, congrArg some hu.int, rfl⟩, .inr ⟨_, _, congrArg some ht.int, rfl⟩, .inr ⟨_, _, congrArg some hr.int, rfl⟩⟩ he
    · cases hchk
  case slcS l h =>
    split at hchk
    · rename_i T x lo hi mx ho
      simp only [Bool.and_eq_true, beq_iff_eq] at hchk
      obtain ⟨⟨⟨⟨h1, rfl⟩, rfl⟩, h4⟩, h6⟩ := hchk
      have V := hV _ h6
      obtain ⟨d, hd, hd2⟩ := undIs_spec h1
      have hT : P.underlying T = some .string := by cases d <;> simp [isString] at hd2; exact hd
      have h2 : slcTy P T 0 = true := by simp [slcTy, hT]
      have hmx : mx = none := by simpa using h4
      subst hmx
      have fin : ∀ b, Rep w W μ (a.eval x) (.str b) → ∀ l h, Bds (lo.map a.eval) (hi.map a.eval) none l h none → ((evSlc s.mem 0 (.str b) l h none).map fun q => (⟨q.1, q.2, []⟩ : Ef)) = some ef → Yields P o a w W μ s.mem ef.v (setM s.mem ef.mw) := fun b hv l h hb hq => by
        simp only [Option.map_eq_some_iff] at hq
        obtain ⟨q, hq, rfl⟩ := hq
        exact y_slc hs ho h2 hv ⟨fun _ => hT, fun _ => ⟨b, rfl⟩⟩ hb hq hobl
      cases lo with
      | none =>
        cases hi with
        | none =>
          obtain ⟨v, rfl, hv⟩ := V.one
          cases v <;> simp only [ev, Option.isSome] at he <;> try (cases he; done)
          exact fin _ hv none none ⟨.inl ⟨rfl, rfl⟩, .inl ⟨rfl, rfl⟩, .inl ⟨rfl, rfl⟩⟩ he
        | some h0 =>
          obtain ⟨v, u, rfl, hv, hu⟩ := V.two
          cases v <;> simp only [ev, Option.isSome] at he <;> try (cases he; done)
          cases u <;> (try simp only at he) <;> try (cases he; done)
          exact fin _ hv none (some _) ⟨.inl ⟨rfl, rfl⟩, .inr ⟨_, _, congrArg some hu.int, rfl⟩, .inl ⟨rfl, rfl⟩⟩ he
      | some l0 =>
        cases hi with
        | none =>
          obtain ⟨v, u, rfl, hv, hu⟩ := V.two
          cases v <;> simp only [ev, Option.isSome] at he <;> try (cases he; done)
          cases u <;> (try simp only at he) <;> try (cases he; done)
          exact fin _ hv (some _) none ⟨.inr ⟨_, _, congrArg some hu.int, rfl⟩, .inl ⟨rfl, rfl⟩, .inl ⟨rfl, rfl⟩⟩ he
        | some h0 =>
          obtain ⟨v, u, t, rfl, hv, hu, ht⟩ := V.three
          cases v <;> simp only [ev, Option.isSome] at he <;> try (cases he; done)
          cases u <;> (try simp only at he) <;> try (cases he; done)
          cases t <;> (try simp only at he) <;> try (cases he; done)
          exact fin _ hv (some _) (some _) ⟨.inr ⟨_, _, congrArg some hu.int, rfl⟩, .inr ⟨_, _, congrArg some ht.int, rfl⟩, .inl ⟨rfl, rfl⟩⟩ he
    · cases hchk
  case ext i =>
    split at hchk
    · rename_i x i' ho
      simp only [Bool.and_eq_true, beq_iff_eq] at hchk
      obtain ⟨rfl, h2⟩ := hchk
      obtain ⟨v, rfl, hv⟩ := (hV _ h2).one
      cases v <;> simp only [ev] at he <;> try (cases he; done)
      cases he
      exact y_ext hs ho hv hobl
    · cases hchk
  case len =>
    split at hchk
    · rename_i args ats ho
      split at hchk
      · rename_i x t hx ht
        simp only [Bool.and_eq_true] at hchk
        obtain ⟨v, rfl, hv⟩ := (hV _ hchk.2).one
        obtain ⟨d, hd, hd2⟩ := undIs_spec hchk.1
        have hT : ∃ e, P.underlying t = some (.slice e) := by cases d <;> simp [isSlice] at hd2; exact ⟨_, hd⟩
        have ha : args = #[x] := by rw [← hx]
        have hat : ats[0]? = some t := by
          have : ats = #[t] := by rw [← ht]
          rw [this]; rfl
        subst ha
        refine (y_len hs ho hat hT hv he).mw ?_
        simp only [ev] at he
        split at he
        · cases he; rfl
        · cases he; rfl
        · split at he <;> first | (cases he; rfl) | cases he
        · cases he
      · cases hchk
    · cases hchk
  case lenS =>
    split at hchk
    · rename_i args ats ho
      split at hchk
      · rename_i x t hx ht
        simp only [Bool.and_eq_true] at hchk
        obtain ⟨v, rfl, hv⟩ := (hV _ hchk.2).one
        obtain ⟨d, hd, hd2⟩ := undIs_spec hchk.1
        have hT : P.underlying t = some .string := by cases d <;> simp [isString] at hd2; exact hd
        have ha : args = #[x] := by rw [← hx]
        have hat : ats[0]? = some t := by
          have : ats = #[t] := by rw [← ht]
          rw [this]; rfl
        subst ha
        cases v <;> simp only [ev] at he <;> try (cases he; done)
        cases he
        exact y_lenS hs ho hat hT hv
      · cases hchk
    · cases hchk
  case append sz by_ z =>
    split at hchk
    · rename_i args ats ho
      split at hchk
      · rename_i x y T U hx ht
        simp only [Bool.and_eq_true] at hchk
        obtain ⟨v, u, rfl, hv, hu⟩ := (hV _ hchk.2).two
        have ha : args = #[x, y] := by rw [← hx]
        have hat : ats = #[T, U] := by rw [← ht]
        subst ha; subst hat
        exact y_append hs ho hchk.1 hv hu hid he hobl
      · cases hchk
    · cases hchk
  case copy sz =>
    split at hchk
    · rename_i args ats ho
      split at hchk
      · rename_i x y T U hx ht
        simp only [Bool.and_eq_true] at hchk
        obtain ⟨v, u, rfl, hv, hu⟩ := (hV _ hchk.2).two
        have ha : args = #[x, y] := by rw [← hx]
        have hat : ats = #[T, U] := by rw [← ht]
        subst ha; subst hat
        exact y_copy hs ho hchk.1 hv hu he hobl
      · cases hchk
    · cases hchk
  case mk sz by_ z =>
    split at hchk
    · rename_i T x y ho
      simp only [Bool.and_eq_true] at hchk
      obtain ⟨v, u, rfl, hv, hu⟩ := (hV _ hchk.2).two
      cases v <;> simp only [ev] at he <;> try (cases he; done)
      cases u <;> simp only [ev] at he <;> try (cases he; done)
      cases he
      obtain ⟨h1, _, h3, h4, h5, h6⟩ := hobl
      exact y_mk hs ho hchk.1 hv hu hid h1 h3 h4 h5 h6
    · cases hchk
  case conv k =>
    split at hchk
    · rename_i T T2 x ho
      simp only [Bool.and_eq_true] at hchk
      obtain ⟨⟨h1, h2⟩, h3⟩ := hchk
      obtain ⟨v, rfl, hv⟩ := (hV _ h3).one
      obtain ⟨d, hd, _⟩ := undIs_spec h1
      obtain ⟨d2, hd2, hd3⟩ := undIs_spec h2
      have hT : P.underlying T2 = some (.int k) := by cases d2 <;> simp [isIntK] at hd3; subst hd3; exact hd2
      cases v <;> simp only [ev] at he <;> try (cases he; done)
      cases he
      exact y_conv hs ho ⟨⟨d, hd⟩, hT⟩ hv
    · cases hchk
  case min =>
    split at hchk
    · rename_i args ats ho
      split at hchk
      · rename_i x y hx
        obtain ⟨v, u, rfl, hv, hu⟩ := (hV _ hchk).two
        have ha : args = #[x, y] := by rw [← hx]
        subst ha
        cases v <;> simp only [ev] at he <;> try (cases he; done)
        cases u <;> simp only [ev] at he <;> try (cases he; done)
        cases he
        have : _ = _ := hobl
        subst this
        exact y_min hs ho hv hu
      · cases hchk
    · cases hchk
  case max =>
    split at hchk
    · rename_i args ats ho
      split at hchk
      · rename_i x y hx
        obtain ⟨v, u, rfl, hv, hu⟩ := (hV _ hchk).two
        have ha : args = #[x, y] := by rw [← hx]
        subst ha
        cases v <;> simp only [ev] at he <;> try (cases he; done)
        cases u <;> simp only [ev] at he <;> try (cases he; done)
        cases he
        have : _ = _ := hobl
        subst this
        exact y_max hs ho hv hu
      · cases hchk
    · cases hchk
  case nilck =>
    split at hchk
    · rename_i x ho
      obtain ⟨v, rfl, hv⟩ := (hV _ hchk).one
      refine (y_nilck hs ho hv he).mw ?_
      simp only [ev] at he
      split at he
      · split at he <;> first | (cases he; rfl) | cases he
      · cases he; rfl
      · cases he; rfl
      · cases he
    · cases hchk
  case mkf f =>
    split at hchk
    · rename_i f' fst caps ho
      simp only [Bool.and_eq_true, beq_iff_eq] at hchk
      obtain ⟨⟨rfl, h2⟩, h3⟩ := hchk
      have hf : fst = #[] := by simpa using h2
      subst hf
      have hv := hV _ h3
      cases vals <;> (cases he; exact y_mkf hs ho hv.1 hv.2 (allK_spec hobl))
    · cases hchk
  case call f => cases vals <;> (simp [ev] at he)
  case callv => cases vals <;> (simp [ev] at he)
  case callm f => cases vals <;> (simp [ev] at he)
  case callvm => cases vals <;> (simp [ev] at he)
end
end Ab
end Go.Proofs.YtmegjomldcfoaaaDoor
