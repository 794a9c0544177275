/-
  A function that only computes, out of its code.
-/
import Derived.Test.YtmegjomldcfoaaaDoorAb16
namespace Go.Proofs.YtmegjomldcfoaaaDoor
namespace Ab

def initFr : Nat → List A → List (Nat × A)
  | _, [] => []
  | n, a :: as => (n, a) :: initFr (n + 1) as

/-- Where a result lies: in a slot, or in the cells that a slot points at. -/
inductive RX where
  | t (n : Nat)
  | c (n sz : Nat) (ag : Bool)

def chkRes (P : Program) : List ResultVar → List RX → Bool
  | [], [] => true
  | .tmp t :: rs, .t n :: ns => t == n && chkRes P rs ns
  | .cell t T :: rs, .c n sz ag :: ns => t == n && tyOk P T ag sz && chkRes P rs ns
  | _, _ => false

/-- A function's row: its code, its number of slots, where its results lie. -/
def chkF (P : Program) (f : FuncId) (pc : PC) (N : Nat) (rs : List RX) (np : Nat) : Bool :=
  match P.funcs[f]? with
  | some fn => (match fn.body with
    | some c => chkC P N c pc
    | none => false) && fn.ntmps == N && chkRes P fn.results.toList rs && Nat.ble np N
  | none => false

/-- A result, and what it takes to read it. -/
def resA (st : St) : RX → A
  | .t n => st.slot n
  | .c n sz ag => match ev st.nx st.m (.load sz ag) [st.slot n] with
    | some ef => ef.v
    | none => .any
def resG (st : St) : RX → Prop
  | .t _ => True
  | .c n sz ag => match ev st.nx st.m (.load sz ag) [st.slot n] with
    | some ef => ef.obl
    | none => False
def allG (st : St) : List RX → Prop
  | [] => True
  | x :: xs => (resG st x ∧ frzOk st.m (resA st x)) ∧ allG st xs
def resAs (st : St) : List RX → List A
  | [] => []
  | x :: xs => frz st.m (resA st x) :: resAs st xs
def tupOf : List A → A
  | [x] => x
  | xs => .tup xs

/-- What the results hold, as plain data. -/
def resOk (st : St) (rs : List RX) (r : A) : Prop := allG st rs ∧ tupOf (resAs st rs) = r

/-- What the results hold, memory being handed back. -/
def resL (st : St) : List RX → List A
  | [] => []
  | x :: xs => resA st x :: resL st xs
def resGs (st : St) : List RX → Prop
  | [] => True
  | x :: xs => resG st x ∧ resGs st xs
def allVV : List A → Bool
  | [] => true
  | x :: xs => x.isVV && allVV xs
def resOkM (k : Nat) (st : St) (rs : List RX) (rl : List A) (ms' : List (Nat × Row)) (k' : Nat) : Prop :=
  resGs st rs ∧ allVV rl = true ∧ ∃ l, Le l ⟨initFr 0 (resL st rs), st.mem, st.nx⟩ ⟨initFr 0 rl, ms', k'⟩ ∧ fixOk k l k' = true
/-- The end of a function that hands memory back. -/
def PostM (k : Nat) (rs : List RX) (rl : List A) (ms' : List (Nat × Row)) (k' : Nat) : Exit → St → Prop
  | .ret, st => resOkM k st rs rl ms' k'
  | .normal, st => resOkM k st rs rl ms' k'
  | _, _ => False
def rwAll : List (Nat × Row) → Bool
  | [] => true
  | q :: r => !q.2.ro && rwAll r

/-- The end of a function that only computes. -/
def Post (rs : List RX) (r : A) : Exit → St → Prop
  | .ret, st => resOk st rs r
  | .normal, st => resOk st rs r
  | _, _ => False

section
variable {C : Cx}

theorem look_initFr : ∀ (as : List A) (n t : Nat), look (initFr n as) t = if n ≤ t then as[t - n]? else none
  | [], n, t => by simp [initFr, look]
  | a :: as, n, t => by
    simp only [initFr, look]
    by_cases h : n = t
    · subst h; simp
    · rw [if_neg h, look_initFr as (n + 1) t]
      by_cases h2 : n + 1 ≤ t
      · rw [if_pos h2, if_pos (by omega)]
        rw [show t - n = (t - (n + 1)) + 1 by omega]
        simp
      · rw [if_neg h2]
        by_cases h3 : n ≤ t
        · omega
        · rw [if_neg h3]

def resVal : List Value → Value
  | [v] => v
  | us => .tuple us.toArray

theorem run_resList {E : Env} {st : St} {a : Act} {w : World} {W : Nat → Prop} {μ : Nat → Loc} (hs : SatW E st.toS a w W μ) {F : ResultVar → Sem Value} (hF : ∀ t, F (.tmp t) = pure (a.tmps.getD t undef))
    (hC : ∀ t T, F (.cell t T) = do loadVar T (← asAddr (a.tmps.getD t undef))) : ∀ (l : List ResultVar) (ns : List RX), chkRes C.P l ns = true → resGs st ns →
    ∃ us, (l.mapM F).run C.P w = .ok us w ∧ us.length = ns.length ∧ ∀ (i : Nat) (u : Value) (x : RX), us[i]? = some u → ns[i]? = some x → Rep w W μ u (resA st x)
  | [], [], _, _ => ⟨[], rfl, rfl, fun i u x h => by simp at h⟩
  | [], _ :: _, h, _ => by simp [chkRes] at h
  | x :: l, [], h, _ => by cases x <;> simp [chkRes] at h
  | .cell _ _ :: _, .t _ :: _, h, _ => by simp [chkRes] at h
  | .tmp _ :: _, .c _ _ _ :: _, h, _ => by simp [chkRes] at h
  | .tmp t :: l, .t n :: ns, h, hg => by
    simp only [chkRes, Bool.and_eq_true, beq_iff_eq] at h
    obtain ⟨rfl, h2⟩ := h
    obtain ⟨us, e1, e2, e3⟩ := run_resList hs hF hC l ns h2 hg.2
    refine ⟨a.tmps.getD t undef :: us, ?_, by simp [e2], fun i u x hu hx => ?_⟩
    · simp only [List.mapM_cons, Sem.run_bind, hF, Sem.run_pure, Result.andThen_ok, e1]
    · cases i with
      | zero => rw [List.getElem?_cons_zero] at hu hx; cases hu; cases hx; exact hs.fr t
      | succ i => exact e3 i u x (by simpa using hu) (by simpa using hx)
  | .cell t T :: l, .c n sz ag :: ns, h, hg => by
    simp only [chkRes, Bool.and_eq_true, beq_iff_eq] at h
    obtain ⟨⟨rfl, hT⟩, h2⟩ := h
    obtain ⟨us, e1, e2, e3⟩ := run_resList hs hF hC l ns h2 hg.2
    have hg1 := hg.1
    have hl : ∃ u, (F (.cell t T)).run C.P w = .ok u w ∧ Rep w W μ u (resA st (.c t sz ag)) := by
      simp only [resG] at hg1
      split at hg1
      · rename_i ef he
        obtain ⟨b, q, u, h1, h3, h4⟩ := load_run (P := C.P) hs hT (hs.fr t) he hg1
        refine ⟨u, ?_, ?_⟩
        · rw [hC]
          simp only [h1, Sem.run_bind]
          show (((loadVar T ⟨b, q, none⟩).run C.P w)) = _
          exact h3
        · simp only [resA, he]; exact h4
      · exact hg1.elim
    obtain ⟨u0, h5, h6⟩ := hl
    refine ⟨u0 :: us, ?_, by simp [e2], fun i u x hu hx => ?_⟩
    · simp only [List.mapM_cons, Sem.run_bind, h5, Sem.run_pure, Result.andThen_ok, e1]
    · cases i with
      | zero => simp at hu hx; subst hu; subst hx; exact h6
      | succ i => exact e3 i u x (by simpa using hu) (by simpa using hx)

theorem run_results (fn : Func) {E : Env} {st : St} {a : Act} {w : World} {W : Nat → Prop} {μ : Nat → Loc} (hs : SatW E st.toS a w W μ) {rs : List RX} (h : chkRes C.P fn.results.toList rs = true) (hg : resGs st rs) :
    ∃ us, (results fn a.tmps).run C.P w = .ok (resVal us) w ∧ us.length = rs.length ∧ ∀ (i : Nat) (u : Value) (x : RX), us[i]? = some u → rs[i]? = some x → Rep w W μ u (resA st x) := by
  have e : ∀ F : ResultVar → Sem Value, fn.results.mapM F = Functor.map List.toArray (fn.results.toList.mapM F) := fun F => by
    rw [← List.mapM_toArray, Array.toArray_toList]
  let F : ResultVar → Sem Value := fun
    | .tmp t => pure (a.tmps.getD t undef)
    | .cell x t => do loadVar t (← asAddr (a.tmps.getD x undef))
  have eF : results fn a.tmps = (do
      let vs ← fn.results.mapM F
      pure (if h : vs.size = 1 then vs[0] else .tuple vs)) := by
    unfold results
    congr 1
  obtain ⟨us, h1, h2, h3⟩ := run_resList (C := C) hs (F := F) (fun t => rfl) (fun t T => rfl) _ _ h hg
  refine ⟨us, ?_, h2, h3⟩
  rw [eF]
  simp only [Sem.run_bind]
  rw [e F, Sem.run_map, h1]
  simp only [Result.andThen_ok, Sem.run_pure, List.size_toArray]
  match us with
  | [t] => simp [resVal]
  | [] => simp [resVal]
  | _ :: _ :: _ => simp [resVal]

theorem resGs_of {st : St} : ∀ {rs : List RX}, allG st rs → resGs st rs
  | [], _ => trivial
  | _ :: _, h => ⟨h.1.1, resGs_of h.2⟩

theorem allG_at {st : St} : ∀ {rs : List RX}, allG st rs → ∀ (i : Nat) (x : RX), rs[i]? = some x → frzOk st.m (resA st x)
  | y :: ys, h, i, x, hx => by
    cases i with
    | zero => simp at hx; subst hx; exact h.1.2
    | succ i => exact allG_at h.2 i x (by simpa using hx)
  | [], _, i, x, hx => by simp at hx

theorem resAs_at {st : St} : ∀ (rs : List RX) (i : Nat), (resAs st rs)[i]? = (rs[i]?).map fun x => frz st.m (resA st x)
  | [], i => by simp [resAs]
  | y :: ys, i => by
    cases i with
    | zero => simp [resAs]
    | succ i => simpa [resAs] using resAs_at ys i

theorem pfn_intro {f : FuncId} {pc : PC} {N np : Nat} {rs : List RX} (hchk : chkF C.P f pc N rs np = true) {as : List A} (hnp : as.length = np) {r : A}
    (h : ∀ E : Env, E.G = C.G → E.N = N → E.k0 = 0 → AW C E pc (Post rs r) ⟨initFr 0 as, [], 0⟩) : PFn C f as r := by
  intro w W vs hgl hlt hlen hargs
  unfold chkF at hchk
  split at hchk
  · rename_i fn hfn
    simp only [Bool.and_eq_true, beq_iff_eq] at hchk
    obtain ⟨⟨⟨hc, hN⟩, hres⟩, hle⟩ := hchk
    have hle : np ≤ N := Nat.le_of_ble_eq_true hle
    split at hc
    · rename_i c hb
      let E : Env := ⟨w, W, fun _ => False, N, C.G, 0, noLoc⟩
      have hS : SatW E (⟨initFr 0 as, [], 0⟩ : St).toS { tmps := vs.toArray ++ Array.replicate (fn.ntmps - vs.toArray.size) undef, defers := [] } w W noLoc := {
        defers := rfl
        size := by simp; show vs.length + (fn.ntmps - vs.length) = N; omega
        fr := fun t => by
          show Rep w W noLoc _ ((⟨initFr 0 as, [], 0⟩ : St).slot t)
          simp only [St.slot, look_initFr, Nat.zero_le, if_true, Nat.sub_zero]
          cases ha : as[t]? with
          | none => trivial
          | some b =>
            have ht : t < vs.length := by rw [hlen]; exact (List.getElem?_eq_some_iff.1 ha).1
            have hv : vs[t]? = some vs[t] := by simp [ht]
            have : (vs.toArray ++ Array.replicate (fn.ntmps - vs.toArray.size) undef).getD t undef = vs[t] := by
              rw [Array.getD_eq_getD_getElem?, Array.getElem?_append_left (by simpa using ht)]
              simp [ht]
            rw [this]
            exact rep_of_V (hargs t _ b hv ha)
        mem := fun x => by show MemAt w W noLoc x ((⟨initFr 0 as, [], 0⟩ : St).m x); simp [St.m, MemAt, noLoc]
        inj := fun x y k k' hx => by cases hx
        keeps := Keeps.refl _ w
        winlt := hlt
        wsub := fun b h => .inl h
        wsup := fun b h => .inl h
        wlt := hlt
        live := fun x k hx => by cases hx
        glob := hgl
        fix := fun x hx => absurd hx (Nat.not_lt_zero x) }
      have hwp := h E rfl rfl rfl c hc _ w ⟨W, noLoc, hS⟩
      refine calls_of_wp hfn hb (wp_mono hwp fun e a' w' ⟨st', hq, W', μ', hs'⟩ => ?_)
      have fin : resOk st' rs r → a'.defers = [] ∧ ∃ v, (results fn a'.tmps).run C.P w' = .ok v w' ∧ ∃ u, Ending.returned v = .returned u ∧ Keeps (fun _ => False) w w' ∧ Rep w' W noLoc u r := fun hro => by
        obtain ⟨hg, hr⟩ := hro
        obtain ⟨us, hrun, hul, hus⟩ := run_results fn hs' hres (resGs_of hg)
        refine ⟨hs'.defers, _, hrun, _, rfl, hs'.keeps, ?_⟩
        have toW : ∀ {v : Value} {b : A}, RepV w' (lessW W' μ' (ownIds b)) noLoc v (frz st'.m b) → RepV w' W noLoc v (frz st'.m b) := fun {v b} hv =>
          hv.goes (Keeps.refl (fun _ => False) w') (fun _ _ _ h => h) (fun q _ h1 h2 => h1 ⟨(hs'.wsup q h2).elim id (fun h => h.elim), fun ⟨x, k, _, hk, hkb⟩ => by
            rcases hs'.live x k hk with h3 | h3
            · exact h3
            · have := hlt q h2
              have h4 : w.heap.size ≤ k.b := h3
              omega⟩) (Old.refl _)
        have one : ∀ (i : Nat) (u : Value) (x : RX), us[i]? = some u → rs[i]? = some x → RepV w' W noLoc u (frz st'.m (resA st' x)) := fun i u x hu hx => toW (rep_frz (s := st'.toS) hs' (hus i u x hu hx) (allG_at hg i x hx) (fun y hy => hy))
        subst hr
        match rs, us, hul, one with
        | [x], [u], _, one => exact rep_of_V (one 0 u x rfl rfl)
        | [], [], _, one => exact ⟨[], by simp [resVal], by simp [resAs], by simp⟩
        | x1 :: x2 :: xs, u1 :: u2 :: us, hul, one =>
          refine ⟨u1 :: u2 :: us, rfl, ?_, fun i u b hu hb => ?_⟩
          · simp only [resAs, List.length_cons] at hul ⊢
            have : ∀ l, (resAs st' l).length = l.length := fun l => by induction l with
              | nil => rfl
              | cons a l ih => simp [resAs, ih]
            rw [this]; omega
          · have hb' : (resAs st' (x1 :: x2 :: xs))[i]? = some b := hb
            rw [resAs_at, Option.map_eq_some_iff] at hb'
            obtain ⟨x, hx, rfl⟩ := hb'
            exact one i u x hu hx
      cases e with
      | normal => exact fin hq
      | ret => exact fin hq
      | _ => exact hq.elim
    · cases hc
  · cases hchk

theorem rwAll_at : ∀ {ms : List (Nat × Row)}, rwAll ms = true → ∀ x r, look ms x = some r → r.ro = false
  | q :: ms, h, x, r, hr => by
    simp only [rwAll, Bool.and_eq_true, Bool.not_eq_true'] at h
    simp only [look] at hr
    split at hr
    · cases hr; exact h.1
    · exact rwAll_at h.2 x r hr

theorem allVV_at : ∀ {l : List A}, allVV l = true → ∀ x ∈ l, x.isVV = true
  | y :: ys, h, x, hx => by
    simp only [allVV, Bool.and_eq_true] at h
    rcases List.mem_cons.1 hx with rfl | hx
    · exact h.1
    · exact allVV_at h.2 x hx

theorem resL_at {st : St} : ∀ (rs : List RX) (i : Nat), (resL st rs)[i]? = (rs[i]?).map fun x => resA st x
  | [], i => by simp [resL]
  | y :: ys, i => by
    cases i with
    | zero => simp [resL]
    | succ i => simpa [resL] using resL_at ys i

/-- A function that hands memory back, out of its code. -/
theorem mfn_intro {f : FuncId} {pc : PC} {N np : Nat} {rs : List RX} (hchk : chkF C.P f pc N rs np = true) {as : List A} (hnp : as.length = np) {ms ms' : List (Nat × Row)} {k k' : Nat} {rl : List A} (hms : rwAll ms = true) (hall : allIn ms k = true)
    (hrl : rl.length = rs.length) (h : ∀ E : Env, E.G = C.G → E.N = N → E.k0 = k → AW C E pc (PostM k rs rl ms' k') ⟨initFr 0 as, ms, k⟩) : MFn C f as ms k (tupOf rl) ms' k' := by
  intro w W μ vs hgl hlt hlen hargs hmem hinj
  unfold chkF at hchk
  split at hchk
  · rename_i fn hfn
    simp only [Bool.and_eq_true, beq_iff_eq] at hchk
    obtain ⟨⟨⟨hc, hN⟩, hres⟩, hle⟩ := hchk
    have hle : np ≤ N := Nat.le_of_ble_eq_true hle
    have hrow : ∀ x r, (⟨[], ms, k⟩ : St).m x = .row r → r.ro = false := fun x r hx => by
      simp only [St.m] at hx
      split at hx
      · cases hx
      · cases hl : look ms x with
        | none => rw [hl] at hx; cases hx
        | some r' => rw [hl] at hx; cases hx; exact rwAll_at hms x r hl
    have hfr : ∀ x, k ≤ x → μ x = .fresh := fun x hx => by
      have := hmem x
      rw [show (⟨[], ms, k⟩ : St).m x = .fresh by simp only [St.m]; rw [if_pos hx]] at this
      exact this
    have hnf : ∀ x, x < k → μ x ≠ .fresh := fun x hx hf => by
      obtain ⟨r, hr⟩ := allIn_spec hall x hx
      have := hmem x
      rw [show (⟨[], ms, k⟩ : St).m x = .row r by simp only [St.m, hr]; rw [if_neg (by omega)]] at this
      rcases this with ⟨h1, _⟩ | ⟨kb, h1, _⟩
      · rw [hf] at h1; cases h1
      · rw [hf] at h1; cases h1
    have hown : ∀ x kb, μ x = .at_ kb → W kb.b := fun x kb hx => by
      obtain ⟨r, h1, h2⟩ := hmem.at_ hx
      exact h2.1 (hrow x r h1)
    split at hc
    · rename_i c hb
      let E : Env := ⟨w, W, fun b => W b ∧ ∃ y kb, μ y = .at_ kb ∧ kb.b = b, N, C.G, k, μ⟩
      have hS : SatW E (⟨initFr 0 as, ms, k⟩ : St).toS { tmps := vs.toArray ++ Array.replicate (fn.ntmps - vs.toArray.size) undef, defers := [] } w W μ := {
        defers := rfl
        size := by simp; show vs.length + (fn.ntmps - vs.length) = N; omega
        fr := fun t => by
          show Rep w W μ _ ((⟨initFr 0 as, ms, k⟩ : St).slot t)
          simp only [St.slot, look_initFr, Nat.zero_le, if_true, Nat.sub_zero]
          cases ha : as[t]? with
          | none => trivial
          | some b =>
            have ht : t < vs.length := by rw [hlen]; exact (List.getElem?_eq_some_iff.1 ha).1
            have hv : vs[t]? = some vs[t] := by simp [ht]
            have : (vs.toArray ++ Array.replicate (fn.ntmps - vs.toArray.size) undef).getD t undef = vs[t] := by
              rw [Array.getD_eq_getD_getElem?, Array.getElem?_append_left (by simpa using ht)]
              simp [ht]
            rw [this]
            exact rep_of_V (hargs t _ b hv ha)
        mem := hmem
        inj := hinj
        keeps := Keeps.refl _ w
        winlt := hlt
        wsub := fun b h => .inl h
        wsup := fun b h => .inl h
        wlt := hlt
        live := fun x kb hx => .inl ⟨hown x kb hx, x, kb, hx, rfl⟩
        glob := hgl
        fix := fun x hx => .inl ⟨rfl, hnf x hx⟩ }
      have hwp := h E rfl rfl rfl c hc _ w ⟨W, μ, hS⟩
      refine calls_of_wp hfn hb (wp_mono hwp fun e a' w' ⟨st', hq, W1, μ1, hs'⟩ => ?_)
      have fin : resOkM k st' rs rl ms' k' → a'.defers = [] ∧ ∃ v, (results fn a'.tmps).run C.P w' = .ok v w' ∧ ∃ u W' μ', Ending.returned v = .returned u ∧ Step (⟨[], ms, k⟩ : St).m (⟨[], ms', k'⟩ : St).m w w' W W' μ μ' ∧ Rep w' W' μ' u (tupOf rl) := fun ⟨hg, hvv, l, hle', hfx⟩ => by
        obtain ⟨us, hrun, hul, hus⟩ := run_results fn hs' hres hg
        let E' : Env := { E with N := us.length }
        have hs1 : SatW E' (⟨initFr 0 (resL st' rs), st'.mem, st'.nx⟩ : St).toS { tmps := us.toArray, defers := [] } w' W1 μ1 := {
          defers := rfl
          size := by simp; rfl
          fr := fun t => by
            show Rep w' W1 μ1 _ ((⟨initFr 0 (resL st' rs), st'.mem, st'.nx⟩ : St).slot t)
            simp only [St.slot, look_initFr, Nat.zero_le, if_true, Nat.sub_zero, resL_at]
            cases hx : rs[t]? with
            | none => trivial
            | some x =>
              have ht : t < us.length := by rw [hul]; exact (List.getElem?_eq_some_iff.1 hx).1
              have : us.toArray.getD t undef = us[t] := by simp [Array.getD, ht]
              show Rep w' W1 μ1 (us.toArray.getD t undef) (resA st' x)
              rw [this]
              exact hus t _ x (by simp [ht]) hx
          mem := hs'.mem
          inj := hs'.inj
          keeps := hs'.keeps
          winlt := hs'.winlt
          wsub := hs'.wsub
          wsup := hs'.wsup
          wlt := hs'.wlt
          live := hs'.live
          glob := hs'.glob
          fix := hs'.fix }
        obtain ⟨W2, μ2, hs2⟩ := St.le_of (E := E') l hle' hfx _ w' ⟨W1, μ1, hs1⟩
        have hst : Step (⟨[], ms, k⟩ : St).m (⟨[], ms', k'⟩ : St).m w w' W W2 μ μ2 := {
          keeps := hs2.keeps
          hW := fun b hb h => by
            rcases hs2.wsub b h with h1 | h1
            · exact h1
            · have h2 : w.heap.size ≤ b := h1; omega
          wsup := fun b hb => by
            rcases hs2.wsup b hb with h1 | h1
            · exact .inl h1
            · exact .inr h1.2
          wlt0 := hlt
          wlt := hs2.wlt
          old := fun x hx => by
            by_cases hxk : x < k
            · rcases hs2.fix x hxk with h1 | h1
              · exact .inl h1.1
              · exact .inr h1
            · exact absurd (hfr x (by omega)) hx
          mem := hs2.mem
          inj := hs2.inj
          live := fun x kb hx => by
            rcases hs2.live x kb hx with h1 | h1
            · exact .inl h1.2
            · exact .inr h1 }
        have one : ∀ (i : Nat) (u : Value) (b : A), us[i]? = some u → rl[i]? = some b → RepV w' W2 μ2 u b := fun i u b hu hb => by
          have h1 := hs2.fr i
          have hi : i < us.length := (List.getElem?_eq_some_iff.1 hu).1
          have h2 : (⟨initFr 0 rl, ms', k'⟩ : St).slot i = b := by simp only [St.slot, look_initFr, Nat.zero_le, if_true, Nat.sub_zero, hb, Option.getD_some]
          have h3 : us.toArray.getD i undef = u := by
            rw [List.getElem?_eq_getElem hi] at hu; cases hu; simp [Array.getD, hi]
          have h4 : Rep w' W2 μ2 (us.toArray.getD i undef) ((⟨initFr 0 rl, ms', k'⟩ : St).slot i) := h1
          rw [h2, h3] at h4
          have hv := allVV_at hvv b (List.mem_of_getElem? hb)
          exact h4.toVV hv
        refine ⟨hs'.defers, _, hrun, _, W2, μ2, rfl, hst, ?_⟩
        match rl, us, (hul.trans hrl.symm), one with
        | [b], [u], _, one => exact rep_of_V (one 0 u b rfl rfl)
        | [], [], _, _ => exact ⟨[], by simp [resVal], by simp, by simp⟩
        | b1 :: b2 :: bs, u1 :: u2 :: us, hul, one => exact ⟨u1 :: u2 :: us, rfl, hul, one⟩
      cases e with
      | normal => exact fin hq
      | ret => exact fin hq
      | _ => exact hq.elim
    · cases hc
  · cases hchk
end
end Ab
end Go.Proofs.YtmegjomldcfoaaaDoor
