/-
  Regions that draw their order: operations that leave owned memory alone yield the same in every order.
-/
import Derived.Test.YtmegjomldcfoaaaDoorAb17
import Derived.Orders
namespace Go.Proofs.YtmegjomldcfoaaaDoor
namespace Ab

/-- Several operations of which none touches what is owned. -/
def arund (C : Cx) : List POp → St → (St → Prop) → Prop
  | [], st, K => K st
  | p :: ps, st, K => aop C p st fun st' => (st'.mem = st.mem ∧ st'.nx = st.nx) ∧ arund C ps st' K

section
variable {C : Cx} {E : Env}

/-- An operation has one outcome. -/
theorem aop_one {p : POp} {st : St} {K : St → Prop} (h : aop C p st K) : ∃ v mw, K (st.app p.dst v mw) ∧ aop C p st (fun s => s = st.app p.dst v mw) := by
  unfold aop at h ⊢
  cases hg : guardOf st p.g with
  | none => simp [hg] at h
  | some g =>
    simp only [hg] at h ⊢
    cases hp : p.po <;> simp only [hp] at h ⊢
    case pick =>
      split at h
      · split at h
        · exact ⟨_, _, h.2, h.1, rfl⟩
        · exact h.elim
      · exact h.elim
    case call f =>
      obtain ⟨r, h1, h2, h3⟩ := h
      exact ⟨_, _, h3, r, h1, h2, rfl⟩
    case callv =>
      split at h
      · obtain ⟨r, h1, h2, h3⟩ := h
        exact ⟨_, _, h3, r, h1, h2, rfl⟩
      · exact h.elim
    case callm f =>
      obtain ⟨h1, h2, l, as, ms, k, r, ms', k', h3, h4, h5, h6, h7⟩ := h
      exact ⟨_, _, h7, h1, h2, l, as, ms, k, r, ms', k', h3, h4, h5, h6, rfl⟩
    case callvm =>
      split at h
      · obtain ⟨h1, h2, hb, l, as, ms, k, r, ms', k', h3, h4, h5, h6, h7⟩ := h
        exact ⟨_, _, h7, h1, h2, hb, l, as, ms, k, r, ms', k', h3, h4, h5, h6, rfl⟩
      · exact h.elim
    all_goals
      split at h
      · exact ⟨_, _, h.2.2, h.1, h.2.1, rfl⟩
      · exact h.elim

theorem xv_congr {x : PX} {f g : Nat → A} (G : Globs) (h : ∀ t ∈ rdsX [x], f t = g t) : xv G f x = xv G g x := by
  cases x <;> first | rfl | exact h _ (by simp [rdsX])

theorem rdsX_cons (x : PX) (xs : List PX) (t : Nat) : t ∈ rdsX (x :: xs) ↔ t ∈ rdsX [x] ∨ t ∈ rdsX xs := by
  cases x <;> simp [rdsX]

theorem valsOf_congr {st st2 : St} : ∀ (xs : List PX), (∀ t ∈ rdsX xs, st.slot t = st2.slot t) → valsOf C st xs = valsOf C st2 xs ∧ (gdsOf C st xs ↔ gdsOf C st2 xs)
  | [], _ => ⟨rfl, Iff.rfl⟩
  | x :: xs, h => by
    have h1 := xv_congr (x := x) C.G (f := st.slot) (g := st2.slot) fun t ht => h t ((rdsX_cons x xs t).2 (.inl ht))
    obtain ⟨h2, h3⟩ := valsOf_congr xs fun t ht => h t ((rdsX_cons x xs t).2 (.inr ht))
    simp only [valsOf, gdsOf, h1, h2, h3, and_self]

theorem m_congr {st st2 : St} (hm : st2.mem = st.mem) (hn : st2.nx = st.nx) : st2.m = st.m := by
  funext x; simp only [St.m, hm, hn]

theorem app_inj {st : St} {d : Option Nat} {v u : A} {mw : List (Nat × MS)} {st2 : St} (h : st.app d u mw = st.app d v []) (hm : st2.mem = st.mem) (hn : st2.nx = st.nx) : st2.app d u mw = st2.app d v [] := by
  simp only [St.app, St.mk.injEq, putM, nxt] at h ⊢
  obtain ⟨h1, h2, h3⟩ := h
  refine ⟨?_, by rw [hm]; exact h2, by rw [hn]; exact h3⟩
  cases d with
  | none => rfl
  | some d =>
    simp only [putF, List.cons.injEq, Prod.mk.injEq, true_and, and_true] at h1 ⊢
    exact h1

/-- What an operation yields hangs on the slots that it looks at. -/
theorem aop_congr {p : POp} {st st2 : St} {v : A} (hm : st2.mem = st.mem) (hn : st2.nx = st.nx) (hr : ∀ t ∈ p.rds, st.slot t = st2.slot t)
    (h : aop C p st (fun s => s = st.app p.dst v [])) : aop C p st2 (fun s => s = st2.app p.dst v []) := by
  have hx : ∀ t ∈ rdsX p.xs, st.slot t = st2.slot t := fun t ht => hr t (List.mem_append_right _ ht)
  obtain ⟨hv, hgd⟩ := valsOf_congr (C := C) p.xs hx
  have hgo : guardOf st2 p.g = guardOf st p.g := by
    cases hg : p.g with
    | none => rfl
    | some q => simp only [guardOf]; rw [hr q.1 (List.mem_append_left _ (by simp [hg]))]
  unfold aop at h ⊢
  rw [hgo, ← hv, hn, m_congr hm hn, ← hgd]
  cases hg : guardOf st p.g with
  | none => simp [hg] at h
  | some g =>
    simp only [hg] at h ⊢
    cases hp : p.po <;> simp only [hp] at h ⊢
    case pick =>
      split at h
      · rename_i c x y hxs
        simp only [hxs] at hx ⊢
        have e1 := xv_congr (x := c) C.G (f := st.slot) (g := st2.slot) fun t ht => hx t ((rdsX_cons _ _ _).2 (.inl ht))
        have e2 := xv_congr (x := x) C.G (f := st.slot) (g := st2.slot) fun t ht => hx t ((rdsX_cons _ _ _).2 (.inr ((rdsX_cons _ _ _).2 (.inl ht))))
        have e3 := xv_congr (x := y) C.G (f := st.slot) (g := st2.slot) fun t ht => hx t ((rdsX_cons _ _ _).2 (.inr ((rdsX_cons _ _ _).2 (.inr ht))))
        rw [← e1, ← e2, ← e3]
        split at h
        · exact ⟨h.1, app_inj h.2 hm hn⟩
        · exact h.elim
      · exact h.elim
    case call f =>
      obtain ⟨r, h1, h2, h3⟩ := h
      exact ⟨r, h1, h2, app_inj h3 hm hn⟩
    case callv =>
      split at h
      · obtain ⟨r, h1, h2, h3⟩ := h
        exact ⟨r, h1, h2, app_inj h3 hm hn⟩
      · exact h.elim
    case callm f =>
      obtain ⟨h1, h2, l, as, ms, k, r, ms', k', h3, h4, h5, h6, h7⟩ := h
      exact ⟨h1, h2, l, as, ms, k, r, ms', k', h3, h4, h5, h6, app_inj h7 hm hn⟩
    case callvm =>
      split at h
      · obtain ⟨h1, h2, hb, l, as, ms, k, r, ms', k', h3, h4, h5, h6, h7⟩ := h
        exact ⟨h1, h2, hb, l, as, ms, k, r, ms', k', h3, h4, h5, h6, app_inj h7 hm hn⟩
      · exact h.elim
    all_goals
      split at h
      · exact ⟨h.1, h.2.1, app_inj h.2.2 hm hn⟩
      · exact h.elim

/-- The operations that are done, in the text's order. -/
def SL (ps : List POp) (vs : Nat → A) (st : St) (f : Nat → Bool) : Nat → St
  | 0 => st
  | n + 1 => match ps[n]? with
    | some p => if f n then (SL ps vs st f n).app p.dst (vs n) [] else SL ps vs st f n
    | none => SL ps vs st f n

theorem SL_mem (ps : List POp) (vs : Nat → A) (st : St) (f : Nat → Bool) : ∀ n, (SL ps vs st f n).mem = st.mem ∧ (SL ps vs st f n).nx = st.nx
  | 0 => ⟨rfl, rfl⟩
  | n + 1 => by
    have := SL_mem ps vs st f n
    simp only [SL]
    split
    · split
      · exact this
      · exact this
    · exact this

theorem slot_app (st : St) (d : Option Nat) (v : A) (t : Nat) : (st.app d v []).slot t = if d = some t then v else st.slot t := by
  rw [slot_put]
  cases d with
  | none => simp [setF]
  | some d =>
    by_cases h : t = d
    · subst h; simp [setF]
    · simp [setF, h, Ne.symm h, show ¬ d = t from fun e => h e.symm]

/-- One more operation done. -/
theorem SL_put {ps : List POp} {vs : Nat → A} {st : St} {f : Nat → Bool} {j : Nat} {p : POp} (hp : ps[j]? = some p) (hf : f j = false) (f' : Nat → Bool) (hj : f' j = true) (hf' : ∀ i, i ≠ j → f' i = f i)
    (hc : ∀ i q, j < i → ps[i]? = some q → f i = true → conf p q = false) : ∀ n t, (SL ps vs st f' n).slot t = if j < n ∧ p.dst = some t then vs j else (SL ps vs st f n).slot t
  | 0, t => by simp [SL]
  | n + 1, t => by
    have ih := SL_put (vs := vs) (st := st) hp hf f' hj hf' hc n
    by_cases hn : n = j
    · subst hn
      simp only [SL, hp, hj, hf, if_true, Bool.false_eq_true, if_false, slot_app]
      by_cases hd : p.dst = some t
      · simp [hd]
      · simp only [hd, if_false, and_false]
        have := ih t
        simpa [hd] using this
    · have hlt : j < n + 1 ↔ j < n := by omega
      simp only [SL, hf' n hn, hlt]
      cases hq : ps[n]? with
      | none => simpa using ih t
      | some q =>
        simp only []
        split
        · rename_i hfn
          rw [slot_app, slot_app, ih t]
          by_cases hd : q.dst = some t
          · simp only [hd, if_true]
            by_cases hjn : j < n
            · have := hc n q hjn hq hfn
              unfold conf at this
              by_cases hpd : p.dst = some t
              · simp [hpd, hd] at this
              · simp [hpd]
            · simp [hjn]
          · simp [hd]
        · exact ih t

/-- What an operation looks at is as in the text's order. -/
theorem SL_look {ps : List POp} {vs : Nat → A} {st : St} {f : Nat → Bool} {j t : Nat} (h1 : ∀ i q, i < j → ps[i]? = some q → q.dst = some t → f i = true) (h2 : ∀ i q, j ≤ i → ps[i]? = some q → q.dst = some t → f i = false) :
    ∀ n, (SL ps vs st f n).slot t = (SL ps vs st (fun _ => true) (min n j)).slot t
  | 0 => by simp [SL]
  | n + 1 => by
    have ih := SL_look (vs := vs) (st := st) h1 h2 n
    by_cases hn : n < j
    · rw [show min (n + 1) j = n + 1 by omega]
      rw [show min n j = n by omega] at ih
      simp only [SL]
      cases hq : ps[n]? with
      | none => exact ih
      | some q =>
        simp only [if_true]
        by_cases hd : q.dst = some t
        · rw [h1 n q hn hq hd]; simp [slot_app, hd]
        · rw [slot_app, if_neg hd]
          split
          · rw [slot_app, if_neg hd]; exact ih
          · exact ih
    · rw [show min (n + 1) j = j by omega]
      rw [show min n j = j by omega] at ih
      simp only [SL]
      cases hq : ps[n]? with
      | none => exact ih
      | some q =>
        simp only []
        by_cases hd : q.dst = some t
        · rw [h2 n q (by omega) hq hd]; simpa using ih
        · split
          · rw [slot_app, if_neg hd]; exact ih
          · exact ih

/-- The text's run, value by value. -/
theorem arund_vals {K : St → Prop} : ∀ (ps : List POp) (st : St), arund C ps st K → ∃ vs : Nat → A, K (SL ps vs st (fun _ => true) ps.length) ∧
    ∀ j p, ps[j]? = some p → aop C p (SL ps vs st (fun _ => true) j) (fun s => s = (SL ps vs st (fun _ => true) j).app p.dst (vs j) [])
  | [], st, h => ⟨fun _ => .any, h, fun j p hp => by simp at hp⟩
  | p :: ps, st, h => by
    obtain ⟨v, mw, ⟨⟨h1, h2⟩, h3⟩, h4⟩ := aop_one h
    have e : st.app p.dst v mw = st.app p.dst v [] := by
      simp only [St.app, St.mk.injEq] at h1 h2 ⊢
      exact ⟨trivial, h1, h2⟩
    rw [e] at h3 h4
    obtain ⟨vs, h5, h6⟩ := arund_vals ps _ h3
    have sh : ∀ n, SL (p :: ps) (fun i => match i with | 0 => v | i + 1 => vs i) st (fun _ => true) (n + 1) = SL ps vs (st.app p.dst v []) (fun _ => true) n := by
      intro n
      induction n with
      | zero => simp [SL]
      | succ n ih => rw [SL, ih]; simp only [List.getElem?_cons_succ]; rfl
    refine ⟨fun i => match i with | 0 => v | i + 1 => vs i, ?_, fun j q hq => ?_⟩
    · rw [List.length_cons, sh]; exact h5
    · cases j with
      | zero => simp at hq; subst hq; exact h4
      | succ j => rw [sh]; exact h6 j q (by simpa using hq)

/-! ### What comes before -/

theorem ancs_spec {D : Nat → Prop} : ∀ (es acc : List (List Nat)), (∀ j e, es[j]? = some e → D (acc.length + j) → ∀ i ∈ e, D i) → (∀ j, D j → ∀ i ∈ acc.getD j [], D i) →
    ∀ j, D j → ∀ i ∈ (ancs acc es).getD j [], D i
  | [], acc, _, h => h
  | e :: es, acc, he, h => by
    unfold ancs
    refine ancs_spec es _ (fun j e' hj hD => he (j + 1) e' (by simpa using hj) (by rw [List.length_append] at hD; simp only [List.length_cons, List.length_nil] at hD; rwa [show acc.length + (j + 1) = acc.length + (0 + 1) + j by omega])) ?_
    intro j hD i hi
    by_cases hj : j < acc.length
    · refine h j hD i ?_
      rw [List.getD_eq_getElem?_getD, List.getElem?_append_left hj] at hi
      rwa [List.getD_eq_getElem?_getD]
    · by_cases hj2 : j = acc.length
      · subst hj2
        have he0 := he 0 e rfl (by simpa using hD)
        rw [List.getD_eq_getElem?_getD, List.getElem?_append_right (Nat.le_refl _)] at hi
        simp only [Nat.sub_self, List.getElem?_cons_zero, Option.getD_some, List.mem_append, List.mem_flatMap] at hi
        rcases hi with hi | ⟨k, hk, hi⟩
        · exact he0 i hi
        · exact h k (he0 k hk) i hi
      · rw [List.getD_eq_getElem?_getD, List.getElem?_eq_none (by simp; omega)] at hi
        simp at hi

theorem chkOrd_spec {ps : List POp} {an : List (List Nat)} (h : chkOrd ps an = true) {i j : Nat} {p q : POp} (hij : i < j) (hp : ps[i]? = some p) (hq : ps[j]? = some q) (hc : conf p q = true) : i ∈ an.getD j [] := by
  unfold chkOrd at h
  have h1 := List.all_eq_true.1 h j (List.mem_range.2 (List.getElem?_eq_some_iff.1 hq).1)
  have h2 := List.all_eq_true.1 h1 i (List.mem_range.2 hij)
  simp only [hp, hq, hc, Bool.not_true, Bool.false_or] at h2
  simpa using h2

theorem sortOk_spec : ∀ (os : List Oper) (n : Nat), POp.sortOk os n = true → ∀ j o, os[j]? = some o → ∀ i ∈ edgesOf o, i < n + j
  | [], _, _, j, o, h => by simp at h
  | x :: os, n, h, j, o, ho => by
    simp only [POp.sortOk, Bool.and_eq_true] at h
    cases j with
    | zero =>
      simp at ho; subst ho
      intro i hi
      simp only [edgesOf, List.mem_map, List.mem_filter] at hi
      obtain ⟨e, ⟨he, hb⟩, rfl⟩ := hi
      have := Array.all_eq_true_iff_forall_mem.1 h.1 e (by simpa using he)
      simpa [hb] using this
    | succ j =>
      intro i hi
      have := sortOk_spec os (n + 1) h.2 j o (by simpa using ho) i hi
      omega

/-- How many are left. -/
def left (f : Nat → Bool) : Nat → Nat
  | 0 => 0
  | n + 1 => left f n + if f n then 0 else 1

theorem left_set {f f' : Nat → Bool} {j : Nat} (hj : f j = false) (hj' : f' j = true) (h : ∀ i, i ≠ j → f' i = f i) : ∀ n, left f n = left f' n + if j < n then 1 else 0
  | 0 => rfl
  | n + 1 => by
    have ih := left_set hj hj' h n
    simp only [left]
    by_cases hn : n = j
    · subst hn; simp [hj, hj'] ; simp at ih; omega
    · rw [h n hn, ih]
      have : j < n + 1 ↔ j < n := by omega
      simp only [this]; omega

theorem left_zero {f : Nat → Bool} : ∀ n, left f n = 0 → ∀ i, i < n → f i = true
  | n + 1, h, i, hi => by
    simp only [left] at h
    by_cases hn : i = n
    · subst hn
      cases hf : f i with
      | true => rfl
      | false => simp [hf] at h
    · exact left_zero n (by omega) i (by omega)

theorem conf_reads {p q : POp} {t : Nat} (h : p.dst = some t) (hq : t ∈ q.rds ∨ q.dst = some t) : conf p q = true ∧ (t ∈ q.rds → conf q p = true) := by
  unfold conf
  rw [h]
  refine ⟨?_, fun hr => ?_⟩
  · rcases hq with hq | hq <;> simp [hq]
  · simp [hr]

end
end Ab
end Go.Proofs.YtmegjomldcfoaaaDoor
