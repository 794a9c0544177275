/-
  Steps that the reader alone takes: owned slices given up as plain data; a bare nil as an owned slice; a loop walked turn by turn; results as plain data.
-/
import Derived.Test.YtmegjomldcfoaaaDoorAb21
namespace Go.Proofs.YtmegjomldcfoaaaDoor
namespace Ab

def memN (n : Nat) : List Nat → Bool
  | [] => false
  | m :: ms => if n = m then true else memN n ms
theorem memN_iff {n : Nat} : ∀ {l : List Nat}, memN n l = true ↔ n ∈ l
  | [] => by simp [memN]
  | m :: ms => by
    unfold memN
    split
    · rename_i h; simp [h]
    · rename_i h; rw [memN_iff]; simp [h]

def fzA (ids : List Nat) (m : Nat → MS) : A → A
  | .own y lo n => if memN y ids = true then frz1 m (.own y lo n) else .own y lo n
  | a => a
def fzCs (ids : List Nat) (m : Nat → MS) : List A → List A
  | [] => []
  | a :: as => fzA ids m a :: fzCs ids m as
def fzV (ids : List Nat) (m : Nat → MS) : A → A
  | .agg cs => if pureCs cs = true then .agg cs else .agg (fzCs ids m cs)
  | a => fzA ids m a
def fzEs (ids : List Nat) (m : Nat → MS) (es : List (List A)) : List (List A) := if pureEs es = true then es else es.map (fzCs ids m)
def fzFr (ids : List Nat) (m : Nat → MS) : List (Nat × A) → List (Nat × A)
  | [] => []
  | q :: r => (q.1, fzV ids m q.2) :: fzFr ids m r
def fzMem (ids : List Nat) (m : Nat → MS) : List (Nat × Row) → List (Nat × Row)
  | [] => []
  | q :: r => (q.1, ⟨q.2.ro || memN q.1 ids, q.2.sz, q.2.z, fzEs ids m q.2.es⟩) :: fzMem ids m r
def fzOkA (ids : List Nat) (m : Nat → MS) : A → Prop
  | .own y lo n => if memN y ids = true then frzOk1 m (.own y lo n) else True
  | _ => True
def fzOkCs (ids : List Nat) (m : Nat → MS) : List A → Prop
  | [] => True
  | a :: as => fzOkA ids m a ∧ fzOkCs ids m as
def fzOkV (ids : List Nat) (m : Nat → MS) : A → Prop
  | .agg cs => if pureCs cs = true then True else fzOkCs ids m cs
  | a => fzOkA ids m a
def fzOkEsL (ids : List Nat) (m : Nat → MS) : List (List A) → Prop
  | [] => True
  | c :: cs => fzOkCs ids m c ∧ fzOkEsL ids m cs
def fzOkEs (ids : List Nat) (m : Nat → MS) (es : List (List A)) : Prop := if pureEs es = true then True else fzOkEsL ids m es
def fzOkFr (ids : List Nat) (m : Nat → MS) : List (Nat × A) → Prop
  | [] => True
  | q :: r => fzOkV ids m q.2 ∧ fzOkFr ids m r
def fzOkMem (ids : List Nat) (m : Nat → MS) : List (Nat × Row) → Prop
  | [] => True
  | q :: r => fzOkEs ids m q.2.es ∧ fzOkMem ids m r

/-- The slices of these ids, as plain data from now on. -/
def St.fz (st : St) (ids : List Nat) : St := ⟨fzFr ids st.m st.fr, fzMem ids st.m st.mem, st.nx⟩
def St.fzOk (st : St) (ids : List Nat) : Prop := fzOkFr ids st.m st.fr ∧ fzOkMem ids st.m st.mem

section
variable {C : Cx} {a : Act} {E : Env} {st : St} {w : World} {W : Nat → Prop} {μ : Nat → Loc}

theorem fzCs_at (ids : List Nat) (m : Nat → MS) : ∀ (cs : List A) (i : Nat), (fzCs ids m cs)[i]? = (cs[i]?).map (fzA ids m)
  | [], i => by simp [fzCs]
  | c :: cs, i => by
    cases i with
    | zero => simp [fzCs]
    | succ i => simp [fzCs, fzCs_at ids m cs i]
theorem fzCs_len (ids : List Nat) (m : Nat → MS) : ∀ cs : List A, (fzCs ids m cs).length = cs.length
  | [] => rfl
  | _ :: cs => by simp [fzCs, fzCs_len ids m cs]
theorem fzOkCs_at {ids : List Nat} {m : Nat → MS} : ∀ {cs : List A}, fzOkCs ids m cs → ∀ c ∈ cs, fzOkA ids m c
  | c :: cs, h, d, hd => by
    rcases List.mem_cons.1 hd with rfl | hd
    · exact h.1
    · exact fzOkCs_at h.2 d hd
theorem fzOkEsL_at {ids : List Nat} {m : Nat → MS} : ∀ {cs : List (List A)}, fzOkEsL ids m cs → ∀ c ∈ cs, fzOkCs ids m c
  | c :: cs, h, d, hd => by
    rcases List.mem_cons.1 hd with rfl | hd
    · exact h.1
    · exact fzOkEsL_at h.2 d hd
theorem look_fzFr (ids : List Nat) (m : Nat → MS) (t : Nat) : ∀ fr : List (Nat × A), look (fzFr ids m fr) t = (look fr t).map (fzV ids m)
  | [] => rfl
  | q :: r => by
    simp only [fzFr, look]
    split
    · rfl
    · exact look_fzFr ids m t r
theorem look_fzMem (ids : List Nat) (m : Nat → MS) (x : Nat) : ∀ mem : List (Nat × Row), look (fzMem ids m mem) x = (look mem x).map fun r => ⟨r.ro || memN x ids, r.sz, r.z, fzEs ids m r.es⟩
  | [] => rfl
  | q :: r => by
    simp only [fzMem, look]
    split
    · rename_i h; subst h; rfl
    · exact look_fzMem ids m x r
theorem fzOkFr_at {ids : List Nat} {m : Nat → MS} : ∀ {fr : List (Nat × A)}, fzOkFr ids m fr → ∀ t v, look fr t = some v → fzOkV ids m v
  | q :: r, h, t, v, hv => by
    simp only [look] at hv
    split at hv
    · cases hv; exact h.1
    · exact fzOkFr_at h.2 t v hv
theorem fzOkMem_at {ids : List Nat} {m : Nat → MS} : ∀ {mem : List (Nat × Row)}, fzOkMem ids m mem → ∀ x r, look mem x = some r → fzOkEs ids m r.es
  | q :: r, h, t, v, hv => by
    simp only [look] at hv
    split at hv
    · cases hv; exact h.1
    · exact fzOkMem_at h.2 t v hv

theorem RepK.less {v : Value} {x : A} {ids : List Nat} (h : RepK w W μ v x) : RepK w (lessW W μ ids) μ v x :=
  h.goes (Keeps.refl (fun _ => False) w) (fun _ _ _ h => h) (fun _ _ h1 h2 => h1 h2.1) (Old.refl μ)

theorem fz_rep1 {s : S} (hs : SatW E s a w W μ) {v : Value} {x : A} {ids : List Nat} (h : RepK w W μ v x) (hok : fzOkA ids s.mem x) : RepK w (lessW W μ ids) μ v (fzA ids s.mem x) := by
  cases x with
  | own y lo n =>
    simp only [fzA, fzOkA] at hok ⊢
    split
    · rename_i hy
      rw [if_pos hy] at hok
      exact repK_of_C (rep_frz1 hs h hok (fun z hz => by simp [ownIds1] at hz; subst hz; exact memN_iff.1 hy))
    · exact h.less
  | _ => exact h.less

theorem fz_rep {s : S} (hs : SatW E s a w W μ) {v : Value} {x : A} {ids : List Nat} (h : Rep w W μ v x) (hok : fzOkV ids s.mem x) : Rep w (lessW W μ ids) μ v (fzV ids s.mem x) := by
  have hgo : Rep w (lessW W μ ids) μ v x := h.goes (Keeps.refl (fun _ => False) w) (fun _ _ _ h => h) (fun _ _ h1 h2 => h1 h2.1) (Old.refl μ)
  cases x with
  | own y lo n => exact rep_of_V (repV_of_K (fz_rep1 (x := .own y lo n) hs h hok))
  | agg cs =>
    simp only [fzV, fzOkV] at hok ⊢
    split
    · exact hgo
    · rename_i hp
      rw [if_neg hp] at hok
      obtain ⟨vs, hv, hl, hr⟩ := h
      refine ⟨vs, hv, by rw [fzCs_len]; exact hl, fun i u b hu hb => ?_⟩
      rw [fzCs_at] at hb
      obtain ⟨c, hc, rfl⟩ := Option.map_eq_some_iff.1 hb
      exact fz_rep1 hs (hr i u c hu hc) (fzOkCs_at hok c (List.mem_of_getElem? hc))
  | _ => exact hgo

theorem glob_less {s : S} (hs : SatW E s a w W μ) (ids : List Nat) : GlobOk w (lessW W μ ids) E.G := fun g cs hg => by
  obtain ⟨h1, h2, h3⟩ := hs.glob g cs hg
  refine ⟨fun hh => h1 hh.1, h2, fun j b hj => ?_⟩
  obtain ⟨u, hu, hr⟩ := h3 j b hj
  exact ⟨u, hu, hr.less⟩

theorem St.le_fz (ids : List Nat) (h : st.fzOk ids) : St.le E st (st.fz ids) := by
  intro a w ⟨W, μ, hs⟩
  refine ⟨lessW W μ ids, μ, { hs with
    fr := fun t => ?_
    mem := fun x => ?_
    wsub := fun b hb => hs.wsub b hb.1
    wsup := fun b hb => ?_
    wlt := fun b hb => hs.wlt b hb.1
    glob := glob_less hs ids }⟩
  · show Rep w _ μ _ ((st.fz ids).slot t)
    have hr : Rep w W μ _ (st.slot t) := hs.fr t
    simp only [St.slot, St.fz, look_fzFr] at hr ⊢
    cases hl : look st.fr t with
    | none => trivial
    | some v =>
      rw [hl] at hr
      exact fz_rep hs hr (fzOkFr_at h.1 t v hl)
  · show MemAt w _ μ x ((st.fz ids).m x)
    have hm : MemAt w W μ x (st.m x) := hs.mem x
    simp only [St.m, St.fz, look_fzMem] at hm ⊢
    split
    · rename_i hx; rw [if_pos hx] at hm; exact hm
    · rename_i hx
      rw [if_neg hx] at hm
      cases hl : look st.mem x with
      | none => rw [hl] at hm; exact hm
      | some r =>
        rw [hl] at hm
        have hok := fzOkMem_at h.2 x r hl
        rcases hm with ⟨e1, e2, e3⟩ | ⟨k, e1, hro, hsz, hpos, us, rest, e, h4, h5, h6⟩
        · exact .inl ⟨e1, by show fzEs ids st.m r.es = []; rw [e2]; rfl, e3⟩
        · refine .inr ⟨k, e1, fun hr => ?_, hsz, hpos, us, rest, e, h4, h5, ?_⟩
          · have hr' : (r.ro || memN x ids) = false := hr
            simp only [Bool.or_eq_false_iff] at hr'
            refine ⟨hro hr'.1, fun ⟨y, ky, hy, hy2, hy3⟩ => ?_⟩
            have := hs.inj y x ky k hy2 e1 hy3
            subst this
            rw [memN_iff.2 hy] at hr'
            cases hr'.2
          · show Flat _ r.sz us (fzEs ids st.m r.es)
            unfold fzEs
            unfold fzOkEs at hok
            split
            · exact h6.mono fun u b hr => hr.less
            · rename_i hp
              rw [if_neg hp] at hok
              refine ⟨by simpa using h6.hl, fun i c hc => ?_, fun i c j b hc hb => ?_⟩
              · simp only [List.getElem?_map, Option.map_eq_some_iff] at hc
                obtain ⟨c0, hc0, rfl⟩ := hc
                rw [fzCs_len]; exact h6.hs i c0 hc0
              · simp only [List.getElem?_map, Option.map_eq_some_iff] at hc
                obtain ⟨c0, hc0, rfl⟩ := hc
                rw [fzCs_at] at hb
                obtain ⟨b0, hb0, rfl⟩ := Option.map_eq_some_iff.1 hb
                obtain ⟨u, hu, hr⟩ := h6.ha i c0 j b0 hc0 hb0
                exact ⟨u, hu, fz_rep1 hs hr (fzOkCs_at (fzOkEsL_at hok c0 (List.mem_of_getElem? hc0)) b0 (List.mem_of_getElem? hb0))⟩
  · rcases hs.wsup b hb with h1 | h1
    · by_cases hx : ∃ x k, x ∈ ids ∧ μ x = .at_ k ∧ k.b = b
      · obtain ⟨x, k, _, hx2, hx3⟩ := hx
        rcases hs.live x k hx2 with h2 | h2
        · exact .inr (hx3 ▸ h2)
        · have := hs.winlt b hb; omega
      · exact .inl ⟨h1, hx⟩
    · exact .inr h1

/-- A bare nil, as an owned slice without elements. -/
def St.own0 (st : St) (t sz : Nat) (z : List A) : St := ⟨(t, .own st.nx 0 0) :: rm t st.fr, (st.nx, ⟨false, sz, z, []⟩) :: st.mem, st.nx + 1⟩

theorem St.le_own0 (t sz : Nat) (z : List A) (hz : 0 < sz) (h : st.slot t = .full []) : St.le E st (st.own0 t sz z) := by
  intro a w ⟨W, μ, hs⟩
  have hst := Step.newEmpty (r := ⟨false, sz, z, []⟩) hs.mem hs.inj hs.wlt (St.m_nx st) hz rfl (Keeps.refl _ w)
  have h2 := hs.step (d := none) (v := undef) (av := .any) hst (fun x hx => by cases hx) trivial
  have hem : (st.own0 t sz z).m = setM st.m [(st.nx, .row ⟨false, sz, z, []⟩)] := by
    funext x
    simp only [St.m, St.own0, setM, look]
    by_cases hx : x = st.nx
    · subst hx
      rw [if_neg (by omega), if_pos rfl, if_pos rfl]
    · by_cases h3 : st.nx ≤ x
      · rw [if_pos (show st.nx + 1 ≤ x by omega), if_neg hx, if_pos h3]
      · rw [if_neg (show ¬ st.nx + 1 ≤ x by omega), if_neg (show ¬ st.nx = x by omega), if_neg hx, if_neg h3]
  refine ⟨_, _, { h2 with fr := fun t' => ?_, mem := ?_ }⟩
  · have h3 := h2.fr t'
    show Rep w W _ (a.tmps.getD t' undef) ((st.own0 t sz z).slot t')
    have h4 : Rep w W (fun x => if x = st.nx then .empty else μ x) (a.tmps.getD t' undef) (st.slot t') := h3
    simp only [St.slot, St.own0, look]
    split
    · rename_i ht
      subst ht
      rw [h] at h4
      have h5 : RepC w W (a.tmps.getD t undef) (.full []) := h4
      generalize a.tmps.getD t undef = v at h5
      cases h5 with
      | full ad n es h6 =>
        cases h6 with
        | sl0 => exact rep_own_empty (by simp) 0
        | sl b off cap s es us _ _ hn => simp at hn
    · rename_i ht
      rw [look_rm, if_neg (fun e => ht e.symm)]
      exact h4
  · show MemOk w W _ (st.own0 t sz z).m
    rw [hem]
    exact h2.mem

/-! ### Slices without spare room, as slices -/

def unfA : A → A
  | .full es => .sl es
  | a => a
def unfCs : List A → List A
  | [] => []
  | a :: as => unfA a :: unfCs as
def unfMem : List (Nat × Row) → List (Nat × Row)
  | [] => []
  | q :: r => (q.1, ⟨q.2.ro, q.2.sz, q.2.z, q.2.es.map unfCs⟩) :: unfMem r
def St.unf (st : St) : St := ⟨st.fr, unfMem st.mem, st.nx⟩
theorem unfCs_at : ∀ (cs : List A) (i : Nat), (unfCs cs)[i]? = (cs[i]?).map unfA
  | [], i => by simp [unfCs]
  | c :: cs, i => by
    cases i with
    | zero => simp [unfCs]
    | succ i => simp [unfCs, unfCs_at cs i]
theorem unfCs_len : ∀ cs : List A, (unfCs cs).length = cs.length
  | [] => rfl
  | _ :: cs => by simp [unfCs, unfCs_len cs]
theorem look_unfMem (x : Nat) : ∀ mem : List (Nat × Row), look (unfMem mem) x = (look mem x).map fun r => ⟨r.ro, r.sz, r.z, r.es.map unfCs⟩
  | [] => rfl
  | q :: r => by
    simp only [unfMem, look]
    split
    · rfl
    · exact look_unfMem x r
theorem unf_rep {v : Value} {x : A} (h : RepK w W μ v x) : RepK w W μ v (unfA x) := by
  cases x with
  | full es =>
    have h2 : RepC w W v (.full es) := h
    cases h2 with
    | full a n es h3 => exact repK_of_C h3
  | _ => exact h
theorem St.le_unf : St.le E st st.unf := by
  intro a w ⟨W, μ, hs⟩
  refine ⟨W, μ, { hs with mem := fun x => ?_ }⟩
  show MemAt w W μ x (st.unf.m x)
  have hm : MemAt w W μ x (st.m x) := hs.mem x
  simp only [St.m, St.unf, look_unfMem] at hm ⊢
  split
  · rename_i hx; rw [if_pos hx] at hm; exact hm
  · rename_i hx
    rw [if_neg hx] at hm
    cases hl : look st.mem x with
    | none => rw [hl] at hm; exact hm
    | some r =>
      rw [hl] at hm
      rcases hm with ⟨e1, e2, e3⟩ | ⟨k, e1, hro, hsz, hpos, us, rest, e, h4, h5, h6⟩
      · exact .inl ⟨e1, by show r.es.map unfCs = []; rw [e2]; rfl, e3⟩
      · refine .inr ⟨k, e1, hro, hsz, hpos, us, rest, e, h4, h5, ?_⟩
        show Flat _ r.sz us (r.es.map unfCs)
        refine ⟨by simpa using h6.hl, fun i c hc => ?_, fun i c j b hc hb => ?_⟩
        · simp only [List.getElem?_map, Option.map_eq_some_iff] at hc
          obtain ⟨c0, hc0, rfl⟩ := hc
          rw [unfCs_len]; exact h6.hs i c0 hc0
        · simp only [List.getElem?_map, Option.map_eq_some_iff] at hc
          obtain ⟨c0, hc0, rfl⟩ := hc
          rw [unfCs_at] at hb
          obtain ⟨b0, hb0, rfl⟩ := Option.map_eq_some_iff.1 hb
          obtain ⟨u, hu, hr⟩ := h6.ha i c0 j b0 hc0 hb0
          exact ⟨u, hu, unf_rep hr⟩

/-- A slot's value, said in other words. -/
def St.cast (st : St) (t : Nat) (v : A) : St := ⟨(t, v) :: rm t st.fr, st.mem, st.nx⟩
theorem St.le_cast (t : Nat) (v : A) (h : st.slot t = v) : St.le E st (st.cast t v) := by
  have e : (st.cast t v).toS = st.toS := by
    simp only [St.toS]
    congr 1
    funext x
    simp only [St.slot, St.cast, look]
    split
    · rename_i hx; subst hx; exact h.symm
    · rename_i hx; rw [look_rm, if_neg (fun e => hx e.symm)]
  intro a w hs
  rw [e]; exact hs

/-! ### Ghost steps in a row -/

inductive Gh where
  | unf
  | cast (t : Nat) (v : A)
  | fz (ids : List Nat)
  | own0 (t sz : Nat) (z : List A)

def St.gh (st : St) : Gh → St
  | .unf => st.unf
  | .cast t v => st.cast t v
  | .fz ids => st.fz ids
  | .own0 t sz z => st.own0 t sz z
def St.ghOk (st : St) : Gh → Prop
  | .unf => True
  | .cast t v => st.slot t = v
  | .fz ids => st.fzOk ids
  | .own0 t sz _ => 0 < sz ∧ st.slot t = .full []
theorem St.le_gh (g : Gh) (h : st.ghOk g) : St.le E st (st.gh g) := by
  cases g with
  | unf => exact St.le_unf
  | cast t v => exact St.le_cast t v h
  | fz ids => exact St.le_fz ids h
  | own0 t sz z => exact St.le_own0 t sz z h.1 h.2
theorem St.le_trans {s t u : St} (h : St.le E s t) (k : St.le E t u) : St.le E s u := fun a w hs => k a w (h a w hs)
theorem aw_gh {c : PC} {Q : Exit → St → Prop} (g : Gh) (hok : st.ghOk g) (h : AW C E c Q (st.gh g)) : AW C E c Q st := AW.weak (St.le_gh g hok) h

/-! ### A loop, turn by turn -/

def UL (C : Cx) (E : Env) (c : PC) (Q : Exit → St → Prop) : Nat → St → Prop
  | 0, _ => False
  | n + 1, s => AW C E c (fun e s' => match e with | .normal => UL C E c Q n s' | e => Q e s') s
def UnrQ (C : Cx) (E : Env) (c : PC) (n : Nat) (Q : Exit → St → Prop) : Exit → St → Prop := fun e s' => match e with | .normal => UL C E c Q n s' | e => Q e s'
theorem aw_unroll {c : PC} {Q : Exit → St → Prop} (n : Nat) (h : UL C E c Q n st) : AW C E (.loop c) Q st :=
  aw_loop (G := Nat × St) (fun g => g.2) (fun g => UL C E c Q g.1 g.2) (fun g => g.1) (n, st) h (fun a w h => h) (fun ⟨m, s⟩ hg => by
    cases m with
    | zero => exact hg.elim
    | succ m =>
      refine AW.mono hg fun e s h => ?_
      cases e with
      | normal => exact ⟨(m, s), h, fun a w h => h, Nat.lt_succ_self m⟩
      | _ => exact h)
theorem ul_succ {c : PC} {Q : Exit → St → Prop} {n : Nat} (h : AW C E c (UnrQ C E c n Q) st) : UL C E c Q (n + 1) st := h
theorem unrQ_normal {c : PC} {Q : Exit → St → Prop} (n : Nat) (s : St) : UnrQ C E c n Q .normal s = UL C E c Q n s := rfl
theorem unrQ_ret {c : PC} {Q : Exit → St → Prop} (n : Nat) (s : St) : UnrQ C E c n Q .ret s = Q .ret s := rfl
theorem unrQ_exit {c : PC} {Q : Exit → St → Prop} (n i : Nat) (s : St) : UnrQ C E c n Q (.exit i) s = Q (.exit i) s := rfl

/-! ### Results as plain data -/

def frR (m : Nat → MS) : A → A
  | .tup vs => .tup (frzAll m vs)
  | a => frz m a
def frOkR (m : Nat → MS) : A → Prop
  | .tup vs => frzOkAll m vs
  | a => frzOk m a

def noHands : List A → Bool
  | [] => true
  | a :: as => (match a with | .bool _ | .int _ _ | .str _ | .sl _ | .full _ => true | .agg cs => pureCs cs | _ => false) && noHands as
theorem noHands_at : ∀ {as : List A}, noHands as = true → ∀ a ∈ as, ∀ {w : World} {W : Nat → Prop} {μ μ' : Nat → Loc} {v : Value}, RepV w W μ v a → RepV w W μ' v a
  | b :: bs, h, a, ha, w, W, μ, μ', v, hr => by
    simp only [noHands, Bool.and_eq_true] at h
    rcases List.mem_cons.1 ha with rfl | ha
    · have h1 := h.1
      cases a with
      | agg cs =>
        obtain ⟨vs, hv, hl, hc⟩ := hr
        exact ⟨vs, hv, hl, fun i u c hu hc' => repK_of_C ((hc i u c hu hc').toC (pureCs_at h1 c (List.mem_of_getElem? hc')))⟩
      | bool b => exact hr
      | int k n => exact hr
      | str s => exact hr
      | sl es => exact hr
      | full es => exact hr
      | _ => cases h1
    · exact noHands_at h.2 a ha hr

theorem pfn_of_mfn {f : FuncId} {as : List A} {ms' : List (Nat × Row)} {k' : Nat} {r r' : A} (h : MFn C f as [] 0 r ms' k') (hr : frR (⟨[], ms', k'⟩ : St).m r = r') (hok : frOkR (⟨[], ms', k'⟩ : St).m r)
    (ht : ∀ g b, r ≠ .cnd g b) : PFn C f as r' := by
  intro w W vs hgl hlt hlen hargs
  subst hr
  have hmem0 : MemOk w W noLoc (⟨[], [], 0⟩ : St).m := fun x => by
    show MemAt w W noLoc x ((⟨[], [], 0⟩ : St).m x)
    simp only [St.m, Nat.zero_le, if_true]
    rfl
  refine (h w W noLoc vs hgl hlt hlen hargs hmem0 (fun x y b b' hx => by cases hx)).mono ?_
  rintro e w' ⟨v, W', μ', rfl, hst, hrep⟩
  have hkeep : Keeps (fun _ => False) w w' := hst.keeps.mono fun _ _ hh => by
    obtain ⟨_, y, k, hy, _⟩ := hh
    cases hy
  let E : Env := ⟨w, W, fun _ => False, 0, C.G, 0, noLoc⟩
  have hS : SatW E ⟨fun _ => .any, (⟨[], ms', k'⟩ : St).m⟩ { tmps := #[], defers := [] } w' W' μ' := {
    defers := rfl
    size := rfl
    fr := fun t => trivial
    mem := hst.mem
    inj := hst.inj
    keeps := hkeep
    winlt := hlt
    wsub := fun b hb => by
      by_cases hb2 : b < w.heap.size
      · exact .inl (hst.hW b hb2 hb)
      · exact .inr (by show w.heap.size ≤ b; omega)
    wsup := fun b hb => by
      rcases hst.wsup b hb with h1 | ⟨y, k, hy, _⟩
      · exact .inl h1
      · cases hy
    wlt := hst.wlt
    live := fun x k hx => by
      rcases hst.live x k hx with ⟨y, k1, hy, _⟩ | h1
      · cases hy
      · exact .inr h1
    glob := fun g cs hg => by
      obtain ⟨h1, h2, h3⟩ := hgl g cs hg
      refine ⟨fun hh => h1 (hst.hW g h2 hh), Nat.lt_of_lt_of_le h2 hkeep.size, fun j b hj => ?_⟩
      obtain ⟨u, hu, hr⟩ := h3 j b hj
      exact ⟨u, (World.cell?_of_block (w := w) (hkeep.block g h2 (fun hh => hh))).trans hu, hr.keep hkeep (fun _ _ _ h => h) (fun b hb h1 h2 => h1 (hst.hW b hb h2))⟩
    fix := fun x hx => by exact absurd hx (Nat.not_lt_zero x) }
  have back : ∀ (ids : List Nat) {u : Value} {b : A}, RepV w' (lessW W' μ' ids) noLoc u b → RepV w' W noLoc u b := fun ids u b hb =>
    hb.goes (Keeps.refl (fun _ => False) w') (fun _ _ _ h => h) (fun b _ h1 h2 => h1 ⟨(hst.wsup b h2).elim (fun h => h) (fun ⟨y, k, hy, _⟩ => by cases hy), fun ⟨x, k, _, hx, hxb⟩ => by
      rcases hst.live x k hx with ⟨y, k1, hy, _⟩ | h3
      · cases hy
      · have := hlt b h2; omega⟩) (Old.refl _)
  refine ⟨v, rfl, hkeep, ?_⟩
  cases r with
  | tup rs =>
    obtain ⟨us, hv, hl, hrs⟩ := hrep
    refine ⟨us, hv, by rw [length_frzAll]; exact hl, fun i u b hu hb => ?_⟩
    obtain ⟨c, hc, rfl⟩ := frzAll_at _ i b hb
    exact back _ (rep_frz hS (rep_of_V (hrs i u c hu hc)) (frzOkAll_at hok c (List.mem_of_getElem? hc)) (ids := ownIds c) (fun y hy => hy))
  | cnd g b => exact absurd rfl (ht g b)
  | _ => exact rep_of_V (back _ (rep_frz hS hrep hok (ids := ownIds _) (fun y hy => hy)))
end
end Ab
end Go.Proofs.YtmegjomldcfoaaaDoor
