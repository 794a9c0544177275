/-
  Code on the small machine: statements in a row, tests, blocks, loops; a function out of its code.
-/
import Derived.Scope
import Derived.Test.YtmegjomldcfoaaaDoorAb15
namespace Go.Proofs.YtmegjomldcfoaaaDoor
namespace Ab

inductive PC where
  | skip
  | reg (dr : List Nat) (ops : List POp)
  | regd (dr : List Nat) (ops : List POp)
  | regm (dr : List Nat) (an : List (List Nat)) (ops : List POp)
  | seq (a b : PC)
  | cond (x : PX) (a b : PC)
  | block (id : Nat) (c : PC)
  | loop (c : PC)
  | exit (id : Nat)
  | ret
  | scope (c : PC)
  | label

def chkG (ops : Array Oper) (p : POp) (o : Oper) : Bool :=
  match p.g, o.guard with
  | none, none => true
  | some q, some r => r.2 == q.2 && (ops[r.1]?).bind (·.dst) == some q.1
  | _, _ => false

def chkD (N : Nat) : Option Nat → Bool
  | none => true
  | some d => Nat.blt d N

def chkR (P : Program) (N : Nat) (ops : Array Oper) : List Oper → List POp → Bool
  | [], [] => true
  | o :: os, p :: ps => o.dst == p.dst && chkD N p.dst && chkG ops p o && chkOp P o.op p.po p.xs && chkR P N ops os ps
  | _, _ => false

/-- Operations that leave owned memory alone, by their kind. -/
def PO.quiet : PO → Bool
  | .nilown _ _ | .box _ | .alloc _ _ | .bown _ _ | .store _ | .append _ _ _ | .copy _ | .mk _ _ _ | .callv => false
  | _ => true

def POp.sortOk : List Oper → Nat → Bool
  | [], _ => true
  | o :: os, i => o.after.all (fun e => !Region.binds .any e || Nat.blt e.on i) && POp.sortOk os (i + 1)

def noSel : List Oper → Bool
  | [] => true
  | o :: os => (match o.op with | .select .. => false | _ => true) && noSel os

/-- The slots that an operation looks at. -/
def rdsX : List PX → List Nat
  | [] => []
  | .t n :: ps => n :: rdsX ps
  | _ :: ps => rdsX ps
def POp.rds (p : POp) : List Nat := (match p.g with | none => [] | some q => [q.1]) ++ rdsX p.xs

def conf (p q : POp) : Bool :=
  (match p.dst with | none => false | some d => q.dst == some d || q.rds.contains d) || (match q.dst with | none => false | some d => p.rds.contains d)

/-- What must come before each operation, at once and by way of others. -/
def edgesOf (o : Oper) : List Nat := (o.after.toList.filter fun e => Region.binds .any e).map (·.on)
def ancs : List (List Nat) → List (List Nat) → List (List Nat)
  | acc, [] => acc
  | acc, e :: es => ancs (acc ++ [e ++ e.flatMap fun i => acc.getD i []]) es

def chkOrd (ps : List POp) (an : List (List Nat)) : Bool :=
  (List.range ps.length).all fun j => (List.range j).all fun i => match ps[i]?, ps[j]? with
    | some p, some q => !conf p q || (an.getD j []).contains i
    | _, _ => true

def chkDraw (ops : Array Oper) (ps : List POp) : Bool := POp.sortOk ops.toList 0 && chkOrd ps (ancs [] (ops.toList.map edgesOf))

def chkC (P : Program) (N : Nat) : Code → PC → Bool
  | .skip, .skip => true
  | .region _ ops false, .reg _ ps => chkR P N ops ops.toList ps
  | .region _ ops true, .regd _ ps => chkR P N ops ops.toList ps && chkDraw ops ps
  | .region _ ops true, .regm _ an ps => chkR P N ops ops.toList ps && (POp.sortOk ops.toList 0 && (chkOrd ps an && an == ancs [] (ops.toList.map edgesOf)))
  | .seq a b, .seq c d => chkC P N a c && chkC P N b d
  | .cond x a b, .cond p c d => chkX x p && chkC P N a c && chkC P N b d
  | .block i a, .block j c => i == j && chkC P N a c
  | .loop a, .loop c => chkC P N a c
  | .exit i, .exit j => i == j
  | .ret, .ret => true
  | .scope a, .scope c => chkC P N a c
  | .label _, .label => true
  | _, _ => false

def St.drop (st : St) (dr : List Nat) : St := ⟨rmAll dr st.fr, st.mem, st.nx⟩

/-- The code, run from this state, ends as Q says. -/
def AW (C : Cx) (E : Env) (c : PC) (Q : Exit → St → Prop) (st : St) : Prop :=
  ∀ code, chkC C.P E.N code c = true → ∀ a w, Sat E st.toS a w → code.wp C.P (fun e a' w' => ∃ st', Q e st' ∧ Sat E st'.toS a' w') a w

/-- The one state says less than the other. -/
def St.le (E : Env) (st st' : St) : Prop := ∀ a w, Sat E st.toS a w → Sat E st'.toS a w

/-- The ids below 'k' keep their names. -/
def fixL (l : List (Nat × Nat)) : Nat → Bool
  | 0 => true
  | n + 1 => Nat.beq (rho l n) n && fixL l n
def fixOk (k : Nat) (l : List (Nat × Nat)) (nx : Nat) : Bool := fixL l k && Nat.ble k nx
theorem fixL_at {l : List (Nat × Nat)} : ∀ {k : Nat}, fixL l k = true → ∀ x, x < k → rho l x = x
  | k + 1, h, x, hx => by
    simp only [fixL, Bool.and_eq_true] at h
    by_cases hk : x = k
    · subst hk; exact Nat.eq_of_beq_eq_true h.1
    · exact fixL_at h.2 x (by omega)

section
variable {C : Cx} {E : Env} {Q : Exit → St → Prop} {st : St}

theorem AW.mono {c : PC} {Q' : Exit → St → Prop} (h : AW C E c Q st) (hq : ∀ e s, Q e s → Q' e s) : AW C E c Q' st :=
  fun code hc a w hs => wp_mono (h code hc a w hs) fun e _ _ ⟨st', h1, h2⟩ => ⟨st', hq e st' h1, h2⟩

theorem AW.weak {c : PC} {st' : St} (hle : St.le E st st') (h : AW C E c Q st') : AW C E c Q st :=
  fun code hc a w hs => h code hc a w (hle a w hs)

theorem aw_skip (h : Q .normal st) : AW C E .skip Q st := fun code hc a w hs => by
  cases code <;> simp [chkC] at hc
  exact wp_skip ⟨st, h, hs⟩

theorem aw_label (h : Q .normal st) : AW C E .label Q st := fun code hc a w hs => by
  cases code <;> simp [chkC] at hc
  exact wp_label ⟨st, h, hs⟩

theorem aw_scope {c : PC} (h : AW C E c (fun e s => match e with | .goto _ => False | e => Q e s) st) : AW C E (.scope c) Q st := fun code hc a w hs => by
  cases code <;> simp [chkC] at hc
  rename_i c1
  refine wp_scope_straight (wp_mono (h c1 hc a w hs) fun e a' w' ⟨st', h1, h2⟩ => ?_)
  cases e with
  | goto l => exact h1
  | _ => exact ⟨st', h1, h2⟩

theorem aw_seq {x y : PC} (h : AW C E x (fun e s => match e with | .normal => AW C E y Q s | e => Q e s) st) : AW C E (.seq x y) Q st := fun code hc a w hs => by
  cases code <;> simp [chkC] at hc
  rename_i c1 c2
  refine wp_seq (wp_mono (h c1 hc.1 a w hs) fun e a' w' ⟨st', h1, h2⟩ => ?_)
  cases e with
  | normal => exact h1 c2 hc.2 a' w' h2
  | _ => exact ⟨st', h1, h2⟩

theorem aw_cond {x : PX} {p q : PC} {b : Bool} (hx : xv C.G st.slot x = .bool b) (hG : E.G = C.G) (ht : b = true → AW C E p Q st) (hf : b = false → AW C E q Q st) : AW C E (.cond x p q) Q st := fun code hc a w hs => by
  cases code <;> simp [chkC] at hc
  rename_i o c1 c2
  obtain ⟨W, μ, hs'⟩ := hs
  have hr := rep_xv hs' hc.1.1
  rw [hG] at hr
  have hv : Rep w W μ (a.eval o) (.bool b) := by rw [← hx]; exact hr
  exact wp_cond_split hv.bool (fun hb => ht hb c1 hc.1.2 a w ⟨W, μ, hs'⟩) (fun hb => hf hb c2 hc.2 a w ⟨W, μ, hs'⟩)

theorem aw_block {id : Nat} {c : PC} (h : AW C E c (fun e s => match e with | .exit i => (if i = id then Q .normal s else Q (.exit i) s) | e => Q e s) st) : AW C E (.block id c) Q st := fun code hc a w hs => by
  cases code <;> simp [chkC] at hc
  rename_i i c1
  obtain ⟨rfl, hc⟩ := hc
  refine wp_block (wp_mono (h c1 hc a w hs) fun e a' w' ⟨st', h1, h2⟩ => ?_)
  cases e with
  | exit j =>
    simp only [Exit.inBlock] at h1 ⊢
    split at h1
    · rename_i hj; rw [if_pos hj]; exact ⟨st', h1, h2⟩
    · rename_i hj; rw [if_neg hj]; exact ⟨st', h1, h2⟩
  | _ => exact ⟨st', h1, h2⟩

theorem aw_exit {id : Nat} (h : Q (.exit id) st) : AW C E (.exit id) Q st := fun code hc a w hs => by
  cases code <;> simp [chkC] at hc
  subst hc
  exact wp_exit ⟨st, h, hs⟩

theorem aw_ret (h : Q .ret st) : AW C E .ret Q st := fun code hc a w hs => by
  cases code <;> simp [chkC] at hc
  exact wp_ret ⟨st, h, hs⟩

/-- A loop: its invariant, by a family of states, and a measure. -/
theorem aw_loop {c : PC} {G : Type} (I : G → St) (inv : G → Prop) (μ : G → Nat) (g0 : G) (h0 : inv g0) (hle : St.le E st (I g0))
    (h : ∀ g, inv g → AW C E c (fun e s => match e with | .normal => ∃ g', inv g' ∧ St.le E s (I g') ∧ μ g' < μ g | e => Q e s) (I g)) : AW C E (.loop c) Q st := fun code hc a w hs => by
  cases code <;> simp [chkC] at hc
  rename_i c1
  refine wp_mono (c := .loop c1) (Q := fun e a' w' => ∃ st', Q e st' ∧ Sat E st'.toS a' w') ?_ (fun _ _ _ h => h)
  -- the invariant over concrete states: the least measure that fits
  have key : ∀ n g, μ g = n → inv g → ∀ a w, Sat E (I g).toS a w → ∀ (b : Frame) (k : List Item) (cs : List Frame),
      ∃ e a' w', (∃ st', Q e st' ∧ Sat E st'.toS a' w') ∧ Arrives C.P (lone (b.at a (.code c1 :: .inLoop c1 :: k)) cs w) b k cs e a' w' := by
    intro n
    induction n using Nat.strongRecOn with
    | _ n ih =>
      intro g hn hg a w hs b k cs
      obtain ⟨e, a₁, w₁, ⟨st', hq, hs'⟩, harr⟩ := h g hg c1 hc a w hs b (.inLoop c1 :: k) cs
      cases e with
      | normal =>
        obtain ⟨g', hg', hle', hlt⟩ := hq
        obtain ⟨e₂, a₂, w₂, hq₂, harr₂⟩ := ih (μ g') (hn ▸ hlt) g' rfl hg' a₁ w₁ (hle' a₁ w₁ hs') b k cs
        exact ⟨e₂, a₂, w₂, hq₂, .of_steps (Steps.trans harr (.one step_inLoop)) harr₂⟩
      | exit id => exact ⟨_, a₁, w₁, ⟨st', hq, hs'⟩, .pass (x := .inLoop c1) rfl (fun _ _ => .inl (by simp)) harr⟩
      | goto l => exact ⟨_, a₁, w₁, ⟨st', hq, hs'⟩, .pass (x := .inLoop c1) rfl (fun _ _ => .inl (by simp)) harr⟩
      | ret => exact ⟨_, a₁, w₁, ⟨st', hq, hs'⟩, .pass (x := .inLoop c1) rfl (fun _ _ => .inl (by simp)) harr⟩
      | panic ch => exact ⟨_, a₁, w₁, ⟨st', hq, hs'⟩, .pass (x := .inLoop c1) rfl (fun _ _ => .inl (by simp)) harr⟩
      | outgrown => exact ⟨_, a₁, w₁, ⟨st', hq, hs'⟩, .pass (x := .inLoop c1) rfl (fun _ _ => .inl (by simp)) harr⟩
  intro b k cs
  obtain ⟨e, a', w', hq, harr⟩ := key _ g0 rfl h0 a w (hle a w hs) b k cs
  exact ⟨e, a', w', hq, .of_steps (.one step_loop) harr⟩

/-! ### Regions -/

theorem chkG_spec {ops : Array Oper} {p : POp} {o : Oper} (h : chkG ops p o = true) : match p.g, o.guard with | none, none => True | some q, some r => r.2 = q.2 ∧ (ops[r.1]?).bind (·.dst) = some q.1 | _, _ => False := by
  unfold chkG at h
  cases hp : p.g <;> cases ho : o.guard <;> simp only [hp, ho] at h ⊢ <;> first | trivial | (cases h; done) | (simp only [Bool.and_eq_true, beq_iff_eq] at h; exact h)

theorem chkR_spec {P : Program} {N : Nat} {ops : Array Oper} {G : Globs} : ∀ (os : List Oper) (ps : List POp) (n : Nat), chkR P N ops os ps = true → (∀ i, os[i]? = ops[n + i]?) → n + os.length = ops.size → ROk ⟨P, G⟩ N ops n ps
  | [], [], n, _, _, hl => by
    show n = ops.size
    simpa using hl
  | o :: os, p :: ps, n, hc, h, hl => by
    simp only [chkR, Bool.and_eq_true, beq_iff_eq] at hc
    obtain ⟨⟨⟨⟨h1, h2⟩, h3⟩, h4⟩, h5⟩ := hc
    refine ⟨⟨o, by have := h 0; simpa using this.symm, h1, fun d hd => ?_, chkG_spec h3, h4⟩, chkR_spec os ps (n + 1) h5 (fun i => ?_) (by simp at hl; omega)⟩
    · rw [hd] at h2; simpa [chkD] using h2
    · have := h (i + 1)
      simp only [List.getElem?_cons_succ] at this
      rw [this]; congr 1; omega
  | [], _ :: _, _, hc, _, _ => by simp [chkR] at hc
  | _ :: _, [], _, hc, _, _ => by simp [chkR] at hc

theorem look_rmAll {α : Type} : ∀ (ns : List Nat) (l : List (Nat × α)) (t : Nat), look (rmAll ns l) t = if t ∈ ns then none else look l t
  | [], l, t => by simp [rmAll]
  | n :: ns, l, t => by
    simp only [rmAll]
    rw [look_rmAll ns, look_rm]
    by_cases h1 : t ∈ ns
    · simp [h1]
    · by_cases h2 : t = n
      · simp [h2]
      · simp [h1, h2]

theorem Sat.drop {a : Act} {w : World} {dr : List Nat} (h : Sat E st.toS a w) : Sat E (st.drop dr).toS a w := by
  obtain ⟨W, μ, hs⟩ := h
  refine ⟨W, μ, { hs with fr := fun t => ?_ }⟩
  show Rep w W μ _ ((st.drop dr).slot t)
  simp only [St.slot, St.drop, look_rmAll]
  split
  · trivial
  · exact hs.fr t

theorem aw_reg {dr : List Nat} {ops : List POp} (hG : E.G = C.G) (h : arun C ops st fun s => Q .normal (s.drop dr)) : AW C E (.reg dr ops) Q st := fun code hc a w hs => by
  cases code with
  | region id os d =>
   cases d with
   | true => simp [chkC] at hc
   | false =>
    simp only [chkC] at hc
    refine region_sound hG (ps := ops) ?_ hs h (fun st' a' w' hK hs' => ⟨_, hK, hs'.drop⟩)
    obtain ⟨P, G⟩ := C
    exact chkR_spec os.toList ops 0 hc (by simp) (by simp)
  | _ => simp [chkC] at hc

/-! ### A state that says less -/

def idOk (nx : Nat) : A → Prop
  | .agg cs => if pureCs cs then True else ∀ c ∈ cs, idOk1 nx c
  | .tup _ => False
  | .cnd _ _ => False
  | a => idOk1 nx a

def leF (l : List (Nat × Nat)) (st : St) (nx : Nat) : List (Nat × A) → Prop
  | [] => True
  | q :: r => st.slot q.1 = ren l q.2 ∧ idOk nx q.2 ∧ leF l st nx r

def leM (l : List (Nat × Nat)) (st : St) (nx : Nat) : List (Nat × Row) → Prop
  | [] => True
  | q :: r => (match look st.mem (rho l q.1) with
      | some r' => (q.2.ro = true ∨ r'.ro = false) ∧ r'.sz = q.2.sz ∧ r'.es = renEs l q.2.es
      | none => False) ∧ rho l q.1 < st.nx ∧ q.1 < nx ∧ idEs nx q.2.es ∧ leM l st nx r

/-- 'st' says at least what 'st'' says, the ids of the latter read by 'l'. -/
def Le (l : List (Nat × Nat)) (st st' : St) : Prop := leF l st st'.nx st'.fr ∧ leM l st st'.nx st'.mem ∧ distinct (st'.mem.map fun q => rho l q.1) = true

theorem leF_at {l : List (Nat × Nat)} {nx : Nat} : ∀ {fr : List (Nat × A)}, leF l st nx fr → ∀ t v, look fr t = some v → st.slot t = ren l v ∧ idOk nx v
  | q :: r, h, t, v, hv => by
    simp only [look] at hv
    split at hv
    · rename_i hq; cases hv; subst hq; exact ⟨h.1, h.2.1⟩
    · exact leF_at h.2.2 t v hv

theorem leM_at {l : List (Nat × Nat)} {nx : Nat} : ∀ {m : List (Nat × Row)}, leM l st nx m → ∀ x r, look m x = some r → (∃ r', look st.mem (rho l x) = some r' ∧ (r.ro = true ∨ r'.ro = false) ∧ r'.sz = r.sz ∧ r'.es = renEs l r.es) ∧ rho l x < st.nx ∧ x < nx ∧ idEs nx r.es
  | q :: r, h, t, v, hv => by
    simp only [look] at hv
    split at hv
    · rename_i hq; cases hv; subst hq
      obtain ⟨h1, h2, h3, h4, _⟩ := h
      refine ⟨?_, h2, h3, h4⟩
      split at h1
      · rename_i r' hr'; exact ⟨r', hr', h1⟩
      · exact h1.elim
    · exact leM_at h.2.2.2.2 t v hv

theorem repP_ren {l : List (Nat × Nat)} {nx : Nat} {w : World} {W : Nat → Prop} {μ μ' : Nat → Loc} (hμ : ∀ x, x < nx → (μ' x = μ (rho l x) ∨ μ' x = .dead)) {v : Value} {b : A} (hid : idOk0 nx b) (h : RepP w W μ v (ren0 l b)) : RepP w W μ' v b := by
  cases b with
  | own x lo n =>
    refine ⟨h.1, ?_⟩
    rcases hμ x hid with e | e
    · rw [e]; exact h.2
    · rw [e]; trivial
  | ptr x i j =>
    refine ⟨h.1, ?_⟩
    rcases hμ x hid with e | e
    · rw [e]; exact h.2
    · rw [e]; trivial
  | _ => exact h
theorem rep_ren {l : List (Nat × Nat)} {nx : Nat} {w : World} {W : Nat → Prop} {μ μ' : Nat → Loc} (hμ : ∀ x, x < nx → (μ' x = μ (rho l x) ∨ μ' x = .dead)) {v : Value} {b : A} (hid : idOk1 nx b) (h : RepK w W μ v (ren1 l b)) : RepK w W μ' v b := by
  cases b with
  | clo f cs =>
    obtain ⟨vs, hv, hl, hr⟩ := h
    exact ⟨vs, hv, by simpa using hl, fun i u c hu hc => repP_ren hμ (hid c (List.mem_of_getElem? hc)) (hr i u (ren0 l c) hu (by simp [hc]))⟩
  | own x lo n => exact (repP_ren (b := .own x lo n) hμ hid (h.toP rfl)).toK
  | ptr x i j => exact (repP_ren (b := .ptr x i j) hμ hid (h.toP rfl)).toK
  | _ => exact h

theorem St.le_of {E : Env} (l : List (Nat × Nat)) {st st' : St} (h : Le l st st') (hk : fixOk E.k0 l st'.nx = true) : St.le E st st' := by
  intro a w ⟨W, μ, hs⟩
  obtain ⟨hF, hM, hD⟩ := h
  simp only [fixOk, Bool.and_eq_true] at hk
  obtain ⟨hk1, hk2⟩ := hk
  have hk2 : E.k0 ≤ st'.nx := Nat.le_of_ble_eq_true hk2
  let μ' : Nat → Loc := fun x => if st'.nx ≤ x then .fresh else match look st'.mem x with | some _ => μ (rho l x) | none => .dead
  have hμ : ∀ x, x < st'.nx → (μ' x = μ (rho l x) ∨ μ' x = .dead) := fun x hx => by
    show (if st'.nx ≤ x then Loc.fresh else _) = _ ∨ (if st'.nx ≤ x then Loc.fresh else _) = _
    rw [if_neg (by omega)]
    cases look st'.mem x with
    | none => exact .inr rfl
    | some r => exact .inl rfl
  have hat : ∀ x k, μ' x = .at_ k → μ (rho l x) = .at_ k ∧ ∃ r, look st'.mem x = some r := fun x k hx => by
    have hx' : (if st'.nx ≤ x then Loc.fresh else match look st'.mem x with | some _ => μ (rho l x) | none => .dead) = .at_ k := hx
    split at hx'
    · cases hx'
    · split at hx'
      · rename_i r hr; exact ⟨hx', r, hr⟩
      · cases hx'
  refine ⟨W, μ', { hs with fr := fun t => ?_, mem := fun x => ?_, inj := fun x y k k' hx hy he => ?_, live := fun x k hx => hs.live _ k (hat x k hx).1, fix := fun x hx => ?_ }⟩
  · show Rep w W μ' _ (st'.slot t)
    simp only [St.slot]
    cases hl : look st'.fr t with
    | none => trivial
    | some v =>
      obtain ⟨h1, h2⟩ := leF_at hF t v hl
      have hr := hs.fr t
      rw [show st.toS.fr t = st.slot t from rfl, h1] at hr
      simp only [Option.getD_some]
      cases v with
      | agg cs =>
        simp only [ren, idOk] at hr h2
        split at hr
        · rename_i hp
          obtain ⟨vs, hv, hlen, hc⟩ := hr
          exact ⟨vs, hv, hlen, fun i u c hu hc' => repK_of_C ((hc i u c hu hc').toC (pureCs_at hp c (List.mem_of_getElem? hc')))⟩
        · rename_i hp
          rw [if_neg hp] at h2
          obtain ⟨vs, hv, hlen, hc⟩ := hr
          exact ⟨vs, hv, by simpa using hlen, fun i u c hu hc' => rep_ren hμ (h2 c (List.mem_of_getElem? hc')) (hc i u _ hu (by simp [hc']))⟩
      | clo f cs => exact rep_of_V (repV_of_K (rep_ren (b := .clo f cs) hμ h2 hr))
      | tup cs => exact h2.elim
      | cnd g b => exact h2.elim
      | any => trivial
      | bool b => exact rep_of_V (repV_of_K (rep_ren (b := .bool b) hμ h2 hr))
      | int k n => exact rep_of_V (repV_of_K (rep_ren (b := .int k n) hμ h2 hr))
      | str b => exact rep_of_V (repV_of_K (rep_ren (b := .str b) hμ h2 hr))
      | sl es => exact rep_of_V (repV_of_K (rep_ren (b := .sl es) hμ h2 hr))
      | full es => exact rep_of_V (repV_of_K (rep_ren (b := .full es) hμ h2 hr))
      | own x lo n => exact rep_of_V (repV_of_K (rep_ren (b := .own x lo n) hμ h2 hr))
      | ptr x i j => exact rep_of_V (repV_of_K (rep_ren (b := .ptr x i j) hμ h2 hr))
      | rd cs off => exact rep_of_V (repV_of_K (rep_ren (b := .rd cs off) hμ h2 hr))
  · show MemAt w W μ' x (st'.m x)
    unfold St.m
    by_cases hx : st'.nx ≤ x
    · rw [if_pos hx]
      show (if st'.nx ≤ x then Loc.fresh else _) = _
      rw [if_pos hx]
    · rw [if_neg hx]
      cases hl : look st'.mem x with
      | none =>
        show (if st'.nx ≤ x then Loc.fresh else match look st'.mem x with | some _ => μ (rho l x) | none => .dead) = _
        rw [if_neg hx, hl]
      | some r =>
        obtain ⟨⟨r', h1, hro, hsz, hes⟩, h2, h3, h4⟩ := leM_at hM x r hl
        have hm := hs.mem (rho l x)
        rw [show st.toS.mem (rho l x) = MS.row r' by show st.m _ = _; unfold St.m; rw [if_neg (by omega), h1]] at hm
        have hμx : μ' x = μ (rho l x) := by
          show (if st'.nx ≤ x then Loc.fresh else match look st'.mem x with | some _ => μ (rho l x) | none => .dead) = _
          rw [if_neg hx, hl]
        rcases hm with ⟨e1, e2, e3⟩ | ⟨k, e1, e2, e3, e4, us, rest, e, e5, e6, e7⟩
        · refine .inl ⟨hμx.trans e1, ?_, by omega⟩
          rw [hes] at e2
          simp only [renEs] at e2
          split at e2
          · exact e2
          · exact List.map_eq_nil_iff.1 e2
        · refine .inr ⟨k, hμx.trans e1, fun hr => e2 (hro.elim (fun h => by rw [hr] at h; cases h) (fun h => h)), e3.trans hsz, by omega, us, rest, e, e5, e6, ?_⟩
          rw [hes, hsz] at e7
          exact flat_un e7 h4 (fun u b hid hr => rep_ren hμ hid hr) (fun u b hp hr => repK_of_C (hr.toC hp))
  · obtain ⟨h1, r1, h2⟩ := hat x k hx
    obtain ⟨h3, r2, h4⟩ := hat y k' hy
    exact distinct_inj hD x y r1 r2 h2 h4 (hs.inj _ _ k k' h1 h3 he)
  · have h1 := fixL_at hk1 x hx
    rcases hμ x (by omega) with e | e
    · rw [e, h1]; exact hs.fix x hx
    · exact .inr e
end
end Ab
end Go.Proofs.YtmegjomldcfoaaaDoor
