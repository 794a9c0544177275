/-
  Code on the small machine: statements in a row, tests, zeo4, loops; a function out of its code.
-/
import Derived.Scope
import Derived.Test.YtfjeceicgfdmjaaGreatDoorAb15
import Derived.Orders
namespace Go.Proofs.YtfjeceicgfdmjaaGreatDoor
namespace Ab
set_option linter.unusedSimpArgs false
set_option linter.unusedVariables false
inductive PC where
  | skip
  | reg (dr : List Nat) (ops : List POp)
  | regd (dr : List Nat) (ops : List POp)
  | regm (dr : List Nat) (an : List (List Nat)) (ops : List POp)
  | seq (a b : PC)
  | cond (x : PX) (a b : PC)
  | block (id : Nat) (c : PC)
  | loop (c : PC)
  | exit (id : Nat)
  | ret
  | scope (c : PC)
  | label
  | dead
def chkG (ops : Array Oper) (p : POp) (o : Oper) : Bool :=
  match p.g, o.guard with
  | none, none => true
  | some q, some r => r.2 == q.2 && (ops[r.1]?).bind (·.dst) == some q.1
  | _, _ => false
def chkD (N : Nat) : Option Nat → Bool
  | none => true
  | some d => Nat.blt d N
def chkR (P : Program) (N : Nat) (ops : Array Oper) : List Oper → List POp → Bool
  | [], [] => true
  | o :: os, p :: ps => o.dst == p.dst && chkD N p.dst && chkG ops p o && zaF6 P o.op p.po p.xs && chkR P N ops os ps
  | _, _ => false
def PO.quiet : PO → Bool
  | .nilown _ _ | .box _ | .alloc _ _ | .bown _ _ | .store _ | .append _ _ _ | .copy _ | .clear _ _ | .mk _ _ _ | .callv => false
  | _ => true
def POp.sortOk : List Oper → Nat → Bool
  | [], _ => true
  | o :: os, i => o.after.all (fun e => !Region.binds .any e || Nat.blt e.on i) && POp.sortOk os (i + 1)
def rdsX : List PX → List Nat
  | [] => []
  | .t n :: ps => n :: rdsX ps
  | _ :: ps => rdsX ps
def POp.rds (p : POp) : List Nat := (match p.g with | none => [] | some q => [q.1]) ++ rdsX p.xs
def conf (p q : POp) : Bool :=
  (match p.dst with | none => false | some d => q.dst == some d || q.rds.contains d) || (match q.dst with | none => false | some d => p.rds.contains d)
def zr3 (o : Oper) : List Nat := (o.after.toList.filter fun e => Region.binds .any e).map (·.on)
def ancs : List (List Nat) → List (List Nat) → List (List Nat)
  | acc, [] => acc
  | acc, e :: es => ancs (acc ++ [e ++ e.flatMap fun i => acc.getD i []]) es
def zaK7 (ps : List POp) (an : List (List Nat)) : Bool :=
  (List.range ps.length).all fun j => (List.range j).all fun i => match ps[i]?, ps[j]? with
    | some p, some q => !conf p q || (an.getD j []).contains i
    | _, _ => true
def zbE5 (ops : Array Oper) (ps : List POp) : Bool := POp.sortOk ops.toList 0 && zaK7 ps (ancs [] (ops.toList.map zr3))
def chkC (P : Program) (N : Nat) : Code → PC → Bool
  | .skip, .skip => true
  | .region _ ops false, .reg _ ps => chkR P N ops ops.toList ps
  | .region _ ops true, .regd _ ps => chkR P N ops ops.toList ps && zbE5 ops ps
  | .region _ ops true, .regm _ an ps => chkR P N ops ops.toList ps && (POp.sortOk ops.toList 0 && (zaK7 ps an && an == ancs [] (ops.toList.map zr3)))
  | .seq a b, .seq c d => chkC P N a c && chkC P N b d
  | .cond x a b, .cond p c d => chkX x p && chkC P N a c && chkC P N b d
  | .block i a, .block j c => i == j && chkC P N a c
  | .loop a, .loop c => chkC P N a c
  | .exit i, .exit j => i == j
  | .ret, .ret => true
  | .scope a, .scope c => chkC P N a c
  | .label _, .label => true
  | _, .dead => true
  | _, _ => false
def St.drop (st : St) (dr : List Nat) : St := ⟨zbk0 dr st.fr, st.mem, st.nx⟩
def AW (C : Cx) (E : Env) (c : PC) (Q : Exit → St → Prop) (st : St) : Prop :=
  ∀ code, chkC C.P E.N code c = true → ∀ a w, Sat E st.toS a w → code.wp C.P (fun e a' w' => ∃ st', Q e st' ∧ Sat E st'.toS a' w') a w
def St.le (E : Env) (st st' : St) : Prop := ∀ a w, Sat E st.toS a w → Sat E st'.toS a w
def fixL (l : List (Nat × Nat)) : Nat → Bool
  | 0 => true
  | n + 1 => Nat.beq (rho l n) n && fixL l n
def zat5 (k : Nat) (l : List (Nat × Nat)) (nx : Nat) : Bool := fixL l k && Nat.ble k nx
theorem zbE6 {l : List (Nat × Nat)} : ∀ {k : Nat}, fixL l k = true → ∀ x, x < k → rho l x = x
  | k + 1, h, x, hx => by
    simp only [fixL, Bool.and_eq_true] at h
    by_cases hk : x = k
    · subst hk; exact Nat.eq_of_beq_eq_true h.1
    · exact zbE6 h.2 x (by omega)
section
variable {C : Cx} {E : Env} {Q : Exit → St → Prop} {st : St}
theorem AW.mono {c : PC} {Q' : Exit → St → Prop} (h : AW C E c Q st) (hq : ∀ e s, Q e s → Q' e s) : AW C E c Q' st :=
  fun code hc a w hs => wp_mono (h code hc a w hs) fun e _ _ ⟨st', h1, h2⟩ => ⟨st', hq e st' h1, h2⟩
theorem AW.weak {c : PC} {st' : St} (hle : St.le E st st') (h : AW C E c Q st') : AW C E c Q st :=
  fun code hc a w hs => h code hc a w (hle a w hs)
theorem zci1 (h : Q .normal st) : AW C E .skip Q st := fun code hc a w hs => by
  cases code <;> simp [chkC] at hc
  exact wp_skip ⟨st, h, hs⟩
theorem zbM8 (h : Q .normal st) : AW C E .label Q st := fun code hc a w hs => by
  cases code <;> simp [chkC] at hc
  exact wp_label ⟨st, h, hs⟩
theorem zbu0 {c : PC} (h : AW C E c (fun e s => match e with | .goto _ => False | e => Q e s) st) : AW C E (.scope c) Q st := fun code hc a w hs => by
  cases code <;> simp [chkC] at hc
  rename_i c1
  refine wp_scope_straight (wp_mono (h c1 hc a w hs) fun e a' w' ⟨st', h1, h2⟩ => ?_)
  cases e with
  | goto l => exact h1
  | _ => exact ⟨st', h1, h2⟩
theorem zea2 {x y : PC} (h : AW C E x (fun e s => match e with | .normal => AW C E y Q s | e => Q e s) st) : AW C E (.seq x y) Q st := fun code hc a w hs => by
  cases code <;> simp [chkC] at hc
  rename_i c1 c2
  refine wp_seq (wp_mono (h c1 hc.1 a w hs) fun e a' w' ⟨st', h1, h2⟩ => ?_)
  cases e with
  | normal => exact h1 c2 hc.2 a' w' h2
  | _ => exact ⟨st', h1, h2⟩
theorem zaU9 {x : PX} {p q : PC} {b : Bool} (hx : xv C.G st.slot x = .bool b) (hG : E.G = C.G) (ht : b = true → AW C E p Q st) (hf : b = false → AW C E q Q st) : AW C E (.cond x p q) Q st := fun code hc a w hs => by
  cases code <;> simp [chkC] at hc
  rename_i o c1 c2
  obtain ⟨W, μ, hs'⟩ := hs
  have hr := zaW3 hs' hc.1.1
  rw [hG] at hr
  have hv : Rep w W μ (a.eval o) (.bool b) := by rw [← hx]; exact hr
  exact wp_cond_split hv.bool (fun hb => ht hb c1 hc.1.2 a w ⟨W, μ, hs'⟩) (fun hb => hf hb c2 hc.2 a w ⟨W, μ, hs'⟩)
theorem zbu1 {id : Nat} {c : PC} (h : AW C E c (fun e s => match e with | .exit i => (if i = id then Q .normal s else Q (.exit i) s) | e => Q e s) st) : AW C E (.block id c) Q st := fun code hc a w hs => by
  cases code <;> simp [chkC] at hc
  rename_i i c1
  obtain ⟨rfl, hc⟩ := hc
  refine wp_block (wp_mono (h c1 hc a w hs) fun e a' w' ⟨st', h1, h2⟩ => ?_)
  cases e with
  | exit j =>
    simp only [Exit.inBlock] at h1 ⊢
    split at h1
    · rename_i hj; rw [if_pos hj]; exact ⟨st', h1, h2⟩
    · rename_i hj; rw [if_neg hj]; exact ⟨st', h1, h2⟩
  | _ => exact ⟨st', h1, h2⟩
theorem zci2 {id : Nat} (h : Q (.exit id) st) : AW C E (.exit id) Q st := fun code hc a w hs => by
  cases code <;> simp [chkC] at hc
  subst hc
  exact wp_exit ⟨st, h, hs⟩
theorem zea3 (h : Q .ret st) : AW C E .ret Q st := fun code hc a w hs => by
  cases code <;> simp [chkC] at hc
  exact wp_ret ⟨st, h, hs⟩
theorem zbE7 {c : PC} {G : Type} (I : G → St) (inv : G → Prop) (μ : G → Nat) (g0 : G) (h0 : inv g0) (hle : St.le E st (I g0))
    (h : ∀ g, inv g → AW C E c (fun e s => match e with | .normal => ∃ g', inv g' ∧ St.le E s (I g') ∧ μ g' < μ g | e => Q e s) (I g)) : AW C E (.loop c) Q st := fun code hc a w hs => by
  cases code <;> simp [chkC] at hc
  rename_i c1
  refine wp_mono (c := .loop c1) (Q := fun e a' w' => ∃ st', Q e st' ∧ Sat E st'.toS a' w') ?_ (fun _ _ _ h => h)
  have key : ∀ n g, μ g = n → inv g → ∀ a w, Sat E (I g).toS a w → ∀ (b : Frame) (k : List Item) (cs : List Frame),
      ∃ e a' w', (∃ st', Q e st' ∧ Sat E st'.toS a' w') ∧ Arrives C.P (lone (b.at a (.code c1 :: .inLoop c1 :: k)) cs w) b k cs e a' w' := by
    intro n
    induction n using Nat.strongRecOn with
    | _ n ih =>
      intro g hn hg a w hs b k cs
      obtain ⟨e, a₁, w₁, ⟨st', hq, hs'⟩, harr⟩ := h g hg c1 hc a w hs b (.inLoop c1 :: k) cs
      cases e with
      | normal =>
        obtain ⟨g', hg', hle', hlt⟩ := hq
        obtain ⟨e₂, a₂, w₂, hq₂, harr₂⟩ := ih (μ g') (hn ▸ hlt) g' rfl hg' a₁ w₁ (hle' a₁ w₁ hs') b k cs
        exact ⟨e₂, a₂, w₂, hq₂, .of_steps (Steps.trans harr (.one step_inLoop)) harr₂⟩
      | exit id => exact ⟨_, a₁, w₁, ⟨st', hq, hs'⟩, .pass (x := .inLoop c1) rfl (fun _ _ => .inl (by simp)) harr⟩
      | goto l => exact ⟨_, a₁, w₁, ⟨st', hq, hs'⟩, .pass (x := .inLoop c1) rfl (fun _ _ => .inl (by simp)) harr⟩
      | ret => exact ⟨_, a₁, w₁, ⟨st', hq, hs'⟩, .pass (x := .inLoop c1) rfl (fun _ _ => .inl (by simp)) harr⟩
      | panic ch => exact ⟨_, a₁, w₁, ⟨st', hq, hs'⟩, .pass (x := .inLoop c1) rfl (fun _ _ => .inl (by simp)) harr⟩
      | outgrown => exact ⟨_, a₁, w₁, ⟨st', hq, hs'⟩, .pass (x := .inLoop c1) rfl (fun _ _ => .inl (by simp)) harr⟩
  intro b k cs
  obtain ⟨e, a', w', hq, harr⟩ := key _ g0 rfl h0 a w (hle a w hs) b k cs
  exact ⟨e, a', w', hq, .of_steps (.one step_loop) harr⟩
theorem zbH1 {ops : Array Oper} {p : POp} {o : Oper} (h : chkG ops p o = true) : match p.g, o.guard with | none, none => True | some q, some r => r.2 = q.2 ∧ (ops[r.1]?).bind (·.dst) = some q.1 | _, _ => False := by
  unfold chkG at h
  cases hp : p.g <;> cases ho : o.guard <;> simp only [hp, ho] at h ⊢ <;> first | trivial | (cases h; done) | (simp only [Bool.and_eq_true, beq_iff_eq] at h; exact h)
theorem zay2 {P : Program} {N : Nat} {ops : Array Oper} {G : zaP9} : ∀ (os : List Oper) (ps : List POp) (n : Nat), chkR P N ops os ps = true → (∀ i, os[i]? = ops[n + i]?) → n + os.length = ops.size → ROk ⟨P, G⟩ N ops n ps
  | [], [], n, _, _, hl => by
    show n = ops.size
    simpa using hl
  | o :: os, p :: ps, n, hc, h, hl => by
    simp only [chkR, Bool.and_eq_true, beq_iff_eq] at hc
    obtain ⟨⟨⟨⟨h1, h2⟩, h3⟩, h4⟩, h5⟩ := hc
    refine ⟨⟨o, by have := h 0; simpa using this.symm, h1, fun d hd => ?_, zbH1 h3, h4⟩, zay2 os ps (n + 1) h5 (fun i => ?_) (by simp at hl; omega)⟩
    · rw [hd] at h2; simpa [chkD] using h2
    · have := h (i + 1)
      simp only [List.getElem?_cons_succ] at this
      rw [this]; congr 1; omega
  | [], _ :: _, _, hc, _, _ => by simp [chkR] at hc
  | _ :: _, [], _, hc, _, _ => by simp [chkR] at hc
theorem zaY2 {α : Type} : ∀ (ns : List Nat) (l : List (Nat × α)) (t : Nat), look (zbk0 ns l) t = if t ∈ ns then none else look l t
  | [], l, t => by simp [zbk0]
  | n :: ns, l, t => by
    simp only [zbk0]
    rw [zaY2 ns, zac7]
    by_cases h1 : t ∈ ns
    · simp [h1]
    · by_cases h2 : t = n
      · simp [h2]
      · simp [h1, h2]
theorem Sat.drop {a : Act} {w : World} {dr : List Nat} (h : Sat E st.toS a w) : Sat E (st.drop dr).toS a w := by
  obtain ⟨W, μ, hs⟩ := h
  refine ⟨W, μ, { hs with fr := fun t => ?_ }⟩
  show Rep w W μ _ ((st.drop dr).slot t)
  simp only [St.slot, St.drop, zaY2]
  split
  · trivial
  · exact hs.fr t
theorem zea4 {dr : List Nat} {ops : List POp} (hG : E.G = C.G) (h : arun C ops st fun s => Q .normal (s.drop dr)) : AW C E (.reg dr ops) Q st := fun code hc a w hs => by
  cases code with
  | region id os d =>
   cases d with
   | true => simp [chkC] at hc
   | false =>
    simp only [chkC] at hc
    refine zbo7 hG (ps := ops) ?_ hs h (fun st' a' w' hK hs' => ⟨_, hK, hs'.drop⟩)
    obtain ⟨P, G⟩ := C
    exact zay2 os.toList ops 0 hc (by simp) (by simp)
  | _ => simp [chkC] at hc
def idOk (nx : Nat) : A → Prop
  | .agg cs => if zg5 cs then True else ∀ c ∈ cs, zaQ0 nx c
  | .tup _ => False
  | .cnd _ _ => False
  | a => zaQ0 nx a
def leF (l : List (Nat × Nat)) (st : St) (nx : Nat) : List (Nat × A) → Prop
  | [] => True
  | q :: r => st.slot q.1 = ren l q.2 ∧ idOk nx q.2 ∧ leF l st nx r
def leM (l : List (Nat × Nat)) (st : St) (nx : Nat) : List (Nat × Row) → Prop
  | [] => True
  | q :: r => (match look st.mem (rho l q.1) with
      | some r' => (q.2.ro = true ∨ r'.ro = false) ∧ r'.sz = q.2.sz ∧ r'.es = zai6 l q.2.es
      | none => False) ∧ rho l q.1 < st.nx ∧ q.1 < nx ∧ idEs nx q.2.es ∧ leM l st nx r
def Le (l : List (Nat × Nat)) (st st' : St) : Prop := leF l st st'.nx st'.fr ∧ leM l st st'.nx st'.mem ∧ zae3 (st'.mem.map fun q => rho l q.1) = true
theorem zbM9 {l : List (Nat × Nat)} {nx : Nat} : ∀ {fr : List (Nat × A)}, leF l st nx fr → ∀ t v, look fr t = some v → st.slot t = ren l v ∧ idOk nx v
  | q :: r, h, t, v, hv => by
    simp only [look] at hv
    split at hv
    · rename_i hq; cases hv; subst hq; exact ⟨h.1, h.2.1⟩
    · exact zbM9 h.2.2 t v hv
theorem zbN0 {l : List (Nat × Nat)} {nx : Nat} : ∀ {m : List (Nat × Row)}, leM l st nx m → ∀ x r, look m x = some r → (∃ r', look st.mem (rho l x) = some r' ∧ (r.ro = true ∨ r'.ro = false) ∧ r'.sz = r.sz ∧ r'.es = zai6 l r.es) ∧ rho l x < st.nx ∧ x < nx ∧ idEs nx r.es
  | q :: r, h, t, v, hv => by
    simp only [look] at hv
    split at hv
    · rename_i hq; cases hv; subst hq
      obtain ⟨h1, h2, h3, h4, _⟩ := h
      refine ⟨?_, h2, h3, h4⟩
      split at h1
      · rename_i r' hr'; exact ⟨r', hr', h1⟩
      · exact h1.elim
    · exact zbN0 h.2.2.2.2 t v hv
theorem zaY3 {l : List (Nat × Nat)} {nx : Nat} {w : World} {W : Nat → Prop} {μ μ' : Nat → Loc} (hμ : ∀ x, x < nx → (μ' x = μ (rho l x) ∨ μ' x = .dead)) {v : Value} {b : A} (hid : zbt5 nx b) (h : RepP w W μ v (ren0 l b)) : RepP w W μ' v b := by
  cases b with
  | own x lo n =>
    refine ⟨h.1, ?_⟩
    rcases hμ x hid with e | e
    · rw [e]; exact h.2
    · rw [e]; trivial
  | ptr x i j =>
    refine ⟨h.1, ?_⟩
    rcases hμ x hid with e | e
    · rw [e]; exact h.2
    · rw [e]; trivial
  | _ => exact h
theorem zT9 {l : List (Nat × Nat)} {nx : Nat} {w : World} {W : Nat → Prop} {μ μ' : Nat → Loc} (hμ : ∀ x, x < nx → (μ' x = μ (rho l x) ∨ μ' x = .dead)) {v : Value} {b : A} (hid : zaQ0 nx b) (h : RepK w W μ v (ren1 l b)) : RepK w W μ' v b := by
  cases b with
  | clo f cs =>
    obtain ⟨vs, hv, hl, hr⟩ := h
    exact ⟨vs, hv, by simpa using hl, fun i u c hu hc => zaY3 hμ (hid c (List.mem_of_getElem? hc)) (hr i u (ren0 l c) hu (by simp [hc]))⟩
  | own x lo n => exact (zaY3 (b := .own x lo n) hμ hid (h.toP rfl)).toK
  | ptr x i j => exact (zaY3 (b := .ptr x i j) hμ hid (h.toP rfl)).toK
  | _ => exact h
theorem St.le_of {E : Env} (l : List (Nat × Nat)) {st st' : St} (h : Le l st st') (hk : zat5 E.k0 l st'.nx = true) : St.le E st st' := by
  intro a w ⟨W, μ, hs⟩
  obtain ⟨hF, hM, hD⟩ := h
  simp only [zat5, Bool.and_eq_true] at hk
  obtain ⟨hk1, hk2⟩ := hk
  have hk2 : E.k0 ≤ st'.nx := Nat.le_of_ble_eq_true hk2
  let μ' : Nat → Loc := fun x => if st'.nx ≤ x then .fresh else match look st'.mem x with | some _ => μ (rho l x) | none => .dead
  have hμ : ∀ x, x < st'.nx → (μ' x = μ (rho l x) ∨ μ' x = .dead) := fun x hx => by
    show (if st'.nx ≤ x then Loc.fresh else _) = _ ∨ (if st'.nx ≤ x then Loc.fresh else _) = _
    rw [if_neg (by omega)]
    cases look st'.mem x with
    | none => exact .inr rfl
    | some r => exact .inl rfl
  have hat : ∀ x k, μ' x = .at_ k → μ (rho l x) = .at_ k ∧ ∃ r, look st'.mem x = some r := fun x k hx => by
    have hx' : (if st'.nx ≤ x then Loc.fresh else match look st'.mem x with | some _ => μ (rho l x) | none => .dead) = .at_ k := hx
    split at hx'
    · cases hx'
    · split at hx'
      · rename_i r hr; exact ⟨hx', r, hr⟩
      · cases hx'
  refine ⟨W, μ', { hs with fr := fun t => ?_, mem := fun x => ?_, inj := fun x y k k' hx hy he => ?_, live := fun x k hx => hs.live _ k (hat x k hx).1, fix := fun x hx => ?_ }⟩
  · show Rep w W μ' _ (st'.slot t)
    simp only [St.slot]
    cases hl : look st'.fr t with
    | none => trivial
    | some v =>
      obtain ⟨h1, h2⟩ := zbM9 hF t v hl
      have hr := hs.fr t
      rw [show st.toS.fr t = st.slot t from rfl, h1] at hr
      simp only [Option.getD_some]
      cases v with
      | agg cs =>
        simp only [ren, idOk] at hr h2
        split at hr
        · rename_i hp
          obtain ⟨vs, hv, hlen, hc⟩ := hr
          exact ⟨vs, hv, hlen, fun i u c hu hc' => zf5 ((hc i u c hu hc').toC (zv2 hp c (List.mem_of_getElem? hc')))⟩
        · rename_i hp
          rw [if_neg hp] at h2
          obtain ⟨vs, hv, hlen, hc⟩ := hr
          exact ⟨vs, hv, by simpa using hlen, fun i u c hu hc' => zT9 hμ (h2 c (List.mem_of_getElem? hc')) (hc i u _ hu (by simp [hc']))⟩
      | clo f cs => exact zf0 (ze8 (zT9 (b := .clo f cs) hμ h2 hr))
      | tup cs => exact h2.elim
      | cnd g b => exact h2.elim
      | any => trivial
      | bool b => exact zf0 (ze8 (zT9 (b := .bool b) hμ h2 hr))
      | int k n => exact zf0 (ze8 (zT9 (b := .int k n) hμ h2 hr))
      | str b => exact zf0 (ze8 (zT9 (b := .str b) hμ h2 hr))
      | sl es => exact zf0 (ze8 (zT9 (b := .sl es) hμ h2 hr))
      | full es => exact zf0 (ze8 (zT9 (b := .full es) hμ h2 hr))
      | own x lo n => exact zf0 (ze8 (zT9 (b := .own x lo n) hμ h2 hr))
      | ptr x i j => exact zf0 (ze8 (zT9 (b := .ptr x i j) hμ h2 hr))
      | rd cs off => exact zf0 (ze8 (zT9 (b := .rd cs off) hμ h2 hr))
  · show zae0 w W μ' x (st'.m x)
    unfold St.m
    by_cases hx : st'.nx ≤ x
    · rw [if_pos hx]
      show (if st'.nx ≤ x then Loc.fresh else _) = _
      rw [if_pos hx]
    · rw [if_neg hx]
      cases hl : look st'.mem x with
      | none =>
        show (if st'.nx ≤ x then Loc.fresh else match look st'.mem x with | some _ => μ (rho l x) | none => .dead) = _
        rw [if_neg hx, hl]
      | some r =>
        obtain ⟨⟨r', h1, hro, hsz, hes⟩, h2, h3, h4⟩ := zbN0 hM x r hl
        have hm := hs.mem (rho l x)
        rw [show st.toS.mem (rho l x) = MS.row r' by show st.m _ = _; unfold St.m; rw [if_neg (by omega), h1]] at hm
        have hμx : μ' x = μ (rho l x) := by
          show (if st'.nx ≤ x then Loc.fresh else match look st'.mem x with | some _ => μ (rho l x) | none => .dead) = _
          rw [if_neg hx, hl]
        rcases hm with ⟨e1, e2, e3⟩ | ⟨k, e1, e2, e3, e4, us, rest, e, e5, e6, e7⟩
        · refine .inl ⟨hμx.trans e1, ?_, by omega⟩
          rw [hes] at e2
          simp only [zai6] at e2
          split at e2
          · exact e2
          · exact List.map_eq_nil_iff.1 e2
        · refine .inr ⟨k, hμx.trans e1, fun hr => e2 (hro.elim (fun h => by rw [hr] at h; cases h) (fun h => h)), e3.trans hsz, by omega, us, rest, e, e5, e6, ?_⟩
          rw [hes, hsz] at e7
          exact zbE4 e7 h4 (fun u b hid hr => zT9 hμ hid hr) (fun u b hp hr => zf5 (hr.toC hp))
  · obtain ⟨h1, r1, h2⟩ := hat x k hx
    obtain ⟨h3, r2, h4⟩ := hat y k' hy
    exact zao9 hD x y r1 r2 h2 h4 (hs.inj _ _ k k' h1 h3 he)
  · have h1 := zbE6 hk1 x hx
    rcases hμ x (by omega) with e | e
    · rw [e, h1]; exact hs.fix x hx
    · exact .inr e
end
end Ab
end Go.Proofs.YtfjeceicgfdmjaaGreatDoor
namespace Go.Proofs.YtfjeceicgfdmjaaGreatDoor
namespace Ab
set_option linter.unusedSimpArgs false
set_option linter.unusedVariables false
def zG8 : Nat → List A → List (Nat × A)
 | _, [] => []
 | n, a :: as => (n, a) :: zG8 (n + 1) as
inductive RX where
 | t (n : Nat)
 | c (n sz : Nat) (ag : Bool)
def zae4 (P : Program) : List ResultVar → List RX → Bool
 | [], [] => true
 | .tmp t :: rs, .t n :: ns => t == n && zae4 P rs ns
 | .cell t T :: rs, .c n sz ag :: ns => t == n && tyOk P T ag sz && zae4 P rs ns
 | _, _ => false
def chkF (P : Program) (f : FuncId) (pc : PC) (N : Nat) (rs : List RX) (np : Nat) : Bool :=
 match P.funcs[f]? with
 | some fn => (match fn.body with
  | some c => chkC P N c pc
  | none => false) && fn.ntmps == N && zae4 P fn.results.toList rs && Nat.ble np N
 | none => false
def resA (st : St) : RX → A
 | .t n => st.slot n
 | .c n sz ag => match ev st.nx st.m (.load sz ag) [st.slot n] with
  | some ef => ef.v
  | none => .any
def resG (st : St) : RX → Prop
 | .t _ => True
 | .c n sz ag => match ev st.nx st.m (.load sz ag) [st.slot n] with
  | some ef => ef.obl
  | none => False
def allG (st : St) : List RX → Prop
 | [] => True
 | x :: xs => (resG st x ∧ zaa1 st.m (resA st x)) ∧ allG st xs
def zar1 (st : St) : List RX → List A
 | [] => []
 | x :: xs => frz st.m (resA st x) :: zar1 st xs
def zbE8 : List A → A
 | [x] => x
 | xs => .tup xs
def zbk8 (st : St) (rs : List RX) (r : A) : Prop := allG st rs ∧ zbE8 (zar1 st rs) = r
def resL (st : St) : List RX → List A
 | [] => []
 | x :: xs => resA st x :: resL st xs
def zaY4 (st : St) : List RX → Prop
 | [] => True
 | x :: xs => resG st x ∧ zaY4 st xs
def zbk9 : List A → Bool
 | [] => true
 | x :: xs => x.isVV && zbk9 xs
def zaK8 (k : Nat) (st : St) (rs : List RX) (rl : List A) (ms' : List (Nat × Row)) (k' : Nat) : Prop :=
 zaY4 st rs ∧ zbk9 rl = true ∧ ∃ l, Le l ⟨zG8 0 (resL st rs), st.mem, st.nx⟩ ⟨zG8 0 rl, ms', k'⟩ ∧ zat5 k l k' = true
def zbN1 (k : Nat) (rs : List RX) (rl : List A) (ms' : List (Nat × Row)) (k' : Nat) : Exit → St → Prop
 | .ret, st => zaK8 k st rs rl ms' k'
 | .normal, st => zaK8 k st rs rl ms' k'
 | _, _ => False
def zbE9 : List (Nat × Row) → Bool
 | [] => true
 | q :: r => !q.2.ro && zbE9 r
def Post (rs : List RX) (r : A) : Exit → St → Prop
 | .ret, st => zbk8 st rs r
 | .normal, st => zbk8 st rs r
 | _, _ => False
section
variable {C : Cx}
theorem zaa2 : ∀ (as : List A) (n t : Nat), look (zG8 n as) t = if n ≤ t then as[t - n]? else none
 | [], n, t => by simp [zG8, look]
 | a :: as, n, t => by
  simp only [zG8, look]
  by_cases h : n = t
  ·subst h; simp
  ·rw [if_neg h, zaa2 as (n + 1) t]
   by_cases h2 : n + 1 ≤ t
   ·rw [if_pos h2, if_pos (by omega)]
    rw [show t - n = (t - (n + 1)) + 1 by omega]
    simp
   ·rw [if_neg h2]
    by_cases h3 : n ≤ t
    ·omega
    ·rw [if_neg h3]
def zaK9 : List Value → Value
 | [v] => v
 | us => .tuple us.toArray
theorem zat6 {E : Env} {st : St} {a : Act} {w : World} {W : Nat → Prop} {μ : Nat → Loc} (hs : SatW E st.toS a w W μ) {F : ResultVar → Sem Value} (hF : ∀ t, F (.tmp t) = pure (a.tmps.getD t undef))
  (hC : ∀ t T, F (.cell t T) = do loadVar T (← asAddr (a.tmps.getD t undef))) : ∀ (l : List ResultVar) (ns : List RX), zae4 C.P l ns = true → zaY4 st ns →
  ∃ us, (l.mapM F).run C.P w = .ok us w ∧ us.length = ns.length ∧ ∀ (i : Nat) (u : Value) (x : RX), us[i]? = some u → ns[i]? = some x → Rep w W μ u (resA st x)
 | [], [], _, _ => ⟨[], rfl, rfl, fun i u x h => by simp at h⟩
 | [], _ :: _, h, _ => by simp [zae4] at h
 | x :: l, [], h, _ => by cases x <;> simp [zae4] at h
 | .cell _ _ :: _, .t _ :: _, h, _ => by simp [zae4] at h
 | .tmp _ :: _, .c _ _ _ :: _, h, _ => by simp [zae4] at h
 | .tmp t :: l, .t n :: ns, h, hg => by
  simp only [zae4, Bool.and_eq_true, beq_iff_eq] at h
  obtain ⟨rfl, h2⟩ := h
  obtain ⟨us, e1, e2, e3⟩ := zat6 hs hF hC l ns h2 hg.2
  refine ⟨a.tmps.getD t undef :: us, ?_, by simp [e2], fun i u x hu hx => ?_⟩
  ·simp only [List.mapM_cons, Sem.run_bind, hF, Sem.run_pure, Result.andThen_ok, e1]
  ·cases i with
   | zero => rw [List.getElem?_cons_zero] at hu hx; cases hu; cases hx; exact hs.fr t
   | succ i => exact e3 i u x (by simpa using hu) (by simpa using hx)
 | .cell t T :: l, .c n sz ag :: ns, h, hg => by
  simp only [zae4, Bool.and_eq_true, beq_iff_eq] at h
  obtain ⟨⟨rfl, hT⟩, h2⟩ := h
  obtain ⟨us, e1, e2, e3⟩ := zat6 hs hF hC l ns h2 hg.2
  have hg1 := hg.1
  have hl : ∃ u, (F (.cell t T)).run C.P w = .ok u w ∧ Rep w W μ u (resA st (.c t sz ag)) := by
   simp only [resG] at hg1
   split at hg1
   ·rename_i ef he
    obtain ⟨b, q, u, h1, h3, h4⟩ := zbt0 (P := C.P) hs hT (hs.fr t) he hg1
    refine ⟨u, ?_, ?_⟩
    ·rw [hC]
     simp only [h1, Sem.run_bind]
     show (((loadVar T ⟨b, q, none⟩).run C.P w)) = _
     exact h3
    ·simp only [resA, he]; exact h4
   ·exact hg1.elim
  obtain ⟨u0, h5, h6⟩ := hl
  refine ⟨u0 :: us, ?_, by simp [e2], fun i u x hu hx => ?_⟩
  ·simp only [List.mapM_cons, Sem.run_bind, h5, Sem.run_pure, Result.andThen_ok, e1]
  ·cases i with
   | zero => simp at hu hx; subst hu; subst hx; exact h6
   | succ i => exact e3 i u x (by simpa using hu) (by simpa using hx)
theorem zaQ3 (fn : Func) {E : Env} {st : St} {a : Act} {w : World} {W : Nat → Prop} {μ : Nat → Loc} (hs : SatW E st.toS a w W μ) {rs : List RX} (h : zae4 C.P fn.results.toList rs = true) (hg : zaY4 st rs) :
  ∃ us, (results fn a.tmps).run C.P w = .ok (zaK9 us) w ∧ us.length = rs.length ∧ ∀ (i : Nat) (u : Value) (x : RX), us[i]? = some u → rs[i]? = some x → Rep w W μ u (resA st x) := by
 have e : ∀ F : ResultVar → Sem Value, fn.results.mapM F = Functor.map List.toArray (fn.results.toList.mapM F) := fun F => by
  rw [← List.mapM_toArray, Array.toArray_toList]
 let F : ResultVar → Sem Value := fun
  | .tmp t => pure (a.tmps.getD t undef)
  | .cell x t => do loadVar t (← asAddr (a.tmps.getD x undef))
 have eF : results fn a.tmps = (do
   let vs ← fn.results.mapM F
   pure (if h : vs.size = 1 then vs[0] else .tuple vs)) := by
  unfold results
  congr 1
 obtain ⟨us, h1, h2, h3⟩ := zat6 (C := C) hs (F := F) (fun t => rfl) (fun t T => rfl) _ _ h hg
 refine ⟨us, ?_, h2, h3⟩
 rw [eF]
 simp only [Sem.run_bind]
 rw [e F, Sem.run_map, h1]
 simp only [Result.andThen_ok, Sem.run_pure, List.size_toArray]
 match us with
 | [t] => simp [zaK9]
 | [] => simp [zaK9]
 | _ :: _ :: _ => simp [zaK9]
theorem zbu2 {st : St} : ∀ {rs : List RX}, allG st rs → zaY4 st rs
 | [], _ => trivial
 | _ :: _, h => ⟨h.1.1, zbu2 h.2⟩
theorem zbF0 {st : St} : ∀ {rs : List RX}, allG st rs → ∀ (i : Nat) (x : RX), rs[i]? = some x → zaa1 st.m (resA st x)
 | y :: ys, h, i, x, hx => by
  cases i with
  | zero => simp at hx; subst hx; exact h.1.2
  | succ i => exact zbF0 h.2 i x (by simpa using hx)
 | [], _, i, x, hx => by simp at hx
theorem zbu3 {st : St} : ∀ (rs : List RX) (i : Nat), (zar1 st rs)[i]? = (rs[i]?).map fun x => frz st.m (resA st x)
 | [], i => by simp [zar1]
 | y :: ys, i => by
  cases i with
  | zero => simp [zar1]
  | succ i => simpa [zar1] using zbu3 ys i
theorem za8 {f : FuncId} {pc : PC} {N np : Nat} {rs : List RX} (hchk : chkF C.P f pc N rs np = true) {as : List A} (hnp : as.length = np) {r : A}
  (h : ∀ E : Env, E.G = C.G → E.N = N → E.k0 = 0 → AW C E pc (Post rs r) ⟨zG8 0 as, [], 0⟩) : PFn C f as r := by
 intro w W vs hgl hlt hlen hargs
 unfold chkF at hchk
 split at hchk
 ·rename_i fn hfn
  simp only [Bool.and_eq_true, beq_iff_eq] at hchk
  obtain ⟨⟨⟨hc, hN⟩, hres⟩, hle⟩ := hchk
  have hle : np ≤ N := Nat.le_of_ble_eq_true hle
  split at hc
  ·rename_i c hb
   let E : Env := ⟨w, W, fun _ => False, N, C.G, 0, zT6⟩
   have hS : SatW E (⟨zG8 0 as, [], 0⟩ : St).toS { tmps := vs.toArray ++ Array.replicate (fn.ntmps - vs.toArray.size) undef, defers := [] } w W zT6 := {
    defers := rfl
    size := by simp; show vs.length + (fn.ntmps - vs.length) = N; omega
    fr := fun t => by
     show Rep w W zT6 _ ((⟨zG8 0 as, [], 0⟩ : St).slot t)
     simp only [St.slot, zaa2, Nat.zero_le, if_true, Nat.sub_zero]
     cases ha : as[t]? with
     | none => trivial
     | some b =>
      have ht : t < vs.length := by rw [hlen]; exact (List.getElem?_eq_some_iff.1 ha).1
      have hv : vs[t]? = some vs[t] := by simp [ht]
      have : (vs.toArray ++ Array.replicate (fn.ntmps - vs.toArray.size) undef).getD t undef = vs[t] := by
       rw [Array.getD_eq_getD_getElem?, Array.getElem?_append_left (by simpa using ht)]
       simp [ht]
      rw [this]
      exact zf0 (hargs t _ b hv ha)
    mem := fun x => by show zae0 w W zT6 x ((⟨zG8 0 as, [], 0⟩ : St).m x); simp [St.m, zae0, zT6]
    inj := fun x y k k' hx => by cases hx
    keeps := Keeps.refl _ w
    winlt := hlt
    wsub := fun b h => .inl h
    wsup := fun b h => .inl h
    wlt := hlt
    live := fun x k hx => by cases hx
    glob := hgl
    fix := fun x hx => absurd hx (Nat.not_lt_zero x) }
   have hwp := h E rfl rfl rfl c hc _ w ⟨W, zT6, hS⟩
   refine calls_of_wp hfn hb (wp_mono hwp fun e a' w' ⟨st', hq, W', μ', hs'⟩ => ?_)
   have fin : zbk8 st' rs r → a'.defers = [] ∧ ∃ v, (results fn a'.tmps).run C.P w' = .ok v w' ∧ ∃ u, Ending.returned v = .returned u ∧ Keeps (fun _ => False) w w' ∧ Rep w' W zT6 u r := fun hro => by
    obtain ⟨hg, hr⟩ := hro
    obtain ⟨us, hrun, hul, hus⟩ := zaQ3 fn hs' hres (zbu2 hg)
    refine ⟨hs'.defers, _, hrun, _, rfl, hs'.keeps, ?_⟩
    have toW : ∀ {v : Value} {b : A}, RepV w' (zac4 W' μ' (zab4 b)) zT6 v (frz st'.m b) → RepV w' W zT6 v (frz st'.m b) := fun {v b} hv =>
     hv.goes (Keeps.refl (fun _ => False) w') (fun _ _ _ h => h) (fun q _ h1 h2 => h1 ⟨(hs'.wsup q h2).elim id (fun h => h.elim), fun ⟨x, k, _, hk, hkb⟩ => by
      rcases hs'.live x k hk with h3 | h3
      ·exact h3
      ·have := hlt q h2
       have h4 : w.heap.size ≤ k.b := h3
       omega⟩) (Old.refl _)
    have one : ∀ (i : Nat) (u : Value) (x : RX), us[i]? = some u → rs[i]? = some x → RepV w' W zT6 u (frz st'.m (resA st' x)) := fun i u x hu hx => toW (zbo6 (s := st'.toS) hs' (hus i u x hu hx) (zbF0 hg i x hx) (fun y hy => hy))
    subst hr
    match rs, us, hul, one with
    | [x], [u], _, one => exact zf0 (one 0 u x rfl rfl)
    | [], [], _, one => exact ⟨[], by simp [zaK9], by simp [zar1], by simp⟩
    | x1 :: x2 :: xs, u1 :: u2 :: us, hul, one =>
     refine ⟨u1 :: u2 :: us, rfl, ?_, fun i u b hu hb => ?_⟩
     ·simp only [zar1, List.length_cons] at hul ⊢
      have : ∀ l, (zar1 st' l).length = l.length := fun l => by induction l with
       | nil => rfl
       | cons a l ih => simp [zar1, ih]
      rw [this]; omega
     ·have hb' : (zar1 st' (x1 :: x2 :: xs))[i]? = some b := hb
      rw [zbu3, Option.map_eq_some_iff] at hb'
      obtain ⟨x, hx, rfl⟩ := hb'
      exact one i u x hu hx
   cases e with
   | normal => exact fin hq
   | ret => exact fin hq
   | _ => exact hq.elim
  ·cases hc
 ·cases hchk
theorem zbu4 : ∀ {ms : List (Nat × Row)}, zbE9 ms = true → ∀ x r, look ms x = some r → r.ro = false
 | q :: ms, h, x, r, hr => by
  simp only [zbE9, Bool.and_eq_true, Bool.not_eq_true'] at h
  simp only [look] at hr
  split at hr
  ·cases hr; exact h.1
  ·exact zbu4 h.2 x r hr
theorem zbu5 : ∀ {l : List A}, zbk9 l = true → ∀ x ∈ l, x.isVV = true
 | y :: ys, h, x, hx => by
  simp only [zbk9, Bool.and_eq_true] at h
  rcases List.mem_cons.1 hx with rfl | hx
  ·exact h.1
  ·exact zbu5 h.2 x hx
theorem zbF1 {st : St} : ∀ (rs : List RX) (i : Nat), (resL st rs)[i]? = (rs[i]?).map fun x => resA st x
 | [], i => by simp [resL]
 | y :: ys, i => by
  cases i with
  | zero => simp [resL]
  | succ i => simpa [resL] using zbF1 ys i
theorem zn5 {f : FuncId} {pc : PC} {N np : Nat} {rs : List RX} (hchk : chkF C.P f pc N rs np = true) {as : List A} (hnp : as.length = np) {ms ms' : List (Nat × Row)} {k k' : Nat} {rl : List A} (hms : zbE9 ms = true) (hall : zbk2 ms k = true)
  (hrl : rl.length = rs.length) (h : ∀ E : Env, E.G = C.G → E.N = N → E.k0 = k → AW C E pc (zbN1 k rs rl ms' k') ⟨zG8 0 as, ms, k⟩) : MFn C f as ms k (zbE8 rl) ms' k' := by
 intro w W μ vs hgl hlt hlen hargs hmem hinj
 unfold chkF at hchk
 split at hchk
 ·rename_i fn hfn
  simp only [Bool.and_eq_true, beq_iff_eq] at hchk
  obtain ⟨⟨⟨hc, hN⟩, hres⟩, hle⟩ := hchk
  have hle : np ≤ N := Nat.le_of_ble_eq_true hle
  have hrow : ∀ x r, (⟨[], ms, k⟩ : St).m x = .row r → r.ro = false := fun x r hx => by
   simp only [St.m] at hx
   split at hx
   ·cases hx
   ·cases hl : look ms x with
    | none => rw [hl] at hx; cases hx
    | some r' => rw [hl] at hx; cases hx; exact zbu4 hms x r hl
  have hfr : ∀ x, k ≤ x → μ x = .fresh := fun x hx => by
   have := hmem x
   rw [show (⟨[], ms, k⟩ : St).m x = .fresh by simp only [St.m]; rw [if_pos hx]] at this
   exact this
  have hnf : ∀ x, x < k → μ x ≠ .fresh := fun x hx hf => by
   obtain ⟨r, hr⟩ := zaD4 hall x hx
   have := hmem x
   rw [show (⟨[], ms, k⟩ : St).m x = .row r by simp only [St.m, hr]; rw [if_neg (by omega)]] at this
   rcases this with ⟨h1, _⟩ | ⟨kb, h1, _⟩
   ·rw [hf] at h1; cases h1
   ·rw [hf] at h1; cases h1
  have hown : ∀ x kb, μ x = .at_ kb → W kb.b := fun x kb hx => by
   obtain ⟨r, h1, h2⟩ := hmem.at_ hx
   exact h2.1 (hrow x r h1)
  split at hc
  ·rename_i c hb
   let E : Env := ⟨w, W, fun b => W b ∧ ∃ y kb, μ y = .at_ kb ∧ kb.b = b, N, C.G, k, μ⟩
   have hS : SatW E (⟨zG8 0 as, ms, k⟩ : St).toS { tmps := vs.toArray ++ Array.replicate (fn.ntmps - vs.toArray.size) undef, defers := [] } w W μ := {
    defers := rfl
    size := by simp; show vs.length + (fn.ntmps - vs.length) = N; omega
    fr := fun t => by
     show Rep w W μ _ ((⟨zG8 0 as, ms, k⟩ : St).slot t)
     simp only [St.slot, zaa2, Nat.zero_le, if_true, Nat.sub_zero]
     cases ha : as[t]? with
     | none => trivial
     | some b =>
      have ht : t < vs.length := by rw [hlen]; exact (List.getElem?_eq_some_iff.1 ha).1
      have hv : vs[t]? = some vs[t] := by simp [ht]
      have : (vs.toArray ++ Array.replicate (fn.ntmps - vs.toArray.size) undef).getD t undef = vs[t] := by
       rw [Array.getD_eq_getD_getElem?, Array.getElem?_append_left (by simpa using ht)]
       simp [ht]
      rw [this]
      exact zf0 (hargs t _ b hv ha)
    mem := hmem
    inj := hinj
    keeps := Keeps.refl _ w
    winlt := hlt
    wsub := fun b h => .inl h
    wsup := fun b h => .inl h
    wlt := hlt
    live := fun x kb hx => .inl ⟨hown x kb hx, x, kb, hx, rfl⟩
    glob := hgl
    fix := fun x hx => .inl ⟨rfl, hnf x hx⟩ }
   have hwp := h E rfl rfl rfl c hc _ w ⟨W, μ, hS⟩
   refine calls_of_wp hfn hb (wp_mono hwp fun e a' w' ⟨st', hq, W1, μ1, hs'⟩ => ?_)
   have fin : zaK8 k st' rs rl ms' k' → a'.defers = [] ∧ ∃ v, (results fn a'.tmps).run C.P w' = .ok v w' ∧ ∃ u W' μ', Ending.returned v = .returned u ∧ Step (⟨[], ms, k⟩ : St).m (⟨[], ms', k'⟩ : St).m w w' W W' μ μ' ∧ Rep w' W' μ' u (zbE8 rl) := fun ⟨hg, hvv, l, hle', hfx⟩ => by
    obtain ⟨us, hrun, hul, hus⟩ := zaQ3 fn hs' hres hg
    let E' : Env := { E with N := us.length }
    have hs1 : SatW E' (⟨zG8 0 (resL st' rs), st'.mem, st'.nx⟩ : St).toS { tmps := us.toArray, defers := [] } w' W1 μ1 := {
     defers := rfl
     size := by simp; rfl
     fr := fun t => by
      show Rep w' W1 μ1 _ ((⟨zG8 0 (resL st' rs), st'.mem, st'.nx⟩ : St).slot t)
      simp only [St.slot, zaa2, Nat.zero_le, if_true, Nat.sub_zero, zbF1]
      cases hx : rs[t]? with
      | none => trivial
      | some x =>
       have ht : t < us.length := by rw [hul]; exact (List.getElem?_eq_some_iff.1 hx).1
       have : us.toArray.getD t undef = us[t] := by simp [Array.getD, ht]
       show Rep w' W1 μ1 (us.toArray.getD t undef) (resA st' x)
       rw [this]
       exact hus t _ x (by simp [ht]) hx
     mem := hs'.mem
     inj := hs'.inj
     keeps := hs'.keeps
     winlt := hs'.winlt
     wsub := hs'.wsub
     wsup := hs'.wsup
     wlt := hs'.wlt
     live := hs'.live
     glob := hs'.glob
     fix := hs'.fix }
    obtain ⟨W2, μ2, hs2⟩ := St.le_of (E := E') l hle' hfx _ w' ⟨W1, μ1, hs1⟩
    have hst : Step (⟨[], ms, k⟩ : St).m (⟨[], ms', k'⟩ : St).m w w' W W2 μ μ2 := {
     keeps := hs2.keeps
     hW := fun b hb h => by
      rcases hs2.wsub b h with h1 | h1
      ·exact h1
      ·have h2 : w.heap.size ≤ b := h1; omega
     wsup := fun b hb => by
      rcases hs2.wsup b hb with h1 | h1
      ·exact .inl h1
      ·exact .inr h1.2
     wlt0 := hlt
     wlt := hs2.wlt
     old := fun x hx => by
      by_cases hxk : x < k
      ·rcases hs2.fix x hxk with h1 | h1
       ·exact .inl h1.1
       ·exact .inr h1
      ·exact absurd (hfr x (by omega)) hx
     mem := hs2.mem
     inj := hs2.inj
     live := fun x kb hx => by
      rcases hs2.live x kb hx with h1 | h1
      ·exact .inl h1.2
      ·exact .inr h1 }
    have one : ∀ (i : Nat) (u : Value) (b : A), us[i]? = some u → rl[i]? = some b → RepV w' W2 μ2 u b := fun i u b hu hb => by
     have h1 := hs2.fr i
     have hi : i < us.length := (List.getElem?_eq_some_iff.1 hu).1
     have h2 : (⟨zG8 0 rl, ms', k'⟩ : St).slot i = b := by simp only [St.slot, zaa2, Nat.zero_le, if_true, Nat.sub_zero, hb, Option.getD_some]
     have h3 : us.toArray.getD i undef = u := by
      rw [List.getElem?_eq_getElem hi] at hu; cases hu; simp [Array.getD, hi]
     have h4 : Rep w' W2 μ2 (us.toArray.getD i undef) ((⟨zG8 0 rl, ms', k'⟩ : St).slot i) := h1
     rw [h2, h3] at h4
     have hv := zbu5 hvv b (List.mem_of_getElem? hb)
     exact h4.toVV hv
    refine ⟨hs'.defers, _, hrun, _, W2, μ2, rfl, hst, ?_⟩
    match rl, us, (hul.trans hrl.symm), one with
    | [b], [u], _, one => exact zf0 (one 0 u b rfl rfl)
    | [], [], _, _ => exact ⟨[], by simp [zaK9], by simp, by simp⟩
    | b1 :: b2 :: bs, u1 :: u2 :: us, hul, one => exact ⟨u1 :: u2 :: us, rfl, hul, one⟩
   cases e with
   | normal => exact fin hq
   | ret => exact fin hq
   | _ => exact hq.elim
  ·cases hc
 ·cases hchk
end
end Ab
end Go.Proofs.YtfjeceicgfdmjaaGreatDoor
namespace Go.Proofs.YtfjeceicgfdmjaaGreatDoor
namespace Ab
set_option linter.unusedSimpArgs false
set_option linter.unusedVariables false
def zar2 (C : Cx) : List POp → St → (St → Prop) → Prop
 | [], st, K => K st
 | p :: ps, st, K => aop C p st fun st' => (st'.mem = st.mem ∧ st'.nx = st.nx) ∧ zar2 C ps st' K
section
variable {C : Cx} {E : Env}
theorem zci3 {p : POp} {st : St} {K : St → Prop} (h : aop C p st K) : ∃ v mw, K (st.app p.dst v mw) ∧ aop C p st (fun s => s = st.app p.dst v mw) := by
 unfold aop at h ⊢
 cases hg : zz5 st p.g with
 | none => simp [hg] at h
 | some g =>
  simp only [hg] at h ⊢
  cases hp : p.po <;> simp only [hp] at h ⊢
  case pick =>
   split at h
   ·split at h
    ·exact ⟨_, _, h.2, h.1, rfl⟩
    ·exact h.elim
   ·exact h.elim
  case call f =>
   obtain ⟨r, h1, h2, h3⟩ := h
   exact ⟨_, _, h3, r, h1, h2, rfl⟩
  case callv =>
   split at h
   ·obtain ⟨r, h1, h2, h3⟩ := h
    exact ⟨_, _, h3, r, h1, h2, rfl⟩
   ·exact h.elim
  case callm f =>
   obtain ⟨h1, h2, l, as, ms, k, r, ms', k', h3, h4, h5, h6, h7⟩ := h
   exact ⟨_, _, h7, h1, h2, l, as, ms, k, r, ms', k', h3, h4, h5, h6, rfl⟩
  case callvm =>
   split at h
   ·obtain ⟨h1, h2, hb, l, as, ms, k, r, ms', k', h3, h4, h5, h6, h7⟩ := h
    exact ⟨_, _, h7, h1, h2, hb, l, as, ms, k, r, ms', k', h3, h4, h5, h6, rfl⟩
   ·exact h.elim
  all_goals
   split at h
   ·exact ⟨_, _, h.2.2, h.1, h.2.1, rfl⟩
   ·exact h.elim
theorem zaa3 {x : PX} {f g : Nat → A} (G : zaP9) (h : ∀ t ∈ rdsX [x], f t = g t) : xv G f x = xv G g x := by
 cases x <;> first | rfl | exact h _ (by simp [rdsX])
theorem zz6 (x : PX) (xs : List PX) (t : Nat) : t ∈ rdsX (x :: xs) ↔ t ∈ rdsX [x] ∨ t ∈ rdsX xs := by
 cases x <;> simp [rdsX]
theorem zaG0 {st st2 : St} : ∀ (xs : List PX), (∀ t ∈ rdsX xs, st.slot t = st2.slot t) → zf6 C st xs = zf6 C st2 xs ∧ (zX0 C st xs ↔ zX0 C st2 xs)
 | [], _ => ⟨rfl, Iff.rfl⟩
 | x :: xs, h => by
  have h1 := zaa3 (x := x) C.G (f := st.slot) (g := st2.slot) fun t ht => h t ((zz6 x xs t).2 (.inl ht))
  obtain ⟨h2, h3⟩ := zaG0 xs fun t ht => h t ((zz6 x xs t).2 (.inr ht))
  simp only [zf6, zX0, h1, h2, h3, and_self]
theorem zbF2 {st st2 : St} (hm : st2.mem = st.mem) (hn : st2.nx = st.nx) : st2.m = st.m := by
 funext x; simp only [St.m, hm, hn]
theorem zay3 {st : St} {d : Option Nat} {v u : A} {mw : List (Nat × MS)} {st2 : St} (h : st.app d u mw = st.app d v []) (hm : st2.mem = st.mem) (hn : st2.nx = st.nx) : st2.app d u mw = st2.app d v [] := by
 simp only [St.app, St.mk.injEq, putM, nxt] at h ⊢
 obtain ⟨h1, h2, h3⟩ := h
 refine ⟨?_, by rw [hm]; exact h2, by rw [hn]; exact h3⟩
 cases d with
 | none => rfl
 | some d =>
  simp only [putF, List.cons.injEq, Prod.mk.injEq, true_and, and_true] at h1 ⊢
  exact h1
theorem zbH2 {p : POp} {st st2 : St} {v : A} (hm : st2.mem = st.mem) (hn : st2.nx = st.nx) (hr : ∀ t ∈ p.rds, st.slot t = st2.slot t)
  (h : aop C p st (fun s => s = st.app p.dst v [])) : aop C p st2 (fun s => s = st2.app p.dst v []) := by
 have hx : ∀ t ∈ rdsX p.xs, st.slot t = st2.slot t := fun t ht => hr t (List.mem_append_right _ ht)
 obtain ⟨hv, hgd⟩ := zaG0 (C := C) p.xs hx
 have hgo : zz5 st2 p.g = zz5 st p.g := by
  cases hg : p.g with
  | none => rfl
  | some q => simp only [zz5]; rw [hr q.1 (List.mem_append_left _ (by simp [hg]))]
 unfold aop at h ⊢
 rw [hgo, ← hv, hn, zbF2 hm hn, ← hgd]
 cases hg : zz5 st p.g with
 | none => simp [hg] at h
 | some g =>
  simp only [hg] at h ⊢
  cases hp : p.po <;> simp only [hp] at h ⊢
  case pick =>
   split at h
   ·rename_i c x y hxs
    simp only [hxs] at hx ⊢
    have e1 := zaa3 (x := c) C.G (f := st.slot) (g := st2.slot) fun t ht => hx t ((zz6 _ _ _).2 (.inl ht))
    have e2 := zaa3 (x := x) C.G (f := st.slot) (g := st2.slot) fun t ht => hx t ((zz6 _ _ _).2 (.inr ((zz6 _ _ _).2 (.inl ht))))
    have e3 := zaa3 (x := y) C.G (f := st.slot) (g := st2.slot) fun t ht => hx t ((zz6 _ _ _).2 (.inr ((zz6 _ _ _).2 (.inr ht))))
    rw [← e1, ← e2, ← e3]
    split at h
    ·exact ⟨h.1, zay3 h.2 hm hn⟩
    ·exact h.elim
   ·exact h.elim
  case call f =>
   obtain ⟨r, h1, h2, h3⟩ := h
   exact ⟨r, h1, h2, zay3 h3 hm hn⟩
  case callv =>
   split at h
   ·obtain ⟨r, h1, h2, h3⟩ := h
    exact ⟨r, h1, h2, zay3 h3 hm hn⟩
   ·exact h.elim
  case callm f =>
   obtain ⟨h1, h2, l, as, ms, k, r, ms', k', h3, h4, h5, h6, h7⟩ := h
   exact ⟨h1, h2, l, as, ms, k, r, ms', k', h3, h4, h5, h6, zay3 h7 hm hn⟩
  case callvm =>
   split at h
   ·obtain ⟨h1, h2, hb, l, as, ms, k, r, ms', k', h3, h4, h5, h6, h7⟩ := h
    exact ⟨h1, h2, hb, l, as, ms, k, r, ms', k', h3, h4, h5, h6, zay3 h7 hm hn⟩
   ·exact h.elim
  all_goals
   split at h
   ·exact ⟨h.1, h.2.1, zay3 h.2.2 hm hn⟩
   ·exact h.elim
def SL (ps : List POp) (vs : Nat → A) (st : St) (f : Nat → Bool) : Nat → St
 | 0 => st
 | n + 1 => match ps[n]? with
  | some p => if f n then (SL ps vs st f n).app p.dst (vs n) [] else SL ps vs st f n
  | none => SL ps vs st f n
theorem zbo8 (ps : List POp) (vs : Nat → A) (st : St) (f : Nat → Bool) : ∀ n, (SL ps vs st f n).mem = st.mem ∧ (SL ps vs st f n).nx = st.nx
 | 0 => ⟨rfl, rfl⟩
 | n + 1 => by
  have := zbo8 ps vs st f n
  simp only [SL]
  split
  ·split
   ·exact this
   ·exact this
  ·exact this
theorem zaa4 (st : St) (d : Option Nat) (v : A) (t : Nat) : (st.app d v []).slot t = if d = some t then v else st.slot t := by
 rw [zbt6]
 cases d with
 | none => simp [setF]
 | some d =>
  by_cases h : t = d
  ·subst h; simp [setF]
  ·simp [setF, h, Ne.symm h, show ¬ d = t from fun e => h e.symm]
theorem zbN2 {ps : List POp} {vs : Nat → A} {st : St} {f : Nat → Bool} {j : Nat} {p : POp} (hp : ps[j]? = some p) (hf : f j = false) (f' : Nat → Bool) (hj : f' j = true) (hf' : ∀ i, i ≠ j → f' i = f i)
  (hc : ∀ i q, j < i → ps[i]? = some q → f i = true → conf p q = false) : ∀ n t, (SL ps vs st f' n).slot t = if j < n ∧ p.dst = some t then vs j else (SL ps vs st f n).slot t
 | 0, t => by simp [SL]
 | n + 1, t => by
  have ih := zbN2 (vs := vs) (st := st) hp hf f' hj hf' hc n
  by_cases hn : n = j
  ·subst hn
   simp only [SL, hp, hj, hf, if_true, Bool.false_eq_true, if_false, zaa4]
   by_cases hd : p.dst = some t
   ·simp [hd]
   ·simp only [hd, if_false, and_false]
    have := ih t
    simpa [hd] using this
  ·have hlt : j < n + 1 ↔ j < n := by omega
   simp only [SL, hf' n hn, hlt]
   cases hq : ps[n]? with
   | none => simpa using ih t
   | some q =>
    simp only []
    split
    ·rename_i hfn
     rw [zaa4, zaa4, ih t]
     by_cases hd : q.dst = some t
     ·simp only [hd, if_true]
      by_cases hjn : j < n
      ·have := hc n q hjn hq hfn
       unfold conf at this
       by_cases hpd : p.dst = some t
       ·simp [hpd, hd] at this
       ·simp [hpd]
      ·simp [hjn]
     ·simp [hd]
    ·exact ih t
theorem zbF3 {ps : List POp} {vs : Nat → A} {st : St} {f : Nat → Bool} {j t : Nat} (h1 : ∀ i q, i < j → ps[i]? = some q → q.dst = some t → f i = true) (h2 : ∀ i q, j ≤ i → ps[i]? = some q → q.dst = some t → f i = false) :
  ∀ n, (SL ps vs st f n).slot t = (SL ps vs st (fun _ => true) (min n j)).slot t
 | 0 => by simp [SL]
 | n + 1 => by
  have ih := zbF3 (vs := vs) (st := st) h1 h2 n
  by_cases hn : n < j
  ·rw [show min (n + 1) j = n + 1 by omega]
   rw [show min n j = n by omega] at ih
   simp only [SL]
   cases hq : ps[n]? with
   | none => exact ih
   | some q =>
    simp only [if_true]
    by_cases hd : q.dst = some t
    ·rw [h1 n q hn hq hd]; simp [zaa4, hd]
    ·rw [zaa4, if_neg hd]
     split
     ·rw [zaa4, if_neg hd]; exact ih
     ·exact ih
  ·rw [show min (n + 1) j = j by omega]
   rw [show min n j = j by omega] at ih
   simp only [SL]
   cases hq : ps[n]? with
   | none => exact ih
   | some q =>
    simp only []
    by_cases hd : q.dst = some t
    ·rw [h2 n q (by omega) hq hd]; simpa using ih
    ·split
     ·rw [zaa4, if_neg hd]; exact ih
     ·exact ih
theorem zaY5 {K : St → Prop} : ∀ (ps : List POp) (st : St), zar2 C ps st K → ∃ vs : Nat → A, K (SL ps vs st (fun _ => true) ps.length) ∧
  ∀ j p, ps[j]? = some p → aop C p (SL ps vs st (fun _ => true) j) (fun s => s = (SL ps vs st (fun _ => true) j).app p.dst (vs j) [])
 | [], st, h => ⟨fun _ => .any, h, fun j p hp => by simp at hp⟩
 | p :: ps, st, h => by
  obtain ⟨v, mw, ⟨⟨h1, h2⟩, h3⟩, h4⟩ := zci3 h
  have e : st.app p.dst v mw = st.app p.dst v [] := by
   simp only [St.app, St.mk.injEq] at h1 h2 ⊢
   exact ⟨trivial, h1, h2⟩
  rw [e] at h3 h4
  obtain ⟨vs, h5, h6⟩ := zaY5 ps _ h3
  have sh : ∀ n, SL (p :: ps) (fun i => match i with | 0 => v | i + 1 => vs i) st (fun _ => true) (n + 1) = SL ps vs (st.app p.dst v []) (fun _ => true) n := by
   intro n
   induction n with
   | zero => simp [SL]
   | succ n ih => rw [SL, ih]; simp only [List.getElem?_cons_succ]; rfl
  refine ⟨fun i => match i with | 0 => v | i + 1 => vs i, ?_, fun j q hq => ?_⟩
  ·rw [List.length_cons, sh]; exact h5
  ·cases j with
   | zero => simp at hq; subst hq; exact h4
   | succ j => rw [sh]; exact h6 j q (by simpa using hq)
theorem zam4 {D : Nat → Prop} : ∀ (es acc : List (List Nat)), (∀ j e, es[j]? = some e → D (acc.length + j) → ∀ i ∈ e, D i) → (∀ j, D j → ∀ i ∈ acc.getD j [], D i) →
  ∀ j, D j → ∀ i ∈ (ancs acc es).getD j [], D i
 | [], acc, _, h => h
 | e :: es, acc, he, h => by
  unfold ancs
  refine zam4 es _ (fun j e' hj hD => he (j + 1) e' (by simpa using hj) (by rw [List.length_append] at hD; simp only [List.length_cons, List.length_nil] at hD; rwa [show acc.length + (j + 1) = acc.length + (0 + 1) + j by omega])) ?_
  intro j hD i hi
  by_cases hj : j < acc.length
  ·refine h j hD i ?_
   rw [List.getD_eq_getElem?_getD, List.getElem?_append_left hj] at hi
   rwa [List.getD_eq_getElem?_getD]
  ·by_cases hj2 : j = acc.length
   ·subst hj2
    have he0 := he 0 e rfl (by simpa using hD)
    rw [List.getD_eq_getElem?_getD, List.getElem?_append_right (Nat.le_refl _)] at hi
    simp only [Nat.sub_self, List.getElem?_cons_zero, Option.getD_some, List.mem_append, List.mem_flatMap] at hi
    rcases hi with hi | ⟨k, hk, hi⟩
    ·exact he0 i hi
    ·exact h k (he0 k hk) i hi
   ·rw [List.getD_eq_getElem?_getD, List.getElem?_eq_none (by simp; omega)] at hi
    simp at hi
theorem zai9 {ps : List POp} {an : List (List Nat)} (h : zaK7 ps an = true) {i j : Nat} {p q : POp} (hij : i < j) (hp : ps[i]? = some p) (hq : ps[j]? = some q) (hc : conf p q = true) : i ∈ an.getD j [] := by
 unfold zaK7 at h
 have h1 := List.all_eq_true.1 h j (List.mem_range.2 (List.getElem?_eq_some_iff.1 hq).1)
 have h2 := List.all_eq_true.1 h1 i (List.mem_range.2 hij)
 simp only [hp, hq, hc, Bool.not_true, Bool.false_or] at h2
 simpa using h2
theorem zat7 : ∀ (os : List Oper) (n : Nat), POp.sortOk os n = true → ∀ j o, os[j]? = some o → ∀ i ∈ zr3 o, i < n + j
 | [], _, _, j, o, h => by simp at h
 | x :: os, n, h, j, o, ho => by
  simp only [POp.sortOk, Bool.and_eq_true] at h
  cases j with
  | zero =>
   simp at ho; subst ho
   intro i hi
   simp only [zr3, List.mem_map, List.mem_filter] at hi
   obtain ⟨e, ⟨he, hb⟩, rfl⟩ := hi
   have := Array.all_eq_true_iff_forall_mem.1 h.1 e (by simpa using he)
   simpa [hb] using this
  | succ j =>
   intro i hi
   have := zat7 os (n + 1) h.2 j o (by simpa using ho) i hi
   omega
def left (f : Nat → Bool) : Nat → Nat
 | 0 => 0
 | n + 1 => left f n + if f n then 0 else 1
theorem zaY6 {f f' : Nat → Bool} {j : Nat} (hj : f j = false) (hj' : f' j = true) (h : ∀ i, i ≠ j → f' i = f i) : ∀ n, left f n = left f' n + if j < n then 1 else 0
 | 0 => rfl
 | n + 1 => by
  have ih := zaY6 hj hj' h n
  simp only [left]
  by_cases hn : n = j
  ·subst hn; simp [hj, hj'] ; simp at ih; omega
  ·rw [h n hn, ih]
   have : j < n + 1 ↔ j < n := by omega
   simp only [this]; omega
theorem zaL0 {f : Nat → Bool} : ∀ n, left f n = 0 → ∀ i, i < n → f i = true
 | n + 1, h, i, hi => by
  simp only [left] at h
  by_cases hn : i = n
  ·subst hn
   cases hf : f i with
   | true => rfl
   | false => simp [hf] at h
  ·exact zaL0 n (by omega) i (by omega)
theorem zap1 {p q : POp} {t : Nat} (h : p.dst = some t) (hq : t ∈ q.rds ∨ q.dst = some t) : conf p q = true ∧ (t ∈ q.rds → conf q p = true) := by
 unfold conf
 rw [h]
 refine ⟨?_, fun hr => ?_⟩
 ·rcases hq with hq | hq <;> simp [hq]
 ·simp [hr]
end
end Ab
end Go.Proofs.YtfjeceicgfdmjaaGreatDoor
namespace Go.Proofs.YtfjeceicgfdmjaaGreatDoor
namespace Ab
set_option linter.unusedSimpArgs false
set_option linter.unusedVariables false
section
variable {C : Cx} {E : Env}
theorem Sat.drawn {s : S} {a : Act} {w : World} {n : Nat} (h : Sat E s a w) (hn : w.drawn ≤ n) : Sat E s a { w with drawn := n } := by
  obtain ⟨W, μ, hs⟩ := h
  have hk : Keeps (fun _ => False) w { w with drawn := n } := ⟨rfl, rfl, rfl, hn, Nat.le_refl _, fun _ _ _ => rfl⟩
  exact ⟨W, μ, hs.step (Step.quiet hk hs.mem hs.inj hs.wlt) (d := none) (v := undef) (av := .any) (fun x hx => by cases hx) trivial⟩
theorem ROk.at {ops : Array Oper} {N : Nat} : ∀ {ps : List POp} {n j : Nat} {o : Oper}, ROk C N ops n ps → ops[n + j]? = some o → ∃ p, ps[j]? = some p ∧ POk C N ops o p
  | [], n, j, o, h, ho => by
    have h : n = ops.size := h
    have := (Array.getElem?_eq_some_iff.1 ho).1
    omega
  | p :: ps, n, 0, o, h, ho => by
    obtain ⟨⟨o', ho', hp⟩, _⟩ := h
    rw [Nat.add_zero, ho'] at ho; cases ho
    exact ⟨p, rfl, hp⟩
  | p :: ps, n, j + 1, o, h, ho => by
    obtain ⟨q, hq, hp⟩ := ROk.at (j := j) h.2 (by rw [← ho]; congr 1; omega)
    exact ⟨q, by simpa using hq, hp⟩
theorem zaY7 {ps : List POp} {vs : Nat → A} {st : St} {f f' : Nat → Bool} : ∀ n, (∀ i, i < n → f i = f' i) → SL ps vs st f n = SL ps vs st f' n
  | 0, _ => rfl
  | n + 1, h => by
    have ih := zaY7 (ps := ps) (vs := vs) (st := st) n fun i hi => h i (by omega)
    simp only [SL, ih, h n (by omega)]
theorem zbH3 {st st2 : St} (hs : ∀ t, st2.slot t = st.slot t) (hm : st2.mem = st.mem) (hn : st2.nx = st.nx) : st2.toS = st.toS := by
  unfold St.toS
  rw [zbF2 hm hn, show st2.slot = st.slot from funext hs]
theorem zbH4 {os : Array Oper} {ps : List POp} {st : St} {vs : Nat → A} {K : St → Prop} {Q : Exit → Act → World → Prop} (hG : E.G = C.G) (hr : ROk C E.N os 0 ps) (hso : POp.sortOk os.toList 0 = true)
    (hco : zaK7 ps (ancs [] (os.toList.map zr3)) = true) (hK : K (SL ps vs st (fun _ => true) ps.length))
    (hv : ∀ j p, ps[j]? = some p → aop C p (SL ps vs st (fun _ => true) j) (fun s => s = (SL ps vs st (fun _ => true) j).app p.dst (vs j) []))
    (hQ : ∀ st' a' w', K st' → Sat E st'.toS a' w' → Q .normal a' w') :
    ∀ (fuel : Nat) (listed : Array Bool) (a : Act) (w : World), listed.size = os.size → Sat E (SL ps vs st (fun i => listed.getD i false) ps.length).toS a w →
      (∀ j o, os[j]? = some o → listed.getD j false = true → ∀ i ∈ zr3 o, listed.getD i false = true) → left (fun i => listed.getD i false) os.size ≤ fuel →
      wpAny C.P .any os Q fuel listed a w := by
  have hlen : ps.length = os.size := by have := hr.size; omega
  have hdone : ∀ (listed : Array Bool) (a : Act) (w : World), Sat E (SL ps vs st (fun i => listed.getD i false) ps.length).toS a w → (∀ i, i < os.size → listed.getD i false = true) → Q .normal a w := by
    intro listed a w hs hall
    refine hQ _ a w hK ?_
    rw [zaY7 (f := fun _ => true) (f' := fun i => listed.getD i false) ps.length fun i hi => (hall i (by omega)).symm]
    exact hs
  have hready : ∀ (listed : Array Bool), listed.size = os.size → Region.ready .any os listed = [] → ∀ i, i < os.size → listed.getD i false = true := by
    intro listed hsz hr0 i
    induction i using Nat.strongRecOn with
    | _ i ih =>
      intro hi
      cases hl : listed.getD i false with
      | true => rfl
      | false =>
        have : i ∈ Region.ready .any os listed := by
          rw [mem_ready]
          refine ⟨?_, os[i], by simp [hi], fun e he hb => ?_⟩
          · have h1 : i < listed.size := by omega
            simp only [Array.getD, h1, dif_pos] at hl ⊢; exact hl
          · have h2 : e.on ∈ zr3 os[i] := by
              simp only [zr3, List.mem_map, List.mem_filter]
              exact ⟨e, ⟨by simpa using he, hb⟩, rfl⟩
            have h3 := zat7 os.toList 0 hso i os[i] (by simp [hi]) e.on h2
            exact ih e.on (by omega) (by omega)
        rw [hr0] at this; cases this
  intro fuel
  induction fuel with
  | zero =>
    intro listed a w hsz hs hcl hle
    have hall := zaL0 (f := fun i => listed.getD i false) os.size (by omega)
    refine ⟨?_, hdone listed a w hs hall⟩
    cases hrd : Region.ready .any os listed with
    | nil => rfl
    | cons i rs =>
      have : i ∈ Region.ready .any os listed := by rw [hrd]; simp
      rw [mem_ready] at this
      obtain ⟨h1, o, ho, _⟩ := this
      have hi := (Array.getElem?_eq_some_iff.1 ho).1
      have := hall i hi
      have h2 : i < listed.size := by omega
      simp only [Array.getD, h2, dif_pos] at h1 this
      rw [this] at h1; cases h1
  | succ fuel ih =>
    intro listed a w hsz hs hcl hle
    refine ⟨fun hr0 => hdone listed a w hs (hready listed hsz hr0), fun i hi => ?_⟩
    rw [mem_ready] at hi
    obtain ⟨hl, o, ho, hed⟩ := hi
    have hlt := (Array.getElem?_eq_some_iff.1 ho).1
    have hlt2 : i < listed.size := by omega
    have hl : listed.getD i false = false := by
      simp only [Array.getD, hlt2, dif_pos] at hl ⊢; exact hl
    obtain ⟨p, hp, hpo⟩ := hr.at (j := i) (by rw [Nat.zero_add]; exact ho)
    have hedge : ∀ k ∈ zr3 o, listed.getD k false = true := by
      intro k hk
      simp only [zr3, List.mem_map, List.mem_filter] at hk
      obtain ⟨e, ⟨he, hb⟩, rfl⟩ := hk
      exact hed e (by simpa using he) hb
    have hset : (listed.setIfInBounds i true).getD i false = true := by simp [Array.getD, hlt2]
    have hsetne : ∀ k, k ≠ i → (listed.setIfInBounds i true).getD k false = listed.getD k false := fun k hk => getD_set_ne false (Ne.symm hk)
    have hcl' : ∀ j o, os[j]? = some o → (listed.setIfInBounds i true).getD j false = true → ∀ k ∈ zr3 o, (listed.setIfInBounds i true).getD k false = true := by
      intro j o' ho' hj k hk
      by_cases hji : j = i
      · subst hji
        rw [ho] at ho'; cases ho'
        exact getD_set_true (hedge k hk)
      · rw [hsetne j hji] at hj
        exact getD_set_true (hcl j o' ho' hj k hk)
    have hanc : ∀ j, (listed.setIfInBounds i true).getD j false = true → ∀ k ∈ (ancs [] (os.toList.map zr3)).getD j [], (listed.setIfInBounds i true).getD k false = true :=
      zam4 (D := fun j => (listed.setIfInBounds i true).getD j false = true) _ [] (fun j e he hD => by
        simp only [List.getElem?_map, Option.map_eq_some_iff] at he
        obtain ⟨o', ho', rfl⟩ := he
        exact hcl' j o' (by simpa using ho') (by simpa using hD)) (fun j _ k hk => by simp at hk)
    have hanc0 : ∀ j, listed.getD j false = true → ∀ k ∈ (ancs [] (os.toList.map zr3)).getD j [], listed.getD k false = true :=
      zam4 (D := fun j => listed.getD j false = true) _ [] (fun j e he hD => by
        simp only [List.getElem?_map, Option.map_eq_some_iff] at he
        obtain ⟨o', ho', rfl⟩ := he
        exact hcl j o' (by simpa using ho') (by simpa using hD)) (fun j _ k hk => by simp at hk)
    have hbef : ∀ k q, k < i → ps[k]? = some q → conf q p = true → listed.getD k false = true := by
      intro k q hk hq hc
      have := hanc i hset k (zai9 hco hk hq hp hc)
      rwa [hsetne k (by omega)] at this
    have haft : ∀ k q, i < k → ps[k]? = some q → conf p q = true → listed.getD k false = false := by
      intro k q hk hq hc
      cases hlk : listed.getD k false with
      | false => rfl
      | true =>
        have := hanc0 k hlk i (zai9 hco hk hp hq hc)
        rw [hl] at this; cases this
    have hmem := zbo8 ps vs st (fun k => listed.getD k false) ps.length
    have hmem2 := zbo8 ps vs st (fun _ => true) i
    have hil : i < ps.length := (List.getElem?_eq_some_iff.1 hp).1
    have haop : aop C p (SL ps vs st (fun k => listed.getD k false) ps.length) (fun s => s = (SL ps vs st (fun k => listed.getD k false) ps.length).app p.dst (vs i) []) := by
      refine zbH2 (st := SL ps vs st (fun _ => true) i) (by rw [hmem.1, hmem2.1]) (by rw [hmem.2, hmem2.2]) (fun t ht => ?_) (hv i p hp)
      rw [zbF3 (j := i) (t := t) (fun k q hk hq hd => hbef k q hk hq (zap1 hd (.inl ht)).1) (fun k q hk hq hd => ?_) ps.length, Nat.min_eq_right (Nat.le_of_lt hil)]
      by_cases hki : k = i
      · subst hki; exact hl
      · exact haft k q (by omega) hq ((zap1 hd (.inl ht)).2 ht)
    obtain ⟨W, μ, hs⟩ := hs
    have key := zbk7 hs hG hpo haop (Q := Q) (k := wpAny C.P .any os Q fuel (listed.setIfInBounds i true)) (fun st' a' w' hst hs' => by
      subst hst
      refine ih _ a' w' (by simpa using hsz) ?_ hcl' ?_
      · have e : (SL ps vs st (fun k => (listed.setIfInBounds i true).getD k false) ps.length).toS = ((SL ps vs st (fun k => listed.getD k false) ps.length).app p.dst (vs i) []).toS := by
          have hm3 := zbo8 ps vs st (fun k => (listed.setIfInBounds i true).getD k false) ps.length
          refine zbH3 (fun t => ?_) ?_ ?_
          · rw [zbN2 (f := fun k => listed.getD k false) hp hl (fun k => (listed.setIfInBounds i true).getD k false) hset hsetne (fun k q hk hq hfk => ?_), zaa4]
            · simp only [hil, true_and]
            · cases hc : conf p q with
              | false => rfl
              | true => have := haft k q hk hq hc; exact absurd (this.symm.trans hfk) (by simp)
          · rw [hm3.1]; exact hmem.1.symm
          · rw [hm3.2]; exact hmem.2.symm
        rw [e]; exact hs'
      · have := zaY6 (f := fun k => listed.getD k false) (f' := fun k => (listed.setIfInBounds i true).getD k false) (j := i) hl hset hsetne os.size
        rw [if_pos hlt] at this
        omega)
    simp only [wpOp, ho]
    split at key
    · rename_i hw; rw [if_pos hw]; exact .inl key
    · rename_i hw; rw [if_neg hw]; exact key
theorem zci4 {Q : Exit → St → Prop} {st : St} {dr : List Nat} {ops : List POp} (hm : C.P.follows .mixedOrders = true) (hG : E.G = C.G) (h : zar2 C ops st fun s => Q .normal (s.drop dr)) : AW C E (.regd dr ops) Q st := fun code hc a w hs => by
  cases code with
  | region id os d =>
   cases d with
   | false => simp [chkC] at hc
   | true =>
    simp only [chkC, Bool.and_eq_true, zbE5] at hc
    obtain ⟨hc1, hc2, hc3⟩ := hc
    have hr : ROk C E.N os 0 ops := by
      obtain ⟨P, G⟩ := C
      exact zay2 os.toList ops 0 hc1 (by simp) (by simp)
    obtain ⟨vs, hK, hv⟩ := zaY5 ops st h
    refine wp_region_any hm ?_
    refine zbH4 (st := st) (vs := vs) hG hr hc2 hc3 hK hv (fun st' a' w' hQ hs' => ⟨_, hQ, hs'.drop⟩) os.size _ a _ (by simp) ?_ (fun j o ho hj => ?_) ?_
    · have e : SL ops vs st (fun i => (Array.replicate os.size false).getD i false) ops.length = SL ops vs st (fun _ => false) ops.length := zaY7 _ fun i _ => by simp [Array.getD]
      have e2 : ∀ n, SL ops vs st (fun _ => false) n = st := fun n => by
        induction n with
        | zero => rfl
        | succ n ih => simp only [SL, ih, Bool.false_eq_true, if_false]; split <;> rfl
      rw [e, e2]
      exact hs.drawn (Nat.le_succ _)
    · simp [Array.getD] at hj
    · have : ∀ n, left (fun i => (Array.replicate os.size false).getD i false) n ≤ n := fun n => by
        induction n with
        | zero => exact Nat.le_refl _
        | succ n ih => simp only [left]; split <;> omega
      exact this _
  | _ => simp [chkC] at hc
end
end Ab
end Go.Proofs.YtfjeceicgfdmjaaGreatDoor
