/-
  The small machine's functions as rules of rewriting.
-/
import Derived.Test.YtfjeceicgfdmjaaGreatDoorTy
import Derived.Test.YtfjeceicgfdmjaaGreatDoorAb22
namespace Go.Proofs.YtfjeceicgfdmjaaGreatDoor
namespace Ab
set_option linter.unusedSimpArgs false
set_option linter.unusedVariables false
def zbi4 (C : Cx) (f : FuncId) (d : Option Nat) (g : Option (Nat × Bool)) (gv : Bool) (ob : Prop) (args : List A) (rw : List (Nat × MS)) (ps : List POp) (st : St) (K : St → Prop) : Prop :=
 ∃ r, (gv = true → ob ∧ PFn C f args r) ∧ (g = none ∨ (if r.scal then [] else rw) = [] ∧ r.isVV = true) ∧ arun C ps (st.app d (zI4 g gv r) (if r.scal then [] else rw)) K
theorem zbO5 {C : Cx} {f : FuncId} {d : Option Nat} {g : Option (Nat × Bool)} {gv : Bool} {ob : Prop} {args : List A} {rw : List (Nat × MS)} {ps : List POp} {st : St} {K : St → Prop} {r : A}
  (hf : gv = true → PFn C f args r) (h : arun C ps (st.app d (zI4 g gv r) (if r.scal then [] else rw)) K)
  (ho : gv = true → ob := by intro; trivial) (hg : g = none ∨ (if r.scal then [] else rw) = [] ∧ r.isVV = true := by first | exact .inl rfl | exact .inr ⟨rfl, rfl⟩) : zbi4 C f d g gv ob args rw ps st K := ⟨r, fun e => ⟨ho e, hf e⟩, hg, h⟩
def zaJ1 (C : Cx) (f : FuncId) (d : Option Nat) (ob : Prop) (vals : List A) (ps : List POp) (st : St) (K : St → Prop) : Prop :=
 ob ∧ zas0 C st.m st.nx f vals (fun _ => True) fun v mw => arun C ps (st.app d v mw) K
def zbs6 : A → Bool
 | .cnd _ _ => false
 | _ => true
theorem zbs7 {r : A} (h : zbs6 r = true) : ∀ g c, r ≠ .cnd g c := fun g c e => by subst e; cases h
theorem zbH4 {C : Cx} {f : FuncId} {d : Option Nat} {ob : Prop} {vals : List A} {ps : List POp} {st : St} {K : St → Prop} (l : List (Nat × Nat)) {as : List A} {ms ms' : List (Nat × Row)} {k k' : Nat} {r : A}
  (hf : MFn C f as ms k r ms' k') (hok : okM st.m st.nx l vals as ms k k') (h : arun C ps (st.app d (renR (l ++ newL k st.nx (k' - k)) r) (mwM st.m (l ++ newL k st.nx (k' - k)) vals as ms ms' k k')) K)
  (ho : ob := by trivial) (hr : zbs6 r = true := by rfl) : zaJ1 C f d ob vals ps st K :=
 ⟨ho, l, as, ms, k, r, ms', k', hf, hok, zbs7 hr, trivial, h⟩
theorem zbO6 (C : Cx) (st : St) (K : St → Prop) : arun C [] st K = K st := rfl
theorem zbH5 (C : Cx) (d : Option Nat) (g : Option (Nat × Bool)) (po : PO) (xs : List PX) (ps : List POp) (st : St) (K : St → Prop) :
  arun C (⟨d, g, po, xs⟩ :: ps) st K = (match po with
   | .call f => (match zx7 st g with
    | none => False
    | some gv => zbi4 C f d g gv (zV7 C st xs ∧ zs6 st.m (zf3 C st xs)) (zz2 st.m (zf3 C st xs)) (zG2 st.m (zu4 (zf3 C st xs))) ps st K)
   | .callv => (match zx7 st g with
    | none => False
    | some gv => (match zf3 C st xs with
     | .clo f caps :: vals => zbi4 C f d g gv (zV7 C st xs ∧ zG6 C.P f = true ∧ zs6 st.m (vals ++ caps)) (zz2 st.m (vals ++ caps)) (zG2 st.m (zu4 (vals ++ caps))) ps st K
     | _ => False))
   | .callm f => (match zx7 st g with
    | none => False
    | some _ => g = none ∧ zaJ1 C f d (zV7 C st xs) (zf3 C st xs) ps st K)
   | .callvm => (match zx7 st g with
    | none => False
    | some _ => (match zf3 C st xs with
     | .clo f caps :: vals => g = none ∧ zaJ1 C f d (zV7 C st xs ∧ zG6 C.P f = true) (vals ++ caps) ps st K
     | _ => False))
   | po => aop C ⟨d, g, po, xs⟩ st fun st' => arun C ps st' K) := by
 cases po with
 | call f =>
  simp only [arun, aop, zbi4]
  cases zx7 st g with
  | none => rfl
  | some gv => simp only [zu5, and_assoc]
 | callv =>
  simp only [arun, aop]
  cases zx7 st g with
  | none => rfl
  | some gv =>
   simp only
   generalize zf3 C st xs = vv
   rcases vv with _ | ⟨x, vs⟩
   ·rfl
   ·cases x <;> first | rfl | (simp only [zbi4, zu5, and_assoc])
 | callm f =>
  simp only [arun, aop, zaJ1]
  cases zx7 st g with
  | none => rfl
  | some gv => rfl
 | callvm =>
  simp only [arun, aop]
  cases zx7 st g with
  | none => rfl
  | some gv =>
   simp only
   generalize zf3 C st xs = vv
   rcases vv with _ | ⟨x, vs⟩
   ·rfl
   ·cases x <;> first | rfl | (simp only [zaJ1, and_assoc])
 | _ => rfl
def zaJ2 (C : Cx) (f : FuncId) (d : Option Nat) (g : Option (Nat × Bool)) (gv : Bool) (ob : Prop) (args : List A) (rw : List (Nat × MS)) (ps : List POp) (st : St) (K : St → Prop) : Prop :=
 ∃ r, (gv = true → ob ∧ PFn C f args r) ∧ (g = none ∨ (if r.scal then [] else rw) = [] ∧ r.isVV = true) ∧ ((st.app d (zI4 g gv r) (if r.scal then [] else rw)).mem = st.mem ∧ (st.app d (zI4 g gv r) (if r.scal then [] else rw)).nx = st.nx) ∧ zap9 C ps (st.app d (zI4 g gv r) (if r.scal then [] else rw)) K
theorem zbH6 {C : Cx} {f : FuncId} {d : Option Nat} {g : Option (Nat × Bool)} {gv : Bool} {ob : Prop} {args : List A} {rw : List (Nat × MS)} {ps : List POp} {st : St} {K : St → Prop} {r : A}
  (hf : gv = true → PFn C f args r) (h : zap9 C ps (st.app d (zI4 g gv r) []) K)
  (ho : gv = true → ob := by intro; trivial) (hg : g = none ∨ (if r.scal then [] else rw) = [] ∧ r.isVV = true := by first | exact .inl rfl | exact .inr ⟨rfl, rfl⟩) (hn : (if r.scal then [] else rw) = [] := by rfl) : zaJ2 C f d g gv ob args rw ps st K := ⟨r, fun e => ⟨ho e, hf e⟩, hg, by rw [hn]; exact ⟨rfl, rfl⟩, by rw [hn]; exact h⟩
theorem zbH7 (C : Cx) (st : St) (K : St → Prop) : zap9 C [] st K = K st := rfl
theorem zbz7 (C : Cx) (d : Option Nat) (g : Option (Nat × Bool)) (po : PO) (xs : List PX) (ps : List POp) (st : St) (K : St → Prop) :
  zap9 C (⟨d, g, po, xs⟩ :: ps) st K = (match po with
   | .call f => (match zx7 st g with
    | none => False
    | some gv => zaJ2 C f d g gv (zV7 C st xs ∧ zs6 st.m (zf3 C st xs)) (zz2 st.m (zf3 C st xs)) (zG2 st.m (zu4 (zf3 C st xs))) ps st K)
   | .callv => (match zx7 st g with
    | none => False
    | some gv => (match zf3 C st xs with
     | .clo f caps :: vals => zaJ2 C f d g gv (zV7 C st xs ∧ zG6 C.P f = true ∧ zs6 st.m (vals ++ caps)) (zz2 st.m (vals ++ caps)) (zG2 st.m (zu4 (vals ++ caps))) ps st K
     | _ => False))
   | po => aop C ⟨d, g, po, xs⟩ st fun st' => (st'.mem = st.mem ∧ st'.nx = st.nx) ∧ zap9 C ps st' K) := by
 cases po with
 | call f =>
  simp only [zap9, aop, zaJ2]
  cases zx7 st g with
  | none => rfl
  | some gv => simp only [zu5, and_assoc]
 | callv =>
  simp only [zap9, aop]
  cases zx7 st g with
  | none => rfl
  | some gv =>
   simp only
   generalize zf3 C st xs = vv
   rcases vv with _ | ⟨x, vs⟩
   ·rfl
   ·cases x <;> first | rfl | (simp only [zaJ2, zu5, and_assoc])
 | _ => rfl
def zaJ3 (C : Cx) (an : List (List Nat)) (f : FuncId) (d : Option Nat) (g : Option (Nat × Bool)) (gv : Bool) (ob : Prop) (args : List A) (rw : List (Nat × MS)) (ids : List Nat) (cok : Bool) (ps : List POp) (st : St) (log : List (List Nat × List Nat)) (K : St → Prop) : Prop :=
 ∃ r, (gv = true → ob ∧ PFn C f args r) ∧ (g = none ∨ (if r.scal then [] else rw) = [] ∧ r.isVV = true) ∧ zas5 (an.getD log.length []) 0 log ids ((if r.scal then [] else rw).map (·.1)) = true ∧ cok = true ∧
  zZ4 C an ps (st.app d (zI4 g gv r) (if r.scal then [] else rw)) (log ++ [(ids, (if r.scal then [] else rw).map (·.1))]) K
theorem zbH8 {C : Cx} {an : List (List Nat)} {f : FuncId} {d : Option Nat} {g : Option (Nat × Bool)} {gv : Bool} {ob : Prop} {args : List A} {rw : List (Nat × MS)} {ids : List Nat} {cok : Bool} {ps : List POp} {st : St} {log : List (List Nat × List Nat)} {K : St → Prop} {r : A}
  (hf : gv = true → PFn C f args r) (h : zas5 (an.getD log.length []) 0 log ids ((if r.scal then [] else rw).map (·.1)) = true ∧ cok = true ∧ zZ4 C an ps (st.app d (zI4 g gv r) (if r.scal then [] else rw)) (log ++ [(ids, (if r.scal then [] else rw).map (·.1))]) K)
  (ho : gv = true → ob := by intro; trivial) (hg : g = none ∨ (if r.scal then [] else rw) = [] ∧ r.isVV = true := by first | exact .inl rfl | exact .inr ⟨rfl, rfl⟩) : zaJ3 C an f d g gv ob args rw ids cok ps st log K := ⟨r, fun e => ⟨ho e, hf e⟩, hg, h.1, h.2.1, h.2.2⟩
def zax3 (C : Cx) (an : List (List Nat)) (f : FuncId) (d : Option Nat) (ob : Prop) (vals : List A) (ids : List Nat) (cok : Bool) (ps : List POp) (st : St) (log : List (List Nat × List Nat)) (K : St → Prop) : Prop :=
 ob ∧ zas0 C st.m st.nx f vals (fun n => ∀ x, st.nx ≤ x → x < st.nx + n → st.m x = .fresh) fun v mw => zas5 (an.getD log.length []) 0 log ids (mw.map (·.1)) = true ∧ cok = true ∧ zZ4 C an ps (st.app d v mw) (log ++ [(ids, mw.map (·.1))]) K
theorem zbz8 {C : Cx} {an : List (List Nat)} {f : FuncId} {d : Option Nat} {ob : Prop} {vals : List A} {ids : List Nat} {cok : Bool} {ps : List POp} {st : St} {log : List (List Nat × List Nat)} {K : St → Prop} (l : List (Nat × Nat)) {as : List A} {ms ms' : List (Nat × Row)} {k k' : Nat} {r : A}
  (hf : MFn C f as ms k r ms' k') (hok : okM st.m st.nx l vals as ms k k')
  (h : zas5 (an.getD log.length []) 0 log ids ((mwM st.m (l ++ newL k st.nx (k' - k)) vals as ms ms' k k').map (·.1)) = true ∧ cok = true ∧ zZ4 C an ps (st.app d (renR (l ++ newL k st.nx (k' - k)) r) (mwM st.m (l ++ newL k st.nx (k' - k)) vals as ms ms' k k')) (log ++ [(ids, (mwM st.m (l ++ newL k st.nx (k' - k)) vals as ms ms' k k').map (·.1))]) K)
  (ho : ob := by trivial) (hr : zbs6 r = true := by rfl) : zax3 C an f d ob vals ids cok ps st log K :=
 ⟨ho, l, as, ms, k, r, ms', k', hf, hok, zbs7 hr, fun x hx _ => zaS3 st x hx, h⟩
theorem zbH9 (C : Cx) (an : List (List Nat)) (st : St) (log : List (List Nat × List Nat)) (K : St → Prop) : zZ4 C an [] st log K = K st := rfl
theorem zbz9 (C : Cx) (an : List (List Nat)) (d : Option Nat) (g : Option (Nat × Bool)) (po : PO) (xs : List PX) (ps : List POp) (st : St) (log : List (List Nat × List Nat)) (K : St → Prop) :
  zZ4 C an (⟨d, g, po, xs⟩ :: ps) st log K = (match po with
   | .call f => (match zu6 st.slot g with
    | none => False
    | some gv => zaJ3 C an f d g gv (gdsF C st.slot xs ∧ zs6 st.m (zv4 C st.slot xs)) (zz2 st.m (zv4 C st.slot xs)) (zG2 st.m (zu4 (zv4 C st.slot xs))) (zn8 (zf3 C st xs)) (zan5 (zf3 C st xs)) ps st log K)
   | .callv => (match zu6 st.slot g with
    | none => False
    | some gv => (match zv4 C st.slot xs with
     | .clo f caps :: vals => zaJ3 C an f d g gv (gdsF C st.slot xs ∧ zG6 C.P f = true ∧ zs6 st.m (vals ++ caps)) (zz2 st.m (vals ++ caps)) (zG2 st.m (zu4 (vals ++ caps))) (zn8 (zf3 C st xs)) (zan5 (zf3 C st xs)) ps st log K
     | _ => False))
   | .callm f => (match zu6 st.slot g with
    | none => False
    | some _ => g = none ∧ zax3 C an f d (gdsF C st.slot xs) (zv4 C st.slot xs) (zn8 (zf3 C st xs)) (zan5 (zf3 C st xs)) ps st log K)
   | .callvm => (match zu6 st.slot g with
    | none => False
    | some _ => (match zv4 C st.slot xs with
     | .clo f caps :: vals => g = none ∧ zax3 C an f d (gdsF C st.slot xs ∧ zG6 C.P f = true) (vals ++ caps) (zn8 (zf3 C st xs)) (zan5 (zf3 C st xs)) ps st log K
     | _ => False))
   | po => aopS C ⟨d, g, po, xs⟩ st.toS st.nx fun v mw => zas5 (an.getD log.length []) 0 log (zn8 (zf3 C st xs)) (mw.map (·.1)) = true ∧ zan5 (zf3 C st xs) = true ∧
     zZ4 C an ps (st.app d v mw) (log ++ [(zn8 (zf3 C st xs), mw.map (·.1))]) K) := by
 cases po with
 | call f =>
  simp only [zZ4, aopS, zaJ3, St.toS]
  cases zu6 st.slot g with
  | none => rfl
  | some gv => simp only [zu5, and_assoc]
 | callv =>
  simp only [zZ4, aopS, St.toS]
  cases zu6 st.slot g with
  | none => rfl
  | some gv =>
   simp only
   generalize zv4 C st.slot xs = vv
   rcases vv with _ | ⟨x, vs⟩
   ·rfl
   ·cases x <;> first | rfl | (simp only [zaJ3, zu5, and_assoc])
 | callm f =>
  simp only [zZ4, aopS, zax3, St.toS]
  cases zu6 st.slot g with
  | none => rfl
  | some gv => rfl
 | callvm =>
  simp only [zZ4, aopS, St.toS]
  cases zu6 st.slot g with
  | none => rfl
  | some gv =>
   simp only
   generalize zv4 C st.slot xs = vv
   rcases vv with _ | ⟨x, vs⟩
   ·rfl
   ·cases x <;> first | rfl | (simp only [zax3, and_assoc])
 | _ => rfl
attribute [go_sem ↓] aop aopS
attribute [go_sem] zbO6 zbH5 zbH7 zbz7 zbH9 zbz9 zu6 zv4 gdsF St.toS zn8 idsA zaz9 zak9 zan5 zas6 A.flatCap okM zaU5 argM A.hands fzM zbh0 zbh1 newL zS6 mwM entM renR ren0 zbq9 resL zaV5 zbh8 zx7 St.slot St.m look zf3 zV7 xv A.nc A.gd ev zbg0 zV6 zaz6 zab2 A.cells A.isV A.isK A.isStr A.isVV allV allK zi1 laid zaT2 zan0
 zI4 St.app putF putM nxt rm zbg9 St.drop zu5 zz2 zs6 frz frz1 zZ0 zS5 zaa0 zx6 zu4 zG2 A.scal A.scal1 A.scal2 zz3 zaU4 zg5 A.pure1 pureEs
 zg8 LK.fits eqA eq1 glob zF0 zbh7 allG zap8 resA resG zbD9 Le leF leM rho ren ren1 zag9 idOk zaN4 idEs zac4
def SeqQ (C : Cx) (E : Env) (y : PC) (Q : Exit → St → Prop) : Exit → St → Prop := fun e s => match e with | .normal => AW C E y Q s | e => Q e s
def BlkQ (id : Nat) (Q : Exit → St → Prop) : Exit → St → Prop := fun e s => match e with | .exit i => (if i = id then Q .normal s else Q (.exit i) s) | e => Q e s
def zbO7 (E : Env) {G : Type} (I : G → St) (inv : G → Prop) (μ : G → Nat) (g : G) (Q : Exit → St → Prop) : Exit → St → Prop := fun e s => match e with | .normal => ∃ g', inv g' ∧ St.le E s (I g') ∧ μ g' < μ g | e => Q e s
section
variable {C : Cx} {E : Env} {Q : Exit → St → Prop} {st : St}
theorem za0 {x y : PC} (h : AW C E x (SeqQ C E y Q) st) : AW C E (.seq x y) Q st := zdW4 h
theorem zb6 {id : Nat} {c : PC} (h : AW C E c (BlkQ id Q) st) : AW C E (.block id c) Q st := zbr5 h
theorem zbs8 {y : PC} (s : St) : SeqQ C E y Q .normal s = AW C E y Q s := rfl
theorem zbO8 {y : PC} (s : St) : SeqQ C E y Q .ret s = Q .ret s := rfl
theorem zbI0 {y : PC} (i : Nat) (s : St) : SeqQ C E y Q (.exit i) s = Q (.exit i) s := rfl
theorem zbs9 (i : Nat) (s : St) : BlkQ i Q .normal s = Q .normal s := rfl
theorem zbO9 (i : Nat) (s : St) : BlkQ i Q .ret s = Q .ret s := rfl
theorem zbI1 (i j : Nat) (s : St) : BlkQ i Q (.exit j) s = if j = i then Q .normal s else Q (.exit j) s := rfl
theorem zbm0 {G : Type} (I : G → St) (inv : G → Prop) (μ : G → Nat) (g : G) (s : St) : zbO7 E I inv μ g Q .normal s = ∃ g', inv g' ∧ St.le E s (I g') ∧ μ g' < μ g := rfl
theorem zbI2 {G : Type} (I : G → St) (inv : G → Prop) (μ : G → Nat) (g : G) (s : St) : zbO7 E I inv μ g Q .ret s = Q .ret s := rfl
theorem zbA0 {G : Type} (I : G → St) (inv : G → Prop) (μ : G → Nat) (g : G) (i : Nat) (s : St) : zbO7 E I inv μ g Q (.exit i) s = Q (.exit i) s := rfl
theorem zbP0 (rs : List RX) (r : A) (fr : List (Nat × A)) (m : List (Nat × Row)) (n : Nat) : Post rs r .ret ⟨fr, m, n⟩ = zbh7 ⟨fr, m, n⟩ rs r := rfl
theorem zbt0 (rs : List RX) (r : A) (fr : List (Nat × A)) (m : List (Nat × Row)) (n : Nat) : Post rs r .normal ⟨fr, m, n⟩ = zbh7 ⟨fr, m, n⟩ rs r := rfl
theorem zbI3 (k : Nat) (rs : List RX) (rl : List A) (ms' : List (Nat × Row)) (k' : Nat) (fr : List (Nat × A)) (m : List (Nat × Row)) (n : Nat) : zbN8 k rs rl ms' k' .ret ⟨fr, m, n⟩ = zaI5 k ⟨fr, m, n⟩ rs rl ms' k' := rfl
theorem zbm1 (k : Nat) (rs : List RX) (rl : List A) (ms' : List (Nat × Row)) (k' : Nat) (fr : List (Nat × A)) (m : List (Nat × Row)) (n : Nat) : zbN8 k rs rl ms' k' .normal ⟨fr, m, n⟩ = zaI5 k ⟨fr, m, n⟩ rs rl ms' k' := rfl
attribute [go_sem] zbI3 zbm1 zbs5 zbO4 zbH3 St.gh St.ghOk St.fz St.fzOk St.own0 St.cast St.unf zaX0 zaq0 unfA memN fzA fzCs fzV fzEs fzFr zbs2 zbi0 zaI8 zbs3 zaS6 zbl6 zbl7 zaS7 frR zen5
attribute [go_sem] zbs8 zbO8 zbI0 zbs9 zbO9 zbI1 zbm0 zbI2 zbA0 zbP0 zbt0
end
theorem zbA1 (n : Nat) : zg4 n [] := by intro c hc; cases hc
theorem zbe2 (n : Nat) (a b : List (List A)) : zg4 n (a ++ b) ↔ zg4 n a ∧ zg4 n b := by
 simp only [zg4, List.mem_append]
 exact ⟨fun h => ⟨fun c hc => h c (.inl hc), fun c hc => h c (.inr hc)⟩, fun ⟨h1, h2⟩ c hc => hc.elim (h1 c) (h2 c)⟩
theorem zbt1 (n : Nat) (a : List A) (b : List (List A)) : zg4 n (a :: b) ↔ a.length = n ∧ zg4 n b := by
 simp only [zg4, List.mem_cons]
 exact ⟨fun h => ⟨h a (.inl rfl), fun c hc => h c (.inr hc)⟩, fun ⟨h1, h2⟩ c hc => hc.elim (fun e => e ▸ h1) (h2 c)⟩
theorem zbm2 : zs5 [] := by intro c hc; cases hc
attribute [go_sem] Nat.zero_add Nat.add_zero Nat.lt_irrefl Nat.le_refl Nat.lt_add_one Nat.zero_le Int.toNat_zero Int.toNat_natCast Int.natCast_zero imp_self and_self true_and and_true false_and and_false or_true true_or or_false false_or forall_const true_implies false_implies implies_true if_true if_false eq_self ne_eq not_true_eq_false not_false_eq_true Bool.true_and Bool.and_true Bool.false_and Bool.and_false Bool.not_true Bool.not_false Bool.not_not Bool.false_eq_true Bool.true_eq_false cond_true cond_false Bool.cond_true_left Bool.cond_true_right Bool.cond_false_left Bool.cond_false_right decide_true decide_false Option.getD_some Option.getD_none Option.map_some Option.map_none Option.bind_some Option.isSome_some Option.isNone_none List.length_cons List.length_nil List.length_map List.length_append List.all_nil List.all_cons List.nil_append List.append_nil List.map_nil List.map_cons List.set_cons_zero List.set_nil List.getD_cons_zero List.getD_cons_succ List.length_set List.headD_cons List.contains_nil List.take_nil List.drop_nil beq_self_eq_true
attribute [go_sem] zbA1 zbe2 zbt1 zbm2
@[go_sem] theorem zeU9 : ([] : List A).flatMap zx6 = [] := rfl
@[go_sem] theorem zeV0 (x lo n : Nat) (cs : List A) : (A.own x lo n :: cs).flatMap zx6 = x :: cs.flatMap zx6 := rfl
@[go_sem] theorem zeV1 (s : ByteArray) (cs : List A) : (A.str s :: cs).flatMap zx6 = cs.flatMap zx6 := rfl
@[go_sem] theorem zeV2 (k : IntKind) (n : Int) (cs : List A) : (A.int k n :: cs).flatMap zx6 = cs.flatMap zx6 := rfl
@[go_sem] theorem zeT4 (b : Bool) (cs : List A) : (A.bool b :: cs).flatMap zx6 = cs.flatMap zx6 := rfl
@[go_sem] theorem zeY1 (l : List (List A)) (cs : List A) : (A.sl l :: cs).flatMap zx6 = cs.flatMap zx6 := rfl
attribute [go_sem] List.isEmpty_nil List.isEmpty_cons ite_self List.forall_mem_cons List.not_mem_nil
@[go_sem ↓] theorem zen6 (r : A) : (if r.scal = true then ([] : List (Nat × MS)) else []) = [] := ite_self _
@[go_sem] theorem zeT5 : IntKind.i64.wrap (0 + 1) = 1 := by decide
@[go_sem] theorem zeT6 : IntKind.i64.wrap (1 + 1) = 2 := by decide
@[go_sem] theorem zeT7 : IntKind.i64.wrap (2 + 1) = 3 := by decide
@[go_sem] theorem zeT8 : IntKind.i64.wrap (3 + 1) = 4 := by decide
@[go_sem] theorem zeT9 : IntKind.i64.wrap (4 + 1) = 5 := by decide
@[go_sem] theorem zeU0 : IntKind.i64.wrap (5 + 1) = 6 := by decide
@[go_sem] theorem zeU1 : IntKind.i64.wrap (6 + 1) = 7 := by decide
@[go_sem] theorem zeU2 : IntKind.i64.wrap (7 + 1) = 8 := by decide
@[go_sem] theorem zeU3 (c x : A) (cs xs : List A) : upd (c :: cs) 0 (x :: xs) = x :: upd cs 0 xs := by simp [upd, Nat.add_comm]
@[go_sem] theorem zeU4 (cs : List A) (n : Nat) : upd cs n [] = cs := by simp [upd]
@[go_sem] theorem zeV3 (c : A) (cs new : List A) (n : Nat) : upd (c :: cs) (n + 1) new = c :: upd cs n new := by simp [upd, Nat.add_right_comm]
@[go_sem] theorem zeU5 (c : A) (cs : List A) (k : Nat) : sub (c :: cs) 0 (k + 1) = c :: sub cs 0 k := by simp [sub]
@[go_sem] theorem zeU6 (cs : List A) (n : Nat) : sub cs n 0 = [] := by simp [sub]
@[go_sem] theorem zeV4 (c : A) (cs : List A) (n k : Nat) : sub (c :: cs) (n + 1) k = sub cs n k := by simp [sub]
end Ab
end Go.Proofs.YtfjeceicgfdmjaaGreatDoor
