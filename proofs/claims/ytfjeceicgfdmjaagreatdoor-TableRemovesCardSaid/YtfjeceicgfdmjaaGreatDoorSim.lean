/-
  The small machine's functions as rules of rewriting.
-/
import Derived.Test.YtfjeceicgfdmjaaGreatDoorTy
import Derived.Test.YtfjeceicgfdmjaaGreatDoorAb22
namespace Go.Proofs.YtfjeceicgfdmjaaGreatDoor
namespace Ab
set_option linter.unusedSimpArgs false
set_option linter.unusedVariables false
def zaZ9 (C : Cx) (f : FuncId) (d : Option Nat) (g : Option (Nat × Bool)) (gv : Bool) (ob : Prop) (args : List A) (rw : List (Nat × MS)) (ps : List POp) (st : St) (K : St → Prop) : Prop :=
 ∃ r, (gv = true → ob ∧ PFn C f args r) ∧ (g = none ∨ (if r.scal then [] else rw) = [] ∧ r.isVV = true) ∧ arun C ps (st.app d (zD9 g gv r) (if r.scal then [] else rw)) K
theorem zbB8 {C : Cx} {f : FuncId} {d : Option Nat} {g : Option (Nat × Bool)} {gv : Bool} {ob : Prop} {args : List A} {rw : List (Nat × MS)} {ps : List POp} {st : St} {K : St → Prop} {r : A}
  (hf : gv = true → PFn C f args r) (h : arun C ps (st.app d (zD9 g gv r) (if r.scal then [] else rw)) K)
  (ho : gv = true → ob := by intro; trivial) (hg : g = none ∨ (if r.scal then [] else rw) = [] ∧ r.isVV = true := by first | exact .inl rfl | exact .inr ⟨rfl, rfl⟩) : zaZ9 C f d g gv ob args rw ps st K := ⟨r, fun e => ⟨ho e, hf e⟩, hg, h⟩
def zaB4 (C : Cx) (f : FuncId) (d : Option Nat) (ob : Prop) (vals : List A) (ps : List POp) (st : St) (K : St → Prop) : Prop :=
 ob ∧ zak6 C st.m st.nx f vals (fun _ => True) fun v mw => arun C ps (st.app d v mw) K
def zbj9 : A → Bool
 | .cnd _ _ => false
 | _ => true
theorem zbk0 {r : A} (h : zbj9 r = true) : ∀ g c, r ≠ .cnd g c := fun g c e => by subst e; cases h
theorem zbv4 {C : Cx} {f : FuncId} {d : Option Nat} {ob : Prop} {vals : List A} {ps : List POp} {st : St} {K : St → Prop} (l : List (Nat × Nat)) {as : List A} {ms ms' : List (Nat × Row)} {k k' : Nat} {r : A}
  (hf : MFn C f as ms k r ms' k') (hok : okM st.m st.nx l vals as ms k k') (h : arun C ps (st.app d (renR (l ++ newL k st.nx (k' - k)) r) (mwM st.m (l ++ newL k st.nx (k' - k)) vals as ms ms' k k')) K)
  (ho : ob := by trivial) (hr : zbj9 r = true := by rfl) : zaB4 C f d ob vals ps st K :=
 ⟨ho, l, as, ms, k, r, ms', k', hf, hok, zbk0 hr, trivial, h⟩
theorem zbB9 (C : Cx) (st : St) (K : St → Prop) : arun C [] st K = K st := rfl
theorem zbv5 (C : Cx) (d : Option Nat) (g : Option (Nat × Bool)) (po : PO) (xs : List PX) (ps : List POp) (st : St) (K : St → Prop) :
  arun C (⟨d, g, po, xs⟩ :: ps) st K = (match po with
   | .call f => (match zv5 st g with
    | none => False
    | some gv => zaZ9 C f d g gv (zQ6 C st xs ∧ zr0 st.m (zf1 C st xs)) (zw9 st.m (zf1 C st xs)) (zB8 st.m (zs6 (zf1 C st xs))) ps st K)
   | .callv => (match zv5 st g with
    | none => False
    | some gv => (match zf1 C st xs with
     | .clo f caps :: vals => zaZ9 C f d g gv (zQ6 C st xs ∧ zC1 C.P f = true ∧ zr0 st.m (vals ++ caps)) (zw9 st.m (vals ++ caps)) (zB8 st.m (zs6 (vals ++ caps))) ps st K
     | _ => False))
   | .callm f => (match zv5 st g with
    | none => False
    | some _ => g = none ∧ zaB4 C f d (zQ6 C st xs) (zf1 C st xs) ps st K)
   | .callvm => (match zv5 st g with
    | none => False
    | some _ => (match zf1 C st xs with
     | .clo f caps :: vals => g = none ∧ zaB4 C f d (zQ6 C st xs ∧ zC1 C.P f = true) (vals ++ caps) ps st K
     | _ => False))
   | po => aop C ⟨d, g, po, xs⟩ st fun st' => arun C ps st' K) := by
 cases po with
 | call f =>
  simp only [arun, aop, zaZ9]
  cases zv5 st g with
  | none => rfl
  | some gv => simp only [zs7, and_assoc]
 | callv =>
  simp only [arun, aop]
  cases zv5 st g with
  | none => rfl
  | some gv =>
   simp only
   generalize zf1 C st xs = vv
   rcases vv with _ | ⟨x, vs⟩
   ·rfl
   ·cases x <;> first | rfl | (simp only [zaZ9, zs7, and_assoc])
 | callm f =>
  simp only [arun, aop, zaB4]
  cases zv5 st g with
  | none => rfl
  | some gv => rfl
 | callvm =>
  simp only [arun, aop]
  cases zv5 st g with
  | none => rfl
  | some gv =>
   simp only
   generalize zf1 C st xs = vv
   rcases vv with _ | ⟨x, vs⟩
   ·rfl
   ·cases x <;> first | rfl | (simp only [zaB4, and_assoc])
 | _ => rfl
def zaB5 (C : Cx) (f : FuncId) (d : Option Nat) (g : Option (Nat × Bool)) (gv : Bool) (ob : Prop) (args : List A) (rw : List (Nat × MS)) (ps : List POp) (st : St) (K : St → Prop) : Prop :=
 ∃ r, (gv = true → ob ∧ PFn C f args r) ∧ (g = none ∨ (if r.scal then [] else rw) = [] ∧ r.isVV = true) ∧ ((st.app d (zD9 g gv r) (if r.scal then [] else rw)).mem = st.mem ∧ (st.app d (zD9 g gv r) (if r.scal then [] else rw)).nx = st.nx) ∧ zai7 C ps (st.app d (zD9 g gv r) (if r.scal then [] else rw)) K
theorem zbv6 {C : Cx} {f : FuncId} {d : Option Nat} {g : Option (Nat × Bool)} {gv : Bool} {ob : Prop} {args : List A} {rw : List (Nat × MS)} {ps : List POp} {st : St} {K : St → Prop} {r : A}
  (hf : gv = true → PFn C f args r) (h : zai7 C ps (st.app d (zD9 g gv r) []) K)
  (ho : gv = true → ob := by intro; trivial) (hg : g = none ∨ (if r.scal then [] else rw) = [] ∧ r.isVV = true := by first | exact .inl rfl | exact .inr ⟨rfl, rfl⟩) (hn : (if r.scal then [] else rw) = [] := by rfl) : zaB5 C f d g gv ob args rw ps st K := ⟨r, fun e => ⟨ho e, hf e⟩, hg, by rw [hn]; exact ⟨rfl, rfl⟩, by rw [hn]; exact h⟩
theorem zbv7 (C : Cx) (st : St) (K : St → Prop) : zai7 C [] st K = K st := rfl
theorem zbp1 (C : Cx) (d : Option Nat) (g : Option (Nat × Bool)) (po : PO) (xs : List PX) (ps : List POp) (st : St) (K : St → Prop) :
  zai7 C (⟨d, g, po, xs⟩ :: ps) st K = (match po with
   | .call f => (match zv5 st g with
    | none => False
    | some gv => zaB5 C f d g gv (zQ6 C st xs ∧ zr0 st.m (zf1 C st xs)) (zw9 st.m (zf1 C st xs)) (zB8 st.m (zs6 (zf1 C st xs))) ps st K)
   | .callv => (match zv5 st g with
    | none => False
    | some gv => (match zf1 C st xs with
     | .clo f caps :: vals => zaB5 C f d g gv (zQ6 C st xs ∧ zC1 C.P f = true ∧ zr0 st.m (vals ++ caps)) (zw9 st.m (vals ++ caps)) (zB8 st.m (zs6 (vals ++ caps))) ps st K
     | _ => False))
   | po => aop C ⟨d, g, po, xs⟩ st fun st' => (st'.mem = st.mem ∧ st'.nx = st.nx) ∧ zai7 C ps st' K) := by
 cases po with
 | call f =>
  simp only [zai7, aop, zaB5]
  cases zv5 st g with
  | none => rfl
  | some gv => simp only [zs7, and_assoc]
 | callv =>
  simp only [zai7, aop]
  cases zv5 st g with
  | none => rfl
  | some gv =>
   simp only
   generalize zf1 C st xs = vv
   rcases vv with _ | ⟨x, vs⟩
   ·rfl
   ·cases x <;> first | rfl | (simp only [zaB5, zs7, and_assoc])
 | _ => rfl
def zaB6 (C : Cx) (an : List (List Nat)) (f : FuncId) (d : Option Nat) (g : Option (Nat × Bool)) (gv : Bool) (ob : Prop) (args : List A) (rw : List (Nat × MS)) (ids : List Nat) (cok : Bool) (ps : List POp) (st : St) (log : List (List Nat × List Nat)) (K : St → Prop) : Prop :=
 ∃ r, (gv = true → ob ∧ PFn C f args r) ∧ (g = none ∨ (if r.scal then [] else rw) = [] ∧ r.isVV = true) ∧ zal1 (an.getD log.length []) 0 log ids ((if r.scal then [] else rw).map (·.1)) = true ∧ cok = true ∧
  zT8 C an ps (st.app d (zD9 g gv r) (if r.scal then [] else rw)) (log ++ [(ids, (if r.scal then [] else rw).map (·.1))]) K
theorem zbv8 {C : Cx} {an : List (List Nat)} {f : FuncId} {d : Option Nat} {g : Option (Nat × Bool)} {gv : Bool} {ob : Prop} {args : List A} {rw : List (Nat × MS)} {ids : List Nat} {cok : Bool} {ps : List POp} {st : St} {log : List (List Nat × List Nat)} {K : St → Prop} {r : A}
  (hf : gv = true → PFn C f args r) (h : zal1 (an.getD log.length []) 0 log ids ((if r.scal then [] else rw).map (·.1)) = true ∧ cok = true ∧ zT8 C an ps (st.app d (zD9 g gv r) (if r.scal then [] else rw)) (log ++ [(ids, (if r.scal then [] else rw).map (·.1))]) K)
  (ho : gv = true → ob := by intro; trivial) (hg : g = none ∨ (if r.scal then [] else rw) = [] ∧ r.isVV = true := by first | exact .inl rfl | exact .inr ⟨rfl, rfl⟩) : zaB6 C an f d g gv ob args rw ids cok ps st log K := ⟨r, fun e => ⟨ho e, hf e⟩, hg, h.1, h.2.1, h.2.2⟩
def zap2 (C : Cx) (an : List (List Nat)) (f : FuncId) (d : Option Nat) (ob : Prop) (vals : List A) (ids : List Nat) (cok : Bool) (ps : List POp) (st : St) (log : List (List Nat × List Nat)) (K : St → Prop) : Prop :=
 ob ∧ zak6 C st.m st.nx f vals (fun n => ∀ x, st.nx ≤ x → x < st.nx + n → st.m x = .fresh) fun v mw => zal1 (an.getD log.length []) 0 log ids (mw.map (·.1)) = true ∧ cok = true ∧ zT8 C an ps (st.app d v mw) (log ++ [(ids, mw.map (·.1))]) K
theorem zbp2 {C : Cx} {an : List (List Nat)} {f : FuncId} {d : Option Nat} {ob : Prop} {vals : List A} {ids : List Nat} {cok : Bool} {ps : List POp} {st : St} {log : List (List Nat × List Nat)} {K : St → Prop} (l : List (Nat × Nat)) {as : List A} {ms ms' : List (Nat × Row)} {k k' : Nat} {r : A}
  (hf : MFn C f as ms k r ms' k') (hok : okM st.m st.nx l vals as ms k k')
  (h : zal1 (an.getD log.length []) 0 log ids ((mwM st.m (l ++ newL k st.nx (k' - k)) vals as ms ms' k k').map (·.1)) = true ∧ cok = true ∧ zT8 C an ps (st.app d (renR (l ++ newL k st.nx (k' - k)) r) (mwM st.m (l ++ newL k st.nx (k' - k)) vals as ms ms' k k')) (log ++ [(ids, (mwM st.m (l ++ newL k st.nx (k' - k)) vals as ms ms' k k').map (·.1))]) K)
  (ho : ob := by trivial) (hr : zbj9 r = true := by rfl) : zap2 C an f d ob vals ids cok ps st log K :=
 ⟨ho, l, as, ms, k, r, ms', k', hf, hok, zbk0 hr, fun x hx _ => zaK2 st x hx, h⟩
theorem zbv9 (C : Cx) (an : List (List Nat)) (st : St) (log : List (List Nat × List Nat)) (K : St → Prop) : zT8 C an [] st log K = K st := rfl
theorem zbp3 (C : Cx) (an : List (List Nat)) (d : Option Nat) (g : Option (Nat × Bool)) (po : PO) (xs : List PX) (ps : List POp) (st : St) (log : List (List Nat × List Nat)) (K : St → Prop) :
  zT8 C an (⟨d, g, po, xs⟩ :: ps) st log K = (match po with
   | .call f => (match zs8 st.slot g with
    | none => False
    | some gv => zaB6 C an f d g gv (gdsF C st.slot xs ∧ zr0 st.m (zt5 C st.slot xs)) (zw9 st.m (zt5 C st.slot xs)) (zB8 st.m (zs6 (zt5 C st.slot xs))) (zm8 (zf1 C st xs)) (zag9 (zf1 C st xs)) ps st log K)
   | .callv => (match zs8 st.slot g with
    | none => False
    | some gv => (match zt5 C st.slot xs with
     | .clo f caps :: vals => zaB6 C an f d g gv (gdsF C st.slot xs ∧ zC1 C.P f = true ∧ zr0 st.m (vals ++ caps)) (zw9 st.m (vals ++ caps)) (zB8 st.m (zs6 (vals ++ caps))) (zm8 (zf1 C st xs)) (zag9 (zf1 C st xs)) ps st log K
     | _ => False))
   | .callm f => (match zs8 st.slot g with
    | none => False
    | some _ => g = none ∧ zap2 C an f d (gdsF C st.slot xs) (zt5 C st.slot xs) (zm8 (zf1 C st xs)) (zag9 (zf1 C st xs)) ps st log K)
   | .callvm => (match zs8 st.slot g with
    | none => False
    | some _ => (match zt5 C st.slot xs with
     | .clo f caps :: vals => g = none ∧ zap2 C an f d (gdsF C st.slot xs ∧ zC1 C.P f = true) (vals ++ caps) (zm8 (zf1 C st xs)) (zag9 (zf1 C st xs)) ps st log K
     | _ => False))
   | po => aopS C ⟨d, g, po, xs⟩ st.toS st.nx fun v mw => zal1 (an.getD log.length []) 0 log (zm8 (zf1 C st xs)) (mw.map (·.1)) = true ∧ zag9 (zf1 C st xs) = true ∧
     zT8 C an ps (st.app d v mw) (log ++ [(zm8 (zf1 C st xs), mw.map (·.1))]) K) := by
 cases po with
 | call f =>
  simp only [zT8, aopS, zaB6, St.toS]
  cases zs8 st.slot g with
  | none => rfl
  | some gv => simp only [zs7, and_assoc]
 | callv =>
  simp only [zT8, aopS, St.toS]
  cases zs8 st.slot g with
  | none => rfl
  | some gv =>
   simp only
   generalize zt5 C st.slot xs = vv
   rcases vv with _ | ⟨x, vs⟩
   ·rfl
   ·cases x <;> first | rfl | (simp only [zaB6, zs7, and_assoc])
 | callm f =>
  simp only [zT8, aopS, zap2, St.toS]
  cases zs8 st.slot g with
  | none => rfl
  | some gv => rfl
 | callvm =>
  simp only [zT8, aopS, St.toS]
  cases zs8 st.slot g with
  | none => rfl
  | some gv =>
   simp only
   generalize zt5 C st.slot xs = vv
   rcases vv with _ | ⟨x, vs⟩
   ·rfl
   ·cases x <;> first | rfl | (simp only [zap2, and_assoc])
 | _ => rfl
attribute [go_sem ↓] aop aopS
attribute [go_sem] zbB9 zbv5 zbv7 zbp1 zbv9 zbp3 zs8 zt5 gdsF St.toS zm8 idsA zar6 zae2 zag9 zal2 A.flatCap okM zaM6 argM A.hands fzM zaY5 zaY6 newL zN8 mwM entM renR ren0 zbi2 resL zaN6 zaZ3 zv5 St.slot St.m look zf1 zQ6 xv A.nc A.gd ev zaX5 zQ5 zar3 zV8 A.cells A.isV A.isK A.isStr A.isVV allV allK zh7 laid zaL3 zag4
 zD9 St.app putF putM nxt rm zaY4 St.drop zs7 zw9 zr0 frz frz1 zT4 zN7 zU8 zv4 zs6 zB8 A.scal A.scal1 A.scal2 zx0 zaM5 zg0 A.pure1 pureEs
 zg3 LK.fits eqA eq1 glob zA7 zaZ2 allG zai6 resA resG zbs6 Le leF leM rho ren ren1 zaa6 idOk zaF5 idEs zX1
def SeqQ (C : Cx) (E : Env) (y : PC) (Q : Exit → St → Prop) : Exit → St → Prop := fun e s => match e with | .normal => AW C E y Q s | e => Q e s
def BlkQ (id : Nat) (Q : Exit → St → Prop) : Exit → St → Prop := fun e s => match e with | .exit i => (if i = id then Q .normal s else Q (.exit i) s) | e => Q e s
def zbC0 (E : Env) {G : Type} (I : G → St) (inv : G → Prop) (μ : G → Nat) (g : G) (Q : Exit → St → Prop) : Exit → St → Prop := fun e s => match e with | .normal => ∃ g', inv g' ∧ St.le E s (I g') ∧ μ g' < μ g | e => Q e s
section
variable {C : Cx} {E : Env} {Q : Exit → St → Prop} {st : St}
theorem za0 {x y : PC} (h : AW C E x (SeqQ C E y Q) st) : AW C E (.seq x y) Q st := zdx4 h
theorem zb5 {id : Nat} {c : PC} (h : AW C E c (BlkQ id Q) st) : AW C E (.block id c) Q st := zbi8 h
theorem zbk1 {y : PC} (s : St) : SeqQ C E y Q .normal s = AW C E y Q s := rfl
theorem zbC1 {y : PC} (s : St) : SeqQ C E y Q .ret s = Q .ret s := rfl
theorem zbw0 {y : PC} (i : Nat) (s : St) : SeqQ C E y Q (.exit i) s = Q (.exit i) s := rfl
theorem zbk2 (i : Nat) (s : St) : BlkQ i Q .normal s = Q .normal s := rfl
theorem zbC2 (i : Nat) (s : St) : BlkQ i Q .ret s = Q .ret s := rfl
theorem zbw1 (i j : Nat) (s : St) : BlkQ i Q (.exit j) s = if j = i then Q .normal s else Q (.exit j) s := rfl
theorem zbd2 {G : Type} (I : G → St) (inv : G → Prop) (μ : G → Nat) (g : G) (s : St) : zbC0 E I inv μ g Q .normal s = ∃ g', inv g' ∧ St.le E s (I g') ∧ μ g' < μ g := rfl
theorem zbw2 {G : Type} (I : G → St) (inv : G → Prop) (μ : G → Nat) (g : G) (s : St) : zbC0 E I inv μ g Q .ret s = Q .ret s := rfl
theorem zbp4 {G : Type} (I : G → St) (inv : G → Prop) (μ : G → Nat) (g : G) (i : Nat) (s : St) : zbC0 E I inv μ g Q (.exit i) s = Q (.exit i) s := rfl
theorem zbC3 (rs : List RX) (r : A) (fr : List (Nat × A)) (m : List (Nat × Row)) (n : Nat) : Post rs r .ret ⟨fr, m, n⟩ = zaZ2 ⟨fr, m, n⟩ rs r := rfl
theorem zbk3 (rs : List RX) (r : A) (fr : List (Nat × A)) (m : List (Nat × Row)) (n : Nat) : Post rs r .normal ⟨fr, m, n⟩ = zaZ2 ⟨fr, m, n⟩ rs r := rfl
theorem zbw3 (k : Nat) (rs : List RX) (rl : List A) (ms' : List (Nat × Row)) (k' : Nat) (fr : List (Nat × A)) (m : List (Nat × Row)) (n : Nat) : zbB1 k rs rl ms' k' .ret ⟨fr, m, n⟩ = zaA8 k ⟨fr, m, n⟩ rs rl ms' k' := rfl
theorem zbd3 (k : Nat) (rs : List RX) (rl : List A) (ms' : List (Nat × Row)) (k' : Nat) (fr : List (Nat × A)) (m : List (Nat × Row)) (n : Nat) : zbB1 k rs rl ms' k' .normal ⟨fr, m, n⟩ = zaA8 k ⟨fr, m, n⟩ rs rl ms' k' := rfl
attribute [go_sem] zbw3 zbd3 zbj8 zbB7 zbv3 St.gh St.ghOk St.fz St.fzOk St.own0 St.cast St.unf zaP1 zai8 unfA memN fzA fzCs fzV fzEs fzFr zbj5 zaZ5 zaB1 zbj6 zaK5 zbc8 zbc9 zaK6 frR zdQ8
attribute [go_sem] zbk1 zbC1 zbw0 zbk2 zbC2 zbw1 zbd2 zbw2 zbp4 zbC3 zbk3
end
theorem zbp5 (n : Nat) : zf9 n [] := by intro c hc; cases hc
theorem zaW0 (n : Nat) (a b : List (List A)) : zf9 n (a ++ b) ↔ zf9 n a ∧ zf9 n b := by
 simp only [zf9, List.mem_append]
 exact ⟨fun h => ⟨fun c hc => h c (.inl hc), fun c hc => h c (.inr hc)⟩, fun ⟨h1, h2⟩ c hc => hc.elim (h1 c) (h2 c)⟩
theorem zbk4 (n : Nat) (a : List A) (b : List (List A)) : zf9 n (a :: b) ↔ a.length = n ∧ zf9 n b := by
 simp only [zf9, List.mem_cons]
 exact ⟨fun h => ⟨h a (.inl rfl), fun c hc => h c (.inr hc)⟩, fun ⟨h1, h2⟩ c hc => hc.elim (fun e => e ▸ h1) (h2 c)⟩
theorem zbd4 : zq9 [] := by intro c hc; cases hc
attribute [go_sem] Nat.zero_add Nat.add_zero Nat.lt_irrefl Nat.le_refl Nat.lt_add_one Nat.zero_le Int.toNat_zero Int.toNat_natCast Int.natCast_zero imp_self and_self true_and and_true false_and and_false or_true true_or or_false false_or forall_const true_implies false_implies implies_true if_true if_false eq_self ne_eq not_true_eq_false not_false_eq_true Bool.true_and Bool.and_true Bool.false_and Bool.and_false Bool.not_true Bool.not_false Bool.not_not Bool.false_eq_true Bool.true_eq_false cond_true cond_false Bool.cond_true_left Bool.cond_true_right Bool.cond_false_left Bool.cond_false_right decide_true decide_false Option.getD_some Option.getD_none Option.map_some Option.map_none Option.bind_some Option.isSome_some Option.isNone_none List.length_cons List.length_nil List.length_map List.length_append List.all_nil List.all_cons List.nil_append List.append_nil List.map_nil List.map_cons List.set_cons_zero List.set_nil List.getD_cons_zero List.getD_cons_succ List.length_set List.headD_cons List.contains_nil List.take_nil List.drop_nil beq_self_eq_true
attribute [go_sem] zbp5 zaW0 zbk4 zbd4
@[go_sem] theorem zeD4 : ([] : List A).flatMap zv4 = [] := rfl
@[go_sem] theorem zeD5 (x lo n : Nat) (cs : List A) : (A.own x lo n :: cs).flatMap zv4 = x :: cs.flatMap zv4 := rfl
@[go_sem] theorem zeD6 (s : ByteArray) (cs : List A) : (A.str s :: cs).flatMap zv4 = cs.flatMap zv4 := rfl
@[go_sem] theorem zeD7 (k : IntKind) (n : Int) (cs : List A) : (A.int k n :: cs).flatMap zv4 = cs.flatMap zv4 := rfl
@[go_sem] theorem zeB9 (b : Bool) (cs : List A) : (A.bool b :: cs).flatMap zv4 = cs.flatMap zv4 := rfl
@[go_sem] theorem zeG7 (l : List (List A)) (cs : List A) : (A.sl l :: cs).flatMap zv4 = cs.flatMap zv4 := rfl
attribute [go_sem] List.isEmpty_nil List.isEmpty_cons ite_self List.forall_mem_cons List.not_mem_nil
@[go_sem ↓] theorem zdQ9 (r : A) : (if r.scal = true then ([] : List (Nat × MS)) else []) = [] := ite_self _
@[go_sem] theorem zeC0 : IntKind.i64.wrap (0 + 1) = 1 := by decide
@[go_sem] theorem zeC1 : IntKind.i64.wrap (1 + 1) = 2 := by decide
@[go_sem] theorem zeC2 : IntKind.i64.wrap (2 + 1) = 3 := by decide
@[go_sem] theorem zeC3 : IntKind.i64.wrap (3 + 1) = 4 := by decide
@[go_sem] theorem zeC4 : IntKind.i64.wrap (4 + 1) = 5 := by decide
@[go_sem] theorem zeC5 : IntKind.i64.wrap (5 + 1) = 6 := by decide
@[go_sem] theorem zeC6 : IntKind.i64.wrap (6 + 1) = 7 := by decide
@[go_sem] theorem zeC7 : IntKind.i64.wrap (7 + 1) = 8 := by decide
@[go_sem] theorem zeC8 (c x : A) (cs xs : List A) : upd (c :: cs) 0 (x :: xs) = x :: upd cs 0 xs := by simp [upd, Nat.add_comm]
@[go_sem] theorem zeC9 (cs : List A) (n : Nat) : upd cs n [] = cs := by simp [upd]
@[go_sem] theorem zeD8 (c : A) (cs new : List A) (n : Nat) : upd (c :: cs) (n + 1) new = c :: upd cs n new := by simp [upd, Nat.add_right_comm]
@[go_sem] theorem zeD0 (c : A) (cs : List A) (k : Nat) : sub (c :: cs) 0 (k + 1) = c :: sub cs 0 k := by simp [sub]
@[go_sem] theorem zeD1 (cs : List A) (n : Nat) : sub cs n 0 = [] := by simp [sub]
@[go_sem] theorem zeD9 (c : A) (cs : List A) (n k : Nat) : sub (c :: cs) (n + 1) k = sub cs n k := by simp [sub]
end Ab
end Go.Proofs.YtfjeceicgfdmjaaGreatDoor
