/-
  The small machine's functions as rules of rewriting.
-/
import Derived.Test.YtfjeceicgfdmjaaGreatDoorTy
import Derived.Test.YtfjeceicgfdmjaaGreatDoorAb22
namespace Go.Proofs.YtfjeceicgfdmjaaGreatDoor
namespace Ab
set_option linter.unusedSimpArgs false
set_option linter.unusedVariables false
def zbl5 (C : Cx) (f : FuncId) (d : Option Nat) (g : Option (Nat × Bool)) (gv : Bool) (ob : Prop) (args : List A) (rw : List (Nat × MS)) (ps : List POp) (st : St) (K : St → Prop) : Prop :=
 ∃ r, (gv = true → ob ∧ PFn C f args r) ∧ (g = none ∨ (if r.scal then [] else rw) = [] ∧ r.isVV = true) ∧ arun C ps (st.app d (zJ9 g gv r) (if r.scal then [] else rw)) K
theorem zbN8 {C : Cx} {f : FuncId} {d : Option Nat} {g : Option (Nat × Bool)} {gv : Bool} {ob : Prop} {args : List A} {rw : List (Nat × MS)} {ps : List POp} {st : St} {K : St → Prop} {r : A}
  (hf : gv = true → PFn C f args r) (h : arun C ps (st.app d (zJ9 g gv r) (if r.scal then [] else rw)) K)
  (ho : gv = true → ob := by intro; trivial) (hg : g = none ∨ (if r.scal then [] else rw) = [] ∧ r.isVV = true := by first | exact .inl rfl | exact .inr ⟨rfl, rfl⟩) : zbl5 C f d g gv ob args rw ps st K := ⟨r, fun e => ⟨ho e, hf e⟩, hg, h⟩
def zaL3 (C : Cx) (f : FuncId) (d : Option Nat) (ob : Prop) (vals : List A) (ps : List POp) (st : St) (K : St → Prop) : Prop :=
 ob ∧ zat4 C st.m st.nx f vals (fun _ => True) fun v mw => arun C ps (st.app d v mw) K
def zbv2 : A → Bool
 | .cnd _ _ => false
 | _ => true
theorem zbv3 {r : A} (h : zbv2 r = true) : ∀ g c, r ≠ .cnd g c := fun g c e => by subst e; cases h
theorem zbH7 {C : Cx} {f : FuncId} {d : Option Nat} {ob : Prop} {vals : List A} {ps : List POp} {st : St} {K : St → Prop} (l : List (Nat × Nat)) {as : List A} {ms ms' : List (Nat × Row)} {k k' : Nat} {r : A}
  (hf : MFn C f as ms k r ms' k') (hok : okM st.m st.nx l vals as ms k k') (h : arun C ps (st.app d (renR (l ++ newL k st.nx (k' - k)) r) (mwM st.m (l ++ newL k st.nx (k' - k)) vals as ms ms' k k')) K)
  (ho : ob := by trivial) (hr : zbv2 r = true := by rfl) : zaL3 C f d ob vals ps st K :=
 ⟨ho, l, as, ms, k, r, ms', k', hf, hok, zbv3 hr, trivial, h⟩
theorem zbN9 (C : Cx) (st : St) (K : St → Prop) : arun C [] st K = K st := rfl
theorem zbH8 (C : Cx) (d : Option Nat) (g : Option (Nat × Bool)) (po : PO) (xs : List PX) (ps : List POp) (st : St) (K : St → Prop) :
  arun C (⟨d, g, po, xs⟩ :: ps) st K = (match po with
   | .call f => (match zz5 st g with
    | none => False
    | some gv => zbl5 C f d g gv (zX0 C st xs ∧ zt7 st.m (zf6 C st xs)) (zA9 st.m (zf6 C st xs)) (zH9 st.m (zw5 (zf6 C st xs))) ps st K)
   | .callv => (match zz5 st g with
    | none => False
    | some gv => (match zf6 C st xs with
     | .clo f caps :: vals => zbl5 C f d g gv (zX0 C st xs ∧ zI2 C.P f = true ∧ zt7 st.m (vals ++ caps)) (zA9 st.m (vals ++ caps)) (zH9 st.m (zw5 (vals ++ caps))) ps st K
     | _ => False))
   | .callm f => (match zz5 st g with
    | none => False
    | some _ => g = none ∧ zaL3 C f d (zX0 C st xs) (zf6 C st xs) ps st K)
   | .callvm => (match zz5 st g with
    | none => False
    | some _ => (match zf6 C st xs with
     | .clo f caps :: vals => g = none ∧ zaL3 C f d (zX0 C st xs ∧ zI2 C.P f = true) (vals ++ caps) ps st K
     | _ => False))
   | po => aop C ⟨d, g, po, xs⟩ st fun st' => arun C ps st' K) := by
 cases po with
 | call f =>
  simp only [arun, aop, zbl5]
  cases zz5 st g with
  | none => rfl
  | some gv => simp only [zw6, and_assoc]
 | callv =>
  simp only [arun, aop]
  cases zz5 st g with
  | none => rfl
  | some gv =>
   simp only
   generalize zf6 C st xs = vv
   rcases vv with _ | ⟨x, vs⟩
   ·rfl
   ·cases x <;> first | rfl | (simp only [zbl5, zw6, and_assoc])
 | callm f =>
  simp only [arun, aop, zaL3]
  cases zz5 st g with
  | none => rfl
  | some gv => rfl
 | callvm =>
  simp only [arun, aop]
  cases zz5 st g with
  | none => rfl
  | some gv =>
   simp only
   generalize zf6 C st xs = vv
   rcases vv with _ | ⟨x, vs⟩
   ·rfl
   ·cases x <;> first | rfl | (simp only [zaL3, and_assoc])
 | _ => rfl
def zaL4 (C : Cx) (f : FuncId) (d : Option Nat) (g : Option (Nat × Bool)) (gv : Bool) (ob : Prop) (args : List A) (rw : List (Nat × MS)) (ps : List POp) (st : St) (K : St → Prop) : Prop :=
 ∃ r, (gv = true → ob ∧ PFn C f args r) ∧ (g = none ∨ (if r.scal then [] else rw) = [] ∧ r.isVV = true) ∧ ((st.app d (zJ9 g gv r) (if r.scal then [] else rw)).mem = st.mem ∧ (st.app d (zJ9 g gv r) (if r.scal then [] else rw)).nx = st.nx) ∧ zar2 C ps (st.app d (zJ9 g gv r) (if r.scal then [] else rw)) K
theorem zbH9 {C : Cx} {f : FuncId} {d : Option Nat} {g : Option (Nat × Bool)} {gv : Bool} {ob : Prop} {args : List A} {rw : List (Nat × MS)} {ps : List POp} {st : St} {K : St → Prop} {r : A}
  (hf : gv = true → PFn C f args r) (h : zar2 C ps (st.app d (zJ9 g gv r) []) K)
  (ho : gv = true → ob := by intro; trivial) (hg : g = none ∨ (if r.scal then [] else rw) = [] ∧ r.isVV = true := by first | exact .inl rfl | exact .inr ⟨rfl, rfl⟩) (hn : (if r.scal then [] else rw) = [] := by rfl) : zaL4 C f d g gv ob args rw ps st K := ⟨r, fun e => ⟨ho e, hf e⟩, hg, by rw [hn]; exact ⟨rfl, rfl⟩, by rw [hn]; exact h⟩
theorem zbI0 (C : Cx) (st : St) (K : St → Prop) : zar2 C [] st K = K st := rfl
theorem zbA8 (C : Cx) (d : Option Nat) (g : Option (Nat × Bool)) (po : PO) (xs : List PX) (ps : List POp) (st : St) (K : St → Prop) :
  zar2 C (⟨d, g, po, xs⟩ :: ps) st K = (match po with
   | .call f => (match zz5 st g with
    | none => False
    | some gv => zaL4 C f d g gv (zX0 C st xs ∧ zt7 st.m (zf6 C st xs)) (zA9 st.m (zf6 C st xs)) (zH9 st.m (zw5 (zf6 C st xs))) ps st K)
   | .callv => (match zz5 st g with
    | none => False
    | some gv => (match zf6 C st xs with
     | .clo f caps :: vals => zaL4 C f d g gv (zX0 C st xs ∧ zI2 C.P f = true ∧ zt7 st.m (vals ++ caps)) (zA9 st.m (vals ++ caps)) (zH9 st.m (zw5 (vals ++ caps))) ps st K
     | _ => False))
   | po => aop C ⟨d, g, po, xs⟩ st fun st' => (st'.mem = st.mem ∧ st'.nx = st.nx) ∧ zar2 C ps st' K) := by
 cases po with
 | call f =>
  simp only [zar2, aop, zaL4]
  cases zz5 st g with
  | none => rfl
  | some gv => simp only [zw6, and_assoc]
 | callv =>
  simp only [zar2, aop]
  cases zz5 st g with
  | none => rfl
  | some gv =>
   simp only
   generalize zf6 C st xs = vv
   rcases vv with _ | ⟨x, vs⟩
   ·rfl
   ·cases x <;> first | rfl | (simp only [zaL4, zw6, and_assoc])
 | _ => rfl
def zaL5 (C : Cx) (an : List (List Nat)) (f : FuncId) (d : Option Nat) (g : Option (Nat × Bool)) (gv : Bool) (ob : Prop) (args : List A) (rw : List (Nat × MS)) (ids : List Nat) (cok : Bool) (ps : List POp) (st : St) (log : List (List Nat × List Nat)) (K : St → Prop) : Prop :=
 ∃ r, (gv = true → ob ∧ PFn C f args r) ∧ (g = none ∨ (if r.scal then [] else rw) = [] ∧ r.isVV = true) ∧ zat9 (an.getD log.length []) 0 log ids ((if r.scal then [] else rw).map (·.1)) = true ∧ cok = true ∧
  zaa5 C an ps (st.app d (zJ9 g gv r) (if r.scal then [] else rw)) (log ++ [(ids, (if r.scal then [] else rw).map (·.1))]) K
theorem zbI1 {C : Cx} {an : List (List Nat)} {f : FuncId} {d : Option Nat} {g : Option (Nat × Bool)} {gv : Bool} {ob : Prop} {args : List A} {rw : List (Nat × MS)} {ids : List Nat} {cok : Bool} {ps : List POp} {st : St} {log : List (List Nat × List Nat)} {K : St → Prop} {r : A}
  (hf : gv = true → PFn C f args r) (h : zat9 (an.getD log.length []) 0 log ids ((if r.scal then [] else rw).map (·.1)) = true ∧ cok = true ∧ zaa5 C an ps (st.app d (zJ9 g gv r) (if r.scal then [] else rw)) (log ++ [(ids, (if r.scal then [] else rw).map (·.1))]) K)
  (ho : gv = true → ob := by intro; trivial) (hg : g = none ∨ (if r.scal then [] else rw) = [] ∧ r.isVV = true := by first | exact .inl rfl | exact .inr ⟨rfl, rfl⟩) : zaL5 C an f d g gv ob args rw ids cok ps st log K := ⟨r, fun e => ⟨ho e, hf e⟩, hg, h.1, h.2.1, h.2.2⟩
def zay5 (C : Cx) (an : List (List Nat)) (f : FuncId) (d : Option Nat) (ob : Prop) (vals : List A) (ids : List Nat) (cok : Bool) (ps : List POp) (st : St) (log : List (List Nat × List Nat)) (K : St → Prop) : Prop :=
 ob ∧ zat4 C st.m st.nx f vals (fun n => ∀ x, st.nx ≤ x → x < st.nx + n → st.m x = .fresh) fun v mw => zat9 (an.getD log.length []) 0 log ids (mw.map (·.1)) = true ∧ cok = true ∧ zaa5 C an ps (st.app d v mw) (log ++ [(ids, mw.map (·.1))]) K
theorem zbA9 {C : Cx} {an : List (List Nat)} {f : FuncId} {d : Option Nat} {ob : Prop} {vals : List A} {ids : List Nat} {cok : Bool} {ps : List POp} {st : St} {log : List (List Nat × List Nat)} {K : St → Prop} (l : List (Nat × Nat)) {as : List A} {ms ms' : List (Nat × Row)} {k k' : Nat} {r : A}
  (hf : MFn C f as ms k r ms' k') (hok : okM st.m st.nx l vals as ms k k')
  (h : zat9 (an.getD log.length []) 0 log ids ((mwM st.m (l ++ newL k st.nx (k' - k)) vals as ms ms' k k').map (·.1)) = true ∧ cok = true ∧ zaa5 C an ps (st.app d (renR (l ++ newL k st.nx (k' - k)) r) (mwM st.m (l ++ newL k st.nx (k' - k)) vals as ms ms' k k')) (log ++ [(ids, (mwM st.m (l ++ newL k st.nx (k' - k)) vals as ms ms' k k').map (·.1))]) K)
  (ho : ob := by trivial) (hr : zbv2 r = true := by rfl) : zay5 C an f d ob vals ids cok ps st log K :=
 ⟨ho, l, as, ms, k, r, ms', k', hf, hok, zbv3 hr, fun x hx _ => zaU8 st x hx, h⟩
theorem zbI2 (C : Cx) (an : List (List Nat)) (st : St) (log : List (List Nat × List Nat)) (K : St → Prop) : zaa5 C an [] st log K = K st := rfl
theorem zbB0 (C : Cx) (an : List (List Nat)) (d : Option Nat) (g : Option (Nat × Bool)) (po : PO) (xs : List PX) (ps : List POp) (st : St) (log : List (List Nat × List Nat)) (K : St → Prop) :
  zaa5 C an (⟨d, g, po, xs⟩ :: ps) st log K = (match po with
   | .call f => (match zw7 st.slot g with
    | none => False
    | some gv => zaL5 C an f d g gv (gdsF C st.slot xs ∧ zt7 st.m (zx5 C st.slot xs)) (zA9 st.m (zx5 C st.slot xs)) (zH9 st.m (zw5 (zx5 C st.slot xs))) (zp8 (zf6 C st xs)) (zap2 (zf6 C st xs)) ps st log K)
   | .callv => (match zw7 st.slot g with
    | none => False
    | some gv => (match zx5 C st.slot xs with
     | .clo f caps :: vals => zaL5 C an f d g gv (gdsF C st.slot xs ∧ zI2 C.P f = true ∧ zt7 st.m (vals ++ caps)) (zA9 st.m (vals ++ caps)) (zH9 st.m (zw5 (vals ++ caps))) (zp8 (zf6 C st xs)) (zap2 (zf6 C st xs)) ps st log K
     | _ => False))
   | .callm f => (match zw7 st.slot g with
    | none => False
    | some _ => g = none ∧ zay5 C an f d (gdsF C st.slot xs) (zx5 C st.slot xs) (zp8 (zf6 C st xs)) (zap2 (zf6 C st xs)) ps st log K)
   | .callvm => (match zw7 st.slot g with
    | none => False
    | some _ => (match zx5 C st.slot xs with
     | .clo f caps :: vals => g = none ∧ zay5 C an f d (gdsF C st.slot xs ∧ zI2 C.P f = true) (vals ++ caps) (zp8 (zf6 C st xs)) (zap2 (zf6 C st xs)) ps st log K
     | _ => False))
   | po => aopS C ⟨d, g, po, xs⟩ st.toS st.nx fun v mw => zat9 (an.getD log.length []) 0 log (zp8 (zf6 C st xs)) (mw.map (·.1)) = true ∧ zap2 (zf6 C st xs) = true ∧
     zaa5 C an ps (st.app d v mw) (log ++ [(zp8 (zf6 C st xs), mw.map (·.1))]) K) := by
 cases po with
 | call f =>
  simp only [zaa5, aopS, zaL5, St.toS]
  cases zw7 st.slot g with
  | none => rfl
  | some gv => simp only [zw6, and_assoc]
 | callv =>
  simp only [zaa5, aopS, St.toS]
  cases zw7 st.slot g with
  | none => rfl
  | some gv =>
   simp only
   generalize zx5 C st.slot xs = vv
   rcases vv with _ | ⟨x, vs⟩
   ·rfl
   ·cases x <;> first | rfl | (simp only [zaL5, zw6, and_assoc])
 | callm f =>
  simp only [zaa5, aopS, zay5, St.toS]
  cases zw7 st.slot g with
  | none => rfl
  | some gv => rfl
 | callvm =>
  simp only [zaa5, aopS, St.toS]
  cases zw7 st.slot g with
  | none => rfl
  | some gv =>
   simp only
   generalize zx5 C st.slot xs = vv
   rcases vv with _ | ⟨x, vs⟩
   ·rfl
   ·cases x <;> first | rfl | (simp only [zay5, and_assoc])
 | _ => rfl
attribute [go_sem ↓] aop aopS
attribute [go_sem] zbN9 zbH8 zbI0 zbA8 zbI2 zbB0 zw7 zx5 gdsF St.toS zp8 idsA zaB3 zam5 zap2 zau0 A.flatCap okM zaX4 argM A.hands fzM zbk1 zbk2 newL zT8 mwM entM renR ren0 zbt5 resL zaY4 zbk9 zz5 St.slot St.m look zf6 zX0 xv A.nc A.gd ev zbj1 zW9 zaB0 zac5 A.cells A.isV A.isK A.isStr A.isVV allV allK zj1 laid zaW1 zao7
 zJ9 St.app putF putM nxt rm zbk0 St.drop zw6 zA9 zt7 frz frz1 zaa1 zT7 zab4 zz4 zw5 zH9 A.scal A.scal1 A.scal2 zB0 zaX3 zg5 A.pure1 pureEs
 zh6 LK.fits eqA eq1 glob zG8 zbk8 allG zar1 resA resG zbE8 Le leF leM rho ren ren1 zai6 idOk zaQ0 idEs zae3
def SeqQ (C : Cx) (E : Env) (y : PC) (Q : Exit → St → Prop) : Exit → St → Prop := fun e s => match e with | .normal => AW C E y Q s | e => Q e s
def BlkQ (id : Nat) (Q : Exit → St → Prop) : Exit → St → Prop := fun e s => match e with | .exit i => (if i = id then Q .normal s else Q (.exit i) s) | e => Q e s
def zbO0 (E : Env) {G : Type} (I : G → St) (inv : G → Prop) (μ : G → Nat) (g : G) (Q : Exit → St → Prop) : Exit → St → Prop := fun e s => match e with | .normal => ∃ g', inv g' ∧ St.le E s (I g') ∧ μ g' < μ g | e => Q e s
section
variable {C : Cx} {E : Env} {Q : Exit → St → Prop} {st : St}
theorem za0 {x y : PC} (h : AW C E x (SeqQ C E y Q) st) : AW C E (.seq x y) Q st := zea2 h
theorem zb6 {id : Nat} {c : PC} (h : AW C E c (BlkQ id Q) st) : AW C E (.block id c) Q st := zbu1 h
theorem zbv4 {y : PC} (s : St) : SeqQ C E y Q .normal s = AW C E y Q s := rfl
theorem zbO1 {y : PC} (s : St) : SeqQ C E y Q .ret s = Q .ret s := rfl
theorem zbI3 {y : PC} (i : Nat) (s : St) : SeqQ C E y Q (.exit i) s = Q (.exit i) s := rfl
theorem zbv5 (i : Nat) (s : St) : BlkQ i Q .normal s = Q .normal s := rfl
theorem zbO2 (i : Nat) (s : St) : BlkQ i Q .ret s = Q .ret s := rfl
theorem zbI4 (i j : Nat) (s : St) : BlkQ i Q (.exit j) s = if j = i then Q .normal s else Q (.exit j) s := rfl
theorem zbp5 {G : Type} (I : G → St) (inv : G → Prop) (μ : G → Nat) (g : G) (s : St) : zbO0 E I inv μ g Q .normal s = ∃ g', inv g' ∧ St.le E s (I g') ∧ μ g' < μ g := rfl
theorem zbI5 {G : Type} (I : G → St) (inv : G → Prop) (μ : G → Nat) (g : G) (s : St) : zbO0 E I inv μ g Q .ret s = Q .ret s := rfl
theorem zbB1 {G : Type} (I : G → St) (inv : G → Prop) (μ : G → Nat) (g : G) (i : Nat) (s : St) : zbO0 E I inv μ g Q (.exit i) s = Q (.exit i) s := rfl
theorem zbO3 (rs : List RX) (r : A) (fr : List (Nat × A)) (m : List (Nat × Row)) (n : Nat) : Post rs r .ret ⟨fr, m, n⟩ = zbk8 ⟨fr, m, n⟩ rs r := rfl
theorem zbv6 (rs : List RX) (r : A) (fr : List (Nat × A)) (m : List (Nat × Row)) (n : Nat) : Post rs r .normal ⟨fr, m, n⟩ = zbk8 ⟨fr, m, n⟩ rs r := rfl
theorem zbI6 (k : Nat) (rs : List RX) (rl : List A) (ms' : List (Nat × Row)) (k' : Nat) (fr : List (Nat × A)) (m : List (Nat × Row)) (n : Nat) : zbN1 k rs rl ms' k' .ret ⟨fr, m, n⟩ = zaK8 k ⟨fr, m, n⟩ rs rl ms' k' := rfl
theorem zbp6 (k : Nat) (rs : List RX) (rl : List A) (ms' : List (Nat × Row)) (k' : Nat) (fr : List (Nat × A)) (m : List (Nat × Row)) (n : Nat) : zbN1 k rs rl ms' k' .normal ⟨fr, m, n⟩ = zaK8 k ⟨fr, m, n⟩ rs rl ms' k' := rfl
attribute [go_sem] zbI6 zbp6 zbv1 zbN7 zbH6 St.gh St.ghOk St.fz St.fzOk St.own0 St.cast St.unf zaZ9 zar3 unfA memN fzA fzCs fzV fzEs fzFr zbu8 zbl1 zaL1 zbu9 zaV1 zbp1 zbp2 zaV2 frR zer3
attribute [go_sem] zbv4 zbO1 zbI3 zbv5 zbO2 zbI4 zbp5 zbI5 zbB1 zbO3 zbv6
end
theorem zbB2 (n : Nat) : zg4 n [] := by intro c hc; cases hc
theorem zbh3 (n : Nat) (a b : List (List A)) : zg4 n (a ++ b) ↔ zg4 n a ∧ zg4 n b := by
 simp only [zg4, List.mem_append]
 exact ⟨fun h => ⟨fun c hc => h c (.inl hc), fun c hc => h c (.inr hc)⟩, fun ⟨h1, h2⟩ c hc => hc.elim (h1 c) (h2 c)⟩
theorem zbv7 (n : Nat) (a : List A) (b : List (List A)) : zg4 n (a :: b) ↔ a.length = n ∧ zg4 n b := by
 simp only [zg4, List.mem_cons]
 exact ⟨fun h => ⟨h a (.inl rfl), fun c hc => h c (.inr hc)⟩, fun ⟨h1, h2⟩ c hc => hc.elim (fun e => e ▸ h1) (h2 c)⟩
theorem zbp7 : zt6 [] := by intro c hc; cases hc
attribute [go_sem] Nat.zero_add Nat.add_zero Nat.lt_irrefl Nat.le_refl Nat.lt_add_one Nat.zero_le Int.toNat_zero Int.toNat_natCast Int.natCast_zero imp_self and_self true_and and_true false_and and_false or_true true_or or_false false_or forall_const true_implies false_implies implies_true if_true if_false eq_self ne_eq not_true_eq_false not_false_eq_true Bool.true_and Bool.and_true Bool.false_and Bool.and_false Bool.not_true Bool.not_false Bool.not_not Bool.false_eq_true Bool.true_eq_false cond_true cond_false Bool.cond_true_left Bool.cond_true_right Bool.cond_false_left Bool.cond_false_right decide_true decide_false Option.getD_some Option.getD_none Option.map_some Option.map_none Option.bind_some Option.isSome_some Option.isNone_none List.length_cons List.length_nil List.length_map List.length_append List.all_nil List.all_cons List.nil_append List.append_nil List.map_nil List.map_cons List.set_cons_zero List.set_nil List.getD_cons_zero List.getD_cons_succ List.length_set List.headD_cons List.contains_nil List.take_nil List.drop_nil beq_self_eq_true
attribute [go_sem] zbB2 zbh3 zbv7 zbp7
@[go_sem] theorem zeW5 : ([] : List A).flatMap zz4 = [] := rfl
@[go_sem] theorem zeW6 (x lo n : Nat) (cs : List A) : (A.own x lo n :: cs).flatMap zz4 = x :: cs.flatMap zz4 := rfl
@[go_sem] theorem zeW7 (s : ByteArray) (cs : List A) : (A.str s :: cs).flatMap zz4 = cs.flatMap zz4 := rfl
@[go_sem] theorem zeW8 (k : IntKind) (n : Int) (cs : List A) : (A.int k n :: cs).flatMap zz4 = cs.flatMap zz4 := rfl
@[go_sem] theorem zeV0 (b : Bool) (cs : List A) : (A.bool b :: cs).flatMap zz4 = cs.flatMap zz4 := rfl
@[go_sem] theorem zeZ9 (l : List (List A)) (cs : List A) : (A.sl l :: cs).flatMap zz4 = cs.flatMap zz4 := rfl
attribute [go_sem] List.isEmpty_nil List.isEmpty_cons ite_self List.forall_mem_cons List.not_mem_nil
@[go_sem ↓] theorem zer4 (r : A) : (if r.scal = true then ([] : List (Nat × MS)) else []) = [] := ite_self _
@[go_sem] theorem zeV1 : IntKind.i64.wrap (0 + 1) = 1 := by decide
@[go_sem] theorem zeV2 : IntKind.i64.wrap (1 + 1) = 2 := by decide
@[go_sem] theorem zeV3 : IntKind.i64.wrap (2 + 1) = 3 := by decide
@[go_sem] theorem zeV4 : IntKind.i64.wrap (3 + 1) = 4 := by decide
@[go_sem] theorem zeV5 : IntKind.i64.wrap (4 + 1) = 5 := by decide
@[go_sem] theorem zeV6 : IntKind.i64.wrap (5 + 1) = 6 := by decide
@[go_sem] theorem zeV7 : IntKind.i64.wrap (6 + 1) = 7 := by decide
@[go_sem] theorem zeV8 : IntKind.i64.wrap (7 + 1) = 8 := by decide
@[go_sem] theorem zeV9 (c x : A) (cs xs : List A) : upd (c :: cs) 0 (x :: xs) = x :: upd cs 0 xs := by simp [upd, Nat.add_comm]
@[go_sem] theorem zeW0 (cs : List A) (n : Nat) : upd cs n [] = cs := by simp [upd]
@[go_sem] theorem zeW9 (c : A) (cs new : List A) (n : Nat) : upd (c :: cs) (n + 1) new = c :: upd cs n new := by simp [upd, Nat.add_right_comm]
@[go_sem] theorem zeW1 (c : A) (cs : List A) (k : Nat) : sub (c :: cs) 0 (k + 1) = c :: sub cs 0 k := by simp [sub]
@[go_sem] theorem zeW2 (cs : List A) (n : Nat) : sub cs n 0 = [] := by simp [sub]
@[go_sem] theorem zeX0 (c : A) (cs : List A) (n k : Nat) : sub (c :: cs) (n + 1) k = sub cs n k := by simp [sub]
end Ab
end Go.Proofs.YtfjeceicgfdmjaaGreatDoor
