/-
  The small machine's functions as rules of rewriting.
-/
import Derived.Test.YtfjeceicgfdmjaaGreatDoorTy
import Derived.Test.YtfjeceicgfdmjaaGreatDoorAb22
namespace Go.Proofs.YtfjeceicgfdmjaaGreatDoor
namespace Ab
set_option linter.unusedSimpArgs false
set_option linter.unusedVariables false
def zbl8 (C : Cx) (f : FuncId) (d : Option Nat) (g : Option (Nat × Bool)) (gv : Bool) (ob : Prop) (args : List A) (rw : List (Nat × MS)) (ps : List POp) (st : St) (K : St → Prop) : Prop :=
 ∃ r, (gv = true → ob ∧ PFn C f args r) ∧ (g = none ∨ (if r.scal then [] else rw) = [] ∧ r.isVV = true) ∧ arun C ps (st.app d (zJ5 g gv r) (if r.scal then [] else rw)) K
theorem zbQ6 {C : Cx} {f : FuncId} {d : Option Nat} {g : Option (Nat × Bool)} {gv : Bool} {ob : Prop} {args : List A} {rw : List (Nat × MS)} {ps : List POp} {st : St} {K : St → Prop} {r : A}
  (hf : gv = true → PFn C f args r) (h : arun C ps (st.app d (zJ5 g gv r) (if r.scal then [] else rw)) K)
  (ho : gv = true → ob := by intro; trivial) (hg : g = none ∨ (if r.scal then [] else rw) = [] ∧ r.isVV = true := by first | exact .inl rfl | exact .inr ⟨rfl, rfl⟩) : zbl8 C f d g gv ob args rw ps st K := ⟨r, fun e => ⟨ho e, hf e⟩, hg, h⟩
def zaL8 (C : Cx) (f : FuncId) (d : Option Nat) (ob : Prop) (vals : List A) (ps : List POp) (st : St) (K : St → Prop) : Prop :=
 ob ∧ zau7 C st.m st.nx f vals (fun _ => True) fun v mw => arun C ps (st.app d v mw) K
def zbv8 : A → Bool
 | .cnd _ _ => false
 | _ => true
theorem zbv9 {r : A} (h : zbv8 r = true) : ∀ g c, r ≠ .cnd g c := fun g c e => by subst e; cases h
theorem zbJ9 {C : Cx} {f : FuncId} {d : Option Nat} {ob : Prop} {vals : List A} {ps : List POp} {st : St} {K : St → Prop} (l : List (Nat × Nat)) {as : List A} {ms ms' : List (Nat × Row)} {k k' : Nat} {r : A}
  (hf : MFn C f as ms k r ms' k') (hok : okM st.m st.nx l vals as ms k k') (h : arun C ps (st.app d (renR (l ++ newL k st.nx (k' - k)) r) (mwM st.m (l ++ newL k st.nx (k' - k)) vals as ms ms' k k')) K)
  (ho : ob := by trivial) (hr : zbv8 r = true := by rfl) : zaL8 C f d ob vals ps st K :=
 ⟨ho, l, as, ms, k, r, ms', k', hf, hok, zbv9 hr, trivial, h⟩
theorem zbQ7 (C : Cx) (st : St) (K : St → Prop) : arun C [] st K = K st := rfl
theorem zbK0 (C : Cx) (d : Option Nat) (g : Option (Nat × Bool)) (po : PO) (xs : List PX) (ps : List POp) (st : St) (K : St → Prop) :
  arun C (⟨d, g, po, xs⟩ :: ps) st K = (match po with
   | .call f => (match zy9 st g with
    | none => False
    | some gv => zbl8 C f d g gv (zX5 C st xs ∧ zt7 st.m (zf7 C st xs)) (zA2 st.m (zf7 C st xs)) (zH2 st.m (zv9 (zf7 C st xs))) ps st K)
   | .callv => (match zy9 st g with
    | none => False
    | some gv => (match zf7 C st xs with
     | .clo f caps :: vals => zbl8 C f d g gv (zX5 C st xs ∧ zH7 C.P f = true ∧ zt7 st.m (vals ++ caps)) (zA2 st.m (vals ++ caps)) (zH2 st.m (zv9 (vals ++ caps))) ps st K
     | _ => False))
   | .callm f => (match zy9 st g with
    | none => False
    | some _ => g = none ∧ zaL8 C f d (zX5 C st xs) (zf7 C st xs) ps st K)
   | .callvm => (match zy9 st g with
    | none => False
    | some _ => (match zf7 C st xs with
     | .clo f caps :: vals => g = none ∧ zaL8 C f d (zX5 C st xs ∧ zH7 C.P f = true) (vals ++ caps) ps st K
     | _ => False))
   | po => aop C ⟨d, g, po, xs⟩ st fun st' => arun C ps st' K) := by
 cases po with
 | call f =>
  simp only [arun, aop, zbl8]
  cases zy9 st g with
  | none => rfl
  | some gv => simp only [zw0, and_assoc]
 | callv =>
  simp only [arun, aop]
  cases zy9 st g with
  | none => rfl
  | some gv =>
   simp only
   generalize zf7 C st xs = vv
   rcases vv with _ | ⟨x, vs⟩
   ·rfl
   ·cases x <;> first | rfl | (simp only [zbl8, zw0, and_assoc])
 | callm f =>
  simp only [arun, aop, zaL8]
  cases zy9 st g with
  | none => rfl
  | some gv => rfl
 | callvm =>
  simp only [arun, aop]
  cases zy9 st g with
  | none => rfl
  | some gv =>
   simp only
   generalize zf7 C st xs = vv
   rcases vv with _ | ⟨x, vs⟩
   ·rfl
   ·cases x <;> first | rfl | (simp only [zaL8, and_assoc])
 | _ => rfl
def zaL9 (C : Cx) (f : FuncId) (d : Option Nat) (g : Option (Nat × Bool)) (gv : Bool) (ob : Prop) (args : List A) (rw : List (Nat × MS)) (ps : List POp) (st : St) (K : St → Prop) : Prop :=
 ∃ r, (gv = true → ob ∧ PFn C f args r) ∧ (g = none ∨ (if r.scal then [] else rw) = [] ∧ r.isVV = true) ∧ ((st.app d (zJ5 g gv r) (if r.scal then [] else rw)).mem = st.mem ∧ (st.app d (zJ5 g gv r) (if r.scal then [] else rw)).nx = st.nx) ∧ zas7 C ps (st.app d (zJ5 g gv r) (if r.scal then [] else rw)) K
theorem zbK1 {C : Cx} {f : FuncId} {d : Option Nat} {g : Option (Nat × Bool)} {gv : Bool} {ob : Prop} {args : List A} {rw : List (Nat × MS)} {ps : List POp} {st : St} {K : St → Prop} {r : A}
  (hf : gv = true → PFn C f args r) (h : zas7 C ps (st.app d (zJ5 g gv r) []) K)
  (ho : gv = true → ob := by intro; trivial) (hg : g = none ∨ (if r.scal then [] else rw) = [] ∧ r.isVV = true := by first | exact .inl rfl | exact .inr ⟨rfl, rfl⟩) (hn : (if r.scal then [] else rw) = [] := by rfl) : zaL9 C f d g gv ob args rw ps st K := ⟨r, fun e => ⟨ho e, hf e⟩, hg, by rw [hn]; exact ⟨rfl, rfl⟩, by rw [hn]; exact h⟩
theorem zbK2 (C : Cx) (st : St) (K : St → Prop) : zas7 C [] st K = K st := rfl
theorem zbC6 (C : Cx) (d : Option Nat) (g : Option (Nat × Bool)) (po : PO) (xs : List PX) (ps : List POp) (st : St) (K : St → Prop) :
  zas7 C (⟨d, g, po, xs⟩ :: ps) st K = (match po with
   | .call f => (match zy9 st g with
    | none => False
    | some gv => zaL9 C f d g gv (zX5 C st xs ∧ zt7 st.m (zf7 C st xs)) (zA2 st.m (zf7 C st xs)) (zH2 st.m (zv9 (zf7 C st xs))) ps st K)
   | .callv => (match zy9 st g with
    | none => False
    | some gv => (match zf7 C st xs with
     | .clo f caps :: vals => zaL9 C f d g gv (zX5 C st xs ∧ zH7 C.P f = true ∧ zt7 st.m (vals ++ caps)) (zA2 st.m (vals ++ caps)) (zH2 st.m (zv9 (vals ++ caps))) ps st K
     | _ => False))
   | po => aop C ⟨d, g, po, xs⟩ st fun st' => (st'.mem = st.mem ∧ st'.nx = st.nx) ∧ zas7 C ps st' K) := by
 cases po with
 | call f =>
  simp only [zas7, aop, zaL9]
  cases zy9 st g with
  | none => rfl
  | some gv => simp only [zw0, and_assoc]
 | callv =>
  simp only [zas7, aop]
  cases zy9 st g with
  | none => rfl
  | some gv =>
   simp only
   generalize zf7 C st xs = vv
   rcases vv with _ | ⟨x, vs⟩
   ·rfl
   ·cases x <;> first | rfl | (simp only [zaL9, zw0, and_assoc])
 | _ => rfl
def zaM0 (C : Cx) (an : List (List Nat)) (f : FuncId) (d : Option Nat) (g : Option (Nat × Bool)) (gv : Bool) (ob : Prop) (args : List A) (rw : List (Nat × MS)) (ids : List Nat) (cok : Bool) (ps : List POp) (st : St) (log : List (List Nat × List Nat)) (K : St → Prop) : Prop :=
 ∃ r, (gv = true → ob ∧ PFn C f args r) ∧ (g = none ∨ (if r.scal then [] else rw) = [] ∧ r.isVV = true) ∧ zav2 (an.getD log.length []) 0 log ids ((if r.scal then [] else rw).map (·.1)) = true ∧ cok = true ∧
  zaa8 C an ps (st.app d (zJ5 g gv r) (if r.scal then [] else rw)) (log ++ [(ids, (if r.scal then [] else rw).map (·.1))]) K
theorem zbK3 {C : Cx} {an : List (List Nat)} {f : FuncId} {d : Option Nat} {g : Option (Nat × Bool)} {gv : Bool} {ob : Prop} {args : List A} {rw : List (Nat × MS)} {ids : List Nat} {cok : Bool} {ps : List POp} {st : St} {log : List (List Nat × List Nat)} {K : St → Prop} {r : A}
  (hf : gv = true → PFn C f args r) (h : zav2 (an.getD log.length []) 0 log ids ((if r.scal then [] else rw).map (·.1)) = true ∧ cok = true ∧ zaa8 C an ps (st.app d (zJ5 g gv r) (if r.scal then [] else rw)) (log ++ [(ids, (if r.scal then [] else rw).map (·.1))]) K)
  (ho : gv = true → ob := by intro; trivial) (hg : g = none ∨ (if r.scal then [] else rw) = [] ∧ r.isVV = true := by first | exact .inl rfl | exact .inr ⟨rfl, rfl⟩) : zaM0 C an f d g gv ob args rw ids cok ps st log K := ⟨r, fun e => ⟨ho e, hf e⟩, hg, h.1, h.2.1, h.2.2⟩
def zaz2 (C : Cx) (an : List (List Nat)) (f : FuncId) (d : Option Nat) (ob : Prop) (vals : List A) (ids : List Nat) (cok : Bool) (ps : List POp) (st : St) (log : List (List Nat × List Nat)) (K : St → Prop) : Prop :=
 ob ∧ zau7 C st.m st.nx f vals (fun n => ∀ x, st.nx ≤ x → x < st.nx + n → st.m x = .fresh) fun v mw => zav2 (an.getD log.length []) 0 log ids (mw.map (·.1)) = true ∧ cok = true ∧ zaa8 C an ps (st.app d v mw) (log ++ [(ids, mw.map (·.1))]) K
theorem zbC7 {C : Cx} {an : List (List Nat)} {f : FuncId} {d : Option Nat} {ob : Prop} {vals : List A} {ids : List Nat} {cok : Bool} {ps : List POp} {st : St} {log : List (List Nat × List Nat)} {K : St → Prop} (l : List (Nat × Nat)) {as : List A} {ms ms' : List (Nat × Row)} {k k' : Nat} {r : A}
  (hf : MFn C f as ms k r ms' k') (hok : okM st.m st.nx l vals as ms k k')
  (h : zav2 (an.getD log.length []) 0 log ids ((mwM st.m (l ++ newL k st.nx (k' - k)) vals as ms ms' k k').map (·.1)) = true ∧ cok = true ∧ zaa8 C an ps (st.app d (renR (l ++ newL k st.nx (k' - k)) r) (mwM st.m (l ++ newL k st.nx (k' - k)) vals as ms ms' k k')) (log ++ [(ids, (mwM st.m (l ++ newL k st.nx (k' - k)) vals as ms ms' k k').map (·.1))]) K)
  (ho : ob := by trivial) (hr : zbv8 r = true := by rfl) : zaz2 C an f d ob vals ids cok ps st log K :=
 ⟨ho, l, as, ms, k, r, ms', k', hf, hok, zbv9 hr, fun x hx _ => zaV2 st x hx, h⟩
theorem zbK4 (C : Cx) (an : List (List Nat)) (st : St) (log : List (List Nat × List Nat)) (K : St → Prop) : zaa8 C an [] st log K = K st := rfl
theorem zbC8 (C : Cx) (an : List (List Nat)) (d : Option Nat) (g : Option (Nat × Bool)) (po : PO) (xs : List PX) (ps : List POp) (st : St) (log : List (List Nat × List Nat)) (K : St → Prop) :
  zaa8 C an (⟨d, g, po, xs⟩ :: ps) st log K = (match po with
   | .call f => (match zw1 st.slot g with
    | none => False
    | some gv => zaM0 C an f d g gv (gdsF C st.slot xs ∧ zt7 st.m (zx0 C st.slot xs)) (zA2 st.m (zx0 C st.slot xs)) (zH2 st.m (zv9 (zx0 C st.slot xs))) (zp8 (zf7 C st xs)) (zaq3 (zf7 C st xs)) ps st log K)
   | .callv => (match zw1 st.slot g with
    | none => False
    | some gv => (match zx0 C st.slot xs with
     | .clo f caps :: vals => zaM0 C an f d g gv (gdsF C st.slot xs ∧ zH7 C.P f = true ∧ zt7 st.m (vals ++ caps)) (zA2 st.m (vals ++ caps)) (zH2 st.m (zv9 (vals ++ caps))) (zp8 (zf7 C st xs)) (zaq3 (zf7 C st xs)) ps st log K
     | _ => False))
   | .callm f => (match zw1 st.slot g with
    | none => False
    | some _ => g = none ∧ zaz2 C an f d (gdsF C st.slot xs) (zx0 C st.slot xs) (zp8 (zf7 C st xs)) (zaq3 (zf7 C st xs)) ps st log K)
   | .callvm => (match zw1 st.slot g with
    | none => False
    | some _ => (match zx0 C st.slot xs with
     | .clo f caps :: vals => g = none ∧ zaz2 C an f d (gdsF C st.slot xs ∧ zH7 C.P f = true) (vals ++ caps) (zp8 (zf7 C st xs)) (zaq3 (zf7 C st xs)) ps st log K
     | _ => False))
   | po => aopS C ⟨d, g, po, xs⟩ st.toS st.nx fun v mw => zav2 (an.getD log.length []) 0 log (zp8 (zf7 C st xs)) (mw.map (·.1)) = true ∧ zaq3 (zf7 C st xs) = true ∧
     zaa8 C an ps (st.app d v mw) (log ++ [(zp8 (zf7 C st xs), mw.map (·.1))]) K) := by
 cases po with
 | call f =>
  simp only [zaa8, aopS, zaM0, St.toS]
  cases zw1 st.slot g with
  | none => rfl
  | some gv => simp only [zw0, and_assoc]
 | callv =>
  simp only [zaa8, aopS, St.toS]
  cases zw1 st.slot g with
  | none => rfl
  | some gv =>
   simp only
   generalize zx0 C st.slot xs = vv
   rcases vv with _ | ⟨x, vs⟩
   ·rfl
   ·cases x <;> first | rfl | (simp only [zaM0, zw0, and_assoc])
 | callm f =>
  simp only [zaa8, aopS, zaz2, St.toS]
  cases zw1 st.slot g with
  | none => rfl
  | some gv => rfl
 | callvm =>
  simp only [zaa8, aopS, St.toS]
  cases zw1 st.slot g with
  | none => rfl
  | some gv =>
   simp only
   generalize zx0 C st.slot xs = vv
   rcases vv with _ | ⟨x, vs⟩
   ·rfl
   ·cases x <;> first | rfl | (simp only [zaz2, and_assoc])
 | _ => rfl
attribute [go_sem ↓] aop aopS
attribute [go_sem] zbQ7 zbK0 zbK2 zbC6 zbK4 zbC8 zw1 zx0 gdsF St.toS zp8 idsA zaB8 zan5 zaq3 zav3 A.flatCap okM zaX8 argM A.hands fzM zbk4 zbk5 newL zT8 mwM entM renR ren0 zbu1 resL zaY8 zbl2 zy9 St.slot St.m look zf7 zX5 xv A.nc A.gd ev zbj4 zX4 zaB5 zad2 A.cells A.isV A.isK A.isStr A.isVV allV allK zj0 laid zaW5 zap8
 zJ5 St.app putF putM nxt rm zbk3 St.drop zw0 zA2 zt7 frz frz1 zaa4 zT7 zab9 zy8 zv9 zH2 A.scal A.scal1 A.scal2 zA3 zaX7 zg5 A.pure1 pureEs
 zh6 LK.fits eqA eq1 glob zG0 zbl1 allG zas6 resA resG zbG8 Le leF leM rho ren ren1 zaj0 idOk zaQ1 idEs zae8
def SeqQ (C : Cx) (E : Env) (y : PC) (Q : Exit → St → Prop) : Exit → St → Prop := fun e s => match e with | .normal => AW C E y Q s | e => Q e s
def BlkQ (id : Nat) (Q : Exit → St → Prop) : Exit → St → Prop := fun e s => match e with | .exit i => (if i = id then Q .normal s else Q (.exit i) s) | e => Q e s
def zbQ8 (E : Env) {G : Type} (I : G → St) (inv : G → Prop) (μ : G → Nat) (g : G) (Q : Exit → St → Prop) : Exit → St → Prop := fun e s => match e with | .normal => ∃ g', inv g' ∧ St.le E s (I g') ∧ μ g' < μ g | e => Q e s
section
variable {C : Cx} {E : Env} {Q : Exit → St → Prop} {st : St}
theorem za0 {x y : PC} (h : AW C E x (SeqQ C E y Q) st) : AW C E (.seq x y) Q st := zeb9 h
theorem zb6 {id : Nat} {c : PC} (h : AW C E c (BlkQ id Q) st) : AW C E (.block id c) Q st := zbu7 h
theorem zbw0 {y : PC} (s : St) : SeqQ C E y Q .normal s = AW C E y Q s := rfl
theorem zbQ9 {y : PC} (s : St) : SeqQ C E y Q .ret s = Q .ret s := rfl
theorem zbK5 {y : PC} (i : Nat) (s : St) : SeqQ C E y Q (.exit i) s = Q (.exit i) s := rfl
theorem zbw1 (i : Nat) (s : St) : BlkQ i Q .normal s = Q .normal s := rfl
theorem zbR0 (i : Nat) (s : St) : BlkQ i Q .ret s = Q .ret s := rfl
theorem zbK6 (i j : Nat) (s : St) : BlkQ i Q (.exit j) s = if j = i then Q .normal s else Q (.exit j) s := rfl
theorem zbp4 {G : Type} (I : G → St) (inv : G → Prop) (μ : G → Nat) (g : G) (s : St) : zbQ8 E I inv μ g Q .normal s = ∃ g', inv g' ∧ St.le E s (I g') ∧ μ g' < μ g := rfl
theorem zbK7 {G : Type} (I : G → St) (inv : G → Prop) (μ : G → Nat) (g : G) (s : St) : zbQ8 E I inv μ g Q .ret s = Q .ret s := rfl
theorem zbC9 {G : Type} (I : G → St) (inv : G → Prop) (μ : G → Nat) (g : G) (i : Nat) (s : St) : zbQ8 E I inv μ g Q (.exit i) s = Q (.exit i) s := rfl
theorem zbR1 (rs : List RX) (r : A) (fr : List (Nat × A)) (m : List (Nat × Row)) (n : Nat) : Post rs r .ret ⟨fr, m, n⟩ = zbl1 ⟨fr, m, n⟩ rs r := rfl
theorem zbw2 (rs : List RX) (r : A) (fr : List (Nat × A)) (m : List (Nat × Row)) (n : Nat) : Post rs r .normal ⟨fr, m, n⟩ = zbl1 ⟨fr, m, n⟩ rs r := rfl
theorem zbK8 (k : Nat) (rs : List RX) (rl : List A) (ms' : List (Nat × Row)) (k' : Nat) (fr : List (Nat × A)) (m : List (Nat × Row)) (n : Nat) : zbP9 k rs rl ms' k' .ret ⟨fr, m, n⟩ = zaL2 k ⟨fr, m, n⟩ rs rl ms' k' := rfl
theorem zbp5 (k : Nat) (rs : List RX) (rl : List A) (ms' : List (Nat × Row)) (k' : Nat) (fr : List (Nat × A)) (m : List (Nat × Row)) (n : Nat) : zbP9 k rs rl ms' k' .normal ⟨fr, m, n⟩ = zaL2 k ⟨fr, m, n⟩ rs rl ms' k' := rfl
attribute [go_sem] zbK8 zbp5 zbv7 zbQ5 zbJ8 St.gh St.ghOk St.fz St.fzOk St.own0 St.cast St.unf zba3 zas8 unfA memN fzA fzCs fzV fzEs fzFr zbv4 zbl4 zaL5 zbv5 zaV5 zbp0 zbp1 zaV6 frR zes8
attribute [go_sem] zbw0 zbQ9 zbK5 zbw1 zbR0 zbK6 zbp4 zbK7 zbC9 zbR1 zbw2
end
theorem zbD0 (n : Nat) : zg4 n [] := by intro c hc; cases hc
theorem zbh5 (n : Nat) (a b : List (List A)) : zg4 n (a ++ b) ↔ zg4 n a ∧ zg4 n b := by
 simp only [zg4, List.mem_append]
 exact ⟨fun h => ⟨fun c hc => h c (.inl hc), fun c hc => h c (.inr hc)⟩, fun ⟨h1, h2⟩ c hc => hc.elim (h1 c) (h2 c)⟩
theorem zbw3 (n : Nat) (a : List A) (b : List (List A)) : zg4 n (a :: b) ↔ a.length = n ∧ zg4 n b := by
 simp only [zg4, List.mem_cons]
 exact ⟨fun h => ⟨h a (.inl rfl), fun c hc => h c (.inr hc)⟩, fun ⟨h1, h2⟩ c hc => hc.elim (fun e => e ▸ h1) (h2 c)⟩
theorem zbp6 : zt6 [] := by intro c hc; cases hc
attribute [go_sem] Nat.zero_add Nat.add_zero Nat.lt_irrefl Nat.le_refl Nat.lt_add_one Nat.zero_le Int.toNat_zero Int.toNat_natCast Int.natCast_zero imp_self and_self true_and and_true false_and and_false or_true true_or or_false false_or forall_const true_implies false_implies implies_true if_true if_false eq_self ne_eq not_true_eq_false not_false_eq_true Bool.true_and Bool.and_true Bool.false_and Bool.and_false Bool.not_true Bool.not_false Bool.not_not Bool.false_eq_true Bool.true_eq_false cond_true cond_false Bool.cond_true_left Bool.cond_true_right Bool.cond_false_left Bool.cond_false_right decide_true decide_false Option.getD_some Option.getD_none Option.map_some Option.map_none Option.bind_some Option.isSome_some Option.isNone_none List.length_cons List.length_nil List.length_map List.length_append List.all_nil List.all_cons List.nil_append List.append_nil List.map_nil List.map_cons List.set_cons_zero List.set_nil List.getD_cons_zero List.getD_cons_succ List.length_set List.headD_cons List.contains_nil List.take_nil List.drop_nil beq_self_eq_true
attribute [go_sem] zbD0 zbh5 zbw3 zbp6
@[go_sem] theorem zeY6 : ([] : List A).flatMap zy8 = [] := rfl
@[go_sem] theorem zeY7 (x lo n : Nat) (cs : List A) : (A.own x lo n :: cs).flatMap zy8 = x :: cs.flatMap zy8 := rfl
@[go_sem] theorem zeY8 (s : ByteArray) (cs : List A) : (A.str s :: cs).flatMap zy8 = cs.flatMap zy8 := rfl
@[go_sem] theorem zeY9 (k : IntKind) (n : Int) (cs : List A) : (A.int k n :: cs).flatMap zy8 = cs.flatMap zy8 := rfl
@[go_sem] theorem zeX1 (b : Bool) (cs : List A) : (A.bool b :: cs).flatMap zy8 = cs.flatMap zy8 := rfl
@[go_sem] theorem zfb4 (l : List (List A)) (cs : List A) : (A.sl l :: cs).flatMap zy8 = cs.flatMap zy8 := rfl
attribute [go_sem] List.isEmpty_nil List.isEmpty_cons ite_self List.forall_mem_cons List.not_mem_nil
@[go_sem ↓] theorem zes9 (r : A) : (if r.scal = true then ([] : List (Nat × MS)) else []) = [] := ite_self _
@[go_sem] theorem zeX2 : IntKind.i64.wrap (0 + 1) = 1 := by decide
@[go_sem] theorem zeX3 : IntKind.i64.wrap (1 + 1) = 2 := by decide
@[go_sem] theorem zeX4 : IntKind.i64.wrap (2 + 1) = 3 := by decide
@[go_sem] theorem zeX5 : IntKind.i64.wrap (3 + 1) = 4 := by decide
@[go_sem] theorem zeX6 : IntKind.i64.wrap (4 + 1) = 5 := by decide
@[go_sem] theorem zeX7 : IntKind.i64.wrap (5 + 1) = 6 := by decide
@[go_sem] theorem zeX8 : IntKind.i64.wrap (6 + 1) = 7 := by decide
@[go_sem] theorem zeX9 : IntKind.i64.wrap (7 + 1) = 8 := by decide
@[go_sem] theorem zeY0 (c x : A) (cs xs : List A) : upd (c :: cs) 0 (x :: xs) = x :: upd cs 0 xs := by simp [upd, Nat.add_comm]
@[go_sem] theorem zeY1 (cs : List A) (n : Nat) : upd cs n [] = cs := by simp [upd]
@[go_sem] theorem zeZ0 (c : A) (cs new : List A) (n : Nat) : upd (c :: cs) (n + 1) new = c :: upd cs n new := by simp [upd, Nat.add_right_comm]
@[go_sem] theorem zeY2 (c : A) (cs : List A) (k : Nat) : sub (c :: cs) 0 (k + 1) = c :: sub cs 0 k := by simp [sub]
@[go_sem] theorem zeY3 (cs : List A) (n : Nat) : sub cs n 0 = [] := by simp [sub]
@[go_sem] theorem zeZ1 (c : A) (cs : List A) (n k : Nat) : sub (c :: cs) (n + 1) k = sub cs n k := by simp [sub]
end Ab
end Go.Proofs.YtfjeceicgfdmjaaGreatDoor
