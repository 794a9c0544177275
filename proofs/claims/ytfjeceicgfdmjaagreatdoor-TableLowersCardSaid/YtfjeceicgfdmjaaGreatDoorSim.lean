/-
  The small machine's functions as rules of rewriting.
-/
import Derived.Test.YtfjeceicgfdmjaaGreatDoorTy
import Derived.Test.YtfjeceicgfdmjaaGreatDoorAb22
namespace Go.Proofs.YtfjeceicgfdmjaaGreatDoor
namespace Ab
set_option linter.unusedSimpArgs false
set_option linter.unusedVariables false
def zbf6 (C : Cx) (f : FuncId) (d : Option Nat) (g : Option (Nat × Bool)) (gv : Bool) (ob : Prop) (args : List A) (rw : List (Nat × MS)) (ps : List POp) (st : St) (K : St → Prop) : Prop :=
 ∃ r, (gv = true → ob ∧ PFn C f args r) ∧ (g = none ∨ (if r.scal then [] else rw) = [] ∧ r.isVV = true) ∧ arun C ps (st.app d (zG8 g gv r) (if r.scal then [] else rw)) K
theorem zbE7 {C : Cx} {f : FuncId} {d : Option Nat} {g : Option (Nat × Bool)} {gv : Bool} {ob : Prop} {args : List A} {rw : List (Nat × MS)} {ps : List POp} {st : St} {K : St → Prop} {r : A}
  (hf : gv = true → PFn C f args r) (h : arun C ps (st.app d (zG8 g gv r) (if r.scal then [] else rw)) K)
  (ho : gv = true → ob := by intro; trivial) (hg : g = none ∨ (if r.scal then [] else rw) = [] ∧ r.isVV = true := by first | exact .inl rfl | exact .inr ⟨rfl, rfl⟩) : zbf6 C f d g gv ob args rw ps st K := ⟨r, fun e => ⟨ho e, hf e⟩, hg, h⟩
def zaF9 (C : Cx) (f : FuncId) (d : Option Nat) (ob : Prop) (vals : List A) (ps : List POp) (st : St) (K : St → Prop) : Prop :=
 ob ∧ zao7 C st.m st.nx f vals (fun _ => True) fun v mw => arun C ps (st.app d v mw) K
def zbo3 : A → Bool
 | .cnd _ _ => false
 | _ => true
theorem zbo4 {r : A} (h : zbo3 r = true) : ∀ g c, r ≠ .cnd g c := fun g c e => by subst e; cases h
theorem zbz2 {C : Cx} {f : FuncId} {d : Option Nat} {ob : Prop} {vals : List A} {ps : List POp} {st : St} {K : St → Prop} (l : List (Nat × Nat)) {as : List A} {ms ms' : List (Nat × Row)} {k k' : Nat} {r : A}
  (hf : MFn C f as ms k r ms' k') (hok : okM st.m st.nx l vals as ms k k') (h : arun C ps (st.app d (renR (l ++ newL k st.nx (k' - k)) r) (mwM st.m (l ++ newL k st.nx (k' - k)) vals as ms ms' k k')) K)
  (ho : ob := by trivial) (hr : zbo3 r = true := by rfl) : zaF9 C f d ob vals ps st K :=
 ⟨ho, l, as, ms, k, r, ms', k', hf, hok, zbo4 hr, trivial, h⟩
theorem zbE8 (C : Cx) (st : St) (K : St → Prop) : arun C [] st K = K st := rfl
theorem zbz3 (C : Cx) (d : Option Nat) (g : Option (Nat × Bool)) (po : PO) (xs : List PX) (ps : List POp) (st : St) (K : St → Prop) :
  arun C (⟨d, g, po, xs⟩ :: ps) st K = (match po with
   | .call f => (match zy2 st g with
    | none => False
    | some gv => zbf6 C f d g gv (zU2 C st xs ∧ zt9 st.m (zf6 C st xs)) (zz4 st.m (zf6 C st xs)) (zE8 st.m (zv6 (zf6 C st xs))) ps st K)
   | .callv => (match zy2 st g with
    | none => False
    | some gv => (match zf6 C st xs with
     | .clo f caps :: vals => zbf6 C f d g gv (zU2 C st xs ∧ zF1 C.P f = true ∧ zt9 st.m (vals ++ caps)) (zz4 st.m (vals ++ caps)) (zE8 st.m (zv6 (vals ++ caps))) ps st K
     | _ => False))
   | .callm f => (match zy2 st g with
    | none => False
    | some _ => g = none ∧ zaF9 C f d (zU2 C st xs) (zf6 C st xs) ps st K)
   | .callvm => (match zy2 st g with
    | none => False
    | some _ => (match zf6 C st xs with
     | .clo f caps :: vals => g = none ∧ zaF9 C f d (zU2 C st xs ∧ zF1 C.P f = true) (vals ++ caps) ps st K
     | _ => False))
   | po => aop C ⟨d, g, po, xs⟩ st fun st' => arun C ps st' K) := by
 cases po with
 | call f =>
  simp only [arun, aop, zbf6]
  cases zy2 st g with
  | none => rfl
  | some gv => simp only [zv7, and_assoc]
 | callv =>
  simp only [arun, aop]
  cases zy2 st g with
  | none => rfl
  | some gv =>
   simp only
   generalize zf6 C st xs = vv
   rcases vv with _ | ⟨x, vs⟩
   ·rfl
   ·cases x <;> first | rfl | (simp only [zbf6, zv7, and_assoc])
 | callm f =>
  simp only [arun, aop, zaF9]
  cases zy2 st g with
  | none => rfl
  | some gv => rfl
 | callvm =>
  simp only [arun, aop]
  cases zy2 st g with
  | none => rfl
  | some gv =>
   simp only
   generalize zf6 C st xs = vv
   rcases vv with _ | ⟨x, vs⟩
   ·rfl
   ·cases x <;> first | rfl | (simp only [zaF9, and_assoc])
 | _ => rfl
def zaG0 (C : Cx) (f : FuncId) (d : Option Nat) (g : Option (Nat × Bool)) (gv : Bool) (ob : Prop) (args : List A) (rw : List (Nat × MS)) (ps : List POp) (st : St) (K : St → Prop) : Prop :=
 ∃ r, (gv = true → ob ∧ PFn C f args r) ∧ (g = none ∨ (if r.scal then [] else rw) = [] ∧ r.isVV = true) ∧ ((st.app d (zG8 g gv r) (if r.scal then [] else rw)).mem = st.mem ∧ (st.app d (zG8 g gv r) (if r.scal then [] else rw)).nx = st.nx) ∧ zan1 C ps (st.app d (zG8 g gv r) (if r.scal then [] else rw)) K
theorem zbz4 {C : Cx} {f : FuncId} {d : Option Nat} {g : Option (Nat × Bool)} {gv : Bool} {ob : Prop} {args : List A} {rw : List (Nat × MS)} {ps : List POp} {st : St} {K : St → Prop} {r : A}
  (hf : gv = true → PFn C f args r) (h : zan1 C ps (st.app d (zG8 g gv r) []) K)
  (ho : gv = true → ob := by intro; trivial) (hg : g = none ∨ (if r.scal then [] else rw) = [] ∧ r.isVV = true := by first | exact .inl rfl | exact .inr ⟨rfl, rfl⟩) (hn : (if r.scal then [] else rw) = [] := by rfl) : zaG0 C f d g gv ob args rw ps st K := ⟨r, fun e => ⟨ho e, hf e⟩, hg, by rw [hn]; exact ⟨rfl, rfl⟩, by rw [hn]; exact h⟩
theorem zbz5 (C : Cx) (st : St) (K : St → Prop) : zan1 C [] st K = K st := rfl
theorem zbt4 (C : Cx) (d : Option Nat) (g : Option (Nat × Bool)) (po : PO) (xs : List PX) (ps : List POp) (st : St) (K : St → Prop) :
  zan1 C (⟨d, g, po, xs⟩ :: ps) st K = (match po with
   | .call f => (match zy2 st g with
    | none => False
    | some gv => zaG0 C f d g gv (zU2 C st xs ∧ zt9 st.m (zf6 C st xs)) (zz4 st.m (zf6 C st xs)) (zE8 st.m (zv6 (zf6 C st xs))) ps st K)
   | .callv => (match zy2 st g with
    | none => False
    | some gv => (match zf6 C st xs with
     | .clo f caps :: vals => zaG0 C f d g gv (zU2 C st xs ∧ zF1 C.P f = true ∧ zt9 st.m (vals ++ caps)) (zz4 st.m (vals ++ caps)) (zE8 st.m (zv6 (vals ++ caps))) ps st K
     | _ => False))
   | po => aop C ⟨d, g, po, xs⟩ st fun st' => (st'.mem = st.mem ∧ st'.nx = st.nx) ∧ zan1 C ps st' K) := by
 cases po with
 | call f =>
  simp only [zan1, aop, zaG0]
  cases zy2 st g with
  | none => rfl
  | some gv => simp only [zv7, and_assoc]
 | callv =>
  simp only [zan1, aop]
  cases zy2 st g with
  | none => rfl
  | some gv =>
   simp only
   generalize zf6 C st xs = vv
   rcases vv with _ | ⟨x, vs⟩
   ·rfl
   ·cases x <;> first | rfl | (simp only [zaG0, zv7, and_assoc])
 | _ => rfl
def zaG1 (C : Cx) (an : List (List Nat)) (f : FuncId) (d : Option Nat) (g : Option (Nat × Bool)) (gv : Bool) (ob : Prop) (args : List A) (rw : List (Nat × MS)) (ids : List Nat) (cok : Bool) (ps : List POp) (st : St) (log : List (List Nat × List Nat)) (K : St → Prop) : Prop :=
 ∃ r, (gv = true → ob ∧ PFn C f args r) ∧ (g = none ∨ (if r.scal then [] else rw) = [] ∧ r.isVV = true) ∧ zap2 (an.getD log.length []) 0 log ids ((if r.scal then [] else rw).map (·.1)) = true ∧ cok = true ∧
  zX8 C an ps (st.app d (zG8 g gv r) (if r.scal then [] else rw)) (log ++ [(ids, (if r.scal then [] else rw).map (·.1))]) K
theorem zbz6 {C : Cx} {an : List (List Nat)} {f : FuncId} {d : Option Nat} {g : Option (Nat × Bool)} {gv : Bool} {ob : Prop} {args : List A} {rw : List (Nat × MS)} {ids : List Nat} {cok : Bool} {ps : List POp} {st : St} {log : List (List Nat × List Nat)} {K : St → Prop} {r : A}
  (hf : gv = true → PFn C f args r) (h : zap2 (an.getD log.length []) 0 log ids ((if r.scal then [] else rw).map (·.1)) = true ∧ cok = true ∧ zX8 C an ps (st.app d (zG8 g gv r) (if r.scal then [] else rw)) (log ++ [(ids, (if r.scal then [] else rw).map (·.1))]) K)
  (ho : gv = true → ob := by intro; trivial) (hg : g = none ∨ (if r.scal then [] else rw) = [] ∧ r.isVV = true := by first | exact .inl rfl | exact .inr ⟨rfl, rfl⟩) : zaG1 C an f d g gv ob args rw ids cok ps st log K := ⟨r, fun e => ⟨ho e, hf e⟩, hg, h.1, h.2.1, h.2.2⟩
def zau3 (C : Cx) (an : List (List Nat)) (f : FuncId) (d : Option Nat) (ob : Prop) (vals : List A) (ids : List Nat) (cok : Bool) (ps : List POp) (st : St) (log : List (List Nat × List Nat)) (K : St → Prop) : Prop :=
 ob ∧ zao7 C st.m st.nx f vals (fun n => ∀ x, st.nx ≤ x → x < st.nx + n → st.m x = .fresh) fun v mw => zap2 (an.getD log.length []) 0 log ids (mw.map (·.1)) = true ∧ cok = true ∧ zX8 C an ps (st.app d v mw) (log ++ [(ids, mw.map (·.1))]) K
theorem zbt5 {C : Cx} {an : List (List Nat)} {f : FuncId} {d : Option Nat} {ob : Prop} {vals : List A} {ids : List Nat} {cok : Bool} {ps : List POp} {st : St} {log : List (List Nat × List Nat)} {K : St → Prop} (l : List (Nat × Nat)) {as : List A} {ms ms' : List (Nat × Row)} {k k' : Nat} {r : A}
  (hf : MFn C f as ms k r ms' k') (hok : okM st.m st.nx l vals as ms k k')
  (h : zap2 (an.getD log.length []) 0 log ids ((mwM st.m (l ++ newL k st.nx (k' - k)) vals as ms ms' k k').map (·.1)) = true ∧ cok = true ∧ zX8 C an ps (st.app d (renR (l ++ newL k st.nx (k' - k)) r) (mwM st.m (l ++ newL k st.nx (k' - k)) vals as ms ms' k k')) (log ++ [(ids, (mwM st.m (l ++ newL k st.nx (k' - k)) vals as ms ms' k k').map (·.1))]) K)
  (ho : ob := by trivial) (hr : zbo3 r = true := by rfl) : zau3 C an f d ob vals ids cok ps st log K :=
 ⟨ho, l, as, ms, k, r, ms', k', hf, hok, zbo4 hr, fun x hx _ => zaP6 st x hx, h⟩
theorem zbz7 (C : Cx) (an : List (List Nat)) (st : St) (log : List (List Nat × List Nat)) (K : St → Prop) : zX8 C an [] st log K = K st := rfl
theorem zbt6 (C : Cx) (an : List (List Nat)) (d : Option Nat) (g : Option (Nat × Bool)) (po : PO) (xs : List PX) (ps : List POp) (st : St) (log : List (List Nat × List Nat)) (K : St → Prop) :
  zX8 C an (⟨d, g, po, xs⟩ :: ps) st log K = (match po with
   | .call f => (match zv8 st.slot g with
    | none => False
    | some gv => zaG1 C an f d g gv (gdsF C st.slot xs ∧ zt9 st.m (zw8 C st.slot xs)) (zz4 st.m (zw8 C st.slot xs)) (zE8 st.m (zv6 (zw8 C st.slot xs))) (zp8 (zf6 C st xs)) (zak9 (zf6 C st xs)) ps st log K)
   | .callv => (match zv8 st.slot g with
    | none => False
    | some gv => (match zw8 C st.slot xs with
     | .clo f caps :: vals => zaG1 C an f d g gv (gdsF C st.slot xs ∧ zF1 C.P f = true ∧ zt9 st.m (vals ++ caps)) (zz4 st.m (vals ++ caps)) (zE8 st.m (zv6 (vals ++ caps))) (zp8 (zf6 C st xs)) (zak9 (zf6 C st xs)) ps st log K
     | _ => False))
   | .callm f => (match zv8 st.slot g with
    | none => False
    | some _ => g = none ∧ zau3 C an f d (gdsF C st.slot xs) (zw8 C st.slot xs) (zp8 (zf6 C st xs)) (zak9 (zf6 C st xs)) ps st log K)
   | .callvm => (match zv8 st.slot g with
    | none => False
    | some _ => (match zw8 C st.slot xs with
     | .clo f caps :: vals => g = none ∧ zau3 C an f d (gdsF C st.slot xs ∧ zF1 C.P f = true) (vals ++ caps) (zp8 (zf6 C st xs)) (zak9 (zf6 C st xs)) ps st log K
     | _ => False))
   | po => aopS C ⟨d, g, po, xs⟩ st.toS st.nx fun v mw => zap2 (an.getD log.length []) 0 log (zp8 (zf6 C st xs)) (mw.map (·.1)) = true ∧ zak9 (zf6 C st xs) = true ∧
     zX8 C an ps (st.app d v mw) (log ++ [(zp8 (zf6 C st xs), mw.map (·.1))]) K) := by
 cases po with
 | call f =>
  simp only [zX8, aopS, zaG1, St.toS]
  cases zv8 st.slot g with
  | none => rfl
  | some gv => simp only [zv7, and_assoc]
 | callv =>
  simp only [zX8, aopS, St.toS]
  cases zv8 st.slot g with
  | none => rfl
  | some gv =>
   simp only
   generalize zw8 C st.slot xs = vv
   rcases vv with _ | ⟨x, vs⟩
   ·rfl
   ·cases x <;> first | rfl | (simp only [zaG1, zv7, and_assoc])
 | callm f =>
  simp only [zX8, aopS, zau3, St.toS]
  cases zv8 st.slot g with
  | none => rfl
  | some gv => rfl
 | callvm =>
  simp only [zX8, aopS, St.toS]
  cases zv8 st.slot g with
  | none => rfl
  | some gv =>
   simp only
   generalize zw8 C st.slot xs = vv
   rcases vv with _ | ⟨x, vs⟩
   ·rfl
   ·cases x <;> first | rfl | (simp only [zau3, and_assoc])
 | _ => rfl
attribute [go_sem ↓] aop aopS
attribute [go_sem] zbE8 zbz3 zbz5 zbt4 zbz7 zbt6 zv8 zw8 gdsF St.toS zp8 idsA zaw9 zai9 zak9 zap3 A.flatCap okM zaS0 argM A.hands fzM zbe2 zbe3 newL zR8 mwM entM renR ren0 zbm6 resL zaT0 zbf0 zy2 St.slot St.m look zf6 zU2 xv A.nc A.gd ev zbd2 zU1 zaw6 zZ7 A.cells A.isV A.isK A.isStr A.isVV allV allK zj9 laid zaQ7 zak4
 zG8 St.app putF putM nxt rm zbe1 St.drop zv7 zz4 zt9 frz frz1 zX4 zR7 zY4 zy1 zv6 zE8 A.scal A.scal1 A.scal2 zz5 zaR9 zg9 A.pure1 pureEs
 zh9 LK.fits eqA eq1 glob zD6 zbe9 allG zan0 resA resG zbw5 Le leF leM rho ren ren1 zaf0 idOk zaL1 idEs zab3
def SeqQ (C : Cx) (E : Env) (y : PC) (Q : Exit → St → Prop) : Exit → St → Prop := fun e s => match e with | .normal => AW C E y Q s | e => Q e s
def BlkQ (id : Nat) (Q : Exit → St → Prop) : Exit → St → Prop := fun e s => match e with | .exit i => (if i = id then Q .normal s else Q (.exit i) s) | e => Q e s
def zbE9 (E : Env) {G : Type} (I : G → St) (inv : G → Prop) (μ : G → Nat) (g : G) (Q : Exit → St → Prop) : Exit → St → Prop := fun e s => match e with | .normal => ∃ g', inv g' ∧ St.le E s (I g') ∧ μ g' < μ g | e => Q e s
section
variable {C : Cx} {E : Env} {Q : Exit → St → Prop} {st : St}
theorem za0 {x y : PC} (h : AW C E x (SeqQ C E y Q) st) : AW C E (.seq x y) Q st := zdK8 h
theorem zb9 {id : Nat} {c : PC} (h : AW C E c (BlkQ id Q) st) : AW C E (.block id c) Q st := zbn2 h
theorem zbo5 {y : PC} (s : St) : SeqQ C E y Q .normal s = AW C E y Q s := rfl
theorem zbF0 {y : PC} (s : St) : SeqQ C E y Q .ret s = Q .ret s := rfl
theorem zbz8 {y : PC} (i : Nat) (s : St) : SeqQ C E y Q (.exit i) s = Q (.exit i) s := rfl
theorem zbo6 (i : Nat) (s : St) : BlkQ i Q .normal s = Q .normal s := rfl
theorem zbF1 (i : Nat) (s : St) : BlkQ i Q .ret s = Q .ret s := rfl
theorem zbz9 (i j : Nat) (s : St) : BlkQ i Q (.exit j) s = if j = i then Q .normal s else Q (.exit j) s := rfl
theorem zbi6 {G : Type} (I : G → St) (inv : G → Prop) (μ : G → Nat) (g : G) (s : St) : zbE9 E I inv μ g Q .normal s = ∃ g', inv g' ∧ St.le E s (I g') ∧ μ g' < μ g := rfl
theorem zbA0 {G : Type} (I : G → St) (inv : G → Prop) (μ : G → Nat) (g : G) (s : St) : zbE9 E I inv μ g Q .ret s = Q .ret s := rfl
theorem zbt7 {G : Type} (I : G → St) (inv : G → Prop) (μ : G → Nat) (g : G) (i : Nat) (s : St) : zbE9 E I inv μ g Q (.exit i) s = Q (.exit i) s := rfl
theorem zbF2 (rs : List RX) (r : A) (fr : List (Nat × A)) (m : List (Nat × Row)) (n : Nat) : Post rs r .ret ⟨fr, m, n⟩ = zbe9 ⟨fr, m, n⟩ rs r := rfl
theorem zbo7 (rs : List RX) (r : A) (fr : List (Nat × A)) (m : List (Nat × Row)) (n : Nat) : Post rs r .normal ⟨fr, m, n⟩ = zbe9 ⟨fr, m, n⟩ rs r := rfl
theorem zbA1 (k : Nat) (rs : List RX) (rl : List A) (ms' : List (Nat × Row)) (k' : Nat) (fr : List (Nat × A)) (m : List (Nat × Row)) (n : Nat) : zbE0 k rs rl ms' k' .ret ⟨fr, m, n⟩ = zaF4 k ⟨fr, m, n⟩ rs rl ms' k' := rfl
theorem zbi7 (k : Nat) (rs : List RX) (rl : List A) (ms' : List (Nat × Row)) (k' : Nat) (fr : List (Nat × A)) (m : List (Nat × Row)) (n : Nat) : zbE0 k rs rl ms' k' .normal ⟨fr, m, n⟩ = zaF4 k ⟨fr, m, n⟩ rs rl ms' k' := rfl
attribute [go_sem] zbA1 zbi7 zbo2 zbE6 zbz1 St.gh St.ghOk St.fz St.fzOk St.own0 St.cast St.unf zaU5 zan2 unfA memN fzA fzCs fzV fzEs fzFr zbn9 zbf2 zaF7 zbo0 zaP9 zbi2 zbi3 zaQ0 frR zec2
attribute [go_sem] zbo5 zbF0 zbz8 zbo6 zbF1 zbz9 zbi6 zbA0 zbt7 zbF2 zbo7
end
theorem zbt8 (n : Nat) : zg8 n [] := by intro c hc; cases hc
theorem zbb3 (n : Nat) (a b : List (List A)) : zg8 n (a ++ b) ↔ zg8 n a ∧ zg8 n b := by
 simp only [zg8, List.mem_append]
 exact ⟨fun h => ⟨fun c hc => h c (.inl hc), fun c hc => h c (.inr hc)⟩, fun ⟨h1, h2⟩ c hc => hc.elim (h1 c) (h2 c)⟩
theorem zbo8 (n : Nat) (a : List A) (b : List (List A)) : zg8 n (a :: b) ↔ a.length = n ∧ zg8 n b := by
 simp only [zg8, List.mem_cons]
 exact ⟨fun h => ⟨h a (.inl rfl), fun c hc => h c (.inr hc)⟩, fun ⟨h1, h2⟩ c hc => hc.elim (fun e => e ▸ h1) (h2 c)⟩
theorem zbi8 : zt8 [] := by intro c hc; cases hc
attribute [go_sem] Nat.zero_add Nat.add_zero Nat.lt_irrefl Nat.le_refl Nat.lt_add_one Nat.zero_le Int.toNat_zero Int.toNat_natCast Int.natCast_zero imp_self and_self true_and and_true false_and and_false or_true true_or or_false false_or forall_const true_implies false_implies implies_true if_true if_false eq_self ne_eq not_true_eq_false not_false_eq_true Bool.true_and Bool.and_true Bool.false_and Bool.and_false Bool.not_true Bool.not_false Bool.not_not Bool.false_eq_true Bool.true_eq_false cond_true cond_false Bool.cond_true_left Bool.cond_true_right Bool.cond_false_left Bool.cond_false_right decide_true decide_false Option.getD_some Option.getD_none Option.map_some Option.map_none Option.bind_some Option.isSome_some Option.isNone_none List.length_cons List.length_nil List.length_map List.length_append List.all_nil List.all_cons List.nil_append List.append_nil List.map_nil List.map_cons List.set_cons_zero List.set_nil List.getD_cons_zero List.getD_cons_succ List.length_set List.headD_cons List.contains_nil List.take_nil List.drop_nil beq_self_eq_true
attribute [go_sem] zbt8 zbb3 zbo8 zbi8
@[go_sem] theorem zeI6 : ([] : List A).flatMap zy1 = [] := rfl
@[go_sem] theorem zeI7 (x lo n : Nat) (cs : List A) : (A.own x lo n :: cs).flatMap zy1 = x :: cs.flatMap zy1 := rfl
@[go_sem] theorem zeI8 (s : ByteArray) (cs : List A) : (A.str s :: cs).flatMap zy1 = cs.flatMap zy1 := rfl
@[go_sem] theorem zeI9 (k : IntKind) (n : Int) (cs : List A) : (A.int k n :: cs).flatMap zy1 = cs.flatMap zy1 := rfl
@[go_sem] theorem zeH1 (b : Bool) (cs : List A) : (A.bool b :: cs).flatMap zy1 = cs.flatMap zy1 := rfl
@[go_sem] theorem zeM1 (l : List (List A)) (cs : List A) : (A.sl l :: cs).flatMap zy1 = cs.flatMap zy1 := rfl
attribute [go_sem] List.isEmpty_nil List.isEmpty_cons ite_self List.forall_mem_cons List.not_mem_nil
@[go_sem ↓] theorem zec3 (r : A) : (if r.scal = true then ([] : List (Nat × MS)) else []) = [] := ite_self _
@[go_sem] theorem zeH2 : IntKind.i64.wrap (0 + 1) = 1 := by decide
@[go_sem] theorem zeH3 : IntKind.i64.wrap (1 + 1) = 2 := by decide
@[go_sem] theorem zeH4 : IntKind.i64.wrap (2 + 1) = 3 := by decide
@[go_sem] theorem zeH5 : IntKind.i64.wrap (3 + 1) = 4 := by decide
@[go_sem] theorem zeH6 : IntKind.i64.wrap (4 + 1) = 5 := by decide
@[go_sem] theorem zeH7 : IntKind.i64.wrap (5 + 1) = 6 := by decide
@[go_sem] theorem zeH8 : IntKind.i64.wrap (6 + 1) = 7 := by decide
@[go_sem] theorem zeH9 : IntKind.i64.wrap (7 + 1) = 8 := by decide
@[go_sem] theorem zeI0 (c x : A) (cs xs : List A) : upd (c :: cs) 0 (x :: xs) = x :: upd cs 0 xs := by simp [upd, Nat.add_comm]
@[go_sem] theorem zeI1 (cs : List A) (n : Nat) : upd cs n [] = cs := by simp [upd]
@[go_sem] theorem zeJ0 (c : A) (cs new : List A) (n : Nat) : upd (c :: cs) (n + 1) new = c :: upd cs n new := by simp [upd, Nat.add_right_comm]
@[go_sem] theorem zeI2 (c : A) (cs : List A) (k : Nat) : sub (c :: cs) 0 (k + 1) = c :: sub cs 0 k := by simp [sub]
@[go_sem] theorem zeI3 (cs : List A) (n : Nat) : sub cs n 0 = [] := by simp [sub]
@[go_sem] theorem zeJ1 (c : A) (cs : List A) (n k : Nat) : sub (c :: cs) (n + 1) k = sub cs n k := by simp [sub]
end Ab
end Go.Proofs.YtfjeceicgfdmjaaGreatDoor
