/-
  Rules that follow a Lean function printed beside the code: tests, calls, bounds, loops, ways that meet.
-/
import Derived.Test.YtfjeceicgfdmjaaGreatDoorSim
namespace Go.Proofs.YtfjeceicgfdmjaaGreatDoor
namespace Ab
set_option linter.unusedSimpArgs false
set_option linter.unusedVariables false
def gd {α : Type} (p : Prop) [Decidable p] (k : Option α) : Option α := if p then k else none
theorem za2 {α : Type} {p : Prop} [Decidable p] {k : Option α} {r : α} (h : gd p k = some r) : p ∧ k = some r := by
 unfold gd at h; split at h
 ·exact ⟨by assumption, h⟩
 ·cases h
theorem zb2 {α : Type} {p : Prop} [Decidable p] {k : Option α} (h : p) : gd p k = k := if_pos h
theorem za3 {α β : Type} {m : Option α} {f : α → Option β} {r : β} (h : m.bind f = some r) : ∃ v, m = some v ∧ f v = some r := by
 cases m with
 | none => cases h
 | some v => exact ⟨v, rfl, h⟩
theorem zD1 {α : Type} {c : Bool} {x y r : α} (hb : c = true) (h : (if c = true then x else y) = r) : x = r := by rw [if_pos hb] at h; exact h
def iter {G X : Type} (body : G → Option (G ⊕ X)) : Nat → G → Option X
 | 0, _ => none
 | n + 1, g => match body g with
  | none => none
  | some (.inl g') => iter body n g'
  | some (.inr x) => some x
theorem zaJ4 {G X : Type} {body : G → Option (G ⊕ X)} {x : X} : ∀ {n m : Nat} {g : G}, iter body n g = some x → n ≤ m → iter body m g = some x
 | 0, _, _, h, _ => by cases h
 | n + 1, 0, _, _, hm => by omega
 | n + 1, m + 1, g, h, hm => by
  simp only [iter] at h ⊢
  cases hb : body g with
  | none => rw [hb] at h; cases h
  | some y =>
   rw [hb] at h
   cases y with
   | inl g' => exact zaJ4 (n := n) (m := m) h (by omega)
   | inr x' => exact h
open Classical in
noncomputable def zb8 {G X : Type} (body : G → Option (G ⊕ X)) (g : G) : Option X :=
 if h : ∃ n x, iter body n g = some x then some (Classical.choose (Classical.choose_spec h)) else none
theorem zW0 {G X : Type} {body : G → Option (G ⊕ X)} {g : G} {x : X} : zb8 body g = some x ↔ ∃ n, iter body n g = some x := by
 unfold zb8
 constructor
 ·intro h
  split at h
  ·rename_i hh
   cases h
   exact ⟨_, Classical.choose_spec (Classical.choose_spec hh)⟩
  ·cases h
 ·rintro ⟨n, hn⟩
  have hh : ∃ n x, iter body n g = some x := ⟨n, x, hn⟩
  rw [dif_pos hh]
  have := Classical.choose_spec (Classical.choose_spec hh)
  have h1 := zaJ4 this (Nat.le_add_right _ n)
  have h2 := zaJ4 hn (Nat.le_add_left n (Classical.choose hh))
  rw [h1] at h2
  exact h2
theorem zd6 {G X : Type} (body : G → Option (G ⊕ X)) (g : G) : zb8 body g = match body g with
  | none => none
  | some (.inl g') => zb8 body g'
  | some (.inr x) => some x := by
 cases hb : body g with
 | none =>
  simp only
  cases h : zb8 body g with
  | none => rfl
  | some x =>
   obtain ⟨n, hn⟩ := zW0.1 h
   cases n with
   | zero => cases hn
   | succ n => simp only [iter, hb] at hn; cases hn
 | some y =>
  cases y with
  | inr x => exact zW0.2 ⟨1, by simp [iter, hb]⟩
  | inl g' =>
   simp only
   cases h : zb8 body g' with
   | some x =>
    obtain ⟨n, hn⟩ := zW0.1 h
    exact zW0.2 ⟨n + 1, by simp only [iter, hb]; exact hn⟩
   | none =>
    cases h2 : zb8 body g with
    | none => rfl
    | some x =>
     obtain ⟨n, hn⟩ := zW0.1 h2
     cases n with
     | zero => cases hn
     | succ n =>
      simp only [iter, hb] at hn
      rw [zW0.2 ⟨n, hn⟩] at h
      cases h
def zaO6 (E : Env) {V : Type} (J : V → St) (P : V → Prop) (s : St) : Prop := ∃ v, P v ∧ St.le E s (J v)
theorem zbP1 {E : Env} {V : Type} {J : V → St} {P : V → Prop} {s : St} {k : Nat} (hK : E.k0 = k) (v : V) (h : P v) (l : List (Nat × Nat)) (hl : Le l s (J v) ∧ zas1 k l (J v).nx = true) : zaO6 E J P s := ⟨v, h, St.le_of l hl.1 (by rw [hK]; exact hl.2)⟩
def zaO7 (E : Env) {V : Type} (J : V → St) (P : V → Prop) (Q : Exit → St → Prop) : Exit → St → Prop := fun e s => match e with | .normal => zaO6 E J P s | e => Q e s
def BlkJ (E : Env) {V : Type} (id : Nat) (J : V → St) (P : V → Prop) (Q : Exit → St → Prop) : Exit → St → Prop := fun e s => match e with
 | .normal => zaO6 E J P s
 | .exit i => if i = id then zaO6 E J P s else Q (.exit i) s
 | e => Q e s
def zbE8 (E : Env) {G X : Type} (I : G → St) (y : G ⊕ X) (s : St) : Prop := ∃ g', y = .inl g' ∧ St.le E s (I g')
theorem zbP2 {E : Env} {G X : Type} {I : G → St} {g' : G} {s : St} {k : Nat} (hK : E.k0 = k) (l : List (Nat × Nat)) (hl : Le l s (I g') ∧ zas1 k l (I g').nx = true) : zbE8 (X := X) E I (.inl g') s := ⟨g', rfl, St.le_of l hl.1 (by rw [hK]; exact hl.2)⟩
def zbt2 (E : Env) {G X : Type} (I : G → St) (y : G ⊕ X) (Q : Exit → St → Prop) : Exit → St → Prop := fun e s => match e with | .normal => zbE8 E I y s | e => Q e s
section
variable {C : Cx} {E : Env} {Q : Exit → St → Prop} {st : St}
theorem AW.join {V : Type} {J : V → St} {c : PC} {Q' : Exit → St → Prop} (h : AW C E c Q' st)
  (hq : ∀ e s, Q' e s → Q e s ∨ ∃ v, St.le E s (J v) ∧ Q e (J v)) : AW C E c Q st :=
 fun code hc a w hs => wp_mono (h code hc a w hs) fun e a' w' ⟨st', h1, h2⟩ => by
  rcases hq e st' h1 with h3 | ⟨v, h3, h4⟩
  ·exact ⟨st', h3, h2⟩
  ·exact ⟨J v, h4, h3 a' w' h2⟩
theorem zcj1 {x : PX} {p q : PC} {V : Type} (J : V → St) (P : V → Prop) {b : Bool} (hx : xv C.G st.slot x = .bool b) (hG : E.G = C.G) (hk : ∀ v, P v → Q .normal (J v))
  (ht : b = true → AW C E p (zaO7 E J P Q) st) (hf : b = false → AW C E q (zaO7 E J P Q) st) : AW C E (.cond x p q) Q st := by
 have key : ∀ c, AW C E c (zaO7 E J P Q) st → AW C E c Q st := fun c h => h.join (J := J) fun e s h => by
  cases e with
  | normal => obtain ⟨v, h1, h2⟩ := h; exact .inr ⟨v, h2, hk v h1⟩
  | _ => exact .inl h
 exact zaS4 hx hG (fun h => key _ (ht h)) (fun h => key _ (hf h))
theorem zb5 {id : Nat} {c : PC} {V : Type} (J : V → St) (P : V → Prop) (hk : ∀ v, P v → Q .normal (J v)) (h : AW C E c (BlkJ E id J P Q) st) : AW C E (.block id c) Q st := by
 refine zbr5 (h.join (J := J) fun e s h => ?_)
 cases e with
 | normal => obtain ⟨v, h1, h2⟩ := h; exact .inr ⟨v, h2, hk v h1⟩
 | exit i =>
  simp only [BlkJ] at h ⊢
  split at h
  ·obtain ⟨v, h1, h2⟩ := h
   rename_i hi
   exact .inr ⟨v, h2, by rw [if_pos hi]; exact hk v h1⟩
  ·rename_i hi; exact .inl (by rw [if_neg hi]; exact h)
 | _ => exact .inl h
theorem zcj2 {c : PC} {G X : Type} {body : G → Option (G ⊕ X)} {g0 : G} {x : X} (I : G → St) {k : Nat} (hK : E.k0 = k) (l : List (Nat × Nat)) (hx : zb8 body g0 = some x) (hle : Le l st (I g0) ∧ zas1 k l (I g0).nx = true)
  (h : ∀ g y, body g = some y → (∀ x', y = .inr x' → x' = x) → AW C E c (zbt2 E I y Q) (I g)) : AW C E (.loop c) Q st := by
 obtain ⟨n, hn⟩ := zW0.1 hx
 refine zbD8 (G := { p : Nat × G // iter body p.1 p.2 = some x }) (fun p => I p.1.2) (fun _ => True) (fun p => p.1.1) ⟨(n, g0), hn⟩ trivial (St.le_of l hle.1 (by rw [hK]; exact hle.2)) fun ⟨⟨m, g⟩, hm⟩ _ => ?_
 cases m with
 | zero => cases hm
 | succ m =>
  simp only [iter] at hm
  cases hb : body g with
  | none => rw [hb] at hm; cases hm
  | some y =>
   rw [hb] at hm
   refine (h g y hb fun x' e => by subst e; exact Option.some.inj hm).mono fun e s hs => ?_
   cases e with
   | normal =>
    obtain ⟨g', rfl, h2⟩ := hs
    exact ⟨⟨(m, g'), hm⟩, trivial, h2, Nat.lt_succ_self m⟩
   | _ => exact hs
theorem zbm3 {V : Type} (J : V → St) (P : V → Prop) (s : St) : zaO7 E J P Q .normal s = zaO6 E J P s := rfl
theorem zbI4 {V : Type} (J : V → St) (P : V → Prop) (s : St) : zaO7 E J P Q .ret s = Q .ret s := rfl
theorem zbA2 {V : Type} (J : V → St) (P : V → Prop) (i : Nat) (s : St) : zaO7 E J P Q (.exit i) s = Q (.exit i) s := rfl
theorem zbt3 {V : Type} (id : Nat) (J : V → St) (P : V → Prop) (s : St) : BlkJ E id J P Q .normal s = zaO6 E J P s := rfl
theorem zbP3 {V : Type} (id : Nat) (J : V → St) (P : V → Prop) (s : St) : BlkJ E id J P Q .ret s = Q .ret s := rfl
theorem zbI5 {V : Type} (id : Nat) (J : V → St) (P : V → Prop) (i : Nat) (s : St) : BlkJ E id J P Q (.exit i) s = if i = id then zaO6 E J P s else Q (.exit i) s := rfl
theorem zbm4 {G X : Type} (I : G → St) (y : G ⊕ X) (s : St) : zbt2 E I y Q .normal s = zbE8 E I y s := rfl
theorem zbI6 {G X : Type} (I : G → St) (y : G ⊕ X) (s : St) : zbt2 E I y Q .ret s = Q .ret s := rfl
theorem zbA3 {G X : Type} (I : G → St) (y : G ⊕ X) (i : Nat) (s : St) : zbt2 E I y Q (.exit i) s = Q (.exit i) s := rfl
attribute [go_sem] zbm3 zbI4 zbA2 zbt3 zbP3 zbI5 zbm4 zbI6 zbA3
end
def unfull : A → A
 | .full es => .sl es
 | a => a
theorem PFn.unfull {C : Cx} {f : FuncId} {as : List A} {r : A} (h : PFn C f (as.map unfull) r) : PFn C f as r := by
 intro w W vs hg hW hl ha
 refine h w W vs hg hW (by simpa using hl) fun i v a hv hx => ?_
 rw [List.getElem?_map] at hx
 cases hy : as[i]? with
 | none => rw [hy] at hx; cases hx
 | some b =>
  rw [hy] at hx; cases hx
  have := ha i v b hv hy
  cases b with
  | full es =>
   have h2 : RepC w W v (.full es) := this
   cases h2 with
   | full a n es h => exact h
  | _ => exact this
@[go_sem] theorem zeV5 (a b : Nat) : Nat.min a b = min a b := rfl
attribute [go_sem] Ab.unfull zas1 fixL
attribute [go_sem] Int.cast_ofNat_Int List.take_length List.drop_zero Nat.mul_one Nat.min_self
@[go_sem] def mo (d : Nat) (p : PO) (xs : List PX) : POp := ⟨some d, none, p, xs⟩
@[go_sem] def mz (p : PO) (xs : List PX) : POp := ⟨none, none, p, xs⟩
@[go_sem] def oK (n : Int) : PX := .c (A.int .i64 n)
@[go_sem] def oFa : PX := .c (A.bool false)
@[go_sem] def oTr : PX := .c (A.bool true)
@[go_sem] def oNi : PX := .c (A.sl [])
@[go_sem] def oV (d s : Nat) : POp := ⟨some d, none, .mv, [.t s]⟩
@[go_sem] def oI (d : Nat) (n : Int) : POp := ⟨some d, none, .mv, [.c (A.int .i64 n)]⟩
@[go_sem] def oL (d k s : Nat) : POp := ⟨some d, none, .load k true, [.t s]⟩
@[go_sem] def oM (d k s : Nat) : POp := ⟨some d, none, .load k false, [.t s]⟩
@[go_sem] def oA (d o s : Nat) : POp := ⟨some d, none, .faddr o, [.t s]⟩
@[go_sem] def oE (d i s : Nat) : POp := ⟨some d, none, .ext i, [.t s]⟩
@[go_sem] def oB (d k s : Nat) : POp := ⟨some d, none, .box k, [.t s]⟩
@[go_sem] def oS (k a b : Nat) : POp := ⟨none, none, .store k, [.t a, .t b]⟩
@[go_sem] def oP (d : Nat) (op : BinOp) (xs : List PX) : POp := ⟨some d, none, .bin op, xs⟩
@[go_sem] def oC (d : Nat) (f : FuncId) (xs : List PX) : POp := ⟨some d, none, .call f, xs⟩
@[go_sem] def oG (d g : Nat) (b : Bool) (p : PO) (xs : List PX) : POp := ⟨some d, some (g, b), p, xs⟩
def Imp (q p : Prop) : Prop := q → p
theorem Imp.and {q a b : Prop} (ha : a) (h : Imp q b) : Imp q (a ∧ b) := fun hq => ⟨ha, h hq⟩
theorem Imp.refl {q : Prop} : Imp q q := fun h => h
section
variable {C : Cx} {E : Env} {Q : Exit → St → Prop} {st : St} {q : Prop}
theorem g_st {p : Prop} (h : q) (e : Imp q p := by (simp only [go_sem, ↓reduceIte, reduceCtorEq, Nat.reduceEqDiff, Nat.reduceAdd, Nat.reduceSub, Nat.reduceMul, Nat.reduceLeDiff, Nat.reduceLT, Int.reduceLE, Int.reduceLT, Int.reduceToNat, Int.reduceNeg]; exact Imp.refl)) : p := e h
theorem za5 (h : q) (e : Imp q (Q .normal st) := by (simp only [go_sem, ↓reduceIte, reduceCtorEq, Nat.reduceEqDiff, Nat.reduceAdd, Nat.reduceSub, Nat.reduceMul, Nat.reduceLeDiff, Nat.reduceLT, Int.reduceLE, Int.reduceLT, Int.reduceToNat, Int.reduceNeg]; exact Imp.refl)) : AW C E .skip Q st := zci3 (e h)
theorem zbE9 (h : q) (e : Imp q (Q .normal st) := by (simp only [go_sem, ↓reduceIte, reduceCtorEq, Nat.reduceEqDiff, Nat.reduceAdd, Nat.reduceSub, Nat.reduceMul, Nat.reduceLeDiff, Nat.reduceLT, Int.reduceLE, Int.reduceLT, Int.reduceToNat, Int.reduceNeg]; exact Imp.refl)) : AW C E .label Q st := zbN5 (e h)
theorem zc3 {id : Nat} (h : q) (e : Imp q (Q (.exit id) st) := by (simp only [go_sem, ↓reduceIte, reduceCtorEq, Nat.reduceEqDiff, Nat.reduceAdd, Nat.reduceSub, Nat.reduceMul, Nat.reduceLeDiff, Nat.reduceLT, Int.reduceLE, Int.reduceLT, Int.reduceToNat, Int.reduceNeg]; exact Imp.refl)) : AW C E (.exit id) Q st := zci4 (e h)
theorem za7 (h : q) (e : Imp q (Q .ret st) := by (simp only [go_sem, ↓reduceIte, reduceCtorEq, Nat.reduceEqDiff, Nat.reduceAdd, Nat.reduceSub, Nat.reduceMul, Nat.reduceLeDiff, Nat.reduceLT, Int.reduceLE, Int.reduceLT, Int.reduceToNat, Int.reduceNeg]; exact Imp.refl)) : AW C E .ret Q st := zdW5 (e h)
theorem za1 {dr : List Nat} {ops : List POp} (hG : E.G = C.G) (h : q)
  (e : Imp q (arun C ops st fun s => Q .normal (s.drop dr)) := by (simp only [go_sem, ↓reduceIte, reduceCtorEq, Nat.reduceEqDiff, Nat.reduceAdd, Nat.reduceSub, Nat.reduceMul, Nat.reduceLeDiff, Nat.reduceLT, Int.reduceLE, Int.reduceLT, Int.reduceToNat, Int.reduceNeg]; (repeat ((with_reducible apply Imp.and); focus (first | assumption | omega | rfl | (simp; done) | (simp; omega) | (intros; simp_all; done) | grind))); exact Imp.refl)) : AW C E (.reg dr ops) Q st := zdW6 hG (e h)
theorem zm9 {dr : List Nat} {ops : List POp} (hm : C.P.follows .mixedOrders = true) (hG : E.G = C.G) (h : q)
  (e : Imp q (zap9 C ops st fun s => Q .normal (s.drop dr)) := by (simp only [go_sem, ↓reduceIte, reduceCtorEq, Nat.reduceEqDiff, Nat.reduceAdd, Nat.reduceSub, Nat.reduceMul, Nat.reduceLeDiff, Nat.reduceLT, Int.reduceLE, Int.reduceLT, Int.reduceToNat, Int.reduceNeg]; (repeat ((with_reducible apply Imp.and); focus (first | assumption | omega | rfl | (simp; done) | (simp; omega) | (intros; simp_all; done) | grind))); exact Imp.refl)) : AW C E (.regd dr ops) Q st := zci6 hm hG (e h)
theorem zF1 {dr : List Nat} {an : List (List Nat)} {ops : List POp} (hm : C.P.follows .mixedOrders = true) (hG : E.G = C.G) (h : q)
  (e : Imp q (zZ4 C an ops st [] fun s => Q .normal (s.drop dr)) := by (simp only [go_sem, ↓reduceIte, reduceCtorEq, Nat.reduceEqDiff, Nat.reduceAdd, Nat.reduceSub, Nat.reduceMul, Nat.reduceLeDiff, Nat.reduceLT, Int.reduceLE, Int.reduceLT, Int.reduceToNat, Int.reduceNeg]; (repeat ((with_reducible apply Imp.and); focus (first | assumption | omega | rfl | (simp; done) | (simp; omega) | (intros; simp_all; done) | grind))); exact Imp.refl)) : AW C E (.regm dr an ops) Q st := zci9 hm hG (e h)
theorem za6 {f : FuncId} {d : Option Nat} {g : Option (Nat × Bool)} {gv : Bool} {ob : Prop} {args : List A} {rw : List (Nat × MS)} {ps : List POp} {st : St} {K : St → Prop} {r : A}
  (hf : gv = true → PFn C f args r) (h : q)
  (e : Imp q (arun C ps (st.app d (zI4 g gv r) (if r.scal then [] else rw)) K) := by (simp only [go_sem, ↓reduceIte, reduceCtorEq, Nat.reduceEqDiff, Nat.reduceAdd, Nat.reduceSub, Nat.reduceMul, Nat.reduceLeDiff, Nat.reduceLT, Int.reduceLE, Int.reduceLT, Int.reduceToNat, Int.reduceNeg]; (repeat ((with_reducible apply Imp.and); focus (first | assumption | omega | rfl | (simp; done) | (simp; omega) | (intros; simp_all; done) | grind))); exact Imp.refl))
  (ho : gv = true → ob := by intro; trivial) (hg : g = none ∨ (if r.scal then [] else rw) = [] ∧ r.isVV = true := by first | exact .inl rfl | exact .inr ⟨rfl, rfl⟩ | exact .inr ⟨ite_self _, rfl⟩) : zbi4 C f d g gv ob args rw ps st K := zbO5 hf (e h) ho hg
theorem zf8 {f : FuncId} {d : Option Nat} {g : Option (Nat × Bool)} {gv : Bool} {ob : Prop} {args : List A} {rw : List (Nat × MS)} {ps : List POp} {st : St} {K : St → Prop} {r : A}
  (hf : gv = true → PFn C f args r) (h : q)
  (e : Imp q (zap9 C ps (st.app d (zI4 g gv r) []) K) := by (simp only [go_sem, ↓reduceIte, reduceCtorEq, Nat.reduceEqDiff, Nat.reduceAdd, Nat.reduceSub, Nat.reduceMul, Nat.reduceLeDiff, Nat.reduceLT, Int.reduceLE, Int.reduceLT, Int.reduceToNat, Int.reduceNeg]; (repeat ((with_reducible apply Imp.and); focus (first | assumption | omega | rfl | (simp; done) | (simp; omega) | (intros; simp_all; done) | grind))); exact Imp.refl))
  (ho : gv = true → ob := by intro; trivial) (hg : g = none ∨ (if r.scal then [] else rw) = [] ∧ r.isVV = true := by first | exact .inl rfl | exact .inr ⟨rfl, rfl⟩ | exact .inr ⟨ite_self _, rfl⟩) (hn : (if r.scal then [] else rw) = [] := by first | rfl | exact ite_self _) : zaJ2 C f d g gv ob args rw ps st K := zbH6 hf (e h) ho hg hn
theorem zC5 {an : List (List Nat)} {f : FuncId} {d : Option Nat} {g : Option (Nat × Bool)} {gv : Bool} {ob : Prop} {args : List A} {rw : List (Nat × MS)} {ids : List Nat} {cok : Bool} {ps : List POp} {st : St} {log : List (List Nat × List Nat)} {K : St → Prop} {r : A}
  (hf : gv = true → PFn C f args r) (h : q)
  (e : Imp q (zas5 (an.getD log.length []) 0 log ids ((if r.scal then [] else rw).map (·.1)) = true ∧ cok = true ∧ zZ4 C an ps (st.app d (zI4 g gv r) (if r.scal then [] else rw)) (log ++ [(ids, (if r.scal then [] else rw).map (·.1))]) K) := by (simp only [go_sem, ↓reduceIte, reduceCtorEq, Nat.reduceEqDiff, Nat.reduceAdd, Nat.reduceSub, Nat.reduceMul, Nat.reduceLeDiff, Nat.reduceLT, Int.reduceLE, Int.reduceLT, Int.reduceToNat, Int.reduceNeg]; (repeat ((with_reducible apply Imp.and); focus (first | assumption | omega | rfl | (simp; done) | (simp; omega) | (intros; simp_all; done) | grind))); exact Imp.refl))
  (ho : gv = true → ob := by intro; trivial) (hg : g = none ∨ (if r.scal then [] else rw) = [] ∧ r.isVV = true := by first | exact .inl rfl | exact .inr ⟨rfl, rfl⟩ | exact .inr ⟨ite_self _, rfl⟩) : zaJ3 C an f d g gv ob args rw ids cok ps st log K := zbH8 hf (e h) ho hg
theorem za4 {α : Type} {x : PX} {p q : PC} {b c : Bool} {X Y r : α} (hx : xv C.G st.slot x = .bool b) (hG : E.G = C.G) (h : (if c = true then X else Y) = r)
  (ht : b = true → X = r → AW C E p Q st) (hf : b = false → Y = r → AW C E q Q st) (e : b = c := by first | rfl | (simp; done) | grind) : AW C E (.cond x p q) Q st := by
 subst e
 exact zaS4 hx hG (fun hb => ht hb (by rw [if_pos hb] at h; exact h)) (fun hb => hf hb (by rw [hb] at h; simpa using h))
theorem zaS8 {α : Type} {x : PX} {p q : PC} {V : Type} (J : V → St) (P : V → Prop) {b c : Bool} {X Y r : α} (hx : xv C.G st.slot x = .bool b) (hG : E.G = C.G) (h : (if c = true then X else Y) = r) (hk : ∀ v, P v → Q .normal (J v))
  (ht : b = true → X = r → AW C E p (zaO7 E J P Q) st) (hf : b = false → Y = r → AW C E q (zaO7 E J P Q) st) (e : b = c := by first | rfl | (simp; done) | grind) : AW C E (.cond x p q) Q st := by
 subst e
 exact zcj1 J P hx hG hk (fun hb => ht hb (by rw [if_pos hb] at h; exact h)) (fun hb => hf hb (by rw [hb] at h; simpa using h))
theorem zb1 {α : Type} {x r : α} {p : Prop} (h : some x = some r) (e : x = r → p := by (intro e; subst e; first | done | rfl | trivial | (simp; done) | (repeat' (first | rfl | trivial | omega | (simp; done) | (simp; omega) | (refine congrArg A.sl (congrArg (List.map _) ?_); exact List.take_of_length_le (by simp; omega)) | apply And.intro)))) : p := e (Option.some.inj h)
theorem ze9 {α : Type} {x r : α} {p : Prop} (h : x = r) (e : x = r → p := by (intro e; subst e; first | done | rfl | trivial | (simp; done) | (repeat' (first | rfl | trivial | omega | (simp; done) | (simp; omega) | (refine congrArg A.sl (congrArg (List.map _) ?_); exact List.take_of_length_le (by simp; omega)) | apply And.intro)))) : p := e h
theorem zc4 {V : Type} {J : V → St} {P : V → Prop} {s : St} {k : Nat} (hK : E.k0 = k) (l : List (Nat × Nat)) (v : V) (h : P v)
  (hl : Le l s (J v) ∧ zas1 k l (J v).nx = true := by (simp only [go_sem, ↓reduceIte, reduceCtorEq, Nat.reduceEqDiff, Nat.reduceAdd, Nat.reduceSub, Nat.reduceMul, Nat.reduceLeDiff, Nat.reduceLT, Int.reduceLE, Int.reduceLT, Int.reduceToNat, Int.reduceNeg]; first | (done) | trivial | (simp; done) | (repeat' (first | rfl | trivial | omega | (simp; done) | (simp; omega) | (congr 1; omega) | (congr 1; simp only [List.length_append, List.length_take, List.length_drop, List.length_replicate]; omega) | apply And.intro)))) : zaO6 E J P s := zbP1 hK v h l hl
theorem zc8 {G X : Type} {I : G → St} {g' : G} {y : G ⊕ X} {s : St} {k : Nat} (hK : E.k0 = k) (l : List (Nat × Nat)) (h : some (.inl g') = some y)
  (hl : Le l s (I g') ∧ zas1 k l (I g').nx = true := by (simp only [go_sem, ↓reduceIte, reduceCtorEq, Nat.reduceEqDiff, Nat.reduceAdd, Nat.reduceSub, Nat.reduceMul, Nat.reduceLeDiff, Nat.reduceLT, Int.reduceLE, Int.reduceLT, Int.reduceToNat, Int.reduceNeg]; first | (done) | trivial | (simp; done) | (repeat' (first | rfl | trivial | omega | (simp; done) | (simp; omega) | (congr 1; omega) | (congr 1; simp only [List.length_append, List.length_take, List.length_drop, List.length_replicate]; omega) | apply And.intro)))) : zbE8 E I y s := by
 cases h; exact zbP2 hK l hl
theorem zd9 {c : PC} {G X β : Type} {body : G → Option (G ⊕ X)} {g0 : G} {kk : X → Option β} {r : β} (I : G → St) {k : Nat} (hK : E.k0 = k) (l : List (Nat × Nat)) (h : (zb8 body g0).bind kk = some r)
  (hb : ∀ x, kk x = some r → ∀ g y, body g = some y → (∀ x', y = .inr x' → x' = x) → AW C E c (zbt2 E I y Q) (I g))
  (hle : Le l st (I g0) ∧ zas1 k l (I g0).nx = true := by (simp only [go_sem, ↓reduceIte, reduceCtorEq, Nat.reduceEqDiff, Nat.reduceAdd, Nat.reduceSub, Nat.reduceMul, Nat.reduceLeDiff, Nat.reduceLT, Int.reduceLE, Int.reduceLT, Int.reduceToNat, Int.reduceNeg]; first | (done) | trivial | (simp; done) | (repeat' (first | rfl | trivial | omega | (simp; done) | (simp; omega) | (congr 1; omega) | (congr 1; simp only [List.length_append, List.length_take, List.length_drop, List.length_replicate]; omega) | apply And.intro)))) : AW C E (.loop c) Q st := by
 obtain ⟨x, hx, hk⟩ := za3 h
 exact zcj2 I hK l hx hle (hb x hk)
theorem zdX1 {α : Type} {r : α} (h : none = some r) : AW C E .dead Q st := by cases h
theorem zaF2 {x : PX} {p r : PC} (hx : xv C.G st.slot x = .bool true) (hG : E.G = C.G) (h : AW C E p Q st) : AW C E (.cond x p r) Q st := zaS4 hx hG (fun _ => h) (fun h => by cases h)
theorem zbm5 {x : PX} {p r : PC} (hx : xv C.G st.slot x = .bool false) (hG : E.G = C.G) (h : AW C E r Q st) : AW C E (.cond x p r) Q st := zaS4 hx hG (fun h => by cases h) (fun _ => h)
theorem g_gh {c : PC} (g : Gh) (h : q) (e : Imp q (AW C E c Q (st.gh g)) := by (simp only [go_sem, ↓reduceIte, reduceCtorEq, Nat.reduceEqDiff, Nat.reduceAdd, Nat.reduceSub, Nat.reduceMul, Nat.reduceLeDiff, Nat.reduceLT, Int.reduceLE, Int.reduceLT, Int.reduceToNat, Int.reduceNeg]; exact Imp.refl)) (hok : st.ghOk g := by (simp only [go_sem, ↓reduceIte, reduceCtorEq, Nat.reduceEqDiff, Nat.reduceAdd, Nat.reduceSub, Nat.reduceMul, Nat.reduceLeDiff, Nat.reduceLT, Int.reduceLE, Int.reduceLT, Int.reduceToNat, Int.reduceNeg]; first | (done) | trivial | (simp; done) | (repeat' (first | rfl | trivial | omega | (simp; done) | (simp; omega) | (congr 1; omega) | (congr 1; simp only [List.length_append, List.length_take, List.length_drop, List.length_replicate]; omega) | apply And.intro)))) : AW C E c Q st := zen4 g hok (e h)
theorem zz5 {α : Type} {x r : α} {k : Nat} {st : St} {rs : List RX} {rl : List A} {ms' : List (Nat × Row)} {k' : Nat} (l : List (Nat × Nat)) (h : some x = some r)
  (e : x = r → zaV5 st rs ∧ zbh8 rl = true ∧ Le l ⟨zF0 0 (resL st rs), st.mem, st.nx⟩ ⟨zF0 0 rl, ms', k'⟩ ∧ zas1 k l k' = true := by (intro e; subst e; simp only [go_sem, ↓reduceIte, reduceCtorEq, Nat.reduceEqDiff, Nat.reduceAdd, Nat.reduceSub, Nat.reduceMul, Nat.reduceLeDiff, Nat.reduceLT, Int.reduceLE, Int.reduceLT, Int.reduceToNat, Int.reduceNeg]; first | (done) | trivial | (simp; done) | (repeat' (first | rfl | trivial | omega | (simp; done) | (simp; omega) | (congr 1; omega) | (congr 1; simp only [List.length_append, List.length_take, List.length_drop, List.length_replicate]; omega) | apply And.intro)))) : zaI5 k st rs rl ms' k' := by
 obtain ⟨h1, h2, h3, h4⟩ := e (Option.some.inj h)
 exact ⟨h1, h2, l, h3, h4⟩
@[go_sem] theorem zch1 {α : Type} (a : Nat × α) (l m : List (Nat × α)) (n : Nat) : look ((a :: l) ++ m) n = if a.1 = n then some a.2 else look (l ++ m) n := rfl
@[go_sem] theorem zcj3 {α : Type} (m : List (Nat × α)) (n : Nat) : look ([] ++ m) n = look m n := rfl
theorem zo0 {f : FuncId} {d : Option Nat} {ob : Prop} {vals : List A} {ps : List POp} {st : St} {K : St → Prop} (l nl : List (Nat × Nat)) (ids : List Nat) {as : List A} {ms ms' : List (Nat × Row)} {k k' : Nat} {r : A}
  (hf : MFn C f as ms k r ms' k') (hnl : newL k st.nx (k' - k) = nl) (hids : ms.map (·.1) ++ (List.range (k' - k)).map (k + ·) = ids) (h : q)
  (e : Imp q (arun C ps (st.app d (renR (l ++ nl) r) (zG2 st.m (fzM vals as) ++ zS6 (l ++ nl) ms' ids)) K) := by (simp only [go_sem, ↓reduceIte, reduceCtorEq, Nat.reduceEqDiff, Nat.reduceAdd, Nat.reduceSub, Nat.reduceMul, Nat.reduceLeDiff, Nat.reduceLT, Int.reduceLE, Int.reduceLT, Int.reduceToNat, Int.reduceNeg]; (repeat ((with_reducible apply Imp.and); focus (first | assumption | omega | rfl | (simp; done) | (simp; omega) | (intros; simp_all; done) | grind))); exact Imp.refl))
  (hok : okM st.m st.nx l vals as ms k k' := by (simp only [go_sem, ↓reduceIte, reduceCtorEq, Nat.reduceEqDiff, Nat.reduceAdd, Nat.reduceSub, Nat.reduceMul, Nat.reduceLeDiff, Nat.reduceLT, Int.reduceLE, Int.reduceLT, Int.reduceToNat, Int.reduceNeg]; first | (done) | trivial | (simp; done) | (repeat' (first | rfl | trivial | omega | (simp; done) | (simp; omega) | (congr 1; omega) | (congr 1; simp only [List.length_append, List.length_take, List.length_drop, List.length_replicate]; omega) | apply And.intro))))
  (ho : ob := by trivial) (hr : zbs6 r = true := by rfl) : zaJ1 C f d ob vals ps st K := by
 subst hnl; subst hids
 exact zbH4 l hf hok (e h) ho hr
theorem zac6 {an : List (List Nat)} {f : FuncId} {d : Option Nat} {ob : Prop} {vals : List A} {vi : List Nat} {cok : Bool} {ps : List POp} {st : St} {log : List (List Nat × List Nat)} {K : St → Prop} (l nl : List (Nat × Nat)) (ids : List Nat) {as : List A} {ms ms' : List (Nat × Row)} {k k' : Nat} {r : A}
  (hf : MFn C f as ms k r ms' k') (hnl : newL k st.nx (k' - k) = nl) (hids : ms.map (·.1) ++ (List.range (k' - k)).map (k + ·) = ids) (h : q)
  (e : Imp q (zas5 (an.getD log.length []) 0 log vi ((zG2 st.m (fzM vals as) ++ zS6 (l ++ nl) ms' ids).map (·.1)) = true ∧ cok = true ∧ zZ4 C an ps (st.app d (renR (l ++ nl) r) (zG2 st.m (fzM vals as) ++ zS6 (l ++ nl) ms' ids)) (log ++ [(vi, (zG2 st.m (fzM vals as) ++ zS6 (l ++ nl) ms' ids).map (·.1))]) K) := by (simp only [go_sem, ↓reduceIte, reduceCtorEq, Nat.reduceEqDiff, Nat.reduceAdd, Nat.reduceSub, Nat.reduceMul, Nat.reduceLeDiff, Nat.reduceLT, Int.reduceLE, Int.reduceLT, Int.reduceToNat, Int.reduceNeg]; (repeat ((with_reducible apply Imp.and); focus (first | assumption | omega | rfl | (simp; done) | (simp; omega) | (intros; simp_all; done) | grind))); exact Imp.refl))
  (hok : okM st.m st.nx l vals as ms k k' := by (simp only [go_sem, ↓reduceIte, reduceCtorEq, Nat.reduceEqDiff, Nat.reduceAdd, Nat.reduceSub, Nat.reduceMul, Nat.reduceLeDiff, Nat.reduceLT, Int.reduceLE, Int.reduceLT, Int.reduceToNat, Int.reduceNeg]; first | (done) | trivial | (simp; done) | (repeat' (first | rfl | trivial | omega | (simp; done) | (simp; omega) | (congr 1; omega) | (congr 1; simp only [List.length_append, List.length_take, List.length_drop, List.length_replicate]; omega) | apply And.intro))))
  (ho : ob := by trivial) (hr : zbs6 r = true := by rfl) : zax3 C an f d ob vals vi cok ps st log K := by
 subst hnl; subst hids
 exact zbz8 l hf hok (e h) ho hr
end
end Ab
end Go.Proofs.YtfjeceicgfdmjaaGreatDoor
