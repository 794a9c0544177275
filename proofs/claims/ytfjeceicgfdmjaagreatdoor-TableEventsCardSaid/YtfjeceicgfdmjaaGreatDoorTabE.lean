/-
  Tables: which are valid, who is in them, what is found.
-/
import Derived.Test.YtfjeceicgfdmjaaGreatDoorQueT
namespace Go.Proofs.YtfjeceicgfdmjaaGreatDoor
namespace Ab
set_option linter.unusedVariables false
set_option linter.unusedSimpArgs false
theorem zbj6 : ∀ x : List UInt8, Op.bytesLess x x = false
 | [] => rfl
 | a :: x => by simp [Op.bytesLess, zbj6 x]
theorem zbx2 : ∀ {x y z : List UInt8}, Op.bytesLess x y = true → Op.bytesLess y z = true → Op.bytesLess x z = true
 | x, [], z, h1, _ => by cases x <;> simp [Op.bytesLess] at h1
 | x, b :: y, [], _, h2 => by simp [Op.bytesLess] at h2
 | [], b :: y, c :: z, _, _ => by simp [Op.bytesLess]
 | a :: x, b :: y, c :: z, h1, h2 => by
  simp only [Op.bytesLess, Bool.or_eq_true, Bool.and_eq_true, decide_eq_true_eq, beq_iff_eq] at h1 h2 ⊢
  rcases h1 with h1 | ⟨rfl, h1⟩
  ·rcases h2 with h2 | ⟨rfl, h2⟩
   ·exact .inl (UInt8.lt_trans h1 h2)
   ·exact .inl h1
  ·rcases h2 with h2 | ⟨rfl, h2⟩
   ·exact .inl h2
   ·exact .inr ⟨rfl, zbx2 h1 h2⟩
def ltN (a b : ByteArray) : Prop := Op.bytesLess a.toList b.toList = true
instance (a b : ByteArray) : Decidable (ltN a b) := by unfold ltN; infer_instance
theorem zce3 {a b : ByteArray} (h : ltN a b) : a ≠ b := fun e => by
 unfold ltN at h; rw [e, zbj6] at h; cases h
theorem zbj7 {a b c : ByteArray} (h : ltN a b) (k : ltN b c) : ltN a c := zbx2 h k
def AscN (t : List Queue) : Prop := t.Pairwise fun a b => ltN a.resource.name b.resource.name
def ascW : List Queue → Option ByteArray → Bool
 | [], _ => true
 | q :: t, pv => zb9 q && ((match pv with | none => true | some n => decide (ltN n q.resource.name)) && ascW t (some q.resource.name))
theorem zbc1 : ∀ (t : List Queue) (pv : Option ByteArray), ascW t pv = true ↔ (∀ q ∈ t, zb9 q = true) ∧ AscN t ∧ ∀ n, pv = some n → ∀ q ∈ t, ltN n q.resource.name
 | [], pv => by
  simp only [ascW, List.not_mem_nil, false_implies, implies_true, and_true, true_and, true_iff]
  exact .nil
 | q :: t, pv => by
  simp only [ascW, Bool.and_eq_true]
  rw [zbc1 t (some q.resource.name)]
  constructor
  ·rintro ⟨h1, h2, h3, h4, h5⟩
   refine ⟨fun x hx => ?_, List.pairwise_cons.2 ⟨fun x hx => h5 _ rfl x hx, h4⟩, fun n hn x hx => ?_⟩
   ·rcases List.mem_cons.1 hx with rfl | hx
    ·exact h1
    ·exact h3 x hx
   ·subst hn
    simp only [decide_eq_true_eq] at h2
    rcases List.mem_cons.1 hx with rfl | hx
    ·exact h2
    ·exact zbj7 h2 (h5 _ rfl x hx)
  ·rintro ⟨h1, h2, h3⟩
   have h2' := List.pairwise_cons.1 h2
   refine ⟨h1 q (.head _), ?_, fun x hx => h1 x (.tail _ hx), h2'.2, fun n hn x hx => by cases hn; exact h2'.1 x hx⟩
   cases pv with
   | none => rfl
   | some n => exact decide_eq_true (h3 n rfl q (.head _))
def zaD9 (t : List Queue) : Bool := decide (t.length ≤ 8) && ascW t none
def zr4 (t : List Queue) : List Proc := zaB3 (t.flatMap zJ5)
def zP6 (t : List Queue) : Bool := zaD9 t && decide ((zr4 t).length ≤ 8)
structure ValidT (t : List Queue) : Prop where
 len : t.length ≤ 8
 each : ∀ q ∈ t, zb9 q = true
 asc : AscN t
 procs : (zr4 t).length ≤ 8
theorem zbc2 (t : List Queue) : zaD9 t = true ↔ t.length ≤ 8 ∧ (∀ q ∈ t, zb9 q = true) ∧ AscN t := by
 unfold zaD9
 rw [Bool.and_eq_true, decide_eq_true_eq, zbc1]
 simp
theorem zM7 (t : List Queue) : zP6 t = true ↔ ValidT t := by
 unfold zP6
 rw [Bool.and_eq_true, decide_eq_true_eq, zbc2]
 exact ⟨fun ⟨⟨h1, h2, h3⟩, h4⟩ => ⟨h1, h2, h3, h4⟩, fun ⟨h1, h2, h3, h4⟩ => ⟨⟨h1, h2, h3⟩, h4⟩⟩
theorem zbj8 {α : Type} (prev t : List α) (z : α) (h : prev ≠ []) : (prev ++ t).getD (prev.length - 1) z = prev.getLast h := by
 have hp : 0 < prev.length := List.length_pos_iff.2 h
 rw [List.getD_eq_getElem?_getD, List.getElem?_append_left (by omega), List.getElem?_eq_getElem (by omega), List.getLast_eq_getElem]; rfl
theorem zbC2 (t0 : List Queue) : ∀ (t prev : List Queue), t0 = prev ++ t →
  walk (fun i q (_ : Unit) => some (if zb9 q = true ∧ (i = 0 ∨ ltN (t0.getD (i - 1) Queue.zero).resource.name q.resource.name) then Sum.inl () else Sum.inr (Sum.inr (α := Unit) false))) (fun _ => Sum.inl (β := Bool) ()) t prev.length () =
   some (if ascW t (prev.getLast?.map (·.resource.name)) = true then .inl () else .inr false) := by
 intro t
 induction t with
 | nil => intro prev _; simp [walk, ascW]
 | cons q t ih =>
  intro prev ht
  simp only [walk]
  have hq : (prev.length = 0 ∨ ltN (t0.getD (prev.length - 1) Queue.zero).resource.name q.resource.name) ↔ (match prev.getLast?.map (·.resource.name) with | none => true | some n => decide (ltN n q.resource.name)) = true := by
   by_cases hp : prev = []
   ·subst hp; simp
   ·have h1 := zbj8 prev (q :: t) Queue.zero hp
    rw [ht, h1, List.getLast?_eq_some_getLast hp]
    have : prev.length ≠ 0 := fun e => hp (List.eq_nil_of_length_eq_zero e)
    simp [this]
  by_cases e : zb9 q = true ∧ (prev.length = 0 ∨ ltN (t0.getD (prev.length - 1) Queue.zero).resource.name q.resource.name)
  ·rw [if_pos e]
   have := ih (prev ++ [q]) (by rw [ht]; simp)
   rw [show (prev ++ [q]).length = prev.length + 1 by simp] at this
   simp only
   have h2 : ascW (q :: t) (prev.getLast?.map (·.resource.name)) = ascW t (some q.resource.name) := by simp only [ascW, e.1, hq.1 e.2, Bool.true_and]
   rw [this, h2]
   simp
  ·rw [if_neg e]
   rw [hq] at e
   have hf : ascW (q :: t) (prev.getLast?.map (·.resource.name)) = false := by
    rw [Bool.eq_false_iff]
    intro hh
    simp only [ascW, Bool.and_eq_true] at hh
    exact e ⟨hh.1, hh.2.1⟩
   rw [hf]; rfl
theorem zbc3 {body : Int → Option (Int ⊕ (Unit ⊕ Bool))} (t : List Queue) (hl : t.length ≤ 8)
  (hb : ∀ i : Nat, i < t.length → body (i : Int) = some (if zb9 (t.getD i Queue.zero) = true ∧ (i = 0 ∨ ltN (t.getD (i - 1) Queue.zero).resource.name (t.getD i Queue.zero).resource.name) then .inl ((i + 1 : Nat) : Int) else .inr (.inr false)))
  (he : body (t.length : Int) = some (.inr (.inl ()))) : zb8 body 0 = some (if ascW t none = true then .inl () else .inr false) := by
 have key := zao4 (body := body) t Queue.zero (fun i (_ : Unit) => (i : Int)) (fun i q _ => some (if zb9 q = true ∧ (i = 0 ∨ ltN (t.getD (i - 1) Queue.zero).resource.name q.resource.name) then Sum.inl () else Sum.inr (Sum.inr (α := Unit) false))) (fun _ => Sum.inl (β := Bool) ())
  (fun i s hi => by
   rw [hb i hi, Option.map_some]
   split <;> rfl) (fun s => he) ()
 have := zbC2 t t [] rfl
 rw [show (0 : Int) = (fun (i : Nat) (_ : Unit) => (i : Int)) 0 () from rfl, key]
 exact this
theorem zbp1 (t : List Queue) (h : ∀ q ∈ t, zb9 q = true) : (t.flatMap zJ5).length ≤ 24 * t.length := by
 induction t with
 | nil => simp
 | cons q t ih =>
  have h1 := zA0 (h q (.head _))
  have h2 := zbj4 (q.holds.map (·.proc) ++ (ordQ q).map (·.proc))
  have h3 := ih fun x hx => h x (.tail _ hx)
  have h4 : (zJ5 q).length ≤ 24 := by
   unfold zJ5
   unfold ordQ at *
   simp only [List.length_append, List.length_map] at h2
   omega
  rw [List.flatMap_cons, List.length_append, List.length_cons]; omega
theorem zaH5 {α β X : Type} (f : α → List β) (fin : List β → X) : ∀ (l : List α) (i : Nat) (s : List β), walk (fun _ a s => some (.inl (s ++ f a))) fin l i s = some (fin (s ++ l.flatMap f))
 | [], i, s => by simp [walk]
 | a :: l, i, s => by
  simp only [walk, List.flatMap_cons]
  rw [zaH5 f fin l (i + 1), List.append_assoc]
theorem zr1 {α : Type} {l : List α} {i : Nat} {z : α} (h : i < l.length) : l.getD i z ∈ l := by
 rw [List.getD_eq_getElem?_getD, List.getElem?_eq_getElem h]; exact List.getElem_mem h
theorem zbj9 {q : Queue} (h : zb9 q = true) : (zJ5 q).length ≤ 24 := by
 have := zbp1 [q] fun x hx => by rw [List.mem_singleton] at hx; rw [hx]; exact h
 simpa using this
theorem zaw3 {t : List Queue} (hl : t.length ≤ 8) (h : ∀ q ∈ t, zb9 q = true) : zm2 t = some (zr4 t) := by
 unfold zm2
 have key := zr0 (body := zF4 t) t Queue.zero (fun i (s : List Proc) => ((i : Int), s)) (fun _ q s => some (.inl (s ++ zJ5 q))) (fun s => s) (fun i s => s.length ≤ 24 * i)
  (fun i s hi hs => by
   have hq := h _ (zr1 (z := Queue.zero) hi)
   have hql := zA0 hq
   have hpl := zbj9 hq
   refine ⟨?_, fun s' h => ?_⟩
   ·unfold zF4
    have h3 : 0 ≤ (i : Int) ∧ (i : Int) < (t.length : Int) := by omega
    simp only [h3.1, h3.2, and_self, zj7, decide_true, if_true, Int.toNat_natCast]
    rw [zaw1 _ (by omega) (by omega) (by omega), Option.bind_some, zb2 (by omega), zd5 i (by omega)]
    rfl
   ·simp only [Option.some.injEq, Sum.inl.injEq] at h; subst h; rw [List.length_append]; omega)
  (fun s hs => by unfold zF4; simp) [] (by simp)
 rw [show ((0, []) : Int × List Proc) = (fun (i : Nat) (s : List Proc) => ((i : Int), s)) 0 [] from rfl, key, zaH5 zJ5, List.nil_append, Option.bind_some]
 unfold zN2
 have := zbp1 t h
 rw [zag0 _ (by omega)]; rfl
theorem zag1 (t : List Queue) : zk6 t = some (zP6 t) := by
 unfold zk6 zP6 zaD9
 by_cases h8 : 8 < t.length
 ·have : ¬ t.length ≤ 8 := by omega
  rw [if_pos (by simp; omega)]
  simp [this]
 ·have hl : t.length ≤ 8 := by omega
  rw [if_neg (by simp; omega), zbc3 t hl (fun i hi => by
   unfold zN4
   have h3 : 0 ≤ (i : Int) ∧ (i : Int) < (t.length : Int) := by omega
   simp only [h3.1, h3.2, and_self, zj7, decide_true, if_true, Int.toNat_natCast, zaf5, Option.bind_some, zd5 i (by omega)]
   by_cases e0 : i = 0
   ·subst e0
    rw [zb2 (by simp)]
    cases zb9 (t.getD 0 Queue.zero) <;> simp
   ·rw [zac0 i (by omega) (by omega), zb2 (by intro _; omega)]
    simp only [Int.toNat_natCast, show (0 : Int) < (i : Int) by omega, decide_true, Bool.true_and, e0, false_or]
    unfold ltN
    rcases hb (zb9 (t.getD i Queue.zero)) with b1 | b1 <;> rcases hb (Op.bytesLess (t.getD (i - 1) Queue.zero).resource.name.toList (t.getD i Queue.zero).resource.name.toList) with b2 | b2 <;> simp [b1, b2, -List.getD_eq_getElem?_getD]) (by unfold zN4; simp)]
  simp only [hl, decide_true, Bool.true_and]
  cases hw : ascW t none with
  | false => rfl
  | true =>
   simp only [if_true, Option.bind_some, Bool.true_and]
   unfold zN3
   rw [zaw3 hl ((zbc1 t none).1 hw).1, Option.bind_some]
   congr 1
   rw [Bool.eq_iff_iff]; simp; omega
theorem zbk0 {α : Type} (l : List α) (z : α) (p : α → Bool) {body : Int → Option (Int ⊕ (Unit ⊕ Int))} (hb : ∀ i : Nat, i < l.length → body (i : Int) = some (if p (l.getD i z) = true then .inr (.inr (i : Int)) else .inl ((i + 1 : Nat) : Int)))
  (he : body (l.length : Int) = some (.inr (.inl ()))) : zb8 body 0 = some (match l.findIdx? p with | some i => .inr (i : Int) | none => .inl ()) := by
 have key := zao4 (body := body) l z (fun i (_ : Unit) => (i : Int)) (fun i a _ => some (if p a = true then .inr (Sum.inr (α := Unit) (i : Int)) else .inl ())) (fun _ => Sum.inl (β := Int) ())
  (fun i s hi => by rw [hb i hi, Option.map_some]; split <;> rfl) (fun s => he) ()
 have fold : ∀ (l : List α) (i : Nat), walk (fun i a (_ : Unit) => some (if p a = true then .inr (Sum.inr (α := Unit) (i : Int)) else .inl ())) (fun _ => Sum.inl (β := Int) ()) l i () = some (match l.findIdx? p with | some j => .inr ((i + j : Nat) : Int) | none => .inl ()) := by
  intro l
  induction l with
  | nil => intro i; rfl
  | cons a l ih =>
   intro i
   simp only [walk, List.findIdx?_cons]
   by_cases hp : p a = true
   ·simp [hp]
   ·simp only [hp, Bool.false_eq_true, if_false]
    rw [ih (i + 1)]
    cases l.findIdx? p with
    | none => rfl
    | some j => simp only [Option.map_some]; rw [show i + 1 + j = i + (j + 1) by omega]
 have := fold l 0
 simp only [Nat.zero_add] at this
 rw [show (0 : Int) = (fun (i : Nat) (_ : Unit) => (i : Int)) 0 () from rfl, key]
 exact this
def isN (nm : ByteArray) (q : Queue) : Bool := q.resource.name.toList == nm.toList
theorem zbF6 {nm : ByteArray} {q : Queue} : isN nm q = true ↔ q.resource.name = nm := by
 unfold isN; rw [beq_iff_eq]; exact zR9
def zi3 (t : List Queue) (nm : ByteArray) : Int := match t.findIdx? (isN nm) with
 | some i => i
 | none => -1
theorem zaB5 (t : List Queue) (nm : ByteArray) (hl : t.length ≤ 1000000) : zt0 t nm = some (zi3 t nm) := by
 unfold zt0
 rw [zbk0 t Queue.zero (isN nm) (fun i hi => by
  unfold zQ6 isN
  have h3 : 0 ≤ (i : Int) ∧ (i : Int) < (t.length : Int) := by omega
  simp only [h3.1, h3.2, and_self, zj7, decide_true, if_true, Int.toNat_natCast, zd5 i (by omega)]
  split <;> rfl) (by unfold zQ6; simp)]
 unfold zi3
 cases t.findIdx? (isN nm) <;> rfl
theorem zbc4 {t : List Queue} {nm : ByteArray} : zi3 t nm = -1 ∨ ∃ i : Nat, zi3 t nm = i ∧ i < t.length ∧ (t.getD i Queue.zero).resource.name = nm := by
 unfold zi3
 cases h : t.findIdx? (isN nm) with
 | none => exact .inl rfl
 | some i =>
  right
  obtain ⟨h1, h2, _⟩ := List.findIdx?_eq_some_iff_getElem.1 h
  refine ⟨i, rfl, h1, ?_⟩
  rw [List.getD_eq_getElem?_getD, List.getElem?_eq_getElem h1]
  exact zbF6.1 h2
theorem zck8 {t : List Queue} (h : AscN t) {i j : Nat} (hi : i < t.length) (hj : j < t.length) (e : (t.getD i Queue.zero).resource.name = (t.getD j Queue.zero).resource.name) : i = j := by
 have hp := List.pairwise_iff_getElem.1 h
 have g : ∀ k, (hk : k < t.length) → t.getD k Queue.zero = t[k] := fun k hk => by rw [List.getD_eq_getElem?_getD, List.getElem?_eq_getElem hk]; rfl
 rw [g i hi, g j hj] at e
 rcases Nat.lt_trichotomy i j with h1 | h1 | h1
 ·exact absurd e (zce3 (hp i j hi hj h1))
 ·exact h1
 ·exact absurd e.symm (zce3 (hp j i hj hi h1))
theorem zbx3 {t : List Queue} (h : AscN t) {i : Nat} (hi : i < t.length) : zi3 t (t.getD i Queue.zero).resource.name = i := by
 rcases zbc4 (t := t) (nm := (t.getD i Queue.zero).resource.name) with h1 | ⟨j, h1, h2, h3⟩
 ·unfold zi3 at h1
  cases hf : t.findIdx? (isN (t.getD i Queue.zero).resource.name) with
  | some k => rw [hf] at h1; simp only at h1; omega
  | none =>
   have := List.findIdx?_eq_none_iff.1 hf (t.getD i Queue.zero) (zr1 hi)
   rw [Bool.eq_false_iff] at this
   exact absurd (zbF6.2 rfl) this
 ·rw [h1, zck8 h h2 hi h3]
end Ab
end Go.Proofs.YtfjeceicgfdmjaaGreatDoor
namespace Go.Proofs.YtfjeceicgfdmjaaGreatDoor
namespace Ab
set_option linter.unusedVariables false
set_option linter.unusedSimpArgs false
theorem zaM7 (x : Proc) (s : List Proc) (hs : s.Pairwise ltP) (hx : x ∉ s) (hl : s.length ≤ 1000000) : zb8 (zw7) ((s.length : Int), s ++ [x]) = some (zZ8 x s) := by
 obtain ⟨r, h1, h2⟩ := zQ1 (body := zw7) (fun g => ∃ pre post : List Proc, g = ((pre.length : Int), pre ++ x :: post) ∧ pre ++ post = s ∧ ∀ y ∈ post, ltP x y) (fun g => g.1.toNat) (fun r => r = zZ8 x s) (by
  rintro g ⟨pre, post, rfl, hp, hpost⟩
  have hpl : pre.length + post.length = s.length := by rw [← hp, List.length_append]
  unfold zw7
  simp only [List.length_append, List.length_cons]
  by_cases h0 : pre = []
  ·right
   subst h0
   refine ⟨_, by rw [zb2 (by simp), zb2 (by simp), if_neg (by simp)], ?_⟩
   simp only [List.nil_append] at hp ⊢
   subst hp
   refine zaf9 (List.pairwise_cons.2 ⟨hpost, hs⟩) (zX7 hs) fun y => ?_
   rw [zX6, List.mem_cons]
  ·obtain ⟨pre', y, rfl⟩ : ∃ p' y, pre = p' ++ [y] := ⟨pre.dropLast, pre.getLast h0, (List.dropLast_concat_getLast h0).symm⟩
   have hk : (pre' ++ [y]).length = pre'.length + 1 := by simp
   rw [hk] at hpl ⊢
   have w : IntKind.i64.wrap (((pre'.length + 1 : Nat) : Int) - 1) = (pre'.length : Int) := by rw [ze1 (by omega) (by omega)]; omega
   have e1 : (pre' ++ [y] ++ x :: post).getD pre'.length Proc.zero = y := by simp [List.getD_eq_getElem?_getD]
   have e2 : (pre' ++ [y] ++ x :: post).getD (pre'.length + 1) Proc.zero = x := by simp [List.getD_eq_getElem?_getD]
   have g1 : 0 ≤ (pre'.length : Int) ∧ (pre'.length : Int) < ((pre'.length + 1 + (post.length + 1) : Nat) : Int) := by omega
   have g2 : 0 ≤ ((pre'.length + 1 : Nat) : Int) ∧ ((pre'.length + 1 : Nat) : Int) < ((pre'.length + 1 + (post.length + 1) : Nat) : Int) := by omega
   have hpos : decide (0 < ((pre'.length + 1 : Nat) : Int)) = true := decide_eq_true (by omega)
   simp only [w, Int.toNat_natCast, e1, e2, hpos, Bool.true_and]
   rw [zb2 (fun _ => g1), zb2 (fun _ => g2)]
   have hlt : decide (0 < zi5 y x) = decide (ltP x y) := by rw [decide_eq_decide]; exact zaZ3 y x
   rw [hlt]
   by_cases hxy : ltP x y
   ·left
    rw [if_pos (decide_eq_true hxy), zb2 g1, zb2 g2, zb2 g1, zb2 g2]
    refine ⟨((pre'.length : Int), pre' ++ x :: (y :: post)), ?_, ⟨pre', y :: post, rfl, by rw [← hp]; simp, fun z hz => ?_⟩, by simp only [Int.toNat_natCast]; omega⟩
    ·congr 3
     rw [List.append_assoc, List.set_append_right _ _ (Nat.le_refl _), Nat.sub_self, List.set_append_right _ _ (by omega), show pre'.length + 1 - pre'.length = 1 by omega]
     rfl
    ·rcases List.mem_cons.1 hz with rfl | hz
     ·exact hxy
     ·exact hpost z hz
   ·right
    refine ⟨_, by rw [if_neg (by simpa using hxy)], ?_⟩
    have hyx : ltP y x := by
     rcases zX1 (p := x) (q := y) (fun e => hx (by rw [← hp, e]; simp)) with h | h
     ·exact absurd h hxy
     ·exact h
    rw [← hp] at hs
    obtain ⟨a1, a2, a3⟩ := List.pairwise_append.1 hs
    obtain ⟨b1, b2, b3⟩ := List.pairwise_append.1 a1
    have hpre : ∀ z ∈ pre' ++ [y], ltP z x := fun z hz => by
     rcases List.mem_append.1 hz with hz | hz
     ·exact zX0 (b3 z hz y (by simp)) hyx
     ·rw [List.mem_singleton] at hz; rw [hz]; exact hyx
    rw [← hp]
    refine zaf9 (List.pairwise_append.2 ⟨a1, List.pairwise_cons.2 ⟨hpost, a2⟩, fun z hz u hu => ?_⟩) (zX7 hs) fun z => ?_
    ·rcases List.mem_cons.1 hu with rfl | hu
     ·exact hpre z hz
     ·exact a3 z hz u hu
    ·rw [zX6]
     simp only [List.mem_append, List.mem_cons, List.mem_singleton]
     constructor
     ·rintro ((h | h) | h | h)
      ·exact .inr (.inl (.inl h))
      ·exact .inr (.inl (.inr h))
      ·exact .inl h
      ·exact .inr (.inr h)
     ·rintro (h | (h | h) | h)
      ·exact .inr (.inl h)
      ·exact .inl (.inl h)
      ·exact .inl (.inr h)
      ·exact .inr (.inr h)) ((s.length : Int), s ++ [x]) ⟨s, [], by simp, by simp, by simp⟩
 rw [h1, h2]
theorem zag2 (l : List Proc) (hl : l.length ≤ 1000000) : zj3 l = some (zaB3 l) := by
 unfold zj3
 have key := zr0 (body := zw8 l) l Proc.zero (fun i (s : List Proc) => ((i : Int), s)) (fun _ p s => some (.inl (zZ8 p s))) (fun s => s) (fun i s => s.Pairwise ltP ∧ s.length ≤ i)
  (fun i s hi hs => by
   have hlen : ∀ p, (zZ8 p s).length ≤ s.length + 1 := fun p => by
    have := List.Nodup.length_le_of_subset (zaM4 (zX7 (p := p) hs.1)) (l₂ := p :: s) fun z hz => by
     rcases zX6.1 hz with rfl | h
     ·exact .head _
     ·exact .tail _ h
    simpa using this
   refine ⟨?_, fun s' h => ?_⟩
   ·unfold zw8
    have h3 : 0 ≤ (i : Int) ∧ (i : Int) < (l.length : Int) := by omega
    simp only [h3.1, h3.2, and_self, zj7, decide_true, if_true, Int.toNat_natCast]
    rw [zam8 _ _ (by omega), Option.bind_some, zd5 i (by omega)]
    by_cases hm : l.getD i Proc.zero ∈ s
    ·rw [if_pos (decide_eq_true hm), Option.map_some, zbB5 hs.1 hm]; rfl
    ·rw [if_neg (by rw [decide_eq_true_eq]; exact hm), zb2 (by omega), zaM7 _ _ hs.1 hm (by omega), Option.bind_some]
     unfold zD4
     simp only [zd5 i (show i < 4611686018427387904 by omega), Option.map_some, wmap]
   ·simp only [Option.some.injEq, Sum.inl.injEq] at h; subst h
    exact ⟨zX7 hs.1, by have := hlen (l.getD i Proc.zero); omega⟩)
  (fun s hs => by unfold zw8; simp) [] ⟨.nil, by simp⟩
 rw [show ((0, []) : Int × List Proc) = (fun (i : Nat) (s : List Proc) => ((i : Int), s)) 0 [] from rfl, key, zaD4 (fun s p => zZ8 p s)]
 rfl
theorem zag3 {α β : Type} (l : List α) (z : α) (f : α → β) (s0 : List β) {body : Int × List β → Option ((Int × List β) ⊕ List β)} (hl : l.length ≤ 1000000) (h0 : s0.length ≤ 1000000)
  (hb : ∀ (i : Nat) (s : List β), i < l.length → s.length ≤ 3000000 → body ((i : Int), s) = some (.inl (((i + 1 : Nat) : Int), s ++ [f (l.getD i z)]))) (he : ∀ s, body ((l.length : Int), s) = some (.inr s)) : zb8 body (0, s0) = some (s0 ++ l.map f) := by
 have key := zr0 (body := body) l z (fun i (s : List β) => ((i : Int), s)) (fun i a s => some (.inl (zal5 s (some (f a))))) (fun s => s) (fun i s => s.length ≤ 1000000 + i)
  (fun i s hi hs => ⟨by rw [hb i s hi (by omega)]; rfl, fun s' h => by simp only [Option.some.injEq, Sum.inl.injEq] at h; subst h; simp [zal5]; omega⟩) (fun s hs => he s) s0 (by omega)
 rw [show ((0, s0) : Int × List β) = (fun (i : Nat) (s : List β) => ((i : Int), s)) 0 s0 from rfl, key, zal6 (fun a => some (f a))]
 simp
theorem zaM8 (l : List Hold) (hl : l.length ≤ 1000000) : zp7 l = some (l.map (·.proc)) := by
 unfold zp7
 rw [zag3 l Hold.zero (·.proc) [] hl (by simp) (fun i s hi hs => by
  unfold zH6
  have h3 : 0 ≤ (i : Int) ∧ (i : Int) < (l.length : Int) := by omega
  have h1 : s.length + 1 ≤ 4294967296 := by omega
  simp only [h1, h3.1, h3.2, and_self, zj7, decide_true, if_true, Int.toNat_natCast, zd5 i (show i < 4611686018427387904 by omega)]) (fun s => by unfold zH6; simp)]
 rfl
theorem zbc5 (q : Queue) (h1 : q.converts.length ≤ 1000) (h2 : q.waits.length ≤ 1000) : zv7 q = some ((ordQ q).map (·.proc)) := by
 unfold zv7
 rw [zag3 q.converts Wait.zero (·.proc) [] (by omega) (by simp) (fun i s hi hs => by
  unfold zO5
  have h3 : 0 ≤ (i : Int) ∧ (i : Int) < (q.converts.length : Int) := by omega
  have h1 : s.length + 1 ≤ 4294967296 := by omega
  simp only [h1, h3.1, h3.2, and_self, zj7, decide_true, if_true, Int.toNat_natCast, zd5 i (show i < 4611686018427387904 by omega)]) (fun s => by unfold zO5; simp), Option.bind_some]
 unfold zO4
 rw [zag3 q.waits Wait.zero (·.proc) _ (by omega) (by simp; omega) (fun i s hi hs => by
  unfold zO3
  have h3 : 0 ≤ (i : Int) ∧ (i : Int) < (q.waits.length : Int) := by omega
  have h1 : s.length + 1 ≤ 4294967296 := by omega
  simp only [h1, h3.1, h3.2, and_self, zj7, decide_true, if_true, Int.toNat_natCast, zd5 i (show i < 4611686018427387904 by omega)]) (fun s => by unfold zO3; simp), Option.bind_some]
 unfold zO2 ordQ
 rw [List.map_append, List.nil_append]
theorem zbc6 (q : Queue) (h0 : q.holds.length ≤ 1000) (h1 : q.converts.length ≤ 1000) (h2 : q.waits.length ≤ 1000) : zv8 q = some (zJ5 q) := by
 unfold zv8 zJ5
 have hl : (ordQ q).length ≤ 2000 := by unfold ordQ; rw [List.length_append]; omega
 rw [zaM8 _ (by omega), Option.bind_some, zbc5 q h1 h2, Option.bind_some, zb2 (by simp; omega), zag2 _ (by simp; omega)]
 rfl
theorem zaw4 {t : List Queue} (hl : t.length ≤ 8) (h : ∀ q ∈ t, zb9 q = true) : zs2 t = some (zr4 t) := by
 unfold zs2
 have key := zr0 (body := zF8 t) t Queue.zero (fun i (s : List Proc) => ((i : Int), s)) (fun _ q s => some (.inl (s ++ zJ5 q))) (fun s => s) (fun i s => s.length ≤ 24 * i)
  (fun i s hi hs => by
   have hq := h _ (zr1 (z := Queue.zero) hi)
   have hql := zA0 hq
   have hpl := zbj9 hq
   refine ⟨?_, fun s' h => ?_⟩
   ·unfold zF8
    have h3 : 0 ≤ (i : Int) ∧ (i : Int) < (t.length : Int) := by omega
    simp only [h3.1, h3.2, and_self, zj7, decide_true, if_true, Int.toNat_natCast]
    rw [zbc6 _ (by omega) (by omega) (by omega), Option.bind_some, zb2 (by omega), zd5 i (by omega)]
    rfl
   ·simp only [Option.some.injEq, Sum.inl.injEq] at h; subst h; rw [List.length_append]; omega)
  (fun s hs => by unfold zF8; simp) [] (by simp)
 rw [show ((0, []) : Int × List Proc) = (fun (i : Nat) (s : List Proc) => ((i : Int), s)) 0 [] from rfl, key, zaH5 zJ5, List.nil_append, Option.bind_some]
 unfold zO6
 have := zbp1 t h
 rw [zag2 _ (by omega)]; rfl
theorem zbc7 (t : List Queue) : zv6 t = some (zaD9 t) := by
 unfold zv6 zaD9
 by_cases h8 : 8 < t.length
 ·have : ¬ t.length ≤ 8 := by omega
  rw [if_pos (by simp; omega)]
  simp [this]
 ·have hl : t.length ≤ 8 := by omega
  rw [if_neg (by simp; omega), zbc3 t hl (fun i hi => by
   unfold zO1
   have h3 : 0 ≤ (i : Int) ∧ (i : Int) < (t.length : Int) := by omega
   simp only [h3.1, h3.2, and_self, implies_true, zj7, decide_true, if_true, Int.toNat_natCast, zV0, Option.bind_some, zd5 i (by omega)]
   by_cases e0 : i = 0
   ·subst e0
    rw [zb2 (by simp)]
    cases zb9 (t.getD 0 Queue.zero) <;> simp
   ·rw [zac0 i (by omega) (by omega), zb2 (by intro _; omega)]
    simp only [Int.toNat_natCast, show (0 : Int) < (i : Int) by omega, decide_true, Bool.true_and, e0, false_or]
    unfold ltN
    rcases hb (zb9 (t.getD i Queue.zero)) with b1 | b1 <;> rcases hb (Op.bytesLess (t.getD (i - 1) Queue.zero).resource.name.toList (t.getD i Queue.zero).resource.name.toList) with b2 | b2 <;> simp [b1, b2, -List.getD_eq_getElem?_getD]) (by unfold zO1; simp)]
  simp only [hl, decide_true, Bool.true_and]
  cases hw : ascW t none <;> rfl
theorem zag4 (t : List Queue) : zm6 t = some (zP6 t) := by
 unfold zm6 zP6
 rw [zbc7, Option.bind_some]
 cases hp : zaD9 t with
 | false => rfl
 | true =>
  obtain ⟨h1, h2, _⟩ := (zbc2 t).1 hp
  rw [if_pos rfl, zaw4 h1 h2, Option.bind_some, Bool.true_and]
  congr 1
  rw [Bool.eq_iff_iff]; simp; omega
theorem zY8 (t : List Queue) (nm : ByteArray) (hl : t.length ≤ 1000000) : zt1 t nm = some (zi3 t nm) := by
 unfold zt1
 rw [zbk0 t Queue.zero (isN nm) (fun i hi => by
  unfold zQ7 isN
  have h3 : 0 ≤ (i : Int) ∧ (i : Int) < (t.length : Int) := by omega
  simp only [h3.1, h3.2, and_self, zj7, decide_true, if_true, Int.toNat_natCast, zd5 i (by omega)]
  split <;> rfl) (by unfold zQ7; simp)]
 unfold zi3
 cases t.findIdx? (isN nm) <;> rfl
end Ab
end Go.Proofs.YtfjeceicgfdmjaaGreatDoor
namespace Go.Proofs.YtfjeceicgfdmjaaGreatDoor
namespace Ab
set_option linter.unusedVariables false
set_option linter.unusedSimpArgs false
def zbp2 (nm : ByteArray) (h : Hold) : Event := ⟨1, h.proc, nm, h.amount⟩
def zK6 (nm : ByteArray) (l : List Hold) : List Event := l.map (zbp2 nm)
def zce4 (p : Proc) (nm : ByteArray) (a : Amount) : Event := ⟨3, p, nm, a⟩
theorem zck9 (nm : ByteArray) (l : List Hold) (hl : l.length ≤ 1000000) : zl7 nm l = some (zK6 nm l) := by
 unfold zl7
 rw [zag3 l Hold.zero (zbp2 nm) [] hl (by simp) (fun i s hi hs => by
  unfold zJ8
  have h3 : 0 ≤ (i : Int) ∧ (i : Int) < (l.length : Int) := by omega
  have h1 : s.length + 1 ≤ 4294967296 := by omega
  simp only [h1, h3.1, h3.2, and_self, zj7, decide_true, if_true, Int.toNat_natCast, zd5 i (show i < 4611686018427387904 by omega)]
  rfl) (fun s => by unfold zJ8; simp)]
 rfl
theorem zbx4 (nm : ByteArray) (l : List Hold) (ev : List Event) (hl : l.length ≤ 1000000) (he : ev.length ≤ 1000000) : zy6 nm l ev = some (ev ++ zK6 nm l) := by
 unfold zy6
 rw [zag3 l Hold.zero (zbp2 nm) ev hl he (fun i s hi hs => by
  unfold zI0
  have h3 : 0 ≤ (i : Int) ∧ (i : Int) < (l.length : Int) := by omega
  have h1 : s.length + 1 ≤ 4294967296 := by omega
  simp only [h1, h3.1, h3.2, and_self, zj7, decide_true, if_true, Int.toNat_natCast, zd5 i (show i < 4611686018427387904 by omega)]
  rfl) (fun s => by unfold zI0; simp)]
 rfl
theorem zaj9 (nm : ByteArray) (l : List Hold) (hl : l.length ≤ 1000000) : zi9 nm l = some (zK6 nm l) := by
 unfold zi9
 rw [zag3 l Hold.zero (zbp2 nm) [] hl (by simp) (fun i s hi hs => by
  unfold zK2
  have h3 : 0 ≤ (i : Int) ∧ (i : Int) < (l.length : Int) := by omega
  have h1 : s.length + 1 ≤ 4294967296 := by omega
  simp only [h1, h3.1, h3.2, and_self, implies_true, zj7, decide_true, if_true, Int.toNat_natCast, zd5 i (show i < 4611686018427387904 by omega)]
  rfl) (fun s => by unfold zK2; simp)]
 rfl
def zaw5 (t : List Queue) (i : Int) (q : Queue) : List Queue := if 0 ≤ i then t.set i.toNat q else t
def Lens (t : List Queue) : Prop := ∀ q ∈ t, q.holds.length ≤ 1000 ∧ q.converts.length ≤ 1000 ∧ q.waits.length ≤ 1000
theorem zbp3 (t : List Queue) (hl : t.length ≤ 1000) (hs : Lens t) : zb8 (zB6 t) (0, List.replicate t.length Queue.zero) = some t := by
 obtain ⟨x, hx, hp⟩ := zQ1 (body := zB6 t) (fun g => ∃ i : Nat, i ≤ t.length ∧ g.1 = (i : Int) ∧ g.2.length = t.length ∧ g.2.take i = t.take i) (fun g => t.length - g.1.toNat) (fun x => x = t) (by
  rintro ⟨gi, s⟩ ⟨i, hi, h1, h2, h3⟩
  simp only at h1 h2 h3
  subst h1
  unfold zB6
  by_cases hlt : i < t.length
  ·left
   have hq := hs _ (zr1 (z := Queue.zero) hlt)
   have g3 : 0 ≤ (i : Int) ∧ (i : Int) < (t.length : Int) := by omega
   have g4 : 0 ≤ (i : Int) ∧ (i : Int) < ((s.length : Nat) : Int) := by omega
   refine ⟨(((i + 1 : Nat) : Int), s.set i (t.getD i Queue.zero)), ?_, ⟨i + 1, by omega, rfl, by simp [h2], ?_⟩, by simp only [Int.toNat_natCast]; omega⟩
   ·simp only [Int.toNat_natCast, zd5 i (show i < 4611686018427387904 by omega)]
    rw [if_pos (decide_eq_true g3.2), zb2 g3, zb2 (by omega), zb2 (by omega), zb2 (by omega), zb2 g4]
   ·simp only
    rw [zX8 (z := Queue.zero) (show i < (s.set i (t.getD i Queue.zero)).length by rw [List.length_set]; omega), List.take_set_of_le (Nat.le_refl _), h3, zaj3 _ _ _ _ (by omega), zX8 (z := Queue.zero) hlt]
  ·right
   have : i = t.length := by omega
   subst this
   refine ⟨s, by rw [if_neg (by simp)], ?_⟩
   rw [List.take_of_length_le (by omega), List.take_length] at h3
   exact h3) (0, List.replicate t.length Queue.zero) ⟨0, by omega, rfl, by simp, by simp⟩
 rw [hx, hp]
theorem zam9 (t : List Queue) (i : Int) (q : Queue) (hl : t.length ≤ 1000) (hs : Lens t) (hi : i < t.length) : zf4 t i q = some (zaw5 t i q) := by
 unfold zf4
 rw [zb2 (by omega), Int.toNat_natCast, zbp3 t hl hs, Option.bind_some]
 unfold zH3 zaw5
 by_cases h0 : 0 ≤ i
 ·rw [if_pos (decide_eq_true h0), zb2 (by omega), if_pos h0]
 ·rw [if_neg (by simpa using h0), if_neg h0]
theorem zaE0 (t : List Queue) (i : Int) (q : Queue) (hl : t.length ≤ 1000) (hs : Lens t) (hi : i < t.length) : zo1 t i q = some (zaw5 t i q) := by
 have e : zo1 t i q = zf4 t i q := rfl
 rw [e]; exact zam9 t i q hl hs hi
theorem zX9 (t : List Queue) (i : Int) (q : Queue) (hl : t.length ≤ 1000) (h0 : 0 ≤ i) (hi : i < t.length) : zi7 t i q = some (zaw5 t i q) := by
 unfold zi7 zaw5
 rw [zb2 (by omega), zb2 (by omega), if_pos h0]
theorem ValidT.lens {t : List Queue} (h : ValidT t) : Lens t := fun q hq => by
 have := zA0 (h.each q hq)
 omega
abbrev ResT := List Queue × List Event × Int
def errT (e : Int) : ResT := ([], [], e)
def putT (t : List Queue) (nm : ByteArray) (x : Queue × List Hold × Int) (ev : List Event) : ResT := if x.2.2 = 0 then (zaw5 t (zi3 t nm) x.1, ev ++ zK6 nm x.2.1, 0) else errT x.2.2
def atT (t : List Queue) (nm : ByteArray) (f : Queue → ResT) : ResT := if zP6 t = false then errT 2 else if zi3 t nm < 0 then errT 10 else f (t.getD (zi3 t nm).toNat Queue.zero)
def zar1 (t : List Queue) (p : Proc) : Bool := decide (8 ≤ (zr4 t).length) && !decide (p ∈ zr4 t)
def zak0 (t : List Queue) (p : Proc) (a : Atom) (pr : Int) : ResT := atT t a.name fun q => if zar1 t p = true then errT 4 else putT t a.name (zC3 q p a.amount pr) []
def zap3 (t : List Queue) (p : Proc) (nm : ByteArray) : ResT := atT t nm fun q => putT t nm (zE2 q p) []
def zaE1 (t : List Queue) (p : Proc) (a : Atom) : ResT := atT t a.name fun q => putT t a.name (zC4 q p a.amount) (if getH q.holds p = a.amount then [] else [zce4 p a.name a.amount])
theorem nd0 {P : Prop} [Decidable P] (h : P) : ¬ ((!decide P) = true) := by simp [h]
theorem nd1 {P : Prop} [Decidable P] (h : ¬ P) : (!decide P) = true := by simp [h]
theorem zbx5 (t : List Queue) (nm : ByteArray) : zy3 t nm = some (if zP6 t = false then (0, 2) else if zi3 t nm < 0 then (0, 10) else (zi3 t nm, 0)) := by
 unfold zy3
 rw [zag1, Option.bind_some]
 cases hv : zP6 t with
 | false => rfl
 | true =>
  have hl := ((zM7 t).1 hv).len
  rw [ifNT, ifTF, zaB5 _ _ (by omega), Option.bind_some]
  by_cases hf : zi3 t nm < 0
  ·rw [if_pos (decide_eq_true hf), if_pos hf]
  ·rw [if_neg (by simpa using hf), if_neg hf]
theorem zag5 {t : List Queue} {nm : ByteArray} (h : ¬ zi3 t nm < 0) : 0 ≤ zi3 t nm ∧ zi3 t nm < t.length := by
 rcases zbc4 (t := t) (nm := nm) with h1 | ⟨i, h1, h2, _⟩
 ·omega
 ·omega
theorem zaH6 {t : List Queue} (h : ValidT t) {nm : ByteArray} (hf : ¬ zi3 t nm < 0) : zb9 (t.getD (zi3 t nm).toNat Queue.zero) = true := by
 have := zag5 hf
 exact h.each _ (zr1 (by omega))
theorem zcl0 {t : List Queue} (h : ValidT t) (p : Proc) : ((!decide (p ∈ zr4 t)) && (decide (8 ≤ ((zr4 t).length : Int)))) = zar1 t p := by
 unfold zar1
 rw [Bool.and_comm]
 congr 1
 rw [decide_eq_decide]; omega
theorem zbc8 (t : List Queue) (p : Proc) (a : Atom) (pr : Int) : zv5 t p a pr = some (zak0 t p a pr) := by
 unfold zv5 zak0 atT
 rw [zbx5, Option.bind_some]
 cases hv : zP6 t with
 | false => rfl
 | true =>
  have h := (zM7 t).1 hv
  have hl := h.len
  have hpl := h.procs
  simp only [Bool.true_eq_false, if_false]
  by_cases hf : zi3 t a.name < 0
  ·rw [if_pos hf, if_pos hf]; rfl
  ·have hr := zag5 hf
   have hs := zaH6 h hf
   have hsh := zaH4 (t.getD (zi3 t a.name).toNat Queue.zero) p a.amount pr
   simp only [if_neg hf, decide_true, Bool.not_true, Bool.false_eq_true, if_false, zaw3 hl h.each, Option.bind_some, zam7 (zr4 t) p (by omega), zcl0 h p]
   cases hfu : zar1 t p with
   | true => rfl
   | false =>
    simp only [Bool.false_eq_true, if_false]
    rw [zb2 (by omega), zbb3, Option.bind_some]
    unfold putT
    by_cases e : (zC3 (t.getD (zi3 t a.name).toNat Queue.zero) p a.amount pr).2.2 = 0
    ·rw [if_neg (nd0 e), if_pos e, zam9 _ _ _ (by omega) h.lens (by omega), Option.bind_some, zck9 _ _ (by have := hsh.2.2.2; omega)]; rfl
    ·rw [if_pos (nd1 e), if_neg e]; rfl
theorem zbc9 (t : List Queue) (p : Proc) (a : Atom) (pr : Int) : zA4 t p a pr = some (zak0 t p a pr) := by
 unfold zA4 zak0 atT
 rw [zag4, Option.bind_some]
 cases hv : zP6 t with
 | false => rfl
 | true =>
  have h := (zM7 t).1 hv
  have hl := h.len
  have hpl := h.procs
  rw [ifNT, ifTF, zY8 _ _ (by omega), Option.bind_some]
  by_cases hf : zi3 t a.name < 0
  ·rw [if_pos (decide_eq_true hf), if_pos hf]; rfl
  ·have hr := zag5 hf
   have hsh := zaH4 (t.getD (zi3 t a.name).toNat Queue.zero) p a.amount pr
   rw [if_neg (by rw [decide_eq_true_eq]; exact hf), if_neg hf, zaw4 hl h.each, Option.bind_some, zam8 _ _ (by omega)]
   have e8 : decide (((zr4 t).length : Int) = 8) = decide (8 ≤ (zr4 t).length) := by rw [decide_eq_decide]; omega
   rw [e8]
   have hfu : zar1 t p = (decide (8 ≤ (zr4 t).length) && !decide (p ∈ zr4 t)) := rfl
   have hb2 : ((if decide (8 ≤ (zr4 t).length) = true then some (decide (p ∈ zr4 t)) else some false) : Option Bool).bind (fun v4 => if (decide (8 ≤ (zr4 t).length) && !v4) = true then some (([], [], 4) : ResT) else gd (0 ≤ zi3 t a.name ∧ zi3 t a.name < (t.length : Int)) <| (zs3 (t.getD (zi3 t a.name).toNat Queue.zero) p a.amount pr).bind fun v5 => if (!decide (v5.2.2 = 0)) = true then some (([], [], v5.2.2) : ResT) else (zi7 t (zi3 t a.name) v5.1).bind fun v6 => (zi9 a.name v5.2.1).bind fun v7 => some ((v6, v7, 0) : ResT)) =
     if zar1 t p = true then some (errT 4) else gd (0 ≤ zi3 t a.name ∧ zi3 t a.name < (t.length : Int)) <| (zs3 (t.getD (zi3 t a.name).toNat Queue.zero) p a.amount pr).bind fun v5 => if (!decide (v5.2.2 = 0)) = true then some (([], [], v5.2.2) : ResT) else (zi7 t (zi3 t a.name) v5.1).bind fun v6 => (zi9 a.name v5.2.1).bind fun v7 => some ((v6, v7, 0) : ResT) := by
    rw [hfu]
    by_cases h8 : 8 ≤ (zr4 t).length
    ·simp only [h8, decide_true, if_true, Option.bind_some, Bool.true_and]; rfl
    ·simp only [h8, decide_false, Bool.false_eq_true, if_false, Option.bind_some, Bool.false_and]
   refine Eq.trans hb2 ?_
   cases hfu2 : zar1 t p with
   | true => rfl
   | false =>
    rw [ifFT, zb2 (by omega), zbb4, Option.bind_some]
    unfold putT
    simp only [Bool.false_eq_true, if_false]
    by_cases e : (zC3 (t.getD (zi3 t a.name).toNat Queue.zero) p a.amount pr).2.2 = 0
    ·rw [if_neg (nd0 e), if_pos e, zX9 _ _ _ (by omega) (by omega) (by omega), Option.bind_some, zaj9 _ _ (by have := hsh.2.2.2; omega)]; rfl
    ·rw [if_pos (nd1 e), if_neg e]; rfl
theorem zaR6 (t : List Queue) (p : Proc) (nm : ByteArray) : zx2 t p nm = some (zap3 t p nm) := by
 unfold zx2 zap3 atT
 rw [zag4, Option.bind_some]
 cases hv : zP6 t with
 | false => rfl
 | true =>
  have h := (zM7 t).1 hv
  have hl := h.len
  rw [ifNT, ifTF, zY8 _ _ (by omega), Option.bind_some]
  by_cases hf : zi3 t nm < 0
  ·rw [if_pos (decide_eq_true hf), if_pos hf]; rfl
  ·have hr := zag5 hf
   have hsh := zbf7 (t.getD (zi3 t nm).toNat Queue.zero) p
   rw [if_neg (by rw [decide_eq_true_eq]; exact hf), if_neg hf, zb2 (by omega), zaR4, Option.bind_some]
   unfold putT
   dsimp only
   by_cases e : (zE2 (t.getD (zi3 t nm).toNat Queue.zero) p).2.2 = 0
   ·rw [if_neg (nd0 e), if_pos e, zX9 _ _ _ (by omega) (by omega) (by omega), Option.bind_some, zaj9 _ _ (by have := hsh.2.2.2; omega)]; rfl
   ·rw [if_pos (nd1 e), if_neg e]; rfl
theorem zbd0 (t : List Queue) (p : Proc) (a : Atom) : zA7 t p a = some (zaE1 t p a) := by
 unfold zA7 zaE1 atT
 rw [zag4, Option.bind_some]
 cases hv : zP6 t with
 | false => rfl
 | true =>
  have h := (zM7 t).1 hv
  have hl := h.len
  rw [ifNT, ifTF, zY8 _ _ (by omega), Option.bind_some]
  by_cases hf : zi3 t a.name < 0
  ·rw [if_pos (decide_eq_true hf), if_pos hf]; rfl
  ·have hr := zag5 hf
   have hs := zaH6 h hf
   have hql := zA0 hs
   have hsh := zbo8 (t.getD (zi3 t a.name).toNat Queue.zero) p a.amount
   rw [if_neg (by rw [decide_eq_true_eq]; exact hf), if_neg hf, zb2 (by omega), zY5 _ _ (by omega), Option.bind_some, zb2 (by omega), zbb5, Option.bind_some]
   unfold putT
   have k1 : ∀ ev : List Event, ev.length ≤ 1 → (zC4 (t.getD (zi3 t a.name).toNat Queue.zero) p a.amount).2.2 = 0 → zB1 t a (zi3 t a.name) (zC4 (t.getD (zi3 t a.name).toNat Queue.zero) p a.amount) ev = some (zaw5 t (zi3 t a.name) (zC4 (t.getD (zi3 t a.name).toNat Queue.zero) p a.amount).1, ev ++ zK6 a.name (zC4 (t.getD (zi3 t a.name).toNat Queue.zero) p a.amount).2.1, 0) := fun ev hev e => by
    unfold zB1
    have hg : (zK6 a.name (zC4 (t.getD (zi3 t a.name).toNat Queue.zero) p a.amount).2.1).length ≤ 16 := by unfold zK6; rw [List.length_map]; exact hsh.2.2.2
    rw [zX9 _ _ _ (by omega) (by omega) (by omega), Option.bind_some, zaj9 _ _ (by have := hsh.2.2.2; omega), Option.bind_some, zb2 (by omega)]
   dsimp only
   by_cases e : (zC4 (t.getD (zi3 t a.name).toNat Queue.zero) p a.amount).2.2 = 0
   ·rw [if_neg (nd0 e), if_pos e]
    by_cases e2 : getH (t.getD (zi3 t a.name).toNat Queue.zero).holds p = a.amount
    ·rw [if_neg (nd0 e2), if_pos e2, k1 [] (by simp) e]
    ·rw [if_pos (nd1 e2), if_neg e2, zb2 (by decide), k1 _ (by simp) e]; rfl
   ·rw [if_pos (nd1 e), if_neg e]; rfl
end Ab
end Go.Proofs.YtfjeceicgfdmjaaGreatDoor
namespace Go.Proofs.YtfjeceicgfdmjaaGreatDoor
namespace Ab
set_option linter.unusedVariables false
set_option linter.unusedSimpArgs false
def ascR : List Resource → Option ByteArray → Bool
 | [], _ => true
 | r :: l, pv => resV r && ((match pv with | none => true | some n => decide (ltN n r.name)) && ascR l (some r.name))
theorem zbx6 : ∀ (l : List Resource) (pv : Option ByteArray), ascR l pv = true ↔ (∀ r ∈ l, resV r = true) ∧ l.Pairwise (fun a b => ltN a.name b.name) ∧ ∀ n, pv = some n → ∀ r ∈ l, ltN n r.name
 | [], pv => by
  simp only [ascR, List.not_mem_nil, false_implies, implies_true, and_true, true_and, true_iff]
  exact .nil
 | q :: t, pv => by
  simp only [ascR, Bool.and_eq_true]
  rw [zbx6 t (some q.name)]
  constructor
  ·rintro ⟨h1, h2, h3, h4, h5⟩
   refine ⟨fun x hx => ?_, List.pairwise_cons.2 ⟨fun x hx => h5 _ rfl x hx, h4⟩, fun n hn x hx => ?_⟩
   ·rcases List.mem_cons.1 hx with rfl | hx
    ·exact h1
    ·exact h3 x hx
   ·subst hn
    simp only [decide_eq_true_eq] at h2
    rcases List.mem_cons.1 hx with rfl | hx
    ·exact h2
    ·exact zbj7 h2 (h5 _ rfl x hx)
  ·rintro ⟨h1, h2, h3⟩
   have h2' := List.pairwise_cons.1 h2
   refine ⟨h1 q (.head _), ?_, fun x hx => h1 x (.tail _ hx), h2'.2, fun n hn x hx => by cases hn; exact h2'.1 x hx⟩
   cases pv with
   | none => rfl
   | some n => exact decide_eq_true (h3 n rfl q (.head _))
def catV (l : List Resource) : Bool := decide (l.length ≤ 8) && ascR l none
theorem zaH7 (l : List Resource) : catV l = true ↔ l.length ≤ 8 ∧ (∀ r ∈ l, resV r = true) ∧ l.Pairwise (fun a b => ltN a.name b.name) := by
 unfold catV
 rw [Bool.and_eq_true, decide_eq_true_eq, zbx6]
 simp
theorem zbK4 (t0 : List Resource) : ∀ (t prev : List Resource), t0 = prev ++ t →
  walk (fun i q (_ : Unit) => some (if resV q = true ∧ (i = 0 ∨ ltN (t0.getD (i - 1) Resource.zero).name q.name) then Sum.inl () else Sum.inr (Sum.inr (α := Unit) false))) (fun _ => Sum.inl (β := Bool) ()) t prev.length () =
   some (if ascR t (prev.getLast?.map (·.name)) = true then .inl () else .inr false) := by
 intro t
 induction t with
 | nil => intro prev _; simp [walk, ascR]
 | cons q t ih =>
  intro prev ht
  simp only [walk]
  have hq : (prev.length = 0 ∨ ltN (t0.getD (prev.length - 1) Resource.zero).name q.name) ↔ (match prev.getLast?.map (·.name) with | none => true | some n => decide (ltN n q.name)) = true := by
   by_cases hp : prev = []
   ·subst hp; simp
   ·have h1 := zbj8 prev (q :: t) Resource.zero hp
    rw [ht, h1, List.getLast?_eq_some_getLast hp]
    have : prev.length ≠ 0 := fun e => hp (List.eq_nil_of_length_eq_zero e)
    simp [this]
  by_cases e : resV q = true ∧ (prev.length = 0 ∨ ltN (t0.getD (prev.length - 1) Resource.zero).name q.name)
  ·rw [if_pos e]
   have := ih (prev ++ [q]) (by rw [ht]; simp)
   rw [show (prev ++ [q]).length = prev.length + 1 by simp] at this
   simp only
   have h2 : ascR (q :: t) (prev.getLast?.map (·.name)) = ascR t (some q.name) := by simp only [ascR, e.1, hq.1 e.2, Bool.true_and]
   rw [this, h2]
   simp
  ·rw [if_neg e]
   rw [hq] at e
   have hf : ascR (q :: t) (prev.getLast?.map (·.name)) = false := by
    rw [Bool.eq_false_iff]
    intro hh
    simp only [ascR, Bool.and_eq_true] at hh
    exact e ⟨hh.1, hh.2.1⟩
   rw [hf]; rfl
theorem zbx7 {body : Int → Option (Int ⊕ (Unit ⊕ Bool))} (t : List Resource) (hl : t.length ≤ 8)
  (hb : ∀ i : Nat, i < t.length → body (i : Int) = some (if resV (t.getD i Resource.zero) = true ∧ (i = 0 ∨ ltN (t.getD (i - 1) Resource.zero).name (t.getD i Resource.zero).name) then .inl ((i + 1 : Nat) : Int) else .inr (.inr false)))
  (he : body (t.length : Int) = some (.inr (.inl ()))) : zb8 body 0 = some (if ascR t none = true then .inl () else .inr false) := by
 have key := zao4 (body := body) t Resource.zero (fun i (_ : Unit) => (i : Int)) (fun i q _ => some (if resV q = true ∧ (i = 0 ∨ ltN (t.getD (i - 1) Resource.zero).name q.name) then Sum.inl () else Sum.inr (Sum.inr (α := Unit) false))) (fun _ => Sum.inl (β := Bool) ())
  (fun i s hi => by
   rw [hb i hi, Option.map_some]
   split <;> rfl) (fun s => he) ()
 have := zbK4 t t [] rfl
 rw [show (0 : Int) = (fun (i : Nat) (_ : Unit) => (i : Int)) 0 () from rfl, key]
 exact this
theorem zaM9 (t : List Resource) : zj8 t = some (catV t) := by
 unfold zj8 catV
 by_cases h8 : 8 < t.length
 ·have : ¬ t.length ≤ 8 := by omega
  rw [if_pos (by simp; omega)]
  simp [this]
 ·have hl : t.length ≤ 8 := by omega
  rw [if_neg (by simp; omega), zbx7 t hl (fun i hi => by
   unfold zG8
   have h3 : 0 ≤ (i : Int) ∧ (i : Int) < (t.length : Int) := by omega
   simp only [h3.1, h3.2, and_self, implies_true, zj7, decide_true, if_true, Int.toNat_natCast, zaf2, Option.bind_some, zd5 i (by omega)]
   by_cases e0 : i = 0
   ·subst e0
    rw [zb2 (by simp)]
    cases resV (t.getD 0 Resource.zero) <;> simp
   ·rw [zac0 i (by omega) (by omega), zb2 (by intro _; omega)]
    simp only [Int.toNat_natCast, show (0 : Int) < (i : Int) by omega, decide_true, Bool.true_and, e0, false_or]
    unfold ltN
    rcases hb (resV (t.getD i Resource.zero)) with b1 | b1 <;> rcases hb (Op.bytesLess (t.getD (i - 1) Resource.zero).name.toList (t.getD i Resource.zero).name.toList) with b2 | b2 <;> simp [b1, b2, -List.getD_eq_getElem?_getD]) (by unfold zG8; simp)]
  simp only [hl, decide_true, Bool.true_and]
  cases hw : ascR t none <;> rfl
theorem zbd1 (t : List Resource) : zo4 t = some (catV t) := by
 unfold zo4 catV
 by_cases h8 : 8 < t.length
 ·have : ¬ t.length ≤ 8 := by omega
  rw [if_pos (by simp; omega)]
  simp [this]
 ·have hl : t.length ≤ 8 := by omega
  rw [if_neg (by simp; omega), zbx7 t hl (fun i hi => by
   unfold zM9
   have h3 : 0 ≤ (i : Int) ∧ (i : Int) < (t.length : Int) := by omega
   simp only [h3.1, h3.2, and_self, implies_true, zj7, decide_true, if_true, Int.toNat_natCast, zaG3, Option.bind_some, zd5 i (by omega)]
   by_cases e0 : i = 0
   ·subst e0
    rw [zb2 (by simp)]
    cases resV (t.getD 0 Resource.zero) <;> simp
   ·rw [zac0 i (by omega) (by omega), zb2 (by intro _; omega)]
    simp only [Int.toNat_natCast, show (0 : Int) < (i : Int) by omega, decide_true, Bool.true_and, e0, false_or]
    unfold ltN
    rcases hb (resV (t.getD i Resource.zero)) with b1 | b1 <;> rcases hb (Op.bytesLess (t.getD (i - 1) Resource.zero).name.toList (t.getD i Resource.zero).name.toList) with b2 | b2 <;> simp [b1, b2, -List.getD_eq_getElem?_getD]) (by unfold zM9; simp)]
  simp only [hl, decide_true, Bool.true_and]
  cases hw : ascR t none <;> rfl
def newT (l : List Resource) : List Queue × Int := if catV l = true then (l.map zJ6, 0) else ([], 1)
theorem zbp4 (l : List Resource) : zw2 l = some (newT l) := by
 unfold zw2 newT
 rw [zbd1, Option.bind_some]
 cases h : catV l with
 | false => rfl
 | true =>
  have hl := ((zaH7 l).1 h).1
  rw [ifNT, zag3 l Resource.zero zJ6 [] (by omega) (by simp) (fun i s hi hs => by
   unfold zS9
   have h3 : 0 ≤ (i : Int) ∧ (i : Int) < (l.length : Int) := by omega
   have h1 : s.length + 1 ≤ 4294967296 := by omega
   simp only [h1, h3.1, h3.2, and_self, zj7, decide_true, if_true, Int.toNat_natCast, zd5 i (show i < 4611686018427387904 by omega)]
   rfl) (fun s => by unfold zS9; simp)]
  rfl
theorem zbp5 (l : List Resource) : zw1 l = some (newT l) := by
 unfold zw1 newT
 rw [zaM9, Option.bind_some]
 cases h : catV l with
 | false => rfl
 | true =>
  obtain ⟨hl, hv, _⟩ := (zaH7 l).1 h
  have key := zr0 (body := zL0 l) l Resource.zero (fun i (s : List Queue) => ((i : Int), s)) (fun _ r s => some (.inl (s ++ [zJ6 r]))) (fun s => .inl s) (fun i s => s.length = i)
   (fun i s hi hs => by
    refine ⟨?_, fun s' h => by simp only [Option.some.injEq, Sum.inl.injEq] at h; subst h; simp [hs]⟩
    unfold zL0
    have h3 : 0 ≤ (i : Int) ∧ (i : Int) < (l.length : Int) := by omega
    have h1 : s.length + 1 ≤ 4294967296 := by omega
    have hr : newQ (l.getD i Resource.zero) = (zJ6 (l.getD i Resource.zero), 0) := by unfold newQ; rw [if_pos (hv _ (zr1 hi))]; rfl
    simp only [h1, h3.1, h3.2, and_self, zj7, decide_true, if_true, Int.toNat_natCast, zd5 i (show i < 4611686018427387904 by omega), zbn7, hr, Option.bind_some, Bool.not_true, Bool.false_eq_true, if_false]
    rfl)
   (fun s hs => by unfold zL0; simp) [] rfl
  have fold : ∀ (l : List Resource) (i : Nat) (s : List Queue), walk (fun (_ : Nat) r (s : List Queue) => some (Sum.inl (β := List Queue ⊕ List Queue × Int) (s ++ [zJ6 r]))) (fun s => Sum.inl s) l i s = some (.inl (s ++ l.map zJ6)) := by
   intro l
   induction l with
   | nil => intro i s; simp [walk]
   | cons r l ih => intro i s; simp only [walk, List.map_cons]; rw [ih (i + 1), List.append_assoc]; rfl
  rw [ifNT, show ((0, []) : Int × List Queue) = (fun (i : Nat) (s : List Queue) => ((i : Int), s)) 0 [] from rfl, key, fold]
  rfl
def zbx8 (p : Proc) (q : Queue) : List Atom := if getH q.holds p = Amount.zero then [] else [⟨q.resource.name, getH q.holds p⟩]
theorem zbx9 (t : List Queue) (p : Proc) (hl : t.length ≤ 1000) (hs : Lens t) : zn5 t p = some (t.flatMap (zbx8 p)) := by
 unfold zn5
 have key := zr0 (body := zy8 t p) t Queue.zero (fun i (s : List Atom) => ((i : Int), s)) (fun _ q s => some (.inl (s ++ zbx8 p q))) (fun s => s) (fun i s => s.length ≤ i)
  (fun i s hi hs' => by
   have hq := hs _ (zr1 (z := Queue.zero) hi)
   have h3 : 0 ≤ (i : Int) ∧ (i : Int) < (t.length : Int) := by omega
   have h1 : s.length + 1 ≤ 4294967296 := by omega
   refine ⟨?_, fun s' h => ?_⟩
   ·unfold zy8 zbx8
    simp only [h1, h3.1, h3.2, and_self, zj7, decide_true, if_true, Int.toNat_natCast, zd5 i (show i < 4611686018427387904 by omega)]
    rw [zJ2 _ _ (by omega), Option.bind_some]
    by_cases e : getH (t.getD i Queue.zero).holds p = Amount.zero
    ·rw [if_neg (nd0 e), if_pos e, List.append_nil]; rfl
    ·rw [if_pos (nd1 e), if_neg e]; rfl
   ·simp only [Option.some.injEq, Sum.inl.injEq] at h; subst h
    unfold zbx8
    split
    ·simp; omega
    ·simp; omega)
  (fun s hs => by unfold zy8; simp) [] (by simp)
 rw [show ((0, []) : Int × List Atom) = (fun (i : Nat) (s : List Atom) => ((i : Int), s)) 0 [] from rfl, key, zaH5 (zbx8 p)]
 rfl
def tR : Resource := ⟨⟨#[97]⟩, 1, 1, 0⟩
def tP0 : Proc := ⟨0, 1, 1⟩
def aT0 : List Queue := [⟨tR, [], [], [], 0⟩]
def aT1 : List Queue := [⟨tR, [⟨tP0, ⟨5, 0⟩⟩], [], [], 1⟩]
theorem zbF7 : zr9 = some true := by
 unfold zr9
 have p0 : zbw8 0 = tP0 := by decide
 have e1 : newT [{ Resource.zero with name := (⟨#[97]⟩ : ByteArray), kind := 1, units := 1 }] = (aT0, 0) := by decide +kernel
 have e2 : zak0 aT0 tP0 (⟨(⟨#[97]⟩ : ByteArray), { Amount.zero with mode := 5 }⟩ : Atom) 0 = (aT1, [⟨1, tP0, ⟨#[97]⟩, ⟨5, 0⟩⟩], 0) := by decide +kernel
 simp only [zap2, Option.bind_some, p0, zbp5, e1, zbc8, e2]
 rw [zbx9 aT1 _ (by decide) (by intro q hq; rw [List.mem_singleton.1 hq]; exact ⟨by decide, by decide, by decide⟩), Option.bind_some, zaB5 aT1 _ (by decide), zag1]
 decide +kernel
structure Small (t : List Queue) : Prop where
 len : t.length ≤ 20
 lens : Lens t
end Ab
end Go.Proofs.YtfjeceicgfdmjaaGreatDoor
namespace Go.Proofs.YtfjeceicgfdmjaaGreatDoor
namespace Ab
set_option linter.unusedVariables false
set_option linter.unusedSimpArgs false
theorem zaB6 {α : Type} (l : List α) (i : Nat) (z : α) (h : i < l.length) : l.set i (l.getD i z) = l := by
 rw [List.getD_eq_getElem?_getD, List.getElem?_eq_getElem h, Option.getD_some, List.set_getElem_self]
theorem zce5 {body : Int × List Queue × List Event → Option ((Int × List Queue × List Event) ⊕ (List Queue × List Event))} (t : List Queue) (f : Queue → Queue) (e : Queue → List Event) (hl : t.length ≤ 1000) (he : ∀ q ∈ t, (e q).length ≤ 100)
  (hb : ∀ (i : Nat) (s : List Queue) (ev : List Event), i < t.length → s.length = t.length → s.getD i Queue.zero = t.getD i Queue.zero → ev.length ≤ 100000 → body ((i : Int), s, ev) = some (.inl (((i + 1 : Nat) : Int), s.set i (f (t.getD i Queue.zero)), ev ++ e (t.getD i Queue.zero))))
  (hend : ∀ (s : List Queue) (ev : List Event), s.length = t.length → body ((t.length : Int), s, ev) = some (.inr (s, ev))) : zb8 body (0, t, []) = some (t.map f, t.flatMap e) := by
 have hev : ∀ i, i ≤ t.length → ((t.take i).flatMap e).length ≤ 100 * i := by
  intro i
  induction i with
  | zero => intro _; simp
  | succ i ih =>
   intro hi
   rw [zX8 (z := Queue.zero) (by omega), List.flatMap_append, List.length_append]
   have := ih (by omega)
   have h2 := he _ (zr1 (z := Queue.zero) (show i < t.length by omega))
   simp only [List.flatMap_cons, List.flatMap_nil, List.append_nil]
   omega
 obtain ⟨x, hx, hp⟩ := zQ1 (body := body) (fun g => ∃ i : Nat, i ≤ t.length ∧ g = ((i : Int), (t.take i).map f ++ t.drop i, (t.take i).flatMap e)) (fun g => t.length - g.1.toNat) (fun x => x = (t.map f, t.flatMap e)) (by
  rintro g ⟨i, hi, rfl⟩
  have hsl : ((t.take i).map f ++ t.drop i).length = t.length := by rw [List.length_append, List.length_map, List.length_take, List.length_drop]; omega
  by_cases hlt : i < t.length
  ·left
   have hml : ((t.take i).map f).length = i := by rw [List.length_map, List.length_take]; omega
   have hd : t.drop i = t.getD i Queue.zero :: t.drop (i + 1) := by rw [List.drop_eq_getElem_cons hlt, List.getD_eq_getElem?_getD, List.getElem?_eq_getElem hlt]; rfl
   have hg : ((t.take i).map f ++ t.drop i).getD i Queue.zero = t.getD i Queue.zero := by
    rw [List.getD_eq_getElem?_getD, List.getElem?_append_right (by omega), hml, Nat.sub_self, hd]; rfl
   refine ⟨_, hb i _ _ hlt hsl hg (by have := hev i hi; omega), ⟨i + 1, by omega, ?_⟩, by simp only [Int.toNat_natCast]; omega⟩
   rw [zX8 (z := Queue.zero) hlt, List.map_append, List.flatMap_append]
   congr 2
   ·rw [List.set_append_right _ _ (by omega), hml, Nat.sub_self, hd]
    simp
   ·simp
  ·right
   have : i = t.length := by omega
   subst this
   refine ⟨_, hend _ _ hsl, ?_⟩
   simp) (0, t, []) ⟨0, by omega, by simp⟩
 rw [hx, hp]
def remE (p : Proc) (q : Queue) : List Event := if (zt5 q p).2.2 = 0 then (if getH q.holds p = Amount.zero then [] else [zce4 p q.resource.name Amount.zero]) ++ zK6 q.resource.name (zt5 q p).2.1 else []
def remT (t : List Queue) (p : Proc) : List Queue × List Event := if zP6 t = true then (t.map (remN · p), t.flatMap (remE p)) else ([], [])
theorem zby0 (nm : ByteArray) (l : List Hold) : (zK6 nm l).length = l.length := by unfold zK6; rw [List.length_map]
theorem zby1 (p : Proc) (q : Queue) : (remE p q).length ≤ 17 := by
 unfold remE
 have := (zaB4 q p).2.2.2
 split
 ·rw [List.length_append, zby0]
  split <;> simp <;> omega
 ·simp
theorem zce6 {q : Queue} (h : zb9 q = true) (p : Proc) : (remN q p).resource = q.resource :=
 (zbw1 h (p := p) (x := { p with num := p.num + 1 }) fun e => by
  have h1 : p.num + 1 = p.num := congrArg Proc.num e
  omega).2
theorem zaR7 (t : List Queue) (p : Proc) : zx3 t p = some (remT t p) := by
 unfold zx3 remT
 rw [zag1, Option.bind_some]
 cases hv : zP6 t with
 | false => rfl
 | true =>
  have h := (zM7 t).1 hv
  have hl := h.len
  rw [ifNT, if_pos rfl, zaE0 _ _ _ (by omega) h.lens (by omega), Option.bind_some]
  unfold zaw5
  rw [if_neg (by decide), zce5 t (remN · p) (remE p) (by omega) (fun q _ => by have := zby1 p q; omega) (fun i s ev hi hs hg hev => by
   have hq := h.each _ (zr1 (z := Queue.zero) hi)
   have hql := zA0 hq
   have hsh := (zaB4 (t.getD i Queue.zero) p).2.2.2
   have h3 : 0 ≤ (i : Int) ∧ (i : Int) < (t.length : Int) := by omega
   have h4 : 0 ≤ (i : Int) ∧ (i : Int) < ((s.length : Nat) : Int) := by omega
   unfold zK4
   simp only [Int.toNat_natCast]
   rw [if_pos (decide_eq_true h3.2), zb2 h3, zaR5, Option.bind_some]
   unfold remE remN
   by_cases e : (zt5 (t.getD i Queue.zero) p).2.2 = 0
   ·rw [if_neg (nd0 e), if_pos e, if_pos e, zJ2 _ _ (by omega), Option.bind_some]
    by_cases e2 : getH (t.getD i Queue.zero).holds p = Amount.zero
    ·rw [if_neg (nd0 e2), if_pos e2]
     unfold zy0
     simp only [Int.toNat_natCast]
     rw [zbx4 _ _ _ (by omega) (by omega), Option.bind_some, zb2 h4, zd5 i (by omega), List.nil_append]
    ·rw [if_pos (nd1 e2), if_neg e2, zb2 (by omega)]
     unfold zy0
     simp only [Int.toNat_natCast]
     rw [zbx4 _ _ _ (by omega) (by simp; omega), Option.bind_some, zb2 h4, zd5 i (by omega), List.append_assoc]
     rfl
   ·rw [if_pos (nd1 e), if_neg e, if_neg e, zd5 i (by omega), List.append_nil, ← hg, zaB6 _ _ _ (by omega)]) (fun s ev hs => by
   unfold zK4
   rw [if_neg (by simp)])]
  rfl
theorem zY0 {t : List Queue} (h : ∀ q ∈ t, zb9 q = true) {p : Proc} : p ∈ zr4 t ↔ ∃ q ∈ t, hasQ q p = true := by
 unfold zr4
 rw [zay2, List.mem_flatMap]
 constructor
 ·rintro ⟨q, hq, hp⟩; exact ⟨q, hq, (zaD8 ((zg3 q).1 (h q hq)).1).1 hp⟩
 ·rintro ⟨q, hq, hp⟩; exact ⟨q, hq, (zaD8 ((zg3 q).1 (h q hq)).1).2 hp⟩
theorem zap4 (t : List Queue) : (zr4 t).Nodup := zaM4 (zaM3 _)
theorem ValidT.map {t : List Queue} (h : ValidT t) (f : Queue → Queue) (h1 : ∀ q ∈ t, zb9 (f q) = true) (h2 : ∀ q ∈ t, (f q).resource = q.resource) (h3 : ∀ q ∈ t, ∀ p, hasQ (f q) p = true → hasQ q p = true) : ValidT (t.map f) := by
 have he : ∀ q ∈ t.map f, zb9 q = true := fun q hq => by
  obtain ⟨x, hx, rfl⟩ := List.mem_map.1 hq
  exact h1 x hx
 refine ⟨by rw [List.length_map]; exact h.len, he, ?_, ?_⟩
 ·have := h.asc
  unfold AscN at *
  rw [List.pairwise_map]
  exact this.imp_of_mem fun {a b} ha hb hab => by rw [h2 a ha, h2 b hb]; exact hab
 ·refine Nat.le_trans (List.Nodup.length_le_of_subset (zap4 _) fun x hx => ?_) h.procs
  obtain ⟨q, hq, hp⟩ := (zY0 he).1 hx
  obtain ⟨y, hy, rfl⟩ := List.mem_map.1 hq
  exact (zY0 h.each).2 ⟨y, hy, h3 y hy x hp⟩
theorem zbp6 {t : List Queue} (h : ValidT t) (p : Proc) : remT t p = (t.map (remN · p), t.flatMap (remE p)) := by
 unfold remT; rw [if_pos ((zM7 t).2 h)]
theorem zbC3 {t : List Queue} (h : ValidT t) (p : Proc) : ValidT (remT t p).1 := by
 rw [zbp6 h]
 exact h.map _ (fun q hq => zab7 (h.each q hq) p) (fun q hq => zce6 (h.each q hq) p) fun q hq x hx => ((zbw2 (h.each q hq) p x).1 hx).1
theorem zcl1 {t : List Queue} (h : ValidT t) (p : Proc) : (remT t p).2.length ≤ 136 := by
 rw [zbp6 h]
 have : ∀ l : List Queue, (l.flatMap (remE p)).length ≤ 17 * l.length := by
  intro l
  induction l with
  | nil => simp
  | cons q l ih => rw [List.flatMap_cons, List.length_append, List.length_cons]; have := zby1 p q; omega
 have h1 := this t
 have h2 := h.len
 show (t.flatMap (remE p)).length ≤ 136
 omega
end Ab
end Go.Proofs.YtfjeceicgfdmjaaGreatDoor
