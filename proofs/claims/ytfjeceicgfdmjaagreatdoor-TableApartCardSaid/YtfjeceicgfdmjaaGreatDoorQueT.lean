/-
  The queue's functions, both sides: each is its plain description.
-/
import Derived.Test.YtfjeceicgfdmjaaGreatDoorProcs
import Derived.Test.YtfjeceicgfdmjaaGreatDoorQueH
namespace Go.Proofs.YtfjeceicgfdmjaaGreatDoor
namespace Ab
set_option linter.unusedVariables false
set_option linter.unusedSimpArgs false
theorem ifNT {α : Type} (x y : α) : (if (!true) = true then x else y) = y := rfl
theorem ifTF {α : Type} (x y : α) : (if true = false then x else y) = y := rfl
theorem ifFT {α : Type} (x y : α) : (if false = true then x else y) = y := rfl
theorem zby2 (l : List Proc) (hl : l.length ≤ 4294967296) : zb7 l = some (l.mergeSort fun x y => !decide (ltP y x)) := by
 unfold zb7
 rw [zb2 hl]
 congr 2
theorem zcd4 {l : List Proc} {i : Nat} (h : i + 1 < l.length) : l.take (i + 2) = l.take i ++ [l.getD i Proc.zero, l.getD (i + 1) Proc.zero] := by
 rw [List.take_succ_eq_append_getElem (by omega), List.take_succ_eq_append_getElem (by omega), List.append_assoc]
 congr 1
 rw [List.getD_eq_getElem?_getD, List.getElem?_eq_getElem (by omega), List.getD_eq_getElem?_getD, List.getElem?_eq_getElem h]
 rfl
theorem zbe0 {l : List Proc} {i : Nat} (h : i < l.length) : l.take (i + 1) = l.take i ++ [l.getD i Proc.zero] := by
 rw [List.take_succ_eq_append_getElem h]
 congr 1
 rw [List.getD_eq_getElem?_getD, List.getElem?_eq_getElem h]
 rfl
theorem zbe1 {l : List Proc} {i : Nat} (h : i + 1 < l.length) : dst (l.take (i + 2)) = if l.getD i Proc.zero = l.getD (i + 1) Proc.zero then dst (l.take (i + 1)) else dst (l.take (i + 1)) ++ [l.getD (i + 1) Proc.zero] := by
 rw [zcd4 h, zby1, ← zbe0 (by omega)]
theorem zaI8 {l m : List Proc} {i j : Nat} (h : l.drop i = m.drop i) (hij : i ≤ j) : l.getD j Proc.zero = m.getD j Proc.zero := by
 have e : ∀ x : List Proc, x.getD j Proc.zero = (x.drop i).getD (j - i) Proc.zero := fun x => by
  rw [List.getD_eq_getElem?_getD, List.getD_eq_getElem?_getD, List.getElem?_drop, show i + (j - i) = j by omega]
 rw [e l, e m, h]
theorem zbi6 (a : List Proc) (g : Nat) (hg : 1 ≤ g) (hgl : g < a.length) (hl : a.length ≤ 1000000) (he : a.getD g Proc.zero = a.getD (g - 1) Proc.zero) (hd : dst (a.take g) = a.take g) :
  ∃ x, zb9 (zh8 a g) ((g : Int), 1, a) = some x ∧ ∃ k : Nat, x.1 = (k : Int) ∧ x.2.length = a.length ∧ k ≤ a.length ∧ x.2.take k = dst a := by
 refine zag5 (fun s => ∃ k k2 : Nat, s.1 = (k : Int) ∧ s.2.1 = (k2 : Int) ∧ s.2.2.length = a.length ∧ 1 ≤ k2 ∧ g + k2 ≤ a.length ∧ k + 1 ≤ g + k2 ∧ s.2.2.take k = dst (a.take (g + k2)) ∧ s.2.2.drop (g + k2 - 1) = a.drop (g + k2 - 1)) (fun s => (a.length - s.2.1.toNat)) _ ?_ _ ?_
 ·rintro ⟨k, k2, s⟩ ⟨kn, k2n, h1, h2, h3, h4, h5, h6, h7, h8⟩
  simp only at h1 h2 h3 h7 h8
  subst h1; subst h2
  unfold zh8
  by_cases hlt : g + k2n < a.length
  ·left
   have w : IntKind.i64.wrap ((k2n : Int) - 1) = ((k2n - 1 : Nat) : Int) := by rw [ze2 (by omega) (by omega)]; omega
   have w2 : IntKind.i64.wrap ((k2n : Int) + 1) = ((k2n + 1 : Nat) : Int) := by rw [ze2 (by omega) (by omega)]; omega
   have w3 : IntKind.i64.wrap ((kn : Int) + 1) = ((kn + 1 : Nat) : Int) := by rw [ze2 (by omega) (by omega)]; omega
   have r1 : s.getD (g + k2n) Proc.zero = a.getD (g + k2n) Proc.zero := zaI8 h8 (by omega)
   have r2 : s.getD (g + (k2n - 1)) Proc.zero = a.getD (g + (k2n - 1)) Proc.zero := zaI8 h8 (by omega)
   have hdt := zbe1 (l := a) (i := g + (k2n - 1)) (by omega)
   rw [show g + (k2n - 1) + 2 = g + (k2n + 1) by omega, show g + (k2n - 1) + 1 = g + k2n by omega] at hdt
   simp only [Int.toNat_natCast, w, w2, w3]
   rw [if_pos (by simp; omega), zb2 (by omega), zb2 (by omega), r1, r2]
   by_cases hne : a.getD (g + k2n) Proc.zero = a.getD (g + (k2n - 1)) Proc.zero
   ·refine ⟨((kn : Int), ((k2n + 1 : Nat) : Int), s), by rw [if_neg (by simp only [hne, decide_true, Bool.not_true, Bool.false_eq_true, not_false_eq_true])], ⟨kn, k2n + 1, rfl, rfl, h3, by omega, by omega, by omega, ?_, ?_⟩, by simp only [Int.toNat_natCast]; omega⟩
    ·simp only
     rw [h7, hdt, if_pos hne.symm]
    ·simp only
     rw [show g + (k2n + 1) - 1 = (g + k2n - 1) + 1 by omega, ← List.drop_drop, ← List.drop_drop, h8]
   ·rw [if_pos (by simpa using hne), zb2 (by omega), zb2 (by omega)]
    refine ⟨(((kn + 1 : Nat) : Int), ((k2n + 1 : Nat) : Int), s.set kn (a.getD (g + k2n) Proc.zero)), rfl, ⟨kn + 1, k2n + 1, rfl, rfl, by simp [h3], by omega, by omega, by omega, ?_, ?_⟩, by simp only [Int.toNat_natCast]; omega⟩
    ·simp only
     rw [hdt, if_neg (fun e => hne e.symm), ← h7, zbe0 (by rw [List.length_set]; omega), List.take_set_of_le (by omega), zak9 _ _ _ _ (by omega)]
    ·simp only
     rw [List.drop_set_of_lt (by omega), show g + (k2n + 1) - 1 = (g + k2n - 1) + 1 by omega, ← List.drop_drop, ← List.drop_drop, h8]
  ·right
   refine ⟨((kn : Int), s), by simp only [Int.toNat_natCast]; rw [if_neg (by simp; omega)], kn, rfl, h3, by omega, ?_⟩
   simp only
   rw [h7, List.take_of_length_le (by omega)]
 ·refine ⟨g, 1, rfl, rfl, rfl, by omega, by omega, by omega, ?_, rfl⟩
  simp only
  have hdt := zbe1 (l := a) (i := g - 1) (by omega)
  rw [show g - 1 + 2 = g + 1 by omega, show g - 1 + 1 = g by omega, if_pos he.symm, hd] at hdt
  exact hdt.symm
theorem zbC7 (a : List Proc) (hl : a.length ≤ 1000000) : ∃ r, zc0 a = some (dst a, r) := by
 unfold zc0
 by_cases h2 : a.length < 2
 ·rw [if_pos (by simp; omega)]
  refine ⟨a, ?_⟩
  have : dst a = a := by
   match a, h2 with
   | [], _ => rfl
   | [x], _ => rfl
   | x :: y :: t, h => simp at h; omega
  rw [this]
 ·rw [if_neg (by simp; omega)]
  obtain ⟨x, hx, hp⟩ := zag5 (body := zh9 a) (fun g => ∃ n : Nat, g = (n : Int) ∧ 1 ≤ n ∧ n ≤ a.length ∧ dst (a.take n) = a.take n) (fun g => a.length - g.toNat)
   (fun x => match x with | .inl _ => dst a = a | .inr z => z.1 = dst a) (by
    rintro g ⟨n, rfl, h1, h3, h4⟩
    unfold zh9
    by_cases hlt : n < a.length
    ·have w : IntKind.i64.wrap ((n : Int) - 1) = ((n - 1 : Nat) : Int) := by rw [ze2 (by omega) (by omega)]; omega
     have w2 : IntKind.i64.wrap ((n : Int) + 1) = ((n + 1 : Nat) : Int) := by rw [ze2 (by omega) (by omega)]; omega
     rw [if_pos (by simp; omega), zb2 (by omega), w, w2, zb2 (by omega)]
     simp only [Int.toNat_natCast]
     by_cases he : a.getD n Proc.zero = a.getD (n - 1) Proc.zero
     ·right
      obtain ⟨x, hx, k, hk1, hk2, hk3, hk4⟩ := zbi6 a n h1 hlt hl he h4
      rw [if_pos (decide_eq_true he), zb2 (by omega), hx]
      obtain ⟨x1, x2⟩ := x
      simp only at hk1 hk2 hk4
      subst hk1
      rw [Option.bind_some]
      unfold zh7
      simp only [Int.toNat_natCast]
      rw [zb2 (by omega), zb2 (by omega)]
      refine ⟨_, rfl, ?_⟩
      simp only
      rw [List.drop_zero, List.append_assoc, List.take_append_of_le_length (by simp; omega), List.take_take, Nat.min_self, hk4]
     ·left
      refine ⟨((n + 1 : Nat) : Int), by rw [if_neg (by simpa using he)], ⟨n + 1, rfl, by omega, by omega, ?_⟩, by simp only [Int.toNat_natCast]; omega⟩
      have hdt := zbe1 (l := a) (i := n - 1) (by omega)
      rw [show n - 1 + 2 = n + 1 by omega, show n - 1 + 1 = n by omega, if_neg (fun e => he e.symm), h4, ← zbe0 hlt] at hdt
      exact hdt
    ·right
     refine ⟨.inl (), by rw [if_neg (by simp; omega)], ?_⟩
     simp only
     rw [List.take_of_length_le (by omega)] at h4
     exact h4) 1 ⟨1, rfl, by omega, by omega, by
      match a, h2 with
      | x :: t, _ => simp [dst]⟩
  rw [hx]
  cases x with
  | inl u =>
   simp only at hp
   refine ⟨a, ?_⟩
   rw [hp]; rfl
  | inr z =>
   simp only at hp
   refine ⟨z.2, ?_⟩
   rw [← hp]; rfl
theorem zah8 (l : List Proc) (hl : l.length ≤ 1000000) : zh1 l = some (zaC7 l) := by
 unfold zh1
 rw [zb2 (by omega), zby2 l (by omega), Option.bind_some]
 obtain ⟨r, h⟩ := zbC7 (l.mergeSort fun x y => !decide (ltP y x)) (by rw [List.length_mergeSort]; exact hl)
 rw [h]
 simp only [Option.bind_some]
 rw [zbK3 (zbs1 l) fun x => List.mem_mergeSort]
theorem zcd5 (l : List Proc) (p : Proc) (hl : l.length ≤ 1000000) : zc1 l p = some (decide (p ∈ l)) := by
 unfold zc1 zc9
 have key : zb9 (zg3 l p) 0 = some ((zs1 (fun i => if p = l.getD i Proc.zero then some (Sum.inr (i : Int)) else none) l.length 0).getD (Sum.inl ())) := by
  refine zv1 l.length _ (Sum.inl ()) (fun i hi => ?_) ?_
  ·unfold zg3
   rw [if_pos (by simpa using hi), zb2 (by omega), ze2 (by omega) (by omega)]
   simp only [Int.toNat_natCast, decide_eq_true_eq]
   split <;> rfl
  ·unfold zg3
   rw [if_neg (by simp)]
 rw [key]
 have fr : ∀ k i, i + k = l.length → (p ∈ l.drop i → ∃ j : Nat, zs1 (fun i => if p = l.getD i Proc.zero then some (Sum.inr (α := Unit) (i : Int)) else none) k i = some (.inr (j : Int))) ∧ (p ∉ l.drop i → zs1 (fun i => if p = l.getD i Proc.zero then some (Sum.inr (α := Unit) (i : Int)) else none) k i = none) := by
  intro k
  induction k with
  | zero => intro i hi; rw [List.drop_eq_nil_of_le (by omega)]; simp [zs1]
  | succ k ih =>
   intro i hi
   obtain ⟨h1, h2⟩ := ih (i + 1) (by omega)
   rw [zY3 l i Proc.zero (by omega)]
   simp only [zs1]
   by_cases hp : p = l.getD i Proc.zero
   ·rw [← hp]
    simp only [if_true, List.mem_cons, true_or, forall_const, not_true, false_implies, and_true]
    exact ⟨i, rfl⟩
   ·simp only [hp, if_false, List.mem_cons, false_or]
    exact ⟨h1, h2⟩
 obtain ⟨h1, h2⟩ := fr l.length 0 (by omega)
 rw [List.drop_zero] at h1 h2
 by_cases hp : p ∈ l
 ·obtain ⟨j, hj⟩ := h1 hp
  rw [hj]
  simp only [Option.getD_some, Option.bind_some, hp, decide_true, Option.some.injEq, decide_eq_true_eq]
  omega
 ·rw [h2 hp]
  simp only [Option.getD_none, Option.bind_some, hp, decide_false]
  rfl
theorem zaO8 (l : List Proc) (p : Proc) (hl : l.length ≤ 1000000) : zj8 l p = some (decide (p ∈ l)) := by
 unfold zj8; rw [zcd5 l p hl]; rfl
theorem zao3 (l : List Proc) (p : Proc) (hl : l.length ≤ 1000000) : zl8 l p = some (decide (p ∈ l)) := by
 unfold zl8
 have key := zap9 (body := zC8 l p) l Proc.zero (fun i (_ : Unit) => (i : Int)) (fun _ x _ => some (if x = p then .inr (Sum.inr true) else .inl ())) (fun _ => Sum.inl (β := Bool) ())
  (fun i s hi => by
   unfold zC8
   have h3 : 0 ≤ (i : Int) ∧ (i : Int) < (l.length : Int) := by omega
   simp only [h3.1, h3.2, and_self, zl3, decide_true, if_true, Int.toNat_natCast, ze3 i (by omega), Option.map_some, decide_eq_true_eq]
   split <;> rfl)
  (fun s => by unfold zC8; simp) ()
 rw [show (0 : Int) = (fun (i : Nat) (_ : Unit) => (i : Int)) 0 () from rfl, key]
 have fold : ∀ (l : List Proc) (i : Nat), walk (fun _ x (_ : Unit) => some (if x = p then .inr (Sum.inr true) else .inl ())) (fun _ => Sum.inl (β := Bool) ()) l i () = some (if p ∈ l then .inr true else .inl ()) := by
  intro l
  induction l with
  | nil => intro i; simp [walk]
  | cons x t ih =>
   intro i
   simp only [walk]
   by_cases e : x = p
   ·subst e; simp
   ·simp only [e, if_false, List.mem_cons, fun h : p = x => e h.symm, false_or]
    rw [ih]
    have : ¬ p = x := fun h => e h.symm
    simp [this]
 rw [fold]
 by_cases hp : p ∈ l <;> simp [hp, zJ2]
theorem zbe2 (q : Queue) (h1 : q.converts.length ≤ 1000) (h2 : q.waits.length ≤ 1000) : zq2 q = some ((ordQ q).map (·.proc)) := by
 unfold zq2
 rw [zaw3 q (by omega) (by omega), Option.bind_some]
 have hl : (q.converts ++ q.waits).length ≤ 2000 := by rw [List.length_append]; omega
 show _ = some ((q.converts ++ q.waits).map (·.proc))
 generalize q.converts ++ q.waits = l at hl
 have key := zv4 (body := zH0 l) l Wait.zero (fun i (s : List Proc) => ((i : Int), s)) (fun i h s => some (.inl (zan0 s (some h.proc)))) (fun s => s) (fun i s => s.length ≤ i)
  (fun i s hi hs => by
   refine ⟨?_, fun s' h => ?_⟩
   ·unfold zH0
    have h1 : s.length + 1 ≤ 4294967296 := by omega
    have h3 : 0 ≤ (i : Int) ∧ (i : Int) < (l.length : Int) := by omega
    simp only [h1, h3.1, h3.2, and_self, zl3, decide_true, if_true, Int.toNat_natCast, ze3 i (by omega), Option.map_some, wmap, zan0]
   ·simp only [Option.some.injEq, Sum.inl.injEq] at h; subst h; simp [zan0]; omega)
  (fun s hs => by unfold zH0; simp) [] (by simp)
 rw [show ((0, []) : Int × List Proc) = (fun (i : Nat) (s : List Proc) => ((i : Int), s)) 0 [] from rfl, key, zan1 (fun h : Wait => some h.proc)]
 simp [zO1]
theorem zaE6 (l : List Hold) (hl : l.length ≤ 1000000) : zh0 l = some (l.map (·.proc)) := by
 have e : zh0 l = zE3 l := rfl
 rw [e]; exact zcc1 l hl
def zS5 (q : Queue) : List Proc := zaC7 (q.holds.map (·.proc) ++ (ordQ q).map (·.proc))
theorem zbe3 (q : Queue) (h0 : q.holds.length ≤ 1000) (h1 : q.converts.length ≤ 1000) (h2 : q.waits.length ≤ 1000) : zo4 q = some (zS5 q) := by
 unfold zo4 zS5
 have hl : (ordQ q).length ≤ 2000 := by unfold ordQ; rw [List.length_append]; omega
 rw [zaE6 _ (by omega), Option.bind_some, zbe2 q h1 h2, Option.bind_some, zb2 (by simp; omega), zah8 _ (by simp; omega)]
 rfl
theorem zbe4 {q : Queue} (h : SoundP q) {p : Proc} : p ∈ zS5 q ↔ hasQ q p = true := by
 unfold zS5
 rw [zaz2, List.mem_append, zbr7 h, or_comm]
theorem SoundP.lens {q : Queue} (h : SoundP q) : q.holds.length ≤ 8 ∧ q.converts.length ≤ 8 ∧ q.waits.length ≤ 8 ∧ zz1 q ≤ 16 := by
 have := h.cl; have := h.wl; have := zN4 h.hv
 unfold zz1; omega
theorem zbi7 {q : Queue} (h : SoundP q) : zc3 q = !canQ q := by
 unfold zc3
 rw [(zaE5 q).2 h, Bool.true_and]; rfl
theorem zaO9 (g : Queue × List Hold) (hs : SoundP g.1) (hg : g.2.length ≤ 1000000) : zC9 g = some (if canQ g.1 = true then .inl (zan6 g) else .inr g) := by
 unfold zC9
 rw [zan5, Option.bind_some, zbi7 hs]
 cases hc : canQ g.1 with
 | false => simp
 | true =>
  obtain ⟨h1, _, hl⟩ := zQ2 hc
  rw [if_pos (by simp), zaC3, Option.bind_some, if_pos rfl]
  unfold zan6 popQ
  by_cases h0 : 0 < g.1.converts.length
  ·rw [if_pos (by simpa using h0), zb2 (by omega), if_pos h0]
   unfold zx2
   rw [zad2 _ _ _ (by simp only; omega), Option.bind_some, zb2 (by omega)]
  ·rw [if_neg (by simpa using h0), if_neg h0]
   have hw : 0 < g.1.waits.length := by unfold zz1 at h1; omega
   rw [zb2 (by omega)]
   unfold zx2
   rw [zad2 _ _ _ (by simp only; omega), Option.bind_some, zb2 (by omega)]
theorem zaP0 {q : Queue} (h : SoundP q) : zr7 q = some (advS q, advG q) := by
 unfold zr7
 have hl := h.lens
 rw [zah3, Option.bind_some, (zaE5 q).2 h, if_neg (by decide), zal4 q (by omega) (by omega) (by omega), Option.bind_some]
 have key := zbb9 (body := zC9) (fun g => SoundP g.1 ∧ zz1 g.1 + g.2.length ≤ 1000) (fun g => zz1 g.1) (fun g => advN (zz1 g.1) g) (fun g hg => by
  rw [zaO9 g hg.1 (by omega)]
  cases hc : canQ g.1 with
  | false => right; rw [if_neg (by decide), zan7, if_neg (by rw [hc]; decide)]
  | true =>
   left
   obtain ⟨h1, h2, _⟩ := zQ2 hc
   refine ⟨zan6 g, by rw [if_pos rfl], ⟨hg.1.pop hc, ?_⟩, ?_, ?_⟩
   ·unfold zan6; simp only [List.length_append, List.length_cons, List.length_nil]; omega
   ·show zz1 (popQ g.1) < zz1 g.1; omega
   ·rw [zan7 g, if_pos hc]) (q, []) ⟨h, by simp only [List.length_nil]; omega⟩
 rw [key]
 rfl
theorem zQ3 {q : Queue} (h : SoundP q) : zi2 q = some (zp7 q) := by
 unfold zi2; rw [zaP0 h, Option.bind_some, zcj7]; rfl
theorem zby3 (p : Proc) (pr : Int) : (((!(zb3 p)) || (decide (pr < 0))) || (decide (7 < pr))) = !zaw9 p pr := by
 unfold zaw9
 generalize zb3 p = b
 rw [Bool.eq_iff_iff]
 cases b
 ·simp
 ·simp
theorem zZ8 (q : Queue) (h : zz1 q ≤ 1000) : ze4 q = some (advG q, advS q) := zaO1 q h
theorem zbe5 (q : Queue) (p : Proc) (a : Amount) (pr : Int) : zq6 q p a pr = some (zD5 q p a pr) := by
 unfold zq6 zD5
 rw [zW0, Option.bind_some]
 cases h1 : zc3 q with
 | false => rfl
 | true =>
  obtain ⟨hs, hcan⟩ := (zh4 q).1 h1
  have hl := hs.lens
  rw [ifNT, ifTF, zby3]
  cases h2 : zaw9 p pr with
  | false => rfl
  | true =>
   rw [ifNT, ifTF]
   cases h3 : za9 q.resource a with
   | false => rfl
   | true =>
    rw [ifNT, ifTF, zas3 q p (by omega) (by omega), Option.bind_some]
    cases h4 : (zz0 q p).2 with
    | true => rfl
    | false =>
     rw [ifFT, ifFT, zaO0 q (by omega) (by omega) (by omega), Option.bind_some, zG3 q p (by omega), Option.bind_some, zY7, Option.bind_some]
     cases h5 : covA q.resource (getH q.holds p) a with
     | true => rfl
     | false =>
      rw [ifFT, ifFT]
      by_cases h6 : getH q.holds p = Amount.zero
      ·rw [if_neg (by rw [(zH8 _).2 h6]; decide), if_neg (show ¬ getH q.holds p ≠ Amount.zero from fun k => k h6), ze2 (by omega) (by omega)]
       by_cases h7 : 8 ≤ q.holds.length + q.waits.length
       ·rw [if_pos (by simp; omega), if_pos h7]; rfl
       ·rw [if_neg (by simp; omega), if_neg h7, zbc4, Option.bind_some]
        have hi := zbG2 hs h3 h2 h4 (p := p) (a := a) (pr := pr) (by omega)
        have e : ({ Wait.zero with proc := p, amount := a, priority := pr } : Wait) = ⟨p, a, pr, 0⟩ := rfl
        rw [e, hi, if_neg (by simp)]
        have hsc := hs.claimW h3 h2 h4 h6 (by omega) (p := p) (a := a) (pr := pr)
        have hl2 := hsc.lens
        unfold zk7 zk6 zE7
        rw [zb2 (by decide), Option.bind_some]
        have hq : (⟨(⟨q.resource.name, q.resource.kind, q.resource.units, q.resource.home⟩ : Resource), q.holds, q.converts, (claimW q p a pr).waits, q.gen⟩ : Queue) = claimW q p a pr := rfl
        simp only [hq]
        rw [zZ8 _ (by omega)]
        simp only [Option.bind_some]
        unfold zp7
        rw [(zaI4 (claimW q p a pr)).1]
      ·rw [if_pos (by rw [(zN6 _).2 h6]; rfl), if_pos h6]
       have hsc := hs.claimC h3 h4 h5 h6
       have hl2 := hsc.lens
       unfold zm4 zk5 zG5
       rw [zb2 (by decide), zbd1, Option.bind_some, zb2 (by omega), Option.bind_some]
       have hq : (⟨(⟨q.resource.name, q.resource.kind, q.resource.units, q.resource.home⟩ : Resource), q.holds, q.converts ++ [{ Wait.zero with proc := p, amount := zQ5 q.resource (getH q.holds p) a }], q.waits, q.gen⟩ : Queue) = claimC q p a := rfl
       simp only [hq]
       rw [zZ8 _ (by omega)]
       simp only [Option.bind_some]
       unfold zp7
       rw [(zaI4 (claimC q p a)).1]
theorem zbe6 (q : Queue) (p : Proc) (a : Amount) (pr : Int) : zq9 q p a pr = some (zD5 q p a pr) := by
 unfold zq9 zD5
 rw [zW1, Option.bind_some]
 cases h1 : zc3 q with
 | false => rfl
 | true =>
  obtain ⟨hs, hcan⟩ := (zh4 q).1 h1
  have hl := hs.lens
  rw [ifNT, ifTF, zav9, zby3]
  cases h2 : zaw9 p pr with
  | false => rfl
  | true =>
   rw [ifNT, ifTF, zay6]
   cases h3 : za9 q.resource a with
   | false => rfl
   | true =>
    rw [ifNT, ifTF, zac3 q p (by omega) (by omega), Option.bind_some]
    cases h4 : (zz0 q p).2 with
    | true => rfl
    | false =>
     rw [ifFT, ifFT, zaT7 q (by omega) (by omega) (by omega), Option.bind_some, zal1 q p (by omega), Option.bind_some]
     have hcv : zg0 q.resource (getH q.holds p) a = covA q.resource (getH q.holds p) a := rfl
     rw [hcv]
     cases h5 : covA q.resource (getH q.holds p) a with
     | true => rfl
     | false =>
      rw [ifFT, ifFT, zaj4]
      by_cases h6 : getH q.holds p = Amount.zero
      ·rw [if_neg (by rw [(zH8 _).2 h6]; decide), if_neg (show ¬ getH q.holds p ≠ Amount.zero from fun k => k h6), ze2 (by omega) (by omega)]
       by_cases h7 : 8 ≤ q.holds.length + q.waits.length
       ·rw [if_pos (by simp; omega), if_pos h7]; rfl
       ·rw [if_neg (by simp; omega), if_neg h7, zaT4, Option.bind_some]
        have hi := zbG2 hs h3 h2 h4 (p := p) (a := a) (pr := pr) (by omega)
        have e : ({ Wait.zero with proc := p, amount := a, priority := pr } : Wait) = ⟨p, a, pr, 0⟩ := rfl
        rw [e, hi, if_neg (by simp)]
        have hsc := hs.claimW h3 h2 h4 h6 (by omega) (p := p) (a := a) (pr := pr)
        have hq : (⟨(⟨q.resource.name, q.resource.kind, q.resource.units, q.resource.home⟩ : Resource), q.holds, q.converts, (claimW q p a pr).waits, q.gen⟩ : Queue) = claimW q p a pr := rfl
        simp only [hq]
        rw [zQ3 hsc]; rfl
      ·rw [if_pos (by rw [(zN6 _).2 h6]; rfl), if_pos h6]
       have hsc := hs.claimC h3 h4 h5 h6
       rw [zbi4, Option.bind_some, zb2 (by omega)]
       have hq : (⟨(⟨q.resource.name, q.resource.kind, q.resource.units, q.resource.home⟩ : Resource), q.holds, q.converts ++ [{ Wait.zero with proc := p, amount := zQ5 q.resource (getH q.holds p) a }], q.waits, q.gen⟩ : Queue) = claimC q p a := rfl
       rw [hq, zQ3 hsc]; rfl
theorem zaT8 (q : Queue) (p : Proc) : zy7 q p = some (zz8 q p) := by
 unfold zy7 zz8
 rw [zW0, Option.bind_some]
 cases h1 : zc3 q with
 | false => rfl
 | true =>
  obtain ⟨hs, hcan⟩ := (zh4 q).1 h1
  have hl := hs.lens
  rw [ifNT, ifTF, zas3 q p (by omega) (by omega), Option.bind_some]
  cases h4 : (zz0 q p).2 with
  | false => rfl
  | true =>
   rw [ifNT, ifTF, zaw4 q (by omega) (by omega) (by omega), Option.bind_some]
   have hsc := hs.cancel p
   have hl2 := hsc.lens
   unfold zu8 zr9 zs0 zF4
   rw [zb2 (by decide), zag9 _ _ (by omega), Option.bind_some, Option.bind_some, zb2 (by decide), zag9 _ _ (by simp only; omega), Option.bind_some, Option.bind_some]
   have hq : ({ { q with converts := rmL q.converts p } with waits := rmL q.waits p } : Queue) = zZ7 q p := rfl
   simp only [hq]
   rw [zZ8 _ (by omega)]
   simp only [Option.bind_some]
   unfold zp7
   rw [(zaI4 (zZ7 q p)).1]
theorem zaT9 (q : Queue) (p : Proc) : zu5 q p = some (zz8 q p) := by
 unfold zu5 zz8
 rw [zW1, Option.bind_some]
 cases h1 : zc3 q with
 | false => rfl
 | true =>
  obtain ⟨hs, hcan⟩ := (zh4 q).1 h1
  have hl := hs.lens
  rw [ifNT, ifTF, zac3 q p (by omega) (by omega), Option.bind_some]
  cases h4 : (zz0 q p).2 with
  | false => rfl
  | true =>
   rw [ifNT, ifTF, zal4 q (by omega) (by omega) (by omega), Option.bind_some, zas2 _ _ (by omega), Option.bind_some, zas2 _ _ (by simp only; omega), Option.bind_some]
   have hq : ({ { q with converts := rmL q.converts p } with waits := rmL q.waits p } : Queue) = zZ7 q p := rfl
   simp only [hq]
   rw [zQ3 (hs.cancel p)]; rfl
theorem zbK4 {q : Queue} (hs : SoundP q) {p : Proc} (hz : getH q.holds p ≠ Amount.zero) : decide (0 ≤ zz7 q.converts p) = (zz0 q p).2 := by
 rw [Bool.eq_iff_iff, zaI5, decide_eq_true_eq]
 constructor
 ·intro h
  refine Classical.byContradiction fun hno => ?_
  have : ∀ w ∈ q.converts, w.proc ≠ p := fun w hw e => hno ⟨w, List.mem_append_left _ hw, e⟩
  exact zaN7.2 this h
 ·rintro ⟨w, hw, e⟩
  rcases List.mem_append.1 hw with hw | hw
  ·refine Classical.byContradiction fun hno => ?_
   exact zaN7.1 hno w hw e
  ·exact absurd (by rw [← e]; exact (hs.wg w hw).2) hz
theorem zbe7 (q : Queue) (p : Proc) (a : Amount) : zB5 q p a = some (zw0 q p a) := by
 unfold zB5 zw0
 rw [zW0, Option.bind_some]
 cases h1 : zc3 q with
 | false => rfl
 | true =>
  obtain ⟨hs, hcan⟩ := (zh4 q).1 h1
  have hl := hs.lens
  rw [ifNT, ifTF, zG3 q p (by omega), Option.bind_some]
  by_cases h6 : getH q.holds p = Amount.zero
  ·rw [if_pos ((zH8 _).2 h6), if_pos h6]; rfl
  ·rw [if_neg (by rw [(zN6 _).2 h6]; decide), if_neg h6, zQ1 _ _ (by omega), Option.bind_some, zbK4 hs h6]
   cases h4 : (zz0 q p).2 with
   | true => rfl
   | false =>
    rw [ifFT, ifFT, zY7, Option.bind_some]
    cases h5 : covA q.resource (getH q.holds p) a with
    | false => rfl
    | true =>
     rw [ifNT, ifTF, zaw4 q (by omega) (by omega) (by omega), Option.bind_some]
     by_cases h7 : getH q.holds p = a
     ·rw [if_pos (by simp [h7]), if_pos h7]
     ·rw [if_neg (by simpa using fun e => h7 e.symm), if_neg h7]
      have hsc := hs.lower h4 h6 h5
      have hl2 := hsc.lens
      unfold zv0 zu9 zF5
      rw [zb2 (by decide), zV9 _ _ _ (by omega), Option.bind_some, Option.bind_some]
      have hq : ({ q with holds := setL q.holds p a } : Queue) = zah6 q p a := rfl
      simp only [hq]
      rw [zZ8 _ (by omega)]
      simp only [Option.bind_some]
      unfold zp7
      rw [(zaI4 (zah6 q p a)).1]
theorem zbe8 (q : Queue) (p : Proc) (a : Amount) : zx9 q p a = some (zw0 q p a) := by
 unfold zx9 zw0
 rw [zW1, Option.bind_some]
 cases h1 : zc3 q with
 | false => rfl
 | true =>
  obtain ⟨hs, hcan⟩ := (zh4 q).1 h1
  have hl := hs.lens
  rw [ifNT, ifTF, zal1 q p (by omega), Option.bind_some, zaj4]
  by_cases h6 : getH q.holds p = Amount.zero
  ·rw [if_pos ((zH8 _).2 h6), if_pos h6]; rfl
  ·rw [if_neg (by rw [(zN6 _).2 h6]; decide), if_neg h6, zac3 q p (by omega) (by omega), Option.bind_some]
   cases h4 : (zz0 q p).2 with
   | true => rfl
   | false =>
    have hcv : zg0 q.resource (getH q.holds p) a = covA q.resource (getH q.holds p) a := rfl
    rw [ifFT, ifFT, hcv]
    cases h5 : covA q.resource (getH q.holds p) a with
    | false => rfl
    | true =>
     rw [ifNT, ifTF, zal4 q (by omega) (by omega) (by omega), Option.bind_some]
     by_cases h7 : getH q.holds p = a
     ·rw [if_pos (by simp [h7]), if_pos h7]
     ·rw [if_neg (by simpa using h7), if_neg h7, zad2 _ _ _ (by omega), Option.bind_some]
      have hq : ({ q with holds := setL q.holds p a } : Queue) = zah6 q p a := rfl
      simp only [hq]
      rw [zQ3 (hs.lower h4 h6 h5)]; rfl
end Ab
end Go.Proofs.YtfjeceicgfdmjaaGreatDoor
namespace Go.Proofs.YtfjeceicgfdmjaaGreatDoor
namespace Ab
set_option linter.unusedVariables false
set_option linter.unusedSimpArgs false
def zaE7 (x : Queue × List Hold × Int) : Prop := x.1.holds.length ≤ 8 ∧ x.1.converts.length ≤ 8 ∧ x.1.waits.length ≤ 8 ∧ x.2.1.length ≤ 16
theorem zaP1 (e : Int) : zaE7 (errQ e) := by unfold zaE7 errQ Queue.zero; simp
theorem zZ9 {q : Queue} (h : SoundP q) : zaE7 (zp7 q) := by
 have h1 := (h.adv).lens
 have h2 := zcc7 q
 have h3 := h.lens
 exact ⟨h1.1, h1.2.1, h1.2.2.1, by show (advG q).length ≤ 16; omega⟩
theorem zbe9 {q : Queue} (h : SoundP q) : zaE7 (q, [], 0) := by
 have h1 := h.lens
 exact ⟨h1.1, h1.2.1, h1.2.2.1, by simp⟩
theorem zbC8 {q : Queue} {p : Proc} {a : Amount} {pr : Int} (h : (zD5 q p a pr).2.2 ≠ 0) : ∃ e, zD5 q p a pr = errQ e := by
 unfold zD5 at h ⊢
 split; · exact ⟨_, rfl⟩
 split; · exact ⟨_, rfl⟩
 split; · exact ⟨_, rfl⟩
 split; · exact ⟨_, rfl⟩
 rename_i h1 h2 h3 h4
 rw [if_neg h1, if_neg h2, if_neg h3, if_neg h4] at h
 split
 ·rename_i h5; rw [if_pos h5] at h; exact absurd rfl h
 rename_i h5; rw [if_neg h5] at h
 split
 ·rename_i h6; rw [if_pos h6] at h; exact absurd rfl h
 rename_i h6; rw [if_neg h6] at h
 split
 ·exact ⟨_, rfl⟩
 ·rename_i h7; rw [if_neg h7] at h; exact absurd rfl h
theorem zby4 {q : Queue} {p : Proc} (h : (zz8 q p).2.2 ≠ 0) : ∃ e, zz8 q p = errQ e := by
 unfold zz8 at h ⊢
 split; · exact ⟨_, rfl⟩
 split; · exact ⟨_, rfl⟩
 rename_i h1 h2
 rw [if_neg h1, if_neg h2] at h
 exact absurd rfl h
theorem zbC9 {q : Queue} {p : Proc} {a : Amount} (h : (zw0 q p a).2.2 ≠ 0) : ∃ e, zw0 q p a = errQ e := by
 unfold zw0 at h ⊢
 split; · exact ⟨_, rfl⟩
 split; · exact ⟨_, rfl⟩
 split; · exact ⟨_, rfl⟩
 split; · exact ⟨_, rfl⟩
 rename_i h1 h2 h3 h4
 rw [if_neg h1, if_neg h2, if_neg h3, if_neg h4] at h
 split
 ·rename_i h5; rw [if_pos h5] at h; exact absurd rfl h
 ·rename_i h5; rw [if_neg h5] at h; exact absurd rfl h
theorem zaI9 (q : Queue) (p : Proc) (a : Amount) (pr : Int) : zaE7 (zD5 q p a pr) := by
 by_cases h : (zD5 q p a pr).2.2 = 0
 ·obtain ⟨hs, _, _, _, _, hh⟩ := zaO5 h
  rcases hh with ⟨_, e⟩ | ⟨_, _, e, hc⟩ | ⟨_, _, _, e, hc⟩
  ·rw [e]; exact zbe9 hs
  ·rw [e]; exact zZ9 hc
  ·rw [e]; exact zZ9 hc
 ·obtain ⟨e, he⟩ := zbC8 h; rw [he]; exact zaP1 e
theorem zaC8 (q : Queue) (p : Proc) : zaE7 (zz8 q p) := by
 by_cases h : (zz8 q p).2.2 = 0
 ·obtain ⟨_, _, _, e, hc⟩ := zaq4 h; rw [e]; exact zZ9 hc
 ·obtain ⟨e, he⟩ := zby4 h; rw [he]; exact zaP1 e
theorem zaJ0 (q : Queue) (p : Proc) (a : Amount) : zaE7 (zw0 q p a) := by
 by_cases h : (zw0 q p a).2.2 = 0
 ·obtain ⟨hs, _, _, _, _, hh⟩ := zao2 h
  rcases hh with ⟨_, e⟩ | ⟨_, e, hc⟩
  ·rw [e]; exact zbe9 hs
  ·rw [e]; exact zZ9 hc
 ·obtain ⟨e, he⟩ := zbC9 h; rw [he]; exact zaP1 e
end Ab
end Go.Proofs.YtfjeceicgfdmjaaGreatDoor
namespace Go.Proofs.YtfjeceicgfdmjaaGreatDoor
namespace Ab
set_option linter.unusedVariables false
set_option linter.unusedSimpArgs false
theorem zaP2 (n m : Int) (h1 : 1 ≤ m) (h2 : m ≤ 1000000) : zn8 n m = some (n % m) := by
  unfold zn8
  rw [if_neg (by simp; omega), gdp (by omega)]
  have hlt : n.tmod m < m := Int.tmod_lt_of_pos n (by omega)
  have hgt : -m < n.tmod m := by have := Int.lt_tmod_of_pos n (show 0 < m by omega); omega
  have e : n % m = if n.tmod m < 0 then n.tmod m + m else n.tmod m := by
    rw [Int.emod_eq_tmod]
    by_cases h3 : 0 ≤ n ∨ m ∣ n
    · rw [if_pos h3]
      have : 0 ≤ n.tmod m := by
        rcases h3 with h | h
        · exact Int.tmod_nonneg m h
        · rw [Int.tmod_eq_zero_of_dvd h]; omega
      rw [if_neg (by omega)]; omega
    · rw [if_neg h3]
      simp only [not_or] at h3
      have h5 : 0 ≤ (-n).tmod m := Int.tmod_nonneg m (by omega)
      rw [Int.neg_tmod] at h5
      have h6 : n.tmod m ≠ 0 := fun h => h3.2 (Int.dvd_of_tmod_eq_zero h)
      rw [if_pos (by omega)]; omega
  rw [e]
  by_cases hc : n.tmod m < 0
  · rw [if_pos (by simpa using hc), if_pos hc, ze2 (by omega) (by omega)]
  · rw [if_neg (by simpa using hc), if_neg hc]
def zby5 (n : Int) : Proc := ⟨(n % 8) % 4, 1, 1 + (n % 8) / 4⟩
theorem zad4 (n : Int) : zn9 n = some (zby5 n) := by
  unfold zn9 zby5
  rw [zaP2 n 8 (by decide) (by decide), Option.bind_some]
  have h1 : 0 ≤ n % 8 := Int.emod_nonneg _ (by decide)
  have h2 : n % 8 < 8 := Int.emod_lt_of_pos _ (by decide)
  rw [Int.tmod_eq_emod_of_nonneg h1, Int.tdiv_eq_ediv_of_nonneg h1, ze2 (x := n % 8 / 4) (by omega) (by omega), ze2 (by omega) (by omega)]
def zby6 (p : Proc) : Prop := p.inc = 1 ∧ 0 ≤ p.site ∧ p.site < 4 ∧ 1 ≤ p.num ∧ p.num ≤ 2
theorem zby6.valid {p : Proc} (h : zby6 p) : zb3 p = true := by
  unfold zby6 at h
  unfold zb3 zr4
  simp; omega
def zdX1 (n : Int) : Int := zA2.getD (n % 8).toNat 0
def amtM (r : Resource) (n : Int) : Amount := if r.kind = 1 then ⟨zdX1 n, 0⟩ else ⟨0, 1 + n % r.units⟩
theorem zbs2 (n : Int) : zF1 n = some (zdX1 n) := by
  unfold zF1
  have hl : (zA2.length : Int) = 8 := rfl
  have h1 : 0 ≤ n % 8 := Int.emod_nonneg _ (by decide)
  have h2 : n % 8 < 8 := Int.emod_lt_of_pos _ (by decide)
  rw [hl, zaP2 n 8 (by decide) (by decide), Option.bind_some, gdp ⟨h1, h2⟩]
  rfl
theorem zah9 (r : Resource) (n : Int) (hr : zb5 r = true) : zr0 r n = some (amtM r n) := by
  rw [zx4] at hr
  unfold zr0 amtM
  by_cases hk : r.kind = 1
  · simp only [hk, decide_true, if_true, zbs2, Option.bind_some]; rfl
  · simp only [hk, decide_false, Bool.false_eq_true, if_false]
    rw [zaP2 n r.units (by omega) (by omega), Option.bind_some]
    have h1 : 0 ≤ n % r.units := Int.emod_nonneg _ (by omega)
    have h2 : n % r.units < r.units := Int.emod_lt_of_pos _ (by omega)
    rw [ze2 (by omega) (by omega)]; rfl
structure TapeOk (t : Tape) : Prop where
  len : t.l.length ≤ 1000000
  at_ : 0 ≤ t.at_ ∧ t.at_ ≤ t.l.length
def zz9 (m : Int) (t : Tape) : Int := if (t.l.length : Int) ≤ t.at_ then 0 else (t.l.getD t.at_.toNat 0) % m
def zz2 (t : Tape) : Tape := if (t.l.length : Int) ≤ t.at_ then t else { t with at_ := t.at_ + 1 }
theorem zJ5 (m : Int) (t : Tape) (ht : TapeOk t) (h1 : 1 ≤ m) (h2 : m ≤ 1000000) : zc2 m t = some (zz9 m t, zz2 t) := by
  unfold zc2 zz9 zz2
  have hl := ht.len; have ha := ht.at_
  by_cases h : (t.l.length : Int) ≤ t.at_
  · simp only [h, decide_true, if_true]
  · simp only [h, decide_false, Bool.false_eq_true, if_false]
    have w1 : IntKind.i64.wrap (t.at_ + 1) = t.at_ + 1 := ze2 (by omega) (by omega)
    have w2 : IntKind.i64.wrap (t.at_ + 1 - 1) = t.at_ := by rw [ze2 (by omega) (by omega)]; omega
    simp only [w1, w2]
    rw [gdp (by omega), zaP2 _ m h1 h2]
    rfl
theorem zw3 {t : Tape} (h : TapeOk t) : TapeOk (zz2 t) := by
  unfold zz2
  split
  · exact h
  · have := h.at_; exact ⟨h.len, by simp only; omega⟩
theorem zck6 (t : Tape) : (zz2 t).l = t.l := by unfold zz2; split <;> rfl
theorem zF9 (m : Int) (t : Tape) (h1 : 1 ≤ m) : 0 ≤ zz9 m t ∧ zz9 m t < m := by
  unfold zz9
  split
  · omega
  · exact ⟨Int.emod_nonneg _ (by omega), Int.emod_lt_of_pos _ (by omega)⟩
def zD6 : Nat → Tape → Tape
  | 0, t => t
  | n + 1, t => zD6 n (zz2 t)
theorem zbf0 : ∀ (n : Nat) {t : Tape}, TapeOk t → TapeOk (zD6 n t)
  | 0, _, h => h
  | n + 1, _, h => zbf0 n (zw3 h)
def catL (t : Tape) : List Resource :=
  [⟨⟨#[97]⟩, 1, 1, zz9 4 t⟩, ⟨⟨#[98]⟩, 1, 1, zz9 4 (zz2 t)⟩, ⟨⟨#[99]⟩, 1, 1, zz9 4 (zD6 2 t)⟩, ⟨⟨#[100]⟩, 1, 1, zz9 4 (zD6 3 t)⟩,
   ⟨⟨#[112]⟩, 2, 1 + zz9 8 (zD6 4 t), zz9 4 (zD6 5 t)⟩, ⟨⟨#[113]⟩, 2, 1 + zz9 3 (zD6 6 t), zz9 4 (zD6 7 t)⟩]
theorem zaE8 (t : Tape) (ht : TapeOk t) : zm6 t = some (catL t, zD6 8 t) := by
  unfold zm6
  have hlit : (ze5.length : Int) = 4 := rfl
  have step : ∀ (i : Nat) (u : Tape) (l : List Resource), i < 4 → TapeOk u → l.length ≤ 10 → zv3 ((i : Int), u, l) = some (.inl ((i : Int) + 1, zz2 u, l ++ [⟨ze5.getD i (⟨#[]⟩), 1, 1, zz9 4 u⟩])) := by
    intro i u l hi hu hl
    unfold zv3
    have h1 : (i : Int) < 4 := by omega
    have h0 : 0 ≤ (i : Int) := by omega
    simp only [hlit, h1, h0, and_self, zl3, decide_true, if_true]
    rw [zJ5 4 u hu (by decide) (by decide), Option.bind_some, gdp (by omega), ze2 (by omega) (by omega)]
    simp only [Int.toNat_natCast]
  have s0 := step 0 t [] (by decide) ht (by simp)
  have o1 := zw3 ht
  have s1 := step 1 (zz2 t) [⟨ze5.getD 0 (⟨#[]⟩), 1, 1, zz9 4 t⟩] (by decide) o1 (by simp)
  have o2 := zw3 o1
  have s2 := step 2 (zz2 (zz2 t)) ([⟨ze5.getD 0 (⟨#[]⟩), 1, 1, zz9 4 t⟩] ++ [⟨ze5.getD 1 (⟨#[]⟩), 1, 1, zz9 4 (zz2 t)⟩]) (by decide) o2 (by simp)
  have o3 := zw3 o2
  have s3 := step 3 (zz2 (zz2 (zz2 t))) ([⟨ze5.getD 0 (⟨#[]⟩), 1, 1, zz9 4 t⟩] ++ [⟨ze5.getD 1 (⟨#[]⟩), 1, 1, zz9 4 (zz2 t)⟩] ++ [⟨ze5.getD 2 (⟨#[]⟩), 1, 1, zz9 4 (zz2 (zz2 t))⟩]) (by decide) o3 (by simp)
  have o4 := zw3 o3
  have s4 : ∀ u l, zv3 ((4 : Int), u, l) = some (.inr (u, l)) := fun u l => by unfold zv3; simp [hlit]
  rw [zd7, show ((0 : Int), t, ([] : List Resource)) = (((0 : Nat) : Int), t, []) from rfl, s0]
  simp only [List.nil_append]
  rw [zd7, show ((0 : Nat) : Int) + 1 = ((1 : Nat) : Int) from rfl, s1]
  simp only
  rw [zd7, show ((1 : Nat) : Int) + 1 = ((2 : Nat) : Int) from rfl, s2]
  simp only
  rw [zd7, show ((2 : Nat) : Int) + 1 = ((3 : Nat) : Int) from rfl, s3]
  simp only
  rw [zd7, show ((3 : Nat) : Int) + 1 = (4 : Int) from rfl, s4]
  simp only [Option.bind_some]
  unfold zG6
  have o5 := zw3 o4; have o6 := zw3 o5; have o7 := zw3 o6
  have w8 := zF9 8 (zz2 (zz2 (zz2 (zz2 t)))) (by decide)
  have w3 := zF9 3 (zz2 (zz2 (zz2 (zz2 (zz2 (zz2 t)))))) (by decide)
  simp only
  rw [zJ5 8 _ o4 (by decide) (by decide), Option.bind_some]
  simp only
  rw [zJ5 4 _ o5 (by decide) (by decide), Option.bind_some, gdp (by simp)]
  simp only
  rw [zJ5 3 _ o6 (by decide) (by decide), Option.bind_some]
  simp only
  rw [zJ5 4 _ o7 (by decide) (by decide), Option.bind_some, gdp (by simp)]
  simp only
  rw [ze2 (x := 1 + zz9 8 _) (by omega) (by omega), ze2 (x := 1 + zz9 3 _) (by omega) (by omega)]
  rfl
theorem zby7 (t : Tape) : ∀ r ∈ catL t, zb5 r = true := by
  intro r hr
  have w8 := zF9 8 (zD6 4 t) (by decide)
  have w3 := zF9 3 (zD6 6 t) (by decide)
  unfold catL at hr
  simp only [List.mem_cons, List.not_mem_nil, or_false] at hr
  rw [zx4]
  rcases hr with rfl | rfl | rfl | rfl | rfl | rfl
  · exact .inl ⟨rfl, rfl⟩
  · exact .inl ⟨rfl, rfl⟩
  · exact .inl ⟨rfl, rfl⟩
  · exact .inl ⟨rfl, rfl⟩
  · exact .inr ⟨rfl, by simp only; omega, by simp only; omega⟩
  · exact .inr ⟨rfl, by simp only; omega, by simp only; omega⟩
def zbm4 (l : List Hold) : Prop := ∀ h ∈ l, zby6 h.proc
theorem zbm4.sub {l m : List Hold} (h : zbm4 m) (hs : l.Sublist m) : zbm4 l := fun x hx => h x (hs.subset hx)
theorem zbm4.set {l : List Hold} {p : Proc} (h : zbm4 l) (hp : zby6 p) (a : Amount) : zbm4 (setL l p a) := by
  intro x hx
  unfold setL at hx
  split at hx
  · exact h x (zJ4.1 hx).1
  · rcases List.mem_cons.1 ((zay9 p a _).mem_iff.1 hx) with rfl | hx
    · exact hp
    · exact h x (zJ4.1 hx).1
theorem zbK5 {l : List Int} (h : zF0 l = true) : l.length ≤ 300 := by unfold zF0 at h; simp at h; omega
end Ab
end Go.Proofs.YtfjeceicgfdmjaaGreatDoor
namespace Go.Proofs.YtfjeceicgfdmjaaGreatDoor
namespace Ab
set_option linter.unusedVariables false
set_option linter.unusedSimpArgs false
theorem zbD0 (t : Tape) : ∀ r ∈ catL t, resV r = true := by
 intro r hr
 have w8 := zF9 8 (zD6 4 t) (by decide)
 have w3 := zF9 3 (zD6 6 t) (by decide)
 have hs := zby7 t r hr
 unfold resV
 rw [hs, Bool.true_and]
 have hm : ∀ u : Tape, (decide (0 ≤ zz9 4 u) && decide (zz9 4 u < 4)) = true := fun u => by
  have := zF9 4 u (by decide)
  simp; exact this
 unfold catL at hr
 simp only [List.mem_cons, List.not_mem_nil, or_false] at hr
 have n1 : zah0 ⟨#[97]⟩ = true := by decide +kernel
 have n2 : zah0 ⟨#[98]⟩ = true := by decide +kernel
 have n3 : zah0 ⟨#[99]⟩ = true := by decide +kernel
 have n4 : zah0 ⟨#[100]⟩ = true := by decide +kernel
 have n5 : zah0 ⟨#[112]⟩ = true := by decide +kernel
 have n6 : zah0 ⟨#[113]⟩ = true := by decide +kernel
 rcases hr with rfl | rfl | rfl | rfl | rfl | rfl <;> simp only [n1, n2, n3, n4, n5, n6, hm, Bool.and_self]
def zK8 (r : Resource) : Queue := { Queue.zero with resource := r }
theorem zbf1 {r : Resource} (h : resV r = true) : zb5 r = true := by
 unfold resV at h; simp only [Bool.and_eq_true] at h; exact h.2.1
theorem zby8 {r : Resource} (h : resV r = true) : SoundP (zK8 r) :=
 ⟨h, zbB9 (zbf1 h), by simp [zK8, Queue.zero], .nil, by simp [zK8, Queue.zero], by show zE1 [] = true; decide, by simp [zK8, Queue.zero], by simp [zK8, Queue.zero], by simp [zK8, Queue.zero]⟩
theorem zbi8 {r : Resource} (h : resV r = true) : zc3 (zK8 r) = true := by
 rw [zh4]; exact ⟨zby8 h, rfl⟩
theorem zax1 {q : Queue} (h : zc3 q = true) : zb5 q.resource = true := zbf1 ((zh4 q).1 h).1.res
theorem zcd6 {l : List Int} (h : zF0 l = true) : l.length ≤ 1000000 := by have := zbK5 h; omega
theorem zbm5 {α : Type} {l : List α} {i : Nat} {z : α} (h : i < l.length) : l.take (i + 1) = l.take i ++ [l.getD i z] := by
 rw [List.take_succ_eq_append_getElem h, List.getD_eq_getElem?_getD, List.getElem?_eq_getElem h]; rfl
theorem zJ6 {q : Queue} (h : zc3 q = true) : q.holds.length ≤ 8 ∧ q.converts.length ≤ 8 ∧ q.waits.length ≤ 8 ∧ zz1 q ≤ 16 := ((zh4 q).1 h).1.lens
theorem zbs3 {q : Queue} (h : zc3 q = true) : zp5 q q = some true := by
 have := zJ6 h
 rw [zaC4 _ _ (by omega) (by omega) (by omega)]; simp
end Ab
end Go.Proofs.YtfjeceicgfdmjaaGreatDoor
