/-
  The queue's functions, both sides: each is its plain description.
-/
import Derived.Test.YtfjeceicgfdmjaaGreatDoorProcs
import Derived.Test.YtfjeceicgfdmjaaGreatDoorQueH
namespace Go.Proofs.YtfjeceicgfdmjaaGreatDoor
namespace Ab
set_option linter.unusedVariables false
set_option linter.unusedSimpArgs false
theorem ifNT {α : Type} (x y : α) : (if (!true) = true then x else y) = y := rfl
theorem ifTF {α : Type} (x y : α) : (if true = false then x else y) = y := rfl
theorem ifFT {α : Type} (x y : α) : (if false = true then x else y) = y := rfl
theorem zbr3 (l : List Proc) (hl : l.length ≤ 4294967296) : zb4 l = some (l.mergeSort fun x y => !decide (ltP y x)) := by
 unfold zb4
 rw [zb2 hl]
 congr 2
theorem zbS9 {l : List Proc} {i : Nat} (h : i + 1 < l.length) : l.take (i + 2) = l.take i ++ [l.getD i Proc.zero, l.getD (i + 1) Proc.zero] := by
 rw [List.take_succ_eq_append_getElem (by omega), List.take_succ_eq_append_getElem (by omega), List.append_assoc]
 congr 1
 rw [List.getD_eq_getElem?_getD, List.getElem?_eq_getElem (by omega), List.getD_eq_getElem?_getD, List.getElem?_eq_getElem h]
 rfl
theorem zaY3 {l : List Proc} {i : Nat} (h : i < l.length) : l.take (i + 1) = l.take i ++ [l.getD i Proc.zero] := by
 rw [List.take_succ_eq_append_getElem h]
 congr 1
 rw [List.getD_eq_getElem?_getD, List.getElem?_eq_getElem h]
 rfl
theorem zaY4 {l : List Proc} {i : Nat} (h : i + 1 < l.length) : dst (l.take (i + 2)) = if l.getD i Proc.zero = l.getD (i + 1) Proc.zero then dst (l.take (i + 1)) else dst (l.take (i + 1)) ++ [l.getD (i + 1) Proc.zero] := by
 rw [zbS9 h, zbr2, ← zaY3 (by omega)]
theorem zaD9 {l m : List Proc} {i j : Nat} (h : l.drop i = m.drop i) (hij : i ≤ j) : l.getD j Proc.zero = m.getD j Proc.zero := by
 have e : ∀ x : List Proc, x.getD j Proc.zero = (x.drop i).getD (j - i) Proc.zero := fun x => by
  rw [List.getD_eq_getElem?_getD, List.getD_eq_getElem?_getD, List.getElem?_drop, show i + (j - i) = j by omega]
 rw [e l, e m, h]
theorem zbc6 (a : List Proc) (g : Nat) (hg : 1 ≤ g) (hgl : g < a.length) (hl : a.length ≤ 1000000) (he : a.getD g Proc.zero = a.getD (g - 1) Proc.zero) (hd : dst (a.take g) = a.take g) :
  ∃ x, zc1 (zi1 a g) ((g : Int), 1, a) = some x ∧ ∃ k : Nat, x.1 = (k : Int) ∧ x.2.length = a.length ∧ k ≤ a.length ∧ x.2.take k = dst a := by
 refine zar5 (fun s => ∃ k k2 : Nat, s.1 = (k : Int) ∧ s.2.1 = (k2 : Int) ∧ s.2.2.length = a.length ∧ 1 ≤ k2 ∧ g + k2 ≤ a.length ∧ k + 1 ≤ g + k2 ∧ s.2.2.take k = dst (a.take (g + k2)) ∧ s.2.2.drop (g + k2 - 1) = a.drop (g + k2 - 1)) (fun s => (a.length - s.2.1.toNat)) _ ?_ _ ?_
 ·rintro ⟨k, k2, s⟩ ⟨kn, k2n, h1, h2, h3, h4, h5, h6, h7, h8⟩
  simp only at h1 h2 h3 h7 h8
  subst h1; subst h2
  unfold zi1
  by_cases hlt : g + k2n < a.length
  ·left
   have w : IntKind.i64.wrap ((k2n : Int) - 1) = ((k2n - 1 : Nat) : Int) := by rw [zf1 (by omega) (by omega)]; omega
   have w2 : IntKind.i64.wrap ((k2n : Int) + 1) = ((k2n + 1 : Nat) : Int) := by rw [zf1 (by omega) (by omega)]; omega
   have w3 : IntKind.i64.wrap ((kn : Int) + 1) = ((kn + 1 : Nat) : Int) := by rw [zf1 (by omega) (by omega)]; omega
   have r1 : s.getD (g + k2n) Proc.zero = a.getD (g + k2n) Proc.zero := zaD9 h8 (by omega)
   have r2 : s.getD (g + (k2n - 1)) Proc.zero = a.getD (g + (k2n - 1)) Proc.zero := zaD9 h8 (by omega)
   have hdt := zaY4 (l := a) (i := g + (k2n - 1)) (by omega)
   rw [show g + (k2n - 1) + 2 = g + (k2n + 1) by omega, show g + (k2n - 1) + 1 = g + k2n by omega] at hdt
   simp only [Int.toNat_natCast, w, w2, w3]
   rw [if_pos (by simp; omega), zb2 (by omega), zb2 (by omega), r1, r2]
   by_cases hne : a.getD (g + k2n) Proc.zero = a.getD (g + (k2n - 1)) Proc.zero
   ·refine ⟨((kn : Int), ((k2n + 1 : Nat) : Int), s), by rw [if_neg (by simp only [hne, decide_true, Bool.not_true, Bool.false_eq_true, not_false_eq_true])], ⟨kn, k2n + 1, rfl, rfl, h3, by omega, by omega, by omega, ?_, ?_⟩, by simp only [Int.toNat_natCast]; omega⟩
    ·simp only
     rw [h7, hdt, if_pos hne.symm]
    ·simp only
     rw [show g + (k2n + 1) - 1 = (g + k2n - 1) + 1 by omega, ← List.drop_drop, ← List.drop_drop, h8]
   ·rw [if_pos (by simpa using hne), zb2 (by omega), zb2 (by omega)]
    refine ⟨(((kn + 1 : Nat) : Int), ((k2n + 1 : Nat) : Int), s.set kn (a.getD (g + k2n) Proc.zero)), rfl, ⟨kn + 1, k2n + 1, rfl, rfl, by simp [h3], by omega, by omega, by omega, ?_, ?_⟩, by simp only [Int.toNat_natCast]; omega⟩
    ·simp only
     rw [hdt, if_neg (fun e => hne e.symm), ← h7, zaY3 (by rw [List.length_set]; omega), List.take_set_of_le (by omega), zah1 _ _ _ _ (by omega)]
    ·simp only
     rw [List.drop_set_of_lt (by omega), show g + (k2n + 1) - 1 = (g + k2n - 1) + 1 by omega, ← List.drop_drop, ← List.drop_drop, h8]
  ·right
   refine ⟨((kn : Int), s), by simp only [Int.toNat_natCast]; rw [if_neg (by simp; omega)], kn, rfl, h3, by omega, ?_⟩
   simp only
   rw [h7, List.take_of_length_le (by omega)]
 ·refine ⟨g, 1, rfl, rfl, rfl, by omega, by omega, by omega, ?_, rfl⟩
  simp only
  have hdt := zaY4 (l := a) (i := g - 1) (by omega)
  rw [show g - 1 + 2 = g + 1 by omega, show g - 1 + 1 = g by omega, if_pos he.symm, hd] at hdt
  exact hdt.symm
theorem zbu8 (a : List Proc) (hl : a.length ≤ 1000000) : ∃ r, zb5 a = some (dst a, r) := by
 unfold zb5
 by_cases h2 : a.length < 2
 ·rw [if_pos (by simp; omega)]
  refine ⟨a, ?_⟩
  have : dst a = a := by
   match a, h2 with
   | [], _ => rfl
   | [x], _ => rfl
   | x :: y :: t, h => simp at h; omega
  rw [this]
 ·rw [if_neg (by simp; omega)]
  obtain ⟨x, hx, hp⟩ := zar5 (body := zi2 a) (fun g => ∃ n : Nat, g = (n : Int) ∧ 1 ≤ n ∧ n ≤ a.length ∧ dst (a.take n) = a.take n) (fun g => a.length - g.toNat)
   (fun x => match x with | .inl _ => dst a = a | .inr z => z.1 = dst a) (by
    rintro g ⟨n, rfl, h1, h3, h4⟩
    unfold zi2
    by_cases hlt : n < a.length
    ·have w : IntKind.i64.wrap ((n : Int) - 1) = ((n - 1 : Nat) : Int) := by rw [zf1 (by omega) (by omega)]; omega
     have w2 : IntKind.i64.wrap ((n : Int) + 1) = ((n + 1 : Nat) : Int) := by rw [zf1 (by omega) (by omega)]; omega
     rw [if_pos (by simp; omega), zb2 (by omega), w, w2, zb2 (by omega)]
     simp only [Int.toNat_natCast]
     by_cases he : a.getD n Proc.zero = a.getD (n - 1) Proc.zero
     ·right
      obtain ⟨x, hx, k, hk1, hk2, hk3, hk4⟩ := zbc6 a n h1 hlt hl he h4
      rw [if_pos (decide_eq_true he), zb2 (by omega), hx]
      obtain ⟨x1, x2⟩ := x
      simp only at hk1 hk2 hk4
      subst hk1
      rw [Option.bind_some]
      unfold zi0
      simp only [Int.toNat_natCast]
      rw [zb2 (by omega), zb2 (by omega)]
      refine ⟨_, rfl, ?_⟩
      simp only
      rw [List.drop_zero, List.append_assoc, List.take_append_of_le_length (by simp; omega), List.take_take, Nat.min_self, hk4]
     ·left
      refine ⟨((n + 1 : Nat) : Int), by rw [if_neg (by simpa using he)], ⟨n + 1, rfl, by omega, by omega, ?_⟩, by simp only [Int.toNat_natCast]; omega⟩
      have hdt := zaY4 (l := a) (i := n - 1) (by omega)
      rw [show n - 1 + 2 = n + 1 by omega, show n - 1 + 1 = n by omega, if_neg (fun e => he e.symm), h4, ← zaY3 hlt] at hdt
      exact hdt
    ·right
     refine ⟨.inl (), by rw [if_neg (by simp; omega)], ?_⟩
     simp only
     rw [List.take_of_length_le (by omega)] at h4
     exact h4) 1 ⟨1, rfl, by omega, by omega, by
      match a, h2 with
      | x :: t, _ => simp [dst]⟩
  rw [hx]
  cases x with
  | inl u =>
   simp only at hp
   refine ⟨a, ?_⟩
   rw [hp]; rfl
  | inr z =>
   simp only at hp
   refine ⟨z.2, ?_⟩
   rw [← hp]; rfl
theorem zae0 (l : List Proc) (hl : l.length ≤ 1000000) : zg0 l = some (zax7 l) := by
 unfold zg0
 rw [zb2 (by omega), zbr3 l (by omega), Option.bind_some]
 obtain ⟨r, h⟩ := zbu8 (l.mergeSort fun x y => !decide (ltP y x)) (by rw [List.length_mergeSort]; exact hl)
 rw [h]
 simp only [Option.bind_some]
 rw [zbB8 (zbl0 l) fun x => List.mem_mergeSort]
theorem zbT0 (l : List Proc) (p : Proc) (hl : l.length ≤ 1000000) : zb6 l p = some (decide (p ∈ l)) := by
 unfold zb6 zc4
 have key : zc1 (zg7 l p) 0 = some ((zs7 (fun i => if p = l.getD i Proc.zero then some (Sum.inr (i : Int)) else none) l.length 0).getD (Sum.inl ())) := by
  refine zu8 l.length _ (Sum.inl ()) (fun i hi => ?_) ?_
  ·unfold zg7
   rw [if_pos (by simpa using hi), zb2 (by omega), zf1 (by omega) (by omega)]
   simp only [Int.toNat_natCast, decide_eq_true_eq]
   split <;> rfl
  ·unfold zg7
   rw [if_neg (by simp)]
 rw [key]
 have fr : ∀ k i, i + k = l.length → (p ∈ l.drop i → ∃ j : Nat, zs7 (fun i => if p = l.getD i Proc.zero then some (Sum.inr (α := Unit) (i : Int)) else none) k i = some (.inr (j : Int))) ∧ (p ∉ l.drop i → zs7 (fun i => if p = l.getD i Proc.zero then some (Sum.inr (α := Unit) (i : Int)) else none) k i = none) := by
  intro k
  induction k with
  | zero => intro i hi; rw [List.drop_eq_nil_of_le (by omega)]; simp [zs7]
  | succ k ih =>
   intro i hi
   obtain ⟨h1, h2⟩ := ih (i + 1) (by omega)
   rw [zV7 l i Proc.zero (by omega)]
   simp only [zs7]
   by_cases hp : p = l.getD i Proc.zero
   ·rw [← hp]
    simp only [if_true, List.mem_cons, true_or, forall_const, not_true, false_implies, and_true]
    exact ⟨i, rfl⟩
   ·simp only [hp, if_false, List.mem_cons, false_or]
    exact ⟨h1, h2⟩
 obtain ⟨h1, h2⟩ := fr l.length 0 (by omega)
 rw [List.drop_zero] at h1 h2
 by_cases hp : p ∈ l
 ·obtain ⟨j, hj⟩ := h1 hp
  rw [hj]
  simp only [Option.getD_some, Option.bind_some, hp, decide_true, Option.some.injEq, decide_eq_true_eq]
  omega
 ·rw [h2 hp]
  simp only [Option.getD_none, Option.bind_some, hp, decide_false]
  rfl
theorem zaJ2 (l : List Proc) (p : Proc) (hl : l.length ≤ 1000000) : zi6 l p = some (decide (p ∈ l)) := by
 unfold zi6; rw [zbT0 l p hl]; rfl
theorem zak3 (l : List Proc) (p : Proc) (hl : l.length ≤ 1000000) : zk5 l p = some (decide (p ∈ l)) := by
 unfold zk5
 have key := zad2 (body := zB2 l p) l Proc.zero (fun i (_ : Unit) => (i : Int)) (fun _ x _ => some (if x = p then .inr (Sum.inr true) else .inl ())) (fun _ => Sum.inl (β := Bool) ())
  (fun i s hi => by
   unfold zB2
   have h3 : 0 ≤ (i : Int) ∧ (i : Int) < (l.length : Int) := by omega
   simp only [h3.1, h3.2, and_self, zm2, decide_true, if_true, Int.toNat_natCast, ze3 i (by omega), Option.map_some, decide_eq_true_eq]
   split <;> rfl)
  (fun s => by unfold zB2; simp) ()
 rw [show (0 : Int) = (fun (i : Nat) (_ : Unit) => (i : Int)) 0 () from rfl, key]
 have fold : ∀ (l : List Proc) (i : Nat), walk (fun _ x (_ : Unit) => some (if x = p then .inr (Sum.inr true) else .inl ())) (fun _ => Sum.inl (β := Bool) ()) l i () = some (if p ∈ l then .inr true else .inl ()) := by
  intro l
  induction l with
  | nil => intro i; simp [walk]
  | cons x t ih =>
   intro i
   simp only [walk]
   by_cases e : x = p
   ·subst e; simp
   ·simp only [e, if_false, List.mem_cons, fun h : p = x => e h.symm, false_or]
    rw [ih]
    have : ¬ p = x := fun h => e h.symm
    simp [this]
 rw [fold]
 by_cases hp : p ∈ l <;> simp [hp, zG3]
theorem zaY5 (q : Queue) (h1 : q.converts.length ≤ 1000) (h2 : q.waits.length ≤ 1000) : zo1 q = some ((ordQ q).map (·.proc)) := by
 unfold zo1
 rw [zas0 q (by omega) (by omega), Option.bind_some]
 have hl : (q.converts ++ q.waits).length ≤ 2000 := by rw [List.length_append]; omega
 show _ = some ((q.converts ++ q.waits).map (·.proc))
 generalize q.converts ++ q.waits = l at hl
 have key := zv0 (body := zD8 l) l Wait.zero (fun i (s : List Proc) => ((i : Int), s)) (fun i h s => some (.inl (zaj4 s (some h.proc)))) (fun s => s) (fun i s => s.length ≤ i)
  (fun i s hi hs => by
   refine ⟨?_, fun s' h => ?_⟩
   ·unfold zD8
    have h1 : s.length + 1 ≤ 4294967296 := by omega
    have h3 : 0 ≤ (i : Int) ∧ (i : Int) < (l.length : Int) := by omega
    simp only [h1, h3.1, h3.2, and_self, zm2, decide_true, if_true, Int.toNat_natCast, ze3 i (by omega), Option.map_some, wmap, zaj4]
   ·simp only [Option.some.injEq, Sum.inl.injEq] at h; subst h; simp [zaj4]; omega)
  (fun s hs => by unfold zD8; simp) [] (by simp)
 rw [show ((0, []) : Int × List Proc) = (fun (i : Nat) (s : List Proc) => ((i : Int), s)) 0 [] from rfl, key, zaj5 (fun h : Wait => some h.proc)]
 simp [zL8]
theorem zaA0 (l : List Hold) (hl : l.length ≤ 1000000) : zf9 l = some (l.map (·.proc)) := by
 have e : zf9 l = zy8 l := rfl
 rw [e]; exact zbS2 l hl
def zQ2 (q : Queue) : List Proc := zax7 (q.holds.map (·.proc) ++ (ordQ q).map (·.proc))
theorem zaY6 (q : Queue) (h0 : q.holds.length ≤ 1000) (h1 : q.converts.length ≤ 1000) (h2 : q.waits.length ≤ 1000) : zm9 q = some (zQ2 q) := by
 unfold zm9 zQ2
 have hl : (ordQ q).length ≤ 2000 := by unfold ordQ; rw [List.length_append]; omega
 rw [zaA0 _ (by omega), Option.bind_some, zaY5 q h1 h2, Option.bind_some, zb2 (by simp; omega), zae0 _ (by simp; omega)]
 rfl
theorem zaY7 {q : Queue} (h : SoundP q) {p : Proc} : p ∈ zQ2 q ↔ hasQ q p = true := by
 unfold zQ2
 rw [zau9, List.mem_append, zbX1 h, or_comm]
theorem SoundP.lens {q : Queue} (h : SoundP q) : q.holds.length ≤ 8 ∧ q.converts.length ≤ 8 ∧ q.waits.length ≤ 8 ∧ zx9 q ≤ 16 := by
 have := h.cl; have := h.wl; have := zK9 h.hv
 unfold zx9; omega
theorem zbc7 {q : Queue} (h : SoundP q) : zd8 q = !canQ q := by
 unfold zd8
 rw [(zaz9 q).2 h, Bool.true_and]; rfl
theorem zaJ3 (g : Queue × List Hold) (hs : SoundP g.1) (hg : g.2.length ≤ 1000000) : zB3 g = some (if canQ g.1 = true then .inl (zak0 g) else .inr g) := by
 unfold zB3
 rw [zaj9, Option.bind_some, zbc7 hs]
 cases hc : canQ g.1 with
 | false => simp
 | true =>
  obtain ⟨h1, _, hl⟩ := zN9 hc
  rw [if_pos (by simp), zax6, Option.bind_some, if_pos rfl]
  unfold zak0 popQ
  by_cases h0 : 0 < g.1.converts.length
  ·rw [if_pos (by simpa using h0), zb2 (by omega), if_pos h0]
   unfold zw2
   rw [zaa2 _ _ _ (by simp only; omega), Option.bind_some, zb2 (by omega)]
  ·rw [if_neg (by simpa using h0), if_neg h0]
   have hw : 0 < g.1.waits.length := by unfold zx9 at h1; omega
   rw [zb2 (by omega)]
   unfold zw2
   rw [zaa2 _ _ _ (by simp only; omega), Option.bind_some, zb2 (by omega)]
theorem zaJ4 {q : Queue} (h : SoundP q) : zo9 q = some (advS q, advG q) := by
 unfold zo9
 have hl := h.lens
 rw [zad8, Option.bind_some, (zaz9 q).2 h, if_neg (by decide), zah6 q (by omega) (by omega) (by omega), Option.bind_some]
 have key := zaW4 (body := zB3) (fun g => SoundP g.1 ∧ zx9 g.1 + g.2.length ≤ 1000) (fun g => zx9 g.1) (fun g => advN (zx9 g.1) g) (fun g hg => by
  rw [zaJ3 g hg.1 (by omega)]
  cases hc : canQ g.1 with
  | false => right; rw [if_neg (by decide), zak1, if_neg (by rw [hc]; decide)]
  | true =>
   left
   obtain ⟨h1, h2, _⟩ := zN9 hc
   refine ⟨zak0 g, by rw [if_pos rfl], ⟨hg.1.pop hc, ?_⟩, ?_, ?_⟩
   ·unfold zak0; simp only [List.length_append, List.length_cons, List.length_nil]; omega
   ·show zx9 (popQ g.1) < zx9 g.1; omega
   ·rw [zak1 g, if_pos hc]) (q, []) ⟨h, by simp only [List.length_nil]; omega⟩
 rw [key]
 rfl
theorem zO0 {q : Queue} (h : SoundP q) : zh3 q = some (zC7 q) := by
 unfold zh3; rw [zaJ4 h, Option.bind_some, zbW8]; rfl
theorem zbr4 (p : Proc) (pr : Int) : (((!(zb3 p)) || (decide (pr < 0))) || (decide (7 < pr))) = !zas5 p pr := by
 unfold zas5
 generalize zb3 p = b
 rw [Bool.eq_iff_iff]
 cases b
 ·simp
 ·simp
theorem zX1 (q : Queue) (h : zx9 q ≤ 1000) : zd7 q = some (advG q, advS q) := zaI7 q h
theorem zaY8 (q : Queue) (p : Proc) (a : Amount) (pr : Int) : zo4 q p a pr = some (zL3 q p a pr) := by
 unfold zo4 zL3
 rw [zT6, Option.bind_some]
 cases h1 : zd8 q with
 | false => rfl
 | true =>
  obtain ⟨hs, hcan⟩ := (zv2 q).1 h1
  have hl := hs.lens
  rw [ifNT, ifTF, zbr4]
  cases h2 : zas5 p pr with
  | false => rfl
  | true =>
   rw [ifNT, ifTF]
   cases h3 : za9 q.resource a with
   | false => rfl
   | true =>
    rw [ifNT, ifTF, zao1 q p (by omega) (by omega), Option.bind_some]
    cases h4 : (zD3 q p).2 with
    | true => rfl
    | false =>
     rw [ifFT, ifFT, zaI6 q (by omega) (by omega) (by omega), Option.bind_some, zD2 q p (by omega), Option.bind_some, zW0, Option.bind_some]
     cases h5 : covA q.resource (getH q.holds p) a with
     | true => rfl
     | false =>
      rw [ifFT, ifFT]
      by_cases h6 : getH q.holds p = Amount.zero
      ·rw [if_neg (by rw [(zE5 _).2 h6]; decide), if_neg (show ¬ getH q.holds p ≠ Amount.zero from fun k => k h6), zf1 (by omega) (by omega)]
       by_cases h7 : 8 ≤ q.holds.length + q.waits.length
       ·rw [if_pos (by simp; omega), if_pos h7]; rfl
       ·rw [if_neg (by simp; omega), if_neg h7, zaW9, Option.bind_some]
        have hi := zby1 hs h3 h2 h4 (p := p) (a := a) (pr := pr) (by omega)
        have e : ({ Wait.zero with proc := p, amount := a, priority := pr } : Wait) = ⟨p, a, pr, 0⟩ := rfl
        rw [e, hi, if_neg (by simp)]
        have hsc := hs.claimW h3 h2 h4 h6 (by omega) (p := p) (a := a) (pr := pr)
        have hl2 := hsc.lens
        unfold zj2 zj1 zC0
        rw [zb2 (by decide), Option.bind_some]
        have hq : (⟨(⟨q.resource.name, q.resource.kind, q.resource.units, q.resource.home⟩ : Resource), q.holds, q.converts, (claimW q p a pr).waits, q.gen⟩ : Queue) = claimW q p a pr := rfl
        simp only [hq]
        rw [zX1 _ (by omega)]
        simp only [Option.bind_some]
        unfold zC7
        rw [(zaQ3 (claimW q p a pr)).1]
      ·rw [if_pos (by rw [(zL2 _).2 h6]; rfl), if_pos h6]
       have hsc := hs.claimC h3 h4 h5 h6
       have hl2 := hsc.lens
       unfold zk6 zj0 zD5
       rw [zb2 (by decide), zaX7, Option.bind_some, zb2 (by omega), Option.bind_some]
       have hq : (⟨(⟨q.resource.name, q.resource.kind, q.resource.units, q.resource.home⟩ : Resource), q.holds, q.converts ++ [{ Wait.zero with proc := p, amount := zO3 q.resource (getH q.holds p) a }], q.waits, q.gen⟩ : Queue) = claimC q p a := rfl
       simp only [hq]
       rw [zX1 _ (by omega)]
       simp only [Option.bind_some]
       unfold zC7
       rw [(zaQ3 (claimC q p a)).1]
theorem zaY9 (q : Queue) (p : Proc) (a : Amount) (pr : Int) : zp0 q p a pr = some (zL3 q p a pr) := by
 unfold zp0 zL3
 rw [zT7, Option.bind_some]
 cases h1 : zd8 q with
 | false => rfl
 | true =>
  obtain ⟨hs, hcan⟩ := (zv2 q).1 h1
  have hl := hs.lens
  rw [ifNT, ifTF, zaD0, zbr4]
  cases h2 : zas5 p pr with
  | false => rfl
  | true =>
   rw [ifNT, ifTF, zau4]
   cases h3 : za9 q.resource a with
   | false => rfl
   | true =>
    rw [ifNT, ifTF, zZ4 q p (by omega) (by omega), Option.bind_some]
    cases h4 : (zD3 q p).2 with
    | true => rfl
    | false =>
     rw [ifFT, ifFT, zaO4 q (by omega) (by omega) (by omega), Option.bind_some, zah3 q p (by omega), Option.bind_some]
     have hcv : zg3 q.resource (getH q.holds p) a = covA q.resource (getH q.holds p) a := rfl
     rw [hcv]
     cases h5 : covA q.resource (getH q.holds p) a with
     | true => rfl
     | false =>
      rw [ifFT, ifFT, zaf9]
      by_cases h6 : getH q.holds p = Amount.zero
      ·rw [if_neg (by rw [(zE5 _).2 h6]; decide), if_neg (show ¬ getH q.holds p ≠ Amount.zero from fun k => k h6), zf1 (by omega) (by omega)]
       by_cases h7 : 8 ≤ q.holds.length + q.waits.length
       ·rw [if_pos (by simp; omega), if_pos h7]; rfl
       ·rw [if_neg (by simp; omega), if_neg h7, zaO1, Option.bind_some]
        have hi := zby1 hs h3 h2 h4 (p := p) (a := a) (pr := pr) (by omega)
        have e : ({ Wait.zero with proc := p, amount := a, priority := pr } : Wait) = ⟨p, a, pr, 0⟩ := rfl
        rw [e, hi, if_neg (by simp)]
        have hsc := hs.claimW h3 h2 h4 h6 (by omega) (p := p) (a := a) (pr := pr)
        have hq : (⟨(⟨q.resource.name, q.resource.kind, q.resource.units, q.resource.home⟩ : Resource), q.holds, q.converts, (claimW q p a pr).waits, q.gen⟩ : Queue) = claimW q p a pr := rfl
        simp only [hq]
        rw [zO0 hsc]; rfl
      ·rw [if_pos (by rw [(zL2 _).2 h6]; rfl), if_pos h6]
       have hsc := hs.claimC h3 h4 h5 h6
       rw [zbc5, Option.bind_some, zb2 (by omega)]
       have hq : (⟨(⟨q.resource.name, q.resource.kind, q.resource.units, q.resource.home⟩ : Resource), q.holds, q.converts ++ [{ Wait.zero with proc := p, amount := zO3 q.resource (getH q.holds p) a }], q.waits, q.gen⟩ : Queue) = claimC q p a := rfl
       rw [hq, zO0 hsc]; rfl
theorem zaO5 (q : Queue) (p : Proc) : zu6 q p = some (zG6 q p) := by
 unfold zu6 zG6
 rw [zT6, Option.bind_some]
 cases h1 : zd8 q with
 | false => rfl
 | true =>
  obtain ⟨hs, hcan⟩ := (zv2 q).1 h1
  have hl := hs.lens
  rw [ifNT, ifTF, zao1 q p (by omega) (by omega), Option.bind_some]
  cases h4 : (zD3 q p).2 with
  | false => rfl
  | true =>
   rw [ifNT, ifTF, zas1 q (by omega) (by omega) (by omega), Option.bind_some]
   have hsc := hs.cancel p
   have hl2 := hsc.lens
   unfold zq5 zn9 zo0 zC5
   rw [zb2 (by decide), zad5 _ _ (by omega), Option.bind_some, Option.bind_some, zb2 (by decide), zad5 _ _ (by simp only; omega), Option.bind_some, Option.bind_some]
   have hq : ({ { q with converts := rmL q.converts p } with waits := rmL q.waits p } : Queue) = zaa3 q p := rfl
   simp only [hq]
   rw [zX1 _ (by omega)]
   simp only [Option.bind_some]
   unfold zC7
   rw [(zaQ3 (zaa3 q p)).1]
theorem zaO6 (q : Queue) (p : Proc) : zr8 q p = some (zG6 q p) := by
 unfold zr8 zG6
 rw [zT7, Option.bind_some]
 cases h1 : zd8 q with
 | false => rfl
 | true =>
  obtain ⟨hs, hcan⟩ := (zv2 q).1 h1
  have hl := hs.lens
  rw [ifNT, ifTF, zZ4 q p (by omega) (by omega), Option.bind_some]
  cases h4 : (zD3 q p).2 with
  | false => rfl
  | true =>
   rw [ifNT, ifTF, zah6 q (by omega) (by omega) (by omega), Option.bind_some, zao0 _ _ (by omega), Option.bind_some, zao0 _ _ (by simp only; omega), Option.bind_some]
   have hq : ({ { q with converts := rmL q.converts p } with waits := rmL q.waits p } : Queue) = zaa3 q p := rfl
   simp only [hq]
   rw [zO0 (hs.cancel p)]; rfl
theorem zbB9 {q : Queue} (hs : SoundP q) {p : Proc} (hz : getH q.holds p ≠ Amount.zero) : decide (0 ≤ zy6 q.converts p) = (zD3 q p).2 := by
 rw [Bool.eq_iff_iff, zaY2, decide_eq_true_eq]
 constructor
 ·intro h
  refine Classical.byContradiction fun hno => ?_
  have : ∀ w ∈ q.converts, w.proc ≠ p := fun w hw e => hno ⟨w, List.mem_append_left _ hw, e⟩
  exact zaI3.2 this h
 ·rintro ⟨w, hw, e⟩
  rcases List.mem_append.1 hw with hw | hw
  ·refine Classical.byContradiction fun hno => ?_
   exact zaI3.1 hno w hw e
  ·exact absurd (by rw [← e]; exact (hs.wg w hw).2) hz
theorem zaZ0 (q : Queue) (p : Proc) (a : Amount) : zx1 q p a = some (zB5 q p a) := by
 unfold zx1 zB5
 rw [zT6, Option.bind_some]
 cases h1 : zd8 q with
 | false => rfl
 | true =>
  obtain ⟨hs, hcan⟩ := (zv2 q).1 h1
  have hl := hs.lens
  rw [ifNT, ifTF, zD2 q p (by omega), Option.bind_some]
  by_cases h6 : getH q.holds p = Amount.zero
  ·rw [if_pos ((zE5 _).2 h6), if_pos h6]; rfl
  ·rw [if_neg (by rw [(zL2 _).2 h6]; decide), if_neg h6, zN8 _ _ (by omega), Option.bind_some, zbB9 hs h6]
   cases h4 : (zD3 q p).2 with
   | true => rfl
   | false =>
    rw [ifFT, ifFT, zW0, Option.bind_some]
    cases h5 : covA q.resource (getH q.holds p) a with
    | false => rfl
    | true =>
     rw [ifNT, ifTF, zas1 q (by omega) (by omega) (by omega), Option.bind_some]
     by_cases h7 : getH q.holds p = a
     ·rw [if_pos (by simp [h7]), if_pos h7]
     ·rw [if_neg (by simpa using fun e => h7 e.symm), if_neg h7]
      have hsc := hs.lower h4 h6 h5
      have hl2 := hsc.lens
      unfold zq7 zq6 zC6
      rw [zb2 (by decide), zT5 _ _ _ (by omega), Option.bind_some, Option.bind_some]
      have hq : ({ q with holds := setL q.holds p a } : Queue) = zah7 q p a := rfl
      simp only [hq]
      rw [zX1 _ (by omega)]
      simp only [Option.bind_some]
      unfold zC7
      rw [(zaQ3 (zah7 q p a)).1]
theorem zaZ1 (q : Queue) (p : Proc) (a : Amount) : zt7 q p a = some (zB5 q p a) := by
 unfold zt7 zB5
 rw [zT7, Option.bind_some]
 cases h1 : zd8 q with
 | false => rfl
 | true =>
  obtain ⟨hs, hcan⟩ := (zv2 q).1 h1
  have hl := hs.lens
  rw [ifNT, ifTF, zah3 q p (by omega), Option.bind_some, zaf9]
  by_cases h6 : getH q.holds p = Amount.zero
  ·rw [if_pos ((zE5 _).2 h6), if_pos h6]; rfl
  ·rw [if_neg (by rw [(zL2 _).2 h6]; decide), if_neg h6, zZ4 q p (by omega) (by omega), Option.bind_some]
   cases h4 : (zD3 q p).2 with
   | true => rfl
   | false =>
    have hcv : zg3 q.resource (getH q.holds p) a = covA q.resource (getH q.holds p) a := rfl
    rw [ifFT, ifFT, hcv]
    cases h5 : covA q.resource (getH q.holds p) a with
    | false => rfl
    | true =>
     rw [ifNT, ifTF, zah6 q (by omega) (by omega) (by omega), Option.bind_some]
     by_cases h7 : getH q.holds p = a
     ·rw [if_pos (by simp [h7]), if_pos h7]
     ·rw [if_neg (by simpa using h7), if_neg h7, zaa2 _ _ _ (by omega), Option.bind_some]
      have hq : ({ q with holds := setL q.holds p a } : Queue) = zah7 q p a := rfl
      simp only [hq]
      rw [zO0 (hs.lower h4 h6 h5)]; rfl
end Ab
end Go.Proofs.YtfjeceicgfdmjaaGreatDoor
namespace Go.Proofs.YtfjeceicgfdmjaaGreatDoor
namespace Ab
set_option linter.unusedVariables false
set_option linter.unusedSimpArgs false
def zas7 (x : Queue × List Hold × Int) : Prop := x.1.holds.length ≤ 8 ∧ x.1.converts.length ≤ 8 ∧ x.1.waits.length ≤ 8 ∧ x.2.1.length ≤ 16
theorem zaJ5 (e : Int) : zas7 (errQ e) := by unfold zas7 errQ Queue.zero; simp
theorem zX2 {q : Queue} (h : SoundP q) : zas7 (zC7 q) := by
 have h1 := (h.adv).lens
 have h2 := zbS6 q
 have h3 := h.lens
 exact ⟨h1.1, h1.2.1, h1.2.2.1, by show (advG q).length ≤ 16; omega⟩
theorem zaZ2 {q : Queue} (h : SoundP q) : zas7 (q, [], 0) := by
 have h1 := h.lens
 exact ⟨h1.1, h1.2.1, h1.2.2.1, by simp⟩
theorem zbu9 {q : Queue} {p : Proc} {a : Amount} {pr : Int} (h : (zL3 q p a pr).2.2 ≠ 0) : ∃ e, zL3 q p a pr = errQ e := by
 unfold zL3 at h ⊢
 split; · exact ⟨_, rfl⟩
 split; · exact ⟨_, rfl⟩
 split; · exact ⟨_, rfl⟩
 split; · exact ⟨_, rfl⟩
 rename_i h1 h2 h3 h4
 rw [if_neg h1, if_neg h2, if_neg h3, if_neg h4] at h
 split
 ·rename_i h5; rw [if_pos h5] at h; exact absurd rfl h
 rename_i h5; rw [if_neg h5] at h
 split
 ·rename_i h6; rw [if_pos h6] at h; exact absurd rfl h
 rename_i h6; rw [if_neg h6] at h
 split
 ·exact ⟨_, rfl⟩
 ·rename_i h7; rw [if_neg h7] at h; exact absurd rfl h
theorem zbr5 {q : Queue} {p : Proc} (h : (zG6 q p).2.2 ≠ 0) : ∃ e, zG6 q p = errQ e := by
 unfold zG6 at h ⊢
 split; · exact ⟨_, rfl⟩
 split; · exact ⟨_, rfl⟩
 rename_i h1 h2
 rw [if_neg h1, if_neg h2] at h
 exact absurd rfl h
theorem zbv0 {q : Queue} {p : Proc} {a : Amount} (h : (zB5 q p a).2.2 ≠ 0) : ∃ e, zB5 q p a = errQ e := by
 unfold zB5 at h ⊢
 split; · exact ⟨_, rfl⟩
 split; · exact ⟨_, rfl⟩
 split; · exact ⟨_, rfl⟩
 split; · exact ⟨_, rfl⟩
 rename_i h1 h2 h3 h4
 rw [if_neg h1, if_neg h2, if_neg h3, if_neg h4] at h
 split
 ·rename_i h5; rw [if_pos h5] at h; exact absurd rfl h
 ·rename_i h5; rw [if_neg h5] at h; exact absurd rfl h
theorem zam3 (q : Queue) (p : Proc) (a : Amount) (pr : Int) : zas7 (zL3 q p a pr) := by
 by_cases h : (zL3 q p a pr).2.2 = 0
 ·obtain ⟨hs, _, _, _, _, hh⟩ := zbB6 h
  rcases hh with ⟨_, e⟩ | ⟨_, _, e, hc⟩ | ⟨_, _, _, e, hc⟩
  ·rw [e]; exact zaZ2 hs
  ·rw [e]; exact zX2 hc
  ·rw [e]; exact zX2 hc
 ·obtain ⟨e, he⟩ := zbu9 h; rw [he]; exact zaJ5 e
theorem zah8 (q : Queue) (p : Proc) : zas7 (zG6 q p) := by
 by_cases h : (zG6 q p).2.2 = 0
 ·obtain ⟨_, _, _, e, hc⟩ := zbu5 h; rw [e]; exact zX2 hc
 ·obtain ⟨e, he⟩ := zbr5 h; rw [he]; exact zaJ5 e
theorem zam4 (q : Queue) (p : Proc) (a : Amount) : zas7 (zB5 q p a) := by
 by_cases h : (zB5 q p a).2.2 = 0
 ·obtain ⟨hs, _, _, _, _, hh⟩ := zbg3 h
  rcases hh with ⟨_, e⟩ | ⟨_, e, hc⟩
  ·rw [e]; exact zaZ2 hs
  ·rw [e]; exact zX2 hc
 ·obtain ⟨e, he⟩ := zbv0 h; rw [he]; exact zaJ5 e
end Ab
end Go.Proofs.YtfjeceicgfdmjaaGreatDoor
namespace Go.Proofs.YtfjeceicgfdmjaaGreatDoor
namespace Ab
set_option linter.unusedVariables false
set_option linter.unusedSimpArgs false
theorem zdZ9 (n m : Int) (h1 : 1 ≤ m) (h2 : m ≤ 1000000) : zp9 n m = some (n % m) := by
  unfold zp9
  rw [if_neg (by simp; omega), gdp (by omega)]
  have hlt : n.tmod m < m := Int.tmod_lt_of_pos n (by omega)
  have hgt : -m < n.tmod m := by have := Int.lt_tmod_of_pos n (show 0 < m by omega); omega
  have e : n % m = if n.tmod m < 0 then n.tmod m + m else n.tmod m := by
    rw [Int.emod_eq_tmod]
    by_cases h3 : 0 ≤ n ∨ m ∣ n
    · rw [if_pos h3]
      have : 0 ≤ n.tmod m := by
        rcases h3 with h | h
        · exact Int.tmod_nonneg m h
        · rw [Int.tmod_eq_zero_of_dvd h]; omega
      rw [if_neg (by omega)]; omega
    · rw [if_neg h3]
      simp only [not_or] at h3
      have h5 : 0 ≤ (-n).tmod m := Int.tmod_nonneg m (by omega)
      rw [Int.neg_tmod] at h5
      have h6 : n.tmod m ≠ 0 := fun h => h3.2 (Int.dvd_of_tmod_eq_zero h)
      rw [if_pos (by omega)]; omega
  rw [e]
  by_cases hc : n.tmod m < 0
  · rw [if_pos (by simpa using hc), if_pos hc, zf1 (by omega) (by omega)]
  · rw [if_neg (by simpa using hc), if_neg hc]
def zbT1 (n : Int) : Proc := ⟨(n % 8) % 4, 1, 1 + (n % 8) / 4⟩
theorem zbl1 (n : Int) : zq3 n = some (zbT1 n) := by
  unfold zq3 zbT1
  rw [zdZ9 n 8 (by decide) (by decide), Option.bind_some]
  have h1 : 0 ≤ n % 8 := Int.emod_nonneg _ (by decide)
  have h2 : n % 8 < 8 := Int.emod_lt_of_pos _ (by decide)
  rw [Int.tmod_eq_emod_of_nonneg h1, Int.tdiv_eq_ediv_of_nonneg h1, zf1 (x := n % 8 / 4) (by omega) (by omega), zf1 (by omega) (by omega)]
def zbr6 (p : Proc) : Prop := p.inc = 1 ∧ 0 ≤ p.site ∧ p.site < 4 ∧ 1 ≤ p.num ∧ p.num ≤ 2
theorem zbr6.valid {p : Proc} (h : zbr6 p) : zb3 p = true := by
  unfold zbr6 at h
  unfold zb3 zs1
  simp; omega
structure TapeOk (t : Tape) : Prop where
  len : t.l.length ≤ 1000000
  at_ : 0 ≤ t.at_ ∧ t.at_ ≤ t.l.length
def zbg4 (l : List Hold) : Prop := ∀ h ∈ l, zbr6 h.proc
theorem zbg4.sub {l m : List Hold} (h : zbg4 m) (hs : l.Sublist m) : zbg4 l := fun x hx => h x (hs.subset hx)
theorem zbg4.set {l : List Hold} {p : Proc} (h : zbg4 l) (hp : zbr6 p) (a : Amount) : zbg4 (setL l p a) := by
  intro x hx
  unfold setL at hx
  split at hx
  · exact h x (zaz7.1 hx).1
  · rcases List.mem_cons.1 ((zau7 p a _).mem_iff.1 hx) with rfl | hx
    · exact hp
    · exact h x (zaz7.1 hx).1
end Ab
end Go.Proofs.YtfjeceicgfdmjaaGreatDoor
namespace Go.Proofs.YtfjeceicgfdmjaaGreatDoor
namespace Ab
set_option linter.unusedVariables false
set_option linter.unusedSimpArgs false
def zam5 (r : Resource) : Queue := { Queue.zero with resource := r }
theorem zbg5 {α : Type} {l : List α} {i : Nat} {z : α} (h : i < l.length) : l.take (i + 1) = l.take i ++ [l.getD i z] := by
 rw [List.take_succ_eq_append_getElem h, List.getD_eq_getElem?_getD, List.getElem?_eq_getElem h]; rfl
theorem zO1 {q : Queue} (h : zd8 q = true) : q.holds.length ≤ 8 ∧ q.converts.length ≤ 8 ∧ q.waits.length ≤ 8 ∧ zx9 q ≤ 16 := ((zv2 q).1 h).1.lens
end Ab
end Go.Proofs.YtfjeceicgfdmjaaGreatDoor
