/-
  The queue's functions, both sides: each is its plain description.
-/
import Derived.Test.YtfjeceicgfdmjaaGreatDoorProcs
import Derived.Test.YtfjeceicgfdmjaaGreatDoorQueH
namespace Go.Proofs.YtfjeceicgfdmjaaGreatDoor
namespace Ab
set_option linter.unusedVariables false
set_option linter.unusedSimpArgs false
theorem ifNT {α : Type} (x y : α) : (if (!true) = true then x else y) = y := rfl
theorem ifTF {α : Type} (x y : α) : (if true = false then x else y) = y := rfl
theorem ifFT {α : Type} (x y : α) : (if false = true then x else y) = y := rfl
theorem zbm7 (l : List Proc) (hl : l.length ≤ 4294967296) : zb7 l = some (l.mergeSort fun x y => !decide (ltP y x)) := by
 unfold zb7
 rw [zb2 hl]
 congr 2
theorem zbO3 {l : List Proc} {i : Nat} (h : i + 1 < l.length) : l.take (i + 2) = l.take i ++ [l.getD i Proc.zero, l.getD (i + 1) Proc.zero] := by
 rw [List.take_succ_eq_append_getElem (by omega), List.take_succ_eq_append_getElem (by omega), List.append_assoc]
 congr 1
 rw [List.getD_eq_getElem?_getD, List.getElem?_eq_getElem (by omega), List.getD_eq_getElem?_getD, List.getElem?_eq_getElem h]
 rfl
theorem zaT6 {l : List Proc} {i : Nat} (h : i < l.length) : l.take (i + 1) = l.take i ++ [l.getD i Proc.zero] := by
 rw [List.take_succ_eq_append_getElem h]
 congr 1
 rw [List.getD_eq_getElem?_getD, List.getElem?_eq_getElem h]
 rfl
theorem zaT7 {l : List Proc} {i : Nat} (h : i + 1 < l.length) : dst (l.take (i + 2)) = if l.getD i Proc.zero = l.getD (i + 1) Proc.zero then dst (l.take (i + 1)) else dst (l.take (i + 1)) ++ [l.getD (i + 1) Proc.zero] := by
 rw [zbO3 h, zbm6, ← zaT6 (by omega)]
theorem zaz8 {l m : List Proc} {i j : Nat} (h : l.drop i = m.drop i) (hij : i ≤ j) : l.getD j Proc.zero = m.getD j Proc.zero := by
 have e : ∀ x : List Proc, x.getD j Proc.zero = (x.drop i).getD (j - i) Proc.zero := fun x => by
  rw [List.getD_eq_getElem?_getD, List.getD_eq_getElem?_getD, List.getElem?_drop, show i + (j - i) = j by omega]
 rw [e l, e m, h]
theorem zaX1 (a : List Proc) (g : Nat) (hg : 1 ≤ g) (hgl : g < a.length) (hl : a.length ≤ 1000000) (he : a.getD g Proc.zero = a.getD (g - 1) Proc.zero) (hd : dst (a.take g) = a.take g) :
  ∃ x, zb6 (zg6 a g) ((g : Int), 1, a) = some x ∧ ∃ k : Nat, x.1 = (k : Int) ∧ x.2.length = a.length ∧ k ≤ a.length ∧ x.2.take k = dst a := by
 refine zae9 (fun s => ∃ k k2 : Nat, s.1 = (k : Int) ∧ s.2.1 = (k2 : Int) ∧ s.2.2.length = a.length ∧ 1 ≤ k2 ∧ g + k2 ≤ a.length ∧ k + 1 ≤ g + k2 ∧ s.2.2.take k = dst (a.take (g + k2)) ∧ s.2.2.drop (g + k2 - 1) = a.drop (g + k2 - 1)) (fun s => (a.length - s.2.1.toNat)) _ ?_ _ ?_
 ·rintro ⟨k, k2, s⟩ ⟨kn, k2n, h1, h2, h3, h4, h5, h6, h7, h8⟩
  simp only at h1 h2 h3 h7 h8
  subst h1; subst h2
  unfold zg6
  by_cases hlt : g + k2n < a.length
  ·left
   have w : IntKind.i64.wrap ((k2n : Int) - 1) = ((k2n - 1 : Nat) : Int) := by rw [zf2 (by omega) (by omega)]; omega
   have w2 : IntKind.i64.wrap ((k2n : Int) + 1) = ((k2n + 1 : Nat) : Int) := by rw [zf2 (by omega) (by omega)]; omega
   have w3 : IntKind.i64.wrap ((kn : Int) + 1) = ((kn + 1 : Nat) : Int) := by rw [zf2 (by omega) (by omega)]; omega
   have r1 : s.getD (g + k2n) Proc.zero = a.getD (g + k2n) Proc.zero := zaz8 h8 (by omega)
   have r2 : s.getD (g + (k2n - 1)) Proc.zero = a.getD (g + (k2n - 1)) Proc.zero := zaz8 h8 (by omega)
   have hdt := zaT7 (l := a) (i := g + (k2n - 1)) (by omega)
   rw [show g + (k2n - 1) + 2 = g + (k2n + 1) by omega, show g + (k2n - 1) + 1 = g + k2n by omega] at hdt
   simp only [Int.toNat_natCast, w, w2, w3]
   rw [if_pos (by simp; omega), zb2 (by omega), zb2 (by omega), r1, r2]
   by_cases hne : a.getD (g + k2n) Proc.zero = a.getD (g + (k2n - 1)) Proc.zero
   ·refine ⟨((kn : Int), ((k2n + 1 : Nat) : Int), s), by rw [if_neg (by simp only [hne, decide_true, Bool.not_true, Bool.false_eq_true, not_false_eq_true])], ⟨kn, k2n + 1, rfl, rfl, h3, by omega, by omega, by omega, ?_, ?_⟩, by simp only [Int.toNat_natCast]; omega⟩
    ·simp only
     rw [h7, hdt, if_pos hne.symm]
    ·simp only
     rw [show g + (k2n + 1) - 1 = (g + k2n - 1) + 1 by omega, ← List.drop_drop, ← List.drop_drop, h8]
   ·rw [if_pos (by simpa using hne), zb2 (by omega), zb2 (by omega)]
    refine ⟨(((kn + 1 : Nat) : Int), ((k2n + 1 : Nat) : Int), s.set kn (a.getD (g + k2n) Proc.zero)), rfl, ⟨kn + 1, k2n + 1, rfl, rfl, by simp [h3], by omega, by omega, by omega, ?_, ?_⟩, by simp only [Int.toNat_natCast]; omega⟩
    ·simp only
     rw [hdt, if_neg (fun e => hne e.symm), ← h7, zaT6 (by rw [List.length_set]; omega), List.take_set_of_le (by omega), zac6 _ _ _ _ (by omega)]
    ·simp only
     rw [List.drop_set_of_lt (by omega), show g + (k2n + 1) - 1 = (g + k2n - 1) + 1 by omega, ← List.drop_drop, ← List.drop_drop, h8]
  ·right
   refine ⟨((kn : Int), s), by simp only [Int.toNat_natCast]; rw [if_neg (by simp; omega)], kn, rfl, h3, by omega, ?_⟩
   simp only
   rw [h7, List.take_of_length_le (by omega)]
 ·refine ⟨g, 1, rfl, rfl, rfl, by omega, by omega, by omega, ?_, rfl⟩
  simp only
  have hdt := zaT7 (l := a) (i := g - 1) (by omega)
  rw [show g - 1 + 2 = g + 1 by omega, show g - 1 + 1 = g by omega, if_pos he.symm, hd] at hdt
  exact hdt.symm
theorem zbq9 (a : List Proc) (hl : a.length ≤ 1000000) : ∃ r, zc0 a = some (dst a, r) := by
 unfold zc0
 by_cases h2 : a.length < 2
 ·rw [if_pos (by simp; omega)]
  refine ⟨a, ?_⟩
  have : dst a = a := by
   match a, h2 with
   | [], _ => rfl
   | [x], _ => rfl
   | x :: y :: t, h => simp at h; omega
  rw [this]
 ·rw [if_neg (by simp; omega)]
  obtain ⟨x, hx, hp⟩ := zae9 (body := zg7 a) (fun g => ∃ n : Nat, g = (n : Int) ∧ 1 ≤ n ∧ n ≤ a.length ∧ dst (a.take n) = a.take n) (fun g => a.length - g.toNat)
   (fun x => match x with | .inl _ => dst a = a | .inr z => z.1 = dst a) (by
    rintro g ⟨n, rfl, h1, h3, h4⟩
    unfold zg7
    by_cases hlt : n < a.length
    ·have w : IntKind.i64.wrap ((n : Int) - 1) = ((n - 1 : Nat) : Int) := by rw [zf2 (by omega) (by omega)]; omega
     have w2 : IntKind.i64.wrap ((n : Int) + 1) = ((n + 1 : Nat) : Int) := by rw [zf2 (by omega) (by omega)]; omega
     rw [if_pos (by simp; omega), zb2 (by omega), w, w2, zb2 (by omega)]
     simp only [Int.toNat_natCast]
     by_cases he : a.getD n Proc.zero = a.getD (n - 1) Proc.zero
     ·right
      obtain ⟨x, hx, k, hk1, hk2, hk3, hk4⟩ := zaX1 a n h1 hlt hl he h4
      rw [if_pos (decide_eq_true he), zb2 (by omega), hx]
      obtain ⟨x1, x2⟩ := x
      simp only at hk1 hk2 hk4
      subst hk1
      rw [Option.bind_some]
      unfold zg5
      simp only [Int.toNat_natCast]
      rw [zb2 (by omega), zb2 (by omega)]
      refine ⟨_, rfl, ?_⟩
      simp only
      rw [List.drop_zero, List.append_assoc, List.take_append_of_le_length (by simp; omega), List.take_take, Nat.min_self, hk4]
     ·left
      refine ⟨((n + 1 : Nat) : Int), by rw [if_neg (by simpa using he)], ⟨n + 1, rfl, by omega, by omega, ?_⟩, by simp only [Int.toNat_natCast]; omega⟩
      have hdt := zaT7 (l := a) (i := n - 1) (by omega)
      rw [show n - 1 + 2 = n + 1 by omega, show n - 1 + 1 = n by omega, if_neg (fun e => he e.symm), h4, ← zaT6 hlt] at hdt
      exact hdt
    ·right
     refine ⟨.inl (), by rw [if_neg (by simp; omega)], ?_⟩
     simp only
     rw [List.take_of_length_le (by omega)] at h4
     exact h4) 1 ⟨1, rfl, by omega, by omega, by
      match a, h2 with
      | x :: t, _ => simp [dst]⟩
  rw [hx]
  cases x with
  | inl u =>
   simp only at hp
   refine ⟨a, ?_⟩
   rw [hp]; rfl
  | inr z =>
   simp only at hp
   refine ⟨z.2, ?_⟩
   rw [← hp]; rfl
theorem zaa0 (l : List Proc) (hl : l.length ≤ 1000000) : zh4 l = some (zat2 l) := by
 unfold zh4
 rw [zb2 (by omega), zbm7 l (by omega), Option.bind_some]
 obtain ⟨r, h⟩ := zbq9 (l.mergeSort fun x y => !decide (ltP y x)) (by rw [List.length_mergeSort]; exact hl)
 rw [h]
 simp only [Option.bind_some]
 rw [zby3 (zbf9 l) fun x => List.mem_mergeSort]
theorem zbO4 (l : List Proc) (p : Proc) (hl : l.length ≤ 1000000) : zc1 l p = some (decide (p ∈ l)) := by
 unfold zc1 zd2
 have key : zb6 (zf8 l p) 0 = some ((zp3 (fun i => if p = l.getD i Proc.zero then some (Sum.inr (i : Int)) else none) l.length 0).getD (Sum.inl ())) := by
  refine zr8 l.length _ (Sum.inl ()) (fun i hi => ?_) ?_
  ·unfold zf8
   rw [if_pos (by simpa using hi), zb2 (by omega), zf2 (by omega) (by omega)]
   simp only [Int.toNat_natCast, decide_eq_true_eq]
   split <;> rfl
  ·unfold zf8
   rw [if_neg (by simp)]
 rw [key]
 have fr : ∀ k i, i + k = l.length → (p ∈ l.drop i → ∃ j : Nat, zp3 (fun i => if p = l.getD i Proc.zero then some (Sum.inr (α := Unit) (i : Int)) else none) k i = some (.inr (j : Int))) ∧ (p ∉ l.drop i → zp3 (fun i => if p = l.getD i Proc.zero then some (Sum.inr (α := Unit) (i : Int)) else none) k i = none) := by
  intro k
  induction k with
  | zero => intro i hi; rw [List.drop_eq_nil_of_le (by omega)]; simp [zp3]
  | succ k ih =>
   intro i hi
   obtain ⟨h1, h2⟩ := ih (i + 1) (by omega)
   rw [zW6 l i Proc.zero (by omega)]
   simp only [zp3]
   by_cases hp : p = l.getD i Proc.zero
   ·rw [← hp]
    simp only [if_true, List.mem_cons, true_or, forall_const, not_true, false_implies, and_true]
    exact ⟨i, rfl⟩
   ·simp only [hp, if_false, List.mem_cons, false_or]
    exact ⟨h1, h2⟩
 obtain ⟨h1, h2⟩ := fr l.length 0 (by omega)
 rw [List.drop_zero] at h1 h2
 by_cases hp : p ∈ l
 ·obtain ⟨j, hj⟩ := h1 hp
  rw [hj]
  simp only [Option.getD_some, Option.bind_some, hp, decide_true, Option.some.injEq, decide_eq_true_eq]
  omega
 ·rw [h2 hp]
  simp only [Option.getD_none, Option.bind_some, hp, decide_false]
  rfl
theorem zag2 (l : List Proc) (p : Proc) (hl : l.length ≤ 1000000) : zj4 l p = some (decide (p ∈ l)) := by
 unfold zj4; rw [zbO4 l p hl]; rfl
theorem zaE3 (l : List Proc) (p : Proc) (hl : l.length ≤ 1000000) : zl7 l p = some (decide (p ∈ l)) := by
 unfold zl7
 have key := zY9 (body := zy6 l p) l Proc.zero (fun i (_ : Unit) => (i : Int)) (fun _ x _ => some (if x = p then .inr (Sum.inr true) else .inl ())) (fun _ => Sum.inl (β := Bool) ())
  (fun i s hi => by
   unfold zy6
   have h3 : 0 ≤ (i : Int) ∧ (i : Int) < (l.length : Int) := by omega
   simp only [h3.1, h3.2, and_self, zk7, decide_true, if_true, Int.toNat_natCast, zd4 i (by omega), Option.map_some, decide_eq_true_eq]
   split <;> rfl)
  (fun s => by unfold zy6; simp) ()
 rw [show (0 : Int) = (fun (i : Nat) (_ : Unit) => (i : Int)) 0 () from rfl, key]
 have fold : ∀ (l : List Proc) (i : Nat), walk (fun _ x (_ : Unit) => some (if x = p then .inr (Sum.inr true) else .inl ())) (fun _ => Sum.inl (β := Bool) ()) l i () = some (if p ∈ l then .inr true else .inl ()) := by
  intro l
  induction l with
  | nil => intro i; simp [walk]
  | cons x t ih =>
   intro i
   simp only [walk]
   by_cases e : x = p
   ·subst e; simp
   ·simp only [e, if_false, List.mem_cons, fun h : p = x => e h.symm, false_or]
    rw [ih]
    have : ¬ p = x := fun h => e h.symm
    simp [this]
 rw [fold]
 by_cases hp : p ∈ l <;> simp [hp, zD2]
theorem zaT8 (q : Queue) (h1 : q.converts.length ≤ 1000) (h2 : q.waits.length ≤ 1000) : zp9 q = some ((ordQ q).map (·.proc)) := by
 unfold zp9
 rw [zan5 q (by omega) (by omega), Option.bind_some]
 have hl : (q.converts ++ q.waits).length ≤ 2000 := by rw [List.length_append]; omega
 show _ = some ((q.converts ++ q.waits).map (·.proc))
 generalize q.converts ++ q.waits = l at hl
 have key := zp6 (body := zA9 l) l Wait.zero (fun i (s : List Proc) => ((i : Int), s)) (fun i h s => some (.inl (zaf1 s (some h.proc)))) (fun s => s) (fun i s => s.length ≤ i)
  (fun i s hi hs => by
   refine ⟨?_, fun s' h => ?_⟩
   ·unfold zA9
    have h1 : s.length + 1 ≤ 4294967296 := by omega
    have h3 : 0 ≤ (i : Int) ∧ (i : Int) < (l.length : Int) := by omega
    simp only [h1, h3.1, h3.2, and_self, zk7, decide_true, if_true, Int.toNat_natCast, zd4 i (by omega), Option.map_some, wmap, zaf1]
   ·simp only [Option.some.injEq, Sum.inl.injEq] at h; subst h; simp [zaf1]; omega)
  (fun s hs => by unfold zA9; simp) [] (by simp)
 rw [show ((0, []) : Int × List Proc) = (fun (i : Nat) (s : List Proc) => ((i : Int), s)) 0 [] from rfl, key, zaf2 (fun h : Wait => some h.proc)]
 simp [zH9]
theorem zav9 (l : List Hold) (hl : l.length ≤ 1000000) : zh3 l = some (l.map (·.proc)) := by
 have e : zh3 l = zE1 l := rfl
 rw [e]; exact zbN3 l hl
def zE7 (q : Queue) : List Proc := zat2 (q.holds.map (·.proc) ++ (ordQ q).map (·.proc))
theorem zao3 (q : Queue) (h0 : q.holds.length ≤ 1000) (h1 : q.converts.length ≤ 1000) (h2 : q.waits.length ≤ 1000) : zn8 q = some (zE7 q) := by
 unfold zn8 zE7
 have hl : (ordQ q).length ≤ 2000 := by unfold ordQ; rw [List.length_append]; omega
 rw [zav9 _ (by omega), Option.bind_some, zaT8 q h1 h2, Option.bind_some, zb2 (by simp; omega), zaa0 _ (by simp; omega)]
 rfl
theorem zaw0 {q : Queue} (h : SoundP q) {p : Proc} : p ∈ zE7 q ↔ hasQ q p = true := by
 unfold zE7
 rw [zap6, List.mem_append, zbT1 h, or_comm]
theorem SoundP.lens {q : Queue} (h : SoundP q) : q.holds.length ≤ 8 ∧ q.converts.length ≤ 8 ∧ q.waits.length ≤ 8 ∧ zv2 q ≤ 16 := by
 have := h.cl; have := h.wl; have := zM7 h.hv
 unfold zv2; omega
theorem zaX2 {q : Queue} (h : SoundP q) : zd5 q = !canQ q := by
 unfold zd5
 rw [(zav7 q).2 h, Bool.true_and]; rfl
theorem zaE4 (g : Queue × List Hold) (hs : SoundP g.1) (hg : g.2.length ≤ 1000000) : zy7 g = some (if canQ g.1 = true then .inl (zaf9 g) else .inr g) := by
 unfold zy7
 rw [zaf8, Option.bind_some, zaX2 hs]
 cases hc : canQ g.1 with
 | false => simp
 | true =>
  obtain ⟨h1, _, hl⟩ := zK1 hc
  rw [if_pos (by simp), zas9, Option.bind_some, if_pos rfl]
  unfold zaf9 popQ
  by_cases h0 : 0 < g.1.converts.length
  ·rw [if_pos (by simpa using h0), zb2 (by omega), if_pos h0]
   unfold zt2
   rw [zW3 _ _ _ (by simp only; omega), Option.bind_some, zb2 (by omega)]
  ·rw [if_neg (by simpa using h0), if_neg h0]
   have hw : 0 < g.1.waits.length := by unfold zv2 at h1; omega
   rw [zb2 (by omega)]
   unfold zt2
   rw [zW3 _ _ _ (by simp only; omega), Option.bind_some, zb2 (by omega)]
theorem zaE5 {q : Queue} (h : SoundP q) : zs3 q = some (advS q, advG q) := by
 unfold zs3
 have hl := h.lens
 rw [zZ5, Option.bind_some, (zav7 q).2 h, if_neg (by decide), zat0 q (by omega) (by omega) (by omega), Option.bind_some]
 have key := zbl0 (body := zy7) (fun g => SoundP g.1 ∧ zv2 g.1 + g.2.length ≤ 1000) (fun g => zv2 g.1) (fun g => advN (zv2 g.1) g) (fun g hg => by
  rw [zaE4 g hg.1 (by omega)]
  cases hc : canQ g.1 with
  | false => right; rw [if_neg (by decide), zag0, if_neg (by rw [hc]; decide)]
  | true =>
   left
   obtain ⟨h1, h2, _⟩ := zK1 hc
   refine ⟨zaf9 g, by rw [if_pos rfl], ⟨hg.1.pop hc, ?_⟩, ?_, ?_⟩
   ·unfold zaf9; simp only [List.length_append, List.length_cons, List.length_nil]; omega
   ·show zv2 (popQ g.1) < zv2 g.1; omega
   ·rw [zag0 g, if_pos hc]) (q, []) ⟨h, by simp only [List.length_nil]; omega⟩
 rw [key]
 rfl
theorem zaE6 {q : Queue} (h : SoundP q) : zi1 q = some (zw8 q) := by
 unfold zi1; rw [zaE5 h, Option.bind_some, zbS8]; rfl
theorem zbO5 (p : Proc) (pr : Int) : (((!(zb3 p)) || (decide (pr < 0))) || (decide (7 < pr))) = !zat1 p pr := by
 unfold zat1
 generalize zb3 p = b
 rw [Bool.eq_iff_iff]
 cases b
 ·simp
 ·simp
theorem zad1 (q : Queue) (h : zv2 q ≤ 1000) : ze0 q = some (advG q, advS q) := zaE0 q h
theorem zaT9 (q : Queue) (p : Proc) (a : Amount) (pr : Int) : zq2 q p a pr = some (zQ2 q p a pr) := by
 unfold zq2 zQ2
 rw [zZ6, Option.bind_some]
 cases h1 : zd5 q with
 | false => rfl
 | true =>
  obtain ⟨hs, hcan⟩ := (zx7 q).1 h1
  have hl := hs.lens
  rw [ifNT, ifTF, zbO5]
  cases h2 : zat1 p pr with
  | false => rfl
  | true =>
   rw [ifNT, ifTF]
   cases h3 : za9 q.resource a with
   | false => rfl
   | true =>
    rw [ifNT, ifTF, zaJ3 q p (by omega) (by omega), Option.bind_some]
    cases h4 : (zV7 q p).2 with
    | true => rfl
    | false =>
     rw [ifFT, ifFT, zaD9 q (by omega) (by omega) (by omega), Option.bind_some, zE3 q p (by omega), Option.bind_some, zaf7, Option.bind_some]
     cases h5 : covA q.resource (getH q.holds p) a with
     | true => rfl
     | false =>
      rw [ifFT, ifFT]
      by_cases h6 : getH q.holds p = Amount.zero
      ·rw [if_neg (by rw [(zL1 _).2 h6]; decide), if_neg (show ¬ getH q.holds p ≠ Amount.zero from fun k => k h6), zf2 (by omega) (by omega)]
       by_cases h7 : 8 ≤ q.holds.length + q.waits.length
       ·rw [if_pos (by simp; omega), if_pos h7]; rfl
       ·rw [if_neg (by simp; omega), if_neg h7, zaR7, Option.bind_some]
        have hi := zbT0 hs h3 h2 h4 (p := p) (a := a) (pr := pr) (by omega)
        have e : ({ Wait.zero with proc := p, amount := a, priority := pr } : Wait) = ⟨p, a, pr, 0⟩ := rfl
        rw [e, hi, if_neg (by simp)]
        have hsc := hs.claimW h3 h2 h4 h6 (by omega) (p := p) (a := a) (pr := pr)
        have hl2 := hsc.lens
        unfold zk4 zk3 zz6
        rw [zb2 (by decide), Option.bind_some]
        have hq : (⟨(⟨q.resource.name, q.resource.kind, q.resource.units, q.resource.home⟩ : Resource), q.holds, q.converts, (claimW q p a pr).waits, q.gen⟩ : Queue) = claimW q p a pr := rfl
        simp only [hq]
        rw [zad1 _ (by omega)]
        simp only [Option.bind_some]
        unfold zw8
        rw [(zaL0 (claimW q p a pr)).1]
      ·rw [if_pos (by rw [(zU5 _).2 h6]; rfl), if_pos h6]
       have hsc := hs.claimC h3 h4 h5 h6
       have hl2 := hsc.lens
       unfold zm5 zk2 zA6
       rw [zb2 (by decide), zaS5, Option.bind_some, zb2 (by omega), Option.bind_some]
       have hq : (⟨(⟨q.resource.name, q.resource.kind, q.resource.units, q.resource.home⟩ : Resource), q.holds, q.converts ++ [{ Wait.zero with proc := p, amount := zQ0 q.resource (getH q.holds p) a }], q.waits, q.gen⟩ : Queue) = claimC q p a := rfl
       simp only [hq]
       rw [zad1 _ (by omega)]
       simp only [Option.bind_some]
       unfold zw8
       rw [(zaL0 (claimC q p a)).1]
theorem zaJ6 (q : Queue) (p : Proc) : zy8 q p = some (zn2 q p) := by
 unfold zy8 zn2
 rw [zZ6, Option.bind_some]
 cases h1 : zd5 q with
 | false => rfl
 | true =>
  obtain ⟨hs, hcan⟩ := (zx7 q).1 h1
  have hl := hs.lens
  have hpl : (zE7 q).length ≤ 1000000 := by
   have := zba8 (q.holds.map (·.proc) ++ (ordQ q).map (·.proc))
   unfold zE7
   unfold ordQ at *
   simp only [List.length_append, List.length_map] at this
   omega
  rw [ifNT, ifTF, zao3 q (by omega) (by omega) (by omega), Option.bind_some, zag2 _ _ hpl, Option.bind_some]
  have he : decide (p ∈ zE7 q) = hasQ q p := by rw [Bool.eq_iff_iff, decide_eq_true_eq, zaw0 hs]
  rw [he]
  cases h4 : hasQ q p with
  | false => rfl
  | true =>
   rw [ifNT, ifTF, zaS6 q (by omega) (by omega) (by omega), Option.bind_some]
   have hsc := hs.del p
   have hl2 := hsc.lens
   unfold zr7 zp0 zp1 zp2 zz9
   rw [zb2 (by decide), zP8 _ _ _ (by omega), Option.bind_some, Option.bind_some, zb2 (by decide), zZ2 _ _ (by simp only; omega), Option.bind_some, Option.bind_some, zb2 (by decide), zZ2 _ _ (by simp only; omega), Option.bind_some, Option.bind_some]
   have hz : setL q.holds p ({ Amount.zero with }) = others p q.holds := if_pos rfl
   have hq : ({ { { q with holds := others p q.holds } with converts := rmL q.converts p } with waits := rmL q.waits p } : Queue) = del q p := rfl
   simp only [hz, hq]
   rw [zad1 _ (by omega)]
   simp only [Option.bind_some]
   unfold zw8
   rw [(zaL0 (del q p)).1]
theorem zaz9 (q : Queue) (p : Proc) (h0 : q.holds.length ≤ 1000000) (h1 : q.converts.length ≤ 1000000) (h2 : q.waits.length ≤ 1000000) : zC0 q p = some (hasQ q p) := by
 unfold zC0 hasQ
 rw [zaJ4 q p h1 h2, Option.bind_some, zas8 q p (by omega)]
 cases h : (zV7 q p).2 <;> simp [zap4]
theorem zaJ7 (q : Queue) (p : Proc) : zy9 q p = some (zn2 q p) := by
 unfold zy9 zn2
 rw [zan4, Option.bind_some]
 cases h1 : zd5 q with
 | false => rfl
 | true =>
  obtain ⟨hs, hcan⟩ := (zx7 q).1 h1
  have hl := hs.lens
  rw [ifNT, ifTF, zaz9 q p (by omega) (by omega) (by omega), Option.bind_some]
  cases h4 : hasQ q p with
  | false => rfl
  | true =>
   rw [ifNT, ifTF, zat0 q (by omega) (by omega) (by omega), Option.bind_some, zW3 _ _ _ (by omega), Option.bind_some, zaj6 _ _ (by simp only; omega), Option.bind_some, zaj6 _ _ (by simp only; omega), Option.bind_some]
   have hz : setL q.holds p ({ Amount.zero with }) = others p q.holds := if_pos rfl
   have hq : ({ { { q with holds := others p q.holds } with converts := rmL q.converts p } with waits := rmL q.waits p } : Queue) = del q p := rfl
   simp only [hz, hq]
   rw [zaE6 (hs.del p)]; rfl
end Ab
end Go.Proofs.YtfjeceicgfdmjaaGreatDoor
namespace Go.Proofs.YtfjeceicgfdmjaaGreatDoor
namespace Ab
set_option linter.unusedVariables false
set_option linter.unusedSimpArgs false
def zaE7 (x : Queue × List Hold × Int) : Prop := x.1.holds.length ≤ 8 ∧ x.1.converts.length ≤ 8 ∧ x.1.waits.length ≤ 8 ∧ x.2.1.length ≤ 16
theorem zba9 (e : Int) : zaE7 (errQ e) := by unfold zaE7 errQ Queue.zero; simp
theorem zad2 {q : Queue} (h : SoundP q) : zaE7 (zw8 q) := by
 have h1 := (h.adv).lens
 have h2 := zbN9 q
 have h3 := h.lens
 exact ⟨h1.1, h1.2.1, h1.2.2.1, by show (advG q).length ≤ 16; omega⟩
theorem zbr0 {q : Queue} (h : SoundP q) : zaE7 (q, [], 0) := by
 have h1 := h.lens
 exact ⟨h1.1, h1.2.1, h1.2.2.1, by simp⟩
theorem zbr1 {q : Queue} {p : Proc} {a : Amount} {pr : Int} (h : (zQ2 q p a pr).2.2 ≠ 0) : ∃ e, zQ2 q p a pr = errQ e := by
 unfold zQ2 at h ⊢
 split; · exact ⟨_, rfl⟩
 split; · exact ⟨_, rfl⟩
 split; · exact ⟨_, rfl⟩
 split; · exact ⟨_, rfl⟩
 rename_i h1 h2 h3 h4
 rw [if_neg h1, if_neg h2, if_neg h3, if_neg h4] at h
 split
 ·rename_i h5; rw [if_pos h5] at h; exact absurd rfl h
 rename_i h5; rw [if_neg h5] at h
 split
 ·rename_i h6; rw [if_pos h6] at h; exact absurd rfl h
 rename_i h6; rw [if_neg h6] at h
 split
 ·exact ⟨_, rfl⟩
 ·rename_i h7; rw [if_neg h7] at h; exact absurd rfl h
theorem zbm8 {q : Queue} {p : Proc} (h : (zn2 q p).2.2 ≠ 0) : ∃ e, zn2 q p = errQ e := by
 unfold zn2 at h ⊢
 split; · exact ⟨_, rfl⟩
 split; · exact ⟨_, rfl⟩
 rename_i h1 h2
 rw [if_neg h1, if_neg h2] at h
 exact absurd rfl h
theorem zbg0 (q : Queue) (p : Proc) (a : Amount) (pr : Int) : zaE7 (zQ2 q p a pr) := by
 by_cases h : (zQ2 q p a pr).2.2 = 0
 ·obtain ⟨hs, _, _, _, _, hh⟩ := zby2 h
  rcases hh with ⟨_, e⟩ | ⟨_, _, e, hc⟩ | ⟨_, _, _, e, hc⟩
  ·rw [e]; exact zbr0 hs
  ·rw [e]; exact zad2 hc
  ·rw [e]; exact zad2 hc
 ·obtain ⟨e, he⟩ := zbr1 h; rw [he]; exact zba9 e
theorem zad3 (q : Queue) (p : Proc) : zaE7 (zn2 q p) := by
 by_cases h : (zn2 q p).2.2 = 0
 ·obtain ⟨_, _, _, e, hc⟩ := zaT5 h; rw [e]; exact zad2 hc
 ·obtain ⟨e, he⟩ := zbm8 h; rw [he]; exact zba9 e
end Ab
end Go.Proofs.YtfjeceicgfdmjaaGreatDoor
namespace Go.Proofs.YtfjeceicgfdmjaaGreatDoor
namespace Ab
set_option linter.unusedVariables false
set_option linter.unusedSimpArgs false
theorem zdO5 (n m : Int) (h1 : 1 ≤ m) (h2 : m ≤ 1000000) : zr2 n m = some (n % m) := by
  unfold zr2
  rw [if_neg (by simp; omega), gdp (by omega)]
  have hlt : n.tmod m < m := Int.tmod_lt_of_pos n (by omega)
  have hgt : -m < n.tmod m := by have := Int.lt_tmod_of_pos n (show 0 < m by omega); omega
  have e : n % m = if n.tmod m < 0 then n.tmod m + m else n.tmod m := by
    rw [Int.emod_eq_tmod]
    by_cases h3 : 0 ≤ n ∨ m ∣ n
    · rw [if_pos h3]
      have : 0 ≤ n.tmod m := by
        rcases h3 with h | h
        · exact Int.tmod_nonneg m h
        · rw [Int.tmod_eq_zero_of_dvd h]; omega
      rw [if_neg (by omega)]; omega
    · rw [if_neg h3]
      simp only [not_or] at h3
      have h5 : 0 ≤ (-n).tmod m := Int.tmod_nonneg m (by omega)
      rw [Int.neg_tmod] at h5
      have h6 : n.tmod m ≠ 0 := fun h => h3.2 (Int.dvd_of_tmod_eq_zero h)
      rw [if_pos (by omega)]; omega
  rw [e]
  by_cases hc : n.tmod m < 0
  · rw [if_pos (by simpa using hc), if_pos hc, zf2 (by omega) (by omega)]
  · rw [if_neg (by simpa using hc), if_neg hc]
def zbO6 (n : Int) : Proc := ⟨(n % 8) % 4, 1, 1 + (n % 8) / 4⟩
theorem zbg1 (n : Int) : zs1 n = some (zbO6 n) := by
  unfold zs1 zbO6
  rw [zdO5 n 8 (by decide) (by decide), Option.bind_some]
  have h1 : 0 ≤ n % 8 := Int.emod_nonneg _ (by decide)
  have h2 : n % 8 < 8 := Int.emod_lt_of_pos _ (by decide)
  rw [Int.tmod_eq_emod_of_nonneg h1, Int.tdiv_eq_ediv_of_nonneg h1, zf2 (x := n % 8 / 4) (by omega) (by omega), zf2 (by omega) (by omega)]
def zbm9 (p : Proc) : Prop := p.inc = 1 ∧ 0 ≤ p.site ∧ p.site < 4 ∧ 1 ≤ p.num ∧ p.num ≤ 2
theorem zbm9.valid {p : Proc} (h : zbm9 p) : zb3 p = true := by
  unfold zbm9 at h
  unfold zb3 zo3
  simp; omega
structure TapeOk (t : Tape) : Prop where
  len : t.l.length ≤ 1000000
  at_ : 0 ≤ t.at_ ∧ t.at_ ≤ t.l.length
def zbb0 (l : List Hold) : Prop := ∀ h ∈ l, zbm9 h.proc
theorem zbb0.sub {l m : List Hold} (h : zbb0 m) (hs : l.Sublist m) : zbb0 l := fun x hx => h x (hs.subset hx)
theorem zbb0.set {l : List Hold} {p : Proc} (h : zbb0 l) (hp : zbm9 p) (a : Amount) : zbb0 (setL l p a) := by
  intro x hx
  unfold setL at hx
  split at hx
  · exact h x (zav5.1 hx).1
  · rcases List.mem_cons.1 ((zbx5 p a _).mem_iff.1 hx) with rfl | hx
    · exact hp
    · exact h x (zav5.1 hx).1
end Ab
end Go.Proofs.YtfjeceicgfdmjaaGreatDoor
namespace Go.Proofs.YtfjeceicgfdmjaaGreatDoor
namespace Ab
set_option linter.unusedVariables false
set_option linter.unusedSimpArgs false
def zaU0 (r : Resource) : Queue := { Queue.zero with resource := r }
theorem zap7 {α : Type} {l : List α} {i : Nat} {z : α} (h : i < l.length) : l.take (i + 1) = l.take i ++ [l.getD i z] := by
 rw [List.take_succ_eq_append_getElem h, List.getD_eq_getElem?_getD, List.getElem?_eq_getElem h]; rfl
theorem zK2 {q : Queue} (h : zd5 q = true) : q.holds.length ≤ 8 ∧ q.converts.length ≤ 8 ∧ q.waits.length ≤ 8 ∧ zv2 q ≤ 16 := ((zx7 q).1 h).1.lens
theorem zbn0 {q : Queue} (h : zd5 q = true) {p : Proc} (hp : hasQ q p = true) : (zn2 q p).2.2 = 0 ∧ (zn2 q p).1 = remN q p := by
 have e := zav8 h hp
 have h0 : (zn2 q p).2.2 = 0 := by rw [e]; rfl
 refine ⟨h0, ?_⟩
 unfold remN; rw [if_pos h0]
end Ab
end Go.Proofs.YtfjeceicgfdmjaaGreatDoor
