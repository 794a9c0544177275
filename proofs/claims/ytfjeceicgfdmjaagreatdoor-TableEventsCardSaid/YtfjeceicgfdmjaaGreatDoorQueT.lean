/-
  The queue's functions, both sides: each is its plain description.
-/
import Derived.Test.YtfjeceicgfdmjaaGreatDoorProcs
import Derived.Test.YtfjeceicgfdmjaaGreatDoorQueH
namespace Go.Proofs.YtfjeceicgfdmjaaGreatDoor
namespace Ab
set_option linter.unusedVariables false
set_option linter.unusedSimpArgs false
theorem ifNT {α : Type} (x y : α) : (if (!true) = true then x else y) = y := rfl
theorem ifTF {α : Type} (x y : α) : (if true = false then x else y) = y := rfl
theorem ifFT {α : Type} (x y : α) : (if false = true then x else y) = y := rfl
theorem zbw4 (l : List Proc) (hl : l.length ≤ 4294967296) : zc0 l = some (l.mergeSort fun x y => !decide (ltP y x)) := by
 unfold zc0
 rw [zb2 hl]
 congr 2
theorem zce1 {l : List Proc} {i : Nat} (h : i + 1 < l.length) : l.take (i + 2) = l.take i ++ [l.getD i Proc.zero, l.getD (i + 1) Proc.zero] := by
 rw [List.take_succ_eq_append_getElem (by omega), List.take_succ_eq_append_getElem (by omega), List.append_assoc]
 congr 1
 rw [List.getD_eq_getElem?_getD, List.getElem?_eq_getElem (by omega), List.getD_eq_getElem?_getD, List.getElem?_eq_getElem h]
 rfl
theorem zbb0 {l : List Proc} {i : Nat} (h : i < l.length) : l.take (i + 1) = l.take i ++ [l.getD i Proc.zero] := by
 rw [List.take_succ_eq_append_getElem h]
 congr 1
 rw [List.getD_eq_getElem?_getD, List.getElem?_eq_getElem h]
 rfl
theorem zbb1 {l : List Proc} {i : Nat} (h : i + 1 < l.length) : dst (l.take (i + 2)) = if l.getD i Proc.zero = l.getD (i + 1) Proc.zero then dst (l.take (i + 1)) else dst (l.take (i + 1)) ++ [l.getD (i + 1) Proc.zero] := by
 rw [zce1 h, zbw3, ← zbb0 (by omega)]
theorem zaH3 {l m : List Proc} {i j : Nat} (h : l.drop i = m.drop i) (hij : i ≤ j) : l.getD j Proc.zero = m.getD j Proc.zero := by
 have e : ∀ x : List Proc, x.getD j Proc.zero = (x.drop i).getD (j - i) Proc.zero := fun x => by
  rw [List.getD_eq_getElem?_getD, List.getD_eq_getElem?_getD, List.getElem?_drop, show i + (j - i) = j by omega]
 rw [e l, e m, h]
theorem zbf5 (a : List Proc) (g : Nat) (hg : 1 ≤ g) (hgl : g < a.length) (hl : a.length ≤ 1000000) (he : a.getD g Proc.zero = a.getD (g - 1) Proc.zero) (hd : dst (a.take g) = a.take g) :
  ∃ x, zb8 (zh0 a g) ((g : Int), 1, a) = some x ∧ ∃ k : Nat, x.1 = (k : Int) ∧ x.2.length = a.length ∧ k ≤ a.length ∧ x.2.take k = dst a := by
 refine zQ1 (fun s => ∃ k k2 : Nat, s.1 = (k : Int) ∧ s.2.1 = (k2 : Int) ∧ s.2.2.length = a.length ∧ 1 ≤ k2 ∧ g + k2 ≤ a.length ∧ k + 1 ≤ g + k2 ∧ s.2.2.take k = dst (a.take (g + k2)) ∧ s.2.2.drop (g + k2 - 1) = a.drop (g + k2 - 1)) (fun s => (a.length - s.2.1.toNat)) _ ?_ _ ?_
 ·rintro ⟨k, k2, s⟩ ⟨kn, k2n, h1, h2, h3, h4, h5, h6, h7, h8⟩
  simp only at h1 h2 h3 h7 h8
  subst h1; subst h2
  unfold zh0
  by_cases hlt : g + k2n < a.length
  ·left
   have w : IntKind.i64.wrap ((k2n : Int) - 1) = ((k2n - 1 : Nat) : Int) := by rw [ze1 (by omega) (by omega)]; omega
   have w2 : IntKind.i64.wrap ((k2n : Int) + 1) = ((k2n + 1 : Nat) : Int) := by rw [ze1 (by omega) (by omega)]; omega
   have w3 : IntKind.i64.wrap ((kn : Int) + 1) = ((kn + 1 : Nat) : Int) := by rw [ze1 (by omega) (by omega)]; omega
   have r1 : s.getD (g + k2n) Proc.zero = a.getD (g + k2n) Proc.zero := zaH3 h8 (by omega)
   have r2 : s.getD (g + (k2n - 1)) Proc.zero = a.getD (g + (k2n - 1)) Proc.zero := zaH3 h8 (by omega)
   have hdt := zbb1 (l := a) (i := g + (k2n - 1)) (by omega)
   rw [show g + (k2n - 1) + 2 = g + (k2n + 1) by omega, show g + (k2n - 1) + 1 = g + k2n by omega] at hdt
   simp only [Int.toNat_natCast, w, w2, w3]
   rw [if_pos (by simp; omega), zb2 (by omega), zb2 (by omega), r1, r2]
   by_cases hne : a.getD (g + k2n) Proc.zero = a.getD (g + (k2n - 1)) Proc.zero
   ·refine ⟨((kn : Int), ((k2n + 1 : Nat) : Int), s), by rw [if_neg (by simp only [hne, decide_true, Bool.not_true, Bool.false_eq_true, not_false_eq_true])], ⟨kn, k2n + 1, rfl, rfl, h3, by omega, by omega, by omega, ?_, ?_⟩, by simp only [Int.toNat_natCast]; omega⟩
    ·simp only
     rw [h7, hdt, if_pos hne.symm]
    ·simp only
     rw [show g + (k2n + 1) - 1 = (g + k2n - 1) + 1 by omega, ← List.drop_drop, ← List.drop_drop, h8]
   ·rw [if_pos (by simpa using hne), zb2 (by omega), zb2 (by omega)]
    refine ⟨(((kn + 1 : Nat) : Int), ((k2n + 1 : Nat) : Int), s.set kn (a.getD (g + k2n) Proc.zero)), rfl, ⟨kn + 1, k2n + 1, rfl, rfl, by simp [h3], by omega, by omega, by omega, ?_, ?_⟩, by simp only [Int.toNat_natCast]; omega⟩
    ·simp only
     rw [hdt, if_neg (fun e => hne e.symm), ← h7, zbb0 (by rw [List.length_set]; omega), List.take_set_of_le (by omega), zaj3 _ _ _ _ (by omega)]
    ·simp only
     rw [List.drop_set_of_lt (by omega), show g + (k2n + 1) - 1 = (g + k2n - 1) + 1 by omega, ← List.drop_drop, ← List.drop_drop, h8]
  ·right
   refine ⟨((kn : Int), s), by simp only [Int.toNat_natCast]; rw [if_neg (by simp; omega)], kn, rfl, h3, by omega, ?_⟩
   simp only
   rw [h7, List.take_of_length_le (by omega)]
 ·refine ⟨g, 1, rfl, rfl, rfl, by omega, by omega, by omega, ?_, rfl⟩
  simp only
  have hdt := zbb1 (l := a) (i := g - 1) (by omega)
  rw [show g - 1 + 2 = g + 1 by omega, show g - 1 + 1 = g by omega, if_pos he.symm, hd] at hdt
  exact hdt.symm
theorem zbB7 (a : List Proc) (hl : a.length ≤ 1000000) : ∃ r, zc2 a = some (dst a, r) := by
 unfold zc2
 by_cases h2 : a.length < 2
 ·rw [if_pos (by simp; omega)]
  refine ⟨a, ?_⟩
  have : dst a = a := by
   match a, h2 with
   | [], _ => rfl
   | [x], _ => rfl
   | x :: y :: t, h => simp at h; omega
  rw [this]
 ·rw [if_neg (by simp; omega)]
  obtain ⟨x, hx, hp⟩ := zQ1 (body := zh1 a) (fun g => ∃ n : Nat, g = (n : Int) ∧ 1 ≤ n ∧ n ≤ a.length ∧ dst (a.take n) = a.take n) (fun g => a.length - g.toNat)
   (fun x => match x with | .inl _ => dst a = a | .inr z => z.1 = dst a) (by
    rintro g ⟨n, rfl, h1, h3, h4⟩
    unfold zh1
    by_cases hlt : n < a.length
    ·have w : IntKind.i64.wrap ((n : Int) - 1) = ((n - 1 : Nat) : Int) := by rw [ze1 (by omega) (by omega)]; omega
     have w2 : IntKind.i64.wrap ((n : Int) + 1) = ((n + 1 : Nat) : Int) := by rw [ze1 (by omega) (by omega)]; omega
     rw [if_pos (by simp; omega), zb2 (by omega), w, w2, zb2 (by omega)]
     simp only [Int.toNat_natCast]
     by_cases he : a.getD n Proc.zero = a.getD (n - 1) Proc.zero
     ·right
      obtain ⟨x, hx, k, hk1, hk2, hk3, hk4⟩ := zbf5 a n h1 hlt hl he h4
      rw [if_pos (decide_eq_true he), zb2 (by omega), hx]
      obtain ⟨x1, x2⟩ := x
      simp only at hk1 hk2 hk4
      subst hk1
      rw [Option.bind_some]
      unfold zg9
      simp only [Int.toNat_natCast]
      rw [zb2 (by omega), zb2 (by omega)]
      refine ⟨_, rfl, ?_⟩
      simp only
      rw [List.drop_zero, List.append_assoc, List.take_append_of_le_length (by simp; omega), List.take_take, Nat.min_self, hk4]
     ·left
      refine ⟨((n + 1 : Nat) : Int), by rw [if_neg (by simpa using he)], ⟨n + 1, rfl, by omega, by omega, ?_⟩, by simp only [Int.toNat_natCast]; omega⟩
      have hdt := zbb1 (l := a) (i := n - 1) (by omega)
      rw [show n - 1 + 2 = n + 1 by omega, show n - 1 + 1 = n by omega, if_neg (fun e => he e.symm), h4, ← zbb0 hlt] at hdt
      exact hdt
    ·right
     refine ⟨.inl (), by rw [if_neg (by simp; omega)], ?_⟩
     simp only
     rw [List.take_of_length_le (by omega)] at h4
     exact h4) 1 ⟨1, rfl, by omega, by omega, by
      match a, h2 with
      | x :: t, _ => simp [dst]⟩
  rw [hx]
  cases x with
  | inl u =>
   simp only at hp
   refine ⟨a, ?_⟩
   rw [hp]; rfl
  | inr z =>
   simp only at hp
   refine ⟨z.2, ?_⟩
   rw [← hp]; rfl
theorem zag0 (l : List Proc) (hl : l.length ≤ 1000000) : zh8 l = some (zaB3 l) := by
 unfold zh8
 rw [zb2 (by omega), zbw4 l (by omega), Option.bind_some]
 obtain ⟨r, h⟩ := zbB7 (l.mergeSort fun x y => !decide (ltP y x)) (by rw [List.length_mergeSort]; exact hl)
 rw [h]
 simp only [Option.bind_some]
 rw [zbK2 (zbo7 l) fun x => List.mem_mergeSort]
theorem zce2 (l : List Proc) (p : Proc) (hl : l.length ≤ 1000000) : zc5 l p = some (decide (p ∈ l)) := by
 unfold zc5 zd3
 have key : zb8 (zg1 l p) 0 = some ((zr3 (fun i => if p = l.getD i Proc.zero then some (Sum.inr (i : Int)) else none) l.length 0).getD (Sum.inl ())) := by
  refine zv2 l.length _ (Sum.inl ()) (fun i hi => ?_) ?_
  ·unfold zg1
   rw [if_pos (by simpa using hi), zb2 (by omega), ze1 (by omega) (by omega)]
   simp only [Int.toNat_natCast, decide_eq_true_eq]
   split <;> rfl
  ·unfold zg1
   rw [if_neg (by simp)]
 rw [key]
 have fr : ∀ k i, i + k = l.length → (p ∈ l.drop i → ∃ j : Nat, zr3 (fun i => if p = l.getD i Proc.zero then some (Sum.inr (α := Unit) (i : Int)) else none) k i = some (.inr (j : Int))) ∧ (p ∉ l.drop i → zr3 (fun i => if p = l.getD i Proc.zero then some (Sum.inr (α := Unit) (i : Int)) else none) k i = none) := by
  intro k
  induction k with
  | zero => intro i hi; rw [List.drop_eq_nil_of_le (by omega)]; simp [zr3]
  | succ k ih =>
   intro i hi
   obtain ⟨h1, h2⟩ := ih (i + 1) (by omega)
   rw [zW9 l i Proc.zero (by omega)]
   simp only [zr3]
   by_cases hp : p = l.getD i Proc.zero
   ·rw [← hp]
    simp only [if_true, List.mem_cons, true_or, forall_const, not_true, false_implies, and_true]
    exact ⟨i, rfl⟩
   ·simp only [hp, if_false, List.mem_cons, false_or]
    exact ⟨h1, h2⟩
 obtain ⟨h1, h2⟩ := fr l.length 0 (by omega)
 rw [List.drop_zero] at h1 h2
 by_cases hp : p ∈ l
 ·obtain ⟨j, hj⟩ := h1 hp
  rw [hj]
  simp only [Option.getD_some, Option.bind_some, hp, decide_true, Option.some.injEq, decide_eq_true_eq]
  omega
 ·rw [h2 hp]
  simp only [Option.getD_none, Option.bind_some, hp, decide_false]
  rfl
theorem zam7 (l : List Proc) (p : Proc) (hl : l.length ≤ 1000000) : zk2 l p = some (decide (p ∈ l)) := by
 unfold zk2; rw [zce2 l p hl]; rfl
theorem zam8 (l : List Proc) (p : Proc) (hl : l.length ≤ 1000000) : zm5 l p = some (decide (p ∈ l)) := by
 unfold zm5
 have key := zao4 (body := zB9 l p) l Proc.zero (fun i (_ : Unit) => (i : Int)) (fun _ x _ => some (if x = p then .inr (Sum.inr true) else .inl ())) (fun _ => Sum.inl (β := Bool) ())
  (fun i s hi => by
   unfold zB9
   have h3 : 0 ≤ (i : Int) ∧ (i : Int) < (l.length : Int) := by omega
   simp only [h3.1, h3.2, and_self, zj7, decide_true, if_true, Int.toNat_natCast, zd5 i (by omega), Option.map_some, decide_eq_true_eq]
   split <;> rfl)
  (fun s => by unfold zB9; simp) ()
 rw [show (0 : Int) = (fun (i : Nat) (_ : Unit) => (i : Int)) 0 () from rfl, key]
 have fold : ∀ (l : List Proc) (i : Nat), walk (fun _ x (_ : Unit) => some (if x = p then .inr (Sum.inr true) else .inl ())) (fun _ => Sum.inl (β := Bool) ()) l i () = some (if p ∈ l then .inr true else .inl ()) := by
  intro l
  induction l with
  | nil => intro i; simp [walk]
  | cons x t ih =>
   intro i
   simp only [walk]
   by_cases e : x = p
   ·subst e; simp
   ·simp only [e, if_false, List.mem_cons, fun h : p = x => e h.symm, false_or]
    rw [ih]
    have : ¬ p = x := fun h => e h.symm
    simp [this]
 rw [fold]
 by_cases hp : p ∈ l <;> simp [hp, zH7]
theorem zbb2 (q : Queue) (h1 : q.converts.length ≤ 1000) (h2 : q.waits.length ≤ 1000) : zr5 q = some ((ordQ q).map (·.proc)) := by
 unfold zr5
 rw [zav3 q (by omega) (by omega), Option.bind_some]
 have hl : (q.converts ++ q.waits).length ≤ 2000 := by rw [List.length_append]; omega
 show _ = some ((q.converts ++ q.waits).map (·.proc))
 generalize q.converts ++ q.waits = l at hl
 have key := zr0 (body := zF3 l) l Wait.zero (fun i (s : List Proc) => ((i : Int), s)) (fun i h s => some (.inl (zal5 s (some h.proc)))) (fun s => s) (fun i s => s.length ≤ i)
  (fun i s hi hs => by
   refine ⟨?_, fun s' h => ?_⟩
   ·unfold zF3
    have h1 : s.length + 1 ≤ 4294967296 := by omega
    have h3 : 0 ≤ (i : Int) ∧ (i : Int) < (l.length : Int) := by omega
    simp only [h1, h3.1, h3.2, and_self, zj7, decide_true, if_true, Int.toNat_natCast, zd5 i (by omega), Option.map_some, wmap, zal5]
   ·simp only [Option.some.injEq, Sum.inl.injEq] at h; subst h; simp [zal5]; omega)
  (fun s hs => by unfold zF3; simp) [] (by simp)
 rw [show ((0, []) : Int × List Proc) = (fun (i : Nat) (s : List Proc) => ((i : Int), s)) 0 [] from rfl, key, zal6 (fun h : Wait => some h.proc)]
 simp [zN1]
theorem zaD7 (l : List Hold) (hl : l.length ≤ 1000000) : zh7 l = some (l.map (·.proc)) := by
 have e : zh7 l = zI8 l := rfl
 rw [e]; exact zcd1 l hl
def zJ5 (q : Queue) : List Proc := zaB3 (q.holds.map (·.proc) ++ (ordQ q).map (·.proc))
theorem zaw1 (q : Queue) (h0 : q.holds.length ≤ 1000) (h1 : q.converts.length ≤ 1000) (h2 : q.waits.length ≤ 1000) : zo8 q = some (zJ5 q) := by
 unfold zo8 zJ5
 have hl : (ordQ q).length ≤ 2000 := by unfold ordQ; rw [List.length_append]; omega
 rw [zaD7 _ (by omega), Option.bind_some, zbb2 q h1 h2, Option.bind_some, zb2 (by simp; omega), zag0 _ (by simp; omega)]
 rfl
theorem zaD8 {q : Queue} (h : SoundP q) {p : Proc} : p ∈ zJ5 q ↔ hasQ q p = true := by
 unfold zJ5
 rw [zay2, List.mem_append, zbo4 h, or_comm]
theorem SoundP.lens {q : Queue} (h : SoundP q) : q.holds.length ≤ 8 ∧ q.converts.length ≤ 8 ∧ q.waits.length ≤ 8 ∧ zx5 q ≤ 16 := by
 have := h.cl; have := h.wl; have := zM5 h.hv
 unfold zx5; omega
theorem zbf6 {q : Queue} (h : SoundP q) : zb9 q = !canQ q := by
 unfold zb9
 rw [(zaD5 q).2 h, Bool.true_and]; rfl
theorem zaM5 (g : Queue × List Hold) (hs : SoundP g.1) (hg : g.2.length ≤ 1000000) : zC0 g = some (if canQ g.1 = true then .inl (zam2 g) else .inr g) := by
 unfold zC0
 rw [zam1, Option.bind_some, zbf6 hs]
 cases hc : canQ g.1 with
 | false => simp
 | true =>
  obtain ⟨h1, _, hl⟩ := zP0 hc
  rw [if_pos (by simp), zaB0, Option.bind_some, if_pos rfl]
  unfold zam2 popQ
  by_cases h0 : 0 < g.1.converts.length
  ·rw [if_pos (by simpa using h0), zb2 (by omega), if_pos h0]
   unfold zv0
   rw [zU7 _ _ _ (by simp only; omega), Option.bind_some, zb2 (by omega)]
  ·rw [if_neg (by simpa using h0), if_neg h0]
   have hw : 0 < g.1.waits.length := by unfold zx5 at h1; omega
   rw [zb2 (by omega)]
   unfold zv0
   rw [zU7 _ _ _ (by simp only; omega), Option.bind_some, zb2 (by omega)]
theorem zaM6 {q : Queue} (h : SoundP q) : zu1 q = some (advS q, advG q) := by
 unfold zu1
 have hl := h.lens
 rw [zaf4, Option.bind_some, (zaD5 q).2 h, if_neg (by decide), zaj7 q (by omega) (by omega) (by omega), Option.bind_some]
 have key := zaY9 (body := zC0) (fun g => SoundP g.1 ∧ zx5 g.1 + g.2.length ≤ 1000) (fun g => zx5 g.1) (fun g => advN (zx5 g.1) g) (fun g hg => by
  rw [zaM5 g hg.1 (by omega)]
  cases hc : canQ g.1 with
  | false => right; rw [if_neg (by decide), zam3, if_neg (by rw [hc]; decide)]
  | true =>
   left
   obtain ⟨h1, h2, _⟩ := zP0 hc
   refine ⟨zam2 g, by rw [if_pos rfl], ⟨hg.1.pop hc, ?_⟩, ?_, ?_⟩
   ·unfold zam2; simp only [List.length_append, List.length_cons, List.length_nil]; omega
   ·show zx5 (popQ g.1) < zx5 g.1; omega
   ·rw [zam3 g, if_pos hc]) (q, []) ⟨h, by simp only [List.length_nil]; omega⟩
 rw [key]
 rfl
theorem zP1 {q : Queue} (h : SoundP q) : zi6 q = some (zm0 q) := by
 unfold zi6; rw [zaM6 h, Option.bind_some, zcj9]; rfl
theorem zbw5 (p : Proc) (pr : Int) : (((!(zb3 p)) || (decide (pr < 0))) || (decide (7 < pr))) = !zav8 p pr := by
 unfold zav8
 generalize zb3 p = b
 rw [Bool.eq_iff_iff]
 cases b
 ·simp
 ·simp
theorem zaj8 (q : Queue) (h : zx5 q ≤ 1000) : ze4 q = some (advG q, advS q) := zaL9 q h
theorem zbb3 (q : Queue) (p : Proc) (a : Amount) (pr : Int) : zr8 q p a pr = some (zC3 q p a pr) := by
 unfold zr8 zC3
 rw [zaf5, Option.bind_some]
 cases h1 : zb9 q with
 | false => rfl
 | true =>
  obtain ⟨hs, hcan⟩ := (zg3 q).1 h1
  have hl := hs.lens
  rw [ifNT, ifTF, zbw5]
  cases h2 : zav8 p pr with
  | false => rfl
  | true =>
   rw [ifNT, ifTF]
   cases h3 : za9 q.resource a with
   | false => rfl
   | true =>
    rw [ifNT, ifTF, zar0 q p (by omega) (by omega), Option.bind_some]
    cases h4 : (zz0 q p).2 with
    | true => rfl
    | false =>
     rw [ifFT, ifFT, zaL8 q (by omega) (by omega) (by omega), Option.bind_some, zJ2 q p (by omega), Option.bind_some, zam0, Option.bind_some]
     cases h5 : covA q.resource (getH q.holds p) a with
     | true => rfl
     | false =>
      rw [ifFT, ifFT]
      by_cases h6 : getH q.holds p = Amount.zero
      ·rw [if_neg (by rw [(zI9 _).2 h6]; decide), if_neg (show ¬ getH q.holds p ≠ Amount.zero from fun k => k h6), ze1 (by omega) (by omega)]
       by_cases h7 : 8 ≤ q.holds.length + q.waits.length
       ·rw [if_pos (by simp; omega), if_pos h7]; rfl
       ·rw [if_neg (by simp; omega), if_neg h7, zaZ4, Option.bind_some]
        have hi := zbF2 hs h3 h2 h4 (p := p) (a := a) (pr := pr) (by omega)
        have e : ({ Wait.zero with proc := p, amount := a, priority := pr } : Wait) = ⟨p, a, pr, 0⟩ := rfl
        rw [e, hi, if_neg (by simp)]
        have hsc := hs.claimW h3 h2 h4 h6 (by omega) (p := p) (a := a) (pr := pr)
        have hl2 := hsc.lens
        unfold zl2 zl1 zD3
        rw [zb2 (by decide), Option.bind_some]
        have hq : (⟨(⟨q.resource.name, q.resource.kind, q.resource.units, q.resource.home⟩ : Resource), q.holds, q.converts, (claimW q p a pr).waits, q.gen⟩ : Queue) = claimW q p a pr := rfl
        simp only [hq]
        rw [zaj8 _ (by omega)]
        simp only [Option.bind_some]
        unfold zm0
        rw [(zaH0 (claimW q p a pr)).1]
      ·rw [if_pos (by rw [(zQ3 _).2 h6]; rfl), if_pos h6]
       have hsc := hs.claimC h3 h4 h5 h6
       have hl2 := hsc.lens
       unfold zn4 zl0 zE7
       rw [zb2 (by decide), zba0, Option.bind_some, zb2 (by omega), Option.bind_some]
       have hq : (⟨(⟨q.resource.name, q.resource.kind, q.resource.units, q.resource.home⟩ : Resource), q.holds, q.converts ++ [{ Wait.zero with proc := p, amount := zP2 q.resource (getH q.holds p) a }], q.waits, q.gen⟩ : Queue) = claimC q p a := rfl
       simp only [hq]
       rw [zaj8 _ (by omega)]
       simp only [Option.bind_some]
       unfold zm0
       rw [(zaH0 (claimC q p a)).1]
theorem zbb4 (q : Queue) (p : Proc) (a : Amount) (pr : Int) : zs3 q p a pr = some (zC3 q p a pr) := by
 unfold zs3 zC3
 rw [zV0, Option.bind_some]
 cases h1 : zb9 q with
 | false => rfl
 | true =>
  obtain ⟨hs, hcan⟩ := (zg3 q).1 h1
  have hl := hs.lens
  rw [ifNT, ifTF, zau8, zbw5]
  cases h2 : zav8 p pr with
  | false => rfl
  | true =>
   rw [ifNT, ifTF, zax4]
   cases h3 : za9 q.resource a with
   | false => rfl
   | true =>
    rw [ifNT, ifTF, zab0 q p (by omega) (by omega), Option.bind_some]
    cases h4 : (zz0 q p).2 with
    | true => rfl
    | false =>
     rw [ifFT, ifFT, zaR3 q (by omega) (by omega) (by omega), Option.bind_some, zY5 q p (by omega), Option.bind_some]
     have hcv : zf7 q.resource (getH q.holds p) a = covA q.resource (getH q.holds p) a := rfl
     rw [hcv]
     cases h5 : covA q.resource (getH q.holds p) a with
     | true => rfl
     | false =>
      rw [ifFT, ifFT, zai0]
      by_cases h6 : getH q.holds p = Amount.zero
      ·rw [if_neg (by rw [(zI9 _).2 h6]; decide), if_neg (show ¬ getH q.holds p ≠ Amount.zero from fun k => k h6), ze1 (by omega) (by omega)]
       by_cases h7 : 8 ≤ q.holds.length + q.waits.length
       ·rw [if_pos (by simp; omega), if_pos h7]; rfl
       ·rw [if_neg (by simp; omega), if_neg h7, zaR0, Option.bind_some]
        have hi := zbF2 hs h3 h2 h4 (p := p) (a := a) (pr := pr) (by omega)
        have e : ({ Wait.zero with proc := p, amount := a, priority := pr } : Wait) = ⟨p, a, pr, 0⟩ := rfl
        rw [e, hi, if_neg (by simp)]
        have hsc := hs.claimW h3 h2 h4 h6 (by omega) (p := p) (a := a) (pr := pr)
        have hq : (⟨(⟨q.resource.name, q.resource.kind, q.resource.units, q.resource.home⟩ : Resource), q.holds, q.converts, (claimW q p a pr).waits, q.gen⟩ : Queue) = claimW q p a pr := rfl
        simp only [hq]
        rw [zP1 hsc]; rfl
      ·rw [if_pos (by rw [(zQ3 _).2 h6]; rfl), if_pos h6]
       have hsc := hs.claimC h3 h4 h5 h6
       rw [zbf4, Option.bind_some, zb2 (by omega)]
       have hq : (⟨(⟨q.resource.name, q.resource.kind, q.resource.units, q.resource.home⟩ : Resource), q.holds, q.converts ++ [{ Wait.zero with proc := p, amount := zP2 q.resource (getH q.holds p) a }], q.waits, q.gen⟩ : Queue) = claimC q p a := rfl
       rw [hq, zP1 hsc]; rfl
theorem zaR4 (q : Queue) (p : Proc) : zx1 q p = some (zE2 q p) := by
 unfold zx1 zE2
 rw [zV0, Option.bind_some]
 cases h1 : zb9 q with
 | false => rfl
 | true =>
  obtain ⟨hs, hcan⟩ := (zg3 q).1 h1
  have hl := hs.lens
  rw [ifNT, ifTF, zab0 q p (by omega) (by omega), Option.bind_some]
  cases h4 : (zz0 q p).2 with
  | false => rfl
  | true =>
   rw [ifNT, ifTF, zaj7 q (by omega) (by omega) (by omega), Option.bind_some, zaq9 _ _ (by omega), Option.bind_some, zaq9 _ _ (by simp only; omega), Option.bind_some]
   have hq : ({ { q with converts := rmL q.converts p } with waits := rmL q.waits p } : Queue) = zai1 q p := rfl
   simp only [hq]
   rw [zP1 (hs.cancel p)]; rfl
theorem zbb5 (q : Queue) (p : Proc) (a : Amount) : zA6 q p a = some (zC4 q p a) := by
 unfold zA6 zC4
 rw [zV0, Option.bind_some]
 cases h1 : zb9 q with
 | false => rfl
 | true =>
  obtain ⟨hs, hcan⟩ := (zg3 q).1 h1
  have hl := hs.lens
  rw [ifNT, ifTF, zY5 q p (by omega), Option.bind_some, zai0]
  by_cases h6 : getH q.holds p = Amount.zero
  ·rw [if_pos ((zI9 _).2 h6), if_pos h6]; rfl
  ·rw [if_neg (by rw [(zQ3 _).2 h6]; decide), if_neg h6, zab0 q p (by omega) (by omega), Option.bind_some]
   cases h4 : (zz0 q p).2 with
   | true => rfl
   | false =>
    have hcv : zf7 q.resource (getH q.holds p) a = covA q.resource (getH q.holds p) a := rfl
    rw [ifFT, ifFT, hcv]
    cases h5 : covA q.resource (getH q.holds p) a with
    | false => rfl
    | true =>
     rw [ifNT, ifTF, zaj7 q (by omega) (by omega) (by omega), Option.bind_some]
     by_cases h7 : getH q.holds p = a
     ·rw [if_pos (by simp [h7]), if_pos h7]
     ·rw [if_neg (by simpa using h7), if_neg h7, zU7 _ _ _ (by omega), Option.bind_some]
      have hq : ({ q with holds := setL q.holds p a } : Queue) = zao9 q p a := rfl
      simp only [hq]
      rw [zP1 (hs.lower h4 h6 h5)]; rfl
theorem zaR5 (q : Queue) (p : Proc) : zC1 q p = some (zt5 q p) := by
 unfold zC1 zt5
 rw [zaf5, Option.bind_some]
 cases h1 : zb9 q with
 | false => rfl
 | true =>
  obtain ⟨hs, hcan⟩ := (zg3 q).1 h1
  have hl := hs.lens
  have hpl : (zJ5 q).length ≤ 1000000 := by
   have := zbj4 (q.holds.map (·.proc) ++ (ordQ q).map (·.proc))
   unfold zJ5
   unfold ordQ at *
   simp only [List.length_append, List.length_map] at this
   omega
  rw [ifNT, ifTF, zaw1 q (by omega) (by omega) (by omega), Option.bind_some, zam7 _ _ hpl, Option.bind_some]
  have he : decide (p ∈ zJ5 q) = hasQ q p := by rw [Bool.eq_iff_iff, decide_eq_true_eq, zaD8 hs]
  rw [he]
  cases h4 : hasQ q p with
  | false => rfl
  | true =>
   rw [ifNT, ifTF, zba1 q (by omega) (by omega) (by omega), Option.bind_some]
   have hsc := hs.del p
   have hl2 := hsc.lens
   unfold zt3 zq0 zq1 zq2 zD8
   rw [zb2 (by decide), zU8 _ _ _ (by omega), Option.bind_some, Option.bind_some, zb2 (by decide), zaf0 _ _ (by simp only; omega), Option.bind_some, Option.bind_some, zb2 (by decide), zaf0 _ _ (by simp only; omega), Option.bind_some, Option.bind_some]
   have hz : setL q.holds p ({ Amount.zero with }) = others p q.holds := if_pos rfl
   have hq : ({ { { q with holds := others p q.holds } with converts := rmL q.converts p } with waits := rmL q.waits p } : Queue) = del q p := rfl
   simp only [hz, hq]
   rw [zaj8 _ (by omega)]
   simp only [Option.bind_some]
   unfold zm0
   rw [(zaH0 (del q p)).1]
end Ab
end Go.Proofs.YtfjeceicgfdmjaaGreatDoor
namespace Go.Proofs.YtfjeceicgfdmjaaGreatDoor
namespace Ab
set_option linter.unusedVariables false
set_option linter.unusedSimpArgs false
def zaw2 (x : Queue × List Hold × Int) : Prop := x.1.holds.length ≤ 8 ∧ x.1.converts.length ≤ 8 ∧ x.1.waits.length ≤ 8 ∧ x.2.1.length ≤ 16
theorem zay3 (e : Int) : zaw2 (errQ e) := by unfold zaw2 errQ Queue.zero; simp
theorem zQ5 {q : Queue} (h : SoundP q) : zaw2 (zm0 q) := by
 have h1 := (h.adv).lens
 have h2 := zcd5 q
 have h3 := h.lens
 exact ⟨h1.1, h1.2.1, h1.2.2.1, by show (advG q).length ≤ 16; omega⟩
theorem zbb6 {q : Queue} (h : SoundP q) : zaw2 (q, [], 0) := by
 have h1 := h.lens
 exact ⟨h1.1, h1.2.1, h1.2.2.1, by simp⟩
theorem zbB8 {q : Queue} {p : Proc} {a : Amount} {pr : Int} (h : (zC3 q p a pr).2.2 ≠ 0) : ∃ e, zC3 q p a pr = errQ e := by
 unfold zC3 at h ⊢
 split; · exact ⟨_, rfl⟩
 split; · exact ⟨_, rfl⟩
 split; · exact ⟨_, rfl⟩
 split; · exact ⟨_, rfl⟩
 rename_i h1 h2 h3 h4
 rw [if_neg h1, if_neg h2, if_neg h3, if_neg h4] at h
 split
 ·rename_i h5; rw [if_pos h5] at h; exact absurd rfl h
 rename_i h5; rw [if_neg h5] at h
 split
 ·rename_i h6; rw [if_pos h6] at h; exact absurd rfl h
 rename_i h6; rw [if_neg h6] at h
 split
 ·exact ⟨_, rfl⟩
 ·rename_i h7; rw [if_neg h7] at h; exact absurd rfl h
theorem zbw6 {q : Queue} {p : Proc} (h : (zE2 q p).2.2 ≠ 0) : ∃ e, zE2 q p = errQ e := by
 unfold zE2 at h ⊢
 split; · exact ⟨_, rfl⟩
 split; · exact ⟨_, rfl⟩
 rename_i h1 h2
 rw [if_neg h1, if_neg h2] at h
 exact absurd rfl h
theorem zbw7 {q : Queue} {p : Proc} (h : (zt5 q p).2.2 ≠ 0) : ∃ e, zt5 q p = errQ e := by
 unfold zt5 at h ⊢
 split; · exact ⟨_, rfl⟩
 split; · exact ⟨_, rfl⟩
 rename_i h1 h2
 rw [if_neg h1, if_neg h2] at h
 exact absurd rfl h
theorem zbB9 {q : Queue} {p : Proc} {a : Amount} (h : (zC4 q p a).2.2 ≠ 0) : ∃ e, zC4 q p a = errQ e := by
 unfold zC4 at h ⊢
 split; · exact ⟨_, rfl⟩
 split; · exact ⟨_, rfl⟩
 split; · exact ⟨_, rfl⟩
 split; · exact ⟨_, rfl⟩
 rename_i h1 h2 h3 h4
 rw [if_neg h1, if_neg h2, if_neg h3, if_neg h4] at h
 split
 ·rename_i h5; rw [if_pos h5] at h; exact absurd rfl h
 ·rename_i h5; rw [if_neg h5] at h; exact absurd rfl h
theorem zaH4 (q : Queue) (p : Proc) (a : Amount) (pr : Int) : zaw2 (zC3 q p a pr) := by
 by_cases h : (zC3 q p a pr).2.2 = 0
 ·obtain ⟨hs, _, _, _, _, hh⟩ := zaM2 h
  rcases hh with ⟨_, e⟩ | ⟨_, _, e, hc⟩ | ⟨_, _, _, e, hc⟩
  ·rw [e]; exact zbb6 hs
  ·rw [e]; exact zQ5 hc
  ·rw [e]; exact zQ5 hc
 ·obtain ⟨e, he⟩ := zbB8 h; rw [he]; exact zay3 e
theorem zbf7 (q : Queue) (p : Proc) : zaw2 (zE2 q p) := by
 by_cases h : (zE2 q p).2.2 = 0
 ·obtain ⟨_, _, _, e, hc⟩ := zap0 h; rw [e]; exact zQ5 hc
 ·obtain ⟨e, he⟩ := zbw6 h; rw [he]; exact zay3 e
theorem zaB4 (q : Queue) (p : Proc) : zaw2 (zt5 q p) := by
 by_cases h : (zt5 q p).2.2 = 0
 ·obtain ⟨_, _, _, e, hc⟩ := zaD6 h; rw [e]; exact zQ5 hc
 ·obtain ⟨e, he⟩ := zbw7 h; rw [he]; exact zay3 e
theorem zbo8 (q : Queue) (p : Proc) (a : Amount) : zaw2 (zC4 q p a) := by
 by_cases h : (zC4 q p a).2.2 = 0
 ·obtain ⟨hs, _, _, _, _, hh⟩ := zay1 h
  rcases hh with ⟨_, e⟩ | ⟨_, e, hc⟩
  ·rw [e]; exact zbb6 hs
  ·rw [e]; exact zQ5 hc
 ·obtain ⟨e, he⟩ := zbB9 h; rw [he]; exact zay3 e
end Ab
end Go.Proofs.YtfjeceicgfdmjaaGreatDoor
namespace Go.Proofs.YtfjeceicgfdmjaaGreatDoor
namespace Ab
set_option linter.unusedVariables false
set_option linter.unusedSimpArgs false
theorem zbo9 (n m : Int) (h1 : 1 ≤ m) (h2 : m ≤ 1000000) : zs8 n m = some (n % m) := by
  unfold zs8
  rw [if_neg (by simp; omega), gdp (by omega)]
  have hlt : n.tmod m < m := Int.tmod_lt_of_pos n (by omega)
  have hgt : -m < n.tmod m := by have := Int.lt_tmod_of_pos n (show 0 < m by omega); omega
  have e : n % m = if n.tmod m < 0 then n.tmod m + m else n.tmod m := by
    rw [Int.emod_eq_tmod]
    by_cases h3 : 0 ≤ n ∨ m ∣ n
    · rw [if_pos h3]
      have : 0 ≤ n.tmod m := by
        rcases h3 with h | h
        · exact Int.tmod_nonneg m h
        · rw [Int.tmod_eq_zero_of_dvd h]; omega
      rw [if_neg (by omega)]; omega
    · rw [if_neg h3]
      simp only [not_or] at h3
      have h5 : 0 ≤ (-n).tmod m := Int.tmod_nonneg m (by omega)
      rw [Int.neg_tmod] at h5
      have h6 : n.tmod m ≠ 0 := fun h => h3.2 (Int.dvd_of_tmod_eq_zero h)
      rw [if_pos (by omega)]; omega
  rw [e]
  by_cases hc : n.tmod m < 0
  · rw [if_pos (by simpa using hc), if_pos hc, ze1 (by omega) (by omega)]
  · rw [if_neg (by simpa using hc), if_neg hc]
def zbw8 (n : Int) : Proc := ⟨(n % 8) % 4, 1, 1 + (n % 8) / 4⟩
theorem zap2 (n : Int) : zq6 n = some (zbw8 n) := by
  unfold zq6 zbw8
  rw [zbo9 n 8 (by decide) (by decide), Option.bind_some]
  have h1 : 0 ≤ n % 8 := Int.emod_nonneg _ (by decide)
  have h2 : n % 8 < 8 := Int.emod_lt_of_pos _ (by decide)
  rw [Int.tmod_eq_emod_of_nonneg h1, Int.tdiv_eq_ediv_of_nonneg h1, ze1 (x := n % 8 / 4) (by omega) (by omega), ze1 (by omega) (by omega)]
def zbw9 (p : Proc) : Prop := p.inc = 1 ∧ 0 ≤ p.site ∧ p.site < 4 ∧ 1 ≤ p.num ∧ p.num ≤ 2
theorem zbw9.valid {p : Proc} (h : zbw9 p) : zb3 p = true := by
  unfold zbw9 at h
  unfold zb3 zp4
  simp; omega
def zdU4 (n : Int) : Int := zy4.getD (n % 8).toNat 0
def amtM (r : Resource) (n : Int) : Amount := if r.kind = 1 then ⟨zdU4 n, 0⟩ else ⟨0, 1 + n % r.units⟩
theorem zbp0 (n : Int) : zG4 n = some (zdU4 n) := by
  unfold zG4
  have hl : (zy4.length : Int) = 8 := rfl
  have h1 : 0 ≤ n % 8 := Int.emod_nonneg _ (by decide)
  have h2 : n % 8 < 8 := Int.emod_lt_of_pos _ (by decide)
  rw [hl, zbo9 n 8 (by decide) (by decide), Option.bind_some, gdp ⟨h1, h2⟩]
  rfl
theorem zbb7 (r : Resource) (n : Int) (hr : zb4 r = true) : zA5 r n = some (amtM r n) := by
  rw [zt4] at hr
  unfold zA5 amtM
  by_cases hk : r.kind = 1
  · simp only [hk, decide_true, if_true, zbp0, Option.bind_some]; rfl
  · simp only [hk, decide_false, Bool.false_eq_true, if_false]
    rw [zbo9 n r.units (by omega) (by omega), Option.bind_some]
    have h1 : 0 ≤ n % r.units := Int.emod_nonneg _ (by omega)
    have h2 : n % r.units < r.units := Int.emod_lt_of_pos _ (by omega)
    rw [ze1 (by omega) (by omega)]; rfl
structure TapeOk (t : Tape) : Prop where
  len : t.l.length ≤ 1000000
  at_ : 0 ≤ t.at_ ∧ t.at_ ≤ t.l.length
def zA8 (m : Int) (t : Tape) : Int := if (t.l.length : Int) ≤ t.at_ then 0 else (t.l.getD t.at_.toNat 0) % m
def zy1 (t : Tape) : Tape := if (t.l.length : Int) ≤ t.at_ then t else { t with at_ := t.at_ + 1 }
theorem zY7 (m : Int) (t : Tape) (ht : TapeOk t) (h1 : 1 ≤ m) (h2 : m ≤ 1000000) : zd7 m t = some (zA8 m t, zy1 t) := by
  unfold zd7 zA8 zy1
  have hl := ht.len; have ha := ht.at_
  by_cases h : (t.l.length : Int) ≤ t.at_
  · simp only [h, decide_true, if_true]
  · simp only [h, decide_false, Bool.false_eq_true, if_false]
    have w1 : IntKind.i64.wrap (t.at_ + 1) = t.at_ + 1 := ze1 (by omega) (by omega)
    have w2 : IntKind.i64.wrap (t.at_ + 1 - 1) = t.at_ := by rw [ze1 (by omega) (by omega)]; omega
    simp only [w1, w2]
    rw [gdp (by omega), zbo9 _ m h1 h2]
    rfl
theorem zE3 {t : Tape} (h : TapeOk t) : TapeOk (zy1 t) := by
  unfold zy1
  split
  · exact h
  · have := h.at_; exact ⟨h.len, by simp only; omega⟩
theorem zck7 (t : Tape) : (zy1 t).l = t.l := by unfold zy1; split <;> rfl
theorem zG5 (m : Int) (t : Tape) (h1 : 1 ≤ m) : 0 ≤ zA8 m t ∧ zA8 m t < m := by
  unfold zA8
  split
  · omega
  · exact ⟨Int.emod_nonneg _ (by omega), Int.emod_lt_of_pos _ (by omega)⟩
def zC7 : Nat → Tape → Tape
  | 0, t => t
  | n + 1, t => zC7 n (zy1 t)
theorem zbb8 : ∀ (n : Nat) {t : Tape}, TapeOk t → TapeOk (zC7 n t)
  | 0, _, h => h
  | n + 1, _, h => zbb8 n (zE3 h)
def catL (t : Tape) : List Resource :=
  [⟨⟨#[97]⟩, 1, 1, zA8 4 t⟩, ⟨⟨#[98]⟩, 1, 1, zA8 4 (zy1 t)⟩, ⟨⟨#[99]⟩, 1, 1, zA8 4 (zC7 2 t)⟩, ⟨⟨#[100]⟩, 1, 1, zA8 4 (zC7 3 t)⟩,
   ⟨⟨#[112]⟩, 2, 1 + zA8 8 (zC7 4 t), zA8 4 (zC7 5 t)⟩, ⟨⟨#[113]⟩, 2, 1 + zA8 3 (zC7 6 t), zA8 4 (zC7 7 t)⟩]
theorem zbC0 (t : Tape) (ht : TapeOk t) : zq9 t = some (catL t, zC7 8 t) := by
  unfold zq9
  have hlit : (ze2.length : Int) = 4 := rfl
  have step : ∀ (i : Nat) (u : Tape) (l : List Resource), i < 4 → TapeOk u → l.length ≤ 10 → zu0 ((i : Int), u, l) = some (.inl ((i : Int) + 1, zy1 u, l ++ [⟨ze2.getD i (⟨#[]⟩), 1, 1, zA8 4 u⟩])) := by
    intro i u l hi hu hl
    unfold zu0
    have h1 : (i : Int) < 4 := by omega
    have h0 : 0 ≤ (i : Int) := by omega
    simp only [hlit, h1, h0, and_self, zj7, decide_true, if_true]
    rw [zY7 4 u hu (by decide) (by decide), Option.bind_some, gdp (by omega), ze1 (by omega) (by omega)]
    simp only [Int.toNat_natCast]
  have s0 := step 0 t [] (by decide) ht (by simp)
  have o1 := zE3 ht
  have s1 := step 1 (zy1 t) [⟨ze2.getD 0 (⟨#[]⟩), 1, 1, zA8 4 t⟩] (by decide) o1 (by simp)
  have o2 := zE3 o1
  have s2 := step 2 (zy1 (zy1 t)) ([⟨ze2.getD 0 (⟨#[]⟩), 1, 1, zA8 4 t⟩] ++ [⟨ze2.getD 1 (⟨#[]⟩), 1, 1, zA8 4 (zy1 t)⟩]) (by decide) o2 (by simp)
  have o3 := zE3 o2
  have s3 := step 3 (zy1 (zy1 (zy1 t))) ([⟨ze2.getD 0 (⟨#[]⟩), 1, 1, zA8 4 t⟩] ++ [⟨ze2.getD 1 (⟨#[]⟩), 1, 1, zA8 4 (zy1 t)⟩] ++ [⟨ze2.getD 2 (⟨#[]⟩), 1, 1, zA8 4 (zy1 (zy1 t))⟩]) (by decide) o3 (by simp)
  have o4 := zE3 o3
  have s4 : ∀ u l, zu0 ((4 : Int), u, l) = some (.inr (u, l)) := fun u l => by unfold zu0; simp [hlit]
  rw [zd6, show ((0 : Int), t, ([] : List Resource)) = (((0 : Nat) : Int), t, []) from rfl, s0]
  simp only [List.nil_append]
  rw [zd6, show ((0 : Nat) : Int) + 1 = ((1 : Nat) : Int) from rfl, s1]
  simp only
  rw [zd6, show ((1 : Nat) : Int) + 1 = ((2 : Nat) : Int) from rfl, s2]
  simp only
  rw [zd6, show ((2 : Nat) : Int) + 1 = ((3 : Nat) : Int) from rfl, s3]
  simp only
  rw [zd6, show ((3 : Nat) : Int) + 1 = (4 : Int) from rfl, s4]
  simp only [Option.bind_some]
  unfold zE8
  have o5 := zE3 o4; have o6 := zE3 o5; have o7 := zE3 o6
  have w8 := zG5 8 (zy1 (zy1 (zy1 (zy1 t)))) (by decide)
  have w3 := zG5 3 (zy1 (zy1 (zy1 (zy1 (zy1 (zy1 t)))))) (by decide)
  simp only
  rw [zY7 8 _ o4 (by decide) (by decide), Option.bind_some]
  simp only
  rw [zY7 4 _ o5 (by decide) (by decide), Option.bind_some, gdp (by simp)]
  simp only
  rw [zY7 3 _ o6 (by decide) (by decide), Option.bind_some]
  simp only
  rw [zY7 4 _ o7 (by decide) (by decide), Option.bind_some, gdp (by simp)]
  simp only
  rw [ze1 (x := 1 + zA8 8 _) (by omega) (by omega), ze1 (x := 1 + zA8 3 _) (by omega) (by omega)]
  rfl
theorem zbx0 (t : Tape) : ∀ r ∈ catL t, zb4 r = true := by
  intro r hr
  have w8 := zG5 8 (zC7 4 t) (by decide)
  have w3 := zG5 3 (zC7 6 t) (by decide)
  unfold catL at hr
  simp only [List.mem_cons, List.not_mem_nil, or_false] at hr
  rw [zt4]
  rcases hr with rfl | rfl | rfl | rfl | rfl | rfl
  · exact .inl ⟨rfl, rfl⟩
  · exact .inl ⟨rfl, rfl⟩
  · exact .inl ⟨rfl, rfl⟩
  · exact .inl ⟨rfl, rfl⟩
  · exact .inr ⟨rfl, by simp only; omega, by simp only; omega⟩
  · exact .inr ⟨rfl, by simp only; omega, by simp only; omega⟩
def zbj5 (l : List Hold) : Prop := ∀ h ∈ l, zbw9 h.proc
theorem zbj5.sub {l m : List Hold} (h : zbj5 m) (hs : l.Sublist m) : zbj5 l := fun x hx => h x (hs.subset hx)
theorem zbj5.set {l : List Hold} {p : Proc} (h : zbj5 l) (hp : zbw9 p) (a : Amount) : zbj5 (setL l p a) := by
  intro x hx
  unfold setL at hx
  split at hx
  · exact h x (zI2.1 hx).1
  · rcases List.mem_cons.1 ((zax7 p a _).mem_iff.1 hx) with rfl | hx
    · exact hp
    · exact h x (zI2.1 hx).1
theorem zbK3 {l : List Int} (h : zH9 l = true) : l.length ≤ 300 := by unfold zH9 at h; simp at h; omega
end Ab
end Go.Proofs.YtfjeceicgfdmjaaGreatDoor
namespace Go.Proofs.YtfjeceicgfdmjaaGreatDoor
namespace Ab
set_option linter.unusedVariables false
set_option linter.unusedSimpArgs false
theorem zbC1 (t : Tape) : ∀ r ∈ catL t, resV r = true := by
 intro r hr
 have w8 := zG5 8 (zC7 4 t) (by decide)
 have w3 := zG5 3 (zC7 6 t) (by decide)
 have hs := zbx0 t r hr
 unfold resV
 rw [hs, Bool.true_and]
 have hm : ∀ u : Tape, (decide (0 ≤ zA8 4 u) && decide (zA8 4 u < 4)) = true := fun u => by
  have := zG5 4 u (by decide)
  simp; exact this
 unfold catL at hr
 simp only [List.mem_cons, List.not_mem_nil, or_false] at hr
 have n1 : zaf1 ⟨#[97]⟩ = true := by decide +kernel
 have n2 : zaf1 ⟨#[98]⟩ = true := by decide +kernel
 have n3 : zaf1 ⟨#[99]⟩ = true := by decide +kernel
 have n4 : zaf1 ⟨#[100]⟩ = true := by decide +kernel
 have n5 : zaf1 ⟨#[112]⟩ = true := by decide +kernel
 have n6 : zaf1 ⟨#[113]⟩ = true := by decide +kernel
 rcases hr with rfl | rfl | rfl | rfl | rfl | rfl <;> simp only [n1, n2, n3, n4, n5, n6, hm, Bool.and_self]
def zJ6 (r : Resource) : Queue := { Queue.zero with resource := r }
theorem zbb9 {r : Resource} (h : resV r = true) : zb4 r = true := by
 unfold resV at h; simp only [Bool.and_eq_true] at h; exact h.2.1
theorem zbx1 {r : Resource} (h : resV r = true) : SoundP (zJ6 r) :=
 ⟨h, zbA8 (zbb9 h), by simp [zJ6, Queue.zero], .nil, by simp [zJ6, Queue.zero], by show zC8 [] = true; decide, by simp [zJ6, Queue.zero], by simp [zJ6, Queue.zero], by simp [zJ6, Queue.zero]⟩
theorem zbf8 {r : Resource} (h : resV r = true) : zb9 (zJ6 r) = true := by
 rw [zg3]; exact ⟨zbx1 h, rfl⟩
theorem zbc0 {q : Queue} (h : zb9 q = true) : zb4 q.resource = true := zbb9 ((zg3 q).1 h).1.res
theorem zek4 {l : List Int} (h : zH9 l = true) : l.length ≤ 1000000 := by have := zbK3 h; omega
theorem zX8 {α : Type} {l : List α} {i : Nat} {z : α} (h : i < l.length) : l.take (i + 1) = l.take i ++ [l.getD i z] := by
 rw [List.take_succ_eq_append_getElem h, List.getD_eq_getElem?_getD, List.getElem?_eq_getElem h]; rfl
theorem zA0 {q : Queue} (h : zb9 q = true) : q.holds.length ≤ 8 ∧ q.converts.length ≤ 8 ∧ q.waits.length ≤ 8 ∧ zx5 q ≤ 16 := ((zg3 q).1 h).1.lens
end Ab
end Go.Proofs.YtfjeceicgfdmjaaGreatDoor
