/-
  The law TableOrders in plain Lean: removals in any order leave the same table.
-/
import Derived.Test.YtfjeceicgfdmjaaGreatDoorTabG
import Derived.Test.YtfjeceicgfdmjaaGreatDoorFlaw13TableOrders
namespace Go.Proofs.YtfjeceicgfdmjaaGreatDoor
namespace Ab
set_option linter.unusedVariables false
set_option linter.unusedSimpArgs false
theorem zaP8 (l m : List Int) : zA1 l m = some true := by
 unfold zA1
 split
 ·rw [zaW4]; rfl
 ·next hl =>
  simp only [Bool.or_eq_true, Bool.not_eq_true, not_or, Bool.not_eq_eq_eq_not, Bool.not_true, decide_eq_true_eq] at hl
  obtain ⟨t, ht, hv, h6⟩ := zch8 (l := l) (zch3 (by simpa using hl.1))
  have h8 : m.length ≤ 8 := by omega
  rw [ht, Option.bind_some]
  have hpl : (m.map zv6).length = m.length := List.length_map ..
  have hrl : (m.map zv6).reverse.length = m.length := by rw [List.length_reverse, hpl]
  obtain ⟨y, hy, hp⟩ := zW0 (body := zB2 m) (fun g => ∃ i : Nat, i ≤ m.length ∧ g = (zH6 t ((m.map zv6).take i), zH6 t ((m.map zv6).reverse.take i), (i : Int))) (fun g => m.length - g.2.2.toNat) (fun y => y = (zH6 t (m.map zv6), zH6 t (m.map zv6).reverse)) (by
   rintro g ⟨i, hi, rfl⟩
   unfold zB2
   simp only
   by_cases hlt : i < m.length
   ·left
    have g3 : 0 ≤ (i : Int) ∧ (i : Int) < (m.length : Int) := by omega
    have w1 : IntKind.i64.wrap (IntKind.i64.wrap ((m.length : Int) - 1) - (i : Int)) = ((m.length - 1 - i : Nat) : Int) := by
     rw [ze2 (x := (m.length : Int) - 1) (by omega) (by omega), ze2 (by omega) (by omega)]; omega
    refine ⟨(zH6 t ((m.map zv6).take (i + 1)), zH6 t ((m.map zv6).reverse.take (i + 1)), ((i + 1 : Nat) : Int)), ?_, ⟨i + 1, by omega, rfl⟩, by simp only [Int.toNat_natCast]; omega⟩
    rw [if_pos (decide_eq_true g3.2), zb2 g3, zae0, Option.bind_some, zad0, Option.bind_some, w1, zb2 (by omega), zae0, Option.bind_some, zad0, Option.bind_some, zaG0 hv, zaG0 hv, zd2 i (by omega)]
    have e1 : (m.map zv6).take i ++ [zv6 (m.getD i 0)] = (m.map zv6).take (i + 1) := by
     rw [zae4 (z := Proc.zero) (show i < (m.map zv6).length by omega)]
     congr 2
     rw [List.getD_eq_getElem?_getD, List.getD_eq_getElem?_getD, List.getElem?_map, List.getElem?_eq_getElem hlt]; rfl
    have e2 : (m.map zv6).reverse.take i ++ [zv6 (m.getD (m.length - 1 - i) 0)] = (m.map zv6).reverse.take (i + 1) := by
     rw [zae4 (z := Proc.zero) (show i < (m.map zv6).reverse.length by omega)]
     congr 2
     rw [List.getD_eq_getElem?_getD, List.getD_eq_getElem?_getD, List.getElem?_reverse (by omega), List.getElem?_map, hpl, List.getElem?_eq_getElem (show m.length - 1 - i < m.length by omega)]; rfl
    simp only [Int.toNat_natCast, e1, e2]
   ·right
    have : i = m.length := by omega
    subst this
    refine ⟨_, by rw [if_neg (by simp)], ?_⟩
    rw [List.take_of_length_le (by omega), List.take_of_length_le (by omega)]) (t, t, 0) ⟨0, by omega, by simp [zbn5]⟩
  rw [hy, hp, Option.bind_some]
  have hva := zab7 hv (m.map zv6)
  have hvb := zab7 hv (m.map zv6).reverse
  have hla := zaP4 t (m.map zv6)
  have hlb := zaP4 t (m.map zv6).reverse
  unfold zB1
  rw [if_neg (by simp only [hla, hlb]; simp)]
  have key : zc1 (zu8 (zH6 t (m.map zv6), zH6 t (m.map zv6).reverse)) 0 = some (.inl ()) := by
   obtain ⟨z, hz, hq⟩ := zW0 (body := zu8 (zH6 t (m.map zv6), zH6 t (m.map zv6).reverse)) (fun g => ∃ i : Nat, i ≤ t.length ∧ g = (i : Int)) (fun g => t.length - g.toNat) (fun z => z = .inl ()) (by
    rintro g ⟨i, hi, rfl⟩
    unfold zu8
    simp only [hla, hlb]
    by_cases hlt : i < t.length
    ·left
     have g3 : 0 ≤ (i : Int) ∧ (i : Int) < (t.length : Int) := by omega
     refine ⟨((i + 1 : Nat) : Int), ?_, ⟨i + 1, by omega, rfl⟩, by simp only [Int.toNat_natCast]; omega⟩
     rw [if_pos (decide_eq_true g3.2), zb2 g3, zb2 g3]
     simp only [Int.toNat_natCast]
     have hq := hv.each _ (zF2 (z := Queue.zero) hlt)
     have ge : ∀ ps, (zH6 t ps).getD i Queue.zero = remS (t.getD i Queue.zero) ps := fun ps => by
      unfold zH6
      rw [List.getD_eq_getElem?_getD, List.getD_eq_getElem?_getD, List.getElem?_map, List.getElem?_eq_getElem hlt]; rfl
     have hn : noG (remS (t.getD i Queue.zero) (m.map zv6)) = noG (remS (t.getD i Queue.zero) (m.map zv6).reverse) := zbM7 hq (List.reverse_perm _).symm
     have hlens := zJ3 (zar9 (m.map zv6) hq)
     rw [ge, ge]
     rw [show ({ remS (t.getD i Queue.zero) (m.map zv6) with gen := 0 } : Queue) = noG (remS (t.getD i Queue.zero) (m.map zv6)) from rfl, show ({ remS (t.getD i Queue.zero) (m.map zv6).reverse with gen := 0 } : Queue) = noG (remS (t.getD i Queue.zero) (m.map zv6).reverse) from rfl, ← hn, zbi5 _ _ (by show (remS (t.getD i Queue.zero) (m.map zv6)).holds.length < _; omega) (by show (remS (t.getD i Queue.zero) (m.map zv6)).converts.length < _; omega) (by show (remS (t.getD i Queue.zero) (m.map zv6)).waits.length < _; omega)]
     simp only [decide_true, Option.bind_some, Bool.not_true, Bool.false_eq_true, if_false, zd2 i (show i < 4611686018427387904 by omega)]
    ·right
     have : i = t.length := by omega
     subst this
     exact ⟨_, by rw [if_neg (by simp)], rfl⟩) 0 ⟨0, by omega, rfl⟩
   rw [hz, hq]
  rw [key, Option.bind_some]
  simp only
  unfold zB0
  simp only [zaW4, Option.bind_some, hla, h6]
  rfl
end Ab
end Go.Proofs.YtfjeceicgfdmjaaGreatDoor
