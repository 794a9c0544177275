/-
  The law TableApart in plain Lean: a claim of one resource leaves the others.
-/
import Derived.Test.YtfjeceicgfdmjaaGreatDoorTabG
import Derived.Test.YtfjeceicgfdmjaaGreatDoorFlaw13TableApart
namespace Go.Proofs.YtfjeceicgfdmjaaGreatDoor
namespace Ab
set_option linter.unusedVariables false
set_option linter.unusedSimpArgs false
theorem zaU3 (l : List Int) (i n a pr : Int) : zD8 l i n a pr = some true := by
 unfold zD8
 split
 ·rw [zaJ6]; rfl
 ·next hl =>
  obtain ⟨t, ht, hv, h6⟩ := zce4 (l := l) (zcd6 (by simpa using hl))
  have h6i : (t.length : Int) = 6 := by omega
  have r0 : 0 ≤ i % 6 := Int.emod_nonneg _ (by decide)
  have r1 : i % 6 < 6 := Int.emod_lt_of_pos _ (by decide)
  rw [ht, Option.bind_some, h6i, zaP2 i 6 (by decide) (by decide), Option.bind_some, zb2 ⟨r0, r1⟩, zad4, Option.bind_some, zah9 _ _ (zax1 (hv.each _ (zD7 (by omega)))), Option.bind_some, zaP2 pr 8 (by decide) (by decide), Option.bind_some, zai2, Option.bind_some]
  generalize hc : zW6 t (zby5 n) ⟨(t.getD (i % 6).toNat Queue.zero).resource.name, amtM (t.getD (i % 6).toNat Queue.zero).resource a⟩ (pr % 8) = x
  by_cases e : x.2.2 = 0
  ·rw [if_neg (nd0 e)]
   obtain ⟨k, hk, _, hf, _, h1, _, h2⟩ := zbn1 (t := t) (by rw [hc]; exact e)
   rw [zcd8 hv.asc (by omega)] at hf
   rw [hc] at h1 h2
   have hki : (k : Int) = i % 6 := by omega
   have hlen : (x.1.length : Int) = 6 := by rw [h1, List.length_set]; exact h6i
   rw [hlen, if_neg (by decide)]
   have key : zb9 (zw4 t (i % 6) x) 0 = some (.inl ()) := by
    obtain ⟨y, hy, hp⟩ := zag5 (body := zw4 t (i % 6) x) (fun g => ∃ m : Nat, m ≤ 6 ∧ g = (m : Int)) (fun g => 6 - g.toNat) (fun y => y = .inl ()) (by
     rintro g ⟨m, hm, rfl⟩
     unfold zw4
     rw [h6i, hlen]
     by_cases hlt : m < 6
     ·left
      have g3 : 0 ≤ (m : Int) ∧ (m : Int) < 6 := by omega
      refine ⟨((m + 1 : Nat) : Int), ?_, ⟨m + 1, by omega, rfl⟩, by simp only [Int.toNat_natCast]; omega⟩
      rw [if_pos (decide_eq_true g3.2), zb2 (fun _ => g3), zb2 (fun _ => g3)]
      simp only [Int.toNat_natCast]
      by_cases hmk : (m : Int) = i % 6
      ·have ed : decide ((m : Int) = i % 6) = true := decide_eq_true hmk
       simp only [ed, Bool.not_true, Bool.false_eq_true, if_false, Option.bind_some, Bool.false_and, ze3 m (show m < 4611686018427387904 by omega)]
      ·have ed : decide ((m : Int) = i % 6) = false := decide_eq_false hmk
       have es : x.1.getD m Queue.zero = t.getD m Queue.zero := by
        rw [h1]; simp only [List.getD_eq_getElem?_getD]; rw [List.getElem?_set_ne (by omega)]
       simp only [ed, Bool.not_false, if_true, es, zbz7 (hv.each _ (zD7 (z := Queue.zero) (show m < t.length by omega))), Option.bind_some, Bool.not_true, Bool.and_false, Bool.false_eq_true, if_false, ze3 m (show m < 4611686018427387904 by omega)]
     ·right
      have : m = 6 := by omega
      subst this
      exact ⟨_, by rw [if_neg (by decide)], rfl⟩) 0 ⟨0, by omega, rfl⟩
    rw [hy, hp]
   rw [key, Option.bind_some]
   simp only
   unfold zE0
   rw [zaJ6]; rfl
  ·rw [if_pos (nd1 e), zaJ6, Option.bind_some]
   have := zbD8 (t := t) (by rw [hc]; exact e)
   rw [hc] at this
   rw [this]; rfl
end Ab
end Go.Proofs.YtfjeceicgfdmjaaGreatDoor
