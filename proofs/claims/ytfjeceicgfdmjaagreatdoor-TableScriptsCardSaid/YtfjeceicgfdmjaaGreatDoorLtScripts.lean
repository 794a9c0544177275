/-
  The law TableScripts in plain Lean: every script leaves a valid table.
-/
import Derived.Test.YtfjeceicgfdmjaaGreatDoorTabG
import Derived.Test.YtfjeceicgfdmjaaGreatDoorFlaw13TableScripts
namespace Go.Proofs.YtfjeceicgfdmjaaGreatDoor
namespace Ab
set_option linter.unusedVariables false
set_option linter.unusedSimpArgs false
theorem zaJ9 (l : List Int) : zz3 l = some true := by
 unfold zz3
 split
 ·rw [zaJ6]; rfl
 ·next hl =>
  have hl2 : l.length ≤ 1000000 := zcd6 (by simpa using hl)
  obtain ⟨h1, h2⟩ := zbn5 hl2
  obtain ⟨t, ht, hv, h6⟩ := zce4 hl2
  rw [show ({ Tape.zero with l := l } : Tape) = zas4 l from rfl, zaE8 _ (zaJ8 hl2), Option.bind_some, zaJ5, Option.bind_some]
  have h2i : (((newT (catL (zas4 l))).1.length : Nat) : Int) = 6 := by have : (newT (catL (zas4 l))).1.length = 6 := h2; omega
  rw [if_neg (by simp only; rw [h2i]; decide)]
  have same := zbL2 (b1 := zv8) (b2 := zs7) InvT zbz4 (fun x => Sum.inl x) (fun g hg => by
   have hm := zbn4 hg
   have hl := hg.valid.len
   have hp := hg.pos
   have o1 := zw3 hg.tape
   have o2 := zw3 o1
   have o3 := zw3 o2
   have o4 := zw3 o3
   have r1 := zF9 (g.1.length : Int) (zz2 g.2) (by omega)
   have hsv := zax7 hg
   have hb2 : zs7 g = some (if g.2.at_ < g.2.l.length then .inl (zax6 g) else .inr (.inl g.1)) := by
    unfold zs7 zj0
    simp only [Option.bind_some]
    by_cases hm : g.2.at_ < g.2.l.length
    ·rw [if_pos (decide_eq_true hm), if_pos hm, zJ5 8 _ hg.tape (by decide) (by decide), Option.bind_some]
     simp only
     rw [zJ5 _ _ o1 (by omega) (by omega), Option.bind_some, zb2 r1]
     simp only
     rw [zJ5 8 _ o2 (by decide) (by decide), Option.bind_some, zad4, Option.bind_some]
     simp only
     rw [zJ5 64 _ o3 (by decide) (by decide), Option.bind_some]
     have hsh := zaJ7 hg.valid r1.1 r1.2
     unfold zbn2 at hsh
     simp only
     rw [zah9 _ _ hsh, Option.bind_some]
     have k2 : ∀ (r : ResT) (u : Tape), ValidT (if r.2.2 = 0 then r.1 else g.1) → (if r.2.2 = 0 then r.1 else g.1).length = g.1.length → zk1 g (r.1, r.2.2, u) = some (.inl (if r.2.2 = 0 then r.1 else g.1, u)) := fun r u hv hle => by
      have k3 : ∀ y : List Queue, ValidT y → y.length = g.1.length → zn7 (r.1, r.2.2, u) y = some (.inl (y, u)) := fun y hy hyl => by
       unfold zn7
       rw [zW5, Option.bind_some, (zJ7 _).2 hy, if_neg]
       simp only [Bool.not_true, Bool.false_or, decide_eq_true_eq]
       omega
      unfold zk1
      by_cases e : r.2.2 = 0
      ·rw [if_pos e] at hv hle
       simp only [e, decide_true, if_true]
       have := k3 _ hv hle
       rw [e] at this
       exact this
      ·rw [if_neg e] at hv hle
       simp only [e, decide_false, Bool.false_eq_true, if_false]
       exact k3 _ hv hle
     unfold zax6 zao5 zbn2 zbg5 at hsv ⊢
     simp only at hsv
     simp only [zaU0, zbf9, zai2, Option.bind_some, zJ5 8 _ o4 (by decide) (by decide), decide_eq_true_eq]
     by_cases h0 : zz9 8 g.2 = 0
     ·simp only [h0, if_true] at hsv ⊢
      exact k2 _ _ hsv.1 hsv.2
     ·simp only [h0, if_false] at hsv ⊢
      by_cases h1 : zz9 8 g.2 = 1
      ·simp only [h1, if_true] at hsv ⊢
       exact k2 _ _ hsv.1 hsv.2
      ·simp only [h1, if_false] at hsv ⊢
       exact k2 _ _ hsv.1 hsv.2
    ·rw [if_neg (by rw [decide_eq_true_eq]; exact hm), if_neg hm]
   rw [hm, hb2]
   by_cases hc : g.2.at_ < g.2.l.length
   ·exact .inl ⟨zax6 g, by rw [if_pos hc], by rw [if_pos hc], zbn3 hg, zbg7 hg hc⟩
   ·exact .inr ⟨g.1, by rw [if_neg hc], by rw [if_neg hc]⟩) (zW8 l) h1
  have ht2 : zb9 zv8 (zW8 l) = some t := by
   unfold zu7 at ht
   rw [show ({ Tape.zero with l := l } : Tape) = zas4 l from rfl, zaE8 _ (zaJ8 hl2), Option.bind_some, zaJ4, Option.bind_some] at ht
   unfold zW8
   cases hx : zb9 zv8 ((newT (catL (zas4 l))).1, zD6 8 (zas4 l)) with
   | none => rw [hx] at ht; cases ht
   | some x => rw [hx] at ht; exact ht
  rw [ht2] at same
  unfold zW8 at same
  simp only
  rw [same, Option.map_some, Option.bind_some]
  simp only
  unfold zA0
  rw [zaJ6, Option.bind_some, if_pos rfl, ht, Option.bind_some, if_pos rfl, zbi9 _ _ (by omega) hv.lens]
  simp
end Ab
end Go.Proofs.YtfjeceicgfdmjaaGreatDoor
