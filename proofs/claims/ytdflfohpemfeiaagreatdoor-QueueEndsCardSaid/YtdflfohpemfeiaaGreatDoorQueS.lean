/-
  What the queue's calls return is short.
-/
import Derived.Test.YtdflfohpemfeiaaGreatDoorQueL
namespace Go.Proofs.YtdflfohpemfeiaaGreatDoor
namespace Ab
set_option linter.unusedVariables false
set_option linter.unusedSimpArgs false
def ShortR (x : Queue × List Hold × Int) : Prop := x.1.holds.length ≤ 8 ∧ x.1.converts.length ≤ 8 ∧ x.1.waits.length ≤ 8 ∧ x.2.1.length ≤ 16
theorem short_err (e : Int) : ShortR (errQ e) := by unfold ShortR errQ Queue.zero; simp
theorem short_changed {q : Queue} (h : SoundP q) : ShortR (changedQ q) := by
 have h1 := (h.adv).lens
 have h2 := advG_len q
 have h3 := h.lens
 exact ⟨h1.1, h1.2.1, h1.2.2.1, by show (advG q).length ≤ 16; omega⟩
theorem short_same {q : Queue} (h : SoundP q) : ShortR (q, [], 0) := by
 have h1 := h.lens
 exact ⟨h1.1, h1.2.1, h1.2.2.1, by simp⟩
theorem claimS_err {q : Queue} {p : Proc} {a : Amount} {pr : Int} (h : (claimS q p a pr).2.2 ≠ 0) : ∃ e, claimS q p a pr = errQ e := by
 unfold claimS at h ⊢
 split; · exact ⟨_, rfl⟩
 split; · exact ⟨_, rfl⟩
 split; · exact ⟨_, rfl⟩
 split; · exact ⟨_, rfl⟩
 rename_i h1 h2 h3 h4
 rw [if_neg h1, if_neg h2, if_neg h3, if_neg h4] at h
 split
 ·rename_i h5; rw [if_pos h5] at h; exact absurd rfl h
 rename_i h5; rw [if_neg h5] at h
 split
 ·rename_i h6; rw [if_pos h6] at h; exact absurd rfl h
 rename_i h6; rw [if_neg h6] at h
 split
 ·exact ⟨_, rfl⟩
 ·rename_i h7; rw [if_neg h7] at h; exact absurd rfl h
theorem cancelS_err {q : Queue} {p : Proc} (h : (cancelS q p).2.2 ≠ 0) : ∃ e, cancelS q p = errQ e := by
 unfold cancelS at h ⊢
 split; · exact ⟨_, rfl⟩
 split; · exact ⟨_, rfl⟩
 rename_i h1 h2
 rw [if_neg h1, if_neg h2] at h
 exact absurd rfl h
theorem removeS_err {q : Queue} {p : Proc} (h : (removeS q p).2.2 ≠ 0) : ∃ e, removeS q p = errQ e := by
 unfold removeS at h ⊢
 split; · exact ⟨_, rfl⟩
 split; · exact ⟨_, rfl⟩
 rename_i h1 h2
 rw [if_neg h1, if_neg h2] at h
 exact absurd rfl h
theorem lowerS_err {q : Queue} {p : Proc} {a : Amount} (h : (lowerS q p a).2.2 ≠ 0) : ∃ e, lowerS q p a = errQ e := by
 unfold lowerS at h ⊢
 split; · exact ⟨_, rfl⟩
 split; · exact ⟨_, rfl⟩
 split; · exact ⟨_, rfl⟩
 split; · exact ⟨_, rfl⟩
 rename_i h1 h2 h3 h4
 rw [if_neg h1, if_neg h2, if_neg h3, if_neg h4] at h
 split
 ·rename_i h5; rw [if_pos h5] at h; exact absurd rfl h
 ·rename_i h5; rw [if_neg h5] at h; exact absurd rfl h
theorem claimS_short (q : Queue) (p : Proc) (a : Amount) (pr : Int) : ShortR (claimS q p a pr) := by
 by_cases h : (claimS q p a pr).2.2 = 0
 ·obtain ⟨hs, _, _, _, _, hh⟩ := claimS_ok h
  rcases hh with ⟨_, e⟩ | ⟨_, _, e, hc⟩ | ⟨_, _, _, e, hc⟩
  ·rw [e]; exact short_same hs
  ·rw [e]; exact short_changed hc
  ·rw [e]; exact short_changed hc
 ·obtain ⟨e, he⟩ := claimS_err h; rw [he]; exact short_err e
theorem cancelS_short (q : Queue) (p : Proc) : ShortR (cancelS q p) := by
 by_cases h : (cancelS q p).2.2 = 0
 ·obtain ⟨_, _, _, e, hc⟩ := cancelS_ok h; rw [e]; exact short_changed hc
 ·obtain ⟨e, he⟩ := cancelS_err h; rw [he]; exact short_err e
theorem removeS_short (q : Queue) (p : Proc) : ShortR (removeS q p) := by
 by_cases h : (removeS q p).2.2 = 0
 ·obtain ⟨_, _, _, e, hc⟩ := removeS_ok h; rw [e]; exact short_changed hc
 ·obtain ⟨e, he⟩ := removeS_err h; rw [he]; exact short_err e
theorem lowerS_short (q : Queue) (p : Proc) (a : Amount) : ShortR (lowerS q p a) := by
 by_cases h : (lowerS q p a).2.2 = 0
 ·obtain ⟨hs, _, _, _, _, hh⟩ := lowerS_ok h
  rcases hh with ⟨_, e⟩ | ⟨_, e, hc⟩
  ·rw [e]; exact short_same hs
  ·rw [e]; exact short_changed hc
 ·obtain ⟨e, he⟩ := lowerS_err h; rw [he]; exact short_err e
end Ab
end Go.Proofs.YtdflfohpemfeiaaGreatDoor
