/-
  The law TablePurges in plain Lean: what a purge leaves.
-/
import Derived.Test.YtfjeceicgfdmjaaGreatDoorTabG
import Derived.Test.YtfjeceicgfdmjaaGreatDoorFlaw13TablePurges
namespace Go.Proofs.YtfjeceicgfdmjaaGreatDoor
namespace Ab
set_option linter.unusedVariables false
set_option linter.unusedSimpArgs false
theorem zaP5 (l : List Int) (a b : Int) : zA0 l a b = some true := by
 unfold zA0
 split
 ·rw [zaW4]; rfl
 ·next hl =>
  obtain ⟨t, ht, hv, h6⟩ := zch8 (l := l) (zch3 (by simpa using hl))
  have hpl := hv.procs
  rw [ht, Option.bind_some, zbg6, Option.bind_some, zai5 hv.len hv.each, Option.bind_some]
  have key := zq4 (body := zu7 a b (ze7 t)) (ze7 t) Proc.zero (fun i (s : List Proc) => ((i : Int), s)) (fun _ p s => some (.inl (if oldP a b p = true then s else s ++ [p]))) (fun s => s) (fun i s => s.length ≤ i)
   (fun i s hi hs => by
    have h3 : 0 ≤ (i : Int) ∧ (i : Int) < ((ze7 t).length : Int) := by omega
    refine ⟨?_, fun s2 h => by
     simp only [Option.some.injEq, Sum.inl.injEq] at h; subst h
     split
     ·omega
     ·rw [List.length_append]; show s.length + 1 ≤ _; omega⟩
    unfold zu7
    simp only [Int.toNat_natCast]
    rw [if_pos (decide_eq_true h3.2), zb2 h3, zb2 (fun _ => h3)]
    have eb : (!decide (((ze7 t).getD i Proc.zero).site = a) || decide (b ≤ ((ze7 t).getD i Proc.zero).inc)) = !oldP a b ((ze7 t).getD i Proc.zero) := by
     unfold oldP
     rw [Bool.not_and]
     congr 1
     rw [← decide_not, decide_eq_decide]; omega
    rw [eb]
    cases hc : oldP a b ((ze7 t).getD i Proc.zero) with
    | true => rw [zd2 i (by omega)]; rfl
    | false => rw [if_pos (show (!false) = true from rfl), zb2 h3, zb2 (by omega), zd2 i (by omega)]; rfl)
   (fun s hs => by unfold zu7; simp) [] (by simp)
  have fold : ∀ (ps s : List Proc), ps.foldl (fun s p => if oldP a b p = true then s else s ++ [p]) s = s ++ ps.filter fun p => !oldP a b p := by
   intro ps
   induction ps with
   | nil => intro s; simp
   | cons p ps ih =>
    intro s
    rw [List.foldl_cons, ih]
    cases e : oldP a b p with
    | true => rw [if_pos rfl, List.filter_cons_of_neg (by rw [e]; decide)]
    | false => rw [if_neg (by decide), List.filter_cons_of_pos (by rw [e]; rfl), List.append_assoc]; rfl
  rw [show ((0, []) : Int × List Proc) = (fun (i : Nat) (s : List Proc) => ((i : Int), s)) 0 [] from rfl, key, zar6 (fun s p => if oldP a b p = true then s else s ++ [p]), fold, List.nil_append, Option.bind_some]
  unfold zA9
  have hr := zbh0 hv a b
  have hpv : ValidT (zaF9 t a b).1 := by rw [hr]; exact zab7 hv _
  have hlen : ((zaF9 t a b).1.length : Int) = (t.length : Int) := by rw [hr, zaP4]
  have hpp := hpv.procs
  rw [zaW4, Option.bind_some, if_pos rfl, zW9, Option.bind_some, (zD1 _).2 hpv, hlen]
  simp only [decide_true, Bool.and_self, if_true]
  rw [zW7 hpv.len hpv.each, Option.bind_some, zbr0 _ _ (by omega), Option.bind_some, zbB5 hv]
  simp
end Ab
end Go.Proofs.YtfjeceicgfdmjaaGreatDoor
