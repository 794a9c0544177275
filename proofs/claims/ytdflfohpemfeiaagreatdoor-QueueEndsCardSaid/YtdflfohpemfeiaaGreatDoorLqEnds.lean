/-
  The law QueueEnds in plain Lean: a queue ends empty when all are removed.
-/
import Derived.Test.YtdflfohpemfeiaaGreatDoorQueN
import Derived.Test.YtdflfohpemfeiaaGreatDoorFlaw12QueueEnds
namespace Go.Proofs.YtdflfohpemfeiaaGreatDoor
namespace Ab
set_option linter.unusedVariables false
set_option linter.unusedSimpArgs false
theorem ends_inner (x : Queue) (G : List Hold) (e : Int) (hx : x.holds.length ≤ 8) (hG : ∀ g ∈ G, getH x.holds g.proc = g.amount) (hl : G.length ≤ 1000000) : loopO (f_law12_QueueEnds_l2 (x, G, e)) 0 = some (.inl ()) := by
 have key := loop_list' (body := f_law12_QueueEnds_l2 (x, G, e)) G Hold.zero (fun i (_ : Unit) => (i : Int)) (fun _ _ _ => some (.inl ())) (fun _ => Sum.inl (β := Bool) ())
  (fun i s hi => by
   unfold f_law12_QueueEnds_l2
   have h3 : 0 ≤ (i : Int) ∧ (i : Int) < (G.length : Int) := by omega
   have hm : G.getD i Hold.zero ∈ G := by rw [List.getD_eq_getElem?_getD, List.getElem?_eq_getElem hi]; exact List.getElem_mem hi
   have g1 := hG _ hm
   simp only [h3.1, h3.2, and_self, gd_true, decide_true, if_true, Int.toNat_natCast, wrap_succ i (by omega), Option.map_some]
   rw [queue_Held_eq x _ (by omega), Option.bind_some, g1]
   simp only [decide_true, Bool.not_true, Bool.false_eq_true, if_false, wmap])
  (fun s => by unfold f_law12_QueueEnds_l2; simp) ()
 rw [show (0 : Int) = (fun (i : Nat) (_ : Unit) => (i : Int)) 0 () from rfl, key]
 have : ∀ (l : List Hold) (i : Nat), walk (fun _ _ (_ : Unit) => some (Sum.inl (β := Unit ⊕ Bool) ())) (fun _ => Sum.inl (β := Bool) ()) l i () = some (.inl ()) := by
  intro l
  induction l with
  | nil => intro i; rfl
  | cons a t ih => intro i; simp only [walk]; exact ih (i + 1)
 exact this G 0
theorem procsQ_len {q : Queue} (h : settledQ q = true) : (procsQ q).length ≤ 1000000 := by
 have hl := settled_lens h
 have := sortP_len (q.holds.map (·.proc) ++ (ordQ q).map (·.proc))
 unfold procsQ
 unfold ordQ at *
 simp only [List.length_append, List.length_map] at this
 omega
theorem remove_grants {q : Queue} (h : settledQ q = true) {p : Proc} (hp : hasQ q p = true) : (∀ g ∈ (removeS q p).2.1, getH (removeS q p).1.holds g.proc = g.amount) ∧ (removeS q p).2.1.length ≤ 16 := by
 refine ⟨?_, (removeS_short q p).2.2.2⟩
 have hs := ((settled_iff q).1 h).1
 rw [remove_can h hp]
 exact fun g hg => (adv_grants _ (hs.del p) g hg).1
theorem QueueEnds_true (n : Int) (l : List Int) : f_law12_QueueEnds n l = some true := by
 unfold f_law12_QueueEnds
 rw [awake12]
 cases hL : f_mill_Light l with
 | false => rfl
 | true =>
  have hl := lightT hL
  have hq := made_settled n l
  have hlen := settled_lens hq
  rw [ifNT, law12_made_eq n l hl, Option.bind_some, queue_Procs_eq _ (by omega) (by omega) (by omega), Option.bind_some]
  generalize madeQ n l = q at hq hlen
  have hs := ((settled_iff q).1 hq).1
  have hpl := procsQ_len hq
  have hnd : (procsQ q).Nodup := asc_nodup (sortP_asc _)
  obtain ⟨x, hx, hp⟩ := loop_rel (body := f_law12_QueueEnds_l1 (procsQ q)) (fun g => ∃ i : Nat, i ≤ (procsQ q).length ∧ g = ((i : Int), remS q ((procsQ q).take i))) (fun g => (procsQ q).length - g.1.toNat)
   (fun x => x = .inl (remS q (procsQ q))) (by
    rintro g ⟨i, hi, rfl⟩
    unfold f_law12_QueueEnds_l1
    by_cases hlt : i < (procsQ q).length
    ·left
     have h3 : 0 ≤ (i : Int) ∧ (i : Int) < ((procsQ q).length : Int) := by omega
     have hxs := remS_settled ((procsQ q).take i) hq
     have hhas : hasQ (remS q ((procsQ q).take i)) ((procsQ q).getD i Proc.zero) = true := (remS_has _ hq _).2 ⟨(mem_procsQ hs).1 (getD_in hlt), getD_notin_take hnd hlt⟩
     have hsn : remS q ((procsQ q).take (i + 1)) = remN (remS q ((procsQ q).take i)) ((procsQ q).getD i Proc.zero) := by rw [take_snoc (z := Proc.zero) hlt, remS_snoc]
     refine ⟨(((i + 1 : Nat) : Int), remS q ((procsQ q).take (i + 1))), ?_, ⟨i + 1, by omega, rfl⟩, by simp only [Int.toNat_natCast]; omega⟩
     rw [hsn]
     simp only [h3.1, h3.2, and_self, gd_true, decide_true, if_true, Int.toNat_natCast, queue_Remove_eq, Option.bind_some]
     generalize remS q ((procsQ q).take i) = y at hxs hhas
     generalize (procsQ q).getD i Proc.zero = p at hhas
     obtain ⟨r1, r2⟩ := remove_snoc hxs hhas
     obtain ⟨r3, r4⟩ := remove_grants hxs hhas
     have hys := remN_settled hxs p
     have hyl := settled_lens hys
     simp only [r1, decide_true, if_true]
     rw [r2]
     rw [queue_Procs_eq _ (by omega) (by omega) (by omega)]
     have hno : decide (p ∈ procsQ (remN y p)) = false := by
      rw [decide_eq_false_iff_not, mem_procsQ ((settled_iff _).1 hys).1, remN_has hxs]
      exact fun h => h.2 rfl
     have hgd : ∀ (k : Option ((Int × Queue) ⊕ (Queue ⊕ Bool))), gd (True → True) k = k := fun k => gd_pos (fun _ => trivial)
     simp only [Option.bind_some, ref02_HasProc_eq _ _ (procsQ_len hys), hno, Bool.not_true, Bool.or_self, Bool.false_eq_true, if_false, implies_true, gd_true]
     have e0 : removeS y p = ((removeS y p).1, (removeS y p).2.1, (removeS y p).2.2) := rfl
     rw [e0, ends_inner _ _ _ (removeS_short y p).1 r3 (by omega)]
     simp only [Option.bind_some]
     unfold f_law12_QueueEnds_k2
     simp only [wrap_succ i (by omega)]
     rw [r2]
    ·right
     have : i = (procsQ q).length := by omega
     subst this
     exact ⟨_, by rw [if_neg (by simp)], by simp only [List.take_length]⟩) (0, q) ⟨0, by omega, by simp [remS]⟩
  rw [hx, hp]
  simp only [Option.bind_some]
  unfold f_law12_QueueEnds_k1
  rw [awake12]
  have hz := remS_settled (procsQ q) hq
  obtain ⟨z1, z2, z3⟩ := has_none ((settled_iff _).1 hz).1 (fun x => by
   rw [← Bool.not_eq_true, remS_has _ hq, mem_procsQ hs]
   exact fun h => h.2 h.1)
  rw [z1, z2, z3]
  rfl
end Ab
end Go.Proofs.YtdflfohpemfeiaaGreatDoor
