/-
  Grants: fewer of them, one more, who is against.
-/
import Derived.Test.YtdflfohpemfeiaaGreatDoorHoldC
namespace Go.Proofs.YtdflfohpemfeiaaGreatDoor
namespace Ab
set_option linter.unusedVariables false
set_option linter.unusedSimpArgs false
theorem mem_others {p : Proc} {l : List Hold} {h : Hold} : h ∈ others p l ↔ h ∈ l ∧ h.proc ≠ p := by unfold others; simp
theorem sumU_sub {l m : List Amount} (h : l.Sublist m) (hn : ∀ a ∈ m, 0 ≤ a.units) : sumU l ≤ sumU m := by
 induction h with
 | slnil => exact Int.le_refl _
 | cons a h ih =>
  have := ih fun b hb => hn b (.tail _ hb)
  have := hn a (.head _)
  simp only [sumU]; omega
 | cons_cons a h ih =>
  have := ih fun b hb => hn b (.tail _ hb)
  simp only [sumU]; omega
theorem CompP.sub {r : Resource} {l m : List Amount} (h : CompP r m) (hs : l.Sublist m) : CompP r l where
 perm := fun a ha => h.perm a (hs.subset ha)
 sum := Int.le_trans (sumU_sub hs fun a ha => (perm_bounds (h.perm a ha)).1) h.sum
 pair := h.pair.sublist hs
theorem GoodP.sub {r : Resource} {l m : List Hold} (h : GoodP r m) (hs : l.Sublist m) : GoodP r l := ⟨fun x hx => h.each x (hs.subset hx), h.asc.sublist hs⟩
theorem validH_iff (r : Resource) (l : List Hold) : validH r l = true ↔ f_amount_Shaped r = true ∧ l.length ≤ 8 ∧ GoodP r l ∧ CompP r (l.map (·.amount)) := by
 unfold validH; simp
theorem validH_sub {r : Resource} {l m : List Hold} (h : validH r m = true) (hs : l.Sublist m) : validH r l = true := by
 rw [validH_iff] at h ⊢
 exact ⟨h.1, Nat.le_trans hs.length_le h.2.1, h.2.2.1.sub hs, h.2.2.2.sub (hs.map _)⟩
theorem others_sub (p : Proc) (l : List Hold) : (others p l).Sublist l := List.filter_sublist
theorem validH_nil {r : Resource} (hr : f_amount_Shaped r = true) : validH r [] = true := by
 rw [validH_iff]
 have : 1 ≤ r.units := by rw [shaped_iff] at hr; omega
 exact ⟨hr, by simp, ⟨by simp, .nil⟩, ⟨by simp, by simp [sumU]; omega, .nil⟩⟩
theorem insP_perm (p : Proc) (a : Amount) (l : List Hold) : (insP p a l).Perm (⟨p, a⟩ :: l) := by
 induction l with
 | nil => exact List.Perm.refl _
 | cons h t ih =>
  simp only [insP]
  split
  ·exact List.Perm.refl _
  ·exact (List.Perm.cons h ih).trans (List.Perm.swap _ _ _)
theorem insP_asc {p : Proc} {a : Amount} : ∀ {l : List Hold}, l.Pairwise (fun a b => ltP a.proc b.proc) → (∀ h ∈ l, h.proc ≠ p) → (insP p a l).Pairwise fun a b => ltP a.proc b.proc
 | [], _, _ => by simp [insP]
 | h :: t, hp, hn => by
  rw [List.pairwise_cons] at hp
  simp only [insP]
  split
  ·rename_i hlt
   rw [List.pairwise_cons]
   refine ⟨fun x hx => ?_, List.pairwise_cons.2 hp⟩
   rcases List.mem_cons.1 hx with rfl | hx
   ·exact hlt
   ·exact ltP_trans hlt (hp.1 x hx)
  ·rename_i hlt
   rw [List.pairwise_cons]
   refine ⟨fun x hx => ?_, insP_asc hp.2 fun x hx => hn x (.tail _ hx)⟩
   rcases List.mem_cons.1 ((insP_perm p a t).mem_iff.1 hx) with rfl | hx
   ·rcases ltP_total (hn h (.head _)) with h1 | h1
    ·exact h1
    ·exact absurd h1 hlt
   ·exact hp.1 x hx
theorem sumU_perm {l m : List Amount} (h : l.Perm m) : sumU l = sumU m := by
 induction h with
 | nil => rfl
 | cons a _ ih => simp only [sumU, ih]
 | swap a b l => simp only [sumU]; omega
 | trans _ _ ih1 ih2 => exact ih1.trans ih2
theorem clash_symm {a b : Amount} (h : ¬ clash a b) : ¬ clash b a := fun ⟨h1, h2, h3⟩ => h ⟨h2, h1, by rw [mC_comm]; exact h3⟩
theorem CompP.perm_iff {r : Resource} {l m : List Amount} (h : l.Perm m) : CompP r l ↔ CompP r m := by
 constructor
 ·intro k
  exact ⟨fun a ha => k.perm a (h.mem_iff.2 ha), by rw [← sumU_perm h]; exact k.sum, (h.pairwise_iff (fun h => clash_symm h)).1 k.pair⟩
 ·intro k
  exact ⟨fun a ha => k.perm a (h.mem_iff.1 ha), by rw [sumU_perm h]; exact k.sum, (h.pairwise_iff (fun h => clash_symm h)).2 k.pair⟩
theorem room_iff {r : Resource} {l : List Hold} {p : Proc} {a : Amount} (hv : validH r l = true) (hp : f_ident_ValidProc p = true) (ha : f_amount_Fits r a = true) (hlen : (others p l).length + 1 ≤ 8) :
  roomH r l p a = true ↔ (∀ h ∈ others p l, ¬ clash h.amount a) ∧ a.units + sumU ((others p l).map (·.amount)) ≤ r.units := by
 have hv' := (validH_iff r l).1 hv
 have hz := fits_nz ha
 have ho := validH_sub hv (others_sub p l)
 have ho' := (validH_iff r _).1 ho
 have hpr : properH r l p a = true := by unfold properH; simp [hv, hp, ha]
 have hpm : ((insP p a (others p l)).map (·.amount)).Perm (a :: (others p l).map (·.amount)) := (insP_perm p a (others p l)).map _
 unfold roomH
 rw [hpr, Bool.true_and, validH_iff]
 unfold setL
 rw [if_neg hz, CompP.perm_iff hpm]
 constructor
 ·rintro ⟨_, _, _, h4⟩
  refine ⟨fun h hh => ?_, h4.sum⟩
  have := (List.pairwise_cons.1 h4.pair).1 h.amount (List.mem_map.2 ⟨h, hh, rfl⟩)
  exact clash_symm this
 ·rintro ⟨h1, h2⟩
  refine ⟨hv'.1, by rw [insP_len]; exact hlen, ⟨fun x hx => ?_, insP_asc ho'.2.2.1.asc fun h hh => (mem_others.1 hh).2⟩, ⟨fun b hb => ?_, h2, ?_⟩⟩
  ·rcases List.mem_cons.1 ((insP_perm p a _).mem_iff.1 hx) with rfl | hx
   ·exact ⟨hp, ha⟩
   ·exact ho'.2.2.1.each x hx
  ·rcases List.mem_cons.1 hb with rfl | hb
   ·exact fits_perm ha
   ·exact ho'.2.2.2.perm b hb
  ·rw [List.pairwise_cons]
   refine ⟨fun b hb => ?_, ho'.2.2.2.pair⟩
   obtain ⟨h, hh, rfl⟩ := List.mem_map.1 hb
   exact clash_symm (h1 h hh)
theorem walk_foldl {α S X : Type} (f : S → α → S) (fin : S → X) : ∀ (l : List α) (i : Nat) (s : S), walk (fun _ a s => some (.inl (f s a))) fin l i s = some (fin (l.foldl f s))
 | [], _, _ => rfl
 | a :: l, i, s => by simp only [walk, List.foldl_cons]; exact walk_foldl f fin l (i + 1) _
def foe (r : Resource) (p : Proc) (a : Amount) (h : Hold) : Bool := !decide (h.proc = p) && !(decide (r.kind = 1) && compL r [h.amount, a])
def againstL (r : Resource) (l : List Hold) (p : Proc) (a : Amount) : List Proc :=
 if (!properH r l p a || roomH r l p a) = true then [] else (l.filter (foe r p a)).map (·.proc)
theorem filterMap_foe (l : List Hold) (f : Hold → Bool) : l.filterMap (fun h => if f h = true then some h.proc else none) = (l.filter f).map (·.proc) := by
 induction l with
 | nil => rfl
 | cons h t ih => simp only [List.filterMap_cons, List.filter_cons]; split <;> simp_all
theorem procs_eq (l : List Hold) (hl : l.length ≤ 1000000) : f_holders_Procs l = some (l.map (·.proc)) := by
 unfold f_holders_Procs
 have key := loop_list (body := f_holders_Procs_l1 l) l Hold.zero (fun i (s : List Proc) => ((i : Int), s)) (fun i h s => some (.inl (snocO s (some h.proc)))) (fun s => s) (fun i s => s.length ≤ i)
  (fun i s hi hs => by
   refine ⟨?_, fun s' h => ?_⟩
   ·unfold f_holders_Procs_l1
    have h1 : s.length + 1 ≤ 4294967296 := by omega
    have h3 : 0 ≤ (i : Int) ∧ (i : Int) < (l.length : Int) := by omega
    simp only [h1, h3.1, h3.2, and_self, gd_true, decide_true, if_true, Int.toNat_natCast, wrap_succ i (by omega), Option.map_some, wmap, snocO]
   ·simp only [Option.some.injEq, Sum.inl.injEq] at h; subst h; simp [snocO]; omega)
  (fun s hs => by unfold f_holders_Procs_l1; simp) [] (by simp)
 rw [show ((0, []) : Int × List Proc) = (fun (i : Nat) (s : List Proc) => ((i : Int), s)) 0 [] from rfl, key, walk_snoc (fun h : Hold => some h.proc)]
 simp [f_holders_Procs_k1]
theorem foe_lock {r : Resource} {p : Proc} {a : Amount} {h : Hold} (hk : r.kind = 1) (hs : f_amount_Shaped r = true) (hh : f_amount_Fits r h.amount = true) (ha : f_amount_Fits r a = true) : foe r p a h = true ↔ h.proc ≠ p ∧ clash h.amount a := by
 unfold foe compL
 have p1 := perm_lock (fits_perm hh) hk
 have p2 := perm_lock (fits_perm ha) hk
 have hc : CompP r [h.amount, a] ↔ ¬ clash h.amount a := by
  constructor
  ·intro c; have := c.pair; simp at this; exact this
  ·intro c
   exact ⟨fun b hb => by
    simp only [List.mem_cons, List.not_mem_nil, or_false] at hb
    rcases hb with rfl | rfl
    ·exact fits_perm hh
    ·exact fits_perm ha, by simp [sumU]; omega, by simp; exact c⟩
 simp [hk, hs, hc]
theorem foe_pool {r : Resource} {p : Proc} {a : Amount} {h : Hold} (hk : r.kind ≠ 1) : foe r p a h = true ↔ h.proc ≠ p := by
 unfold foe; simp [hk]
theorem others_foldl (rest : List Hold) : ∀ (ps : List Proc), ps.foldl (fun x q => setL x q Amount.zero) rest = rest.filter fun h => decide (h.proc ∉ ps) := by
 intro ps
 induction ps generalizing rest with
 | nil => exact (List.filter_eq_self.2 (by simp)).symm
 | cons q ps ih =>
  rw [List.foldl_cons, ih]
  unfold setL others
  rw [if_pos rfl, List.filter_filter]
  congr 1
  funext h
  by_cases e1 : h.proc = q <;> by_cases e2 : h.proc ∈ ps <;> simp [e1, e2]
end Ab
end Go.Proofs.YtdflfohpemfeiaaGreatDoor
