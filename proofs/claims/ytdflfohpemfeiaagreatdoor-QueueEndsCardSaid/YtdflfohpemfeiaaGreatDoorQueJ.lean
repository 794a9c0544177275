/-
  Whom an advance grants what; who is in a queue; what a claim lets happen.
-/
import Derived.Test.YtdflfohpemfeiaaGreatDoorQueI
namespace Go.Proofs.YtdflfohpemfeiaaGreatDoor
namespace Ab
set_option linter.unusedVariables false
set_option linter.unusedSimpArgs false
def ordQ (q : Queue) : List Wait := q.converts ++ q.waits
def asHold (w : Wait) : Hold := ⟨w.proc, w.amount⟩
theorem ord_pop {q : Queue} (h : canQ q = true) : ordQ q = (headQ q).1 :: ordQ (popQ q) ∧ (popQ q).holds = setL q.holds (headQ q).1.proc (headQ q).1.amount := by
 cases pop_of h with
 | con w cs he hd hr hp => rw [hp, hd]; unfold ordQ; rw [he]; exact ⟨rfl, rfl⟩
 | wait w ws hc he hd hr hp => rw [hp, hd]; unfold ordQ; rw [hc, he]; exact ⟨rfl, rfl⟩
theorem pop_fits {q : Queue} (h : canQ q = true) : roomH q.resource q.holds (headQ q).1.proc (headQ q).1.amount = true := by
 unfold canQ at h; rw [Bool.and_eq_true] at h; exact h.2
theorem adv_still {q : Queue} {p : Proc} (h : ∀ w ∈ ordQ q, w.proc ≠ p) : getH (advS q).holds p = getH q.holds p ∧ ∀ w ∈ ordQ (advS q), w.proc ≠ p := by
 have := adv_ind (P := fun x => getH x.holds p = getH q.holds p ∧ ∀ w ∈ ordQ x, w.proc ≠ p) (fun x hc hx => by
  obtain ⟨h1, h2⟩ := ord_pop hc
  obtain ⟨h3, h4⟩ := hx
  rw [h1] at h4
  refine ⟨?_, fun w hw => h4 w (.tail _ hw)⟩
  rw [h2, getH_setL_ne (Ne.symm (h4 _ (.head _)))]; exact h3) q ⟨rfl, h⟩
 exact this
theorem SoundP.nd {q : Queue} (h : SoundP q) : ((ordQ q).map (·.proc)).Nodup := h.nodup
theorem nd_head {w : Wait} {l : List Wait} (h : ((w :: l).map (·.proc)).Nodup) : ∀ x ∈ l, x.proc ≠ w.proc := fun x hx e => by
 rw [List.map_cons, List.nodup_cons] at h
 exact h.1 (List.mem_map.2 ⟨x, hx, e⟩)
theorem adv_first {q : Queue} (hs : SoundP q) (hc : canQ q = true) : getH (advS q).holds (headQ q).1.proc = (headQ q).1.amount ∧ ∀ w ∈ ordQ (advS q), w.proc ≠ (headQ q).1.proc := by
 obtain ⟨h1, h2⟩ := ord_pop hc
 have hn := hs.nd
 rw [h1] at hn
 have := adv_still (q := popQ q) (nd_head hn)
 rw [advS_can hc, this.1, h2, getH_setL_self]
 exact ⟨rfl, this.2⟩
theorem adv_grants : ∀ q, SoundP q → ∀ g ∈ advG q, getH (advS q).holds g.proc = g.amount ∧ ∀ w ∈ ordQ (advS q), w.proc ≠ g.proc := by
 refine adv_rec (fun q h hs g hg => by rw [advG_not h] at hg; cases hg) fun q hc ih hs g hg => ?_
 rw [advG_can hc] at hg
 rcases List.mem_cons.1 hg with rfl | hg
 ·exact adv_first hs hc
 ·rw [advS_can hc]; exact ih (hs.pop hc) g hg
theorem adv_covers {q : Queue} (hs : SoundP q) (p : Proc) : covA q.resource (getH (advS q).holds p) (getH q.holds p) = true := by
 have := adv_ind (P := fun x => SoundP x ∧ x.resource = q.resource ∧ covA q.resource (getH x.holds p) (getH q.holds p) = true) (fun x hc ⟨h1, h2, h3⟩ => by
  refine ⟨h1.pop hc, by rw [(pop_gen x).2]; exact h2, ?_⟩
  obtain ⟨e1, e2⟩ := ord_pop hc
  rw [e2]
  by_cases hp : p = (headQ x).1.proc
  ·subst hp
   rw [getH_setL_self]
   refine covA_trans ?_ h3
   cases pop_of hc with
   | con w cs he hd hr hp => rw [hd, ← h2]; exact (h1.cg w (by rw [he]; exact .head _)).2.2.1
   | wait w ws hcc he hd hr hp =>
    rw [hd, (h1.wg w (by rw [he]; exact .head _)).2, ← h2]
    have hf := (room_parts hr).2.2.1
    exact covA_zero (fits_perm hf) (fits_shaped hf)
  ·rw [getH_setL_ne hp]; exact h3) q ⟨hs, rfl, covA_refl (getH_perm hs.hv p)⟩
 exact this.2.2
theorem adv_order : ∀ q, ∃ ws, ordQ q = ws ++ ordQ (advS q) ∧ advG q = ws.map asHold := by
 refine adv_rec (fun q h => ⟨[], by rw [advS_not h, advG_not h]; exact ⟨rfl, rfl⟩⟩) fun q hc ⟨ws, h1, h2⟩ => ⟨(headQ q).1 :: ws, ?_⟩
 rw [(ord_pop hc).1, advS_can hc, advG_can hc, h1, h2]
 exact ⟨rfl, rfl⟩
theorem held_iff {r : Resource} {l : List Hold} (h : validH r l = true) (p : Proc) : getH l p ≠ Amount.zero ↔ p ∈ l.map (·.proc) := by
 constructor
 ·intro hp; exact List.mem_map.2 ⟨_, getH_mem hp, rfl⟩
 ·intro hp
  obtain ⟨x, hx, rfl⟩ := List.mem_map.1 hp
  rw [getH_of_mem (valid_asc h) hx]
  exact fits_nz (((validH_iff _ _).1 h).2.2.1.each x hx).2
theorem has_iff' (q : Queue) (p : Proc) : hasQ q p = true ↔ (∃ w ∈ ordQ q, w.proc = p) ∨ getH q.holds p ≠ Amount.zero := by
 unfold hasQ
 rw [Bool.or_eq_true, want_iff, Bool.not_eq_true', zero_not]
 rfl
theorem has_iff {q : Queue} (h : SoundP q) (p : Proc) : hasQ q p = true ↔ p ∈ (ordQ q).map (·.proc) ∨ p ∈ q.holds.map (·.proc) := by
 simp only [has_iff', held_iff h.hv, List.mem_map]
theorem has_pop {q : Queue} (hc : canQ q = true) (p : Proc) : hasQ (popQ q) p = hasQ q p := by
 rw [Bool.eq_iff_iff, has_iff', has_iff']
 obtain ⟨h1, h2⟩ := ord_pop hc
 rw [h1, h2]
 have hz := fits_nz (room_parts (pop_fits hc)).2.2.1
 by_cases hp : p = (headQ q).1.proc
 ·subst hp
  rw [getH_setL_self]
  exact ⟨fun _ => .inl ⟨_, .head _, rfl⟩, fun _ => .inr hz⟩
 ·rw [getH_setL_ne hp]
  constructor
  ·rintro (⟨w, hw, e⟩ | h)
   ·exact .inl ⟨w, .tail _ hw, e⟩
   ·exact .inr h
  ·rintro (⟨w, hw, e⟩ | h)
   ·rcases List.mem_cons.1 hw with rfl | hw
    ·exact absurd e.symm hp
    ·exact .inl ⟨w, hw, e⟩
   ·exact .inr h
theorem has_adv (q : Queue) (p : Proc) : hasQ (advS q) p = hasQ q p := adv_ind (P := fun x => hasQ x p = hasQ q p) (fun x hc h => by rw [has_pop hc]; exact h) q rfl
theorem has_gen (q : Queue) (g : Int) (p : Proc) : hasQ { q with gen := g } p = hasQ q p := rfl
theorem mem_ord_del {q : Queue} {p : Proc} {w : Wait} : w ∈ ordQ (del q p) ↔ w ∈ ordQ q ∧ w.proc ≠ p := by
 unfold ordQ del
 simp only [List.mem_append, mem_rmL]
 constructor
 ·rintro (⟨a, b⟩ | ⟨a, b⟩)
  ·exact ⟨.inl a, b⟩
  ·exact ⟨.inr a, b⟩
 ·rintro ⟨a | a, b⟩
  ·exact .inl ⟨a, b⟩
  ·exact .inr ⟨a, b⟩
theorem has_del (q : Queue) (p x : Proc) : hasQ (del q p) x = true ↔ hasQ q x = true ∧ x ≠ p := by
 rw [has_iff', has_iff']
 by_cases hx : x = p
 ·subst hx
  constructor
  ·rintro (⟨w, hw, e⟩ | h)
   ·exact absurd e (mem_ord_del.1 hw).2
   ·exact absurd (getH_others_self _ _) h
  ·rintro ⟨_, h⟩; exact absurd rfl h
 ·have e1 : getH (del q p).holds x = getH q.holds x := getH_others_ne hx _
  rw [e1]
  constructor
  ·rintro (⟨w, hw, e⟩ | h)
   ·exact ⟨.inl ⟨w, (mem_ord_del.1 hw).1, e⟩, hx⟩
   ·exact ⟨.inr h, hx⟩
  ·rintro ⟨⟨w, hw, e⟩ | h, _⟩
   ·exact .inl ⟨w, mem_ord_del.2 ⟨hw, by rw [e]; exact hx⟩, e⟩
   ·exact .inr h
theorem del_out {q : Queue} (h : SoundP q) {p : Proc} (hp : hasQ q p = false) : del q p = q := by
 rw [← Bool.not_eq_true, has_iff h] at hp
 simp only [not_or, ordQ, List.map_append, List.mem_append, List.mem_map, not_exists, not_and] at hp
 exact del_none hp.2 hp.1.1 hp.1.2
def remN (q : Queue) (p : Proc) : Queue := if (removeS q p).2.2 = 0 then (removeS q p).1 else q
theorem changedQ_fst (q : Queue) : (changedQ q).1 = { advS q with gen := f_ident_Next q.gen } := rfl
theorem remove_can {q : Queue} (h : settledQ q = true) {p : Proc} (hp : hasQ q p = true) : removeS q p = changedQ (del q p) := by
 unfold removeS; rw [if_neg (by rw [h]; decide), if_neg (by rw [hp]; decide)]
theorem remove_cannot {q : Queue} (h : settledQ q = true) {p : Proc} (hp : hasQ q p = false) : removeS q p = errQ 10 := by
 unfold removeS; rw [if_neg (by rw [h]; decide), if_pos hp]
theorem remN_settled {q : Queue} (h : settledQ q = true) (p : Proc) : settledQ (remN q p) = true := by
 unfold remN
 split
 ·rename_i h0
  obtain ⟨_, _, _, e, hs⟩ := removeS_ok h0
  rw [e]; exact changed_settled hs
 ·exact h
theorem remN_eq {q : Queue} (h : settledQ q = true) (p : Proc) : noG (remN q p) = advS (del (noG q) p) := by
 obtain ⟨hs, hc⟩ := (settled_iff q).1 h
 unfold remN
 cases hp : hasQ q p with
 | true =>
  rw [remove_can h hp, if_pos (show (changedQ (del q p)).2.2 = 0 from rfl), changedQ_fst]
  exact (advS_noG 0 (del q p)).symm
 | false =>
  rw [remove_cannot h hp, if_neg (by decide)]
  have : del (noG q) p = noG q := by
   show noG (del q p) = noG q
   rw [del_out hs hp]
  rw [this]
  show noG q = advS { q with gen := 0 }
  rw [advS_not (by rw [canQ_noG]; exact hc)]; rfl
theorem SoundP.noG {q : Queue} (h : SoundP q) : SoundP (noG q) := h.gen' 0 (by decide) (by decide)
def remS (q : Queue) (ps : List Proc) : Queue := ps.foldl remN q
theorem remS_settled : ∀ (ps : List Proc) {q : Queue}, settledQ q = true → settledQ (remS q ps) = true
 | [], _, h => h
 | p :: ps, _, h => remS_settled ps (remN_settled h p)
theorem remS_eq : ∀ (ps : List Proc) {q : Queue}, settledQ q = true → noG (remS q ps) = advS (dels (noG q) ps)
 | [], q, h => by
  obtain ⟨hs, hc⟩ := (settled_iff q).1 h
  show noG q = advS { q with gen := 0 }
  rw [advS_not (by rw [canQ_noG]; exact hc)]; rfl
 | p :: ps, q, h => by
  have hs := ((settled_iff q).1 h).1
  have ih := remS_eq ps (remN_settled h p)
  show noG (remS (remN q p) ps) = _
  rw [ih, remN_eq h p]
  have key : ∀ (ps : List Proc) (x : Queue), SoundP x → advS (dels (advS x) ps) = advS (dels x ps) := by
   intro ps
   induction ps with
   | nil =>
    intro x hx
    show advS (advS x) = advS x
    exact advS_not (advS_end x)
   | cons a ps ih =>
    intro x hx
    show advS (dels (del (advS x) a) ps) = advS (dels (del x a) ps)
    rw [← ih _ (hx.adv.del a), adv_del x hx a, ih _ (hx.del a)]
  exact key ps _ (hs.noG.del p)
theorem remS_perm {q : Queue} (h : settledQ q = true) {a b : List Proc} (hp : a.Perm b) : noG (remS q a) = noG (remS q b) := by
 rw [remS_eq a h, remS_eq b h, dels_perm hp]
theorem remN_covers {q : Queue} (h : settledQ q = true) {p x : Proc} (hx : x ≠ p) : covA q.resource (getH (remN q p).holds x) (getH q.holds x) = true ∧ (remN q p).resource = q.resource := by
 obtain ⟨hs, hc⟩ := (settled_iff q).1 h
 unfold remN
 cases hp : hasQ q p with
 | true =>
  rw [remove_can h hp, if_pos (show (changedQ (del q p)).2.2 = 0 from rfl), changedQ_fst]
  have h1 := adv_covers (hs.del p) x
  have h2 : getH (del q p).holds x = getH q.holds x := getH_others_ne hx _
  rw [h2] at h1
  exact ⟨h1, (adv_gen (del q p)).2⟩
 | false =>
  rw [remove_cannot h hp, if_neg (by decide)]
  exact ⟨covA_refl (getH_perm hs.hv x), rfl⟩
theorem remS_covers : ∀ (ps : List Proc) {q : Queue} {x : Proc}, settledQ q = true → x ∉ ps → covA q.resource (getH (remS q ps).holds x) (getH q.holds x) = true ∧ (remS q ps).resource = q.resource
 | [], q, x, h, _ => ⟨covA_refl (getH_perm ((settled_iff q).1 h).1.hv x), rfl⟩
 | p :: ps, q, x, h, hx => by
  have h1 := remN_covers h (p := p) (x := x) fun e => hx (by rw [e]; exact .head _)
  have h2 := remS_covers ps (remN_settled h p) (x := x) fun hm => hx (.tail _ hm)
  rw [h1.2] at h2
  exact ⟨covA_trans h2.1 h1.1, h2.2⟩
theorem remN_has {q : Queue} (h : settledQ q = true) (p x : Proc) : hasQ (remN q p) x = true ↔ hasQ q x = true ∧ x ≠ p := by
 unfold remN
 cases hp : hasQ q p with
 | true =>
  rw [remove_can h hp, if_pos (show (changedQ (del q p)).2.2 = 0 from rfl), changedQ_fst, has_gen, has_adv, has_del]
 | false =>
  rw [remove_cannot h hp, if_neg (by decide)]
  constructor
  ·intro hx; exact ⟨hx, fun e => by rw [e, hp] at hx; cases hx⟩
  ·exact And.left
theorem remS_has : ∀ (ps : List Proc) {q : Queue}, settledQ q = true → ∀ x, hasQ (remS q ps) x = true ↔ hasQ q x = true ∧ x ∉ ps
 | [], q, h, x => by simp [remS]
 | p :: ps, q, h, x => by
  show hasQ (remS (remN q p) ps) x = true ↔ _
  rw [remS_has ps (remN_settled h p), remN_has h]
  simp only [List.mem_cons, not_or]
  exact ⟨fun ⟨⟨a, b⟩, c⟩ => ⟨a, b, c⟩, fun ⟨a, b, c⟩ => ⟨⟨a, b⟩, c⟩⟩
theorem has_none {q : Queue} (h : SoundP q) (hn : ∀ x, hasQ q x = false) : q.holds = [] ∧ q.converts = [] ∧ q.waits = [] := by
 have hn' : ∀ x, ¬ (x ∈ (ordQ q).map (·.proc) ∨ x ∈ q.holds.map (·.proc)) := fun x => by rw [← has_iff h, hn x]; decide
 refine ⟨List.eq_nil_iff_forall_not_mem.2 fun a ha => hn' a.proc (.inr (List.mem_map.2 ⟨a, ha, rfl⟩)), List.eq_nil_iff_forall_not_mem.2 fun a ha => hn' a.proc (.inl (List.mem_map.2 ⟨a, List.mem_append_left _ ha, rfl⟩)), List.eq_nil_iff_forall_not_mem.2 fun a ha => hn' a.proc (.inl (List.mem_map.2 ⟨a, List.mem_append_right _ ha, rfl⟩))⟩
theorem insP_sub (p : Proc) (a : Amount) (l : List Hold) : l.Sublist (insP p a l) := by
 induction l with
 | nil => exact List.nil_sublist _
 | cons x t ih =>
  simp only [insP]
  split
  ·exact List.sublist_cons_self _ _
  ·exact ih.cons_cons x
structure Later (q x : Queue) (p : Proc) (g : List Hold) : Prop where
 hold : ∀ o, o ≠ p → getH x.holds o = getH q.holds o
 ord : ((ordQ x).map (·.proc)).filter (fun o => !decide (o = p)) = (ordQ q).map (·.proc)
 len : g.length ≤ 1
theorem filter_procs {l : List Wait} {p : Proc} (h : ∀ w ∈ l, w.proc ≠ p) : (l.map (·.proc)).filter (fun o => !decide (o = p)) = l.map (·.proc) := by
 rw [List.filter_eq_self]
 intro o ho
 obtain ⟨w, hw, rfl⟩ := List.mem_map.1 ho
 simpa using h w hw
theorem later_claim {q : Queue} {p : Proc} {a : Amount} {pr : Int} (h : (claimS q p a pr).2.2 = 0) : Later q (claimS q p a pr).1 p (claimS q p a pr).2.1 := by
 obtain ⟨hs, hcan, hok, hf, hw, hh⟩ := claimS_ok h
 have hne := want_not.1 hw
 have hord : ∀ w ∈ ordQ q, w.proc ≠ p := hne
 rcases hh with ⟨_, e⟩ | ⟨hc, hz, e, hsc⟩ | ⟨hc, hz, hl, e, hsc⟩
 ·rw [e]
  exact ⟨fun _ _ => rfl, filter_procs hord, by simp⟩
 ·rw [e]
  have hvh := (validH_iff _ _).1 hs.hv
  obtain ⟨j1, j2, j3, j4⟩ := join_facts (hvh.2.2.1.each _ (getH_mem hz)).2 hf hc
  have hord' : ((ordQ (claimC q p a)).map (·.proc)).filter (fun o => !decide (o = p)) = (ordQ q).map (·.proc) := by
   have := filter_procs hord
   unfold ordQ claimC at *
   simp only [List.map_append, List.filter_append, List.map_cons, List.map_nil] at this ⊢
   simp only [List.filter_cons, decide_true, Bool.not_true, Bool.false_eq_true, if_false, List.filter_nil, List.append_nil]
   exact this
  cases hcc : canQ (claimC q p a) with
  | false =>
   show Later q { advS (claimC q p a) with gen := _ } p (advG (claimC q p a))
   rw [advS_not hcc, advG_not hcc]
   exact ⟨fun _ _ => rfl, hord', by simp⟩
  | true =>
   have hcv : q.converts = [] := by
    cases hcv : q.converts with
    | nil => rfl
    | cons w cs =>
     have e1 : canQ q = roomH q.resource q.holds w.proc w.amount := canQ_of (cs := cs ++ q.waits) (by rw [hcv]; rfl)
     have e2 : canQ (claimC q p a) = roomH q.resource q.holds w.proc w.amount := canQ_of (q := claimC q p a) (cs := (cs ++ [(⟨p, joinA q.resource (getH q.holds p) a, 0, 0⟩ : Wait)]) ++ q.waits) (by unfold claimC; simp only [hcv]; rfl)
     rw [e2, ← e1, hcan] at hcc; cases hcc
   have hcl : (claimC q p a).converts = [⟨p, joinA q.resource (getH q.holds p) a, 0, 0⟩] := by unfold claimC; simp only [hcv]; rfl
   have hpop := popQ_con hcl
   have hroom : roomH q.resource q.holds p (joinA q.resource (getH q.holds p) a) = true := by
    have := canQ_of (q := claimC q p a) (w := ⟨p, joinA q.resource (getH q.holds p) a, 0, 0⟩) (cs := q.waits) (by rw [hcl]; rfl)
    rw [hcc] at this; exact this.symm
   have hstop : canQ (popQ (claimC q p a)) = false := by
    rw [hpop]
    cases hwt : q.waits with
    | nil =>
     unfold canQ headQ claimC; simp only [hwt, List.append_nil, Bool.false_and]
    | cons w ws =>
     have e1 : canQ q = roomH q.resource q.holds w.proc w.amount := canQ_of (cs := ws) (by rw [hcv, hwt]; rfl)
     rw [hcan] at e1
     cases hx : canQ { claimC q p a with holds := setL (claimC q p a).holds p (joinA q.resource (getH q.holds p) a), converts := [] } with
     | false => rfl
     | true =>
      have e2 := canQ_of (q := { claimC q p a with holds := setL (claimC q p a).holds p (joinA q.resource (getH q.holds p) a), converts := [] }) (w := w) (cs := ws) (by unfold claimC; simp only [hwt]; rfl)
      rw [hx] at e2
      have hwp : p ≠ w.proc := fun e => hne w (by rw [hwt]; exact List.mem_append_right _ (.head _)) e.symm
      have := room_low hs.hv hwp hz (fits_nz j1) (low_of j2) e2.symm
      rw [this] at e1; cases e1
   show Later q { advS (claimC q p a) with gen := _ } p (advG (claimC q p a))
   rw [advS_can hcc, advG_can hcc, advS_not hstop, advG_not hstop, hpop]
   refine ⟨fun o ho => getH_setL_ne ho _ _, ?_, by simp⟩
   show ((ordQ { claimC q p a with holds := setL q.holds p (joinA q.resource (getH q.holds p) a), converts := [] }).map (·.proc)).filter (fun o => !decide (o = p)) = _
   have := filter_procs hord
   unfold ordQ claimC at *
   rw [hcv] at this ⊢
   exact this
 ·rw [e]
  have hpn := placeI_le q.waits ⟨p, a, pr, 0⟩ q.waits.length
  have hord' : ((ordQ (claimW q p a pr)).map (·.proc)).filter (fun o => !decide (o = p)) = (ordQ q).map (·.proc) := by
   have h1 := filter_procs hord
   unfold ordQ claimW at *
   simp only [List.map_append, List.filter_append, map_proc_ins] at h1 ⊢
   simp only [List.filter_cons, decide_true, Bool.not_true, Bool.false_eq_true, if_false]
   rw [← List.filter_append, ← List.map_append, List.take_append_drop]
   exact h1
  cases hcc : canQ (claimW q p a pr) with
  | false =>
   show Later q { advS (claimW q p a pr) with gen := _ } p (advG (claimW q p a pr))
   rw [advS_not hcc, advG_not hcc]
   exact ⟨fun _ _ => rfl, hord', by simp⟩
  | true =>
   have hcv : q.converts = [] := by
    cases hcv : q.converts with
    | nil => rfl
    | cons w cs =>
     have e1 : canQ q = roomH q.resource q.holds w.proc w.amount := canQ_of (cs := cs ++ q.waits) (by rw [hcv]; rfl)
     have e2 : canQ (claimW q p a pr) = roomH q.resource q.holds w.proc w.amount := canQ_of (q := claimW q p a pr) (cs := cs ++ (claimW q p a pr).waits) (by unfold claimW; simp only [hcv]; rfl)
     rw [e2, ← e1, hcan] at hcc; cases hcc
   have hcl : (claimW q p a pr).converts = [] := hcv
   have hn0 : placeI q.waits ⟨p, a, pr, 0⟩ q.waits.length = 0 := by
    cases hwt : q.waits with
    | nil => rfl
    | cons w ws =>
     rw [← hwt]
     generalize hn : placeI q.waits ⟨p, a, pr, 0⟩ q.waits.length = n at *
     cases n with
     | zero => rfl
     | succ n =>
      have e1 : canQ q = roomH q.resource q.holds w.proc w.amount := canQ_of (cs := ws) (by rw [hcv, hwt]; rfl)
      have e2 : canQ (claimW q p a pr) = roomH q.resource q.holds w.proc w.amount := canQ_of (q := claimW q p a pr) (cs := (ws.take n) ++ (⟨p, a, pr, 0⟩ : Wait) :: (ws.drop n).map bump) (by
       unfold claimW; simp only [hn]; simp only [hcv, hwt, List.nil_append, insAt, List.take_succ_cons, List.drop_succ_cons, List.cons_append])
      rw [e2, ← e1, hcan] at hcc; cases hcc
   have hwl : (claimW q p a pr).waits = ⟨p, a, pr, 0⟩ :: q.waits.map bump := by unfold claimW; simp only [hn0, insAt, List.take_zero, List.drop_zero, List.nil_append]
   have hpop := popQ_wait hcl hwl
   have hoth : others p q.holds = q.holds := setL_keep hs.hv p hz
   have hset : setL q.holds p a = insP p a q.holds := by unfold setL; rw [if_neg (fits_nz hf), hoth]
   have hstop : canQ (popQ (claimW q p a pr)) = false := by
    rw [hpop]
    cases hwt : q.waits with
    | nil => unfold canQ headQ claimW; simp only [hcv, List.map_nil, List.append_nil, Bool.false_and]
    | cons w ws =>
     have e1 : canQ q = roomH q.resource q.holds w.proc w.amount := canQ_of (cs := ws) (by rw [hcv, hwt]; rfl)
     rw [hcan] at e1
     cases hx : canQ { claimW q p a pr with holds := setL (claimW q p a pr).holds p a, waits := (w :: ws).map bump } with
     | false => rfl
     | true =>
      have e2 := canQ_of (q := { claimW q p a pr with holds := setL (claimW q p a pr).holds p a, waits := (w :: ws).map bump }) (w := bump w) (cs := ws.map bump) (by unfold claimW; simp only [hcv]; rfl)
      rw [hx] at e2
      have e3 : roomH q.resource (setL q.holds p a) w.proc w.amount = true := e2.symm
      rw [hset] at e3
      have := room_sub e3 (insP_sub p a q.holds)
      rw [this] at e1; cases e1
   show Later q { advS (claimW q p a pr) with gen := _ } p (advG (claimW q p a pr))
   rw [advS_can hcc, advG_can hcc, advS_not hstop, advG_not hstop, hpop]
   refine ⟨fun o ho => getH_setL_ne ho _ _, ?_, by simp⟩
   show (((claimW q p a pr).converts ++ q.waits.map bump).map (·.proc)).filter (fun o => !decide (o = p)) = _
   have h1 := filter_procs hord
   unfold ordQ at h1 ⊢
   rw [hcl, List.nil_append, List.map_map]
   rw [hcv, List.nil_append] at h1 ⊢
   exact h1
end Ab
end Go.Proofs.YtdflfohpemfeiaaGreatDoor
