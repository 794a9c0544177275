/-
  Amounts that are less; room for whoever asks when others hold less; removals.
-/
import Derived.Test.YtdflfohpemfeiaaGreatDoorQueG
namespace Go.Proofs.YtdflfohpemfeiaaGreatDoor
namespace Ab
set_option linter.unusedVariables false
set_option linter.unusedSimpArgs false
theorem covA_if (r : Resource) (a b : Amount) : covA r a b = (!(!f_amount_permitted r a || !f_amount_permitted r b) && (f_amount_Zero b || (!f_amount_Zero a && (if r.kind = 1 then covM a.mode b.mode else decide (b.units ≤ a.units))))) := by
 have e1 := perm_eq r a
 have e2 := perm_eq r b
 have e3 := zero_eq a
 have e4 := zero_eq b
 have h : covA r a b = (!(!f_ref04_Permitted r a || !f_ref04_Permitted r b) && (f_ref04_Zero b || (!f_ref04_Zero a && (if r.kind = 1 then covM a.mode b.mode else decide (b.units ≤ a.units))))) := by
  unfold covA f_ref04_Covers
  generalize (!f_ref04_Permitted r a || !f_ref04_Permitted r b) = x
  generalize f_ref04_Zero b = y
  generalize f_ref04_Zero a = z
  by_cases hk : r.kind = 1 <;> cases x <;> cases y <;> cases z <;> simp [hk]
 rw [h, e1, e2, e3, e4]
theorem covA_iff (r : Resource) (a b : Amount) : covA r a b = true ↔ f_amount_permitted r a = true ∧ f_amount_permitted r b = true ∧ (b = Amount.zero ∨ a ≠ Amount.zero ∧ b ≠ Amount.zero ∧ ((r.kind = 1 ∧ covM a.mode b.mode = true) ∨ (r.kind ≠ 1 ∧ b.units ≤ a.units))) := by
 rw [covA_if]
 have za := zero_iff a
 have zb := zero_iff b
 simp only [Bool.and_eq_true, Bool.or_eq_true, Bool.not_eq_true', Bool.or_eq_false_iff, Bool.not_eq_false', zb, zero_not]
 by_cases e : b = Amount.zero
 ·simp [e, and_assoc]
 ·by_cases hk : r.kind = 1 <;> simp [e, hk, and_assoc]
theorem covA_refl {r : Resource} {a : Amount} (h : f_amount_permitted r a = true) : covA r a a = true := by
 rw [covA_iff]
 refine ⟨h, h, ?_⟩
 by_cases e : a = Amount.zero
 ·exact .inl e
 ·refine .inr ⟨e, e, ?_⟩
  by_cases hk : r.kind = 1
  ·left
   refine ⟨hk, ?_⟩
   have := perm_lock h hk
   have hm : a.mode ≠ 0 := fun hm => e (by obtain ⟨m, u⟩ := a; simp only at *; unfold Amount.zero; congr; omega)
   rw [covM_iff]; omega
  ·exact .inr ⟨hk, Int.le_refl _⟩
theorem covA_zero {r : Resource} {a : Amount} (h : f_amount_permitted r a = true) (hs : f_amount_Shaped r = true) : covA r a Amount.zero = true := by
 rw [covA_iff]; exact ⟨h, (perm_iff r _).2 (.inl ⟨hs, rfl⟩), .inl rfl⟩
theorem covA_trans {r : Resource} {a b c : Amount} (h1 : covA r a b = true) (h2 : covA r b c = true) : covA r a c = true := by
 rw [covA_iff] at h1 h2 ⊢
 refine ⟨h1.1, h2.2.1, ?_⟩
 rcases h2.2.2 with e | ⟨hb0, hc0, h3⟩
 ·exact .inl e
 ·rcases h1.2.2 with e | ⟨ha0, _, h4⟩
  ·exact absurd e hb0
  ·refine .inr ⟨ha0, hc0, ?_⟩
   rcases h3 with ⟨k, h3⟩ | ⟨k, h3⟩
   ·rcases h4 with ⟨_, h4⟩ | ⟨k', _⟩
    ·left; refine ⟨k, ?_⟩
     rw [covM_iff] at h3 h4 ⊢; omega
    ·exact absurd k k'
   ·rcases h4 with ⟨k', _⟩ | ⟨_, h4⟩
    ·exact absurd k' k
    ·exact .inr ⟨k, by omega⟩
def low (a b : Amount) : Prop := a.units ≤ b.units ∧ ∀ c, ¬ clash b c → ¬ clash a c
theorem low_refl (a : Amount) : low a a := ⟨Int.le_refl _, fun _ h => h⟩
theorem low_of {r : Resource} {a b : Amount} (h : covA r b a = true) : low a b := by
 rw [covA_iff] at h
 obtain ⟨h1, h2, h3⟩ := h
 have hb1 := perm_bounds h1
 rcases h3 with e | ⟨hb0, ha0, h3⟩
 ·subst e
  refine ⟨hb1.1, fun c _ hc => ?_⟩
  exact hc.1 rfl
 ·rcases h3 with ⟨k, h3⟩ | ⟨k, h3⟩
  ·have p1 := perm_lock h1 k
   have p2 := perm_lock h2 k
   refine ⟨by omega, fun c hc hc' => hc ⟨?_, hc'.2.1, ?_⟩⟩
   ·rw [covM_iff] at h3; omega
   ·have h4 := hc'.2.2
    rw [← Bool.not_eq_true] at h4 ⊢
    intro h5; apply h4
    rw [mC_iff] at h5 ⊢
    rw [covM_iff] at h3
    omega
  ·have hk : r.kind = 2 := by
    have := (perm_iff r a).1 h2
    rw [shaped_iff, fits_iff] at this
    omega
   have p2 := perm_pool h2 hk
   exact ⟨h3, fun c _ hc => hc.1 p2.1⟩
theorem room_iff' {r : Resource} {l : List Hold} {p : Proc} {a : Amount} : roomH r l p a = true ↔ validH r l = true ∧ f_ident_ValidProc p = true ∧ f_amount_Fits r a = true ∧ (others p l).length + 1 ≤ 8 ∧ (∀ h ∈ others p l, ¬ clash h.amount a) ∧ a.units + sumU ((others p l).map (·.amount)) ≤ r.units := by
 constructor
 ·intro h
  obtain ⟨h1, h2, h3, h4⟩ := room_parts h
  have hl : (others p l).length + 1 ≤ 8 := by
   have := validH_len h4
   unfold setL at this
   rw [if_neg (fits_nz h3), insP_len] at this
   exact this
  exact ⟨h1, h2, h3, hl, (room_iff h1 h2 h3 hl).1 h⟩
 ·rintro ⟨h1, h2, h3, h4, h5⟩
  exact (room_iff h1 h2 h3 h4).2 h5
theorem low_le {l m : List Hold} (h : ∀ x ∈ l, 0 ≤ x.amount.units) : True := trivial
theorem room_sub {r : Resource} {l m : List Hold} {p : Proc} {a : Amount} (h : roomH r m p a = true) (hs : l.Sublist m) : roomH r l p a = true := by
 rw [room_iff'] at h ⊢
 obtain ⟨h1, h2, h3, h4, h5, h6⟩ := h
 have ho : (others p l).Sublist (others p m) := hs.filter _
 have hm := (validH_iff r m).1 h1
 refine ⟨validH_sub h1 hs, h2, h3, by have := ho.length_le; omega, fun x hx => h5 x (ho.subset hx), ?_⟩
 have := sumU_sub (ho.map (·.amount)) fun b hb => by
  obtain ⟨x, hx, rfl⟩ := List.mem_map.1 hb
  exact (perm_bounds (fits_perm (hm.2.2.1.each x (mem_others.1 hx).1).2)).1
 omega
theorem sum_apart {l : List Hold} (ha : Asc l) {p q : Proc} (hp : getH l p ≠ Amount.zero) (hq : p ≠ q) : sumU ((others q l).map (·.amount)) = (getH l p).units + sumU ((others q (others p l)).map (·.amount)) := by
 have h1 : getH (others q l) p ≠ Amount.zero := by rw [getH_others_ne hq]; exact hp
 have h2 := asc_perm (ha.others q) h1
 have h3 := sumU_perm (h2.map (·.amount))
 rw [h3, List.map_cons, getH_others_ne hq, others_comm p q]
 rfl
theorem room_low {r : Resource} {l : List Hold} {p q : Proc} {a t : Amount} (hv : validH r l = true) (hq : q ≠ p) (hp : getH l q ≠ Amount.zero) (ht : t ≠ Amount.zero) (hl : low (getH l q) t)
  (h : roomH r (setL l q t) p a = true) : roomH r l p a = true := by
 rw [room_iff'] at h ⊢
 obtain ⟨h1, h2, h3, h4, h5, h6⟩ := h
 have hasc := valid_asc hv
 have hasc' := valid_asc h1
 have hs : getH (setL l q t) q ≠ Amount.zero := by rw [getH_setL_self]; exact ht
 have e1 := sum_apart hasc hp hq
 have e2 := sum_apart hasc' hs hq
 rw [getH_setL_self, others_setL] at e2
 have l1 := others_lt (hasc.others p) (p := q) (by rw [getH_others_ne hq]; exact hp)
 have l2 := others_lt (hasc'.others p) (p := q) (by rw [getH_others_ne hq]; exact hs)
 rw [others_comm q p, others_setL] at l2
 rw [others_comm q p] at l1
 have hl1 := hl.1
 refine ⟨hv, h2, h3, by omega, fun x hx => ?_, by omega⟩
 obtain ⟨hx1, hx2⟩ := mem_others.1 hx
 by_cases e : x.proc = q
 ·have : x.amount = getH l q := by rw [← e, getH_of_mem hasc hx1]
  rw [this]
  have hm : (⟨q, t⟩ : Hold) ∈ setL l q t := by have := getH_mem hs; rwa [getH_setL_self] at this
  exact hl.2 a (h5 ⟨q, t⟩ (mem_others.2 ⟨hm, hq⟩))
 ·refine h5 x (mem_others.2 ⟨?_, hx2⟩)
  have : x ∈ others q (setL l q t) := by rw [others_setL]; exact mem_others.2 ⟨hx1, e⟩
  exact (mem_others.1 this).1
theorem lower_valid {r : Resource} {l : List Hold} {p : Proc} {a : Amount} (hv : validH r l = true) (hp : getH l p ≠ Amount.zero) (hc : covA r (getH l p) a = true) : validH r (setL l p a) = true := by
 have hasc := valid_asc hv
 have hv' := (validH_iff r l).1 hv
 by_cases hz : a = Amount.zero
 ·unfold setL; rw [if_pos hz]; exact validH_sub hv (others_sub p l)
 ·have hfit : f_amount_Fits r a = true := by
   rcases (perm_iff r a).1 ((covA_iff _ _ _).1 hc).2.1 with h | h
   ·exact absurd h.2 hz
   ·exact h
  have hlow := low_of hc
  have hm := getH_mem hp
  have hlt := others_lt hasc hp
  have hpm := asc_perm hasc hp
  have hroom : roomH r l p a = true := by
   rw [room_iff']
   refine ⟨hv, (hv'.2.2.1.each _ hm).1, hfit, by have := hv'.2.1; omega, fun x hx hcl => ?_, ?_⟩
   ·have hpr := (CompP.perm_iff (hpm.map (·.amount))).1 hv'.2.2.2
    have := (List.pairwise_cons.1 hpr.pair).1 x.amount (List.mem_map.2 ⟨x, hx, rfl⟩)
    exact hlow.2 _ this (by
     obtain ⟨c1, c2, c3⟩ := hcl
     exact ⟨c2, c1, by rw [mC_comm]; exact c3⟩)
   ·have h1 := sumU_perm (hpm.map (·.amount))
    have h2 := hv'.2.2.2.sum
    rw [h1] at h2
    simp only [List.map_cons, sumU] at h2
    have := hlow.1
    omega
  exact (room_parts hroom).2.2.2
def del (q : Queue) (p : Proc) : Queue := { q with holds := others p q.holds, converts := rmL q.converts p, waits := rmL q.waits p }
theorem rmL_cons (w : Wait) (l : List Wait) (p : Proc) : rmL (w :: l) p = if w.proc = p then rmL l p else w :: rmL l p := by
 unfold rmL notP; rw [List.filter_cons]; by_cases e : w.proc = p <;> simp [e]
theorem mem_rmL {w : Wait} {l : List Wait} {p : Proc} : w ∈ rmL l p ↔ w ∈ l ∧ w.proc ≠ p := by unfold rmL notP; simp
theorem rmL_sub (l : List Wait) (p : Proc) : (rmL l p).Sublist l := List.filter_sublist
theorem rmL_self {l : List Wait} {p : Proc} (h : ∀ w ∈ l, w.proc ≠ p) : rmL l p = l := List.filter_eq_self.2 fun w hw => by unfold notP; simpa using h w hw
theorem SoundP.del {q : Queue} (h : SoundP q) (p : Proc) : SoundP (del q p) := by
 have h1 := (rmL_sub q.converts p).length_le
 have h2 := (rmL_sub q.waits p).length_le
 have h3 := others_len p q.holds
 have h4 := h.cl; have h5 := h.wl
 refine ⟨h.res, validH_sub h.hv (others_sub p _), by simp only [Ab.del]; omega, h.cn.sublist ((rmL_sub _ _).map _), fun w hw => ?_, validL_rm p h.wv, by simp only [Ab.del]; omega, fun w hw => ?_, h.gen⟩
 ·obtain ⟨a1, a2⟩ := mem_rmL.1 hw
  simp only [Ab.del, getH_others_ne a2]
  exact h.cg w a1
 ·obtain ⟨a1, a2⟩ := mem_rmL.1 hw
  simp only [Ab.del, getH_others_ne a2]
  exact h.wg w a1
theorem del_pop_eq {q : Queue} (hc : canQ q = true) : del (popQ q) (headQ q).1.proc = del q (headQ q).1.proc := by
 cases pop_of hc with
 | con w cs he hd hr hp =>
  rw [hp, hd]
  unfold del
  simp only [others_setL, he, rmL_cons, if_true]
 | wait w ws hcn he hd hr hp =>
  rw [hp, hd]
  unfold del
  simp only [others_setL, he, rmL_cons, if_true]
theorem canQ_of {q : Queue} {w : Wait} {cs : List Wait} (h : q.converts ++ q.waits = w :: cs) : canQ q = roomH q.resource q.holds w.proc w.amount := by
 unfold canQ headQ; rw [h]; exact Bool.true_and _
theorem popQ_con {q : Queue} {w : Wait} {cs : List Wait} (h : q.converts = w :: cs) : popQ q = { q with holds := setL q.holds w.proc w.amount, converts := cs } := by
 unfold popQ headQ; rw [h]; simp
theorem popQ_wait {q : Queue} {w : Wait} {ws : List Wait} (hc : q.converts = []) (h : q.waits = w :: ws) : popQ q = { q with holds := setL q.holds w.proc w.amount, waits := ws } := by
 unfold popQ headQ; rw [hc, h]; simp
theorem del_pop_ne {q : Queue} (h : SoundP q) (hc : canQ q = true) {p : Proc} (hp : (headQ q).1.proc ≠ p) : canQ (del q p) = true ∧ popQ (del q p) = del (popQ q) p := by
 have hasc := valid_asc h.hv
 cases pop_of hc with
 | con w cs he hd hr hpp =>
  rw [hd] at hp
  have hc1 : (del q p).converts = w :: rmL cs p := by unfold del; simp only [he, rmL_cons, if_neg hp]
  have hr' : roomH q.resource (others p q.holds) w.proc w.amount = true := room_sub hr (others_sub p _)
  refine ⟨by rw [canQ_of (w := w) (cs := rmL cs p ++ (del q p).waits) (by rw [hc1]; rfl)]; exact hr', ?_⟩
  rw [popQ_con hc1, hpp]
  unfold del
  simp only [others_setL_ne (Ne.symm hp) _ hasc]
 | wait w ws hcn he hd hr hpp =>
  rw [hd] at hp
  have hc1 : (del q p).converts = [] := by unfold del; rw [hcn]; rfl
  have hw1 : (del q p).waits = w :: rmL ws p := by unfold del; simp only [he, rmL_cons, if_neg hp]
  have hr' : roomH q.resource (others p q.holds) w.proc w.amount = true := room_sub hr (others_sub p _)
  refine ⟨by rw [canQ_of (w := w) (cs := rmL ws p) (by rw [hc1, hw1]; rfl)]; exact hr', ?_⟩
  rw [popQ_wait hc1 hw1, hpp]
  unfold del
  simp only [others_setL_ne (Ne.symm hp) _ hasc]
theorem adv_del : ∀ q, SoundP q → ∀ p, advS (del (advS q) p) = advS (del q p) := by
 refine adv_rec (fun q h hs p => by rw [advS_not h]) fun q hc ih hs p => ?_
 rw [advS_can hc, ih (hs.pop hc) p]
 by_cases hp : (headQ q).1.proc = p
 ·subst hp; rw [del_pop_eq hc]
 ·obtain ⟨h1, h2⟩ := del_pop_ne hs hc hp
  rw [advS_can h1, h2]
def dels (q : Queue) (ps : List Proc) : Queue := ps.foldl del q
theorem SoundP.dels : ∀ (ps : List Proc) {q : Queue}, SoundP q → SoundP (dels q ps)
 | [], _, h => h
 | p :: ps, _, h => SoundP.dels ps (h.del p)
theorem del_comm (q : Queue) (a b : Proc) : del (del q a) b = del (del q b) a := by
 unfold del rmL
 simp only [List.filter_filter, others_comm a b, Bool.and_comm]
theorem dels_del : ∀ (ps : List Proc) (q : Queue) (p : Proc), dels (del q p) ps = del (dels q ps) p
 | [], _, _ => rfl
 | a :: ps, q, p => by
  show dels (del (del q p) a) ps = del (dels (del q a) ps) p
  rw [del_comm, dels_del ps]
theorem dels_perm {a b : List Proc} (h : a.Perm b) (q : Queue) : dels q a = dels q b := by
 induction h generalizing q with
 | nil => rfl
 | cons x _ ih => exact ih (del q x)
 | swap x y l => show dels (del (del q y) x) l = dels (del (del q x) y) l; rw [del_comm]
 | trans _ _ ih1 ih2 => rw [ih1, ih2]
theorem del_none {q : Queue} {p : Proc} (h1 : ∀ x ∈ q.holds, x.proc ≠ p) (h2 : ∀ x ∈ q.converts, x.proc ≠ p) (h3 : ∀ x ∈ q.waits, x.proc ≠ p) : del q p = q := by
 unfold del; rw [others_self h1, rmL_self h2, rmL_self h3]
def noG (q : Queue) : Queue := { q with gen := 0 }
theorem canQ_noG (q : Queue) (g : Int) : canQ { q with gen := g } = canQ q := rfl
theorem popQ_noG (q : Queue) (g : Int) : popQ { q with gen := g } = { popQ q with gen := g } := by
 unfold popQ headQ
 split <;> rfl
theorem advS_noG (g : Int) : ∀ q, advS { q with gen := g } = { advS q with gen := g } := by
 refine adv_rec (P := fun q => advS { q with gen := g } = { advS q with gen := g }) (fun q h => ?_) fun q h ih => ?_
 ·rw [advS_not h, advS_not (by rw [canQ_noG]; exact h)]
 ·rw [advS_can h, advS_can (q := { q with gen := g }) (by rw [canQ_noG]; exact h), popQ_noG, ih]
theorem advG_noG (g : Int) : ∀ q, advG { q with gen := g } = advG q := by
 refine adv_rec (P := fun q => advG { q with gen := g } = advG q) (fun q h => ?_) fun q h ih => ?_
 ·rw [advG_not h, advG_not (by rw [canQ_noG]; exact h)]
 ·rw [advG_can h, advG_can (q := { q with gen := g }) (by rw [canQ_noG]; exact h), popQ_noG, ih]; rfl
theorem pop_gen (q : Queue) : (popQ q).gen = q.gen ∧ (popQ q).resource = q.resource := by unfold popQ; split <;> exact ⟨rfl, rfl⟩
theorem adv_gen (q : Queue) : (advS q).gen = q.gen ∧ (advS q).resource = q.resource :=
 adv_ind (P := fun x => x.gen = q.gen ∧ x.resource = q.resource) (fun x _ h => by rw [(pop_gen x).1, (pop_gen x).2]; exact h) q ⟨rfl, rfl⟩
end Ab
end Go.Proofs.YtdflfohpemfeiaaGreatDoor
