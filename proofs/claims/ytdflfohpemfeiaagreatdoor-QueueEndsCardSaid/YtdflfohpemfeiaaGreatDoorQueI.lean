/-
  What a claim, a withdrawal, a lowering, a removal make of a queue; that the queue stays sound.
-/
import Derived.Test.YtdflfohpemfeiaaGreatDoorQueH
namespace Go.Proofs.YtdflfohpemfeiaaGreatDoor
namespace Ab
set_option linter.unusedVariables false
set_option linter.unusedSimpArgs false
theorem next_range (g : Int) : 0 ≤ f_ident_Next g ∧ f_ident_Next g ≤ 1073741824 := by
  unfold f_ident_Next
  by_cases h : g < 0 ∨ 1073741824 ≤ g
  · rw [if_pos (by simpa using h)]; decide
  · rw [if_neg (by simpa using h), wrap_id (by omega) (by omega)]; omega
def changedQ (q : Queue) : Queue × List Hold × Int := ({ advS q with gen := f_ident_Next q.gen }, advG q, 0)
theorem SoundP.gen' {q : Queue} (h : SoundP q) (g : Int) (h1 : 0 ≤ g) (h2 : g ≤ 1073741824) : SoundP { q with gen := g } := ⟨h.res, h.hv, h.cl, h.cn, h.cg, h.wv, h.wl, h.wg, h1, h2⟩
theorem changed_settled {q : Queue} (h : SoundP q) : settledQ (changedQ q).1 = true := by
  rw [settled_iff]
  exact ⟨h.adv.gen' _ (next_range _).1 (next_range _).2, by show canQ (advS q) = false; exact advS_end q⟩
theorem want_iff (q : Queue) (p : Proc) : (wantQ q p).2 = true ↔ ∃ w ∈ q.converts ++ q.waits, w.proc = p := by
  unfold wantQ wantL
  cases h : (q.converts ++ q.waits).find? fun w => decide (w.proc = p) with
  | none =>
    rw [List.find?_eq_none] at h
    simp only [decide_eq_true_eq] at h
    constructor
    · intro h2; cases h2
    · rintro ⟨w, hw, e⟩; exact absurd e (h w hw)
  | some w =>
    have h1 := List.mem_of_find?_eq_some h
    have h2 := List.find?_some h
    exact ⟨fun _ => ⟨w, h1, by simpa using h2⟩, fun _ => rfl⟩
theorem want_not {q : Queue} {p : Proc} : (wantQ q p).2 = false ↔ ∀ w ∈ q.converts ++ q.waits, w.proc ≠ p := by
  rw [← Bool.not_eq_true, want_iff]
  constructor
  · exact fun h w hw e => h ⟨w, hw, e⟩
  · rintro h ⟨w, hw, e⟩; exact h w hw e
theorem want_amount {q : Queue} (hn : ((q.converts ++ q.waits).map (·.proc)).Nodup) {w : Wait} (hw : w ∈ q.converts ++ q.waits) : wantQ q w.proc = (w.amount, true) := by
  unfold wantQ wantL
  generalize q.converts ++ q.waits = l at hn hw
  induction l with
  | nil => cases hw
  | cons x t ih =>
    rw [List.map_cons, List.nodup_cons] at hn
    rw [List.find?_cons]
    rcases List.mem_cons.1 hw with rfl | hw
    · simp
    · have : x.proc ≠ w.proc := fun e => hn.1 (List.mem_map.2 ⟨w, hw, e.symm⟩)
      simp only [this, decide_false]
      exact ih hn.2 hw
theorem sup_facts : ∀ a ∈ [(1 : Int), 2, 3, 4, 5], ∀ b ∈ [(1 : Int), 2, 3, 4, 5], supM a b ∈ [(1 : Int), 2, 3, 4, 5] ∧ covM (supM a b) a = true ∧ covM (supM a b) b = true := by decide
theorem join_lock {r : Resource} {a b : Amount} (ha : f_amount_Fits r a = true) (hb : f_amount_Fits r b = true) (hk : r.kind = 1) : joinA r a b = ⟨supM a.mode b.mode, 0⟩ := by
  unfold joinA
  rw [fits_perm ha, fits_perm hb, (zero_not a).2 (fits_nz ha), (zero_not b).2 (fits_nz hb)]
  simp [hk, Amount.zero]
theorem join_pool {r : Resource} {a b : Amount} (ha : f_amount_Fits r a = true) (hb : f_amount_Fits r b = true) (hk : r.kind ≠ 1) : joinA r a b = ⟨0, if a.units < b.units then b.units else a.units⟩ := by
  unfold joinA
  rw [fits_perm ha, fits_perm hb, (zero_not a).2 (fits_nz ha), (zero_not b).2 (fits_nz hb)]
  simp [hk, Amount.zero]
theorem join_facts {r : Resource} {h a : Amount} (hh : f_amount_Fits r h = true) (ha : f_amount_Fits r a = true) (hc : covA r h a = false) :
    f_amount_Fits r (joinA r h a) = true ∧ covA r (joinA r h a) h = true ∧ covA r (joinA r h a) a = true ∧ joinA r h a ≠ h := by
  have hf : f_amount_Fits r (joinA r h a) = true ∧ covA r (joinA r h a) h = true ∧ covA r (joinA r h a) a = true := by
    have fh := (fits_iff r h).1 hh
    have fa := (fits_iff r a).1 ha
    by_cases hk : r.kind = 1
    · have m1 : h.mode ∈ [(1 : Int), 2, 3, 4, 5] := by simp; omega
      have m2 : a.mode ∈ [(1 : Int), 2, 3, 4, 5] := by simp; omega
      obtain ⟨s1, s2, s3⟩ := sup_facts _ m1 _ m2
      rw [join_lock hh ha hk]
      have hfit : f_amount_Fits r ⟨supM h.mode a.mode, 0⟩ = true := by
        rw [fits_iff]; left
        simp at s1
        exact ⟨hk, by omega, by simp only; omega, by simp only; omega, rfl⟩
      refine ⟨hfit, ?_, ?_⟩
      · rw [covA_iff]; exact ⟨fits_perm hfit, fits_perm hh, .inr ⟨fits_nz hfit, fits_nz hh, .inl ⟨hk, s2⟩⟩⟩
      · rw [covA_iff]; exact ⟨fits_perm hfit, fits_perm ha, .inr ⟨fits_nz hfit, fits_nz ha, .inl ⟨hk, s3⟩⟩⟩
    · rw [join_pool hh ha hk]
      have hfit : f_amount_Fits r ⟨0, if h.units < a.units then a.units else h.units⟩ = true := by
        rw [fits_iff]; right
        refine ⟨by omega, by omega, by omega, rfl, ?_, ?_⟩ <;> simp only <;> split <;> omega
      refine ⟨hfit, ?_, ?_⟩
      · rw [covA_iff]; refine ⟨fits_perm hfit, fits_perm hh, .inr ⟨fits_nz hfit, fits_nz hh, .inr ⟨hk, ?_⟩⟩⟩
        simp only; split <;> omega
      · rw [covA_iff]; refine ⟨fits_perm hfit, fits_perm ha, .inr ⟨fits_nz hfit, fits_nz ha, .inr ⟨hk, ?_⟩⟩⟩
        simp only; split <;> omega
  refine ⟨hf.1, hf.2.1, hf.2.2, fun e => ?_⟩
  have := hf.2.2
  rw [e, hc] at this; cases this
def claimC (q : Queue) (p : Proc) (a : Amount) : Queue := { q with converts := q.converts ++ [⟨p, joinA q.resource (getH q.holds p) a, 0, 0⟩] }
def claimW (q : Queue) (p : Proc) (a : Amount) (pr : Int) : Queue := { q with waits := insAt q.waits ⟨p, a, pr, 0⟩ (placeI q.waits ⟨p, a, pr, 0⟩ q.waits.length) }
def cancelQ (q : Queue) (p : Proc) : Queue := { q with converts := rmL q.converts p, waits := rmL q.waits p }
def lowerQ (q : Queue) (p : Proc) (a : Amount) : Queue := { q with holds := setL q.holds p a }
def hasQ (q : Queue) (p : Proc) : Bool := (wantQ q p).2 || !f_amount_Zero (getH q.holds p)
def errQ (e : Int) : Queue × List Hold × Int := (Queue.zero, [], e)
def okArg (p : Proc) (pr : Int) : Bool := f_ident_ValidProc p && (decide (0 ≤ pr) && decide (pr ≤ 7))
def claimS (q : Queue) (p : Proc) (a : Amount) (pr : Int) : Queue × List Hold × Int :=
  if settledQ q = false then errQ 2 else if okArg p pr = false then errQ 1 else if f_amount_Fits q.resource a = false then errQ 12 else if (wantQ q p).2 = true then errQ 14
  else if covA q.resource (getH q.holds p) a = true then (q, [], 0) else if getH q.holds p ≠ Amount.zero then changedQ (claimC q p a)
  else if 8 ≤ q.holds.length + q.waits.length then errQ 4 else changedQ (claimW q p a pr)
def cancelS (q : Queue) (p : Proc) : Queue × List Hold × Int :=
  if settledQ q = false then errQ 2 else if (wantQ q p).2 = false then errQ 10 else changedQ (cancelQ q p)
def lowerS (q : Queue) (p : Proc) (a : Amount) : Queue × List Hold × Int :=
  if settledQ q = false then errQ 2 else if getH q.holds p = Amount.zero then errQ 10 else if (wantQ q p).2 = true then errQ 14
  else if covA q.resource (getH q.holds p) a = false then errQ 12 else if getH q.holds p = a then (q, [], 0) else changedQ (lowerQ q p a)
def removeS (q : Queue) (p : Proc) : Queue × List Hold × Int :=
  if settledQ q = false then errQ 2 else if hasQ q p = false then errQ 10 else changedQ (del q p)
theorem SoundP.cancel {q : Queue} (h : SoundP q) (p : Proc) : SoundP (cancelQ q p) := by
  have h1 := (rmL_sub q.converts p).length_le
  have h2 := (rmL_sub q.waits p).length_le
  have h4 := h.cl; have h5 := h.wl
  exact ⟨h.res, h.hv, by simp only [cancelQ]; omega, h.cn.sublist ((rmL_sub _ _).map _), fun w hw => h.cg w (mem_rmL.1 hw).1, validL_rm p h.wv, by simp only [cancelQ]; omega, fun w hw => h.wg w (mem_rmL.1 hw).1, h.gen⟩
theorem SoundP.claimC {q : Queue} (h : SoundP q) {p : Proc} {a : Amount} (ha : f_amount_Fits q.resource a = true) (hw : (wantQ q p).2 = false) (hc : covA q.resource (getH q.holds p) a = false) (hz : getH q.holds p ≠ Amount.zero) : SoundP (claimC q p a) := by
  have hv := (validH_iff _ _).1 h.hv
  have hfit : f_amount_Fits q.resource (getH q.holds p) = true := (hv.2.2.1.each _ (getH_mem hz)).2
  obtain ⟨j1, j2, j3, j4⟩ := join_facts hfit ha hc
  rw [want_not] at hw
  refine ⟨h.res, h.hv, ?_, ?_, fun w hww => ?_, h.wv, h.wl, h.wg, h.gen⟩
  ·
    have hn : ((q.converts ++ [(⟨p, joinA q.resource (getH q.holds p) a, 0, 0⟩ : Wait)]).map (·.proc)).Nodup := by
      rw [List.map_append, List.nodup_append]
      refine ⟨h.cn, by simp, fun x hx y hy => ?_⟩
      simp only [List.map_cons, List.map_nil, List.mem_singleton] at hy
      obtain ⟨c, hcc, rfl⟩ := List.mem_map.1 hx
      rw [hy]; exact hw c (List.mem_append_left _ hcc)
    have hs : ∀ x ∈ (q.converts ++ [(⟨p, joinA q.resource (getH q.holds p) a, 0, 0⟩ : Wait)]).map (·.proc), x ∈ q.holds.map (·.proc) := by
      intro x hx
      simp only [List.map_append, List.mem_append, List.map_cons, List.map_nil, List.mem_singleton] at hx
      rcases hx with hx | rfl
      · obtain ⟨c, hcc, rfl⟩ := List.mem_map.1 hx
        exact List.mem_map.2 ⟨_, getH_mem (h.cg c hcc).1, rfl⟩
      · exact List.mem_map.2 ⟨_, getH_mem hz, rfl⟩
    have := List.Nodup.length_le_of_subset hn hs
    have h8 := validH_len h.hv
    rw [List.length_map, List.length_map] at this
    show (q.converts ++ [(⟨p, joinA q.resource (getH q.holds p) a, 0, 0⟩ : Wait)]).length ≤ 8
    omega
  · show ((q.converts ++ [(⟨p, joinA q.resource (getH q.holds p) a, 0, 0⟩ : Wait)]).map (·.proc)).Nodup
    rw [List.map_append, List.nodup_append]
    refine ⟨h.cn, by simp, fun x hx y hy => ?_⟩
    simp only [List.map_cons, List.map_nil, List.mem_singleton] at hy
    obtain ⟨c, hcc, rfl⟩ := List.mem_map.1 hx
    rw [hy]; exact hw c (List.mem_append_left _ hcc)
  · rcases List.mem_append.1 hww with hww | hww
    · exact h.cg w hww
    · rw [List.mem_singleton] at hww; subst hww
      exact ⟨hz, j1, j2, j4, rfl, rfl⟩
theorem fits_wait {r : Resource} {p : Proc} {a : Amount} {pr : Int} (ha : f_amount_Fits r a = true) (hp : okArg p pr = true) : f_line_ValidWait ⟨p, a, pr, 0⟩ = true := by
  rw [fits_iff] at ha
  unfold okArg at hp
  simp only [Bool.and_eq_true, decide_eq_true_eq] at hp
  rw [← validWait_eq]
  unfold f_ref11_ValidWait
  rw [vproc_eq, hp.1]
  unfold f_ref07_Usable f_ref03_Valid
  simp
  omega
theorem insS_ok {q : Queue} (h : SoundP q) {p : Proc} {a : Amount} {pr : Int} (ha : f_amount_Fits q.resource a = true) (hp : okArg p pr = true) (hw : (wantQ q p).2 = false) (hl : q.waits.length < 8) :
    insS q.waits ⟨p, a, pr, 0⟩ = ((claimW q p a pr).waits, (placeI q.waits ⟨p, a, pr, 0⟩ q.waits.length : Int), 0) := by
  unfold insS
  rw [if_neg (by rw [h.wv]; decide), if_neg (by rw [fits_wait ha hp]; simp), if_neg ?_, if_neg (by omega)]
  · rfl
  · rw [want_not] at hw
    exact find1_neg.2 fun w hww => hw w (List.mem_append_right _ hww)
theorem SoundP.claimW {q : Queue} (h : SoundP q) {p : Proc} {a : Amount} {pr : Int} (ha : f_amount_Fits q.resource a = true) (hp : okArg p pr = true) (hw : (wantQ q p).2 = false) (hz : getH q.holds p = Amount.zero) (hl : q.holds.length + q.waits.length < 8) : SoundP (claimW q p a pr) := by
  rw [want_not] at hw
  have hne : ∀ e ∈ q.waits, e.proc ≠ p := fun e he => hw e (List.mem_append_right _ he)
  have hv := validL_ins (w := ⟨p, a, pr, 0⟩) h.wv (fits_wait ha hp) hne (by omega)
  refine ⟨h.res, h.hv, h.cl, h.cn, h.cg, hv, ?_, fun w hww => ?_, h.gen⟩
  · have hn := placeI_le q.waits ⟨p, a, pr, 0⟩ q.waits.length
    simp only [Ab.claimW, insAt, List.length_append, List.length_cons, List.length_map, List.length_take, List.length_drop]
    omega
  · simp only [Ab.claimW, insAt, List.mem_append, List.mem_cons, List.mem_map] at hww
    rcases hww with hww | rfl | ⟨x, hx, rfl⟩
    · exact h.wg w (List.mem_of_mem_take hww)
    · exact ⟨ha, hz⟩
    · exact h.wg x (List.mem_of_mem_drop hx)
theorem SoundP.lower {q : Queue} (h : SoundP q) {p : Proc} {a : Amount} (hw : (wantQ q p).2 = false) (hz : getH q.holds p ≠ Amount.zero) (hc : covA q.resource (getH q.holds p) a = true) : SoundP (lowerQ q p a) := by
  rw [want_not] at hw
  have hl := setL_len2 a h.hv hz
  have h5 := h.wl
  refine ⟨h.res, lower_valid h.hv hz hc, h.cl, h.cn, fun w hww => ?_, h.wv, by simp only [lowerQ]; omega, fun w hww => ?_, h.gen⟩
  · simp only [lowerQ, getH_setL_ne (hw w (List.mem_append_left _ hww))]
    exact h.cg w hww
  · simp only [lowerQ, getH_setL_ne (hw w (List.mem_append_right _ hww))]
    exact h.wg w hww
theorem claimS_ok {q : Queue} {p : Proc} {a : Amount} {pr : Int} (h : (claimS q p a pr).2.2 = 0) : SoundP q ∧ canQ q = false ∧ okArg p pr = true ∧ f_amount_Fits q.resource a = true ∧ (wantQ q p).2 = false ∧
    ((covA q.resource (getH q.holds p) a = true ∧ claimS q p a pr = (q, [], 0)) ∨
     (covA q.resource (getH q.holds p) a = false ∧ getH q.holds p ≠ Amount.zero ∧ claimS q p a pr = changedQ (claimC q p a) ∧ SoundP (claimC q p a)) ∨
     (covA q.resource (getH q.holds p) a = false ∧ getH q.holds p = Amount.zero ∧ q.holds.length + q.waits.length < 8 ∧ claimS q p a pr = changedQ (claimW q p a pr) ∧ SoundP (claimW q p a pr))) := by
  unfold claimS at h ⊢
  by_cases h1 : settledQ q = false
  · rw [if_pos h1] at h; exact absurd h (by decide)
  rw [if_neg h1] at h ⊢
  by_cases h2 : okArg p pr = false
  · rw [if_pos h2] at h; exact absurd h (by decide)
  rw [if_neg h2] at h ⊢
  by_cases h3 : f_amount_Fits q.resource a = false
  · rw [if_pos h3] at h; exact absurd h (by decide)
  rw [if_neg h3] at h ⊢
  by_cases h4 : (wantQ q p).2 = true
  · rw [if_pos h4] at h; exact absurd h (by decide)
  rw [if_neg h4] at h ⊢
  rw [Bool.not_eq_false] at h1 h2 h3
  rw [Bool.not_eq_true] at h4
  obtain ⟨hs, hcn⟩ := (settled_iff q).1 h1
  refine ⟨hs, hcn, h2, h3, h4, ?_⟩
  by_cases h5 : covA q.resource (getH q.holds p) a = true
  · rw [if_pos h5]; exact .inl ⟨h5, rfl⟩
  rw [if_neg h5] at h ⊢
  rw [Bool.not_eq_true] at h5
  by_cases h6 : getH q.holds p ≠ Amount.zero
  · rw [if_pos h6]; exact .inr (.inl ⟨h5, h6, rfl, hs.claimC h3 h4 h5 h6⟩)
  rw [if_neg h6] at h ⊢
  by_cases h7 : 8 ≤ q.holds.length + q.waits.length
  · rw [if_pos h7] at h; exact absurd h (by decide)
  rw [if_neg h7]
  have h6 := Decidable.not_not.1 h6
  exact .inr (.inr ⟨h5, h6, by omega, rfl, hs.claimW h3 h2 h4 h6 (by omega)⟩)
theorem cancelS_ok {q : Queue} {p : Proc} (h : (cancelS q p).2.2 = 0) : SoundP q ∧ canQ q = false ∧ (wantQ q p).2 = true ∧ cancelS q p = changedQ (cancelQ q p) ∧ SoundP (cancelQ q p) := by
  unfold cancelS at h ⊢
  by_cases h1 : settledQ q = false
  · rw [if_pos h1] at h; exact absurd h (by decide)
  rw [if_neg h1] at h ⊢
  by_cases h2 : (wantQ q p).2 = false
  · rw [if_pos h2] at h; exact absurd h (by decide)
  rw [if_neg h2]
  rw [Bool.not_eq_false] at h1 h2
  obtain ⟨hs, hcn⟩ := (settled_iff q).1 h1
  exact ⟨hs, hcn, h2, rfl, hs.cancel p⟩
theorem lowerS_ok {q : Queue} {p : Proc} {a : Amount} (h : (lowerS q p a).2.2 = 0) : SoundP q ∧ canQ q = false ∧ getH q.holds p ≠ Amount.zero ∧ (wantQ q p).2 = false ∧ covA q.resource (getH q.holds p) a = true ∧
    ((getH q.holds p = a ∧ lowerS q p a = (q, [], 0)) ∨ (getH q.holds p ≠ a ∧ lowerS q p a = changedQ (lowerQ q p a) ∧ SoundP (lowerQ q p a))) := by
  unfold lowerS at h ⊢
  by_cases h1 : settledQ q = false
  · rw [if_pos h1] at h; exact absurd h (by decide)
  rw [if_neg h1] at h ⊢
  by_cases h2 : getH q.holds p = Amount.zero
  · rw [if_pos h2] at h; exact absurd h (by decide)
  rw [if_neg h2] at h ⊢
  by_cases h3 : (wantQ q p).2 = true
  · rw [if_pos h3] at h; exact absurd h (by decide)
  rw [if_neg h3] at h ⊢
  by_cases h4 : covA q.resource (getH q.holds p) a = false
  · rw [if_pos h4] at h; exact absurd h (by decide)
  rw [if_neg h4] at h ⊢
  rw [Bool.not_eq_false] at h1 h4
  rw [Bool.not_eq_true] at h3
  obtain ⟨hs, hcn⟩ := (settled_iff q).1 h1
  refine ⟨hs, hcn, h2, h3, h4, ?_⟩
  by_cases h5 : getH q.holds p = a
  · rw [if_pos h5]; exact .inl ⟨h5, rfl⟩
  · rw [if_neg h5]; exact .inr ⟨h5, rfl, hs.lower h3 h2 h4⟩
theorem removeS_ok {q : Queue} {p : Proc} (h : (removeS q p).2.2 = 0) : SoundP q ∧ canQ q = false ∧ hasQ q p = true ∧ removeS q p = changedQ (del q p) ∧ SoundP (del q p) := by
  unfold removeS at h ⊢
  by_cases h1 : settledQ q = false
  · rw [if_pos h1] at h; exact absurd h (by decide)
  rw [if_neg h1] at h ⊢
  by_cases h2 : hasQ q p = false
  · rw [if_pos h2] at h; exact absurd h (by decide)
  rw [if_neg h2]
  rw [Bool.not_eq_false] at h1 h2
  obtain ⟨hs, hcn⟩ := (settled_iff q).1 h1
  exact ⟨hs, hcn, h2, rfl, hs.del p⟩
end Ab
end Go.Proofs.YtdflfohpemfeiaaGreatDoor
