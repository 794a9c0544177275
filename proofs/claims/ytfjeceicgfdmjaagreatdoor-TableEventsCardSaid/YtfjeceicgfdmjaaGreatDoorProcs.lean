/-
  What a claim, a withdrawal, a lowering, a removal make of a queue; that the queue stays sound.
-/
import Derived.Test.YtfjeceicgfdmjaaGreatDoorQueH
namespace Go.Proofs.YtfjeceicgfdmjaaGreatDoor
namespace Ab
set_option linter.unusedVariables false
set_option linter.unusedSimpArgs false
theorem zba8 (g : Int) : 0 ≤ zg0 g ∧ zg0 g ≤ 1073741824 := by
  unfold zg0
  by_cases h : g < 0 ∨ 1073741824 ≤ g
  · rw [if_pos (by simpa using h)]; decide
  · rw [if_neg (by simpa using h), ze1 (by omega) (by omega)]; omega
def zm0 (q : Queue) : Queue × List Hold × Int := ({ advS q with gen := zg0 q.gen }, advG q, 0)
theorem SoundP.gen' {q : Queue} (h : SoundP q) (g : Int) (h1 : 0 ≤ g) (h2 : g ≤ 1073741824) : SoundP { q with gen := g } := ⟨h.res, h.hv, h.cl, h.cn, h.cg, h.wv, h.wl, h.wg, h1, h2⟩
theorem zD0 {q : Queue} (h : SoundP q) : zb9 (zm0 q).1 = true := by
  rw [zg3]
  exact ⟨h.adv.gen' _ (zba8 _).1 (zba8 _).2, by show canQ (advS q) = false; exact zbv6 q⟩
theorem zba9 (q : Queue) (p : Proc) : (zz0 q p).2 = true ↔ ∃ w ∈ q.converts ++ q.waits, w.proc = p := by
  unfold zz0 zaB1
  cases h : (q.converts ++ q.waits).find? fun w => decide (w.proc = p) with
  | none =>
    rw [List.find?_eq_none] at h
    simp only [decide_eq_true_eq] at h
    constructor
    · intro h2; cases h2
    · rintro ⟨w, hw, e⟩; exact absurd e (h w hw)
  | some w =>
    have h1 := List.mem_of_find?_eq_some h
    have h2 := List.find?_some h
    exact ⟨fun _ => ⟨w, h1, by simpa using h2⟩, fun _ => rfl⟩
theorem zaH1 {q : Queue} {p : Proc} : (zz0 q p).2 = false ↔ ∀ w ∈ q.converts ++ q.waits, w.proc ≠ p := by
  rw [← Bool.not_eq_true, zba9]
  constructor
  · exact fun h w hw e => h ⟨w, hw, e⟩
  · rintro h ⟨w, hw, e⟩; exact h w hw e
theorem zbv9 {q : Queue} (hn : ((q.converts ++ q.waits).map (·.proc)).Nodup) {w : Wait} (hw : w ∈ q.converts ++ q.waits) : zz0 q w.proc = (w.amount, true) := by
  unfold zz0 zaB1
  generalize q.converts ++ q.waits = l at hn hw
  induction l with
  | nil => cases hw
  | cons x t ih =>
    rw [List.map_cons, List.nodup_cons] at hn
    rw [List.find?_cons]
    rcases List.mem_cons.1 hw with rfl | hw
    · simp
    · have : x.proc ≠ w.proc := fun e => hn.1 (List.mem_map.2 ⟨w, hw, e.symm⟩)
      simp only [this, decide_false]
      exact ih hn.2 hw
theorem zbJ7 : ∀ a ∈ [(1 : Int), 2, 3, 4, 5], ∀ b ∈ [(1 : Int), 2, 3, 4, 5], supM a b ∈ [(1 : Int), 2, 3, 4, 5] ∧ covM (supM a b) a = true ∧ covM (supM a b) b = true := by decide
theorem zbJ8 {r : Resource} {a b : Amount} (ha : za9 r a = true) (hb : za9 r b = true) (hk : r.kind = 1) : zP2 r a b = ⟨supM a.mode b.mode, 0⟩ := by
  unfold zP2
  rw [zj5 ha, zj5 hb, (zQ3 a).2 (zE9 ha), (zQ3 b).2 (zE9 hb)]
  simp [hk, Amount.zero]
theorem zbJ9 {r : Resource} {a b : Amount} (ha : za9 r a = true) (hb : za9 r b = true) (hk : r.kind ≠ 1) : zP2 r a b = ⟨0, if a.units < b.units then b.units else a.units⟩ := by
  unfold zP2
  rw [zj5 ha, zj5 hb, (zQ3 a).2 (zE9 ha), (zQ3 b).2 (zE9 hb)]
  simp [hk, Amount.zero]
theorem zbB3 {r : Resource} {h a : Amount} (hh : za9 r h = true) (ha : za9 r a = true) (hc : covA r h a = false) :
    za9 r (zP2 r h a) = true ∧ covA r (zP2 r h a) h = true ∧ covA r (zP2 r h a) a = true ∧ zP2 r h a ≠ h := by
  have hf : za9 r (zP2 r h a) = true ∧ covA r (zP2 r h a) h = true ∧ covA r (zP2 r h a) a = true := by
    have fh := (zD9 r h).1 hh
    have fa := (zD9 r a).1 ha
    by_cases hk : r.kind = 1
    · have m1 : h.mode ∈ [(1 : Int), 2, 3, 4, 5] := by simp; omega
      have m2 : a.mode ∈ [(1 : Int), 2, 3, 4, 5] := by simp; omega
      obtain ⟨s1, s2, s3⟩ := zbJ7 _ m1 _ m2
      rw [zbJ8 hh ha hk]
      have hfit : za9 r ⟨supM h.mode a.mode, 0⟩ = true := by
        rw [zD9]; left
        simp at s1
        exact ⟨hk, by omega, by simp only; omega, by simp only; omega, rfl⟩
      refine ⟨hfit, ?_, ?_⟩
      · rw [zV2]; exact ⟨zj5 hfit, zj5 hh, .inr ⟨zE9 hfit, zE9 hh, .inl ⟨hk, s2⟩⟩⟩
      · rw [zV2]; exact ⟨zj5 hfit, zj5 ha, .inr ⟨zE9 hfit, zE9 ha, .inl ⟨hk, s3⟩⟩⟩
    · rw [zbJ9 hh ha hk]
      have hfit : za9 r ⟨0, if h.units < a.units then a.units else h.units⟩ = true := by
        rw [zD9]; right
        refine ⟨by omega, by omega, by omega, rfl, ?_, ?_⟩ <;> simp only <;> split <;> omega
      refine ⟨hfit, ?_, ?_⟩
      · rw [zV2]; refine ⟨zj5 hfit, zj5 hh, .inr ⟨zE9 hfit, zE9 hh, .inr ⟨hk, ?_⟩⟩⟩
        simp only; split <;> omega
      · rw [zV2]; refine ⟨zj5 hfit, zj5 ha, .inr ⟨zE9 hfit, zE9 ha, .inr ⟨hk, ?_⟩⟩⟩
        simp only; split <;> omega
  refine ⟨hf.1, hf.2.1, hf.2.2, fun e => ?_⟩
  have := hf.2.2
  rw [e, hc] at this; cases this
def claimC (q : Queue) (p : Proc) (a : Amount) : Queue := { q with converts := q.converts ++ [⟨p, zP2 q.resource (getH q.holds p) a, 0, 0⟩] }
def claimW (q : Queue) (p : Proc) (a : Amount) (pr : Int) : Queue := { q with waits := zaq8 q.waits ⟨p, a, pr, 0⟩ (zq4 q.waits ⟨p, a, pr, 0⟩ q.waits.length) }
def zai1 (q : Queue) (p : Proc) : Queue := { q with converts := rmL q.converts p, waits := rmL q.waits p }
def zao9 (q : Queue) (p : Proc) (a : Amount) : Queue := { q with holds := setL q.holds p a }
def hasQ (q : Queue) (p : Proc) : Bool := (zz0 q p).2 || !zb7 (getH q.holds p)
def errQ (e : Int) : Queue × List Hold × Int := (Queue.zero, [], e)
def zav8 (p : Proc) (pr : Int) : Bool := zb3 p && (decide (0 ≤ pr) && decide (pr ≤ 7))
def zC3 (q : Queue) (p : Proc) (a : Amount) (pr : Int) : Queue × List Hold × Int :=
  if zb9 q = false then errQ 2 else if zav8 p pr = false then errQ 1 else if za9 q.resource a = false then errQ 12 else if (zz0 q p).2 = true then errQ 14
  else if covA q.resource (getH q.holds p) a = true then (q, [], 0) else if getH q.holds p ≠ Amount.zero then zm0 (claimC q p a)
  else if 8 ≤ q.holds.length + q.waits.length then errQ 4 else zm0 (claimW q p a pr)
def zE2 (q : Queue) (p : Proc) : Queue × List Hold × Int :=
  if zb9 q = false then errQ 2 else if (zz0 q p).2 = false then errQ 10 else zm0 (zai1 q p)
def zC4 (q : Queue) (p : Proc) (a : Amount) : Queue × List Hold × Int :=
  if zb9 q = false then errQ 2 else if getH q.holds p = Amount.zero then errQ 10 else if (zz0 q p).2 = true then errQ 14
  else if covA q.resource (getH q.holds p) a = false then errQ 12 else if getH q.holds p = a then (q, [], 0) else zm0 (zao9 q p a)
def zt5 (q : Queue) (p : Proc) : Queue × List Hold × Int :=
  if zb9 q = false then errQ 2 else if hasQ q p = false then errQ 10 else zm0 (del q p)
theorem SoundP.cancel {q : Queue} (h : SoundP q) (p : Proc) : SoundP (zai1 q p) := by
  have h1 := (zay0 q.converts p).length_le
  have h2 := (zay0 q.waits p).length_le
  have h4 := h.cl; have h5 := h.wl
  exact ⟨h.res, h.hv, by simp only [zai1]; omega, h.cn.sublist ((zay0 _ _).map _), fun w hw => h.cg w (zax9.1 hw).1, zbi8 p h.wv, by simp only [zai1]; omega, fun w hw => h.wg w (zax9.1 hw).1, h.gen⟩
theorem SoundP.claimC {q : Queue} (h : SoundP q) {p : Proc} {a : Amount} (ha : za9 q.resource a = true) (hw : (zz0 q p).2 = false) (hc : covA q.resource (getH q.holds p) a = false) (hz : getH q.holds p ≠ Amount.zero) : SoundP (claimC q p a) := by
  have hv := (zv3 _ _).1 h.hv
  have hfit : za9 q.resource (getH q.holds p) = true := (hv.2.2.1.each _ (zaf8 hz)).2
  obtain ⟨j1, j2, j3, j4⟩ := zbB3 hfit ha hc
  rw [zaH1] at hw
  refine ⟨h.res, h.hv, ?_, ?_, fun w hww => ?_, h.wv, h.wl, h.wg, h.gen⟩
  ·
    have hn : ((q.converts ++ [(⟨p, zP2 q.resource (getH q.holds p) a, 0, 0⟩ : Wait)]).map (·.proc)).Nodup := by
      rw [List.map_append, List.nodup_append]
      refine ⟨h.cn, by simp, fun x hx y hy => ?_⟩
      simp only [List.map_cons, List.map_nil, List.mem_singleton] at hy
      obtain ⟨c, hcc, rfl⟩ := List.mem_map.1 hx
      rw [hy]; exact hw c (List.mem_append_left _ hcc)
    have hs : ∀ x ∈ (q.converts ++ [(⟨p, zP2 q.resource (getH q.holds p) a, 0, 0⟩ : Wait)]).map (·.proc), x ∈ q.holds.map (·.proc) := by
      intro x hx
      simp only [List.map_append, List.mem_append, List.map_cons, List.map_nil, List.mem_singleton] at hx
      rcases hx with hx | rfl
      · obtain ⟨c, hcc, rfl⟩ := List.mem_map.1 hx
        exact List.mem_map.2 ⟨_, zaf8 (h.cg c hcc).1, rfl⟩
      · exact List.mem_map.2 ⟨_, zaf8 hz, rfl⟩
    have := List.Nodup.length_le_of_subset hn hs
    have h8 := zM5 h.hv
    rw [List.length_map, List.length_map] at this
    show (q.converts ++ [(⟨p, zP2 q.resource (getH q.holds p) a, 0, 0⟩ : Wait)]).length ≤ 8
    omega
  · show ((q.converts ++ [(⟨p, zP2 q.resource (getH q.holds p) a, 0, 0⟩ : Wait)]).map (·.proc)).Nodup
    rw [List.map_append, List.nodup_append]
    refine ⟨h.cn, by simp, fun x hx y hy => ?_⟩
    simp only [List.map_cons, List.map_nil, List.mem_singleton] at hy
    obtain ⟨c, hcc, rfl⟩ := List.mem_map.1 hx
    rw [hy]; exact hw c (List.mem_append_left _ hcc)
  · rcases List.mem_append.1 hww with hww | hww
    · exact h.cg w hww
    · rw [List.mem_singleton] at hww; subst hww
      exact ⟨hz, j1, j2, j4, rfl, rfl⟩
theorem zbj3 {r : Resource} {p : Proc} {a : Amount} {pr : Int} (ha : za9 r a = true) (hp : zav8 p pr = true) : zc1 ⟨p, a, pr, 0⟩ = true := by
  rw [zD9] at ha
  unfold zav8 at hp
  simp only [Bool.and_eq_true, decide_eq_true_eq] at hp
  rw [← zab6]
  unfold zh9
  rw [zau8, hp.1]
  unfold zF7 zj2
  simp
  omega
theorem zbF2 {q : Queue} (h : SoundP q) {p : Proc} {a : Amount} {pr : Int} (ha : za9 q.resource a = true) (hp : zav8 p pr = true) (hw : (zz0 q p).2 = false) (hl : q.waits.length < 8) :
    insS q.waits ⟨p, a, pr, 0⟩ = ((claimW q p a pr).waits, (zq4 q.waits ⟨p, a, pr, 0⟩ q.waits.length : Int), 0) := by
  unfold insS
  rw [if_neg (by rw [h.wv]; decide), if_neg (by rw [zbj3 ha hp]; simp), if_neg ?_, if_neg (by omega)]
  · rfl
  · rw [zaH1] at hw
    exact zbJ1.2 fun w hww => hw w (List.mem_append_right _ hww)
theorem SoundP.claimW {q : Queue} (h : SoundP q) {p : Proc} {a : Amount} {pr : Int} (ha : za9 q.resource a = true) (hp : zav8 p pr = true) (hw : (zz0 q p).2 = false) (hz : getH q.holds p = Amount.zero) (hl : q.holds.length + q.waits.length < 8) : SoundP (claimW q p a pr) := by
  rw [zaH1] at hw
  have hne : ∀ e ∈ q.waits, e.proc ≠ p := fun e he => hw e (List.mem_append_right _ he)
  have hv := zbA7 (w := ⟨p, a, pr, 0⟩) h.wv (zbj3 ha hp) hne (by omega)
  refine ⟨h.res, h.hv, h.cl, h.cn, h.cg, hv, ?_, fun w hww => ?_, h.gen⟩
  · have hn := zal9 q.waits ⟨p, a, pr, 0⟩ q.waits.length
    simp only [Ab.claimW, zaq8, List.length_append, List.length_cons, List.length_map, List.length_take, List.length_drop]
    omega
  · simp only [Ab.claimW, zaq8, List.mem_append, List.mem_cons, List.mem_map] at hww
    rcases hww with hww | rfl | ⟨x, hx, rfl⟩
    · exact h.wg w (List.mem_of_mem_take hww)
    · exact ⟨ha, hz⟩
    · exact h.wg x (List.mem_of_mem_drop hx)
theorem SoundP.lower {q : Queue} (h : SoundP q) {p : Proc} {a : Amount} (hw : (zz0 q p).2 = false) (hz : getH q.holds p ≠ Amount.zero) (hc : covA q.resource (getH q.holds p) a = true) : SoundP (zao9 q p a) := by
  rw [zaH1] at hw
  have hl := zbj0 a h.hv hz
  have h5 := h.wl
  refine ⟨h.res, zbv7 h.hv hz hc, h.cl, h.cn, fun w hww => ?_, h.wv, by simp only [zao9]; omega, fun w hww => ?_, h.gen⟩
  · simp only [zao9, zz9 (hw w (List.mem_append_left _ hww))]
    exact h.cg w hww
  · simp only [zao9, zz9 (hw w (List.mem_append_right _ hww))]
    exact h.wg w hww
theorem zaM2 {q : Queue} {p : Proc} {a : Amount} {pr : Int} (h : (zC3 q p a pr).2.2 = 0) : SoundP q ∧ canQ q = false ∧ zav8 p pr = true ∧ za9 q.resource a = true ∧ (zz0 q p).2 = false ∧
    ((covA q.resource (getH q.holds p) a = true ∧ zC3 q p a pr = (q, [], 0)) ∨
     (covA q.resource (getH q.holds p) a = false ∧ getH q.holds p ≠ Amount.zero ∧ zC3 q p a pr = zm0 (claimC q p a) ∧ SoundP (claimC q p a)) ∨
     (covA q.resource (getH q.holds p) a = false ∧ getH q.holds p = Amount.zero ∧ q.holds.length + q.waits.length < 8 ∧ zC3 q p a pr = zm0 (claimW q p a pr) ∧ SoundP (claimW q p a pr))) := by
  unfold zC3 at h ⊢
  by_cases h1 : zb9 q = false
  · rw [if_pos h1] at h; exact absurd h (by decide)
  rw [if_neg h1] at h ⊢
  by_cases h2 : zav8 p pr = false
  · rw [if_pos h2] at h; exact absurd h (by decide)
  rw [if_neg h2] at h ⊢
  by_cases h3 : za9 q.resource a = false
  · rw [if_pos h3] at h; exact absurd h (by decide)
  rw [if_neg h3] at h ⊢
  by_cases h4 : (zz0 q p).2 = true
  · rw [if_pos h4] at h; exact absurd h (by decide)
  rw [if_neg h4] at h ⊢
  rw [Bool.not_eq_false] at h1 h2 h3
  rw [Bool.not_eq_true] at h4
  obtain ⟨hs, hcn⟩ := (zg3 q).1 h1
  refine ⟨hs, hcn, h2, h3, h4, ?_⟩
  by_cases h5 : covA q.resource (getH q.holds p) a = true
  · rw [if_pos h5]; exact .inl ⟨h5, rfl⟩
  rw [if_neg h5] at h ⊢
  rw [Bool.not_eq_true] at h5
  by_cases h6 : getH q.holds p ≠ Amount.zero
  · rw [if_pos h6]; exact .inr (.inl ⟨h5, h6, rfl, hs.claimC h3 h4 h5 h6⟩)
  rw [if_neg h6] at h ⊢
  by_cases h7 : 8 ≤ q.holds.length + q.waits.length
  · rw [if_pos h7] at h; exact absurd h (by decide)
  rw [if_neg h7]
  have h6 := Decidable.not_not.1 h6
  exact .inr (.inr ⟨h5, h6, by omega, rfl, hs.claimW h3 h2 h4 h6 (by omega)⟩)
theorem zap0 {q : Queue} {p : Proc} (h : (zE2 q p).2.2 = 0) : SoundP q ∧ canQ q = false ∧ (zz0 q p).2 = true ∧ zE2 q p = zm0 (zai1 q p) ∧ SoundP (zai1 q p) := by
  unfold zE2 at h ⊢
  by_cases h1 : zb9 q = false
  · rw [if_pos h1] at h; exact absurd h (by decide)
  rw [if_neg h1] at h ⊢
  by_cases h2 : (zz0 q p).2 = false
  · rw [if_pos h2] at h; exact absurd h (by decide)
  rw [if_neg h2]
  rw [Bool.not_eq_false] at h1 h2
  obtain ⟨hs, hcn⟩ := (zg3 q).1 h1
  exact ⟨hs, hcn, h2, rfl, hs.cancel p⟩
theorem zay1 {q : Queue} {p : Proc} {a : Amount} (h : (zC4 q p a).2.2 = 0) : SoundP q ∧ canQ q = false ∧ getH q.holds p ≠ Amount.zero ∧ (zz0 q p).2 = false ∧ covA q.resource (getH q.holds p) a = true ∧
    ((getH q.holds p = a ∧ zC4 q p a = (q, [], 0)) ∨ (getH q.holds p ≠ a ∧ zC4 q p a = zm0 (zao9 q p a) ∧ SoundP (zao9 q p a))) := by
  unfold zC4 at h ⊢
  by_cases h1 : zb9 q = false
  · rw [if_pos h1] at h; exact absurd h (by decide)
  rw [if_neg h1] at h ⊢
  by_cases h2 : getH q.holds p = Amount.zero
  · rw [if_pos h2] at h; exact absurd h (by decide)
  rw [if_neg h2] at h ⊢
  by_cases h3 : (zz0 q p).2 = true
  · rw [if_pos h3] at h; exact absurd h (by decide)
  rw [if_neg h3] at h ⊢
  by_cases h4 : covA q.resource (getH q.holds p) a = false
  · rw [if_pos h4] at h; exact absurd h (by decide)
  rw [if_neg h4] at h ⊢
  rw [Bool.not_eq_false] at h1 h4
  rw [Bool.not_eq_true] at h3
  obtain ⟨hs, hcn⟩ := (zg3 q).1 h1
  refine ⟨hs, hcn, h2, h3, h4, ?_⟩
  by_cases h5 : getH q.holds p = a
  · rw [if_pos h5]; exact .inl ⟨h5, rfl⟩
  · rw [if_neg h5]; exact .inr ⟨h5, rfl, hs.lower h3 h2 h4⟩
theorem zaD6 {q : Queue} {p : Proc} (h : (zt5 q p).2.2 = 0) : SoundP q ∧ canQ q = false ∧ hasQ q p = true ∧ zt5 q p = zm0 (del q p) ∧ SoundP (del q p) := by
  unfold zt5 at h ⊢
  by_cases h1 : zb9 q = false
  · rw [if_pos h1] at h; exact absurd h (by decide)
  rw [if_neg h1] at h ⊢
  by_cases h2 : hasQ q p = false
  · rw [if_pos h2] at h; exact absurd h (by decide)
  rw [if_neg h2]
  rw [Bool.not_eq_false] at h1 h2
  obtain ⟨hs, hcn⟩ := (zg3 q).1 h1
  exact ⟨hs, hcn, h2, rfl, hs.del p⟩
end Ab
end Go.Proofs.YtfjeceicgfdmjaaGreatDoor
namespace Go.Proofs.YtfjeceicgfdmjaaGreatDoor
namespace Ab
set_option linter.unusedVariables false
set_option linter.unusedSimpArgs false
def ordQ (q : Queue) : List Wait := q.converts ++ q.waits
theorem zaH2 {q : Queue} (h : canQ q = true) : ordQ q = (zj4 q).1 :: ordQ (popQ q) ∧ (popQ q).holds = setL q.holds (zj4 q).1.proc (zj4 q).1.amount := by
 cases zba6 h with
 | con w cs he hd hr hp => rw [hp, hd]; unfold ordQ; rw [he]; exact ⟨rfl, rfl⟩
 | wait w ws hc he hd hr hp => rw [hp, hd]; unfold ordQ; rw [hc, he]; exact ⟨rfl, rfl⟩
theorem zce0 {q : Queue} (h : canQ q = true) : zG0 q.resource q.holds (zj4 q).1.proc (zj4 q).1.amount = true := by
 unfold canQ at h; rw [Bool.and_eq_true] at h; exact h.2
theorem zbK0 {q : Queue} {p : Proc} (h : ∀ w ∈ ordQ q, w.proc ≠ p) : getH (advS q).holds p = getH q.holds p ∧ ∀ w ∈ ordQ (advS q), w.proc ≠ p := by
 have := zaG6 (P := fun x => getH x.holds p = getH q.holds p ∧ ∀ w ∈ ordQ x, w.proc ≠ p) (fun x hc hx => by
  obtain ⟨h1, h2⟩ := zaH2 hc
  obtain ⟨h3, h4⟩ := hx
  rw [h1] at h4
  refine ⟨?_, fun w hw => h4 w (.tail _ hw)⟩
  rw [h2, zz9 (Ne.symm (h4 _ (.head _)))]; exact h3) q ⟨rfl, h⟩
 exact this
theorem SoundP.nd {q : Queue} (h : SoundP q) : ((ordQ q).map (·.proc)).Nodup := h.nodup
theorem zck2 {w : Wait} {l : List Wait} (h : ((w :: l).map (·.proc)).Nodup) : ∀ x ∈ l, x.proc ≠ w.proc := fun x hx e => by
 rw [List.map_cons, List.nodup_cons] at h
 exact h.1 (List.mem_map.2 ⟨x, hx, e⟩)
theorem zbK1 {q : Queue} (hs : SoundP q) (hc : canQ q = true) : getH (advS q).holds (zj4 q).1.proc = (zj4 q).1.amount ∧ ∀ w ∈ ordQ (advS q), w.proc ≠ (zj4 q).1.proc := by
 obtain ⟨h1, h2⟩ := zaH2 hc
 have hn := hs.nd
 rw [h1] at hn
 have := zbK0 (q := popQ q) (zck2 hn)
 rw [zV1 hc, this.1, h2, zaf7]
 exact ⟨rfl, this.2⟩
theorem zbB4 {q : Queue} (hs : SoundP q) (p : Proc) : covA q.resource (getH (advS q).holds p) (getH q.holds p) = true := by
 have := zaG6 (P := fun x => SoundP x ∧ x.resource = q.resource ∧ covA q.resource (getH x.holds p) (getH q.holds p) = true) (fun x hc ⟨h1, h2, h3⟩ => by
  refine ⟨h1.pop hc, by rw [(zbo3 x).2]; exact h2, ?_⟩
  obtain ⟨e1, e2⟩ := zaH2 hc
  rw [e2]
  by_cases hp : p = (zj4 x).1.proc
  ·subst hp
   rw [zaf7]
   refine zbB0 ?_ h3
   cases zba6 hc with
   | con w cs he hd hr hp => rw [hd, ← h2]; exact (h1.cg w (by rw [he]; exact .head _)).2.2.1
   | wait w ws hcc he hd hr hp =>
    rw [hd, (h1.wg w (by rw [he]; exact .head _)).2, ← h2]
    have hf := (zX5 hr).2.2.1
    exact zbJ5 (zj5 hf) (zbu0 hf)
  ·rw [zz9 hp]; exact h3) q ⟨hs, rfl, zbj1 (zbi9 hs.hv p)⟩
 exact this.2.2
theorem zbw0 {r : Resource} {l : List Hold} (h : zq3 r l = true) (p : Proc) : getH l p ≠ Amount.zero ↔ p ∈ l.map (·.proc) := by
 constructor
 ·intro hp; exact List.mem_map.2 ⟨_, zaf8 hp, rfl⟩
 ·intro hp
  obtain ⟨x, hx, rfl⟩ := List.mem_map.1 hp
  rw [zbv2 (zam6 h) hx]
  exact zE9 (((zv3 _ _).1 h).2.2.1.each x hx).2
theorem zl3 (q : Queue) (p : Proc) : hasQ q p = true ↔ (∃ w ∈ ordQ q, w.proc = p) ∨ getH q.holds p ≠ Amount.zero := by
 unfold hasQ
 rw [Bool.or_eq_true, zba9, Bool.not_eq_true', zQ3]
 rfl
theorem zbo4 {q : Queue} (h : SoundP q) (p : Proc) : hasQ q p = true ↔ p ∈ (ordQ q).map (·.proc) ∨ p ∈ q.holds.map (·.proc) := by
 simp only [zl3, zbw0 h.hv, List.mem_map]
theorem zck3 {q : Queue} (hc : canQ q = true) (p : Proc) : hasQ (popQ q) p = hasQ q p := by
 rw [Bool.eq_iff_iff, zl3, zl3]
 obtain ⟨h1, h2⟩ := zaH2 hc
 rw [h1, h2]
 have hz := zE9 (zX5 (zce0 hc)).2.2.1
 by_cases hp : p = (zj4 q).1.proc
 ·subst hp
  rw [zaf7]
  exact ⟨fun _ => .inl ⟨_, .head _, rfl⟩, fun _ => .inr hz⟩
 ·rw [zz9 hp]
  constructor
  ·rintro (⟨w, hw, e⟩ | h)
   ·exact .inl ⟨w, .tail _ hw, e⟩
   ·exact .inr h
  ·rintro (⟨w, hw, e⟩ | h)
   ·rcases List.mem_cons.1 hw with rfl | hw
    ·exact absurd e.symm hp
    ·exact .inl ⟨w, hw, e⟩
   ·exact .inr h
theorem zbF3 (q : Queue) (p : Proc) : hasQ (advS q) p = hasQ q p := zaG6 (P := fun x => hasQ x p = hasQ q p) (fun x hc h => by rw [zck3 hc]; exact h) q rfl
theorem zbF4 (q : Queue) (g : Int) (p : Proc) : hasQ { q with gen := g } p = hasQ q p := rfl
theorem zav9 {q : Queue} {p : Proc} {w : Wait} : w ∈ ordQ (del q p) ↔ w ∈ ordQ q ∧ w.proc ≠ p := by
 unfold ordQ del
 simp only [List.mem_append, zax9]
 constructor
 ·rintro (⟨a, b⟩ | ⟨a, b⟩)
  ·exact ⟨.inl a, b⟩
  ·exact ⟨.inr a, b⟩
 ·rintro ⟨a | a, b⟩
  ·exact .inl ⟨a, b⟩
  ·exact .inr ⟨a, b⟩
theorem zck4 (q : Queue) (p x : Proc) : hasQ (del q p) x = true ↔ hasQ q x = true ∧ x ≠ p := by
 rw [zl3, zl3]
 by_cases hx : x = p
 ·subst hx
  constructor
  ·rintro (⟨w, hw, e⟩ | h)
   ·exact absurd e (zav9.1 hw).2
   ·exact absurd (zam5 _ _) h
  ·rintro ⟨_, h⟩; exact absurd rfl h
 ·have e1 : getH (del q p).holds x = getH q.holds x := zG1 hx _
  rw [e1]
  constructor
  ·rintro (⟨w, hw, e⟩ | h)
   ·exact ⟨.inl ⟨w, (zav9.1 hw).1, e⟩, hx⟩
   ·exact ⟨.inr h, hx⟩
  ·rintro ⟨⟨w, hw, e⟩ | h, _⟩
   ·exact .inl ⟨w, zav9.2 ⟨hw, by rw [e]; exact hx⟩, e⟩
   ·exact .inr h
theorem zck5 {q : Queue} (h : SoundP q) {p : Proc} (hp : hasQ q p = false) : del q p = q := by
 rw [← Bool.not_eq_true, zbo4 h] at hp
 simp only [not_or, ordQ, List.map_append, List.mem_append, List.mem_map, not_exists, not_and] at hp
 exact zcd7 hp.2 hp.1.1 hp.1.2
def remN (q : Queue) (p : Proc) : Queue := if (zt5 q p).2.2 = 0 then (zt5 q p).1 else q
theorem zV3 (q : Queue) : (zm0 q).1 = { advS q with gen := zg0 q.gen } := rfl
theorem zap1 {q : Queue} (h : zb9 q = true) {p : Proc} (hp : hasQ q p = true) : zt5 q p = zm0 (del q p) := by
 unfold zt5; rw [if_neg (by rw [h]; decide), if_neg (by rw [hp]; decide)]
theorem zY6 {q : Queue} (h : zb9 q = true) {p : Proc} (hp : hasQ q p = false) : zt5 q p = errQ 10 := by
 unfold zt5; rw [if_neg (by rw [h]; decide), if_pos hp]
theorem zab7 {q : Queue} (h : zb9 q = true) (p : Proc) : zb9 (remN q p) = true := by
 unfold remN
 split
 ·rename_i h0
  obtain ⟨_, _, _, e, hs⟩ := zaD6 h0
  rw [e]; exact zD0 hs
 ·exact h
theorem zck6 {q : Queue} (h : zb9 q = true) (p : Proc) : noG (remN q p) = advS (del (noG q) p) := by
 obtain ⟨hs, hc⟩ := (zg3 q).1 h
 unfold remN
 cases hp : hasQ q p with
 | true =>
  rw [zap1 h hp, if_pos (show (zm0 (del q p)).2.2 = 0 from rfl), zV3]
  exact (zcd9 0 (del q p)).symm
 | false =>
  rw [zY6 h hp, if_neg (by decide)]
  have : del (noG q) p = noG q := by
   show noG (del q p) = noG q
   rw [zck5 hs hp]
  rw [this]
  show noG q = advS { q with gen := 0 }
  rw [zQ4 (by rw [zaG9]; exact hc)]; rfl
theorem SoundP.noG {q : Queue} (h : SoundP q) : SoundP (noG q) := h.gen' 0 (by decide) (by decide)
def remS (q : Queue) (ps : List Proc) : Queue := ps.foldl remN q
theorem zbF5 : ∀ (ps : List Proc) {q : Queue}, zb9 q = true → noG (remS q ps) = advS (dels (noG q) ps)
 | [], q, h => by
  obtain ⟨hs, hc⟩ := (zg3 q).1 h
  show noG q = advS { q with gen := 0 }
  rw [zQ4 (by rw [zaG9]; exact hc)]; rfl
 | p :: ps, q, h => by
  have hs := ((zg3 q).1 h).1
  have ih := zbF5 ps (zab7 h p)
  show noG (remS (remN q p) ps) = _
  rw [ih, zck6 h p]
  have key : ∀ (ps : List Proc) (x : Queue), SoundP x → advS (dels (advS x) ps) = advS (dels x ps) := by
   intro ps
   induction ps with
   | nil =>
    intro x hx
    show advS (advS x) = advS x
    exact zQ4 (zbv6 x)
   | cons a ps ih =>
    intro x hx
    show advS (dels (del (advS x) a) ps) = advS (dels (del x a) ps)
    rw [← ih _ (hx.adv.del a), zck1 x hx a, ih _ (hx.del a)]
  exact key ps _ (hs.noG.del p)
theorem zbw1 {q : Queue} (h : zb9 q = true) {p x : Proc} (hx : x ≠ p) : covA q.resource (getH (remN q p).holds x) (getH q.holds x) = true ∧ (remN q p).resource = q.resource := by
 obtain ⟨hs, hc⟩ := (zg3 q).1 h
 unfold remN
 cases hp : hasQ q p with
 | true =>
  rw [zap1 h hp, if_pos (show (zm0 (del q p)).2.2 = 0 from rfl), zV3]
  have h1 := zbB4 (hs.del p) x
  have h2 : getH (del q p).holds x = getH q.holds x := zG1 hx _
  rw [h2] at h1
  exact ⟨h1, (zaH0 (del q p)).2⟩
 | false =>
  rw [zY6 h hp, if_neg (by decide)]
  exact ⟨zbj1 (zbi9 hs.hv x), rfl⟩
theorem zbw2 {q : Queue} (h : zb9 q = true) (p x : Proc) : hasQ (remN q p) x = true ↔ hasQ q x = true ∧ x ≠ p := by
 unfold remN
 cases hp : hasQ q p with
 | true =>
  rw [zap1 h hp, if_pos (show (zm0 (del q p)).2.2 = 0 from rfl), zV3, zbF4, zbF3, zck4]
 | false =>
  rw [zY6 h hp, if_neg (by decide)]
  constructor
  ·intro hx; exact ⟨hx, fun e => by rw [e, hp] at hx; cases hx⟩
  ·exact And.left
structure Later (q x : Queue) (p : Proc) (g : List Hold) : Prop where
 hold : ∀ o, o ≠ p → getH x.holds o = getH q.holds o
 ord : ((ordQ x).map (·.proc)).filter (fun o => !decide (o = p)) = (ordQ q).map (·.proc)
 len : g.length ≤ 1
end Ab
end Go.Proofs.YtfjeceicgfdmjaaGreatDoor
namespace Go.Proofs.YtfjeceicgfdmjaaGreatDoor
namespace Ab
set_option linter.unusedVariables false
set_option linter.unusedSimpArgs false
theorem zaf9 : ∀ {a b : List Proc}, a.Pairwise ltP → b.Pairwise ltP → (∀ x, x ∈ a ↔ x ∈ b) → a = b
 | [], b, _, _, h => by
  cases b with
  | nil => rfl
  | cons y b => exact absurd ((h y).2 (.head _)) (by simp)
 | x :: a, [], _, _, h => absurd ((h x).1 (.head _)) (by simp)
 | x :: a, y :: b, ha, hb, h => by
  rw [List.pairwise_cons] at ha hb
  have hxy : x = y := by
   rcases List.mem_cons.1 ((h x).1 (.head _)) with e | hx
   ·exact e
   ·rcases List.mem_cons.1 ((h y).2 (.head _)) with e | hy
    ·exact e.symm
    ·exact absurd (zX0 (ha.1 y hy) (hb.1 x hx)) (zae7 x)
  subst hxy
  congr 1
  refine zaf9 ha.2 hb.2 fun z => ?_
  have hz := h z
  constructor
  ·intro hm
   rcases List.mem_cons.1 (hz.1 (.tail _ hm)) with e | hm'
   ·subst e; exact absurd (ha.1 z hm) (zae7 z)
   ·exact hm'
  ·intro hm
   rcases List.mem_cons.1 (hz.2 (.tail _ hm)) with e | hm'
   ·subst e; exact absurd (hb.1 z hm) (zae7 z)
   ·exact hm'
def zZ8 (p : Proc) : List Proc → List Proc
 | [] => [p]
 | x :: t => if p = x then x :: t else if ltP p x then p :: x :: t else x :: zZ8 p t
theorem zX6 {p x : Proc} : ∀ {l : List Proc}, x ∈ zZ8 p l ↔ x = p ∨ x ∈ l
 | [] => by simp [zZ8]
 | y :: t => by
  simp only [zZ8]
  split
  ·rename_i h; subst h
   simp only [List.mem_cons]
   constructor
   ·intro h; exact .inr h
   ·rintro (rfl | h)
    ·exact .inl rfl
    ·exact h
  ·split
   ·simp only [List.mem_cons]
   ·simp only [List.mem_cons, zX6 (l := t)]
    constructor
    ·rintro (h | h | h)
     ·exact .inr (.inl h)
     ·exact .inl h
     ·exact .inr (.inr h)
    ·rintro (h | h | h)
     ·exact .inr (.inl h)
     ·exact .inl h
     ·exact .inr (.inr h)
theorem zX7 {p : Proc} : ∀ {l : List Proc}, l.Pairwise ltP → (zZ8 p l).Pairwise ltP
 | [], _ => by simp [zZ8]
 | y :: t, h => by
  simp only [zZ8]
  split
  ·exact h
  ·rename_i hne
   rw [List.pairwise_cons] at h
   split
   ·rename_i hlt
    rw [List.pairwise_cons]
    refine ⟨fun x hx => ?_, List.pairwise_cons.2 h⟩
    rcases List.mem_cons.1 hx with rfl | hx
    ·exact hlt
    ·exact zX0 hlt (h.1 x hx)
   ·rename_i hlt
    rw [List.pairwise_cons]
    refine ⟨fun x hx => ?_, zX7 h.2⟩
    rcases zX6.1 hx with rfl | hx
    ·rcases zX1 hne with h1 | h1
     ·exact absurd h1 hlt
     ·exact h1
    ·exact h.1 x hx
theorem zbB5 {p : Proc} : ∀ {l : List Proc}, l.Pairwise ltP → p ∈ l → zZ8 p l = l := fun hl hp =>
 zaf9 (zX7 hl) hl fun x => by
  rw [zX6]
  constructor
  ·rintro (rfl | h)
   ·exact hp
   ·exact h
  ·exact .inr
def zaB3 (l : List Proc) : List Proc := l.foldl (fun s p => zZ8 p s) []
theorem zaw0 : ∀ (l s : List Proc), s.Pairwise ltP → (l.foldl (fun s p => zZ8 p s) s).Pairwise ltP ∧ ∀ x, x ∈ l.foldl (fun s p => zZ8 p s) s ↔ x ∈ s ∨ x ∈ l
 | [], s, h => ⟨h, fun x => by simp⟩
 | p :: l, s, h => by
  obtain ⟨h1, h2⟩ := zaw0 l (zZ8 p s) (zX7 h)
  refine ⟨h1, fun x => ?_⟩
  rw [List.foldl_cons, h2, zX6, List.mem_cons]
  constructor
  ·rintro ((h | h) | h)
   ·exact .inr (.inl h)
   ·exact .inl h
   ·exact .inr (.inr h)
  ·rintro (h | h | h)
   ·exact .inl (.inr h)
   ·exact .inl (.inl h)
   ·exact .inr h
theorem zaM3 (l : List Proc) : (zaB3 l).Pairwise ltP := (zaw0 l [] .nil).1
theorem zay2 {l : List Proc} {x : Proc} : x ∈ zaB3 l ↔ x ∈ l := by
 have := (zaw0 l [] .nil).2 x
 unfold zaB3
 simpa using this
theorem zbo5 {l s : List Proc} (h : s.Pairwise ltP) (hm : ∀ x, x ∈ s ↔ x ∈ l) : s = zaB3 l := zaf9 h (zaM3 l) fun x => by rw [hm, zay2]
theorem zaM4 {l : List Proc} (h : l.Pairwise ltP) : l.Nodup := h.imp fun hab e => by subst e; exact zae7 _ hab
theorem zbj4 (l : List Proc) : (zaB3 l).length ≤ l.length := List.Nodup.length_le_of_subset (zaM4 (zaM3 l)) fun x hx => zay2.1 hx
def dst : List Proc → List Proc
 | [] => []
 | [x] => [x]
 | x :: y :: t => if x = y then dst (y :: t) else x :: dst (y :: t)
theorem zaT1 : ∀ {l : List Proc} {x : Proc}, x ∈ dst l ↔ x ∈ l
 | [], x => by simp [dst]
 | [y], x => by simp [dst]
 | y :: z :: t, x => by
  simp only [dst]
  split
  ·rename_i h; subst h
   rw [zaT1 (l := y :: t)]
   simp
  ·rw [List.mem_cons, zaT1 (l := z :: t), List.mem_cons (b := y)]
theorem zbo6 : ∀ {l : List Proc}, l.Pairwise (fun x y => ¬ ltP y x) → (dst l).Pairwise ltP
 | [], _ => by simp [dst]
 | [x], _ => by simp [dst]
 | x :: y :: t, h => by
  simp only [dst]
  rw [List.pairwise_cons] at h
  split
  ·exact zbo6 h.2
  ·rename_i hne
   rw [List.pairwise_cons]
   refine ⟨fun z hz => ?_, zbo6 h.2⟩
   have hz := zaT1.1 hz
   by_cases e : x = z
   ·subst e
    rcases List.mem_cons.1 hz with e | hz'
    ·exact absurd e hne
    ·have h2 := (List.pairwise_cons.1 h.2).1 x hz'
     rcases zX1 hne with h3 | h3
     ·exact absurd h3 h2
     ·exact absurd h3 (h.1 y (.head _))
   ·rcases zX1 e with h1 | h1
    ·exact h1
    ·exact absurd h1 (h.1 z hz)
theorem zbK2 {l s : List Proc} (h : s.Pairwise fun x y => ¬ ltP y x) (hm : ∀ x, x ∈ s ↔ x ∈ l) : dst s = zaB3 l := zbo5 (zbo6 h) fun x => by rw [zaT1, hm]
theorem zbw3 : ∀ (l : List Proc) (x y : Proc), dst (l ++ [x, y]) = if x = y then dst (l ++ [x]) else dst (l ++ [x]) ++ [y]
 | [], x, y => by
  by_cases h : x = y <;> simp [dst, h]
 | [a], x, y => by
  by_cases h : x = y
  ·subst h; by_cases h2 : a = x <;> simp [dst, h2]
  ·by_cases h2 : a = x
   ·subst h2; simp [dst, h]
   ·simp [dst, h, h2]
 | a :: b :: l, x, y => by
  have ih := zbw3 (b :: l) x y
  simp only [List.cons_append, dst] at ih ⊢
  rw [ih]
  by_cases h : x = y <;> by_cases h2 : a = b <;> simp [h, h2]
theorem zbB6 (x y : Proc) : ¬ ltP y x ∨ ¬ ltP x y := by
 by_cases h : ltP y x
 ·exact .inr (zaL1 h)
 ·exact .inl h
theorem zbo7 (l : List Proc) : (l.mergeSort fun x y => !decide (ltP y x)).Pairwise fun x y => ¬ ltP y x := by
 have := List.pairwise_mergeSort (le := fun x y => !decide (ltP y x)) (fun a b c h1 h2 => by
  simp only [Bool.not_eq_true', decide_eq_false_iff_not] at h1 h2 ⊢
  intro h3
  by_cases e : b = a
  ·subst e; exact h2 h3
  ·rcases zX1 e with h4 | h4
   ·exact h1 h4
   ·by_cases e2 : b = c
    ·subst e2; exact h1 h3
    ·rcases zX1 e2 with h5 | h5
     ·exact zaL1 (zX0 h3 h4) h5
     ·exact h2 h5) (fun a b => by
  rcases zbB6 a b with h | h
  ·simp [h]
  ·simp [h]) l
 exact this.imp fun h => by simpa using h
end Ab
end Go.Proofs.YtfjeceicgfdmjaaGreatDoor
