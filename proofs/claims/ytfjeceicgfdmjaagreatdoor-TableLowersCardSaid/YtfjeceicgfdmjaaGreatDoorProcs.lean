/-
  What a claim, a withdrawal, a lowering, a removal make of a queue; that the queue stays sound.
-/
import Derived.Test.YtfjeceicgfdmjaaGreatDoorQueH
namespace Go.Proofs.YtfjeceicgfdmjaaGreatDoor
namespace Ab
set_option linter.unusedVariables false
set_option linter.unusedSimpArgs false
def zC7 (q : Queue) : Queue × List Hold × Int := ({ advS q with gen := zm0 q.gen }, advG q, 0)
theorem zaY2 (q : Queue) (p : Proc) : (zD3 q p).2 = true ↔ ∃ w ∈ q.converts ++ q.waits, w.proc = p := by
  unfold zD3 zaD6
  cases h : (q.converts ++ q.waits).find? fun w => decide (w.proc = p) with
  | none =>
    rw [List.find?_eq_none] at h
    simp only [decide_eq_true_eq] at h
    constructor
    · intro h2; cases h2
    · rintro ⟨w, hw, e⟩; exact absurd e (h w hw)
  | some w =>
    have h1 := List.mem_of_find?_eq_some h
    have h2 := List.find?_some h
    exact ⟨fun _ => ⟨w, h1, by simpa using h2⟩, fun _ => rfl⟩
theorem zaD8 {q : Queue} {p : Proc} : (zD3 q p).2 = false ↔ ∀ w ∈ q.converts ++ q.waits, w.proc ≠ p := by
  rw [← Bool.not_eq_true, zaY2]
  constructor
  · exact fun h w hw e => h ⟨w, hw, e⟩
  · rintro h ⟨w, hw, e⟩; exact h w hw e
theorem zbB3 : ∀ a ∈ [(1 : Int), 2, 3, 4, 5], ∀ b ∈ [(1 : Int), 2, 3, 4, 5], supM a b ∈ [(1 : Int), 2, 3, 4, 5] ∧ covM (supM a b) a = true ∧ covM (supM a b) b = true := by decide
theorem zbB4 {r : Resource} {a b : Amount} (ha : za9 r a = true) (hb : za9 r b = true) (hk : r.kind = 1) : zO3 r a b = ⟨supM a.mode b.mode, 0⟩ := by
  unfold zO3
  rw [zA3 ha, zA3 hb, (zL2 a).2 (zG5 ha), (zL2 b).2 (zG5 hb)]
  simp [hk, Amount.zero]
theorem zbB5 {r : Resource} {a b : Amount} (ha : za9 r a = true) (hb : za9 r b = true) (hk : r.kind ≠ 1) : zO3 r a b = ⟨0, if a.units < b.units then b.units else a.units⟩ := by
  unfold zO3
  rw [zA3 ha, zA3 hb, (zL2 a).2 (zG5 ha), (zL2 b).2 (zG5 hb)]
  simp [hk, Amount.zero]
theorem zbu4 {r : Resource} {h a : Amount} (hh : za9 r h = true) (ha : za9 r a = true) (hc : covA r h a = false) :
    za9 r (zO3 r h a) = true ∧ covA r (zO3 r h a) h = true ∧ covA r (zO3 r h a) a = true ∧ zO3 r h a ≠ h := by
  have hf : za9 r (zO3 r h a) = true ∧ covA r (zO3 r h a) h = true ∧ covA r (zO3 r h a) a = true := by
    have fh := (zH1 r h).1 hh
    have fa := (zH1 r a).1 ha
    by_cases hk : r.kind = 1
    · have m1 : h.mode ∈ [(1 : Int), 2, 3, 4, 5] := by simp; omega
      have m2 : a.mode ∈ [(1 : Int), 2, 3, 4, 5] := by simp; omega
      obtain ⟨s1, s2, s3⟩ := zbB3 _ m1 _ m2
      rw [zbB4 hh ha hk]
      have hfit : za9 r ⟨supM h.mode a.mode, 0⟩ = true := by
        rw [zH1]; left
        simp at s1
        exact ⟨hk, by omega, by simp only; omega, by simp only; omega, rfl⟩
      refine ⟨hfit, ?_, ?_⟩
      · rw [zak2]; exact ⟨zA3 hfit, zA3 hh, .inr ⟨zG5 hfit, zG5 hh, .inl ⟨hk, s2⟩⟩⟩
      · rw [zak2]; exact ⟨zA3 hfit, zA3 ha, .inr ⟨zG5 hfit, zG5 ha, .inl ⟨hk, s3⟩⟩⟩
    · rw [zbB5 hh ha hk]
      have hfit : za9 r ⟨0, if h.units < a.units then a.units else h.units⟩ = true := by
        rw [zH1]; right
        refine ⟨by omega, by omega, by omega, rfl, ?_, ?_⟩ <;> simp only <;> split <;> omega
      refine ⟨hfit, ?_, ?_⟩
      · rw [zak2]; refine ⟨zA3 hfit, zA3 hh, .inr ⟨zG5 hfit, zG5 hh, .inr ⟨hk, ?_⟩⟩⟩
        simp only; split <;> omega
      · rw [zak2]; refine ⟨zA3 hfit, zA3 ha, .inr ⟨zG5 hfit, zG5 ha, .inr ⟨hk, ?_⟩⟩⟩
        simp only; split <;> omega
  refine ⟨hf.1, hf.2.1, hf.2.2, fun e => ?_⟩
  have := hf.2.2
  rw [e, hc] at this; cases this
def claimC (q : Queue) (p : Proc) (a : Amount) : Queue := { q with converts := q.converts ++ [⟨p, zO3 q.resource (getH q.holds p) a, 0, 0⟩] }
def claimW (q : Queue) (p : Proc) (a : Amount) (pr : Int) : Queue := { q with waits := zar8 q.waits ⟨p, a, pr, 0⟩ (zs8 q.waits ⟨p, a, pr, 0⟩ q.waits.length) }
def zaa3 (q : Queue) (p : Proc) : Queue := { q with converts := rmL q.converts p, waits := rmL q.waits p }
def zah7 (q : Queue) (p : Proc) (a : Amount) : Queue := { q with holds := setL q.holds p a }
def hasQ (q : Queue) (p : Proc) : Bool := (zD3 q p).2 || !zb8 (getH q.holds p)
def errQ (e : Int) : Queue × List Hold × Int := (Queue.zero, [], e)
def zas5 (p : Proc) (pr : Int) : Bool := zb3 p && (decide (0 ≤ pr) && decide (pr ≤ 7))
def zL3 (q : Queue) (p : Proc) (a : Amount) (pr : Int) : Queue × List Hold × Int :=
  if zd8 q = false then errQ 2 else if zas5 p pr = false then errQ 1 else if za9 q.resource a = false then errQ 12 else if (zD3 q p).2 = true then errQ 14
  else if covA q.resource (getH q.holds p) a = true then (q, [], 0) else if getH q.holds p ≠ Amount.zero then zC7 (claimC q p a)
  else if 8 ≤ q.holds.length + q.waits.length then errQ 4 else zC7 (claimW q p a pr)
def zG6 (q : Queue) (p : Proc) : Queue × List Hold × Int :=
  if zd8 q = false then errQ 2 else if (zD3 q p).2 = false then errQ 10 else zC7 (zaa3 q p)
def zB5 (q : Queue) (p : Proc) (a : Amount) : Queue × List Hold × Int :=
  if zd8 q = false then errQ 2 else if getH q.holds p = Amount.zero then errQ 10 else if (zD3 q p).2 = true then errQ 14
  else if covA q.resource (getH q.holds p) a = false then errQ 12 else if getH q.holds p = a then (q, [], 0) else zC7 (zah7 q p a)
theorem SoundP.cancel {q : Queue} (h : SoundP q) (p : Proc) : SoundP (zaa3 q p) := by
  have h1 := (zbk7 q.converts p).length_le
  have h2 := (zbk7 q.waits p).length_le
  have h4 := h.cl; have h5 := h.wl
  exact ⟨h.res, h.hv, by simp only [zaa3]; omega, h.cn.sublist ((zbk7 _ _).map _), fun w hw => h.cg w (zbx9.1 hw).1, zbB0 p h.wv, by simp only [zaa3]; omega, fun w hw => h.wg w (zbx9.1 hw).1, h.gen⟩
theorem SoundP.claimC {q : Queue} (h : SoundP q) {p : Proc} {a : Amount} (ha : za9 q.resource a = true) (hw : (zD3 q p).2 = false) (hc : covA q.resource (getH q.holds p) a = false) (hz : getH q.holds p ≠ Amount.zero) : SoundP (claimC q p a) := by
  have hv := (zL1 _ _).1 h.hv
  have hfit : za9 q.resource (getH q.holds p) = true := (hv.2.2.1.each _ (zas3 hz)).2
  obtain ⟨j1, j2, j3, j4⟩ := zbu4 hfit ha hc
  rw [zaD8] at hw
  refine ⟨h.res, h.hv, ?_, ?_, fun w hww => ?_, h.wv, h.wl, h.wg, h.gen⟩
  ·
    have hn : ((q.converts ++ [(⟨p, zO3 q.resource (getH q.holds p) a, 0, 0⟩ : Wait)]).map (·.proc)).Nodup := by
      rw [List.map_append, List.nodup_append]
      refine ⟨h.cn, by simp, fun x hx y hy => ?_⟩
      simp only [List.map_cons, List.map_nil, List.mem_singleton] at hy
      obtain ⟨c, hcc, rfl⟩ := List.mem_map.1 hx
      rw [hy]; exact hw c (List.mem_append_left _ hcc)
    have hs : ∀ x ∈ (q.converts ++ [(⟨p, zO3 q.resource (getH q.holds p) a, 0, 0⟩ : Wait)]).map (·.proc), x ∈ q.holds.map (·.proc) := by
      intro x hx
      simp only [List.map_append, List.mem_append, List.map_cons, List.map_nil, List.mem_singleton] at hx
      rcases hx with hx | rfl
      · obtain ⟨c, hcc, rfl⟩ := List.mem_map.1 hx
        exact List.mem_map.2 ⟨_, zas3 (h.cg c hcc).1, rfl⟩
      · exact List.mem_map.2 ⟨_, zas3 hz, rfl⟩
    have := List.Nodup.length_le_of_subset hn hs
    have h8 := zK9 h.hv
    rw [List.length_map, List.length_map] at this
    show (q.converts ++ [(⟨p, zO3 q.resource (getH q.holds p) a, 0, 0⟩ : Wait)]).length ≤ 8
    omega
  · show ((q.converts ++ [(⟨p, zO3 q.resource (getH q.holds p) a, 0, 0⟩ : Wait)]).map (·.proc)).Nodup
    rw [List.map_append, List.nodup_append]
    refine ⟨h.cn, by simp, fun x hx y hy => ?_⟩
    simp only [List.map_cons, List.map_nil, List.mem_singleton] at hy
    obtain ⟨c, hcc, rfl⟩ := List.mem_map.1 hx
    rw [hy]; exact hw c (List.mem_append_left _ hcc)
  · rcases List.mem_append.1 hww with hww | hww
    · exact h.cg w hww
    · rw [List.mem_singleton] at hww; subst hww
      exact ⟨hz, j1, j2, j4, rfl, rfl⟩
theorem zbg2 {r : Resource} {p : Proc} {a : Amount} {pr : Int} (ha : za9 r a = true) (hp : zas5 p pr = true) : zc2 ⟨p, a, pr, 0⟩ = true := by
  rw [zH1] at ha
  unfold zas5 at hp
  simp only [Bool.and_eq_true, decide_eq_true_eq] at hp
  rw [← zal6]
  unfold zl4
  rw [zaD0, hp.1]
  unfold zE3 zl3
  simp
  omega
theorem zby1 {q : Queue} (h : SoundP q) {p : Proc} {a : Amount} {pr : Int} (ha : za9 q.resource a = true) (hp : zas5 p pr = true) (hw : (zD3 q p).2 = false) (hl : q.waits.length < 8) :
    insS q.waits ⟨p, a, pr, 0⟩ = ((claimW q p a pr).waits, (zs8 q.waits ⟨p, a, pr, 0⟩ q.waits.length : Int), 0) := by
  unfold insS
  rw [if_neg (by rw [h.wv]; decide), if_neg (by rw [zbg2 ha hp]; simp), if_neg ?_, if_neg (by omega)]
  · rfl
  · rw [zaD8] at hw
    exact zaI3.2 fun w hww => hw w (List.mem_append_right _ hww)
theorem SoundP.claimW {q : Queue} (h : SoundP q) {p : Proc} {a : Amount} {pr : Int} (ha : za9 q.resource a = true) (hp : zas5 p pr = true) (hw : (zD3 q p).2 = false) (hz : getH q.holds p = Amount.zero) (hl : q.holds.length + q.waits.length < 8) : SoundP (claimW q p a pr) := by
  rw [zaD8] at hw
  have hne : ∀ e ∈ q.waits, e.proc ≠ p := fun e he => hw e (List.mem_append_right _ he)
  have hv := zbu3 (w := ⟨p, a, pr, 0⟩) h.wv (zbg2 ha hp) hne (by omega)
  refine ⟨h.res, h.hv, h.cl, h.cn, h.cg, hv, ?_, fun w hww => ?_, h.gen⟩
  · have hn := zaj8 q.waits ⟨p, a, pr, 0⟩ q.waits.length
    simp only [Ab.claimW, zar8, List.length_append, List.length_cons, List.length_map, List.length_take, List.length_drop]
    omega
  · simp only [Ab.claimW, zar8, List.mem_append, List.mem_cons, List.mem_map] at hww
    rcases hww with hww | rfl | ⟨x, hx, rfl⟩
    · exact h.wg w (List.mem_of_mem_take hww)
    · exact ⟨ha, hz⟩
    · exact h.wg x (List.mem_of_mem_drop hx)
theorem SoundP.lower {q : Queue} (h : SoundP q) {p : Proc} {a : Amount} (hw : (zD3 q p).2 = false) (hz : getH q.holds p ≠ Amount.zero) (hc : covA q.resource (getH q.holds p) a = true) : SoundP (zah7 q p a) := by
  rw [zaD8] at hw
  have hl := zbg1 a h.hv hz
  have h5 := h.wl
  refine ⟨h.res, zbr1 h.hv hz hc, h.cl, h.cn, fun w hww => ?_, h.wv, by simp only [zah7]; omega, fun w hww => ?_, h.gen⟩
  · simp only [zah7, zT8 (hw w (List.mem_append_left _ hww))]
    exact h.cg w hww
  · simp only [zah7, zT8 (hw w (List.mem_append_right _ hww))]
    exact h.wg w hww
theorem zbB6 {q : Queue} {p : Proc} {a : Amount} {pr : Int} (h : (zL3 q p a pr).2.2 = 0) : SoundP q ∧ canQ q = false ∧ zas5 p pr = true ∧ za9 q.resource a = true ∧ (zD3 q p).2 = false ∧
    ((covA q.resource (getH q.holds p) a = true ∧ zL3 q p a pr = (q, [], 0)) ∨
     (covA q.resource (getH q.holds p) a = false ∧ getH q.holds p ≠ Amount.zero ∧ zL3 q p a pr = zC7 (claimC q p a) ∧ SoundP (claimC q p a)) ∨
     (covA q.resource (getH q.holds p) a = false ∧ getH q.holds p = Amount.zero ∧ q.holds.length + q.waits.length < 8 ∧ zL3 q p a pr = zC7 (claimW q p a pr) ∧ SoundP (claimW q p a pr))) := by
  unfold zL3 at h ⊢
  by_cases h1 : zd8 q = false
  · rw [if_pos h1] at h; exact absurd h (by decide)
  rw [if_neg h1] at h ⊢
  by_cases h2 : zas5 p pr = false
  · rw [if_pos h2] at h; exact absurd h (by decide)
  rw [if_neg h2] at h ⊢
  by_cases h3 : za9 q.resource a = false
  · rw [if_pos h3] at h; exact absurd h (by decide)
  rw [if_neg h3] at h ⊢
  by_cases h4 : (zD3 q p).2 = true
  · rw [if_pos h4] at h; exact absurd h (by decide)
  rw [if_neg h4] at h ⊢
  rw [Bool.not_eq_false] at h1 h2 h3
  rw [Bool.not_eq_true] at h4
  obtain ⟨hs, hcn⟩ := (zv2 q).1 h1
  refine ⟨hs, hcn, h2, h3, h4, ?_⟩
  by_cases h5 : covA q.resource (getH q.holds p) a = true
  · rw [if_pos h5]; exact .inl ⟨h5, rfl⟩
  rw [if_neg h5] at h ⊢
  rw [Bool.not_eq_true] at h5
  by_cases h6 : getH q.holds p ≠ Amount.zero
  · rw [if_pos h6]; exact .inr (.inl ⟨h5, h6, rfl, hs.claimC h3 h4 h5 h6⟩)
  rw [if_neg h6] at h ⊢
  by_cases h7 : 8 ≤ q.holds.length + q.waits.length
  · rw [if_pos h7] at h; exact absurd h (by decide)
  rw [if_neg h7]
  have h6 := Decidable.not_not.1 h6
  exact .inr (.inr ⟨h5, h6, by omega, rfl, hs.claimW h3 h2 h4 h6 (by omega)⟩)
theorem zbu5 {q : Queue} {p : Proc} (h : (zG6 q p).2.2 = 0) : SoundP q ∧ canQ q = false ∧ (zD3 q p).2 = true ∧ zG6 q p = zC7 (zaa3 q p) ∧ SoundP (zaa3 q p) := by
  unfold zG6 at h ⊢
  by_cases h1 : zd8 q = false
  · rw [if_pos h1] at h; exact absurd h (by decide)
  rw [if_neg h1] at h ⊢
  by_cases h2 : (zD3 q p).2 = false
  · rw [if_pos h2] at h; exact absurd h (by decide)
  rw [if_neg h2]
  rw [Bool.not_eq_false] at h1 h2
  obtain ⟨hs, hcn⟩ := (zv2 q).1 h1
  exact ⟨hs, hcn, h2, rfl, hs.cancel p⟩
theorem zbg3 {q : Queue} {p : Proc} {a : Amount} (h : (zB5 q p a).2.2 = 0) : SoundP q ∧ canQ q = false ∧ getH q.holds p ≠ Amount.zero ∧ (zD3 q p).2 = false ∧ covA q.resource (getH q.holds p) a = true ∧
    ((getH q.holds p = a ∧ zB5 q p a = (q, [], 0)) ∨ (getH q.holds p ≠ a ∧ zB5 q p a = zC7 (zah7 q p a) ∧ SoundP (zah7 q p a))) := by
  unfold zB5 at h ⊢
  by_cases h1 : zd8 q = false
  · rw [if_pos h1] at h; exact absurd h (by decide)
  rw [if_neg h1] at h ⊢
  by_cases h2 : getH q.holds p = Amount.zero
  · rw [if_pos h2] at h; exact absurd h (by decide)
  rw [if_neg h2] at h ⊢
  by_cases h3 : (zD3 q p).2 = true
  · rw [if_pos h3] at h; exact absurd h (by decide)
  rw [if_neg h3] at h ⊢
  by_cases h4 : covA q.resource (getH q.holds p) a = false
  · rw [if_pos h4] at h; exact absurd h (by decide)
  rw [if_neg h4] at h ⊢
  rw [Bool.not_eq_false] at h1 h4
  rw [Bool.not_eq_true] at h3
  obtain ⟨hs, hcn⟩ := (zv2 q).1 h1
  refine ⟨hs, hcn, h2, h3, h4, ?_⟩
  by_cases h5 : getH q.holds p = a
  · rw [if_pos h5]; exact .inl ⟨h5, rfl⟩
  · rw [if_neg h5]; exact .inr ⟨h5, rfl, hs.lower h3 h2 h4⟩
end Ab
end Go.Proofs.YtfjeceicgfdmjaaGreatDoor
namespace Go.Proofs.YtfjeceicgfdmjaaGreatDoor
namespace Ab
set_option linter.unusedVariables false
set_option linter.unusedSimpArgs false
def ordQ (q : Queue) : List Wait := q.converts ++ q.waits
theorem zbS7 {r : Resource} {l : List Hold} (h : zv3 r l = true) (p : Proc) : getH l p ≠ Amount.zero ↔ p ∈ l.map (·.proc) := by
 constructor
 ·intro hp; exact List.mem_map.2 ⟨_, zas3 hp, rfl⟩
 ·intro hp
  obtain ⟨x, hx, rfl⟩ := List.mem_map.1 hp
  rw [zbq7 (zaI9 h) hx]
  exact zG5 (((zL1 _ _).1 h).2.2.1.each x hx).2
theorem zbS8 (q : Queue) (p : Proc) : hasQ q p = true ↔ (∃ w ∈ ordQ q, w.proc = p) ∨ getH q.holds p ≠ Amount.zero := by
 unfold hasQ
 rw [Bool.or_eq_true, zaY2, Bool.not_eq_true', zL2]
 rfl
theorem zbX1 {q : Queue} (h : SoundP q) (p : Proc) : hasQ q p = true ↔ p ∈ (ordQ q).map (·.proc) ∨ p ∈ q.holds.map (·.proc) := by
 simp only [zbS8, zbS7 h.hv, List.mem_map]
structure Later (q x : Queue) (p : Proc) (g : List Hold) : Prop where
 hold : ∀ o, o ≠ p → getH x.holds o = getH q.holds o
 ord : ((ordQ x).map (·.proc)).filter (fun o => !decide (o = p)) = (ordQ q).map (·.proc)
 len : g.length ≤ 1
end Ab
end Go.Proofs.YtfjeceicgfdmjaaGreatDoor
namespace Go.Proofs.YtfjeceicgfdmjaaGreatDoor
namespace Ab
set_option linter.unusedVariables false
set_option linter.unusedSimpArgs false
theorem zad9 : ∀ {a b : List Proc}, a.Pairwise ltP → b.Pairwise ltP → (∀ x, x ∈ a ↔ x ∈ b) → a = b
 | [], b, _, _, h => by
  cases b with
  | nil => rfl
  | cons y b => exact absurd ((h y).2 (.head _)) (by simp)
 | x :: a, [], _, _, h => absurd ((h x).1 (.head _)) (by simp)
 | x :: a, y :: b, ha, hb, h => by
  rw [List.pairwise_cons] at ha hb
  have hxy : x = y := by
   rcases List.mem_cons.1 ((h x).1 (.head _)) with e | hx
   ·exact e
   ·rcases List.mem_cons.1 ((h y).2 (.head _)) with e | hy
    ·exact e.symm
    ·exact absurd (zaa8 (ha.1 y hy) (hb.1 x hx)) (zad3 x)
  subst hxy
  congr 1
  refine zad9 ha.2 hb.2 fun z => ?_
  have hz := h z
  constructor
  ·intro hm
   rcases List.mem_cons.1 (hz.1 (.tail _ hm)) with e | hm'
   ·subst e; exact absurd (ha.1 z hm) (zad3 z)
   ·exact hm'
  ·intro hm
   rcases List.mem_cons.1 (hz.2 (.tail _ hm)) with e | hm'
   ·subst e; exact absurd (hb.1 z hm) (zad3 z)
   ·exact hm'
def zY2 (p : Proc) : List Proc → List Proc
 | [] => [p]
 | x :: t => if p = x then x :: t else if ltP p x then p :: x :: t else x :: zY2 p t
theorem zW1 {p x : Proc} : ∀ {l : List Proc}, x ∈ zY2 p l ↔ x = p ∨ x ∈ l
 | [] => by simp [zY2]
 | y :: t => by
  simp only [zY2]
  split
  ·rename_i h; subst h
   simp only [List.mem_cons]
   constructor
   ·intro h; exact .inr h
   ·rintro (rfl | h)
    ·exact .inl rfl
    ·exact h
  ·split
   ·simp only [List.mem_cons]
   ·simp only [List.mem_cons, zW1 (l := t)]
    constructor
    ·rintro (h | h | h)
     ·exact .inr (.inl h)
     ·exact .inl h
     ·exact .inr (.inr h)
    ·rintro (h | h | h)
     ·exact .inr (.inl h)
     ·exact .inl h
     ·exact .inr (.inr h)
theorem zW2 {p : Proc} : ∀ {l : List Proc}, l.Pairwise ltP → (zY2 p l).Pairwise ltP
 | [], _ => by simp [zY2]
 | y :: t, h => by
  simp only [zY2]
  split
  ·exact h
  ·rename_i hne
   rw [List.pairwise_cons] at h
   split
   ·rename_i hlt
    rw [List.pairwise_cons]
    refine ⟨fun x hx => ?_, List.pairwise_cons.2 h⟩
    rcases List.mem_cons.1 hx with rfl | hx
    ·exact hlt
    ·exact zaa8 hlt (h.1 x hx)
   ·rename_i hlt
    rw [List.pairwise_cons]
    refine ⟨fun x hx => ?_, zW2 h.2⟩
    rcases zW1.1 hx with rfl | hx
    ·rcases zV8 hne with h1 | h1
     ·exact absurd h1 hlt
     ·exact h1
    ·exact h.1 x hx
theorem zbu6 {p : Proc} : ∀ {l : List Proc}, l.Pairwise ltP → p ∈ l → zY2 p l = l := fun hl hp =>
 zad9 (zW2 hl) hl fun x => by
  rw [zW1]
  constructor
  ·rintro (rfl | h)
   ·exact hp
   ·exact h
  ·exact .inr
def zax7 (l : List Proc) : List Proc := l.foldl (fun s p => zY2 p s) []
theorem zas6 : ∀ (l s : List Proc), s.Pairwise ltP → (l.foldl (fun s p => zY2 p s) s).Pairwise ltP ∧ ∀ x, x ∈ l.foldl (fun s p => zY2 p s) s ↔ x ∈ s ∨ x ∈ l
 | [], s, h => ⟨h, fun x => by simp⟩
 | p :: l, s, h => by
  obtain ⟨h1, h2⟩ := zas6 l (zY2 p s) (zW2 h)
  refine ⟨h1, fun x => ?_⟩
  rw [List.foldl_cons, h2, zW1, List.mem_cons]
  constructor
  ·rintro ((h | h) | h)
   ·exact .inr (.inl h)
   ·exact .inl h
   ·exact .inr (.inr h)
  ·rintro (h | h | h)
   ·exact .inl (.inr h)
   ·exact .inl (.inl h)
   ·exact .inr h
theorem zaJ0 (l : List Proc) : (zax7 l).Pairwise ltP := (zas6 l [] .nil).1
theorem zau9 {l : List Proc} {x : Proc} : x ∈ zax7 l ↔ x ∈ l := by
 have := (zas6 l [] .nil).2 x
 unfold zax7
 simpa using this
theorem zbk8 {l s : List Proc} (h : s.Pairwise ltP) (hm : ∀ x, x ∈ s ↔ x ∈ l) : s = zax7 l := zad9 h (zaJ0 l) fun x => by rw [hm, zau9]
theorem zaJ1 {l : List Proc} (h : l.Pairwise ltP) : l.Nodup := h.imp fun hab e => by subst e; exact zad3 _ hab
theorem zbB7 (l : List Proc) : (zax7 l).length ≤ l.length := List.Nodup.length_le_of_subset (zaJ1 (zaJ0 l)) fun x hx => zau9.1 hx
def dst : List Proc → List Proc
 | [] => []
 | [x] => [x]
 | x :: y :: t => if x = y then dst (y :: t) else x :: dst (y :: t)
theorem zaQ4 : ∀ {l : List Proc} {x : Proc}, x ∈ dst l ↔ x ∈ l
 | [], x => by simp [dst]
 | [y], x => by simp [dst]
 | y :: z :: t, x => by
  simp only [dst]
  split
  ·rename_i h; subst h
   rw [zaQ4 (l := y :: t)]
   simp
  ·rw [List.mem_cons, zaQ4 (l := z :: t), List.mem_cons (b := y)]
theorem zbk9 : ∀ {l : List Proc}, l.Pairwise (fun x y => ¬ ltP y x) → (dst l).Pairwise ltP
 | [], _ => by simp [dst]
 | [x], _ => by simp [dst]
 | x :: y :: t, h => by
  simp only [dst]
  rw [List.pairwise_cons] at h
  split
  ·exact zbk9 h.2
  ·rename_i hne
   rw [List.pairwise_cons]
   refine ⟨fun z hz => ?_, zbk9 h.2⟩
   have hz := zaQ4.1 hz
   by_cases e : x = z
   ·subst e
    rcases List.mem_cons.1 hz with e | hz'
    ·exact absurd e hne
    ·have h2 := (List.pairwise_cons.1 h.2).1 x hz'
     rcases zV8 hne with h3 | h3
     ·exact absurd h3 h2
     ·exact absurd h3 (h.1 y (.head _))
   ·rcases zV8 e with h1 | h1
    ·exact h1
    ·exact absurd h1 (h.1 z hz)
theorem zbB8 {l s : List Proc} (h : s.Pairwise fun x y => ¬ ltP y x) (hm : ∀ x, x ∈ s ↔ x ∈ l) : dst s = zax7 l := zbk8 (zbk9 h) fun x => by rw [zaQ4, hm]
theorem zbr2 : ∀ (l : List Proc) (x y : Proc), dst (l ++ [x, y]) = if x = y then dst (l ++ [x]) else dst (l ++ [x]) ++ [y]
 | [], x, y => by
  by_cases h : x = y <;> simp [dst, h]
 | [a], x, y => by
  by_cases h : x = y
  ·subst h; by_cases h2 : a = x <;> simp [dst, h2]
  ·by_cases h2 : a = x
   ·subst h2; simp [dst, h]
   ·simp [dst, h, h2]
 | a :: b :: l, x, y => by
  have ih := zbr2 (b :: l) x y
  simp only [List.cons_append, dst] at ih ⊢
  rw [ih]
  by_cases h : x = y <;> by_cases h2 : a = b <;> simp [h, h2]
theorem zbu7 (x y : Proc) : ¬ ltP y x ∨ ¬ ltP x y := by
 by_cases h : ltP y x
 ·exact .inr (zaH8 h)
 ·exact .inl h
theorem zbl0 (l : List Proc) : (l.mergeSort fun x y => !decide (ltP y x)).Pairwise fun x y => ¬ ltP y x := by
 have := List.pairwise_mergeSort (le := fun x y => !decide (ltP y x)) (fun a b c h1 h2 => by
  simp only [Bool.not_eq_true', decide_eq_false_iff_not] at h1 h2 ⊢
  intro h3
  by_cases e : b = a
  ·subst e; exact h2 h3
  ·rcases zV8 e with h4 | h4
   ·exact h1 h4
   ·by_cases e2 : b = c
    ·subst e2; exact h1 h3
    ·rcases zV8 e2 with h5 | h5
     ·exact zaH8 (zaa8 h3 h4) h5
     ·exact h2 h5) (fun a b => by
  rcases zbu7 a b with h | h
  ·simp [h]
  ·simp [h]) l
 exact this.imp fun h => by simpa using h
end Ab
end Go.Proofs.YtfjeceicgfdmjaaGreatDoor
