/-
  What a claim, a withdrawal, a lowering, a removal make of a queue; that the queue stays sound.
-/
import Derived.Test.YtfjeceicgfdmjaaGreatDoorQueH
namespace Go.Proofs.YtfjeceicgfdmjaaGreatDoor
namespace Ab
set_option linter.unusedVariables false
set_option linter.unusedSimpArgs false
theorem zaT3 (g : Int) : 0 ≤ zf7 g ∧ zf7 g ≤ 1073741824 := by
  unfold zf7
  by_cases h : g < 0 ∨ 1073741824 ≤ g
  · rw [if_pos (by simpa using h)]; decide
  · rw [if_neg (by simpa using h), zf2 (by omega) (by omega)]; omega
def zw8 (q : Queue) : Queue × List Hold × Int := ({ advS q with gen := zf7 q.gen }, advG q, 0)
theorem SoundP.gen' {q : Queue} (h : SoundP q) (g : Int) (h1 : 0 ≤ g) (h2 : g ≤ 1073741824) : SoundP { q with gen := g } := ⟨h.res, h.hv, h.cl, h.cn, h.cg, h.wv, h.wl, h.wg, h1, h2⟩
theorem zaJ5 {q : Queue} (h : SoundP q) : zd5 (zw8 q).1 = true := by
  rw [zx7]
  exact ⟨h.adv.gen' _ (zaT3 _).1 (zaT3 _).2, by show canQ (advS q) = false; exact zbN8 q⟩
theorem zbm4 (q : Queue) (p : Proc) : (zV7 q p).2 = true ↔ ∃ w ∈ q.converts ++ q.waits, w.proc = p := by
  unfold zV7 zaz5
  cases h : (q.converts ++ q.waits).find? fun w => decide (w.proc = p) with
  | none =>
    rw [List.find?_eq_none] at h
    simp only [decide_eq_true_eq] at h
    constructor
    · intro h2; cases h2
    · rintro ⟨w, hw, e⟩; exact absurd e (h w hw)
  | some w =>
    have h1 := List.mem_of_find?_eq_some h
    have h2 := List.find?_some h
    exact ⟨fun _ => ⟨w, h1, by simpa using h2⟩, fun _ => rfl⟩
theorem zaT4 {q : Queue} {p : Proc} : (zV7 q p).2 = false ↔ ∀ w ∈ q.converts ++ q.waits, w.proc ≠ p := by
  rw [← Bool.not_eq_true, zbm4]
  constructor
  · exact fun h w hw e => h ⟨w, hw, e⟩
  · rintro h ⟨w, hw, e⟩; exact h w hw e
theorem zbx9 : ∀ a ∈ [(1 : Int), 2, 3, 4, 5], ∀ b ∈ [(1 : Int), 2, 3, 4, 5], supM a b ∈ [(1 : Int), 2, 3, 4, 5] ∧ covM (supM a b) a = true ∧ covM (supM a b) b = true := by decide
theorem zby0 {r : Resource} {a b : Amount} (ha : za9 r a = true) (hb : za9 r b = true) (hk : r.kind = 1) : zQ0 r a b = ⟨supM a.mode b.mode, 0⟩ := by
  unfold zQ0
  rw [zw0 ha, zw0 hb, (zU5 a).2 (zF5 ha), (zU5 b).2 (zF5 hb)]
  simp [hk, Amount.zero]
theorem zby1 {r : Resource} {a b : Amount} (ha : za9 r a = true) (hb : za9 r b = true) (hk : r.kind ≠ 1) : zQ0 r a b = ⟨0, if a.units < b.units then b.units else a.units⟩ := by
  unfold zQ0
  rw [zw0 ha, zw0 hb, (zU5 a).2 (zF5 ha), (zU5 b).2 (zF5 hb)]
  simp [hk, Amount.zero]
theorem zbq5 {r : Resource} {h a : Amount} (hh : za9 r h = true) (ha : za9 r a = true) (hc : covA r h a = false) :
    za9 r (zQ0 r h a) = true ∧ covA r (zQ0 r h a) h = true ∧ covA r (zQ0 r h a) a = true ∧ zQ0 r h a ≠ h := by
  have hf : za9 r (zQ0 r h a) = true ∧ covA r (zQ0 r h a) h = true ∧ covA r (zQ0 r h a) a = true := by
    have fh := (zH4 r h).1 hh
    have fa := (zH4 r a).1 ha
    by_cases hk : r.kind = 1
    · have m1 : h.mode ∈ [(1 : Int), 2, 3, 4, 5] := by simp; omega
      have m2 : a.mode ∈ [(1 : Int), 2, 3, 4, 5] := by simp; omega
      obtain ⟨s1, s2, s3⟩ := zbx9 _ m1 _ m2
      rw [zby0 hh ha hk]
      have hfit : za9 r ⟨supM h.mode a.mode, 0⟩ = true := by
        rw [zH4]; left
        simp at s1
        exact ⟨hk, by omega, by simp only; omega, by simp only; omega, rfl⟩
      refine ⟨hfit, ?_, ?_⟩
      · rw [zZ8]; exact ⟨zw0 hfit, zw0 hh, .inr ⟨zF5 hfit, zF5 hh, .inl ⟨hk, s2⟩⟩⟩
      · rw [zZ8]; exact ⟨zw0 hfit, zw0 ha, .inr ⟨zF5 hfit, zF5 ha, .inl ⟨hk, s3⟩⟩⟩
    · rw [zby1 hh ha hk]
      have hfit : za9 r ⟨0, if h.units < a.units then a.units else h.units⟩ = true := by
        rw [zH4]; right
        refine ⟨by omega, by omega, by omega, rfl, ?_, ?_⟩ <;> simp only <;> split <;> omega
      refine ⟨hfit, ?_, ?_⟩
      · rw [zZ8]; refine ⟨zw0 hfit, zw0 hh, .inr ⟨zF5 hfit, zF5 hh, .inr ⟨hk, ?_⟩⟩⟩
        simp only; split <;> omega
      · rw [zZ8]; refine ⟨zw0 hfit, zw0 ha, .inr ⟨zF5 hfit, zF5 ha, .inr ⟨hk, ?_⟩⟩⟩
        simp only; split <;> omega
  refine ⟨hf.1, hf.2.1, hf.2.2, fun e => ?_⟩
  have := hf.2.2
  rw [e, hc] at this; cases this
def claimC (q : Queue) (p : Proc) (a : Amount) : Queue := { q with converts := q.converts ++ [⟨p, zQ0 q.resource (getH q.holds p) a, 0, 0⟩] }
def claimW (q : Queue) (p : Proc) (a : Amount) (pr : Int) : Queue := { q with waits := zas7 q.waits ⟨p, a, pr, 0⟩ (zt4 q.waits ⟨p, a, pr, 0⟩ q.waits.length) }
def hasQ (q : Queue) (p : Proc) : Bool := (zV7 q p).2 || !zb9 (getH q.holds p)
def errQ (e : Int) : Queue × List Hold × Int := (Queue.zero, [], e)
def zat1 (p : Proc) (pr : Int) : Bool := zb3 p && (decide (0 ≤ pr) && decide (pr ≤ 7))
def zQ2 (q : Queue) (p : Proc) (a : Amount) (pr : Int) : Queue × List Hold × Int :=
  if zd5 q = false then errQ 2 else if zat1 p pr = false then errQ 1 else if za9 q.resource a = false then errQ 12 else if (zV7 q p).2 = true then errQ 14
  else if covA q.resource (getH q.holds p) a = true then (q, [], 0) else if getH q.holds p ≠ Amount.zero then zw8 (claimC q p a)
  else if 8 ≤ q.holds.length + q.waits.length then errQ 4 else zw8 (claimW q p a pr)
def zn2 (q : Queue) (p : Proc) : Queue × List Hold × Int :=
  if zd5 q = false then errQ 2 else if hasQ q p = false then errQ 10 else zw8 (del q p)
theorem SoundP.claimC {q : Queue} (h : SoundP q) {p : Proc} {a : Amount} (ha : za9 q.resource a = true) (hw : (zV7 q p).2 = false) (hc : covA q.resource (getH q.holds p) a = false) (hz : getH q.holds p ≠ Amount.zero) : SoundP (claimC q p a) := by
  have hv := (zZ7 _ _).1 h.hv
  have hfit : za9 q.resource (getH q.holds p) = true := (hv.2.2.1.each _ (zan8 hz)).2
  obtain ⟨j1, j2, j3, j4⟩ := zbq5 hfit ha hc
  rw [zaT4] at hw
  refine ⟨h.res, h.hv, ?_, ?_, fun w hww => ?_, h.wv, h.wl, h.wg, h.gen⟩
  ·
    have hn : ((q.converts ++ [(⟨p, zQ0 q.resource (getH q.holds p) a, 0, 0⟩ : Wait)]).map (·.proc)).Nodup := by
      rw [List.map_append, List.nodup_append]
      refine ⟨h.cn, by simp, fun x hx y hy => ?_⟩
      simp only [List.map_cons, List.map_nil, List.mem_singleton] at hy
      obtain ⟨c, hcc, rfl⟩ := List.mem_map.1 hx
      rw [hy]; exact hw c (List.mem_append_left _ hcc)
    have hs : ∀ x ∈ (q.converts ++ [(⟨p, zQ0 q.resource (getH q.holds p) a, 0, 0⟩ : Wait)]).map (·.proc), x ∈ q.holds.map (·.proc) := by
      intro x hx
      simp only [List.map_append, List.mem_append, List.map_cons, List.map_nil, List.mem_singleton] at hx
      rcases hx with hx | rfl
      · obtain ⟨c, hcc, rfl⟩ := List.mem_map.1 hx
        exact List.mem_map.2 ⟨_, zan8 (h.cg c hcc).1, rfl⟩
      · exact List.mem_map.2 ⟨_, zan8 hz, rfl⟩
    have := List.Nodup.length_le_of_subset hn hs
    have h8 := zM7 h.hv
    rw [List.length_map, List.length_map] at this
    show (q.converts ++ [(⟨p, zQ0 q.resource (getH q.holds p) a, 0, 0⟩ : Wait)]).length ≤ 8
    omega
  · show ((q.converts ++ [(⟨p, zQ0 q.resource (getH q.holds p) a, 0, 0⟩ : Wait)]).map (·.proc)).Nodup
    rw [List.map_append, List.nodup_append]
    refine ⟨h.cn, by simp, fun x hx y hy => ?_⟩
    simp only [List.map_cons, List.map_nil, List.mem_singleton] at hy
    obtain ⟨c, hcc, rfl⟩ := List.mem_map.1 hx
    rw [hy]; exact hw c (List.mem_append_left _ hcc)
  · rcases List.mem_append.1 hww with hww | hww
    · exact h.cg w hww
    · rw [List.mem_singleton] at hww; subst hww
      exact ⟨hz, j1, j2, j4, rfl, rfl⟩
theorem zba7 {r : Resource} {p : Proc} {a : Amount} {pr : Int} (ha : za9 r a = true) (hp : zat1 p pr = true) : zc3 ⟨p, a, pr, 0⟩ = true := by
  rw [zH4] at ha
  unfold zat1 at hp
  simp only [Bool.and_eq_true, decide_eq_true_eq] at hp
  rw [← zaz1]
  unfold zi7
  rw [zaR5, hp.1]
  unfold zB4 zi6
  simp
  omega
theorem zbT0 {q : Queue} (h : SoundP q) {p : Proc} {a : Amount} {pr : Int} (ha : za9 q.resource a = true) (hp : zat1 p pr = true) (hw : (zV7 q p).2 = false) (hl : q.waits.length < 8) :
    insS q.waits ⟨p, a, pr, 0⟩ = ((claimW q p a pr).waits, (zt4 q.waits ⟨p, a, pr, 0⟩ q.waits.length : Int), 0) := by
  unfold insS
  rw [if_neg (by rw [h.wv]; decide), if_neg (by rw [zba7 ha hp]; simp), if_neg ?_, if_neg (by omega)]
  · rfl
  · rw [zaT4] at hw
    exact zbx1.2 fun w hww => hw w (List.mem_append_right _ hww)
theorem SoundP.claimW {q : Queue} (h : SoundP q) {p : Proc} {a : Amount} {pr : Int} (ha : za9 q.resource a = true) (hp : zat1 p pr = true) (hw : (zV7 q p).2 = false) (hz : getH q.holds p = Amount.zero) (hl : q.holds.length + q.waits.length < 8) : SoundP (claimW q p a pr) := by
  rw [zaT4] at hw
  have hne : ∀ e ∈ q.waits, e.proc ≠ p := fun e he => hw e (List.mem_append_right _ he)
  have hv := zbq1 (w := ⟨p, a, pr, 0⟩) h.wv (zba7 ha hp) hne (by omega)
  refine ⟨h.res, h.hv, h.cl, h.cn, h.cg, hv, ?_, fun w hww => ?_, h.gen⟩
  · have hn := zap3 q.waits ⟨p, a, pr, 0⟩ q.waits.length
    simp only [Ab.claimW, zas7, List.length_append, List.length_cons, List.length_map, List.length_take, List.length_drop]
    omega
  · simp only [Ab.claimW, zas7, List.mem_append, List.mem_cons, List.mem_map] at hww
    rcases hww with hww | rfl | ⟨x, hx, rfl⟩
    · exact h.wg w (List.mem_of_mem_take hww)
    · exact ⟨ha, hz⟩
    · exact h.wg x (List.mem_of_mem_drop hx)
theorem zby2 {q : Queue} {p : Proc} {a : Amount} {pr : Int} (h : (zQ2 q p a pr).2.2 = 0) : SoundP q ∧ canQ q = false ∧ zat1 p pr = true ∧ za9 q.resource a = true ∧ (zV7 q p).2 = false ∧
    ((covA q.resource (getH q.holds p) a = true ∧ zQ2 q p a pr = (q, [], 0)) ∨
     (covA q.resource (getH q.holds p) a = false ∧ getH q.holds p ≠ Amount.zero ∧ zQ2 q p a pr = zw8 (claimC q p a) ∧ SoundP (claimC q p a)) ∨
     (covA q.resource (getH q.holds p) a = false ∧ getH q.holds p = Amount.zero ∧ q.holds.length + q.waits.length < 8 ∧ zQ2 q p a pr = zw8 (claimW q p a pr) ∧ SoundP (claimW q p a pr))) := by
  unfold zQ2 at h ⊢
  by_cases h1 : zd5 q = false
  · rw [if_pos h1] at h; exact absurd h (by decide)
  rw [if_neg h1] at h ⊢
  by_cases h2 : zat1 p pr = false
  · rw [if_pos h2] at h; exact absurd h (by decide)
  rw [if_neg h2] at h ⊢
  by_cases h3 : za9 q.resource a = false
  · rw [if_pos h3] at h; exact absurd h (by decide)
  rw [if_neg h3] at h ⊢
  by_cases h4 : (zV7 q p).2 = true
  · rw [if_pos h4] at h; exact absurd h (by decide)
  rw [if_neg h4] at h ⊢
  rw [Bool.not_eq_false] at h1 h2 h3
  rw [Bool.not_eq_true] at h4
  obtain ⟨hs, hcn⟩ := (zx7 q).1 h1
  refine ⟨hs, hcn, h2, h3, h4, ?_⟩
  by_cases h5 : covA q.resource (getH q.holds p) a = true
  · rw [if_pos h5]; exact .inl ⟨h5, rfl⟩
  rw [if_neg h5] at h ⊢
  rw [Bool.not_eq_true] at h5
  by_cases h6 : getH q.holds p ≠ Amount.zero
  · rw [if_pos h6]; exact .inr (.inl ⟨h5, h6, rfl, hs.claimC h3 h4 h5 h6⟩)
  rw [if_neg h6] at h ⊢
  by_cases h7 : 8 ≤ q.holds.length + q.waits.length
  · rw [if_pos h7] at h; exact absurd h (by decide)
  rw [if_neg h7]
  have h6 := Decidable.not_not.1 h6
  exact .inr (.inr ⟨h5, h6, by omega, rfl, hs.claimW h3 h2 h4 h6 (by omega)⟩)
theorem zaT5 {q : Queue} {p : Proc} (h : (zn2 q p).2.2 = 0) : SoundP q ∧ canQ q = false ∧ hasQ q p = true ∧ zn2 q p = zw8 (del q p) ∧ SoundP (del q p) := by
  unfold zn2 at h ⊢
  by_cases h1 : zd5 q = false
  · rw [if_pos h1] at h; exact absurd h (by decide)
  rw [if_neg h1] at h ⊢
  by_cases h2 : hasQ q p = false
  · rw [if_pos h2] at h; exact absurd h (by decide)
  rw [if_neg h2]
  rw [Bool.not_eq_false] at h1 h2
  obtain ⟨hs, hcn⟩ := (zx7 q).1 h1
  exact ⟨hs, hcn, h2, rfl, hs.del p⟩
end Ab
end Go.Proofs.YtfjeceicgfdmjaaGreatDoor
namespace Go.Proofs.YtfjeceicgfdmjaaGreatDoor
namespace Ab
set_option linter.unusedVariables false
set_option linter.unusedSimpArgs false
def ordQ (q : Queue) : List Wait := q.converts ++ q.waits
theorem zbu0 {q : Queue} (h : canQ q = true) : ordQ q = (zp8 q).1 :: ordQ (popQ q) ∧ (popQ q).holds = setL q.holds (zp8 q).1.proc (zp8 q).1.amount := by
 cases zbq3 h with
 | con w cs he hd hr hp => rw [hp, hd]; unfold ordQ; rw [he]; exact ⟨rfl, rfl⟩
 | wait w ws hc he hd hr hp => rw [hp, hd]; unfold ordQ; rw [hc, he]; exact ⟨rfl, rfl⟩
theorem zbO0 {q : Queue} (h : canQ q = true) : zaf6 q.resource q.holds (zp8 q).1.proc (zp8 q).1.amount = true := by
 unfold canQ at h; rw [Bool.and_eq_true] at h; exact h.2
theorem zbq6 {q : Queue} (hs : SoundP q) (p : Proc) : covA q.resource (getH (advS q).holds p) (getH q.holds p) = true := by
 have := zaK9 (P := fun x => SoundP x ∧ x.resource = q.resource ∧ covA q.resource (getH x.holds p) (getH q.holds p) = true) (fun x hc ⟨h1, h2, h3⟩ => by
  refine ⟨h1.pop hc, by rw [(zbf5 x).2]; exact h2, ?_⟩
  obtain ⟨e1, e2⟩ := zbu0 hc
  rw [e2]
  by_cases hp : p = (zp8 x).1.proc
  ·subst hp
   rw [zan7]
   refine zbq4 ?_ h3
   cases zbq3 hc with
   | con w cs he hd hr hp => rw [hd, ← h2]; exact (h1.cg w (by rw [he]; exact .head _)).2.2.1
   | wait w ws hcc he hd hr hp =>
    rw [hd, (h1.wg w (by rw [he]; exact .head _)).2, ← h2]
    have hf := (zai4 hr).2.2.1
    exact zbx8 (zw0 hf) (zbl4 hf)
  ·rw [zQ1 hp]; exact h3) q ⟨hs, rfl, zba6 (zba5 hs.hv p)⟩
 exact this.2.2
theorem zbO1 {r : Resource} {l : List Hold} (h : zw5 r l = true) (p : Proc) : getH l p ≠ Amount.zero ↔ p ∈ l.map (·.proc) := by
 constructor
 ·intro hp; exact List.mem_map.2 ⟨_, zan8 hp, rfl⟩
 ·intro hp
  obtain ⟨x, hx, rfl⟩ := List.mem_map.1 hp
  rw [zbm2 (zba4 h) hx]
  exact zF5 (((zZ7 _ _).1 h).2.2.1.each x hx).2
theorem zao0 (q : Queue) (p : Proc) : hasQ q p = true ↔ (∃ w ∈ ordQ q, w.proc = p) ∨ getH q.holds p ≠ Amount.zero := by
 unfold hasQ
 rw [Bool.or_eq_true, zbm4, Bool.not_eq_true', zU5]
 rfl
theorem zbT1 {q : Queue} (h : SoundP q) (p : Proc) : hasQ q p = true ↔ p ∈ (ordQ q).map (·.proc) ∨ p ∈ q.holds.map (·.proc) := by
 simp only [zao0, zbO1 h.hv, List.mem_map]
theorem zbT2 {q : Queue} (hc : canQ q = true) (p : Proc) : hasQ (popQ q) p = hasQ q p := by
 rw [Bool.eq_iff_iff, zao0, zao0]
 obtain ⟨h1, h2⟩ := zbu0 hc
 rw [h1, h2]
 have hz := zF5 (zai4 (zbO0 hc)).2.2.1
 by_cases hp : p = (zp8 q).1.proc
 ·subst hp
  rw [zan7]
  exact ⟨fun _ => .inl ⟨_, .head _, rfl⟩, fun _ => .inr hz⟩
 ·rw [zQ1 hp]
  constructor
  ·rintro (⟨w, hw, e⟩ | h)
   ·exact .inl ⟨w, .tail _ hw, e⟩
   ·exact .inr h
  ·rintro (⟨w, hw, e⟩ | h)
   ·rcases List.mem_cons.1 hw with rfl | hw
    ·exact absurd e.symm hp
    ·exact .inl ⟨w, hw, e⟩
   ·exact .inr h
theorem zbT3 (q : Queue) (p : Proc) : hasQ (advS q) p = hasQ q p := zaK9 (P := fun x => hasQ x p = hasQ q p) (fun x hc h => by rw [zbT2 hc]; exact h) q rfl
theorem zbT4 (q : Queue) (g : Int) (p : Proc) : hasQ { q with gen := g } p = hasQ q p := rfl
theorem zao1 {q : Queue} {p : Proc} {w : Wait} : w ∈ ordQ (del q p) ↔ w ∈ ordQ q ∧ w.proc ≠ p := by
 unfold ordQ del
 simp only [List.mem_append, zbf3]
 constructor
 ·rintro (⟨a, b⟩ | ⟨a, b⟩)
  ·exact ⟨.inl a, b⟩
  ·exact ⟨.inr a, b⟩
 ·rintro ⟨a | a, b⟩
  ·exact .inl ⟨a, b⟩
  ·exact .inr ⟨a, b⟩
theorem zbT5 (q : Queue) (p x : Proc) : hasQ (del q p) x = true ↔ hasQ q x = true ∧ x ≠ p := by
 rw [zao0, zao0]
 by_cases hx : x = p
 ·subst hx
  constructor
  ·rintro (⟨w, hw, e⟩ | h)
   ·exact absurd e (zao1.1 hw).2
   ·exact absurd (zag1 _ _) h
  ·rintro ⟨_, h⟩; exact absurd rfl h
 ·have e1 : getH (del q p).holds x = getH q.holds x := zB7 hx _
  rw [e1]
  constructor
  ·rintro (⟨w, hw, e⟩ | h)
   ·exact ⟨.inl ⟨w, (zao1.1 hw).1, e⟩, hx⟩
   ·exact ⟨.inr h, hx⟩
  ·rintro ⟨⟨w, hw, e⟩ | h, _⟩
   ·exact .inl ⟨w, zao1.2 ⟨hw, by rw [e]; exact hx⟩, e⟩
   ·exact .inr h
def remN (q : Queue) (p : Proc) : Queue := if (zn2 q p).2.2 = 0 then (zn2 q p).1 else q
theorem zaz7 (q : Queue) : (zw8 q).1 = { advS q with gen := zf7 q.gen } := rfl
theorem zav8 {q : Queue} (h : zd5 q = true) {p : Proc} (hp : hasQ q p = true) : zn2 q p = zw8 (del q p) := by
 unfold zn2; rw [if_neg (by rw [h]; decide), if_neg (by rw [hp]; decide)]
theorem zad0 {q : Queue} (h : zd5 q = true) {p : Proc} (hp : hasQ q p = false) : zn2 q p = errQ 10 := by
 unfold zn2; rw [if_neg (by rw [h]; decide), if_pos hp]
theorem zbf6 {q : Queue} (h : zd5 q = true) (p : Proc) : zd5 (remN q p) = true := by
 unfold remN
 split
 ·rename_i h0
  obtain ⟨_, _, _, e, hs⟩ := zaT5 h0
  rw [e]; exact zaJ5 hs
 ·exact h
theorem zbm5 {q : Queue} (h : zd5 q = true) {p x : Proc} (hx : x ≠ p) : covA q.resource (getH (remN q p).holds x) (getH q.holds x) = true ∧ (remN q p).resource = q.resource := by
 obtain ⟨hs, hc⟩ := (zx7 q).1 h
 unfold remN
 cases hp : hasQ q p with
 | true =>
  rw [zav8 h hp, if_pos (show (zw8 (del q p)).2.2 = 0 from rfl), zaz7]
  have h1 := zbq6 (hs.del p) x
  have h2 : getH (del q p).holds x = getH q.holds x := zB7 hx _
  rw [h2] at h1
  exact ⟨h1, (zaL0 (del q p)).2⟩
 | false =>
  rw [zad0 h hp, if_neg (by decide)]
  exact ⟨zba6 (zba5 hs.hv x), rfl⟩
theorem zbO2 {q : Queue} (h : zd5 q = true) (p x : Proc) : hasQ (remN q p) x = true ↔ hasQ q x = true ∧ x ≠ p := by
 unfold remN
 cases hp : hasQ q p with
 | true =>
  rw [zav8 h hp, if_pos (show (zw8 (del q p)).2.2 = 0 from rfl), zaz7, zbT4, zbT3, zbT5]
 | false =>
  rw [zad0 h hp, if_neg (by decide)]
  constructor
  ·intro hx; exact ⟨hx, fun e => by rw [e, hp] at hx; cases hx⟩
  ·exact And.left
structure Later (q x : Queue) (p : Proc) (g : List Hold) : Prop where
 hold : ∀ o, o ≠ p → getH x.holds o = getH q.holds o
 ord : ((ordQ x).map (·.proc)).filter (fun o => !decide (o = p)) = (ordQ q).map (·.proc)
 len : g.length ≤ 1
end Ab
end Go.Proofs.YtfjeceicgfdmjaaGreatDoor
namespace Go.Proofs.YtfjeceicgfdmjaaGreatDoor
namespace Ab
set_option linter.unusedVariables false
set_option linter.unusedSimpArgs false
theorem zZ9 : ∀ {a b : List Proc}, a.Pairwise ltP → b.Pairwise ltP → (∀ x, x ∈ a ↔ x ∈ b) → a = b
 | [], b, _, _, h => by
  cases b with
  | nil => rfl
  | cons y b => exact absurd ((h y).2 (.head _)) (by simp)
 | x :: a, [], _, _, h => absurd ((h x).1 (.head _)) (by simp)
 | x :: a, y :: b, ha, hb, h => by
  rw [List.pairwise_cons] at ha hb
  have hxy : x = y := by
   rcases List.mem_cons.1 ((h x).1 (.head _)) with e | hx
   ·exact e
   ·rcases List.mem_cons.1 ((h y).2 (.head _)) with e | hy
    ·exact e.symm
    ·exact absurd (zaf3 (ha.1 y hy) (hb.1 x hx)) (zZ0 x)
  subst hxy
  congr 1
  refine zZ9 ha.2 hb.2 fun z => ?_
  have hz := h z
  constructor
  ·intro hm
   rcases List.mem_cons.1 (hz.1 (.tail _ hm)) with e | hm'
   ·subst e; exact absurd (ha.1 z hm) (zZ0 z)
   ·exact hm'
  ·intro hm
   rcases List.mem_cons.1 (hz.2 (.tail _ hm)) with e | hm'
   ·subst e; exact absurd (hb.1 z hm) (zZ0 z)
   ·exact hm'
def zU6 (p : Proc) : List Proc → List Proc
 | [] => [p]
 | x :: t => if p = x then x :: t else if ltP p x then p :: x :: t else x :: zU6 p t
theorem zS2 {p x : Proc} : ∀ {l : List Proc}, x ∈ zU6 p l ↔ x = p ∨ x ∈ l
 | [] => by simp [zU6]
 | y :: t => by
  simp only [zU6]
  split
  ·rename_i h; subst h
   simp only [List.mem_cons]
   constructor
   ·intro h; exact .inr h
   ·rintro (rfl | h)
    ·exact .inl rfl
    ·exact h
  ·split
   ·simp only [List.mem_cons]
   ·simp only [List.mem_cons, zS2 (l := t)]
    constructor
    ·rintro (h | h | h)
     ·exact .inr (.inl h)
     ·exact .inl h
     ·exact .inr (.inr h)
    ·rintro (h | h | h)
     ·exact .inr (.inl h)
     ·exact .inl h
     ·exact .inr (.inr h)
theorem zS3 {p : Proc} : ∀ {l : List Proc}, l.Pairwise ltP → (zU6 p l).Pairwise ltP
 | [], _ => by simp [zU6]
 | y :: t, h => by
  simp only [zU6]
  split
  ·exact h
  ·rename_i hne
   rw [List.pairwise_cons] at h
   split
   ·rename_i hlt
    rw [List.pairwise_cons]
    refine ⟨fun x hx => ?_, List.pairwise_cons.2 h⟩
    rcases List.mem_cons.1 hx with rfl | hx
    ·exact hlt
    ·exact zaf3 hlt (h.1 x hx)
   ·rename_i hlt
    rw [List.pairwise_cons]
    refine ⟨fun x hx => ?_, zS3 h.2⟩
    rcases zS2.1 hx with rfl | hx
    ·rcases zW7 hne with h1 | h1
     ·exact absurd h1 hlt
     ·exact h1
    ·exact h.1 x hx
theorem zbq7 {p : Proc} : ∀ {l : List Proc}, l.Pairwise ltP → p ∈ l → zU6 p l = l := fun hl hp =>
 zZ9 (zS3 hl) hl fun x => by
  rw [zS2]
  constructor
  ·rintro (rfl | h)
   ·exact hp
   ·exact h
  ·exact .inr
def zat2 (l : List Proc) : List Proc := l.foldl (fun s p => zU6 p s) []
theorem zao2 : ∀ (l s : List Proc), s.Pairwise ltP → (l.foldl (fun s p => zU6 p s) s).Pairwise ltP ∧ ∀ x, x ∈ l.foldl (fun s p => zU6 p s) s ↔ x ∈ s ∨ x ∈ l
 | [], s, h => ⟨h, fun x => by simp⟩
 | p :: l, s, h => by
  obtain ⟨h1, h2⟩ := zao2 l (zU6 p s) (zS3 h)
  refine ⟨h1, fun x => ?_⟩
  rw [List.foldl_cons, h2, zS2, List.mem_cons]
  constructor
  ·rintro ((h | h) | h)
   ·exact .inr (.inl h)
   ·exact .inl h
   ·exact .inr (.inr h)
  ·rintro (h | h | h)
   ·exact .inl (.inr h)
   ·exact .inl (.inl h)
   ·exact .inr h
theorem zaE1 (l : List Proc) : (zat2 l).Pairwise ltP := (zao2 l [] .nil).1
theorem zap6 {l : List Proc} {x : Proc} : x ∈ zat2 l ↔ x ∈ l := by
 have := (zao2 l [] .nil).2 x
 unfold zat2
 simpa using this
theorem zbf7 {l s : List Proc} (h : s.Pairwise ltP) (hm : ∀ x, x ∈ s ↔ x ∈ l) : s = zat2 l := zZ9 h (zaE1 l) fun x => by rw [hm, zap6]
theorem zaE2 {l : List Proc} (h : l.Pairwise ltP) : l.Nodup := h.imp fun hab e => by subst e; exact zZ0 _ hab
theorem zba8 (l : List Proc) : (zat2 l).length ≤ l.length := List.Nodup.length_le_of_subset (zaE2 (zaE1 l)) fun x hx => zap6.1 hx
def dst : List Proc → List Proc
 | [] => []
 | [x] => [x]
 | x :: y :: t => if x = y then dst (y :: t) else x :: dst (y :: t)
theorem zaL1 : ∀ {l : List Proc} {x : Proc}, x ∈ dst l ↔ x ∈ l
 | [], x => by simp [dst]
 | [y], x => by simp [dst]
 | y :: z :: t, x => by
  simp only [dst]
  split
  ·rename_i h; subst h
   rw [zaL1 (l := y :: t)]
   simp
  ·rw [List.mem_cons, zaL1 (l := z :: t), List.mem_cons (b := y)]
theorem zbf8 : ∀ {l : List Proc}, l.Pairwise (fun x y => ¬ ltP y x) → (dst l).Pairwise ltP
 | [], _ => by simp [dst]
 | [x], _ => by simp [dst]
 | x :: y :: t, h => by
  simp only [dst]
  rw [List.pairwise_cons] at h
  split
  ·exact zbf8 h.2
  ·rename_i hne
   rw [List.pairwise_cons]
   refine ⟨fun z hz => ?_, zbf8 h.2⟩
   have hz := zaL1.1 hz
   by_cases e : x = z
   ·subst e
    rcases List.mem_cons.1 hz with e | hz'
    ·exact absurd e hne
    ·have h2 := (List.pairwise_cons.1 h.2).1 x hz'
     rcases zW7 hne with h3 | h3
     ·exact absurd h3 h2
     ·exact absurd h3 (h.1 y (.head _))
   ·rcases zW7 e with h1 | h1
    ·exact h1
    ·exact absurd h1 (h.1 z hz)
theorem zby3 {l s : List Proc} (h : s.Pairwise fun x y => ¬ ltP y x) (hm : ∀ x, x ∈ s ↔ x ∈ l) : dst s = zat2 l := zbf7 (zbf8 h) fun x => by rw [zaL1, hm]
theorem zbm6 : ∀ (l : List Proc) (x y : Proc), dst (l ++ [x, y]) = if x = y then dst (l ++ [x]) else dst (l ++ [x]) ++ [y]
 | [], x, y => by
  by_cases h : x = y <;> simp [dst, h]
 | [a], x, y => by
  by_cases h : x = y
  ·subst h; by_cases h2 : a = x <;> simp [dst, h2]
  ·by_cases h2 : a = x
   ·subst h2; simp [dst, h]
   ·simp [dst, h, h2]
 | a :: b :: l, x, y => by
  have ih := zbm6 (b :: l) x y
  simp only [List.cons_append, dst] at ih ⊢
  rw [ih]
  by_cases h : x = y <;> by_cases h2 : a = b <;> simp [h, h2]
theorem zbq8 (x y : Proc) : ¬ ltP y x ∨ ¬ ltP x y := by
 by_cases h : ltP y x
 ·exact .inr (zaD1 h)
 ·exact .inl h
theorem zbf9 (l : List Proc) : (l.mergeSort fun x y => !decide (ltP y x)).Pairwise fun x y => ¬ ltP y x := by
 have := List.pairwise_mergeSort (le := fun x y => !decide (ltP y x)) (fun a b c h1 h2 => by
  simp only [Bool.not_eq_true', decide_eq_false_iff_not] at h1 h2 ⊢
  intro h3
  by_cases e : b = a
  ·subst e; exact h2 h3
  ·rcases zW7 e with h4 | h4
   ·exact h1 h4
   ·by_cases e2 : b = c
    ·subst e2; exact h1 h3
    ·rcases zW7 e2 with h5 | h5
     ·exact zaD1 (zaf3 h3 h4) h5
     ·exact h2 h5) (fun a b => by
  rcases zbq8 a b with h | h
  ·simp [h]
  ·simp [h]) l
 exact this.imp fun h => by simpa using h
end Ab
end Go.Proofs.YtfjeceicgfdmjaaGreatDoor
