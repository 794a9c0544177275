/-
  What a sound queue is made of; what an advance keeps.
-/
import Derived.Test.YtdflfohpemfeiaaGreatDoorQueF
import Derived.Test.YtdflfohpemfeiaaGreatDoorLinB
import Derived.Test.YtdflfohpemfeiaaGreatDoorHoldG
namespace Go.Proofs.YtdflfohpemfeiaaGreatDoor
namespace Ab
set_option linter.unusedVariables false
set_option linter.unusedSimpArgs false
theorem all_mem {α : Type} {P : α → Prop} {l : List α} {z : α} : (∀ i, i < l.length → P (l.getD i z)) ↔ ∀ w ∈ l, P w := by
 constructor
 ·intro h w hw
  obtain ⟨i, hi, rfl⟩ := List.mem_iff_getElem.1 hw
  have := h i hi
  rwa [List.getD_eq_getElem?_getD, List.getElem?_eq_getElem hi] at this
 ·intro h i hi
  refine h _ ?_
  rw [List.getD_eq_getElem?_getD, List.getElem?_eq_getElem hi]
  exact List.getElem_mem hi
theorem getH_nil (p : Proc) : getH [] p = Amount.zero := rfl
theorem getH_cons (h : Hold) (t : List Hold) (p : Proc) : getH (h :: t) p = if h.proc = p then h.amount else getH t p := by
 unfold getH
 rw [List.find?_cons]
 by_cases e : h.proc = p <;> simp [e]
theorem getH_others_self (p : Proc) (l : List Hold) : getH (others p l) p = Amount.zero := by
 induction l with
 | nil => rfl
 | cons h t ih =>
  rw [others_cons]
  by_cases e : h.proc = p
  ·simp only [e, if_true]; exact ih
  ·simp only [e, if_false, getH_cons]; exact ih
theorem getH_others_ne {p q : Proc} (hq : q ≠ p) (l : List Hold) : getH (others p l) q = getH l q := by
 induction l with
 | nil => rfl
 | cons h t ih =>
  rw [others_cons]
  by_cases e : h.proc = p
  ·simp only [e, if_true, getH_cons]
   rw [if_neg (fun e2 => hq e2.symm)]; exact ih
  ·simp only [e, if_false, getH_cons]
   split
   ·rfl
   ·exact ih
theorem getH_insP_self (p : Proc) (a : Amount) : ∀ l : List Hold, (∀ h ∈ l, h.proc ≠ p) → getH (insP p a l) p = a
 | [], _ => by simp [insP, getH_cons]
 | h :: t, hh => by
  simp only [insP]
  split
  ·simp [getH_cons]
  ·simp only [getH_cons, hh h (.head _), if_false]
   exact getH_insP_self p a t fun x hx => hh x (.tail _ hx)
theorem getH_insP_ne {p q : Proc} (a : Amount) (hq : q ≠ p) : ∀ l : List Hold, getH (insP p a l) q = getH l q
 | [] => by simp only [insP, getH_cons]; rw [if_neg (fun e : p = q => hq e.symm)]
 | h :: t => by
  simp only [insP]
  split
  ·simp only [getH_cons]; rw [if_neg (fun e : p = q => hq e.symm)]
  ·simp only [getH_cons]
   split
   ·rfl
   ·exact getH_insP_ne a hq t
theorem getH_setL_self (l : List Hold) (p : Proc) (a : Amount) : getH (setL l p a) p = a := by
 unfold setL
 split
 ·rename_i h; rw [getH_others_self, h]
 ·exact getH_insP_self p a _ fun h hh => (mem_others.1 hh).2
theorem getH_setL_ne {p q : Proc} (hq : q ≠ p) (l : List Hold) (a : Amount) : getH (setL l p a) q = getH l q := by
 unfold setL
 split
 ·exact getH_others_ne hq l
 ·rw [getH_insP_ne a hq]; exact getH_others_ne hq l
theorem getH_mem {l : List Hold} {p : Proc} (h : getH l p ≠ Amount.zero) : (⟨p, getH l p⟩ : Hold) ∈ l := by
 induction l with
 | nil => exact absurd rfl h
 | cons x t ih =>
  rw [getH_cons] at h ⊢
  by_cases e : x.proc = p
  ·rw [if_pos e]; subst e; exact .head _
  ·rw [if_neg e] at h ⊢; exact .tail _ (ih h)
theorem getH_none {l : List Hold} {p : Proc} (h : ∀ x ∈ l, x.proc ≠ p) : getH l p = Amount.zero := by
 induction l with
 | nil => rfl
 | cons x t ih => rw [getH_cons, if_neg (h x (.head _))]; exact ih fun y hy => h y (.tail _ hy)
theorem others_self {l : List Hold} {p : Proc} (h : ∀ x ∈ l, x.proc ≠ p) : others p l = l := List.filter_eq_self.2 fun x hx => by simpa using h x hx
theorem others_insP (p : Proc) (a : Amount) {l : List Hold} : others p (insP p a l) = others p l := by
 induction l with
 | nil => simp [insP, others]
 | cons h t ih =>
  simp only [insP]
  split
  ·simp [others_cons]
  ·simp only [others_cons, ih]
theorem others_others (p : Proc) (l : List Hold) : others p (others p l) = others p l := by
 unfold others; rw [List.filter_filter]; simp
theorem others_comm (p q : Proc) (l : List Hold) : others p (others q l) = others q (others p l) := by
 unfold others; rw [List.filter_filter, List.filter_filter]; congr 1; funext h; exact Bool.and_comm _ _
theorem others_setL (p : Proc) (a : Amount) (l : List Hold) : others p (setL l p a) = others p l := by
 unfold setL
 split
 ·exact others_others p l
 ·rw [others_insP, others_others]
def Asc (l : List Hold) : Prop := l.Pairwise fun a b => ltP a.proc b.proc
theorem Asc.others {l : List Hold} (h : Asc l) (p : Proc) : Asc (others p l) := List.Pairwise.sublist (others_sub p l) h
theorem valid_asc {r : Resource} {l : List Hold} (h : validH r l = true) : Asc l := ((validH_iff r l).1 h).2.2.1.asc
theorem asc_ne {h : Hold} {t : List Hold} (k : Asc (h :: t)) : ∀ x ∈ t, x.proc ≠ h.proc := fun x hx e => by
 have := (List.pairwise_cons.1 k).1 x hx
 rw [e] at this; exact ltP_irrefl _ this
theorem asc_perm {l : List Hold} (h : Asc l) {p : Proc} (hp : getH l p ≠ Amount.zero) : l.Perm (⟨p, getH l p⟩ :: others p l) := by
 induction l with
 | nil => exact absurd rfl hp
 | cons x t ih =>
  rw [getH_cons] at hp ⊢
  rw [others_cons]
  by_cases e : x.proc = p
  ·rw [if_pos e, if_pos e, others_self (by rw [← e]; exact asc_ne h)]
   subst e; exact List.Perm.refl _
  ·rw [if_neg e] at hp
   rw [if_neg e, if_neg e]
   exact ((ih (List.pairwise_cons.1 h).2 hp).cons x).trans (List.Perm.swap _ _ _)
theorem others_lt {l : List Hold} (h : Asc l) {p : Proc} (hp : getH l p ≠ Amount.zero) : (others p l).length + 1 = l.length := by
 have := (asc_perm h hp).length_eq
 simpa using this.symm
theorem insP_first {p : Proc} {a : Amount} {l : List Hold} (h : ∀ x ∈ l, ltP p x.proc) : insP p a l = ⟨p, a⟩ :: l := by
 cases l with
 | nil => rfl
 | cons x t => simp only [insP]; rw [if_pos (h x (.head _))]
theorem others_insP_ne {p q : Proc} (hq : q ≠ p) (a : Amount) {l : List Hold} (h : Asc l) : others q (insP p a l) = insP p a (others q l) := by
 induction l with
 | nil => simp only [insP, others_nil, others_cons]; rw [if_neg (fun e : p = q => hq e.symm)]
 | cons x t ih =>
  simp only [insP]
  split
  ·rename_i hlt
   have hall : ∀ y ∈ others q (x :: t), ltP p y.proc := fun y hy => by
    rcases List.mem_cons.1 (mem_others.1 hy).1 with rfl | hy
    ·exact hlt
    ·exact ltP_trans hlt ((List.pairwise_cons.1 h).1 y hy)
   rw [insP_first hall, others_cons]
   rw [if_neg (fun e : p = q => hq e.symm)]
  ·rename_i hlt
   rw [others_cons, others_cons, ih (List.pairwise_cons.1 h).2]
   split
   ·rfl
   ·simp only [insP]; rw [if_neg hlt]
theorem others_setL_ne {p q : Proc} (hq : q ≠ p) (a : Amount) {l : List Hold} (h : Asc l) : others q (setL l p a) = setL (others q l) p a := by
 unfold setL
 split
 ·exact others_comm q p l
 ·rw [others_insP_ne hq a (h.others p), others_comm]
theorem setL_keep {r : Resource} {l : List Hold} (h : validH r l = true) (p : Proc) : getH l p = Amount.zero → others p l = l := fun e =>
 others_self fun x hx hp => by
  have hv := (validH_iff r l).1 h
  have h1 := asc_perm (l := l) hv.2.2.1.asc (p := p)
  have : getH l p = x.amount := by
   clear e h1
   have ha : Asc l := hv.2.2.1.asc
   clear hv h
   induction l with
   | nil => cases hx
   | cons y t ih =>
    rw [getH_cons]
    rcases List.mem_cons.1 hx with rfl | hx
    ·rw [if_pos hp]
    ·rw [if_neg (fun e : y.proc = p => asc_ne ha x hx (hp.trans e.symm))]
     exact ih hx (List.pairwise_cons.1 ha).2
  exact fits_nz (hv.2.2.1.each x hx).2 (this.symm.trans e)
theorem getH_of_mem {l : List Hold} (ha : Asc l) {x : Hold} (hx : x ∈ l) : getH l x.proc = x.amount := by
 induction l with
 | nil => cases hx
 | cons y t ih =>
  rw [getH_cons]
  rcases List.mem_cons.1 hx with rfl | hx
  ·rw [if_pos rfl]
  ·rw [if_neg (fun e : y.proc = x.proc => asc_ne ha x hx e.symm)]
   exact ih (List.pairwise_cons.1 ha).2 hx
theorem getH_perm {r : Resource} {l : List Hold} (h : validH r l = true) (p : Proc) : f_amount_permitted r (getH l p) = true := by
 have hv := (validH_iff r l).1 h
 by_cases e : getH l p = Amount.zero
 ·rw [e, perm_iff]; exact .inl ⟨hv.1, rfl⟩
 ·exact fits_perm (hv.2.2.1.each _ (getH_mem e)).2
theorem zero_iff (a : Amount) : f_amount_Zero a = true ↔ a = Amount.zero := by unfold f_amount_Zero; simp
theorem zero_not (a : Amount) : f_amount_Zero a = false ↔ a ≠ Amount.zero := by rw [← Bool.not_eq_true, zero_iff]
structure SoundP (q : Queue) : Prop where
 res : resV q.resource = true
 hv : validH q.resource q.holds = true
 cl : q.converts.length ≤ 8
 cn : (q.converts.map (·.proc)).Nodup
 cg : ∀ w ∈ q.converts, getH q.holds w.proc ≠ Amount.zero ∧ f_amount_Fits q.resource w.amount = true ∧ covA q.resource w.amount (getH q.holds w.proc) = true ∧ w.amount ≠ getH q.holds w.proc ∧ w.priority = 0 ∧ w.passed = 0
 wv : validL q.waits = true
 wl : q.holds.length + q.waits.length ≤ 8
 wg : ∀ w ∈ q.waits, f_amount_Fits q.resource w.amount = true ∧ getH q.holds w.proc = Amount.zero
 gen : 0 ≤ q.gen ∧ q.gen ≤ 1073741824
theorem soundQ_iff (q : Queue) : soundQ q = true ↔ SoundP q := by
 have hc : cvOk q = true ↔ q.converts.length ≤ 8 ∧ (q.converts.map (·.proc)).Nodup ∧ ∀ w ∈ q.converts, getH q.holds w.proc ≠ Amount.zero ∧ f_amount_Fits q.resource w.amount = true ∧ covA q.resource w.amount (getH q.holds w.proc) = true ∧ w.amount ≠ getH q.holds w.proc ∧ w.priority = 0 ∧ w.passed = 0 := by
  unfold cvOk
  rw [← find1_self, ← all_mem (z := Wait.zero)]
  simp only [Bool.and_eq_true, decide_eq_true_eq, List.all_eq_true, List.mem_range, cvI, Bool.not_eq_true', zero_not, decide_eq_false_iff_not]
  constructor
  ·rintro ⟨h1, h2⟩; exact ⟨h1, fun i hi => (h2 i hi).1, fun i hi => (h2 i hi).2⟩
  ·rintro ⟨h1, h2, h3⟩; exact ⟨h1, fun i hi => ⟨h2 i hi, h3 i hi⟩⟩
 have hw : wtOk q = true ↔ validL q.waits = true ∧ q.holds.length + q.waits.length ≤ 8 ∧ ∀ w ∈ q.waits, f_amount_Fits q.resource w.amount = true ∧ getH q.holds w.proc = Amount.zero := by
  unfold wtOk
  rw [← all_mem (z := Wait.zero)]
  simp only [Bool.and_eq_true, decide_eq_true_eq, List.all_eq_true, List.mem_range, wtI, zero_iff]
 unfold soundQ
 simp only [Bool.and_eq_true, hc, hw, decide_eq_true_eq]
 constructor
 ·rintro ⟨h1, h2, ⟨h3, h4, h5⟩, ⟨h6, h7, h8⟩, h9⟩; exact ⟨h1, h2, h3, h4, h5, h6, h7, h8, h9⟩
 ·rintro ⟨h1, h2, h3, h4, h5, h6, h7, h8, h9⟩; exact ⟨h1, h2, ⟨h3, h4, h5⟩, ⟨h6, h7, h8⟩, h9⟩
theorem SoundP.apart {q : Queue} (h : SoundP q) {c w : Wait} (hc : c ∈ q.converts) (hw : w ∈ q.waits) : c.proc ≠ w.proc := fun e =>
 (h.cg c hc).1 (by rw [e]; exact (h.wg w hw).2)
theorem SoundP.nodup {q : Queue} (h : SoundP q) : ((q.converts ++ q.waits).map (·.proc)).Nodup := by
 rw [List.map_append, List.nodup_append]
 refine ⟨h.cn, ((validL_iff _).1 h.wv).2.2, fun a ha b hb => ?_⟩
 obtain ⟨c, hc, rfl⟩ := List.mem_map.1 ha
 obtain ⟨w, hw, rfl⟩ := List.mem_map.1 hb
 exact h.apart hc hw
inductive Pop (q : Queue) : Prop where
 | con (w : Wait) (cs : List Wait) (h : q.converts = w :: cs) (hd : (headQ q).1 = w) (hr : roomH q.resource q.holds w.proc w.amount = true) (hp : popQ q = { q with holds := setL q.holds w.proc w.amount, converts := cs })
 | wait (w : Wait) (ws : List Wait) (hc : q.converts = []) (h : q.waits = w :: ws) (hd : (headQ q).1 = w) (hr : roomH q.resource q.holds w.proc w.amount = true) (hp : popQ q = { q with holds := setL q.holds w.proc w.amount, waits := ws })
theorem pop_of {q : Queue} (h : canQ q = true) : Pop q := by
 unfold canQ at h
 rw [Bool.and_eq_true] at h
 obtain ⟨h1, h2⟩ := h
 cases hc : q.converts with
 | cons w cs =>
  have hd : (headQ q).1 = w := by unfold headQ; rw [hc]; rfl
  exact .con w cs hc hd (by rw [← hd]; exact h2) (by unfold popQ; rw [hd]; simp [hc])
 | nil =>
  cases hw : q.waits with
  | cons w ws =>
   have hd : (headQ q).1 = w := by unfold headQ; rw [hc, hw]; rfl
   exact .wait w ws hc hw hd (by rw [← hd]; exact h2) (by unfold popQ; rw [hd]; simp [hc, hw])
  | nil => unfold headQ at h1; rw [hc, hw] at h1; exact absurd h1 (by decide)
theorem room_parts {r : Resource} {l : List Hold} {p : Proc} {a : Amount} (h : roomH r l p a = true) : validH r l = true ∧ f_ident_ValidProc p = true ∧ f_amount_Fits r a = true ∧ validH r (setL l p a) = true := by
 unfold roomH properH at h
 simp only [Bool.and_eq_true] at h
 exact ⟨h.1.1, h.1.2.1, h.1.2.2, h.2⟩
theorem setL_len2 {r : Resource} {l : List Hold} {p : Proc} (a : Amount) (h : validH r l = true) (hp : getH l p ≠ Amount.zero) : (setL l p a).length ≤ l.length := by
 have := others_lt (valid_asc h) hp
 unfold setL
 split
 ·omega
 ·rw [insP_len]; omega
theorem validL_tail {w : Wait} {l : List Wait} (h : validL (w :: l) = true) : validL l = true := by
 rw [validL_iff] at h ⊢
 obtain ⟨h1, h2, h3⟩ := h
 rw [List.map_cons, List.nodup_cons] at h3
 exact ⟨by simp at h1; omega, fun x hx => h2 x (.tail _ hx), h3.2⟩
theorem SoundP.pop {q : Queue} (h : SoundP q) (hc : canQ q = true) : SoundP (popQ q) := by
 cases pop_of hc with
 | con w cs he hd hr hp =>
  rw [hp]
  obtain ⟨_, _, _, hv⟩ := room_parts hr
  have hn : w.proc ∉ cs.map (·.proc) ∧ (cs.map (·.proc)).Nodup := by have := h.cn; rw [he, List.map_cons, List.nodup_cons] at this; exact this
  have hw := h.cg w (by rw [he]; exact .head _)
  have hl := setL_len2 w.amount h.hv hw.1
  have h8 := h.cl
  rw [he, List.length_cons] at h8
  refine ⟨h.res, hv, by simp only; omega, hn.2, fun c hcc => ?_, h.wv, ?_, fun x hx => ?_, h.gen⟩
  ·have hne : c.proc ≠ w.proc := fun e => hn.1 (List.mem_map.2 ⟨c, hcc, e⟩)
   simp only [getH_setL_ne hne]
   exact h.cg c (by rw [he]; exact .tail _ hcc)
  ·have := h.wl; simp only; omega
  ·have hne : x.proc ≠ w.proc := fun e => h.apart (c := w) (by rw [he]; exact .head _) hx e.symm
   simp only [getH_setL_ne hne]
   exact h.wg x hx
 | wait w ws hcn he hd hr hp =>
  rw [hp]
  obtain ⟨_, _, _, hv⟩ := room_parts hr
  have hl := setL_len q.holds w.proc w.amount
  have h8 := h.wl
  have hwv := h.wv
  rw [he] at h8 hwv
  have hn : w.proc ∉ ws.map (·.proc) := by have := ((validL_iff _).1 hwv).2.2; rw [List.map_cons, List.nodup_cons] at this; exact this.1
  rw [List.length_cons] at h8
  refine ⟨h.res, hv, h.cl, h.cn, fun c hcc => ?_, validL_tail hwv, by simp only; omega, fun x hx => ?_, h.gen⟩
  ·rw [hcn] at hcc; cases hcc
  ·have hne : x.proc ≠ w.proc := fun e => hn (List.mem_map.2 ⟨x, hx, e⟩)
   simp only [getH_setL_ne hne]
   exact h.wg x (by rw [he]; exact .tail _ hx)
theorem advN_grants : ∀ (n : Nat) (q : Queue) (l : List Hold), advN n (q, l) = ((advN n (q, [])).1, l ++ (advN n (q, [])).2)
 | 0, q, l => by simp [advN]
 | n + 1, q, l => by
  simp only [advN]
  split
  ·unfold nextQ
   simp only [List.nil_append]
   rw [advN_grants n (popQ q) (l ++ _), advN_grants n (popQ q) [_], List.append_assoc]
  ·simp
def advS (q : Queue) : Queue := (advQ q).1
def advG (q : Queue) : List Hold := (advQ q).2
theorem advQ_step (q : Queue) : advQ q = if canQ q = true then ((advQ (popQ q)).1, ⟨(headQ q).1.proc, (headQ q).1.amount⟩ :: (advQ (popQ q)).2) else (q, []) := by
 unfold advQ
 rw [advN_step (q, [])]
 show (if canQ q = true then advN (sizeQ (popQ q)) (popQ q, [] ++ [_]) else (q, [])) = _
 split
 ·rw [advN_grants]; rfl
 ·rfl
theorem advS_can {q : Queue} (h : canQ q = true) : advS q = advS (popQ q) := by unfold advS; rw [advQ_step q, if_pos h]
theorem advG_can {q : Queue} (h : canQ q = true) : advG q = ⟨(headQ q).1.proc, (headQ q).1.amount⟩ :: advG (popQ q) := by unfold advG; rw [advQ_step q, if_pos h]
theorem advS_not {q : Queue} (h : canQ q = false) : advS q = q := by unfold advS; rw [advQ_step q, h]; rfl
theorem advG_not {q : Queue} (h : canQ q = false) : advG q = [] := by unfold advG; rw [advQ_step q, h]; rfl
theorem adv_ind {P : Queue → Prop} (h : ∀ q, canQ q = true → P q → P (popQ q)) : ∀ q, P q → P (advS q) := by
 have key : ∀ n q, sizeQ q = n → P q → P (advS q) := by
  intro n
  induction n using Nat.strongRecOn with
  | _ n ih =>
   intro q hn hq
   cases hc : canQ q with
   | false => rw [advS_not hc]; exact hq
   | true =>
    rw [advS_can hc]
    have := (canQ_size hc).2.1
    exact ih (sizeQ (popQ q)) (by omega) _ rfl (h q hc hq)
 exact fun q hq => key _ q rfl hq
theorem adv_rec {P : Queue → Prop} (h0 : ∀ q, canQ q = false → P q) (h : ∀ q, canQ q = true → P (popQ q) → P q) : ∀ q, P q := by
 have key : ∀ n q, sizeQ q = n → P q := by
  intro n
  induction n using Nat.strongRecOn with
  | _ n ih =>
   intro q hn
   cases hc : canQ q with
   | false => exact h0 q hc
   | true =>
    have := (canQ_size hc).2.1
    exact h q hc (ih (sizeQ (popQ q)) (by omega) _ rfl)
 exact fun q => key _ q rfl
theorem advS_end : ∀ q, canQ (advS q) = false := by
 refine adv_rec (fun q h => by rw [advS_not h]; exact h) fun q h ih => by rw [advS_can h]; exact ih
theorem SoundP.adv {q : Queue} (h : SoundP q) : SoundP (advS q) := adv_ind (P := SoundP) (fun _ hc h => h.pop hc) q h
theorem settled_iff (q : Queue) : settledQ q = true ↔ SoundP q ∧ canQ q = false := by
 unfold settledQ
 rw [Bool.and_eq_true, soundQ_iff]
 show SoundP q ∧ (!canQ q) = true ↔ _
 rw [Bool.not_eq_true']
theorem SoundP.settled {q : Queue} (h : SoundP q) : settledQ (advS q) = true := (settled_iff _).2 ⟨h.adv, advS_end q⟩
theorem advG_len : ∀ q, (advG q).length + sizeQ (advS q) = sizeQ q := by
 refine adv_rec (fun q h => by rw [advS_not h, advG_not h]; simp) fun q h ih => by
  rw [advS_can h, advG_can h, List.length_cons]
  have := (canQ_size h).2.1
  omega
end Ab
end Go.Proofs.YtdflfohpemfeiaaGreatDoor
