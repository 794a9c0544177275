/-
  Regions that draw their order and write memory: whatever the order, what the text's order says.
-/
import Derived.Test.YtmegjomldcfoaaaDoorAb20
namespace Go.Proofs.YtmegjomldcfoaaaDoor
namespace Ab

section
variable {C : Cx} {E : Env}

/-- The operations that are done, in the text's order: slots and memory. -/
def FSt (ps : List POp) (vs : Nat → A) (mws : Nat → List (Nat × MS)) (s : S) (f : Nat → Bool) : Nat → S
  | 0 => s
  | n + 1 => match ps[n]? with
    | some p => if f n then ⟨setF (FSt ps vs mws s f n).fr p.dst (vs n), setM (FSt ps vs mws s f n).mem (mws n)⟩ else FSt ps vs mws s f n
    | none => FSt ps vs mws s f n

theorem setM_notin {y : Nat} : ∀ {mw : List (Nat × MS)} {m : Nat → MS}, y ∉ mw.map (·.1) → setM m mw y = m y
  | [], _, _ => rfl
  | q :: mw, m, h => by
    simp only [setM]
    rw [setM_notin fun hh => h (.tail _ hh)]
    refine if_neg fun e => h ?_
    rw [e]; exact .head _
theorem setM_in {y : Nat} : ∀ {mw : List (Nat × MS)} {m m2 : Nat → MS}, y ∈ mw.map (·.1) → setM m mw y = setM m2 mw y
  | q :: mw, m, m2, h => by
    simp only [setM]
    by_cases h2 : y ∈ mw.map (·.1)
    · exact setM_in h2
    · rw [setM_notin h2, setM_notin h2]
      rcases List.mem_cons.1 h with rfl | h
      · simp
      · exact absurd h h2

theorem FS_congr {ps : List POp} {vs : Nat → A} {mws : Nat → List (Nat × MS)} {s : S} {f f' : Nat → Bool} : ∀ n, (∀ i, i < n → f i = f' i) → FSt ps vs mws s f n = FSt ps vs mws s f' n
  | 0, _ => rfl
  | n + 1, h => by
    have ih := FS_congr (ps := ps) (vs := vs) (mws := mws) (s := s) n fun i hi => h i (by omega)
    simp only [FSt, ih, h n (by omega)]

theorem setF_at (f : Nat → A) (d : Option Nat) (v : A) (t : Nat) : setF f d v t = if d = some t then v else f t := rfl

theorem FS_slot {ps : List POp} {vs : Nat → A} {mws : Nat → List (Nat × MS)} {s : S} {f : Nat → Bool} {j t : Nat} (h1 : ∀ i q, i < j → ps[i]? = some q → q.dst = some t → f i = true) (h2 : ∀ i q, j ≤ i → ps[i]? = some q → q.dst = some t → f i = false) :
    ∀ n, (FSt ps vs mws s f n).fr t = (FSt ps vs mws s (fun _ => true) (min n j)).fr t
  | 0 => by simp [FSt]
  | n + 1 => by
    have ih := FS_slot (vs := vs) (mws := mws) (s := s) h1 h2 n
    by_cases hn : n < j
    · rw [show min (n + 1) j = n + 1 by omega]
      rw [show min n j = n by omega] at ih
      simp only [FSt]
      cases hq : ps[n]? with
      | none => exact ih
      | some q =>
        simp only [if_true]
        by_cases hd : q.dst = some t
        · rw [h1 n q hn hq hd]; simp [setF_at, hd]
        · rw [setF_at, if_neg hd]
          split
          · simp only [setF_at, if_neg hd]; exact ih
          · exact ih
    · rw [show min (n + 1) j = j by omega]
      rw [show min n j = j by omega] at ih
      simp only [FSt]
      cases hq : ps[n]? with
      | none => exact ih
      | some q =>
        simp only []
        by_cases hd : q.dst = some t
        · rw [h2 n q (by omega) hq hd]; simpa using ih
        · split
          · simp only [setF_at, if_neg hd]; exact ih
          · exact ih

theorem FS_mem {ps : List POp} {vs : Nat → A} {mws : Nat → List (Nat × MS)} {s : S} {f : Nat → Bool} {j y : Nat} (h1 : ∀ i q, i < j → ps[i]? = some q → y ∈ (mws i).map (·.1) → f i = true) (h2 : ∀ i q, j ≤ i → ps[i]? = some q → y ∈ (mws i).map (·.1) → f i = false) :
    ∀ n, (FSt ps vs mws s f n).mem y = (FSt ps vs mws s (fun _ => true) (min n j)).mem y
  | 0 => by simp [FSt]
  | n + 1 => by
    have ih := FS_mem (vs := vs) (mws := mws) (s := s) h1 h2 n
    by_cases hn : n < j
    · rw [show min (n + 1) j = n + 1 by omega]
      rw [show min n j = n by omega] at ih
      simp only [FSt]
      cases hq : ps[n]? with
      | none => exact ih
      | some q =>
        simp only [if_true]
        by_cases hd : y ∈ (mws n).map (·.1)
        · rw [h1 n q hn hq hd]; simp only [if_true]; exact setM_in hd
        · rw [setM_notin hd]
          split
          · show setM _ _ _ = _
            rw [setM_notin hd]; exact ih
          · exact ih
    · rw [show min (n + 1) j = j by omega]
      rw [show min n j = j by omega] at ih
      simp only [FSt]
      cases hq : ps[n]? with
      | none => exact ih
      | some q =>
        simp only []
        by_cases hd : y ∈ (mws n).map (·.1)
        · rw [h2 n q (by omega) hq hd]; simpa using ih
        · split
          · show setM _ _ _ = _
            rw [setM_notin hd]; exact ih
          · exact ih

/-- One more operation done. -/
theorem FS_put {ps : List POp} {vs : Nat → A} {mws : Nat → List (Nat × MS)} {s : S} {f : Nat → Bool} {j : Nat} {p : POp} (hp : ps[j]? = some p) (hf : f j = false) (f' : Nat → Bool) (hj : f' j = true) (hf' : ∀ i, i ≠ j → f' i = f i)
    (hc : ∀ i q, j < i → ps[i]? = some q → f i = true → conf p q = false) (hm : ∀ i q, j < i → ps[i]? = some q → f i = true → ∀ y ∈ (mws j).map (·.1), y ∉ (mws i).map (·.1)) :
    ∀ n, (∀ t, (FSt ps vs mws s f' n).fr t = if j < n ∧ p.dst = some t then vs j else (FSt ps vs mws s f n).fr t) ∧ ∀ y, (FSt ps vs mws s f' n).mem y = if j < n then setM (FSt ps vs mws s f n).mem (mws j) y else (FSt ps vs mws s f n).mem y
  | 0 => by simp [FSt]
  | n + 1 => by
    obtain ⟨ih, ih2⟩ := FS_put (vs := vs) (mws := mws) (s := s) hp hf f' hj hf' hc hm n
    by_cases hn : n = j
    · subst hn
      simp only [FSt, hp, hj, hf, if_true, Bool.false_eq_true, if_false]
      refine ⟨fun t => ?_, fun y => ?_⟩
      · rw [setF_at]
        by_cases hd : p.dst = some t
        · simp [hd]
        · simp only [hd, if_false, and_false]
          have := ih t
          simpa [hd] using this
      · rw [if_pos (Nat.lt_succ_self n)]
        have e : (FSt ps vs mws s f' n).mem = (FSt ps vs mws s f n).mem := funext fun z => by have := ih2 z; simpa using this
        rw [e]
    · have hlt : j < n + 1 ↔ j < n := by omega
      simp only [FSt, hf' n hn, hlt]
      cases hq : ps[n]? with
      | none => exact ⟨by simpa using ih, by simpa using ih2⟩
      | some q =>
        simp only []
        split
        · rename_i hfn
          refine ⟨fun t => ?_, fun y => ?_⟩
          · simp only [setF_at, ih t]
            by_cases hd : q.dst = some t
            · simp only [hd, if_true]
              by_cases hjn : j < n
              · have := hc n q hjn hq hfn
                unfold conf at this
                by_cases hpd : p.dst = some t
                · simp [hpd, hd] at this
                · simp [hpd]
              · simp [hjn]
            · simp [hd]
          · by_cases hjn : j < n
            · simp only [hjn, if_true] at ih2 ⊢
              have hdj := hm n q hjn hq hfn
              by_cases h1 : y ∈ (mws n).map (·.1)
              · rw [setM_notin (mw := mws j) fun hh => hdj y hh h1]
                exact setM_in h1
              · rw [setM_notin h1, ih2 y]
                by_cases h2 : y ∈ (mws j).map (·.1)
                · exact setM_in h2
                · rw [setM_notin h2, setM_notin h2, setM_notin h1]
            · simp only [hjn, if_false] at ih2 ⊢
              have e : (FSt ps vs mws s f' n).mem = (FSt ps vs mws s f n).mem := funext ih2
              rw [e]
        · exact ⟨ih, ih2⟩

theorem disj_spec : ∀ {x y : List Nat}, disj x y = true → ∀ z ∈ x, z ∉ y
  | a :: x, y, h, z, hz => by
    simp only [disj, Bool.and_eq_true, Bool.not_eq_true', List.contains_eq_mem, decide_eq_false_iff_not] at h
    rcases List.mem_cons.1 hz with rfl | hz
    · exact h.1
    · exact disj_spec h.2 z hz

theorem indep_spec {an : List Nat} : ∀ {log : List (List Nat × List Nat)} {i : Nat} {r w : List Nat}, indep an i log r w = true → ∀ n q, log[n]? = some q → i + n ∉ an → disj q.2 r = true ∧ disj q.2 w = true ∧ disj w q.1 = true
  | x :: log, i, r, w, h, n, q, hq, hn => by
    simp only [indep, Bool.and_eq_true, Bool.or_eq_true] at h
    cases n with
    | zero =>
      simp at hq; subst hq
      rcases h.1 with h1 | h1
      · exact absurd (by simpa using h1) hn
      · exact ⟨h1.1.1, h1.1.2, h1.2⟩
    | succ n => exact indep_spec h.2 n q (by simpa using hq) (by rwa [show i + 1 + n = i + (n + 1) by omega])

/-- The text's run, operation by operation. -/
theorem arunM_vals {an : List (List Nat)} {K : St → Prop} : ∀ (ps : List POp) (st : St) (log : List (List Nat × List Nat)), arunM C an ps st log K → ∃ (vs : Nat → A) (mws : Nat → List (Nat × MS)) (sts : Nat → St), K (sts ps.length) ∧ sts 0 = st ∧
    ∀ j p, ps[j]? = some p → sts (j + 1) = (sts j).app p.dst (vs j) (mws j) ∧ mwOk (sts j).nx (mws j) ∧ aopS C p (sts j).toS (sts j).nx (fun v mw => v = vs j ∧ mw = mws j) ∧ capsOk (valsOf C (sts j) p.xs) = true ∧
      (∀ i q, i < log.length → log[i]? = some q → i ∉ an.getD (log.length + j) [] → disj q.2 (idsAll (valsOf C (sts j) p.xs)) = true ∧ disj q.2 ((mws j).map (·.1)) = true ∧ disj ((mws j).map (·.1)) q.1 = true) ∧
      (∀ i q, i < j → ps[i]? = some q → log.length + i ∉ an.getD (log.length + j) [] → disj ((mws i).map (·.1)) (idsAll (valsOf C (sts j) p.xs)) = true ∧ disj ((mws i).map (·.1)) ((mws j).map (·.1)) = true ∧ disj ((mws j).map (·.1)) (idsAll (valsOf C (sts i) q.xs)) = true)
  | [], st, log, h => ⟨fun _ => .any, fun _ => [], fun _ => st, h, rfl, fun j p hp => by simp at hp⟩
  | p :: ps, st, log, h => by
    obtain ⟨v, mw, ⟨hmw, hi, hcap, hrest⟩, h4⟩ := aopS_one (aopS_mw h)
    obtain ⟨vs, mws, sts, h5, h6, h7⟩ := arunM_vals ps _ _ hrest
    refine ⟨fun i => match i with | 0 => v | i + 1 => vs i, fun i => match i with | 0 => mw | i + 1 => mws i, fun i => match i with | 0 => st | i + 1 => sts i, h5, rfl, fun j q hq => ?_⟩
    cases j with
    | zero =>
      simp at hq; subst hq
      refine ⟨h6, hmw, h4, hcap, fun i q hi2 hq hn => ?_, fun i q hi2 => by omega⟩
      exact indep_spec hi i q hq (by rw [Nat.zero_add]; exact hn)
    | succ j =>
      obtain ⟨g1, g2, g3, g4, g5, g6⟩ := h7 j q (by simpa using hq)
      simp only [List.length_append, List.length_cons, List.length_nil, Nat.zero_add] at g5 g6
      refine ⟨g1, g2, g3, g4, fun i x hi2 hx hn => ?_, fun i x hi2 hx hn => ?_⟩
      · exact g5 i x (by omega) (by rw [List.getElem?_append_left hi2]; exact hx) (by rwa [show log.length + 1 + j = log.length + (j + 1) by omega])
      · cases i with
        | zero =>
          simp at hx; subst hx
          have := g5 log.length (idsAll (valsOf C st p.xs), mw.map (·.1)) (by omega) (by rw [List.getElem?_append_right (Nat.le_refl _)]; simp) (by rw [show log.length + 1 + j = log.length + (j + 1) by omega]; exact hn)
          exact this
        | succ i =>
          exact g6 i x (by omega) (by simpa using hx) (by rw [show log.length + 1 + j = log.length + (j + 1) by omega, show log.length + 1 + i = log.length + (i + 1) by omega]; exact hn)

theorem valsOf_toS {st : St} (xs : List PX) : valsOf C st xs = valsF C st.toS.fr xs := valsOf_F xs

theorem any_soundM {os : Array Oper} {ps : List POp} {s0 : S} {vs : Nat → A} {mws : Nat → List (Nat × MS)} {sts : Nat → St} {K : St → Prop} {Q : Exit → Act → World → Prop} (hG : E.G = C.G) (hr : ROk C E.N os 0 ps) (hso : POp.sortOk os.toList 0 = true)
    (hco : chkOrd ps (ancs [] (os.toList.map edgesOf)) = true) (hK : K (sts ps.length))
    (hst : ∀ j, j ≤ ps.length → (sts j).toS = FSt ps vs mws s0 (fun _ => true) j)
    (hv : ∀ j p, ps[j]? = some p → mwOk (sts j).nx (mws j) ∧ aopS C p (sts j).toS (sts j).nx (fun v mw => v = vs j ∧ mw = mws j) ∧ capsOk (valsOf C (sts j) p.xs) = true ∧
      (∀ i q, i < j → ps[i]? = some q → i ∉ (ancs [] (os.toList.map edgesOf)).getD j [] → disj ((mws i).map (·.1)) (idsAll (valsOf C (sts j) p.xs)) = true ∧ disj ((mws i).map (·.1)) ((mws j).map (·.1)) = true ∧ disj ((mws j).map (·.1)) (idsAll (valsOf C (sts i) q.xs)) = true))
    (hnx : ∀ i j, i ≤ j → (sts i).nx ≤ (sts j).nx) (hnx0 : ∀ y, (sts 0).nx ≤ y → s0.mem y = .fresh) (hkey : ∀ j p y, ps[j]? = some p → y ∈ (mws j).map (·.1) → y < (sts (j + 1)).nx)
    (hQ : ∀ st' a' w', K st' → Sat E st'.toS a' w' → Q .normal a' w') :
    ∀ (fuel : Nat) (listed : Array Bool) (a : Act) (w : World), listed.size = os.size → Sat E (FSt ps vs mws s0 (fun i => listed.getD i false) ps.length) a w →
      (∀ j o, os[j]? = some o → listed.getD j false = true → ∀ i ∈ edgesOf o, listed.getD i false = true) → left (fun i => listed.getD i false) os.size ≤ fuel →
      wpAny C.P .any os Q fuel listed a w := by
  have hlen : ps.length = os.size := by have := hr.size; omega
  have hdone : ∀ (listed : Array Bool) (a : Act) (w : World), Sat E (FSt ps vs mws s0 (fun i => listed.getD i false) ps.length) a w → (∀ i, i < os.size → listed.getD i false = true) → Q .normal a w := by
    intro listed a w hs hall
    refine hQ _ a w hK ?_
    rw [hst ps.length (Nat.le_refl _), FS_congr (f := fun _ => true) (f' := fun i => listed.getD i false) ps.length fun i hi => (hall i (by omega)).symm]
    exact hs
  have hready : ∀ (listed : Array Bool), listed.size = os.size → Region.ready .any os listed = [] → ∀ i, i < os.size → listed.getD i false = true := by
    intro listed hsz hr0 i
    induction i using Nat.strongRecOn with
    | _ i ih =>
      intro hi
      cases hl : listed.getD i false with
      | true => rfl
      | false =>
        have : i ∈ Region.ready .any os listed := by
          rw [mem_ready]
          refine ⟨?_, os[i], by simp [hi], fun e he hb => ?_⟩
          · have h1 : i < listed.size := by omega
            simp only [Array.getD, h1, dif_pos] at hl ⊢; exact hl
          · have h2 : e.on ∈ edgesOf os[i] := by
              simp only [edgesOf, List.mem_map, List.mem_filter]
              exact ⟨e, ⟨by simpa using he, hb⟩, rfl⟩
            have h3 := sortOk_spec os.toList 0 hso i os[i] (by simp [hi]) e.on h2
            exact ih e.on (by omega) (by omega)
        rw [hr0] at this; cases this
  intro fuel
  induction fuel with
  | zero =>
    intro listed a w hsz hs hcl hle
    have hall := left_zero (f := fun i => listed.getD i false) os.size (by omega)
    refine ⟨?_, hdone listed a w hs hall⟩
    cases hrd : Region.ready .any os listed with
    | nil => rfl
    | cons i rs =>
      have : i ∈ Region.ready .any os listed := by rw [hrd]; simp
      rw [mem_ready] at this
      obtain ⟨h1, o, ho, _⟩ := this
      have hi := (Array.getElem?_eq_some_iff.1 ho).1
      have := hall i hi
      have h2 : i < listed.size := by omega
      simp only [Array.getD, h2, dif_pos] at h1 this
      rw [this] at h1; cases h1
  | succ fuel ih =>
    intro listed a w hsz hs hcl hle
    refine ⟨fun hr0 => hdone listed a w hs (hready listed hsz hr0), fun i hi => ?_⟩
    rw [mem_ready] at hi
    obtain ⟨hl, o, ho, hed⟩ := hi
    have hlt := (Array.getElem?_eq_some_iff.1 ho).1
    have hlt2 : i < listed.size := by omega
    have hl : listed.getD i false = false := by
      simp only [Array.getD, hlt2, dif_pos] at hl ⊢; exact hl
    obtain ⟨p, hp, hpo⟩ := hr.at (j := i) (by rw [Nat.zero_add]; exact ho)
    have hedge : ∀ k ∈ edgesOf o, listed.getD k false = true := by
      intro k hk
      simp only [edgesOf, List.mem_map, List.mem_filter] at hk
      obtain ⟨e, ⟨he, hb⟩, rfl⟩ := hk
      exact hed e (by simpa using he) hb
    have hset : (listed.setIfInBounds i true).getD i false = true := by simp [Array.getD, hlt2]
    have hsetne : ∀ k, k ≠ i → (listed.setIfInBounds i true).getD k false = listed.getD k false := fun k hk => getD_set_ne false (Ne.symm hk)
    have hcl' : ∀ j o, os[j]? = some o → (listed.setIfInBounds i true).getD j false = true → ∀ k ∈ edgesOf o, (listed.setIfInBounds i true).getD k false = true := by
      intro j o' ho' hj k hk
      by_cases hji : j = i
      · subst hji
        rw [ho] at ho'; cases ho'
        exact getD_set_true (hedge k hk)
      · rw [hsetne j hji] at hj
        exact getD_set_true (hcl j o' ho' hj k hk)
    have hanc : ∀ j, (listed.setIfInBounds i true).getD j false = true → ∀ k ∈ (ancs [] (os.toList.map edgesOf)).getD j [], (listed.setIfInBounds i true).getD k false = true :=
      ancs_spec (D := fun j => (listed.setIfInBounds i true).getD j false = true) _ [] (fun j e he hD => by
        simp only [List.getElem?_map, Option.map_eq_some_iff] at he
        obtain ⟨o', ho', rfl⟩ := he
        exact hcl' j o' (by simpa using ho') (by simpa using hD)) (fun j _ k hk => by simp at hk)
    have hanc0 : ∀ j, listed.getD j false = true → ∀ k ∈ (ancs [] (os.toList.map edgesOf)).getD j [], listed.getD k false = true :=
      ancs_spec (D := fun j => listed.getD j false = true) _ [] (fun j e he hD => by
        simp only [List.getElem?_map, Option.map_eq_some_iff] at he
        obtain ⟨o', ho', rfl⟩ := he
        exact hcl j o' (by simpa using ho') (by simpa using hD)) (fun j _ k hk => by simp at hk)
    have hbef : ∀ k q, k < i → ps[k]? = some q → conf q p = true → listed.getD k false = true := by
      intro k q hk hq hc
      have := hanc i hset k (chkOrd_spec hco hk hq hp hc)
      rwa [hsetne k (by omega)] at this
    have haft : ∀ k q, i < k → ps[k]? = some q → conf p q = true → listed.getD k false = false := by
      intro k q hk hq hc
      cases hlk : listed.getD k false with
      | false => rfl
      | true =>
        have := hanc0 k hlk i (chkOrd_spec hco hk hp hq hc)
        rw [hl] at this; cases this
    -- an elder operation that need not come first is independent; so is a later one that is done already
    have hbefM : ∀ k, k < i → listed.getD k false = false → k ∉ (ancs [] (os.toList.map edgesOf)).getD i [] := fun k hk hlk hh => by
      have := hanc i hset k hh
      rw [hsetne k (by omega), hlk] at this; cases this
    have haftM : ∀ k, i < k → listed.getD k false = true → i ∉ (ancs [] (os.toList.map edgesOf)).getD k [] := fun k hk hlk hh => by
      have := hanc0 k hlk i hh
      rw [hl] at this; cases this
    obtain ⟨hmw, haop, hcap, hind⟩ := hv i p hp
    have hil : i < ps.length := (List.getElem?_eq_some_iff.1 hp).1
    have hsi := hst i (Nat.le_of_lt hil)
    -- rows that the operation comes to are as in the text's order
    have hrow : ∀ y, (y ∈ idsAll (valsOf C (sts i) p.xs) ∨ y ∈ (mws i).map (·.1)) → (FSt ps vs mws s0 (fun k => listed.getD k false) ps.length).mem y = (sts i).toS.mem y := fun y hy => by
      rw [hsi]
      have := FS_mem (ps := ps) (vs := vs) (mws := mws) (s := s0) (f := fun k => listed.getD k false) (j := i) (y := y) (fun k q hk hq hyk => ?_) (fun k q hk hq hyk => ?_) ps.length
      · rw [this, Nat.min_eq_right (Nat.le_of_lt hil)]
      · cases hlk : listed.getD k false with
        | true => rfl
        | false =>
          obtain ⟨g1, g2, g3⟩ := hind k q hk hq (hbefM k hk hlk)
          rcases hy with hy | hy
          · exact absurd hy (disj_spec g1 y hyk)
          · exact absurd hy (disj_spec g2 y hyk)
      · cases hlk : listed.getD k false with
        | false => rfl
        | true =>
          have hki : i < k := by
            rcases Nat.lt_or_eq_of_le hk with h | h
            · exact h
            · subst h; rw [hl] at hlk; cases hlk
          obtain ⟨g0, g00, g000, gg⟩ := hv k q hq
          obtain ⟨g1, g2, g3⟩ := gg i p hki hp (haftM k hki hlk)
          rcases hy with hy | hy
          · exact absurd hy (disj_spec g3 y hyk)
          · exact absurd hyk (disj_spec g2 y hy)
    have hslot : ∀ t ∈ p.rds, (sts i).toS.fr t = (FSt ps vs mws s0 (fun k => listed.getD k false) ps.length).fr t := fun t ht => by
      rw [hsi]
      rw [FS_slot (j := i) (t := t) (f := fun k => listed.getD k false) (fun k q hk hq hd => hbef k q hk hq (conf_reads hd (.inl ht)).1) (fun k q hk hq hd => ?_) ps.length, Nat.min_eq_right (Nat.le_of_lt hil)]
      by_cases hki : k = i
      · subst hki; exact hl
      · exact haft k q (by omega) hq ((conf_reads hd (.inl ht)).2 ht)
    have haop2 := aopS_congr (s2 := FSt ps vs mws s0 (fun k => listed.getD k false) ps.length) hslot (fun y hy => (hrow y (.inl (by rw [valsOf_toS]; exact hy))).symm) (fun y hy => (hrow y (.inr hy)).symm) (fun f caps vals _ hvals c hc => by
      rw [valsOf_toS, hvals] at hcap
      exact flatCaps_at hcap c hc) haop
    have hfin : ∃ id, (FSt ps vs mws s0 (fun k => listed.getD k false) ps.length).mem id = .fresh ∧ aopS C p (FSt ps vs mws s0 (fun k => listed.getD k false) ps.length) id (fun v mw => v = vs i ∧ mw = mws i) := by
      rcases aopS_id haop2 with h1 | h1
      · exact ⟨_, by rw [hrow _ (.inr h1)]; exact (sts i).m_nx, haop2⟩
      · refine ⟨(sts ps.length).nx, ?_, h1 _ (hnx i _ (Nat.le_of_lt hil))⟩
        rw [FS_mem (j := 0) (f := fun k => listed.getD k false) (fun k q hk => by omega) (fun k q _ hq hyk => by
          have h2 := hkey k q _ hq hyk
          have h3 := hnx (k + 1) ps.length (List.getElem?_eq_some_iff.1 hq).1
          omega) ps.length]
        simp only [Nat.min_zero, FSt]
        exact hnx0 _ (hnx 0 _ (Nat.zero_le _))
    obtain ⟨id, hid, haop3⟩ := hfin
    obtain ⟨W, μ, hs⟩ := hs
    have key := aopS_sound hs hG hid hpo haop3 (Q := Q) (k := wpAny C.P .any os Q fuel (listed.setIfInBounds i true)) (fun v mw a' w' hvm hs' => by
      obtain ⟨rfl, rfl⟩ := hvm
      refine ih _ a' w' (by simpa using hsz) ?_ hcl' ?_
      · obtain ⟨e1, e2⟩ := FS_put (vs := vs) (mws := mws) (s := s0) (f := fun k => listed.getD k false) hp hl (fun k => (listed.setIfInBounds i true).getD k false) hset hsetne (fun k q hk hq hfk => by
          cases hc : conf p q with
          | false => rfl
          | true => have := haft k q hk hq hc; exact absurd (this.symm.trans hfk) (by simp)) (fun k q hk hq hfk y hy hyk => by
          obtain ⟨g0, g00, g000, gg⟩ := hv k q hq
          obtain ⟨g1, g2, g3⟩ := gg i p hk hp (haftM k hk hfk)
          exact disj_spec g2 y hy hyk) ps.length
        have e : FSt ps vs mws s0 (fun k => (listed.setIfInBounds i true).getD k false) ps.length = ⟨setF (FSt ps vs mws s0 (fun k => listed.getD k false) ps.length).fr p.dst (vs i), setM (FSt ps vs mws s0 (fun k => listed.getD k false) ps.length).mem (mws i)⟩ := by
          have h1 : (FSt ps vs mws s0 (fun k => (listed.setIfInBounds i true).getD k false) ps.length).fr = setF (FSt ps vs mws s0 (fun k => listed.getD k false) ps.length).fr p.dst (vs i) := funext fun t => by
            rw [e1 t, setF_at]; simp only [hil, true_and]
          have h2 : (FSt ps vs mws s0 (fun k => (listed.setIfInBounds i true).getD k false) ps.length).mem = setM (FSt ps vs mws s0 (fun k => listed.getD k false) ps.length).mem (mws i) := funext fun y => by
            rw [e2 y, if_pos hil]
          rw [← h1, ← h2]
        rw [e]; exact hs'
      · have := left_set (f := fun k => listed.getD k false) (f' := fun k => (listed.setIfInBounds i true).getD k false) (j := i) hl hset hsetne os.size
        rw [if_pos hlt] at this
        omega)
    simp only [wpOp, ho]
    split at key
    · rename_i hw; rw [if_pos hw]; exact .inl key
    · rename_i hw; rw [if_neg hw]; exact key

theorem nxt_mono : ∀ (mw : List (Nat × MS)) (nx : Nat), nx ≤ nxt nx mw
  | [], nx => Nat.le_refl _
  | q :: mw, nx => by
    simp only [nxt]
    refine Nat.le_trans ?_ (nxt_mono mw _)
    split <;> omega
theorem mw_key : ∀ {mw : List (Nat × MS)} {nx : Nat}, mwOk nx mw → ∀ y ∈ mw.map (·.1), y < nxt nx mw
  | q :: mw, nx, h, y, hy => by
    obtain ⟨h1, h2, h3⟩ := h
    simp only [nxt]
    rcases List.mem_cons.1 hy with rfl | hy
    · refine Nat.lt_of_lt_of_le ?_ (nxt_mono mw _)
      show q.1 < _
      split <;> omega
    · exact mw_key h3 y hy

theorem aw_regm {Q : Exit → St → Prop} {st : St} {dr : List Nat} {an : List (List Nat)} {ops : List POp} (hm : C.P.follows .mixedOrders = true) (hG : E.G = C.G) (h : arunM C an ops st [] fun s => Q .normal (s.drop dr)) : AW C E (.regm dr an ops) Q st := fun code hc a w hs => by
  cases code with
  | region id os d =>
   cases d with
   | false => simp [chkC] at hc
   | true =>
    simp only [chkC, Bool.and_eq_true, beq_iff_eq] at hc
    obtain ⟨hc1, hc2, hc3, hc4⟩ := hc
    have hr : ROk C E.N os 0 ops := by
      obtain ⟨P, G⟩ := C
      exact chkR_spec os.toList ops 0 hc1 (by simp) (by simp)
    obtain ⟨vs, mws, sts, hK, h0, hv⟩ := arunM_vals ops st [] h
    subst hc4
    have hnx1 : ∀ j, (sts j).nx ≤ (sts (j + 1)).nx ∨ ops.length ≤ j := fun j => by
      by_cases hj : j < ops.length
      · obtain ⟨g1, g2, _⟩ := hv j ops[j] (by simp [hj])
        left; rw [g1]; exact nxt_mono _ _
      · right; omega
    -- the states behind the end do not matter: they are held still
    let sts' : Nat → St := fun j => if j ≤ ops.length then sts j else sts ops.length
    have hs' : ∀ j, j ≤ ops.length → sts' j = sts j := fun j hj => if_pos hj
    have hs2 : ∀ j, ops.length ≤ j → sts' j = sts ops.length := fun j hj => by
      show (if j ≤ ops.length then sts j else sts ops.length) = _
      split
      · rw [show j = ops.length by omega]
      · rfl
    have hstep : ∀ j, (sts' j).nx ≤ (sts' (j + 1)).nx := fun j => by
      by_cases hj : j < ops.length
      · rw [hs' j (by omega), hs' (j + 1) (by omega)]
        rcases hnx1 j with h1 | h1
        · exact h1
        · omega
      · rw [hs2 j (by omega), hs2 (j + 1) (by omega)]; exact Nat.le_refl _
    have hmono : ∀ i j, i ≤ j → (sts' i).nx ≤ (sts' j).nx := fun i j hij => by
      induction j with
      | zero => rw [show i = 0 by omega]; exact Nat.le_refl _
      | succ j ih =>
        by_cases hi : i = j + 1
        · rw [hi]; exact Nat.le_refl _
        · exact Nat.le_trans (ih (by omega)) (hstep j)
    have hFS : ∀ j, j ≤ ops.length → (sts' j).toS = FSt ops vs mws st.toS (fun _ => true) j := fun j hj => by
      rw [hs' j hj]
      induction j with
      | zero => rw [h0]; rfl
      | succ j ih =>
        obtain ⟨g1, g2, _⟩ := hv j ops[j] (by simp [show j < ops.length by omega])
        have ih := ih (by omega)
        rw [g1, toS_app _ _ _ _ g2]
        have hq : ops[j]? = some ops[j] := by simp [show j < ops.length by omega]
        simp only [FSt, hq, if_true]
        rw [← ih]
        rfl
    refine wp_region_any hm ?_
    refine any_soundM (s0 := st.toS) (vs := vs) (mws := mws) (sts := sts') (K := fun s => Q .normal (s.drop dr)) hG hr hc2 hc3 (by rw [hs' _ (Nat.le_refl _)]; exact hK) hFS (fun j p hp => ?_) hmono (fun y hy => ?_) (fun j p y hp hy => ?_) (fun st' a' w' hQ hs' => ⟨_, hQ, hs'.drop⟩) os.size _ a _ (by simp) ?_ (fun j o ho hj => ?_) ?_
    · have hj := (List.getElem?_eq_some_iff.1 hp).1
      obtain ⟨g1, g2, g3, g4, _, g6⟩ := hv j p hp
      rw [hs' j (by omega)]
      refine ⟨g2, g3, g4, fun i q hi hq hn => ?_⟩
      rw [hs' i (by omega)]
      simp only [List.length_nil, Nat.zero_add] at g6
      exact g6 i q hi hq hn
    · rw [hs' 0 (Nat.zero_le _), h0] at hy
      exact m_fresh st y hy
    · have hj := (List.getElem?_eq_some_iff.1 hp).1
      obtain ⟨g1, g2, _⟩ := hv j p hp
      rw [hs' (j + 1) (by omega), g1]
      exact mw_key g2 y hy
    · have e : FSt ops vs mws st.toS (fun i => (Array.replicate os.size false).getD i false) ops.length = FSt ops vs mws st.toS (fun _ => false) ops.length := FS_congr _ fun i _ => by simp [Array.getD]
      have e2 : ∀ n, FSt ops vs mws st.toS (fun _ => false) n = st.toS := fun n => by
        induction n with
        | zero => rfl
        | succ n ih => simp only [FSt, ih, Bool.false_eq_true, if_false]; split <;> rfl
      rw [e, e2]
      exact hs.drawn
    · simp [Array.getD] at hj
    · have : ∀ n, left (fun i => (Array.replicate os.size false).getD i false) n ≤ n := fun n => by
        induction n with
        | zero => exact Nat.le_refl _
        | succ n ih => simp only [left]; split <;> omega
      exact this _
  | _ => simp [chkC] at hc
end
end Ab
end Go.Proofs.YtmegjomldcfoaaaDoor
