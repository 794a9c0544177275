/-
  Regions that draw their order: whatever the order, what the text's order says.
-/
import Derived.Test.YtmegjomldcfoaaaDoorAb18
namespace Go.Proofs.YtmegjomldcfoaaaDoor
namespace Ab

section
variable {C : Cx} {E : Env}

theorem Sat.drawn {s : S} {a : Act} {w : World} {n : Nat} (h : Sat E s a w) : Sat E s a { w with drawn := n } := by
  obtain ⟨W, μ, hs⟩ := h
  have hk : Keeps (fun _ => False) w { w with drawn := n } := ⟨rfl, rfl, rfl, Nat.le_refl _, fun _ _ _ => rfl⟩
  exact ⟨W, μ, hs.step (Step.quiet hk hs.mem hs.inj hs.wlt) (d := none) (v := undef) (av := .any) (fun x hx => by cases hx) trivial⟩

theorem ROk.at {ops : Array Oper} {N : Nat} : ∀ {ps : List POp} {n j : Nat} {o : Oper}, ROk C N ops n ps → ops[n + j]? = some o → ∃ p, ps[j]? = some p ∧ POk C N ops o p
  | [], n, j, o, h, ho => by
    have h : n = ops.size := h
    have := (Array.getElem?_eq_some_iff.1 ho).1
    omega
  | p :: ps, n, 0, o, h, ho => by
    obtain ⟨⟨o', ho', hp⟩, _⟩ := h
    rw [Nat.add_zero, ho'] at ho; cases ho
    exact ⟨p, rfl, hp⟩
  | p :: ps, n, j + 1, o, h, ho => by
    obtain ⟨q, hq, hp⟩ := ROk.at (j := j) h.2 (by rw [← ho]; congr 1; omega)
    exact ⟨q, by simpa using hq, hp⟩

theorem SL_congr {ps : List POp} {vs : Nat → A} {st : St} {f f' : Nat → Bool} : ∀ n, (∀ i, i < n → f i = f' i) → SL ps vs st f n = SL ps vs st f' n
  | 0, _ => rfl
  | n + 1, h => by
    have ih := SL_congr (ps := ps) (vs := vs) (st := st) n fun i hi => h i (by omega)
    simp only [SL, ih, h n (by omega)]

theorem toS_congr {st st2 : St} (hs : ∀ t, st2.slot t = st.slot t) (hm : st2.mem = st.mem) (hn : st2.nx = st.nx) : st2.toS = st.toS := by
  unfold St.toS
  rw [m_congr hm hn, show st2.slot = st.slot from funext hs]

theorem any_sound {os : Array Oper} {ps : List POp} {st : St} {vs : Nat → A} {K : St → Prop} {Q : Exit → Act → World → Prop} (hG : E.G = C.G) (hr : ROk C E.N os 0 ps) (hso : POp.sortOk os.toList 0 = true)
    (hco : chkOrd ps (ancs [] (os.toList.map edgesOf)) = true) (hK : K (SL ps vs st (fun _ => true) ps.length))
    (hv : ∀ j p, ps[j]? = some p → aop C p (SL ps vs st (fun _ => true) j) (fun s => s = (SL ps vs st (fun _ => true) j).app p.dst (vs j) []))
    (hQ : ∀ st' a' w', K st' → Sat E st'.toS a' w' → Q .normal a' w') :
    ∀ (fuel : Nat) (listed : Array Bool) (a : Act) (w : World), listed.size = os.size → Sat E (SL ps vs st (fun i => listed.getD i false) ps.length).toS a w →
      (∀ j o, os[j]? = some o → listed.getD j false = true → ∀ i ∈ edgesOf o, listed.getD i false = true) → left (fun i => listed.getD i false) os.size ≤ fuel →
      wpAny C.P .any os Q fuel listed a w := by
  have hlen : ps.length = os.size := by have := hr.size; omega
  have hdone : ∀ (listed : Array Bool) (a : Act) (w : World), Sat E (SL ps vs st (fun i => listed.getD i false) ps.length).toS a w → (∀ i, i < os.size → listed.getD i false = true) → Q .normal a w := by
    intro listed a w hs hall
    refine hQ _ a w hK ?_
    rw [SL_congr (f := fun _ => true) (f' := fun i => listed.getD i false) ps.length fun i hi => (hall i (by omega)).symm]
    exact hs
  have hready : ∀ (listed : Array Bool), listed.size = os.size → Region.ready .any os listed = [] → ∀ i, i < os.size → listed.getD i false = true := by
    intro listed hsz hr0 i
    induction i using Nat.strongRecOn with
    | _ i ih =>
      intro hi
      cases hl : listed.getD i false with
      | true => rfl
      | false =>
        have : i ∈ Region.ready .any os listed := by
          rw [mem_ready]
          refine ⟨?_, os[i], by simp [hi], fun e he hb => ?_⟩
          · have h1 : i < listed.size := by omega
            simp only [Array.getD, h1, dif_pos] at hl ⊢; exact hl
          · have h2 : e.on ∈ edgesOf os[i] := by
              simp only [edgesOf, List.mem_map, List.mem_filter]
              exact ⟨e, ⟨by simpa using he, hb⟩, rfl⟩
            have h3 := sortOk_spec os.toList 0 hso i os[i] (by simp [hi]) e.on h2
            exact ih e.on (by omega) (by omega)
        rw [hr0] at this; cases this
  intro fuel
  induction fuel with
  | zero =>
    intro listed a w hsz hs hcl hle
    have hall := left_zero (f := fun i => listed.getD i false) os.size (by omega)
    refine ⟨?_, hdone listed a w hs hall⟩
    cases hrd : Region.ready .any os listed with
    | nil => rfl
    | cons i rs =>
      have : i ∈ Region.ready .any os listed := by rw [hrd]; simp
      rw [mem_ready] at this
      obtain ⟨h1, o, ho, _⟩ := this
      have hi := (Array.getElem?_eq_some_iff.1 ho).1
      have := hall i hi
      have h2 : i < listed.size := by omega
      simp only [Array.getD, h2, dif_pos] at h1 this
      rw [this] at h1; cases h1
  | succ fuel ih =>
    intro listed a w hsz hs hcl hle
    refine ⟨fun hr0 => hdone listed a w hs (hready listed hsz hr0), fun i hi => ?_⟩
    rw [mem_ready] at hi
    obtain ⟨hl, o, ho, hed⟩ := hi
    have hlt := (Array.getElem?_eq_some_iff.1 ho).1
    have hlt2 : i < listed.size := by omega
    have hl : listed.getD i false = false := by
      simp only [Array.getD, hlt2, dif_pos] at hl ⊢; exact hl
    obtain ⟨p, hp, hpo⟩ := hr.at (j := i) (by rw [Nat.zero_add]; exact ho)
    have hedge : ∀ k ∈ edgesOf o, listed.getD k false = true := by
      intro k hk
      simp only [edgesOf, List.mem_map, List.mem_filter] at hk
      obtain ⟨e, ⟨he, hb⟩, rfl⟩ := hk
      exact hed e (by simpa using he) hb
    have hset : (listed.setIfInBounds i true).getD i false = true := by simp [Array.getD, hlt2]
    have hsetne : ∀ k, k ≠ i → (listed.setIfInBounds i true).getD k false = listed.getD k false := fun k hk => getD_set_ne false (Ne.symm hk)
    have hcl' : ∀ j o, os[j]? = some o → (listed.setIfInBounds i true).getD j false = true → ∀ k ∈ edgesOf o, (listed.setIfInBounds i true).getD k false = true := by
      intro j o' ho' hj k hk
      by_cases hji : j = i
      · subst hji
        rw [ho] at ho'; cases ho'
        exact getD_set_true (hedge k hk)
      · rw [hsetne j hji] at hj
        exact getD_set_true (hcl j o' ho' hj k hk)
    have hanc : ∀ j, (listed.setIfInBounds i true).getD j false = true → ∀ k ∈ (ancs [] (os.toList.map edgesOf)).getD j [], (listed.setIfInBounds i true).getD k false = true :=
      ancs_spec (D := fun j => (listed.setIfInBounds i true).getD j false = true) _ [] (fun j e he hD => by
        simp only [List.getElem?_map, Option.map_eq_some_iff] at he
        obtain ⟨o', ho', rfl⟩ := he
        exact hcl' j o' (by simpa using ho') (by simpa using hD)) (fun j _ k hk => by simp at hk)
    have hanc0 : ∀ j, listed.getD j false = true → ∀ k ∈ (ancs [] (os.toList.map edgesOf)).getD j [], listed.getD k false = true :=
      ancs_spec (D := fun j => listed.getD j false = true) _ [] (fun j e he hD => by
        simp only [List.getElem?_map, Option.map_eq_some_iff] at he
        obtain ⟨o', ho', rfl⟩ := he
        exact hcl j o' (by simpa using ho') (by simpa using hD)) (fun j _ k hk => by simp at hk)
    have hbef : ∀ k q, k < i → ps[k]? = some q → conf q p = true → listed.getD k false = true := by
      intro k q hk hq hc
      have := hanc i hset k (chkOrd_spec hco hk hq hp hc)
      rwa [hsetne k (by omega)] at this
    have haft : ∀ k q, i < k → ps[k]? = some q → conf p q = true → listed.getD k false = false := by
      intro k q hk hq hc
      cases hlk : listed.getD k false with
      | false => rfl
      | true =>
        have := hanc0 k hlk i (chkOrd_spec hco hk hp hq hc)
        rw [hl] at this; cases this
    have hmem := SL_mem ps vs st (fun k => listed.getD k false) ps.length
    have hmem2 := SL_mem ps vs st (fun _ => true) i
    have hil : i < ps.length := (List.getElem?_eq_some_iff.1 hp).1
    have haop : aop C p (SL ps vs st (fun k => listed.getD k false) ps.length) (fun s => s = (SL ps vs st (fun k => listed.getD k false) ps.length).app p.dst (vs i) []) := by
      refine aop_congr (st := SL ps vs st (fun _ => true) i) (by rw [hmem.1, hmem2.1]) (by rw [hmem.2, hmem2.2]) (fun t ht => ?_) (hv i p hp)
      rw [SL_look (j := i) (t := t) (fun k q hk hq hd => hbef k q hk hq (conf_reads hd (.inl ht)).1) (fun k q hk hq hd => ?_) ps.length, Nat.min_eq_right (Nat.le_of_lt hil)]
      by_cases hki : k = i
      · subst hki; exact hl
      · exact haft k q (by omega) hq ((conf_reads hd (.inl ht)).2 ht)
    obtain ⟨W, μ, hs⟩ := hs
    have key := aop_sound hs hG hpo haop (Q := Q) (k := wpAny C.P .any os Q fuel (listed.setIfInBounds i true)) (fun st' a' w' hst hs' => by
      subst hst
      refine ih _ a' w' (by simpa using hsz) ?_ hcl' ?_
      · have e : (SL ps vs st (fun k => (listed.setIfInBounds i true).getD k false) ps.length).toS = ((SL ps vs st (fun k => listed.getD k false) ps.length).app p.dst (vs i) []).toS := by
          have hm3 := SL_mem ps vs st (fun k => (listed.setIfInBounds i true).getD k false) ps.length
          refine toS_congr (fun t => ?_) ?_ ?_
          · rw [SL_put (f := fun k => listed.getD k false) hp hl (fun k => (listed.setIfInBounds i true).getD k false) hset hsetne (fun k q hk hq hfk => ?_), slot_app]
            · simp only [hil, true_and]
            · cases hc : conf p q with
              | false => rfl
              | true => have := haft k q hk hq hc; exact absurd (this.symm.trans hfk) (by simp)
          · rw [hm3.1]; exact hmem.1.symm
          · rw [hm3.2]; exact hmem.2.symm
        rw [e]; exact hs'
      · have := left_set (f := fun k => listed.getD k false) (f' := fun k => (listed.setIfInBounds i true).getD k false) (j := i) hl hset hsetne os.size
        rw [if_pos hlt] at this
        omega)
    simp only [wpOp, ho]
    split at key
    · rename_i hw; rw [if_pos hw]; exact .inl key
    · rename_i hw; rw [if_neg hw]; exact key

theorem aw_regd {Q : Exit → St → Prop} {st : St} {dr : List Nat} {ops : List POp} (hm : C.P.follows .mixedOrders = true) (hG : E.G = C.G) (h : arund C ops st fun s => Q .normal (s.drop dr)) : AW C E (.regd dr ops) Q st := fun code hc a w hs => by
  cases code with
  | region id os d =>
   cases d with
   | false => simp [chkC] at hc
   | true =>
    simp only [chkC, Bool.and_eq_true, chkDraw] at hc
    obtain ⟨hc1, hc2, hc3⟩ := hc
    have hr : ROk C E.N os 0 ops := by
      obtain ⟨P, G⟩ := C
      exact chkR_spec os.toList ops 0 hc1 (by simp) (by simp)
    obtain ⟨vs, hK, hv⟩ := arund_vals ops st h
    refine wp_region_any hm ?_
    refine any_sound (st := st) (vs := vs) hG hr hc2 hc3 hK hv (fun st' a' w' hQ hs' => ⟨_, hQ, hs'.drop⟩) os.size _ a _ (by simp) ?_ (fun j o ho hj => ?_) ?_
    · have e : SL ops vs st (fun i => (Array.replicate os.size false).getD i false) ops.length = SL ops vs st (fun _ => false) ops.length := SL_congr _ fun i _ => by simp [Array.getD]
      have e2 : ∀ n, SL ops vs st (fun _ => false) n = st := fun n => by
        induction n with
        | zero => rfl
        | succ n ih => simp only [SL, ih, Bool.false_eq_true, if_false]; split <;> rfl
      rw [e, e2]
      exact hs.drawn
    · simp [Array.getD] at hj
    · have : ∀ n, left (fun i => (Array.replicate os.size false).getD i false) n ≤ n := fun n => by
        induction n with
        | zero => exact Nat.le_refl _
        | succ n ih => simp only [left]; split <;> omega
      exact this _
  | _ => simp [chkC] at hc
end
end Ab
end Go.Proofs.YtmegjomldcfoaaaDoor
