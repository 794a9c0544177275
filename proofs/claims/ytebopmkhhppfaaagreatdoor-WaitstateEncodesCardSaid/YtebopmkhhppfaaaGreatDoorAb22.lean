import Derived.Test.YtebopmkhhppfaaaGreatDoorAb20
namespace Go.Proofs.YtebopmkhhppfaaaGreatDoor
namespace Ab
set_option linter.unusedSimpArgs false
set_option linter.unusedVariables false
section
variable {C:Cx} {E:Env}
def FSt (ps:List POp) (vs:Nat→A) (mws:Nat→List (Nat×MS)) (s:S) (f:Nat→Bool):Nat→S
  | 0=>s
  | n+1=>match ps[n]? with
    | some p=>if f n then ⟨setF (FSt ps vs mws s f n).fr p.dst (vs n),setM (FSt ps vs mws s f n).mem (mws n)⟩ else FSt ps vs mws s f n
    | none=>FSt ps vs mws s f n
theorem zM1 {y:Nat}:∀ {mw:List (Nat×MS)} {m:Nat→MS},y ∉ mw.map (·.1)→setM m mw y=m y
  | [],_,_=>rfl
  | q :: mw,m,h=>by
    simp only [setM]
    rw [zM1 fun hh=>h (.tail _ hh)]
    refine if_neg fun e=>h ?_
    rw [e]; exact .head _
theorem zbc7 {y:Nat}:∀ {mw:List (Nat×MS)} {m m2:Nat→MS},y ∈ mw.map (·.1)→setM m mw y=setM m2 mw y
  | q :: mw,m,m2,h=>by
    simp only [setM]
    by_cases h2:y ∈ mw.map (·.1)
    · exact zbc7 h2
    · rw [zM1 h2,zM1 h2]
      rcases List.mem_cons.1 h with rfl|h
      · simp
      · exact absurd h h2
theorem zbg5 {ps:List POp} {vs:Nat→A} {mws:Nat→List (Nat×MS)} {s:S} {f f':Nat→Bool}:∀ n,(∀ i,i < n→f i=f' i)→FSt ps vs mws s f n=FSt ps vs mws s f' n
  | 0,_=>rfl
  | n+1,h=>by
    have ih:=zbg5 (ps:=ps) (vs:=vs) (mws:=mws) (s:=s) n fun i hi=>h i (by omega)
    simp only [FSt,ih,h n (by omega)]
theorem zaz8 (f:Nat→A) (d:Option Nat) (v:A) (t:Nat):setF f d v t=if d=some t then v else f t:=rfl
theorem zbM9 {ps:List POp} {vs:Nat→A} {mws:Nat→List (Nat×MS)} {s:S} {f:Nat→Bool} {j t:Nat} (h1:∀ i q,i < j→ps[i]? = some q→q.dst=some t→f i=true) (h2:∀ i q,j≤i→ps[i]? = some q→q.dst=some t→f i=false) :
    ∀ n,(FSt ps vs mws s f n).fr t=(FSt ps vs mws s (fun _=>true) (min n j)).fr t
  | 0=>by simp [FSt]
  | n+1=>by
    have ih:=zbM9 (vs:=vs) (mws:=mws) (s:=s) h1 h2 n
    by_cases hn:n < j
    · rw [show min (n+1) j=n+1 by omega]
      rw [show min n j=n by omega] at ih
      simp only [FSt]
      cases hq:ps[n]? with
      | none=>exact ih
      | some q =>
        simp only [if_true]
        by_cases hd:q.dst=some t
        · rw [h1 n q hn hq hd]; simp [zaz8,hd]
        · rw [zaz8,if_neg hd]
          split
          · simp only [zaz8,if_neg hd]; exact ih
          · exact ih
    · rw [show min (n+1) j=j by omega]
      rw [show min n j=j by omega] at ih
      simp only [FSt]
      cases hq:ps[n]? with
      | none=>exact ih
      | some q =>
        simp only []
        by_cases hd:q.dst=some t
        · rw [h2 n q (by omega) hq hd]; simpa using ih
        · split
          · simp only [zaz8,if_neg hd]; exact ih
          · exact ih
theorem zbH4 {ps:List POp} {vs:Nat→A} {mws:Nat→List (Nat×MS)} {s:S} {f:Nat→Bool} {j y:Nat} (h1:∀ i q,i < j→ps[i]? = some q→y ∈ (mws i).map (·.1)→f i=true) (h2:∀ i q,j≤i→ps[i]? = some q→y ∈ (mws i).map (·.1)→f i=false) :
    ∀ n,(FSt ps vs mws s f n).mem y=(FSt ps vs mws s (fun _=>true) (min n j)).mem y
  | 0=>by simp [FSt]
  | n+1=>by
    have ih:=zbH4 (vs:=vs) (mws:=mws) (s:=s) h1 h2 n
    by_cases hn:n < j
    · rw [show min (n+1) j=n+1 by omega]
      rw [show min n j=n by omega] at ih
      simp only [FSt]
      cases hq:ps[n]? with
      | none=>exact ih
      | some q =>
        simp only [if_true]
        by_cases hd:y ∈ (mws n).map (·.1)
        · rw [h1 n q hn hq hd]; simp only [if_true]; exact zbc7 hd
        · rw [zM1 hd]
          split
          · show setM _ _ _=_
            rw [zM1 hd]; exact ih
          · exact ih
    · rw [show min (n+1) j=j by omega]
      rw [show min n j=j by omega] at ih
      simp only [FSt]
      cases hq:ps[n]? with
      | none=>exact ih
      | some q =>
        simp only []
        by_cases hd:y ∈ (mws n).map (·.1)
        · rw [h2 n q (by omega) hq hd]; simpa using ih
        · split
          · show setM _ _ _=_
            rw [zM1 hd]; exact ih
          · exact ih
theorem zbV9 {ps:List POp} {vs:Nat→A} {mws:Nat→List (Nat×MS)} {s:S} {f:Nat→Bool} {j:Nat} {p:POp} (hp:ps[j]? = some p) (hf:f j=false) (f':Nat→Bool) (hj:f' j=true) (hf':∀ i,i≠j→f' i=f i)
    (hc:∀ i q,j < i→ps[i]? = some q→f i=true→conf p q=false) (hm:∀ i q,j < i→ps[i]? = some q→f i=true→∀ y ∈ (mws j).map (·.1),y ∉ (mws i).map (·.1)) :
    ∀ n,(∀ t,(FSt ps vs mws s f' n).fr t=if j < n∧p.dst=some t then vs j else (FSt ps vs mws s f n).fr t)∧∀ y,(FSt ps vs mws s f' n).mem y=if j < n then setM (FSt ps vs mws s f n).mem (mws j) y else (FSt ps vs mws s f n).mem y
  | 0=>by simp [FSt]
  | n+1=>by
    obtain ⟨ih,ih2⟩:=zbV9 (vs:=vs) (mws:=mws) (s:=s) hp hf f' hj hf' hc hm n
    by_cases hn:n=j
    · subst hn
      simp only [FSt,hp,hj,hf,if_true,Bool.false_eq_true,if_false]
      refine ⟨fun t=>?_,fun y=>?_⟩
      · rw [zaz8]
        by_cases hd:p.dst=some t
        · simp [hd]
        · simp only [hd,if_false,and_false]
          have:=ih t
          simpa [hd] using this
      · rw [if_pos (Nat.lt_succ_self n)]
        have e:(FSt ps vs mws s f' n).mem=(FSt ps vs mws s f n).mem:=funext fun z=>by have:=ih2 z; simpa using this
        rw [e]
    · have hlt:j < n+1 ↔ j < n:=by omega
      simp only [FSt,hf' n hn,hlt]
      cases hq:ps[n]? with
      | none=>exact ⟨by simpa using ih,by simpa using ih2⟩
      | some q =>
        simp only []
        split
        · rename_i hfn
          refine ⟨fun t=>?_,fun y=>?_⟩
          · simp only [zaz8,ih t]
            by_cases hd:q.dst=some t
            · simp only [hd,if_true]
              by_cases hjn:j < n
              · have:=hc n q hjn hq hfn
                unfold conf at this
                by_cases hpd:p.dst=some t
                · simp [hpd,hd] at this
                · simp [hpd]
              · simp [hjn]
            · simp [hd]
          · by_cases hjn:j < n
            · simp only [hjn,if_true] at ih2 ⊢
              have hdj:=hm n q hjn hq hfn
              by_cases h1:y ∈ (mws n).map (·.1)
              · rw [zM1 (mw:=mws j) fun hh=>hdj y hh h1]
                exact zbc7 h1
              · rw [zM1 h1,ih2 y]
                by_cases h2:y ∈ (mws j).map (·.1)
                · exact zbc7 h2
                · rw [zM1 h2,zM1 h2,zM1 h1]
            · simp only [hjn,if_false] at ih2 ⊢
              have e:(FSt ps vs mws s f' n).mem=(FSt ps vs mws s f n).mem:=funext ih2
              rw [e]
        · exact ⟨ih,ih2⟩
theorem zao7:∀ {x y:List Nat},disj x y=true→∀ z ∈ x,z ∉ y
  | a :: x,y,h,z,hz=>by
    simp only [disj,Bool.and_eq_true,Bool.not_eq_true',List.contains_eq_mem,decide_eq_false_iff_not] at h
    rcases List.mem_cons.1 hz with rfl|hz
    · exact h.1
    · exact zao7 h.2 z hz
theorem zbg6 {an:List Nat}:∀ {log:List (List Nat×List Nat)} {i:Nat} {r w:List Nat},zaF2 an i log r w=true→∀ n q,log[n]? = some q→i+n ∉ an→disj q.2 r=true∧disj q.2 w=true∧disj w q.1=true
  | x :: log,i,r,w,h,n,q,hq,hn=>by
    simp only [zaF2,Bool.and_eq_true,Bool.or_eq_true] at h
    cases n with
    | zero =>
      simp at hq; subst hq
      rcases h.1 with h1|h1
      · exact absurd (by simpa using h1) hn
      · exact ⟨h1.1.1,h1.1.2,h1.2⟩
    | succ n=>exact zbg6 h.2 n q (by simpa using hq) (by rwa [show i+1+n=i+(n+1) by omega])
theorem zbg7 {an:List (List Nat)} {K:St→Prop}:∀ (ps:List POp) (st:St) (log:List (List Nat×List Nat)),zal0 C an ps st log K→∃ (vs:Nat→A) (mws:Nat→List (Nat×MS)) (sts:Nat→St),K (sts ps.length)∧sts 0=st ∧
    ∀ j p,ps[j]? = some p→sts (j+1)=(sts j).app p.dst (vs j) (mws j)∧mwOk (sts j).nx (mws j)∧aopS C p (sts j).toS (sts j).nx (fun v mw=>v=vs j∧mw=mws j)∧zaz5 (zk1 C (sts j) p.xs)=true ∧
      (∀ i q,i < log.length→log[i]? = some q→i ∉ an.getD (log.length+j) []→disj q.2 (zw8 (zk1 C (sts j) p.xs))=true∧disj q.2 ((mws j).map (·.1))=true∧disj ((mws j).map (·.1)) q.1=true) ∧
      (∀ i q,i < j→ps[i]? = some q→log.length+i ∉ an.getD (log.length+j) []→disj ((mws i).map (·.1)) (zw8 (zk1 C (sts j) p.xs))=true∧disj ((mws i).map (·.1)) ((mws j).map (·.1))=true∧disj ((mws j).map (·.1)) (zw8 (zk1 C (sts i) q.xs))=true)
  | [],st,log,h=>⟨fun _=>.any,fun _=>[],fun _=>st,h,rfl,fun j p hp=>by simp at hp⟩
  | p :: ps,st,log,h=>by
    obtain ⟨v,mw,⟨hmw,hi,hcap,hrest⟩,h4⟩:=zbV7 (zcz3 h)
    obtain ⟨vs,mws,sts,h5,h6,h7⟩:=zbg7 ps _ _ hrest
    refine ⟨fun i=>match i with|0=>v|i+1=>vs i,fun i=>match i with|0=>mw|i+1=>mws i,fun i=>match i with|0=>st|i+1=>sts i,h5,rfl,fun j q hq=>?_⟩
    cases j with
    | zero =>
      simp at hq; subst hq
      refine ⟨h6,hmw,h4,hcap,fun i q hi2 hq hn=>?_,fun i q hi2=>by omega⟩
      exact zbg6 hi i q hq (by rw [Nat.zero_add]; exact hn)
    | succ j =>
      obtain ⟨g1,g2,g3,g4,g5,g6⟩:=h7 j q (by simpa using hq)
      simp only [List.length_append,List.length_cons,List.length_nil,Nat.zero_add] at g5 g6
      refine ⟨g1,g2,g3,g4,fun i x hi2 hx hn=>?_,fun i x hi2 hx hn=>?_⟩
      · exact g5 i x (by omega) (by rw [List.getElem?_append_left hi2]; exact hx) (by rwa [show log.length+1+j=log.length+(j+1) by omega])
      · cases i with
        | zero =>
          simp at hx; subst hx
          have:=g5 log.length (zw8 (zk1 C st p.xs),mw.map (·.1)) (by omega) (by rw [List.getElem?_append_right (Nat.le_refl _)]; simp) (by rw [show log.length+1+j=log.length+(j+1) by omega]; exact hn)
          exact this
        | succ i =>
          exact g6 i x (by omega) (by simpa using hx) (by rw [show log.length+1+j=log.length+(j+1) by omega,show log.length+1+i=log.length+(i+1) by omega]; exact hn)
theorem zbg8 {st:St} (xs:List PX):zk1 C st xs=zE2 C st.toS.fr xs:=zaP8 xs
theorem zbH5 {os:Array Oper} {ps:List POp} {s0:S} {vs:Nat→A} {mws:Nat→List (Nat×MS)} {sts:Nat→St} {K:St→Prop} {Q:Exit→Act→World→Prop} (hG:E.G=C.G) (hr:ROk C E.N os 0 ps) (hso:POp.sortOk os.toList 0=true)
    (hco:zaU5 ps (ancs [] (os.toList.map zz1))=true) (hK:K (sts ps.length))
    (hst:∀ j,j≤ps.length→(sts j).toS=FSt ps vs mws s0 (fun _=>true) j)
    (hv:∀ j p,ps[j]? = some p→mwOk (sts j).nx (mws j)∧aopS C p (sts j).toS (sts j).nx (fun v mw=>v=vs j∧mw=mws j)∧zaz5 (zk1 C (sts j) p.xs)=true ∧
      (∀ i q,i < j→ps[i]? = some q→i ∉ (ancs [] (os.toList.map zz1)).getD j []→disj ((mws i).map (·.1)) (zw8 (zk1 C (sts j) p.xs))=true∧disj ((mws i).map (·.1)) ((mws j).map (·.1))=true∧disj ((mws j).map (·.1)) (zw8 (zk1 C (sts i) q.xs))=true))
    (hnx:∀ i j,i≤j→(sts i).nx≤(sts j).nx) (hnx0:∀ y,(sts 0).nx≤y→s0.mem y=.fresh) (hkey:∀ j p y,ps[j]? = some p→y ∈ (mws j).map (·.1)→y < (sts (j+1)).nx)
    (hQ:∀ st' a' w',K st'→Sat E st'.toS a' w'→Q .normal a' w') :
    ∀ (fuel:Nat) (listed:Array Bool) (a:Act) (w:World),listed.size=os.size→Sat E (FSt ps vs mws s0 (fun i=>listed.getD i false) ps.length) a w →
      (∀ j o,os[j]? = some o→listed.getD j false=true→∀ i ∈ zz1 o,listed.getD i false=true)→left (fun i=>listed.getD i false) os.size≤fuel →
      wpAny C.P .any os Q fuel listed a w:=by
  have hlen:ps.length=os.size:=by have:=hr.size; omega
  have hdone:∀ (listed:Array Bool) (a:Act) (w:World),Sat E (FSt ps vs mws s0 (fun i=>listed.getD i false) ps.length) a w→(∀ i,i < os.size→listed.getD i false=true)→Q .normal a w:=by
    intro listed a w hs hall
    refine hQ _ a w hK ?_
    rw [hst ps.length (Nat.le_refl _),zbg5 (f:=fun _=>true) (f':=fun i=>listed.getD i false) ps.length fun i hi=>(hall i (by omega)).symm]
    exact hs
  have hready:∀ (listed:Array Bool),listed.size=os.size→Region.ready .any os listed=[]→∀ i,i < os.size→listed.getD i false=true:=by
    intro listed hsz hr0 i
    induction i using Nat.strongRecOn with
    | _ i ih =>
      intro hi
      cases hl:listed.getD i false with
      | true=>rfl
      | false =>
        have:i ∈ Region.ready .any os listed:=by
          rw [mem_ready]
          refine ⟨?_,os[i],by simp [hi],fun e he hb=>?_⟩
          · have h1:i < listed.size:=by omega
            simp only [Array.getD,h1,dif_pos] at hl ⊢; exact hl
          · have h2:e.on ∈ zz1 os[i]:=by
              simp only [zz1,List.mem_map,List.mem_filter]
              exact ⟨e,⟨by simpa using he,hb⟩,rfl⟩
            have h3:=zaF0 os.toList 0 hso i os[i] (by simp [hi]) e.on h2
            exact ih e.on (by omega) (by omega)
        rw [hr0] at this; cases this
  intro fuel
  induction fuel with
  | zero =>
    intro listed a w hsz hs hcl hle
    have hall:=zaU8 (f:=fun i=>listed.getD i false) os.size (by omega)
    refine ⟨?_,hdone listed a w hs hall⟩
    cases hrd:Region.ready .any os listed with
    | nil=>rfl
    | cons i rs =>
      have:i ∈ Region.ready .any os listed:=by rw [hrd]; simp
      rw [mem_ready] at this
      obtain ⟨h1,o,ho,_⟩:=this
      have hi:=(Array.getElem?_eq_some_iff.1 ho).1
      have:=hall i hi
      have h2:i < listed.size:=by omega
      simp only [Array.getD,h2,dif_pos] at h1 this
      rw [this] at h1; cases h1
  | succ fuel ih =>
    intro listed a w hsz hs hcl hle
    refine ⟨fun hr0=>hdone listed a w hs (hready listed hsz hr0),fun i hi=>?_⟩
    rw [mem_ready] at hi
    obtain ⟨hl,o,ho,hed⟩:=hi
    have hlt:=(Array.getElem?_eq_some_iff.1 ho).1
    have hlt2:i < listed.size:=by omega
    have hl:listed.getD i false=false:=by
      simp only [Array.getD,hlt2,dif_pos] at hl ⊢; exact hl
    obtain ⟨p,hp,hpo⟩:=hr.at (j:=i) (by rw [Nat.zero_add]; exact ho)
    have hedge:∀ k ∈ zz1 o,listed.getD k false=true:=by
      intro k hk
      simp only [zz1,List.mem_map,List.mem_filter] at hk
      obtain ⟨e,⟨he,hb⟩,rfl⟩:=hk
      exact hed e (by simpa using he) hb
    have hset:(listed.setIfInBounds i true).getD i false=true:=by simp [Array.getD,hlt2]
    have hsetne:∀ k,k≠i→(listed.setIfInBounds i true).getD k false=listed.getD k false:=fun k hk=>getD_set_ne false (Ne.symm hk)
    have hcl':∀ j o,os[j]? = some o→(listed.setIfInBounds i true).getD j false=true→∀ k ∈ zz1 o,(listed.setIfInBounds i true).getD k false=true:=by
      intro j o' ho' hj k hk
      by_cases hji:j=i
      · subst hji
        rw [ho] at ho'; cases ho'
        exact getD_set_true (hedge k hk)
      · rw [hsetne j hji] at hj
        exact getD_set_true (hcl j o' ho' hj k hk)
    have hanc:∀ j,(listed.setIfInBounds i true).getD j false=true→∀ k ∈ (ancs [] (os.toList.map zz1)).getD j [],(listed.setIfInBounds i true).getD k false=true :=
      zaw1 (D:=fun j=>(listed.setIfInBounds i true).getD j false=true) _ [] (fun j e he hD=>by
        simp only [List.getElem?_map,Option.map_eq_some_iff] at he
        obtain ⟨o',ho',rfl⟩:=he
        exact hcl' j o' (by simpa using ho') (by simpa using hD)) (fun j _ k hk=>by simp at hk)
    have hanc0:∀ j,listed.getD j false=true→∀ k ∈ (ancs [] (os.toList.map zz1)).getD j [],listed.getD k false=true :=
      zaw1 (D:=fun j=>listed.getD j false=true) _ [] (fun j e he hD=>by
        simp only [List.getElem?_map,Option.map_eq_some_iff] at he
        obtain ⟨o',ho',rfl⟩:=he
        exact hcl j o' (by simpa using ho') (by simpa using hD)) (fun j _ k hk=>by simp at hk)
    have hbef:∀ k q,k < i→ps[k]? = some q→conf q p=true→listed.getD k false=true:=by
      intro k q hk hq hc
      have:=hanc i hset k (zat2 hco hk hq hp hc)
      rwa [hsetne k (by omega)] at this
    have haft:∀ k q,i < k→ps[k]? = some q→conf p q=true→listed.getD k false=false:=by
      intro k q hk hq hc
      cases hlk:listed.getD k false with
      | false=>rfl
      | true =>
        have:=hanc0 k hlk i (zat2 hco hk hp hq hc)
        rw [hl] at this; cases this
    have hbefM:∀ k,k < i→listed.getD k false=false→k ∉ (ancs [] (os.toList.map zz1)).getD i []:=fun k hk hlk hh=>by
      have:=hanc i hset k hh
      rw [hsetne k (by omega),hlk] at this; cases this
    have haftM:∀ k,i < k→listed.getD k false=true→i ∉ (ancs [] (os.toList.map zz1)).getD k []:=fun k hk hlk hh=>by
      have:=hanc0 k hlk i hh
      rw [hl] at this; cases this
    obtain ⟨hmw,haop,hcap,hind⟩:=hv i p hp
    have hil:i < ps.length:=(List.getElem?_eq_some_iff.1 hp).1
    have hsi:=hst i (Nat.le_of_lt hil)
    have hrow:∀ y,(y ∈ zw8 (zk1 C (sts i) p.xs)∨y ∈ (mws i).map (·.1))→(FSt ps vs mws s0 (fun k=>listed.getD k false) ps.length).mem y=(sts i).toS.mem y:=fun y hy=>by
      rw [hsi]
      have:=zbH4 (ps:=ps) (vs:=vs) (mws:=mws) (s:=s0) (f:=fun k=>listed.getD k false) (j:=i) (y:=y) (fun k q hk hq hyk=>?_) (fun k q hk hq hyk=>?_) ps.length
      · rw [this,Nat.min_eq_right (Nat.le_of_lt hil)]
      · cases hlk:listed.getD k false with
        | true=>rfl
        | false =>
          obtain ⟨g1,g2,g3⟩:=hind k q hk hq (hbefM k hk hlk)
          rcases hy with hy|hy
          · exact absurd hy (zao7 g1 y hyk)
          · exact absurd hy (zao7 g2 y hyk)
      · cases hlk:listed.getD k false with
        | false=>rfl
        | true =>
          have hki:i < k:=by
            rcases Nat.lt_or_eq_of_le hk with h|h
            · exact h
            · subst h; rw [hl] at hlk; cases hlk
          obtain ⟨g0,g00,g000,gg⟩:=hv k q hq
          obtain ⟨g1,g2,g3⟩:=gg i p hki hp (haftM k hki hlk)
          rcases hy with hy|hy
          · exact absurd hy (zao7 g3 y hyk)
          · exact absurd hyk (zao7 g2 y hy)
    have hslot:∀ t ∈ p.rds,(sts i).toS.fr t=(FSt ps vs mws s0 (fun k=>listed.getD k false) ps.length).fr t:=fun t ht=>by
      rw [hsi]
      rw [zbM9 (j:=i) (t:=t) (f:=fun k=>listed.getD k false) (fun k q hk hq hd=>hbef k q hk hq (zaz4 hd (.inl ht)).1) (fun k q hk hq hd=>?_) ps.length,Nat.min_eq_right (Nat.le_of_lt hil)]
      by_cases hki:k=i
      · subst hki; exact hl
      · exact haft k q (by omega) hq ((zaz4 hd (.inl ht)).2 ht)
    have haop2:=zbH3 (s2:=FSt ps vs mws s0 (fun k=>listed.getD k false) ps.length) hslot (fun y hy=>(hrow y (.inl (by rw [zbg8]; exact hy))).symm) (fun y hy=>(hrow y (.inr hy)).symm) (fun f caps vals _ hvals c hc=>by
      rw [zbg8,hvals] at hcap
      exact zaY8 hcap c hc) haop
    have hfin:∃ id,(FSt ps vs mws s0 (fun k=>listed.getD k false) ps.length).mem id=.fresh∧aopS C p (FSt ps vs mws s0 (fun k=>listed.getD k false) ps.length) id (fun v mw=>v=vs i∧mw=mws i):=by
      rcases zcz4 haop2 with h1|h1
      · exact ⟨_,by rw [hrow _ (.inr h1)]; exact (sts i).m_nx,haop2⟩
      · refine ⟨(sts ps.length).nx,?_,h1 _ (hnx i _ (Nat.le_of_lt hil))⟩
        rw [zbH4 (j:=0) (f:=fun k=>listed.getD k false) (fun k q hk=>by omega) (fun k q _ hq hyk=>by
          have h2:=hkey k q _ hq hyk
          have h3:=hnx (k+1) ps.length (List.getElem?_eq_some_iff.1 hq).1
          omega) ps.length]
        simp only [Nat.min_zero,FSt]
        exact hnx0 _ (hnx 0 _ (Nat.zero_le _))
    obtain ⟨id,hid,haop3⟩:=hfin
    obtain ⟨W,μ,hs⟩:=hs
    have key:=zbf6 hs hG hid hpo haop3 (Q:=Q) (k:=wpAny C.P .any os Q fuel (listed.setIfInBounds i true)) (fun v mw a' w' hvm hs'=>by
      obtain ⟨rfl,rfl⟩:=hvm
      refine ih _ a' w' (by simpa using hsz) ?_ hcl' ?_
      · obtain ⟨e1,e2⟩:=zbV9 (vs:=vs) (mws:=mws) (s:=s0) (f:=fun k=>listed.getD k false) hp hl (fun k=>(listed.setIfInBounds i true).getD k false) hset hsetne (fun k q hk hq hfk=>by
          cases hc:conf p q with
          | false=>rfl
          | true=>have:=haft k q hk hq hc; exact absurd (this.symm.trans hfk) (by simp)) (fun k q hk hq hfk y hy hyk=>by
          obtain ⟨g0,g00,g000,gg⟩:=hv k q hq
          obtain ⟨g1,g2,g3⟩:=gg i p hk hp (haftM k hk hfk)
          exact zao7 g2 y hy hyk) ps.length
        have e:FSt ps vs mws s0 (fun k=>(listed.setIfInBounds i true).getD k false) ps.length=⟨setF (FSt ps vs mws s0 (fun k=>listed.getD k false) ps.length).fr p.dst (vs i),setM (FSt ps vs mws s0 (fun k=>listed.getD k false) ps.length).mem (mws i)⟩:=by
          have h1:(FSt ps vs mws s0 (fun k=>(listed.setIfInBounds i true).getD k false) ps.length).fr=setF (FSt ps vs mws s0 (fun k=>listed.getD k false) ps.length).fr p.dst (vs i):=funext fun t=>by
            rw [e1 t,zaz8]; simp only [hil,true_and]
          have h2:(FSt ps vs mws s0 (fun k=>(listed.setIfInBounds i true).getD k false) ps.length).mem=setM (FSt ps vs mws s0 (fun k=>listed.getD k false) ps.length).mem (mws i):=funext fun y=>by
            rw [e2 y,if_pos hil]
          rw [← h1,← h2]
        rw [e]; exact hs'
      · have:=zbg2 (f:=fun k=>listed.getD k false) (f':=fun k=>(listed.setIfInBounds i true).getD k false) (j:=i) hl hset hsetne os.size
        rw [if_pos hlt] at this
        omega)
    simp only [wpOp,ho]
    split at key
    · rename_i hw; rw [if_pos hw]; exact .inl key
    · rename_i hw; rw [if_neg hw]; exact key
theorem zbg9:∀ (mw:List (Nat×MS)) (nx:Nat),nx≤nxt nx mw
  | [],nx=>Nat.le_refl _
  | q :: mw,nx=>by
    simp only [nxt]
    refine Nat.le_trans ?_ (zbg9 mw _)
    split <;> omega
theorem zbW0:∀ {mw:List (Nat×MS)} {nx:Nat},mwOk nx mw→∀ y ∈ mw.map (·.1),y < nxt nx mw
  | q :: mw,nx,h,y,hy=>by
    obtain ⟨h1,h2,h3⟩:=h
    simp only [nxt]
    rcases List.mem_cons.1 hy with rfl|hy
    · refine Nat.lt_of_lt_of_le ?_ (zbg9 mw _)
      show q.1 < _
      split <;> omega
    · exact zbW0 h3 y hy
theorem zcz5 {Q:Exit→St→Prop} {st:St} {dr:List Nat} {an:List (List Nat)} {ops:List POp} (hm:C.P.follows .mixedOrders=true) (hG:E.G=C.G) (h:zal0 C an ops st [] fun s=>Q .normal (s.drop dr)):AW C E (.regm dr an ops) Q st:=fun code hc a w hs=>by
  cases code with
  | region id os d =>
   cases d with
   | false=>simp [chkC] at hc
   | true =>
    simp only [chkC,Bool.and_eq_true,beq_iff_eq] at hc
    obtain ⟨hc1,hc2,hc3,hc4⟩:=hc
    have hr:ROk C E.N os 0 ops:=by
      obtain ⟨P,G⟩:=C
      exact zaJ1 os.toList ops 0 hc1 (by simp) (by simp)
    obtain ⟨vs,mws,sts,hK,h0,hv⟩:=zbg7 ops st [] h
    subst hc4
    have hnx1:∀ j,(sts j).nx≤(sts (j+1)).nx∨ops.length≤j:=fun j=>by
      by_cases hj:j < ops.length
      · obtain ⟨g1,g2,_⟩:=hv j ops[j] (by simp [hj])
        left; rw [g1]; exact zbg9 _ _
      · right; omega
    let sts':Nat→St:=fun j=>if j≤ops.length then sts j else sts ops.length
    have hs':∀ j,j≤ops.length→sts' j=sts j:=fun j hj=>if_pos hj
    have hs2:∀ j,ops.length≤j→sts' j=sts ops.length:=fun j hj=>by
      show (if j≤ops.length then sts j else sts ops.length)=_
      split
      · rw [show j=ops.length by omega]
      · rfl
    have hstep:∀ j,(sts' j).nx≤(sts' (j+1)).nx:=fun j=>by
      by_cases hj:j < ops.length
      · rw [hs' j (by omega),hs' (j+1) (by omega)]
        rcases hnx1 j with h1|h1
        · exact h1
        · omega
      · rw [hs2 j (by omega),hs2 (j+1) (by omega)]; exact Nat.le_refl _
    have hmono:∀ i j,i≤j→(sts' i).nx≤(sts' j).nx:=fun i j hij=>by
      induction j with
      | zero=>rw [show i=0 by omega]; exact Nat.le_refl _
      | succ j ih =>
        by_cases hi:i=j+1
        · rw [hi]; exact Nat.le_refl _
        · exact Nat.le_trans (ih (by omega)) (hstep j)
    have hFS:∀ j,j≤ops.length→(sts' j).toS=FSt ops vs mws st.toS (fun _=>true) j:=fun j hj=>by
      rw [hs' j hj]
      induction j with
      | zero=>rw [h0]; rfl
      | succ j ih =>
        obtain ⟨g1,g2,_⟩:=hv j ops[j] (by simp [show j < ops.length by omega])
        have ih:=ih (by omega)
        rw [g1,zbx2 _ _ _ _ g2]
        have hq:ops[j]? = some ops[j]:=by simp [show j < ops.length by omega]
        simp only [FSt,hq,if_true]
        rw [← ih]
        rfl
    refine wp_region_any hm ?_
    refine zbH5 (s0:=st.toS) (vs:=vs) (mws:=mws) (sts:=sts') (K:=fun s=>Q .normal (s.drop dr)) hG hr hc2 hc3 (by rw [hs' _ (Nat.le_refl _)]; exact hK) hFS (fun j p hp=>?_) hmono (fun y hy=>?_) (fun j p y hp hy=>?_) (fun st' a' w' hQ hs'=>⟨_,hQ,hs'.drop⟩) os.size _ a _ (by simp) ?_ (fun j o ho hj=>?_) ?_
    · have hj:=(List.getElem?_eq_some_iff.1 hp).1
      obtain ⟨g1,g2,g3,g4,_,g6⟩:=hv j p hp
      rw [hs' j (by omega)]
      refine ⟨g2,g3,g4,fun i q hi hq hn=>?_⟩
      rw [hs' i (by omega)]
      simp only [List.length_nil,Nat.zero_add] at g6
      exact g6 i q hi hq hn
    · rw [hs' 0 (Nat.zero_le _),h0] at hy
      exact zbx5 st y hy
    · have hj:=(List.getElem?_eq_some_iff.1 hp).1
      obtain ⟨g1,g2,_⟩:=hv j p hp
      rw [hs' (j+1) (by omega),g1]
      exact zbW0 g2 y hy
    · have e:FSt ops vs mws st.toS (fun i=>(Array.replicate os.size false).getD i false) ops.length=FSt ops vs mws st.toS (fun _=>false) ops.length:=zbg5 _ fun i _=>by simp [Array.getD]
      have e2:∀ n,FSt ops vs mws st.toS (fun _=>false) n=st.toS:=fun n=>by
        induction n with
        | zero=>rfl
        | succ n ih=>simp only [FSt,ih,Bool.false_eq_true,if_false]; split <;> rfl
      rw [e,e2]
      exact hs.drawn (Nat.le_succ _)
    · simp [Array.getD] at hj
    · have:∀ n,left (fun i=>(Array.replicate os.size false).getD i false) n≤n:=fun n=>by
        induction n with
        | zero=>exact Nat.le_refl _
        | succ n ih=>simp only [left]; split <;> omega
      exact this _
  | _=>simp [chkC] at hc
end
end Ab
end Go.Proofs.YtebopmkhhppfaaaGreatDoor
namespace Go.Proofs.YtebopmkhhppfaaaGreatDoor
namespace Ab
set_option linter.unusedSimpArgs false
set_option linter.unusedVariables false
def memN (n:Nat):List Nat→Bool
 | []=>false
 | m :: ms=>if n=m then true else memN n ms
theorem zbh0 {n:Nat}:∀ {l:List Nat},memN n l=true ↔ n ∈ l
 | []=>by simp [memN]
 | m :: ms=>by
  unfold memN
  split
  ·rename_i h; simp [h]
  ·rename_i h; rw [zbh0]; simp [h]
def fzA (ids:List Nat) (m:Nat→MS):A→A
 | .own y lo n=>if memN y ids=true then frz1 m (.own y lo n) else .own y lo n
 | a=>a
def fzCs (ids:List Nat) (m:Nat→MS):List A→List A
 | []=>[]
 | a :: as=>fzA ids m a :: fzCs ids m as
def fzV (ids:List Nat) (m:Nat→MS):A→A
 | .agg cs=>if zl2 cs=true then .agg cs else .agg (fzCs ids m cs)
 | a=>fzA ids m a
def fzEs (ids:List Nat) (m:Nat→MS) (es:List (List A)):List (List A):=if pureEs es=true then es else es.map (fzCs ids m)
def fzFr (ids:List Nat) (m:Nat→MS):List (Nat×A)→List (Nat×A)
 | []=>[]
 | q :: r=>(q.1,fzV ids m q.2) :: fzFr ids m r
def zbC7 (ids:List Nat) (m:Nat→MS):List (Nat×Row)→List (Nat×Row)
 | []=>[]
 | q :: r=>(q.1,⟨q.2.ro||memN q.1 ids,q.2.sz,q.2.z,fzEs ids m q.2.es⟩) :: zbC7 ids m r
def zbt6 (ids:List Nat) (m:Nat→MS):A→Prop
 | .own y lo n=>if memN y ids=true then zag3 m (.own y lo n) else True
 | _=>True
def zaU9 (ids:List Nat) (m:Nat→MS):List A→Prop
 | []=>True
 | a :: as=>zbt6 ids m a∧zaU9 ids m as
def zbC8 (ids:List Nat) (m:Nat→MS):A→Prop
 | .agg cs=>if zl2 cs=true then True else zaU9 ids m cs
 | a=>zbt6 ids m a
def zbc8 (ids:List Nat) (m:Nat→MS):List (List A)→Prop
 | []=>True
 | c :: cs=>zaU9 ids m c∧zbc8 ids m cs
def zbx9 (ids:List Nat) (m:Nat→MS) (es:List (List A)):Prop:=if pureEs es=true then True else zbc8 ids m es
def zby0 (ids:List Nat) (m:Nat→MS):List (Nat×A)→Prop
 | []=>True
 | q :: r=>zbC8 ids m q.2∧zby0 ids m r
def zbc9 (ids:List Nat) (m:Nat→MS):List (Nat×Row)→Prop
 | []=>True
 | q :: r=>zbx9 ids m q.2.es∧zbc9 ids m r
def St.fz (st:St) (ids:List Nat):St:=⟨fzFr ids st.m st.fr,zbC7 ids st.m st.mem,st.nx⟩
def St.fzOk (st:St) (ids:List Nat):Prop:=zby0 ids st.m st.fr∧zbc9 ids st.m st.mem
section
variable {C:Cx} {a:Act} {E:Env} {st:St} {w:World} {W:Nat→Prop} {μ:Nat→Loc}
theorem zby1 (ids:List Nat) (m:Nat→MS):∀ (cs:List A) (i:Nat),(fzCs ids m cs)[i]? = (cs[i]?).map (fzA ids m)
 | [],i=>by simp [fzCs]
 | c :: cs,i=>by
  cases i with
  | zero=>simp [fzCs]
  | succ i=>simp [fzCs,zby1 ids m cs i]
theorem zbh1 (ids:List Nat) (m:Nat→MS):∀ cs:List A,(fzCs ids m cs).length=cs.length
 | []=>rfl
 | _ :: cs=>by simp [fzCs,zbh1 ids m cs]
theorem zaV0 {ids:List Nat} {m:Nat→MS}:∀ {cs:List A},zaU9 ids m cs→∀ c ∈ cs,zbt6 ids m c
 | c :: cs,h,d,hd=>by
  rcases List.mem_cons.1 hd with rfl|hd
  ·exact h.1
  ·exact zaV0 h.2 d hd
theorem zbh2 {ids:List Nat} {m:Nat→MS}:∀ {cs:List (List A)},zbc8 ids m cs→∀ c ∈ cs,zaU9 ids m c
 | c :: cs,h,d,hd=>by
  rcases List.mem_cons.1 hd with rfl|hd
  ·exact h.1
  ·exact zbh2 h.2 d hd
theorem zbt7 (ids:List Nat) (m:Nat→MS) (t:Nat):∀ fr:List (Nat×A),look (fzFr ids m fr) t=(look fr t).map (fzV ids m)
 | []=>rfl
 | q :: r=>by
  simp only [fzFr,look]
  split
  ·rfl
  ·exact zbt7 ids m t r
theorem zbh3 (ids:List Nat) (m:Nat→MS) (x:Nat):∀ mem:List (Nat×Row),look (zbC7 ids m mem) x=(look mem x).map fun r=>⟨r.ro||memN x ids,r.sz,r.z,fzEs ids m r.es⟩
 | []=>rfl
 | q :: r=>by
  simp only [zbC7,look]
  split
  ·rename_i h; subst h; rfl
  ·exact zbh3 ids m x r
theorem zbt8 {ids:List Nat} {m:Nat→MS}:∀ {fr:List (Nat×A)},zby0 ids m fr→∀ t v,look fr t=some v→zbC8 ids m v
 | q :: r,h,t,v,hv=>by
  simp only [look] at hv
  split at hv
  ·cases hv; exact h.1
  ·exact zbt8 h.2 t v hv
theorem zbh4 {ids:List Nat} {m:Nat→MS}:∀ {mem:List (Nat×Row)},zbc9 ids m mem→∀ x r,look mem x=some r→zbx9 ids m r.es
 | q :: r,h,t,v,hv=>by
  simp only [look] at hv
  split at hv
  ·cases hv; exact h.1
  ·exact zbh4 h.2 t v hv
theorem RepK.less {v:Value} {x:A} {ids:List Nat} (h:RepK w W μ v x):RepK w (zan9 W μ ids) μ v x :=
 h.goes (Keeps.refl (fun _=>False) w) (fun _ _ _ h=>h) (fun _ _ h1 h2=>h1 h2.1) (Old.refl μ)
theorem zby2 {s:S} (hs:SatW E s a w W μ) {v:Value} {x:A} {ids:List Nat} (h:RepK w W μ v x) (hok:zbt6 ids s.mem x):RepK w (zan9 W μ ids) μ v (fzA ids s.mem x):=by
 cases x with
 | own y lo n =>
  simp only [fzA,zbt6] at hok ⊢
  split
  ·rename_i hy
   rw [if_pos hy] at hok
   exact zh7 (zbf3 hs h hok (fun z hz=>by simp [zI3] at hz; subst hz; exact zbh0.1 hy))
  ·exact h.less
 | _=>exact h.less
theorem zeI1 {s:S} (hs:SatW E s a w W μ) {v:Value} {x:A} {ids:List Nat} (h:Rep w W μ v x) (hok:zbC8 ids s.mem x):Rep w (zan9 W μ ids) μ v (fzV ids s.mem x):=by
 have hgo:Rep w (zan9 W μ ids) μ v x:=h.goes (Keeps.refl (fun _=>False) w) (fun _ _ _ h=>h) (fun _ _ h1 h2=>h1 h2.1) (Old.refl μ)
 cases x with
 | own y lo n=>exact zh4 (zg9 (zby2 (x:=.own y lo n) hs h hok))
 | agg cs =>
  simp only [fzV,zbC8] at hok ⊢
  split
  ·exact hgo
  ·rename_i hp
   rw [if_neg hp] at hok
   obtain ⟨vs,hv,hl,hr⟩:=h
   refine ⟨vs,hv,by rw [zbh1]; exact hl,fun i u b hu hb=>?_⟩
   rw [zby1] at hb
   obtain ⟨c,hc,rfl⟩:=Option.map_eq_some_iff.1 hb
   exact zby2 hs (hr i u c hu hc) (zaV0 hok c (List.mem_of_getElem? hc))
 | _=>exact hgo
theorem zbP4 {s:S} (hs:SatW E s a w W μ) (ids:List Nat):zaE4 w (zan9 W μ ids) E.G:=fun g cs hg=>by
 obtain ⟨h1,h2,h3⟩:=hs.glob g cs hg
 refine ⟨fun hh=>h1 hh.1,h2,fun j b hj=>?_⟩
 obtain ⟨u,hu,hr⟩:=h3 j b hj
 exact ⟨u,hu,hr.less⟩
theorem St.le_fz (ids:List Nat) (h:st.fzOk ids):St.le E st (st.fz ids):=by
 intro a w ⟨W,μ,hs⟩
 refine ⟨zan9 W μ ids,μ,{ hs with
  fr:=fun t=>?_
  mem:=fun x=>?_
  wsub:=fun b hb=>hs.wsub b hb.1
  wsup:=fun b hb=>?_
  wlt:=fun b hb=>hs.wlt b hb.1
  glob:=zbP4 hs ids }⟩
 ·show Rep w _ μ _ ((st.fz ids).slot t)
  have hr:Rep w W μ _ (st.slot t):=hs.fr t
  simp only [St.slot,St.fz,zbt7] at hr ⊢
  cases hl:look st.fr t with
  | none=>trivial
  | some v =>
   rw [hl] at hr
   exact zeI1 hs hr (zbt8 h.1 t v hl)
 ·show zac0 w _ μ x ((st.fz ids).m x)
  have hm:zac0 w W μ x (st.m x):=hs.mem x
  simp only [St.m,St.fz,zbh3] at hm ⊢
  split
  ·rename_i hx; rw [if_pos hx] at hm; exact hm
  ·rename_i hx
   rw [if_neg hx] at hm
   cases hl:look st.mem x with
   | none=>rw [hl] at hm; exact hm
   | some r =>
    rw [hl] at hm
    have hok:=zbh4 h.2 x r hl
    rcases hm with ⟨e1,e2,e3⟩|⟨k,e1,hro,hsz,hpos,us,rest,e,h4,h5,h6⟩
    ·exact .inl ⟨e1,by show fzEs ids st.m r.es=[]; rw [e2]; rfl,e3⟩
    ·refine .inr ⟨k,e1,fun hr=>?_,hsz,hpos,us,rest,e,h4,h5,?_⟩
     ·have hr':(r.ro||memN x ids)=false:=hr
      simp only [Bool.or_eq_false_iff] at hr'
      refine ⟨hro hr'.1,fun ⟨y,ky,hy,hy2,hy3⟩=>?_⟩
      have:=hs.inj y x ky k hy2 e1 hy3
      subst this
      rw [zbh0.2 hy] at hr'
      cases hr'.2
     ·show Flat _ r.sz us (fzEs ids st.m r.es)
      unfold fzEs
      unfold zbx9 at hok
      split
      ·exact h6.mono fun u b hr=>hr.less
      ·rename_i hp
       rw [if_neg hp] at hok
       refine ⟨by simpa using h6.hl,fun i c hc=>?_,fun i c j b hc hb=>?_⟩
       ·simp only [List.getElem?_map,Option.map_eq_some_iff] at hc
        obtain ⟨c0,hc0,rfl⟩:=hc
        rw [zbh1]; exact h6.hs i c0 hc0
       ·simp only [List.getElem?_map,Option.map_eq_some_iff] at hc
        obtain ⟨c0,hc0,rfl⟩:=hc
        rw [zby1] at hb
        obtain ⟨b0,hb0,rfl⟩:=Option.map_eq_some_iff.1 hb
        obtain ⟨u,hu,hr⟩:=h6.ha i c0 j b0 hc0 hb0
        exact ⟨u,hu,zby2 hs hr (zaV0 (zbh2 hok c0 (List.mem_of_getElem? hc0)) b0 (List.mem_of_getElem? hb0))⟩
 ·rcases hs.wsup b hb with h1|h1
  ·by_cases hx:∃ x k,x ∈ ids∧μ x=.at_ k∧k.b=b
   ·obtain ⟨x,k,_,hx2,hx3⟩:=hx
    rcases hs.live x k hx2 with h2|h2
    ·exact .inr (hx3 ▸ h2)
    ·have:=hs.winlt b hb; omega
   ·exact .inl ⟨h1,hx⟩
  ·exact .inr h1
def St.own0 (st:St) (t sz:Nat) (z:List A):St:=⟨(t,.own st.nx 0 0) :: rm t st.fr,(st.nx,⟨false,sz,z,[]⟩) :: st.mem,st.nx+1⟩
theorem St.le_own0 (t sz:Nat) (z:List A) (hz:0 < sz) (h:st.slot t=.full []):St.le E st (st.own0 t sz z):=by
 intro a w ⟨W,μ,hs⟩
 have hst:=Step.newEmpty (r:=⟨false,sz,z,[]⟩) hs.mem hs.inj hs.wlt (St.m_nx st) hz rfl (Keeps.refl _ w)
 have h2:=hs.step (d:=none) (v:=undef) (av:=.any) hst (fun x hx=>by cases hx) trivial
 have hem:(st.own0 t sz z).m=setM st.m [(st.nx,.row ⟨false,sz,z,[]⟩)]:=by
  funext x
  simp only [St.m,St.own0,setM,look]
  by_cases hx:x=st.nx
  ·subst hx
   rw [if_neg (by omega),if_pos rfl,if_pos rfl]
  ·by_cases h3:st.nx≤x
   ·rw [if_pos (show st.nx+1≤x by omega),if_neg hx,if_pos h3]
   ·rw [if_neg (show ¬ st.nx+1≤x by omega),if_neg (show ¬ st.nx=x by omega),if_neg hx,if_neg h3]
 refine ⟨_,_,{ h2 with fr:=fun t'=>?_,mem:=?_ }⟩
 ·have h3:=h2.fr t'
  show Rep w W _ (a.tmps.getD t' undef) ((st.own0 t sz z).slot t')
  have h4:Rep w W (fun x=>if x=st.nx then .empty else μ x) (a.tmps.getD t' undef) (st.slot t'):=h3
  simp only [St.slot,St.own0,look]
  split
  ·rename_i ht
   subst ht
   rw [h] at h4
   have h5:RepC w W (a.tmps.getD t undef) (.full []):=h4
   generalize a.tmps.getD t undef=v at h5
   cases h5 with
   | full ad n es h6 =>
    cases h6 with
    | sl0=>exact zau5 (by simp) 0
    | sl b off cap s es us _ _ hn=>simp at hn
  ·rename_i ht
   rw [zak1,if_neg (fun e=>ht e.symm)]
   exact h4
 ·show zap1 w W _ (st.own0 t sz z).m
  rw [hem]
  exact h2.mem
def zaz9 (j n:Nat):List (List A)→List (List A)
 | [c]=>[upd c j [.own n 0 0]]
 | es=>es
def zaQ2 (x j n:Nat):List (Nat×Row)→List (Nat×Row)
 | []=>[]
 | q :: r=>if q.1=x then (q.1,⟨q.2.ro,q.2.sz,q.2.z,zaz9 j n q.2.es⟩) :: r else q :: zaQ2 x j n r
def zbW1 (j:Nat):List (List A)→Prop
 | [c]=>sub c j 1=[.full []]
 | _=>False
def St.ownb (st:St) (x j sz:Nat) (z:List A):St:=⟨st.fr,(st.nx,⟨false,sz,z,[]⟩) :: zaQ2 x j st.nx st.mem,st.nx+1⟩
def St.ownbOk (st:St) (x j sz:Nat):Prop:=0 < sz∧match st.m x with
 | .row r=>zbW1 j r.es
 | _=>False
theorem zaQ3 (x j n y:Nat):∀ mem:List (Nat×Row),look (zaQ2 x j n mem) y=(look mem y).map fun r=>if y=x then ⟨r.ro,r.sz,r.z,zaz9 j n r.es⟩ else r
 | []=>rfl
 | q :: r=>by
  simp only [zaQ2]
  split
  ·rename_i h
   simp only [look]
   split
   ·rename_i h2; simp [← h2,h]
   ·rename_i h2
    have:¬ y=x:=fun e=>h2 (h.trans e.symm)
    cases look r y <;> simp [this]
  ·rename_i h
   simp only [look]
   split
   ·rename_i h2; simp [← h2,h]
   ·exact zaQ3 x j n y r
theorem zbC9 {v:Value} {x:Nat} (hx:μ x=.empty) (h:RepK w W μ v (.full [])):RepK w W μ v (.own x 0 0):=by
 have h5:RepC w W v (.full []):=h
 cases h5 with
 | full ad n es h6 =>
  cases h6 with
  | sl0 =>
   refine ⟨rfl,?_⟩
   rw [hx]
   exact ⟨rfl,ad,rfl⟩
  | sl b off cap s es us _ _ hn=>simp at hn
theorem St.le_ownb (x j sz:Nat) (z:List A) (h:st.ownbOk x j sz):St.le E st (st.ownb x j sz z):=by
 obtain ⟨hz,hnil⟩:=h
 intro a w ⟨W,μ,hs⟩
 have hst:=Step.newEmpty (r:=⟨false,sz,z,[]⟩) hs.mem hs.inj hs.wlt (St.m_nx st) hz rfl (Keeps.refl _ w)
 have h2:=hs.step (d:=none) (v:=undef) (av:=.any) hst (fun x hx=>by cases hx) trivial
 refine ⟨_,_,{ h2 with fr:=fun t=>h2.fr t,mem:=fun y=>?_ }⟩
 have hm:=h2.mem y
 have hxn:x < st.nx:=by
  cases hr:st.m x with
  | fresh=>rw [hr] at hnil; exact hnil.elim
  | dead=>rw [hr] at hnil; exact hnil.elim
  | row r=>exact St.m_row hr
 show zac0 w W _ y ((st.ownb x j sz z).m y)
 have hm':zac0 w W (fun x=>if x=st.nx then .empty else μ x) y (setM st.m [(st.nx,.row ⟨false,sz,z,[]⟩)] y):=hm
 simp only [setM] at hm'
 by_cases hy:y=st.nx
 ·subst hy
  have e:(st.ownb x j sz z).m st.nx=.row ⟨false,sz,z,[]⟩:=by
   simp only [St.m,St.ownb,look]
   rw [if_neg (by omega)]; simp
  rw [if_pos rfl] at hm'
  rw [e]; exact hm'
 rw [if_neg hy] at hm'
 have e:(st.ownb x j sz z).m y=match st.m y with
   | .row r=>.row (if y=x then ⟨r.ro,r.sz,r.z,zaz9 j st.nx r.es⟩ else r)
   | q=>q:=by
  simp only [St.m,St.ownb,look,zaQ3]
  by_cases h3:st.nx≤y
  ·rw [if_pos (show st.nx+1≤y by omega),if_pos h3]
  ·rw [if_neg (show ¬ st.nx+1≤y by omega),if_neg (show ¬ st.nx=y by omega),if_neg h3]
   cases look st.mem y <;> rfl
 rw [e]
 cases hr:st.m y with
 | fresh=>rw [hr] at hm'; exact hm'
 | dead=>rw [hr] at hm'; exact hm'
 | row r =>
  rw [hr] at hm'
  simp only
  by_cases hyx:y=x
  ·subst hyx
   rw [if_pos rfl]
   rw [hr] at hnil
   have hnil:zbW1 j r.es:=hnil
   rcases hm' with ⟨g1,g2,g3⟩|⟨k,g1,g2,g3,g4,us,rest,e',g5,g6,g7⟩
   ·rw [g2] at hnil; exact hnil.elim
   ·refine .inr ⟨k,g1,g2,g3,g4,us,rest,e',g5,g6,?_⟩
    show Flat _ r.sz us (zaz9 j st.nx r.es)
    obtain ⟨ro,sz',z',es⟩:=r
    match es,hnil with
    | [c],hnil =>
     have hj:sub c j 1=[.full []]:=hnil
     have hc:c.length=sz':=g7.hs 0 c rfl
     have hjl:c[j]? = some (.full []):=by
      have h8:((c.drop j).take 1)[0]? = some (.full []):=by
       show (sub c j 1)[0]? = _
       rw [hj]; rfl
      simpa [List.getElem?_take,List.getElem?_drop] using h8
     have hlt:j < c.length:=(List.getElem?_eq_some_iff.1 hjl).1
     have hu:upd c j [.own st.nx 0 0]=c.set j (.own st.nx 0 0):=by
      simp only [upd,List.length_cons,List.length_nil,Nat.zero_add]
      rw [List.set_eq_take_append_cons_drop,if_pos hlt]
      simp
     refine ⟨g7.hl,fun i d hd=>?_,fun i d q b hd hb=>?_⟩
     ·cases i with
      | zero =>
       simp [zaz9] at hd
       subst hd
       rw [hu,List.length_set]; exact hc
      | succ i=>simp [zaz9] at hd
     ·cases i with
      | zero =>
       simp [zaz9] at hd
       subst hd
       rw [hu,List.getElem?_set] at hb
       split at hb
       ·rename_i hq
        subst hq
        cases hb
        obtain ⟨u,hu1,hu2⟩:=g7.ha 0 c j _ rfl hjl
        exact ⟨u,hu1,zbC9 (by simp) hu2⟩
       ·exact g7.ha 0 c q b rfl hb
      | succ i=>simp [zaz9] at hd
  ·rw [if_neg hyx]; exact hm'
def unfA:A→A
 | .full es=>.sl es
 | a=>a
def zat4:List A→List A
 | []=>[]
 | a :: as=>unfA a :: zat4 as
def zbh5:List (Nat×Row)→List (Nat×Row)
 | []=>[]
 | q :: r=>(q.1,⟨q.2.ro,q.2.sz,q.2.z,q.2.es.map zat4⟩) :: zbh5 r
def St.unf (st:St):St:=⟨st.fr,zbh5 st.mem,st.nx⟩
theorem zbh6:∀ (cs:List A) (i:Nat),(zat4 cs)[i]? = (cs[i]?).map unfA
 | [],i=>by simp [zat4]
 | c :: cs,i=>by
  cases i with
  | zero=>simp [zat4]
  | succ i=>simp [zat4,zbh6 cs i]
theorem zaV1:∀ cs:List A,(zat4 cs).length=cs.length
 | []=>rfl
 | _ :: cs=>by simp [zat4,zaV1 cs]
theorem zaZ6 (x:Nat):∀ mem:List (Nat×Row),look (zbh5 mem) x=(look mem x).map fun r=>⟨r.ro,r.sz,r.z,r.es.map zat4⟩
 | []=>rfl
 | q :: r=>by
  simp only [zbh5,look]
  split
  ·rfl
  ·exact zaZ6 x r
theorem zbN0 {v:Value} {x:A} (h:RepK w W μ v x):RepK w W μ v (unfA x):=by
 cases x with
 | full es =>
  have h2:RepC w W v (.full es):=h
  cases h2 with
  | full a n es h3=>exact zh7 h3
 | _=>exact h
theorem St.le_unf:St.le E st st.unf:=by
 intro a w ⟨W,μ,hs⟩
 refine ⟨W,μ,{ hs with mem:=fun x=>?_ }⟩
 show zac0 w W μ x (st.unf.m x)
 have hm:zac0 w W μ x (st.m x):=hs.mem x
 simp only [St.m,St.unf,zaZ6] at hm ⊢
 split
 ·rename_i hx; rw [if_pos hx] at hm; exact hm
 ·rename_i hx
  rw [if_neg hx] at hm
  cases hl:look st.mem x with
  | none=>rw [hl] at hm; exact hm
  | some r =>
   rw [hl] at hm
   rcases hm with ⟨e1,e2,e3⟩|⟨k,e1,hro,hsz,hpos,us,rest,e,h4,h5,h6⟩
   ·exact .inl ⟨e1,by show r.es.map zat4=[]; rw [e2]; rfl,e3⟩
   ·refine .inr ⟨k,e1,hro,hsz,hpos,us,rest,e,h4,h5,?_⟩
    show Flat _ r.sz us (r.es.map zat4)
    refine ⟨by simpa using h6.hl,fun i c hc=>?_,fun i c j b hc hb=>?_⟩
    ·simp only [List.getElem?_map,Option.map_eq_some_iff] at hc
     obtain ⟨c0,hc0,rfl⟩:=hc
     rw [zaV1]; exact h6.hs i c0 hc0
    ·simp only [List.getElem?_map,Option.map_eq_some_iff] at hc
     obtain ⟨c0,hc0,rfl⟩:=hc
     rw [zbh6] at hb
     obtain ⟨b0,hb0,rfl⟩:=Option.map_eq_some_iff.1 hb
     obtain ⟨u,hu,hr⟩:=h6.ha i c0 j b0 hc0 hb0
     exact ⟨u,hu,zbN0 hr⟩
def St.cast (st:St) (t:Nat) (v:A):St:=⟨(t,v) :: rm t st.fr,st.mem,st.nx⟩
theorem St.le_cast (t:Nat) (v:A) (h:st.slot t=v):St.le E st (st.cast t v):=by
 have e:(st.cast t v).toS=st.toS:=by
  simp only [St.toS]
  congr 1
  funext x
  simp only [St.slot,St.cast,look]
  split
  ·rename_i hx; subst hx; exact h.symm
  ·rename_i hx; rw [zak1,if_neg (fun e=>hx e.symm)]
 intro a w hs
 rw [e]; exact hs
def St.unfs (st:St) (t:Nat):St:=⟨(t,unfA (st.slot t)) :: rm t st.fr,st.mem,st.nx⟩
theorem St.le_unfs (t:Nat):St.le E st (st.unfs t):=by
 intro a w ⟨W,μ,hs⟩
 refine ⟨W,μ,{ hs with fr:=fun t'=>?_ }⟩
 show Rep w W μ (a.tmps.getD t' undef) ((st.unfs t).slot t')
 have hr:Rep w W μ (a.tmps.getD t' undef) (st.slot t'):=hs.fr t'
 by_cases h:t=t'
 ·subst h
  have e:(st.unfs t).slot t=unfA (st.slot t):=by simp [St.slot,St.unfs,look]
  rw [e]
  generalize st.slot t=x at hr ⊢
  cases x with
  | full es =>
   have h2:RepC w W (a.tmps.getD t undef) (.full es):=hr
   exact zh4 (zg9 (zh7 h2.of_full.1))
  | _=>exact hr
 ·have e:(st.unfs t).slot t'=st.slot t':=by
   simp only [St.slot,St.unfs,look]
   rw [if_neg h,zak1,if_neg (fun e=>h e.symm)]
  rw [e]; exact hr
inductive Gh where
 | unf
 | cast (t:Nat) (v:A)
 | fz (ids:List Nat)
 | own0 (t sz:Nat) (z:List A)
 | ownb (x j sz:Nat) (z:List A)
 | unfs (t:Nat)
def St.gh (st:St):Gh→St
 | .unf=>st.unf
 | .cast t v=>st.cast t v
 | .fz ids=>st.fz ids
 | .own0 t sz z=>st.own0 t sz z
 | .ownb x j sz z=>st.ownb x j sz z
 | .unfs t=>st.unfs t
def St.ghOk (st:St):Gh→Prop
 | .unf=>True
 | .cast t v=>st.slot t=v
 | .fz ids=>st.fzOk ids
 | .own0 t sz _=>0 < sz∧st.slot t=.full []
 | .ownb x j sz _=>st.ownbOk x j sz
 | .unfs _=>True
theorem St.le_gh (g:Gh) (h:st.ghOk g):St.le E st (st.gh g):=by
 cases g with
 | unf=>exact St.le_unf
 | cast t v=>exact St.le_cast t v h
 | fz ids=>exact St.le_fz ids h
 | own0 t sz z=>exact St.le_own0 t sz z h.1 h.2
 | ownb x j sz z=>exact St.le_ownb x j sz z h
 | unfs t=>exact St.le_unfs t
theorem zfd1 {c:PC} {Q:Exit→St→Prop} (g:Gh) (hok:st.ghOk g) (h:AW C E c Q (st.gh g)):AW C E c Q st:=AW.weak (St.le_gh g hok) h
end
end Ab
end Go.Proofs.YtebopmkhhppfaaaGreatDoor
