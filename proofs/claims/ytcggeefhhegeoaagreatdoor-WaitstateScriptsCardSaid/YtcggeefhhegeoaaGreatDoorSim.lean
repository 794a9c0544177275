import Derived.Test.YtcggeefhhegeoaaGreatDoorAb20
namespace Go.Proofs.YtcggeefhhegeoaaGreatDoor
namespace Ab
set_option linter.unusedSimpArgs false
set_option linter.unusedVariables false
section
variable {C:Cx} {E:Env}
def FSt (ps:List POp) (vs:Nat→A) (mws:Nat→List (Nat×MS)) (s:S) (f:Nat→Bool):Nat→S
  | 0=>s
  | n+1=>match ps[n]? with
    | some p=>if f n then ⟨setF (FSt ps vs mws s f n).fr p.dst (vs n),setM (FSt ps vs mws s f n).mem (mws n)⟩ else FSt ps vs mws s f n
    | none=>FSt ps vs mws s f n
theorem zU7 {y:Nat}:∀ {mw:List (Nat×MS)} {m:Nat→MS},y ∉ mw.map (·.1)→setM m mw y=m y
  | [],_,_=>rfl
  | q :: mw,m,h=>by
    simp only [setM]
    rw [zU7 fun hh=>h (.tail _ hh)]
    refine if_neg fun e=>h ?_
    rw [e]; exact .head _
theorem zbG6 {y:Nat}:∀ {mw:List (Nat×MS)} {m m2:Nat→MS},y ∈ mw.map (·.1)→setM m mw y=setM m2 mw y
  | q :: mw,m,m2,h=>by
    simp only [setM]
    by_cases h2:y ∈ mw.map (·.1)
    · exact zbG6 h2
    · rw [zU7 h2,zU7 h2]
      rcases List.mem_cons.1 h with rfl|h
      · simp
      · exact absurd h h2
theorem zbK4 {ps:List POp} {vs:Nat→A} {mws:Nat→List (Nat×MS)} {s:S} {f f':Nat→Bool}:∀ n,(∀ i,i < n→f i=f' i)→FSt ps vs mws s f n=FSt ps vs mws s f' n
  | 0,_=>rfl
  | n+1,h=>by
    have ih:=zbK4 (ps:=ps) (vs:=vs) (mws:=mws) (s:=s) n fun i hi=>h i (by omega)
    simp only [FSt,ih,h n (by omega)]
theorem zaV3 (f:Nat→A) (d:Option Nat) (v:A) (t:Nat):setF f d v t=if d=some t then v else f t:=rfl
theorem zcE3 {ps:List POp} {vs:Nat→A} {mws:Nat→List (Nat×MS)} {s:S} {f:Nat→Bool} {j t:Nat} (h1:∀ i q,i < j→ps[i]? = some q→q.dst=some t→f i=true) (h2:∀ i q,j≤i→ps[i]? = some q→q.dst=some t→f i=false) :
    ∀ n,(FSt ps vs mws s f n).fr t=(FSt ps vs mws s (fun _=>true) (min n j)).fr t
  | 0=>by simp [FSt]
  | n+1=>by
    have ih:=zcE3 (vs:=vs) (mws:=mws) (s:=s) h1 h2 n
    by_cases hn:n < j
    · rw [show min (n+1) j=n+1 by omega]
      rw [show min n j=n by omega] at ih
      simp only [FSt]
      cases hq:ps[n]? with
      | none=>exact ih
      | some q =>
        simp only [if_true]
        by_cases hd:q.dst=some t
        · rw [h1 n q hn hq hd]; simp [zaV3,hd]
        · rw [zaV3,if_neg hd]
          split
          · simp only [zaV3,if_neg hd]; exact ih
          · exact ih
    · rw [show min (n+1) j=j by omega]
      rw [show min n j=j by omega] at ih
      simp only [FSt]
      cases hq:ps[n]? with
      | none=>exact ih
      | some q =>
        simp only []
        by_cases hd:q.dst=some t
        · rw [h2 n q (by omega) hq hd]; simpa using ih
        · split
          · simp only [zaV3,if_neg hd]; exact ih
          · exact ih
theorem zcv7 {ps:List POp} {vs:Nat→A} {mws:Nat→List (Nat×MS)} {s:S} {f:Nat→Bool} {j y:Nat} (h1:∀ i q,i < j→ps[i]? = some q→y ∈ (mws i).map (·.1)→f i=true) (h2:∀ i q,j≤i→ps[i]? = some q→y ∈ (mws i).map (·.1)→f i=false) :
    ∀ n,(FSt ps vs mws s f n).mem y=(FSt ps vs mws s (fun _=>true) (min n j)).mem y
  | 0=>by simp [FSt]
  | n+1=>by
    have ih:=zcv7 (vs:=vs) (mws:=mws) (s:=s) h1 h2 n
    by_cases hn:n < j
    · rw [show min (n+1) j=n+1 by omega]
      rw [show min n j=n by omega] at ih
      simp only [FSt]
      cases hq:ps[n]? with
      | none=>exact ih
      | some q =>
        simp only [if_true]
        by_cases hd:y ∈ (mws n).map (·.1)
        · rw [h1 n q hn hq hd]; simp only [if_true]; exact zbG6 hd
        · rw [zU7 hd]
          split
          · show setM _ _ _=_
            rw [zU7 hd]; exact ih
          · exact ih
    · rw [show min (n+1) j=j by omega]
      rw [show min n j=j by omega] at ih
      simp only [FSt]
      cases hq:ps[n]? with
      | none=>exact ih
      | some q =>
        simp only []
        by_cases hd:y ∈ (mws n).map (·.1)
        · rw [h2 n q (by omega) hq hd]; simpa using ih
        · split
          · show setM _ _ _=_
            rw [zU7 hd]; exact ih
          · exact ih
theorem zcU3 {ps:List POp} {vs:Nat→A} {mws:Nat→List (Nat×MS)} {s:S} {f:Nat→Bool} {j:Nat} {p:POp} (hp:ps[j]? = some p) (hf:f j=false) (f':Nat→Bool) (hj:f' j=true) (hf':∀ i,i≠j→f' i=f i)
    (hc:∀ i q,j < i→ps[i]? = some q→f i=true→conf p q=false) (hm:∀ i q,j < i→ps[i]? = some q→f i=true→∀ y ∈ (mws j).map (·.1),y ∉ (mws i).map (·.1)) :
    ∀ n,(∀ t,(FSt ps vs mws s f' n).fr t=if j < n∧p.dst=some t then vs j else (FSt ps vs mws s f n).fr t)∧∀ y,(FSt ps vs mws s f' n).mem y=if j < n then setM (FSt ps vs mws s f n).mem (mws j) y else (FSt ps vs mws s f n).mem y
  | 0=>by simp [FSt]
  | n+1=>by
    obtain ⟨ih,ih2⟩:=zcU3 (vs:=vs) (mws:=mws) (s:=s) hp hf f' hj hf' hc hm n
    by_cases hn:n=j
    · subst hn
      simp only [FSt,hp,hj,hf,if_true,Bool.false_eq_true,if_false]
      refine ⟨fun t=>?_,fun y=>?_⟩
      · rw [zaV3]
        by_cases hd:p.dst=some t
        · simp [hd]
        · simp only [hd,if_false,and_false]
          have:=ih t
          simpa [hd] using this
      · rw [if_pos (Nat.lt_succ_self n)]
        have e:(FSt ps vs mws s f' n).mem=(FSt ps vs mws s f n).mem:=funext fun z=>by have:=ih2 z; simpa using this
        rw [e]
    · have hlt:j < n+1 ↔ j < n:=by omega
      simp only [FSt,hf' n hn,hlt]
      cases hq:ps[n]? with
      | none=>exact ⟨by simpa using ih,by simpa using ih2⟩
      | some q =>
        simp only []
        split
        · rename_i hfn
          refine ⟨fun t=>?_,fun y=>?_⟩
          · simp only [zaV3,ih t]
            by_cases hd:q.dst=some t
            · simp only [hd,if_true]
              by_cases hjn:j < n
              · have:=hc n q hjn hq hfn
                unfold conf at this
                by_cases hpd:p.dst=some t
                · simp [hpd,hd] at this
                · simp [hpd]
              · simp [hjn]
            · simp [hd]
          · by_cases hjn:j < n
            · simp only [hjn,if_true] at ih2 ⊢
              have hdj:=hm n q hjn hq hfn
              by_cases h1:y ∈ (mws n).map (·.1)
              · rw [zU7 (mw:=mws j) fun hh=>hdj y hh h1]
                exact zbG6 h1
              · rw [zU7 h1,ih2 y]
                by_cases h2:y ∈ (mws j).map (·.1)
                · exact zbG6 h2
                · rw [zU7 h2,zU7 h2,zU7 h1]
            · simp only [hjn,if_false] at ih2 ⊢
              have e:(FSt ps vs mws s f' n).mem=(FSt ps vs mws s f n).mem:=funext ih2
              rw [e]
        · exact ⟨ih,ih2⟩
theorem zaH5:∀ {x y:List Nat},disj x y=true→∀ z ∈ x,z ∉ y
  | a :: x,y,h,z,hz=>by
    simp only [disj,Bool.and_eq_true,Bool.not_eq_true',List.contains_eq_mem,decide_eq_false_iff_not] at h
    rcases List.mem_cons.1 hz with rfl|hz
    · exact h.1
    · exact zaH5 h.2 z hz
theorem zbK5 {an:List Nat}:∀ {log:List (List Nat×List Nat)} {i:Nat} {r w:List Nat},zaY3 an i log r w=true→∀ n q,log[n]? = some q→i+n ∉ an→disj q.2 r=true∧disj q.2 w=true∧disj w q.1=true
  | x :: log,i,r,w,h,n,q,hq,hn=>by
    simp only [zaY3,Bool.and_eq_true,Bool.or_eq_true] at h
    cases n with
    | zero =>
      simp at hq; subst hq
      rcases h.1 with h1|h1
      · exact absurd (by simpa using h1) hn
      · exact ⟨h1.1.1,h1.1.2,h1.2⟩
    | succ n=>exact zbK5 h.2 n q (by simpa using hq) (by rwa [show i+1+n=i+(n+1) by omega])
theorem zbK6 {an:List (List Nat)} {K:St→Prop}:∀ (ps:List POp) (st:St) (log:List (List Nat×List Nat)),zax9 C an ps st log K→∃ (vs:Nat→A) (mws:Nat→List (Nat×MS)) (sts:Nat→St),K (sts ps.length)∧sts 0=st ∧
    ∀ j p,ps[j]? = some p→sts (j+1)=(sts j).app p.dst (vs j) (mws j)∧mwOk (sts j).nx (mws j)∧aopS C p (sts j).toS (sts j).nx (fun v mw=>v=vs j∧mw=mws j)∧zaV0 (zt5 C (sts j) p.xs)=true ∧
      (∀ i q,i < log.length→log[i]? = some q→i ∉ an.getD (log.length+j) []→disj q.2 (zE5 (zt5 C (sts j) p.xs))=true∧disj q.2 ((mws j).map (·.1))=true∧disj ((mws j).map (·.1)) q.1=true) ∧
      (∀ i q,i < j→ps[i]? = some q→log.length+i ∉ an.getD (log.length+j) []→disj ((mws i).map (·.1)) (zE5 (zt5 C (sts j) p.xs))=true∧disj ((mws i).map (·.1)) ((mws j).map (·.1))=true∧disj ((mws j).map (·.1)) (zE5 (zt5 C (sts i) q.xs))=true)
  | [],st,log,h=>⟨fun _=>.any,fun _=>[],fun _=>st,h,rfl,fun j p hp=>by simp at hp⟩
  | p :: ps,st,log,h=>by
    obtain ⟨v,mw,⟨hmw,hi,hcap,hrest⟩,h4⟩:=zcU1 (zdj8 h)
    obtain ⟨vs,mws,sts,h5,h6,h7⟩:=zbK6 ps _ _ hrest
    refine ⟨fun i=>match i with|0=>v|i+1=>vs i,fun i=>match i with|0=>mw|i+1=>mws i,fun i=>match i with|0=>st|i+1=>sts i,h5,rfl,fun j q hq=>?_⟩
    cases j with
    | zero =>
      simp at hq; subst hq
      refine ⟨h6,hmw,h4,hcap,fun i q hi2 hq hn=>?_,fun i q hi2=>by omega⟩
      exact zbK5 hi i q hq (by rw [Nat.zero_add]; exact hn)
    | succ j =>
      obtain ⟨g1,g2,g3,g4,g5,g6⟩:=h7 j q (by simpa using hq)
      simp only [List.length_append,List.length_cons,List.length_nil,Nat.zero_add] at g5 g6
      refine ⟨g1,g2,g3,g4,fun i x hi2 hx hn=>?_,fun i x hi2 hx hn=>?_⟩
      · exact g5 i x (by omega) (by rw [List.getElem?_append_left hi2]; exact hx) (by rwa [show log.length+1+j=log.length+(j+1) by omega])
      · cases i with
        | zero =>
          simp at hx; subst hx
          have:=g5 log.length (zE5 (zt5 C st p.xs),mw.map (·.1)) (by omega) (by rw [List.getElem?_append_right (Nat.le_refl _)]; simp) (by rw [show log.length+1+j=log.length+(j+1) by omega]; exact hn)
          exact this
        | succ i =>
          exact g6 i x (by omega) (by simpa using hx) (by rw [show log.length+1+j=log.length+(j+1) by omega,show log.length+1+i=log.length+(i+1) by omega]; exact hn)
theorem zbK7 {st:St} (xs:List PX):zt5 C st xs=zM0 C st.toS.fr xs:=zbq7 xs
theorem zcv8 {os:Array Oper} {ps:List POp} {s0:S} {vs:Nat→A} {mws:Nat→List (Nat×MS)} {sts:Nat→St} {K:St→Prop} {Q:Exit→Act→World→Prop} (hG:E.G=C.G) (hr:ROk C E.N os 0 ps) (hso:POp.sortOk os.toList 0=true)
    (hco:zbv3 ps (ancs [] (os.toList.map zE9))=true) (hK:K (sts ps.length))
    (hst:∀ j,j≤ps.length→(sts j).toS=FSt ps vs mws s0 (fun _=>true) j)
    (hv:∀ j p,ps[j]? = some p→mwOk (sts j).nx (mws j)∧aopS C p (sts j).toS (sts j).nx (fun v mw=>v=vs j∧mw=mws j)∧zaV0 (zt5 C (sts j) p.xs)=true ∧
      (∀ i q,i < j→ps[i]? = some q→i ∉ (ancs [] (os.toList.map zE9)).getD j []→disj ((mws i).map (·.1)) (zE5 (zt5 C (sts j) p.xs))=true∧disj ((mws i).map (·.1)) ((mws j).map (·.1))=true∧disj ((mws j).map (·.1)) (zE5 (zt5 C (sts i) q.xs))=true))
    (hnx:∀ i j,i≤j→(sts i).nx≤(sts j).nx) (hnx0:∀ y,(sts 0).nx≤y→s0.mem y=.fresh) (hkey:∀ j p y,ps[j]? = some p→y ∈ (mws j).map (·.1)→y < (sts (j+1)).nx)
    (hQ:∀ st' a' w',K st'→Sat E st'.toS a' w'→Q .normal a' w') :
    ∀ (fuel:Nat) (listed:Array Bool) (a:Act) (w:World),listed.size=os.size→Sat E (FSt ps vs mws s0 (fun i=>listed.getD i false) ps.length) a w →
      (∀ j o,os[j]? = some o→listed.getD j false=true→∀ i ∈ zE9 o,listed.getD i false=true)→left (fun i=>listed.getD i false) os.size≤fuel →
      wpAny C.P .any os Q fuel listed a w:=by
  have hlen:ps.length=os.size:=by have:=hr.size; omega
  have hdone:∀ (listed:Array Bool) (a:Act) (w:World),Sat E (FSt ps vs mws s0 (fun i=>listed.getD i false) ps.length) a w→(∀ i,i < os.size→listed.getD i false=true)→Q .normal a w:=by
    intro listed a w hs hall
    refine hQ _ a w hK ?_
    rw [hst ps.length (Nat.le_refl _),zbK4 (f:=fun _=>true) (f':=fun i=>listed.getD i false) ps.length fun i hi=>(hall i (by omega)).symm]
    exact hs
  have hready:∀ (listed:Array Bool),listed.size=os.size→Region.ready .any os listed=[]→∀ i,i < os.size→listed.getD i false=true:=by
    intro listed hsz hr0 i
    induction i using Nat.strongRecOn with
    | _ i ih =>
      intro hi
      cases hl:listed.getD i false with
      | true=>rfl
      | false =>
        have:i ∈ Region.ready .any os listed:=by
          rw [mem_ready]
          refine ⟨?_,os[i],by simp [hi],fun e he hb=>?_⟩
          · have h1:i < listed.size:=by omega
            simp only [Array.getD,h1,dif_pos] at hl ⊢; exact hl
          · have h2:e.on ∈ zE9 os[i]:=by
              simp only [zE9,List.mem_map,List.mem_filter]
              exact ⟨e,⟨by simpa using he,hb⟩,rfl⟩
            have h3:=zbc2 os.toList 0 hso i os[i] (by simp [hi]) e.on h2
            exact ih e.on (by omega) (by omega)
        rw [hr0] at this; cases this
  intro fuel
  induction fuel with
  | zero =>
    intro listed a w hsz hs hcl hle
    have hall:=zbv6 (f:=fun i=>listed.getD i false) os.size (by omega)
    refine ⟨?_,hdone listed a w hs hall⟩
    cases hrd:Region.ready .any os listed with
    | nil=>rfl
    | cons i rs =>
      have:i ∈ Region.ready .any os listed:=by rw [hrd]; simp
      rw [mem_ready] at this
      obtain ⟨h1,o,ho,_⟩:=this
      have hi:=(Array.getElem?_eq_some_iff.1 ho).1
      have:=hall i hi
      have h2:i < listed.size:=by omega
      simp only [Array.getD,h2,dif_pos] at h1 this
      rw [this] at h1; cases h1
  | succ fuel ih =>
    intro listed a w hsz hs hcl hle
    refine ⟨fun hr0=>hdone listed a w hs (hready listed hsz hr0),fun i hi=>?_⟩
    rw [mem_ready] at hi
    obtain ⟨hl,o,ho,hed⟩:=hi
    have hlt:=(Array.getElem?_eq_some_iff.1 ho).1
    have hlt2:i < listed.size:=by omega
    have hl:listed.getD i false=false:=by
      simp only [Array.getD,hlt2,dif_pos] at hl ⊢; exact hl
    obtain ⟨p,hp,hpo⟩:=hr.at (j:=i) (by rw [Nat.zero_add]; exact ho)
    have hedge:∀ k ∈ zE9 o,listed.getD k false=true:=by
      intro k hk
      simp only [zE9,List.mem_map,List.mem_filter] at hk
      obtain ⟨e,⟨he,hb⟩,rfl⟩:=hk
      exact hed e (by simpa using he) hb
    have hset:(listed.setIfInBounds i true).getD i false=true:=by simp [Array.getD,hlt2]
    have hsetne:∀ k,k≠i→(listed.setIfInBounds i true).getD k false=listed.getD k false:=fun k hk=>getD_set_ne false (Ne.symm hk)
    have hcl':∀ j o,os[j]? = some o→(listed.setIfInBounds i true).getD j false=true→∀ k ∈ zE9 o,(listed.setIfInBounds i true).getD k false=true:=by
      intro j o' ho' hj k hk
      by_cases hji:j=i
      · subst hji
        rw [ho] at ho'; cases ho'
        exact getD_set_true (hedge k hk)
      · rw [hsetne j hji] at hj
        exact getD_set_true (hcl j o' ho' hj k hk)
    have hanc:∀ j,(listed.setIfInBounds i true).getD j false=true→∀ k ∈ (ancs [] (os.toList.map zE9)).getD j [],(listed.setIfInBounds i true).getD k false=true :=
      zaQ5 (D:=fun j=>(listed.setIfInBounds i true).getD j false=true) _ [] (fun j e he hD=>by
        simp only [List.getElem?_map,Option.map_eq_some_iff] at he
        obtain ⟨o',ho',rfl⟩:=he
        exact hcl' j o' (by simpa using ho') (by simpa using hD)) (fun j _ k hk=>by simp at hk)
    have hanc0:∀ j,listed.getD j false=true→∀ k ∈ (ancs [] (os.toList.map zE9)).getD j [],listed.getD k false=true :=
      zaQ5 (D:=fun j=>listed.getD j false=true) _ [] (fun j e he hD=>by
        simp only [List.getElem?_map,Option.map_eq_some_iff] at he
        obtain ⟨o',ho',rfl⟩:=he
        exact hcl j o' (by simpa using ho') (by simpa using hD)) (fun j _ k hk=>by simp at hk)
    have hbef:∀ k q,k < i→ps[k]? = some q→conf q p=true→listed.getD k false=true:=by
      intro k q hk hq hc
      have:=hanc i hset k (zaN0 hco hk hq hp hc)
      rwa [hsetne k (by omega)] at this
    have haft:∀ k q,i < k→ps[k]? = some q→conf p q=true→listed.getD k false=false:=by
      intro k q hk hq hc
      cases hlk:listed.getD k false with
      | false=>rfl
      | true =>
        have:=hanc0 k hlk i (zaN0 hco hk hp hq hc)
        rw [hl] at this; cases this
    have hbefM:∀ k,k < i→listed.getD k false=false→k ∉ (ancs [] (os.toList.map zE9)).getD i []:=fun k hk hlk hh=>by
      have:=hanc i hset k hh
      rw [hsetne k (by omega),hlk] at this; cases this
    have haftM:∀ k,i < k→listed.getD k false=true→i ∉ (ancs [] (os.toList.map zE9)).getD k []:=fun k hk hlk hh=>by
      have:=hanc0 k hlk i hh
      rw [hl] at this; cases this
    obtain ⟨hmw,haop,hcap,hind⟩:=hv i p hp
    have hil:i < ps.length:=(List.getElem?_eq_some_iff.1 hp).1
    have hsi:=hst i (Nat.le_of_lt hil)
    have hrow:∀ y,(y ∈ zE5 (zt5 C (sts i) p.xs)∨y ∈ (mws i).map (·.1))→(FSt ps vs mws s0 (fun k=>listed.getD k false) ps.length).mem y=(sts i).toS.mem y:=fun y hy=>by
      rw [hsi]
      have:=zcv7 (ps:=ps) (vs:=vs) (mws:=mws) (s:=s0) (f:=fun k=>listed.getD k false) (j:=i) (y:=y) (fun k q hk hq hyk=>?_) (fun k q hk hq hyk=>?_) ps.length
      · rw [this,Nat.min_eq_right (Nat.le_of_lt hil)]
      · cases hlk:listed.getD k false with
        | true=>rfl
        | false =>
          obtain ⟨g1,g2,g3⟩:=hind k q hk hq (hbefM k hk hlk)
          rcases hy with hy|hy
          · exact absurd hy (zaH5 g1 y hyk)
          · exact absurd hy (zaH5 g2 y hyk)
      · cases hlk:listed.getD k false with
        | false=>rfl
        | true =>
          have hki:i < k:=by
            rcases Nat.lt_or_eq_of_le hk with h|h
            · exact h
            · subst h; rw [hl] at hlk; cases hlk
          obtain ⟨g0,g00,g000,gg⟩:=hv k q hq
          obtain ⟨g1,g2,g3⟩:=gg i p hki hp (haftM k hki hlk)
          rcases hy with hy|hy
          · exact absurd hy (zaH5 g3 y hyk)
          · exact absurd hyk (zaH5 g2 y hy)
    have hslot:∀ t ∈ p.rds,(sts i).toS.fr t=(FSt ps vs mws s0 (fun k=>listed.getD k false) ps.length).fr t:=fun t ht=>by
      rw [hsi]
      rw [zcE3 (j:=i) (t:=t) (f:=fun k=>listed.getD k false) (fun k q hk hq hd=>hbef k q hk hq (zaU9 hd (.inl ht)).1) (fun k q hk hq hd=>?_) ps.length,Nat.min_eq_right (Nat.le_of_lt hil)]
      by_cases hki:k=i
      · subst hki; exact hl
      · exact haft k q (by omega) hq ((zaU9 hd (.inl ht)).2 ht)
    have haop2:=zcv6 (s2:=FSt ps vs mws s0 (fun k=>listed.getD k false) ps.length) hslot (fun y hy=>(hrow y (.inl (by rw [zbK7]; exact hy))).symm) (fun y hy=>(hrow y (.inr hy)).symm) (fun f caps vals _ hvals c hc=>by
      rw [zbK7,hvals] at hcap
      exact zbB0 hcap c hc) haop
    have hfin:∃ id,(FSt ps vs mws s0 (fun k=>listed.getD k false) ps.length).mem id=.fresh∧aopS C p (FSt ps vs mws s0 (fun k=>listed.getD k false) ps.length) id (fun v mw=>v=vs i∧mw=mws i):=by
      rcases zdj9 haop2 with h1|h1
      · exact ⟨_,by rw [hrow _ (.inr h1)]; exact (sts i).m_nx,haop2⟩
      · refine ⟨(sts ps.length).nx,?_,h1 _ (hnx i _ (Nat.le_of_lt hil))⟩
        rw [zcv7 (j:=0) (f:=fun k=>listed.getD k false) (fun k q hk=>by omega) (fun k q _ hq hyk=>by
          have h2:=hkey k q _ hq hyk
          have h3:=hnx (k+1) ps.length (List.getElem?_eq_some_iff.1 hq).1
          omega) ps.length]
        simp only [Nat.min_zero,FSt]
        exact hnx0 _ (hnx 0 _ (Nat.zero_le _))
    obtain ⟨id,hid,haop3⟩:=hfin
    obtain ⟨W,μ,hs⟩:=hs
    have key:=zbJ5 hs hG hid hpo haop3 (Q:=Q) (k:=wpAny C.P .any os Q fuel (listed.setIfInBounds i true)) (fun v mw a' w' hvm hs'=>by
      obtain ⟨rfl,rfl⟩:=hvm
      refine ih _ a' w' (by simpa using hsz) ?_ hcl' ?_
      · obtain ⟨e1,e2⟩:=zcU3 (vs:=vs) (mws:=mws) (s:=s0) (f:=fun k=>listed.getD k false) hp hl (fun k=>(listed.setIfInBounds i true).getD k false) hset hsetne (fun k q hk hq hfk=>by
          cases hc:conf p q with
          | false=>rfl
          | true=>have:=haft k q hk hq hc; exact absurd (this.symm.trans hfk) (by simp)) (fun k q hk hq hfk y hy hyk=>by
          obtain ⟨g0,g00,g000,gg⟩:=hv k q hq
          obtain ⟨g1,g2,g3⟩:=gg i p hk hp (haftM k hk hfk)
          exact zaH5 g2 y hy hyk) ps.length
        have e:FSt ps vs mws s0 (fun k=>(listed.setIfInBounds i true).getD k false) ps.length=⟨setF (FSt ps vs mws s0 (fun k=>listed.getD k false) ps.length).fr p.dst (vs i),setM (FSt ps vs mws s0 (fun k=>listed.getD k false) ps.length).mem (mws i)⟩:=by
          have h1:(FSt ps vs mws s0 (fun k=>(listed.setIfInBounds i true).getD k false) ps.length).fr=setF (FSt ps vs mws s0 (fun k=>listed.getD k false) ps.length).fr p.dst (vs i):=funext fun t=>by
            rw [e1 t,zaV3]; simp only [hil,true_and]
          have h2:(FSt ps vs mws s0 (fun k=>(listed.setIfInBounds i true).getD k false) ps.length).mem=setM (FSt ps vs mws s0 (fun k=>listed.getD k false) ps.length).mem (mws i):=funext fun y=>by
            rw [e2 y,if_pos hil]
          rw [← h1,← h2]
        rw [e]; exact hs'
      · have:=zbK1 (f:=fun k=>listed.getD k false) (f':=fun k=>(listed.setIfInBounds i true).getD k false) (j:=i) hl hset hsetne os.size
        rw [if_pos hlt] at this
        omega)
    simp only [wpOp,ho]
    split at key
    · rename_i hw; rw [if_pos hw]; exact .inl key
    · rename_i hw; rw [if_neg hw]; exact key
theorem zbK8:∀ (mw:List (Nat×MS)) (nx:Nat),nx≤nxt nx mw
  | [],nx=>Nat.le_refl _
  | q :: mw,nx=>by
    simp only [nxt]
    refine Nat.le_trans ?_ (zbK8 mw _)
    split <;> omega
theorem zcU4:∀ {mw:List (Nat×MS)} {nx:Nat},mwOk nx mw→∀ y ∈ mw.map (·.1),y < nxt nx mw
  | q :: mw,nx,h,y,hy=>by
    obtain ⟨h1,h2,h3⟩:=h
    simp only [nxt]
    rcases List.mem_cons.1 hy with rfl|hy
    · refine Nat.lt_of_lt_of_le ?_ (zbK8 mw _)
      show q.1 < _
      split <;> omega
    · exact zcU4 h3 y hy
theorem zdk0 {Q:Exit→St→Prop} {st:St} {dr:List Nat} {an:List (List Nat)} {ops:List POp} (hm:C.P.follows .mixedOrders=true) (hG:E.G=C.G) (h:zax9 C an ops st [] fun s=>Q .normal (s.drop dr)):AW C E (.regm dr an ops) Q st:=fun code hc a w hs=>by
  cases code with
  | region id os d =>
   cases d with
   | false=>simp [chkC] at hc
   | true =>
    simp only [chkC,Bool.and_eq_true,beq_iff_eq] at hc
    obtain ⟨hc1,hc2,hc3,hc4⟩:=hc
    have hr:ROk C E.N os 0 ops:=by
      obtain ⟨P,G⟩:=C
      exact zbh1 os.toList ops 0 hc1 (by simp) (by simp)
    obtain ⟨vs,mws,sts,hK,h0,hv⟩:=zbK6 ops st [] h
    subst hc4
    have hnx1:∀ j,(sts j).nx≤(sts (j+1)).nx∨ops.length≤j:=fun j=>by
      by_cases hj:j < ops.length
      · obtain ⟨g1,g2,_⟩:=hv j ops[j] (by simp [hj])
        left; rw [g1]; exact zbK8 _ _
      · right; omega
    let sts':Nat→St:=fun j=>if j≤ops.length then sts j else sts ops.length
    have hs':∀ j,j≤ops.length→sts' j=sts j:=fun j hj=>if_pos hj
    have hs2:∀ j,ops.length≤j→sts' j=sts ops.length:=fun j hj=>by
      show (if j≤ops.length then sts j else sts ops.length)=_
      split
      · rw [show j=ops.length by omega]
      · rfl
    have hstep:∀ j,(sts' j).nx≤(sts' (j+1)).nx:=fun j=>by
      by_cases hj:j < ops.length
      · rw [hs' j (by omega),hs' (j+1) (by omega)]
        rcases hnx1 j with h1|h1
        · exact h1
        · omega
      · rw [hs2 j (by omega),hs2 (j+1) (by omega)]; exact Nat.le_refl _
    have hmono:∀ i j,i≤j→(sts' i).nx≤(sts' j).nx:=fun i j hij=>by
      induction j with
      | zero=>rw [show i=0 by omega]; exact Nat.le_refl _
      | succ j ih =>
        by_cases hi:i=j+1
        · rw [hi]; exact Nat.le_refl _
        · exact Nat.le_trans (ih (by omega)) (hstep j)
    have hFS:∀ j,j≤ops.length→(sts' j).toS=FSt ops vs mws st.toS (fun _=>true) j:=fun j hj=>by
      rw [hs' j hj]
      induction j with
      | zero=>rw [h0]; rfl
      | succ j ih =>
        obtain ⟨g1,g2,_⟩:=hv j ops[j] (by simp [show j < ops.length by omega])
        have ih:=ih (by omega)
        rw [g1,zcd5 _ _ _ _ g2]
        have hq:ops[j]? = some ops[j]:=by simp [show j < ops.length by omega]
        simp only [FSt,hq,if_true]
        rw [← ih]
        rfl
    refine wp_region_any hm ?_
    refine zcv8 (s0:=st.toS) (vs:=vs) (mws:=mws) (sts:=sts') (K:=fun s=>Q .normal (s.drop dr)) hG hr hc2 hc3 (by rw [hs' _ (Nat.le_refl _)]; exact hK) hFS (fun j p hp=>?_) hmono (fun y hy=>?_) (fun j p y hp hy=>?_) (fun st' a' w' hQ hs'=>⟨_,hQ,hs'.drop⟩) os.size _ a _ (by simp) ?_ (fun j o ho hj=>?_) ?_
    · have hj:=(List.getElem?_eq_some_iff.1 hp).1
      obtain ⟨g1,g2,g3,g4,_,g6⟩:=hv j p hp
      rw [hs' j (by omega)]
      refine ⟨g2,g3,g4,fun i q hi hq hn=>?_⟩
      rw [hs' i (by omega)]
      simp only [List.length_nil,Nat.zero_add] at g6
      exact g6 i q hi hq hn
    · rw [hs' 0 (Nat.zero_le _),h0] at hy
      exact zcd8 st y hy
    · have hj:=(List.getElem?_eq_some_iff.1 hp).1
      obtain ⟨g1,g2,_⟩:=hv j p hp
      rw [hs' (j+1) (by omega),g1]
      exact zcU4 g2 y hy
    · have e:FSt ops vs mws st.toS (fun i=>(Array.replicate os.size false).getD i false) ops.length=FSt ops vs mws st.toS (fun _=>false) ops.length:=zbK4 _ fun i _=>by simp [Array.getD]
      have e2:∀ n,FSt ops vs mws st.toS (fun _=>false) n=st.toS:=fun n=>by
        induction n with
        | zero=>rfl
        | succ n ih=>simp only [FSt,ih,Bool.false_eq_true,if_false]; split <;> rfl
      rw [e,e2]
      exact hs.drawn (Nat.le_succ _)
    · simp [Array.getD] at hj
    · have:∀ n,left (fun i=>(Array.replicate os.size false).getD i false) n≤n:=fun n=>by
        induction n with
        | zero=>exact Nat.le_refl _
        | succ n ih=>simp only [left]; split <;> omega
      exact this _
  | _=>simp [chkC] at hc
end
def memN (n:Nat):List Nat→Bool
 | []=>false
 | m :: ms=>if n=m then true else memN n ms
theorem zbK9 {n:Nat}:∀ {l:List Nat},memN n l=true ↔ n ∈ l
 | []=>by simp [memN]
 | m :: ms=>by
  unfold memN
  split
  ·rename_i h; simp [h]
  ·rename_i h; rw [zbK9]; simp [h]
def fzA (ids:List Nat) (m:Nat→MS):A→A
 | .own y lo n=>if memN y ids=true then frz1 m (.own y lo n) else .own y lo n
 | a=>a
def fzCs (ids:List Nat) (m:Nat→MS):List A→List A
 | []=>[]
 | a :: as=>fzA ids m a :: fzCs ids m as
def fzV (ids:List Nat) (m:Nat→MS):A→A
 | .agg cs=>if zo7 cs=true then .agg cs else .agg (fzCs ids m cs)
 | a=>fzA ids m a
def fzEs (ids:List Nat) (m:Nat→MS) (es:List (List A)):List (List A):=if pureEs es=true then es else es.map (fzCs ids m)
def fzFr (ids:List Nat) (m:Nat→MS):List (Nat×A)→List (Nat×A)
 | []=>[]
 | q :: r=>(q.1,fzV ids m q.2) :: fzFr ids m r
def zcl8 (ids:List Nat) (m:Nat→MS):List (Nat×Row)→List (Nat×Row)
 | []=>[]
 | q :: r=>(q.1,⟨q.2.ro||memN q.1 ids,q.2.sz,q.2.z,fzEs ids m q.2.es⟩) :: zcl8 ids m r
def zbZ2 (ids:List Nat) (m:Nat→MS):A→Prop
 | .own y lo n=>if memN y ids=true then zau6 m (.own y lo n) else True
 | _=>True
def zbv7 (ids:List Nat) (m:Nat→MS):List A→Prop
 | []=>True
 | a :: as=>zbZ2 ids m a∧zbv7 ids m as
def zcl9 (ids:List Nat) (m:Nat→MS):A→Prop
 | .agg cs=>if zo7 cs=true then True else zbv7 ids m cs
 | a=>zbZ2 ids m a
def zbG7 (ids:List Nat) (m:Nat→MS):List (List A)→Prop
 | []=>True
 | c :: cs=>zbv7 ids m c∧zbG7 ids m cs
def zce2 (ids:List Nat) (m:Nat→MS) (es:List (List A)):Prop:=if pureEs es=true then True else zbG7 ids m es
def zce3 (ids:List Nat) (m:Nat→MS):List (Nat×A)→Prop
 | []=>True
 | q :: r=>zcl9 ids m q.2∧zce3 ids m r
def zbG8 (ids:List Nat) (m:Nat→MS):List (Nat×Row)→Prop
 | []=>True
 | q :: r=>zce2 ids m q.2.es∧zbG8 ids m r
def St.fz (st:St) (ids:List Nat):St:=⟨fzFr ids st.m st.fr,zcl8 ids st.m st.mem,st.nx⟩
def St.fzOk (st:St) (ids:List Nat):Prop:=zce3 ids st.m st.fr∧zbG8 ids st.m st.mem
section
variable {C:Cx} {a:Act} {E:Env} {st:St} {w:World} {W:Nat→Prop} {μ:Nat→Loc}
theorem zce4 (ids:List Nat) (m:Nat→MS):∀ (cs:List A) (i:Nat),(fzCs ids m cs)[i]? = (cs[i]?).map (fzA ids m)
 | [],i=>by simp [fzCs]
 | c :: cs,i=>by
  cases i with
  | zero=>simp [fzCs]
  | succ i=>simp [fzCs,zce4 ids m cs i]
theorem zbL0 (ids:List Nat) (m:Nat→MS):∀ cs:List A,(fzCs ids m cs).length=cs.length
 | []=>rfl
 | _ :: cs=>by simp [fzCs,zbL0 ids m cs]
theorem zbv8 {ids:List Nat} {m:Nat→MS}:∀ {cs:List A},zbv7 ids m cs→∀ c ∈ cs,zbZ2 ids m c
 | c :: cs,h,d,hd=>by
  rcases List.mem_cons.1 hd with rfl|hd
  ·exact h.1
  ·exact zbv8 h.2 d hd
theorem zbL1 {ids:List Nat} {m:Nat→MS}:∀ {cs:List (List A)},zbG7 ids m cs→∀ c ∈ cs,zbv7 ids m c
 | c :: cs,h,d,hd=>by
  rcases List.mem_cons.1 hd with rfl|hd
  ·exact h.1
  ·exact zbL1 h.2 d hd
theorem zbZ3 (ids:List Nat) (m:Nat→MS) (t:Nat):∀ fr:List (Nat×A),look (fzFr ids m fr) t=(look fr t).map (fzV ids m)
 | []=>rfl
 | q :: r=>by
  simp only [fzFr,look]
  split
  ·rfl
  ·exact zbZ3 ids m t r
theorem zbL2 (ids:List Nat) (m:Nat→MS) (x:Nat):∀ mem:List (Nat×Row),look (zcl8 ids m mem) x=(look mem x).map fun r=>⟨r.ro||memN x ids,r.sz,r.z,fzEs ids m r.es⟩
 | []=>rfl
 | q :: r=>by
  simp only [zcl8,look]
  split
  ·rename_i h; subst h; rfl
  ·exact zbL2 ids m x r
theorem zbZ4 {ids:List Nat} {m:Nat→MS}:∀ {fr:List (Nat×A)},zce3 ids m fr→∀ t v,look fr t=some v→zcl9 ids m v
 | q :: r,h,t,v,hv=>by
  simp only [look] at hv
  split at hv
  ·cases hv; exact h.1
  ·exact zbZ4 h.2 t v hv
theorem zbL3 {ids:List Nat} {m:Nat→MS}:∀ {mem:List (Nat×Row)},zbG8 ids m mem→∀ x r,look mem x=some r→zce2 ids m r.es
 | q :: r,h,t,v,hv=>by
  simp only [look] at hv
  split at hv
  ·cases hv; exact h.1
  ·exact zbL3 h.2 t v hv
theorem RepK.less {v:Value} {x:A} {ids:List Nat} (h:RepK w W μ v x):RepK w (zaG0 W μ ids) μ v x :=
 h.goes (Keeps.refl (fun _=>False) w) (fun _ _ _ h=>h) (fun _ _ h1 h2=>h1 h2.1) (Old.refl μ)
theorem zce5 {s:S} (hs:SatW E s a w W μ) {v:Value} {x:A} {ids:List Nat} (h:RepK w W μ v x) (hok:zbZ2 ids s.mem x):RepK w (zaG0 W μ ids) μ v (fzA ids s.mem x):=by
 cases x with
 | own y lo n =>
  simp only [fzA,zbZ2] at hok ⊢
  split
  ·rename_i hy
   rw [if_pos hy] at hok
   exact zs2 (zbJ2 hs h hok (fun z hz=>by simp [zQ6] at hz; subst hz; exact zbK9.1 hy))
  ·exact h.less
 | _=>exact h.less
theorem zdq7 {s:S} (hs:SatW E s a w W μ) {v:Value} {x:A} {ids:List Nat} (h:Rep w W μ v x) (hok:zcl9 ids s.mem x):Rep w (zaG0 W μ ids) μ v (fzV ids s.mem x):=by
 have hgo:Rep w (zaG0 W μ ids) μ v x:=h.goes (Keeps.refl (fun _=>False) w) (fun _ _ _ h=>h) (fun _ _ h1 h2=>h1 h2.1) (Old.refl μ)
 cases x with
 | own y lo n=>exact zr1 (zq5 (zce5 (x:=.own y lo n) hs h hok))
 | agg cs =>
  simp only [fzV,zcl9] at hok ⊢
  split
  ·exact hgo
  ·rename_i hp
   rw [if_neg hp] at hok
   obtain ⟨vs,hv,hl,hr⟩:=h
   refine ⟨vs,hv,by rw [zbL0]; exact hl,fun i u b hu hb=>?_⟩
   rw [zce4] at hb
   obtain ⟨c,hc,rfl⟩:=Option.map_eq_some_iff.1 hb
   exact zce5 hs (hr i u c hu hc) (zbv8 hok c (List.mem_of_getElem? hc))
 | _=>exact hgo
theorem zcJ0 {s:S} (hs:SatW E s a w W μ) (ids:List Nat):zbb6 w (zaG0 W μ ids) E.G:=fun g cs hg=>by
 obtain ⟨h1,h2,h3⟩:=hs.glob g cs hg
 refine ⟨fun hh=>h1 hh.1,h2,fun j b hj=>?_⟩
 obtain ⟨u,hu,hr⟩:=h3 j b hj
 exact ⟨u,hu,hr.less⟩
theorem St.le_fz (ids:List Nat) (h:st.fzOk ids):St.le E st (st.fz ids):=by
 intro a w ⟨W,μ,hs⟩
 refine ⟨zaG0 W μ ids,μ,{ hs with
  fr:=fun t=>?_
  mem:=fun x=>?_
  wsub:=fun b hb=>hs.wsub b hb.1
  wsup:=fun b hb=>?_
  wlt:=fun b hb=>hs.wlt b hb.1
  glob:=zcJ0 hs ids }⟩
 ·show Rep w _ μ _ ((st.fz ids).slot t)
  have hr:Rep w W μ _ (st.slot t):=hs.fr t
  simp only [St.slot,St.fz,zbZ3] at hr ⊢
  cases hl:look st.fr t with
  | none=>trivial
  | some v =>
   rw [hl] at hr
   exact zdq7 hs hr (zbZ4 h.1 t v hl)
 ·show zao5 w _ μ x ((st.fz ids).m x)
  have hm:zao5 w W μ x (st.m x):=hs.mem x
  simp only [St.m,St.fz,zbL2] at hm ⊢
  split
  ·rename_i hx; rw [if_pos hx] at hm; exact hm
  ·rename_i hx
   rw [if_neg hx] at hm
   cases hl:look st.mem x with
   | none=>rw [hl] at hm; exact hm
   | some r =>
    rw [hl] at hm
    have hok:=zbL3 h.2 x r hl
    rcases hm with ⟨e1,e2,e3⟩|⟨k,e1,hro,hsz,hpos,us,rest,e,h4,h5,h6⟩
    ·exact .inl ⟨e1,by show fzEs ids st.m r.es=[]; rw [e2]; rfl,e3⟩
    ·refine .inr ⟨k,e1,fun hr=>?_,hsz,hpos,us,rest,e,h4,h5,?_⟩
     ·have hr':(r.ro||memN x ids)=false:=hr
      simp only [Bool.or_eq_false_iff] at hr'
      refine ⟨hro hr'.1,fun ⟨y,ky,hy,hy2,hy3⟩=>?_⟩
      have:=hs.inj y x ky k hy2 e1 hy3
      subst this
      rw [zbK9.2 hy] at hr'
      cases hr'.2
     ·show Flat _ r.sz us (fzEs ids st.m r.es)
      unfold fzEs
      unfold zce2 at hok
      split
      ·exact h6.mono fun u b hr=>hr.less
      ·rename_i hp
       rw [if_neg hp] at hok
       refine ⟨by simpa using h6.hl,fun i c hc=>?_,fun i c j b hc hb=>?_⟩
       ·simp only [List.getElem?_map,Option.map_eq_some_iff] at hc
        obtain ⟨c0,hc0,rfl⟩:=hc
        rw [zbL0]; exact h6.hs i c0 hc0
       ·simp only [List.getElem?_map,Option.map_eq_some_iff] at hc
        obtain ⟨c0,hc0,rfl⟩:=hc
        rw [zce4] at hb
        obtain ⟨b0,hb0,rfl⟩:=Option.map_eq_some_iff.1 hb
        obtain ⟨u,hu,hr⟩:=h6.ha i c0 j b0 hc0 hb0
        exact ⟨u,hu,zce5 hs hr (zbv8 (zbL1 hok c0 (List.mem_of_getElem? hc0)) b0 (List.mem_of_getElem? hb0))⟩
 ·rcases hs.wsup b hb with h1|h1
  ·by_cases hx:∃ x k,x ∈ ids∧μ x=.at_ k∧k.b=b
   ·obtain ⟨x,k,_,hx2,hx3⟩:=hx
    rcases hs.live x k hx2 with h2|h2
    ·exact .inr (hx3 ▸ h2)
    ·have:=hs.winlt b hb; omega
   ·exact .inl ⟨h1,hx⟩
  ·exact .inr h1
def St.own0 (st:St) (t sz:Nat) (z:List A):St:=⟨(t,.own st.nx 0 0) :: rm t st.fr,(st.nx,⟨false,sz,z,[]⟩) :: st.mem,st.nx+1⟩
theorem St.le_own0 (t sz:Nat) (z:List A) (hz:0 < sz) (h:st.slot t=.full []):St.le E st (st.own0 t sz z):=by
 intro a w ⟨W,μ,hs⟩
 have hst:=Step.newEmpty (r:=⟨false,sz,z,[]⟩) hs.mem hs.inj hs.wlt (St.m_nx st) hz rfl (Keeps.refl _ w)
 have h2:=hs.step (d:=none) (v:=undef) (av:=.any) hst (fun x hx=>by cases hx) trivial
 have hem:(st.own0 t sz z).m=setM st.m [(st.nx,.row ⟨false,sz,z,[]⟩)]:=by
  funext x
  simp only [St.m,St.own0,setM,look]
  by_cases hx:x=st.nx
  ·subst hx
   rw [if_neg (by omega),if_pos rfl,if_pos rfl]
  ·by_cases h3:st.nx≤x
   ·rw [if_pos (show st.nx+1≤x by omega),if_neg hx,if_pos h3]
   ·rw [if_neg (show ¬ st.nx+1≤x by omega),if_neg (show ¬ st.nx=x by omega),if_neg hx,if_neg h3]
 refine ⟨_,_,{ h2 with fr:=fun t'=>?_,mem:=?_ }⟩
 ·have h3:=h2.fr t'
  show Rep w W _ (a.tmps.getD t' undef) ((st.own0 t sz z).slot t')
  have h4:Rep w W (fun x=>if x=st.nx then .empty else μ x) (a.tmps.getD t' undef) (st.slot t'):=h3
  simp only [St.slot,St.own0,look]
  split
  ·rename_i ht
   subst ht
   rw [h] at h4
   have h5:RepC w W (a.tmps.getD t undef) (.full []):=h4
   generalize a.tmps.getD t undef=v at h5
   cases h5 with
   | full ad n es h6 =>
    cases h6 with
    | sl0=>exact zaP1 (by simp) 0
    | sl b off cap s es us _ _ hn=>simp at hn
  ·rename_i ht
   rw [zaA8,if_neg (fun e=>ht e.symm)]
   exact h4
 ·show zaI1 w W _ (st.own0 t sz z).m
  rw [hem]
  exact h2.mem
def zaV4 (j n:Nat):List (List A)→List (List A)
 | [c]=>[upd c j [.own n 0 0]]
 | es=>es
def zbr1 (x j n:Nat):List (Nat×Row)→List (Nat×Row)
 | []=>[]
 | q :: r=>if q.1=x then (q.1,⟨q.2.ro,q.2.sz,q.2.z,zaV4 j n q.2.es⟩) :: r else q :: zbr1 x j n r
def zcU5 (j:Nat):List (List A)→Prop
 | [c]=>sub c j 1=[.full []]
 | _=>False
def St.ownb (st:St) (x j sz:Nat) (z:List A):St:=⟨st.fr,(st.nx,⟨false,sz,z,[]⟩) :: zbr1 x j st.nx st.mem,st.nx+1⟩
def St.ownbOk (st:St) (x j sz:Nat):Prop:=0 < sz∧match st.m x with
 | .row r=>zcU5 j r.es
 | _=>False
theorem zbr2 (x j n y:Nat):∀ mem:List (Nat×Row),look (zbr1 x j n mem) y=(look mem y).map fun r=>if y=x then ⟨r.ro,r.sz,r.z,zaV4 j n r.es⟩ else r
 | []=>rfl
 | q :: r=>by
  simp only [zbr1]
  split
  ·rename_i h
   simp only [look]
   split
   ·rename_i h2; simp [← h2,h]
   ·rename_i h2
    have:¬ y=x:=fun e=>h2 (h.trans e.symm)
    cases look r y <;> simp [this]
  ·rename_i h
   simp only [look]
   split
   ·rename_i h2; simp [← h2,h]
   ·exact zbr2 x j n y r
theorem zcm0 {v:Value} {x:Nat} (hx:μ x=.empty) (h:RepK w W μ v (.full [])):RepK w W μ v (.own x 0 0):=by
 have h5:RepC w W v (.full []):=h
 cases h5 with
 | full ad n es h6 =>
  cases h6 with
  | sl0 =>
   refine ⟨rfl,?_⟩
   rw [hx]
   exact ⟨rfl,ad,rfl⟩
  | sl b off cap s es us _ _ hn=>simp at hn
theorem St.le_ownb (x j sz:Nat) (z:List A) (h:st.ownbOk x j sz):St.le E st (st.ownb x j sz z):=by
 obtain ⟨hz,hnil⟩:=h
 intro a w ⟨W,μ,hs⟩
 have hst:=Step.newEmpty (r:=⟨false,sz,z,[]⟩) hs.mem hs.inj hs.wlt (St.m_nx st) hz rfl (Keeps.refl _ w)
 have h2:=hs.step (d:=none) (v:=undef) (av:=.any) hst (fun x hx=>by cases hx) trivial
 refine ⟨_,_,{ h2 with fr:=fun t=>h2.fr t,mem:=fun y=>?_ }⟩
 have hm:=h2.mem y
 have hxn:x < st.nx:=by
  cases hr:st.m x with
  | fresh=>rw [hr] at hnil; exact hnil.elim
  | dead=>rw [hr] at hnil; exact hnil.elim
  | row r=>exact St.m_row hr
 show zao5 w W _ y ((st.ownb x j sz z).m y)
 have hm':zao5 w W (fun x=>if x=st.nx then .empty else μ x) y (setM st.m [(st.nx,.row ⟨false,sz,z,[]⟩)] y):=hm
 simp only [setM] at hm'
 by_cases hy:y=st.nx
 ·subst hy
  have e:(st.ownb x j sz z).m st.nx=.row ⟨false,sz,z,[]⟩:=by
   simp only [St.m,St.ownb,look]
   rw [if_neg (by omega)]; simp
  rw [if_pos rfl] at hm'
  rw [e]; exact hm'
 rw [if_neg hy] at hm'
 have e:(st.ownb x j sz z).m y=match st.m y with
   | .row r=>.row (if y=x then ⟨r.ro,r.sz,r.z,zaV4 j st.nx r.es⟩ else r)
   | q=>q:=by
  simp only [St.m,St.ownb,look,zbr2]
  by_cases h3:st.nx≤y
  ·rw [if_pos (show st.nx+1≤y by omega),if_pos h3]
  ·rw [if_neg (show ¬ st.nx+1≤y by omega),if_neg (show ¬ st.nx=y by omega),if_neg h3]
   cases look st.mem y <;> rfl
 rw [e]
 cases hr:st.m y with
 | fresh=>rw [hr] at hm'; exact hm'
 | dead=>rw [hr] at hm'; exact hm'
 | row r =>
  rw [hr] at hm'
  simp only
  by_cases hyx:y=x
  ·subst hyx
   rw [if_pos rfl]
   rw [hr] at hnil
   have hnil:zcU5 j r.es:=hnil
   rcases hm' with ⟨g1,g2,g3⟩|⟨k,g1,g2,g3,g4,us,rest,e',g5,g6,g7⟩
   ·rw [g2] at hnil; exact hnil.elim
   ·refine .inr ⟨k,g1,g2,g3,g4,us,rest,e',g5,g6,?_⟩
    show Flat _ r.sz us (zaV4 j st.nx r.es)
    obtain ⟨ro,sz',z',es⟩:=r
    match es,hnil with
    | [c],hnil =>
     have hj:sub c j 1=[.full []]:=hnil
     have hc:c.length=sz':=g7.hs 0 c rfl
     have hjl:c[j]? = some (.full []):=by
      have h8:((c.drop j).take 1)[0]? = some (.full []):=by
       show (sub c j 1)[0]? = _
       rw [hj]; rfl
      simpa [List.getElem?_take,List.getElem?_drop] using h8
     have hlt:j < c.length:=(List.getElem?_eq_some_iff.1 hjl).1
     have hu:upd c j [.own st.nx 0 0]=c.set j (.own st.nx 0 0):=by
      simp only [upd,List.length_cons,List.length_nil,Nat.zero_add]
      rw [List.set_eq_take_append_cons_drop,if_pos hlt]
      simp
     refine ⟨g7.hl,fun i d hd=>?_,fun i d q b hd hb=>?_⟩
     ·cases i with
      | zero =>
       simp [zaV4] at hd
       subst hd
       rw [hu,List.length_set]; exact hc
      | succ i=>simp [zaV4] at hd
     ·cases i with
      | zero =>
       simp [zaV4] at hd
       subst hd
       rw [hu,List.getElem?_set] at hb
       split at hb
       ·rename_i hq
        subst hq
        cases hb
        obtain ⟨u,hu1,hu2⟩:=g7.ha 0 c j _ rfl hjl
        exact ⟨u,hu1,zcm0 (by simp) hu2⟩
       ·exact g7.ha 0 c q b rfl hb
      | succ i=>simp [zaV4] at hd
  ·rw [if_neg hyx]; exact hm'
def unfA:A→A
 | .full es=>.sl es
 | a=>a
def zaN2:List A→List A
 | []=>[]
 | a :: as=>unfA a :: zaN2 as
def zbL4:List (Nat×Row)→List (Nat×Row)
 | []=>[]
 | q :: r=>(q.1,⟨q.2.ro,q.2.sz,q.2.z,q.2.es.map zaN2⟩) :: zbL4 r
def St.unf (st:St):St:=⟨st.fr,zbL4 st.mem,st.nx⟩
theorem zbL5:∀ (cs:List A) (i:Nat),(zaN2 cs)[i]? = (cs[i]?).map unfA
 | [],i=>by simp [zaN2]
 | c :: cs,i=>by
  cases i with
  | zero=>simp [zaN2]
  | succ i=>simp [zaN2,zbL5 cs i]
theorem zbv9:∀ cs:List A,(zaN2 cs).length=cs.length
 | []=>rfl
 | _ :: cs=>by simp [zaN2,zbv9 cs]
theorem zbB8 (x:Nat):∀ mem:List (Nat×Row),look (zbL4 mem) x=(look mem x).map fun r=>⟨r.ro,r.sz,r.z,r.es.map zaN2⟩
 | []=>rfl
 | q :: r=>by
  simp only [zbL4,look]
  split
  ·rfl
  ·exact zbB8 x r
theorem zcE4 {v:Value} {x:A} (h:RepK w W μ v x):RepK w W μ v (unfA x):=by
 cases x with
 | full es =>
  have h2:RepC w W v (.full es):=h
  cases h2 with
  | full a n es h3=>exact zs2 h3
 | _=>exact h
theorem St.le_unf:St.le E st st.unf:=by
 intro a w ⟨W,μ,hs⟩
 refine ⟨W,μ,{ hs with mem:=fun x=>?_ }⟩
 show zao5 w W μ x (st.unf.m x)
 have hm:zao5 w W μ x (st.m x):=hs.mem x
 simp only [St.m,St.unf,zbB8] at hm ⊢
 split
 ·rename_i hx; rw [if_pos hx] at hm; exact hm
 ·rename_i hx
  rw [if_neg hx] at hm
  cases hl:look st.mem x with
  | none=>rw [hl] at hm; exact hm
  | some r =>
   rw [hl] at hm
   rcases hm with ⟨e1,e2,e3⟩|⟨k,e1,hro,hsz,hpos,us,rest,e,h4,h5,h6⟩
   ·exact .inl ⟨e1,by show r.es.map zaN2=[]; rw [e2]; rfl,e3⟩
   ·refine .inr ⟨k,e1,hro,hsz,hpos,us,rest,e,h4,h5,?_⟩
    show Flat _ r.sz us (r.es.map zaN2)
    refine ⟨by simpa using h6.hl,fun i c hc=>?_,fun i c j b hc hb=>?_⟩
    ·simp only [List.getElem?_map,Option.map_eq_some_iff] at hc
     obtain ⟨c0,hc0,rfl⟩:=hc
     rw [zbv9]; exact h6.hs i c0 hc0
    ·simp only [List.getElem?_map,Option.map_eq_some_iff] at hc
     obtain ⟨c0,hc0,rfl⟩:=hc
     rw [zbL5] at hb
     obtain ⟨b0,hb0,rfl⟩:=Option.map_eq_some_iff.1 hb
     obtain ⟨u,hu,hr⟩:=h6.ha i c0 j b0 hc0 hb0
     exact ⟨u,hu,zcE4 hr⟩
def St.cast (st:St) (t:Nat) (v:A):St:=⟨(t,v) :: rm t st.fr,st.mem,st.nx⟩
theorem St.le_cast (t:Nat) (v:A) (h:st.slot t=v):St.le E st (st.cast t v):=by
 have e:(st.cast t v).toS=st.toS:=by
  simp only [St.toS]
  congr 1
  funext x
  simp only [St.slot,St.cast,look]
  split
  ·rename_i hx; subst hx; exact h.symm
  ·rename_i hx; rw [zaA8,if_neg (fun e=>hx e.symm)]
 intro a w hs
 rw [e]; exact hs
def St.unfs (st:St) (t:Nat):St:=⟨(t,unfA (st.slot t)) :: rm t st.fr,st.mem,st.nx⟩
theorem St.le_unfs (t:Nat):St.le E st (st.unfs t):=by
 intro a w ⟨W,μ,hs⟩
 refine ⟨W,μ,{ hs with fr:=fun t'=>?_ }⟩
 show Rep w W μ (a.tmps.getD t' undef) ((st.unfs t).slot t')
 have hr:Rep w W μ (a.tmps.getD t' undef) (st.slot t'):=hs.fr t'
 by_cases h:t=t'
 ·subst h
  have e:(st.unfs t).slot t=unfA (st.slot t):=by simp [St.slot,St.unfs,look]
  rw [e]
  generalize st.slot t=x at hr ⊢
  cases x with
  | full es =>
   have h2:RepC w W (a.tmps.getD t undef) (.full es):=hr
   exact zr1 (zq5 (zs2 h2.of_full.1))
  | _=>exact hr
 ·have e:(st.unfs t).slot t'=st.slot t':=by
   simp only [St.slot,St.unfs,look]
   rw [if_neg h,zaA8,if_neg (fun e=>h e.symm)]
  rw [e]; exact hr
inductive Gh where
 | unf
 | cast (t:Nat) (v:A)
 | fz (ids:List Nat)
 | own0 (t sz:Nat) (z:List A)
 | ownb (x j sz:Nat) (z:List A)
 | unfs (t:Nat)
def St.gh (st:St):Gh→St
 | .unf=>st.unf
 | .cast t v=>st.cast t v
 | .fz ids=>st.fz ids
 | .own0 t sz z=>st.own0 t sz z
 | .ownb x j sz z=>st.ownb x j sz z
 | .unfs t=>st.unfs t
def St.ghOk (st:St):Gh→Prop
 | .unf=>True
 | .cast t v=>st.slot t=v
 | .fz ids=>st.fzOk ids
 | .own0 t sz _=>0 < sz∧st.slot t=.full []
 | .ownb x j sz _=>st.ownbOk x j sz
 | .unfs _=>True
theorem St.le_gh (g:Gh) (h:st.ghOk g):St.le E st (st.gh g):=by
 cases g with
 | unf=>exact St.le_unf
 | cast t v=>exact St.le_cast t v h
 | fz ids=>exact St.le_fz ids h
 | own0 t sz z=>exact St.le_own0 t sz z h.1 h.2
 | ownb x j sz z=>exact St.le_ownb x j sz z h
 | unfs t=>exact St.le_unfs t
theorem zdx0 {c:PC} {Q:Exit→St→Prop} (g:Gh) (hok:st.ghOk g) (h:AW C E c Q (st.gh g)):AW C E c Q st:=AW.weak (St.le_gh g hok) h
end
def zbB9 (C:Cx) (f:FuncId) (d:Option Nat) (g:Option (Nat×Bool)) (gv:Bool) (ob:Prop) (args:List A) (rw:List (Nat×MS)) (ps:List POp) (st:St) (K:St→Prop):Prop :=
 ∃ r,(gv=true→ob∧PFn C f args r)∧(g=none∨(if r.scal then [] else rw)=[]∧r.isVV=true)∧arun C ps (st.app d (zS4 g gv r) (if r.scal then [] else rw)) K
theorem zcU6 {C:Cx} {f:FuncId} {d:Option Nat} {g:Option (Nat×Bool)} {gv:Bool} {ob:Prop} {args:List A} {rw:List (Nat×MS)} {ps:List POp} {st:St} {K:St→Prop} {r:A}
  (hf:gv=true→PFn C f args r) (h:arun C ps (st.app d (zS4 g gv r) (if r.scal then [] else rw)) K)
  (ho:gv=true→ob:=by intro; trivial) (hg:g=none∨(if r.scal then [] else rw)=[]∧r.isVV=true:=by first|exact .inl rfl|exact .inr ⟨rfl,rfl⟩):zbB9 C f d g gv ob args rw ps st K:=⟨r,fun e=>⟨ho e,hf e⟩,hg,h⟩
def zao0 (C:Cx) (f:FuncId) (d:Option Nat) (g:Option (Nat×Bool)) (gv:Bool) (ob:Prop) (vals:List A) (ps:List POp) (st:St) (K:St→Prop):Prop :=
 zaM7 C st.m st.nx f vals g gv ob (fun _=>True) fun v mw=>arun C ps (st.app d v mw) K
def zbc5:A→Bool
 | .cnd _ _=>false
 | _=>true
theorem zbc6 {r:A} (h:zbc5 r=true):∀ g c,r≠.cnd g c:=fun g c e=>by subst e; cases h
theorem zcJ1 {C:Cx} {f:FuncId} {d:Option Nat} {ob:Prop} {vals:List A} {ps:List POp} {st:St} {K:St→Prop} (l:List (Nat×Nat)) {as:List A} {ms ms':List (Nat×Row)} {k k':Nat} {r:A}
  (hf:MFn C f as ms k r ms' k') (hok:okM st.m st.nx l vals as ms k k') (h:arun C ps (st.app d (renR (l++newL k st.nx (k' - k)) r) (mwM st.m (l++newL k st.nx (k' - k)) vals as ms ms' k k')) K)
  (ho:ob:=by trivial) (hr:zbc5 r=true:=by rfl):zao0 C f d none true ob vals ps st K :=
 ⟨l,as,ms,k,r,ms',k',fun _=>⟨ho,hf,hok,trivial⟩,(fun h=>nomatch h),.inl rfl,zbc6 hr,h⟩
theorem zcv9 {C:Cx} {f:FuncId} {d:Option Nat} {g:Option (Nat×Bool)} {gv:Bool} {ob:Prop} {vals:List A} {ps:List POp} {st:St} {K:St→Prop} (l:List (Nat×Nat)) {as:List A} {ms ms':List (Nat×Row)} {k:Nat} {r:A}
  (hf:gv=true→MFn C f as ms k r ms' k) (hok:gv=true→okM st.m st.nx l vals as ms k k) (hs:gv=false→zbq6 st.m (mwM st.m l vals as ms ms' k k)) (h:arun C ps (st.app d (zS4 g gv (renR l r)) (mwM st.m l vals as ms ms' k k)) K)
  (ho:gv=true→ob) (hr:zbc5 r=true:=by rfl) (hv:(renR l r).isVV=true:=by rfl):zao0 C f d g gv ob vals ps st K:=by
 have e:l++newL k st.nx (k - k)=l:=by rw [Nat.sub_self]; exact List.append_nil l
 refine ⟨l,as,ms,k,r,ms',k,fun h=>⟨ho h,hf h,hok h,trivial⟩,?_⟩
 rw [e]
 exact ⟨fun h=>⟨rfl,hs h⟩,.inr hv,zbc6 hr,h⟩
theorem zcU7 (C:Cx) (st:St) (K:St→Prop):arun C [] st K=K st:=rfl
theorem zcJ2 (C:Cx) (d:Option Nat) (g:Option (Nat×Bool)) (po:PO) (xs:List PX) (ps:List POp) (st:St) (K:St→Prop) :
  arun C (⟨d,g,po,xs⟩ :: ps) st K=(match po with
   | .call f=>(match zQ7 st g with
    | none=>False
    | some gv=>zbB9 C f d g gv (zas6 C st xs∧zG8 st.m (zt5 C st xs)) (zR5 st.m (zt5 C st xs)) (zS3 st.m (zG9 (zt5 C st xs))) ps st K)
   | .callv=>(match zQ7 st g with
    | none=>False
    | some gv=>(match zt5 C st xs with
     | .clo f caps :: vals=>zbB9 C f d g gv (zas6 C st xs∧zab1 C.P f=true∧zG8 st.m (vals++caps)) (zR5 st.m (vals++caps)) (zS3 st.m (zG9 (vals++caps))) ps st K
     | _=>False))
   | .callm f=>(match zQ7 st g with
    | none=>False
    | some gv=>zao0 C f d g gv (zas6 C st xs) (zt5 C st xs) ps st K)
   | .callvm=>(match zQ7 st g with
    | none=>False
    | some gv=>(match zt5 C st xs with
     | .clo f caps :: vals=>zao0 C f d g gv (zas6 C st xs∧zab1 C.P f=true) (vals++caps) ps st K
     | _=>False))
   | .eqNil=>g=none∧zas6 C st xs∧nilQ (fun b=>arun C ps (st.app d (.bool b) []) K) (zt5 C st xs)
   | po=>aop C ⟨d,g,po,xs⟩ st fun st'=>arun C ps st' K):=by
 cases po with
 | eqNil=>rfl
 | call f =>
  simp only [arun,aop,zbB9,PO.isNilQ,Bool.false_eq_true,if_false]
  cases zQ7 st g with
  | none=>rfl
  | some gv=>simp only [zM7,and_assoc]
 | callv =>
  simp only [arun,aop,PO.isNilQ,Bool.false_eq_true,if_false]
  cases zQ7 st g with
  | none=>rfl
  | some gv =>
   simp only
   generalize zt5 C st xs=vv
   rcases vv with _|⟨x,vs⟩
   ·rfl
   ·cases x <;> first|rfl|(simp only [zbB9,zM7,and_assoc])
 | callm f =>
  simp only [arun,aop,zao0,PO.isNilQ,Bool.false_eq_true,if_false]
  cases zQ7 st g with
  | none=>rfl
  | some gv=>rfl
 | callvm =>
  simp only [arun,aop,PO.isNilQ,Bool.false_eq_true,if_false]
  cases zQ7 st g with
  | none=>rfl
  | some gv =>
   simp only
   generalize zt5 C st xs=vv
   rcases vv with _|⟨x,vs⟩
   ·rfl
   ·cases x <;> first|rfl|(simp only [zao0])
 | _=>rfl
def zbc7 (C:Cx) (f:FuncId) (d:Option Nat) (g:Option (Nat×Bool)) (gv:Bool) (ob:Prop) (args:List A) (rw:List (Nat×MS)) (ps:List POp) (st:St) (K:St→Prop):Prop :=
 ∃ r,(gv=true→ob∧PFn C f args r)∧(g=none∨(if r.scal then [] else rw)=[]∧r.isVV=true)∧((st.app d (zS4 g gv r) (if r.scal then [] else rw)).mem=st.mem∧(st.app d (zS4 g gv r) (if r.scal then [] else rw)).nx=st.nx)∧zaY2 C ps (st.app d (zS4 g gv r) (if r.scal then [] else rw)) K
theorem zcJ3 {C:Cx} {f:FuncId} {d:Option Nat} {g:Option (Nat×Bool)} {gv:Bool} {ob:Prop} {args:List A} {rw:List (Nat×MS)} {ps:List POp} {st:St} {K:St→Prop} {r:A}
  (hf:gv=true→PFn C f args r) (h:zaY2 C ps (st.app d (zS4 g gv r) []) K)
  (ho:gv=true→ob:=by intro; trivial) (hg:g=none∨(if r.scal then [] else rw)=[]∧r.isVV=true:=by first|exact .inl rfl|exact .inr ⟨rfl,rfl⟩) (hn:(if r.scal then [] else rw)=[]:=by rfl):zbc7 C f d g gv ob args rw ps st K:=⟨r,fun e=>⟨ho e,hf e⟩,hg,by rw [hn]; exact ⟨rfl,rfl⟩,by rw [hn]; exact h⟩
theorem zcJ4 (C:Cx) (st:St) (K:St→Prop):zaY2 C [] st K=K st:=rfl
theorem zcw0 (C:Cx) (d:Option Nat) (g:Option (Nat×Bool)) (po:PO) (xs:List PX) (ps:List POp) (st:St) (K:St→Prop) :
  zaY2 C (⟨d,g,po,xs⟩ :: ps) st K=(match po with
   | .call f=>(match zQ7 st g with
    | none=>False
    | some gv=>zbc7 C f d g gv (zas6 C st xs∧zG8 st.m (zt5 C st xs)) (zR5 st.m (zt5 C st xs)) (zS3 st.m (zG9 (zt5 C st xs))) ps st K)
   | .callv=>(match zQ7 st g with
    | none=>False
    | some gv=>(match zt5 C st xs with
     | .clo f caps :: vals=>zbc7 C f d g gv (zas6 C st xs∧zab1 C.P f=true∧zG8 st.m (vals++caps)) (zR5 st.m (vals++caps)) (zS3 st.m (zG9 (vals++caps))) ps st K
     | _=>False))
   | po=>aop C ⟨d,g,po,xs⟩ st fun st'=>(st'.mem=st.mem∧st'.nx=st.nx)∧zaY2 C ps st' K):=by
 cases po with
 | call f =>
  simp only [zaY2,aop,zbc7]
  cases zQ7 st g with
  | none=>rfl
  | some gv=>simp only [zM7,and_assoc]
 | callv =>
  simp only [zaY2,aop]
  cases zQ7 st g with
  | none=>rfl
  | some gv =>
   simp only
   generalize zt5 C st xs=vv
   rcases vv with _|⟨x,vs⟩
   ·rfl
   ·cases x <;> first|rfl|(simp only [zbc7,zM7,and_assoc])
 | _=>rfl
def zbc8 (C:Cx) (an:List (List Nat)) (f:FuncId) (d:Option Nat) (g:Option (Nat×Bool)) (gv:Bool) (ob:Prop) (args:List A) (rw:List (Nat×MS)) (ids:List Nat) (cok:Bool) (ps:List POp) (st:St) (log:List (List Nat×List Nat)) (K:St→Prop):Prop :=
 ∃ r,(gv=true→ob∧PFn C f args r)∧(g=none∨(if r.scal then [] else rw)=[]∧r.isVV=true)∧zaY3 (an.getD log.length []) 0 log ids ((if r.scal then [] else rw).map (·.1))=true∧cok=true ∧
  zax9 C an ps (st.app d (zS4 g gv r) (if r.scal then [] else rw)) (log++[(ids,(if r.scal then [] else rw).map (·.1))]) K
theorem zcJ5 {C:Cx} {an:List (List Nat)} {f:FuncId} {d:Option Nat} {g:Option (Nat×Bool)} {gv:Bool} {ob:Prop} {args:List A} {rw:List (Nat×MS)} {ids:List Nat} {cok:Bool} {ps:List POp} {st:St} {log:List (List Nat×List Nat)} {K:St→Prop} {r:A}
  (hf:gv=true→PFn C f args r) (h:zaY3 (an.getD log.length []) 0 log ids ((if r.scal then [] else rw).map (·.1))=true∧cok=true∧zax9 C an ps (st.app d (zS4 g gv r) (if r.scal then [] else rw)) (log++[(ids,(if r.scal then [] else rw).map (·.1))]) K)
  (ho:gv=true→ob:=by intro; trivial) (hg:g=none∨(if r.scal then [] else rw)=[]∧r.isVV=true:=by first|exact .inl rfl|exact .inr ⟨rfl,rfl⟩):zbc8 C an f d g gv ob args rw ids cok ps st log K:=⟨r,fun e=>⟨ho e,hf e⟩,hg,h.1,h.2.1,h.2.2⟩
def zaG8 (C:Cx) (an:List (List Nat)) (f:FuncId) (d:Option Nat) (g:Option (Nat×Bool)) (gv:Bool) (ob:Prop) (vals:List A) (ids:List Nat) (cok:Bool) (ps:List POp) (st:St) (log:List (List Nat×List Nat)) (K:St→Prop):Prop :=
 zaM7 C st.m st.nx f vals g gv ob (fun n=>∀ x,st.nx≤x→x < st.nx+n→st.m x=.fresh) fun v mw=>zaY3 (an.getD log.length []) 0 log ids (mw.map (·.1))=true∧cok=true∧zax9 C an ps (st.app d v mw) (log++[(ids,mw.map (·.1))]) K
theorem zcw1 {C:Cx} {an:List (List Nat)} {f:FuncId} {d:Option Nat} {ob:Prop} {vals:List A} {ids:List Nat} {cok:Bool} {ps:List POp} {st:St} {log:List (List Nat×List Nat)} {K:St→Prop} (l:List (Nat×Nat)) {as:List A} {ms ms':List (Nat×Row)} {k k':Nat} {r:A}
  (hf:MFn C f as ms k r ms' k') (hok:okM st.m st.nx l vals as ms k k')
  (h:zaY3 (an.getD log.length []) 0 log ids ((mwM st.m (l++newL k st.nx (k' - k)) vals as ms ms' k k').map (·.1))=true∧cok=true∧zax9 C an ps (st.app d (renR (l++newL k st.nx (k' - k)) r) (mwM st.m (l++newL k st.nx (k' - k)) vals as ms ms' k k')) (log++[(ids,(mwM st.m (l++newL k st.nx (k' - k)) vals as ms ms' k k').map (·.1))]) K)
  (ho:ob:=by trivial) (hr:zbc5 r=true:=by rfl):zaG8 C an f d none true ob vals ids cok ps st log K :=
 ⟨l,as,ms,k,r,ms',k',fun _=>⟨ho,hf,hok,fun x hx _=>zcd8 st x hx⟩,(fun h=>nomatch h),.inl rfl,zbc6 hr,h⟩
theorem zcJ6 (C:Cx) (an:List (List Nat)) (st:St) (log:List (List Nat×List Nat)) (K:St→Prop):zax9 C an [] st log K=K st:=rfl
theorem zcw2 (C:Cx) (an:List (List Nat)) (d:Option Nat) (g:Option (Nat×Bool)) (po:PO) (xs:List PX) (ps:List POp) (st:St) (log:List (List Nat×List Nat)) (K:St→Prop) :
  zax9 C an (⟨d,g,po,xs⟩ :: ps) st log K=(match po with
   | .call f=>(match zP4 st.slot g with
    | none=>False
    | some gv=>zbc8 C an f d g gv (gdsF C st.slot xs∧zG8 st.m (zM0 C st.slot xs)) (zR5 st.m (zM0 C st.slot xs)) (zS3 st.m (zG9 (zM0 C st.slot xs))) (zE5 (zt5 C st xs)) (zaV0 (zt5 C st xs)) ps st log K)
   | .callv=>(match zP4 st.slot g with
    | none=>False
    | some gv=>(match zM0 C st.slot xs with
     | .clo f caps :: vals=>zbc8 C an f d g gv (gdsF C st.slot xs∧zab1 C.P f=true∧zG8 st.m (vals++caps)) (zR5 st.m (vals++caps)) (zS3 st.m (zG9 (vals++caps))) (zE5 (zt5 C st xs)) (zaV0 (zt5 C st xs)) ps st log K
     | _=>False))
   | .callm f=>(match zP4 st.slot g with
    | none=>False
    | some gv=>zaG8 C an f d g gv (gdsF C st.slot xs) (zM0 C st.slot xs) (zE5 (zt5 C st xs)) (zaV0 (zt5 C st xs)) ps st log K)
   | .callvm=>(match zP4 st.slot g with
    | none=>False
    | some gv=>(match zM0 C st.slot xs with
     | .clo f caps :: vals=>zaG8 C an f d g gv (gdsF C st.slot xs∧zab1 C.P f=true) (vals++caps) (zE5 (zt5 C st xs)) (zaV0 (zt5 C st xs)) ps st log K
     | _=>False))
   | po=>aopS C ⟨d,g,po,xs⟩ st.toS st.nx fun v mw=>zaY3 (an.getD log.length []) 0 log (zE5 (zt5 C st xs)) (mw.map (·.1))=true∧zaV0 (zt5 C st xs)=true ∧
     zax9 C an ps (st.app d v mw) (log++[(zE5 (zt5 C st xs),mw.map (·.1))]) K):=by
 cases po with
 | call f =>
  simp only [zax9,aopS,zbc8,St.toS]
  cases zP4 st.slot g with
  | none=>rfl
  | some gv=>simp only [zM7,and_assoc]
 | callv =>
  simp only [zax9,aopS,St.toS]
  cases zP4 st.slot g with
  | none=>rfl
  | some gv =>
   simp only
   generalize zM0 C st.slot xs=vv
   rcases vv with _|⟨x,vs⟩
   ·rfl
   ·cases x <;> first|rfl|(simp only [zbc8,zM7,and_assoc])
 | callm f =>
  simp only [zax9,aopS,zaG8,St.toS]
  cases zP4 st.slot g with
  | none=>rfl
  | some gv=>rfl
 | callvm =>
  simp only [zax9,aopS,St.toS]
  cases zP4 st.slot g with
  | none=>rfl
  | some gv =>
   simp only
   generalize zM0 C st.slot xs=vv
   rcases vv with _|⟨x,vs⟩
   ·rfl
   ·cases x <;> first|rfl|(simp only [zaG8])
 | _=>rfl
attribute [go_sem ↓] aop aopS
attribute [go_sem] zcU7 zcJ2 zcJ4 zcw0 zcJ6 zcw2 zP4 zM0 gdsF St.toS zE5 idsA zbk4 zaQ6 zaV0 zbc4 A.flatCap okM zbq5 argM A.hands fzM zbX9 zbA5 newL zae9 mwM entM zbq6 MS.like renR ren0 zck6 resL zbA8 zbJ9 zQ7 St.slot St.m look zt5 zas6 xv A.nc A.gd ev zbX1 zax8 zaF9 zal3 A.cells A.isV A.isK A.isStr A.isVV allV allK zx8 laid zbH9 zaU2
 PO.lax nilQ zS4 St.app putF putM nxt rm zbX8 St.drop zM7 zR5 zG8 frz frz1 zaC0 zau6 zau7 zQ6 zG9 zS3 A.scal A.scal1 A.scal2 zu1 zbJ0 zo7 A.pure1 pureEs
 zr0 LK.fits eqA eq1 glob zI7 zbY8 allG zaY1 resA resG zbY7 Le leF leM rho ren ren1 zaM6 idOk zbA4 idEs zaI4
def SeqQ (C:Cx) (E:Env) (y:PC) (Q:Exit→St→Prop):Exit→St→Prop:=fun e s=>match e with|.normal=>AW C E y Q s|e=>Q e s
def BlkQ (id:Nat) (Q:Exit→St→Prop):Exit→St→Prop:=fun e s=>match e with|.exit i=>(if i=id then Q .normal s else Q (.exit i) s)|e=>Q e s
section
variable {C:Cx} {E:Env} {Q:Exit→St→Prop} {st:St}
theorem za2 {x y:PC} (h:AW C E x (SeqQ C E y Q) st):AW C E (.seq x y) Q st:=zdq0 h
theorem zI8 {id:Nat} {c:PC} (h:AW C E c (BlkQ id Q) st):AW C E (.block id c) Q st:=zbJ6 h
theorem zcm1 {y:PC} (s:St):SeqQ C E y Q .normal s=AW C E y Q s:=rfl
theorem zcU8 {y:PC} (s:St):SeqQ C E y Q .ret s=Q .ret s:=rfl
theorem zcJ7 {y:PC} (i:Nat) (s:St):SeqQ C E y Q (.exit i) s=Q (.exit i) s:=rfl
theorem zcm2 (i:Nat) (s:St):BlkQ i Q .normal s=Q .normal s:=rfl
theorem zcU9 (i:Nat) (s:St):BlkQ i Q .ret s=Q .ret s:=rfl
theorem zcJ8 (i j:Nat) (s:St):BlkQ i Q (.exit j) s=if j=i then Q .normal s else Q (.exit j) s:=rfl
theorem zcV0 (rs:List RX) (r:A) (fr:List (Nat×A)) (m:List (Nat×Row)) (n:Nat):Post rs r .ret ⟨fr,m,n⟩=zbY8 ⟨fr,m,n⟩ rs r:=rfl
theorem zcm3 (rs:List RX) (r:A) (fr:List (Nat×A)) (m:List (Nat×Row)) (n:Nat):Post rs r .normal ⟨fr,m,n⟩=zbY8 ⟨fr,m,n⟩ rs r:=rfl
theorem zcJ9 (k:Nat) (rs:List RX) (rl:List A) (ms':List (Nat×Row)) (k':Nat) (fr:List (Nat×A)) (m:List (Nat×Row)) (n:Nat):zcl1 k rs rl ms' k' .ret ⟨fr,m,n⟩=zaU7 k ⟨fr,m,n⟩ rs rl ms' k':=rfl
theorem zce6 (k:Nat) (rs:List RX) (rl:List A) (ms':List (Nat×Row)) (k':Nat) (fr:List (Nat×A)) (m:List (Nat×Row)) (n:Nat):zcl1 k rs rl ms' k' .normal ⟨fr,m,n⟩=zaU7 k ⟨fr,m,n⟩ rs rl ms' k':=rfl
attribute [go_sem] zcJ9 zce6 St.gh St.ghOk St.fz St.fzOk St.own0 St.ownb St.ownbOk zbr1 zaV4 zcU5 St.unfs St.cast St.unf zbL4 zaN2 unfA memN fzA fzCs fzV fzEs fzFr zcl8 zbZ2 zbv7 zcl9 zbG7 zce2 zce3 zbG8
attribute [go_sem] zcm1 zcU8 zcJ7 zcm2 zcU9 zcJ8 zcV0 zcm3
end
theorem zbL6 (n:Nat):zP2 n []:=by intro c hc; cases hc
theorem zcm4 (n:Nat) (a:List A) (b:List (List A)):zP2 n (a :: b) ↔ a.length=n∧zP2 n b:=by
 simp only [zP2,List.mem_cons]
 exact ⟨fun h=>⟨h a (.inl rfl),fun c hc=>h c (.inr hc)⟩,fun ⟨h1,h2⟩ c hc=>hc.elim (fun e=>e ▸ h1) (h2 c)⟩
theorem zbr3:zao6 []:=by intro c hc; cases hc
attribute [go_sem] Nat.zero_add Nat.add_zero Nat.lt_irrefl Nat.le_refl Nat.lt_add_one Nat.zero_le Int.toNat_zero Int.toNat_natCast Int.natCast_zero imp_self and_self true_and and_true false_and and_false or_true true_or or_false false_or forall_const true_implies false_implies implies_true if_true if_false eq_self ne_eq not_true_eq_false not_false_eq_true Bool.true_and Bool.and_true Bool.false_and Bool.and_false Bool.not_true Bool.not_false Bool.not_not Bool.false_eq_true Bool.true_eq_false cond_true cond_false Bool.cond_true_left Bool.cond_true_right Bool.cond_false_left Bool.cond_false_right decide_true decide_false Option.getD_some Option.getD_none Option.map_some Option.map_none Option.bind_some Option.isSome_some Option.isNone_none List.length_cons List.length_nil List.length_map List.length_append List.all_nil List.all_cons List.nil_append List.append_nil List.map_nil List.map_cons List.set_cons_zero List.set_nil List.getD_cons_zero List.getD_cons_succ List.length_set List.headD_cons List.contains_nil List.take_nil List.drop_nil beq_self_eq_true
attribute [simp] zbL6 zbr3
attribute [go_sem] zbL6 zcm4 zbr3
@[go_sem] theorem zdk1 (l:List Int):u8s (l.map fun n=>[A.int .u8 n])=some l:=by
 induction l with
 | nil=>rfl
 | cons n l ih=>simp only [List.map_cons,u8s,ih,Option.map_some]
@[go_sem] theorem zdu4 (l:List UInt8):(l.map fun b=>[A.int .u8 (b.toNat:Int)])=(l.map fun b=>(b.toNat:Int)).map (eI .u8):=by
 rw [List.map_map]; rfl
@[go_sem] theorem zdx1 (l:List Int):u8s (l.map (eI .u8))=some l:=zdk1 l
@[go_sem] theorem zdz4 (q:Nat×MS) (l r:List (Nat×MS)):q :: l++r=q :: (l++r):=rfl
@[go_sem] theorem zdz5:([]:List A).flatMap zQ6=[]:=rfl
@[go_sem] theorem zdz6 (x lo n:Nat) (cs:List A):(A.own x lo n :: cs).flatMap zQ6=x :: cs.flatMap zQ6:=rfl
@[go_sem] theorem zdz7 (s:ByteArray) (cs:List A):(A.str s :: cs).flatMap zQ6=cs.flatMap zQ6:=rfl
@[go_sem] theorem zdz8 (k:IntKind) (n:Int) (cs:List A):(A.int k n :: cs).flatMap zQ6=cs.flatMap zQ6:=rfl
@[go_sem] theorem zdy7 (b:Bool) (cs:List A):(A.bool b :: cs).flatMap zQ6=cs.flatMap zQ6:=rfl
@[go_sem] theorem zeb3 (l:List (List A)) (cs:List A):(A.sl l :: cs).flatMap zQ6=cs.flatMap zQ6:=rfl
attribute [go_sem] List.isEmpty_nil List.isEmpty_cons ite_self List.forall_mem_cons List.not_mem_nil
@[go_sem ↓] theorem zdx2 (r:A):(if r.scal=true then ([]:List (Nat×MS)) else [])=[]:=ite_self _
@[go_sem] theorem zdy8 (c x:A) (cs xs:List A):upd (c :: cs) 0 (x :: xs)=x :: upd cs 0 xs:=by simp [upd,Nat.add_comm]
@[go_sem] theorem zdy9 (cs:List A) (n:Nat):upd cs n []=cs:=by simp [upd]
@[go_sem] theorem zdz9 (c:A) (cs new:List A) (n:Nat):upd (c :: cs) (n+1) new=c :: upd cs n new:=by simp [upd,Nat.add_right_comm]
@[go_sem] theorem zdz0 (c:A) (cs:List A) (k:Nat):sub (c :: cs) 0 (k+1)=c :: sub cs 0 k:=by simp [sub]
@[go_sem] theorem zdz1 (cs:List A) (n:Nat):sub cs n 0=[]:=by simp [sub]
@[go_sem] theorem zdA0 (c:A) (cs:List A) (n k:Nat):sub (c :: cs) (n+1) k=sub cs n k:=by simp [sub]
end Ab
end Go.Proofs.YtcggeefhhegeoaaGreatDoor
