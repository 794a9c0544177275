import Derived.Test.YtenebhlnfjcffaaGreatDoorAb20
namespace Go.Proofs.YtenebhlnfjcffaaGreatDoor
namespace Ab
set_option linter.unusedSimpArgs false
set_option linter.unusedVariables false
section
variable {C:Cx} {E:Env}
def FSt (ps:List POp) (vs:Nat→A) (mws:Nat→List (Nat×MS)) (s:S) (f:Nat→Bool):Nat→S
  | 0=>s
  | n+1=>match ps[n]? with
    | some p=>if f n then ⟨setF (FSt ps vs mws s f n).fr p.dst (vs n),setM (FSt ps vs mws s f n).mem (mws n)⟩ else FSt ps vs mws s f n
    | none=>FSt ps vs mws s f n
theorem zO0 {y:Nat}:∀ {mw:List (Nat×MS)} {m:Nat→MS},y ∉ mw.map (·.1)→setM m mw y=m y
  | [],_,_=>rfl
  | q :: mw,m,h=>by
    simp only [setM]
    rw [zO0 fun hh=>h (.tail _ hh)]
    refine bW fun e=>h ?_
    rw [e]; exact .head _
theorem zbm3 {y:Nat}:∀ {mw:List (Nat×MS)} {m m2:Nat→MS},y ∈ mw.map (·.1)→setM m mw y=setM m2 mw y
  | q :: mw,m,m2,h=>by
    simp only [setM]
    by_cases h2:y ∈ mw.map (·.1)
    · exact zbm3 h2
    · rw [zO0 h2,zO0 h2]
      rcases cE.1 h with rfl|h
      · simp
      · exact absurd h h2
theorem zbq4 {ps:List POp} {vs:Nat→A} {mws:Nat→List (Nat×MS)} {s:S} {f f':Nat→Bool}:∀ n,(∀ i,i < n→f i=f' i)→FSt ps vs mws s f n=FSt ps vs mws s f' n
  | 0,_=>rfl
  | n+1,h=>by
    have ih:=zbq4 (ps:=ps) (vs:=vs) (mws:=mws) (s:=s) n fun i hi=>h i (by omega)
    simp only [FSt,ih,h n (by omega)]
theorem zaF9 (f:Nat→A) (d:Option Nat) (v:A) (t:Nat):setF f d v t=if d=some t then v else f t:=rfl
theorem zcg0 {ps:List POp} {vs:Nat→A} {mws:Nat→List (Nat×MS)} {s:S} {f:Nat→Bool} {j t:Nat} (h1:∀ i q,i < j→ps[i]? = some q→q.dst=some t→f i=true) (h2:∀ i q,j≤i→ps[i]? = some q→q.dst=some t→f i=false) :
    ∀ n,(FSt ps vs mws s f n).fr t=(FSt ps vs mws s (fun _=>true) (min n j)).fr t
  | 0=>by simp [FSt]
  | n+1=>by
    have ih:=zcg0 (vs:=vs) (mws:=mws) (s:=s) h1 h2 n
    by_cases hn:n < j
    · rw [show min (n+1) j=n+1 by omega]
      rw [show min n j=n by omega] at ih
      simp only [FSt]
      cases hq:ps[n]? with
      | none=>exact ih
      | some q =>
        simp only [bZ]
        by_cases hd:q.dst=some t
        · rw [h1 n q hn hq hd]; simp [zaF9,hd]
        · rw [zaF9,bW hd]
          split
          · simp only [zaF9,bW hd]; exact ih
          · exact ih
    · rw [show min (n+1) j=j by omega]
      rw [show min n j=j by omega] at ih
      simp only [FSt]
      cases hq:ps[n]? with
      | none=>exact ih
      | some q =>
        simp only []
        by_cases hd:q.dst=some t
        · rw [h2 n q (by omega) hq hd]; simpa using ih
        · split
          · simp only [zaF9,bW hd]; exact ih
          · exact ih
theorem zbY1 {ps:List POp} {vs:Nat→A} {mws:Nat→List (Nat×MS)} {s:S} {f:Nat→Bool} {j y:Nat} (h1:∀ i q,i < j→ps[i]? = some q→y ∈ (mws i).map (·.1)→f i=true) (h2:∀ i q,j≤i→ps[i]? = some q→y ∈ (mws i).map (·.1)→f i=false) :
    ∀ n,(FSt ps vs mws s f n).mem y=(FSt ps vs mws s (fun _=>true) (min n j)).mem y
  | 0=>by simp [FSt]
  | n+1=>by
    have ih:=zbY1 (vs:=vs) (mws:=mws) (s:=s) h1 h2 n
    by_cases hn:n < j
    · rw [show min (n+1) j=n+1 by omega]
      rw [show min n j=n by omega] at ih
      simp only [FSt]
      cases hq:ps[n]? with
      | none=>exact ih
      | some q =>
        simp only [bZ]
        by_cases hd:y ∈ (mws n).map (·.1)
        · rw [h1 n q hn hq hd]; simp only [bZ]; exact zbm3 hd
        · rw [zO0 hd]
          split
          · show setM _ _ _=_
            rw [zO0 hd]; exact ih
          · exact ih
    · rw [show min (n+1) j=j by omega]
      rw [show min n j=j by omega] at ih
      simp only [FSt]
      cases hq:ps[n]? with
      | none=>exact ih
      | some q =>
        simp only []
        by_cases hd:y ∈ (mws n).map (·.1)
        · rw [h2 n q (by omega) hq hd]; simpa using ih
        · split
          · show setM _ _ _=_
            rw [zO0 hd]; exact ih
          · exact ih
theorem zcv7 {ps:List POp} {vs:Nat→A} {mws:Nat→List (Nat×MS)} {s:S} {f:Nat→Bool} {j:Nat} {p:POp} (hp:ps[j]? = some p) (hf:f j=false) (f':Nat→Bool) (hj:f' j=true) (hf':∀ i,i≠j→f' i=f i)
    (hc:∀ i q,j < i→ps[i]? = some q→f i=true→conf p q=false) (hm:∀ i q,j < i→ps[i]? = some q→f i=true→∀ y ∈ (mws j).map (·.1),y ∉ (mws i).map (·.1)) :
    ∀ n,(∀ t,(FSt ps vs mws s f' n).fr t=if j < n∧p.dst=some t then vs j else (FSt ps vs mws s f n).fr t)∧∀ y,(FSt ps vs mws s f' n).mem y=if j < n then setM (FSt ps vs mws s f n).mem (mws j) y else (FSt ps vs mws s f n).mem y
  | 0=>by simp [FSt]
  | n+1=>by
    obtain ⟨ih,ih2⟩:=zcv7 (vs:=vs) (mws:=mws) (s:=s) hp hf f' hj hf' hc hm n
    by_cases hn:n=j
    · subst hn
      simp only [FSt,hp,hj,hf,bZ,bT,cA]
      refine ⟨fun t=>?_,fun y=>?_⟩
      · rw [zaF9]
        by_cases hd:p.dst=some t
        · simp [hd]
        · simp only [hd,cA,and_false]
          have:=ih t
          simpa [hd] using this
      · rw [bY (dY n)]
        have e:(FSt ps vs mws s f' n).mem=(FSt ps vs mws s f n).mem:=funext fun z=>by have:=ih2 z; simpa using this
        rw [e]
    · have hlt:j < n+1 ↔ j < n:=by omega
      simp only [FSt,hf' n hn,hlt]
      cases hq:ps[n]? with
      | none=>exact ⟨by simpa using ih,by simpa using ih2⟩
      | some q =>
        simp only []
        split
        · rename_i hfn
          refine ⟨fun t=>?_,fun y=>?_⟩
          · simp only [zaF9,ih t]
            by_cases hd:q.dst=some t
            · simp only [hd,bZ]
              by_cases hjn:j < n
              · have:=hc n q hjn hq hfn
                unfold conf at this
                by_cases hpd:p.dst=some t
                · simp [hpd,hd] at this
                · simp [hpd]
              · simp [hjn]
            · simp [hd]
          · by_cases hjn:j < n
            · simp only [hjn,bZ] at ih2 ⊢
              have hdj:=hm n q hjn hq hfn
              by_cases h1:y ∈ (mws n).map (·.1)
              · rw [zO0 (mw:=mws j) fun hh=>hdj y hh h1]
                exact zbm3 h1
              · rw [zO0 h1,ih2 y]
                by_cases h2:y ∈ (mws j).map (·.1)
                · exact zbm3 h2
                · rw [zO0 h2,zO0 h2,zO0 h1]
            · simp only [hjn,cA] at ih2 ⊢
              have e:(FSt ps vs mws s f' n).mem=(FSt ps vs mws s f n).mem:=funext ih2
              rw [e]
        · exact ⟨ih,ih2⟩
theorem zau6:∀ {x y:List Nat},disj x y=true→∀ z ∈ x,z ∉ y
  | a :: x,y,h,z,hz=>by
    simp only [disj,bS,cN,jC,cG] at h
    rcases cE.1 hz with rfl|hz
    · exact h.1
    · exact zau6 h.2 z hz
theorem zbq5 {an:List Nat}:∀ {log:List (List Nat×List Nat)} {i:Nat} {r w:List Nat},zaH9 an i log r w=true→∀ n q,log[n]? = some q→i+n ∉ an→disj q.2 r=true∧disj q.2 w=true∧disj w q.1=true
  | x :: log,i,r,w,h,n,q,hq,hn=>by
    simp only [zaH9,bS,dK] at h
    cases n with
    | zero =>
      simp at hq; subst hq
      rcases h.1 with h1|h1
      · exact absurd (by simpa using h1) hn
      · exact ⟨h1.1.1,h1.1.2,h1.2⟩
    | succ n=>exact zbq5 h.2 n q (by simpa using hq) (by rwa [show i+1+n=i+(n+1) by omega])
theorem zbq6 {an:List (List Nat)} {K:St→Prop}:∀ (ps:List POp) (st:St) (log:List (List Nat×List Nat)),zaj3 C an ps st log K→∃ (vs:Nat→A) (mws:Nat→List (Nat×MS)) (sts:Nat→St),K (sts ps.length)∧sts 0=st ∧
    ∀ j p,ps[j]? = some p→sts (j+1)=(sts j).app p.dst (vs j) (mws j)∧mwOk (sts j).nx (mws j)∧aopS C p (sts j).toS (sts j).nx (fun v mw=>v=vs j∧mw=mws j)∧zaB7 (zp2 C (sts j) p.xs)=true ∧
      (∀ i q,i < log.length→log[i]? = some q→i ∉ an.getD (log.length+j) []→disj q.2 (zz2 (zp2 C (sts j) p.xs))=true∧disj q.2 ((mws j).map (·.1))=true∧disj ((mws j).map (·.1)) q.1=true) ∧
      (∀ i q,i < j→ps[i]? = some q→log.length+i ∉ an.getD (log.length+j) []→disj ((mws i).map (·.1)) (zz2 (zp2 C (sts j) p.xs))=true∧disj ((mws i).map (·.1)) ((mws j).map (·.1))=true∧disj ((mws j).map (·.1)) (zz2 (zp2 C (sts i) q.xs))=true)
  | [],st,log,h=>⟨fun _=>.any,fun _=>[],fun _=>st,h,rfl,fun j p hp=>by simp at hp⟩
  | p :: ps,st,log,h=>by
    obtain ⟨v,mw,⟨hmw,hi,hcap,hrest⟩,h4⟩:=zcv5 (zcL1 h)
    obtain ⟨vs,mws,sts,h5,h6,h7⟩:=zbq6 ps _ _ hrest
    refine ⟨fun i=>match i with|0=>v|i+1=>vs i,fun i=>match i with|0=>mw|i+1=>mws i,fun i=>match i with|0=>st|i+1=>sts i,h5,rfl,fun j q hq=>?_⟩
    cases j with
    | zero =>
      simp at hq; subst hq
      refine ⟨h6,hmw,h4,hcap,fun i q hi2 hq hn=>?_,fun i q hi2=>by omega⟩
      exact zbq5 hi i q hq (by rw [dJ]; exact hn)
    | succ j =>
      obtain ⟨g1,g2,g3,g4,g5,g6⟩:=h7 j q (by simpa using hq)
      simp only [cI,List.length_cons,List.length_nil,dJ] at g5 g6
      refine ⟨g1,g2,g3,g4,fun i x hi2 hx hn=>?_,fun i x hi2 hx hn=>?_⟩
      · exact g5 i x (by omega) (by rw [dE hi2]; exact hx) (by rwa [show log.length+1+j=log.length+(j+1) by omega])
      · cases i with
        | zero =>
          simp at hx; subst hx
          have:=g5 log.length (zz2 (zp2 C st p.xs),mw.map (·.1)) (by omega) (by rw [eR (cS _)]; simp) (by rw [show log.length+1+j=log.length+(j+1) by omega]; exact hn)
          exact this
        | succ i =>
          exact g6 i x (by omega) (by simpa using hx) (by rw [show log.length+1+j=log.length+(j+1) by omega,show log.length+1+i=log.length+(i+1) by omega]; exact hn)
theorem zbq7 {st:St} (xs:List PX):zp2 C st xs=zC9 C st.toS.fr xs:=zaL6 xs
theorem zbY2 {os:Array Oper} {ps:List POp} {s0:S} {vs:Nat→A} {mws:Nat→List (Nat×MS)} {sts:Nat→St} {K:St→Prop} {Q:Exit→Act→World→Prop} (hG:E.G=C.G) (hr:ROk C E.N os 0 ps) (hso:POp.sortOk os.toList 0=true)
    (hco:zbc3 ps (ancs [] (os.toList.map zB1))=true) (hK:K (sts ps.length))
    (hst:∀ j,j≤ps.length→(sts j).toS=FSt ps vs mws s0 (fun _=>true) j)
    (hv:∀ j p,ps[j]? = some p→mwOk (sts j).nx (mws j)∧aopS C p (sts j).toS (sts j).nx (fun v mw=>v=vs j∧mw=mws j)∧zaB7 (zp2 C (sts j) p.xs)=true ∧
      (∀ i q,i < j→ps[i]? = some q→i ∉ (ancs [] (os.toList.map zB1)).getD j []→disj ((mws i).map (·.1)) (zz2 (zp2 C (sts j) p.xs))=true∧disj ((mws i).map (·.1)) ((mws j).map (·.1))=true∧disj ((mws j).map (·.1)) (zz2 (zp2 C (sts i) q.xs))=true))
    (hnx:∀ i j,i≤j→(sts i).nx≤(sts j).nx) (hnx0:∀ y,(sts 0).nx≤y→s0.mem y=.fresh) (hkey:∀ j p y,ps[j]? = some p→y ∈ (mws j).map (·.1)→y < (sts (j+1)).nx)
    (hQ:∀ st' a' w',K st'→Sat E st'.toS a' w'→Q .normal a' w') :
    ∀ (fuel:Nat) (listed:Array Bool) (a:Act) (w:World),listed.size=os.size→Sat E (FSt ps vs mws s0 (fun i=>listed.getD i false) ps.length) a w →
      (∀ j o,os[j]? = some o→listed.getD j false=true→∀ i ∈ zB1 o,listed.getD i false=true)→left (fun i=>listed.getD i false) os.size≤fuel →
      wpAny C.P .any os Q fuel listed a w:=by
  have hlen:ps.length=os.size:=by have:=hr.size; omega
  have hdone:∀ (listed:Array Bool) (a:Act) (w:World),Sat E (FSt ps vs mws s0 (fun i=>listed.getD i false) ps.length) a w→(∀ i,i < os.size→listed.getD i false=true)→Q .normal a w:=by
    intro listed a w hs hall
    refine hQ _ a w hK ?_
    rw [hst ps.length (cS _),zbq4 (f:=fun _=>true) (f':=fun i=>listed.getD i false) ps.length fun i hi=>(hall i (by omega)).symm]
    exact hs
  have hready:∀ (listed:Array Bool),listed.size=os.size→Region.ready .any os listed=[]→∀ i,i < os.size→listed.getD i false=true:=by
    intro listed hsz hr0 i
    induction i using Nat.strongRecOn with
    | _ i ih =>
      intro hi
      cases hl:listed.getD i false with
      | true=>rfl
      | false =>
        have:i ∈ Region.ready .any os listed:=by
          rw [mem_ready]
          refine ⟨?_,os[i],by simp [hi],fun e he hb=>?_⟩
          · have h1:i < listed.size:=by omega
            simp only [Array.getD,h1,jM] at hl ⊢; exact hl
          · have h2:e.on ∈ zB1 os[i]:=by
              simp only [zB1,cV,gX]
              exact ⟨e,⟨by simpa using he,hb⟩,rfl⟩
            have h3:=zaL8 os.toList 0 hso i os[i] (by simp [hi]) e.on h2
            exact ih e.on (by omega) (by omega)
        rw [hr0] at this; cases this
  intro fuel
  induction fuel with
  | zero =>
    intro listed a w hsz hs hcl hle
    have hall:=zbc6 (f:=fun i=>listed.getD i false) os.size (by omega)
    refine ⟨?_,hdone listed a w hs hall⟩
    cases hrd:Region.ready .any os listed with
    | nil=>rfl
    | cons i rs =>
      have:i ∈ Region.ready .any os listed:=by rw [hrd]; simp
      rw [mem_ready] at this
      obtain ⟨h1,o,ho,_⟩:=this
      have hi:=(cH.1 ho).1
      have:=hall i hi
      have h2:i < listed.size:=by omega
      simp only [Array.getD,h2,jM] at h1 this
      rw [this] at h1; cases h1
  | succ fuel ih =>
    intro listed a w hsz hs hcl hle
    refine ⟨fun hr0=>hdone listed a w hs (hready listed hsz hr0),fun i hi=>?_⟩
    rw [mem_ready] at hi
    obtain ⟨hl,o,ho,hed⟩:=hi
    have hlt:=(cH.1 ho).1
    have hlt2:i < listed.size:=by omega
    have hl:listed.getD i false=false:=by
      simp only [Array.getD,hlt2,jM] at hl ⊢; exact hl
    obtain ⟨p,hp,hpo⟩:=hr.at (j:=i) (by rw [dJ]; exact ho)
    have hedge:∀ k ∈ zB1 o,listed.getD k false=true:=by
      intro k hk
      simp only [zB1,cV,gX] at hk
      obtain ⟨e,⟨he,hb⟩,rfl⟩:=hk
      exact hed e (by simpa using he) hb
    have hset:(listed.setIfInBounds i true).getD i false=true:=by simp [Array.getD,hlt2]
    have hsetne:∀ k,k≠i→(listed.setIfInBounds i true).getD k false=listed.getD k false:=fun k hk=>getD_set_ne false (kB hk)
    have hcl':∀ j o,os[j]? = some o→(listed.setIfInBounds i true).getD j false=true→∀ k ∈ zB1 o,(listed.setIfInBounds i true).getD k false=true:=by
      intro j o' ho' hj k hk
      by_cases hji:j=i
      · subst hji
        rw [ho] at ho'; cases ho'
        exact getD_set_true (hedge k hk)
      · rw [hsetne j hji] at hj
        exact getD_set_true (hcl j o' ho' hj k hk)
    have hanc:∀ j,(listed.setIfInBounds i true).getD j false=true→∀ k ∈ (ancs [] (os.toList.map zB1)).getD j [],(listed.setIfInBounds i true).getD k false=true :=
      zaD0 (D:=fun j=>(listed.setIfInBounds i true).getD j false=true) _ [] (fun j e he hD=>by
        simp only [cK,cD] at he
        obtain ⟨o',ho',rfl⟩:=he
        exact hcl' j o' (by simpa using ho') (by simpa using hD)) (fun j _ k hk=>by simp at hk)
    have hanc0:∀ j,listed.getD j false=true→∀ k ∈ (ancs [] (os.toList.map zB1)).getD j [],listed.getD k false=true :=
      zaD0 (D:=fun j=>listed.getD j false=true) _ [] (fun j e he hD=>by
        simp only [cK,cD] at he
        obtain ⟨o',ho',rfl⟩:=he
        exact hcl j o' (by simpa using ho') (by simpa using hD)) (fun j _ k hk=>by simp at hk)
    have hbef:∀ k q,k < i→ps[k]? = some q→conf q p=true→listed.getD k false=true:=by
      intro k q hk hq hc
      have:=hanc i hset k (zaz5 hco hk hq hp hc)
      rwa [hsetne k (by omega)] at this
    have haft:∀ k q,i < k→ps[k]? = some q→conf p q=true→listed.getD k false=false:=by
      intro k q hk hq hc
      cases hlk:listed.getD k false with
      | false=>rfl
      | true =>
        have:=hanc0 k hlk i (zaz5 hco hk hp hq hc)
        rw [hl] at this; cases this
    have hbefM:∀ k,k < i→listed.getD k false=false→k ∉ (ancs [] (os.toList.map zB1)).getD i []:=fun k hk hlk hh=>by
      have:=hanc i hset k hh
      rw [hsetne k (by omega),hlk] at this; cases this
    have haftM:∀ k,i < k→listed.getD k false=true→i ∉ (ancs [] (os.toList.map zB1)).getD k []:=fun k hk hlk hh=>by
      have:=hanc0 k hlk i hh
      rw [hl] at this; cases this
    obtain ⟨hmw,haop,hcap,hind⟩:=hv i p hp
    have hil:i < ps.length:=(cC.1 hp).1
    have hsi:=hst i (hY hil)
    have hrow:∀ y,(y ∈ zz2 (zp2 C (sts i) p.xs)∨y ∈ (mws i).map (·.1))→(FSt ps vs mws s0 (fun k=>listed.getD k false) ps.length).mem y=(sts i).toS.mem y:=fun y hy=>by
      rw [hsi]
      have:=zbY1 (ps:=ps) (vs:=vs) (mws:=mws) (s:=s0) (f:=fun k=>listed.getD k false) (j:=i) (y:=y) (fun k q hk hq hyk=>?_) (fun k q hk hq hyk=>?_) ps.length
      · rw [this,iW (hY hil)]
      · cases hlk:listed.getD k false with
        | true=>rfl
        | false =>
          obtain ⟨g1,g2,g3⟩:=hind k q hk hq (hbefM k hk hlk)
          rcases hy with hy|hy
          · exact absurd hy (zau6 g1 y hyk)
          · exact absurd hy (zau6 g2 y hyk)
      · cases hlk:listed.getD k false with
        | false=>rfl
        | true =>
          have hki:i < k:=by
            rcases Nat.lt_or_eq_of_le hk with h|h
            · exact h
            · subst h; rw [hl] at hlk; cases hlk
          obtain ⟨g0,g00,g000,gg⟩:=hv k q hq
          obtain ⟨g1,g2,g3⟩:=gg i p hki hp (haftM k hki hlk)
          rcases hy with hy|hy
          · exact absurd hy (zau6 g3 y hyk)
          · exact absurd hyk (zau6 g2 y hy)
    have hslot:∀ t ∈ p.rds,(sts i).toS.fr t=(FSt ps vs mws s0 (fun k=>listed.getD k false) ps.length).fr t:=fun t ht=>by
      rw [hsi]
      rw [zcg0 (j:=i) (t:=t) (f:=fun k=>listed.getD k false) (fun k q hk hq hd=>hbef k q hk hq (zaF7 hd (.inl ht)).1) (fun k q hk hq hd=>?_) ps.length,iW (hY hil)]
      by_cases hki:k=i
      · subst hki; exact hl
      · exact haft k q (by omega) hq ((zaF7 hd (.inl ht)).2 ht)
    have haop2:=zbY0 (s2:=FSt ps vs mws s0 (fun k=>listed.getD k false) ps.length) hslot (fun y hy=>(hrow y (.inl (by rw [zbq7]; exact hy))).symm) (fun y hy=>(hrow y (.inr hy)).symm) (fun f caps vals _ hvals c hc=>by
      rw [zbq7,hvals] at hcap
      exact zbh5 hcap c hc) haop
    have hfin:∃ id,(FSt ps vs mws s0 (fun k=>listed.getD k false) ps.length).mem id=.fresh∧aopS C p (FSt ps vs mws s0 (fun k=>listed.getD k false) ps.length) id (fun v mw=>v=vs i∧mw=mws i):=by
      rcases zcL2 haop2 with h1|h1
      · exact ⟨_,by rw [hrow _ (.inr h1)]; exact (sts i).m_nx,haop2⟩
      · refine ⟨(sts ps.length).nx,?_,h1 _ (hnx i _ (hY hil))⟩
        rw [zbY1 (j:=0) (f:=fun k=>listed.getD k false) (fun k q hk=>by omega) (fun k q _ hq hyk=>by
          have h2:=hkey k q _ hq hyk
          have h3:=hnx (k+1) ps.length (cC.1 hq).1
          omega) ps.length]
        simp only [Nat.min_zero,FSt]
        exact hnx0 _ (hnx 0 _ (fF _))
    obtain ⟨id,hid,haop3⟩:=hfin
    obtain ⟨W,μ,hs⟩:=hs
    have key:=zbp4 hs hG hid hpo haop3 (Q:=Q) (k:=wpAny C.P .any os Q fuel (listed.setIfInBounds i true)) (fun v mw a' w' hvm hs'=>by
      obtain ⟨rfl,rfl⟩:=hvm
      refine ih _ a' w' (by simpa using hsz) ?_ hcl' ?_
      · obtain ⟨e1,e2⟩:=zcv7 (vs:=vs) (mws:=mws) (s:=s0) (f:=fun k=>listed.getD k false) hp hl (fun k=>(listed.setIfInBounds i true).getD k false) hset hsetne (fun k q hk hq hfk=>by
          cases hc:conf p q with
          | false=>rfl
          | true=>have:=haft k q hk hq hc; exact absurd (this.symm.trans hfk) (by simp)) (fun k q hk hq hfk y hy hyk=>by
          obtain ⟨g0,g00,g000,gg⟩:=hv k q hq
          obtain ⟨g1,g2,g3⟩:=gg i p hk hp (haftM k hk hfk)
          exact zau6 g2 y hy hyk) ps.length
        have e:FSt ps vs mws s0 (fun k=>(listed.setIfInBounds i true).getD k false) ps.length=⟨setF (FSt ps vs mws s0 (fun k=>listed.getD k false) ps.length).fr p.dst (vs i),setM (FSt ps vs mws s0 (fun k=>listed.getD k false) ps.length).mem (mws i)⟩:=by
          have h1:(FSt ps vs mws s0 (fun k=>(listed.setIfInBounds i true).getD k false) ps.length).fr=setF (FSt ps vs mws s0 (fun k=>listed.getD k false) ps.length).fr p.dst (vs i):=funext fun t=>by
            rw [e1 t,zaF9]; simp only [hil,fC]
          have h2:(FSt ps vs mws s0 (fun k=>(listed.setIfInBounds i true).getD k false) ps.length).mem=setM (FSt ps vs mws s0 (fun k=>listed.getD k false) ps.length).mem (mws i):=funext fun y=>by
            rw [e2 y,bY hil]
          rw [← h1,← h2]
        rw [e]; exact hs'
      · have:=zbq1 (f:=fun k=>listed.getD k false) (f':=fun k=>(listed.setIfInBounds i true).getD k false) (j:=i) hl hset hsetne os.size
        rw [bY hlt] at this
        omega)
    simp only [wpOp,ho]
    split at key
    · rename_i hw; rw [bY hw]; exact .inl key
    · rename_i hw; rw [bW hw]; exact key
theorem zbq8:∀ (mw:List (Nat×MS)) (nx:Nat),nx≤nxt nx mw
  | [],nx=>cS _
  | q :: mw,nx=>by
    simp only [nxt]
    refine gT ?_ (zbq8 mw _)
    split <;> omega
theorem zcv8:∀ {mw:List (Nat×MS)} {nx:Nat},mwOk nx mw→∀ y ∈ mw.map (·.1),y < nxt nx mw
  | q :: mw,nx,h,y,hy=>by
    obtain ⟨h1,h2,h3⟩:=h
    simp only [nxt]
    rcases cE.1 hy with rfl|hy
    · refine dQ ?_ (zbq8 mw _)
      show q.1 < _
      split <;> omega
    · exact zcv8 h3 y hy
theorem zcL3 {Q:Exit→St→Prop} {st:St} {dr:List Nat} {an:List (List Nat)} {ops:List POp} (hm:C.P.follows .mixedOrders=true) (hG:E.G=C.G) (h:zaj3 C an ops st [] fun s=>Q .normal (s.drop dr)):AW C E (.regm dr an ops) Q st:=fun code hc a w hs=>by
  cases code with
  | region id os d =>
   cases d with
   | false=>simp [chkC] at hc
   | true =>
    simp only [chkC,bS,cY] at hc
    obtain ⟨hc1,hc2,hc3,hc4⟩:=hc
    have hr:ROk C E.N os 0 ops:=by
      obtain ⟨P,G⟩:=C
      exact zaQ6 os.toList ops 0 hc1 (by simp) (by simp)
    obtain ⟨vs,mws,sts,hK,h0,hv⟩:=zbq6 ops st [] h
    subst hc4
    have hnx1:∀ j,(sts j).nx≤(sts (j+1)).nx∨ops.length≤j:=fun j=>by
      by_cases hj:j < ops.length
      · obtain ⟨g1,g2,_⟩:=hv j ops[j] (by simp [hj])
        left; rw [g1]; exact zbq8 _ _
      · right; omega
    let sts':Nat→St:=fun j=>if j≤ops.length then sts j else sts ops.length
    have hs':∀ j,j≤ops.length→sts' j=sts j:=fun j hj=>bY hj
    have hs2:∀ j,ops.length≤j→sts' j=sts ops.length:=fun j hj=>by
      show (if j≤ops.length then sts j else sts ops.length)=_
      split
      · rw [show j=ops.length by omega]
      · rfl
    have hstep:∀ j,(sts' j).nx≤(sts' (j+1)).nx:=fun j=>by
      by_cases hj:j < ops.length
      · rw [hs' j (by omega),hs' (j+1) (by omega)]
        rcases hnx1 j with h1|h1
        · exact h1
        · omega
      · rw [hs2 j (by omega),hs2 (j+1) (by omega)]; exact cS _
    have hmono:∀ i j,i≤j→(sts' i).nx≤(sts' j).nx:=fun i j hij=>by
      induction j with
      | zero=>rw [show i=0 by omega]; exact cS _
      | succ j ih =>
        by_cases hi:i=j+1
        · rw [hi]; exact cS _
        · exact gT (ih (by omega)) (hstep j)
    have hFS:∀ j,j≤ops.length→(sts' j).toS=FSt ops vs mws st.toS (fun _=>true) j:=fun j hj=>by
      rw [hs' j hj]
      induction j with
      | zero=>rw [h0]; rfl
      | succ j ih =>
        obtain ⟨g1,g2,_⟩:=hv j ops[j] (by simp [show j < ops.length by omega])
        have ih:=ih (by omega)
        rw [g1,zbl8 _ _ _ _ g2]
        have hq:ops[j]? = some ops[j]:=by simp [show j < ops.length by omega]
        simp only [FSt,hq,bZ]
        rw [← ih]
        rfl
    refine wp_region_any hm ?_
    refine zbY2 (s0:=st.toS) (vs:=vs) (mws:=mws) (sts:=sts') (K:=fun s=>Q .normal (s.drop dr)) hG hr hc2 hc3 (by rw [hs' _ (cS _)]; exact hK) hFS (fun j p hp=>?_) hmono (fun y hy=>?_) (fun j p y hp hy=>?_) (fun st' a' w' hQ hs'=>⟨_,hQ,hs'.drop⟩) os.size _ a _ (by simp) ?_ (fun j o ho hj=>?_) ?_
    · have hj:=(cC.1 hp).1
      obtain ⟨g1,g2,g3,g4,_,g6⟩:=hv j p hp
      rw [hs' j (by omega)]
      refine ⟨g2,g3,g4,fun i q hi hq hn=>?_⟩
      rw [hs' i (by omega)]
      simp only [List.length_nil,dJ] at g6
      exact g6 i q hi hq hn
    · rw [hs' 0 (fF _),h0] at hy
      exact zbH1 st y hy
    · have hj:=(cC.1 hp).1
      obtain ⟨g1,g2,_⟩:=hv j p hp
      rw [hs' (j+1) (by omega),g1]
      exact zcv8 g2 y hy
    · have e:FSt ops vs mws st.toS (fun i=>(Array.replicate os.size false).getD i false) ops.length=FSt ops vs mws st.toS (fun _=>false) ops.length:=zbq4 _ fun i _=>by simp [Array.getD]
      have e2:∀ n,FSt ops vs mws st.toS (fun _=>false) n=st.toS:=fun n=>by
        induction n with
        | zero=>rfl
        | succ n ih=>simp only [FSt,ih,bT,cA]; split <;> rfl
      rw [e,e2]
      exact hs.drawn (jL _)
    · simp [Array.getD] at hj
    · have:∀ n,left (fun i=>(Array.replicate os.size false).getD i false) n≤n:=fun n=>by
        induction n with
        | zero=>exact cS _
        | succ n ih=>simp only [left]; split <;> omega
      exact this _
  | _=>simp [chkC] at hc
end
def memN (n:Nat):List Nat→Bool
 | []=>false
 | m :: ms=>if n=m then true else memN n ms
theorem zbq9 {n:Nat}:∀ {l:List Nat},memN n l=true ↔ n ∈ l
 | []=>by simp [memN]
 | m :: ms=>by
  unfold memN
  split
  ·rename_i h; simp [h]
  ·rename_i h; rw [zbq9]; simp [h]
def fzA (ids:List Nat) (m:Nat→MS):A→A
 | .own y lo n=>if memN y ids=true then frz1 m (.own y lo n) else .own y lo n
 | a=>a
def fzCs (ids:List Nat) (m:Nat→MS):List A→List A
 | []=>[]
 | a :: as=>fzA ids m a :: fzCs ids m as
def fzV (ids:List Nat) (m:Nat→MS):A→A
 | .agg cs=>if zk0 cs=true then .agg cs else .agg (fzCs ids m cs)
 | a=>fzA ids m a
def fzEs (ids:List Nat) (m:Nat→MS) (es:List (List A)):List (List A):=if pureEs es=true then es else es.map (fzCs ids m)
def fzFr (ids:List Nat) (m:Nat→MS):List (Nat×A)→List (Nat×A)
 | []=>[]
 | q :: r=>(q.1,fzV ids m q.2) :: fzFr ids m r
def zbP2 (ids:List Nat) (m:Nat→MS):List (Nat×Row)→List (Nat×Row)
 | []=>[]
 | q :: r=>(q.1,⟨q.2.ro||memN q.1 ids,q.2.sz,q.2.z,fzEs ids m q.2.es⟩) :: zbP2 ids m r
def zbD7 (ids:List Nat) (m:Nat→MS):A→Prop
 | .own y lo n=>if memN y ids=true then zad7 m (.own y lo n) else True
 | _=>True
def zbc7 (ids:List Nat) (m:Nat→MS):List A→Prop
 | []=>True
 | a :: as=>zbD7 ids m a∧zbc7 ids m as
def zbP3 (ids:List Nat) (m:Nat→MS):A→Prop
 | .agg cs=>if zk0 cs=true then True else zbc7 ids m cs
 | a=>zbD7 ids m a
def zbm4 (ids:List Nat) (m:Nat→MS):List (List A)→Prop
 | []=>True
 | c :: cs=>zbc7 ids m c∧zbm4 ids m cs
def zbH4 (ids:List Nat) (m:Nat→MS) (es:List (List A)):Prop:=if pureEs es=true then True else zbm4 ids m es
def zbH5 (ids:List Nat) (m:Nat→MS):List (Nat×A)→Prop
 | []=>True
 | q :: r=>zbP3 ids m q.2∧zbH5 ids m r
def zbm5 (ids:List Nat) (m:Nat→MS):List (Nat×Row)→Prop
 | []=>True
 | q :: r=>zbH4 ids m q.2.es∧zbm5 ids m r
def St.fz (st:St) (ids:List Nat):St:=⟨fzFr ids st.m st.fr,zbP2 ids st.m st.mem,st.nx⟩
def St.fzOk (st:St) (ids:List Nat):Prop:=zbH5 ids st.m st.fr∧zbm5 ids st.m st.mem
section
variable {C:Cx} {a:Act} {E:Env} {st:St} {w:World} {W:Nat→Prop} {μ:Nat→Loc}
theorem zbH6 (ids:List Nat) (m:Nat→MS):∀ (cs:List A) (i:Nat),(fzCs ids m cs)[i]? = (cs[i]?).map (fzA ids m)
 | [],i=>by simp [fzCs]
 | c :: cs,i=>by
  cases i with
  | zero=>simp [fzCs]
  | succ i=>simp [fzCs,zbH6 ids m cs i]
theorem zbr0 (ids:List Nat) (m:Nat→MS):∀ cs:List A,(fzCs ids m cs).length=cs.length
 | []=>rfl
 | _ :: cs=>by simp [fzCs,zbr0 ids m cs]
theorem zbc8 {ids:List Nat} {m:Nat→MS}:∀ {cs:List A},zbc7 ids m cs→∀ c ∈ cs,zbD7 ids m c
 | c :: cs,h,d,hd=>by
  rcases cE.1 hd with rfl|hd
  ·exact h.1
  ·exact zbc8 h.2 d hd
theorem zbr1 {ids:List Nat} {m:Nat→MS}:∀ {cs:List (List A)},zbm4 ids m cs→∀ c ∈ cs,zbc7 ids m c
 | c :: cs,h,d,hd=>by
  rcases cE.1 hd with rfl|hd
  ·exact h.1
  ·exact zbr1 h.2 d hd
theorem zbD8 (ids:List Nat) (m:Nat→MS) (t:Nat):∀ fr:List (Nat×A),look (fzFr ids m fr) t=(look fr t).map (fzV ids m)
 | []=>rfl
 | q :: r=>by
  simp only [fzFr,look]
  split
  ·rfl
  ·exact zbD8 ids m t r
theorem zbr2 (ids:List Nat) (m:Nat→MS) (x:Nat):∀ mem:List (Nat×Row),look (zbP2 ids m mem) x=(look mem x).map fun r=>⟨r.ro||memN x ids,r.sz,r.z,fzEs ids m r.es⟩
 | []=>rfl
 | q :: r=>by
  simp only [zbP2,look]
  split
  ·rename_i h; subst h; rfl
  ·exact zbr2 ids m x r
theorem zbD9 {ids:List Nat} {m:Nat→MS}:∀ {fr:List (Nat×A)},zbH5 ids m fr→∀ t v,look fr t=some v→zbP3 ids m v
 | q :: r,h,t,v,hv=>by
  simp only [look] at hv
  split at hv
  ·cases hv; exact h.1
  ·exact zbD9 h.2 t v hv
theorem zbr3 {ids:List Nat} {m:Nat→MS}:∀ {mem:List (Nat×Row)},zbm5 ids m mem→∀ x r,look mem x=some r→zbH4 ids m r.es
 | q :: r,h,t,v,hv=>by
  simp only [look] at hv
  split at hv
  ·cases hv; exact h.1
  ·exact zbr3 h.2 t v hv
theorem RepK.less {v:Value} {x:A} {ids:List Nat} (h:RepK w W μ v x):RepK w (zap7 W μ ids) μ v x :=
 h.goes (Keeps.refl (fun _=>False) w) (fun _ _ _ h=>h) (fun _ _ h1 h2=>h1 h2.1) (Old.refl μ)
theorem zbH7 {s:S} (hs:SatW E s a w W μ) {v:Value} {x:A} {ids:List Nat} (h:RepK w W μ v x) (hok:zbD7 ids s.mem x):RepK w (zap7 W μ ids) μ v (fzA ids s.mem x):=by
 cases x with
 | own y lo n =>
  simp only [fzA,zbD7] at hok ⊢
  split
  ·rename_i hy
   rw [bY hy] at hok
   exact zo3 (zbp1 hs h hok (fun z hz=>by simp [zK1] at hz; subst hz; exact zbq9.1 hy))
  ·exact h.less
 | _=>exact h.less
theorem zcS0 {s:S} (hs:SatW E s a w W μ) {v:Value} {x:A} {ids:List Nat} (h:Rep w W μ v x) (hok:zbP3 ids s.mem x):Rep w (zap7 W μ ids) μ v (fzV ids s.mem x):=by
 have hgo:Rep w (zap7 W μ ids) μ v x:=h.goes (Keeps.refl (fun _=>False) w) (fun _ _ _ h=>h) (fun _ _ h1 h2=>h1 h2.1) (Old.refl μ)
 cases x with
 | own y lo n=>exact zm5 (zl8 (zbH7 (x:=.own y lo n) hs h hok))
 | agg cs =>
  simp only [fzV,zbP3] at hok ⊢
  split
  ·exact hgo
  ·rename_i hp
   rw [bW hp] at hok
   obtain ⟨vs,hv,hl,hr⟩:=h
   refine ⟨vs,hv,by rw [zbr0]; exact hl,fun i u b hu hb=>?_⟩
   rw [zbH6] at hb
   obtain ⟨c,hc,rfl⟩:=cD.1 hb
   exact zbH7 hs (hr i u c hu hc) (zbc8 hok c (cJ hc))
 | _=>exact hgo
@[go_sem] theorem zcY2 (ids:List Nat) (m:Nat→MS) (s:List Nat):(s.map iE).map (fzCs ids m)=s.map iE:=by simp [iE,fzCs,fzA]
theorem zcL4 {ids:List Nat} {m:Nat→MS} {y c:Nat} {seen:List Nat}:fzEs ids m ([.mp y,.int .i64 c] :: seen.map iE)=[.mp y,.int .i64 c] :: seen.map iE:=by
 unfold fzEs
 rw [bW (by simp [pureEs,zk0,A.pure1]),dM,zcY2]
 rfl
theorem zck1 {s:S} (hs:SatW E s a w W μ) (ids:List Nat):zaL0 w (zap7 W μ ids) E.G:=fun g cs hg=>by
 obtain ⟨h1,h2,h3⟩:=hs.glob g cs hg
 refine ⟨fun hh=>h1 hh.1,h2,fun j b hj=>?_⟩
 obtain ⟨u,hu,hr⟩:=h3 j b hj
 exact ⟨u,hu,hr.less⟩
theorem St.le_fz (ids:List Nat) (h:st.fzOk ids):St.le E st (st.fz ids):=by
 intro a w ⟨W,μ,hs⟩
 refine ⟨zap7 W μ ids,μ,{ hs with
  fr:=fun t=>?_
  mem:=fun x=>?_
  wsub:=fun b hb=>hs.wsub b hb.1
  wsup:=fun b hb=>?_
  wlt:=fun b hb=>hs.wlt b hb.1
  glob:=zck1 hs ids }⟩
 ·show Rep w _ μ _ ((st.fz ids).slot t)
  have hr:Rep w W μ _ (st.slot t):=hs.fr t
  simp only [St.slot,St.fz,zbD8] at hr ⊢
  cases hl:look st.fr t with
  | none=>trivial
  | some v =>
   rw [hl] at hr
   exact zcS0 hs hr (zbD9 h.1 t v hl)
 ·show zae1 w _ μ x ((st.fz ids).m x)
  have hm:zae1 w W μ x (st.m x):=hs.mem x
  simp only [St.m,St.fz,zbr2] at hm ⊢
  split
  ·rename_i hx; rw [bY hx] at hm; exact hm
  ·rename_i hx
   rw [bW hx] at hm
   cases hl:look st.mem x with
   | none=>rw [hl] at hm; exact hm
   | some r =>
    rw [hl] at hm
    have hok:=zbr3 h.2 x r hl
    have hro':∀ k,μ x=.at_ k→(r.ro=false→W k.b)→(r.ro||memN x ids)=false→zap7 W μ ids k.b:=fun k e1 hro hr'=>by
     simp only [fZ] at hr'
     refine ⟨hro hr'.1,fun ⟨y,ky,hy,hy2,hy3⟩=>?_⟩
     have:=hs.inj y x ky k hy2 e1 hy3
     subst this
     rw [zbq9.2 hy] at hr'
     cases hr'.2
    rcases hm with ⟨e1,e2,e3⟩|⟨k,e1,⟨hro,hsz,hpos,us,rest,e,h4,h5,h6⟩|gM|gI⟩
    ·exact .inl ⟨e1,by show fzEs ids st.m r.es=[]; rw [e2]; rfl,e3⟩
    rotate_left
    ·have hp:=gM.pure
     obtain ⟨hro,hsz,hpos,es,h4,h5,h6⟩:=gM
     refine .inr ⟨k,e1,.inr (.inl ⟨fun hr=>hro' k e1 hro hr,hsz,hpos,es,h4,?_,fun i e c q1 q2=>?_⟩)⟩
     ·show es.size=(fzEs ids st.m r.es).length
      unfold fzEs; rw [bY hp]; exact h5
     ·have q3:(fzEs ids st.m r.es)[i]? = some c:=q2
      unfold fzEs at q3; rw [bY hp] at q3
      exact (h6 i e c q1 q3).keep (Keeps.refl (fun _=>False) w) (fun _ _ _ h=>h) (fun _ _ h h2=>h h2.1)
    ·obtain ⟨hro,hsz,hpos,hz,y,b,c,seen,h4,h5,h6⟩:=gI
     exact .inr ⟨k,e1,.inr (.inr ⟨fun hr=>hro' k e1 hro hr,hsz,hpos,hz,y,b,c,seen,by show fzEs ids st.m r.es=_; rw [h4]; exact zcL4,h5,h6⟩)⟩
    ·refine .inr ⟨k,e1,.inl ⟨fun hr=>hro' k e1 hro hr,hsz,hpos,us,rest,e,h4,h5,?_⟩⟩
     ·show Flat _ r.sz us (fzEs ids st.m r.es)
      unfold fzEs
      unfold zbH4 at hok
      split
      ·exact h6.mono fun u b hr=>hr.less
      ·rename_i hp
       rw [bW hp] at hok
       refine ⟨by simpa using h6.hl,fun i c hc=>?_,fun i c j b hc hb=>?_⟩
       ·simp only [cK,cD] at hc
        obtain ⟨c0,hc0,rfl⟩:=hc
        rw [zbr0]; exact h6.hs i c0 hc0
       ·simp only [cK,cD] at hc
        obtain ⟨c0,hc0,rfl⟩:=hc
        rw [zbH6] at hb
        obtain ⟨b0,hb0,rfl⟩:=cD.1 hb
        obtain ⟨u,hu,hr⟩:=h6.ha i c0 j b0 hc0 hb0
        exact ⟨u,hu,zbH7 hs hr (zbc8 (zbr1 hok c0 (cJ hc0)) b0 (cJ hb0))⟩
 ·rcases hs.wsup b hb with h1|h1
  ·by_cases hx:∃ x k,x ∈ ids∧μ x=.at_ k∧k.b=b
   ·obtain ⟨x,k,_,hx2,hx3⟩:=hx
    rcases hs.live x k hx2 with h2|h2
    ·exact .inr (hx3 ▸ h2)
    ·have:=hs.winlt b hb; omega
   ·exact .inl ⟨h1,hx⟩
  ·exact .inr h1
def St.own0 (st:St) (t sz:Nat) (z:List A):St:=⟨(t,.own st.nx 0 0) :: rm t st.fr,(st.nx,⟨false,sz,z,[]⟩) :: st.mem,st.nx+1⟩
theorem St.le_own0 (t sz:Nat) (z:List A) (hz:0 < sz) (h:st.slot t=.full []):St.le E st (st.own0 t sz z):=by
 intro a w ⟨W,μ,hs⟩
 have hst:=Step.newEmpty (r:=⟨false,sz,z,[]⟩) hs.mem hs.inj hs.wlt (St.m_nx st) hz rfl (Keeps.refl _ w)
 have h2:=hs.step (d:=none) (v:=undef) (av:=.any) hst (fun x hx=>by cases hx) trivial
 have hem:(st.own0 t sz z).m=setM st.m [(st.nx,.row ⟨false,sz,z,[]⟩)]:=by
  funext x
  simp only [St.m,St.own0,setM,look]
  by_cases hx:x=st.nx
  ·subst hx
   rw [bW (by omega),bY rfl,bY rfl]
  ·by_cases h3:st.nx≤x
   ·rw [bY (show st.nx+1≤x by omega),bW hx,bY h3]
   ·rw [bW (show ¬ st.nx+1≤x by omega),bW (show ¬ st.nx=x by omega),bW hx,bW h3]
 refine ⟨_,_,{ h2 with fr:=fun t'=>?_,mem:=?_ }⟩
 ·have h3:=h2.fr t'
  show Rep w W _ (a.tmps.getD t' undef) ((st.own0 t sz z).slot t')
  have h4:Rep w W (fun x=>if x=st.nx then .empty else μ x) (a.tmps.getD t' undef) (st.slot t'):=h3
  simp only [St.slot,St.own0,look]
  split
  ·rename_i ht
   subst ht
   rw [h] at h4
   have h5:RepC w W (a.tmps.getD t undef) (.full []):=h4
   generalize a.tmps.getD t undef=v at h5
   cases h5 with
   | full ad n es h6 =>
    cases h6 with
    | sl0=>exact zaB5 (by simp) 0
    | sl b off cap s es us _ _ hn=>simp at hn
  ·rename_i ht
   rw [zao8,bW (fun e=>ht e.symm)]
   exact h4
 ·show zai4 w W _ (st.own0 t sz z).m
  rw [hem]
  exact h2.mem
def zaG0 (j n:Nat):List (List A)→List (List A)
 | [c]=>[upd c j [.own n 0 0]]
 | es=>es
def zaZ3 (x j n:Nat):List (Nat×Row)→List (Nat×Row)
 | []=>[]
 | q :: r=>if q.1=x then (q.1,⟨q.2.ro,q.2.sz,q.2.z,zaG0 j n q.2.es⟩) :: r else q :: zaZ3 x j n r
def zcv9 (j:Nat):List (List A)→Prop
 | [c]=>sub c j 1=[.full []]
 | _=>False
def St.ownb (st:St) (x j sz:Nat) (z:List A):St:=⟨st.fr,(st.nx,⟨false,sz,z,[]⟩) :: zaZ3 x j st.nx st.mem,st.nx+1⟩
def St.ownbOk (st:St) (x j sz:Nat):Prop:=0 < sz∧match st.m x with
 | .row r=>0 < r.sz∧zcv9 j r.es
 | _=>False
theorem zaZ4 (x j n y:Nat):∀ mem:List (Nat×Row),look (zaZ3 x j n mem) y=(look mem y).map fun r=>if y=x then ⟨r.ro,r.sz,r.z,zaG0 j n r.es⟩ else r
 | []=>rfl
 | q :: r=>by
  simp only [zaZ3]
  split
  ·rename_i h
   simp only [look]
   split
   ·rename_i h2; simp [← h2,h]
   ·rename_i h2
    have:¬ y=x:=fun e=>h2 (h.trans e.symm)
    cases look r y <;> simp [this]
  ·rename_i h
   simp only [look]
   split
   ·rename_i h2; simp [← h2,h]
   ·exact zaZ4 x j n y r
theorem zbP4 {v:Value} {x:Nat} (hx:μ x=.empty) (h:RepK w W μ v (.full [])):RepK w W μ v (.own x 0 0):=by
 have h5:RepC w W v (.full []):=h
 cases h5 with
 | full ad n es h6 =>
  cases h6 with
  | sl0 =>
   refine ⟨rfl,?_⟩
   rw [hx]
   exact ⟨rfl,ad,rfl⟩
  | sl b off cap s es us _ _ hn=>simp at hn
theorem St.le_ownb (x j sz:Nat) (z:List A) (h:st.ownbOk x j sz):St.le E st (st.ownb x j sz z):=by
 obtain ⟨hz,hnil⟩:=h
 intro a w ⟨W,μ,hs⟩
 have hst:=Step.newEmpty (r:=⟨false,sz,z,[]⟩) hs.mem hs.inj hs.wlt (St.m_nx st) hz rfl (Keeps.refl _ w)
 have h2:=hs.step (d:=none) (v:=undef) (av:=.any) hst (fun x hx=>by cases hx) trivial
 refine ⟨_,_,{ h2 with fr:=fun t=>h2.fr t,mem:=fun y=>?_ }⟩
 have hm:=h2.mem y
 have hxn:x < st.nx:=by
  cases hr:st.m x with
  | fresh=>rw [hr] at hnil; exact hnil.elim
  | dead=>rw [hr] at hnil; exact hnil.elim
  | row r=>exact St.m_row hr
 show zae1 w W _ y ((st.ownb x j sz z).m y)
 have hm':zae1 w W (fun x=>if x=st.nx then .empty else μ x) y (setM st.m [(st.nx,.row ⟨false,sz,z,[]⟩)] y):=hm
 simp only [setM] at hm'
 by_cases hy:y=st.nx
 ·subst hy
  have e:(st.ownb x j sz z).m st.nx=.row ⟨false,sz,z,[]⟩:=by
   simp only [St.m,St.ownb,look]
   rw [bW (by omega)]; simp
  rw [bY rfl] at hm'
  rw [e]; exact hm'
 rw [bW hy] at hm'
 have e:(st.ownb x j sz z).m y=match st.m y with
   | .row r=>.row (if y=x then ⟨r.ro,r.sz,r.z,zaG0 j st.nx r.es⟩ else r)
   | q=>q:=by
  simp only [St.m,St.ownb,look,zaZ4]
  by_cases h3:st.nx≤y
  ·rw [bY (show st.nx+1≤y by omega),bY h3]
  ·rw [bW (show ¬ st.nx+1≤y by omega),bW (show ¬ st.nx=y by omega),bW h3]
   cases look st.mem y <;> rfl
 rw [e]
 cases hr:st.m y with
 | fresh=>rw [hr] at hm'; exact hm'
 | dead=>rw [hr] at hm'; exact hm'
 | row r =>
  rw [hr] at hm'
  simp only
  by_cases hyx:y=x
  ·subst hyx
   rw [bY rfl]
   rw [hr] at hnil
   obtain ⟨hpz,hnil⟩:0 < r.sz∧zcv9 j r.es:=hnil
   rcases hm' with ⟨g1,g2,g3⟩|⟨k,g1,gA⟩
   ·rw [g2] at hnil; exact hnil.elim
   ·obtain ⟨g2,g3,g4,us,rest,e',g5,g6,g7⟩:=gA.ok (by have:=gA.wr.2; omega)
    refine .inr ⟨k,g1,.inl ⟨g2,g3,g4,us,rest,e',g5,g6,?_⟩⟩
    show Flat _ r.sz us (zaG0 j st.nx r.es)
    obtain ⟨ro,sz',z',es⟩:=r
    match es,hnil with
    | [c],hnil =>
     have hj:sub c j 1=[.full []]:=hnil
     have hc:c.length=sz':=g7.hs 0 c rfl
     have hjl:c[j]? = some (.full []):=by
      have h8:((c.drop j).take 1)[0]? = some (.full []):=by
       show (sub c j 1)[0]? = _
       rw [hj]; rfl
      simpa [dH,dR] using h8
     have hlt:j < c.length:=(cC.1 hjl).1
     have hu:upd c j [.own st.nx 0 0]=c.set j (.own st.nx 0 0):=by
      simp only [upd,List.length_cons,List.length_nil,dJ]
      rw [iO,bY hlt]
      simp
     refine ⟨g7.hl,fun i d hd=>?_,fun i d q b hd hb=>?_⟩
     ·cases i with
      | zero =>
       simp [zaG0] at hd
       subst hd
       rw [hu,jX]; exact hc
      | succ i=>simp [zaG0] at hd
     ·cases i with
      | zero =>
       simp [zaG0] at hd
       subst hd
       rw [hu,List.getElem?_set] at hb
       split at hb
       ·rename_i hq
        subst hq
        cases hb
        obtain ⟨u,hu1,hu2⟩:=g7.ha 0 c j _ rfl hjl
        exact ⟨u,hu1,zbP4 (by simp) hu2⟩
       ·exact g7.ha 0 c q b rfl hb
      | succ i=>simp [zaG0] at hd
  ·rw [bW hyx]; exact hm'
def unfA:A→A
 | .full es=>.sl es
 | a=>a
def zad5:List A→List A
 | []=>[]
 | a :: as=>unfA a :: zad5 as
def zbr4:List (Nat×Row)→List (Nat×Row)
 | []=>[]
 | q :: r=>(q.1,⟨q.2.ro,q.2.sz,q.2.z,q.2.es.map zad5⟩) :: zbr4 r
def St.unf (st:St):St:=⟨st.fr,zbr4 st.mem,st.nx⟩
theorem zaZ5:∀ (cs:List A) (i:Nat),(zad5 cs)[i]? = (cs[i]?).map unfA
 | [],i=>by simp [zad5]
 | c :: cs,i=>by
  cases i with
  | zero=>simp [zad5]
  | succ i=>simp [zad5,zaZ5 cs i]
theorem zaQ7:∀ cs:List A,(zad5 cs).length=cs.length
 | []=>rfl
 | _ :: cs=>by simp [zad5,zaQ7 cs]
theorem zbi3 (x:Nat):∀ mem:List (Nat×Row),look (zbr4 mem) x=(look mem x).map fun r=>⟨r.ro,r.sz,r.z,r.es.map zad5⟩
 | []=>rfl
 | q :: r=>by
  simp only [zbr4,look]
  split
  ·rfl
  ·exact zbi3 x r
theorem zcg1 {v:Value} {x:A} (h:RepK w W μ v x):RepK w W μ v (unfA x):=by
 cases x with
 | full es =>
  have h2:RepC w W v (.full es):=h
  cases h2 with
  | full a n es h3=>exact zo3 h3
 | _=>exact h
@[go_sem] theorem zcS1 (s:List Nat):(s.map iE).map zad5=s.map iE:=by simp [iE,zad5,unfA]
theorem zcO7 {v:Value} {x:A} (h:RepC w W v x):RepC w W v (unfA x):=by
 cases x with
 | full es=>cases h with|full a n es h3=>exact h3
 | _=>exact h
theorem zav2.unf {z:List A} {i:Nat} {e:MapEntry} {c:List A} (h:zav2 w W z i e c):zav2 w W z i e (zad5 c):=by
 obtain ⟨h0,k,cs,ag,rfl,h2,h3,h4,h5⟩:=h
 refine ⟨h0,k,zad5 cs,ag,?_,h2,h3,h4,?_⟩
 ·simp only [zad5]
  congr 1
  generalize z.headD .any=zk at h3
  cases zk <;> cases k <;> first|rfl|(simp [zP0] at h3)
 ·unfold RepX at *
  split
  ·rename_i ha
   rw [bY ha] at h5
   obtain ⟨vs,g1,g2,g3⟩:=h5
   refine ⟨vs,g1,by rw [zaQ7]; exact g2,fun j u b p q=>?_⟩
   rw [zaZ5] at q
   obtain ⟨b0,q0,rfl⟩:=cD.1 q
   exact zcO7 (g3 j u b0 p q0)
  ·rename_i ha
   rw [bW ha] at h5
   obtain ⟨b,rfl,g⟩:=h5
   exact ⟨unfA b,rfl,zcO7 g⟩
theorem St.le_unf:St.le E st st.unf:=by
 intro a w ⟨W,μ,hs⟩
 refine ⟨W,μ,{ hs with mem:=fun x=>?_ }⟩
 show zae1 w W μ x (st.unf.m x)
 have hm:zae1 w W μ x (st.m x):=hs.mem x
 simp only [St.m,St.unf,zbi3] at hm ⊢
 split
 ·rename_i hx; rw [bY hx] at hm; exact hm
 ·rename_i hx
  rw [bW hx] at hm
  cases hl:look st.mem x with
  | none=>rw [hl] at hm; exact hm
  | some r =>
   rw [hl] at hm
   rcases hm with ⟨e1,e2,e3⟩|⟨k,e1,⟨hro,hsz,hpos,us,rest,e,h4,h5,h6⟩|⟨hro,hsz,hpos,es,h4,h5,h6⟩|⟨hro,hsz,hpos,hz,y,b,c,seen,h4,h5,h6⟩⟩
   ·exact .inl ⟨e1,by show r.es.map zad5=[]; rw [e2]; rfl,e3⟩
   rotate_left
   ·refine .inr ⟨k,e1,.inr (.inl ⟨hro,hsz,hpos,es,h4,by show es.size=(r.es.map zad5).length; simpa using h5,fun i e c q1 q2=>?_⟩)⟩
    have q3:(r.es.map zad5)[i]? = some c:=q2
    simp only [cK,cD] at q3
    obtain ⟨c0,hc0,rfl⟩:=q3
    exact (h6 i e c0 q1 hc0).unf
   ·exact .inr ⟨k,e1,.inr (.inr ⟨hro,hsz,hpos,hz,y,b,c,seen,by show r.es.map zad5=_; rw [h4,dM,zcS1]; rfl,h5,h6⟩)⟩
   ·refine .inr ⟨k,e1,.inl ⟨hro,hsz,hpos,us,rest,e,h4,h5,?_⟩⟩
    show Flat _ r.sz us (r.es.map zad5)
    refine ⟨by simpa using h6.hl,fun i c hc=>?_,fun i c j b hc hb=>?_⟩
    ·simp only [cK,cD] at hc
     obtain ⟨c0,hc0,rfl⟩:=hc
     rw [zaQ7]; exact h6.hs i c0 hc0
    ·simp only [cK,cD] at hc
     obtain ⟨c0,hc0,rfl⟩:=hc
     rw [zaZ5] at hb
     obtain ⟨b0,hb0,rfl⟩:=cD.1 hb
     obtain ⟨u,hu,hr⟩:=h6.ha i c0 j b0 hc0 hb0
     exact ⟨u,hu,zcg1 hr⟩
def St.cast (st:St) (t:Nat) (v:A):St:=⟨(t,v) :: rm t st.fr,st.mem,st.nx⟩
theorem St.le_cast (t:Nat) (v:A) (h:st.slot t=v):St.le E st (st.cast t v):=by
 have e:(st.cast t v).toS=st.toS:=by
  simp only [St.toS]
  congr 1
  funext x
  simp only [St.slot,St.cast,look]
  split
  ·rename_i hx; subst hx; exact h.symm
  ·rename_i hx; rw [zao8,bW (fun e=>hx e.symm)]
 intro a w hs
 rw [e]; exact hs
def St.unfs (st:St) (t:Nat):St:=⟨(t,unfA (st.slot t)) :: rm t st.fr,st.mem,st.nx⟩
theorem St.le_unfs (t:Nat):St.le E st (st.unfs t):=by
 intro a w ⟨W,μ,hs⟩
 refine ⟨W,μ,{ hs with fr:=fun t'=>?_ }⟩
 show Rep w W μ (a.tmps.getD t' undef) ((st.unfs t).slot t')
 have hr:Rep w W μ (a.tmps.getD t' undef) (st.slot t'):=hs.fr t'
 by_cases h:t=t'
 ·subst h
  have e:(st.unfs t).slot t=unfA (st.slot t):=by simp [St.slot,St.unfs,look]
  rw [e]
  generalize st.slot t=x at hr ⊢
  cases x with
  | full es =>
   have h2:RepC w W (a.tmps.getD t undef) (.full es):=hr
   exact zm5 (zl8 (zo3 h2.of_full.1))
  | _=>exact hr
 ·have e:(st.unfs t).slot t'=st.slot t':=by
   simp only [St.slot,St.unfs,look]
   rw [bW h,zao8,bW (fun e=>h e.symm)]
  rw [e]; exact hr
inductive Gh where
 | unf
 | cast (t:Nat) (v:A)
 | fz (ids:List Nat)
 | own0 (t sz:Nat) (z:List A)
 | ownb (x j sz:Nat) (z:List A)
 | unfs (t:Nat)
def St.gh (st:St):Gh→St
 | .unf=>st.unf
 | .cast t v=>st.cast t v
 | .fz ids=>st.fz ids
 | .own0 t sz z=>st.own0 t sz z
 | .ownb x j sz z=>st.ownb x j sz z
 | .unfs t=>st.unfs t
def St.ghOk (st:St):Gh→Prop
 | .unf=>True
 | .cast t v=>st.slot t=v
 | .fz ids=>st.fzOk ids
 | .own0 t sz _=>0 < sz∧st.slot t=.full []
 | .ownb x j sz _=>st.ownbOk x j sz
 | .unfs _=>True
theorem St.le_gh (g:Gh) (h:st.ghOk g):St.le E st (st.gh g):=by
 cases g with
 | unf=>exact St.le_unf
 | cast t v=>exact St.le_cast t v h
 | fz ids=>exact St.le_fz ids h
 | own0 t sz z=>exact St.le_own0 t sz z h.1 h.2
 | ownb x j sz z=>exact St.le_ownb x j sz z h
 | unfs t=>exact St.le_unfs t
theorem zcY3 {c:PC} {Q:Exit→St→Prop} (g:Gh) (hok:st.ghOk g) (h:AW C E c Q (st.gh g)):AW C E c Q st:=AW.weak (St.le_gh g hok) h
end
def zaS8 (C:Cx) (f:FuncId) (d:Option Nat) (g:Option (Nat×Bool)) (gv:Bool) (ob:Prop) (args:List A) (rw:List (Nat×MS)) (ps:List POp) (st:St) (K:St→Prop):Prop :=
 ∃ r,(gv=true→ob∧PFn C f args r)∧(g=none∨(if r.scal then [] else rw)=[]∧r.isVV=true)∧arun C ps (st.app d (zI2 g gv r) (if r.scal then [] else rw)) K
theorem zcw0 {C:Cx} {f:FuncId} {d:Option Nat} {g:Option (Nat×Bool)} {gv:Bool} {ob:Prop} {args:List A} {rw:List (Nat×MS)} {ps:List POp} {st:St} {K:St→Prop} {r:A}
  (hf:gv=true→PFn C f args r) (h:arun C ps (st.app d (zI2 g gv r) (if r.scal then [] else rw)) K)
  (ho:gv=true→ob:=by intro; trivial) (hg:g=none∨(if r.scal then [] else rw)=[]∧r.isVV=true:=by first|exact .inl rfl|exact .inr ⟨rfl,rfl⟩):zaS8 C f d g gv ob args rw ps st K:=⟨r,fun e=>⟨ho e,hf e⟩,hg,h⟩
def zad8 (C:Cx) (f:FuncId) (d:Option Nat) (g:Option (Nat×Bool)) (gv:Bool) (ob:Prop) (vals:List A) (ps:List POp) (st:St) (K:St→Prop):Prop :=
 zaz1 C st.m st.nx f vals g gv ob (fun _=>True) fun v mw=>arun C ps (st.app d v mw) K
def zaM1:A→Bool
 | .cnd _ _=>false
 | _=>true
theorem zaM2 {r:A} (h:zaM1 r=true):∀ g c,r≠.cnd g c:=fun g c e=>by subst e; cases h
theorem zck2 {C:Cx} {f:FuncId} {d:Option Nat} {ob:Prop} {vals:List A} {ps:List POp} {st:St} {K:St→Prop} (l:List (Nat×Nat)) {az:List A} {ms ms':List (Nat×Row)} {k k':Nat} {r:A}
  (hf:MFn C f az ms k r ms' k') (hok:okM st.m st.nx l vals az ms k k') (h:arun C ps (st.app d (renR (l++newL k st.nx (k' - k)) r) (mwM st.m (l++newL k st.nx (k' - k)) vals az ms ms' k k')) K)
  (ho:ob:=by trivial) (hr:zaM1 r=true:=by rfl):zad8 C f d none true ob vals ps st K :=
 ⟨l,az,ms,k,r,ms',k',fun _=>⟨ho,hf,hok,trivial⟩,(fun h=>nomatch h),.inl rfl,zaM2 hr,h⟩
theorem zbY3 {C:Cx} {f:FuncId} {d:Option Nat} {g:Option (Nat×Bool)} {gv:Bool} {ob:Prop} {vals:List A} {ps:List POp} {st:St} {K:St→Prop} (l:List (Nat×Nat)) {az:List A} {ms ms':List (Nat×Row)} {k:Nat} {r:A}
  (hf:gv=true→MFn C f az ms k r ms' k) (hok:gv=true→okM st.m st.nx l vals az ms k k) (hs:gv=false→zaY9 st.m (mwM st.m l vals az ms ms' k k)) (h:arun C ps (st.app d (zI2 g gv (renR l r)) (mwM st.m l vals az ms ms' k k)) K)
  (ho:gv=true→ob) (hr:zaM1 r=true:=by rfl) (hv:(renR l r).isVV=true:=by rfl):zad8 C f d g gv ob vals ps st K:=by
 have e:l++newL k st.nx (k - k)=l:=by rw [gF]; exact eN l
 refine ⟨l,az,ms,k,r,ms',k,fun h=>⟨ho h,hf h,hok h,trivial⟩,?_⟩
 rw [e]
 exact ⟨fun h=>⟨rfl,hs h⟩,.inr hv,zaM2 hr,h⟩
theorem zcw1 (C:Cx) (st:St) (K:St→Prop):arun C [] st K=K st:=rfl
theorem zck3 (C:Cx) (d:Option Nat) (g:Option (Nat×Bool)) (po:PO) (xs:List PX) (ps:List POp) (st:St) (K:St→Prop) :
  arun C (⟨d,g,po,xs⟩ :: ps) st K=(match po with
   | .call f=>(match zE0 st g with
    | none=>False
    | some gv=>zaS8 C f d g gv (zV1 C st xs∧zx0 st.m (zp2 C st xs)) (zD0 st.m (zp2 C st xs)) (zI1 st.m (zz0 (zp2 C st xs))) ps st K)
   | .callv=>(match zE0 st g with
    | none=>False
    | some gv=>(match zp2 C st xs with
     | .clo f caps :: vals=>zaS8 C f d g gv (zV1 C st xs∧zD9 C.P f=true∧zx0 st.m (vals++caps)) (zD0 st.m (vals++caps)) (zI1 st.m (zz0 (vals++caps))) ps st K
     | _=>False))
   | .callb=>(match zE0 st g with
    | none=>False
    | some gv=>(match zp2 C st xs with
     | .bnd f cs :: vals=>zaS8 C f d g gv (zV1 C st xs∧zD9 C.P f=true∧zx0 st.m (.agg cs :: vals)) (zD0 st.m (.agg cs :: vals)) (zI1 st.m (zz0 (.agg cs :: vals))) ps st K
     | _=>False))
   | .callm f=>(match zE0 st g with
    | none=>False
    | some gv=>zad8 C f d g gv (zV1 C st xs) (zp2 C st xs) ps st K)
   | .callvm=>(match zE0 st g with
    | none=>False
    | some gv=>(match zp2 C st xs with
     | .clo f caps :: vals=>zad8 C f d g gv (zV1 C st xs∧zD9 C.P f=true) (vals++caps) ps st K
     | _=>False))
   | .next dd=>g=none∧zV1 C st xs∧nxtQ dd st.m (fun v mw=>arun C ps (st.app d v mw) K) (zp2 C st xs)
   | .entry dd=>g=none∧zV1 C st xs∧entQ dd st.m (fun v mw=>arun C ps (st.app d v mw) K) (zp2 C st xs)
   | .eqNil=>g=none∧zV1 C st xs∧nilQ (fun b=>arun C ps (st.app d (.bool b) []) K) (zp2 C st xs)
   | po=>aop C ⟨d,g,po,xs⟩ st fun st'=>arun C ps st' K):=by
 cases po with
 | eqNil=>rfl
 | next dd=>rfl
 | entry dd=>rfl
 | call f =>
  simp only [arun,aop,zaS8,PO.isNilQ,PO.isNext,bT,cA]
  cases zE0 st g with
  | none=>rfl
  | some gv=>simp only [zx3,fL]
 | callv =>
  simp only [arun,aop,PO.isNilQ,PO.isNext,bT,cA]
  cases zE0 st g with
  | none=>rfl
  | some gv =>
   simp only
   generalize zp2 C st xs=vv
   rcases vv with _|⟨x,vs⟩
   ·rfl
   ·cases x <;> first|rfl|(simp only [zaS8,zx3,fL])
 | callb =>
  simp only [arun,aop,PO.isNilQ,PO.isNext,bT,cA]
  cases zE0 st g with
  | none=>rfl
  | some gv =>
   simp only
   generalize zp2 C st xs=vv
   rcases vv with _|⟨x,vs⟩
   ·rfl
   ·cases x <;> first|rfl|(simp only [zaS8,zx3,fL])
 | callm f =>
  simp only [arun,aop,zad8,PO.isNilQ,PO.isNext,bT,cA]
  cases zE0 st g with
  | none=>rfl
  | some gv=>rfl
 | callvm =>
  simp only [arun,aop,PO.isNilQ,PO.isNext,bT,cA]
  cases zE0 st g with
  | none=>rfl
  | some gv =>
   simp only
   generalize zp2 C st xs=vv
   rcases vv with _|⟨x,vs⟩
   ·rfl
   ·cases x <;> first|rfl|(simp only [zad8])
 | _=>rfl
def zaB8 (C:Cx) (f:FuncId) (d:Option Nat) (g:Option (Nat×Bool)) (gv:Bool) (ob:Prop) (args:List A) (rw:List (Nat×MS)) (ps:List POp) (st:St) (K:St→Prop):Prop :=
 ∃ r,(gv=true→ob∧PFn C f args r)∧(g=none∨(if r.scal then [] else rw)=[]∧r.isVV=true)∧((st.app d (zI2 g gv r) (if r.scal then [] else rw)).mem=st.mem∧(st.app d (zI2 g gv r) (if r.scal then [] else rw)).nx=st.nx)∧zaC9 C ps (st.app d (zI2 g gv r) (if r.scal then [] else rw)) K
theorem zck4 {C:Cx} {f:FuncId} {d:Option Nat} {g:Option (Nat×Bool)} {gv:Bool} {ob:Prop} {args:List A} {rw:List (Nat×MS)} {ps:List POp} {st:St} {K:St→Prop} {r:A}
  (hf:gv=true→PFn C f args r) (h:zaC9 C ps (st.app d (zI2 g gv r) []) K)
  (ho:gv=true→ob:=by intro; trivial) (hg:g=none∨(if r.scal then [] else rw)=[]∧r.isVV=true:=by first|exact .inl rfl|exact .inr ⟨rfl,rfl⟩) (hn:(if r.scal then [] else rw)=[]:=by rfl):zaB8 C f d g gv ob args rw ps st K:=⟨r,fun e=>⟨ho e,hf e⟩,hg,by rw [hn]; exact ⟨rfl,rfl⟩,by rw [hn]; exact h⟩
theorem zck5 (C:Cx) (st:St) (K:St→Prop):zaC9 C [] st K=K st:=rfl
theorem zbY4 (C:Cx) (d:Option Nat) (g:Option (Nat×Bool)) (po:PO) (xs:List PX) (ps:List POp) (st:St) (K:St→Prop) :
  zaC9 C (⟨d,g,po,xs⟩ :: ps) st K=(match po with
   | .call f=>(match zE0 st g with
    | none=>False
    | some gv=>zaB8 C f d g gv (zV1 C st xs∧zx0 st.m (zp2 C st xs)) (zD0 st.m (zp2 C st xs)) (zI1 st.m (zz0 (zp2 C st xs))) ps st K)
   | .callv=>(match zE0 st g with
    | none=>False
    | some gv=>(match zp2 C st xs with
     | .clo f caps :: vals=>zaB8 C f d g gv (zV1 C st xs∧zD9 C.P f=true∧zx0 st.m (vals++caps)) (zD0 st.m (vals++caps)) (zI1 st.m (zz0 (vals++caps))) ps st K
     | _=>False))
   | .callb=>(match zE0 st g with
    | none=>False
    | some gv=>(match zp2 C st xs with
     | .bnd f cs :: vals=>zaB8 C f d g gv (zV1 C st xs∧zD9 C.P f=true∧zx0 st.m (.agg cs :: vals)) (zD0 st.m (.agg cs :: vals)) (zI1 st.m (zz0 (.agg cs :: vals))) ps st K
     | _=>False))
   | po=>aop C ⟨d,g,po,xs⟩ st fun st'=>(st'.mem=st.mem∧st'.nx=st.nx)∧zaC9 C ps st' K):=by
 cases po with
 | call f =>
  simp only [zaC9,aop,zaB8]
  cases zE0 st g with
  | none=>rfl
  | some gv=>simp only [zx3,fL]
 | callv =>
  simp only [zaC9,aop]
  cases zE0 st g with
  | none=>rfl
  | some gv =>
   simp only
   generalize zp2 C st xs=vv
   rcases vv with _|⟨x,vs⟩
   ·rfl
   ·cases x <;> first|rfl|(simp only [zaB8,zx3,fL])
 | callb =>
  simp only [zaC9,aop]
  cases zE0 st g with
  | none=>rfl
  | some gv =>
   simp only
   generalize zp2 C st xs=vv
   rcases vv with _|⟨x,vs⟩
   ·rfl
   ·cases x <;> first|rfl|(simp only [zaB8,zx3,fL])
 | _=>rfl
def zaB9 (C:Cx) (an:List (List Nat)) (f:FuncId) (d:Option Nat) (g:Option (Nat×Bool)) (gv:Bool) (ob:Prop) (args:List A) (rw:List (Nat×MS)) (ids:List Nat) (cok:Bool) (ps:List POp) (st:St) (log:List (List Nat×List Nat)) (K:St→Prop):Prop :=
 ∃ r,(gv=true→ob∧PFn C f args r)∧(g=none∨(if r.scal then [] else rw)=[]∧r.isVV=true)∧zaH9 (an.getD log.length []) 0 log ids ((if r.scal then [] else rw).map (·.1))=true∧cok=true ∧
  zaj3 C an ps (st.app d (zI2 g gv r) (if r.scal then [] else rw)) (log++[(ids,(if r.scal then [] else rw).map (·.1))]) K
theorem zck6 {C:Cx} {an:List (List Nat)} {f:FuncId} {d:Option Nat} {g:Option (Nat×Bool)} {gv:Bool} {ob:Prop} {args:List A} {rw:List (Nat×MS)} {ids:List Nat} {cok:Bool} {ps:List POp} {st:St} {log:List (List Nat×List Nat)} {K:St→Prop} {r:A}
  (hf:gv=true→PFn C f args r) (h:zaH9 (an.getD log.length []) 0 log ids ((if r.scal then [] else rw).map (·.1))=true∧cok=true∧zaj3 C an ps (st.app d (zI2 g gv r) (if r.scal then [] else rw)) (log++[(ids,(if r.scal then [] else rw).map (·.1))]) K)
  (ho:gv=true→ob:=by intro; trivial) (hg:g=none∨(if r.scal then [] else rw)=[]∧r.isVV=true:=by first|exact .inl rfl|exact .inr ⟨rfl,rfl⟩):zaB9 C an f d g gv ob args rw ids cok ps st log K:=⟨r,fun e=>⟨ho e,hf e⟩,hg,h.1,h.2.1,h.2.2⟩
def zat9 (C:Cx) (an:List (List Nat)) (f:FuncId) (d:Option Nat) (g:Option (Nat×Bool)) (gv:Bool) (ob:Prop) (vals:List A) (ids:List Nat) (cok:Bool) (ps:List POp) (st:St) (log:List (List Nat×List Nat)) (K:St→Prop):Prop :=
 zaz1 C st.m st.nx f vals g gv ob (fun n=>∀ x,st.nx≤x→x < st.nx+n→st.m x=.fresh) fun v mw=>zaH9 (an.getD log.length []) 0 log ids (mw.map (·.1))=true∧cok=true∧zaj3 C an ps (st.app d v mw) (log++[(ids,mw.map (·.1))]) K
theorem zbY5 {C:Cx} {an:List (List Nat)} {f:FuncId} {d:Option Nat} {ob:Prop} {vals:List A} {ids:List Nat} {cok:Bool} {ps:List POp} {st:St} {log:List (List Nat×List Nat)} {K:St→Prop} (l:List (Nat×Nat)) {az:List A} {ms ms':List (Nat×Row)} {k k':Nat} {r:A}
  (hf:MFn C f az ms k r ms' k') (hok:okM st.m st.nx l vals az ms k k')
  (h:zaH9 (an.getD log.length []) 0 log ids ((mwM st.m (l++newL k st.nx (k' - k)) vals az ms ms' k k').map (·.1))=true∧cok=true∧zaj3 C an ps (st.app d (renR (l++newL k st.nx (k' - k)) r) (mwM st.m (l++newL k st.nx (k' - k)) vals az ms ms' k k')) (log++[(ids,(mwM st.m (l++newL k st.nx (k' - k)) vals az ms ms' k k').map (·.1))]) K)
  (ho:ob:=by trivial) (hr:zaM1 r=true:=by rfl):zat9 C an f d none true ob vals ids cok ps st log K :=
 ⟨l,az,ms,k,r,ms',k',fun _=>⟨ho,hf,hok,fun x hx _=>zbH1 st x hx⟩,(fun h=>nomatch h),.inl rfl,zaM2 hr,h⟩
theorem zck7 (C:Cx) (an:List (List Nat)) (st:St) (log:List (List Nat×List Nat)) (K:St→Prop):zaj3 C an [] st log K=K st:=rfl
theorem zbY6 (C:Cx) (an:List (List Nat)) (d:Option Nat) (g:Option (Nat×Bool)) (po:PO) (xs:List PX) (ps:List POp) (st:St) (log:List (List Nat×List Nat)) (K:St→Prop) :
  zaj3 C an (⟨d,g,po,xs⟩ :: ps) st log K=(match po with
   | .call f=>(match zG1 st.slot g with
    | none=>False
    | some gv=>zaB9 C an f d g gv (gdsF C st.slot xs∧zx0 st.m (zC9 C st.slot xs)) (zD0 st.m (zC9 C st.slot xs)) (zI1 st.m (zz0 (zC9 C st.slot xs))) (zz2 (zp2 C st xs)) (zaB7 (zp2 C st xs)) ps st log K)
   | .callv=>(match zG1 st.slot g with
    | none=>False
    | some gv=>(match zC9 C st.slot xs with
     | .clo f caps :: vals=>zaB9 C an f d g gv (gdsF C st.slot xs∧zD9 C.P f=true∧zx0 st.m (vals++caps)) (zD0 st.m (vals++caps)) (zI1 st.m (zz0 (vals++caps))) (zz2 (zp2 C st xs)) (zaB7 (zp2 C st xs)) ps st log K
     | _=>False))
   | .callb=>(match zG1 st.slot g with
    | none=>False
    | some gv=>(match zC9 C st.slot xs with
     | .bnd f cs :: vals=>zaB9 C an f d g gv (gdsF C st.slot xs∧zD9 C.P f=true∧zx0 st.m (.agg cs :: vals)) (zD0 st.m (.agg cs :: vals)) (zI1 st.m (zz0 (.agg cs :: vals))) (zz2 (zp2 C st xs)) (zaB7 (zp2 C st xs)) ps st log K
     | _=>False))
   | .callm f=>(match zG1 st.slot g with
    | none=>False
    | some gv=>zat9 C an f d g gv (gdsF C st.slot xs) (zC9 C st.slot xs) (zz2 (zp2 C st xs)) (zaB7 (zp2 C st xs)) ps st log K)
   | .callvm=>(match zG1 st.slot g with
    | none=>False
    | some gv=>(match zC9 C st.slot xs with
     | .clo f caps :: vals=>zat9 C an f d g gv (gdsF C st.slot xs∧zD9 C.P f=true) (vals++caps) (zz2 (zp2 C st xs)) (zaB7 (zp2 C st xs)) ps st log K
     | _=>False))
   | po=>aopS C ⟨d,g,po,xs⟩ st.toS st.nx fun v mw=>zaH9 (an.getD log.length []) 0 log (zz2 (zp2 C st xs)) (mw.map (·.1))=true∧zaB7 (zp2 C st xs)=true ∧
     zaj3 C an ps (st.app d v mw) (log++[(zz2 (zp2 C st xs),mw.map (·.1))]) K):=by
 cases po with
 | call f =>
  simp only [zaj3,aopS,zaB9,St.toS]
  cases zG1 st.slot g with
  | none=>rfl
  | some gv=>simp only [zx3,fL]
 | callv =>
  simp only [zaj3,aopS,St.toS]
  cases zG1 st.slot g with
  | none=>rfl
  | some gv =>
   simp only
   generalize zC9 C st.slot xs=vv
   rcases vv with _|⟨x,vs⟩
   ·rfl
   ·cases x <;> first|rfl|(simp only [zaB9,zx3,fL])
 | callb =>
  simp only [zaj3,aopS,St.toS]
  cases zG1 st.slot g with
  | none=>rfl
  | some gv =>
   simp only
   generalize zC9 C st.slot xs=vv
   rcases vv with _|⟨x,vs⟩
   ·rfl
   ·cases x <;> first|rfl|(simp only [zaB9,zx3,fL])
 | callm f =>
  simp only [zaj3,aopS,zat9,St.toS]
  cases zG1 st.slot g with
  | none=>rfl
  | some gv=>rfl
 | callvm =>
  simp only [zaj3,aopS,St.toS]
  cases zG1 st.slot g with
  | none=>rfl
  | some gv =>
   simp only
   generalize zC9 C st.slot xs=vv
   rcases vv with _|⟨x,vs⟩
   ·rfl
   ·cases x <;> first|rfl|(simp only [zat9])
 | _=>rfl
def mget {V:Type} (k:ByteArray):List (ByteArray×V)→Option V
 | []=>none
 | p :: l=>bif k.toList == p.1.toList then some p.2 else mget k l
def mput {V:Type} (k:ByteArray) (v:V):List (ByteArray×V)→List (ByteArray×V)
 | []=>[(k,v)]
 | p :: l=>bif k.toList == p.1.toList then (k,v) :: l else p :: mput k v l
def mS {V:Type} (f:V→List A) (p:ByteArray×V):List A:=.str p.1 :: f p.2
@[go_sem] theorem zda3 {V:Type} (f:V→List A) (k:ByteArray) (l:List (ByteArray×V)):zai5 (.str k) (l.map (mS f))=(mget k l).map f:=by
 induction l with
 | nil=>rfl
 | cons p l ih =>
  simp only [dM,mS,zai5,List.headD_cons,eq1,mget,List.tail_cons]
  cases k.toList == p.1.toList
  ·exact ih
  ·rfl
@[go_sem] theorem zdb0 {V:Type} (f:V→List A) (k:ByteArray) (v:V) (l:List (ByteArray×V)):mins (.str k) (f v) (l.map (mS f))=(mput k v l).map (mS f):=by
 induction l with
 | nil=>rfl
 | cons p l ih =>
  simp only [dM,mS,mins,List.headD_cons,eq1,mput]
  cases k.toList == p.1.toList
  ·simp only [cond_false,ih]; rfl
  ·rfl
@[go_sem] theorem zcV1 {V:Type} (f:V→List A) (p:ByteArray×V):zk0 (mS f p)=zk0 (f p.2):=by simp [mS,zk0,A.pure1]
@[go_sem] theorem zcS2 (y i:Nat) (k:IntKind) (c:Int) (s:List Nat):zbN1 ([.mp y,.int k c] :: (s++[i]).map iE)=some (y,i):=by simp [zbN1,iE]
@[go_sem] theorem zdb1 {V:Type} (kz:A) (ag:Bool) (f:V→List A) (p:ByteArray×V):mEnt [kz,.bool ag] (mS f p)=[.str p.1,zab4 ag (f p.2)]:=rfl
@[go_sem] theorem zdb2 {V:Type} (f:V→List A) (l:List (ByteArray×V)) (i:Nat) (k0:ByteArray) (v0:V):(l.map (mS f)).getD i (.str k0 :: f v0)=mS f (l.getD i (k0,v0)):=by
 simp only [bU,cK]; cases l[i]? <;> rfl
@[go_sem] theorem zcY4 {V:Type} (ag:Bool) (f:V→List A) (z:V) (o:Option V):mval ag (f z) (o.map f)=zab4 ag (f (o.getD z)):=by cases o <;> rfl
@[go_sem] theorem zcV2 {V:Type} (ag:Bool) (z:List A):mval ag z none=zab4 ag z:=rfl
attribute [go_sem ↓] aop aopS
@[go_sem] theorem zcw2:∀ cs:List A,zbn7 cs=zk0 cs
 | []=>rfl
 | c :: cs=>by simp only [zbn7,zk0,zcw2 cs]
attribute [go_sem] zcw1 zck3 zck5 zbY4 zck7 zbY6 zG1 zC9 gdsF St.toS zz2 idsA zaH8 zaz6 zaB7 zaM0 A.flatCap okM zaY8 argM A.hands zcO6 zce7 fzM zbC0 zbh0 newL zV2 mwM entM zaY9 MS.like renR ren0 zbN9 resL zbh3 zbp9 zE0 St.slot St.m look zp2 zV1 xv A.nc A.gd ev zbB1 zal6 zat1 zab5 A.cells A.isV A.isK A.isStr A.isVV allV allK zv3 laid zbn6 zab4
 zP0 A.isAg nxtQ entQ PO.lax nilQ zI2 St.app putF putM nxt rm zbB9 St.drop zx3 zD0 zx0 frz frz1 zaj0 zad7 zaj1 zK1 zz0 zI1 A.scal A.scal1 A.scal2 zu9 zbo9 zk0 A.pure1 pureEs
 zq1 LK.fits eqA eq1 glob zE4 zbD3 allG zaH7 resA resG zbD2 Le leF leM rho ren ren1 zY3 idOk zaS6 idEs zav4
def SeqQ (C:Cx) (E:Env) (y:PC) (Q:Exit→St→Prop):Exit→St→Prop:=fun e s=>match e with|.normal=>AW C E y Q s|e=>Q e s
def BlkQ (id:Nat) (Q:Exit→St→Prop):Exit→St→Prop:=fun e s=>match e with|.exit i=>(if i=id then Q .normal s else Q (.exit i) s)|e=>Q e s
section
variable {C:Cx} {E:Env} {Q:Exit→St→Prop} {st:St}
theorem zb2 {x y:PC} (h:AW C E x (SeqQ C E y Q) st):AW C E (.seq x y) Q st:=zcR3 h
theorem zK3 {id:Nat} {c:PC} (h:AW C E c (BlkQ id Q) st):AW C E (.block id c) Q st:=zbp5 h
theorem zbP5 {y:PC} (s:St):SeqQ C E y Q .normal s=AW C E y Q s:=rfl
theorem zcw3 {y:PC} (s:St):SeqQ C E y Q .ret s=Q .ret s:=rfl
theorem zck8 {y:PC} (i:Nat) (s:St):SeqQ C E y Q (.exit i) s=Q (.exit i) s:=rfl
theorem zbP6 (i:Nat) (s:St):BlkQ i Q .normal s=Q .normal s:=rfl
theorem zcw4 (i:Nat) (s:St):BlkQ i Q .ret s=Q .ret s:=rfl
theorem zck9 (i j:Nat) (s:St):BlkQ i Q (.exit j) s=if j=i then Q .normal s else Q (.exit j) s:=rfl
theorem zcw5 (rs:List RX) (r:A) (fr:List (Nat×A)) (m:List (Nat×Row)) (n:Nat):Post rs r .ret ⟨fr,m,n⟩=zbD3 ⟨fr,m,n⟩ rs r:=rfl
theorem zbP7 (rs:List RX) (r:A) (fr:List (Nat×A)) (m:List (Nat×Row)) (n:Nat):Post rs r .normal ⟨fr,m,n⟩=zbD3 ⟨fr,m,n⟩ rs r:=rfl
theorem zcl0 (k:Nat) (rs:List RX) (rl:List A) (ms':List (Nat×Row)) (k':Nat) (fr:List (Nat×A)) (m:List (Nat×Row)) (n:Nat):zbO5 k rs rl ms' k' .ret ⟨fr,m,n⟩=zaF6 k ⟨fr,m,n⟩ rs rl ms' k':=rfl
theorem zbH8 (k:Nat) (rs:List RX) (rl:List A) (ms':List (Nat×Row)) (k':Nat) (fr:List (Nat×A)) (m:List (Nat×Row)) (n:Nat):zbO5 k rs rl ms' k' .normal ⟨fr,m,n⟩=zaF6 k ⟨fr,m,n⟩ rs rl ms' k':=rfl
attribute [go_sem] zcl0 zbH8 St.gh St.ghOk St.fz St.fzOk St.own0 St.ownb St.ownbOk zaZ3 zaG0 zcv9 St.unfs St.cast St.unf zbr4 zad5 unfA memN fzA fzCs fzV fzEs fzFr zbP2 zbD7 zbc7 zbP3 zbm4 zbH4 zbH5 zbm5
attribute [go_sem] zbP5 zcw3 zck8 zbP6 zcw4 zck9 zcw5 zbP7
end
theorem zbr5 (n:Nat):zI9 n []:=by intro c hc; cases hc
theorem zbP8 (n:Nat) (a:List A) (b:List (List A)):zI9 n (a :: b) ↔ a.length=n∧zI9 n b:=by
 simp only [zI9,cE]
 exact ⟨fun h=>⟨h a (.inl rfl),fun c hc=>h c (.inr hc)⟩,fun ⟨h1,h2⟩ c hc=>hc.elim (fun e=>e ▸ h1) (h2 c)⟩
theorem zaZ6:zS3 []:=by intro c hc; cases hc
attribute [go_sem] dJ Nat.add_zero jO cS Nat.lt_add_one fF Int.toNat_zero Int.toNat_natCast Int.natCast_zero imp_self cQ fC iF iA and_false or_true true_or kD hX forall_const true_implies iG dU bZ cA eq_self ne_eq jK iP cF fO eT iQ cP cX Bool.not_not bT gL cond_true cond_false Bool.cond_true_left Bool.cond_true_right Bool.cond_false_left Bool.cond_false_right cB cL Option.getD_some Option.getD_none Option.map_some Option.map_none Option.bind_some Option.isSome_some Option.isNone_none List.length_cons List.length_nil dV cI List.all_nil List.all_cons List.nil_append eN List.map_nil dM List.set_cons_zero List.set_nil List.getD_cons_zero gE jX List.headD_cons List.contains_nil List.take_nil List.drop_nil beq_self_eq_true
attribute [simp] zbr5 zaZ6
attribute [go_sem] zbr5 zbP8 zaZ6
@[go_sem] theorem zcL5 (l:List Int):u8s (l.map fun n=>[A.int .u8 n])=some l:=by
 induction l with
 | nil=>rfl
 | cons n l ih=>simp only [dM,u8s,ih,Option.map_some]
@[go_sem] theorem zcV3 (l:List UInt8):(l.map fun b=>[A.int .u8 (b.toNat:Int)])=(l.map fun b=>(b.toNat:Int)).map (eI .u8):=by
 rw [List.map_map]; rfl
@[go_sem] theorem zcY5 (l:List Int):u8s (l.map (eI .u8))=some l:=zcL5 l
@[go_sem] theorem zdb3 (q:Nat×MS) (l r:List (Nat×MS)):q :: l++r=q :: (l++r):=rfl
@[go_sem] theorem zdb4:([]:List A).flatMap zK1=[]:=rfl
@[go_sem] theorem zdb5 (x lo n:Nat) (cs:List A):(A.own x lo n :: cs).flatMap zK1=x :: cs.flatMap zK1:=rfl
@[go_sem] theorem zdb6 (s:ByteArray) (cs:List A):(A.str s :: cs).flatMap zK1=cs.flatMap zK1:=rfl
@[go_sem] theorem zdb7 (k:IntKind) (n:Int) (cs:List A):(A.int k n :: cs).flatMap zK1=cs.flatMap zK1:=rfl
@[go_sem] theorem zda4 (b:Bool) (cs:List A):(A.bool b :: cs).flatMap zK1=cs.flatMap zK1:=rfl
@[go_sem] theorem zdA9 (l:List (List A)) (cs:List A):(A.sl l :: cs).flatMap zK1=cs.flatMap zK1:=rfl
attribute [go_sem] List.isEmpty_nil List.isEmpty_cons jR List.forall_mem_cons iZ
@[go_sem ↓] theorem zcY6 (r:A):(if r.scal=true then ([]:List (Nat×MS)) else [])=[]:=jR _
@[go_sem] theorem zda5 (c x:A) (cs xs:List A):upd (c :: cs) 0 (x :: xs)=x :: upd cs 0 xs:=by simp [upd,eG]
@[go_sem] theorem zda6 (cs:List A) (n:Nat):upd cs n []=cs:=by simp [upd]
@[go_sem] theorem zdb8 (c:A) (cs new:List A) (n:Nat):upd (c :: cs) (n+1) new=c :: upd cs n new:=by simp [upd,Nat.add_right_comm]
@[go_sem] theorem zda7 (c:A) (cs:List A) (k:Nat):sub (c :: cs) 0 (k+1)=c :: sub cs 0 k:=by simp [sub]
@[go_sem] theorem zda8 (cs:List A) (n:Nat):sub cs n 0=[]:=by simp [sub]
@[go_sem] theorem zdb9 (c:A) (cs:List A) (n k:Nat):sub (c :: cs) (n+1) k=sub cs n k:=by simp [sub]
def gd {α:Type} (p:Prop) [Decidable p] (k:Option α):Option α:=if p then k else none
theorem zm3 {α:Type} {p:Prop} [Decidable p] {k:Option α} {r:α} (h:gd p k=some r):p∧k=some r:=by
 unfold gd at h; split at h
 ·exact ⟨by assumption,h⟩
 ·cases h
theorem zn3 {α:Type} {p:Prop} [Decidable p] {k:Option α} (h:p):gd p k=k:=bY h
theorem zn1 {α β:Type} {m:Option α} {f:α→Option β} {r:β} (h:m.bind f=some r):∃ v,m=some v∧f v=some r:=by
 cases m with
 | none=>cases h
 | some v=>exact ⟨v,rfl,h⟩
theorem zaD1 {α:Type} {c:Bool} {x y r:α} (hb:c=true) (h:(if c=true then x else y)=r):x=r:=by rw [bY hb] at h; exact h
theorem zcO8 {α:Type} {c:Bool} {x y r:α} (hb:c=false) (h:(if c=true then x else y)=r):y=r:=by subst hb; exact h
def iter {G X:Type} (body:G→Option (G⊕X)):Nat→G→Option X
 | 0,_=>none
 | n+1,g=>match body g with
  | none=>none
  | some (.inl g')=>iter body n g'
  | some (.inr x)=>some x
theorem zbc9 {G X:Type} {body:G→Option (G⊕X)} {x:X}:∀ {n m:Nat} {g:G},iter body n g=some x→n≤m→iter body m g=some x
 | 0,_,_,h,_=>by cases h
 | n+1,0,_,_,hm=>by omega
 | n+1,m+1,g,h,hm=>by
  simp only [iter] at h ⊢
  cases hb:body g with
  | none=>rw [hb] at h; cases h
  | some y =>
   rw [hb] at h
   cases y with
   | inl g'=>exact zbc9 (n:=n) (m:=m) h (by omega)
   | inr x'=>exact h
open Classical in
noncomputable def zc6 {G X:Type} (body:G→Option (G⊕X)) (g:G):Option X :=
 match iter body 1000 g with
 | some x=>some x
 | none=>if h:∃ n x,iter body n g=some x then some (Classical.choose (eQ h)) else none
theorem zag8 {G X:Type} {body:G→Option (G⊕X)} {g:G} {x:X}:zc6 body g=some x ↔ ∃ n,iter body n g=some x:=by
 have both:∀ {n m:Nat} {x y:X},iter body n g=some x→iter body m g=some y→some x=some y:=fun {n m x y} h1 h2=>by
  rw [← zbc9 h1 (Nat.le_add_right n m),← zbc9 h2 (Nat.le_add_left m n)]
 unfold zc6
 cases h0:iter body 1000 g with
 | some y=>exact ⟨fun h=>⟨1000,by rw [h0]; exact h⟩,fun ⟨n,hn⟩=>both h0 hn⟩
 | none =>
  constructor
  ·intro h
   simp only at h
   split at h
   ·rename_i hh
    cases h
    exact ⟨_,eQ (eQ hh)⟩
   ·cases h
  ·rintro ⟨n,hn⟩
   have hh:∃ n x,iter body n g=some x:=⟨n,x,hn⟩
   simp only
   rw [jM hh]
   exact both (eQ (eQ hh)) hn
theorem zq6 {G X:Type} (body:G→Option (G⊕X)) (g:G):zc6 body g=match body g with
  | none=>none
  | some (.inl g')=>zc6 body g'
  | some (.inr x)=>some x:=by
 cases hb:body g with
 | none =>
  simp only
  cases h:zc6 body g with
  | none=>rfl
  | some x =>
   obtain ⟨n,hn⟩:=zag8.1 h
   cases n with
   | zero=>cases hn
   | succ n=>simp only [iter,hb] at hn; cases hn
 | some y =>
  cases y with
  | inr x=>exact zag8.2 ⟨1,by simp [iter,hb]⟩
  | inl g' =>
   simp only
   cases h:zc6 body g' with
   | some x =>
    obtain ⟨n,hn⟩:=zag8.1 h
    exact zag8.2 ⟨n+1,by simp only [iter,hb]; exact hn⟩
   | none =>
    cases h2:zc6 body g with
    | none=>rfl
    | some x =>
     obtain ⟨n,hn⟩:=zag8.1 h2
     cases n with
     | zero=>cases hn
     | succ n =>
      simp only [iter,hb] at hn
      rw [zag8.2 ⟨n,hn⟩] at h
      cases h
def zaD2 (E:Env) {V:Type} (J:V→St) (P:V→Prop) (s:St):Prop:=∃ v,P v∧St.le E s (J v)
theorem zbP9 {E:Env} {V:Type} {J:V→St} {P:V→Prop} {s:St} {k:Nat} (hK:E.k0=k) (v:V) (h:P v) (l:List (Nat×Nat)) (hl:Le l s (J v)∧zaj2 k l (J v).nx=true):zaD2 E J P s:=⟨v,h,St.le_of l hl.1 (by rw [hK]; exact hl.2)⟩
def zaS9 (E:Env) {V:Type} (J:V→St) (P:V→Prop) (Q:Exit→St→Prop):Exit→St→Prop:=fun e s=>match e with|.normal=>zaD2 E J P s|e=>Q e s
def BlkJ (E:Env) {V:Type} (id:Nat) (J:V→St) (P:V→Prop) (Q:Exit→St→Prop):Exit→St→Prop:=fun e s=>match e with
 | .normal=>zaD2 E J P s
 | .exit i=>if i=id then zaD2 E J P s else Q (.exit i) s
 | e=>Q e s
def zbQ0 (E:Env) {G X:Type} (I:G→St) (y:G⊕X) (s:St):Prop:=∃ g',y=.inl g'∧St.le E s (I g')
theorem zbQ1 {E:Env} {G X:Type} {I:G→St} {g':G} {s:St} {k:Nat} (hK:E.k0=k) (l:List (Nat×Nat)) (hl:Le l s (I g')∧zaj2 k l (I g').nx=true):zbQ0 (X:=X) E I (.inl g') s:=⟨g',rfl,St.le_of l hl.1 (by rw [hK]; exact hl.2)⟩
def zbi4 (E:Env) {G X:Type} (I:G→St) (y:G⊕X) (Q:Exit→St→Prop):Exit→St→Prop:=fun e s=>match e with|.normal=>zbQ0 E I y s|e=>Q e s
section
variable {C:Cx} {E:Env} {Q:Exit→St→Prop} {st:St}
theorem AW.join {V:Type} {J:V→St} {c:PC} {Q':Exit→St→Prop} (h:AW C E c Q' st)
  (hq:∀ e s,Q' e s→Q e s∨∃ v,St.le E s (J v)∧Q e (J v)):AW C E c Q st :=
 fun code hc a w hs=>wp_mono (h code hc a w hs) fun e a' w' ⟨st',h1,h2⟩=>by
  rcases hq e st' h1 with h3|⟨v,h3,h4⟩
  ·exact ⟨st',h3,h2⟩
  ·exact ⟨J v,h4,h3 a' w' h2⟩
theorem zcL6 {x:PX} {p q:PC} {V:Type} (J:V→St) (P:V→Prop) {b:Bool} (hx:xv C.G st.slot x=.bool b) (hG:E.G=C.G) (hk:∀ v,P v→Q .normal (J v))
  (ht:b=true→AW C E p (zaS9 E J P Q) st) (hf:b=false→AW C E q (zaS9 E J P Q) st):AW C E (.cond x p q) Q st:=by
 have key:∀ c,AW C E c (zaS9 E J P Q) st→AW C E c Q st:=fun c h=>h.join (J:=J) fun e s h=>by
  cases e with
  | normal=>obtain ⟨v,h1,h2⟩:=h; exact .inr ⟨v,h2,hk v h1⟩
  | _=>exact .inl h
 exact zbm2 hx hG (fun h=>key _ (ht h)) (fun h=>key _ (hf h))
theorem zO1 {id:Nat} {c:PC} {V:Type} (J:V→St) (P:V→Prop) (hk:∀ v,P v→Q .normal (J v)) (h:AW C E c (BlkJ E id J P Q) st):AW C E (.block id c) Q st:=by
 refine zbp5 (h.join (J:=J) fun e s h=>?_)
 cases e with
 | normal=>obtain ⟨v,h1,h2⟩:=h; exact .inr ⟨v,h2,hk v h1⟩
 | exit i =>
  simp only [BlkJ] at h ⊢
  split at h
  ·obtain ⟨v,h1,h2⟩:=h
   rename_i hi
   exact .inr ⟨v,h2,by rw [bY hi]; exact hk v h1⟩
  ·rename_i hi; exact .inl (by rw [bW hi]; exact h)
 | _=>exact .inl h
def zbQ2 (E:Env) {V:Type} (id:Nat) (J:V→St) (P:V→Prop) (Q:Exit→St→Prop):Exit→St→Prop:=fun e s=>match e with
 | .normal=>zaD2 E J P s∨Q .normal s
 | .exit i=>if i=id then (zaD2 E J P s∨Q .normal s) else Q (.exit i) s
 | e=>Q e s
theorem zbE0 {id:Nat} {c:PC} {V:Type} (J:V→St) (P:V→Prop) (hk:∀ v,P v→Q .normal (J v)) (h:AW C E c (zbQ2 E id J P Q) st):AW C E (.block id c) Q st:=by
 refine zbp5 (h.join (J:=J) fun e s h=>?_)
 cases e with
 | normal =>
  rcases h with ⟨v,h1,h2⟩|h
  ·exact .inr ⟨v,h2,hk v h1⟩
  ·exact .inl h
 | exit i =>
  simp only [zbQ2] at h ⊢
  split at h
  ·rename_i hi
   rcases h with ⟨v,h1,h2⟩|h
   ·exact .inr ⟨v,h2,by rw [bY hi]; exact hk v h1⟩
   ·exact .inl (by rw [bY hi]; exact h)
  ·rename_i hi; exact .inl (by rw [bW hi]; exact h)
 | _=>exact .inl h
theorem zbH9 {c:PC} {G X:Type} {body:G→Option (G⊕X)} {g0:G} {x:X} (I:G→St) {k:Nat} (hK:E.k0=k) (l:List (Nat×Nat)) (hx:zc6 body g0=some x) (hle:Le l st (I g0)∧zaj2 k l (I g0).nx=true)
  (h:∀ g y,body g=some y→(∀ x',y=.inr x'→x'=x)→AW C E c (zbi4 E I y Q) (I g)):AW C E (.loop c) Q st:=by
 obtain ⟨n,hn⟩:=zag8.1 hx
 refine zcf2 (G:={ p:Nat×G // iter body p.1 p.2=some x }) (fun p=>I p.1.2) (fun _=>True) (fun p=>p.1.1) ⟨(n,g0),hn⟩ trivial (St.le_of l hle.1 (by rw [hK]; exact hle.2)) fun ⟨⟨m,g⟩,hm⟩ _=>?_
 cases m with
 | zero=>cases hm
 | succ m =>
  simp only [iter] at hm
  cases hb:body g with
  | none=>rw [hb] at hm; cases hm
  | some y =>
   rw [hb] at hm
   refine (h g y hb fun x' e=>by subst e; exact dG hm).mono fun e s hs=>?_
   cases e with
   | normal =>
    obtain ⟨g',rfl,h2⟩:=hs
    exact ⟨⟨(m,g'),hm⟩,trivial,h2,dY m⟩
   | _=>exact hs
def zcw6 (E:Env) {G X β:Type} (I:G→St) (body:G→Option (G⊕X)) (kk:X→Option β) (R:Option β) (s:St):Prop:=∃ g',(zc6 body g').bind kk=R∧St.le E s (I g')
def zcg2 (E:Env) {G X β:Type} (I:G→St) (body:G→Option (G⊕X)) (kk:X→Option β) (R:Option β) (Q:Exit→St→Prop):Exit→St→Prop:=fun e s=>match e with|.normal=>zcw6 E I body kk R s|e=>Q e s
theorem zbI0 {G X β:Type} (I:G→St) (body:G→Option (G⊕X)) (kk:X→Option β) (R:Option β) (s:St):zcg2 E I body kk R Q .normal s=zcw6 E I body kk R s:=rfl
theorem zcl1 {G X β:Type} (I:G→St) (body:G→Option (G⊕X)) (kk:X→Option β) (R:Option β) (s:St):zcg2 E I body kk R Q .ret s=Q .ret s:=rfl
theorem zbY7 {G X β:Type} (I:G→St) (body:G→Option (G⊕X)) (kk:X→Option β) (R:Option β) (i:Nat) (s:St):zcg2 E I body kk R Q (.exit i) s=Q (.exit i) s:=rfl
theorem zcw7 {c:PC} {G X β:Type} {body:G→Option (G⊕X)} {kk:X→Option β} {r:β} (I:G→St) {k:Nat} (hK:E.k0=k) (h1:AW C E c (zcg2 E I body kk (some r) Q) st)
  (h:∀ x,kk x=some r→∀ g y,body g=some y→(∀ x',y=.inr x'→x'=x)→AW C E c (zbi4 E I y Q) (I g)):AW C E (.loop c) Q st:=by
 refine zcK7 (G:={ p:Nat×G // ∃ x,iter body p.1 p.2=some x∧kk x=some r }) (fun p=>I p.1.2) (fun _=>True) (fun p=>p.1.1) (fun ⟨⟨m,g⟩,x,hm,hx⟩ _=>?_) (h1.mono fun e s hs=>?_)
 ·cases m with
  | zero=>cases hm
  | succ m =>
   simp only [iter] at hm
   cases hb:body g with
   | none=>rw [hb] at hm; cases hm
   | some y =>
    rw [hb] at hm
    refine (h x hx g y hb fun x' e=>by subst e; exact dG hm).mono fun e s hs=>?_
    cases e with
    | normal =>
     obtain ⟨g',rfl,h2⟩:=hs
     exact ⟨⟨(m,g'),x,hm,hx⟩,trivial,h2,dY m⟩
    | _=>exact hs
 ·cases e with
  | normal =>
   obtain ⟨g',h2,h3⟩:=hs
   obtain ⟨x,h4,h5⟩:=zn1 h2
   obtain ⟨n,hn⟩:=zag8.1 h4
   exact ⟨⟨(n,g'),x,hn,h5⟩,trivial,h3⟩
  | _=>exact hs
theorem zbI1 {V:Type} (J:V→St) (P:V→Prop) (s:St):zaS9 E J P Q .normal s=zaD2 E J P s:=rfl
theorem zcl2 {V:Type} (J:V→St) (P:V→Prop) (s:St):zaS9 E J P Q .ret s=Q .ret s:=rfl
theorem zbY8 {V:Type} (J:V→St) (P:V→Prop) (i:Nat) (s:St):zaS9 E J P Q (.exit i) s=Q (.exit i) s:=rfl
theorem zbQ3 {V:Type} (id:Nat) (J:V→St) (P:V→Prop) (s:St):BlkJ E id J P Q .normal s=zaD2 E J P s:=rfl
theorem zcw8 {V:Type} (id:Nat) (J:V→St) (P:V→Prop) (s:St):BlkJ E id J P Q .ret s=Q .ret s:=rfl
theorem zcl3 {V:Type} (id:Nat) (J:V→St) (P:V→Prop) (i:Nat) (s:St):BlkJ E id J P Q (.exit i) s=if i=id then zaD2 E J P s else Q (.exit i) s:=rfl
theorem zbI2 {G X:Type} (I:G→St) (y:G⊕X) (s:St):zbi4 E I y Q .normal s=zbQ0 E I y s:=rfl
theorem zcl4 {G X:Type} (I:G→St) (y:G⊕X) (s:St):zbi4 E I y Q .ret s=Q .ret s:=rfl
theorem zbY9 {G X:Type} (I:G→St) (y:G⊕X) (i:Nat) (s:St):zbi4 E I y Q (.exit i) s=Q (.exit i) s:=rfl
theorem zbI3 {V:Type} (id:Nat) (J:V→St) (P:V→Prop) (s:St):zbQ2 E id J P Q .normal s=(zaD2 E J P s∨Q .normal s):=rfl
theorem zcl5 {V:Type} (id:Nat) (J:V→St) (P:V→Prop) (s:St):zbQ2 E id J P Q .ret s=Q .ret s:=rfl
theorem zbZ0 {V:Type} (id:Nat) (J:V→St) (P:V→Prop) (i:Nat) (s:St):zbQ2 E id J P Q (.exit i) s=if i=id then (zaD2 E J P s∨Q .normal s) else Q (.exit i) s:=rfl
attribute [go_sem] zbI3 zcl5 zbZ0 zbI0 zcl1 zbY7 zbI1 zcl2 zbY8 zbQ3 zcw8 zcl3 zbI2 zcl4 zbY9
end
def zaI0 {V G X:Type} (body:V→G→Option (G⊕X)) (fin:G→X):List V→G→Option X
 | [],g=>some (fin g)
 | e :: p,g=>match body e g with
  | none=>none
  | some (.inl g')=>zaI0 body fin p g'
  | some (.inr x)=>some x
noncomputable def rngO {V G X β:Type} (m:List V) (d:V) (body:V→G→Option (G⊕X)) (fin:G→X) (g0:G) (kk:X→Option β):Option β :=
 open Classical in if h:∃ r,∀ q:List Nat,q.Perm (List.range m.length)→(zaI0 body fin (q.map (m.getD · d)) g0).bind kk=some r then some (Classical.choose h) else none
theorem zcl6 {V G X β:Type} {m:List V} {d:V} {body:V→G→Option (G⊕X)} {fin:G→X} {g0:G} {kk:X→Option β} {r:β} (h:rngO m d body fin g0 kk=some r) :
  ∀ q:List Nat,q.Perm (List.range m.length)→(zaI0 body fin (q.map (m.getD · d)) g0).bind kk=some r:=by
 unfold rngO at h
 split at h
 ·rename_i hh
  cases h
  exact eQ hh
 ·cases h
theorem zcL7 {V G X β:Type} {m:List V} {d:V} {body:V→G→Option (G⊕X)} {fin:G→X} {g0:G} {kk:X→Option β} {r:β}
  (h:∀ q:List Nat,q.Perm (List.range m.length)→(zaI0 body fin (q.map (m.getD · d)) g0).bind kk=some r):rngO m d body fin g0 kk=some r:=by
 unfold rngO
 have hh:∃ r,∀ q:List Nat,q.Perm (List.range m.length)→(zaI0 body fin (q.map (m.getD · d)) g0).bind kk=some r:=⟨r,h⟩
 rw [jM hh]
 have h1:=eQ hh _ (kA _)
 rw [h _ (kA _)] at h1
 exact h1.symm
structure RngP {V G X β:Type} (m:List V) (d:V) (body:V→G→Option (G⊕X)) (fin:G→X) (kk:X→Option β) (r:β) (s:List Nat) (g:G):Prop where
 nd:s.Nodup
 lt:∀ i ∈ s,i < m.length
 ok:∀ q,(s++q).Perm (List.range m.length)→(zaI0 body fin (q.map (m.getD · d)) g).bind kk=some r
theorem zcL8 {n:Nat} {s:List Nat} (h1:s.Nodup) (h2:∀ i ∈ s,i < n):∃ q,(s++q).Perm (List.range n):=by
 refine ⟨(List.range n).filter (fun i=>!s.contains i),(gN ?_ iY).2 fun i=>?_⟩
 ·rw [List.nodup_append]
  exact ⟨h1,List.filter_sublist.nodup iY,fun a ha b hb e=>by subst e; simp at hb; exact hb.2 ha⟩
 ·simp only [dF,gX,eC,cN,jC,cG]
  constructor
  ·rintro (h|h)
   ·exact h2 i h
   ·exact h.1
  ·intro h
   by_cases c:i ∈ s
   ·exact .inl c
   ·exact .inr ⟨h,c⟩
theorem zcw9 {V G X β:Type} {m:List V} {d:V} {body:V→G→Option (G⊕X)} {fin:G→X} {kk:X→Option β} {r:β} {s:List Nat} {g:G} {i:Nat} (h:RngP m d body fin kk r s g) (hi:i < m.length) (hs:iE i ∉ s.map iE) :
  ∃ y,body (m.getD i d) g=some y∧(∀ g',y=.inl g'→RngP m d body fin kk r (s++[i]) g')∧∀ x,y=.inr x→kk x=some r:=by
 have hs':i ∉ s:=fun hh=>hs (cV.2 ⟨i,hh,rfl⟩)
 have nd:(s++[i]).Nodup:=by
  rw [List.nodup_append]
  exact ⟨h.nd,by simp,fun a ha b hb e=>by simp at hb; subst hb; subst e; exact hs' ha⟩
 have lt:∀ j ∈ s++[i],j < m.length:=fun j hj=>by
  rcases dF.1 hj with hj|hj
  ·exact h.lt j hj
  ·simp at hj; subst hj; exact hi
 obtain ⟨q,hq⟩:=zcL8 nd lt
 have hq0:=h.ok (i :: q) (by rw [dI] at hq; exact hq)
 simp only [dM,zaI0] at hq0
 cases hb:body (m.getD i d) g with
 | none=>rw [hb] at hq0; cases hq0
 | some y =>
  refine ⟨y,rfl,fun g' e=>⟨nd,lt,fun q hq=>?_⟩,fun x e=>?_⟩
  ·have:=h.ok (i :: q) (by rw [dI] at hq; exact hq)
   simp only [dM,zaI0,hb,e] at this
   exact this
  ·rw [hb,e] at hq0; exact hq0
theorem zcL9 {V G X β:Type} {m:List V} {d:V} {body:V→G→Option (G⊕X)} {fin:G→X} {kk:X→Option β} {r:β} {s:List Nat} {g:G} (h:RngP m d body fin kk r s g) (ha:∀ i,i < m.length→iE i ∈ s.map iE):kk (fin g)=some r:=by
 have:=h.ok [] (by
  rw [eN]
  refine (gN h.nd iY).2 fun i=>?_
  rw [eC]
  refine ⟨h.lt i,fun hi=>?_⟩
  obtain ⟨j,hj,e⟩:=cV.1 (ha i hi)
  simp only [iE,fS,A.int.injEq,fC,iF] at e
  have:j=i:=by omega
  exact this ▸ hj)
 exact this
def RngN {V G X β:Type} (E:Env) (I:List Nat→G→St) (m:List V) (d:V) (body:V→G→Option (G⊕X)) (fin:G→X) (kk:X→Option β) (r:β) (s:List Nat) (w:St):Prop :=
 ∃ i g',RngP m d body fin kk r (s++[i]) g'∧St.le E w (I (s++[i]) g')
def RngQ {V G X β:Type} (E:Env) (I:List Nat→G→St) (m:List V) (d:V) (body:V→G→Option (G⊕X)) (fin:G→X) (kk:X→Option β) (r:β) (s:List Nat) (Q:Exit→St→Prop):Exit→St→Prop:=fun e w=>match e with|.normal=>RngN E I m d body fin kk r s w|e=>Q e w
section
variable {C:Cx} {E:Env} {Q:Exit→St→Prop} {st:St}
theorem zcY7 {c:PC} {V G X β:Type} {m:List V} {d:V} {body:V→G→Option (G⊕X)} {fin:G→X} {g0:G} {kk:X→Option β} {r:β} (I:List Nat→G→St) (h:rngO m d body fin g0 kk=some r) (h0:St.le E st (I [] g0))
  (hb:∀ s g,RngP m d body fin kk r s g→AW C E c (RngQ E I m d body fin kk r s Q) (I s g)):AW C E (.loop c) Q st:=by
 refine zcf2 (G:=List Nat×G) (fun p=>I p.1 p.2) (fun p=>RngP m d body fin kk r p.1 p.2) (fun p=>m.length - p.1.length) ([],g0) ⟨List.nodup_nil,(fun i hi=>nomatch hi),fun q hq=>zcl6 h q hq⟩ h0 fun p hp=>?_
 refine (hb p.1 p.2 hp).mono fun e w hw=>?_
 cases e with
 | normal =>
  obtain ⟨i,g',h1,h2⟩:=hw
  refine ⟨(p.1++[i],g'),h1,h2,?_⟩
  have:(p.1++[i]).length≤m.length:=by
   have:=dZ h1.nd (l₂:=List.range m.length) fun j hj=>eC.2 (h1.lt j hj)
   simpa using this
  simp only [cI,List.length_cons,List.length_nil] at this ⊢
  omega
 | _=>exact hw
theorem zbQ4 {V G X β:Type} (I:List Nat→G→St) (m:List V) (d:V) (body:V→G→Option (G⊕X)) (fin:G→X) (kk:X→Option β) (r:β) (s:List Nat) (w:St):RngQ E I m d body fin kk r s Q .normal w=RngN E I m d body fin kk r s w:=rfl
theorem zcx0 {V G X β:Type} (I:List Nat→G→St) (m:List V) (d:V) (body:V→G→Option (G⊕X)) (fin:G→X) (kk:X→Option β) (r:β) (s:List Nat) (w:St):RngQ E I m d body fin kk r s Q .ret w=Q .ret w:=rfl
theorem zcl7 {V G X β:Type} (I:List Nat→G→St) (m:List V) (d:V) (body:V→G→Option (G⊕X)) (fin:G→X) (kk:X→Option β) (r:β) (s:List Nat) (i:Nat) (w:St):RngQ E I m d body fin kk r s Q (.exit i) w=Q (.exit i) w:=rfl
attribute [go_sem] zbQ4 zcx0 zcl7
end
def unfull:A→A
 | .full es=>.sl es
 | a=>a
theorem PFn.unfull {C:Cx} {f:FuncId} {az:List A} {r:A} (h:PFn C f (az.map unfull) r):PFn C f az r:=by
 intro w W vs hg hW hl ha
 refine h w W vs hg hW (by simpa using hl) fun i v a hv hx=>?_
 rw [cK] at hx
 cases hy:az[i]? with
 | none=>rw [hy] at hx; cases hx
 | some b =>
  rw [hy] at hx; cases hx
  have:=ha i v b hv hy
  cases b with
  | full es =>
   have h2:RepC w W v (.full es):=this
   cases h2 with
   | full a n es h=>exact h
  | _=>exact this
def unfullA:A→A
 | .full es=>.sl es
 | .agg cs=>.agg (zad5 cs)
 | a=>a
theorem PFn.unfullA {C:Cx} {f:FuncId} {az az':List A} {r:A} (h:PFn C f az' r) (e:az.map Ab.unfullA=az':=by first|rfl|(simp [Ab.unfullA,zad5,unfA]; done)):PFn C f az r:=by
 subst e
 intro w W vs hg hW hl ha
 refine h w W vs hg hW (by simpa using hl) fun i v a hv hx=>?_
 rw [cK] at hx
 cases hy:az[i]? with
 | none=>rw [hy] at hx; cases hx
 | some b =>
  rw [hy] at hx; cases hx
  have:=ha i v b hv hy
  cases b with
  | full es =>
   have h2:RepC w W v (.full es):=this
   exact h2.of_full.1
  | agg cs =>
   obtain ⟨us,hu,hl2,hr⟩:=this
   refine ⟨us,hu,by rw [zaQ7]; exact hl2,fun i u c hu' hc=>?_⟩
   rw [zaZ5] at hc
   obtain ⟨c0,hc0,rfl⟩:=cD.1 hc
   exact zcg1 (hr i u c0 hu' hc0)
  | _=>exact this
@[go_sem] theorem zdc0 (a b:Nat):Nat.min a b=min a b:=rfl
attribute [go_sem] Ab.unfull zaj2 fixL
attribute [go_sem] Int.cast_ofNat_Int dW gK fY Nat.min_self
def Imp (q p:Prop):Prop:=q→p
theorem Imp.and {q a b:Prop} (ha:a) (h:Imp q b):Imp q (a∧b):=fun hq=>⟨ha,h hq⟩
theorem Imp.refl {q:Prop}:Imp q q:=fun h=>h
theorem im {q p:Prop} (w:Imp q p:=by (simp only [go_sem,↓reduceIte,reduceCtorEq,Nat.reduceEqDiff,Nat.reduceAdd,Nat.reduceSub,Nat.reduceMul,Nat.reduceLeDiff,Nat.reduceLT,Int.reduceLE,Int.reduceLT,Int.reduceToNat,Int.reduceNeg]; (repeat ((with_reducible apply Imp.and); focus (first|assumption|omega|rfl|(simp; done)|(simp; omega)|(intros; simp_all; done)|grind))); exact Imp.refl)):Imp q p:=w
theorem i0 {q p:Prop} (w:Imp q p:=by (simp only [go_sem,↓reduceIte,reduceCtorEq,Nat.reduceEqDiff,Nat.reduceAdd,Nat.reduceSub,Nat.reduceMul,Nat.reduceLeDiff,Nat.reduceLT,Int.reduceLE,Int.reduceLT,Int.reduceToNat,Int.reduceNeg]; exact Imp.refl)):Imp q p:=w
theorem lw {p:Prop} (w:p:=by (simp only [go_sem,↓reduceIte,reduceCtorEq,Nat.reduceEqDiff,Nat.reduceAdd,Nat.reduceSub,Nat.reduceMul,Nat.reduceLeDiff,Nat.reduceLT,Int.reduceLE,Int.reduceLT,Int.reduceToNat,Int.reduceNeg]; first|(done)|trivial|(simp; done)|(repeat' (first|rfl|trivial|omega|(simp; done)|(simp; omega)|(congr 1; omega)|(congr 1; simp only [cI,dL,fK,fT]; omega)|apply And.intro)))):p:=w
section
variable {C:Cx} {E:Env} {Q:Exit→St→Prop} {st:St} {q:Prop}
theorem g_st {p:Prop} (h:q) (e:Imp q p:=by exact i0):p:=e h
theorem zr8 (h:q) (e:Imp q (Q .normal st):=by exact i0):AW C E .skip Q st:=zcK5 (e h)
theorem zcM0 (h:q) (e:Imp q (Q .normal st):=by exact i0):AW C E .label Q st:=zcu9 (e h)
theorem zO2 {id:Nat} (h:q) (e:Imp q (Q (.exit id) st):=by exact i0):AW C E (.exit id) Q st:=zcK6 (e h)
theorem zy1 (h:q) (e:Imp q (Q .ret st):=by exact i0):AW C E .ret Q st:=zcR4 (e h)
theorem zc0 {dr:List Nat} {ops:List POp} (hG:E.G=C.G) (h:q)
  (e:Imp q (arun C ops st fun s=>Q .normal (s.drop dr)):=by exact im):AW C E (.reg dr ops) Q st:=zcR5 hG (e h)
theorem zbr6 {dr:List Nat} {ops:List POp} (hm:C.P.follows .mixedOrders=true) (hG:E.G=C.G) (h:q)
  (e:Imp q (zaC9 C ops st fun s=>Q .normal (s.drop dr)):=by exact im):AW C E (.regd dr ops) Q st:=zcK9 hm hG (e h)
theorem zbI4 {dr:List Nat} {an:List (List Nat)} {ops:List POp} (hm:C.P.follows .mixedOrders=true) (hG:E.G=C.G) (h:q)
  (e:Imp q (zaj3 C an ops st [] fun s=>Q .normal (s.drop dr)):=by exact im):AW C E (.regm dr an ops) Q st:=zcL3 hm hG (e h)
theorem zA8 {f:FuncId} {d:Option Nat} {g:Option (Nat×Bool)} {gv:Bool} {ob:Prop} {args:List A} {rw:List (Nat×MS)} {ps:List POp} {st:St} {K:St→Prop} {r:A}
  (hf:gv=true→PFn C f args r) (h:q)
  (e:Imp q (arun C ps (st.app d (zI2 g gv r) (if r.scal then [] else rw)) K):=by exact im)
  (ho:gv=true→ob:=by intro; trivial) (hg:g=none∨(if r.scal then [] else rw)=[]∧r.isVV=true:=by first|exact .inl rfl|exact .inr ⟨rfl,rfl⟩|exact .inr ⟨jR _,rfl⟩):zaS8 C f d g gv ob args rw ps st K:=zcw0 hf (e h) ho hg
theorem zaz7 {f:FuncId} {d:Option Nat} {g:Option (Nat×Bool)} {gv:Bool} {ob:Prop} {args:List A} {rw:List (Nat×MS)} {ps:List POp} {st:St} {K:St→Prop} {r:A}
  (hf:gv=true→PFn C f args r) (h:q)
  (e:Imp q (zaC9 C ps (st.app d (zI2 g gv r) []) K):=by exact im)
  (ho:gv=true→ob:=by intro; trivial) (hg:g=none∨(if r.scal then [] else rw)=[]∧r.isVV=true:=by first|exact .inl rfl|exact .inr ⟨rfl,rfl⟩|exact .inr ⟨jR _,rfl⟩) (hn:(if r.scal then [] else rw)=[]:=by first|rfl|exact jR _):zaB8 C f d g gv ob args rw ps st K:=zck4 hf (e h) ho hg hn
theorem zaG1 {an:List (List Nat)} {f:FuncId} {d:Option Nat} {g:Option (Nat×Bool)} {gv:Bool} {ob:Prop} {args:List A} {rw:List (Nat×MS)} {ids:List Nat} {cok:Bool} {ps:List POp} {st:St} {log:List (List Nat×List Nat)} {K:St→Prop} {r:A}
  (hf:gv=true→PFn C f args r) (h:q)
  (e:Imp q (zaH9 (an.getD log.length []) 0 log ids ((if r.scal then [] else rw).map (·.1))=true∧cok=true∧zaj3 C an ps (st.app d (zI2 g gv r) (if r.scal then [] else rw)) (log++[(ids,(if r.scal then [] else rw).map (·.1))]) K):=by exact im)
  (ho:gv=true→ob:=by intro; trivial) (hg:g=none∨(if r.scal then [] else rw)=[]∧r.isVV=true:=by first|exact .inl rfl|exact .inr ⟨rfl,rfl⟩|exact .inr ⟨jR _,rfl⟩):zaB9 C an f d g gv ob args rw ids cok ps st log K:=zck6 hf (e h) ho hg
theorem zs2 {α:Type} {x:PX} {p q:PC} {b c:Bool} {X Y r:α} (hx:xv C.G st.slot x=.bool b) (hG:E.G=C.G) (h:(if c=true then X else Y)=r)
  (ht:b=true→X=r→AW C E p Q st) (hf:b=false→Y=r→AW C E q Q st) (e:b=c:=by first|rfl|(simp; done)|grind):AW C E (.cond x p q) Q st:=by
 subst e
 exact zbm2 hx hG (fun hb=>ht hb (by rw [bY hb] at h; exact h)) (fun hb=>hf hb (by rw [hb] at h; simpa using h))
theorem zcg3 {α:Type} {x:PX} {p q:PC} {V:Type} (J:V→St) (P:V→Prop) {b c:Bool} {X Y r:α} (hx:xv C.G st.slot x=.bool b) (hG:E.G=C.G) (h:(if c=true then X else Y)=r) (hk:∀ v,P v→Q .normal (J v))
  (ht:b=true→X=r→AW C E p (zaS9 E J P Q) st) (hf:b=false→Y=r→AW C E q (zaS9 E J P Q) st) (e:b=c:=by first|rfl|(simp; done)|grind):AW C E (.cond x p q) Q st:=by
 subst e
 exact zcL6 J P hx hG hk (fun hb=>ht hb (by rw [bY hb] at h; exact h)) (fun hb=>hf hb (by rw [hb] at h; simpa using h))
theorem zV4 {α:Type} {x r:α} {p:Prop} (h:some x=some r) (e:x=r→p:=by (intro e; subst e; first|done|rfl|trivial|(simp; done)|(repeat' (first|rfl|trivial|omega|(simp; done)|(simp; omega)|(refine cW A.sl (cW (List.map _) ?_); exact dO (by first|omega|(simp; omega)))|apply And.intro)))):p:=e (dG h)
theorem zcS3 {α:Type} {x r:α} {p:Prop} (h:x=r) (e:x=r→p:=by (intro e; subst e; first|done|rfl|trivial|(simp; done)|(repeat' (first|rfl|trivial|omega|(simp; done)|(simp; omega)|(refine cW A.sl (cW (List.map _) ?_); exact dO (by first|omega|(simp; omega)))|apply And.intro)))):p:=e h
theorem zS5 {V:Type} {J:V→St} {P:V→Prop} {s:St} {k:Nat} (hK:E.k0=k) (l:List (Nat×Nat)) (v:V) (h:P v)
  (hl:Le l s (J v)∧zaj2 k l (J v).nx=true:=by exact lw):zaD2 E J P s:=zbP9 hK v h l hl
theorem zX8 {G X:Type} {I:G→St} {g':G} {y:G⊕X} {s:St} {k:Nat} (hK:E.k0=k) (l:List (Nat×Nat)) (h:some (.inl g')=some y)
  (hl:Le l s (I g')∧zaj2 k l (I g').nx=true:=by exact lw):zbQ0 E I y s:=by
 cases h; exact zbQ1 hK l hl
theorem zcg4 {G X β:Type} {I:G→St} {body:G→Option (G⊕X)} {kk:X→Option β} {R:Option β} {g':G} {s:St} {k:Nat} (hK:E.k0=k) (l:List (Nat×Nat)) (h:(zc6 body g').bind kk=R)
  (hl:Le l s (I g')∧zaj2 k l (I g').nx=true:=by exact lw):zcw6 E I body kk R s :=
 ⟨g',h,St.le_of l hl.1 (by rw [hK]; exact hl.2)⟩
theorem zam9 {c:PC} {G X β:Type} {body:G→Option (G⊕X)} {g0:G} {kk:X→Option β} {r:β} (I:G→St) {k:Nat} (hK:E.k0=k) (l:List (Nat×Nat)) (h:(zc6 body g0).bind kk=some r)
  (hb:∀ x,kk x=some r→∀ g y,body g=some y→(∀ x',y=.inr x'→x'=x)→AW C E c (zbi4 E I y Q) (I g))
  (hle:Le l st (I g0)∧zaj2 k l (I g0).nx=true:=by exact lw):AW C E (.loop c) Q st:=by
 obtain ⟨x,hx,hk⟩:=zn1 h
 exact zbH9 I hK l hx hle (hb x hk)
theorem zcY8 {c:PC} {V G X β:Type} {m:List V} {d:V} {body:V→G→Option (G⊕X)} {fin:G→X} {g0:G} {kk:X→Option β} {r:β} (I:List Nat→G→St) {k:Nat} (hK:E.k0=k) (l:List (Nat×Nat)) (h:rngO m d body fin g0 kk=some r)
  (hb:∀ s g,RngP m d body fin kk r s g→AW C E c (RngQ E I m d body fin kk r s Q) (I s g))
  (hle:Le l st (I [] g0)∧zaj2 k l (I [] g0).nx=true:=by exact lw):AW C E (.loop c) Q st :=
 zcY7 I h (St.le_of l hle.1 (by rw [hK]; exact hle.2)) hb
theorem zcg5 {V G X β:Type} {m:List V} {d:V} {body:V→G→Option (G⊕X)} {fin:G→X} {kk:X→Option β} {r:β} {I:List Nat→G→St} {g':G} {y:G⊕X} {s:List Nat} {i:Nat} {w:St} {k:Nat} (hK:E.k0=k) (l:List (Nat×Nat)) (h:some (.inl g')=some y)
  (hP:∀ g',y=.inl g'→RngP m d body fin kk r (s++[i]) g') (hl:Le l w (I (s++[i]) g')∧zaj2 k l (I (s++[i]) g').nx=true:=by exact lw):RngN E I m d body fin kk r s w:=by
 cases h; exact ⟨i,g',hP g' rfl,St.le_of l hl.1 (by rw [hK]; exact hl.2)⟩
theorem zcS4 {α:Type} {r:α} (h:none=some r):AW C E .dead Q st:=by cases h
theorem zaG2 {x:PX} {p r:PC} (hx:xv C.G st.slot x=.bool true) (hG:E.G=C.G) (h:AW C E p Q st):AW C E (.cond x p r) Q st:=zbm2 hx hG (fun _=>h) (fun h=>by cases h)
theorem zbm6 {x:PX} {p r:PC} (hx:xv C.G st.slot x=.bool false) (hG:E.G=C.G) (h:AW C E r Q st):AW C E (.cond x p r) Q st:=zbm2 hx hG (fun h=>by cases h) (fun _=>h)
theorem g_gh {c:PC} (g:Gh) (h:q) (e:Imp q (AW C E c Q (st.gh g)):=by exact i0) (hok:st.ghOk g:=by exact lw):AW C E c Q st:=zcY3 g hok (e h)
theorem zZ9 {α:Type} {x r:α} {k:Nat} {st:St} {rs:List RX} {rl:List A} {ms':List (Nat×Row)} {k':Nat} (l:List (Nat×Nat)) (h:some x=some r)
  (e:x=r→zbh3 st rs∧zbp9 rl=true∧Le l ⟨zE4 0 (resL st rs),st.mem,st.nx⟩ ⟨zE4 0 rl,ms',k'⟩∧zaj2 k l k'=true:=by (intro e; subst e; exact lw)):zaF6 k st rs rl ms' k':=by
 obtain ⟨h1,h2,h3,h4⟩:=e (dG h)
 exact ⟨h1,h2,l,h3,h4⟩
@[go_sem] theorem zcG5 {α:Type} (a:Nat×α) (l m:List (Nat×α)) (n:Nat):look ((a :: l)++m) n=if a.1=n then some a.2 else look (l++m) n:=rfl
@[go_sem] theorem zcS5 (m:Nat→MS) (v:A) (vs ws:List A):zD0 m ((v :: vs)++ws)=frz m v :: zD0 m (vs++ws):=rfl
@[go_sem] theorem zcM1 (m:Nat→MS) (v:A) (vs ws:List A):zx0 m ((v :: vs)++ws)=(zaj0 m v∧zx0 m (vs++ws)):=rfl
@[go_sem] theorem zcG6 (v:A) (vs ws:List A):zz0 ((v :: vs)++ws)=zaj1 v++zz0 (vs++ws):=rfl
@[go_sem] theorem zcV4 (m:Nat→MS) (l:List (Nat×Nat)) (k:Nat) (v a:A) (vs ws az:List A):zaY8 m l k ((v :: vs)++ws) (a :: az)=(argM m l k v a∧zaY8 m l k (vs++ws) az):=rfl
@[go_sem] theorem zda9 (v a:A) (vs ws az:List A):fzM ((v :: vs)++ws) (a :: az)=(if a.hands then [] else zaj1 v)++fzM (vs++ws) az:=rfl
@[go_sem] theorem zcM2 (q:Nat×MS) (r m:List (Nat×MS)) (n:Nat):nxt n ((q :: r)++m)=nxt (if q.1=n then n+1 else n) (r++m):=rfl
@[go_sem] theorem zcM3 {α:Type} (m:List (Nat×α)) (n:Nat):look ([]++m) n=look m n:=rfl
theorem zB2 {f:FuncId} {d:Option Nat} {ob:Prop} {vals:List A} {ps:List POp} {st:St} {K:St→Prop} (l nl:List (Nat×Nat)) (ids:List Nat) {az:List A} {ms ms':List (Nat×Row)} {k k':Nat} {r:A}
  (hf:MFn C f az ms k r ms' k') (hnl:newL k st.nx (k' - k)=nl) (hids:ms.map (·.1)++(List.range (k' - k)).map (k+·)=ids) (h:q)
  (e:Imp q (arun C ps (st.app d (renR (l++nl) r) (zI1 st.m (fzM vals az)++zV2 (l++nl) ms' ids)) K):=by exact im)
  (hok:okM st.m st.nx l vals az ms k k':=by exact lw)
  (ho:ob:=by trivial) (hr:zaM1 r=true:=by rfl):zad8 C f d none true ob vals ps st K:=by
 subst hnl; subst hids
 exact zck2 l hf hok (e h) ho hr
theorem zcx1 (ms:List (Nat×Row)) (k:Nat):ms.map (·.1)++(List.range (k - k)).map (k+·)=ms.map (·.1):=by rw [gF]; exact eN _
theorem zbr7 {α:Type} {X:Option α} {dv v:α} {c:Bool} {f:FuncId} {d:Option Nat} {g:Option (Nat×Bool)} {gv:Bool} {ob:Prop} {vals:List A} {ps:List POp} {st:St} {K:St→Prop} (l:List (Nat×Nat)) (ids:List Nat) {az:List A} {ms ms':List (Nat×Row)} {k:Nat} {r:A}
  (hv:(if c=true then X else some dv)=some v) (hf:X=some v→MFn C f az ms k r ms' k) (hids:ms.map (·.1)=ids) (h:q)
  (ec:gv=c:=by first|rfl|(simp; done)|grind) (hs:dv=v→zaY9 st.m (zI1 st.m (fzM vals az)++zV2 l ms' ids):=by (intro e; subst e; simp only [go_sem,↓reduceIte,reduceCtorEq,Nat.reduceEqDiff,Nat.reduceAdd,Nat.reduceSub,Nat.reduceMul,Nat.reduceLeDiff,Nat.reduceLT,Int.reduceLE,Int.reduceLT,Int.reduceToNat,Int.reduceNeg]; first|(done)|trivial|(simp; done)|(repeat' (first|rfl|trivial|(simp; done)|apply And.intro))))
  (e:Imp q (arun C ps (st.app d (zI2 g gv (renR l r)) (zI1 st.m (fzM vals az)++zV2 l ms' ids)) K):=by exact im)
  (hok:okM st.m st.nx l vals az ms k k:=by exact lw)
  (ho:gv=true→ob:=by first|(intro; trivial)|(intro; simp_all; done)) (hr:zaM1 r=true:=by rfl) (hvv:(renR l r).isVV=true:=by rfl):zad8 C f d g gv ob vals ps st K:=by
 subst hids; subst ec
 refine zbY3 l (fun hg=>hf (zaD1 hg hv)) (fun _=>hok) ?_ ?_ ho hr hvv
 ·intro hg; unfold mwM; rw [zcx1]; exact hs (dG (zcO8 hg hv))
 ·unfold mwM; rw [zcx1]; exact e h
theorem zbQ5 {an:List (List Nat)} {f:FuncId} {d:Option Nat} {ob:Prop} {vals:List A} {vi:List Nat} {cok:Bool} {ps:List POp} {st:St} {log:List (List Nat×List Nat)} {K:St→Prop} (l nl:List (Nat×Nat)) (ids:List Nat) {az:List A} {ms ms':List (Nat×Row)} {k k':Nat} {r:A}
  (hf:MFn C f az ms k r ms' k') (hnl:newL k st.nx (k' - k)=nl) (hids:ms.map (·.1)++(List.range (k' - k)).map (k+·)=ids) (h:q)
  (e:Imp q (zaH9 (an.getD log.length []) 0 log vi ((zI1 st.m (fzM vals az)++zV2 (l++nl) ms' ids).map (·.1))=true∧cok=true∧zaj3 C an ps (st.app d (renR (l++nl) r) (zI1 st.m (fzM vals az)++zV2 (l++nl) ms' ids)) (log++[(vi,(zI1 st.m (fzM vals az)++zV2 (l++nl) ms' ids).map (·.1))]) K):=by exact im)
  (hok:okM st.m st.nx l vals az ms k k':=by exact lw)
  (ho:ob:=by trivial) (hr:zaM1 r=true:=by rfl):zat9 C an f d none true ob vals vi cok ps st log K:=by
 subst hnl; subst hids
 exact zbY5 l hf hok (e h) ho hr
theorem zbI5 {α β:Type} {x r:α} (h:some (Sum.inl x:α⊕β)=some (.inl r)):some x=some r:=by cases h; rfl
theorem zaQ8 {α β:Type} {x r:β} (h:some (Sum.inr x:α⊕β)=some (.inr r)):some x=some r:=by cases h; rfl
theorem zcg6 {α:Type} {c gv:Bool} {X Y r:α} {f:FuncId} {d:Option Nat} {g:Option (Nat×Bool)} {ob:Prop} {vals:List A} {ps:List POp} {st:St} {K:St→Prop} (h:(if c=true then X else Y)=r)
  (ht:gv=true→X=r→zad8 C f d g gv ob vals ps st K) (hf:gv=false→Y=r→zad8 C f d g gv ob vals ps st K) (ec:gv=c:=by first|rfl|(simp; done)|grind):zad8 C f d g gv ob vals ps st K:=by
 subst ec
 cases hg:gv with
 | true=>rw [hg] at ht; exact ht rfl (zaD1 hg h)
 | false=>rw [hg] at hf; exact hf rfl (zcO8 hg h)
theorem zbQ6 {gv:Bool} {f:FuncId} {d:Option Nat} {g:Option (Nat×Bool)} {ob:Prop} {vals:List A} {ps:List POp} {st:St} {K:St→Prop} (hc:gv=true) (l nl:List (Nat×Nat)) (ids:List Nat) {az:List A} {ms ms':List (Nat×Row)} {k k':Nat} {r:A}
  (hf:MFn C f az ms k r ms' k') (hnl:newL k st.nx (k' - k)=nl) (hids:ms.map (·.1)++(List.range (k' - k)).map (k+·)=ids) (h:q)
  (e:Imp q (arun C ps (st.app d (zI2 g true (renR (l++nl) r)) (zI1 st.m (fzM vals az)++zV2 (l++nl) ms' ids)) K):=by exact im)
  (hok:okM st.m st.nx l vals az ms k k':=by exact lw)
  (ho:ob:=by first|trivial|(simp_all; done)) (hr:zaM1 r=true:=by rfl) (hvv:(renR (l++nl) r).isVV=true:=by rfl):zad8 C f d g gv ob vals ps st K:=by
 subst hnl; subst hids; subst hc
 exact ⟨l,az,ms,k,r,ms',k',fun _=>⟨ho,hf,hok,trivial⟩,(fun h=>nomatch h),.inr hvv,zaM2 hr,e h⟩
theorem zcg7 (m:Nat→MS) (nx:Nat) (vals:List A):mwM m ([]++newL 0 nx (0 - 0)) vals [] [] [] 0 0=[]:=by cases vals <;> rfl
theorem zbQ7 {gv:Bool} {f:FuncId} {d:Option Nat} {g:Option (Nat×Bool)} {ob:Prop} {vals:List A} {ps:List POp} {st:St} {K:St→Prop} (hc:gv=false) (dv:A) (h:q)
  (e:Imp q (arun C ps (st.app d (zI2 g false dv) []) K):=by exact im)
  (hd:renR [] dv=dv:=by rfl) (hn:zaM1 dv=true:=by rfl) (hvv:dv.isVV=true:=by rfl):zad8 C f d g gv ob vals ps st K:=by
 subst hc
 have hd':renR ([]++newL 0 st.nx (0 - 0)) dv=dv:=hd
 refine ⟨[],[],[],0,dv,[],0,(fun h=>nomatch h),fun _=>⟨rfl,?_⟩,.inr ?_,zaM2 hn,?_⟩
 ·rw [zcg7]; trivial
 ·rw [hd']; exact hvv
 ·rw [zcg7,hd']; exact e h
end
end Ab
end Go.Proofs.YtenebhlnfjcffaaGreatDoor
