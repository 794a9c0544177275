import Derived.Test.YtogpinppgncpmaaGreatDoorAb20
namespace Go.Proofs.YtogpinppgncpmaaGreatDoor
namespace Ab
set_option linter.unusedSimpArgs false
set_option linter.unusedVariables false
section
variable {C:Cx} {E:Env}
def FSt (ps:List POp) (vs:Nat→A) (mws:Nat→List (Nat×MS)) (s:S) (f:Nat→Bool):Nat→S
  | 0=>s
  | n+1=>match ps[n]? with
    | some p=>if f n then ⟨setF (FSt ps vs mws s f n).fr p.dst (vs n),setM (FSt ps vs mws s f n).mem (mws n)⟩ else FSt ps vs mws s f n
    | none=>FSt ps vs mws s f n
theorem zW2 {y:Nat}:∀ {mw:List (Nat×MS)} {m:Nat→MS},y ∉ mw.map (·.1)→setM m mw y=m y
  | [],_,_=>rfl
  | q :: mw,m,h=>by
    simp only [setM]
    rw [zW2 fun hh=>h (.tail _ hh)]
    refine bU fun e=>h ?_
    rw [e]; exact .head _
theorem zbJ6 {y:Nat}:∀ {mw:List (Nat×MS)} {m m2:Nat→MS},y ∈ mw.map (·.1)→setM m mw y=setM m2 mw y
  | q :: mw,m,m2,h=>by
    simp only [setM]
    by_cases h2:y ∈ mw.map (·.1)
    · exact zbJ6 h2
    · rw [zW2 h2,zW2 h2]
      rcases cF.1 h with rfl|h
      · simp
      · exact absurd h h2
theorem zbN3 {ps:List POp} {vs:Nat→A} {mws:Nat→List (Nat×MS)} {s:S} {f f':Nat→Bool}:∀ n,(∀ i,i < n→f i=f' i)→FSt ps vs mws s f n=FSt ps vs mws s f' n
  | 0,_=>rfl
  | n+1,h=>by
    have ih:=zbN3 (ps:=ps) (vs:=vs) (mws:=mws) (s:=s) n fun i hi=>h i (by omega)
    simp only [FSt,ih,h n (by omega)]
theorem zaX6 (f:Nat→A) (d:Option Nat) (v:A) (t:Nat):setF f d v t=if d=some t then v else f t:=rfl
theorem zcH7 {ps:List POp} {vs:Nat→A} {mws:Nat→List (Nat×MS)} {s:S} {f:Nat→Bool} {j t:Nat} (h1:∀ i q,i < j→ps[i]? = some q→q.dst=some t→f i=true) (h2:∀ i q,j≤i→ps[i]? = some q→q.dst=some t→f i=false) :
    ∀ n,(FSt ps vs mws s f n).fr t=(FSt ps vs mws s (fun _=>true) (min n j)).fr t
  | 0=>by simp [FSt]
  | n+1=>by
    have ih:=zcH7 (vs:=vs) (mws:=mws) (s:=s) h1 h2 n
    by_cases hn:n < j
    · rw [show min (n+1) j=n+1 by omega]
      rw [show min n j=n by omega] at ih
      simp only [FSt]
      cases hq:ps[n]? with
      | none=>exact ih
      | some q =>
        simp only [cB]
        by_cases hd:q.dst=some t
        · rw [h1 n q hn hq hd]; simp [zaX6,hd]
        · rw [zaX6,bU hd]
          split
          · simp only [zaX6,bU hd]; exact ih
          · exact ih
    · rw [show min (n+1) j=j by omega]
      rw [show min n j=j by omega] at ih
      simp only [FSt]
      cases hq:ps[n]? with
      | none=>exact ih
      | some q =>
        simp only []
        by_cases hd:q.dst=some t
        · rw [h2 n q (by omega) hq hd]; simpa using ih
        · split
          · simp only [zaX6,bU hd]; exact ih
          · exact ih
theorem zcy9 {ps:List POp} {vs:Nat→A} {mws:Nat→List (Nat×MS)} {s:S} {f:Nat→Bool} {j y:Nat} (h1:∀ i q,i < j→ps[i]? = some q→y ∈ (mws i).map (·.1)→f i=true) (h2:∀ i q,j≤i→ps[i]? = some q→y ∈ (mws i).map (·.1)→f i=false) :
    ∀ n,(FSt ps vs mws s f n).mem y=(FSt ps vs mws s (fun _=>true) (min n j)).mem y
  | 0=>by simp [FSt]
  | n+1=>by
    have ih:=zcy9 (vs:=vs) (mws:=mws) (s:=s) h1 h2 n
    by_cases hn:n < j
    · rw [show min (n+1) j=n+1 by omega]
      rw [show min n j=n by omega] at ih
      simp only [FSt]
      cases hq:ps[n]? with
      | none=>exact ih
      | some q =>
        simp only [cB]
        by_cases hd:y ∈ (mws n).map (·.1)
        · rw [h1 n q hn hq hd]; simp only [cB]; exact zbJ6 hd
        · rw [zW2 hd]
          split
          · show setM _ _ _=_
            rw [zW2 hd]; exact ih
          · exact ih
    · rw [show min (n+1) j=j by omega]
      rw [show min n j=j by omega] at ih
      simp only [FSt]
      cases hq:ps[n]? with
      | none=>exact ih
      | some q =>
        simp only []
        by_cases hd:y ∈ (mws n).map (·.1)
        · rw [h2 n q (by omega) hq hd]; simpa using ih
        · split
          · show setM _ _ _=_
            rw [zW2 hd]; exact ih
          · exact ih
theorem zcY4 {ps:List POp} {vs:Nat→A} {mws:Nat→List (Nat×MS)} {s:S} {f:Nat→Bool} {j:Nat} {p:POp} (hp:ps[j]? = some p) (hf:f j=false) (f':Nat→Bool) (hj:f' j=true) (hf':∀ i,i≠j→f' i=f i)
    (hc:∀ i q,j < i→ps[i]? = some q→f i=true→conf p q=false) (hm:∀ i q,j < i→ps[i]? = some q→f i=true→∀ y ∈ (mws j).map (·.1),y ∉ (mws i).map (·.1)) :
    ∀ n,(∀ t,(FSt ps vs mws s f' n).fr t=if j < n∧p.dst=some t then vs j else (FSt ps vs mws s f n).fr t)∧∀ y,(FSt ps vs mws s f' n).mem y=if j < n then setM (FSt ps vs mws s f n).mem (mws j) y else (FSt ps vs mws s f n).mem y
  | 0=>by simp [FSt]
  | n+1=>by
    obtain ⟨ih,ih2⟩:=zcY4 (vs:=vs) (mws:=mws) (s:=s) hp hf f' hj hf' hc hm n
    by_cases hn:n=j
    · subst hn
      simp only [FSt,hp,hj,hf,cB,bS,cA]
      refine ⟨fun t=>?_,fun y=>?_⟩
      · rw [zaX6]
        by_cases hd:p.dst=some t
        · simp [hd]
        · simp only [hd,cA,and_false]
          have:=ih t
          simpa [hd] using this
      · rw [bV (dW n)]
        have e:(FSt ps vs mws s f' n).mem=(FSt ps vs mws s f n).mem:=funext fun z=>by have:=ih2 z; simpa using this
        rw [e]
    · have hlt:j < n+1 ↔ j < n:=by omega
      simp only [FSt,hf' n hn,hlt]
      cases hq:ps[n]? with
      | none=>exact ⟨by simpa using ih,by simpa using ih2⟩
      | some q =>
        simp only []
        split
        · rename_i hfn
          refine ⟨fun t=>?_,fun y=>?_⟩
          · simp only [zaX6,ih t]
            by_cases hd:q.dst=some t
            · simp only [hd,cB]
              by_cases hjn:j < n
              · have:=hc n q hjn hq hfn
                unfold conf at this
                by_cases hpd:p.dst=some t
                · simp [hpd,hd] at this
                · simp [hpd]
              · simp [hjn]
            · simp [hd]
          · by_cases hjn:j < n
            · simp only [hjn,cB] at ih2 ⊢
              have hdj:=hm n q hjn hq hfn
              by_cases h1:y ∈ (mws n).map (·.1)
              · rw [zW2 (mw:=mws j) fun hh=>hdj y hh h1]
                exact zbJ6 h1
              · rw [zW2 h1,ih2 y]
                by_cases h2:y ∈ (mws j).map (·.1)
                · exact zbJ6 h2
                · rw [zW2 h2,zW2 h2,zW2 h1]
            · simp only [hjn,cA] at ih2 ⊢
              have e:(FSt ps vs mws s f' n).mem=(FSt ps vs mws s f n).mem:=funext ih2
              rw [e]
        · exact ⟨ih,ih2⟩
theorem zaJ3:∀ {x y:List Nat},disj x y=true→∀ z ∈ x,z ∉ y
  | a :: x,y,h,z,hz=>by
    simp only [disj,bT,cS,List.contains_eq_mem,cW] at h
    rcases cF.1 hz with rfl|hz
    · exact h.1
    · exact zaJ3 h.2 z hz
theorem zbN4 {an:List Nat}:∀ {log:List (List Nat×List Nat)} {i:Nat} {r w:List Nat},zba7 an i log r w=true→∀ n q,log[n]? = some q→i+n ∉ an→disj q.2 r=true∧disj q.2 w=true∧disj w q.1=true
  | x :: log,i,r,w,h,n,q,hq,hn=>by
    simp only [zba7,bT,dQ] at h
    cases n with
    | zero =>
      simp at hq; subst hq
      rcases h.1 with h1|h1
      · exact absurd (by simpa using h1) hn
      · exact ⟨h1.1.1,h1.1.2,h1.2⟩
    | succ n=>exact zbN4 h.2 n q (by simpa using hq) (by rwa [show i+1+n=i+(n+1) by omega])
theorem zbN5 {an:List (List Nat)} {K:St→Prop}:∀ (ps:List POp) (st:St) (log:List (List Nat×List Nat)),zaz7 C an ps st log K→∃ (vs:Nat→A) (mws:Nat→List (Nat×MS)) (sts:Nat→St),K (sts ps.length)∧sts 0=st ∧
    ∀ j p,ps[j]? = some p→sts (j+1)=(sts j).app p.dst (vs j) (mws j)∧mwOk (sts j).nx (mws j)∧aopS C p (sts j).toS (sts j).nx (fun v mw=>v=vs j∧mw=mws j)∧zaX3 (zs8 C (sts j) p.xs)=true ∧
      (∀ i q,i < log.length→log[i]? = some q→i ∉ an.getD (log.length+j) []→disj q.2 (zE7 (zs8 C (sts j) p.xs))=true∧disj q.2 ((mws j).map (·.1))=true∧disj ((mws j).map (·.1)) q.1=true) ∧
      (∀ i q,i < j→ps[i]? = some q→log.length+i ∉ an.getD (log.length+j) []→disj ((mws i).map (·.1)) (zE7 (zs8 C (sts j) p.xs))=true∧disj ((mws i).map (·.1)) ((mws j).map (·.1))=true∧disj ((mws j).map (·.1)) (zE7 (zs8 C (sts i) q.xs))=true)
  | [],st,log,h=>⟨fun _=>.any,fun _=>[],fun _=>st,h,rfl,fun j p hp=>by simp at hp⟩
  | p :: ps,st,log,h=>by
    obtain ⟨v,mw,⟨hmw,hi,hcap,hrest⟩,h4⟩:=zcY2 (zdn3 h)
    obtain ⟨vs,mws,sts,h5,h6,h7⟩:=zbN5 ps _ _ hrest
    refine ⟨fun i=>match i with|0=>v|i+1=>vs i,fun i=>match i with|0=>mw|i+1=>mws i,fun i=>match i with|0=>st|i+1=>sts i,h5,rfl,fun j q hq=>?_⟩
    cases j with
    | zero =>
      simp at hq; subst hq
      refine ⟨h6,hmw,h4,hcap,fun i q hi2 hq hn=>?_,fun i q hi2=>by omega⟩
      exact zbN4 hi i q hq (by rw [dR]; exact hn)
    | succ j =>
      obtain ⟨g1,g2,g3,g4,g5,g6⟩:=h7 j q (by simpa using hq)
      simp only [bX,List.length_cons,List.length_nil,dR] at g5 g6
      refine ⟨g1,g2,g3,g4,fun i x hi2 hx hn=>?_,fun i x hi2 hx hn=>?_⟩
      · exact g5 i x (by omega) (by rw [dJ hi2]; exact hx) (by rwa [show log.length+1+j=log.length+(j+1) by omega])
      · cases i with
        | zero =>
          simp at hx; subst hx
          have:=g5 log.length (zE7 (zs8 C st p.xs),mw.map (·.1)) (by omega) (by rw [fA (dD _)]; simp) (by rw [show log.length+1+j=log.length+(j+1) by omega]; exact hn)
          exact this
        | succ i =>
          exact g6 i x (by omega) (by simpa using hx) (by rw [show log.length+1+j=log.length+(j+1) by omega,show log.length+1+i=log.length+(i+1) by omega]; exact hn)
theorem zbN6 {st:St} (xs:List PX):zs8 C st xs=zM2 C st.toS.fr xs:=zbu4 xs
theorem zcz0 {os:Array Oper} {ps:List POp} {s0:S} {vs:Nat→A} {mws:Nat→List (Nat×MS)} {sts:Nat→St} {K:St→Prop} {Q:Exit→Act→World→Prop} (hG:E.G=C.G) (hr:ROk C E.N os 0 ps) (hso:POp.sortOk os.toList 0=true)
    (hco:zbz0 ps (ancs [] (os.toList.map zF1))=true) (hK:K (sts ps.length))
    (hst:∀ j,j≤ps.length→(sts j).toS=FSt ps vs mws s0 (fun _=>true) j)
    (hv:∀ j p,ps[j]? = some p→mwOk (sts j).nx (mws j)∧aopS C p (sts j).toS (sts j).nx (fun v mw=>v=vs j∧mw=mws j)∧zaX3 (zs8 C (sts j) p.xs)=true ∧
      (∀ i q,i < j→ps[i]? = some q→i ∉ (ancs [] (os.toList.map zF1)).getD j []→disj ((mws i).map (·.1)) (zE7 (zs8 C (sts j) p.xs))=true∧disj ((mws i).map (·.1)) ((mws j).map (·.1))=true∧disj ((mws j).map (·.1)) (zE7 (zs8 C (sts i) q.xs))=true))
    (hnx:∀ i j,i≤j→(sts i).nx≤(sts j).nx) (hnx0:∀ y,(sts 0).nx≤y→s0.mem y=.fresh) (hkey:∀ j p y,ps[j]? = some p→y ∈ (mws j).map (·.1)→y < (sts (j+1)).nx)
    (hQ:∀ st' a' w',K st'→Sat E st'.toS a' w'→Q .normal a' w') :
    ∀ (fuel:Nat) (listed:Array Bool) (a:Act) (w:World),listed.size=os.size→Sat E (FSt ps vs mws s0 (fun i=>listed.getD i false) ps.length) a w →
      (∀ j o,os[j]? = some o→listed.getD j false=true→∀ i ∈ zF1 o,listed.getD i false=true)→left (fun i=>listed.getD i false) os.size≤fuel →
      wpAny C.P .any os Q fuel listed a w:=by
  have hlen:ps.length=os.size:=by have:=hr.size; omega
  have hdone:∀ (listed:Array Bool) (a:Act) (w:World),Sat E (FSt ps vs mws s0 (fun i=>listed.getD i false) ps.length) a w→(∀ i,i < os.size→listed.getD i false=true)→Q .normal a w:=by
    intro listed a w hs hall
    refine hQ _ a w hK ?_
    rw [hst ps.length (dD _),zbN3 (f:=fun _=>true) (f':=fun i=>listed.getD i false) ps.length fun i hi=>(hall i (by omega)).symm]
    exact hs
  have hready:∀ (listed:Array Bool),listed.size=os.size→Region.ready .any os listed=[]→∀ i,i < os.size→listed.getD i false=true:=by
    intro listed hsz hr0 i
    induction i using Nat.strongRecOn with
    | _ i ih =>
      intro hi
      cases hl:listed.getD i false with
      | true=>rfl
      | false =>
        have:i ∈ Region.ready .any os listed:=by
          rw [mem_ready]
          refine ⟨?_,os[i],by simp [hi],fun e he hb=>?_⟩
          · have h1:i < listed.size:=by omega
            simp only [Array.getD,h1,jS] at hl ⊢; exact hl
          · have h2:e.on ∈ zF1 os[i]:=by
              simp only [zF1,cQ,fH]
              exact ⟨e,⟨by simpa using he,hb⟩,rfl⟩
            have h3:=zbe8 os.toList 0 hso i os[i] (by simp [hi]) e.on h2
            exact ih e.on (by omega) (by omega)
        rw [hr0] at this; cases this
  intro fuel
  induction fuel with
  | zero =>
    intro listed a w hsz hs hcl hle
    have hall:=zbz3 (f:=fun i=>listed.getD i false) os.size (by omega)
    refine ⟨?_,hdone listed a w hs hall⟩
    cases hrd:Region.ready .any os listed with
    | nil=>rfl
    | cons i rs =>
      have:i ∈ Region.ready .any os listed:=by rw [hrd]; simp
      rw [mem_ready] at this
      obtain ⟨h1,o,ho,_⟩:=this
      have hi:=(dH.1 ho).1
      have:=hall i hi
      have h2:i < listed.size:=by omega
      simp only [Array.getD,h2,jS] at h1 this
      rw [this] at h1; cases h1
  | succ fuel ih =>
    intro listed a w hsz hs hcl hle
    refine ⟨fun hr0=>hdone listed a w hs (hready listed hsz hr0),fun i hi=>?_⟩
    rw [mem_ready] at hi
    obtain ⟨hl,o,ho,hed⟩:=hi
    have hlt:=(dH.1 ho).1
    have hlt2:i < listed.size:=by omega
    have hl:listed.getD i false=false:=by
      simp only [Array.getD,hlt2,jS] at hl ⊢; exact hl
    obtain ⟨p,hp,hpo⟩:=hr.at (j:=i) (by rw [dR]; exact ho)
    have hedge:∀ k ∈ zF1 o,listed.getD k false=true:=by
      intro k hk
      simp only [zF1,cQ,fH] at hk
      obtain ⟨e,⟨he,hb⟩,rfl⟩:=hk
      exact hed e (by simpa using he) hb
    have hset:(listed.setIfInBounds i true).getD i false=true:=by simp [Array.getD,hlt2]
    have hsetne:∀ k,k≠i→(listed.setIfInBounds i true).getD k false=listed.getD k false:=fun k hk=>getD_set_ne false (Ne.symm hk)
    have hcl':∀ j o,os[j]? = some o→(listed.setIfInBounds i true).getD j false=true→∀ k ∈ zF1 o,(listed.setIfInBounds i true).getD k false=true:=by
      intro j o' ho' hj k hk
      by_cases hji:j=i
      · subst hji
        rw [ho] at ho'; cases ho'
        exact getD_set_true (hedge k hk)
      · rw [hsetne j hji] at hj
        exact getD_set_true (hcl j o' ho' hj k hk)
    have hanc:∀ j,(listed.setIfInBounds i true).getD j false=true→∀ k ∈ (ancs [] (os.toList.map zF1)).getD j [],(listed.setIfInBounds i true).getD k false=true :=
      zaS6 (D:=fun j=>(listed.setIfInBounds i true).getD j false=true) _ [] (fun j e he hD=>by
        simp only [cO,cG] at he
        obtain ⟨o',ho',rfl⟩:=he
        exact hcl' j o' (by simpa using ho') (by simpa using hD)) (fun j _ k hk=>by simp at hk)
    have hanc0:∀ j,listed.getD j false=true→∀ k ∈ (ancs [] (os.toList.map zF1)).getD j [],listed.getD k false=true :=
      zaS6 (D:=fun j=>listed.getD j false=true) _ [] (fun j e he hD=>by
        simp only [cO,cG] at he
        obtain ⟨o',ho',rfl⟩:=he
        exact hcl j o' (by simpa using ho') (by simpa using hD)) (fun j _ k hk=>by simp at hk)
    have hbef:∀ k q,k < i→ps[k]? = some q→conf q p=true→listed.getD k false=true:=by
      intro k q hk hq hc
      have:=hanc i hset k (zaO8 hco hk hq hp hc)
      rwa [hsetne k (by omega)] at this
    have haft:∀ k q,i < k→ps[k]? = some q→conf p q=true→listed.getD k false=false:=by
      intro k q hk hq hc
      cases hlk:listed.getD k false with
      | false=>rfl
      | true =>
        have:=hanc0 k hlk i (zaO8 hco hk hp hq hc)
        rw [hl] at this; cases this
    have hbefM:∀ k,k < i→listed.getD k false=false→k ∉ (ancs [] (os.toList.map zF1)).getD i []:=fun k hk hlk hh=>by
      have:=hanc i hset k hh
      rw [hsetne k (by omega),hlk] at this; cases this
    have haftM:∀ k,i < k→listed.getD k false=true→i ∉ (ancs [] (os.toList.map zF1)).getD k []:=fun k hk hlk hh=>by
      have:=hanc0 k hlk i hh
      rw [hl] at this; cases this
    obtain ⟨hmw,haop,hcap,hind⟩:=hv i p hp
    have hil:i < ps.length:=(cD.1 hp).1
    have hsi:=hst i (iN hil)
    have hrow:∀ y,(y ∈ zE7 (zs8 C (sts i) p.xs)∨y ∈ (mws i).map (·.1))→(FSt ps vs mws s0 (fun k=>listed.getD k false) ps.length).mem y=(sts i).toS.mem y:=fun y hy=>by
      rw [hsi]
      have:=zcy9 (ps:=ps) (vs:=vs) (mws:=mws) (s:=s0) (f:=fun k=>listed.getD k false) (j:=i) (y:=y) (fun k q hk hq hyk=>?_) (fun k q hk hq hyk=>?_) ps.length
      · rw [this,iT (iN hil)]
      · cases hlk:listed.getD k false with
        | true=>rfl
        | false =>
          obtain ⟨g1,g2,g3⟩:=hind k q hk hq (hbefM k hk hlk)
          rcases hy with hy|hy
          · exact absurd hy (zaJ3 g1 y hyk)
          · exact absurd hy (zaJ3 g2 y hyk)
      · cases hlk:listed.getD k false with
        | false=>rfl
        | true =>
          have hki:i < k:=by
            rcases Nat.lt_or_eq_of_le hk with h|h
            · exact h
            · subst h; rw [hl] at hlk; cases hlk
          obtain ⟨g0,g00,g000,gg⟩:=hv k q hq
          obtain ⟨g1,g2,g3⟩:=gg i p hki hp (haftM k hki hlk)
          rcases hy with hy|hy
          · exact absurd hy (zaJ3 g3 y hyk)
          · exact absurd hyk (zaJ3 g2 y hy)
    have hslot:∀ t ∈ p.rds,(sts i).toS.fr t=(FSt ps vs mws s0 (fun k=>listed.getD k false) ps.length).fr t:=fun t ht=>by
      rw [hsi]
      rw [zcH7 (j:=i) (t:=t) (f:=fun k=>listed.getD k false) (fun k q hk hq hd=>hbef k q hk hq (zaX2 hd (.inl ht)).1) (fun k q hk hq hd=>?_) ps.length,iT (iN hil)]
      by_cases hki:k=i
      · subst hki; exact hl
      · exact haft k q (by omega) hq ((zaX2 hd (.inl ht)).2 ht)
    have haop2:=zcy8 (s2:=FSt ps vs mws s0 (fun k=>listed.getD k false) ps.length) hslot (fun y hy=>(hrow y (.inl (by rw [zbN6]; exact hy))).symm) (fun y hy=>(hrow y (.inr hy)).symm) (fun f caps vals _ hvals c hc=>by
      rw [zbN6,hvals] at hcap
      exact zbE4 hcap c hc) haop
    have hfin:∃ id,(FSt ps vs mws s0 (fun k=>listed.getD k false) ps.length).mem id=.fresh∧aopS C p (FSt ps vs mws s0 (fun k=>listed.getD k false) ps.length) id (fun v mw=>v=vs i∧mw=mws i):=by
      rcases zdn4 haop2 with h1|h1
      · exact ⟨_,by rw [hrow _ (.inr h1)]; exact (sts i).m_nx,haop2⟩
      · refine ⟨(sts ps.length).nx,?_,h1 _ (hnx i _ (iN hil))⟩
        rw [zcy9 (j:=0) (f:=fun k=>listed.getD k false) (fun k q hk=>by omega) (fun k q _ hq hyk=>by
          have h2:=hkey k q _ hq hyk
          have h3:=hnx (k+1) ps.length (cD.1 hq).1
          omega) ps.length]
        simp only [Nat.min_zero,FSt]
        exact hnx0 _ (hnx 0 _ (fP _))
    obtain ⟨id,hid,haop3⟩:=hfin
    obtain ⟨W,μ,hs⟩:=hs
    have key:=zbM4 hs hG hid hpo haop3 (Q:=Q) (k:=wpAny C.P .any os Q fuel (listed.setIfInBounds i true)) (fun v mw a' w' hvm hs'=>by
      obtain ⟨rfl,rfl⟩:=hvm
      refine ih _ a' w' (by simpa using hsz) ?_ hcl' ?_
      · obtain ⟨e1,e2⟩:=zcY4 (vs:=vs) (mws:=mws) (s:=s0) (f:=fun k=>listed.getD k false) hp hl (fun k=>(listed.setIfInBounds i true).getD k false) hset hsetne (fun k q hk hq hfk=>by
          cases hc:conf p q with
          | false=>rfl
          | true=>have:=haft k q hk hq hc; exact absurd (this.symm.trans hfk) (by simp)) (fun k q hk hq hfk y hy hyk=>by
          obtain ⟨g0,g00,g000,gg⟩:=hv k q hq
          obtain ⟨g1,g2,g3⟩:=gg i p hk hp (haftM k hk hfk)
          exact zaJ3 g2 y hy hyk) ps.length
        have e:FSt ps vs mws s0 (fun k=>(listed.setIfInBounds i true).getD k false) ps.length=⟨setF (FSt ps vs mws s0 (fun k=>listed.getD k false) ps.length).fr p.dst (vs i),setM (FSt ps vs mws s0 (fun k=>listed.getD k false) ps.length).mem (mws i)⟩:=by
          have h1:(FSt ps vs mws s0 (fun k=>(listed.setIfInBounds i true).getD k false) ps.length).fr=setF (FSt ps vs mws s0 (fun k=>listed.getD k false) ps.length).fr p.dst (vs i):=funext fun t=>by
            rw [e1 t,zaX6]; simp only [hil,gD]
          have h2:(FSt ps vs mws s0 (fun k=>(listed.setIfInBounds i true).getD k false) ps.length).mem=setM (FSt ps vs mws s0 (fun k=>listed.getD k false) ps.length).mem (mws i):=funext fun y=>by
            rw [e2 y,bV hil]
          rw [← h1,← h2]
        rw [e]; exact hs'
      · have:=zbN0 (f:=fun k=>listed.getD k false) (f':=fun k=>(listed.setIfInBounds i true).getD k false) (j:=i) hl hset hsetne os.size
        rw [bV hlt] at this
        omega)
    simp only [wpOp,ho]
    split at key
    · rename_i hw; rw [bV hw]; exact .inl key
    · rename_i hw; rw [bU hw]; exact key
theorem zbN7:∀ (mw:List (Nat×MS)) (nx:Nat),nx≤nxt nx mw
  | [],nx=>dD _
  | q :: mw,nx=>by
    simp only [nxt]
    refine eA ?_ (zbN7 mw _)
    split <;> omega
theorem zcY5:∀ {mw:List (Nat×MS)} {nx:Nat},mwOk nx mw→∀ y ∈ mw.map (·.1),y < nxt nx mw
  | q :: mw,nx,h,y,hy=>by
    obtain ⟨h1,h2,h3⟩:=h
    simp only [nxt]
    rcases cF.1 hy with rfl|hy
    · refine dX ?_ (zbN7 mw _)
      show q.1 < _
      split <;> omega
    · exact zcY5 h3 y hy
theorem zdn5 {Q:Exit→St→Prop} {st:St} {dr:List Nat} {an:List (List Nat)} {ops:List POp} (hm:C.P.follows .mixedOrders=true) (hG:E.G=C.G) (h:zaz7 C an ops st [] fun s=>Q .normal (s.drop dr)):AW C E (.regm dr an ops) Q st:=fun code hc a w hs=>by
  cases code with
  | region id os d =>
   cases d with
   | false=>simp [chkC] at hc
   | true =>
    simp only [chkC,bT,dG] at hc
    obtain ⟨hc1,hc2,hc3,hc4⟩:=hc
    have hr:ROk C E.N os 0 ops:=by
      obtain ⟨P,G⟩:=C
      exact zbj8 os.toList ops 0 hc1 (by simp) (by simp)
    obtain ⟨vs,mws,sts,hK,h0,hv⟩:=zbN5 ops st [] h
    subst hc4
    have hnx1:∀ j,(sts j).nx≤(sts (j+1)).nx∨ops.length≤j:=fun j=>by
      by_cases hj:j < ops.length
      · obtain ⟨g1,g2,_⟩:=hv j ops[j] (by simp [hj])
        left; rw [g1]; exact zbN7 _ _
      · right; omega
    let sts':Nat→St:=fun j=>if j≤ops.length then sts j else sts ops.length
    have hs':∀ j,j≤ops.length→sts' j=sts j:=fun j hj=>bV hj
    have hs2:∀ j,ops.length≤j→sts' j=sts ops.length:=fun j hj=>by
      show (if j≤ops.length then sts j else sts ops.length)=_
      split
      · rw [show j=ops.length by omega]
      · rfl
    have hstep:∀ j,(sts' j).nx≤(sts' (j+1)).nx:=fun j=>by
      by_cases hj:j < ops.length
      · rw [hs' j (by omega),hs' (j+1) (by omega)]
        rcases hnx1 j with h1|h1
        · exact h1
        · omega
      · rw [hs2 j (by omega),hs2 (j+1) (by omega)]; exact dD _
    have hmono:∀ i j,i≤j→(sts' i).nx≤(sts' j).nx:=fun i j hij=>by
      induction j with
      | zero=>rw [show i=0 by omega]; exact dD _
      | succ j ih =>
        by_cases hi:i=j+1
        · rw [hi]; exact dD _
        · exact eA (ih (by omega)) (hstep j)
    have hFS:∀ j,j≤ops.length→(sts' j).toS=FSt ops vs mws st.toS (fun _=>true) j:=fun j hj=>by
      rw [hs' j hj]
      induction j with
      | zero=>rw [h0]; rfl
      | succ j ih =>
        obtain ⟨g1,g2,_⟩:=hv j ops[j] (by simp [show j < ops.length by omega])
        have ih:=ih (by omega)
        rw [g1,zcg3 _ _ _ _ g2]
        have hq:ops[j]? = some ops[j]:=by simp [show j < ops.length by omega]
        simp only [FSt,hq,cB]
        rw [← ih]
        rfl
    refine wp_region_any hm ?_
    refine zcz0 (s0:=st.toS) (vs:=vs) (mws:=mws) (sts:=sts') (K:=fun s=>Q .normal (s.drop dr)) hG hr hc2 hc3 (by rw [hs' _ (dD _)]; exact hK) hFS (fun j p hp=>?_) hmono (fun y hy=>?_) (fun j p y hp hy=>?_) (fun st' a' w' hQ hs'=>⟨_,hQ,hs'.drop⟩) os.size _ a _ (by simp) ?_ (fun j o ho hj=>?_) ?_
    · have hj:=(cD.1 hp).1
      obtain ⟨g1,g2,g3,g4,_,g6⟩:=hv j p hp
      rw [hs' j (by omega)]
      refine ⟨g2,g3,g4,fun i q hi hq hn=>?_⟩
      rw [hs' i (by omega)]
      simp only [List.length_nil,dR] at g6
      exact g6 i q hi hq hn
    · rw [hs' 0 (fP _),h0] at hy
      exact zcg6 st y hy
    · have hj:=(cD.1 hp).1
      obtain ⟨g1,g2,_⟩:=hv j p hp
      rw [hs' (j+1) (by omega),g1]
      exact zcY5 g2 y hy
    · have e:FSt ops vs mws st.toS (fun i=>(Array.replicate os.size false).getD i false) ops.length=FSt ops vs mws st.toS (fun _=>false) ops.length:=zbN3 _ fun i _=>by simp [Array.getD]
      have e2:∀ n,FSt ops vs mws st.toS (fun _=>false) n=st.toS:=fun n=>by
        induction n with
        | zero=>rfl
        | succ n ih=>simp only [FSt,ih,bS,cA]; split <;> rfl
      rw [e,e2]
      exact hs.drawn (jX _)
    · simp [Array.getD] at hj
    · have:∀ n,left (fun i=>(Array.replicate os.size false).getD i false) n≤n:=fun n=>by
        induction n with
        | zero=>exact dD _
        | succ n ih=>simp only [left]; split <;> omega
      exact this _
  | _=>simp [chkC] at hc
end
def memN (n:Nat):List Nat→Bool
 | []=>false
 | m :: ms=>if n=m then true else memN n ms
theorem zbN8 {n:Nat}:∀ {l:List Nat},memN n l=true ↔ n ∈ l
 | []=>by simp [memN]
 | m :: ms=>by
  unfold memN
  split
  ·rename_i h; simp [h]
  ·rename_i h; rw [zbN8]; simp [h]
def fzA (ids:List Nat) (m:Nat→MS):A→A
 | .own y lo n=>if memN y ids=true then frz1 m (.own y lo n) else .own y lo n
 | a=>a
def fzCs (ids:List Nat) (m:Nat→MS):List A→List A
 | []=>[]
 | a :: as=>fzA ids m a :: fzCs ids m as
def fzV (ids:List Nat) (m:Nat→MS):A→A
 | .agg cs=>if zn5 cs=true then .agg cs else .agg (fzCs ids m cs)
 | a=>fzA ids m a
def fzEs (ids:List Nat) (m:Nat→MS) (es:List (List A)):List (List A):=if pureEs es=true then es else es.map (fzCs ids m)
def fzFr (ids:List Nat) (m:Nat→MS):List (Nat×A)→List (Nat×A)
 | []=>[]
 | q :: r=>(q.1,fzV ids m q.2) :: fzFr ids m r
def zco4 (ids:List Nat) (m:Nat→MS):List (Nat×Row)→List (Nat×Row)
 | []=>[]
 | q :: r=>(q.1,⟨q.2.ro||memN q.1 ids,q.2.sz,q.2.z,fzEs ids m q.2.es⟩) :: zco4 ids m r
def zcc0 (ids:List Nat) (m:Nat→MS):A→Prop
 | .own y lo n=>if memN y ids=true then zaw7 m (.own y lo n) else True
 | _=>True
def zbz4 (ids:List Nat) (m:Nat→MS):List A→Prop
 | []=>True
 | a :: as=>zcc0 ids m a∧zbz4 ids m as
def zco5 (ids:List Nat) (m:Nat→MS):A→Prop
 | .agg cs=>if zn5 cs=true then True else zbz4 ids m cs
 | a=>zcc0 ids m a
def zbJ7 (ids:List Nat) (m:Nat→MS):List (List A)→Prop
 | []=>True
 | c :: cs=>zbz4 ids m c∧zbJ7 ids m cs
def zcg9 (ids:List Nat) (m:Nat→MS) (es:List (List A)):Prop:=if pureEs es=true then True else zbJ7 ids m es
def zch0 (ids:List Nat) (m:Nat→MS):List (Nat×A)→Prop
 | []=>True
 | q :: r=>zco5 ids m q.2∧zch0 ids m r
def zbJ8 (ids:List Nat) (m:Nat→MS):List (Nat×Row)→Prop
 | []=>True
 | q :: r=>zcg9 ids m q.2.es∧zbJ8 ids m r
def St.fz (st:St) (ids:List Nat):St:=⟨fzFr ids st.m st.fr,zco4 ids st.m st.mem,st.nx⟩
def St.fzOk (st:St) (ids:List Nat):Prop:=zch0 ids st.m st.fr∧zbJ8 ids st.m st.mem
section
variable {C:Cx} {a:Act} {E:Env} {st:St} {w:World} {W:Nat→Prop} {μ:Nat→Loc}
theorem zch1 (ids:List Nat) (m:Nat→MS):∀ (cs:List A) (i:Nat),(fzCs ids m cs)[i]? = (cs[i]?).map (fzA ids m)
 | [],i=>by simp [fzCs]
 | c :: cs,i=>by
  cases i with
  | zero=>simp [fzCs]
  | succ i=>simp [fzCs,zch1 ids m cs i]
theorem zbN9 (ids:List Nat) (m:Nat→MS):∀ cs:List A,(fzCs ids m cs).length=cs.length
 | []=>rfl
 | _ :: cs=>by simp [fzCs,zbN9 ids m cs]
theorem zbz5 {ids:List Nat} {m:Nat→MS}:∀ {cs:List A},zbz4 ids m cs→∀ c ∈ cs,zcc0 ids m c
 | c :: cs,h,d,hd=>by
  rcases cF.1 hd with rfl|hd
  ·exact h.1
  ·exact zbz5 h.2 d hd
theorem zbO0 {ids:List Nat} {m:Nat→MS}:∀ {cs:List (List A)},zbJ7 ids m cs→∀ c ∈ cs,zbz4 ids m c
 | c :: cs,h,d,hd=>by
  rcases cF.1 hd with rfl|hd
  ·exact h.1
  ·exact zbO0 h.2 d hd
theorem zcc1 (ids:List Nat) (m:Nat→MS) (t:Nat):∀ fr:List (Nat×A),look (fzFr ids m fr) t=(look fr t).map (fzV ids m)
 | []=>rfl
 | q :: r=>by
  simp only [fzFr,look]
  split
  ·rfl
  ·exact zcc1 ids m t r
theorem zbO1 (ids:List Nat) (m:Nat→MS) (x:Nat):∀ mem:List (Nat×Row),look (zco4 ids m mem) x=(look mem x).map fun r=>⟨r.ro||memN x ids,r.sz,r.z,fzEs ids m r.es⟩
 | []=>rfl
 | q :: r=>by
  simp only [zco4,look]
  split
  ·rename_i h; subst h; rfl
  ·exact zbO1 ids m x r
theorem zcc2 {ids:List Nat} {m:Nat→MS}:∀ {fr:List (Nat×A)},zch0 ids m fr→∀ t v,look fr t=some v→zco5 ids m v
 | q :: r,h,t,v,hv=>by
  simp only [look] at hv
  split at hv
  ·cases hv; exact h.1
  ·exact zcc2 h.2 t v hv
theorem zbO2 {ids:List Nat} {m:Nat→MS}:∀ {mem:List (Nat×Row)},zbJ8 ids m mem→∀ x r,look mem x=some r→zcg9 ids m r.es
 | q :: r,h,t,v,hv=>by
  simp only [look] at hv
  split at hv
  ·cases hv; exact h.1
  ·exact zbO2 h.2 t v hv
theorem RepK.less {v:Value} {x:A} {ids:List Nat} (h:RepK w W μ v x):RepK w (zaH8 W μ ids) μ v x :=
 h.goes (Keeps.refl (fun _=>False) w) (fun _ _ _ h=>h) (fun _ _ h1 h2=>h1 h2.1) (Old.refl μ)
theorem zch2 {s:S} (hs:SatW E s a w W μ) {v:Value} {x:A} {ids:List Nat} (h:RepK w W μ v x) (hok:zcc0 ids s.mem x):RepK w (zaH8 W μ ids) μ v (fzA ids s.mem x):=by
 cases x with
 | own y lo n =>
  simp only [fzA,zcc0] at hok ⊢
  split
  ·rename_i hy
   rw [bV hy] at hok
   exact zq9 (zbM2 hs h hok (fun z hz=>by simp [zR4] at hz; subst hz; exact zbN8.1 hy))
  ·exact h.less
 | _=>exact h.less
theorem zdv1 {s:S} (hs:SatW E s a w W μ) {v:Value} {x:A} {ids:List Nat} (h:Rep w W μ v x) (hok:zco5 ids s.mem x):Rep w (zaH8 W μ ids) μ v (fzV ids s.mem x):=by
 have hgo:Rep w (zaH8 W μ ids) μ v x:=h.goes (Keeps.refl (fun _=>False) w) (fun _ _ _ h=>h) (fun _ _ h1 h2=>h1 h2.1) (Old.refl μ)
 cases x with
 | own y lo n=>exact zp5 (zo9 (zch2 (x:=.own y lo n) hs h hok))
 | agg cs =>
  simp only [fzV,zco5] at hok ⊢
  split
  ·exact hgo
  ·rename_i hp
   rw [bU hp] at hok
   obtain ⟨vs,hv,hl,hr⟩:=h
   refine ⟨vs,hv,by rw [zbN9]; exact hl,fun i u b hu hb=>?_⟩
   rw [zch1] at hb
   obtain ⟨c,hc,rfl⟩:=cG.1 hb
   exact zch2 hs (hr i u c hu hc) (zbz5 hok c (cL hc))
 | _=>exact hgo
theorem zcM9 {s:S} (hs:SatW E s a w W μ) (ids:List Nat):zbe2 w (zaH8 W μ ids) E.G:=fun g cs hg=>by
 obtain ⟨h1,h2,h3⟩:=hs.glob g cs hg
 refine ⟨fun hh=>h1 hh.1,h2,fun j b hj=>?_⟩
 obtain ⟨u,hu,hr⟩:=h3 j b hj
 exact ⟨u,hu,hr.less⟩
theorem St.le_fz (ids:List Nat) (h:st.fzOk ids):St.le E st (st.fz ids):=by
 intro a w ⟨W,μ,hs⟩
 refine ⟨zaH8 W μ ids,μ,{ hs with
  fr:=fun t=>?_
  mem:=fun x=>?_
  wsub:=fun b hb=>hs.wsub b hb.1
  wsup:=fun b hb=>?_
  wlt:=fun b hb=>hs.wlt b hb.1
  glob:=zcM9 hs ids }⟩
 ·show Rep w _ μ _ ((st.fz ids).slot t)
  have hr:Rep w W μ _ (st.slot t):=hs.fr t
  simp only [St.slot,St.fz,zcc1] at hr ⊢
  cases hl:look st.fr t with
  | none=>trivial
  | some v =>
   rw [hl] at hr
   exact zdv1 hs hr (zcc2 h.1 t v hl)
 ·show zaq4 w _ μ x ((st.fz ids).m x)
  have hm:zaq4 w W μ x (st.m x):=hs.mem x
  simp only [St.m,St.fz,zbO1] at hm ⊢
  split
  ·rename_i hx; rw [bV hx] at hm; exact hm
  ·rename_i hx
   rw [bU hx] at hm
   cases hl:look st.mem x with
   | none=>rw [hl] at hm; exact hm
   | some r =>
    rw [hl] at hm
    have hok:=zbO2 h.2 x r hl
    rcases hm with ⟨e1,e2,e3⟩|⟨k,e1,hro,hsz,hpos,us,rest,e,h4,h5,h6⟩
    ·exact .inl ⟨e1,by show fzEs ids st.m r.es=[]; rw [e2]; rfl,e3⟩
    ·refine .inr ⟨k,e1,fun hr=>?_,hsz,hpos,us,rest,e,h4,h5,?_⟩
     ·have hr':(r.ro||memN x ids)=false:=hr
      simp only [gZ] at hr'
      refine ⟨hro hr'.1,fun ⟨y,ky,hy,hy2,hy3⟩=>?_⟩
      have:=hs.inj y x ky k hy2 e1 hy3
      subst this
      rw [zbN8.2 hy] at hr'
      cases hr'.2
     ·show Flat _ r.sz us (fzEs ids st.m r.es)
      unfold fzEs
      unfold zcg9 at hok
      split
      ·exact h6.mono fun u b hr=>hr.less
      ·rename_i hp
       rw [bU hp] at hok
       refine ⟨by simpa using h6.hl,fun i c hc=>?_,fun i c j b hc hb=>?_⟩
       ·simp only [cO,cG] at hc
        obtain ⟨c0,hc0,rfl⟩:=hc
        rw [zbN9]; exact h6.hs i c0 hc0
       ·simp only [cO,cG] at hc
        obtain ⟨c0,hc0,rfl⟩:=hc
        rw [zch1] at hb
        obtain ⟨b0,hb0,rfl⟩:=cG.1 hb
        obtain ⟨u,hu,hr⟩:=h6.ha i c0 j b0 hc0 hb0
        exact ⟨u,hu,zch2 hs hr (zbz5 (zbO0 hok c0 (cL hc0)) b0 (cL hb0))⟩
 ·rcases hs.wsup b hb with h1|h1
  ·by_cases hx:∃ x k,x ∈ ids∧μ x=.at_ k∧k.b=b
   ·obtain ⟨x,k,_,hx2,hx3⟩:=hx
    rcases hs.live x k hx2 with h2|h2
    ·exact .inr (hx3 ▸ h2)
    ·have:=hs.winlt b hb; omega
   ·exact .inl ⟨h1,hx⟩
  ·exact .inr h1
def St.own0 (st:St) (t sz:Nat) (z:List A):St:=⟨(t,.own st.nx 0 0) :: rm t st.fr,(st.nx,⟨false,sz,z,[]⟩) :: st.mem,st.nx+1⟩
theorem St.le_own0 (t sz:Nat) (z:List A) (hz:0 < sz) (h:st.slot t=.full []):St.le E st (st.own0 t sz z):=by
 intro a w ⟨W,μ,hs⟩
 have hst:=Step.newEmpty (r:=⟨false,sz,z,[]⟩) hs.mem hs.inj hs.wlt (St.m_nx st) hz rfl (Keeps.refl _ w)
 have h2:=hs.step (d:=none) (v:=undef) (av:=.any) hst (fun x hx=>by cases hx) trivial
 have hem:(st.own0 t sz z).m=setM st.m [(st.nx,.row ⟨false,sz,z,[]⟩)]:=by
  funext x
  simp only [St.m,St.own0,setM,look]
  by_cases hx:x=st.nx
  ·subst hx
   rw [bU (by omega),bV rfl,bV rfl]
  ·by_cases h3:st.nx≤x
   ·rw [bV (show st.nx+1≤x by omega),bU hx,bV h3]
   ·rw [bU (show ¬ st.nx+1≤x by omega),bU (show ¬ st.nx=x by omega),bU hx,bU h3]
 refine ⟨_,_,{ h2 with fr:=fun t'=>?_,mem:=?_ }⟩
 ·have h3:=h2.fr t'
  show Rep w W _ (a.tmps.getD t' undef) ((st.own0 t sz z).slot t')
  have h4:Rep w W (fun x=>if x=st.nx then .empty else μ x) (a.tmps.getD t' undef) (st.slot t'):=h3
  simp only [St.slot,St.own0,look]
  split
  ·rename_i ht
   subst ht
   rw [h] at h4
   have h5:RepC w W (a.tmps.getD t undef) (.full []):=h4
   generalize a.tmps.getD t undef=v at h5
   cases h5 with
   | full ad n es h6 =>
    cases h6 with
    | sl0=>exact zaR2 (by simp) 0
    | sl b off cap s es us _ _ hn=>simp at hn
  ·rename_i ht
   rw [zaC8,bU (fun e=>ht e.symm)]
   exact h4
 ·show zaJ8 w W _ (st.own0 t sz z).m
  rw [hem]
  exact h2.mem
def zaX7 (j n:Nat):List (List A)→List (List A)
 | [c]=>[upd c j [.own n 0 0]]
 | es=>es
def zbu8 (x j n:Nat):List (Nat×Row)→List (Nat×Row)
 | []=>[]
 | q :: r=>if q.1=x then (q.1,⟨q.2.ro,q.2.sz,q.2.z,zaX7 j n q.2.es⟩) :: r else q :: zbu8 x j n r
def zcY6 (j:Nat):List (List A)→Prop
 | [c]=>sub c j 1=[.full []]
 | _=>False
def St.ownb (st:St) (x j sz:Nat) (z:List A):St:=⟨st.fr,(st.nx,⟨false,sz,z,[]⟩) :: zbu8 x j st.nx st.mem,st.nx+1⟩
def St.ownbOk (st:St) (x j sz:Nat):Prop:=0 < sz∧match st.m x with
 | .row r=>zcY6 j r.es
 | _=>False
theorem zbu9 (x j n y:Nat):∀ mem:List (Nat×Row),look (zbu8 x j n mem) y=(look mem y).map fun r=>if y=x then ⟨r.ro,r.sz,r.z,zaX7 j n r.es⟩ else r
 | []=>rfl
 | q :: r=>by
  simp only [zbu8]
  split
  ·rename_i h
   simp only [look]
   split
   ·rename_i h2; simp [← h2,h]
   ·rename_i h2
    have:¬ y=x:=fun e=>h2 (h.trans e.symm)
    cases look r y <;> simp [this]
  ·rename_i h
   simp only [look]
   split
   ·rename_i h2; simp [← h2,h]
   ·exact zbu9 x j n y r
theorem zco6 {v:Value} {x:Nat} (hx:μ x=.empty) (h:RepK w W μ v (.full [])):RepK w W μ v (.own x 0 0):=by
 have h5:RepC w W v (.full []):=h
 cases h5 with
 | full ad n es h6 =>
  cases h6 with
  | sl0 =>
   refine ⟨rfl,?_⟩
   rw [hx]
   exact ⟨rfl,ad,rfl⟩
  | sl b off cap s es us _ _ hn=>simp at hn
theorem St.le_ownb (x j sz:Nat) (z:List A) (h:st.ownbOk x j sz):St.le E st (st.ownb x j sz z):=by
 obtain ⟨hz,hnil⟩:=h
 intro a w ⟨W,μ,hs⟩
 have hst:=Step.newEmpty (r:=⟨false,sz,z,[]⟩) hs.mem hs.inj hs.wlt (St.m_nx st) hz rfl (Keeps.refl _ w)
 have h2:=hs.step (d:=none) (v:=undef) (av:=.any) hst (fun x hx=>by cases hx) trivial
 refine ⟨_,_,{ h2 with fr:=fun t=>h2.fr t,mem:=fun y=>?_ }⟩
 have hm:=h2.mem y
 have hxn:x < st.nx:=by
  cases hr:st.m x with
  | fresh=>rw [hr] at hnil; exact hnil.elim
  | dead=>rw [hr] at hnil; exact hnil.elim
  | row r=>exact St.m_row hr
 show zaq4 w W _ y ((st.ownb x j sz z).m y)
 have hm':zaq4 w W (fun x=>if x=st.nx then .empty else μ x) y (setM st.m [(st.nx,.row ⟨false,sz,z,[]⟩)] y):=hm
 simp only [setM] at hm'
 by_cases hy:y=st.nx
 ·subst hy
  have e:(st.ownb x j sz z).m st.nx=.row ⟨false,sz,z,[]⟩:=by
   simp only [St.m,St.ownb,look]
   rw [bU (by omega)]; simp
  rw [bV rfl] at hm'
  rw [e]; exact hm'
 rw [bU hy] at hm'
 have e:(st.ownb x j sz z).m y=match st.m y with
   | .row r=>.row (if y=x then ⟨r.ro,r.sz,r.z,zaX7 j st.nx r.es⟩ else r)
   | q=>q:=by
  simp only [St.m,St.ownb,look,zbu9]
  by_cases h3:st.nx≤y
  ·rw [bV (show st.nx+1≤y by omega),bV h3]
  ·rw [bU (show ¬ st.nx+1≤y by omega),bU (show ¬ st.nx=y by omega),bU h3]
   cases look st.mem y <;> rfl
 rw [e]
 cases hr:st.m y with
 | fresh=>rw [hr] at hm'; exact hm'
 | dead=>rw [hr] at hm'; exact hm'
 | row r =>
  rw [hr] at hm'
  simp only
  by_cases hyx:y=x
  ·subst hyx
   rw [bV rfl]
   rw [hr] at hnil
   have hnil:zcY6 j r.es:=hnil
   rcases hm' with ⟨g1,g2,g3⟩|⟨k,g1,g2,g3,g4,us,rest,e',g5,g6,g7⟩
   ·rw [g2] at hnil; exact hnil.elim
   ·refine .inr ⟨k,g1,g2,g3,g4,us,rest,e',g5,g6,?_⟩
    show Flat _ r.sz us (zaX7 j st.nx r.es)
    obtain ⟨ro,sz',z',es⟩:=r
    match es,hnil with
    | [c],hnil =>
     have hj:sub c j 1=[.full []]:=hnil
     have hc:c.length=sz':=g7.hs 0 c rfl
     have hjl:c[j]? = some (.full []):=by
      have h8:((c.drop j).take 1)[0]? = some (.full []):=by
       show (sub c j 1)[0]? = _
       rw [hj]; rfl
      simpa [dK,dO] using h8
     have hlt:j < c.length:=(cD.1 hjl).1
     have hu:upd c j [.own st.nx 0 0]=c.set j (.own st.nx 0 0):=by
      simp only [upd,List.length_cons,List.length_nil,dR]
      rw [iM,bV hlt]
      simp
     refine ⟨g7.hl,fun i d hd=>?_,fun i d q b hd hb=>?_⟩
     ·cases i with
      | zero =>
       simp [zaX7] at hd
       subst hd
       rw [hu,dI]; exact hc
      | succ i=>simp [zaX7] at hd
     ·cases i with
      | zero =>
       simp [zaX7] at hd
       subst hd
       rw [hu,List.getElem?_set] at hb
       split at hb
       ·rename_i hq
        subst hq
        cases hb
        obtain ⟨u,hu1,hu2⟩:=g7.ha 0 c j _ rfl hjl
        exact ⟨u,hu1,zco6 (by simp) hu2⟩
       ·exact g7.ha 0 c q b rfl hb
      | succ i=>simp [zaX7] at hd
  ·rw [bU hyx]; exact hm'
def unfA:A→A
 | .full es=>.sl es
 | a=>a
def zaP0:List A→List A
 | []=>[]
 | a :: as=>unfA a :: zaP0 as
def zbO3:List (Nat×Row)→List (Nat×Row)
 | []=>[]
 | q :: r=>(q.1,⟨q.2.ro,q.2.sz,q.2.z,q.2.es.map zaP0⟩) :: zbO3 r
def St.unf (st:St):St:=⟨st.fr,zbO3 st.mem,st.nx⟩
theorem zbO4:∀ (cs:List A) (i:Nat),(zaP0 cs)[i]? = (cs[i]?).map unfA
 | [],i=>by simp [zaP0]
 | c :: cs,i=>by
  cases i with
  | zero=>simp [zaP0]
  | succ i=>simp [zaP0,zbO4 cs i]
theorem zbz6:∀ cs:List A,(zaP0 cs).length=cs.length
 | []=>rfl
 | _ :: cs=>by simp [zaP0,zbz6 cs]
theorem zbF2 (x:Nat):∀ mem:List (Nat×Row),look (zbO3 mem) x=(look mem x).map fun r=>⟨r.ro,r.sz,r.z,r.es.map zaP0⟩
 | []=>rfl
 | q :: r=>by
  simp only [zbO3,look]
  split
  ·rfl
  ·exact zbF2 x r
theorem zcH8 {v:Value} {x:A} (h:RepK w W μ v x):RepK w W μ v (unfA x):=by
 cases x with
 | full es =>
  have h2:RepC w W v (.full es):=h
  cases h2 with
  | full a n es h3=>exact zq9 h3
 | _=>exact h
theorem St.le_unf:St.le E st st.unf:=by
 intro a w ⟨W,μ,hs⟩
 refine ⟨W,μ,{ hs with mem:=fun x=>?_ }⟩
 show zaq4 w W μ x (st.unf.m x)
 have hm:zaq4 w W μ x (st.m x):=hs.mem x
 simp only [St.m,St.unf,zbF2] at hm ⊢
 split
 ·rename_i hx; rw [bV hx] at hm; exact hm
 ·rename_i hx
  rw [bU hx] at hm
  cases hl:look st.mem x with
  | none=>rw [hl] at hm; exact hm
  | some r =>
   rw [hl] at hm
   rcases hm with ⟨e1,e2,e3⟩|⟨k,e1,hro,hsz,hpos,us,rest,e,h4,h5,h6⟩
   ·exact .inl ⟨e1,by show r.es.map zaP0=[]; rw [e2]; rfl,e3⟩
   ·refine .inr ⟨k,e1,hro,hsz,hpos,us,rest,e,h4,h5,?_⟩
    show Flat _ r.sz us (r.es.map zaP0)
    refine ⟨by simpa using h6.hl,fun i c hc=>?_,fun i c j b hc hb=>?_⟩
    ·simp only [cO,cG] at hc
     obtain ⟨c0,hc0,rfl⟩:=hc
     rw [zbz6]; exact h6.hs i c0 hc0
    ·simp only [cO,cG] at hc
     obtain ⟨c0,hc0,rfl⟩:=hc
     rw [zbO4] at hb
     obtain ⟨b0,hb0,rfl⟩:=cG.1 hb
     obtain ⟨u,hu,hr⟩:=h6.ha i c0 j b0 hc0 hb0
     exact ⟨u,hu,zcH8 hr⟩
def St.cast (st:St) (t:Nat) (v:A):St:=⟨(t,v) :: rm t st.fr,st.mem,st.nx⟩
theorem St.le_cast (t:Nat) (v:A) (h:st.slot t=v):St.le E st (st.cast t v):=by
 have e:(st.cast t v).toS=st.toS:=by
  simp only [St.toS]
  congr 1
  funext x
  simp only [St.slot,St.cast,look]
  split
  ·rename_i hx; subst hx; exact h.symm
  ·rename_i hx; rw [zaC8,bU (fun e=>hx e.symm)]
 intro a w hs
 rw [e]; exact hs
def St.unfs (st:St) (t:Nat):St:=⟨(t,unfA (st.slot t)) :: rm t st.fr,st.mem,st.nx⟩
theorem St.le_unfs (t:Nat):St.le E st (st.unfs t):=by
 intro a w ⟨W,μ,hs⟩
 refine ⟨W,μ,{ hs with fr:=fun t'=>?_ }⟩
 show Rep w W μ (a.tmps.getD t' undef) ((st.unfs t).slot t')
 have hr:Rep w W μ (a.tmps.getD t' undef) (st.slot t'):=hs.fr t'
 by_cases h:t=t'
 ·subst h
  have e:(st.unfs t).slot t=unfA (st.slot t):=by simp [St.slot,St.unfs,look]
  rw [e]
  generalize st.slot t=x at hr ⊢
  cases x with
  | full es =>
   have h2:RepC w W (a.tmps.getD t undef) (.full es):=hr
   exact zp5 (zo9 (zq9 h2.of_full.1))
  | _=>exact hr
 ·have e:(st.unfs t).slot t'=st.slot t':=by
   simp only [St.slot,St.unfs,look]
   rw [bU h,zaC8,bU (fun e=>h e.symm)]
  rw [e]; exact hr
inductive Gh where
 | unf
 | cast (t:Nat) (v:A)
 | fz (ids:List Nat)
 | own0 (t sz:Nat) (z:List A)
 | ownb (x j sz:Nat) (z:List A)
 | unfs (t:Nat)
def St.gh (st:St):Gh→St
 | .unf=>st.unf
 | .cast t v=>st.cast t v
 | .fz ids=>st.fz ids
 | .own0 t sz z=>st.own0 t sz z
 | .ownb x j sz z=>st.ownb x j sz z
 | .unfs t=>st.unfs t
def St.ghOk (st:St):Gh→Prop
 | .unf=>True
 | .cast t v=>st.slot t=v
 | .fz ids=>st.fzOk ids
 | .own0 t sz _=>0 < sz∧st.slot t=.full []
 | .ownb x j sz _=>st.ownbOk x j sz
 | .unfs _=>True
theorem St.le_gh (g:Gh) (h:st.ghOk g):St.le E st (st.gh g):=by
 cases g with
 | unf=>exact St.le_unf
 | cast t v=>exact St.le_cast t v h
 | fz ids=>exact St.le_fz ids h
 | own0 t sz z=>exact St.le_own0 t sz z h.1 h.2
 | ownb x j sz z=>exact St.le_ownb x j sz z h
 | unfs t=>exact St.le_unfs t
theorem zdC9 {c:PC} {Q:Exit→St→Prop} (g:Gh) (hok:st.ghOk g) (h:AW C E c Q (st.gh g)):AW C E c Q st:=AW.weak (St.le_gh g hok) h
end
def zbF3 (C:Cx) (f:FuncId) (d:Option Nat) (g:Option (Nat×Bool)) (gv:Bool) (ob:Prop) (args:List A) (rw:List (Nat×MS)) (ps:List POp) (st:St) (K:St→Prop):Prop :=
 ∃ r,(gv=true→ob∧PFn C f args r)∧(g=none∨(if r.scal then [] else rw)=[]∧r.isVV=true)∧arun C ps (st.app d (zT3 g gv r) (if r.scal then [] else rw)) K
theorem zcY7 {C:Cx} {f:FuncId} {d:Option Nat} {g:Option (Nat×Bool)} {gv:Bool} {ob:Prop} {args:List A} {rw:List (Nat×MS)} {ps:List POp} {st:St} {K:St→Prop} {r:A}
  (hf:gv=true→PFn C f args r) (h:arun C ps (st.app d (zT3 g gv r) (if r.scal then [] else rw)) K)
  (ho:gv=true→ob:=by intro; trivial) (hg:g=none∨(if r.scal then [] else rw)=[]∧r.isVV=true:=by first|exact .inl rfl|exact .inr ⟨rfl,rfl⟩):zbF3 C f d g gv ob args rw ps st K:=⟨r,fun e=>⟨ho e,hf e⟩,hg,h⟩
def zap9 (C:Cx) (f:FuncId) (d:Option Nat) (g:Option (Nat×Bool)) (gv:Bool) (ob:Prop) (vals:List A) (ps:List POp) (st:St) (K:St→Prop):Prop :=
 zaO5 C st.m st.nx f vals g gv ob (fun _=>True) fun v mw=>arun C ps (st.app d v mw) K
def zbf1:A→Bool
 | .cnd _ _=>false
 | _=>true
theorem zbf2 {r:A} (h:zbf1 r=true):∀ g c,r≠.cnd g c:=fun g c e=>by subst e; cases h
theorem zcN0 {C:Cx} {f:FuncId} {d:Option Nat} {ob:Prop} {vals:List A} {ps:List POp} {st:St} {K:St→Prop} (l:List (Nat×Nat)) {az:List A} {ms ms':List (Nat×Row)} {k k':Nat} {r:A}
  (hf:MFn C f az ms k r ms' k') (hok:okM st.m st.nx l vals az ms k k') (h:arun C ps (st.app d (renR (l++newL k st.nx (k' - k)) r) (mwM st.m (l++newL k st.nx (k' - k)) vals az ms ms' k k')) K)
  (ho:ob:=by trivial) (hr:zbf1 r=true:=by rfl):zap9 C f d none true ob vals ps st K :=
 ⟨l,az,ms,k,r,ms',k',fun _=>⟨ho,hf,hok,trivial⟩,(fun h=>nomatch h),.inl rfl,zbf2 hr,h⟩
theorem zcz1 {C:Cx} {f:FuncId} {d:Option Nat} {g:Option (Nat×Bool)} {gv:Bool} {ob:Prop} {vals:List A} {ps:List POp} {st:St} {K:St→Prop} (l:List (Nat×Nat)) {az:List A} {ms ms':List (Nat×Row)} {k:Nat} {r:A}
  (hf:gv=true→MFn C f az ms k r ms' k) (hok:gv=true→okM st.m st.nx l vals az ms k k) (hs:gv=false→zbu3 st.m (mwM st.m l vals az ms ms' k k)) (h:arun C ps (st.app d (zT3 g gv (renR l r)) (mwM st.m l vals az ms ms' k k)) K)
  (ho:gv=true→ob) (hr:zbf1 r=true:=by rfl) (hv:(renR l r).isVV=true:=by rfl):zap9 C f d g gv ob vals ps st K:=by
 have e:l++newL k st.nx (k - k)=l:=by rw [gM]; exact dT l
 refine ⟨l,az,ms,k,r,ms',k,fun h=>⟨ho h,hf h,hok h,trivial⟩,?_⟩
 rw [e]
 exact ⟨fun h=>⟨rfl,hs h⟩,.inr hv,zbf2 hr,h⟩
theorem zcY8 (C:Cx) (st:St) (K:St→Prop):arun C [] st K=K st:=rfl
theorem zcN1 (C:Cx) (d:Option Nat) (g:Option (Nat×Bool)) (po:PO) (xs:List PX) (ps:List POp) (st:St) (K:St→Prop) :
  arun C (⟨d,g,po,xs⟩ :: ps) st K=(match po with
   | .call f=>(match zR5 st g with
    | none=>False
    | some gv=>zbF3 C f d g gv (zau3 C st xs∧zH5 st.m (zs8 C st xs)) (zS3 st.m (zs8 C st xs)) (zT2 st.m (zH6 (zs8 C st xs))) ps st K)
   | .callv=>(match zR5 st g with
    | none=>False
    | some gv=>(match zs8 C st xs with
     | .clo f caps :: vals=>zbF3 C f d g gv (zau3 C st xs∧zac3 C.P f=true∧zH5 st.m (vals++caps)) (zS3 st.m (vals++caps)) (zT2 st.m (zH6 (vals++caps))) ps st K
     | _=>False))
   | .callm f=>(match zR5 st g with
    | none=>False
    | some gv=>zap9 C f d g gv (zau3 C st xs) (zs8 C st xs) ps st K)
   | .callvm=>(match zR5 st g with
    | none=>False
    | some gv=>(match zs8 C st xs with
     | .clo f caps :: vals=>zap9 C f d g gv (zau3 C st xs∧zac3 C.P f=true) (vals++caps) ps st K
     | _=>False))
   | .eqNil=>g=none∧zau3 C st xs∧nilQ (fun b=>arun C ps (st.app d (.bool b) []) K) (zs8 C st xs)
   | po=>aop C ⟨d,g,po,xs⟩ st fun st'=>arun C ps st' K):=by
 cases po with
 | eqNil=>rfl
 | call f =>
  simp only [arun,aop,zbF3,PO.isNilQ,bS,cA]
  cases zR5 st g with
  | none=>rfl
  | some gv=>simp only [zM9,fO]
 | callv =>
  simp only [arun,aop,PO.isNilQ,bS,cA]
  cases zR5 st g with
  | none=>rfl
  | some gv =>
   simp only
   generalize zs8 C st xs=vv
   rcases vv with _|⟨x,vs⟩
   ·rfl
   ·cases x <;> first|rfl|(simp only [zbF3,zM9,fO])
 | callm f =>
  simp only [arun,aop,zap9,PO.isNilQ,bS,cA]
  cases zR5 st g with
  | none=>rfl
  | some gv=>rfl
 | callvm =>
  simp only [arun,aop,PO.isNilQ,bS,cA]
  cases zR5 st g with
  | none=>rfl
  | some gv =>
   simp only
   generalize zs8 C st xs=vv
   rcases vv with _|⟨x,vs⟩
   ·rfl
   ·cases x <;> first|rfl|(simp only [zap9])
 | _=>rfl
def zbf3 (C:Cx) (f:FuncId) (d:Option Nat) (g:Option (Nat×Bool)) (gv:Bool) (ob:Prop) (args:List A) (rw:List (Nat×MS)) (ps:List POp) (st:St) (K:St→Prop):Prop :=
 ∃ r,(gv=true→ob∧PFn C f args r)∧(g=none∨(if r.scal then [] else rw)=[]∧r.isVV=true)∧((st.app d (zT3 g gv r) (if r.scal then [] else rw)).mem=st.mem∧(st.app d (zT3 g gv r) (if r.scal then [] else rw)).nx=st.nx)∧zba6 C ps (st.app d (zT3 g gv r) (if r.scal then [] else rw)) K
theorem zcN2 {C:Cx} {f:FuncId} {d:Option Nat} {g:Option (Nat×Bool)} {gv:Bool} {ob:Prop} {args:List A} {rw:List (Nat×MS)} {ps:List POp} {st:St} {K:St→Prop} {r:A}
  (hf:gv=true→PFn C f args r) (h:zba6 C ps (st.app d (zT3 g gv r) []) K)
  (ho:gv=true→ob:=by intro; trivial) (hg:g=none∨(if r.scal then [] else rw)=[]∧r.isVV=true:=by first|exact .inl rfl|exact .inr ⟨rfl,rfl⟩) (hn:(if r.scal then [] else rw)=[]:=by rfl):zbf3 C f d g gv ob args rw ps st K:=⟨r,fun e=>⟨ho e,hf e⟩,hg,by rw [hn]; exact ⟨rfl,rfl⟩,by rw [hn]; exact h⟩
theorem zcN3 (C:Cx) (st:St) (K:St→Prop):zba6 C [] st K=K st:=rfl
theorem zcz2 (C:Cx) (d:Option Nat) (g:Option (Nat×Bool)) (po:PO) (xs:List PX) (ps:List POp) (st:St) (K:St→Prop) :
  zba6 C (⟨d,g,po,xs⟩ :: ps) st K=(match po with
   | .call f=>(match zR5 st g with
    | none=>False
    | some gv=>zbf3 C f d g gv (zau3 C st xs∧zH5 st.m (zs8 C st xs)) (zS3 st.m (zs8 C st xs)) (zT2 st.m (zH6 (zs8 C st xs))) ps st K)
   | .callv=>(match zR5 st g with
    | none=>False
    | some gv=>(match zs8 C st xs with
     | .clo f caps :: vals=>zbf3 C f d g gv (zau3 C st xs∧zac3 C.P f=true∧zH5 st.m (vals++caps)) (zS3 st.m (vals++caps)) (zT2 st.m (zH6 (vals++caps))) ps st K
     | _=>False))
   | po=>aop C ⟨d,g,po,xs⟩ st fun st'=>(st'.mem=st.mem∧st'.nx=st.nx)∧zba6 C ps st' K):=by
 cases po with
 | call f =>
  simp only [zba6,aop,zbf3]
  cases zR5 st g with
  | none=>rfl
  | some gv=>simp only [zM9,fO]
 | callv =>
  simp only [zba6,aop]
  cases zR5 st g with
  | none=>rfl
  | some gv =>
   simp only
   generalize zs8 C st xs=vv
   rcases vv with _|⟨x,vs⟩
   ·rfl
   ·cases x <;> first|rfl|(simp only [zbf3,zM9,fO])
 | _=>rfl
def zbf4 (C:Cx) (an:List (List Nat)) (f:FuncId) (d:Option Nat) (g:Option (Nat×Bool)) (gv:Bool) (ob:Prop) (args:List A) (rw:List (Nat×MS)) (ids:List Nat) (cok:Bool) (ps:List POp) (st:St) (log:List (List Nat×List Nat)) (K:St→Prop):Prop :=
 ∃ r,(gv=true→ob∧PFn C f args r)∧(g=none∨(if r.scal then [] else rw)=[]∧r.isVV=true)∧zba7 (an.getD log.length []) 0 log ids ((if r.scal then [] else rw).map (·.1))=true∧cok=true ∧
  zaz7 C an ps (st.app d (zT3 g gv r) (if r.scal then [] else rw)) (log++[(ids,(if r.scal then [] else rw).map (·.1))]) K
theorem zcN4 {C:Cx} {an:List (List Nat)} {f:FuncId} {d:Option Nat} {g:Option (Nat×Bool)} {gv:Bool} {ob:Prop} {args:List A} {rw:List (Nat×MS)} {ids:List Nat} {cok:Bool} {ps:List POp} {st:St} {log:List (List Nat×List Nat)} {K:St→Prop} {r:A}
  (hf:gv=true→PFn C f args r) (h:zba7 (an.getD log.length []) 0 log ids ((if r.scal then [] else rw).map (·.1))=true∧cok=true∧zaz7 C an ps (st.app d (zT3 g gv r) (if r.scal then [] else rw)) (log++[(ids,(if r.scal then [] else rw).map (·.1))]) K)
  (ho:gv=true→ob:=by intro; trivial) (hg:g=none∨(if r.scal then [] else rw)=[]∧r.isVV=true:=by first|exact .inl rfl|exact .inr ⟨rfl,rfl⟩):zbf4 C an f d g gv ob args rw ids cok ps st log K:=⟨r,fun e=>⟨ho e,hf e⟩,hg,h.1,h.2.1,h.2.2⟩
def zaI7 (C:Cx) (an:List (List Nat)) (f:FuncId) (d:Option Nat) (g:Option (Nat×Bool)) (gv:Bool) (ob:Prop) (vals:List A) (ids:List Nat) (cok:Bool) (ps:List POp) (st:St) (log:List (List Nat×List Nat)) (K:St→Prop):Prop :=
 zaO5 C st.m st.nx f vals g gv ob (fun n=>∀ x,st.nx≤x→x < st.nx+n→st.m x=.fresh) fun v mw=>zba7 (an.getD log.length []) 0 log ids (mw.map (·.1))=true∧cok=true∧zaz7 C an ps (st.app d v mw) (log++[(ids,mw.map (·.1))]) K
theorem zcz3 {C:Cx} {an:List (List Nat)} {f:FuncId} {d:Option Nat} {ob:Prop} {vals:List A} {ids:List Nat} {cok:Bool} {ps:List POp} {st:St} {log:List (List Nat×List Nat)} {K:St→Prop} (l:List (Nat×Nat)) {az:List A} {ms ms':List (Nat×Row)} {k k':Nat} {r:A}
  (hf:MFn C f az ms k r ms' k') (hok:okM st.m st.nx l vals az ms k k')
  (h:zba7 (an.getD log.length []) 0 log ids ((mwM st.m (l++newL k st.nx (k' - k)) vals az ms ms' k k').map (·.1))=true∧cok=true∧zaz7 C an ps (st.app d (renR (l++newL k st.nx (k' - k)) r) (mwM st.m (l++newL k st.nx (k' - k)) vals az ms ms' k k')) (log++[(ids,(mwM st.m (l++newL k st.nx (k' - k)) vals az ms ms' k k').map (·.1))]) K)
  (ho:ob:=by trivial) (hr:zbf1 r=true:=by rfl):zaI7 C an f d none true ob vals ids cok ps st log K :=
 ⟨l,az,ms,k,r,ms',k',fun _=>⟨ho,hf,hok,fun x hx _=>zcg6 st x hx⟩,(fun h=>nomatch h),.inl rfl,zbf2 hr,h⟩
theorem zcN5 (C:Cx) (an:List (List Nat)) (st:St) (log:List (List Nat×List Nat)) (K:St→Prop):zaz7 C an [] st log K=K st:=rfl
theorem zcz4 (C:Cx) (an:List (List Nat)) (d:Option Nat) (g:Option (Nat×Bool)) (po:PO) (xs:List PX) (ps:List POp) (st:St) (log:List (List Nat×List Nat)) (K:St→Prop) :
  zaz7 C an (⟨d,g,po,xs⟩ :: ps) st log K=(match po with
   | .call f=>(match zP8 st.slot g with
    | none=>False
    | some gv=>zbf4 C an f d g gv (gdsF C st.slot xs∧zH5 st.m (zM2 C st.slot xs)) (zS3 st.m (zM2 C st.slot xs)) (zT2 st.m (zH6 (zM2 C st.slot xs))) (zE7 (zs8 C st xs)) (zaX3 (zs8 C st xs)) ps st log K)
   | .callv=>(match zP8 st.slot g with
    | none=>False
    | some gv=>(match zM2 C st.slot xs with
     | .clo f caps :: vals=>zbf4 C an f d g gv (gdsF C st.slot xs∧zac3 C.P f=true∧zH5 st.m (vals++caps)) (zS3 st.m (vals++caps)) (zT2 st.m (zH6 (vals++caps))) (zE7 (zs8 C st xs)) (zaX3 (zs8 C st xs)) ps st log K
     | _=>False))
   | .callm f=>(match zP8 st.slot g with
    | none=>False
    | some gv=>zaI7 C an f d g gv (gdsF C st.slot xs) (zM2 C st.slot xs) (zE7 (zs8 C st xs)) (zaX3 (zs8 C st xs)) ps st log K)
   | .callvm=>(match zP8 st.slot g with
    | none=>False
    | some gv=>(match zM2 C st.slot xs with
     | .clo f caps :: vals=>zaI7 C an f d g gv (gdsF C st.slot xs∧zac3 C.P f=true) (vals++caps) (zE7 (zs8 C st xs)) (zaX3 (zs8 C st xs)) ps st log K
     | _=>False))
   | po=>aopS C ⟨d,g,po,xs⟩ st.toS st.nx fun v mw=>zba7 (an.getD log.length []) 0 log (zE7 (zs8 C st xs)) (mw.map (·.1))=true∧zaX3 (zs8 C st xs)=true ∧
     zaz7 C an ps (st.app d v mw) (log++[(zE7 (zs8 C st xs),mw.map (·.1))]) K):=by
 cases po with
 | call f =>
  simp only [zaz7,aopS,zbf4,St.toS]
  cases zP8 st.slot g with
  | none=>rfl
  | some gv=>simp only [zM9,fO]
 | callv =>
  simp only [zaz7,aopS,St.toS]
  cases zP8 st.slot g with
  | none=>rfl
  | some gv =>
   simp only
   generalize zM2 C st.slot xs=vv
   rcases vv with _|⟨x,vs⟩
   ·rfl
   ·cases x <;> first|rfl|(simp only [zbf4,zM9,fO])
 | callm f =>
  simp only [zaz7,aopS,zaI7,St.toS]
  cases zP8 st.slot g with
  | none=>rfl
  | some gv=>rfl
 | callvm =>
  simp only [zaz7,aopS,St.toS]
  cases zP8 st.slot g with
  | none=>rfl
  | some gv =>
   simp only
   generalize zM2 C st.slot xs=vv
   rcases vv with _|⟨x,vs⟩
   ·rfl
   ·cases x <;> first|rfl|(simp only [zaI7])
 | _=>rfl
attribute [go_sem ↓] aop aopS
attribute [go_sem] zcY8 zcN1 zcN3 zcz2 zcN5 zcz4 zP8 zM2 gdsF St.toS zE7 idsA zbn5 zaS7 zaX3 zbf0 A.flatCap okM zbu2 argM A.hands zds1 zcG5 fzM zca7 zbD9 newL zag1 mwM entM zbu3 MS.like renR ren0 zcn1 resL zbE2 zbM8 zR5 St.slot St.m look zs8 zau3 xv A.nc A.gd ev zbZ9 zaz6 zaH7 zan1 A.cells A.isV A.isK A.isStr A.isVV allV allK zw7 laid zbK9 zaW5
 PO.lax nilQ zT3 St.app putF putM nxt rm zca6 St.drop zM9 zS3 zH5 frz frz1 zaE1 zaw7 zaw8 zR4 zH6 zT2 A.scal A.scal1 A.scal2 zu8 zbM0 zn5 A.pure1 pureEs
 zp4 LK.fits eqA eq1 glob zI8 zcb6 allG zba5 resA resG zcb5 Le leF leM rho ren ren1 zaO4 idOk zbn3 idEs zaK1
def SeqQ (C:Cx) (E:Env) (y:PC) (Q:Exit→St→Prop):Exit→St→Prop:=fun e s=>match e with|.normal=>AW C E y Q s|e=>Q e s
def BlkQ (id:Nat) (Q:Exit→St→Prop):Exit→St→Prop:=fun e s=>match e with|.exit i=>(if i=id then Q .normal s else Q (.exit i) s)|e=>Q e s
section
variable {C:Cx} {E:Env} {Q:Exit→St→Prop} {st:St}
theorem za2 {x y:PC} (h:AW C E x (SeqQ C E y Q) st):AW C E (.seq x y) Q st:=zdu4 h
theorem zB5 {id:Nat} {c:PC} (h:AW C E c (BlkQ id Q) st):AW C E (.block id c) Q st:=zbM5 h
theorem zco7 {y:PC} (s:St):SeqQ C E y Q .normal s=AW C E y Q s:=rfl
theorem zcY9 {y:PC} (s:St):SeqQ C E y Q .ret s=Q .ret s:=rfl
theorem zcN6 {y:PC} (i:Nat) (s:St):SeqQ C E y Q (.exit i) s=Q (.exit i) s:=rfl
theorem zco8 (i:Nat) (s:St):BlkQ i Q .normal s=Q .normal s:=rfl
theorem zcZ0 (i:Nat) (s:St):BlkQ i Q .ret s=Q .ret s:=rfl
theorem zcN7 (i j:Nat) (s:St):BlkQ i Q (.exit j) s=if j=i then Q .normal s else Q (.exit j) s:=rfl
theorem zcZ1 (rs:List RX) (r:A) (fr:List (Nat×A)) (m:List (Nat×Row)) (n:Nat):Post rs r .ret ⟨fr,m,n⟩=zcb6 ⟨fr,m,n⟩ rs r:=rfl
theorem zco9 (rs:List RX) (r:A) (fr:List (Nat×A)) (m:List (Nat×Row)) (n:Nat):Post rs r .normal ⟨fr,m,n⟩=zcb6 ⟨fr,m,n⟩ rs r:=rfl
theorem zcN8 (k:Nat) (rs:List RX) (rl:List A) (ms':List (Nat×Row)) (k':Nat) (fr:List (Nat×A)) (m:List (Nat×Row)) (n:Nat):zcn7 k rs rl ms' k' .ret ⟨fr,m,n⟩=zaX0 k ⟨fr,m,n⟩ rs rl ms' k':=rfl
theorem zch3 (k:Nat) (rs:List RX) (rl:List A) (ms':List (Nat×Row)) (k':Nat) (fr:List (Nat×A)) (m:List (Nat×Row)) (n:Nat):zcn7 k rs rl ms' k' .normal ⟨fr,m,n⟩=zaX0 k ⟨fr,m,n⟩ rs rl ms' k':=rfl
attribute [go_sem] zcN8 zch3 St.gh St.ghOk St.fz St.fzOk St.own0 St.ownb St.ownbOk zbu8 zaX7 zcY6 St.unfs St.cast St.unf zbO3 zaP0 unfA memN fzA fzCs fzV fzEs fzFr zco4 zcc0 zbz4 zco5 zbJ7 zcg9 zch0 zbJ8
attribute [go_sem] zco7 zcY9 zcN6 zco8 zcZ0 zcN7 zcZ1 zco9
end
theorem zbO5 (n:Nat):zP6 n []:=by intro c hc; cases hc
theorem zcp0 (n:Nat) (a:List A) (b:List (List A)):zP6 n (a :: b) ↔ a.length=n∧zP6 n b:=by
 simp only [zP6,cF]
 exact ⟨fun h=>⟨h a (.inl rfl),fun c hc=>h c (.inr hc)⟩,fun ⟨h1,h2⟩ c hc=>hc.elim (fun e=>e ▸ h1) (h2 c)⟩
theorem zbv0:zaq5 []:=by intro c hc; cases hc
attribute [go_sem] dR Nat.add_zero jJ dD Nat.lt_add_one fP Int.toNat_zero Int.toNat_natCast Int.natCast_zero imp_self cV gD kB iU and_false or_true true_or jM iO forall_const true_implies iW eR cB cA eq_self ne_eq jE gX cH eV eK gR cK dE Bool.not_not bS fR cond_true cond_false Bool.cond_true_left Bool.cond_true_right Bool.cond_false_left Bool.cond_false_right cC cJ Option.getD_some Option.getD_none Option.map_some Option.map_none Option.bind_some Option.isSome_some Option.isNone_none List.length_cons List.length_nil dS bX List.all_nil List.all_cons List.nil_append dT jV dZ List.set_cons_zero List.set_nil List.getD_cons_zero gE dI List.headD_cons List.contains_nil List.take_nil List.drop_nil beq_self_eq_true
attribute [simp] zbO5 zbv0
attribute [go_sem] zbO5 zcp0 zbv0
@[go_sem] theorem zdn6 (l:List Int):u8s (l.map fun n=>[A.int .u8 n])=some l:=by
 induction l with
 | nil=>rfl
 | cons n l ih=>simp only [dZ,u8s,ih,Option.map_some]
@[go_sem] theorem zdA2 (l:List UInt8):(l.map fun b=>[A.int .u8 (b.toNat:Int)])=(l.map fun b=>(b.toNat:Int)).map (eI .u8):=by
 rw [jA]; rfl
@[go_sem] theorem zdD0 (l:List Int):u8s (l.map (eI .u8))=some l:=zdn6 l
@[go_sem] theorem zdF4 (q:Nat×MS) (l r:List (Nat×MS)):q :: l++r=q :: (l++r):=rfl
@[go_sem] theorem zdF5:([]:List A).flatMap zR4=[]:=rfl
@[go_sem] theorem zdF6 (x lo n:Nat) (cs:List A):(A.own x lo n :: cs).flatMap zR4=x :: cs.flatMap zR4:=rfl
@[go_sem] theorem zdF7 (s:ByteArray) (cs:List A):(A.str s :: cs).flatMap zR4=cs.flatMap zR4:=rfl
@[go_sem] theorem zdF8 (k:IntKind) (n:Int) (cs:List A):(A.int k n :: cs).flatMap zR4=cs.flatMap zR4:=rfl
@[go_sem] theorem zdE8 (b:Bool) (cs:List A):(A.bool b :: cs).flatMap zR4=cs.flatMap zR4:=rfl
@[go_sem] theorem zee8 (l:List (List A)) (cs:List A):(A.sl l :: cs).flatMap zR4=cs.flatMap zR4:=rfl
attribute [go_sem] List.isEmpty_nil List.isEmpty_cons jN List.forall_mem_cons fS
@[go_sem ↓] theorem zdD1 (r:A):(if r.scal=true then ([]:List (Nat×MS)) else [])=[]:=jN _
@[go_sem] theorem zdE9 (c x:A) (cs xs:List A):upd (c :: cs) 0 (x :: xs)=x :: upd cs 0 xs:=by simp [upd,eE]
@[go_sem] theorem zdF0 (cs:List A) (n:Nat):upd cs n []=cs:=by simp [upd]
@[go_sem] theorem zdF9 (c:A) (cs new:List A) (n:Nat):upd (c :: cs) (n+1) new=c :: upd cs n new:=by simp [upd,Nat.add_right_comm]
@[go_sem] theorem zdF1 (c:A) (cs:List A) (k:Nat):sub (c :: cs) 0 (k+1)=c :: sub cs 0 k:=by simp [sub]
@[go_sem] theorem zdF2 (cs:List A) (n:Nat):sub cs n 0=[]:=by simp [sub]
@[go_sem] theorem zdG0 (c:A) (cs:List A) (n k:Nat):sub (c :: cs) (n+1) k=sub cs n k:=by simp [sub]
def gd {α:Type} (p:Prop) [Decidable p] (k:Option α):Option α:=if p then k else none
theorem zd5 {α:Type} {p:Prop} [Decidable p] {k:Option α} {r:α} (h:gd p k=some r):p∧k=some r:=by
 unfold gd at h; split at h
 ·exact ⟨by assumption,h⟩
 ·cases h
theorem zg6 {α:Type} {p:Prop} [Decidable p] {k:Option α} (h:p):gd p k=k:=bV h
theorem zc9 {α β:Type} {m:Option α} {f:α→Option β} {r:β} (h:m.bind f=some r):∃ v,m=some v∧f v=some r:=by
 cases m with
 | none=>cases h
 | some v=>exact ⟨v,rfl,h⟩
theorem zaH9 {α:Type} {c:Bool} {x y r:α} (hb:c=true) (h:(if c=true then x else y)=r):x=r:=by rw [bV hb] at h; exact h
theorem zds2 {α:Type} {c:Bool} {x y r:α} (hb:c=false) (h:(if c=true then x else y)=r):y=r:=by subst hb; exact h
def iter {G X:Type} (body:G→Option (G⊕X)):Nat→G→Option X
 | 0,_=>none
 | n+1,g=>match body g with
  | none=>none
  | some (.inl g')=>iter body n g'
  | some (.inr x)=>some x
theorem zbz7 {G X:Type} {body:G→Option (G⊕X)} {x:X}:∀ {n m:Nat} {g:G},iter body n g=some x→n≤m→iter body m g=some x
 | 0,_,_,h,_=>by cases h
 | n+1,0,_,_,hm=>by omega
 | n+1,m+1,g,h,hm=>by
  simp only [iter] at h ⊢
  cases hb:body g with
  | none=>rw [hb] at h; cases h
  | some y =>
   rw [hb] at h
   cases y with
   | inl g'=>exact zbz7 (n:=n) (m:=m) h (by omega)
   | inr x'=>exact h
open Classical in
noncomputable def zc0 {G X:Type} (body:G→Option (G⊕X)) (g:G):Option X :=
 if h:∃ n x,iter body n g=some x then some (Classical.choose (fG h)) else none
theorem zau6 {G X:Type} {body:G→Option (G⊕X)} {g:G} {x:X}:zc0 body g=some x ↔ ∃ n,iter body n g=some x:=by
 unfold zc0
 constructor
 ·intro h
  split at h
  ·rename_i hh
   cases h
   exact ⟨_,fG (fG hh)⟩
  ·cases h
 ·rintro ⟨n,hn⟩
  have hh:∃ n x,iter body n g=some x:=⟨n,x,hn⟩
  rw [jS hh]
  have:=fG (fG hh)
  have h1:=zbz7 this (Nat.le_add_right _ n)
  have h2:=zbz7 hn (Nat.le_add_left n (Classical.choose hh))
  rw [h1] at h2
  exact h2
theorem zf6 {G X:Type} (body:G→Option (G⊕X)) (g:G):zc0 body g=match body g with
  | none=>none
  | some (.inl g')=>zc0 body g'
  | some (.inr x)=>some x:=by
 cases hb:body g with
 | none =>
  simp only
  cases h:zc0 body g with
  | none=>rfl
  | some x =>
   obtain ⟨n,hn⟩:=zau6.1 h
   cases n with
   | zero=>cases hn
   | succ n=>simp only [iter,hb] at hn; cases hn
 | some y =>
  cases y with
  | inr x=>exact zau6.2 ⟨1,by simp [iter,hb]⟩
  | inl g' =>
   simp only
   cases h:zc0 body g' with
   | some x =>
    obtain ⟨n,hn⟩:=zau6.1 h
    exact zau6.2 ⟨n+1,by simp only [iter,hb]; exact hn⟩
   | none =>
    cases h2:zc0 body g with
    | none=>rfl
    | some x =>
     obtain ⟨n,hn⟩:=zau6.1 h2
     cases n with
     | zero=>cases hn
     | succ n =>
      simp only [iter,hb] at hn
      rw [zau6.2 ⟨n,hn⟩] at h
      cases h
def zaS8 (E:Env) {V:Type} (J:V→St) (P:V→Prop) (s:St):Prop:=∃ v,P v∧St.le E s (J v)
theorem zcp1 {E:Env} {V:Type} {J:V→St} {P:V→Prop} {s:St} {k:Nat} (hK:E.k0=k) (v:V) (h:P v) (l:List (Nat×Nat)) (hl:Le l s (J v)∧zaE2 k l (J v).nx=true):zaS8 E J P s:=⟨v,h,St.le_of l hl.1 (by rw [hK]; exact hl.2)⟩
def zbn6 (E:Env) {V:Type} (J:V→St) (P:V→Prop) (Q:Exit→St→Prop):Exit→St→Prop:=fun e s=>match e with|.normal=>zaS8 E J P s|e=>Q e s
def BlkJ (E:Env) {V:Type} (id:Nat) (J:V→St) (P:V→Prop) (Q:Exit→St→Prop):Exit→St→Prop:=fun e s=>match e with
 | .normal=>zaS8 E J P s
 | .exit i=>if i=id then zaS8 E J P s else Q (.exit i) s
 | e=>Q e s
def zcp2 (E:Env) {G X:Type} (I:G→St) (y:G⊕X) (s:St):Prop:=∃ g',y=.inl g'∧St.le E s (I g')
theorem zcp3 {E:Env} {G X:Type} {I:G→St} {g':G} {s:St} {k:Nat} (hK:E.k0=k) (l:List (Nat×Nat)) (hl:Le l s (I g')∧zaE2 k l (I g').nx=true):zcp2 (X:=X) E I (.inl g') s:=⟨g',rfl,St.le_of l hl.1 (by rw [hK]; exact hl.2)⟩
def zbF4 (E:Env) {G X:Type} (I:G→St) (y:G⊕X) (Q:Exit→St→Prop):Exit→St→Prop:=fun e s=>match e with|.normal=>zcp2 E I y s|e=>Q e s
section
variable {C:Cx} {E:Env} {Q:Exit→St→Prop} {st:St}
theorem AW.join {V:Type} {J:V→St} {c:PC} {Q':Exit→St→Prop} (h:AW C E c Q' st)
  (hq:∀ e s,Q' e s→Q e s∨∃ v,St.le E s (J v)∧Q e (J v)):AW C E c Q st :=
 fun code hc a w hs=>wp_mono (h code hc a w hs) fun e a' w' ⟨st',h1,h2⟩=>by
  rcases hq e st' h1 with h3|⟨v,h3,h4⟩
  ·exact ⟨st',h3,h2⟩
  ·exact ⟨J v,h4,h3 a' w' h2⟩
theorem zdn7 {x:PX} {p q:PC} {V:Type} (J:V→St) (P:V→Prop) {b:Bool} (hx:xv C.G st.slot x=.bool b) (hG:E.G=C.G) (hk:∀ v,P v→Q .normal (J v))
  (ht:b=true→AW C E p (zbn6 E J P Q) st) (hf:b=false→AW C E q (zbn6 E J P Q) st):AW C E (.cond x p q) Q st:=by
 have key:∀ c,AW C E c (zbn6 E J P Q) st→AW C E c Q st:=fun c h=>h.join (J:=J) fun e s h=>by
  cases e with
  | normal=>obtain ⟨v,h1,h2⟩:=h; exact .inr ⟨v,h2,hk v h1⟩
  | _=>exact .inl h
 exact zbJ5 hx hG (fun h=>key _ (ht h)) (fun h=>key _ (hf h))
theorem zB6 {id:Nat} {c:PC} {V:Type} (J:V→St) (P:V→Prop) (hk:∀ v,P v→Q .normal (J v)) (h:AW C E c (BlkJ E id J P Q) st):AW C E (.block id c) Q st:=by
 refine zbM5 (h.join (J:=J) fun e s h=>?_)
 cases e with
 | normal=>obtain ⟨v,h1,h2⟩:=h; exact .inr ⟨v,h2,hk v h1⟩
 | exit i =>
  simp only [BlkJ] at h ⊢
  split at h
  ·obtain ⟨v,h1,h2⟩:=h
   rename_i hi
   exact .inr ⟨v,h2,by rw [bV hi]; exact hk v h1⟩
  ·rename_i hi; exact .inl (by rw [bU hi]; exact h)
 | _=>exact .inl h
def zcp4 (E:Env) {V:Type} (id:Nat) (J:V→St) (P:V→Prop) (Q:Exit→St→Prop):Exit→St→Prop:=fun e s=>match e with
 | .normal=>zaS8 E J P s∨Q .normal s
 | .exit i=>if i=id then (zaS8 E J P s∨Q .normal s) else Q (.exit i) s
 | e=>Q e s
theorem zcc3 {id:Nat} {c:PC} {V:Type} (J:V→St) (P:V→Prop) (hk:∀ v,P v→Q .normal (J v)) (h:AW C E c (zcp4 E id J P Q) st):AW C E (.block id c) Q st:=by
 refine zbM5 (h.join (J:=J) fun e s h=>?_)
 cases e with
 | normal =>
  rcases h with ⟨v,h1,h2⟩|h
  ·exact .inr ⟨v,h2,hk v h1⟩
  ·exact .inl h
 | exit i =>
  simp only [zcp4] at h ⊢
  split at h
  ·rename_i hi
   rcases h with ⟨v,h1,h2⟩|h
   ·exact .inr ⟨v,h2,by rw [bV hi]; exact hk v h1⟩
   ·exact .inl (by rw [bV hi]; exact h)
  ·rename_i hi; exact .inl (by rw [bU hi]; exact h)
 | _=>exact .inl h
theorem zch4 {c:PC} {G X:Type} {body:G→Option (G⊕X)} {g0:G} {x:X} (I:G→St) {k:Nat} (hK:E.k0=k) (l:List (Nat×Nat)) (hx:zc0 body g0=some x) (hle:Le l st (I g0)∧zaE2 k l (I g0).nx=true)
  (h:∀ g y,body g=some y→(∀ x',y=.inr x'→x'=x)→AW C E c (zbF4 E I y Q) (I g)):AW C E (.loop c) Q st:=by
 obtain ⟨n,hn⟩:=zau6.1 hx
 refine zdm8 (G:={ p:Nat×G // iter body p.1 p.2=some x }) (fun p=>I p.1.2) (fun _=>True) (fun p=>p.1.1) ⟨(n,g0),hn⟩ trivial (St.le_of l hle.1 (by rw [hK]; exact hle.2)) fun ⟨⟨m,g⟩,hm⟩ _=>?_
 cases m with
 | zero=>cases hm
 | succ m =>
  simp only [iter] at hm
  cases hb:body g with
  | none=>rw [hb] at hm; cases hm
  | some y =>
   rw [hb] at hm
   refine (h g y hb fun x' e=>by subst e; exact dU hm).mono fun e s hs=>?_
   cases e with
   | normal =>
    obtain ⟨g',rfl,h2⟩:=hs
    exact ⟨⟨(m,g'),hm⟩,trivial,h2,dW m⟩
   | _=>exact hs
def zcZ2 (E:Env) {G X β:Type} (I:G→St) (body:G→Option (G⊕X)) (kk:X→Option β) (R:Option β) (s:St):Prop:=∃ g',(zc0 body g').bind kk=R∧St.le E s (I g')
def zcH9 (E:Env) {G X β:Type} (I:G→St) (body:G→Option (G⊕X)) (kk:X→Option β) (R:Option β) (Q:Exit→St→Prop):Exit→St→Prop:=fun e s=>match e with|.normal=>zcZ2 E I body kk R s|e=>Q e s
theorem zch5 {G X β:Type} (I:G→St) (body:G→Option (G⊕X)) (kk:X→Option β) (R:Option β) (s:St):zcH9 E I body kk R Q .normal s=zcZ2 E I body kk R s:=rfl
theorem zcN9 {G X β:Type} (I:G→St) (body:G→Option (G⊕X)) (kk:X→Option β) (R:Option β) (s:St):zcH9 E I body kk R Q .ret s=Q .ret s:=rfl
theorem zcz5 {G X β:Type} (I:G→St) (body:G→Option (G⊕X)) (kk:X→Option β) (R:Option β) (i:Nat) (s:St):zcH9 E I body kk R Q (.exit i) s=Q (.exit i) s:=rfl
theorem zcZ3 {c:PC} {G X β:Type} {body:G→Option (G⊕X)} {kk:X→Option β} {r:β} (I:G→St) {k:Nat} (hK:E.k0=k) (h1:AW C E c (zcH9 E I body kk (some r) Q) st)
  (h:∀ x,kk x=some r→∀ g y,body g=some y→(∀ x',y=.inr x'→x'=x)→AW C E c (zbF4 E I y Q) (I g)):AW C E (.loop c) Q st:=by
 refine zdm9 (G:={ p:Nat×G // ∃ x,iter body p.1 p.2=some x∧kk x=some r }) (fun p=>I p.1.2) (fun _=>True) (fun p=>p.1.1) (fun ⟨⟨m,g⟩,x,hm,hx⟩ _=>?_) (h1.mono fun e s hs=>?_)
 ·cases m with
  | zero=>cases hm
  | succ m =>
   simp only [iter] at hm
   cases hb:body g with
   | none=>rw [hb] at hm; cases hm
   | some y =>
    rw [hb] at hm
    refine (h x hx g y hb fun x' e=>by subst e; exact dU hm).mono fun e s hs=>?_
    cases e with
    | normal =>
     obtain ⟨g',rfl,h2⟩:=hs
     exact ⟨⟨(m,g'),x,hm,hx⟩,trivial,h2,dW m⟩
    | _=>exact hs
 ·cases e with
  | normal =>
   obtain ⟨g',h2,h3⟩:=hs
   obtain ⟨x,h4,h5⟩:=zc9 h2
   obtain ⟨n,hn⟩:=zau6.1 h4
   exact ⟨⟨(n,g'),x,hn,h5⟩,trivial,h3⟩
  | _=>exact hs
theorem zch6 {V:Type} (J:V→St) (P:V→Prop) (s:St):zbn6 E J P Q .normal s=zaS8 E J P s:=rfl
theorem zcO0 {V:Type} (J:V→St) (P:V→Prop) (s:St):zbn6 E J P Q .ret s=Q .ret s:=rfl
theorem zcz6 {V:Type} (J:V→St) (P:V→Prop) (i:Nat) (s:St):zbn6 E J P Q (.exit i) s=Q (.exit i) s:=rfl
theorem zcp5 {V:Type} (id:Nat) (J:V→St) (P:V→Prop) (s:St):BlkJ E id J P Q .normal s=zaS8 E J P s:=rfl
theorem zcZ4 {V:Type} (id:Nat) (J:V→St) (P:V→Prop) (s:St):BlkJ E id J P Q .ret s=Q .ret s:=rfl
theorem zcO1 {V:Type} (id:Nat) (J:V→St) (P:V→Prop) (i:Nat) (s:St):BlkJ E id J P Q (.exit i) s=if i=id then zaS8 E J P s else Q (.exit i) s:=rfl
theorem zch7 {G X:Type} (I:G→St) (y:G⊕X) (s:St):zbF4 E I y Q .normal s=zcp2 E I y s:=rfl
theorem zcO2 {G X:Type} (I:G→St) (y:G⊕X) (s:St):zbF4 E I y Q .ret s=Q .ret s:=rfl
theorem zcz7 {G X:Type} (I:G→St) (y:G⊕X) (i:Nat) (s:St):zbF4 E I y Q (.exit i) s=Q (.exit i) s:=rfl
theorem zch8 {V:Type} (id:Nat) (J:V→St) (P:V→Prop) (s:St):zcp4 E id J P Q .normal s=(zaS8 E J P s∨Q .normal s):=rfl
theorem zcO3 {V:Type} (id:Nat) (J:V→St) (P:V→Prop) (s:St):zcp4 E id J P Q .ret s=Q .ret s:=rfl
theorem zcz8 {V:Type} (id:Nat) (J:V→St) (P:V→Prop) (i:Nat) (s:St):zcp4 E id J P Q (.exit i) s=if i=id then (zaS8 E J P s∨Q .normal s) else Q (.exit i) s:=rfl
attribute [go_sem] zch8 zcO3 zcz8 zch5 zcN9 zcz5 zch6 zcO0 zcz6 zcp5 zcZ4 zcO1 zch7 zcO2 zcz7
end
def unfull:A→A
 | .full es=>.sl es
 | a=>a
theorem PFn.unfull {C:Cx} {f:FuncId} {az:List A} {r:A} (h:PFn C f (az.map unfull) r):PFn C f az r:=by
 intro w W vs hg hW hl ha
 refine h w W vs hg hW (by simpa using hl) fun i v a hv hx=>?_
 rw [cO] at hx
 cases hy:az[i]? with
 | none=>rw [hy] at hx; cases hx
 | some b =>
  rw [hy] at hx; cases hx
  have:=ha i v b hv hy
  cases b with
  | full es =>
   have h2:RepC w W v (.full es):=this
   cases h2 with
   | full a n es h=>exact h
  | _=>exact this
def unfullA:A→A
 | .full es=>.sl es
 | .agg cs=>.agg (zaP0 cs)
 | a=>a
theorem PFn.unfullA {C:Cx} {f:FuncId} {az az':List A} {r:A} (h:PFn C f az' r) (e:az.map Ab.unfullA=az':=by first|rfl|(simp [Ab.unfullA,zaP0,unfA]; done)):PFn C f az r:=by
 subst e
 intro w W vs hg hW hl ha
 refine h w W vs hg hW (by simpa using hl) fun i v a hv hx=>?_
 rw [cO] at hx
 cases hy:az[i]? with
 | none=>rw [hy] at hx; cases hx
 | some b =>
  rw [hy] at hx; cases hx
  have:=ha i v b hv hy
  cases b with
  | full es =>
   have h2:RepC w W v (.full es):=this
   exact h2.of_full.1
  | agg cs =>
   obtain ⟨us,hu,hl2,hr⟩:=this
   refine ⟨us,hu,by rw [zbz6]; exact hl2,fun i u c hu' hc=>?_⟩
   rw [zbO4] at hc
   obtain ⟨c0,hc0,rfl⟩:=cG.1 hc
   exact zcH8 (hr i u c0 hu' hc0)
  | _=>exact this
@[go_sem] theorem zdG1 (a b:Nat):Nat.min a b=min a b:=rfl
attribute [go_sem] Ab.unfull zaE2 fixL
attribute [go_sem] Int.cast_ofNat_Int eH fY fX Nat.min_self
def Imp (q p:Prop):Prop:=q→p
theorem Imp.and {q a b:Prop} (ha:a) (h:Imp q b):Imp q (a∧b):=fun hq=>⟨ha,h hq⟩
theorem Imp.refl {q:Prop}:Imp q q:=fun h=>h
theorem im {q p:Prop} (w:Imp q p:=by (simp only [go_sem,↓reduceIte,reduceCtorEq,Nat.reduceEqDiff,Nat.reduceAdd,Nat.reduceSub,Nat.reduceMul,Nat.reduceLeDiff,Nat.reduceLT,Int.reduceLE,Int.reduceLT,Int.reduceToNat,Int.reduceNeg]; (repeat ((with_reducible apply Imp.and); focus (first|assumption|omega|rfl|(simp; done)|(simp; omega)|(intros; simp_all; done)|grind))); exact Imp.refl)):Imp q p:=w
theorem i0 {q p:Prop} (w:Imp q p:=by (simp only [go_sem,↓reduceIte,reduceCtorEq,Nat.reduceEqDiff,Nat.reduceAdd,Nat.reduceSub,Nat.reduceMul,Nat.reduceLeDiff,Nat.reduceLT,Int.reduceLE,Int.reduceLT,Int.reduceToNat,Int.reduceNeg]; exact Imp.refl)):Imp q p:=w
theorem lw {p:Prop} (w:p:=by (simp only [go_sem,↓reduceIte,reduceCtorEq,Nat.reduceEqDiff,Nat.reduceAdd,Nat.reduceSub,Nat.reduceMul,Nat.reduceLeDiff,Nat.reduceLT,Int.reduceLE,Int.reduceLT,Int.reduceToNat,Int.reduceNeg]; first|(done)|trivial|(simp; done)|(repeat' (first|rfl|trivial|omega|(simp; done)|(simp; omega)|(congr 1; omega)|(congr 1; simp only [bX,dB,eC,gI]; omega)|apply And.intro)))):p:=w
section
variable {C:Cx} {E:Env} {Q:Exit→St→Prop} {st:St} {q:Prop}
theorem g_st {p:Prop} (h:q) (e:Imp q p:=by exact i0):p:=e h
theorem zj2 (h:q) (e:Imp q (Q .normal st):=by exact i0):AW C E .skip Q st:=zdm6 (e h)
theorem zdn8 (h:q) (e:Imp q (Q .normal st):=by exact i0):AW C E .label Q st:=zcX7 (e h)
theorem zH3 {id:Nat} (h:q) (e:Imp q (Q (.exit id) st):=by exact i0):AW C E (.exit id) Q st:=zdm7 (e h)
theorem zt2 (h:q) (e:Imp q (Q .ret st):=by exact i0):AW C E .ret Q st:=zdu5 (e h)
theorem za3 {dr:List Nat} {ops:List POp} (hG:E.G=C.G) (h:q)
  (e:Imp q (arun C ops st fun s=>Q .normal (s.drop dr)):=by exact im):AW C E (.reg dr ops) Q st:=zdu6 hG (e h)
theorem zaX8 {dr:List Nat} {ops:List POp} (hm:C.P.follows .mixedOrders=true) (hG:E.G=C.G) (h:q)
  (e:Imp q (zba6 C ops st fun s=>Q .normal (s.drop dr)):=by exact im):AW C E (.regd dr ops) Q st:=zdn1 hm hG (e h)
theorem zad1 {dr:List Nat} {an:List (List Nat)} {ops:List POp} (hm:C.P.follows .mixedOrders=true) (hG:E.G=C.G) (h:q)
  (e:Imp q (zaz7 C an ops st [] fun s=>Q .normal (s.drop dr)):=by exact im):AW C E (.regm dr an ops) Q st:=zdn5 hm hG (e h)
theorem zq4 {f:FuncId} {d:Option Nat} {g:Option (Nat×Bool)} {gv:Bool} {ob:Prop} {args:List A} {rw:List (Nat×MS)} {ps:List POp} {st:St} {K:St→Prop} {r:A}
  (hf:gv=true→PFn C f args r) (h:q)
  (e:Imp q (arun C ps (st.app d (zT3 g gv r) (if r.scal then [] else rw)) K):=by exact im)
  (ho:gv=true→ob:=by intro; trivial) (hg:g=none∨(if r.scal then [] else rw)=[]∧r.isVV=true:=by first|exact .inl rfl|exact .inr ⟨rfl,rfl⟩|exact .inr ⟨jN _,rfl⟩):zbF3 C f d g gv ob args rw ps st K:=zcY7 hf (e h) ho hg
theorem zan4 {f:FuncId} {d:Option Nat} {g:Option (Nat×Bool)} {gv:Bool} {ob:Prop} {args:List A} {rw:List (Nat×MS)} {ps:List POp} {st:St} {K:St→Prop} {r:A}
  (hf:gv=true→PFn C f args r) (h:q)
  (e:Imp q (zba6 C ps (st.app d (zT3 g gv r) []) K):=by exact im)
  (ho:gv=true→ob:=by intro; trivial) (hg:g=none∨(if r.scal then [] else rw)=[]∧r.isVV=true:=by first|exact .inl rfl|exact .inr ⟨rfl,rfl⟩|exact .inr ⟨jN _,rfl⟩) (hn:(if r.scal then [] else rw)=[]:=by first|rfl|exact jN _):zbf3 C f d g gv ob args rw ps st K:=zcN2 hf (e h) ho hg hn
theorem zaa0 {an:List (List Nat)} {f:FuncId} {d:Option Nat} {g:Option (Nat×Bool)} {gv:Bool} {ob:Prop} {args:List A} {rw:List (Nat×MS)} {ids:List Nat} {cok:Bool} {ps:List POp} {st:St} {log:List (List Nat×List Nat)} {K:St→Prop} {r:A}
  (hf:gv=true→PFn C f args r) (h:q)
  (e:Imp q (zba7 (an.getD log.length []) 0 log ids ((if r.scal then [] else rw).map (·.1))=true∧cok=true∧zaz7 C an ps (st.app d (zT3 g gv r) (if r.scal then [] else rw)) (log++[(ids,(if r.scal then [] else rw).map (·.1))]) K):=by exact im)
  (ho:gv=true→ob:=by intro; trivial) (hg:g=none∨(if r.scal then [] else rw)=[]∧r.isVV=true:=by first|exact .inl rfl|exact .inr ⟨rfl,rfl⟩|exact .inr ⟨jN _,rfl⟩):zbf4 C an f d g gv ob args rw ids cok ps st log K:=zcN4 hf (e h) ho hg
theorem zl0 {α:Type} {x:PX} {p q:PC} {b c:Bool} {X Y r:α} (hx:xv C.G st.slot x=.bool b) (hG:E.G=C.G) (h:(if c=true then X else Y)=r)
  (ht:b=true→X=r→AW C E p Q st) (hf:b=false→Y=r→AW C E q Q st) (e:b=c:=by first|rfl|(simp; done)|grind):AW C E (.cond x p q) Q st:=by
 subst e
 exact zbJ5 hx hG (fun hb=>ht hb (by rw [bV hb] at h; exact h)) (fun hb=>hf hb (by rw [hb] at h; simpa using h))
theorem zaP1 {α:Type} {x:PX} {p q:PC} {V:Type} (J:V→St) (P:V→Prop) {b c:Bool} {X Y r:α} (hx:xv C.G st.slot x=.bool b) (hG:E.G=C.G) (h:(if c=true then X else Y)=r) (hk:∀ v,P v→Q .normal (J v))
  (ht:b=true→X=r→AW C E p (zbn6 E J P Q) st) (hf:b=false→Y=r→AW C E q (zbn6 E J P Q) st) (e:b=c:=by first|rfl|(simp; done)|grind):AW C E (.cond x p q) Q st:=by
 subst e
 exact zdn7 J P hx hG hk (fun hb=>ht hb (by rw [bV hb] at h; exact h)) (fun hb=>hf hb (by rw [hb] at h; simpa using h))
theorem zI9 {α:Type} {x r:α} {p:Prop} (h:some x=some r) (e:x=r→p:=by (intro e; subst e; first|done|rfl|trivial|(simp; done)|(repeat' (first|rfl|trivial|omega|(simp; done)|(simp; omega)|(refine cP A.sl (cP (List.map _) ?_); exact cX (by simp; omega))|apply And.intro)))):p:=e (dU h)
theorem zdv2 {α:Type} {x r:α} {p:Prop} (h:x=r) (e:x=r→p:=by (intro e; subst e; first|done|rfl|trivial|(simp; done)|(repeat' (first|rfl|trivial|omega|(simp; done)|(simp; omega)|(refine cP A.sl (cP (List.map _) ?_); exact cX (by simp; omega))|apply And.intro)))):p:=e h
theorem zy4 {V:Type} {J:V→St} {P:V→Prop} {s:St} {k:Nat} (hK:E.k0=k) (l:List (Nat×Nat)) (v:V) (h:P v)
  (hl:Le l s (J v)∧zaE2 k l (J v).nx=true:=by exact lw):zaS8 E J P s:=zcp1 hK v h l hl
theorem zF8 {G X:Type} {I:G→St} {g':G} {y:G⊕X} {s:St} {k:Nat} (hK:E.k0=k) (l:List (Nat×Nat)) (h:some (.inl g')=some y)
  (hl:Le l s (I g')∧zaE2 k l (I g').nx=true:=by exact lw):zcp2 E I y s:=by
 cases h; exact zcp3 hK l hl
theorem zcI0 {G X β:Type} {I:G→St} {body:G→Option (G⊕X)} {kk:X→Option β} {R:Option β} {g':G} {s:St} {k:Nat} (hK:E.k0=k) (l:List (Nat×Nat)) (h:(zc0 body g').bind kk=R)
  (hl:Le l s (I g')∧zaE2 k l (I g').nx=true:=by exact lw):zcZ2 E I body kk R s :=
 ⟨g',h,St.le_of l hl.1 (by rw [hK]; exact hl.2)⟩
theorem zY4 {c:PC} {G X β:Type} {body:G→Option (G⊕X)} {g0:G} {kk:X→Option β} {r:β} (I:G→St) {k:Nat} (hK:E.k0=k) (l:List (Nat×Nat)) (h:(zc0 body g0).bind kk=some r)
  (hb:∀ x,kk x=some r→∀ g y,body g=some y→(∀ x',y=.inr x'→x'=x)→AW C E c (zbF4 E I y Q) (I g))
  (hle:Le l st (I g0)∧zaE2 k l (I g0).nx=true:=by exact lw):AW C E (.loop c) Q st:=by
 obtain ⟨x,hx,hk⟩:=zc9 h
 exact zch4 I hK l hx hle (hb x hk)
theorem zdv3 {α:Type} {r:α} (h:none=some r):AW C E .dead Q st:=by cases h
theorem zbj9 {x:PX} {p r:PC} (hx:xv C.G st.slot x=.bool true) (hG:E.G=C.G) (h:AW C E p Q st):AW C E (.cond x p r) Q st:=zbJ5 hx hG (fun _=>h) (fun h=>by cases h)
theorem zch9 {x:PX} {p r:PC} (hx:xv C.G st.slot x=.bool false) (hG:E.G=C.G) (h:AW C E r Q st):AW C E (.cond x p r) Q st:=zbJ5 hx hG (fun h=>by cases h) (fun _=>h)
theorem g_gh {c:PC} (g:Gh) (h:q) (e:Imp q (AW C E c Q (st.gh g)):=by exact i0) (hok:st.ghOk g:=by exact lw):AW C E c Q st:=zdC9 g hok (e h)
theorem zS4 {α:Type} {x r:α} {k:Nat} {st:St} {rs:List RX} {rl:List A} {ms':List (Nat×Row)} {k':Nat} (l:List (Nat×Nat)) (h:some x=some r)
  (e:x=r→zbE2 st rs∧zbM8 rl=true∧Le l ⟨zI8 0 (resL st rs),st.mem,st.nx⟩ ⟨zI8 0 rl,ms',k'⟩∧zaE2 k l k'=true:=by (intro e; subst e; exact lw)):zaX0 k st rs rl ms' k':=by
 obtain ⟨h1,h2,h3,h4⟩:=e (dU h)
 exact ⟨h1,h2,l,h3,h4⟩
@[go_sem] theorem zdj3 {α:Type} (a:Nat×α) (l m:List (Nat×α)) (n:Nat):look ((a :: l)++m) n=if a.1=n then some a.2 else look (l++m) n:=rfl
@[go_sem] theorem zdv4 (m:Nat→MS) (v:A) (vs ws:List A):zS3 m ((v :: vs)++ws)=frz m v :: zS3 m (vs++ws):=rfl
@[go_sem] theorem zdn9 (m:Nat→MS) (v:A) (vs ws:List A):zH5 m ((v :: vs)++ws)=(zaE1 m v∧zH5 m (vs++ws)):=rfl
@[go_sem] theorem zdj4 (v:A) (vs ws:List A):zH6 ((v :: vs)++ws)=zaw8 v++zH6 (vs++ws):=rfl
@[go_sem] theorem zdA3 (m:Nat→MS) (l:List (Nat×Nat)) (k:Nat) (v a:A) (vs ws az:List A):zbu2 m l k ((v :: vs)++ws) (a :: az)=(argM m l k v a∧zbu2 m l k (vs++ws) az):=rfl
@[go_sem] theorem zdF3 (v a:A) (vs ws az:List A):fzM ((v :: vs)++ws) (a :: az)=(if a.hands then [] else zaw8 v)++fzM (vs++ws) az:=rfl
@[go_sem] theorem zdo0 (q:Nat×MS) (r m:List (Nat×MS)) (n:Nat):nxt n ((q :: r)++m)=nxt (if q.1=n then n+1 else n) (r++m):=rfl
@[go_sem] theorem zdo1 {α:Type} (m:List (Nat×α)) (n:Nat):look ([]++m) n=look m n:=rfl
theorem zs2 {f:FuncId} {d:Option Nat} {ob:Prop} {vals:List A} {ps:List POp} {st:St} {K:St→Prop} (l nl:List (Nat×Nat)) (ids:List Nat) {az:List A} {ms ms':List (Nat×Row)} {k k':Nat} {r:A}
  (hf:MFn C f az ms k r ms' k') (hnl:newL k st.nx (k' - k)=nl) (hids:ms.map (·.1)++(List.range (k' - k)).map (k+·)=ids) (h:q)
  (e:Imp q (arun C ps (st.app d (renR (l++nl) r) (zT2 st.m (fzM vals az)++zag1 (l++nl) ms' ids)) K):=by exact im)
  (hok:okM st.m st.nx l vals az ms k k':=by exact lw)
  (ho:ob:=by trivial) (hr:zbf1 r=true:=by rfl):zap9 C f d none true ob vals ps st K:=by
 subst hnl; subst hids
 exact zcN0 l hf hok (e h) ho hr
theorem zcZ5 (ms:List (Nat×Row)) (k:Nat):ms.map (·.1)++(List.range (k - k)).map (k+·)=ms.map (·.1):=by rw [gM]; exact dT _
theorem zbf5 {α:Type} {X:Option α} {dv v:α} {c:Bool} {f:FuncId} {d:Option Nat} {g:Option (Nat×Bool)} {gv:Bool} {ob:Prop} {vals:List A} {ps:List POp} {st:St} {K:St→Prop} (l:List (Nat×Nat)) (ids:List Nat) {az:List A} {ms ms':List (Nat×Row)} {k:Nat} {r:A}
  (hv:(if c=true then X else some dv)=some v) (hf:X=some v→MFn C f az ms k r ms' k) (hids:ms.map (·.1)=ids) (h:q)
  (ec:gv=c:=by first|rfl|(simp; done)|grind) (hs:dv=v→zbu3 st.m (zT2 st.m (fzM vals az)++zag1 l ms' ids):=by (intro e; subst e; simp only [go_sem,↓reduceIte,reduceCtorEq,Nat.reduceEqDiff,Nat.reduceAdd,Nat.reduceSub,Nat.reduceMul,Nat.reduceLeDiff,Nat.reduceLT,Int.reduceLE,Int.reduceLT,Int.reduceToNat,Int.reduceNeg]; first|(done)|trivial|(simp; done)|(repeat' (first|rfl|trivial|(simp; done)|apply And.intro))))
  (e:Imp q (arun C ps (st.app d (zT3 g gv (renR l r)) (zT2 st.m (fzM vals az)++zag1 l ms' ids)) K):=by exact im)
  (hok:okM st.m st.nx l vals az ms k k:=by exact lw)
  (ho:gv=true→ob:=by first|(intro; trivial)|(intro; simp_all; done)) (hr:zbf1 r=true:=by rfl) (hvv:(renR l r).isVV=true:=by rfl):zap9 C f d g gv ob vals ps st K:=by
 subst hids; subst ec
 refine zcz1 l (fun hg=>hf (zaH9 hg hv)) (fun _=>hok) ?_ ?_ ho hr hvv
 ·intro hg; unfold mwM; rw [zcZ5]; exact hs (dU (zds2 hg hv))
 ·unfold mwM; rw [zcZ5]; exact e h
theorem zbO6 {an:List (List Nat)} {f:FuncId} {d:Option Nat} {ob:Prop} {vals:List A} {vi:List Nat} {cok:Bool} {ps:List POp} {st:St} {log:List (List Nat×List Nat)} {K:St→Prop} (l nl:List (Nat×Nat)) (ids:List Nat) {az:List A} {ms ms':List (Nat×Row)} {k k':Nat} {r:A}
  (hf:MFn C f az ms k r ms' k') (hnl:newL k st.nx (k' - k)=nl) (hids:ms.map (·.1)++(List.range (k' - k)).map (k+·)=ids) (h:q)
  (e:Imp q (zba7 (an.getD log.length []) 0 log vi ((zT2 st.m (fzM vals az)++zag1 (l++nl) ms' ids).map (·.1))=true∧cok=true∧zaz7 C an ps (st.app d (renR (l++nl) r) (zT2 st.m (fzM vals az)++zag1 (l++nl) ms' ids)) (log++[(vi,(zT2 st.m (fzM vals az)++zag1 (l++nl) ms' ids).map (·.1))]) K):=by exact im)
  (hok:okM st.m st.nx l vals az ms k k':=by exact lw)
  (ho:ob:=by trivial) (hr:zbf1 r=true:=by rfl):zaI7 C an f d none true ob vals vi cok ps st log K:=by
 subst hnl; subst hids
 exact zcz3 l hf hok (e h) ho hr
theorem zci0 {α β:Type} {x r:α} (h:some (Sum.inl x:α⊕β)=some (.inl r)):some x=some r:=by cases h; rfl
theorem zbk0 {α β:Type} {x r:β} (h:some (Sum.inr x:α⊕β)=some (.inr r)):some x=some r:=by cases h; rfl
theorem zcI1 {α:Type} {c gv:Bool} {X Y r:α} {f:FuncId} {d:Option Nat} {g:Option (Nat×Bool)} {ob:Prop} {vals:List A} {ps:List POp} {st:St} {K:St→Prop} (h:(if c=true then X else Y)=r)
  (ht:gv=true→X=r→zap9 C f d g gv ob vals ps st K) (hf:gv=false→Y=r→zap9 C f d g gv ob vals ps st K) (ec:gv=c:=by first|rfl|(simp; done)|grind):zap9 C f d g gv ob vals ps st K:=by
 subst ec
 cases hg:gv with
 | true=>rw [hg] at ht; exact ht rfl (zaH9 hg h)
 | false=>rw [hg] at hf; exact hf rfl (zds2 hg h)
theorem zcp6 {gv:Bool} {f:FuncId} {d:Option Nat} {g:Option (Nat×Bool)} {ob:Prop} {vals:List A} {ps:List POp} {st:St} {K:St→Prop} (hc:gv=true) (l nl:List (Nat×Nat)) (ids:List Nat) {az:List A} {ms ms':List (Nat×Row)} {k k':Nat} {r:A}
  (hf:MFn C f az ms k r ms' k') (hnl:newL k st.nx (k' - k)=nl) (hids:ms.map (·.1)++(List.range (k' - k)).map (k+·)=ids) (h:q)
  (e:Imp q (arun C ps (st.app d (zT3 g true (renR (l++nl) r)) (zT2 st.m (fzM vals az)++zag1 (l++nl) ms' ids)) K):=by exact im)
  (hok:okM st.m st.nx l vals az ms k k':=by exact lw)
  (ho:ob:=by first|trivial|(simp_all; done)) (hr:zbf1 r=true:=by rfl) (hvv:(renR (l++nl) r).isVV=true:=by rfl):zap9 C f d g gv ob vals ps st K:=by
 subst hnl; subst hids; subst hc
 exact ⟨l,az,ms,k,r,ms',k',fun _=>⟨ho,hf,hok,trivial⟩,(fun h=>nomatch h),.inr hvv,zbf2 hr,e h⟩
theorem zcI2 (m:Nat→MS) (nx:Nat) (vals:List A):mwM m ([]++newL 0 nx (0 - 0)) vals [] [] [] 0 0=[]:=by cases vals <;> rfl
theorem zcp7 {gv:Bool} {f:FuncId} {d:Option Nat} {g:Option (Nat×Bool)} {ob:Prop} {vals:List A} {ps:List POp} {st:St} {K:St→Prop} (hc:gv=false) (dv:A) (h:q)
  (e:Imp q (arun C ps (st.app d (zT3 g false dv) []) K):=by exact im)
  (hd:renR [] dv=dv:=by rfl) (hn:zbf1 dv=true:=by rfl) (hvv:dv.isVV=true:=by rfl):zap9 C f d g gv ob vals ps st K:=by
 subst hc
 have hd':renR ([]++newL 0 st.nx (0 - 0)) dv=dv:=hd
 refine ⟨[],[],[],0,dv,[],0,(fun h=>nomatch h),fun _=>⟨rfl,?_⟩,.inr ?_,zbf2 hn,?_⟩
 ·rw [zcI2]; trivial
 ·rw [hd']; exact hvv
 ·rw [zcI2,hd']; exact e h
end
end Ab
end Go.Proofs.YtogpinppgncpmaaGreatDoor
