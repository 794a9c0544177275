import Derived.Test.YtfkjffmjkbkmhaaGreatDoorAb20
import Derived.Test.YtfkjffmjkbkmhaaGreatDoorProg
import Derived.KernelRfl
namespace Go.Proofs.YtfkjffmjkbkmhaaGreatDoor
namespace Ab
set_option linter.unusedSimpArgs false
set_option linter.unusedVariables false
section
variable {C:Cx} {E:Env}
def FSt (ps:List POp) (vs:Nat→A) (mws:Nat→List (Nat×MS)) (s:S) (f:Nat→Bool):Nat→S
  | 0=>s
  | n+1=>match ps[n]? with
    | some p=>if f n then ⟨setF (FSt ps vs mws s f n).fr p.dst (vs n),setM (FSt ps vs mws s f n).mem (mws n)⟩ else FSt ps vs mws s f n
    | none=>FSt ps vs mws s f n
theorem zS8 {y:Nat}:∀ {mw:List (Nat×MS)} {m:Nat→MS},y ∉ mw.map (·.1)→setM m mw y=m y
  | [],_,_=>rfl
  | q :: mw,m,h=>by
    simp only [setM]
    rw [zS8 fun hh=>h (.tail _ hh)]
    refine bT fun e=>h ?_
    rw [e]; exact .head _
theorem zbF1 {y:Nat}:∀ {mw:List (Nat×MS)} {m m2:Nat→MS},y ∈ mw.map (·.1)→setM m mw y=setM m2 mw y
  | q :: mw,m,m2,h=>by
    simp only [setM]
    by_cases h2:y ∈ mw.map (·.1)
    · exact zbF1 h2
    · rw [zS8 h2,zS8 h2]
      rcases cE.1 h with rfl|h
      · simp
      · exact absurd h h2
theorem zbI6 {ps:List POp} {vs:Nat→A} {mws:Nat→List (Nat×MS)} {s:S} {f f':Nat→Bool}:∀ n,(∀ i,i < n→f i=f' i)→FSt ps vs mws s f n=FSt ps vs mws s f' n
  | 0,_=>rfl
  | n+1,h=>by
    have ih:=zbI6 (ps:=ps) (vs:=vs) (mws:=mws) (s:=s) n fun i hi=>h i (by omega)
    simp only [FSt,ih,h n (by omega)]
theorem zaV9 (f:Nat→A) (d:Option Nat) (v:A) (t:Nat):setF f d v t=if d=some t then v else f t:=rfl
theorem zcC9 {ps:List POp} {vs:Nat→A} {mws:Nat→List (Nat×MS)} {s:S} {f:Nat→Bool} {j t:Nat} (h1:∀ i q,i < j→ps[i]? = some q→q.dst=some t→f i=true) (h2:∀ i q,j≤i→ps[i]? = some q→q.dst=some t→f i=false) :
    ∀ n,(FSt ps vs mws s f n).fr t=(FSt ps vs mws s (fun _=>true) (min n j)).fr t
  | 0=>by simp [FSt]
  | n+1=>by
    have ih:=zcC9 (vs:=vs) (mws:=mws) (s:=s) h1 h2 n
    by_cases hn:n < j
    · rw [show min (n+1) j=n+1 by omega]
      rw [show min n j=n by omega] at ih
      simp only [FSt]
      cases hq:ps[n]? with
      | none=>exact ih
      | some q =>
        simp only [cB]
        by_cases hd:q.dst=some t
        · rw [h1 n q hn hq hd]; simp [zaV9,hd]
        · rw [zaV9,bT hd]
          split
          · simp only [zaV9,bT hd]; exact ih
          · exact ih
    · rw [show min (n+1) j=j by omega]
      rw [show min n j=j by omega] at ih
      simp only [FSt]
      cases hq:ps[n]? with
      | none=>exact ih
      | some q =>
        simp only []
        by_cases hd:q.dst=some t
        · rw [h2 n q (by omega) hq hd]; simpa using ih
        · split
          · simp only [zaV9,bT hd]; exact ih
          · exact ih
theorem zcu7 {ps:List POp} {vs:Nat→A} {mws:Nat→List (Nat×MS)} {s:S} {f:Nat→Bool} {j y:Nat} (h1:∀ i q,i < j→ps[i]? = some q→y ∈ (mws i).map (·.1)→f i=true) (h2:∀ i q,j≤i→ps[i]? = some q→y ∈ (mws i).map (·.1)→f i=false) :
    ∀ n,(FSt ps vs mws s f n).mem y=(FSt ps vs mws s (fun _=>true) (min n j)).mem y
  | 0=>by simp [FSt]
  | n+1=>by
    have ih:=zcu7 (vs:=vs) (mws:=mws) (s:=s) h1 h2 n
    by_cases hn:n < j
    · rw [show min (n+1) j=n+1 by omega]
      rw [show min n j=n by omega] at ih
      simp only [FSt]
      cases hq:ps[n]? with
      | none=>exact ih
      | some q =>
        simp only [cB]
        by_cases hd:y ∈ (mws n).map (·.1)
        · rw [h1 n q hn hq hd]; simp only [cB]; exact zbF1 hd
        · rw [zS8 hd]
          split
          · show setM _ _ _=_
            rw [zS8 hd]; exact ih
          · exact ih
    · rw [show min (n+1) j=j by omega]
      rw [show min n j=j by omega] at ih
      simp only [FSt]
      cases hq:ps[n]? with
      | none=>exact ih
      | some q =>
        simp only []
        by_cases hd:y ∈ (mws n).map (·.1)
        · rw [h2 n q (by omega) hq hd]; simpa using ih
        · split
          · show setM _ _ _=_
            rw [zS8 hd]; exact ih
          · exact ih
theorem zcT9 {ps:List POp} {vs:Nat→A} {mws:Nat→List (Nat×MS)} {s:S} {f:Nat→Bool} {j:Nat} {p:POp} (hp:ps[j]? = some p) (hf:f j=false) (f':Nat→Bool) (hj:f' j=true) (hf':∀ i,i≠j→f' i=f i)
    (hc:∀ i q,j < i→ps[i]? = some q→f i=true→conf p q=false) (hm:∀ i q,j < i→ps[i]? = some q→f i=true→∀ y ∈ (mws j).map (·.1),y ∉ (mws i).map (·.1)) :
    ∀ n,(∀ t,(FSt ps vs mws s f' n).fr t=if j < n∧p.dst=some t then vs j else (FSt ps vs mws s f n).fr t)∧∀ y,(FSt ps vs mws s f' n).mem y=if j < n then setM (FSt ps vs mws s f n).mem (mws j) y else (FSt ps vs mws s f n).mem y
  | 0=>by simp [FSt]
  | n+1=>by
    obtain ⟨ih,ih2⟩:=zcT9 (vs:=vs) (mws:=mws) (s:=s) hp hf f' hj hf' hc hm n
    by_cases hn:n=j
    · subst hn
      simp only [FSt,hp,hj,hf,cB,bU,cA]
      refine ⟨fun t=>?_,fun y=>?_⟩
      · rw [zaV9]
        by_cases hd:p.dst=some t
        · simp [hd]
        · simp only [hd,cA,and_false]
          have:=ih t
          simpa [hd] using this
      · rw [bW (eW n)]
        have e:(FSt ps vs mws s f' n).mem=(FSt ps vs mws s f n).mem:=funext fun z=>by have:=ih2 z; simpa using this
        rw [e]
    · have hlt:j < n+1 ↔ j < n:=by omega
      simp only [FSt,hf' n hn,hlt]
      cases hq:ps[n]? with
      | none=>exact ⟨by simpa using ih,by simpa using ih2⟩
      | some q =>
        simp only []
        split
        · rename_i hfn
          refine ⟨fun t=>?_,fun y=>?_⟩
          · simp only [zaV9,ih t]
            by_cases hd:q.dst=some t
            · simp only [hd,cB]
              by_cases hjn:j < n
              · have:=hc n q hjn hq hfn
                unfold conf at this
                by_cases hpd:p.dst=some t
                · simp [hpd,hd] at this
                · simp [hpd]
              · simp [hjn]
            · simp [hd]
          · by_cases hjn:j < n
            · simp only [hjn,cB] at ih2 ⊢
              have hdj:=hm n q hjn hq hfn
              by_cases h1:y ∈ (mws n).map (·.1)
              · rw [zS8 (mw:=mws j) fun hh=>hdj y hh h1]
                exact zbF1 h1
              · rw [zS8 h1,ih2 y]
                by_cases h2:y ∈ (mws j).map (·.1)
                · exact zbF1 h2
                · rw [zS8 h2,zS8 h2,zS8 h1]
            · simp only [hjn,cA] at ih2 ⊢
              have e:(FSt ps vs mws s f' n).mem=(FSt ps vs mws s f n).mem:=funext ih2
              rw [e]
        · exact ⟨ih,ih2⟩
theorem zaH4:∀ {x y:List Nat},disj x y=true→∀ z ∈ x,z ∉ y
  | a :: x,y,h,z,hz=>by
    simp only [disj,bS,cS,List.contains_eq_mem,cR] at h
    rcases cE.1 hz with rfl|hz
    · exact h.1
    · exact zaH4 h.2 z hz
theorem zbI7 {an:List Nat}:∀ {log:List (List Nat×List Nat)} {i:Nat} {r w:List Nat},zaY0 an i log r w=true→∀ n q,log[n]? = some q→i+n ∉ an→disj q.2 r=true∧disj q.2 w=true∧disj w q.1=true
  | x :: log,i,r,w,h,n,q,hq,hn=>by
    simp only [zaY0,bS,dG] at h
    cases n with
    | zero =>
      simp at hq; subst hq
      rcases h.1 with h1|h1
      · exact absurd (by simpa using h1) hn
      · exact ⟨h1.1.1,h1.1.2,h1.2⟩
    | succ n=>exact zbI7 h.2 n q (by simpa using hq) (by rwa [show i+1+n=i+(n+1) by omega])
theorem zbI8 {an:List (List Nat)} {K:St→Prop}:∀ (ps:List POp) (st:St) (log:List (List Nat×List Nat)),zax0 C an ps st log K→∃ (vs:Nat→A) (mws:Nat→List (Nat×MS)) (sts:Nat→St),K (sts ps.length)∧sts 0=st ∧
    ∀ j p,ps[j]? = some p→sts (j+1)=(sts j).app p.dst (vs j) (mws j)∧mwOk (sts j).nx (mws j)∧aopS C p (sts j).toS (sts j).nx (fun v mw=>v=vs j∧mw=mws j)∧zaV6 (zs5 C (sts j) p.xs)=true ∧
      (∀ i q,i < log.length→log[i]? = some q→i ∉ an.getD (log.length+j) []→disj q.2 (zB7 (zs5 C (sts j) p.xs))=true∧disj q.2 ((mws j).map (·.1))=true∧disj ((mws j).map (·.1)) q.1=true) ∧
      (∀ i q,i < j→ps[i]? = some q→log.length+i ∉ an.getD (log.length+j) []→disj ((mws i).map (·.1)) (zB7 (zs5 C (sts j) p.xs))=true∧disj ((mws i).map (·.1)) ((mws j).map (·.1))=true∧disj ((mws j).map (·.1)) (zB7 (zs5 C (sts i) q.xs))=true)
  | [],st,log,h=>⟨fun _=>.any,fun _=>[],fun _=>st,h,rfl,fun j p hp=>by simp at hp⟩
  | p :: ps,st,log,h=>by
    obtain ⟨v,mw,⟨hmw,hi,hcap,hrest⟩,h4⟩:=zcT7 (zdj5 h)
    obtain ⟨vs,mws,sts,h5,h6,h7⟩:=zbI8 ps _ _ hrest
    refine ⟨fun i=>match i with|0=>v|i+1=>vs i,fun i=>match i with|0=>mw|i+1=>mws i,fun i=>match i with|0=>st|i+1=>sts i,h5,rfl,fun j q hq=>?_⟩
    cases j with
    | zero =>
      simp at hq; subst hq
      refine ⟨h6,hmw,h4,hcap,fun i q hi2 hq hn=>?_,fun i q hi2=>by omega⟩
      exact zbI7 hi i q hq (by rw [dY]; exact hn)
    | succ j =>
      obtain ⟨g1,g2,g3,g4,g5,g6⟩:=h7 j q (by simpa using hq)
      simp only [bZ,List.length_cons,List.length_nil,dY] at g5 g6
      refine ⟨g1,g2,g3,g4,fun i x hi2 hx hn=>?_,fun i x hi2 hx hn=>?_⟩
      · exact g5 i x (by omega) (by rw [dN hi2]; exact hx) (by rwa [show log.length+1+j=log.length+(j+1) by omega])
      · cases i with
        | zero =>
          simp at hx; subst hx
          have:=g5 log.length (zB7 (zs5 C st p.xs),mw.map (·.1)) (by omega) (by rw [fB (cY _)]; simp) (by rw [show log.length+1+j=log.length+(j+1) by omega]; exact hn)
          exact this
        | succ i =>
          exact g6 i x (by omega) (by simpa using hx) (by rw [show log.length+1+j=log.length+(j+1) by omega,show log.length+1+i=log.length+(i+1) by omega]; exact hn)
theorem zbI9 {st:St} (xs:List PX):zs5 C st xs=zJ3 C st.toS.fr xs:=zbr3 xs
theorem zcu8 {os:Array Oper} {ps:List POp} {s0:S} {vs:Nat→A} {mws:Nat→List (Nat×MS)} {sts:Nat→St} {K:St→Prop} {Q:Exit→Act→World→Prop} (hG:E.G=C.G) (hr:ROk C E.N os 0 ps) (hso:POp.sortOk os.toList 0=true)
    (hco:zbu9 ps (ancs [] (os.toList.map zC2))=true) (hK:K (sts ps.length))
    (hst:∀ j,j≤ps.length→(sts j).toS=FSt ps vs mws s0 (fun _=>true) j)
    (hv:∀ j p,ps[j]? = some p→mwOk (sts j).nx (mws j)∧aopS C p (sts j).toS (sts j).nx (fun v mw=>v=vs j∧mw=mws j)∧zaV6 (zs5 C (sts j) p.xs)=true ∧
      (∀ i q,i < j→ps[i]? = some q→i ∉ (ancs [] (os.toList.map zC2)).getD j []→disj ((mws i).map (·.1)) (zB7 (zs5 C (sts j) p.xs))=true∧disj ((mws i).map (·.1)) ((mws j).map (·.1))=true∧disj ((mws j).map (·.1)) (zB7 (zs5 C (sts i) q.xs))=true))
    (hnx:∀ i j,i≤j→(sts i).nx≤(sts j).nx) (hnx0:∀ y,(sts 0).nx≤y→s0.mem y=.fresh) (hkey:∀ j p y,ps[j]? = some p→y ∈ (mws j).map (·.1)→y < (sts (j+1)).nx)
    (hQ:∀ st' a' w',K st'→Sat E st'.toS a' w'→Q .normal a' w') :
    ∀ (fuel:Nat) (listed:Array Bool) (a:Act) (w:World),listed.size=os.size→Sat E (FSt ps vs mws s0 (fun i=>listed.getD i false) ps.length) a w →
      (∀ j o,os[j]? = some o→listed.getD j false=true→∀ i ∈ zC2 o,listed.getD i false=true)→left (fun i=>listed.getD i false) os.size≤fuel →
      wpAny C.P .any os Q fuel listed a w:=by
  have hlen:ps.length=os.size:=by have:=hr.size; omega
  have hdone:∀ (listed:Array Bool) (a:Act) (w:World),Sat E (FSt ps vs mws s0 (fun i=>listed.getD i false) ps.length) a w→(∀ i,i < os.size→listed.getD i false=true)→Q .normal a w:=by
    intro listed a w hs hall
    refine hQ _ a w hK ?_
    rw [hst ps.length (cY _),zbI6 (f:=fun _=>true) (f':=fun i=>listed.getD i false) ps.length fun i hi=>(hall i (by omega)).symm]
    exact hs
  have hready:∀ (listed:Array Bool),listed.size=os.size→Region.ready .any os listed=[]→∀ i,i < os.size→listed.getD i false=true:=by
    intro listed hsz hr0 i
    induction i using Nat.strongRecOn with
    | _ i ih =>
      intro hi
      cases hl:listed.getD i false with
      | true=>rfl
      | false =>
        have:i ∈ Region.ready .any os listed:=by
          rw [mem_ready]
          refine ⟨?_,os[i],by simp [hi],fun e he hb=>?_⟩
          · have h1:i < listed.size:=by omega
            simp only [Array.getD,h1,kG] at hl ⊢; exact hl
          · have h2:e.on ∈ zC2 os[i]:=by
              simp only [zC2,cH,fL]
              exact ⟨e,⟨by simpa using he,hb⟩,rfl⟩
            have h3:=zbb9 os.toList 0 hso i os[i] (by simp [hi]) e.on h2
            exact ih e.on (by omega) (by omega)
        rw [hr0] at this; cases this
  intro fuel
  induction fuel with
  | zero =>
    intro listed a w hsz hs hcl hle
    have hall:=zbv2 (f:=fun i=>listed.getD i false) os.size (by omega)
    refine ⟨?_,hdone listed a w hs hall⟩
    cases hrd:Region.ready .any os listed with
    | nil=>rfl
    | cons i rs =>
      have:i ∈ Region.ready .any os listed:=by rw [hrd]; simp
      rw [mem_ready] at this
      obtain ⟨h1,o,ho,_⟩:=this
      have hi:=(dJ.1 ho).1
      have:=hall i hi
      have h2:i < listed.size:=by omega
      simp only [Array.getD,h2,kG] at h1 this
      rw [this] at h1; cases h1
  | succ fuel ih =>
    intro listed a w hsz hs hcl hle
    refine ⟨fun hr0=>hdone listed a w hs (hready listed hsz hr0),fun i hi=>?_⟩
    rw [mem_ready] at hi
    obtain ⟨hl,o,ho,hed⟩:=hi
    have hlt:=(dJ.1 ho).1
    have hlt2:i < listed.size:=by omega
    have hl:listed.getD i false=false:=by
      simp only [Array.getD,hlt2,kG] at hl ⊢; exact hl
    obtain ⟨p,hp,hpo⟩:=hr.at (j:=i) (by rw [dY]; exact ho)
    have hedge:∀ k ∈ zC2 o,listed.getD k false=true:=by
      intro k hk
      simp only [zC2,cH,fL] at hk
      obtain ⟨e,⟨he,hb⟩,rfl⟩:=hk
      exact hed e (by simpa using he) hb
    have hset:(listed.setIfInBounds i true).getD i false=true:=by simp [Array.getD,hlt2]
    have hsetne:∀ k,k≠i→(listed.setIfInBounds i true).getD k false=listed.getD k false:=fun k hk=>getD_set_ne false (kQ hk)
    have hcl':∀ j o,os[j]? = some o→(listed.setIfInBounds i true).getD j false=true→∀ k ∈ zC2 o,(listed.setIfInBounds i true).getD k false=true:=by
      intro j o' ho' hj k hk
      by_cases hji:j=i
      · subst hji
        rw [ho] at ho'; cases ho'
        exact getD_set_true (hedge k hk)
      · rw [hsetne j hji] at hj
        exact getD_set_true (hcl j o' ho' hj k hk)
    have hanc:∀ j,(listed.setIfInBounds i true).getD j false=true→∀ k ∈ (ancs [] (os.toList.map zC2)).getD j [],(listed.setIfInBounds i true).getD k false=true :=
      zaQ5 (D:=fun j=>(listed.setIfInBounds i true).getD j false=true) _ [] (fun j e he hD=>by
        simp only [cL,cG] at he
        obtain ⟨o',ho',rfl⟩:=he
        exact hcl' j o' (by simpa using ho') (by simpa using hD)) (fun j _ k hk=>by simp at hk)
    have hanc0:∀ j,listed.getD j false=true→∀ k ∈ (ancs [] (os.toList.map zC2)).getD j [],listed.getD k false=true :=
      zaQ5 (D:=fun j=>listed.getD j false=true) _ [] (fun j e he hD=>by
        simp only [cL,cG] at he
        obtain ⟨o',ho',rfl⟩:=he
        exact hcl j o' (by simpa using ho') (by simpa using hD)) (fun j _ k hk=>by simp at hk)
    have hbef:∀ k q,k < i→ps[k]? = some q→conf q p=true→listed.getD k false=true:=by
      intro k q hk hq hc
      have:=hanc i hset k (zaM9 hco hk hq hp hc)
      rwa [hsetne k (by omega)] at this
    have haft:∀ k q,i < k→ps[k]? = some q→conf p q=true→listed.getD k false=false:=by
      intro k q hk hq hc
      cases hlk:listed.getD k false with
      | false=>rfl
      | true =>
        have:=hanc0 k hlk i (zaM9 hco hk hp hq hc)
        rw [hl] at this; cases this
    have hbefM:∀ k,k < i→listed.getD k false=false→k ∉ (ancs [] (os.toList.map zC2)).getD i []:=fun k hk hlk hh=>by
      have:=hanc i hset k hh
      rw [hsetne k (by omega),hlk] at this; cases this
    have haftM:∀ k,i < k→listed.getD k false=true→i ∉ (ancs [] (os.toList.map zC2)).getD k []:=fun k hk hlk hh=>by
      have:=hanc0 k hlk i hh
      rw [hl] at this; cases this
    obtain ⟨hmw,haop,hcap,hind⟩:=hv i p hp
    have hil:i < ps.length:=(cD.1 hp).1
    have hsi:=hst i (jA hil)
    have hrow:∀ y,(y ∈ zB7 (zs5 C (sts i) p.xs)∨y ∈ (mws i).map (·.1))→(FSt ps vs mws s0 (fun k=>listed.getD k false) ps.length).mem y=(sts i).toS.mem y:=fun y hy=>by
      rw [hsi]
      have:=zcu7 (ps:=ps) (vs:=vs) (mws:=mws) (s:=s0) (f:=fun k=>listed.getD k false) (j:=i) (y:=y) (fun k q hk hq hyk=>?_) (fun k q hk hq hyk=>?_) ps.length
      · rw [this,iB (jA hil)]
      · cases hlk:listed.getD k false with
        | true=>rfl
        | false =>
          obtain ⟨g1,g2,g3⟩:=hind k q hk hq (hbefM k hk hlk)
          rcases hy with hy|hy
          · exact absurd hy (zaH4 g1 y hyk)
          · exact absurd hy (zaH4 g2 y hyk)
      · cases hlk:listed.getD k false with
        | false=>rfl
        | true =>
          have hki:i < k:=by
            rcases Nat.lt_or_eq_of_le hk with h|h
            · exact h
            · subst h; rw [hl] at hlk; cases hlk
          obtain ⟨g0,g00,g000,gg⟩:=hv k q hq
          obtain ⟨g1,g2,g3⟩:=gg i p hki hp (haftM k hki hlk)
          rcases hy with hy|hy
          · exact absurd hy (zaH4 g3 y hyk)
          · exact absurd hyk (zaH4 g2 y hy)
    have hslot:∀ t ∈ p.rds,(sts i).toS.fr t=(FSt ps vs mws s0 (fun k=>listed.getD k false) ps.length).fr t:=fun t ht=>by
      rw [hsi]
      rw [zcC9 (j:=i) (t:=t) (f:=fun k=>listed.getD k false) (fun k q hk hq hd=>hbef k q hk hq (zaV5 hd (.inl ht)).1) (fun k q hk hq hd=>?_) ps.length,iB (jA hil)]
      by_cases hki:k=i
      · subst hki; exact hl
      · exact haft k q (by omega) hq ((zaV5 hd (.inl ht)).2 ht)
    have haop2:=zcu6 (s2:=FSt ps vs mws s0 (fun k=>listed.getD k false) ps.length) hslot (fun y hy=>(hrow y (.inl (by rw [zbI9]; exact hy))).symm) (fun y hy=>(hrow y (.inr hy)).symm) (fun f caps vals _ hvals c hc=>by
      rw [zbI9,hvals] at hcap
      exact zbA2 hcap c hc) haop
    have hfin:∃ id,(FSt ps vs mws s0 (fun k=>listed.getD k false) ps.length).mem id=.fresh∧aopS C p (FSt ps vs mws s0 (fun k=>listed.getD k false) ps.length) id (fun v mw=>v=vs i∧mw=mws i):=by
      rcases zdj6 haop2 with h1|h1
      · exact ⟨_,by rw [hrow _ (.inr h1)]; exact (sts i).m_nx,haop2⟩
      · refine ⟨(sts ps.length).nx,?_,h1 _ (hnx i _ (jA hil))⟩
        rw [zcu7 (j:=0) (f:=fun k=>listed.getD k false) (fun k q hk=>by omega) (fun k q _ hq hyk=>by
          have h2:=hkey k q _ hq hyk
          have h3:=hnx (k+1) ps.length (cD.1 hq).1
          omega) ps.length]
        simp only [Nat.min_zero,FSt]
        exact hnx0 _ (hnx 0 _ (eZ _))
    obtain ⟨id,hid,haop3⟩:=hfin
    obtain ⟨W,μ,hs⟩:=hs
    have key:=zbH7 hs hG hid hpo haop3 (Q:=Q) (k:=wpAny C.P .any os Q fuel (listed.setIfInBounds i true)) (fun v mw a' w' hvm hs'=>by
      obtain ⟨rfl,rfl⟩:=hvm
      refine ih _ a' w' (by simpa using hsz) ?_ hcl' ?_
      · obtain ⟨e1,e2⟩:=zcT9 (vs:=vs) (mws:=mws) (s:=s0) (f:=fun k=>listed.getD k false) hp hl (fun k=>(listed.setIfInBounds i true).getD k false) hset hsetne (fun k q hk hq hfk=>by
          cases hc:conf p q with
          | false=>rfl
          | true=>have:=haft k q hk hq hc; exact absurd (this.symm.trans hfk) (by simp)) (fun k q hk hq hfk y hy hyk=>by
          obtain ⟨g0,g00,g000,gg⟩:=hv k q hq
          obtain ⟨g1,g2,g3⟩:=gg i p hk hp (haftM k hk hfk)
          exact zaH4 g2 y hy hyk) ps.length
        have e:FSt ps vs mws s0 (fun k=>(listed.setIfInBounds i true).getD k false) ps.length=⟨setF (FSt ps vs mws s0 (fun k=>listed.getD k false) ps.length).fr p.dst (vs i),setM (FSt ps vs mws s0 (fun k=>listed.getD k false) ps.length).mem (mws i)⟩:=by
          have h1:(FSt ps vs mws s0 (fun k=>(listed.setIfInBounds i true).getD k false) ps.length).fr=setF (FSt ps vs mws s0 (fun k=>listed.getD k false) ps.length).fr p.dst (vs i):=funext fun t=>by
            rw [e1 t,zaV9]; simp only [hil,gC]
          have h2:(FSt ps vs mws s0 (fun k=>(listed.setIfInBounds i true).getD k false) ps.length).mem=setM (FSt ps vs mws s0 (fun k=>listed.getD k false) ps.length).mem (mws i):=funext fun y=>by
            rw [e2 y,bW hil]
          rw [← h1,← h2]
        rw [e]; exact hs'
      · have:=zbI3 (f:=fun k=>listed.getD k false) (f':=fun k=>(listed.setIfInBounds i true).getD k false) (j:=i) hl hset hsetne os.size
        rw [bW hlt] at this
        omega)
    simp only [wpOp,ho]
    split at key
    · rename_i hw; rw [bW hw]; exact .inl key
    · rename_i hw; rw [bT hw]; exact key
theorem zbJ0:∀ (mw:List (Nat×MS)) (nx:Nat),nx≤nxt nx mw
  | [],nx=>cY _
  | q :: mw,nx=>by
    simp only [nxt]
    refine dX ?_ (zbJ0 mw _)
    split <;> omega
theorem zcU0:∀ {mw:List (Nat×MS)} {nx:Nat},mwOk nx mw→∀ y ∈ mw.map (·.1),y < nxt nx mw
  | q :: mw,nx,h,y,hy=>by
    obtain ⟨h1,h2,h3⟩:=h
    simp only [nxt]
    rcases cE.1 hy with rfl|hy
    · refine eK ?_ (zbJ0 mw _)
      show q.1 < _
      split <;> omega
    · exact zcU0 h3 y hy
theorem zdj7 {Q:Exit→St→Prop} {st:St} {dr:List Nat} {an:List (List Nat)} {ops:List POp} (hm:C.P.follows .mixedOrders=true) (hG:E.G=C.G) (h:zax0 C an ops st [] fun s=>Q .normal (s.drop dr)):AW C E (.regm dr an ops) Q st:=fun code hc a w hs=>by
  cases code with
  | region id os d =>
   cases d with
   | false=>simp [chkC] at hc
   | true =>
    simp only [chkC,bS,dI] at hc
    obtain ⟨hc1,hc2,hc3,hc4⟩:=hc
    have hr:ROk C E.N os 0 ops:=by
      obtain ⟨P,G⟩:=C
      exact zbh2 os.toList ops 0 hc1 (by simp) (by simp)
    obtain ⟨vs,mws,sts,hK,h0,hv⟩:=zbI8 ops st [] h
    subst hc4
    have hnx1:∀ j,(sts j).nx≤(sts (j+1)).nx∨ops.length≤j:=fun j=>by
      by_cases hj:j < ops.length
      · obtain ⟨g1,g2,_⟩:=hv j ops[j] (by simp [hj])
        left; rw [g1]; exact zbJ0 _ _
      · right; omega
    let sts':Nat→St:=fun j=>if j≤ops.length then sts j else sts ops.length
    have hs':∀ j,j≤ops.length→sts' j=sts j:=fun j hj=>bW hj
    have hs2:∀ j,ops.length≤j→sts' j=sts ops.length:=fun j hj=>by
      show (if j≤ops.length then sts j else sts ops.length)=_
      split
      · rw [show j=ops.length by omega]
      · rfl
    have hstep:∀ j,(sts' j).nx≤(sts' (j+1)).nx:=fun j=>by
      by_cases hj:j < ops.length
      · rw [hs' j (by omega),hs' (j+1) (by omega)]
        rcases hnx1 j with h1|h1
        · exact h1
        · omega
      · rw [hs2 j (by omega),hs2 (j+1) (by omega)]; exact cY _
    have hmono:∀ i j,i≤j→(sts' i).nx≤(sts' j).nx:=fun i j hij=>by
      induction j with
      | zero=>rw [show i=0 by omega]; exact cY _
      | succ j ih =>
        by_cases hi:i=j+1
        · rw [hi]; exact cY _
        · exact dX (ih (by omega)) (hstep j)
    have hFS:∀ j,j≤ops.length→(sts' j).toS=FSt ops vs mws st.toS (fun _=>true) j:=fun j hj=>by
      rw [hs' j hj]
      induction j with
      | zero=>rw [h0]; rfl
      | succ j ih =>
        obtain ⟨g1,g2,_⟩:=hv j ops[j] (by simp [show j < ops.length by omega])
        have ih:=ih (by omega)
        rw [g1,zcb4 _ _ _ _ g2]
        have hq:ops[j]? = some ops[j]:=by simp [show j < ops.length by omega]
        simp only [FSt,hq,cB]
        rw [← ih]
        rfl
    refine wp_region_any hm ?_
    refine zcu8 (s0:=st.toS) (vs:=vs) (mws:=mws) (sts:=sts') (K:=fun s=>Q .normal (s.drop dr)) hG hr hc2 hc3 (by rw [hs' _ (cY _)]; exact hK) hFS (fun j p hp=>?_) hmono (fun y hy=>?_) (fun j p y hp hy=>?_) (fun st' a' w' hQ hs'=>⟨_,hQ,hs'.drop⟩) os.size _ a _ (by simp) ?_ (fun j o ho hj=>?_) ?_
    · have hj:=(cD.1 hp).1
      obtain ⟨g1,g2,g3,g4,_,g6⟩:=hv j p hp
      rw [hs' j (by omega)]
      refine ⟨g2,g3,g4,fun i q hi hq hn=>?_⟩
      rw [hs' i (by omega)]
      simp only [List.length_nil,dY] at g6
      exact g6 i q hi hq hn
    · rw [hs' 0 (eZ _),h0] at hy
      exact zcb7 st y hy
    · have hj:=(cD.1 hp).1
      obtain ⟨g1,g2,_⟩:=hv j p hp
      rw [hs' (j+1) (by omega),g1]
      exact zcU0 g2 y hy
    · have e:FSt ops vs mws st.toS (fun i=>(Array.replicate os.size false).getD i false) ops.length=FSt ops vs mws st.toS (fun _=>false) ops.length:=zbI6 _ fun i _=>by simp [Array.getD]
      have e2:∀ n,FSt ops vs mws st.toS (fun _=>false) n=st.toS:=fun n=>by
        induction n with
        | zero=>rfl
        | succ n ih=>simp only [FSt,ih,bU,cA]; split <;> rfl
      rw [e,e2]
      exact hs.drawn (kL _)
    · simp [Array.getD] at hj
    · have:∀ n,left (fun i=>(Array.replicate os.size false).getD i false) n≤n:=fun n=>by
        induction n with
        | zero=>exact cY _
        | succ n ih=>simp only [left]; split <;> omega
      exact this _
  | _=>simp [chkC] at hc
end
def memN (n:Nat):List Nat→Bool
 | []=>false
 | m :: ms=>if n=m then true else memN n ms
theorem zbJ1 {n:Nat}:∀ {l:List Nat},memN n l=true ↔ n ∈ l
 | []=>by simp [memN]
 | m :: ms=>by
  unfold memN
  split
  ·rename_i h; simp [h]
  ·rename_i h; rw [zbJ1]; simp [h]
def fzA (ids:List Nat) (m:Nat→MS):A→A
 | .own y lo n=>if memN y ids=true then frz1 m (.own y lo n) else .own y lo n
 | a=>a
def fzCs (ids:List Nat) (m:Nat→MS):List A→List A
 | []=>[]
 | a :: az=>fzA ids m a :: fzCs ids m az
def fzV (ids:List Nat) (m:Nat→MS):A→A
 | .agg cs=>if zn2 cs=true then .agg cs else .agg (fzCs ids m cs)
 | a=>fzA ids m a
def fzEs (ids:List Nat) (m:Nat→MS) (es:List (List A)):List (List A):=if pureEs es=true then es else es.map (fzCs ids m)
def fzFr (ids:List Nat) (m:Nat→MS):List (Nat×A)→List (Nat×A)
 | []=>[]
 | q :: r=>(q.1,fzV ids m q.2) :: fzFr ids m r
def zck4 (ids:List Nat) (m:Nat→MS):List (Nat×Row)→List (Nat×Row)
 | []=>[]
 | q :: r=>(q.1,⟨q.2.ro||memN q.1 ids,q.2.sz,q.2.z,fzEs ids m q.2.es⟩) :: zck4 ids m r
def zbW7 (ids:List Nat) (m:Nat→MS):A→Prop
 | .own y lo n=>if memN y ids=true then zat6 m (.own y lo n) else True
 | _=>True
def zbv3 (ids:List Nat) (m:Nat→MS):List A→Prop
 | []=>True
 | a :: az=>zbW7 ids m a∧zbv3 ids m az
def zck5 (ids:List Nat) (m:Nat→MS):A→Prop
 | .agg cs=>if zn2 cs=true then True else zbv3 ids m cs
 | a=>zbW7 ids m a
def zbF2 (ids:List Nat) (m:Nat→MS):List (List A)→Prop
 | []=>True
 | c :: cs=>zbv3 ids m c∧zbF2 ids m cs
def zcc0 (ids:List Nat) (m:Nat→MS) (es:List (List A)):Prop:=if pureEs es=true then True else zbF2 ids m es
def zcc1 (ids:List Nat) (m:Nat→MS):List (Nat×A)→Prop
 | []=>True
 | q :: r=>zck5 ids m q.2∧zcc1 ids m r
def zbF3 (ids:List Nat) (m:Nat→MS):List (Nat×Row)→Prop
 | []=>True
 | q :: r=>zcc0 ids m q.2.es∧zbF3 ids m r
def St.fz (st:St) (ids:List Nat):St:=⟨fzFr ids st.m st.fr,zck4 ids st.m st.mem,st.nx⟩
def St.fzOk (st:St) (ids:List Nat):Prop:=zcc1 ids st.m st.fr∧zbF3 ids st.m st.mem
section
variable {C:Cx} {a:Act} {E:Env} {st:St} {w:World} {W:Nat→Prop} {μ:Nat→Loc}
theorem zcc2 (ids:List Nat) (m:Nat→MS):∀ (cs:List A) (i:Nat),(fzCs ids m cs)[i]? = (cs[i]?).map (fzA ids m)
 | [],i=>by simp [fzCs]
 | c :: cs,i=>by
  cases i with
  | zero=>simp [fzCs]
  | succ i=>simp [fzCs,zcc2 ids m cs i]
theorem zbJ2 (ids:List Nat) (m:Nat→MS):∀ cs:List A,(fzCs ids m cs).length=cs.length
 | []=>rfl
 | _ :: cs=>by simp [fzCs,zbJ2 ids m cs]
theorem zbv4 {ids:List Nat} {m:Nat→MS}:∀ {cs:List A},zbv3 ids m cs→∀ c ∈ cs,zbW7 ids m c
 | c :: cs,h,d,hd=>by
  rcases cE.1 hd with rfl|hd
  ·exact h.1
  ·exact zbv4 h.2 d hd
theorem zbJ3 {ids:List Nat} {m:Nat→MS}:∀ {cs:List (List A)},zbF2 ids m cs→∀ c ∈ cs,zbv3 ids m c
 | c :: cs,h,d,hd=>by
  rcases cE.1 hd with rfl|hd
  ·exact h.1
  ·exact zbJ3 h.2 d hd
theorem zbW8 (ids:List Nat) (m:Nat→MS) (t:Nat):∀ fr:List (Nat×A),look (fzFr ids m fr) t=(look fr t).map (fzV ids m)
 | []=>rfl
 | q :: r=>by
  simp only [fzFr,look]
  split
  ·rfl
  ·exact zbW8 ids m t r
theorem zbJ4 (ids:List Nat) (m:Nat→MS) (x:Nat):∀ mem:List (Nat×Row),look (zck4 ids m mem) x=(look mem x).map fun r=>⟨r.ro||memN x ids,r.sz,r.z,fzEs ids m r.es⟩
 | []=>rfl
 | q :: r=>by
  simp only [zck4,look]
  split
  ·rename_i h; subst h; rfl
  ·exact zbJ4 ids m x r
theorem zbW9 {ids:List Nat} {m:Nat→MS}:∀ {fr:List (Nat×A)},zcc1 ids m fr→∀ t v,look fr t=some v→zck5 ids m v
 | q :: r,h,t,v,hv=>by
  simp only [look] at hv
  split at hv
  ·cases hv; exact h.1
  ·exact zbW9 h.2 t v hv
theorem zbJ5 {ids:List Nat} {m:Nat→MS}:∀ {mem:List (Nat×Row)},zbF3 ids m mem→∀ x r,look mem x=some r→zcc0 ids m r.es
 | q :: r,h,t,v,hv=>by
  simp only [look] at hv
  split at hv
  ·cases hv; exact h.1
  ·exact zbJ5 h.2 t v hv
theorem RepK.less {v:Value} {x:A} {ids:List Nat} (h:RepK w W μ v x):RepK w (zaF8 W μ ids) μ v x :=
 h.goes (Keeps.refl (fun _=>False) w) (fun _ _ _ h=>h) (fun _ _ h1 h2=>h1 h2.1) (Old.refl μ)
theorem zcc3 {s:S} (hs:SatW E s a w W μ) {v:Value} {x:A} {ids:List Nat} (h:RepK w W μ v x) (hok:zbW7 ids s.mem x):RepK w (zaF8 W μ ids) μ v (fzA ids s.mem x):=by
 cases x with
 | own y lo n =>
  simp only [fzA,zbW7] at hok ⊢
  split
  ·rename_i hy
   rw [bW hy] at hok
   exact zq1 (zbH5 hs h hok (fun z hz=>by simp [zO3] at hz; subst hz; exact zbJ1.1 hy))
  ·exact h.less
 | _=>exact h.less
theorem zdr2 {s:S} (hs:SatW E s a w W μ) {v:Value} {x:A} {ids:List Nat} (h:Rep w W μ v x) (hok:zck5 ids s.mem x):Rep w (zaF8 W μ ids) μ v (fzV ids s.mem x):=by
 have hgo:Rep w (zaF8 W μ ids) μ v x:=h.goes (Keeps.refl (fun _=>False) w) (fun _ _ _ h=>h) (fun _ _ h1 h2=>h1 h2.1) (Old.refl μ)
 cases x with
 | own y lo n=>exact zp1 (zo5 (zcc3 (x:=.own y lo n) hs h hok))
 | agg cs =>
  simp only [fzV,zck5] at hok ⊢
  split
  ·exact hgo
  ·rename_i hp
   rw [bT hp] at hok
   obtain ⟨vs,hv,hl,hr⟩:=h
   refine ⟨vs,hv,by rw [zbJ2]; exact hl,fun i u b hu hb=>?_⟩
   rw [zcc2] at hb
   obtain ⟨c,hc,rfl⟩:=cG.1 hb
   exact zcc3 hs (hr i u c hu hc) (zbv4 hok c (cN hc))
 | _=>exact hgo
theorem zcH7 {s:S} (hs:SatW E s a w W μ) (ids:List Nat):zbb3 w (zaF8 W μ ids) E.G:=fun g cs hg=>by
 obtain ⟨h1,h2,h3⟩:=hs.glob g cs hg
 refine ⟨fun hh=>h1 hh.1,h2,fun j b hj=>?_⟩
 obtain ⟨u,hu,hr⟩:=h3 j b hj
 exact ⟨u,hu,hr.less⟩
theorem St.le_fz (ids:List Nat) (h:st.fzOk ids):St.le E st (st.fz ids):=by
 intro a w ⟨W,μ,hs⟩
 refine ⟨zaF8 W μ ids,μ,{ hs with
  fr:=fun t=>?_
  mem:=fun x=>?_
  wsub:=fun b hb=>hs.wsub b hb.1
  wsup:=fun b hb=>?_
  wlt:=fun b hb=>hs.wlt b hb.1
  glob:=zcH7 hs ids }⟩
 ·show Rep w _ μ _ ((st.fz ids).slot t)
  have hr:Rep w W μ _ (st.slot t):=hs.fr t
  simp only [St.slot,St.fz,zbW8] at hr ⊢
  cases hl:look st.fr t with
  | none=>trivial
  | some v =>
   rw [hl] at hr
   exact zdr2 hs hr (zbW9 h.1 t v hl)
 ·show zan1 w _ μ x ((st.fz ids).m x)
  have hm:zan1 w W μ x (st.m x):=hs.mem x
  simp only [St.m,St.fz,zbJ4] at hm ⊢
  split
  ·rename_i hx; rw [bW hx] at hm; exact hm
  ·rename_i hx
   rw [bT hx] at hm
   cases hl:look st.mem x with
   | none=>rw [hl] at hm; exact hm
   | some r =>
    rw [hl] at hm
    have hok:=zbJ5 h.2 x r hl
    rcases hm with ⟨e1,e2,e3⟩|⟨k,e1,hro,hsz,hpos,us,rest,e,h4,h5,h6⟩
    ·exact .inl ⟨e1,by show fzEs ids st.m r.es=[]; rw [e2]; rfl,e3⟩
    ·refine .inr ⟨k,e1,fun hr=>?_,hsz,hpos,us,rest,e,h4,h5,?_⟩
     ·have hr':(r.ro||memN x ids)=false:=hr
      simp only [fT] at hr'
      refine ⟨hro hr'.1,fun ⟨y,ky,hy,hy2,hy3⟩=>?_⟩
      have:=hs.inj y x ky k hy2 e1 hy3
      subst this
      rw [zbJ1.2 hy] at hr'
      cases hr'.2
     ·show Flat _ r.sz us (fzEs ids st.m r.es)
      unfold fzEs
      unfold zcc0 at hok
      split
      ·exact h6.mono fun u b hr=>hr.less
      ·rename_i hp
       rw [bT hp] at hok
       refine ⟨by simpa using h6.hl,fun i c hc=>?_,fun i c j b hc hb=>?_⟩
       ·simp only [cL,cG] at hc
        obtain ⟨c0,hc0,rfl⟩:=hc
        rw [zbJ2]; exact h6.hs i c0 hc0
       ·simp only [cL,cG] at hc
        obtain ⟨c0,hc0,rfl⟩:=hc
        rw [zcc2] at hb
        obtain ⟨b0,hb0,rfl⟩:=cG.1 hb
        obtain ⟨u,hu,hr⟩:=h6.ha i c0 j b0 hc0 hb0
        exact ⟨u,hu,zcc3 hs hr (zbv4 (zbJ3 hok c0 (cN hc0)) b0 (cN hb0))⟩
 ·rcases hs.wsup b hb with h1|h1
  ·by_cases hx:∃ x k,x ∈ ids∧μ x=.at_ k∧k.b=b
   ·obtain ⟨x,k,_,hx2,hx3⟩:=hx
    rcases hs.live x k hx2 with h2|h2
    ·exact .inr (hx3 ▸ h2)
    ·have:=hs.winlt b hb; omega
   ·exact .inl ⟨h1,hx⟩
  ·exact .inr h1
def St.own0 (st:St) (t sz:Nat) (z:List A):St:=⟨(t,.own st.nx 0 0) :: rm t st.fr,(st.nx,⟨false,sz,z,[]⟩) :: st.mem,st.nx+1⟩
theorem St.le_own0 (t sz:Nat) (z:List A) (hz:0 < sz) (h:st.slot t=.full []):St.le E st (st.own0 t sz z):=by
 intro a w ⟨W,μ,hs⟩
 have hst:=Step.newEmpty (r:=⟨false,sz,z,[]⟩) hs.mem hs.inj hs.wlt (St.m_nx st) hz rfl (Keeps.refl _ w)
 have h2:=hs.step (d:=none) (v:=undef) (av:=.any) hst (fun x hx=>by cases hx) trivial
 have hem:(st.own0 t sz z).m=setM st.m [(st.nx,.row ⟨false,sz,z,[]⟩)]:=by
  funext x
  simp only [St.m,St.own0,setM,look]
  by_cases hx:x=st.nx
  ·subst hx
   rw [bT (by omega),bW rfl,bW rfl]
  ·by_cases h3:st.nx≤x
   ·rw [bW (show st.nx+1≤x by omega),bT hx,bW h3]
   ·rw [bT (show ¬ st.nx+1≤x by omega),bT (show ¬ st.nx=x by omega),bT hx,bT h3]
 refine ⟨_,_,{ h2 with fr:=fun t'=>?_,mem:=?_ }⟩
 ·have h3:=h2.fr t'
  show Rep w W _ (a.tmps.getD t' undef) ((st.own0 t sz z).slot t')
  have h4:Rep w W (fun x=>if x=st.nx then .empty else μ x) (a.tmps.getD t' undef) (st.slot t'):=h3
  simp only [St.slot,St.own0,look]
  split
  ·rename_i ht
   subst ht
   rw [h] at h4
   have h5:RepC w W (a.tmps.getD t undef) (.full []):=h4
   generalize a.tmps.getD t undef=v at h5
   cases h5 with
   | full ad n es h6 =>
    cases h6 with
    | sl0=>exact zaO9 (by simp) 0
    | sl b off cap s es us _ _ hn=>simp at hn
  ·rename_i ht
   rw [zaB0,bT (fun e=>ht e.symm)]
   exact h4
 ·show zaI0 w W _ (st.own0 t sz z).m
  rw [hem]
  exact h2.mem
def zaW0 (j n:Nat):List (List A)→List (List A)
 | [c]=>[upd c j [.own n 0 0]]
 | es=>es
def zbr7 (x j n:Nat):List (Nat×Row)→List (Nat×Row)
 | []=>[]
 | q :: r=>if q.1=x then (q.1,⟨q.2.ro,q.2.sz,q.2.z,zaW0 j n q.2.es⟩) :: r else q :: zbr7 x j n r
def zcU1 (j:Nat):List (List A)→Prop
 | [c]=>sub c j 1=[.full []]
 | _=>False
def St.ownb (st:St) (x j sz:Nat) (z:List A):St:=⟨st.fr,(st.nx,⟨false,sz,z,[]⟩) :: zbr7 x j st.nx st.mem,st.nx+1⟩
def St.ownbOk (st:St) (x j sz:Nat):Prop:=0 < sz∧match st.m x with
 | .row r=>zcU1 j r.es
 | _=>False
theorem zbr8 (x j n y:Nat):∀ mem:List (Nat×Row),look (zbr7 x j n mem) y=(look mem y).map fun r=>if y=x then ⟨r.ro,r.sz,r.z,zaW0 j n r.es⟩ else r
 | []=>rfl
 | q :: r=>by
  simp only [zbr7]
  split
  ·rename_i h
   simp only [look]
   split
   ·rename_i h2; simp [← h2,h]
   ·rename_i h2
    have:¬ y=x:=fun e=>h2 (h.trans e.symm)
    cases look r y <;> simp [this]
  ·rename_i h
   simp only [look]
   split
   ·rename_i h2; simp [← h2,h]
   ·exact zbr8 x j n y r
theorem zck6 {v:Value} {x:Nat} (hx:μ x=.empty) (h:RepK w W μ v (.full [])):RepK w W μ v (.own x 0 0):=by
 have h5:RepC w W v (.full []):=h
 cases h5 with
 | full ad n es h6 =>
  cases h6 with
  | sl0 =>
   refine ⟨rfl,?_⟩
   rw [hx]
   exact ⟨rfl,ad,rfl⟩
  | sl b off cap s es us _ _ hn=>simp at hn
theorem St.le_ownb (x j sz:Nat) (z:List A) (h:st.ownbOk x j sz):St.le E st (st.ownb x j sz z):=by
 obtain ⟨hz,hnil⟩:=h
 intro a w ⟨W,μ,hs⟩
 have hst:=Step.newEmpty (r:=⟨false,sz,z,[]⟩) hs.mem hs.inj hs.wlt (St.m_nx st) hz rfl (Keeps.refl _ w)
 have h2:=hs.step (d:=none) (v:=undef) (av:=.any) hst (fun x hx=>by cases hx) trivial
 refine ⟨_,_,{ h2 with fr:=fun t=>h2.fr t,mem:=fun y=>?_ }⟩
 have hm:=h2.mem y
 have hxn:x < st.nx:=by
  cases hr:st.m x with
  | fresh=>rw [hr] at hnil; exact hnil.elim
  | dead=>rw [hr] at hnil; exact hnil.elim
  | row r=>exact St.m_row hr
 show zan1 w W _ y ((st.ownb x j sz z).m y)
 have hm':zan1 w W (fun x=>if x=st.nx then .empty else μ x) y (setM st.m [(st.nx,.row ⟨false,sz,z,[]⟩)] y):=hm
 simp only [setM] at hm'
 by_cases hy:y=st.nx
 ·subst hy
  have e:(st.ownb x j sz z).m st.nx=.row ⟨false,sz,z,[]⟩:=by
   simp only [St.m,St.ownb,look]
   rw [bT (by omega)]; simp
  rw [bW rfl] at hm'
  rw [e]; exact hm'
 rw [bT hy] at hm'
 have e:(st.ownb x j sz z).m y=match st.m y with
   | .row r=>.row (if y=x then ⟨r.ro,r.sz,r.z,zaW0 j st.nx r.es⟩ else r)
   | q=>q:=by
  simp only [St.m,St.ownb,look,zbr8]
  by_cases h3:st.nx≤y
  ·rw [bW (show st.nx+1≤y by omega),bW h3]
  ·rw [bT (show ¬ st.nx+1≤y by omega),bT (show ¬ st.nx=y by omega),bT h3]
   cases look st.mem y <;> rfl
 rw [e]
 cases hr:st.m y with
 | fresh=>rw [hr] at hm'; exact hm'
 | dead=>rw [hr] at hm'; exact hm'
 | row r =>
  rw [hr] at hm'
  simp only
  by_cases hyx:y=x
  ·subst hyx
   rw [bW rfl]
   rw [hr] at hnil
   have hnil:zcU1 j r.es:=hnil
   rcases hm' with ⟨g1,g2,g3⟩|⟨k,g1,g2,g3,g4,us,rest,e',g5,g6,g7⟩
   ·rw [g2] at hnil; exact hnil.elim
   ·refine .inr ⟨k,g1,g2,g3,g4,us,rest,e',g5,g6,?_⟩
    show Flat _ r.sz us (zaW0 j st.nx r.es)
    obtain ⟨ro,sz',z',es⟩:=r
    match es,hnil with
    | [c],hnil =>
     have hj:sub c j 1=[.full []]:=hnil
     have hc:c.length=sz':=g7.hs 0 c rfl
     have hjl:c[j]? = some (.full []):=by
      have h8:((c.drop j).take 1)[0]? = some (.full []):=by
       show (sub c j 1)[0]? = _
       rw [hj]; rfl
      simpa [dP,dT] using h8
     have hlt:j < c.length:=(cD.1 hjl).1
     have hu:upd c j [.own st.nx 0 0]=c.set j (.own st.nx 0 0):=by
      simp only [upd,List.length_cons,List.length_nil,dY]
      rw [iZ,bW hlt]
      simp
     refine ⟨g7.hl,fun i d hd=>?_,fun i d q b hd hb=>?_⟩
     ·cases i with
      | zero =>
       simp [zaW0] at hd
       subst hd
       rw [hu,dQ]; exact hc
      | succ i=>simp [zaW0] at hd
     ·cases i with
      | zero =>
       simp [zaW0] at hd
       subst hd
       rw [hu,jV] at hb
       split at hb
       ·rename_i hq
        subst hq
        cases hb
        obtain ⟨u,hu1,hu2⟩:=g7.ha 0 c j _ rfl hjl
        exact ⟨u,hu1,zck6 (by simp) hu2⟩
       ·exact g7.ha 0 c q b rfl hb
      | succ i=>simp [zaW0] at hd
  ·rw [bT hyx]; exact hm'
def unfA:A→A
 | .full es=>.sl es
 | a=>a
def zaN1:List A→List A
 | []=>[]
 | a :: az=>unfA a :: zaN1 az
def zbJ6:List (Nat×Row)→List (Nat×Row)
 | []=>[]
 | q :: r=>(q.1,⟨q.2.ro,q.2.sz,q.2.z,q.2.es.map zaN1⟩) :: zbJ6 r
def St.unf (st:St):St:=⟨st.fr,zbJ6 st.mem,st.nx⟩
theorem zbJ7:∀ (cs:List A) (i:Nat),(zaN1 cs)[i]? = (cs[i]?).map unfA
 | [],i=>by simp [zaN1]
 | c :: cs,i=>by
  cases i with
  | zero=>simp [zaN1]
  | succ i=>simp [zaN1,zbJ7 cs i]
theorem zbv5:∀ cs:List A,(zaN1 cs).length=cs.length
 | []=>rfl
 | _ :: cs=>by simp [zaN1,zbv5 cs]
theorem zbB0 (x:Nat):∀ mem:List (Nat×Row),look (zbJ6 mem) x=(look mem x).map fun r=>⟨r.ro,r.sz,r.z,r.es.map zaN1⟩
 | []=>rfl
 | q :: r=>by
  simp only [zbJ6,look]
  split
  ·rfl
  ·exact zbB0 x r
theorem zcD0 {v:Value} {x:A} (h:RepK w W μ v x):RepK w W μ v (unfA x):=by
 cases x with
 | full es =>
  have h2:RepC w W v (.full es):=h
  cases h2 with
  | full a n es h3=>exact zq1 h3
 | _=>exact h
theorem St.le_unf:St.le E st st.unf:=by
 intro a w ⟨W,μ,hs⟩
 refine ⟨W,μ,{ hs with mem:=fun x=>?_ }⟩
 show zan1 w W μ x (st.unf.m x)
 have hm:zan1 w W μ x (st.m x):=hs.mem x
 simp only [St.m,St.unf,zbB0] at hm ⊢
 split
 ·rename_i hx; rw [bW hx] at hm; exact hm
 ·rename_i hx
  rw [bT hx] at hm
  cases hl:look st.mem x with
  | none=>rw [hl] at hm; exact hm
  | some r =>
   rw [hl] at hm
   rcases hm with ⟨e1,e2,e3⟩|⟨k,e1,hro,hsz,hpos,us,rest,e,h4,h5,h6⟩
   ·exact .inl ⟨e1,by show r.es.map zaN1=[]; rw [e2]; rfl,e3⟩
   ·refine .inr ⟨k,e1,hro,hsz,hpos,us,rest,e,h4,h5,?_⟩
    show Flat _ r.sz us (r.es.map zaN1)
    refine ⟨by simpa using h6.hl,fun i c hc=>?_,fun i c j b hc hb=>?_⟩
    ·simp only [cL,cG] at hc
     obtain ⟨c0,hc0,rfl⟩:=hc
     rw [zbv5]; exact h6.hs i c0 hc0
    ·simp only [cL,cG] at hc
     obtain ⟨c0,hc0,rfl⟩:=hc
     rw [zbJ7] at hb
     obtain ⟨b0,hb0,rfl⟩:=cG.1 hb
     obtain ⟨u,hu,hr⟩:=h6.ha i c0 j b0 hc0 hb0
     exact ⟨u,hu,zcD0 hr⟩
def St.cast (st:St) (t:Nat) (v:A):St:=⟨(t,v) :: rm t st.fr,st.mem,st.nx⟩
theorem St.le_cast (t:Nat) (v:A) (h:st.slot t=v):St.le E st (st.cast t v):=by
 have e:(st.cast t v).toS=st.toS:=by
  simp only [St.toS]
  congr 1
  funext x
  simp only [St.slot,St.cast,look]
  split
  ·rename_i hx; subst hx; exact h.symm
  ·rename_i hx; rw [zaB0,bT (fun e=>hx e.symm)]
 intro a w hs
 rw [e]; exact hs
def St.unfs (st:St) (t:Nat):St:=⟨(t,unfA (st.slot t)) :: rm t st.fr,st.mem,st.nx⟩
theorem St.le_unfs (t:Nat):St.le E st (st.unfs t):=by
 intro a w ⟨W,μ,hs⟩
 refine ⟨W,μ,{ hs with fr:=fun t'=>?_ }⟩
 show Rep w W μ (a.tmps.getD t' undef) ((st.unfs t).slot t')
 have hr:Rep w W μ (a.tmps.getD t' undef) (st.slot t'):=hs.fr t'
 by_cases h:t=t'
 ·subst h
  have e:(st.unfs t).slot t=unfA (st.slot t):=by simp [St.slot,St.unfs,look]
  rw [e]
  generalize st.slot t=x at hr ⊢
  cases x with
  | full es =>
   have h2:RepC w W (a.tmps.getD t undef) (.full es):=hr
   exact zp1 (zo5 (zq1 h2.of_full.1))
  | _=>exact hr
 ·have e:(st.unfs t).slot t'=st.slot t':=by
   simp only [St.slot,St.unfs,look]
   rw [bT h,zaB0,bT (fun e=>h e.symm)]
  rw [e]; exact hr
inductive Gh where
 | unf
 | cast (t:Nat) (v:A)
 | fz (ids:List Nat)
 | own0 (t sz:Nat) (z:List A)
 | ownb (x j sz:Nat) (z:List A)
 | unfs (t:Nat)
def St.gh (st:St):Gh→St
 | .unf=>st.unf
 | .cast t v=>st.cast t v
 | .fz ids=>st.fz ids
 | .own0 t sz z=>st.own0 t sz z
 | .ownb x j sz z=>st.ownb x j sz z
 | .unfs t=>st.unfs t
def St.ghOk (st:St):Gh→Prop
 | .unf=>True
 | .cast t v=>st.slot t=v
 | .fz ids=>st.fzOk ids
 | .own0 t sz _=>0 < sz∧st.slot t=.full []
 | .ownb x j sz _=>st.ownbOk x j sz
 | .unfs _=>True
theorem St.le_gh (g:Gh) (h:st.ghOk g):St.le E st (st.gh g):=by
 cases g with
 | unf=>exact St.le_unf
 | cast t v=>exact St.le_cast t v h
 | fz ids=>exact St.le_fz ids h
 | own0 t sz z=>exact St.le_own0 t sz z h.1 h.2
 | ownb x j sz z=>exact St.le_ownb x j sz z h
 | unfs t=>exact St.le_unfs t
theorem zdy4 {c:PC} {Q:Exit→St→Prop} (g:Gh) (hok:st.ghOk g) (h:AW C E c Q (st.gh g)):AW C E c Q st:=AW.weak (St.le_gh g hok) h
end
def zbB1 (C:Cx) (f:FuncId) (d:Option Nat) (g:Option (Nat×Bool)) (gv:Bool) (ob:Prop) (args:List A) (rw:List (Nat×MS)) (ps:List POp) (st:St) (K:St→Prop):Prop :=
 ∃ r,(gv=true→ob∧PFn C f args r)∧(g=none∨(if r.scal then [] else rw)=[]∧r.isVV=true)∧arun C ps (st.app d (zQ2 g gv r) (if r.scal then [] else rw)) K
theorem zcU2 {C:Cx} {f:FuncId} {d:Option Nat} {g:Option (Nat×Bool)} {gv:Bool} {ob:Prop} {args:List A} {rw:List (Nat×MS)} {ps:List POp} {st:St} {K:St→Prop} {r:A}
  (hf:gv=true→PFn C f args r) (h:arun C ps (st.app d (zQ2 g gv r) (if r.scal then [] else rw)) K)
  (ho:gv=true→ob:=by intro; trivial) (hg:g=none∨(if r.scal then [] else rw)=[]∧r.isVV=true:=by first|exact .inl rfl|exact .inr ⟨rfl,rfl⟩):zbB1 C f d g gv ob args rw ps st K:=⟨r,fun e=>⟨ho e,hf e⟩,hg,h⟩
def zam4 (C:Cx) (f:FuncId) (d:Option Nat) (g:Option (Nat×Bool)) (gv:Bool) (ob:Prop) (vals:List A) (ps:List POp) (st:St) (K:St→Prop):Prop :=
 zaM6 C st.m st.nx f vals g gv ob (fun _=>True) fun v mw=>arun C ps (st.app d v mw) K
def zbc2:A→Bool
 | .cnd _ _=>false
 | _=>true
theorem zbc3 {r:A} (h:zbc2 r=true):∀ g c,r≠.cnd g c:=fun g c e=>by subst e; cases h
theorem zcH8 {C:Cx} {f:FuncId} {d:Option Nat} {ob:Prop} {vals:List A} {ps:List POp} {st:St} {K:St→Prop} (l:List (Nat×Nat)) {az:List A} {ms ms':List (Nat×Row)} {k k':Nat} {r:A}
  (hf:MFn C f az ms k r ms' k') (hok:okM st.m st.nx l vals az ms k k') (h:arun C ps (st.app d (renR (l++newL k st.nx (k' - k)) r) (mwM st.m (l++newL k st.nx (k' - k)) vals az ms ms' k k')) K)
  (ho:ob:=by trivial) (hr:zbc2 r=true:=by rfl):zam4 C f d none true ob vals ps st K :=
 ⟨l,az,ms,k,r,ms',k',fun _=>⟨ho,hf,hok,trivial⟩,(fun h=>nomatch h),.inl rfl,zbc3 hr,h⟩
theorem zcu9 {C:Cx} {f:FuncId} {d:Option Nat} {g:Option (Nat×Bool)} {gv:Bool} {ob:Prop} {vals:List A} {ps:List POp} {st:St} {K:St→Prop} (l:List (Nat×Nat)) {az:List A} {ms ms':List (Nat×Row)} {k:Nat} {r:A}
  (hf:gv=true→MFn C f az ms k r ms' k) (hok:gv=true→okM st.m st.nx l vals az ms k k) (hs:gv=false→zbr2 st.m (mwM st.m l vals az ms ms' k k)) (h:arun C ps (st.app d (zQ2 g gv (renR l r)) (mwM st.m l vals az ms ms' k k)) K)
  (ho:gv=true→ob) (hr:zbc2 r=true:=by rfl) (hv:(renR l r).isVV=true:=by rfl):zam4 C f d g gv ob vals ps st K:=by
 have e:l++newL k st.nx (k - k)=l:=by rw [gH]; exact dV l
 refine ⟨l,az,ms,k,r,ms',k,fun h=>⟨ho h,hf h,hok h,trivial⟩,?_⟩
 rw [e]
 exact ⟨fun h=>⟨rfl,hs h⟩,.inr hv,zbc3 hr,h⟩
theorem zcU3 (C:Cx) (st:St) (K:St→Prop):arun C [] st K=K st:=rfl
theorem zcH9 (C:Cx) (d:Option Nat) (g:Option (Nat×Bool)) (po:PO) (xs:List PX) (ps:List POp) (st:St) (K:St→Prop) :
  arun C (⟨d,g,po,xs⟩ :: ps) st K=(match po with
   | .call f=>(match zO4 st g with
    | none=>False
    | some gv=>zbB1 C f d g gv (zar2 C st xs∧zE9 st.m (zs5 C st xs)) (zO8 st.m (zs5 C st xs)) (zQ1 st.m (zF0 (zs5 C st xs))) ps st K)
   | .callv=>(match zO4 st g with
    | none=>False
    | some gv=>(match zs5 C st xs with
     | .clo f caps :: vals=>zbB1 C f d g gv (zar2 C st xs∧zY1 C.P f=true∧zE9 st.m (vals++caps)) (zO8 st.m (vals++caps)) (zQ1 st.m (zF0 (vals++caps))) ps st K
     | _=>False))
   | .callm f=>(match zO4 st g with
    | none=>False
    | some gv=>zam4 C f d g gv (zar2 C st xs) (zs5 C st xs) ps st K)
   | .callvm=>(match zO4 st g with
    | none=>False
    | some gv=>(match zs5 C st xs with
     | .clo f caps :: vals=>zam4 C f d g gv (zar2 C st xs∧zY1 C.P f=true) (vals++caps) ps st K
     | _=>False))
   | .eqNil=>g=none∧zar2 C st xs∧nilQ (fun b=>arun C ps (st.app d (.bool b) []) K) (zs5 C st xs)
   | po=>aop C ⟨d,g,po,xs⟩ st fun st'=>arun C ps st' K):=by
 cases po with
 | eqNil=>rfl
 | call f =>
  simp only [arun,aop,zbB1,PO.isNilQ,bU,cA]
  cases zO4 st g with
  | none=>rfl
  | some gv=>simp only [zJ7,fY]
 | callv =>
  simp only [arun,aop,PO.isNilQ,bU,cA]
  cases zO4 st g with
  | none=>rfl
  | some gv =>
   simp only
   generalize zs5 C st xs=vv
   rcases vv with _|⟨x,vs⟩
   ·rfl
   ·cases x <;> first|rfl|(simp only [zbB1,zJ7,fY])
 | callm f =>
  simp only [arun,aop,zam4,PO.isNilQ,bU,cA]
  cases zO4 st g with
  | none=>rfl
  | some gv=>rfl
 | callvm =>
  simp only [arun,aop,PO.isNilQ,bU,cA]
  cases zO4 st g with
  | none=>rfl
  | some gv =>
   simp only
   generalize zs5 C st xs=vv
   rcases vv with _|⟨x,vs⟩
   ·rfl
   ·cases x <;> first|rfl|(simp only [zam4])
 | _=>rfl
def zbc4 (C:Cx) (f:FuncId) (d:Option Nat) (g:Option (Nat×Bool)) (gv:Bool) (ob:Prop) (args:List A) (rw:List (Nat×MS)) (ps:List POp) (st:St) (K:St→Prop):Prop :=
 ∃ r,(gv=true→ob∧PFn C f args r)∧(g=none∨(if r.scal then [] else rw)=[]∧r.isVV=true)∧((st.app d (zQ2 g gv r) (if r.scal then [] else rw)).mem=st.mem∧(st.app d (zQ2 g gv r) (if r.scal then [] else rw)).nx=st.nx)∧zaX9 C ps (st.app d (zQ2 g gv r) (if r.scal then [] else rw)) K
theorem zcI0 {C:Cx} {f:FuncId} {d:Option Nat} {g:Option (Nat×Bool)} {gv:Bool} {ob:Prop} {args:List A} {rw:List (Nat×MS)} {ps:List POp} {st:St} {K:St→Prop} {r:A}
  (hf:gv=true→PFn C f args r) (h:zaX9 C ps (st.app d (zQ2 g gv r) []) K)
  (ho:gv=true→ob:=by intro; trivial) (hg:g=none∨(if r.scal then [] else rw)=[]∧r.isVV=true:=by first|exact .inl rfl|exact .inr ⟨rfl,rfl⟩) (hn:(if r.scal then [] else rw)=[]:=by rfl):zbc4 C f d g gv ob args rw ps st K:=⟨r,fun e=>⟨ho e,hf e⟩,hg,by rw [hn]; exact ⟨rfl,rfl⟩,by rw [hn]; exact h⟩
theorem zcI1 (C:Cx) (st:St) (K:St→Prop):zaX9 C [] st K=K st:=rfl
theorem zcv0 (C:Cx) (d:Option Nat) (g:Option (Nat×Bool)) (po:PO) (xs:List PX) (ps:List POp) (st:St) (K:St→Prop) :
  zaX9 C (⟨d,g,po,xs⟩ :: ps) st K=(match po with
   | .call f=>(match zO4 st g with
    | none=>False
    | some gv=>zbc4 C f d g gv (zar2 C st xs∧zE9 st.m (zs5 C st xs)) (zO8 st.m (zs5 C st xs)) (zQ1 st.m (zF0 (zs5 C st xs))) ps st K)
   | .callv=>(match zO4 st g with
    | none=>False
    | some gv=>(match zs5 C st xs with
     | .clo f caps :: vals=>zbc4 C f d g gv (zar2 C st xs∧zY1 C.P f=true∧zE9 st.m (vals++caps)) (zO8 st.m (vals++caps)) (zQ1 st.m (zF0 (vals++caps))) ps st K
     | _=>False))
   | po=>aop C ⟨d,g,po,xs⟩ st fun st'=>(st'.mem=st.mem∧st'.nx=st.nx)∧zaX9 C ps st' K):=by
 cases po with
 | call f =>
  simp only [zaX9,aop,zbc4]
  cases zO4 st g with
  | none=>rfl
  | some gv=>simp only [zJ7,fY]
 | callv =>
  simp only [zaX9,aop]
  cases zO4 st g with
  | none=>rfl
  | some gv =>
   simp only
   generalize zs5 C st xs=vv
   rcases vv with _|⟨x,vs⟩
   ·rfl
   ·cases x <;> first|rfl|(simp only [zbc4,zJ7,fY])
 | _=>rfl
def zbc5 (C:Cx) (an:List (List Nat)) (f:FuncId) (d:Option Nat) (g:Option (Nat×Bool)) (gv:Bool) (ob:Prop) (args:List A) (rw:List (Nat×MS)) (ids:List Nat) (cok:Bool) (ps:List POp) (st:St) (log:List (List Nat×List Nat)) (K:St→Prop):Prop :=
 ∃ r,(gv=true→ob∧PFn C f args r)∧(g=none∨(if r.scal then [] else rw)=[]∧r.isVV=true)∧zaY0 (an.getD log.length []) 0 log ids ((if r.scal then [] else rw).map (·.1))=true∧cok=true ∧
  zax0 C an ps (st.app d (zQ2 g gv r) (if r.scal then [] else rw)) (log++[(ids,(if r.scal then [] else rw).map (·.1))]) K
theorem zcI2 {C:Cx} {an:List (List Nat)} {f:FuncId} {d:Option Nat} {g:Option (Nat×Bool)} {gv:Bool} {ob:Prop} {args:List A} {rw:List (Nat×MS)} {ids:List Nat} {cok:Bool} {ps:List POp} {st:St} {log:List (List Nat×List Nat)} {K:St→Prop} {r:A}
  (hf:gv=true→PFn C f args r) (h:zaY0 (an.getD log.length []) 0 log ids ((if r.scal then [] else rw).map (·.1))=true∧cok=true∧zax0 C an ps (st.app d (zQ2 g gv r) (if r.scal then [] else rw)) (log++[(ids,(if r.scal then [] else rw).map (·.1))]) K)
  (ho:gv=true→ob:=by intro; trivial) (hg:g=none∨(if r.scal then [] else rw)=[]∧r.isVV=true:=by first|exact .inl rfl|exact .inr ⟨rfl,rfl⟩):zbc5 C an f d g gv ob args rw ids cok ps st log K:=⟨r,fun e=>⟨ho e,hf e⟩,hg,h.1,h.2.1,h.2.2⟩
def zaG5 (C:Cx) (an:List (List Nat)) (f:FuncId) (d:Option Nat) (g:Option (Nat×Bool)) (gv:Bool) (ob:Prop) (vals:List A) (ids:List Nat) (cok:Bool) (ps:List POp) (st:St) (log:List (List Nat×List Nat)) (K:St→Prop):Prop :=
 zaM6 C st.m st.nx f vals g gv ob (fun n=>∀ x,st.nx≤x→x < st.nx+n→st.m x=.fresh) fun v mw=>zaY0 (an.getD log.length []) 0 log ids (mw.map (·.1))=true∧cok=true∧zax0 C an ps (st.app d v mw) (log++[(ids,mw.map (·.1))]) K
theorem zcv1 {C:Cx} {an:List (List Nat)} {f:FuncId} {d:Option Nat} {ob:Prop} {vals:List A} {ids:List Nat} {cok:Bool} {ps:List POp} {st:St} {log:List (List Nat×List Nat)} {K:St→Prop} (l:List (Nat×Nat)) {az:List A} {ms ms':List (Nat×Row)} {k k':Nat} {r:A}
  (hf:MFn C f az ms k r ms' k') (hok:okM st.m st.nx l vals az ms k k')
  (h:zaY0 (an.getD log.length []) 0 log ids ((mwM st.m (l++newL k st.nx (k' - k)) vals az ms ms' k k').map (·.1))=true∧cok=true∧zax0 C an ps (st.app d (renR (l++newL k st.nx (k' - k)) r) (mwM st.m (l++newL k st.nx (k' - k)) vals az ms ms' k k')) (log++[(ids,(mwM st.m (l++newL k st.nx (k' - k)) vals az ms ms' k k').map (·.1))]) K)
  (ho:ob:=by trivial) (hr:zbc2 r=true:=by rfl):zaG5 C an f d none true ob vals ids cok ps st log K :=
 ⟨l,az,ms,k,r,ms',k',fun _=>⟨ho,hf,hok,fun x hx _=>zcb7 st x hx⟩,(fun h=>nomatch h),.inl rfl,zbc3 hr,h⟩
theorem zcI3 (C:Cx) (an:List (List Nat)) (st:St) (log:List (List Nat×List Nat)) (K:St→Prop):zax0 C an [] st log K=K st:=rfl
theorem zcv2 (C:Cx) (an:List (List Nat)) (d:Option Nat) (g:Option (Nat×Bool)) (po:PO) (xs:List PX) (ps:List POp) (st:St) (log:List (List Nat×List Nat)) (K:St→Prop) :
  zax0 C an (⟨d,g,po,xs⟩ :: ps) st log K=(match po with
   | .call f=>(match zM9 st.slot g with
    | none=>False
    | some gv=>zbc5 C an f d g gv (gdsF C st.slot xs∧zE9 st.m (zJ3 C st.slot xs)) (zO8 st.m (zJ3 C st.slot xs)) (zQ1 st.m (zF0 (zJ3 C st.slot xs))) (zB7 (zs5 C st xs)) (zaV6 (zs5 C st xs)) ps st log K)
   | .callv=>(match zM9 st.slot g with
    | none=>False
    | some gv=>(match zJ3 C st.slot xs with
     | .clo f caps :: vals=>zbc5 C an f d g gv (gdsF C st.slot xs∧zY1 C.P f=true∧zE9 st.m (vals++caps)) (zO8 st.m (vals++caps)) (zQ1 st.m (zF0 (vals++caps))) (zB7 (zs5 C st xs)) (zaV6 (zs5 C st xs)) ps st log K
     | _=>False))
   | .callm f=>(match zM9 st.slot g with
    | none=>False
    | some gv=>zaG5 C an f d g gv (gdsF C st.slot xs) (zJ3 C st.slot xs) (zB7 (zs5 C st xs)) (zaV6 (zs5 C st xs)) ps st log K)
   | .callvm=>(match zM9 st.slot g with
    | none=>False
    | some gv=>(match zJ3 C st.slot xs with
     | .clo f caps :: vals=>zaG5 C an f d g gv (gdsF C st.slot xs∧zY1 C.P f=true) (vals++caps) (zB7 (zs5 C st xs)) (zaV6 (zs5 C st xs)) ps st log K
     | _=>False))
   | po=>aopS C ⟨d,g,po,xs⟩ st.toS st.nx fun v mw=>zaY0 (an.getD log.length []) 0 log (zB7 (zs5 C st xs)) (mw.map (·.1))=true∧zaV6 (zs5 C st xs)=true ∧
     zax0 C an ps (st.app d v mw) (log++[(zB7 (zs5 C st xs),mw.map (·.1))]) K):=by
 cases po with
 | call f =>
  simp only [zax0,aopS,zbc5,St.toS]
  cases zM9 st.slot g with
  | none=>rfl
  | some gv=>simp only [zJ7,fY]
 | callv =>
  simp only [zax0,aopS,St.toS]
  cases zM9 st.slot g with
  | none=>rfl
  | some gv =>
   simp only
   generalize zJ3 C st.slot xs=vv
   rcases vv with _|⟨x,vs⟩
   ·rfl
   ·cases x <;> first|rfl|(simp only [zbc5,zJ7,fY])
 | callm f =>
  simp only [zax0,aopS,zaG5,St.toS]
  cases zM9 st.slot g with
  | none=>rfl
  | some gv=>rfl
 | callvm =>
  simp only [zax0,aopS,St.toS]
  cases zM9 st.slot g with
  | none=>rfl
  | some gv =>
   simp only
   generalize zJ3 C st.slot xs=vv
   rcases vv with _|⟨x,vs⟩
   ·rfl
   ·cases x <;> first|rfl|(simp only [zaG5])
 | _=>rfl
attribute [go_sem ↓] aop aopS
attribute [go_sem] zcU3 zcH9 zcI1 zcv0 zcI3 zcv2 zM9 zJ3 gdsF St.toS zB7 idsA zbk5 zaQ6 zaV6 zbc1 A.flatCap okM zbr1 argM A.hands zdo1 zcB7 fzM zbV4 zbz7 newL zac0 mwM entM zbr2 MS.like renR ren0 zcj1 resL zbA0 zbI1 zO4 St.slot St.m look zs5 zar2 xv A.nc A.gd ev zbU6 zaw9 zaF7 zaj3 A.cells A.isV A.isK A.isStr A.isVV allV allK zw5 laid zbG2 zaU9
 PO.lax nilQ zQ2 St.app putF putM nxt rm zbV3 St.drop zJ7 zO8 zE9 frz frz1 zaC4 zat6 zat7 zO3 zF0 zQ1 A.scal A.scal1 A.scal2 zu6 zbH3 zn2 A.pure1 pureEs
 zp0 LK.fits eqA eq1 glob zG3 zbW3 allG zaX8 resA resG zbW2 Le leF leM rho ren ren1 zaM5 idOk zbk3 idEs zaI3
def SeqQ (C:Cx) (E:Env) (y:PC) (Q:Exit→St→Prop):Exit→St→Prop:=fun e s=>match e with|.normal=>AW C E y Q s|e=>Q e s
def BlkQ (id:Nat) (Q:Exit→St→Prop):Exit→St→Prop:=fun e s=>match e with|.exit i=>(if i=id then Q .normal s else Q (.exit i) s)|e=>Q e s
section
variable {C:Cx} {E:Env} {Q:Exit→St→Prop} {st:St}
theorem za2 {x y:PC} (h:AW C E x (SeqQ C E y Q) st):AW C E (.seq x y) Q st:=zdq5 h
theorem zC3 {id:Nat} {c:PC} (h:AW C E c (BlkQ id Q) st):AW C E (.block id c) Q st:=zbH8 h
theorem zck7 {y:PC} (s:St):SeqQ C E y Q .normal s=AW C E y Q s:=rfl
theorem zcU4 {y:PC} (s:St):SeqQ C E y Q .ret s=Q .ret s:=rfl
theorem zcI4 {y:PC} (i:Nat) (s:St):SeqQ C E y Q (.exit i) s=Q (.exit i) s:=rfl
theorem zck8 (i:Nat) (s:St):BlkQ i Q .normal s=Q .normal s:=rfl
theorem zcU5 (i:Nat) (s:St):BlkQ i Q .ret s=Q .ret s:=rfl
theorem zcI5 (i j:Nat) (s:St):BlkQ i Q (.exit j) s=if j=i then Q .normal s else Q (.exit j) s:=rfl
theorem zcU6 (rs:List RX) (r:A) (fr:List (Nat×A)) (m:List (Nat×Row)) (n:Nat):Post rs r .ret ⟨fr,m,n⟩=zbW3 ⟨fr,m,n⟩ rs r:=rfl
theorem zck9 (rs:List RX) (r:A) (fr:List (Nat×A)) (m:List (Nat×Row)) (n:Nat):Post rs r .normal ⟨fr,m,n⟩=zbW3 ⟨fr,m,n⟩ rs r:=rfl
theorem zcI6 (k:Nat) (rs:List RX) (rl:List A) (ms':List (Nat×Row)) (k':Nat) (fr:List (Nat×A)) (m:List (Nat×Row)) (n:Nat):zcj7 k rs rl ms' k' .ret ⟨fr,m,n⟩=zaV3 k ⟨fr,m,n⟩ rs rl ms' k':=rfl
theorem zcc4 (k:Nat) (rs:List RX) (rl:List A) (ms':List (Nat×Row)) (k':Nat) (fr:List (Nat×A)) (m:List (Nat×Row)) (n:Nat):zcj7 k rs rl ms' k' .normal ⟨fr,m,n⟩=zaV3 k ⟨fr,m,n⟩ rs rl ms' k':=rfl
attribute [go_sem] zcI6 zcc4 St.gh St.ghOk St.fz St.fzOk St.own0 St.ownb St.ownbOk zbr7 zaW0 zcU1 St.unfs St.cast St.unf zbJ6 zaN1 unfA memN fzA fzCs fzV fzEs fzFr zck4 zbW7 zbv3 zck5 zbF2 zcc0 zcc1 zbF3
attribute [go_sem] zck7 zcU4 zcI4 zck8 zcU5 zcI5 zcU6 zck9
end
theorem zbJ8 (n:Nat):zM7 n []:=by intro c hc; cases hc
theorem zcl0 (n:Nat) (a:List A) (b:List (List A)):zM7 n (a :: b) ↔ a.length=n∧zM7 n b:=by
 simp only [zM7,cE]
 exact ⟨fun h=>⟨h a (.inl rfl),fun c hc=>h c (.inr hc)⟩,fun ⟨h1,h2⟩ c hc=>hc.elim (fun e=>e ▸ h1) (h2 c)⟩
theorem zbr9:zan2 []:=by intro c hc; cases hc
attribute [go_sem] dY Nat.add_zero jX cY Nat.lt_add_one eZ Int.toNat_zero Int.toNat_natCast Int.natCast_zero imp_self cX gC jZ jP and_false or_true true_or kN jB forall_const true_implies hY eQ cB cA eq_self ne_eq jU iJ cJ fE eP iD cU dF Bool.not_not bU gF cond_true cond_false Bool.cond_true_left Bool.cond_true_right Bool.cond_false_left Bool.cond_false_right cC cK Option.getD_some Option.getD_none Option.map_some Option.map_none Option.bind_some Option.isSome_some Option.isNone_none List.length_cons List.length_nil dD bZ List.all_nil List.all_cons List.nil_append dV jO eD List.set_cons_zero List.set_nil List.getD_cons_zero gP dQ List.headD_cons List.contains_nil List.take_nil List.drop_nil beq_self_eq_true
attribute [simp] zbJ8 zbr9
attribute [go_sem] zbJ8 zcl0 zbr9
@[go_sem] theorem zdj8 (l:List Int):u8s (l.map fun n=>[A.int .u8 n])=some l:=by
 induction l with
 | nil=>rfl
 | cons n l ih=>simp only [eD,u8s,ih,Option.map_some]
@[go_sem] theorem zdv8 (l:List UInt8):(l.map fun b=>[A.int .u8 (b.toNat:Int)])=(l.map fun b=>(b.toNat:Int)).map (eI .u8):=by
 rw [kJ]; rfl
@[go_sem] theorem zdy5 (l:List Int):u8s (l.map (eI .u8))=some l:=zdj8 l
@[go_sem] theorem zdA7 (q:Nat×MS) (l r:List (Nat×MS)):q :: l++r=q :: (l++r):=rfl
@[go_sem] theorem zdA8:([]:List A).flatMap zO3=[]:=rfl
@[go_sem] theorem zdA9 (x lo n:Nat) (cs:List A):(A.own x lo n :: cs).flatMap zO3=x :: cs.flatMap zO3:=rfl
@[go_sem] theorem zdB0 (s:ByteArray) (cs:List A):(A.str s :: cs).flatMap zO3=cs.flatMap zO3:=rfl
@[go_sem] theorem zdB1 (k:IntKind) (n:Int) (cs:List A):(A.int k n :: cs).flatMap zO3=cs.flatMap zO3:=rfl
@[go_sem] theorem zdA1 (b:Bool) (cs:List A):(A.bool b :: cs).flatMap zO3=cs.flatMap zO3:=rfl
@[go_sem] theorem zdZ3 (l:List (List A)) (cs:List A):(A.sl l :: cs).flatMap zO3=cs.flatMap zO3:=rfl
attribute [go_sem] List.isEmpty_nil List.isEmpty_cons kA List.forall_mem_cons gS
@[go_sem ↓] theorem zdy6 (r:A):(if r.scal=true then ([]:List (Nat×MS)) else [])=[]:=kA _
@[go_sem] theorem zdA2 (c x:A) (cs xs:List A):upd (c :: cs) 0 (x :: xs)=x :: upd cs 0 xs:=by simp [upd,eM]
@[go_sem] theorem zdA3 (cs:List A) (n:Nat):upd cs n []=cs:=by simp [upd]
@[go_sem] theorem zdB2 (c:A) (cs new:List A) (n:Nat):upd (c :: cs) (n+1) new=c :: upd cs n new:=by simp [upd,Nat.add_right_comm]
@[go_sem] theorem zdA4 (c:A) (cs:List A) (k:Nat):sub (c :: cs) 0 (k+1)=c :: sub cs 0 k:=by simp [sub]
@[go_sem] theorem zdA5 (cs:List A) (n:Nat):sub cs n 0=[]:=by simp [sub]
@[go_sem] theorem zdB3 (c:A) (cs:List A) (n k:Nat):sub (c :: cs) (n+1) k=sub cs n k:=by simp [sub]
def gd {α:Type} (p:Prop) [Decidable p] (k:Option α):Option α:=if p then k else none
theorem ze1 {α:Type} {p:Prop} [Decidable p] {k:Option α} {r:α} (h:gd p k=some r):p∧k=some r:=by
 unfold gd at h; split at h
 ·exact ⟨by assumption,h⟩
 ·cases h
theorem zg0 {α:Type} {p:Prop} [Decidable p] {k:Option α} (h:p):gd p k=k:=bW h
theorem zc7 {α β:Type} {m:Option α} {f:α→Option β} {r:β} (h:m.bind f=some r):∃ v,m=some v∧f v=some r:=by
 cases m with
 | none=>cases h
 | some v=>exact ⟨v,rfl,h⟩
theorem zaN2 {α:Type} {c:Bool} {x y r:α} (hb:c=true) (h:(if c=true then x else y)=r):x=r:=by rw [bW hb] at h; exact h
theorem zdo2 {α:Type} {c:Bool} {x y r:α} (hb:c=false) (h:(if c=true then x else y)=r):y=r:=by subst hb; exact h
def iter {G X:Type} (body:G→Option (G⊕X)):Nat→G→Option X
 | 0,_=>none
 | n+1,g=>match body g with
  | none=>none
  | some (.inl g')=>iter body n g'
  | some (.inr x)=>some x
theorem zbv6 {G X:Type} {body:G→Option (G⊕X)} {x:X}:∀ {n m:Nat} {g:G},iter body n g=some x→n≤m→iter body m g=some x
 | 0,_,_,h,_=>by cases h
 | n+1,0,_,_,hm=>by omega
 | n+1,m+1,g,h,hm=>by
  simp only [iter] at h ⊢
  cases hb:body g with
  | none=>rw [hb] at h; cases h
  | some y =>
   rw [hb] at h
   cases y with
   | inl g'=>exact zbv6 (n:=n) (m:=m) h (by omega)
   | inr x'=>exact h
open Classical in
noncomputable def zb9 {G X:Type} (body:G→Option (G⊕X)) (g:G):Option X :=
 match iter body 1000 g with
 | some x=>some x
 | none=>if h:∃ n x,iter body n g=some x then some (Classical.choose (fP h)) else none
theorem zar4 {G X:Type} {body:G→Option (G⊕X)} {g:G} {x:X}:zb9 body g=some x ↔ ∃ n,iter body n g=some x:=by
 have both:∀ {n m:Nat} {x y:X},iter body n g=some x→iter body m g=some y→some x=some y:=fun {n m x y} h1 h2=>by
  rw [← zbv6 h1 (Nat.le_add_right n m),← zbv6 h2 (Nat.le_add_left m n)]
 unfold zb9
 cases h0:iter body 1000 g with
 | some y=>exact ⟨fun h=>⟨1000,by rw [h0]; exact h⟩,fun ⟨n,hn⟩=>both h0 hn⟩
 | none =>
  constructor
  ·intro h
   simp only at h
   split at h
   ·rename_i hh
    cases h
    exact ⟨_,fP (fP hh)⟩
   ·cases h
  ·rintro ⟨n,hn⟩
   have hh:∃ n x,iter body n g=some x:=⟨n,x,hn⟩
   simp only
   rw [kG hh]
   exact both (fP (fP hh)) hn
theorem zn4 {G X:Type} (body:G→Option (G⊕X)) (g:G):zb9 body g=match body g with
  | none=>none
  | some (.inl g')=>zb9 body g'
  | some (.inr x)=>some x:=by
 cases hb:body g with
 | none =>
  simp only
  cases h:zb9 body g with
  | none=>rfl
  | some x =>
   obtain ⟨n,hn⟩:=zar4.1 h
   cases n with
   | zero=>cases hn
   | succ n=>simp only [iter,hb] at hn; cases hn
 | some y =>
  cases y with
  | inr x=>exact zar4.2 ⟨1,by simp [iter,hb]⟩
  | inl g' =>
   simp only
   cases h:zb9 body g' with
   | some x =>
    obtain ⟨n,hn⟩:=zar4.1 h
    exact zar4.2 ⟨n+1,by simp only [iter,hb]; exact hn⟩
   | none =>
    cases h2:zb9 body g with
    | none=>rfl
    | some x =>
     obtain ⟨n,hn⟩:=zar4.1 h2
     cases n with
     | zero=>cases hn
     | succ n =>
      simp only [iter,hb] at hn
      rw [zar4.2 ⟨n,hn⟩] at h
      cases h
def zaQ7 (E:Env) {V:Type} (J:V→St) (P:V→Prop) (s:St):Prop:=∃ v,P v∧St.le E s (J v)
theorem zcl1 {E:Env} {V:Type} {J:V→St} {P:V→Prop} {s:St} {k:Nat} (hK:E.k0=k) (v:V) (h:P v) (l:List (Nat×Nat)) (hl:Le l s (J v)∧zaC5 k l (J v).nx=true):zaQ7 E J P s:=⟨v,h,St.le_of l hl.1 (by rw [hK]; exact hl.2)⟩
def zbk6 (E:Env) {V:Type} (J:V→St) (P:V→Prop) (Q:Exit→St→Prop):Exit→St→Prop:=fun e s=>match e with|.normal=>zaQ7 E J P s|e=>Q e s
def BlkJ (E:Env) {V:Type} (id:Nat) (J:V→St) (P:V→Prop) (Q:Exit→St→Prop):Exit→St→Prop:=fun e s=>match e with
 | .normal=>zaQ7 E J P s
 | .exit i=>if i=id then zaQ7 E J P s else Q (.exit i) s
 | e=>Q e s
def zcl2 (E:Env) {G X:Type} (I:G→St) (y:G⊕X) (s:St):Prop:=∃ g',y=.inl g'∧St.le E s (I g')
theorem zcl3 {E:Env} {G X:Type} {I:G→St} {g':G} {s:St} {k:Nat} (hK:E.k0=k) (l:List (Nat×Nat)) (hl:Le l s (I g')∧zaC5 k l (I g').nx=true):zcl2 (X:=X) E I (.inl g') s:=⟨g',rfl,St.le_of l hl.1 (by rw [hK]; exact hl.2)⟩
def zbB2 (E:Env) {G X:Type} (I:G→St) (y:G⊕X) (Q:Exit→St→Prop):Exit→St→Prop:=fun e s=>match e with|.normal=>zcl2 E I y s|e=>Q e s
section
variable {C:Cx} {E:Env} {Q:Exit→St→Prop} {st:St}
theorem AW.join {V:Type} {J:V→St} {c:PC} {Q':Exit→St→Prop} (h:AW C E c Q' st)
  (hq:∀ e s,Q' e s→Q e s∨∃ v,St.le E s (J v)∧Q e (J v)):AW C E c Q st :=
 fun code hc a w hs=>wp_mono (h code hc a w hs) fun e a' w' ⟨st',h1,h2⟩=>by
  rcases hq e st' h1 with h3|⟨v,h3,h4⟩
  ·exact ⟨st',h3,h2⟩
  ·exact ⟨J v,h4,h3 a' w' h2⟩
theorem zdj9 {x:PX} {p q:PC} {V:Type} (J:V→St) (P:V→Prop) {b:Bool} (hx:xv C.G st.slot x=.bool b) (hG:E.G=C.G) (hk:∀ v,P v→Q .normal (J v))
  (ht:b=true→AW C E p (zbk6 E J P Q) st) (hf:b=false→AW C E q (zbk6 E J P Q) st):AW C E (.cond x p q) Q st:=by
 have key:∀ c,AW C E c (zbk6 E J P Q) st→AW C E c Q st:=fun c h=>h.join (J:=J) fun e s h=>by
  cases e with
  | normal=>obtain ⟨v,h1,h2⟩:=h; exact .inr ⟨v,h2,hk v h1⟩
  | _=>exact .inl h
 exact zbF0 hx hG (fun h=>key _ (ht h)) (fun h=>key _ (hf h))
theorem zD0 {id:Nat} {c:PC} {V:Type} (J:V→St) (P:V→Prop) (hk:∀ v,P v→Q .normal (J v)) (h:AW C E c (BlkJ E id J P Q) st):AW C E (.block id c) Q st:=by
 refine zbH8 (h.join (J:=J) fun e s h=>?_)
 cases e with
 | normal=>obtain ⟨v,h1,h2⟩:=h; exact .inr ⟨v,h2,hk v h1⟩
 | exit i =>
  simp only [BlkJ] at h ⊢
  split at h
  ·obtain ⟨v,h1,h2⟩:=h
   rename_i hi
   exact .inr ⟨v,h2,by rw [bW hi]; exact hk v h1⟩
  ·rename_i hi; exact .inl (by rw [bT hi]; exact h)
 | _=>exact .inl h
def zcl4 (E:Env) {V:Type} (id:Nat) (J:V→St) (P:V→Prop) (Q:Exit→St→Prop):Exit→St→Prop:=fun e s=>match e with
 | .normal=>zaQ7 E J P s∨Q .normal s
 | .exit i=>if i=id then (zaQ7 E J P s∨Q .normal s) else Q (.exit i) s
 | e=>Q e s
theorem zbX0 {id:Nat} {c:PC} {V:Type} (J:V→St) (P:V→Prop) (hk:∀ v,P v→Q .normal (J v)) (h:AW C E c (zcl4 E id J P Q) st):AW C E (.block id c) Q st:=by
 refine zbH8 (h.join (J:=J) fun e s h=>?_)
 cases e with
 | normal =>
  rcases h with ⟨v,h1,h2⟩|h
  ·exact .inr ⟨v,h2,hk v h1⟩
  ·exact .inl h
 | exit i =>
  simp only [zcl4] at h ⊢
  split at h
  ·rename_i hi
   rcases h with ⟨v,h1,h2⟩|h
   ·exact .inr ⟨v,h2,by rw [bW hi]; exact hk v h1⟩
   ·exact .inl (by rw [bW hi]; exact h)
  ·rename_i hi; exact .inl (by rw [bT hi]; exact h)
 | _=>exact .inl h
theorem zcc5 {c:PC} {G X:Type} {body:G→Option (G⊕X)} {g0:G} {x:X} (I:G→St) {k:Nat} (hK:E.k0=k) (l:List (Nat×Nat)) (hx:zb9 body g0=some x) (hle:Le l st (I g0)∧zaC5 k l (I g0).nx=true)
  (h:∀ g y,body g=some y→(∀ x',y=.inr x'→x'=x)→AW C E c (zbB2 E I y Q) (I g)):AW C E (.loop c) Q st:=by
 obtain ⟨n,hn⟩:=zar4.1 hx
 refine zdj0 (G:={ p:Nat×G // iter body p.1 p.2=some x }) (fun p=>I p.1.2) (fun _=>True) (fun p=>p.1.1) ⟨(n,g0),hn⟩ trivial (St.le_of l hle.1 (by rw [hK]; exact hle.2)) fun ⟨⟨m,g⟩,hm⟩ _=>?_
 cases m with
 | zero=>cases hm
 | succ m =>
  simp only [iter] at hm
  cases hb:body g with
  | none=>rw [hb] at hm; cases hm
  | some y =>
   rw [hb] at hm
   refine (h g y hb fun x' e=>by subst e; exact dZ hm).mono fun e s hs=>?_
   cases e with
   | normal =>
    obtain ⟨g',rfl,h2⟩:=hs
    exact ⟨⟨(m,g'),hm⟩,trivial,h2,eW m⟩
   | _=>exact hs
def zcU7 (E:Env) {G X β:Type} (I:G→St) (body:G→Option (G⊕X)) (kk:X→Option β) (R:Option β) (s:St):Prop:=∃ g',(zb9 body g').bind kk=R∧St.le E s (I g')
def zcD1 (E:Env) {G X β:Type} (I:G→St) (body:G→Option (G⊕X)) (kk:X→Option β) (R:Option β) (Q:Exit→St→Prop):Exit→St→Prop:=fun e s=>match e with|.normal=>zcU7 E I body kk R s|e=>Q e s
theorem zcc6 {G X β:Type} (I:G→St) (body:G→Option (G⊕X)) (kk:X→Option β) (R:Option β) (s:St):zcD1 E I body kk R Q .normal s=zcU7 E I body kk R s:=rfl
theorem zcI7 {G X β:Type} (I:G→St) (body:G→Option (G⊕X)) (kk:X→Option β) (R:Option β) (s:St):zcD1 E I body kk R Q .ret s=Q .ret s:=rfl
theorem zcv3 {G X β:Type} (I:G→St) (body:G→Option (G⊕X)) (kk:X→Option β) (R:Option β) (i:Nat) (s:St):zcD1 E I body kk R Q (.exit i) s=Q (.exit i) s:=rfl
theorem zcU8 {c:PC} {G X β:Type} {body:G→Option (G⊕X)} {kk:X→Option β} {r:β} (I:G→St) {k:Nat} (hK:E.k0=k) (h1:AW C E c (zcD1 E I body kk (some r) Q) st)
  (h:∀ x,kk x=some r→∀ g y,body g=some y→(∀ x',y=.inr x'→x'=x)→AW C E c (zbB2 E I y Q) (I g)):AW C E (.loop c) Q st:=by
 refine zdj1 (G:={ p:Nat×G // ∃ x,iter body p.1 p.2=some x∧kk x=some r }) (fun p=>I p.1.2) (fun _=>True) (fun p=>p.1.1) (fun ⟨⟨m,g⟩,x,hm,hx⟩ _=>?_) (h1.mono fun e s hs=>?_)
 ·cases m with
  | zero=>cases hm
  | succ m =>
   simp only [iter] at hm
   cases hb:body g with
   | none=>rw [hb] at hm; cases hm
   | some y =>
    rw [hb] at hm
    refine (h x hx g y hb fun x' e=>by subst e; exact dZ hm).mono fun e s hs=>?_
    cases e with
    | normal =>
     obtain ⟨g',rfl,h2⟩:=hs
     exact ⟨⟨(m,g'),x,hm,hx⟩,trivial,h2,eW m⟩
    | _=>exact hs
 ·cases e with
  | normal =>
   obtain ⟨g',h2,h3⟩:=hs
   obtain ⟨x,h4,h5⟩:=zc7 h2
   obtain ⟨n,hn⟩:=zar4.1 h4
   exact ⟨⟨(n,g'),x,hn,h5⟩,trivial,h3⟩
  | _=>exact hs
theorem zcc7 {V:Type} (J:V→St) (P:V→Prop) (s:St):zbk6 E J P Q .normal s=zaQ7 E J P s:=rfl
theorem zcI8 {V:Type} (J:V→St) (P:V→Prop) (s:St):zbk6 E J P Q .ret s=Q .ret s:=rfl
theorem zcv4 {V:Type} (J:V→St) (P:V→Prop) (i:Nat) (s:St):zbk6 E J P Q (.exit i) s=Q (.exit i) s:=rfl
theorem zcl5 {V:Type} (id:Nat) (J:V→St) (P:V→Prop) (s:St):BlkJ E id J P Q .normal s=zaQ7 E J P s:=rfl
theorem zcU9 {V:Type} (id:Nat) (J:V→St) (P:V→Prop) (s:St):BlkJ E id J P Q .ret s=Q .ret s:=rfl
theorem zcI9 {V:Type} (id:Nat) (J:V→St) (P:V→Prop) (i:Nat) (s:St):BlkJ E id J P Q (.exit i) s=if i=id then zaQ7 E J P s else Q (.exit i) s:=rfl
theorem zcc8 {G X:Type} (I:G→St) (y:G⊕X) (s:St):zbB2 E I y Q .normal s=zcl2 E I y s:=rfl
theorem zcJ0 {G X:Type} (I:G→St) (y:G⊕X) (s:St):zbB2 E I y Q .ret s=Q .ret s:=rfl
theorem zcv5 {G X:Type} (I:G→St) (y:G⊕X) (i:Nat) (s:St):zbB2 E I y Q (.exit i) s=Q (.exit i) s:=rfl
theorem zcc9 {V:Type} (id:Nat) (J:V→St) (P:V→Prop) (s:St):zcl4 E id J P Q .normal s=(zaQ7 E J P s∨Q .normal s):=rfl
theorem zcJ1 {V:Type} (id:Nat) (J:V→St) (P:V→Prop) (s:St):zcl4 E id J P Q .ret s=Q .ret s:=rfl
theorem zcv6 {V:Type} (id:Nat) (J:V→St) (P:V→Prop) (i:Nat) (s:St):zcl4 E id J P Q (.exit i) s=if i=id then (zaQ7 E J P s∨Q .normal s) else Q (.exit i) s:=rfl
attribute [go_sem] zcc9 zcJ1 zcv6 zcc6 zcI7 zcv3 zcc7 zcI8 zcv4 zcl5 zcU9 zcI9 zcc8 zcJ0 zcv5
end
def unfull:A→A
 | .full es=>.sl es
 | a=>a
theorem PFn.unfull {C:Cx} {f:FuncId} {az:List A} {r:A} (h:PFn C f (az.map unfull) r):PFn C f az r:=by
 intro w W vs hg hW hl ha
 refine h w W vs hg hW (by simpa using hl) fun i v a hv hx=>?_
 rw [cL] at hx
 cases hy:az[i]? with
 | none=>rw [hy] at hx; cases hx
 | some b =>
  rw [hy] at hx; cases hx
  have:=ha i v b hv hy
  cases b with
  | full es =>
   have h2:RepC w W v (.full es):=this
   cases h2 with
   | full a n es h=>exact h
  | _=>exact this
def unfullA:A→A
 | .full es=>.sl es
 | .agg cs=>.agg (zaN1 cs)
 | a=>a
theorem PFn.unfullA {C:Cx} {f:FuncId} {az az':List A} {r:A} (h:PFn C f az' r) (e:az.map Ab.unfullA=az':=by first|rfl|(simp [Ab.unfullA,zaN1,unfA]; done)):PFn C f az r:=by
 subst e
 intro w W vs hg hW hl ha
 refine h w W vs hg hW (by simpa using hl) fun i v a hv hx=>?_
 rw [cL] at hx
 cases hy:az[i]? with
 | none=>rw [hy] at hx; cases hx
 | some b =>
  rw [hy] at hx; cases hx
  have:=ha i v b hv hy
  cases b with
  | full es =>
   have h2:RepC w W v (.full es):=this
   exact h2.of_full.1
  | agg cs =>
   obtain ⟨us,hu,hl2,hr⟩:=this
   refine ⟨us,hu,by rw [zbv5]; exact hl2,fun i u c hu' hc=>?_⟩
   rw [zbJ7] at hc
   obtain ⟨c0,hc0,rfl⟩:=cG.1 hc
   exact zcD0 (hr i u c0 hu' hc0)
  | _=>exact this
@[go_sem] theorem zdB4 (a b:Nat):Nat.min a b=min a b:=rfl
attribute [go_sem] Ab.unfull zaC5 fixL
attribute [go_sem] Int.cast_ofNat_Int dK gV gK Nat.min_self
def Imp (q p:Prop):Prop:=q→p
theorem Imp.and {q a b:Prop} (ha:a) (h:Imp q b):Imp q (a∧b):=fun hq=>⟨ha,h hq⟩
theorem Imp.refl {q:Prop}:Imp q q:=fun h=>h
theorem im {q p:Prop} (w:Imp q p:=by (simp only [go_sem,↓reduceIte,reduceCtorEq,Nat.reduceEqDiff,Nat.reduceAdd,Nat.reduceSub,Nat.reduceMul,Nat.reduceLeDiff,Nat.reduceLT,Int.reduceLE,Int.reduceLT,Int.reduceToNat,Int.reduceNeg]; (repeat ((with_reducible apply Imp.and); focus (first|assumption|omega|rfl|(simp; done)|(simp; omega)|(intros; simp_all; done)|grind))); exact Imp.refl)):Imp q p:=w
theorem i0 {q p:Prop} (w:Imp q p:=by (simp only [go_sem,↓reduceIte,reduceCtorEq,Nat.reduceEqDiff,Nat.reduceAdd,Nat.reduceSub,Nat.reduceMul,Nat.reduceLeDiff,Nat.reduceLT,Int.reduceLE,Int.reduceLT,Int.reduceToNat,Int.reduceNeg]; exact Imp.refl)):Imp q p:=w
theorem lw {p:Prop} (w:p:=by (simp only [go_sem,↓reduceIte,reduceCtorEq,Nat.reduceEqDiff,Nat.reduceAdd,Nat.reduceSub,Nat.reduceMul,Nat.reduceLeDiff,Nat.reduceLT,Int.reduceLE,Int.reduceLT,Int.reduceToNat,Int.reduceNeg]; first|(done)|trivial|(simp; done)|(repeat' (first|rfl|trivial|omega|(simp; done)|(simp; omega)|(congr 1; omega)|(congr 1; simp only [bZ,cO,eE,gB]; omega)|apply And.intro)))):p:=w
section
variable {C:Cx} {E:Env} {Q:Exit→St→Prop} {st:St} {q:Prop}
theorem g_st {p:Prop} (h:q) (e:Imp q p:=by exact i0):p:=e h
theorem zk1 (h:q) (e:Imp q (Q .normal st):=by exact i0):AW C E .skip Q st:=zdi8 (e h)
theorem zdk0 (h:q) (e:Imp q (Q .normal st):=by exact i0):AW C E .label Q st:=zcT2 (e h)
theorem zG4 {id:Nat} (h:q) (e:Imp q (Q (.exit id) st):=by exact i0):AW C E (.exit id) Q st:=zdi9 (e h)
theorem zt4 (h:q) (e:Imp q (Q .ret st):=by exact i0):AW C E .ret Q st:=zdq6 (e h)
theorem za5 {dr:List Nat} {ops:List POp} (hG:E.G=C.G) (h:q)
  (e:Imp q (arun C ops st fun s=>Q .normal (s.drop dr)):=by exact im):AW C E (.reg dr ops) Q st:=zdq7 hG (e h)
theorem zaW1 {dr:List Nat} {ops:List POp} (hm:C.P.follows .mixedOrders=true) (hG:E.G=C.G) (h:q)
  (e:Imp q (zaX9 C ops st fun s=>Q .normal (s.drop dr)):=by exact im):AW C E (.regd dr ops) Q st:=zdj3 hm hG (e h)
theorem zam5 {dr:List Nat} {an:List (List Nat)} {ops:List POp} (hm:C.P.follows .mixedOrders=true) (hG:E.G=C.G) (h:q)
  (e:Imp q (zax0 C an ops st [] fun s=>Q .normal (s.drop dr)):=by exact im):AW C E (.regm dr an ops) Q st:=zdj7 hm hG (e h)
theorem zr9 {f:FuncId} {d:Option Nat} {g:Option (Nat×Bool)} {gv:Bool} {ob:Prop} {args:List A} {rw:List (Nat×MS)} {ps:List POp} {st:St} {K:St→Prop} {r:A}
  (hf:gv=true→PFn C f args r) (h:q)
  (e:Imp q (arun C ps (st.app d (zQ2 g gv r) (if r.scal then [] else rw)) K):=by exact im)
  (ho:gv=true→ob:=by intro; trivial) (hg:g=none∨(if r.scal then [] else rw)=[]∧r.isVV=true:=by first|exact .inl rfl|exact .inr ⟨rfl,rfl⟩|exact .inr ⟨kA _,rfl⟩):zbB1 C f d g gv ob args rw ps st K:=zcU2 hf (e h) ho hg
theorem zaj7 {f:FuncId} {d:Option Nat} {g:Option (Nat×Bool)} {gv:Bool} {ob:Prop} {args:List A} {rw:List (Nat×MS)} {ps:List POp} {st:St} {K:St→Prop} {r:A}
  (hf:gv=true→PFn C f args r) (h:q)
  (e:Imp q (zaX9 C ps (st.app d (zQ2 g gv r) []) K):=by exact im)
  (ho:gv=true→ob:=by intro; trivial) (hg:g=none∨(if r.scal then [] else rw)=[]∧r.isVV=true:=by first|exact .inl rfl|exact .inr ⟨rfl,rfl⟩|exact .inr ⟨kA _,rfl⟩) (hn:(if r.scal then [] else rw)=[]:=by first|rfl|exact kA _):zbc4 C f d g gv ob args rw ps st K:=zcI0 hf (e h) ho hg hn
theorem zV9 {an:List (List Nat)} {f:FuncId} {d:Option Nat} {g:Option (Nat×Bool)} {gv:Bool} {ob:Prop} {args:List A} {rw:List (Nat×MS)} {ids:List Nat} {cok:Bool} {ps:List POp} {st:St} {log:List (List Nat×List Nat)} {K:St→Prop} {r:A}
  (hf:gv=true→PFn C f args r) (h:q)
  (e:Imp q (zaY0 (an.getD log.length []) 0 log ids ((if r.scal then [] else rw).map (·.1))=true∧cok=true∧zax0 C an ps (st.app d (zQ2 g gv r) (if r.scal then [] else rw)) (log++[(ids,(if r.scal then [] else rw).map (·.1))]) K):=by exact im)
  (ho:gv=true→ob:=by intro; trivial) (hg:g=none∨(if r.scal then [] else rw)=[]∧r.isVV=true:=by first|exact .inl rfl|exact .inr ⟨rfl,rfl⟩|exact .inr ⟨kA _,rfl⟩):zbc5 C an f d g gv ob args rw ids cok ps st log K:=zcI2 hf (e h) ho hg
theorem zl4 {α:Type} {x:PX} {p q:PC} {b c:Bool} {X Y r:α} (hx:xv C.G st.slot x=.bool b) (hG:E.G=C.G) (h:(if c=true then X else Y)=r)
  (ht:b=true→X=r→AW C E p Q st) (hf:b=false→Y=r→AW C E q Q st) (e:b=c:=by first|rfl|(simp; done)|grind):AW C E (.cond x p q) Q st:=by
 subst e
 exact zbF0 hx hG (fun hb=>ht hb (by rw [bW hb] at h; exact h)) (fun hb=>hf hb (by rw [hb] at h; simpa using h))
theorem zbh3 {α:Type} {x:PX} {p q:PC} {V:Type} (J:V→St) (P:V→Prop) {b c:Bool} {X Y r:α} (hx:xv C.G st.slot x=.bool b) (hG:E.G=C.G) (h:(if c=true then X else Y)=r) (hk:∀ v,P v→Q .normal (J v))
  (ht:b=true→X=r→AW C E p (zbk6 E J P Q) st) (hf:b=false→Y=r→AW C E q (zbk6 E J P Q) st) (e:b=c:=by first|rfl|(simp; done)|grind):AW C E (.cond x p q) Q st:=by
 subst e
 exact zdj9 J P hx hG hk (fun hb=>ht hb (by rw [bW hb] at h; exact h)) (fun hb=>hf hb (by rw [hb] at h; simpa using h))
theorem zJ4 {α:Type} {x r:α} {p:Prop} (h:some x=some r) (e:x=r→p:=by (intro e; subst e; first|done|rfl|trivial|(simp; done)|(repeat' (first|rfl|trivial|omega|(simp; done)|(simp; omega)|(refine cQ A.sl (cQ (List.map _) ?_); exact dA (by simp; omega))|apply And.intro)))):p:=e (dZ h)
theorem zdr3 {α:Type} {x r:α} {p:Prop} (h:x=r) (e:x=r→p:=by (intro e; subst e; first|done|rfl|trivial|(simp; done)|(repeat' (first|rfl|trivial|omega|(simp; done)|(simp; omega)|(refine cQ A.sl (cQ (List.map _) ?_); exact dA (by simp; omega))|apply And.intro)))):p:=e h
theorem zA9 {V:Type} {J:V→St} {P:V→Prop} {s:St} {k:Nat} (hK:E.k0=k) (l:List (Nat×Nat)) (v:V) (h:P v)
  (hl:Le l s (J v)∧zaC5 k l (J v).nx=true:=by exact lw):zaQ7 E J P s:=zcl1 hK v h l hl
theorem zJ0 {G X:Type} {I:G→St} {g':G} {y:G⊕X} {s:St} {k:Nat} (hK:E.k0=k) (l:List (Nat×Nat)) (h:some (.inl g')=some y)
  (hl:Le l s (I g')∧zaC5 k l (I g').nx=true:=by exact lw):zcl2 E I y s:=by
 cases h; exact zcl3 hK l hl
theorem zcD2 {G X β:Type} {I:G→St} {body:G→Option (G⊕X)} {kk:X→Option β} {R:Option β} {g':G} {s:St} {k:Nat} (hK:E.k0=k) (l:List (Nat×Nat)) (h:(zb9 body g').bind kk=R)
  (hl:Le l s (I g')∧zaC5 k l (I g').nx=true:=by exact lw):zcU7 E I body kk R s :=
 ⟨g',h,St.le_of l hl.1 (by rw [hK]; exact hl.2)⟩
theorem zY8 {c:PC} {G X β:Type} {body:G→Option (G⊕X)} {g0:G} {kk:X→Option β} {r:β} (I:G→St) {k:Nat} (hK:E.k0=k) (l:List (Nat×Nat)) (h:(zb9 body g0).bind kk=some r)
  (hb:∀ x,kk x=some r→∀ g y,body g=some y→(∀ x',y=.inr x'→x'=x)→AW C E c (zbB2 E I y Q) (I g))
  (hle:Le l st (I g0)∧zaC5 k l (I g0).nx=true:=by exact lw):AW C E (.loop c) Q st:=by
 obtain ⟨x,hx,hk⟩:=zc7 h
 exact zcc5 I hK l hx hle (hb x hk)
theorem zdr4 {α:Type} {r:α} (h:none=some r):AW C E .dead Q st:=by cases h
theorem zbh4 {x:PX} {p r:PC} (hx:xv C.G st.slot x=.bool true) (hG:E.G=C.G) (h:AW C E p Q st):AW C E (.cond x p r) Q st:=zbF0 hx hG (fun _=>h) (fun h=>by cases h)
theorem zcd0 {x:PX} {p r:PC} (hx:xv C.G st.slot x=.bool false) (hG:E.G=C.G) (h:AW C E r Q st):AW C E (.cond x p r) Q st:=zbF0 hx hG (fun h=>by cases h) (fun _=>h)
theorem g_gh {c:PC} (g:Gh) (h:q) (e:Imp q (AW C E c Q (st.gh g)):=by exact i0) (hok:st.ghOk g:=by exact lw):AW C E c Q st:=zdy4 g hok (e h)
theorem zO9 {α:Type} {x r:α} {k:Nat} {st:St} {rs:List RX} {rl:List A} {ms':List (Nat×Row)} {k':Nat} (l:List (Nat×Nat)) (h:some x=some r)
  (e:x=r→zbA0 st rs∧zbI1 rl=true∧Le l ⟨zG3 0 (resL st rs),st.mem,st.nx⟩ ⟨zG3 0 rl,ms',k'⟩∧zaC5 k l k'=true:=by (intro e; subst e; exact lw)):zaV3 k st rs rl ms' k':=by
 obtain ⟨h1,h2,h3,h4⟩:=e (dZ h)
 exact ⟨h1,h2,l,h3,h4⟩
@[go_sem] theorem zdf5 {α:Type} (a:Nat×α) (l m:List (Nat×α)) (n:Nat):look ((a :: l)++m) n=if a.1=n then some a.2 else look (l++m) n:=rfl
@[go_sem] theorem zdr5 (m:Nat→MS) (v:A) (vs ws:List A):zO8 m ((v :: vs)++ws)=frz m v :: zO8 m (vs++ws):=rfl
@[go_sem] theorem zdk1 (m:Nat→MS) (v:A) (vs ws:List A):zE9 m ((v :: vs)++ws)=(zaC4 m v∧zE9 m (vs++ws)):=rfl
@[go_sem] theorem zdf6 (v:A) (vs ws:List A):zF0 ((v :: vs)++ws)=zat7 v++zF0 (vs++ws):=rfl
@[go_sem] theorem zdv9 (m:Nat→MS) (l:List (Nat×Nat)) (k:Nat) (v a:A) (vs ws az:List A):zbr1 m l k ((v :: vs)++ws) (a :: az)=(argM m l k v a∧zbr1 m l k (vs++ws) az):=rfl
@[go_sem] theorem zdA6 (v a:A) (vs ws az:List A):fzM ((v :: vs)++ws) (a :: az)=(if a.hands then [] else zat7 v)++fzM (vs++ws) az:=rfl
@[go_sem] theorem zdk2 (q:Nat×MS) (r m:List (Nat×MS)) (n:Nat):nxt n ((q :: r)++m)=nxt (if q.1=n then n+1 else n) (r++m):=rfl
@[go_sem] theorem zdk3 {α:Type} (m:List (Nat×α)) (n:Nat):look ([]++m) n=look m n:=rfl
theorem zr6 {f:FuncId} {d:Option Nat} {ob:Prop} {vals:List A} {ps:List POp} {st:St} {K:St→Prop} (l nl:List (Nat×Nat)) (ids:List Nat) {az:List A} {ms ms':List (Nat×Row)} {k k':Nat} {r:A}
  (hf:MFn C f az ms k r ms' k') (hnl:newL k st.nx (k' - k)=nl) (hids:ms.map (·.1)++(List.range (k' - k)).map (k+·)=ids) (h:q)
  (e:Imp q (arun C ps (st.app d (renR (l++nl) r) (zQ1 st.m (fzM vals az)++zac0 (l++nl) ms' ids)) K):=by exact im)
  (hok:okM st.m st.nx l vals az ms k k':=by exact lw)
  (ho:ob:=by trivial) (hr:zbc2 r=true:=by rfl):zam4 C f d none true ob vals ps st K:=by
 subst hnl; subst hids
 exact zcH8 l hf hok (e h) ho hr
theorem zcV0 (ms:List (Nat×Row)) (k:Nat):ms.map (·.1)++(List.range (k - k)).map (k+·)=ms.map (·.1):=by rw [gH]; exact dV _
theorem zaQ8 {α:Type} {X:Option α} {dv v:α} {c:Bool} {f:FuncId} {d:Option Nat} {g:Option (Nat×Bool)} {gv:Bool} {ob:Prop} {vals:List A} {ps:List POp} {st:St} {K:St→Prop} (l:List (Nat×Nat)) (ids:List Nat) {az:List A} {ms ms':List (Nat×Row)} {k:Nat} {r:A}
  (hv:(if c=true then X else some dv)=some v) (hf:X=some v→MFn C f az ms k r ms' k) (hids:ms.map (·.1)=ids) (h:q)
  (ec:gv=c:=by first|rfl|(simp; done)|grind) (hs:dv=v→zbr2 st.m (zQ1 st.m (fzM vals az)++zac0 l ms' ids):=by (intro e; subst e; simp only [go_sem,↓reduceIte,reduceCtorEq,Nat.reduceEqDiff,Nat.reduceAdd,Nat.reduceSub,Nat.reduceMul,Nat.reduceLeDiff,Nat.reduceLT,Int.reduceLE,Int.reduceLT,Int.reduceToNat,Int.reduceNeg]; first|(done)|trivial|(simp; done)|(repeat' (first|rfl|trivial|(simp; done)|apply And.intro))))
  (e:Imp q (arun C ps (st.app d (zQ2 g gv (renR l r)) (zQ1 st.m (fzM vals az)++zac0 l ms' ids)) K):=by exact im)
  (hok:okM st.m st.nx l vals az ms k k:=by exact lw)
  (ho:gv=true→ob:=by first|(intro; trivial)|(intro; simp_all; done)) (hr:zbc2 r=true:=by rfl) (hvv:(renR l r).isVV=true:=by rfl):zam4 C f d g gv ob vals ps st K:=by
 subst hids; subst ec
 refine zcu9 l (fun hg=>hf (zaN2 hg hv)) (fun _=>hok) ?_ ?_ ho hr hvv
 ·intro hg; unfold mwM; rw [zcV0]; exact hs (dZ (zdo2 hg hv))
 ·unfold mwM; rw [zcV0]; exact e h
theorem zbJ9 {an:List (List Nat)} {f:FuncId} {d:Option Nat} {ob:Prop} {vals:List A} {vi:List Nat} {cok:Bool} {ps:List POp} {st:St} {log:List (List Nat×List Nat)} {K:St→Prop} (l nl:List (Nat×Nat)) (ids:List Nat) {az:List A} {ms ms':List (Nat×Row)} {k k':Nat} {r:A}
  (hf:MFn C f az ms k r ms' k') (hnl:newL k st.nx (k' - k)=nl) (hids:ms.map (·.1)++(List.range (k' - k)).map (k+·)=ids) (h:q)
  (e:Imp q (zaY0 (an.getD log.length []) 0 log vi ((zQ1 st.m (fzM vals az)++zac0 (l++nl) ms' ids).map (·.1))=true∧cok=true∧zax0 C an ps (st.app d (renR (l++nl) r) (zQ1 st.m (fzM vals az)++zac0 (l++nl) ms' ids)) (log++[(vi,(zQ1 st.m (fzM vals az)++zac0 (l++nl) ms' ids).map (·.1))]) K):=by exact im)
  (hok:okM st.m st.nx l vals az ms k k':=by exact lw)
  (ho:ob:=by trivial) (hr:zbc2 r=true:=by rfl):zaG5 C an f d none true ob vals vi cok ps st log K:=by
 subst hnl; subst hids
 exact zcv1 l hf hok (e h) ho hr
theorem zcd1 {α β:Type} {x r:α} (h:some (Sum.inl x:α⊕β)=some (.inl r)):some x=some r:=by cases h; rfl
theorem zbh5 {α β:Type} {x r:β} (h:some (Sum.inr x:α⊕β)=some (.inr r)):some x=some r:=by cases h; rfl
theorem zcD3 {α:Type} {c gv:Bool} {X Y r:α} {f:FuncId} {d:Option Nat} {g:Option (Nat×Bool)} {ob:Prop} {vals:List A} {ps:List POp} {st:St} {K:St→Prop} (h:(if c=true then X else Y)=r)
  (ht:gv=true→X=r→zam4 C f d g gv ob vals ps st K) (hf:gv=false→Y=r→zam4 C f d g gv ob vals ps st K) (ec:gv=c:=by first|rfl|(simp; done)|grind):zam4 C f d g gv ob vals ps st K:=by
 subst ec
 cases hg:gv with
 | true=>rw [hg] at ht; exact ht rfl (zaN2 hg h)
 | false=>rw [hg] at hf; exact hf rfl (zdo2 hg h)
theorem zcl6 {gv:Bool} {f:FuncId} {d:Option Nat} {g:Option (Nat×Bool)} {ob:Prop} {vals:List A} {ps:List POp} {st:St} {K:St→Prop} (hc:gv=true) (l nl:List (Nat×Nat)) (ids:List Nat) {az:List A} {ms ms':List (Nat×Row)} {k k':Nat} {r:A}
  (hf:MFn C f az ms k r ms' k') (hnl:newL k st.nx (k' - k)=nl) (hids:ms.map (·.1)++(List.range (k' - k)).map (k+·)=ids) (h:q)
  (e:Imp q (arun C ps (st.app d (zQ2 g true (renR (l++nl) r)) (zQ1 st.m (fzM vals az)++zac0 (l++nl) ms' ids)) K):=by exact im)
  (hok:okM st.m st.nx l vals az ms k k':=by exact lw)
  (ho:ob:=by first|trivial|(simp_all; done)) (hr:zbc2 r=true:=by rfl) (hvv:(renR (l++nl) r).isVV=true:=by rfl):zam4 C f d g gv ob vals ps st K:=by
 subst hnl; subst hids; subst hc
 exact ⟨l,az,ms,k,r,ms',k',fun _=>⟨ho,hf,hok,trivial⟩,(fun h=>nomatch h),.inr hvv,zbc3 hr,e h⟩
theorem zcD4 (m:Nat→MS) (nx:Nat) (vals:List A):mwM m ([]++newL 0 nx (0 - 0)) vals [] [] [] 0 0=[]:=by cases vals <;> rfl
theorem zcl7 {gv:Bool} {f:FuncId} {d:Option Nat} {g:Option (Nat×Bool)} {ob:Prop} {vals:List A} {ps:List POp} {st:St} {K:St→Prop} (hc:gv=false) (dv:A) (h:q)
  (e:Imp q (arun C ps (st.app d (zQ2 g false dv) []) K):=by exact im)
  (hd:renR [] dv=dv:=by rfl) (hn:zbc2 dv=true:=by rfl) (hvv:dv.isVV=true:=by rfl):zam4 C f d g gv ob vals ps st K:=by
 subst hc
 have hd':renR ([]++newL 0 st.nx (0 - 0)) dv=dv:=hd
 refine ⟨[],[],[],0,dv,[],0,(fun h=>nomatch h),fun _=>⟨rfl,?_⟩,.inr ?_,zbc3 hn,?_⟩
 ·rw [zcD4]; trivial
 ·rw [hd']; exact hvv
 ·rw [zcD4,hd']; exact e h
end
inductive TK where
 | b
 | i (k:IntKind)
 | s
 | st (fs:List (Nat×Nat))
 | ar (n e:Nat)
 | sl (e:Nat)
 | o
structure TI where
 k:TK
 n:Nat
 y:Nat
def lk {α:Type}:List (Nat×α)→Nat→α→α
 | [],_,d=>d
 | q :: r,n,d=>bif Nat.beq q.1 n then q.2 else lk r n d
structure TC where
 t:List (Nat×TI)
 m:List (Nat×Option Unit)
 z:Nat→Nat→List A
 k:{o:Operand}→Nat→PX
def TC.ty (c:TC) (t:Nat):TI:=lk c.t t ⟨.o,1,0⟩
def TC.el (c:TC) (t:Nat):Nat:=match (c.ty t).k with|.sl e=>e|.ar _ e=>e|_=>0
def TC.ag (c:TC) (t:Nat):Bool:=match (c.ty t).k with|.st _=>true|.ar _ _=>true|_=>false
def TC.lf (c:TC):Nat→Nat→List LK
 | 0,_=>[]
 | d+1,t=>match (c.ty t).k with
  | .b=>[.b]
  | .i k=>[.i k]
  | .s=>[.s]
  | .st fs=>fs.flatMap fun q=>c.lf d q.2
  | _=>[]
def TC.x (c:TC) (t:Nat) (o:Operand):PX:=match o with
 | .tmp n=>.t n
 | .const _=>c.k (o:=o) t
 | .global g=>.g g
 | .func f=>.f f
def zdo3:Operand→Bool
 | .const (.slice _ _ _)=>true
 | _=>false
def TC.bo (c:TC) (op:BinOp) (t:Nat) (x y:Operand):PO×List PX:=match (c.ty t).k with
 | .sl _=>(.eqNil,[c.x t x])
 | .b=>(.eqb (match op with|.neq=>true|_=>false),[c.x t x,c.x t y])
 | .st _=>(.eqa (match op with|.neq=>true|_=>false) (c.lf 9 t),[c.x t x,c.x t y])
 | .ar _ _=>(.eqa (match op with|.neq=>true|_=>false) (c.lf 9 t),[c.x t x,c.x t y])
 | _=>(.bin op,[c.x t x,c.x t y])
def TC.args (c:TC):List Operand→List Nat→List PX
 | x :: xs,t :: ts=>c.x t x :: c.args xs ts
 | x :: xs,[]=>c.x 0 x :: c.args xs []
 | [],_=>[]
def TC.op (c:TC) (h ty:Nat):Op→PO×List PX
 | .move x=>bif zdo3 x then (bif Nat.beq h 0 then (.mv,[.c (A.sl [])]) else (.nilown (c.ty (c.el ty)).n (c.z 0 (c.el ty)),[.c (A.full [])])) else (.mv,[c.x ty x])
 | .assign x=>bif zdo3 x then (bif Nat.beq h 0 then (.mv,[.c (A.sl [])]) else (.nilown (c.ty (c.el ty)).n (c.z 0 (c.el ty)),[.c (A.full [])])) else (.mv,[c.x ty x])
 | .pick a x y=>(.pick,[c.x 0 a,c.x 0 x,c.x 0 y])
 | .box t x=>(.box (c.ty t).n,[c.x t x])
 | .alloc t=>(.alloc (c.ty t).n (c.z h t),[])
 | .build t ps=>(.build (c.z h t) (ps.toList.map fun p=>match (c.ty t).k with
   | .st fs=>((fs.getD p.1 (0,0)).1,(c.ty (fs.getD p.1 (0,0)).2).n)
   | _=>(p.1 * (c.ty (c.el t)).n,(c.ty (c.el t)).n)),ps.toList.map fun p=>match (c.ty t).k with
   | .st fs=>c.x (fs.getD p.1 (0,0)).2 p.2
   | _=>c.x (c.el t) p.2)
 | .buildSlice t _ ps=>(bif Nat.beq h 0 then .bslice (c.ty (c.el t)).n (c.z 0 (c.el t)) else .bown (c.ty (c.el t)).n (c.z 0 (c.el t)),ps.toList.map fun p=>c.x (c.el t) p.2)
 | .load t x=>(.load (c.ty t).n (c.ag t),[c.x 0 x])
 | .store t x y=>(.store (c.ty t).n,[c.x 0 x,c.x t y])
 | .binOp op t x y _=>c.bo op t x y
 | .unOp .neg _ x=>(.neg,[c.x 0 x])
 | .unOp _ _ x=>(.not,[c.x 0 x])
 | .convert t u x=>(match (c.ty t).k,(c.ty u).k with
  | .sl _,.s=>.cvS
  | .s,.sl _=>.cvB
  | _,.i k=>.conv k
  | _,_=>.mv,[c.x 0 x])
 | .field t x i=>(match (c.ty t).k with
  | .st fs=>.field (fs.getD i (0,0)).1 (c.ty (fs.getD i (0,0)).2).n (c.ag (fs.getD i (0,0)).2)
  | _=>.mv,[c.x 0 x])
 | .fieldAddr t x i=>(match (c.ty t).k with
  | .st fs=>.faddr (fs.getD i (0,0)).1
  | _=>.mv,[c.x 0 x])
 | .indexAddr t x i=>(match (c.ty t).k with
  | .ar n e=>.iaA n (c.ty e).n
  | _=>.iaS (c.ty (c.el t)).n (c.z 0 (c.el t)),[c.x 0 x,c.x 0 i])
 | .index t x i=>(match (c.ty t).k with
  | .ar n e=>.idxA n (c.ty e).n (c.ag e)
  | _=>.idxS,[c.x t x,c.x 0 i])
 | .slice t x l u m=>(match (c.ty t).k with
  | .s=>.slcS l.isSome u.isSome
  | _=>.slc (c.ty (c.el t)).n l.isSome u.isSome m.isSome,c.x 0 x :: (l.toList++u.toList++m.toList).map (c.x 0))
 | .extract x i=>(.ext i,[c.x 0 x])
 | .nilCheck x=>(.nilck,[c.x 0 x])
 | .makeSlice t x y=>(.mk (c.ty (c.el t)).n (c.ty (c.el t)).y (c.z 0 (c.el t)),[c.x 0 x,c.x 0 y])
 | .makeFunc (.func f) _ xs=>(.mkf f,xs.toList.map (c.x 0))
 | .call ⟨.builtin b,xs,ts⟩=>(match b,ts.toList with
  | .len,[t]=>(match (c.ty t).k with|.s=>.lenS|_=>.len)
  | .append,t :: _=>(match h with
   | 0=>.append (c.ty (c.el t)).n (c.ty (c.el t)).y (c.z 0 (c.el t))
   | 1=>.appc (c.ty (c.el t)).n (c.ty (c.el t)).y
   | _=>.apl (c.ty (c.el t)).n (c.ty (c.el t)).y)
  | .copy,t :: _=>.copy (c.ty (c.el t)).n
  | .clear,t :: _=>.clear (c.ty (c.el t)).n (c.z 0 (c.el t))
  | .min,_=>.min
  | .max,_=>.max
  | _,_=>.mv,xs.toList.map (c.x 0))
 | .call ⟨.value (.func f),xs,ts⟩=>(match lk c.m f none,h with
  | none,0=>.call f
  | none,_=>.callm f
  | some _,0=>.callm f
  | some _,_=>.call f,c.args xs.toList ts.toList)
 | .call ⟨.value x,xs,_⟩=>(match h with|0=>.callv|_=>.callvm,c.x 0 x :: xs.toList.map (c.x 0))
 | _=>(.mv,[])
def opTs:List Operand→List Nat
 | []=>[]
 | .tmp n :: r=>n :: opTs r
 | _ :: r=>opTs r
def gTs (ops:List Oper):Option (Nat×Bool)→List Nat
 | none=>[]
 | some q=>match (ops[q.1]?).bind (·.dst) with
  | some d=>[d]
  | none=>[]
def zcv7 (ops:List Oper):List Oper→List Nat
 | []=>[]
 | o :: r=>opTs o.op.operands.toList++gTs ops o.guard++zcv7 ops r
def bits:List Nat→Nat
 | []=>0
 | t :: r=>Nat.lor (Nat.shiftLeft 1 t) (bits r)
def zdo4 (m:Nat) (a:Nat×Nat):Nat×Nat:=match a with
 | (s,u)=>(Nat.lor s m,Nat.lor u (Nat.land s m))
def zbB3:Code→Nat×Nat→Nat×Nat
 | .region _ ops _,a=>zdo4 (bits (zcv7 ops.toList ops.toList)) a
 | .seq x y,a=>zbB3 y (zbB3 x a)
 | .cond x y z,a=>zbB3 z (zbB3 y (zdo4 (bits (opTs [x])) a))
 | .block _ x,a=>zbB3 x a
 | .loop x,a=>zbB3 x a
 | .scope x,a=>zbB3 x a
 | _,a=>a
def resU:List ResultVar→List Nat
 | []=>[]
 | .tmp t :: r=>t :: resU r
 | .cell t _ :: r=>t :: resU r
def zcl8 (f:Func):Nat×Nat:=match f.body with
 | some b=>zbB3 b (0,bits (resU f.results.toList))
 | none=>(0,0)
def has (m t:Nat):Bool:=Nat.beq (Nat.land (Nat.shiftRight m t) 1) 1
def zbh6 (s u m:Nat):List Oper→List Nat
 | []=>[]
 | o :: r=>match o.dst with
  | none=>zbh6 s u m r
  | some t=>bif has u t then zbh6 s u m r else bif has m t then t :: zbh6 s u m r else bif has s t then zbh6 s u m r else t :: zbh6 s u m r
def zcv8 (s u:Nat) (ops:List Oper):List Nat:=zbh6 s u (bits (zcv7 ops ops)) ops
def PO.wr:PO→Bool
 | .nilown _ _|.box _|.alloc _ _|.bown _ _|.store _|.append _ _ _|.appc _ _|.copy _|.clear _ _|.mk _ _ _|.callm _|.callvm=>true
 | _=>false
def zdo5:List Oper→Bool
 | []=>false
 | o :: r=>match o.op with
  | .panic _=>true
  | _=>zdo5 r
def gOf (ops:List Oper):Option (Nat×Bool)→Option (Nat×Bool)
 | none=>none
 | some q=>some (((ops[q.1]?).bind (·.dst)).getD 0,q.2)
def TC.ops (c:TC) (hs:List (Nat×Nat)) (all:List Oper):List Oper→List POp
 | []=>[]
 | o :: r=>(match c.op (match o.dst with|some d=>lk hs d 0|none=>0) o.type o.op with
  | (p,xs)=>⟨o.dst,gOf all o.guard,p,xs⟩) :: c.ops hs all r
def wrs:List POp→Bool
 | []=>false
 | p :: r=>bif p.po.wr then true else wrs r
def TC.code (c:TC) (hs:List (Nat×Nat)) (s u:Nat):Code→PC
 | .skip=>.skip
 | .region id ops d=>bif zdo5 ops.toList then .dead else
   match d with
   | false=>.reg (zcv8 s u ops.toList) (c.ops hs ops.toList ops.toList)
   | true=>bif wrs (c.ops hs ops.toList ops.toList)||(Nat.beq (lk hs (1000+id) 0) 1) then .regm (zcv8 s u ops.toList) (ancs [] (ops.toList.map zC2)) (c.ops hs ops.toList ops.toList) else .regd (zcv8 s u ops.toList) (c.ops hs ops.toList ops.toList)
 | .seq a b=>.seq (c.code hs s u a) (c.code hs s u b)
 | .cond x a b=>.cond (c.x 0 x) (c.code hs s u a) (c.code hs s u b)
 | .block i a=>.block i (c.code hs s u a)
 | .loop a=>.loop (c.code hs s u a)
 | .exit i=>.exit i
 | .scope a=>.scope (c.code hs s u a)
 | .label _=>.label
 | .ret=>.ret
 | _=>.skip
def TC.rx (c:TC):List ResultVar→List RX
 | []=>[]
 | .tmp t :: r=>.t t :: c.rx r
 | .cell t y :: r=>.c t (c.ty y).n (c.ag y) :: c.rx r
def TC.tr (c:TC) (hs:List (Nat×Nat)) (s u:Nat) (f:Func):PC×Nat×List RX×Nat :=
 (match f.body with
  | some b=>c.code hs s u b
  | none=>.skip,f.ntmps,c.rx f.results.toList,Nat.add f.params.size f.nfree)
def cst (z:Nat→Nat→List A) (t:Nat):Value→A
 | .bool b=>.bool b
 | .int k n=>.int k n
 | .string s=>.str s
 | .slice _ _ _=>.full []
 | .agg _=>.agg (z 0 t)
 | _=>.any
def kon (z:Nat→Nat→List A) {o:Operand} (t:Nat):PX:=match o with
 | .const v=>.c (cst z t v)
 | _=>.c .any
attribute [go_sem] kon cst
def zcd2:Arr (Arr Bool 5) 5:=⟨[⟨[true,true,true,true,false],rfl⟩,⟨[true,true,false,false,false],rfl⟩,⟨[true,false,true,false,false],rfl⟩,⟨[true,false,false,false,false],rfl⟩,⟨[false,false,false,false,false],rfl⟩],rfl⟩
noncomputable def C:Cx:=⟨Tryz.prog,[(1,Arr.enc (Arr.enc eB) zcd2)]⟩
@[go_sem] theorem C_G:C.G=[(1,Arr.enc (Arr.enc eB) zcd2)]:=rfl
theorem zz1:C.P.follows .mixedOrders=true:=by kernel_rfl
def cT:List (Nat×TI):=[(0,⟨.o,1,0⟩),(3,⟨.i .i64,1,8⟩),(4,⟨.b,1,1⟩),(5,⟨.i .u8,1,1⟩),(9,⟨.s,1,16⟩),(20,⟨.o,1,16⟩),(22,⟨.sl 3,1,24⟩),(25,⟨.sl 36,1,24⟩),(26,⟨.sl 53,1,24⟩),(28,⟨.st [(0,25),(1,26)],2,48⟩),(32,⟨.st [(0,9),(1,3),(2,3),(3,3)],4,40⟩),(33,⟨.sl 126,1,24⟩),(34,⟨.sl 129,1,24⟩),(36,⟨.st [(0,32),(4,33),(5,34),(6,34),(7,3)],8,120⟩),(37,⟨.i .i64,1,8⟩),(38,⟨.o,1,0⟩),(43,⟨.st [(0,3),(1,3),(2,3)],3,24⟩),(46,⟨.st [(0,3),(1,3)],2,16⟩),(48,⟨.st [(0,9),(1,46)],3,32⟩),(49,⟨.sl 51,1,24⟩),(51,⟨.st [(0,3),(1,48),(4,49)],5,64⟩),(53,⟨.st [(0,43),(3,51),(8,3)],9,96⟩),(54,⟨.sl 5,1,24⟩),(55,⟨.o,1,0⟩),(58,⟨.o,1,0⟩),(60,⟨.sl 4,1,24⟩),(63,⟨.sl 43,1,24⟩),(66,⟨.sl 116,1,24⟩),(68,⟨.st [(0,3),(1,25),(2,66)],3,56⟩),(73,⟨.o,1,8⟩),(76,⟨.o,1,8⟩),(79,⟨.o,1,8⟩),(81,⟨.o,1,8⟩),(82,⟨.o,1,8⟩),(89,⟨.o,1,8⟩),(91,⟨.st [(0,54),(1,37)],2,32⟩),(93,⟨.st [(0,91)],2,32⟩),(99,⟨.sl 48,1,24⟩),(101,⟨.o,1,0⟩),(109,⟨.sl 249,1,24⟩),(110,⟨.sl 254,1,24⟩),(112,⟨.st [(0,109),(1,110)],2,48⟩),(114,⟨.st [(0,51),(5,3),(6,3)],7,80⟩),(116,⟨.st [(0,43),(3,3),(4,112),(6,4),(7,114),(14,3),(15,3)],16,184⟩),(117,⟨.sl 32,1,24⟩),(118,⟨.sl 169,1,24⟩),(119,⟨.o,1,0⟩),(121,⟨.o,1,0⟩),(126,⟨.st [(0,43),(3,46)],5,40⟩),(129,⟨.st [(0,43),(3,46),(5,3),(6,3)],7,56⟩),(132,⟨.o,1,8⟩),(134,⟨.o,1,8⟩),(137,⟨.i .u64,1,8⟩),(140,⟨.ar 3 3,3,24⟩),(143,⟨.o,1,8⟩),(145,⟨.i .u64,1,8⟩),(147,⟨.o,1,8⟩),(151,⟨.o,1,0⟩),(158,⟨.o,1,8⟩),(164,⟨.o,1,8⟩),(166,⟨.st [(0,22),(1,3)],2,32⟩),(169,⟨.st [(0,3),(1,43),(4,114),(11,9),(12,3)],13,136⟩),(171,⟨.o,1,0⟩),(173,⟨.sl 311,1,24⟩),(174,⟨.o,1,0⟩),(193,⟨.o,1,0⟩),(195,⟨.o,1,0⟩),(199,⟨.o,1,0⟩),(203,⟨.o,1,8⟩),(220,⟨.sl 9,1,24⟩),(223,⟨.o,1,8⟩),(226,⟨.st [(0,68),(3,173)],4,80⟩),(236,⟨.sl 34,1,24⟩),(249,⟨.st [(0,9),(1,46),(3,46)],5,48⟩),(254,⟨.st [(0,3),(1,3)],2,16⟩),(259,⟨.o,1,0⟩),(271,⟨.o,1,0⟩),(275,⟨.o,1,0⟩),(278,⟨.sl 46,1,24⟩),(288,⟨.o,1,0⟩),(293,⟨.o,1,0⟩),(300,⟨.o,1,0⟩),(302,⟨.o,1,0⟩),(304,⟨.o,1,0⟩),(306,⟨.ar 6 4,6,6⟩),(311,⟨.st [(0,3),(1,43),(4,9),(5,46)],7,64⟩),(312,⟨.o,1,0⟩),(320,⟨.ar 5 4,5,5⟩),(321,⟨.ar 5 320,25,25⟩),(325,⟨.o,1,0⟩),(327,⟨.o,1,0⟩),(329,⟨.o,1,0⟩)]
@[irreducible] def cZ:Nat→Nat→List A
 | 0,3=>[A.int .i64 0]
 | 0,4=>[A.bool false]
 | 0,5=>[A.int .u8 0]
 | 0,9=>[A.str ⟨#[]⟩]
 | 0,22=>[A.sl []]
 | 0,25=>[A.sl []]
 | 0,26=>[A.sl []]
 | 0,28=>aL.enc aL.zero
 | 0,32=>aI.enc aI.zero
 | 0,33=>[A.sl []]
 | 0,34=>[A.sl []]
 | 0,36=>aA.enc aA.zero
 | 0,37=>[A.int .i64 0]
 | 0,43=>aK.enc aK.zero
 | 0,46=>aD.enc aD.zero
 | 0,48=>aM.enc aM.zero
 | 0,49=>[A.sl []]
 | 0,51=>aP.enc aP.zero
 | 0,53=>bI.enc bI.zero
 | 0,54=>[A.sl []]
 | 0,60=>[A.sl []]
 | 0,63=>[A.sl []]
 | 0,66=>[A.sl []]
 | 0,68=>bA.enc bA.zero
 | 0,91=>bQ.enc bQ.zero
 | 0,93=>bD.enc bD.zero
 | 0,99=>[A.sl []]
 | 0,109=>[A.sl []]
 | 0,110=>[A.sl []]
 | 0,112=>aW.enc aW.zero
 | 0,114=>bK.enc bK.zero
 | 0,116=>aG.enc aG.zero
 | 0,117=>[A.sl []]
 | 0,118=>[A.sl []]
 | 0,126=>aV.enc aV.zero
 | 0,129=>aT.enc aT.zero
 | 0,137=>[A.int .u64 0]
 | 0,140=>Arr.enc (eI .i64) (Arr.rep 3 0)
 | 0,145=>[A.int .u64 0]
 | 0,166=>bL.enc bL.zero
 | 0,169=>bM.enc bM.zero
 | 0,173=>[A.sl []]
 | 0,220=>[A.sl []]
 | 0,226=>aX.enc aX.zero
 | 0,236=>[A.sl []]
 | 0,249=>bG.enc bG.zero
 | 0,254=>bN.enc bN.zero
 | 0,278=>[A.sl []]
 | 0,306=>Arr.enc eB (Arr.rep 6 false)
 | 0,311=>bJ.enc bJ.zero
 | 0,320=>Arr.enc eB (Arr.rep 5 false)
 | 2,28=>[.sl [],.sl []]
 | 2,112=>[.sl [],.sl []]
 | 3,28=>[.full [],.sl []]
 | 3,99=>[.full []]
 | 4,28=>[.sl [],.full []]
 | 5,28=>[.full [],.full []]
 | 5,112=>[.full [],.full []]
 | 14,226=>[.int .i64 0,.sl [],.full [],.full []]
 | 18,51=>[.int .i64 0,.str ⟨#[]⟩,.int .i64 0,.int .i64 0,.full []]
 | 114,36=>[.str ⟨#[]⟩,.int .i64 0,.int .i64 0,.int .i64 0,.full [],.full [],.full [],.int .i64 0]
 | _,_=>[A.any]
attribute [go_sem] cZ
def cM:List (Nat×Option Unit):=[(20,some ()),(27,some ()),(30,some ()),(33,some ()),(35,some ()),(40,some ()),(41,some ()),(42,some ()),(43,some ()),(44,some ()),(59,some ()),(69,some ()),(73,some ()),(74,some ()),(75,some ()),(77,some ()),(82,some ()),(84,some ()),(85,some ()),(91,some ()),(92,some ()),(93,some ()),(94,some ()),(97,some ()),(124,some ()),(126,some ()),(127,some ()),(150,some ()),(152,some ()),(153,some ()),(163,some ()),(181,some ()),(201,some ()),(203,some ()),(204,some ()),(205,some ()),(206,some ()),(207,some ()),(208,some ()),(209,some ()),(211,some ()),(212,some ()),(237,some ()),(242,some ()),(243,some ()),(244,some ()),(246,some ()),(247,some ()),(248,some ()),(250,some ())]
end Ab
end Go.Proofs.YtfkjffmjkbkmhaaGreatDoor
