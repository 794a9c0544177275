import Derived.Test.YtdlfhmkmnjbihaaGreatDoorAb20
namespace Go.Proofs.YtdlfhmkmnjbihaaGreatDoor
namespace Ab
set_option linter.unusedSimpArgs false
set_option linter.unusedVariables false
section
variable {C:Cx} {E:Env}
def FSt(ps:List POp)(vs:Nat->A)(mws:Nat->List (Nat×MS))(s:S)(f:Nat->Bool):Nat->S
  |0=>s
  |n+1=>match ps[n]? with
    |some p=>if f n then⟨setF (FSt ps vs mws s f n).fr p.dst (vs n),setM (FSt ps vs mws s f n).mem (mws n)⟩else FSt ps vs mws s f n
    |none=>FSt ps vs mws s f n
theorem zP1{y:Nat}:∀{mw:List (Nat×MS)} {m:Nat->MS},y∉mw.map (·.1)->setM m mw y=m y
  |[],_,_=>rfl
  |q::mw,m,h=>by simp only[setM];rw[zP1 λ hh=>h (.tail _ hh)];refine bL λ e=>h ?_;rw[e];exact .head _
theorem zbH1{y:Nat}:∀{mw:List (Nat×MS)} {m m2:Nat->MS},y∈mw.map (·.1)->setM m mw y=setM m2 mw y
  |q::mw,m,m2,h=>by
    simp only[setM]
    by_cases h2:y∈mw.map (·.1)
    .exact zbH1 h2
    · rw[zP1 h2,zP1 h2]
      rcases bY.1 h with rfl|h
      .simp
      .exact absurd h h2
theorem zbM0{ps:List POp}{vs:Nat->A}{mws:Nat->List (Nat×MS)}{s:S}{f f':Nat->Bool}:∀n,(∀i,i<n->f i=f' i)->FSt ps vs mws s f n=FSt ps vs mws s f' n
  |0,_=>rfl
  |n+1,h=>by have ih:=zbM0 (ps:=ps) (vs:=vs) (mws:=mws) (s:=s) n λ i hi=>h i (by omega);simp only[FSt,ih,h n (by omega)]
theorem zaR4(f:Nat->A)(d:Option Nat)(v:A)(t:Nat):setF f d v t=if d=some t then v else f t:=rfl
theorem zcG6{ps:List POp}{vs:Nat->A}{mws:Nat->List (Nat×MS)}{s:S}{f:Nat->Bool}{j t:Nat}(h1:∀i q,i<j->ps[i]? =some q->q.dst=some t->f i=true)(h2:∀i q,j<=i->ps[i]? =some q->q.dst=some t->f i=false):
    ∀n,(FSt ps vs mws s f n).fr t=(FSt ps vs mws s (λ _=>true) (min n j)).fr t
  |0=>by simp[FSt]
  |n+1=>by
    have ih:=zcG6 (vs:=vs) (mws:=mws) (s:=s) h1 h2 n
    by_cases hn:n<j
    · rw[show min (n+1) j=n+1 by omega]
      rw[show min n j=n by omega]at ih;simp only[FSt];cases hq:ps[n]? with
      |none=>exact ih
      |some q=>
        simp only[bS]
        by_cases hd:q.dst=some t
        .rw[h1 n q hn hq hd];simp[zaR4,hd]
        · rw[zaR4,bL hd]
          split
          .simp only[zaR4,bL hd];exact ih
          .exact ih
    · rw[show min (n+1) j=j by omega]
      rw[show min n j=j by omega]at ih;simp only[FSt];cases hq:ps[n]? with
      |none=>exact ih
      |some q=>
        simp only[]
        by_cases hd:q.dst=some t
        .rw[h2 n q (by omega) hq hd];simpa using ih
        · split
          .simp only[zaR4,bL hd];exact ih
          .exact ih
theorem zcz3{ps:List POp}{vs:Nat->A}{mws:Nat->List (Nat×MS)}{s:S}{f:Nat->Bool}{j y:Nat}(h1:∀i q,i<j->ps[i]? =some q->y∈(mws i).map (·.1)->f i=true)(h2:∀i q,j<=i->ps[i]? =some q->y∈(mws i).map (·.1)->f i=false):
    ∀n,(FSt ps vs mws s f n).mem y=(FSt ps vs mws s (λ _=>true) (min n j)).mem y
  |0=>by simp[FSt]
  |n+1=>by
    have ih:=zcz3 (vs:=vs) (mws:=mws) (s:=s) h1 h2 n
    by_cases hn:n<j
    · rw[show min (n+1) j=n+1 by omega]
      rw[show min n j=n by omega]at ih;simp only[FSt];cases hq:ps[n]? with
      |none=>exact ih
      |some q=>
        simp only[bS]
        by_cases hd:y∈(mws n).map (·.1)
        .rw[h1 n q hn hq hd];simp only[bS];exact zbH1 hd
        · rw[zP1 hd]
          split
          · show setM _ _ _=_
            rw[zP1 hd];exact ih
          .exact ih
    · rw[show min (n+1) j=j by omega]
      rw[show min n j=j by omega]at ih;simp only[FSt];cases hq:ps[n]? with
      |none=>exact ih
      |some q=>
        simp only[]
        by_cases hd:y∈(mws n).map (·.1)
        .rw[h2 n q (by omega) hq hd];simpa using ih
        · split
          · show setM _ _ _=_
            rw[zP1 hd];exact ih
          .exact ih
theorem zcX5{ps:List POp}{vs:Nat->A}{mws:Nat->List (Nat×MS)}{s:S}{f:Nat->Bool}{j:Nat}{p:POp}(hp:ps[j]? =some p)(hf:f j=false)(f':Nat->Bool)(hj:f' j=true)(hf':∀i,i≠j->f' i=f i)
    (hc:∀i q,j<i->ps[i]? =some q->f i=true->conf p q=false) (hm:∀i q,j<i->ps[i]? =some q->f i=true->∀y∈(mws j).map (·.1),y∉(mws i).map (·.1)):
    ∀n,(∀t,(FSt ps vs mws s f' n).fr t=if j<n/\p.dst=some t then vs j else(FSt ps vs mws s f n).fr t)/\∀y,(FSt ps vs mws s f' n).mem y=if j<n then setM (FSt ps vs mws s f n).mem (mws j) y else(FSt ps vs mws s f n).mem y
  |0=>by simp[FSt]
  |n+1=>by
    obtain⟨ih,ih2⟩:=zcX5 (vs:=vs) (mws:=mws) (s:=s) hp hf f' hj hf' hc hm n
    by_cases hn:n=j
    · subst hn
      simp only[FSt,hp,hj,hf,bS,bN,bU];refine⟨λ t=>?_,λ y=>?_⟩
      · rw[zaR4]
        by_cases hd:p.dst=some t
        .simp[hd]
        · simp only[hd,bU,and_false]
          have:=ih t
          simpa [hd]using this
      · rw[bM (iU n)]
        have e:(FSt ps vs mws s f' n).mem=(FSt ps vs mws s f n).mem:=funext λ z=>by have:=ih2 z;simpa using this
        rw[e]
    · have hlt:j<n+1↔j<n:=by omega
      simp only[FSt,hf' n hn,hlt];cases hq:ps[n]? with
      |none=>exact⟨by simpa using ih,by simpa using ih2⟩
      |some q=>
        simp only[];split
        · rename_i hfn
          refine⟨λ t=>?_,λ y=>?_⟩
          · simp only[zaR4,ih t]
            by_cases hd:q.dst=some t
            · simp only[hd,bS]
              by_cases hjn:j<n
              · have:=hc n q hjn hq hfn
                unfold conf at this
                by_cases hpd:p.dst=some t
                .simp[hpd,hd]at this
                .simp[hpd]
              .simp[hjn]
            .simp[hd]
          · by_cases hjn:j<n
            · simp only[hjn,bS]at ih2|-
              have hdj:=hm n q hjn hq hfn
              by_cases h1:y∈(mws n).map (·.1)
              · rw[zP1 (mw:=mws j) λ hh=>hdj y hh h1]
                exact zbH1 h1
              · rw[zP1 h1,ih2 y]
                by_cases h2:y∈(mws j).map (·.1)
                .exact zbH1 h2
                .rw[zP1 h2,zP1 h2,zP1 h1]
            · simp only[hjn,bU]at ih2|-
              have e:(FSt ps vs mws s f' n).mem=(FSt ps vs mws s f n).mem:=funext ih2;rw[e]
        .exact⟨ih,ih2⟩
theorem zaC6:∀{x y:List Nat},disj x y=true->∀z∈x,z∉y
  |a::x,y,h,z,hz=>by
    simp only[disj,bK,cK,iW,cS]at h;rcases bY.1 hz with rfl|hz
    .exact h.1
    .exact zaC6 h.2 z hz
theorem zbM1{an:List Nat}:∀{log:List (List Nat×List Nat)} {i:Nat} {r w:List Nat},zaU7 an i log r w=true->∀n q,log[n]? =some q->i+n∉an->disj q.2 r=true/\disj q.2 w=true/\disj w q.1=true
  |x::log,i,r,w,h,n,q,hq,hn=>by
    simp only[zaU7,bK,dT]at h;cases n with
    |zero=>
      simp at hq;subst hq;rcases h.1 with h1|h1
      .exact absurd (by simpa using h1) hn
      .exact⟨h1.1.1,h1.1.2,h1.2⟩
    |succ n=>exact zbM1 h.2 n q (by simpa using hq) (by rwa [show i+1+n=i+(n+1)by omega])
theorem zbM2{an:List (List Nat)}{K:St->Prop}:∀(ps:List POp) (st:St) (log:List (List Nat×List Nat)),zao6 C an ps st log K->∃(vs:Nat->A) (mws:Nat->List (Nat×MS)) (sts:Nat->St),K (sts ps.length)/\sts 0=st/\
    ∀j p,ps[j]? =some p->sts (j+1)=(sts j).app p.dst (vs j) (mws j)/\mwOk (sts j).nx (mws j)/\aopS C p (sts j).toS (sts j).nx (λ v mw=>v=vs j/\mw=mws j)/\zaJ7 (zo3 C (sts j) p.xs)=true/\
      (∀i q,i<log.length->log[i]? =some q->i∉an.getD (log.length+j) []->disj q.2 (idsP p.po (zo3 C (sts j) p.xs))=true/\disj q.2 ((mws j).map (·.1))=true/\disj ((mws j).map (·.1)) q.1=true)/\
      (∀i q,i<j->ps[i]? =some q->log.length+i∉an.getD (log.length+j) []->disj ((mws i).map (·.1)) (idsP p.po (zo3 C (sts j) p.xs))=true/\disj ((mws i).map (·.1)) ((mws j).map (·.1))=true/\disj ((mws j).map (·.1)) (idsP q.po (zo3 C (sts i) q.xs))=true)
  |[],st,log,h=>⟨λ _=>.any,λ _=>[],λ _=>st,h,rfl,λ j p hp=>by simp at hp⟩
  |p::ps,st,log,h=>by
    obtain⟨v,mw,⟨hmw,hi,hcap,hrest⟩,h4⟩:=zcX3 (zdl4 h);obtain⟨vs,mws,sts,h5,h6,h7⟩:=zbM2 ps _ _ hrest;refine⟨λ i=>match i with|0=>v|i+1=>vs i,λ i=>match i with|0=>mw|i+1=>mws i,λ i=>match i with|0=>st|i+1=>sts i,h5,rfl,λ j q hq=>?_⟩;cases j with
    |zero=>simp at hq;subst hq;refine⟨h6,hmw,h4,hcap,λ i q hi2 hq hn=>?_,λ i q hi2=>by omega⟩;exact zbM1 hi i q hq (by rw[dC];exact hn)
    |succ j=>
      obtain⟨g1,g2,g3,g4,g5,g6⟩:=h7 j q (by simpa using hq);simp only[bP,List.length_cons,List.length_nil,dC]at g5 g6;refine⟨g1,g2,g3,g4,λ i x hi2 hx hn=>?_,λ i x hi2 hx hn=>?_⟩
      .exact g5 i x (by omega) (by rw[cY hi2];exact hx) (by rwa [show log.length+1+j=log.length+(j+1)by omega])
      · cases i with
        |zero=>simp at hx;subst hx;have:=g5 log.length (idsP p.po (zo3 C st p.xs),mw.map (·.1)) (by omega) (by rw[eC (cQ _)];simp) (by rw[show log.length+1+j=log.length+(j+1)by omega];exact hn);exact this
        |succ i=>exact g6 i x (by omega) (by simpa using hx) (by rw[show log.length+1+j=log.length+(j+1)by omega,show log.length+1+i=log.length+(i+1)by omega];exact hn)
theorem zbM3{st:St}(xs:List PX):zo3 C st xs=zB0 C st.toS.fr xs:=zaX6 xs
theorem zcz4{os:Array Oper}{ps:List POp}{s0:S}{vs:Nat->A}{mws:Nat->List (Nat×MS)}{sts:Nat->St}{K:St->Prop}{Q:Exit->Act->World->Prop}(hG:E.G=C.G)(hr:ROk C E.N os 0 ps)(hso:POp.sortOk os.toList 0=true)
    (hco:zbu3 ps (ancs [] (os.toList.map zB1))=true) (hK:K (sts ps.length))
    (hst:∀j,j<=ps.length->(sts j).toS=FSt ps vs mws s0 (λ _=>true) j)
    (hv:∀j p,ps[j]? =some p->mwOk (sts j).nx (mws j)/\aopS C p (sts j).toS (sts j).nx (λ v mw=>v=vs j/\mw=mws j)/\zaJ7 (zo3 C (sts j) p.xs)=true/\
      (∀i q,i<j->ps[i]? =some q->i∉(ancs [] (os.toList.map zB1)).getD j []->disj ((mws i).map (·.1)) (idsP p.po (zo3 C (sts j) p.xs))=true/\disj ((mws i).map (·.1)) ((mws j).map (·.1))=true/\disj ((mws j).map (·.1)) (idsP q.po (zo3 C (sts i) q.xs))=true))
    (hnx:∀i j,i<=j->(sts i).nx<=(sts j).nx) (hnx0:∀y,(sts 0).nx<=y->s0.mem y=.fresh) (hkey:∀j p y,ps[j]? =some p->y∈(mws j).map (·.1)->y<(sts (j+1)).nx)
    (hQ:∀st' a' w',K st'->Sat E st'.toS a' w'->Q .normal a' w'):
    ∀(fuel:Nat) (listed:Array Bool) (a:Act) (w:World),listed.size=os.size->Sat E (FSt ps vs mws s0 (λ i=>listed.getD i false) ps.length) a w->
      (∀j o,os[j]? =some o->listed.getD j false=true->∀i∈zB1 o,listed.getD i false=true)->left (λ i=>listed.getD i false) os.size<=fuel->
      wpAny C.P .any os Q fuel listed a w:=by
  have hlen:ps.length=os.size:=by have:=hr.size;omega
  have hdone:∀(listed:Array Bool) (a:Act) (w:World),Sat E (FSt ps vs mws s0 (λ i=>listed.getD i false) ps.length) a w->(∀i,i<os.size->listed.getD i false=true)->Q .normal a w:=by intro listed a w hs hall;refine hQ _ a w hK ?_;rw[hst ps.length (cQ _),zbM0 (f:=λ _=>true) (f':=λ i=>listed.getD i false) ps.length λ i hi=>(hall i (by omega)).symm];exact hs
  have hready:∀(listed:Array Bool),listed.size=os.size->Region.ready .any os listed=[]->∀i,i<os.size->listed.getD i false=true:=by
    intro listed hsz hr0 i;induction i using Nat.strongRecOn with
    |_ i ih=>
      intro hi;cases hl:listed.getD i false with
      |true=>rfl
      |false=>
        have:i∈Region.ready .any os listed:=by
          rw[mem_ready];refine⟨?_,os[i],by simp[hi],λ e he hb=>?_⟩
          · have h1:i<listed.size:=by omega
            simp only[Array.getD,h1,jO]at hl⊢;exact hl
          · have h2:e.on∈zB1 os[i]:=by
              simp only[zB1,bW,cV];exact⟨e,⟨by simpa using he,hb⟩,rfl⟩
            have h3:=zaX8 os.toList 0 hso i os[i] (by simp[hi]) e.on h2;exact ih e.on (by omega) (by omega)
        rw[hr0]at this;cases this
  intro fuel;induction fuel with
  |zero=>
    intro listed a w hsz hs hcl hle;have hall:=zbu6 (f:=λ i=>listed.getD i false) os.size (by omega);refine⟨?_,hdone listed a w hs hall⟩;cases hrd:Region.ready .any os listed with
    |nil=>rfl
    |cons i rs=>
      have:i∈Region.ready .any os listed:=by rw[hrd];simp
      rw[mem_ready]at this;obtain⟨h1,o,ho,_⟩:=this;have hi:=(cD.1 ho).1;have:=hall i hi;have h2:i<listed.size:=by omega
      simp only[Array.getD,h2,jO]at h1 this;rw[this]at h1;cases h1
  |succ fuel ih=>
    intro listed a w hsz hs hcl hle;refine⟨λ hr0=>hdone listed a w hs (hready listed hsz hr0),λ i hi=>?_⟩;rw[mem_ready]at hi;obtain⟨hl,o,ho,hed⟩:=hi;have hlt:=(cD.1 ho).1;have hlt2:i<listed.size:=by omega
    have hl:listed.getD i false=false:=by simp only[Array.getD,hlt2,jO]at hl⊢;exact hl
    obtain⟨p,hp,hpo⟩:=hr.at (j:=i) (by rw[dC];exact ho);have hedge:∀k∈zB1 o,listed.getD k false=true:=by intro k hk;simp only[zB1,bW,cV]at hk;obtain⟨e,⟨he,hb⟩,rfl⟩:=hk;exact hed e (by simpa using he) hb
    have hset:(listed.setIfInBounds i true).getD i false=true:=by simp[Array.getD,hlt2]
    have hsetne:∀k,k≠i->(listed.setIfInBounds i true).getD k false=listed.getD k false:=λ k hk=>getD_set_ne false (jX hk);have hcl':∀j o,os[j]? =some o->(listed.setIfInBounds i true).getD j false=true->∀k∈zB1 o,(listed.setIfInBounds i true).getD k false=true:=by
      intro j o' ho' hj k hk
      by_cases hji:j=i
      · subst hji
        rw[ho]at ho';cases ho';exact getD_set_true (hedge k hk)
      · rw[hsetne j hji]at hj
        exact getD_set_true (hcl j o' ho' hj k hk)
    have hanc:∀j,(listed.setIfInBounds i true).getD j false=true->∀k∈(ancs [] (os.toList.map zB1)).getD j [],(listed.setIfInBounds i true).getD k false=true:=
      zaM0 (D:=λ j=>(listed.setIfInBounds i true).getD j false=true) _ [] (λ j e he hD=>by
        simp only[cE,bX]at he;obtain⟨o',ho',rfl⟩:=he;exact hcl' j o' (by simpa using ho') (by simpa using hD)) (λ j _ k hk=>by simp at hk)
    have hanc0:∀j,listed.getD j false=true->∀k∈(ancs [] (os.toList.map zB1)).getD j [],listed.getD k false=true:=
      zaM0 (D:=λ j=>listed.getD j false=true) _ [] (λ j e he hD=>by
        simp only[cE,bX]at he;obtain⟨o',ho',rfl⟩:=he;exact hcl j o' (by simpa using ho') (by simpa using hD)) (λ j _ k hk=>by simp at hk)
    have hbef:∀k q,k<i->ps[k]? =some q->conf q p=true->listed.getD k false=true:=by intro k q hk hq hc;have:=hanc i hset k (zaH1 hco hk hq hp hc);rwa [hsetne k (by omega)]at this
    have haft:∀k q,i<k->ps[k]? =some q->conf p q=true->listed.getD k false=false:=by
      intro k q hk hq hc;cases hlk:listed.getD k false with
      |false=>rfl
      |true=>have:=hanc0 k hlk i (zaH1 hco hk hp hq hc);rw[hl]at this;cases this
    have hbefM:∀k,k<i->listed.getD k false=false->k∉(ancs [] (os.toList.map zB1)).getD i []:=λ k hk hlk hh=>by have:=hanc i hset k hh;rw[hsetne k (by omega),hlk]at this;cases this
    have haftM:∀k,i<k->listed.getD k false=true->i∉(ancs [] (os.toList.map zB1)).getD k []:=λ k hk hlk hh=>by have:=hanc0 k hlk i hh;rw[hl]at this;cases this
    obtain ⟨hmw,haop,hcap,hind⟩:=hv i p hp;have hil:i<ps.length:=(bT.1 hp).1;have hsi:=hst i (hI hil);have hrow:∀y,(y∈idsP p.po (zo3 C (sts i) p.xs)\/y∈(mws i).map (·.1))->(FSt ps vs mws s0 (λ k=>listed.getD k false) ps.length).mem y=(sts i).toS.mem y:=λ y hy=>by
      rw[hsi];have:=zcz3 (ps:=ps) (vs:=vs) (mws:=mws) (s:=s0) (f:=λ k=>listed.getD k false) (j:=i) (y:=y) (λ k q hk hq hyk=>?_) (λ k q hk hq hyk=>?_) ps.length
      .rw[this,iR (hI hil)]
      · cases hlk:listed.getD k false with
        |true=>rfl
        |false=>
          obtain⟨g1,g2,g3⟩:=hind k q hk hq (hbefM k hk hlk);rcases hy with hy|hy
          .exact absurd hy (zaC6 g1 y hyk)
          .exact absurd hy (zaC6 g2 y hyk)
      · cases hlk:listed.getD k false with
        |false=>rfl
        |true=>
          have hki:i<k:=by
            rcases Nat.lt_or_eq_of_le hk with h|h
            .exact h
            .subst h;rw[hl]at hlk;cases hlk
          obtain⟨g0,g00,g000,gg⟩:=hv k q hq;obtain⟨g1,g2,g3⟩:=gg i p hki hp (haftM k hki hlk);rcases hy with hy|hy
          .exact absurd hy (zaC6 g3 y hyk)
          .exact absurd hyk (zaC6 g2 y hy)
    have hslot:∀t∈p.rds,(sts i).toS.fr t=(FSt ps vs mws s0 (λ k=>listed.getD k false) ps.length).fr t:=λ t ht=>by
      rw[hsi];rw[zcG6 (j:=i) (t:=t) (f:=λ k=>listed.getD k false) (λ k q hk hq hd=>hbef k q hk hq (zaR2 hd (.inl ht)).1) (λ k q hk hq hd=>?_) ps.length,iR (hI hil)]
      by_cases hki:k=i
      .subst hki;exact hl
      .exact haft k q (by omega) hq ((zaR2 hd (.inl ht)).2 ht)
    have haop2:=zcn9 (s2:=FSt ps vs mws s0 (λ k=>listed.getD k false) ps.length) hslot (λ y hy=>(hrow y (.inl (by rw[zbM3];exact hy))).symm) (λ y hy=>(hrow y (.inr hy)).symm) (λ f caps vals _ hvals c hc=>by
      rw[zbM3,hvals]at hcap;exact zbA7 hcap c hc) haop
    have hfin:∃id,(FSt ps vs mws s0 (λ k=>listed.getD k false) ps.length).mem id=.fresh/\aopS C p (FSt ps vs mws s0 (λ k=>listed.getD k false) ps.length) id (λ v mw=>v=vs i/\mw=mws i):=by
      rcases zdl5 haop2 with h1|h1
      .exact⟨_,by rw[hrow _ (.inr h1)];exact(sts i).m_nx,haop2⟩
      · refine⟨(sts ps.length).nx,?_,h1 _ (hnx i _ (hI hil))⟩
        rw[zcz3 (j:=0) (f:=λ k=>listed.getD k false) (λ k q hk=>by omega) (λ k q _ hq hyk=>by
          have h2:=hkey k q _ hq hyk;have h3:=hnx (k+1) ps.length (bT.1 hq).1;omega) ps.length]
        simp only[Nat.min_zero,FSt];exact hnx0 _ (hnx 0 _ (eY _))
    obtain⟨id,hid,haop3⟩:=hfin;obtain⟨W,μ,hs⟩:=hs;have key:=zbL0 hs hG hid hpo haop3 (Q:=Q) (k:=wpAny C.P .any os Q fuel (listed.setIfInBounds i true)) (λ v mw a' w' hvm hs'=>by
      obtain⟨rfl,rfl⟩:=hvm;refine ih _ a' w' (by simpa using hsz) ?_ hcl' ?_
      · obtain⟨e1,e2⟩:=zcX5 (vs:=vs) (mws:=mws) (s:=s0) (f:=λ k=>listed.getD k false) hp hl (λ k=>(listed.setIfInBounds i true).getD k false) hset hsetne (λ k q hk hq hfk=>by
          cases hc:conf p q with
          |false=>rfl
          |true=>have:=haft k q hk hq hc;exact absurd (this.symm.trans hfk) (by simp)) (λ k q hk hq hfk y hy hyk=>by
          obtain⟨g0,g00,g000,gg⟩:=hv k q hq;obtain⟨g1,g2,g3⟩:=gg i p hk hp (haftM k hk hfk);exact zaC6 g2 y hy hyk) ps.length
        have e:FSt ps vs mws s0 (λ k=>(listed.setIfInBounds i true).getD k false) ps.length=⟨setF (FSt ps vs mws s0 (λ k=>listed.getD k false) ps.length).fr p.dst (vs i),setM (FSt ps vs mws s0 (λ k=>listed.getD k false) ps.length).mem (mws i)⟩:=by
          have h1:(FSt ps vs mws s0 (λ k=>(listed.setIfInBounds i true).getD k false) ps.length).fr=setF (FSt ps vs mws s0 (λ k=>listed.getD k false) ps.length).fr p.dst (vs i):=funext λ t=>by rw[e1 t,zaR4];simp only[hil,fX]
          have h2:(FSt ps vs mws s0 (λ k=>(listed.setIfInBounds i true).getD k false) ps.length).mem=setM (FSt ps vs mws s0 (λ k=>listed.getD k false) ps.length).mem (mws i):=funext λ y=>by rw[e2 y,bM hil]
          rw[<-h1,<-h2]
        rw[e];exact hs'
      · have:=zbL7 (f:=λ k=>listed.getD k false) (f':=λ k=>(listed.setIfInBounds i true).getD k false) (j:=i) hl hset hsetne os.size
        rw[bM hlt]at this;omega)
    simp only[wpOp,ho];split at key
    .rename_i hw;rw[bM hw];exact .inl key
    .rename_i hw;rw[bL hw];exact key
theorem zbM4:∀(mw:List (Nat×MS)) (nx:Nat),nx<=nxt nx mw
  |[],nx=>cQ _
  |q::mw,nx=>by simp only[nxt];refine eV ?_ (zbM4 mw _);split<;>omega
theorem zcX6:∀{mw:List (Nat×MS)} {nx:Nat},mwOk nx mw->∀y∈mw.map (·.1),y<nxt nx mw
  |q::mw,nx,h,y,hy=>by
    obtain⟨h1,h2,h3⟩:=h;simp only[nxt];rcases bY.1 hy with rfl|hy
    · refine dI ?_ (zbM4 mw _)
      show q.1<_;split<;>omega
    .exact zcX6 h3 y hy
theorem zdl6{Q:Exit->St->Prop}{st:St}{dr:List Nat}{an:List (List Nat)}{ops:List POp}(hm:C.P.follows .mixedOrders=true)(hG:E.G=C.G)(h:zao6 C an ops st [] λ s=>Q .normal (s.drop dr)):AW C E (.regm dr an ops) Q st:=λ code hc a w hs=>by
  cases code with
  |region id os d=>
   cases d with
   |false=>simp[chkC]at hc
   |true=>
    simp only[chkC,bK,dA]at hc;obtain⟨hc1,hc2,hc3,hc4⟩:=hc;have hr:ROk C E.N os 0 ops:=by obtain⟨P,G⟩:=C;exact zbe3 os.toList ops 0 hc1 (by simp) (by simp)
    obtain⟨vs,mws,sts,hK,h0,hv⟩:=zbM2 ops st [] h;subst hc4;have hnx1:∀j,(sts j).nx<=(sts (j+1)).nx\/ops.length<=j:=λ j=>by
      by_cases hj:j<ops.length
      · obtain⟨g1,g2,_⟩:=hv j ops[j] (by simp[hj])
        left;rw[g1];exact zbM4 _ _
      .right;omega
    let sts':Nat->St:=λ j=>if j<=ops.length then sts j else sts ops.length
    have hs':∀j,j<=ops.length->sts' j=sts j:=λ j hj=>bM hj;have hs2:∀j,ops.length<=j->sts' j=sts ops.length:=λ j hj=>by
      show(if j<=ops.length then sts j else sts ops.length)=_;split
      .rw[show j=ops.length by omega]
      .rfl
    have hstep:∀j,(sts' j).nx<=(sts' (j+1)).nx:=λ j=>by
      by_cases hj:j<ops.length
      · rw[hs' j (by omega),hs' (j+1) (by omega)]
        rcases hnx1 j with h1|h1
        .exact h1
        .omega
      .rw[hs2 j (by omega),hs2 (j+1) (by omega)];exact cQ _
    have hmono:∀i j,i<=j->(sts' i).nx<=(sts' j).nx:=λ i j hij=>by
      induction j with
      |zero=>rw[show i=0 by omega];exact cQ _
      |succ j ih=>
        by_cases hi:i=j+1
        .rw[hi];exact cQ _
        .exact eV (ih (by omega)) (hstep j)
    have hFS:∀j,j<=ops.length->(sts' j).toS=FSt ops vs mws st.toS (λ _=>true) j:=λ j hj=>by
      rw[hs' j hj];induction j with
      |zero=>rw[h0];rfl
      |succ j ih=>
        obtain⟨g1,g2,_⟩:=hv j ops[j] (by simp[show j<ops.length by omega]);have ih:=ih (by omega);rw[g1,zbG6 _ _ _ _ g2];have hq:ops[j]? =some ops[j]:=by simp[show j<ops.length by omega]
        simp only[FSt,hq,bS];rw[<-ih];rfl
    refine wp_region_any hm ?_;refine zcz4 (s0:=st.toS) (vs:=vs) (mws:=mws) (sts:=sts') (K:=λ s=>Q .normal (s.drop dr)) hG hr hc2 hc3 (by rw[hs' _ (cQ _)];exact hK) hFS (λ j p hp=>?_) hmono (λ y hy=>?_) (λ j p y hp hy=>?_) (λ st' a' w' hQ hs'=>⟨_,hQ,hs'.drop⟩) os.size _ a _ (by simp) ?_ (λ j o ho hj=>?_) ?_
    · have hj:=(bT.1 hp).1
      obtain⟨g1,g2,g3,g4,_,g6⟩:=hv j p hp;rw[hs' j (by omega)];refine⟨g2,g3,g4,λ i q hi hq hn=>?_⟩;rw[hs' i (by omega)];simp only[List.length_nil,dC]at g6;exact g6 i q hi hq hn
    · rw[hs' 0 (eY _),h0]at hy
      exact zcg4 st y hy
    · have hj:=(bT.1 hp).1
      obtain⟨g1,g2,_⟩:=hv j p hp;rw[hs' (j+1) (by omega),g1];exact zcX6 g2 y hy
    · have e:FSt ops vs mws st.toS (λ i=>(Array.replicate os.size false).getD i false) ops.length=FSt ops vs mws st.toS (λ _=>false) ops.length:=zbM0 _ λ i _=>by simp[Array.getD]
      have e2:∀n,FSt ops vs mws st.toS (λ _=>false) n=st.toS:=λ n=>by
        induction n with
        |zero=>rfl
        |succ n ih=>simp only[FSt,ih,bN,bU];split<;>rfl
      rw[e,e2];exact hs.drawn (jN _)
    .simp[Array.getD]at hj
    · have:∀n,left (λ i=>(Array.replicate os.size false).getD i false) n<=n:=λ n=>by
        induction n with
        |zero=>exact cQ _
        |succ n ih=>simp only[left];split<;>omega
      exact this _
  |_=>simp[chkC]at hc
end
def memN(n:Nat):List Nat->Bool
 |[]=>false
 |m::ms=>if n=m then true else memN n ms
theorem zbM5{n:Nat}:∀{l:List Nat},memN n l=true↔n∈l
 |[]=>by simp[memN]
 |m::ms=>by
  unfold memN;split
  .rename_i h;simp[h]
  .rename_i h;rw[zbM5];simp[h]
def fzA(ids:List Nat)(m:Nat->MS):A->A
 | .own y lo n=>if memN y ids=true then frz1 m (.own y lo n)else .own y lo n
 |a=>a
def fzCs(ids:List Nat)(m:Nat->MS):List A->List A
 |[]=>[]
 |a::as=>fzA ids m a::fzCs ids m as
def fzV(ids:List Nat)(m:Nat->MS):A->A
 | .agg cs=>if zj2 cs=true then .agg cs else .agg (fzCs ids m cs)
 |a=>fzA ids m a
def fzEs(ids:List Nat)(m:Nat->MS)(es:List (List A)):List (List A):=if pureEs es=true then es else es.map (fzCs ids m)
def fzFr(ids:List Nat)(m:Nat->MS):List (Nat×A)->List (Nat×A)
 |[]=>[]
 |q::r=>(q.1,fzV ids m q.2)::fzFr ids m r
def zco0(ids:List Nat)(m:Nat->MS):List (Nat×Row)->List (Nat×Row)
 |[]=>[]
 |q::r=>(q.1,⟨q.2.ro||memN q.1 ids,q.2.sz,q.2.z,fzEs ids m q.2.es⟩)::zco0 ids m r
def zcc3(ids:List Nat)(m:Nat->MS):A->Prop
 | .own y lo n=>if memN y ids=true then zai2 m (.own y lo n)else True
 |_=>True
def zbu7(ids:List Nat)(m:Nat->MS):List A->Prop
 |[]=>True
 |a::as=>zcc3 ids m a/\zbu7 ids m as
def zco1(ids:List Nat)(m:Nat->MS):A->Prop
 | .agg cs=>if zj2 cs=true then True else zbu7 ids m cs
 |a=>zcc3 ids m a
def zbH2(ids:List Nat)(m:Nat->MS):List (List A)->Prop
 |[]=>True
 |c::cs=>zbu7 ids m c/\zbH2 ids m cs
def zcg9(ids:List Nat)(m:Nat->MS)(es:List (List A)):Prop:=if pureEs es=true then True else zbH2 ids m es
def zch0(ids:List Nat)(m:Nat->MS):List (Nat×A)->Prop
 |[]=>True
 |q::r=>zco1 ids m q.2/\zch0 ids m r
def zbH3(ids:List Nat)(m:Nat->MS):List (Nat×Row)->Prop
 |[]=>True
 |q::r=>zcg9 ids m q.2.es/\zbH3 ids m r
def St.fz(st:St)(ids:List Nat):St:=⟨fzFr ids st.m st.fr,zco0 ids st.m st.mem,st.nx⟩
def St.fzOk(st:St)(ids:List Nat):Prop:=zch0 ids st.m st.fr/\zbH3 ids st.m st.mem
section
variable {C:Cx} {a:Act} {E:Env} {st:St} {w:World} {W:Nat→Prop} {μ:Nat→Loc}
theorem zch1(ids:List Nat)(m:Nat->MS):∀(cs:List A) (i:Nat),(fzCs ids m cs)[i]? =(cs[i]?).map (fzA ids m)
 |[],i=>by simp[fzCs]
 |c::cs,i=>by
  cases i with
  |zero=>simp[fzCs]
  |succ i=>simp[fzCs,zch1 ids m cs i]
theorem zbM6(ids:List Nat)(m:Nat->MS):∀cs:List A,(fzCs ids m cs).length=cs.length
 |[]=>rfl
 |_::cs=>by simp[fzCs,zbM6 ids m cs]
theorem zbu8{ids:List Nat}{m:Nat->MS}:∀{cs:List A},zbu7 ids m cs->∀c∈cs,zcc3 ids m c
 |c::cs,h,d,hd=>by
  rcases bY.1 hd with rfl|hd
  .exact h.1
  .exact zbu8 h.2 d hd
theorem zbM7{ids:List Nat}{m:Nat->MS}:∀{cs:List (List A)},zbH2 ids m cs->∀c∈cs,zbu7 ids m c
 |c::cs,h,d,hd=>by
  rcases bY.1 hd with rfl|hd
  .exact h.1
  .exact zbM7 h.2 d hd
theorem zcc4(ids:List Nat)(m:Nat->MS)(t:Nat):∀fr:List (Nat×A),look (fzFr ids m fr) t=(look fr t).map (fzV ids m)
 |[]=>rfl
 |q::r=>by
  simp only[fzFr,look];split
  .rfl
  .exact zcc4 ids m t r
theorem zbM8(ids:List Nat)(m:Nat->MS)(x:Nat):∀mem:List (Nat×Row),look (zco0 ids m mem) x=(look mem x).map λ r=>⟨r.ro||memN x ids,r.sz,r.z,fzEs ids m r.es⟩
 |[]=>rfl
 |q::r=>by
  simp only[zco0,look];split
  .rename_i h;subst h;rfl
  .exact zbM8 ids m x r
theorem zcc5{ids:List Nat}{m:Nat->MS}:∀{fr:List (Nat×A)},zch0 ids m fr->∀t v,look fr t=some v->zco1 ids m v
 |q::r,h,t,v,hv=>by
  simp only[look]at hv;split at hv
  .cases hv;exact h.1
  .exact zcc5 h.2 t v hv
theorem zbM9{ids:List Nat}{m:Nat->MS}:∀{mem:List (Nat×Row)},zbH3 ids m mem->∀x r,look mem x=some r->zcg9 ids m r.es
 |q::r,h,t,v,hv=>by
  simp only[look]at hv;split at hv
  .cases hv;exact h.1
  .exact zbM9 h.2 t v hv
theorem RepK.less{v:Value}{x:A}{ids:List Nat}(h:RepK w W μ v x):RepK w (zaw2 W μ ids) μ v x:=
 h.goes (Keeps.refl (λ _=>False) w) (λ _ _ _ h=>h) (λ _ _ h1 h2=>h1 h2.1) (Old.refl μ)
theorem zch2{s:S}(hs:SatW E s a w W μ){v:Value}{x:A}{ids:List Nat}(h:RepK w W μ v x)(hok:zcc3 ids s.mem x):RepK w (zaw2 W μ ids) μ v (fzA ids s.mem x):=by
 cases x with
 |own y lo n=>
  simp only[fzA,zcc3]at hok⊢;split
  .rename_i hy;rw[bM hy]at hok;exact zl2 (zbK6 hs h hok (λ z hz=>by simp[zL7]at hz;subst hz;exact zbM5.1 hy))
  .exact h.less
 |_=>exact h.less
theorem zdu1{s:S}(hs:SatW E s a w W μ){v:Value}{x:A}{ids:List Nat}(h:Rep w W μ v x)(hok:zco1 ids s.mem x):Rep w (zaw2 W μ ids) μ v (fzV ids s.mem x):=by
 have hgo:Rep w (zaw2 W μ ids) μ v x:=h.goes (Keeps.refl (λ _=>False) w) (λ _ _ _ h=>h) (λ _ _ h1 h2=>h1 h2.1) (Old.refl μ);cases x with
 |own y lo n=>exact zl3 (zk0 (zch2 (x:=.own y lo n) hs h hok))
 |agg cs=>
  simp only[fzV,zco1]at hok⊢;split
  .exact hgo
  .rename_i hp;rw[bL hp]at hok;obtain⟨vs,hv,hl,hr⟩:=h;refine⟨vs,hv,by rw[zbM6];exact hl,λ i u b hu hb=>?_⟩;rw[zch1]at hb;obtain⟨c,hc,rfl⟩:=bX.1 hb;exact zch2 hs (hr i u c hu hc) (zbu8 hok c (cB hc))
 |_=>exact hgo
@[go_sem] theorem zdD6(ids:List Nat)(m:Nat->MS)(s:List Nat):(s.map iE).map (fzCs ids m)=s.map iE:=by simp[iE,fzCs,fzA]
theorem zdl7{ids:List Nat}{m:Nat->MS}{y c:Nat}{seen:List Nat}:fzEs ids m ([.mp y,.int .i64 c]::seen.map iE)=[.mp y,.int .i64 c]::seen.map iE:=by unfold fzEs;rw[bL (by simp[pureEs,zj2,A.pure1]),cN,zdD6];rfl
theorem zcK9{s:S}(hs:SatW E s a w W μ)(ids:List Nat):zaQ5 w (zaw2 W μ ids) E.G:=λ g cs hg=>by obtain⟨h1,h2,h3⟩:=hs.glob g cs hg;refine⟨λ hh=>h1 hh.1,h2,λ j b hj=>?_⟩;obtain⟨u,hu,hr⟩:=h3 j b hj;exact⟨u,hu,hr.less⟩
theorem St.le_fz(ids:List Nat)(h:st.fzOk ids):St.le E st (st.fz ids):=by
 intro a w ⟨W,μ,hs⟩;refine⟨zaw2 W μ ids,μ,{hs with
  fr:=λ t=>?_
  mem:=λ x=>?_
  wsub:=λ b hb=>hs.wsub b hb.1
  wsup:=λ b hb=>?_
  wlt:=λ b hb=>hs.wlt b hb.1
  glob:=zcK9 hs ids}⟩
 .show Rep w _ μ _ ((st.fz ids).slot t);have hr:Rep w W μ _ (st.slot t):=hs.fr t;simp only[St.slot,St.fz,zcc4]at hr⊢;cases hl:look st.fr t with
  |none=>trivial
  |some v=>rw[hl]at hr;exact zdu1 hs hr (zcc5 h.1 t v hl)
 .show zai9 w _ μ x ((st.fz ids).m x);have hm:zai9 w W μ x (st.m x):=hs.mem x;simp only[St.m,St.fz,zbM8]at hm⊢;split
  .rename_i hx;rw[bM hx]at hm;exact hm
  .rename_i hx;rw[bL hx]at hm;cases hl:look st.mem x with
   |none=>rw[hl]at hm;exact hm
   |some r=>
    rw[hl]at hm;have hok:=zbM9 h.2 x r hl;have hro':∀k,μ x=.at_ k->(r.ro=false->W k.b)->(r.ro||memN x ids)=false->zaw2 W μ ids k.b:=λ k e1 hro hr'=>by simp only[iX]at hr';refine⟨hro hr'.1,λ⟨y,ky,hy,hy2,hy3⟩=>?_⟩;have:=hs.inj y x ky k hy2 e1 hy3;subst this;rw[zbM5.2 hy]at hr';cases hr'.2
    rcases hm with⟨e1,e2,e3⟩|⟨k,e1,⟨hro,hsz,hpos,us,rest,e,h4,h5,h6⟩|gM|gI⟩
    .exact .inl ⟨e1,by show fzEs ids st.m r.es=[];rw[e2];rfl,e3⟩
    rotate_left
    .have hp:=gM.pure;obtain⟨hro,hsz,hpos,es,h4,h5,h6⟩:=gM;refine .inr ⟨k,e1,.inr (.inl ⟨λ hr=>hro' k e1 hro hr,hsz,hpos,es,h4,?_,λ i e c q1 q2=>?_⟩)⟩
     .show es.size=(fzEs ids st.m r.es).length;unfold fzEs;rw[bM hp];exact h5
     .have q3:(fzEs ids st.m r.es)[i]? =some c:=q2;unfold fzEs at q3;rw[bM hp]at q3;exact(h6 i e c q1 q3).keep (Keeps.refl (λ _=>False) w) (λ _ _ _ h=>h) (λ _ _ h h2=>h h2.1)
    .obtain⟨hro,hsz,hpos,hz,y,b,c,seen,h4,h5,h6⟩:=gI;exact .inr ⟨k,e1,.inr (.inr ⟨λ hr=>hro' k e1 hro hr,hsz,hpos,hz,y,b,c,seen,by show fzEs ids st.m r.es=_;rw[h4];exact zdl7,h5,h6⟩)⟩
    .refine .inr ⟨k,e1,.inl ⟨λ hr=>hro' k e1 hro hr,hsz,hpos,us,rest,e,h4,h5,?_⟩⟩
     .show Flat _ r.sz us (fzEs ids st.m r.es);unfold fzEs;unfold zcg9 at hok;split
      .exact h6.mono λ u b hr=>hr.less
      .rename_i hp;rw[bL hp]at hok;refine⟨by simpa using h6.hl,λ i c hc=>?_,λ i c j b hc hb=>?_⟩
       .simp only[cE,bX]at hc;obtain⟨c0,hc0,rfl⟩:=hc;rw[zbM6];exact h6.hs i c0 hc0
       .simp only[cE,bX]at hc;obtain⟨c0,hc0,rfl⟩:=hc;rw[zch1]at hb;obtain⟨b0,hb0,rfl⟩:=bX.1 hb;obtain⟨u,hu,hr⟩:=h6.ha i c0 j b0 hc0 hb0;exact⟨u,hu,zch2 hs hr (zbu8 (zbM7 hok c0 (cB hc0)) b0 (cB hb0))⟩
 .rcases hs.wsup b hb with h1|h1
  .by_cases hx:∃x k,x∈ids/\μ x=.at_ k/\k.b=b
   .obtain⟨x,k,_,hx2,hx3⟩:=hx;rcases hs.live x k hx2 with h2|h2
    .exact .inr (hx3▸h2)
    .have:=hs.winlt b hb;omega
   .exact .inl ⟨h1,hx⟩
  .exact .inr h1
def St.own0(st:St)(t sz:Nat)(z:List A):St:=⟨(t,.own st.nx 0 0)::rm t st.fr,(st.nx,⟨false,sz,z,[]⟩)::st.mem,st.nx+1⟩
theorem St.le_own0(t sz:Nat)(z:List A)(hz:0<sz)(h:st.slot t=.full []):St.le E st (st.own0 t sz z):=by
 intro a w ⟨W,μ,hs⟩;have hst:=Step.newEmpty (r:=⟨false,sz,z,[]⟩) hs.mem hs.inj hs.wlt (St.m_nx st) hz rfl (Keeps.refl _ w);have h2:=hs.step (d:=none) (v:=undef) (av:=.any) hst (λ x hx=>by cases hx) trivial;have hem:(st.own0 t sz z).m=setM st.m [(st.nx,.row ⟨false,sz,z,[]⟩)]:=by
  funext x;simp only[St.m,St.own0,setM,look]
  by_cases hx:x=st.nx
  .subst hx;rw[bL (by omega),bM rfl,bM rfl]
  .by_cases h3:st.nx<=x
   .rw[bM (show st.nx+1<=x by omega),bL hx,bM h3]
   .rw[bL (show¬st.nx+1<=x by omega),bL (show¬st.nx=x by omega),bL hx,bL h3]
 refine⟨_,_,{h2 with fr:=λ t'=>?_,mem:=?_}⟩
 .have h3:=h2.fr t';show Rep w W _ (a.tmps.getD t' undef) ((st.own0 t sz z).slot t');have h4:Rep w W (λ x=>if x=st.nx then .empty else μ x) (a.tmps.getD t' undef) (st.slot t'):=h3;simp only[St.slot,St.own0,look];split
  .rename_i ht;subst ht;rw[h]at h4;have h5:RepC w W (a.tmps.getD t undef) (.full []):=h4;generalize a.tmps.getD t undef=v at h5;cases h5 with
   |full ad n es h6=>
    cases h6 with
    |sl0=>exact zaJ5 (by simp) 0
    |sl b off cap s es us _ _ hn=>simp at hn
  .rename_i ht;rw[zav2,bL (λ e=>ht e.symm)];exact h4
 .show zan8 w W _ (st.own0 t sz z).m;rw[hem];exact h2.mem
def zaR5(j n:Nat):List (List A)->List (List A)
 |[c]=>[upd c j [.own n 0 0]]
 |es=>es
def zbp8(x j n:Nat):List (Nat×Row)->List (Nat×Row)
 |[]=>[]
 |q::r=>if q.1=x then(q.1,⟨q.2.ro,q.2.sz,q.2.z,zaR5 j n q.2.es⟩)::r else q::zbp8 x j n r
def zcX7(j:Nat):List (List A)->Prop
 |[c]=>sub c j 1=[.full []]
 |_=>False
def St.ownb(st:St)(x j sz:Nat)(z:List A):St:=⟨st.fr,(st.nx,⟨false,sz,z,[]⟩)::zbp8 x j st.nx st.mem,st.nx+1⟩
def St.ownbOk(st:St)(x j sz:Nat):Prop:=0<sz/\match st.m x with
 | .row r=>0<r.sz/\zcX7 j r.es
 |_=>False
theorem zbp9(x j n y:Nat):∀mem:List (Nat×Row),look (zbp8 x j n mem) y=(look mem y).map λ r=>if y=x then⟨r.ro,r.sz,r.z,zaR5 j n r.es⟩else r
 |[]=>rfl
 |q::r=>by
  simp only[zbp8];split
  .rename_i h;simp only[look];split
   .rename_i h2;simp[<-h2,h]
   .rename_i h2;have:¬y=x:=λ e=>h2 (h.trans e.symm);cases look r y<;>simp[this]
  .rename_i h;simp only[look];split
   .rename_i h2;simp[<-h2,h]
   .exact zbp9 x j n y r
theorem zco2{v:Value}{x:Nat}(hx:μ x=.empty)(h:RepK w W μ v (.full [])):RepK w W μ v (.own x 0 0):=by
 have h5:RepC w W v (.full []):=h;cases h5 with
 |full ad n es h6=>
  cases h6 with
  |sl0=>refine⟨rfl,?_⟩;rw[hx];exact⟨rfl,ad,rfl⟩
  |sl b off cap s es us _ _ hn=>simp at hn
theorem St.le_ownb(x j sz:Nat)(z:List A)(h:st.ownbOk x j sz):St.le E st (st.ownb x j sz z):=by
 obtain⟨hz,hnil⟩:=h;intro a w ⟨W,μ,hs⟩;have hst:=Step.newEmpty (r:=⟨false,sz,z,[]⟩) hs.mem hs.inj hs.wlt (St.m_nx st) hz rfl (Keeps.refl _ w);have h2:=hs.step (d:=none) (v:=undef) (av:=.any) hst (λ x hx=>by cases hx) trivial;refine⟨_,_,{h2 with fr:=λ t=>h2.fr t,mem:=λ y=>?_}⟩;have hm:=h2.mem y;have hxn:x<st.nx:=by
  cases hr:st.m x with
  |fresh=>rw[hr]at hnil;exact hnil.elim
  |dead=>rw[hr]at hnil;exact hnil.elim
  |row r=>exact St.m_row hr
 show zai9 w W _ y ((st.ownb x j sz z).m y);have hm':zai9 w W (λ x=>if x=st.nx then .empty else μ x) y (setM st.m [(st.nx,.row ⟨false,sz,z,[]⟩)] y):=hm;simp only[setM]at hm'
 by_cases hy:y=st.nx
 .subst hy;have e:(st.ownb x j sz z).m st.nx=.row ⟨false,sz,z,[]⟩:=by
   simp only[St.m,St.ownb,look];rw[bL (by omega)];simp
  rw[bM rfl]at hm';rw[e];exact hm'
 rw[bL hy]at hm';have e:(st.ownb x j sz z).m y=match st.m y with
   | .row r=>.row (if y=x then⟨r.ro,r.sz,r.z,zaR5 j st.nx r.es⟩else r)
   |q=>q:=by
  simp only[St.m,St.ownb,look,zbp9]
  by_cases h3:st.nx<=y
  .rw[bM (show st.nx+1<=y by omega),bM h3]
  .rw[bL (show¬st.nx+1<=y by omega),bL (show¬st.nx=y by omega),bL h3];cases look st.mem y<;>rfl
 rw[e];cases hr:st.m y with
 |fresh=>rw[hr]at hm';exact hm'
 |dead=>rw[hr]at hm';exact hm'
 |row r=>
  rw[hr]at hm';simp only
  by_cases hyx:y=x
  .subst hyx;rw[bM rfl];rw[hr]at hnil;obtain⟨hpz,hnil⟩:0<r.sz/\zcX7 j r.es:=hnil;rcases hm' with⟨g1,g2,g3⟩|⟨k,g1,gA⟩
   .rw[g2]at hnil;exact hnil.elim
   .obtain⟨g2,g3,g4,us,rest,e',g5,g6,g7⟩:=gA.ok (by have:=gA.wr.2;omega);refine .inr ⟨k,g1,.inl ⟨g2,g3,g4,us,rest,e',g5,g6,?_⟩⟩;show Flat _ r.sz us (zaR5 j st.nx r.es);obtain⟨ro,sz',z',es⟩:=r
    match es,hnil with
    |[c],hnil=>
     have hj:sub c j 1=[.full []]:=hnil;have hc:c.length=sz':=g7.hs 0 c rfl;have hjl:c[j]? =some (.full []):=by
      have h8:((c.drop j).take 1)[0]? =some (.full []):=by show(sub c j 1)[0]? =_;rw[hj];rfl
      simpa [dD,dJ]using h8
     have hlt:j<c.length:=(bT.1 hjl).1;have hu:upd c j [.own st.nx 0 0]=c.set j (.own st.nx 0 0):=by simp only[upd,List.length_cons,List.length_nil,dC];rw[gF,bM hlt];simp
     refine⟨g7.hl,λ i d hd=>?_,λ i d q b hd hb=>?_⟩
     .cases i with
      |zero=>simp[zaR5]at hd;subst hd;rw[hu,dP];exact hc
      |succ i=>simp[zaR5]at hd
     .cases i with
      |zero=>
       simp[zaR5]at hd;subst hd;rw[hu,List.getElem?_set]at hb;split at hb
       .rename_i hq;subst hq;cases hb;obtain⟨u,hu1,hu2⟩:=g7.ha 0 c j _ rfl hjl;exact⟨u,hu1,zco2 (by simp) hu2⟩
       .exact g7.ha 0 c q b rfl hb
      |succ i=>simp[zaR5]at hd
  .rw[bL hyx];exact hm'
def unfA:A->A
 | .full es=>.sl es
 |a=>a
def zan0:List A->List A
 |[]=>[]
 |a::as=>unfA a::zan0 as
def zbN0:List (Nat×Row)->List (Nat×Row)
 |[]=>[]
 |q::r=>(q.1,⟨q.2.ro,q.2.sz,q.2.z,q.2.es.map zan0⟩)::zbN0 r
def St.unf(st:St):St:=⟨st.fr,zbN0 st.mem,st.nx⟩
theorem zbN1:∀(cs:List A) (i:Nat),(zan0 cs)[i]? =(cs[i]?).map unfA
 |[],i=>by simp[zan0]
 |c::cs,i=>by
  cases i with
  |zero=>simp[zan0]
  |succ i=>simp[zan0,zbN1 cs i]
theorem zbu9:∀cs:List A,(zan0 cs).length=cs.length
 |[]=>rfl
 |_::cs=>by simp[zan0,zbu9 cs]
theorem zbB4(x:Nat):∀mem:List (Nat×Row),look (zbN0 mem) x=(look mem x).map λ r=>⟨r.ro,r.sz,r.z,r.es.map zan0⟩
 |[]=>rfl
 |q::r=>by
  simp only[zbN0,look];split
  .rfl
  .exact zbB4 x r
theorem zdl8{v:Value}{x:A}(h:RepK w W μ v x):RepK w W μ v (unfA x):=by
 cases x with
 |full es=>
  have h2:RepC w W v (.full es):=h;cases h2 with
  |full a n es h3=>exact zl2 h3
 |_=>exact h
@[go_sem] theorem zdu2(s:List Nat):(s.map iE).map zan0=s.map iE:=by simp[iE,zan0,unfA]
theorem zdq8{v:Value}{x:A}(h:RepC w W v x):RepC w W v (unfA x):=by
 cases x with
 |full es=>cases h with|full a n es h3=>exact h3
 |_=>exact h
theorem zaD0.unf{z:List A}{i:Nat}{e:MapEntry}{c:List A}(h:zaD0 w W z i e c):zaD0 w W z i e (zan0 c):=by
 obtain⟨h0,k,cs,ag,rfl,h2,h3,h4,h5⟩:=h;refine⟨h0,k,zan0 cs,ag,?_,h2,h3,h4,?_⟩
 .simp only[zan0];congr 1;generalize z.headD .any=zk at h3;cases zk<;>cases k<;>first|rfl|(simp[zC4,key1]at h3)
 .unfold RepX at*;split
  .rename_i ha;rw[bM ha]at h5;obtain⟨vs,g1,g2,g3⟩:=h5;refine⟨vs,g1,by rw[zbu9];exact g2,λ j u b p q=>?_⟩;rw[zbN1]at q;obtain⟨b0,q0,rfl⟩:=bX.1 q;exact zdq8 (g3 j u b0 p q0)
  .rename_i ha;rw[bL ha]at h5;obtain⟨b,rfl,g⟩:=h5;exact⟨unfA b,rfl,zdq8 g⟩
theorem St.le_unf:St.le E st st.unf:=by
 intro a w ⟨W,μ,hs⟩;refine⟨W,μ,{hs with mem:=λ x=>?_}⟩;show zai9 w W μ x (st.unf.m x);have hm:zai9 w W μ x (st.m x):=hs.mem x;simp only[St.m,St.unf,zbB4]at hm⊢;split
 .rename_i hx;rw[bM hx]at hm;exact hm
 .rename_i hx;rw[bL hx]at hm;cases hl:look st.mem x with
  |none=>rw[hl]at hm;exact hm
  |some r=>
   rw[hl]at hm;rcases hm with⟨e1,e2,e3⟩|⟨k,e1,⟨hro,hsz,hpos,us,rest,e,h4,h5,h6⟩|⟨hro,hsz,hpos,es,h4,h5,h6⟩|⟨hro,hsz,hpos,hz,y,b,c,seen,h4,h5,h6⟩⟩
   .exact .inl ⟨e1,by show r.es.map zan0=[];rw[e2];rfl,e3⟩
   rotate_left
   .refine .inr ⟨k,e1,.inr (.inl ⟨hro,hsz,hpos,es,h4,by show es.size=(r.es.map zan0).length;simpa using h5,λ i e c q1 q2=>?_⟩)⟩;have q3:(r.es.map zan0)[i]? =some c:=q2;simp only[cE,bX]at q3;obtain⟨c0,hc0,rfl⟩:=q3;exact(h6 i e c0 q1 hc0).unf
   .exact .inr ⟨k,e1,.inr (.inr ⟨hro,hsz,hpos,hz,y,b,c,seen,by show r.es.map zan0=_;rw[h4,cN,zdu2];rfl,h5,h6⟩)⟩
   .refine .inr ⟨k,e1,.inl ⟨hro,hsz,hpos,us,rest,e,h4,h5,?_⟩⟩;show Flat _ r.sz us (r.es.map zan0);refine⟨by simpa using h6.hl,λ i c hc=>?_,λ i c j b hc hb=>?_⟩
    .simp only[cE,bX]at hc;obtain⟨c0,hc0,rfl⟩:=hc;rw[zbu9];exact h6.hs i c0 hc0
    .simp only[cE,bX]at hc;obtain⟨c0,hc0,rfl⟩:=hc;rw[zbN1]at hb;obtain⟨b0,hb0,rfl⟩:=bX.1 hb;obtain⟨u,hu,hr⟩:=h6.ha i c0 j b0 hc0 hb0;exact⟨u,hu,zdl8 hr⟩
def St.cast(st:St)(t:Nat)(v:A):St:=⟨(t,v)::rm t st.fr,st.mem,st.nx⟩
theorem St.le_cast(t:Nat)(v:A)(h:st.slot t=v):St.le E st (st.cast t v):=by
 have e:(st.cast t v).toS=st.toS:=by
  simp only[St.toS];congr 1;funext x;simp only[St.slot,St.cast,look];split
  .rename_i hx;subst hx;exact h.symm
  .rename_i hx;rw[zav2,bL (λ e=>hx e.symm)]
 intro a w hs;rw[e];exact hs
def St.unfs(st:St)(t:Nat):St:=⟨(t,unfA (st.slot t))::rm t st.fr,st.mem,st.nx⟩
theorem St.le_unfs(t:Nat):St.le E st (st.unfs t):=by
 intro a w ⟨W,μ,hs⟩;refine⟨W,μ,{hs with fr:=λ t'=>?_}⟩;show Rep w W μ (a.tmps.getD t' undef) ((st.unfs t).slot t');have hr:Rep w W μ (a.tmps.getD t' undef) (st.slot t'):=hs.fr t'
 by_cases h:t=t'
 .subst h;have e:(st.unfs t).slot t=unfA (st.slot t):=by simp[St.slot,St.unfs,look]
  rw[e];generalize st.slot t=x at hr⊢;cases x with
  |full es=>have h2:RepC w W (a.tmps.getD t undef) (.full es):=hr;exact zl3 (zk0 (zl2 h2.of_full.1))
  |_=>exact hr
 .have e:(st.unfs t).slot t'=st.slot t':=by
   simp only[St.slot,St.unfs,look];rw[bL h,zav2,bL (λ e=>h e.symm)]
  rw[e];exact hr
inductive Gh where
 |unf
 |cast (t:Nat) (v:A)
 |fz (ids:List Nat)
 |own0 (t sz:Nat) (z:List A)
 |ownb (x j sz:Nat) (z:List A)
 |unfs (t:Nat)
def St.gh(st:St):Gh->St
 | .unf=>st.unf
 | .cast t v=>st.cast t v
 | .fz ids=>st.fz ids
 | .own0 t sz z=>st.own0 t sz z
 | .ownb x j sz z=>st.ownb x j sz z
 | .unfs t=>st.unfs t
def St.ghOk(st:St):Gh->Prop
 | .unf=>True
 | .cast t v=>st.slot t=v
 | .fz ids=>st.fzOk ids
 | .own0 t sz _=>0<sz/\st.slot t=.full []
 | .ownb x j sz _=>st.ownbOk x j sz
 | .unfs _=>True
theorem St.le_gh(g:Gh)(h:st.ghOk g):St.le E st (st.gh g):=by
 cases g with
 |unf=>exact St.le_unf
 |cast t v=>exact St.le_cast t v h
 |fz ids=>exact St.le_fz ids h
 |own0 t sz z=>exact St.le_own0 t sz z h.1 h.2
 |ownb x j sz z=>exact St.le_ownb x j sz z h
 |unfs t=>exact St.le_unfs t
theorem zdD7{c:PC}{Q:Exit->St->Prop}(g:Gh)(hok:st.ghOk g)(h:AW C E c Q (st.gh g)):AW C E c Q st:=AW.weak (St.le_gh g hok) h
def UL(C:Cx)(E:Env)(c:PC)(Q:Exit->St->Prop):Nat->St->Prop
 |0,_=>False
 |n+1,s=>AW C E c (λ e s'=>match e with|.normal=>UL C E c Q n s'|e=>Q e s') s
def UnrQ(C:Cx)(E:Env)(c:PC)(n:Nat)(Q:Exit->St->Prop):Exit->St->Prop:=λ e s'=>match e with|.normal=>UL C E c Q n s'|e=>Q e s'
theorem zaM1{c:PC}{Q:Exit->St->Prop}(n:Nat)(h:UL C E c Q n st):AW C E (.loop c) Q st:=
 zcg6 (G:=Nat×St) (λ g=>g.2) (λ g=>UL C E c Q g.1 g.2) (λ g=>g.1) (n,st) h (λ a w h=>h) (λ⟨m,s⟩ hg=>by
  cases m with
  |zero=>exact hg.elim
  |succ m=>
   refine AW.mono hg λ e s h=>?_;cases e with
   |normal=>exact⟨(m,s),h,λ a w h=>h,iU m⟩
   |_=>exact h)
theorem zaf3{c:PC}{Q:Exit->St->Prop}{n:Nat}(h:AW C E c (UnrQ C E c n Q) st):UL C E c Q (n+1) st:=h
theorem zco3{c:PC}{Q:Exit->St->Prop}(n:Nat)(s:St):UnrQ C E c n Q .normal s=UL C E c Q n s:=rfl
theorem zcX8{c:PC}{Q:Exit->St->Prop}(n:Nat)(s:St):UnrQ C E c n Q .ret s=Q .ret s:=rfl
theorem zcL0{c:PC}{Q:Exit->St->Prop}(n i:Nat)(s:St):UnrQ C E c n Q (.exit i) s=Q (.exit i) s:=rfl
end
def zbj0(C:Cx)(f:FuncId)(d:Option Nat)(g:Option (Nat×Bool))(gv:Bool)(ob:Prop)(args:List A)(rw:List (Nat×MS))(ps:List POp)(st:St)(K:St->Prop):Prop:=
 ∃r,(gv=true->ob/\PFn C f args r)/\(g=none\/(if r.scal then[]else rw)=[]/\r.isVV=true)/\arun C ps (st.app d (zO0 g gv r) (if r.scal then[]else rw)) K
theorem zcX9{C:Cx}{f:FuncId}{d:Option Nat}{g:Option (Nat×Bool)}{gv:Bool}{ob:Prop}{args:List A}{rw:List (Nat×MS)}{ps:List POp}{st:St}{K:St->Prop}{r:A}
  (hf:gv=true->PFn C f args r) (h:arun C ps (st.app d (zO0 g gv r) (if r.scal then[]else rw)) K)
  (ho:gv=true->ob:=by intro;trivial) (hg:g=none\/(if r.scal then[]else rw)=[]/\r.isVV=true:=by first|exact .inl rfl|exact .inr ⟨rfl,rfl⟩):zbj0 C f d g gv ob args rw ps st K:=⟨r,λ e=>⟨ho e,hf e⟩,hg,h⟩
def zaR6(C:Cx)(f:FuncId)(d:Option Nat)(g:Option (Nat×Bool))(gv:Bool)(ob:Prop)(vals:List A)(ps:List POp)(st:St)(K:St->Prop):Prop:=
 zaG7 C st.m st.nx f vals g gv ob (λ _=>True) λ v mw=>arun C ps (st.app d v mw) K
def zbN2:A->Bool
 | .cnd _ _=>false
 |_=>true
theorem zco4{r:A}(h:zbN2 r=true):∀g c,r≠.cnd g c:=λ g c e=>by subst e;cases h
theorem zcL1{C:Cx}{f:FuncId}{d:Option Nat}{ob:Prop}{vals:List A}{ps:List POp}{st:St}{K:St->Prop}(l:List (Nat×Nat)){az:List A}{ms ms':List (Nat×Row)}{k k':Nat}{r:A}
  (hf:MFn C f az ms k r ms' k') (hok:okM st.m st.nx l vals az ms k k') (h:arun C ps (st.app d (renR (l++newL k st.nx (k'-k)) r) (mwM st.m (l++newL k st.nx (k'-k)) vals az ms ms' k k')) K)
  (ho:ob:=by trivial) (hr:zbN2 r=true:=by rfl):zaR6 C f d none true ob vals ps st K:=
 ⟨l,az,ms,k,r,ms',k',λ _=>⟨ho,hf,hok,trivial⟩,(λ h=>nomatch h),.inl rfl,zco4 hr,h⟩
theorem zcY0(C:Cx)(st:St)(K:St->Prop):arun C [] st K=K st:=rfl
theorem zcL2(C:Cx)(d:Option Nat)(g:Option (Nat×Bool))(po:PO)(xs:List PX)(ps:List POp)(st:St)(K:St->Prop):
  arun C (⟨d,g,po,xs⟩::ps) st K=(match po with
   | .call f=>(match zE1 st g with
    |none=>False
    |some gv=>zbj0 C f d g gv (zX4 C st xs/\zw3 st.m (zo3 C st xs)) (zD2 st.m (zo3 C st xs)) (zM9 st.m (zy4 (zo3 C st xs))) ps st K)
   | .callv=>(match zE1 st g with
    |none=>False
    |some gv=>(match zo3 C st xs with
     | .clo f caps::vals=>zbj0 C f d g gv (zX4 C st xs/\zz7 C.P f=true/\zw3 st.m (vals++caps)) (zD2 st.m (vals++caps)) (zM9 st.m (zy4 (vals++caps))) ps st K
     |_=>False))
   | .callb=>(match zE1 st g with
    |none=>False
    |some gv=>(match zo3 C st xs with
     | .bnd f cs::vals=>zbj0 C f d g gv (zX4 C st xs/\zz7 C.P f=true/\zw3 st.m (.agg cs::vals)) (zD2 st.m (.agg cs::vals)) (zM9 st.m (zy4 (.agg cs::vals))) ps st K
     |_=>False))
   | .callm f=>(match zE1 st g with
    |none=>False
    |some gv=>zaR6 C f d g gv (zX4 C st xs) (zo3 C st xs) ps st K)
   | .callvm=>(match zE1 st g with
    |none=>False
    |some gv=>(match zo3 C st xs with
     | .clo f caps::vals=>zaR6 C f d g gv (zX4 C st xs/\zz7 C.P f=true) (vals++caps) ps st K
     |_=>False))
   | .next dd=>g=none/\zX4 C st xs/\nxtQ dd st.m (λ v mw=>arun C ps (st.app d v mw) K) (zo3 C st xs)
   | .entry dd=>g=none/\zX4 C st xs/\entQ dd st.m (λ v mw=>arun C ps (st.app d v mw) K) (zo3 C st xs)
   | .eqNil=>g=none/\zX4 C st xs/\nilQ (λ b=>arun C ps (st.app d (.bool b) []) K) (zo3 C st xs)
   |po=>aop C ⟨d,g,po,xs⟩ st λ st'=>arun C ps st' K):=by
 cases po with
 |eqNil=>rfl
 |next dd=>rfl
 |entry dd=>rfl
 |call f=>
  simp only[arun,aop,zbj0,PO.isNilQ,PO.isNext,bN,bU];cases zE1 st g with
  |none=>rfl
  |some gv=>simp only[zw5,fH]
 |callv=>
  simp only[arun,aop,PO.isNilQ,PO.isNext,bN,bU];cases zE1 st g with
  |none=>rfl
  |some gv=>
   simp only;generalize zo3 C st xs=vv;rcases vv with _|⟨x,vs⟩
   .rfl
   .cases x<;>first|rfl|(simp only[zbj0,zw5,fH])
 |callb=>
  simp only[arun,aop,PO.isNilQ,PO.isNext,bN,bU];cases zE1 st g with
  |none=>rfl
  |some gv=>
   simp only;generalize zo3 C st xs=vv;rcases vv with _|⟨x,vs⟩
   .rfl
   .cases x<;>first|rfl|(simp only[zbj0,zw5,fH])
 |callm f=>
  simp only[arun,aop,zaR6,PO.isNilQ,PO.isNext,bN,bU];cases zE1 st g with
  |none=>rfl
  |some gv=>rfl
 |callvm=>
  simp only[arun,aop,PO.isNilQ,PO.isNext,bN,bU];cases zE1 st g with
  |none=>rfl
  |some gv=>
   simp only;generalize zo3 C st xs=vv;rcases vv with _|⟨x,vs⟩
   .rfl
   .cases x<;>first|rfl|(simp only[zaR6])
 |_=>rfl
def zaJ8(C:Cx)(f:FuncId)(d:Option Nat)(g:Option (Nat×Bool))(gv:Bool)(ob:Prop)(args:List A)(rw:List (Nat×MS))(ps:List POp)(st:St)(K:St->Prop):Prop:=
 ∃r,(gv=true->ob/\PFn C f args r)/\(g=none\/(if r.scal then[]else rw)=[]/\r.isVV=true)/\((st.app d (zO0 g gv r) (if r.scal then[]else rw)).mem=st.mem/\(st.app d (zO0 g gv r) (if r.scal then[]else rw)).nx=st.nx)/\zaL9 C ps (st.app d (zO0 g gv r) (if r.scal then[]else rw)) K
theorem zcL3{C:Cx}{f:FuncId}{d:Option Nat}{g:Option (Nat×Bool)}{gv:Bool}{ob:Prop}{args:List A}{rw:List (Nat×MS)}{ps:List POp}{st:St}{K:St->Prop}{r:A}
  (hf:gv=true->PFn C f args r) (h:zaL9 C ps (st.app d (zO0 g gv r) []) K)
  (ho:gv=true->ob:=by intro;trivial) (hg:g=none\/(if r.scal then[]else rw)=[]/\r.isVV=true:=by first|exact .inl rfl|exact .inr ⟨rfl,rfl⟩) (hn:(if r.scal then[]else rw)=[]:=by rfl):zaJ8 C f d g gv ob args rw ps st K:=⟨r,λ e=>⟨ho e,hf e⟩,hg,by rw[hn];exact⟨rfl,rfl⟩,by rw[hn];exact h⟩
theorem zcL4(C:Cx)(st:St)(K:St->Prop):zaL9 C [] st K=K st:=rfl
theorem zcz5(C:Cx)(d:Option Nat)(g:Option (Nat×Bool))(po:PO)(xs:List PX)(ps:List POp)(st:St)(K:St->Prop):
  zaL9 C (⟨d,g,po,xs⟩::ps) st K=(match po with
   | .call f=>(match zE1 st g with
    |none=>False
    |some gv=>zaJ8 C f d g gv (zX4 C st xs/\zw3 st.m (zo3 C st xs)) (zD2 st.m (zo3 C st xs)) (zM9 st.m (zy4 (zo3 C st xs))) ps st K)
   | .callv=>(match zE1 st g with
    |none=>False
    |some gv=>(match zo3 C st xs with
     | .clo f caps::vals=>zaJ8 C f d g gv (zX4 C st xs/\zz7 C.P f=true/\zw3 st.m (vals++caps)) (zD2 st.m (vals++caps)) (zM9 st.m (zy4 (vals++caps))) ps st K
     |_=>False))
   | .callb=>(match zE1 st g with
    |none=>False
    |some gv=>(match zo3 C st xs with
     | .bnd f cs::vals=>zaJ8 C f d g gv (zX4 C st xs/\zz7 C.P f=true/\zw3 st.m (.agg cs::vals)) (zD2 st.m (.agg cs::vals)) (zM9 st.m (zy4 (.agg cs::vals))) ps st K
     |_=>False))
   |po=>aop C ⟨d,g,po,xs⟩ st λ st'=>(st'.mem=st.mem/\st'.nx=st.nx)/\zaL9 C ps st' K):=by
 cases po with
 |call f=>
  simp only[zaL9,aop,zaJ8];cases zE1 st g with
  |none=>rfl
  |some gv=>simp only[zw5,fH]
 |callv=>
  simp only[zaL9,aop];cases zE1 st g with
  |none=>rfl
  |some gv=>
   simp only;generalize zo3 C st xs=vv;rcases vv with _|⟨x,vs⟩
   .rfl
   .cases x<;>first|rfl|(simp only[zaJ8,zw5,fH])
 |callb=>
  simp only[zaL9,aop];cases zE1 st g with
  |none=>rfl
  |some gv=>
   simp only;generalize zo3 C st xs=vv;rcases vv with _|⟨x,vs⟩
   .rfl
   .cases x<;>first|rfl|(simp only[zaJ8,zw5,fH])
 |_=>rfl
def zaJ9(C:Cx)(an:List (List Nat))(f:FuncId)(d:Option Nat)(g:Option (Nat×Bool))(gv:Bool)(ob:Prop)(args:List A)(rw:List (Nat×MS))(ids:List Nat)(cok:Bool)(ps:List POp)(st:St)(log:List (List Nat×List Nat))(K:St->Prop):Prop:=
 ∃r,(gv=true->ob/\PFn C f args r)/\(g=none\/(if r.scal then[]else rw)=[]/\r.isVV=true)/\zaU7 (an.getD log.length []) 0 log ids ((if r.scal then[]else rw).map (·.1))=true/\cok=true/\
  zao6 C an ps (st.app d (zO0 g gv r) (if r.scal then[]else rw)) (log++[(ids,(if r.scal then[]else rw).map (·.1))]) K
theorem zcL5{C:Cx}{an:List (List Nat)}{f:FuncId}{d:Option Nat}{g:Option (Nat×Bool)}{gv:Bool}{ob:Prop}{args:List A}{rw:List (Nat×MS)}{ids:List Nat}{cok:Bool}{ps:List POp}{st:St}{log:List (List Nat×List Nat)}{K:St->Prop}{r:A}
  (hf:gv=true->PFn C f args r) (h:zaU7 (an.getD log.length []) 0 log ids ((if r.scal then[]else rw).map (·.1))=true/\cok=true/\zao6 C an ps (st.app d (zO0 g gv r) (if r.scal then[]else rw)) (log++[(ids,(if r.scal then[]else rw).map (·.1))]) K)
  (ho:gv=true->ob:=by intro;trivial) (hg:g=none\/(if r.scal then[]else rw)=[]/\r.isVV=true:=by first|exact .inl rfl|exact .inr ⟨rfl,rfl⟩):zaJ9 C an f d g gv ob args rw ids cok ps st log K:=⟨r,λ e=>⟨ho e,hf e⟩,hg,h.1,h.2.1,h.2.2⟩
def zaA9(C:Cx)(an:List (List Nat))(f:FuncId)(d:Option Nat)(g:Option (Nat×Bool))(gv:Bool)(ob:Prop)(vals:List A)(ids:List Nat)(cok:Bool)(ps:List POp)(st:St)(log:List (List Nat×List Nat))(K:St->Prop):Prop:=
 zaG7 C st.m st.nx f vals g gv ob (λ n=>∀x,st.nx<=x->x<st.nx+n->st.m x=.fresh) λ v mw=>zaU7 (an.getD log.length []) 0 log ids (mw.map (·.1))=true/\cok=true/\zao6 C an ps (st.app d v mw) (log++[(ids,mw.map (·.1))]) K
theorem zcz6{C:Cx}{an:List (List Nat)}{f:FuncId}{d:Option Nat}{ob:Prop}{vals:List A}{ids:List Nat}{cok:Bool}{ps:List POp}{st:St}{log:List (List Nat×List Nat)}{K:St->Prop}(l:List (Nat×Nat)){az:List A}{ms ms':List (Nat×Row)}{k k':Nat}{r:A}
  (hf:MFn C f az ms k r ms' k') (hok:okM st.m st.nx l vals az ms k k')
  (h:zaU7 (an.getD log.length []) 0 log ids ((mwM st.m (l++newL k st.nx (k'-k)) vals az ms ms' k k').map (·.1))=true/\cok=true/\zao6 C an ps (st.app d (renR (l++newL k st.nx (k'-k)) r) (mwM st.m (l++newL k st.nx (k'-k)) vals az ms ms' k k')) (log++[(ids,(mwM st.m (l++newL k st.nx (k'-k)) vals az ms ms' k k').map (·.1))]) K)
  (ho:ob:=by trivial) (hr:zbN2 r=true:=by rfl):zaA9 C an f d none true ob vals ids cok ps st log K:=
 ⟨l,az,ms,k,r,ms',k',λ _=>⟨ho,hf,hok,λ x hx _=>zcg4 st x hx⟩,(λ h=>nomatch h),.inl rfl,zco4 hr,h⟩
theorem zcL6(C:Cx)(an:List (List Nat))(st:St)(log:List (List Nat×List Nat))(K:St->Prop):zao6 C an [] st log K=K st:=rfl
theorem zcz7(C:Cx)(an:List (List Nat))(d:Option Nat)(g:Option (Nat×Bool))(po:PO)(xs:List PX)(ps:List POp)(st:St)(log:List (List Nat×List Nat))(K:St->Prop):
  zao6 C an (⟨d,g,po,xs⟩::ps) st log K=(match po with
   | .call f=>(match zB7 st.slot g with
    |none=>False
    |some gv=>zaJ9 C an f d g gv (gdsF C st.slot xs/\zw3 st.m (zB0 C st.slot xs)) (zD2 st.m (zB0 C st.slot xs)) (zM9 st.m (zy4 (zB0 C st.slot xs))) (zM3 (zo3 C st xs)) (zaJ7 (zo3 C st xs)) ps st log K)
   | .callv=>(match zB7 st.slot g with
    |none=>False
    |some gv=>(match zB0 C st.slot xs with
     | .clo f caps::vals=>zaJ9 C an f d g gv (gdsF C st.slot xs/\zz7 C.P f=true/\zw3 st.m (vals++caps)) (zD2 st.m (vals++caps)) (zM9 st.m (zy4 (vals++caps))) (zM3 (zo3 C st xs)) (zaJ7 (zo3 C st xs)) ps st log K
     |_=>False))
   | .callb=>(match zB7 st.slot g with
    |none=>False
    |some gv=>(match zB0 C st.slot xs with
     | .bnd f cs::vals=>zaJ9 C an f d g gv (gdsF C st.slot xs/\zz7 C.P f=true/\zw3 st.m (.agg cs::vals)) (zD2 st.m (.agg cs::vals)) (zM9 st.m (zy4 (.agg cs::vals))) (zM3 (zo3 C st xs)) (zaJ7 (zo3 C st xs)) ps st log K
     |_=>False))
   | .callm f=>(match zB7 st.slot g with
    |none=>False
    |some gv=>zaA9 C an f d g gv (gdsF C st.slot xs) (zB0 C st.slot xs) (zM3 (zo3 C st xs)) (zaJ7 (zo3 C st xs)) ps st log K)
   | .callvm=>(match zB7 st.slot g with
    |none=>False
    |some gv=>(match zB0 C st.slot xs with
     | .clo f caps::vals=>zaA9 C an f d g gv (gdsF C st.slot xs/\zz7 C.P f=true) (vals++caps) (zM3 (zo3 C st xs)) (zaJ7 (zo3 C st xs)) ps st log K
     |_=>False))
   |po=>aopS C ⟨d,g,po,xs⟩ st.toS st.nx λ v mw=>zaU7 (an.getD log.length []) 0 log (idsP po (zo3 C st xs)) (mw.map (·.1))=true/\zaJ7 (zo3 C st xs)=true/\
     zao6 C an ps (st.app d v mw) (log++[(idsP po (zo3 C st xs),mw.map (·.1))]) K):=by
 cases po with
 |call f=>
  simp only[zao6,aopS,zaJ9,St.toS,idsP];cases zB7 st.slot g with
  |none=>rfl
  |some gv=>simp only[zw5,fH]
 |callv=>
  simp only[zao6,aopS,St.toS,idsP];cases zB7 st.slot g with
  |none=>rfl
  |some gv=>
   simp only;generalize zB0 C st.slot xs=vv;rcases vv with _|⟨x,vs⟩
   .rfl
   .cases x<;>first|rfl|(simp only[zaJ9,zw5,fH])
 |callb=>
  simp only[zao6,aopS,St.toS,idsP];cases zB7 st.slot g with
  |none=>rfl
  |some gv=>
   simp only;generalize zB0 C st.slot xs=vv;rcases vv with _|⟨x,vs⟩
   .rfl
   .cases x<;>first|rfl|(simp only[zaJ9,zw5,fH])
 |callm f=>
  simp only[zao6,aopS,zaA9,St.toS,idsP];cases zB7 st.slot g with
  |none=>rfl
  |some gv=>rfl
 |callvm=>
  simp only[zao6,aopS,St.toS,idsP];cases zB7 st.slot g with
  |none=>rfl
  |some gv=>
   simp only;generalize zB0 C st.slot xs=vv;rcases vv with _|⟨x,vs⟩
   .rfl
   .cases x<;>first|rfl|(simp only[zaA9])
 |_=>rfl
def zZ3{V:Type}(k:Int):List (Int×V)->Option V
 |[]=>none
 |p::l=>bif k==p.1 then some p.2 else zZ3 k l
def zbB5{V:Type}(k:Int)(v:V):List (Int×V)->List (Int×V)
 |[]=>[(k,v)]
 |p::l=>bif k==p.1 then(k,v)::l else p::zbB5 k v l
def mI{V:Type}(q:IntKind)(f:V->List A)(p:Int×V):List A:=.int q p.1::f p.2
@[go_sem] theorem zdF6{V:Type}(q:IntKind)(f:V->List A)(k:Int)(l:List (Int×V)):zaj0 (.int q k) (l.map (mI q f))=(zZ3 k l).map f:=by
 induction l with
 |nil=>rfl
 |cons p l ih=>
  simp only[cN,mI,zaj0,List.headD_cons,eqK,eq1,zZ3,List.tail_cons];cases k==p.1
  .exact ih
  .rfl
def zbB6{K V:Type}(e:K->List A)(k:K):List (K×V)->Option V
 |[]=>none
 |p::l=>bif eqA (e k) (e p.1)then some p.2 else zbB6 e k l
def zbj1{K V:Type}(e:K->List A)(k:K)(v:V):List (K×V)->List (K×V)
 |[]=>[(k,v)]
 |p::l=>bif eqA (e k) (e p.1)then(k,v)::l else p::zbj1 e k v l
def mG{K V:Type}(e:K->List A)(f:V->List A)(p:K×V):List A:=.agg (e p.1)::f p.2
@[go_sem] theorem zdF7{K V:Type}(e:K->List A)(f:V->List A)(k:K)(l:List (K×V)):zaj0 (.agg (e k)) (l.map (mG e f))=(zbB6 e k l).map f:=by
 induction l with
 |nil=>rfl
 |cons p l ih=>
  simp only[cN,mG,zaj0,List.headD_cons,eqK,zbB6,List.tail_cons];cases eqA (e k) (e p.1)
  .exact ih
  .rfl
@[go_sem] theorem zdu3{K V:Type}(e:K->List A)(f:V->List A)(k:K)(v:V)(l:List (K×V)):mins (.agg (e k)) (f v) (l.map (mG e f))=(zbj1 e k v l).map (mG e f):=by
 induction l with
 |nil=>rfl
 |cons p l ih=>
  simp only[cN,mG,mins,List.headD_cons,eqK,zbj1];cases eqA (e k) (e p.1)
  .simp only[cond_false,ih];rfl
  .rfl
@[go_sem] theorem zdG9{K V:Type}(kz:A)(ag:Bool)(e:K->List A)(f:V->List A)(p:K×V):mEnt [kz,.bool ag] (mG e f p)=[.agg (e p.1),zX9 ag (f p.2)]:=rfl
@[go_sem] theorem zdA1{V:Type}(q:IntKind)(f:V->List A)(p:Int×V):zj2 (mI q f p)=zj2 (f p.2):=by simp[mI,zj2,A.pure1]
@[go_sem] theorem zdH0{V:Type}(kz:A)(ag:Bool)(q:IntKind)(f:V->List A)(p:Int×V):mEnt [kz,.bool ag] (mI q f p)=[.int q p.1,zX9 ag (f p.2)]:=rfl
@[go_sem] theorem zdH1{V:Type}(q:IntKind)(f:V->List A)(l:List (Int×V))(i:Nat)(k0:Int)(v0:V):(l.map (mI q f)).getD i (.int q k0::f v0)=mI q f (l.getD i (k0,v0)):=by simp only[bO,cE];cases l[i]? <;>rfl
@[go_sem] theorem zdH2(s:List Nat)(P:A->Prop):(∀x∈s.map iE,∀a∈x,P a)=(∀i∈s,P (.int .i64 (i:Nat))):=propext ⟨λ h i hi=>h _ (bW.2 ⟨i,hi,rfl⟩) _ (.head _),λ h x hx a ha=>by
 obtain⟨i,hi,rfl⟩:=bW.1 hx;obtain rfl:a=.int .i64 (i:Nat):=by simpa [iE]using ha
 exact h i hi⟩
@[go_sem] theorem zdu4(y i:Nat)(k:IntKind)(c:Int)(s:List Nat):zcl6 ([.mp y,.int k c]::(s++[i]).map iE)=some (y,i):=by simp[zcl6,iE]
@[go_sem] theorem zcY1{V:Type}(ag:Bool)(f:V->List A)(z:V)(o:Option V):mval ag (f z) (o.map f)=zX9 ag (f (o.getD z)):=by cases o<;>rfl
@[go_sem] theorem zdA2{V:Type}(ag:Bool)(z:List A):mval ag z none=zX9 ag z:=rfl
@[go_sem] theorem zdu5{V W:Type}(f:V->W)(o:Option V):(o.map f).isSome=o.isSome:=by cases o<;>rfl
attribute [go_sem ↓] aop aopS
attribute [go_sem] zcY0 zcL2 zcL4 zcz5 zcL6 zcz7 zB7 zB0 gdsF St.toS idsP zM3 idsA zaU6 zaD5 zaJ7 zaY0 A.flatCap okM zbp4 argM A.hands zdq7 zcF4 fzM zca6 zbA2 newL zac5 mwM entM zbK4 MS.like renR ren0 zcm5 resL zbA5 zbL5 zE1 St.slot St.m look zo3 zX4 xv A.nc A.gd ev zbZ8 zar6 zaA0 zaf1 A.cells A.isV A.isK A.isStr A.isVV allV allK zu8 laid zbI8 zX9
 zC4 key1 keyL A.isAg nxtQ entQ PO.lax nilQ zO0 St.app putF putM nxt rm zca5 St.drop zw5 zD2 zw3 frz frz1 zao2 zai2 zao3 zL7 zy4 zM9 A.scal A.scal1 A.scal2 zu9 zbK3 zj2 A.pure1 pureEs
 zm6 LK.fits eqA eq1 glob zE8 zcb9 allG zaU5 resA resG zcb8 Le leF leM rho ren ren1 zaa9 idOk zbi8 idEs zaD3
def SeqQ(C:Cx)(E:Env)(y:PC)(Q:Exit->St->Prop):Exit->St->Prop:=λ e s=>match e with|.normal=>AW C E y Q s|e=>Q e s
def BlkQ(id:Nat)(Q:Exit->St->Prop):Exit->St->Prop:=λ e s=>match e with|.exit i=>(if i=id then Q .normal s else Q (.exit i) s)|e=>Q e s
section
variable {C:Cx} {E:Env} {Q:Exit→St→Prop} {st:St}
theorem za0{x y:PC}(h:AW C E x (SeqQ C E y Q) st):AW C E (.seq x y) Q st:=zdt4 h
theorem zw6{id:Nat}{c:PC}(h:AW C E c (BlkQ id Q) st):AW C E (.block id c) Q st:=zbL1 h
theorem zco5{y:PC}(s:St):SeqQ C E y Q .normal s=AW C E y Q s:=rfl
theorem zcY2{y:PC}(s:St):SeqQ C E y Q .ret s=Q .ret s:=rfl
theorem zcL7{y:PC}(i:Nat)(s:St):SeqQ C E y Q (.exit i) s=Q (.exit i) s:=rfl
theorem zco6(i:Nat)(s:St):BlkQ i Q .normal s=Q .normal s:=rfl
theorem zcY3(i:Nat)(s:St):BlkQ i Q .ret s=Q .ret s:=rfl
theorem zcL8(i j:Nat)(s:St):BlkQ i Q (.exit j) s=if j=i then Q .normal s else Q (.exit j) s:=rfl
theorem zcY4(rs:List RX)(r:A)(fr:List (Nat×A))(m:List (Nat×Row))(n:Nat):Post rs r .ret ⟨fr,m,n⟩=zcb9 ⟨fr,m,n⟩ rs r:=rfl
theorem zco7(rs:List RX)(r:A)(fr:List (Nat×A))(m:List (Nat×Row))(n:Nat):Post rs r .normal ⟨fr,m,n⟩=zcb9 ⟨fr,m,n⟩ rs r:=rfl
theorem zcL9(k:Nat)(rs:List RX)(rl:List A)(ms':List (Nat×Row))(k':Nat)(fr:List (Nat×A))(m:List (Nat×Row))(n:Nat):zcn2 k rs rl ms' k' .ret ⟨fr,m,n⟩=zaR1 k ⟨fr,m,n⟩ rs rl ms' k':=rfl
theorem zch3(k:Nat)(rs:List RX)(rl:List A)(ms':List (Nat×Row))(k':Nat)(fr:List (Nat×A))(m:List (Nat×Row))(n:Nat):zcn2 k rs rl ms' k' .normal ⟨fr,m,n⟩=zaR1 k ⟨fr,m,n⟩ rs rl ms' k':=rfl
attribute [go_sem] zcL9 zch3 zco3 zcX8 zcL0 St.gh St.ghOk St.fz St.fzOk St.own0 St.ownb St.ownbOk zbp8 zaR5 zcX7 St.unfs St.cast St.unf zbN0 zan0 unfA memN fzA fzCs fzV fzEs fzFr zco0 zcc3 zbu7 zco1 zbH2 zcg9 zch0 zbH3
attribute [go_sem] zco5 zcY2 zcL7 zco6 zcY3 zcL8 zcY4 zco7
end
theorem zbN3(n:Nat):zJ9 n []:=by intro c hc;cases hc
theorem zco8(n:Nat)(a:List A)(b:List (List A)):zJ9 n (a::b)↔a.length=n/\zJ9 n b:=by simp only[zJ9,bY];exact⟨λ h=>⟨h a (.inl rfl),λ c hc=>h c (.inr hc)⟩,λ⟨h1,h2⟩ c hc=>hc.elim (λ e=>e▸h1) (h2 c)⟩
theorem zbq0:zP0 []:=by intro c hc;cases hc
attribute [go_sem] dC Nat.add_zero jQ cQ Nat.lt_add_one eY Int.toNat_zero Int.toNat_natCast Int.natCast_zero imp_self cP fX gV jS and_false or_true true_or iD iF forall_const true_implies iG fI bS bU eq_self ne_eq jM fS cA eP gR gZ cW dU Bool.not_not bN dY cond_true cond_false Bool.cond_true_left Bool.cond_true_right Bool.cond_false_left Bool.cond_false_right bV dL Option.getD_some Option.getD_none Option.map_some Option.map_none Option.bind_some Option.isSome_some Option.isNone_none List.length_cons List.length_nil cH bP List.all_nil List.all_cons List.nil_append fB iK cN List.set_cons_zero List.set_nil List.getD_cons_zero gQ dP List.headD_cons List.contains_nil List.take_nil List.drop_nil iS
attribute [simp] zbN3 zbq0
attribute [go_sem] zbN3 zco8 zbq0
@[go_sem] theorem zdA3(l:List UInt8):(l.map λ b=>[A.int .u8 (b.toNat:Int)])=(l.map λ b=>(b.toNat:Int)).map (eI .u8):=by rw[jF];rfl
@[go_sem] theorem zdH3(q:Nat×MS)(l r:List (Nat×MS)):q::l++r=q::(l++r):=rfl
@[go_sem] theorem zdH4:([]:List A).flatMap zL7=[]:=rfl
@[go_sem] theorem zdH5(x lo n:Nat)(cs:List A):(A.own x lo n::cs).flatMap zL7=x::cs.flatMap zL7:=rfl
@[go_sem] theorem zdH6(s:ByteArray)(cs:List A):(A.str s::cs).flatMap zL7=cs.flatMap zL7:=rfl
@[go_sem] theorem zdH7(k:IntKind)(n:Int)(cs:List A):(A.int k n::cs).flatMap zL7=cs.flatMap zL7:=rfl
@[go_sem] theorem zdF8(b:Bool)(cs:List A):(A.bool b::cs).flatMap zL7=cs.flatMap zL7:=rfl
@[go_sem] theorem zeb2(l:List (List A))(cs:List A):(A.sl l::cs).flatMap zL7=cs.flatMap zL7:=rfl
attribute [go_sem] List.isEmpty_nil List.isEmpty_cons kD List.forall_mem_cons eE
@[go_sem↓] theorem zdD8(r:A):(if r.scal=true then([]:List (Nat×MS))else[])=[]:=kD _
@[go_sem] theorem zdF9:IntKind.i64.wrap (0+1)=1:=by decide
@[go_sem] theorem zdG0:IntKind.i64.wrap (1+1)=2:=by decide
@[go_sem] theorem zdG1:IntKind.i64.wrap (2+1)=3:=by decide
@[go_sem] theorem zdG2(c x:A)(cs xs:List A):upd (c::cs) 0 (x::xs)=x::upd cs 0 xs:=by simp[upd,dR]
@[go_sem] theorem zdG3(cs:List A)(n:Nat):upd cs n []=cs:=by simp[upd]
@[go_sem] theorem zdH8(c:A)(cs new:List A)(n:Nat):upd (c::cs) (n+1) new=c::upd cs n new:=by simp[upd,Nat.add_right_comm]
@[go_sem] theorem zdG4(c:A)(cs:List A)(k:Nat):sub (c::cs) 0 (k+1)=c::sub cs 0 k:=by simp[sub]
@[go_sem] theorem zdG5(cs:List A)(n:Nat):sub cs n 0=[]:=by simp[sub]
@[go_sem] theorem zdH9(c:A)(cs:List A)(n k:Nat):sub (c::cs) (n+1) k=sub cs n k:=by simp[sub]
def gd{α:Type}(p:Prop)[Decidable p](k:Option α):Option α:=if p then k else none
theorem ze3{α:Type}{p:Prop}[Decidable p]{k:Option α}{r:α}(h:gd p k=some r):p/\k=some r:=by
 unfold gd at h;split at h
 .exact⟨by assumption,h⟩
 .cases h
theorem za6{α:Type}{p:Prop}[Decidable p]{k:Option α}(h:p):gd p k=k:=bM h
theorem zb8{α β:Type}{m:Option α}{f:α->Option β}{r:β}(h:m.bind f=some r):∃v,m=some v/\f v=some r:=by
 cases m with
 |none=>cases h
 |some v=>exact⟨v,rfl,h⟩
theorem zcc6{α:Type}{c:Bool}{x y r:α}(hb:c=true)(h:(if c=true then x else y)=r):x=r:=by rw[bM hb]at h;exact h
def iter{G X:Type}(body:G->Option (G⊕X)):Nat->G->Option X
 |0,_=>none
 |n+1,g=>match body g with
  |none=>none
  |some (.inl g')=>iter body n g'
  |some (.inr x)=>some x
theorem zbv0{G X:Type}{body:G->Option (G⊕X)}{x:X}:∀{n m:Nat} {g:G},iter body n g=some x->n<=m->iter body m g=some x
 |0,_,_,h,_=>by cases h
 |n+1,0,_,_,hm=>by omega
 |n+1,m+1,g,h,hm=>by
  simp only[iter]at h⊢;cases hb:body g with
  |none=>rw[hb]at h;cases h
  |some y=>
   rw[hb]at h;cases y with
   |inl g'=>exact zbv0 (n:=n) (m:=m) h (by omega)
   |inr x'=>exact h
open Classical in
noncomputable def zc0{G X:Type}(body:G->Option (G⊕X))(g:G):Option X:=
 match iter body 1000 g with
 |some x=>some x
 |none=>if h:∃n x,iter body n g=some x then some (Classical.choose (dZ h))else none
theorem zan1{G X:Type}{body:G->Option (G⊕X)}{g:G}{x:X}:zc0 body g=some x↔∃n,iter body n g=some x:=by
 have both:∀{n m:Nat} {x y:X},iter body n g=some x->iter body m g=some y->some x=some y:=λ{n m x y} h1 h2=>by rw[<-zbv0 h1 (Nat.le_add_right n m),<-zbv0 h2 (Nat.le_add_left m n)]
 unfold zc0;cases h0:iter body 1000 g with
 |some y=>exact⟨λ h=>⟨1000,by rw[h0];exact h⟩,λ⟨n,hn⟩=>both h0 hn⟩
 |none=>
  constructor
  .intro h;simp only at h;split at h
   .rename_i hh;cases h;exact⟨_,dZ (dZ hh)⟩
   .cases h
  .rintro⟨n,hn⟩;have hh:∃n x,iter body n g=some x:=⟨n,x,hn⟩;simp only;rw[jO hh];exact both (dZ (dZ hh)) hn
theorem zg9{G X:Type}(body:G->Option (G⊕X))(g:G):zc0 body g=match body g with
  |none=>none
  |some (.inl g')=>zc0 body g'
  |some (.inr x)=>some x:=by
 cases hb:body g with
 |none=>
  simp only;cases h:zc0 body g with
  |none=>rfl
  |some x=>
   obtain⟨n,hn⟩:=zan1.1 h;cases n with
   |zero=>cases hn
   |succ n=>simp only[iter,hb]at hn;cases hn
 |some y=>
  cases y with
  |inr x=>exact zan1.2 ⟨1,by simp[iter,hb]⟩
  |inl g'=>
   simp only;cases h:zc0 body g' with
   |some x=>obtain⟨n,hn⟩:=zan1.1 h;exact zan1.2 ⟨n+1,by simp only[iter,hb];exact hn⟩
   |none=>
    cases h2:zc0 body g with
    |none=>rfl
    |some x=>
     obtain⟨n,hn⟩:=zan1.1 h2;cases n with
     |zero=>cases hn
     |succ n=>simp only[iter,hb]at hn;rw[zan1.2 ⟨n,hn⟩]at h;cases h
def zaM2(E:Env){V:Type}(J:V->St)(P:V->Prop)(s:St):Prop:=∃v,P v/\St.le E s (J v)
theorem zco9{E:Env}{V:Type}{J:V->St}{P:V->Prop}{s:St}{k:Nat}(hK:E.k0=k)(v:V)(h:P v)(l:List (Nat×Nat))(hl:Le l s (J v)/\zao4 k l (J v).nx=true):zaM2 E J P s:=⟨v,h,St.le_of l hl.1 (by rw[hK];exact hl.2)⟩
def zbj2(E:Env){V:Type}(J:V->St)(P:V->Prop)(Q:Exit->St->Prop):Exit->St->Prop:=λ e s=>match e with|.normal=>zaM2 E J P s|e=>Q e s
def BlkJ(E:Env){V:Type}(id:Nat)(J:V->St)(P:V->Prop)(Q:Exit->St->Prop):Exit->St->Prop:=λ e s=>match e with
 | .normal=>zaM2 E J P s
 | .exit i=>if i=id then zaM2 E J P s else Q (.exit i) s
 |e=>Q e s
def zcp0(E:Env){G X:Type}(I:G->St)(y:G⊕X)(s:St):Prop:=∃g',y=.inl g'/\St.le E s (I g')
theorem zcp1{E:Env}{G X:Type}{I:G->St}{g':G}{s:St}{k:Nat}(hK:E.k0=k)(l:List (Nat×Nat))(hl:Le l s (I g')/\zao4 k l (I g').nx=true):zcp0 (X:=X) E I (.inl g') s:=⟨g',rfl,St.le_of l hl.1 (by rw[hK];exact hl.2)⟩
def zbB7(E:Env){G X:Type}(I:G->St)(y:G⊕X)(Q:Exit->St->Prop):Exit->St->Prop:=λ e s=>match e with|.normal=>zcp0 E I y s|e=>Q e s
section
variable {C:Cx} {E:Env} {Q:Exit→St→Prop} {st:St}
theorem AW.join{V:Type}{J:V->St}{c:PC}{Q':Exit->St->Prop}(h:AW C E c Q' st)
  (hq:∀e s,Q' e s->Q e s\/∃v,St.le E s (J v)/\Q e (J v)):AW C E c Q st:=
 λ code hc a w hs=>wp_mono (h code hc a w hs) λ e a' w' ⟨st',h1,h2⟩=>by
  rcases hq e st' h1 with h3|⟨v,h3,h4⟩
  .exact⟨st',h3,h2⟩
  .exact⟨J v,h4,h3 a' w' h2⟩
theorem zdl9{x:PX}{p q:PC}{V:Type}(J:V->St)(P:V->Prop){b:Bool}(hx:xv C.G st.slot x=.bool b)(hG:E.G=C.G)(hk:∀v,P v->Q .normal (J v))
  (ht:b=true->AW C E p (zbj2 E J P Q) st) (hf:b=false->AW C E q (zbj2 E J P Q) st):AW C E (.cond x p q) Q st:=by
 have key:∀c,AW C E c (zbj2 E J P Q) st->AW C E c Q st:=λ c h=>h.join (J:=J) λ e s h=>by
  cases e with
  |normal=>obtain⟨v,h1,h2⟩:=h;exact .inr ⟨v,h2,hk v h1⟩
  |_=>exact .inl h
 exact zbH0 hx hG (λ h=>key _ (ht h)) (λ h=>key _ (hf h))
theorem zy5{id:Nat}{c:PC}{V:Type}(J:V->St)(P:V->Prop)(hk:∀v,P v->Q .normal (J v))(h:AW C E c (BlkJ E id J P Q) st):AW C E (.block id c) Q st:=by
 refine zbL1 (h.join (J:=J) λ e s h=>?_);cases e with
 |normal=>obtain⟨v,h1,h2⟩:=h;exact .inr ⟨v,h2,hk v h1⟩
 |exit i=>
  simp only[BlkJ]at h⊢;split at h
  .obtain⟨v,h1,h2⟩:=h;rename_i hi;exact .inr ⟨v,h2,by rw[bM hi];exact hk v h1⟩
  .rename_i hi;exact .inl (by rw[bL hi];exact h)
 |_=>exact .inl h
def zcp2(E:Env){V:Type}(id:Nat)(J:V->St)(P:V->Prop)(Q:Exit->St->Prop):Exit->St->Prop:=λ e s=>match e with
 | .normal=>zaM2 E J P s\/Q .normal s
 | .exit i=>if i=id then(zaM2 E J P s\/Q .normal s)else Q (.exit i) s
 |e=>Q e s
theorem zcM0{id:Nat}{c:PC}{V:Type}(J:V->St)(P:V->Prop)(hk:∀v,P v->Q .normal (J v))(h:AW C E c (zcp2 E id J P Q) st):AW C E (.block id c) Q st:=by
 refine zbL1 (h.join (J:=J) λ e s h=>?_);cases e with
 |normal=>
  rcases h with⟨v,h1,h2⟩|h
  .exact .inr ⟨v,h2,hk v h1⟩
  .exact .inl h
 |exit i=>
  simp only[zcp2]at h⊢;split at h
  .rename_i hi;rcases h with⟨v,h1,h2⟩|h
   .exact .inr ⟨v,h2,by rw[bM hi];exact hk v h1⟩
   .exact .inl (by rw[bM hi];exact h)
  .rename_i hi;exact .inl (by rw[bL hi];exact h)
 |_=>exact .inl h
theorem zch4{c:PC}{G X:Type}{body:G->Option (G⊕X)}{g0:G}{x:X}(I:G->St){k:Nat}(hK:E.k0=k)(l:List (Nat×Nat))(hx:zc0 body g0=some x)(hle:Le l st (I g0)/\zao4 k l (I g0).nx=true)
  (h:∀g y,body g=some y->(∀x',y=.inr x'->x'=x)->AW C E c (zbB7 E I y Q) (I g)):AW C E (.loop c) Q st:=by
 obtain⟨n,hn⟩:=zan1.1 hx;refine zcg6 (G:={p:Nat×G//iter body p.1 p.2=some x}) (λ p=>I p.1.2) (λ _=>True) (λ p=>p.1.1) ⟨(n,g0),hn⟩ trivial (St.le_of l hle.1 (by rw[hK];exact hle.2)) λ⟨⟨m,g⟩,hm⟩ _=>?_;cases m with
 |zero=>cases hm
 |succ m=>
  simp only[iter]at hm;cases hb:body g with
  |none=>rw[hb]at hm;cases hm
  |some y=>
   rw[hb]at hm;refine(h g y hb λ x' e=>by subst e;exact cR hm).mono λ e s hs=>?_;cases e with
   |normal=>obtain⟨g',rfl,h2⟩:=hs;exact⟨⟨(m,g'),hm⟩,trivial,h2,iU m⟩
   |_=>exact hs
def zcY5(E:Env){G X β:Type}(I:G->St)(body:G->Option (G⊕X))(kk:X->Option β)(R:Option β)(s:St):Prop:=∃g',(zc0 body g').bind kk=R/\St.le E s (I g')
def zcG7(E:Env){G X β:Type}(I:G->St)(body:G->Option (G⊕X))(kk:X->Option β)(R:Option β)(Q:Exit->St->Prop):Exit->St->Prop:=λ e s=>match e with|.normal=>zcY5 E I body kk R s|e=>Q e s
theorem zch5{G X β:Type}(I:G->St)(body:G->Option (G⊕X))(kk:X->Option β)(R:Option β)(s:St):zcG7 E I body kk R Q .normal s=zcY5 E I body kk R s:=rfl
theorem zcM1{G X β:Type}(I:G->St)(body:G->Option (G⊕X))(kk:X->Option β)(R:Option β)(s:St):zcG7 E I body kk R Q .ret s=Q .ret s:=rfl
theorem zcz8{G X β:Type}(I:G->St)(body:G->Option (G⊕X))(kk:X->Option β)(R:Option β)(i:Nat)(s:St):zcG7 E I body kk R Q (.exit i) s=Q (.exit i) s:=rfl
theorem zdu6{c:PC}{G X β:Type}{body:G->Option (G⊕X)}{kk:X->Option β}{r:β}(I:G->St){k:Nat}(hK:E.k0=k)(h1:AW C E c (zcG7 E I body kk (some r) Q) st)
  (h:∀x,kk x=some r->∀g y,body g=some y->(∀x',y=.inr x'->x'=x)->AW C E c (zbB7 E I y Q) (I g)):AW C E (.loop c) Q st:=by
 refine zdl0 (G:={p:Nat×G//∃x,iter body p.1 p.2=some x/\kk x=some r}) (λ p=>I p.1.2) (λ _=>True) (λ p=>p.1.1) (λ⟨⟨m,g⟩,x,hm,hx⟩ _=>?_) (h1.mono λ e s hs=>?_)
 .cases m with
  |zero=>cases hm
  |succ m=>
   simp only[iter]at hm;cases hb:body g with
   |none=>rw[hb]at hm;cases hm
   |some y=>
    rw[hb]at hm;refine(h x hx g y hb λ x' e=>by subst e;exact cR hm).mono λ e s hs=>?_;cases e with
    |normal=>obtain⟨g',rfl,h2⟩:=hs;exact⟨⟨(m,g'),x,hm,hx⟩,trivial,h2,iU m⟩
    |_=>exact hs
 .cases e with
  |normal=>obtain⟨g',h2,h3⟩:=hs;obtain⟨x,h4,h5⟩:=zb8 h2;obtain⟨n,hn⟩:=zan1.1 h4;exact⟨⟨(n,g'),x,hn,h5⟩,trivial,h3⟩
  |_=>exact hs
theorem zch6{V:Type}(J:V->St)(P:V->Prop)(s:St):zbj2 E J P Q .normal s=zaM2 E J P s:=rfl
theorem zcM2{V:Type}(J:V->St)(P:V->Prop)(s:St):zbj2 E J P Q .ret s=Q .ret s:=rfl
theorem zcz9{V:Type}(J:V->St)(P:V->Prop)(i:Nat)(s:St):zbj2 E J P Q (.exit i) s=Q (.exit i) s:=rfl
theorem zcp3{V:Type}(id:Nat)(J:V->St)(P:V->Prop)(s:St):BlkJ E id J P Q .normal s=zaM2 E J P s:=rfl
theorem zcY6{V:Type}(id:Nat)(J:V->St)(P:V->Prop)(s:St):BlkJ E id J P Q .ret s=Q .ret s:=rfl
theorem zcM3{V:Type}(id:Nat)(J:V->St)(P:V->Prop)(i:Nat)(s:St):BlkJ E id J P Q (.exit i) s=if i=id then zaM2 E J P s else Q (.exit i) s:=rfl
theorem zch7{G X:Type}(I:G->St)(y:G⊕X)(s:St):zbB7 E I y Q .normal s=zcp0 E I y s:=rfl
theorem zcM4{G X:Type}(I:G->St)(y:G⊕X)(s:St):zbB7 E I y Q .ret s=Q .ret s:=rfl
theorem zcA0{G X:Type}(I:G->St)(y:G⊕X)(i:Nat)(s:St):zbB7 E I y Q (.exit i) s=Q (.exit i) s:=rfl
theorem zch8{V:Type}(id:Nat)(J:V->St)(P:V->Prop)(s:St):zcp2 E id J P Q .normal s=(zaM2 E J P s\/Q .normal s):=rfl
theorem zcM5{V:Type}(id:Nat)(J:V->St)(P:V->Prop)(s:St):zcp2 E id J P Q .ret s=Q .ret s:=rfl
theorem zcA1{V:Type}(id:Nat)(J:V->St)(P:V->Prop)(i:Nat)(s:St):zcp2 E id J P Q (.exit i) s=if i=id then(zaM2 E J P s\/Q .normal s)else Q (.exit i) s:=rfl
attribute [go_sem] zch8 zcM5 zcA1 zch5 zcM1 zcz8 zch6 zcM2 zcz9 zcp3 zcY6 zcM3 zch7 zcM4 zcA0
end
def zbj3{V G X:Type}(body:V->G->Option (G⊕X))(fin:G->X):List V->G->Option X
 |[],g=>some (fin g)
 |e::p,g=>match body e g with
  |none=>none
  |some (.inl g')=>zbj3 body fin p g'
  |some (.inr x)=>some x
noncomputable def rngO{V G X β:Type}(m:List V)(d:V)(body:V->G->Option (G⊕X))(fin:G->X)(g0:G)(kk:X->Option β):Option β:=
 open Classical in if h:∃r,∀q:List Nat,q.Perm (List.range m.length)->(zbj3 body fin (q.map (m.getD · d)) g0).bind kk=some r then some (Classical.choose h)else none
theorem zcM6{V G X β:Type}{m:List V}{d:V}{body:V->G->Option (G⊕X)}{fin:G->X}{g0:G}{kk:X->Option β}{r:β}(h:rngO m d body fin g0 kk=some r):
  ∀q:List Nat,q.Perm (List.range m.length)->(zbj3 body fin (q.map (m.getD · d)) g0).bind kk=some r:=by
 unfold rngO at h;split at h
 .rename_i hh;cases h;exact dZ hh
 .cases h
theorem zdm0{V G X β:Type}{m:List V}{d:V}{body:V->G->Option (G⊕X)}{fin:G->X}{g0:G}{kk:X->Option β}{r:β}
  (h:∀q:List Nat,q.Perm (List.range m.length)->(zbj3 body fin (q.map (m.getD · d)) g0).bind kk=some r):rngO m d body fin g0 kk=some r:=by
 unfold rngO;have hh:∃r,∀q:List Nat,q.Perm (List.range m.length)->(zbj3 body fin (q.map (m.getD · d)) g0).bind kk=some r:=⟨r,h⟩;rw[jO hh];have h1:=dZ hh _ (iL _);rw[h _ (iL _)]at h1;exact h1.symm
structure RngP {V G X β:Type} (m:List V) (d:V) (body:V->G->Option (G⊕X)) (fin:G->X) (kk:X->Option β) (r:β) (s:List Nat) (g:G):Prop where
 nd:s.Nodup
 lt:∀i∈s,i<m.length
 ok:∀q,(s++q).Perm (List.range m.length)->(zbj3 body fin (q.map (m.getD · d)) g).bind kk=some r
theorem zdm1{n:Nat}{s:List Nat}(h1:s.Nodup)(h2:∀i∈s,i<n):∃q,(s++q).Perm (List.range n):=by
 refine⟨(List.range n).filter (λ i=>!s.contains i),(jH ?_ iT).2 λ i=>?_⟩
 .rw[gL];exact⟨h1,eQ.nodup iT,λ a ha b hb e=>by subst e;simp at hb;exact hb.2 ha⟩
 .simp only[cF,cV,dN,cK,iW,cS];constructor
  .rintro(h|h)
   .exact h2 i h
   .exact h.1
  .intro h
   by_cases c:i∈s
   .exact .inl c
   .exact .inr ⟨h,c⟩
theorem zcY7{V G X β:Type}{m:List V}{d:V}{body:V->G->Option (G⊕X)}{fin:G->X}{kk:X->Option β}{r:β}{s:List Nat}{g:G}{i:Nat}(h:RngP m d body fin kk r s g)(hi:i<m.length)(hs:iE i∉s.map iE):
  ∃y,body (m.getD i d) g=some y/\(∀g',y=.inl g'->RngP m d body fin kk r (s++[i]) g')/\∀x,y=.inr x->kk x=some r:=by
 have hs':i∉s:=λ hh=>hs (bW.2 ⟨i,hh,rfl⟩);have nd:(s++[i]).Nodup:=by rw[gL];exact⟨h.nd,by simp,λ a ha b hb e=>by simp at hb;subst hb;subst e;exact hs' ha⟩
 have lt:∀j∈s++[i],j<m.length:=λ j hj=>by
  rcases cF.1 hj with hj|hj
  .exact h.lt j hj
  .simp at hj;subst hj;exact hi
 obtain⟨q,hq⟩:=zdm1 nd lt;have hq0:=h.ok (i::q) (by rw[dE]at hq;exact hq);simp only[cN,zbj3]at hq0;cases hb:body (m.getD i d) g with
 |none=>rw[hb]at hq0;cases hq0
 |some y=>
  refine⟨y,rfl,λ g' e=>⟨nd,lt,λ q hq=>?_⟩,λ x e=>?_⟩
  .have:=h.ok (i::q) (by rw[dE]at hq;exact hq);simp only[cN,zbj3,hb,e]at this;exact this
  .rw[hb,e]at hq0;exact hq0
theorem zdm2{V G X β:Type}{m:List V}{d:V}{body:V->G->Option (G⊕X)}{fin:G->X}{kk:X->Option β}{r:β}{s:List Nat}{g:G}(h:RngP m d body fin kk r s g)(ha:∀i,i<m.length->iE i∈s.map iE):kk (fin g)=some r:=by
 have:=h.ok [] (by
  rw[fB];refine(jH h.nd iT).2 λ i=>?_;rw[dN];refine⟨h.lt i,λ hi=>?_⟩;obtain⟨j,hj,e⟩:=bW.1 (ha i hi);simp only[iE,fO,A.int.injEq,fX,gV]at e;have:j=i:=by omega
  exact this▸hj)
 exact this
def RngN{V G X β:Type}(E:Env)(I:List Nat->G->St)(m:List V)(d:V)(body:V->G->Option (G⊕X))(fin:G->X)(kk:X->Option β)(r:β)(s:List Nat)(w:St):Prop:=
 ∃i g',RngP m d body fin kk r (s++[i]) g'/\St.le E w (I (s++[i]) g')
def RngQ{V G X β:Type}(E:Env)(I:List Nat->G->St)(m:List V)(d:V)(body:V->G->Option (G⊕X))(fin:G->X)(kk:X->Option β)(r:β)(s:List Nat)(Q:Exit->St->Prop):Exit->St->Prop:=λ e w=>match e with|.normal=>RngN E I m d body fin kk r s w|e=>Q e w
section
variable {C:Cx} {E:Env} {Q:Exit→St→Prop} {st:St}
theorem zdD9{c:PC}{V G X β:Type}{m:List V}{d:V}{body:V->G->Option (G⊕X)}{fin:G->X}{g0:G}{kk:X->Option β}{r:β}(I:List Nat->G->St)(h:rngO m d body fin g0 kk=some r)(h0:St.le E st (I [] g0))
  (hb:∀s g,RngP m d body fin kk r s g->AW C E c (RngQ E I m d body fin kk r s Q) (I s g)):AW C E (.loop c) Q st:=by
 refine zcg6 (G:=List Nat×G) (λ p=>I p.1 p.2) (λ p=>RngP m d body fin kk r p.1 p.2) (λ p=>m.length-p.1.length) ([],g0) ⟨List.nodup_nil,(λ i hi=>nomatch hi),λ q hq=>zcM6 h q hq⟩ h0 λ p hp=>?_;refine(hb p.1 p.2 hp).mono λ e w hw=>?_;cases e with
 |normal=>
  obtain⟨i,g',h1,h2⟩:=hw;refine⟨(p.1++[i],g'),h1,h2,?_⟩;have:(p.1++[i]).length<=m.length:=by
   have:=dH h1.nd (l₂:=List.range m.length) λ j hj=>dN.2 (h1.lt j hj)
   simpa using this
  simp only[bP,List.length_cons,List.length_nil]at this⊢;omega
 |_=>exact hw
theorem zcp4{V G X β:Type}(I:List Nat->G->St)(m:List V)(d:V)(body:V->G->Option (G⊕X))(fin:G->X)(kk:X->Option β)(r:β)(s:List Nat)(w:St):RngQ E I m d body fin kk r s Q .normal w=RngN E I m d body fin kk r s w:=rfl
theorem zcY8{V G X β:Type}(I:List Nat->G->St)(m:List V)(d:V)(body:V->G->Option (G⊕X))(fin:G->X)(kk:X->Option β)(r:β)(s:List Nat)(w:St):RngQ E I m d body fin kk r s Q .ret w=Q .ret w:=rfl
theorem zcM7{V G X β:Type}(I:List Nat->G->St)(m:List V)(d:V)(body:V->G->Option (G⊕X))(fin:G->X)(kk:X->Option β)(r:β)(s:List Nat)(i:Nat)(w:St):RngQ E I m d body fin kk r s Q (.exit i) w=Q (.exit i) w:=rfl
attribute [go_sem] zcp4 zcY8 zcM7
end
def unfull:A->A
 | .full es=>.sl es
 |a=>a
theorem PFn.unfull{C:Cx}{f:FuncId}{az:List A}{r:A}(h:PFn C f (az.map unfull) r):PFn C f az r:=by
 intro w W vs hg hW hl ha;refine h w W vs hg hW (by simpa using hl) λ i v a hv hx=>?_;rw[cE]at hx;cases hy:az[i]? with
 |none=>rw[hy]at hx;cases hx
 |some b=>
  rw[hy]at hx;cases hx;have:=ha i v b hv hy;cases b with
  |full es=>
   have h2:RepC w W v (.full es):=this;cases h2 with
   |full a n es h=>exact h
  |_=>exact this
@[go_sem] theorem zdI0(a b:Nat):Nat.min a b=min a b:=rfl
attribute [go_sem] Ab.unfull zao4 fixL
attribute [go_sem] Int.cast_ofNat_Int fC eZ fK Nat.min_self
def Imp(q p:Prop):Prop:=q->p
theorem Imp.and{q a b:Prop}(ha:a)(h:Imp q b):Imp q (a/\b):=λ hq=>⟨ha,h hq⟩
theorem Imp.refl{q:Prop}:Imp q q:=λ h=>h
theorem im{q p:Prop}(w:Imp q p:=by(simp only[go_sem,↓reduceIte,reduceCtorEq,Nat.reduceEqDiff,Nat.reduceAdd,Nat.reduceSub,Nat.reduceMul,Nat.reduceLeDiff,Nat.reduceLT,Int.reduceLE,Int.reduceLT,Int.reduceToNat,Int.reduceNeg];(repeat((with_reducible apply Imp.and);focus (first|assumption|omega|rfl|(simp;done)|(simp;omega)|(intros;simp_all;done)|grind)));exact Imp.refl)):Imp q p:=w
theorem i0{q p:Prop}(w:Imp q p:=by(simp only[go_sem,↓reduceIte,reduceCtorEq,Nat.reduceEqDiff,Nat.reduceAdd,Nat.reduceSub,Nat.reduceMul,Nat.reduceLeDiff,Nat.reduceLT,Int.reduceLE,Int.reduceLT,Int.reduceToNat,Int.reduceNeg];exact Imp.refl)):Imp q p:=w
theorem lw{p:Prop}(w:p:=by(simp only[go_sem,↓reduceIte,reduceCtorEq,Nat.reduceEqDiff,Nat.reduceAdd,Nat.reduceSub,Nat.reduceMul,Nat.reduceLeDiff,Nat.reduceLT,Int.reduceLE,Int.reduceLT,Int.reduceToNat,Int.reduceNeg];first|(done)|trivial|(simp;done)|(repeat'(first|rfl|trivial|omega|(simp;done)|(simp;omega)|(congr 1;omega)|(congr 1;simp only[bP,dM,eO,gB];omega)|apply And.intro)))):p:=w
section
variable {C:Cx} {E:Env} {Q:Exit→St→Prop} {st:St} {q:Prop}
theorem g_st{p:Prop}(h:q)(e:Imp q p:=by exact i0):p:=e h
theorem ze2(h:q)(e:Imp q (Q .normal st):=by exact i0):AW C E .skip Q st:=zdk8 (e h)
theorem zcG8(h:q)(e:Imp q (Q .normal st):=by exact i0):AW C E .label Q st:=zcW8 (e h)
theorem zA6{id:Nat}(h:q)(e:Imp q (Q (.exit id) st):=by exact i0):AW C E (.exit id) Q st:=zdk9 (e h)
theorem zm2(h:q)(e:Imp q (Q .ret st):=by exact i0):AW C E .ret Q st:=zdt5 (e h)
theorem za1{dr:List Nat}{ops:List POp}(hG:E.G=C.G)(h:q)
  (e:Imp q (arun C ops st λ s=>Q .normal (s.drop dr)):=by exact im):AW C E (.reg dr ops) Q st:=zdt6 hG (e h)
theorem zbl3{dr:List Nat}{ops:List POp}(hm:C.P.follows .mixedOrders=true)(hG:E.G=C.G)(h:q)
  (e:Imp q (zaL9 C ops st λ s=>Q .normal (s.drop dr)):=by exact im):AW C E (.regd dr ops) Q st:=zdl2 hm hG (e h)
theorem zai3{dr:List Nat}{an:List (List Nat)}{ops:List POp}(hm:C.P.follows .mixedOrders=true)(hG:E.G=C.G)(h:q)
  (e:Imp q (zao6 C an ops st [] λ s=>Q .normal (s.drop dr)):=by exact im):AW C E (.regm dr an ops) Q st:=zdl6 hm hG (e h)
theorem zm4{f:FuncId}{d:Option Nat}{g:Option (Nat×Bool)}{gv:Bool}{ob:Prop}{args:List A}{rw:List (Nat×MS)}{ps:List POp}{st:St}{K:St->Prop}{r:A}
  (hf:gv=true->PFn C f args r) (h:q)
  (e:Imp q (arun C ps (st.app d (zO0 g gv r) (if r.scal then[]else rw)) K):=by exact im)
  (ho:gv=true->ob:=by intro;trivial) (hg:g=none\/(if r.scal then[]else rw)=[]/\r.isVV=true:=by first|exact .inl rfl|exact .inr ⟨rfl,rfl⟩|exact .inr ⟨kD _,rfl⟩):zbj0 C f d g gv ob args rw ps st K:=zcX9 hf (e h) ho hg
theorem zaf4{f:FuncId}{d:Option Nat}{g:Option (Nat×Bool)}{gv:Bool}{ob:Prop}{args:List A}{rw:List (Nat×MS)}{ps:List POp}{st:St}{K:St->Prop}{r:A}
  (hf:gv=true->PFn C f args r) (h:q)
  (e:Imp q (zaL9 C ps (st.app d (zO0 g gv r) []) K):=by exact im)
  (ho:gv=true->ob:=by intro;trivial) (hg:g=none\/(if r.scal then[]else rw)=[]/\r.isVV=true:=by first|exact .inl rfl|exact .inr ⟨rfl,rfl⟩|exact .inr ⟨kD _,rfl⟩) (hn:(if r.scal then[]else rw)=[]:=by first|rfl|exact kD _):zaJ8 C f d g gv ob args rw ps st K:=zcL3 hf (e h) ho hg hn
theorem zH5{an:List (List Nat)}{f:FuncId}{d:Option Nat}{g:Option (Nat×Bool)}{gv:Bool}{ob:Prop}{args:List A}{rw:List (Nat×MS)}{ids:List Nat}{cok:Bool}{ps:List POp}{st:St}{log:List (List Nat×List Nat)}{K:St->Prop}{r:A}
  (hf:gv=true->PFn C f args r) (h:q)
  (e:Imp q (zaU7 (an.getD log.length []) 0 log ids ((if r.scal then[]else rw).map (·.1))=true/\cok=true/\zao6 C an ps (st.app d (zO0 g gv r) (if r.scal then[]else rw)) (log++[(ids,(if r.scal then[]else rw).map (·.1))]) K):=by exact im)
  (ho:gv=true->ob:=by intro;trivial) (hg:g=none\/(if r.scal then[]else rw)=[]/\r.isVV=true:=by first|exact .inl rfl|exact .inr ⟨rfl,rfl⟩|exact .inr ⟨kD _,rfl⟩):zaJ9 C an f d g gv ob args rw ids cok ps st log K:=zcL5 hf (e h) ho hg
theorem ze5{α:Type}{x:PX}{p q:PC}{b c:Bool}{X Y r:α}(hx:xv C.G st.slot x=.bool b)(hG:E.G=C.G)(h:(if c=true then X else Y)=r)
  (ht:b=true->X=r->AW C E p Q st) (hf:b=false->Y=r->AW C E q Q st) (e:b=c:=by first|rfl|(simp;done)|grind):AW C E (.cond x p q) Q st:=by
 subst e;exact zbH0 hx hG (λ hb=>ht hb (by rw[bM hb]at h;exact h)) (λ hb=>hf hb (by rw[hb]at h;simpa using h))
theorem zak2{α:Type}{x:PX}{p q:PC}{V:Type}(J:V->St)(P:V->Prop){b c:Bool}{X Y r:α}(hx:xv C.G st.slot x=.bool b)(hG:E.G=C.G)(h:(if c=true then X else Y)=r)(hk:∀v,P v->Q .normal (J v))
  (ht:b=true->X=r->AW C E p (zbj2 E J P Q) st) (hf:b=false->Y=r->AW C E q (zbj2 E J P Q) st) (e:b=c:=by first|rfl|(simp;done)|grind):AW C E (.cond x p q) Q st:=by
 subst e;exact zdl9 J P hx hG hk (λ hb=>ht hb (by rw[bM hb]at h;exact h)) (λ hb=>hf hb (by rw[hb]at h;simpa using h))
theorem zt1{α:Type}{x r:α}{p:Prop}(h:some x=some r)(e:x=r->p:=by(intro e;subst e;first|done|rfl|trivial|(simp;done)|(repeat'(first|rfl|trivial|omega|(simp;done)|(simp;omega)|(refine cU A.sl (cU (List.map _) ?_);exact dG (by first|omega|(simp;omega)))|apply And.intro)))):p:=e (cR h)
theorem zas4{α:Type}{x r:α}{p:Prop}(h:x=r)(e:x=r->p:=by(intro e;subst e;first|done|rfl|trivial|(simp;done)|(repeat'(first|rfl|trivial|omega|(simp;done)|(simp;omega)|(refine cU A.sl (cU (List.map _) ?_);exact dG (by first|omega|(simp;omega)))|apply And.intro)))):p:=e h
theorem zs2{V:Type}{J:V->St}{P:V->Prop}{s:St}{k:Nat}(hK:E.k0=k)(l:List (Nat×Nat))(v:V)(h:P v)
  (hl:Le l s (J v)/\zao4 k l (J v).nx=true:=by exact lw):zaM2 E J P s:=zco9 hK v h l hl
theorem zM4{G X:Type}{I:G->St}{g':G}{y:G⊕X}{s:St}{k:Nat}(hK:E.k0=k)(l:List (Nat×Nat))(h:some (.inl g')=some y)
  (hl:Le l s (I g')/\zao4 k l (I g').nx=true:=by exact lw):zcp0 E I y s:=by
 cases h;exact zcp1 hK l hl
theorem zdm3{G X β:Type}{I:G->St}{body:G->Option (G⊕X)}{kk:X->Option β}{R:Option β}{g':G}{s:St}{k:Nat}(hK:E.k0=k)(l:List (Nat×Nat))(h:(zc0 body g').bind kk=R)
  (hl:Le l s (I g')/\zao4 k l (I g').nx=true:=by exact lw):zcY5 E I body kk R s:=
 ⟨g',h,St.le_of l hl.1 (by rw[hK];exact hl.2)⟩
theorem zal7{c:PC}{G X β:Type}{body:G->Option (G⊕X)}{g0:G}{kk:X->Option β}{r:β}(I:G->St){k:Nat}(hK:E.k0=k)(l:List (Nat×Nat))(h:(zc0 body g0).bind kk=some r)
  (hb:∀x,kk x=some r->∀g y,body g=some y->(∀x',y=.inr x'->x'=x)->AW C E c (zbB7 E I y Q) (I g))
  (hle:Le l st (I g0)/\zao4 k l (I g0).nx=true:=by exact lw):AW C E (.loop c) Q st:=by
 obtain⟨x,hx,hk⟩:=zb8 h;exact zch4 I hK l hx hle (hb x hk)
theorem zdE0{c:PC}{V G X β:Type}{m:List V}{d:V}{body:V->G->Option (G⊕X)}{fin:G->X}{g0:G}{kk:X->Option β}{r:β}(I:List Nat->G->St){k:Nat}(hK:E.k0=k)(l:List (Nat×Nat))(h:rngO m d body fin g0 kk=some r)
  (hb:∀s g,RngP m d body fin kk r s g->AW C E c (RngQ E I m d body fin kk r s Q) (I s g))
  (hle:Le l st (I [] g0)/\zao4 k l (I [] g0).nx=true:=by exact lw):AW C E (.loop c) Q st:=
 zdD9 I h (St.le_of l hle.1 (by rw[hK];exact hle.2)) hb
theorem zdm4{V G X β:Type}{m:List V}{d:V}{body:V->G->Option (G⊕X)}{fin:G->X}{kk:X->Option β}{r:β}{I:List Nat->G->St}{g':G}{y:G⊕X}{s:List Nat}{i:Nat}{w:St}{k:Nat}(hK:E.k0=k)(l:List (Nat×Nat))(h:some (.inl g')=some y)
  (hP:∀g',y=.inl g'->RngP m d body fin kk r (s++[i]) g') (hl:Le l w (I (s++[i]) g')/\zao4 k l (I (s++[i]) g').nx=true:=by exact lw):RngN E I m d body fin kk r s w:=by
 cases h;exact⟨i,g',hP g' rfl,St.le_of l hl.1 (by rw[hK];exact hl.2)⟩
theorem zdu7{α:Type}{r:α}(h:none=some r):AW C E .dead Q st:=by cases h
theorem zak3{x:PX}{p r:PC}(hx:xv C.G st.slot x=.bool true)(hG:E.G=C.G)(h:AW C E p Q st):AW C E (.cond x p r) Q st:=zbH0 hx hG (λ _=>h) (λ h=>by cases h)
theorem zaB0{x:PX}{p r:PC}(hx:xv C.G st.slot x=.bool false)(hG:E.G=C.G)(h:AW C E r Q st):AW C E (.cond x p r) Q st:=zbH0 hx hG (λ h=>by cases h) (λ _=>h)
theorem g_gh{c:PC}(g:Gh)(h:q)(e:Imp q (AW C E c Q (st.gh g)):=by exact i0)(hok:st.ghOk g:=by exact lw):AW C E c Q st:=zdD7 g hok (e h)
theorem zE4{α:Type}{x r:α}{k:Nat}{st:St}{rs:List RX}{rl:List A}{ms':List (Nat×Row)}{k':Nat}(l:List (Nat×Nat))(h:some x=some r)
  (e:x=r->zbA5 st rs/\zbL5 rl=true/\Le l ⟨zE8 0 (resL st rs),st.mem,st.nx⟩ ⟨zE8 0 rl,ms',k'⟩/\zao4 k l k'=true:=by(intro e;subst e;exact lw)):zaR1 k st rs rl ms' k':=by
 obtain⟨h1,h2,h3,h4⟩:=e (cR h);exact⟨h1,h2,l,h3,h4⟩
@[go_sem] theorem zdh3{α:Type}(a:Nat×α)(l m:List (Nat×α))(n:Nat):look ((a::l)++m) n=if a.1=n then some a.2 else look (l++m) n:=rfl
@[go_sem] theorem zdu8(m:Nat->MS)(v:A)(vs ws:List A):zD2 m ((v::vs)++ws)=frz m v::zD2 m (vs++ws):=rfl
@[go_sem] theorem zdm5(m:Nat->MS)(v:A)(vs ws:List A):zw3 m ((v::vs)++ws)=(zao2 m v/\zw3 m (vs++ws)):=rfl
@[go_sem] theorem zdh4(v:A)(vs ws:List A):zy4 ((v::vs)++ws)=zao3 v++zy4 (vs++ws):=rfl
@[go_sem] theorem zdA4(m:Nat->MS)(l:List (Nat×Nat))(k:Nat)(v a:A)(vs ws az:List A):zbp4 m l k ((v::vs)++ws) (a::az)=(argM m l k v a/\zbp4 m l k (vs++ws) az):=rfl
@[go_sem] theorem zdG6(v a:A)(vs ws az:List A):fzM ((v::vs)++ws) (a::az)=(if a.hands then[]else zao3 v)++fzM (vs++ws) az:=rfl
@[go_sem] theorem zdm6(q:Nat×MS)(r m:List (Nat×MS))(n:Nat):nxt n ((q::r)++m)=nxt (if q.1=n then n+1 else n) (r++m):=rfl
@[go_sem] theorem zdm7{α:Type}(m:List (Nat×α))(n:Nat):look ([]++m) n=look m n:=rfl
theorem zp6{f:FuncId}{d:Option Nat}{ob:Prop}{vals:List A}{ps:List POp}{st:St}{K:St->Prop}(l nl:List (Nat×Nat))(ids:List Nat){az:List A}{ms ms':List (Nat×Row)}{k k':Nat}{r:A}
  (hf:MFn C f az ms k r ms' k') (hnl:newL k st.nx (k'-k)=nl) (hids:ms.map (·.1)++(List.range (k'-k)).map (k+·)=ids) (h:q)
  (e:Imp q (arun C ps (st.app d (renR (l++nl) r) (zM9 st.m (fzM vals az)++zac5 (l++nl) ms' ids)) K):=by exact im)
  (hok:okM st.m st.nx l vals az ms k k':=by exact lw)
  (ho:ob:=by trivial) (hr:zbN2 r=true:=by rfl):zaR6 C f d none true ob vals ps st K:=by
 subst hnl;subst hids;exact zcL1 l hf hok (e h) ho hr
theorem zaM3{an:List (List Nat)}{f:FuncId}{d:Option Nat}{ob:Prop}{vals:List A}{vi:List Nat}{cok:Bool}{ps:List POp}{st:St}{log:List (List Nat×List Nat)}{K:St->Prop}(l nl:List (Nat×Nat))(ids:List Nat){az:List A}{ms ms':List (Nat×Row)}{k k':Nat}{r:A}
  (hf:MFn C f az ms k r ms' k') (hnl:newL k st.nx (k'-k)=nl) (hids:ms.map (·.1)++(List.range (k'-k)).map (k+·)=ids) (h:q)
  (e:Imp q (zaU7 (an.getD log.length []) 0 log vi ((zM9 st.m (fzM vals az)++zac5 (l++nl) ms' ids).map (·.1))=true/\cok=true/\zao6 C an ps (st.app d (renR (l++nl) r) (zM9 st.m (fzM vals az)++zac5 (l++nl) ms' ids)) (log++[(vi,(zM9 st.m (fzM vals az)++zac5 (l++nl) ms' ids).map (·.1))]) K):=by exact im)
  (hok:okM st.m st.nx l vals az ms k k':=by exact lw)
  (ho:ob:=by trivial) (hr:zbN2 r=true:=by rfl):zaA9 C an f d none true ob vals vi cok ps st log K:=by
 subst hnl;subst hids;exact zcz6 l hf hok (e h) ho hr
end
end Ab
end Go.Proofs.YtdlfhmkmnjbihaaGreatDoor
