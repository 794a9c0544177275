import Derived.Test.YtdlfhmkmnjbihaaGreatDoorAb20
namespace Go.Proofs.YtdlfhmkmnjbihaaGreatDoor
namespace Ab
set_option linter.unusedSimpArgs false
set_option linter.unusedVariables false
section
variable {C:Cx} {E:Env}
def FSt(ps:List POp)(vs:Nat->A)(mws:Nat->List (Nat×MS))(s:S)(f:Nat->Bool):Nat->S
  |0=>s
  |n+1=>match ps[n]? with
    |some p=>if f n then⟨setF (FSt ps vs mws s f n).fr p.dst (vs n),setM (FSt ps vs mws s f n).mem (mws n)⟩else FSt ps vs mws s f n
    |none=>FSt ps vs mws s f n
theorem zU2{y:Nat}:∀{mw:List (Nat×MS)} {m:Nat->MS},y∉mw.map (·.1)->setM m mw y=m y
  |[],_,_=>rfl
  |q::mw,m,h=>by simp only[setM];rw[zU2 λ hh=>h (.tail _ hh)];refine bN λ e=>h ?_;rw[e];exact .head _
theorem zbW6{y:Nat}:∀{mw:List (Nat×MS)} {m m2:Nat->MS},y∈mw.map (·.1)->setM m mw y=setM m2 mw y
  |q::mw,m,m2,h=>by
    simp only[setM]
    by_cases h2:y∈mw.map (·.1)
    .exact zbW6 h2
    · rw[zU2 h2,zU2 h2]
      rcases bX.1 h with rfl|h
      .simp
      .exact absurd h h2
theorem zcb2{ps:List POp}{vs:Nat->A}{mws:Nat->List (Nat×MS)}{s:S}{f f':Nat->Bool}:∀n,(∀i,i<n->f i=f' i)->FSt ps vs mws s f n=FSt ps vs mws s f' n
  |0,_=>rfl
  |n+1,h=>by have ih:=zcb2 (ps:=ps) (vs:=vs) (mws:=mws) (s:=s) n λ i hi=>h i (by omega);simp only[FSt,ih,h n (by omega)]
theorem zbe3(f:Nat->A)(d:Option Nat)(v:A)(t:Nat):setF f d v t=if d=some t then v else f t:=rfl
theorem zda7{ps:List POp}{vs:Nat->A}{mws:Nat->List (Nat×MS)}{s:S}{f:Nat->Bool}{j t:Nat}(h1:∀i q,i<j->ps[i]? =some q->q.dst=some t->f i=true)(h2:∀i q,j<=i->ps[i]? =some q->q.dst=some t->f i=false):
    ∀n,(FSt ps vs mws s f n).fr t=(FSt ps vs mws s (λ _=>true) (min n j)).fr t
  |0=>by simp[FSt]
  |n+1=>by
    have ih:=zda7 (vs:=vs) (mws:=mws) (s:=s) h1 h2 n
    by_cases hn:n<j
    · rw[show min (n+1) j=n+1 by omega]
      rw[show min n j=n by omega]at ih;simp only[FSt];cases hq:ps[n]? with
      |none=>exact ih
      |some q=>
        simp only[bT]
        by_cases hd:q.dst=some t
        .rw[h1 n q hn hq hd];simp[zbe3,hd]
        · rw[zbe3,bN hd]
          split
          .simp only[zbe3,bN hd];exact ih
          .exact ih
    · rw[show min (n+1) j=j by omega]
      rw[show min n j=j by omega]at ih;simp only[FSt];cases hq:ps[n]? with
      |none=>exact ih
      |some q=>
        simp only[]
        by_cases hd:q.dst=some t
        .rw[h2 n q (by omega) hq hd];simpa using ih
        · split
          .simp only[zbe3,bN hd];exact ih
          .exact ih
theorem zcS3{ps:List POp}{vs:Nat->A}{mws:Nat->List (Nat×MS)}{s:S}{f:Nat->Bool}{j y:Nat}(h1:∀i q,i<j->ps[i]? =some q->y∈(mws i).map (·.1)->f i=true)(h2:∀i q,j<=i->ps[i]? =some q->y∈(mws i).map (·.1)->f i=false):
    ∀n,(FSt ps vs mws s f n).mem y=(FSt ps vs mws s (λ _=>true) (min n j)).mem y
  |0=>by simp[FSt]
  |n+1=>by
    have ih:=zcS3 (vs:=vs) (mws:=mws) (s:=s) h1 h2 n
    by_cases hn:n<j
    · rw[show min (n+1) j=n+1 by omega]
      rw[show min n j=n by omega]at ih;simp only[FSt];cases hq:ps[n]? with
      |none=>exact ih
      |some q=>
        simp only[bT]
        by_cases hd:y∈(mws n).map (·.1)
        .rw[h1 n q hn hq hd];simp only[bT];exact zbW6 hd
        · rw[zU2 hd]
          split
          · show setM _ _ _=_
            rw[zU2 hd];exact ih
          .exact ih
    · rw[show min (n+1) j=j by omega]
      rw[show min n j=j by omega]at ih;simp only[FSt];cases hq:ps[n]? with
      |none=>exact ih
      |some q=>
        simp only[]
        by_cases hd:y∈(mws n).map (·.1)
        .rw[h2 n q (by omega) hq hd];simpa using ih
        · split
          · show setM _ _ _=_
            rw[zU2 hd];exact ih
          .exact ih
theorem zdu1{ps:List POp}{vs:Nat->A}{mws:Nat->List (Nat×MS)}{s:S}{f:Nat->Bool}{j:Nat}{p:POp}(hp:ps[j]? =some p)(hf:f j=false)(f':Nat->Bool)(hj:f' j=true)(hf':∀i,i≠j->f' i=f i)
    (hc:∀i q,j<i->ps[i]? =some q->f i=true->conf p q=false) (hm:∀i q,j<i->ps[i]? =some q->f i=true->∀y∈(mws j).map (·.1),y∉(mws i).map (·.1)):
    ∀n,(∀t,(FSt ps vs mws s f' n).fr t=if j<n/\p.dst=some t then vs j else(FSt ps vs mws s f n).fr t)/\∀y,(FSt ps vs mws s f' n).mem y=if j<n then setM (FSt ps vs mws s f n).mem (mws j) y else(FSt ps vs mws s f n).mem y
  |0=>by simp[FSt]
  |n+1=>by
    obtain⟨ih,ih2⟩:=zdu1 (vs:=vs) (mws:=mws) (s:=s) hp hf f' hj hf' hc hm n
    by_cases hn:n=j
    · subst hn
      simp only[FSt,hp,hj,hf,bT,bP,bV];refine⟨λ t=>?_,λ y=>?_⟩
      · rw[zbe3]
        by_cases hd:p.dst=some t
        .simp[hd]
        · simp only[hd,bV,and_false]
          have:=ih t
          simpa [hd]using this
      · rw[bO (dY n)]
        have e:(FSt ps vs mws s f' n).mem=(FSt ps vs mws s f n).mem:=funext λ z=>by have:=ih2 z;simpa using this
        rw[e]
    · have hlt:j<n+1↔j<n:=by omega
      simp only[FSt,hf' n hn,hlt];cases hq:ps[n]? with
      |none=>exact⟨by simpa using ih,by simpa using ih2⟩
      |some q=>
        simp only[];split
        · rename_i hfn
          refine⟨λ t=>?_,λ y=>?_⟩
          · simp only[zbe3,ih t]
            by_cases hd:q.dst=some t
            · simp only[hd,bT]
              by_cases hjn:j<n
              · have:=hc n q hjn hq hfn
                unfold conf at this
                by_cases hpd:p.dst=some t
                .simp[hpd,hd]at this
                .simp[hpd]
              .simp[hjn]
            .simp[hd]
          · by_cases hjn:j<n
            · simp only[hjn,bT]at ih2|-
              have hdj:=hm n q hjn hq hfn
              by_cases h1:y∈(mws n).map (·.1)
              · rw[zU2 (mw:=mws j) λ hh=>hdj y hh h1]
                exact zbW6 h1
              · rw[zU2 h1,ih2 y]
                by_cases h2:y∈(mws j).map (·.1)
                .exact zbW6 h2
                .rw[zU2 h2,zU2 h2,zU2 h1]
            · simp only[hjn,bV]at ih2|-
              have e:(FSt ps vs mws s f' n).mem=(FSt ps vs mws s f n).mem:=funext ih2;rw[e]
        .exact⟨ih,ih2⟩
theorem zaO6:∀{x y:List Nat},disj x y=true->∀z∈x,z∉y
  |a::x,y,h,z,hz=>by
    simp only[disj,bM,cQ,jB,dA]at h;rcases bX.1 hz with rfl|hz
    .exact h.1
    .exact zaO6 h.2 z hz
theorem zcb3{an:List Nat}:∀{log:List (List Nat×List Nat)} {i:Nat} {r w:List Nat},zbh3 an i log r w=true->∀n q,log[n]? =some q->i+n∉an->disj q.2 r=true/\disj q.2 w=true/\disj w q.1=true
  |x::log,i,r,w,h,n,q,hq,hn=>by
    simp only[zbh3,bM,dE]at h;cases n with
    |zero=>
      simp at hq;subst hq;rcases h.1 with h1|h1
      .exact absurd (by simpa using h1) hn
      .exact⟨h1.1.1,h1.1.2,h1.2⟩
    |succ n=>exact zcb3 h.2 n q (by simpa using hq) (by rwa [show i+1+n=i+(n+1)by omega])
theorem zcb4{an:List (List Nat)}{K:St->Prop}:∀(ps:List POp) (st:St) (log:List (List Nat×List Nat)),zaz9 C an ps st log K->∃(vs:Nat->A) (mws:Nat->List (Nat×MS)) (sts:Nat->St),K (sts ps.length)/\sts 0=st/\
    ∀j p,ps[j]? =some p->sts (j+1)=(sts j).app p.dst (vs j) (mws j)/\mwOk (sts j).nx (mws j)/\aopS C p (sts j).toS (sts j).nx (λ v mw=>v=vs j/\mw=mws j)/\zaX0 (zs5 C (sts j) p.xs)=true/\
      (∀i q,i<log.length->log[i]? =some q->i∉an.getD (log.length+j) []->disj q.2 (idsP p.po (zs5 C (sts j) p.xs))=true/\disj q.2 ((mws j).map (·.1))=true/\disj ((mws j).map (·.1)) q.1=true)/\
      (∀i q,i<j->ps[i]? =some q->log.length+i∉an.getD (log.length+j) []->disj ((mws i).map (·.1)) (idsP p.po (zs5 C (sts j) p.xs))=true/\disj ((mws i).map (·.1)) ((mws j).map (·.1))=true/\disj ((mws j).map (·.1)) (idsP q.po (zs5 C (sts i) q.xs))=true)
  |[],st,log,h=>⟨λ _=>.any,λ _=>[],λ _=>st,h,rfl,λ j p hp=>by simp at hp⟩
  |p::ps,st,log,h=>by
    obtain⟨v,mw,⟨hmw,hi,hcap,hrest⟩,h4⟩:=zdt9 (zdK6 h);obtain⟨vs,mws,sts,h5,h6,h7⟩:=zcb4 ps _ _ hrest;refine⟨λ i=>match i with|0=>v|i+1=>vs i,λ i=>match i with|0=>mw|i+1=>mws i,λ i=>match i with|0=>st|i+1=>sts i,h5,rfl,λ j q hq=>?_⟩;cases j with
    |zero=>simp at hq;subst hq;refine⟨h6,hmw,h4,hcap,λ i q hi2 hq hn=>?_,λ i q hi2=>by omega⟩;exact zcb3 hi i q hq (by rw[dG];exact hn)
    |succ j=>
      obtain⟨g1,g2,g3,g4,g5,g6⟩:=h7 j q (by simpa using hq);simp only[bR,List.length_cons,List.length_nil,dG]at g5 g6;refine⟨g1,g2,g3,g4,λ i x hi2 hx hn=>?_,λ i x hi2 hx hn=>?_⟩
      .exact g5 i x (by omega) (by rw[dF hi2];exact hx) (by rwa [show log.length+1+j=log.length+(j+1)by omega])
      · cases i with
        |zero=>simp at hx;subst hx;have:=g5 log.length (idsP p.po (zs5 C st p.xs),mw.map (·.1)) (by omega) (by rw[eJ (cU _)];simp) (by rw[show log.length+1+j=log.length+(j+1)by omega];exact hn);exact this
        |succ i=>exact g6 i x (by omega) (by simpa using hx) (by rw[show log.length+1+j=log.length+(j+1)by omega,show log.length+1+i=log.length+(i+1)by omega];exact hn)
theorem zcb5{st:St}(xs:List PX):zs5 C st xs=zF2 C st.toS.fr xs:=zbl1 xs
theorem zcS4{os:Array Oper}{ps:List POp}{s0:S}{vs:Nat->A}{mws:Nat->List (Nat×MS)}{sts:Nat->St}{K:St->Prop}{Q:Exit->Act->World->Prop}(hG:E.G=C.G)(hr:ROk C E.N os 0 ps)(hso:POp.sortOk os.toList 0=true)
    (hco:zbJ9 ps (ancs [] (os.toList.map zF3))=true) (hK:K (sts ps.length))
    (hst:∀j,j<=ps.length->(sts j).toS=FSt ps vs mws s0 (λ _=>true) j)
    (hv:∀j p,ps[j]? =some p->mwOk (sts j).nx (mws j)/\aopS C p (sts j).toS (sts j).nx (λ v mw=>v=vs j/\mw=mws j)/\zaX0 (zs5 C (sts j) p.xs)=true/\
      (∀i q,i<j->ps[i]? =some q->i∉(ancs [] (os.toList.map zF3)).getD j []->disj ((mws i).map (·.1)) (idsP p.po (zs5 C (sts j) p.xs))=true/\disj ((mws i).map (·.1)) ((mws j).map (·.1))=true/\disj ((mws j).map (·.1)) (idsP q.po (zs5 C (sts i) q.xs))=true))
    (hnx:∀i j,i<=j->(sts i).nx<=(sts j).nx) (hnx0:∀y,(sts 0).nx<=y->s0.mem y=.fresh) (hkey:∀j p y,ps[j]? =some p->y∈(mws j).map (·.1)->y<(sts (j+1)).nx)
    (hQ:∀st' a' w',K st'->Sat E st'.toS a' w'->Q .normal a' w'):
    ∀(fuel:Nat) (listed:Array Bool) (a:Act) (w:World),listed.size=os.size->Sat E (FSt ps vs mws s0 (λ i=>listed.getD i false) ps.length) a w->
      (∀j o,os[j]? =some o->listed.getD j false=true->∀i∈zF3 o,listed.getD i false=true)->left (λ i=>listed.getD i false) os.size<=fuel->
      wpAny C.P .any os Q fuel listed a w:=by
  have hlen:ps.length=os.size:=by have:=hr.size;omega
  have hdone:∀(listed:Array Bool) (a:Act) (w:World),Sat E (FSt ps vs mws s0 (λ i=>listed.getD i false) ps.length) a w->(∀i,i<os.size->listed.getD i false=true)->Q .normal a w:=by intro listed a w hs hall;refine hQ _ a w hK ?_;rw[hst ps.length (cU _),zcb2 (f:=λ _=>true) (f':=λ i=>listed.getD i false) ps.length λ i hi=>(hall i (by omega)).symm];exact hs
  have hready:∀(listed:Array Bool),listed.size=os.size->Region.ready .any os listed=[]->∀i,i<os.size->listed.getD i false=true:=by
    intro listed hsz hr0 i;induction i using Nat.strongRecOn with
    |_ i ih=>
      intro hi;cases hl:listed.getD i false with
      |true=>rfl
      |false=>
        have:i∈Region.ready .any os listed:=by
          rw[mem_ready];refine⟨?_,os[i],by simp[hi],λ e he hb=>?_⟩
          · have h1:i<listed.size:=by omega
            simp only[Array.getD,h1,jS]at hl⊢;exact hl
          · have h2:e.on∈zF3 os[i]:=by
              simp only[zF3,cD,dM];exact⟨e,⟨by simpa using he,hb⟩,rfl⟩
            have h3:=zbl3 os.toList 0 hso i os[i] (by simp[hi]) e.on h2;exact ih e.on (by omega) (by omega)
        rw[hr0]at this;cases this
  intro fuel;induction fuel with
  |zero=>
    intro listed a w hsz hs hcl hle;have hall:=zbK2 (f:=λ i=>listed.getD i false) os.size (by omega);refine⟨?_,hdone listed a w hs hall⟩;cases hrd:Region.ready .any os listed with
    |nil=>rfl
    |cons i rs=>
      have:i∈Region.ready .any os listed:=by rw[hrd];simp
      rw[mem_ready]at this;obtain⟨h1,o,ho,_⟩:=this;have hi:=(cE.1 ho).1;have:=hall i hi;have h2:i<listed.size:=by omega
      simp only[Array.getD,h2,jS]at h1 this;rw[this]at h1;cases h1
  |succ fuel ih=>
    intro listed a w hsz hs hcl hle;refine⟨λ hr0=>hdone listed a w hs (hready listed hsz hr0),λ i hi=>?_⟩;rw[mem_ready]at hi;obtain⟨hl,o,ho,hed⟩:=hi;have hlt:=(cE.1 ho).1;have hlt2:i<listed.size:=by omega
    have hl:listed.getD i false=false:=by simp only[Array.getD,hlt2,jS]at hl⊢;exact hl
    obtain⟨p,hp,hpo⟩:=hr.at (j:=i) (by rw[dG];exact ho);have hedge:∀k∈zF3 o,listed.getD k false=true:=by intro k hk;simp only[zF3,cD,dM]at hk;obtain⟨e,⟨he,hb⟩,rfl⟩:=hk;exact hed e (by simpa using he) hb
    have hset:(listed.setIfInBounds i true).getD i false=true:=by simp[Array.getD,hlt2]
    have hsetne:∀k,k≠i->(listed.setIfInBounds i true).getD k false=listed.getD k false:=λ k hk=>getD_set_ne false (kB hk);have hcl':∀j o,os[j]? =some o->(listed.setIfInBounds i true).getD j false=true->∀k∈zF3 o,(listed.setIfInBounds i true).getD k false=true:=by
      intro j o' ho' hj k hk
      by_cases hji:j=i
      · subst hji
        rw[ho]at ho';cases ho';exact getD_set_true (hedge k hk)
      · rw[hsetne j hji]at hj
        exact getD_set_true (hcl j o' ho' hj k hk)
    have hanc:∀j,(listed.setIfInBounds i true).getD j false=true->∀k∈(ancs [] (os.toList.map zF3)).getD j [],(listed.setIfInBounds i true).getD k false=true:=
      zaZ2 (D:=λ j=>(listed.setIfInBounds i true).getD j false=true) _ [] (λ j e he hD=>by
        simp only[cH,cC]at he;obtain⟨o',ho',rfl⟩:=he;exact hcl' j o' (by simpa using ho') (by simpa using hD)) (λ j _ k hk=>by simp at hk)
    have hanc0:∀j,listed.getD j false=true->∀k∈(ancs [] (os.toList.map zF3)).getD j [],listed.getD k false=true:=
      zaZ2 (D:=λ j=>listed.getD j false=true) _ [] (λ j e he hD=>by
        simp only[cH,cC]at he;obtain⟨o',ho',rfl⟩:=he;exact hcl j o' (by simpa using ho') (by simpa using hD)) (λ j _ k hk=>by simp at hk)
    have hbef:∀k q,k<i->ps[k]? =some q->conf q p=true->listed.getD k false=true:=by intro k q hk hq hc;have:=hanc i hset k (zaU1 hco hk hq hp hc);rwa [hsetne k (by omega)]at this
    have haft:∀k q,i<k->ps[k]? =some q->conf p q=true->listed.getD k false=false:=by
      intro k q hk hq hc;cases hlk:listed.getD k false with
      |false=>rfl
      |true=>have:=hanc0 k hlk i (zaU1 hco hk hp hq hc);rw[hl]at this;cases this
    have hbefM:∀k,k<i->listed.getD k false=false->k∉(ancs [] (os.toList.map zF3)).getD i []:=λ k hk hlk hh=>by have:=hanc i hset k hh;rw[hsetne k (by omega),hlk]at this;cases this
    have haftM:∀k,i<k->listed.getD k false=true->i∉(ancs [] (os.toList.map zF3)).getD k []:=λ k hk hlk hh=>by have:=hanc0 k hlk i hh;rw[hl]at this;cases this
    obtain ⟨hmw,haop,hcap,hind⟩:=hv i p hp;have hil:i<ps.length:=(bY.1 hp).1;have hsi:=hst i (iL hil);have hrow:∀y,(y∈idsP p.po (zs5 C (sts i) p.xs)\/y∈(mws i).map (·.1))->(FSt ps vs mws s0 (λ k=>listed.getD k false) ps.length).mem y=(sts i).toS.mem y:=λ y hy=>by
      rw[hsi];have:=zcS3 (ps:=ps) (vs:=vs) (mws:=mws) (s:=s0) (f:=λ k=>listed.getD k false) (j:=i) (y:=y) (λ k q hk hq hyk=>?_) (λ k q hk hq hyk=>?_) ps.length
      .rw[this,iY (iL hil)]
      · cases hlk:listed.getD k false with
        |true=>rfl
        |false=>
          obtain⟨g1,g2,g3⟩:=hind k q hk hq (hbefM k hk hlk);rcases hy with hy|hy
          .exact absurd hy (zaO6 g1 y hyk)
          .exact absurd hy (zaO6 g2 y hyk)
      · cases hlk:listed.getD k false with
        |false=>rfl
        |true=>
          have hki:i<k:=by
            rcases Nat.lt_or_eq_of_le hk with h|h
            .exact h
            .subst h;rw[hl]at hlk;cases hlk
          obtain⟨g0,g00,g000,gg⟩:=hv k q hq;obtain⟨g1,g2,g3⟩:=gg i p hki hp (haftM k hki hlk);rcases hy with hy|hy
          .exact absurd hy (zaO6 g3 y hyk)
          .exact absurd hyk (zaO6 g2 y hy)
    have hslot:∀t∈p.rds,(sts i).toS.fr t=(FSt ps vs mws s0 (λ k=>listed.getD k false) ps.length).fr t:=λ t ht=>by
      rw[hsi];rw[zda7 (j:=i) (t:=t) (f:=λ k=>listed.getD k false) (λ k q hk hq hd=>hbef k q hk hq (zbe1 hd (.inl ht)).1) (λ k q hk hq hd=>?_) ps.length,iY (iL hil)]
      by_cases hki:k=i
      .subst hki;exact hl
      .exact haft k q (by omega) hq ((zbe1 hd (.inl ht)).2 ht)
    have haop2:=zcF5 (s2:=FSt ps vs mws s0 (λ k=>listed.getD k false) ps.length) hslot (λ y hy=>(hrow y (.inl (by rw[zcb5];exact hy))).symm) (λ y hy=>(hrow y (.inr hy)).symm) (λ f caps vals _ hvals c hc=>by
      rw[zcb5,hvals]at hcap;exact zbQ4 hcap c hc) haop
    have hfin:∃id,(FSt ps vs mws s0 (λ k=>listed.getD k false) ps.length).mem id=.fresh/\aopS C p (FSt ps vs mws s0 (λ k=>listed.getD k false) ps.length) id (λ v mw=>v=vs i/\mw=mws i):=by
      rcases zdK7 haop2 with h1|h1
      .exact⟨_,by rw[hrow _ (.inr h1)];exact(sts i).m_nx,haop2⟩
      · refine⟨(sts ps.length).nx,?_,h1 _ (hnx i _ (iL hil))⟩
        rw[zcS3 (j:=0) (f:=λ k=>listed.getD k false) (λ k q hk=>by omega) (λ k q _ hq hyk=>by
          have h2:=hkey k q _ hq hyk;have h3:=hnx (k+1) ps.length (bY.1 hq).1;omega) ps.length]
        simp only[Nat.min_zero,FSt];exact hnx0 _ (hnx 0 _ (fM _))
    obtain⟨id,hid,haop3⟩:=hfin;obtain⟨W,μ,hs⟩:=hs;have key:=zca2 hs hG hid hpo haop3 (Q:=Q) (k:=wpAny C.P .any os Q fuel (listed.setIfInBounds i true)) (λ v mw a' w' hvm hs'=>by
      obtain⟨rfl,rfl⟩:=hvm;refine ih _ a' w' (by simpa using hsz) ?_ hcl' ?_
      · obtain⟨e1,e2⟩:=zdu1 (vs:=vs) (mws:=mws) (s:=s0) (f:=λ k=>listed.getD k false) hp hl (λ k=>(listed.setIfInBounds i true).getD k false) hset hsetne (λ k q hk hq hfk=>by
          cases hc:conf p q with
          |false=>rfl
          |true=>have:=haft k q hk hq hc;exact absurd (this.symm.trans hfk) (by simp)) (λ k q hk hq hfk y hy hyk=>by
          obtain⟨g0,g00,g000,gg⟩:=hv k q hq;obtain⟨g1,g2,g3⟩:=gg i p hk hp (haftM k hk hfk);exact zaO6 g2 y hy hyk) ps.length
        have e:FSt ps vs mws s0 (λ k=>(listed.setIfInBounds i true).getD k false) ps.length=⟨setF (FSt ps vs mws s0 (λ k=>listed.getD k false) ps.length).fr p.dst (vs i),setM (FSt ps vs mws s0 (λ k=>listed.getD k false) ps.length).mem (mws i)⟩:=by
          have h1:(FSt ps vs mws s0 (λ k=>(listed.setIfInBounds i true).getD k false) ps.length).fr=setF (FSt ps vs mws s0 (λ k=>listed.getD k false) ps.length).fr p.dst (vs i):=funext λ t=>by rw[e1 t,zbe3];simp only[hil,fU]
          have h2:(FSt ps vs mws s0 (λ k=>(listed.setIfInBounds i true).getD k false) ps.length).mem=setM (FSt ps vs mws s0 (λ k=>listed.getD k false) ps.length).mem (mws i):=funext λ y=>by rw[e2 y,bO hil]
          rw[<-h1,<-h2]
        rw[e];exact hs'
      · have:=zca9 (f:=λ k=>listed.getD k false) (f':=λ k=>(listed.setIfInBounds i true).getD k false) (j:=i) hl hset hsetne os.size
        rw[bO hlt]at this;omega)
    simp only[wpOp,ho];split at key
    .rename_i hw;rw[bO hw];exact .inl key
    .rename_i hw;rw[bN hw];exact key
theorem zcb6:∀(mw:List (Nat×MS)) (nx:Nat),nx<=nxt nx mw
  |[],nx=>cU _
  |q::mw,nx=>by simp only[nxt];refine fG ?_ (zcb6 mw _);split<;>omega
theorem zdu2:∀{mw:List (Nat×MS)} {nx:Nat},mwOk nx mw->∀y∈mw.map (·.1),y<nxt nx mw
  |q::mw,nx,h,y,hy=>by
    obtain⟨h1,h2,h3⟩:=h;simp only[nxt];rcases bX.1 hy with rfl|hy
    · refine dQ ?_ (zcb6 mw _)
      show q.1<_;split<;>omega
    .exact zdu2 h3 y hy
theorem zdK8{Q:Exit->St->Prop}{st:St}{dr:List Nat}{an:List (List Nat)}{ops:List POp}(hm:C.P.follows .mixedOrders=true)(hG:E.G=C.G)(h:zaz9 C an ops st [] λ s=>Q .normal (s.drop dr)):AW C E (.regm dr an ops) Q st:=λ code hc a w hs=>by
  cases code with
  |region id os d=>
   cases d with
   |false=>simp[chkC]at hc
   |true=>
    simp only[chkC,bM,dB]at hc;obtain⟨hc1,hc2,hc3,hc4⟩:=hc;have hr:ROk C E.N os 0 ops:=by obtain⟨P,G⟩:=C;exact zbs0 os.toList ops 0 hc1 (by simp) (by simp)
    obtain⟨vs,mws,sts,hK,h0,hv⟩:=zcb4 ops st [] h;subst hc4;have hnx1:∀j,(sts j).nx<=(sts (j+1)).nx\/ops.length<=j:=λ j=>by
      by_cases hj:j<ops.length
      · obtain⟨g1,g2,_⟩:=hv j ops[j] (by simp[hj])
        left;rw[g1];exact zcb6 _ _
      .right;omega
    let sts':Nat->St:=λ j=>if j<=ops.length then sts j else sts ops.length
    have hs':∀j,j<=ops.length->sts' j=sts j:=λ j hj=>bO hj;have hs2:∀j,ops.length<=j->sts' j=sts ops.length:=λ j hj=>by
      show(if j<=ops.length then sts j else sts ops.length)=_;split
      .rw[show j=ops.length by omega]
      .rfl
    have hstep:∀j,(sts' j).nx<=(sts' (j+1)).nx:=λ j=>by
      by_cases hj:j<ops.length
      · rw[hs' j (by omega),hs' (j+1) (by omega)]
        rcases hnx1 j with h1|h1
        .exact h1
        .omega
      .rw[hs2 j (by omega),hs2 (j+1) (by omega)];exact cU _
    have hmono:∀i j,i<=j->(sts' i).nx<=(sts' j).nx:=λ i j hij=>by
      induction j with
      |zero=>rw[show i=0 by omega];exact cU _
      |succ j ih=>
        by_cases hi:i=j+1
        .rw[hi];exact cU _
        .exact fG (ih (by omega)) (hstep j)
    have hFS:∀j,j<=ops.length->(sts' j).toS=FSt ops vs mws st.toS (λ _=>true) j:=λ j hj=>by
      rw[hs' j hj];induction j with
      |zero=>rw[h0];rfl
      |succ j ih=>
        obtain⟨g1,g2,_⟩:=hv j ops[j] (by simp[show j<ops.length by omega]);have ih:=ih (by omega);rw[g1,zbW1 _ _ _ _ g2];have hq:ops[j]? =some ops[j]:=by simp[show j<ops.length by omega]
        simp only[FSt,hq,bT];rw[<-ih];rfl
    refine wp_region_any hm ?_;refine zcS4 (s0:=st.toS) (vs:=vs) (mws:=mws) (sts:=sts') (K:=λ s=>Q .normal (s.drop dr)) hG hr hc2 hc3 (by rw[hs' _ (cU _)];exact hK) hFS (λ j p hp=>?_) hmono (λ y hy=>?_) (λ j p y hp hy=>?_) (λ st' a' w' hQ hs'=>⟨_,hQ,hs'.drop⟩) os.size _ a _ (by simp) ?_ (λ j o ho hj=>?_) ?_
    · have hj:=(bY.1 hp).1
      obtain⟨g1,g2,g3,g4,_,g6⟩:=hv j p hp;rw[hs' j (by omega)];refine⟨g2,g3,g4,λ i q hi hq hn=>?_⟩;rw[hs' i (by omega)];simp only[List.length_nil,dG]at g6;exact g6 i q hi hq hn
    · rw[hs' 0 (fM _),h0]at hy
      exact zcw5 st y hy
    · have hj:=(bY.1 hp).1
      obtain⟨g1,g2,_⟩:=hv j p hp;rw[hs' (j+1) (by omega),g1];exact zdu2 g2 y hy
    · have e:FSt ops vs mws st.toS (λ i=>(Array.replicate os.size false).getD i false) ops.length=FSt ops vs mws st.toS (λ _=>false) ops.length:=zcb2 _ λ i _=>by simp[Array.getD]
      have e2:∀n,FSt ops vs mws st.toS (λ _=>false) n=st.toS:=λ n=>by
        induction n with
        |zero=>rfl
        |succ n ih=>simp only[FSt,ih,bP,bV];split<;>rfl
      rw[e,e2];exact hs.drawn (jR _)
    .simp[Array.getD]at hj
    · have:∀n,left (λ i=>(Array.replicate os.size false).getD i false) n<=n:=λ n=>by
        induction n with
        |zero=>exact cU _
        |succ n ih=>simp only[left];split<;>omega
      exact this _
  |_=>simp[chkC]at hc
end
def memN(n:Nat):List Nat->Bool
 |[]=>false
 |m::ms=>if n=m then true else memN n ms
theorem zcb7{n:Nat}:∀{l:List Nat},memN n l=true↔n∈l
 |[]=>by simp[memN]
 |m::ms=>by
  unfold memN;split
  .rename_i h;simp[h]
  .rename_i h;rw[zcb7];simp[h]
def fzA(ids:List Nat)(m:Nat->MS):A->A
 | .own y lo n=>if memN y ids=true then frz1 m (.own y lo n)else .own y lo n
 |a=>a
def fzCs(ids:List Nat)(m:Nat->MS):List A->List A
 |[]=>[]
 |a::as=>fzA ids m a::fzCs ids m as
def fzV(ids:List Nat)(m:Nat->MS):A->A
 | .agg cs=>if zn6 cs=true then .agg cs else .agg (fzCs ids m cs)
 |a=>fzA ids m a
def fzEs(ids:List Nat)(m:Nat->MS)(es:List (List A)):List (List A):=if pureEs es=true then es else es.map (fzCs ids m)
def fzFr(ids:List Nat)(m:Nat->MS):List (Nat×A)->List (Nat×A)
 |[]=>[]
 |q::r=>(q.1,fzV ids m q.2)::fzFr ids m r
def zcF6(ids:List Nat)(m:Nat->MS):List (Nat×Row)->List (Nat×Row)
 |[]=>[]
 |q::r=>(q.1,⟨q.2.ro||memN q.1 ids,q.2.sz,q.2.z,fzEs ids m q.2.es⟩)::zcF6 ids m r
def zcs5(ids:List Nat)(m:Nat->MS):A->Prop
 | .own y lo n=>if memN y ids=true then zat3 m (.own y lo n)else True
 |_=>True
def zbK3(ids:List Nat)(m:Nat->MS):List A->Prop
 |[]=>True
 |a::as=>zcs5 ids m a/\zbK3 ids m as
def zcF7(ids:List Nat)(m:Nat->MS):A->Prop
 | .agg cs=>if zn6 cs=true then True else zbK3 ids m cs
 |a=>zcs5 ids m a
def zbW7(ids:List Nat)(m:Nat->MS):List (List A)->Prop
 |[]=>True
 |c::cs=>zbK3 ids m c/\zbW7 ids m cs
def zcx0(ids:List Nat)(m:Nat->MS)(es:List (List A)):Prop:=if pureEs es=true then True else zbW7 ids m es
def zcx1(ids:List Nat)(m:Nat->MS):List (Nat×A)->Prop
 |[]=>True
 |q::r=>zcF7 ids m q.2/\zcx1 ids m r
def zbW8(ids:List Nat)(m:Nat->MS):List (Nat×Row)->Prop
 |[]=>True
 |q::r=>zcx0 ids m q.2.es/\zbW8 ids m r
def St.fz(st:St)(ids:List Nat):St:=⟨fzFr ids st.m st.fr,zcF6 ids st.m st.mem,st.nx⟩
def St.fzOk(st:St)(ids:List Nat):Prop:=zcx1 ids st.m st.fr/\zbW8 ids st.m st.mem
section
variable {C:Cx} {a:Act} {E:Env} {st:St} {w:World} {W:Nat→Prop} {μ:Nat→Loc}
theorem zcx2(ids:List Nat)(m:Nat->MS):∀(cs:List A) (i:Nat),(fzCs ids m cs)[i]? =(cs[i]?).map (fzA ids m)
 |[],i=>by simp[fzCs]
 |c::cs,i=>by
  cases i with
  |zero=>simp[fzCs]
  |succ i=>simp[fzCs,zcx2 ids m cs i]
theorem zcb8(ids:List Nat)(m:Nat->MS):∀cs:List A,(fzCs ids m cs).length=cs.length
 |[]=>rfl
 |_::cs=>by simp[fzCs,zcb8 ids m cs]
theorem zbK4{ids:List Nat}{m:Nat->MS}:∀{cs:List A},zbK3 ids m cs->∀c∈cs,zcs5 ids m c
 |c::cs,h,d,hd=>by
  rcases bX.1 hd with rfl|hd
  .exact h.1
  .exact zbK4 h.2 d hd
theorem zcb9{ids:List Nat}{m:Nat->MS}:∀{cs:List (List A)},zbW7 ids m cs->∀c∈cs,zbK3 ids m c
 |c::cs,h,d,hd=>by
  rcases bX.1 hd with rfl|hd
  .exact h.1
  .exact zcb9 h.2 d hd
theorem zcs6(ids:List Nat)(m:Nat->MS)(t:Nat):∀fr:List (Nat×A),look (fzFr ids m fr) t=(look fr t).map (fzV ids m)
 |[]=>rfl
 |q::r=>by
  simp only[fzFr,look];split
  .rfl
  .exact zcs6 ids m t r
theorem zcc0(ids:List Nat)(m:Nat->MS)(x:Nat):∀mem:List (Nat×Row),look (zcF6 ids m mem) x=(look mem x).map λ r=>⟨r.ro||memN x ids,r.sz,r.z,fzEs ids m r.es⟩
 |[]=>rfl
 |q::r=>by
  simp only[zcF6,look];split
  .rename_i h;subst h;rfl
  .exact zcc0 ids m x r
theorem zcs7{ids:List Nat}{m:Nat->MS}:∀{fr:List (Nat×A)},zcx1 ids m fr->∀t v,look fr t=some v->zcF7 ids m v
 |q::r,h,t,v,hv=>by
  simp only[look]at hv;split at hv
  .cases hv;exact h.1
  .exact zcs7 h.2 t v hv
theorem zcc1{ids:List Nat}{m:Nat->MS}:∀{mem:List (Nat×Row)},zbW8 ids m mem->∀x r,look mem x=some r->zcx0 ids m r.es
 |q::r,h,t,v,hv=>by
  simp only[look]at hv;split at hv
  .cases hv;exact h.1
  .exact zcc1 h.2 t v hv
theorem RepK.less{v:Value}{x:A}{ids:List Nat}(h:RepK w W μ v x):RepK w (zaI7 W μ ids) μ v x:=
 h.goes (Keeps.refl (λ _=>False) w) (λ _ _ _ h=>h) (λ _ _ h1 h2=>h1 h2.1) (Old.refl μ)
theorem zcx3{s:S}(hs:SatW E s a w W μ){v:Value}{x:A}{ids:List Nat}(h:RepK w W μ v x)(hok:zcs5 ids s.mem x):RepK w (zaI7 W μ ids) μ v (fzA ids s.mem x):=by
 cases x with
 |own y lo n=>
  simp only[fzA,zcs5]at hok⊢;split
  .rename_i hy;rw[bO hy]at hok;exact zp1 (zbZ8 hs h hok (λ z hz=>by simp[zP8]at hz;subst hz;exact zcb7.1 hy))
  .exact h.less
 |_=>exact h.less
theorem zdU5{s:S}(hs:SatW E s a w W μ){v:Value}{x:A}{ids:List Nat}(h:Rep w W μ v x)(hok:zcF7 ids s.mem x):Rep w (zaI7 W μ ids) μ v (fzV ids s.mem x):=by
 have hgo:Rep w (zaI7 W μ ids) μ v x:=h.goes (Keeps.refl (λ _=>False) w) (λ _ _ _ h=>h) (λ _ _ h1 h2=>h1 h2.1) (Old.refl μ);cases x with
 |own y lo n=>exact zp2 (zo1 (zcx3 (x:=.own y lo n) hs h hok))
 |agg cs=>
  simp only[fzV,zcF7]at hok⊢;split
  .exact hgo
  .rename_i hp;rw[bN hp]at hok;obtain⟨vs,hv,hl,hr⟩:=h;refine⟨vs,hv,by rw[zcb8];exact hl,λ i u b hu hb=>?_⟩;rw[zcx2]at hb;obtain⟨c,hc,rfl⟩:=cC.1 hb;exact zcx3 hs (hr i u c hu hc) (zbK4 hok c (cF hc))
 |_=>exact hgo
@[go_sem] theorem zed5(ids:List Nat)(m:Nat->MS)(s:List Nat):(s.map iE).map (fzCs ids m)=s.map iE:=by simp[iE,fzCs,fzA]
theorem zdK9{ids:List Nat}{m:Nat->MS}{y c:Nat}{seen:List Nat}:fzEs ids m ([.mp y,.int .i64 c]::seen.map iE)=[.mp y,.int .i64 c]::seen.map iE:=by unfold fzEs;rw[bN (by simp[pureEs,zn6,A.pure1]),cX,zed5];rfl
theorem zdg3{s:S}(hs:SatW E s a w W μ)(ids:List Nat):zbd4 w (zaI7 W μ ids) E.G:=λ g cs hg=>by obtain⟨h1,h2,h3⟩:=hs.glob g cs hg;refine⟨λ hh=>h1 hh.1,h2,λ j b hj=>?_⟩;obtain⟨u,hu,hr⟩:=h3 j b hj;exact⟨u,hu,hr.less⟩
theorem St.le_fz(ids:List Nat)(h:st.fzOk ids):St.le E st (st.fz ids):=by
 intro a w ⟨W,μ,hs⟩;refine⟨zaI7 W μ ids,μ,{hs with
  fr:=λ t=>?_
  mem:=λ x=>?_
  wsub:=λ b hb=>hs.wsub b hb.1
  wsup:=λ b hb=>?_
  wlt:=λ b hb=>hs.wlt b hb.1
  glob:=zdg3 hs ids}⟩
 .show Rep w _ μ _ ((st.fz ids).slot t);have hr:Rep w W μ _ (st.slot t):=hs.fr t;simp only[St.slot,St.fz,zcs6]at hr⊢;cases hl:look st.fr t with
  |none=>trivial
  |some v=>rw[hl]at hr;exact zdU5 hs hr (zcs7 h.1 t v hl)
 .show zau0 w _ μ x ((st.fz ids).m x);have hm:zau0 w W μ x (st.m x):=hs.mem x;simp only[St.m,St.fz,zcc0]at hm⊢;split
  .rename_i hx;rw[bO hx]at hm;exact hm
  .rename_i hx;rw[bN hx]at hm;cases hl:look st.mem x with
   |none=>rw[hl]at hm;exact hm
   |some r=>
    rw[hl]at hm;have hok:=zcc1 h.2 x r hl;have hro':∀k,μ x=.at_ k->(r.ro=false->W k.b)->(r.ro||memN x ids)=false->zaI7 W μ ids k.b:=λ k e1 hro hr'=>by simp only[jC]at hr';refine⟨hro hr'.1,λ⟨y,ky,hy,hy2,hy3⟩=>?_⟩;have:=hs.inj y x ky k hy2 e1 hy3;subst this;rw[zcb7.2 hy]at hr';cases hr'.2
    rcases hm with⟨e1,e2,e3⟩|⟨k,e1,⟨hro,hsz,hpos,us,rest,e,h4,h5,h6⟩|gM|gI⟩
    .exact .inl ⟨e1,by show fzEs ids st.m r.es=[];rw[e2];rfl,e3⟩
    rotate_left
    .have hp:=gM.pure;obtain⟨hro,hsz,hpos,es,h4,h5,h6⟩:=gM;refine .inr ⟨k,e1,.inr (.inl ⟨λ hr=>hro' k e1 hro hr,hsz,hpos,es,h4,?_,λ i e c q1 q2=>?_⟩)⟩
     .show es.size=(fzEs ids st.m r.es).length;unfold fzEs;rw[bO hp];exact h5
     .have q3:(fzEs ids st.m r.es)[i]? =some c:=q2;unfold fzEs at q3;rw[bO hp]at q3;exact(h6 i e c q1 q3).keep (Keeps.refl (λ _=>False) w) (λ _ _ _ h=>h) (λ _ _ h h2=>h h2.1)
    .obtain⟨hro,hsz,hpos,hz,y,b,c,seen,h4,h5,h6⟩:=gI;exact .inr ⟨k,e1,.inr (.inr ⟨λ hr=>hro' k e1 hro hr,hsz,hpos,hz,y,b,c,seen,by show fzEs ids st.m r.es=_;rw[h4];exact zdK9,h5,h6⟩)⟩
    .refine .inr ⟨k,e1,.inl ⟨λ hr=>hro' k e1 hro hr,hsz,hpos,us,rest,e,h4,h5,?_⟩⟩
     .show Flat _ r.sz us (fzEs ids st.m r.es);unfold fzEs;unfold zcx0 at hok;split
      .exact h6.mono λ u b hr=>hr.less
      .rename_i hp;rw[bN hp]at hok;refine⟨by simpa using h6.hl,λ i c hc=>?_,λ i c j b hc hb=>?_⟩
       .simp only[cH,cC]at hc;obtain⟨c0,hc0,rfl⟩:=hc;rw[zcb8];exact h6.hs i c0 hc0
       .simp only[cH,cC]at hc;obtain⟨c0,hc0,rfl⟩:=hc;rw[zcx2]at hb;obtain⟨b0,hb0,rfl⟩:=cC.1 hb;obtain⟨u,hu,hr⟩:=h6.ha i c0 j b0 hc0 hb0;exact⟨u,hu,zcx3 hs hr (zbK4 (zcb9 hok c0 (cF hc0)) b0 (cF hb0))⟩
 .rcases hs.wsup b hb with h1|h1
  .by_cases hx:∃x k,x∈ids/\μ x=.at_ k/\k.b=b
   .obtain⟨x,k,_,hx2,hx3⟩:=hx;rcases hs.live x k hx2 with h2|h2
    .exact .inr (hx3▸h2)
    .have:=hs.winlt b hb;omega
   .exact .inl ⟨h1,hx⟩
  .exact .inr h1
def St.own0(st:St)(t sz:Nat)(z:List A):St:=⟨(t,.own st.nx 0 0)::rm t st.fr,(st.nx,⟨false,sz,z,[]⟩)::st.mem,st.nx+1⟩
theorem St.le_own0(t sz:Nat)(z:List A)(hz:0<sz)(h:st.slot t=.full []):St.le E st (st.own0 t sz z):=by
 intro a w ⟨W,μ,hs⟩;have hst:=Step.newEmpty (r:=⟨false,sz,z,[]⟩) hs.mem hs.inj hs.wlt (St.m_nx st) hz rfl (Keeps.refl _ w);have h2:=hs.step (d:=none) (v:=undef) (av:=.any) hst (λ x hx=>by cases hx) trivial;have hem:(st.own0 t sz z).m=setM st.m [(st.nx,.row ⟨false,sz,z,[]⟩)]:=by
  funext x;simp only[St.m,St.own0,setM,look]
  by_cases hx:x=st.nx
  .subst hx;rw[bN (by omega),bO rfl,bO rfl]
  .by_cases h3:st.nx<=x
   .rw[bO (show st.nx+1<=x by omega),bN hx,bO h3]
   .rw[bN (show¬st.nx+1<=x by omega),bN (show¬st.nx=x by omega),bN hx,bN h3]
 refine⟨_,_,{h2 with fr:=λ t'=>?_,mem:=?_}⟩
 .have h3:=h2.fr t';show Rep w W _ (a.tmps.getD t' undef) ((st.own0 t sz z).slot t');have h4:Rep w W (λ x=>if x=st.nx then .empty else μ x) (a.tmps.getD t' undef) (st.slot t'):=h3;simp only[St.slot,St.own0,look];split
  .rename_i ht;subst ht;rw[h]at h4;have h5:RepC w W (a.tmps.getD t undef) (.full []):=h4;generalize a.tmps.getD t undef=v at h5;cases h5 with
   |full ad n es h6=>
    cases h6 with
    |sl0=>exact zaW8 (by simp) 0
    |sl b off cap s es us _ _ hn=>simp at hn
  .rename_i ht;rw[zaH6,bN (λ e=>ht e.symm)];exact h4
 .show zaz0 w W _ (st.own0 t sz z).m;rw[hem];exact h2.mem
def zbe4(j n:Nat):List (List A)->List (List A)
 |[c]=>[upd c j [.own n 0 0]]
 |es=>es
def zbE8(x j n:Nat):List (Nat×Row)->List (Nat×Row)
 |[]=>[]
 |q::r=>if q.1=x then(q.1,⟨q.2.ro,q.2.sz,q.2.z,zbe4 j n q.2.es⟩)::r else q::zbE8 x j n r
def zdu3(j:Nat):List (List A)->Prop
 |[c]=>sub c j 1=[.full []]
 |_=>False
def St.ownb(st:St)(x j sz:Nat)(z:List A):St:=⟨st.fr,(st.nx,⟨false,sz,z,[]⟩)::zbE8 x j st.nx st.mem,st.nx+1⟩
def St.ownbOk(st:St)(x j sz:Nat):Prop:=0<sz/\match st.m x with
 | .row r=>0<r.sz/\zdu3 j r.es
 |_=>False
theorem zbE9(x j n y:Nat):∀mem:List (Nat×Row),look (zbE8 x j n mem) y=(look mem y).map λ r=>if y=x then⟨r.ro,r.sz,r.z,zbe4 j n r.es⟩else r
 |[]=>rfl
 |q::r=>by
  simp only[zbE8];split
  .rename_i h;simp only[look];split
   .rename_i h2;simp[<-h2,h]
   .rename_i h2;have:¬y=x:=λ e=>h2 (h.trans e.symm);cases look r y<;>simp[this]
  .rename_i h;simp only[look];split
   .rename_i h2;simp[<-h2,h]
   .exact zbE9 x j n y r
theorem zcF8{v:Value}{x:Nat}(hx:μ x=.empty)(h:RepK w W μ v (.full [])):RepK w W μ v (.own x 0 0):=by
 have h5:RepC w W v (.full []):=h;cases h5 with
 |full ad n es h6=>
  cases h6 with
  |sl0=>refine⟨rfl,?_⟩;rw[hx];exact⟨rfl,ad,rfl⟩
  |sl b off cap s es us _ _ hn=>simp at hn
theorem St.le_ownb(x j sz:Nat)(z:List A)(h:st.ownbOk x j sz):St.le E st (st.ownb x j sz z):=by
 obtain⟨hz,hnil⟩:=h;intro a w ⟨W,μ,hs⟩;have hst:=Step.newEmpty (r:=⟨false,sz,z,[]⟩) hs.mem hs.inj hs.wlt (St.m_nx st) hz rfl (Keeps.refl _ w);have h2:=hs.step (d:=none) (v:=undef) (av:=.any) hst (λ x hx=>by cases hx) trivial;refine⟨_,_,{h2 with fr:=λ t=>h2.fr t,mem:=λ y=>?_}⟩;have hm:=h2.mem y;have hxn:x<st.nx:=by
  cases hr:st.m x with
  |fresh=>rw[hr]at hnil;exact hnil.elim
  |dead=>rw[hr]at hnil;exact hnil.elim
  |row r=>exact St.m_row hr
 show zau0 w W _ y ((st.ownb x j sz z).m y);have hm':zau0 w W (λ x=>if x=st.nx then .empty else μ x) y (setM st.m [(st.nx,.row ⟨false,sz,z,[]⟩)] y):=hm;simp only[setM]at hm'
 by_cases hy:y=st.nx
 .subst hy;have e:(st.ownb x j sz z).m st.nx=.row ⟨false,sz,z,[]⟩:=by
   simp only[St.m,St.ownb,look];rw[bN (by omega)];simp
  rw[bO rfl]at hm';rw[e];exact hm'
 rw[bN hy]at hm';have e:(st.ownb x j sz z).m y=match st.m y with
   | .row r=>.row (if y=x then⟨r.ro,r.sz,r.z,zbe4 j st.nx r.es⟩else r)
   |q=>q:=by
  simp only[St.m,St.ownb,look,zbE9]
  by_cases h3:st.nx<=y
  .rw[bO (show st.nx+1<=y by omega),bO h3]
  .rw[bN (show¬st.nx+1<=y by omega),bN (show¬st.nx=y by omega),bN h3];cases look st.mem y<;>rfl
 rw[e];cases hr:st.m y with
 |fresh=>rw[hr]at hm';exact hm'
 |dead=>rw[hr]at hm';exact hm'
 |row r=>
  rw[hr]at hm';simp only
  by_cases hyx:y=x
  .subst hyx;rw[bO rfl];rw[hr]at hnil;obtain⟨hpz,hnil⟩:0<r.sz/\zdu3 j r.es:=hnil;rcases hm' with⟨g1,g2,g3⟩|⟨k,g1,gA⟩
   .rw[g2]at hnil;exact hnil.elim
   .obtain⟨g2,g3,g4,us,rest,e',g5,g6,g7⟩:=gA.ok (by have:=gA.wr.2;omega);refine .inr ⟨k,g1,.inl ⟨g2,g3,g4,us,rest,e',g5,g6,?_⟩⟩;show Flat _ r.sz us (zbe4 j st.nx r.es);obtain⟨ro,sz',z',es⟩:=r
    match es,hnil with
    |[c],hnil=>
     have hj:sub c j 1=[.full []]:=hnil;have hc:c.length=sz':=g7.hs 0 c rfl;have hjl:c[j]? =some (.full []):=by
      have h8:((c.drop j).take 1)[0]? =some (.full []):=by show(sub c j 1)[0]? =_;rw[hj];rfl
      simpa [dJ,dR]using h8
     have hlt:j<c.length:=(bY.1 hjl).1;have hu:upd c j [.own st.nx 0 0]=c.set j (.own st.nx 0 0):=by simp only[upd,List.length_cons,List.length_nil,dG];rw[gQ,bO hlt];simp
     refine⟨g7.hl,λ i d hd=>?_,λ i d q b hd hb=>?_⟩
     .cases i with
      |zero=>simp[zbe4]at hd;subst hd;rw[hu,eA];exact hc
      |succ i=>simp[zbe4]at hd
     .cases i with
      |zero=>
       simp[zbe4]at hd;subst hd;rw[hu,List.getElem?_set]at hb;split at hb
       .rename_i hq;subst hq;cases hb;obtain⟨u,hu1,hu2⟩:=g7.ha 0 c j _ rfl hjl;exact⟨u,hu1,zcF8 (by simp) hu2⟩
       .exact g7.ha 0 c q b rfl hb
      |succ i=>simp[zbe4]at hd
  .rw[bN hyx];exact hm'
def unfA:A->A
 | .full es=>.sl es
 |a=>a
def zay5:List A->List A
 |[]=>[]
 |a::as=>unfA a::zay5 as
def zcc2:List (Nat×Row)->List (Nat×Row)
 |[]=>[]
 |q::r=>(q.1,⟨q.2.ro,q.2.sz,q.2.z,q.2.es.map zay5⟩)::zcc2 r
def St.unf(st:St):St:=⟨st.fr,zcc2 st.mem,st.nx⟩
theorem zcc3:∀(cs:List A) (i:Nat),(zay5 cs)[i]? =(cs[i]?).map unfA
 |[],i=>by simp[zay5]
 |c::cs,i=>by
  cases i with
  |zero=>simp[zay5]
  |succ i=>simp[zay5,zcc3 cs i]
theorem zbK5:∀cs:List A,(zay5 cs).length=cs.length
 |[]=>rfl
 |_::cs=>by simp[zay5,zbK5 cs]
theorem zbR1(x:Nat):∀mem:List (Nat×Row),look (zcc2 mem) x=(look mem x).map λ r=>⟨r.ro,r.sz,r.z,r.es.map zay5⟩
 |[]=>rfl
 |q::r=>by
  simp only[zcc2,look];split
  .rfl
  .exact zbR1 x r
theorem zdL0{v:Value}{x:A}(h:RepK w W μ v x):RepK w W μ v (unfA x):=by
 cases x with
 |full es=>
  have h2:RepC w W v (.full es):=h;cases h2 with
  |full a n es h3=>exact zp1 h3
 |_=>exact h
@[go_sem] theorem zdU6(s:List Nat):(s.map iE).map zay5=s.map iE:=by simp[iE,zay5,unfA]
theorem zdR0{v:Value}{x:A}(h:RepC w W v x):RepC w W v (unfA x):=by
 cases x with
 |full es=>cases h with|full a n es h3=>exact h3
 |_=>exact h
theorem zaP0.unf{z:List A}{i:Nat}{e:MapEntry}{c:List A}(h:zaP0 w W z i e c):zaP0 w W z i e (zay5 c):=by
 obtain⟨h0,k,cs,ag,rfl,h2,h3,h4,h5⟩:=h;refine⟨h0,k,zay5 cs,ag,?_,h2,h3,h4,?_⟩
 .simp only[zay5];congr 1;generalize z.headD .any=zk at h3;cases zk<;>cases k<;>first|rfl|(simp[zI1,key1]at h3)
 .unfold RepX at*;split
  .rename_i ha;rw[bO ha]at h5;obtain⟨vs,g1,g2,g3⟩:=h5;refine⟨vs,g1,by rw[zbK5];exact g2,λ j u b p q=>?_⟩;rw[zcc3]at q;obtain⟨b0,q0,rfl⟩:=cC.1 q;exact zdR0 (g3 j u b0 p q0)
  .rename_i ha;rw[bN ha]at h5;obtain⟨b,rfl,g⟩:=h5;exact⟨unfA b,rfl,zdR0 g⟩
theorem St.le_unf:St.le E st st.unf:=by
 intro a w ⟨W,μ,hs⟩;refine⟨W,μ,{hs with mem:=λ x=>?_}⟩;show zau0 w W μ x (st.unf.m x);have hm:zau0 w W μ x (st.m x):=hs.mem x;simp only[St.m,St.unf,zbR1]at hm⊢;split
 .rename_i hx;rw[bO hx]at hm;exact hm
 .rename_i hx;rw[bN hx]at hm;cases hl:look st.mem x with
  |none=>rw[hl]at hm;exact hm
  |some r=>
   rw[hl]at hm;rcases hm with⟨e1,e2,e3⟩|⟨k,e1,⟨hro,hsz,hpos,us,rest,e,h4,h5,h6⟩|⟨hro,hsz,hpos,es,h4,h5,h6⟩|⟨hro,hsz,hpos,hz,y,b,c,seen,h4,h5,h6⟩⟩
   .exact .inl ⟨e1,by show r.es.map zay5=[];rw[e2];rfl,e3⟩
   rotate_left
   .refine .inr ⟨k,e1,.inr (.inl ⟨hro,hsz,hpos,es,h4,by show es.size=(r.es.map zay5).length;simpa using h5,λ i e c q1 q2=>?_⟩)⟩;have q3:(r.es.map zay5)[i]? =some c:=q2;simp only[cH,cC]at q3;obtain⟨c0,hc0,rfl⟩:=q3;exact(h6 i e c0 q1 hc0).unf
   .exact .inr ⟨k,e1,.inr (.inr ⟨hro,hsz,hpos,hz,y,b,c,seen,by show r.es.map zay5=_;rw[h4,cX,zdU6];rfl,h5,h6⟩)⟩
   .refine .inr ⟨k,e1,.inl ⟨hro,hsz,hpos,us,rest,e,h4,h5,?_⟩⟩;show Flat _ r.sz us (r.es.map zay5);refine⟨by simpa using h6.hl,λ i c hc=>?_,λ i c j b hc hb=>?_⟩
    .simp only[cH,cC]at hc;obtain⟨c0,hc0,rfl⟩:=hc;rw[zbK5];exact h6.hs i c0 hc0
    .simp only[cH,cC]at hc;obtain⟨c0,hc0,rfl⟩:=hc;rw[zcc3]at hb;obtain⟨b0,hb0,rfl⟩:=cC.1 hb;obtain⟨u,hu,hr⟩:=h6.ha i c0 j b0 hc0 hb0;exact⟨u,hu,zdL0 hr⟩
def St.cast(st:St)(t:Nat)(v:A):St:=⟨(t,v)::rm t st.fr,st.mem,st.nx⟩
theorem St.le_cast(t:Nat)(v:A)(h:st.slot t=v):St.le E st (st.cast t v):=by
 have e:(st.cast t v).toS=st.toS:=by
  simp only[St.toS];congr 1;funext x;simp only[St.slot,St.cast,look];split
  .rename_i hx;subst hx;exact h.symm
  .rename_i hx;rw[zaH6,bN (λ e=>hx e.symm)]
 intro a w hs;rw[e];exact hs
def St.unfs(st:St)(t:Nat):St:=⟨(t,unfA (st.slot t))::rm t st.fr,st.mem,st.nx⟩
theorem St.le_unfs(t:Nat):St.le E st (st.unfs t):=by
 intro a w ⟨W,μ,hs⟩;refine⟨W,μ,{hs with fr:=λ t'=>?_}⟩;show Rep w W μ (a.tmps.getD t' undef) ((st.unfs t).slot t');have hr:Rep w W μ (a.tmps.getD t' undef) (st.slot t'):=hs.fr t'
 by_cases h:t=t'
 .subst h;have e:(st.unfs t).slot t=unfA (st.slot t):=by simp[St.slot,St.unfs,look]
  rw[e];generalize st.slot t=x at hr⊢;cases x with
  |full es=>have h2:RepC w W (a.tmps.getD t undef) (.full es):=hr;exact zp2 (zo1 (zp1 h2.of_full.1))
  |_=>exact hr
 .have e:(st.unfs t).slot t'=st.slot t':=by
   simp only[St.slot,St.unfs,look];rw[bN h,zaH6,bN (λ e=>h e.symm)]
  rw[e];exact hr
inductive Gh where
 |unf
 |cast (t:Nat) (v:A)
 |fz (ids:List Nat)
 |own0 (t sz:Nat) (z:List A)
 |ownb (x j sz:Nat) (z:List A)
 |unfs (t:Nat)
def St.gh(st:St):Gh->St
 | .unf=>st.unf
 | .cast t v=>st.cast t v
 | .fz ids=>st.fz ids
 | .own0 t sz z=>st.own0 t sz z
 | .ownb x j sz z=>st.ownb x j sz z
 | .unfs t=>st.unfs t
def St.ghOk(st:St):Gh->Prop
 | .unf=>True
 | .cast t v=>st.slot t=v
 | .fz ids=>st.fzOk ids
 | .own0 t sz _=>0<sz/\st.slot t=.full []
 | .ownb x j sz _=>st.ownbOk x j sz
 | .unfs _=>True
theorem St.le_gh(g:Gh)(h:st.ghOk g):St.le E st (st.gh g):=by
 cases g with
 |unf=>exact St.le_unf
 |cast t v=>exact St.le_cast t v h
 |fz ids=>exact St.le_fz ids h
 |own0 t sz z=>exact St.le_own0 t sz z h.1 h.2
 |ownb x j sz z=>exact St.le_ownb x j sz z h
 |unfs t=>exact St.le_unfs t
theorem zed6{c:PC}{Q:Exit->St->Prop}(g:Gh)(hok:st.ghOk g)(h:AW C E c Q (st.gh g)):AW C E c Q st:=AW.weak (St.le_gh g hok) h
def UL(C:Cx)(E:Env)(c:PC)(Q:Exit->St->Prop):Nat->St->Prop
 |0,_=>False
 |n+1,s=>AW C E c (λ e s'=>match e with|.normal=>UL C E c Q n s'|e=>Q e s') s
def UnrQ(C:Cx)(E:Env)(c:PC)(n:Nat)(Q:Exit->St->Prop):Exit->St->Prop:=λ e s'=>match e with|.normal=>UL C E c Q n s'|e=>Q e s'
theorem zaZ3{c:PC}{Q:Exit->St->Prop}(n:Nat)(h:UL C E c Q n st):AW C E (.loop c) Q st:=
 zcw7 (G:=Nat×St) (λ g=>g.2) (λ g=>UL C E c Q g.1 g.2) (λ g=>g.1) (n,st) h (λ a w h=>h) (λ⟨m,s⟩ hg=>by
  cases m with
  |zero=>exact hg.elim
  |succ m=>
   refine AW.mono hg λ e s h=>?_;cases e with
   |normal=>exact⟨(m,s),h,λ a w h=>h,dY m⟩
   |_=>exact h)
theorem zap9{c:PC}{Q:Exit->St->Prop}{n:Nat}(h:AW C E c (UnrQ C E c n Q) st):UL C E c Q (n+1) st:=h
theorem zcF9{c:PC}{Q:Exit->St->Prop}(n:Nat)(s:St):UnrQ C E c n Q .normal s=UL C E c Q n s:=rfl
theorem zdu4{c:PC}{Q:Exit->St->Prop}(n:Nat)(s:St):UnrQ C E c n Q .ret s=Q .ret s:=rfl
theorem zdg4{c:PC}{Q:Exit->St->Prop}(n i:Nat)(s:St):UnrQ C E c n Q (.exit i) s=Q (.exit i) s:=rfl
end
def zbw5(C:Cx)(f:FuncId)(d:Option Nat)(g:Option (Nat×Bool))(gv:Bool)(ob:Prop)(args:List A)(rw:List (Nat×MS))(ps:List POp)(st:St)(K:St->Prop):Prop:=
 ∃r,(gv=true->ob/\PFn C f args r)/\(g=none\/(if r.scal then[]else rw)=[]/\r.isVV=true)/\arun C ps (st.app d (zQ0 g gv r) (if r.scal then[]else rw)) K
theorem zdu5{C:Cx}{f:FuncId}{d:Option Nat}{g:Option (Nat×Bool)}{gv:Bool}{ob:Prop}{args:List A}{rw:List (Nat×MS)}{ps:List POp}{st:St}{K:St->Prop}{r:A}
  (hf:gv=true->PFn C f args r) (h:arun C ps (st.app d (zQ0 g gv r) (if r.scal then[]else rw)) K)
  (ho:gv=true->ob:=by intro;trivial) (hg:g=none\/(if r.scal then[]else rw)=[]/\r.isVV=true:=by first|exact .inl rfl|exact .inr ⟨rfl,rfl⟩):zbw5 C f d g gv ob args rw ps st K:=⟨r,λ e=>⟨ho e,hf e⟩,hg,h⟩
def zaA0(C:Cx)(f:FuncId)(d:Option Nat)(g:Option (Nat×Bool))(gv:Bool)(ob:Prop)(vals:List A)(ps:List POp)(st:St)(K:St->Prop):Prop:=
 zaT7 C st.m st.nx f vals g gv ob (λ _=>True) λ v mw=>arun C ps (st.app d v mw) K
def zbF0:A->Bool
 | .cnd _ _=>false
 |_=>true
theorem zbF1{r:A}(h:zbF0 r=true):∀g c,r≠.cnd g c:=λ g c e=>by subst e;cases h
theorem zdg5{C:Cx}{f:FuncId}{d:Option Nat}{ob:Prop}{vals:List A}{ps:List POp}{st:St}{K:St->Prop}(l:List (Nat×Nat)){az:List A}{ms ms':List (Nat×Row)}{k k':Nat}{r:A}
  (hf:MFn C f az ms k r ms' k') (hok:okM st.m st.nx l vals az ms k k') (h:arun C ps (st.app d (renR (l++newL k st.nx (k'-k)) r) (mwM st.m (l++newL k st.nx (k'-k)) vals az ms ms' k k')) K)
  (ho:ob:=by trivial) (hr:zbF0 r=true:=by rfl):zaA0 C f d none true ob vals ps st K:=
 ⟨l,az,ms,k,r,ms',k',λ _=>⟨ho,hf,hok,trivial⟩,(λ h=>nomatch h),.inl rfl,zbF1 hr,h⟩
theorem zdu6(C:Cx)(st:St)(K:St->Prop):arun C [] st K=K st:=rfl
theorem zdg6(C:Cx)(d:Option Nat)(g:Option (Nat×Bool))(po:PO)(xs:List PX)(ps:List POp)(st:St)(K:St->Prop):
  arun C (⟨d,g,po,xs⟩::ps) st K=(match po with
   | .call f=>(match zI2 st g with
    |none=>False
    |some gv=>zbw5 C f d g gv (zaf4 C st xs/\zA1 st.m (zs5 C st xs)) (zG8 st.m (zs5 C st xs)) (zP9 st.m (zC3 (zs5 C st xs))) ps st K)
   | .callv=>(match zI2 st g with
    |none=>False
    |some gv=>(match zs5 C st xs with
     | .clo f caps::vals=>zbw5 C f d g gv (zaf4 C st xs/\zD6 C.P f=true/\zA1 st.m (vals++caps)) (zG8 st.m (vals++caps)) (zP9 st.m (zC3 (vals++caps))) ps st K
     |_=>False))
   | .callb=>(match zI2 st g with
    |none=>False
    |some gv=>(match zs5 C st xs with
     | .bnd f cs::vals=>zbw5 C f d g gv (zaf4 C st xs/\zD6 C.P f=true/\zA1 st.m (.agg cs::vals)) (zG8 st.m (.agg cs::vals)) (zP9 st.m (zC3 (.agg cs::vals))) ps st K
     |_=>False))
   | .callm f=>(match zI2 st g with
    |none=>False
    |some gv=>zaA0 C f d g gv (zaf4 C st xs) (zs5 C st xs) ps st K)
   | .callvm=>(match zI2 st g with
    |none=>False
    |some gv=>(match zs5 C st xs with
     | .clo f caps::vals=>zaA0 C f d g gv (zaf4 C st xs/\zD6 C.P f=true) (vals++caps) ps st K
     |_=>False))
   | .next dd=>g=none/\zaf4 C st xs/\nxtQ dd st.m (λ v mw=>arun C ps (st.app d v mw) K) (zs5 C st xs)
   | .entry dd=>g=none/\zaf4 C st xs/\entQ dd st.m (λ v mw=>arun C ps (st.app d v mw) K) (zs5 C st xs)
   | .eqNil=>g=none/\zaf4 C st xs/\nilQ (λ b=>arun C ps (st.app d (.bool b) []) K) (zs5 C st xs)
   |po=>aop C ⟨d,g,po,xs⟩ st λ st'=>arun C ps st' K):=by
 cases po with
 |eqNil=>rfl
 |next dd=>rfl
 |entry dd=>rfl
 |call f=>
  simp only[arun,aop,zbw5,PO.isNilQ,PO.isNext,bP,bV];cases zI2 st g with
  |none=>rfl
  |some gv=>simp only[zA3,eV]
 |callv=>
  simp only[arun,aop,PO.isNilQ,PO.isNext,bP,bV];cases zI2 st g with
  |none=>rfl
  |some gv=>
   simp only;generalize zs5 C st xs=vv;rcases vv with _|⟨x,vs⟩
   .rfl
   .cases x<;>first|rfl|(simp only[zbw5,zA3,eV])
 |callb=>
  simp only[arun,aop,PO.isNilQ,PO.isNext,bP,bV];cases zI2 st g with
  |none=>rfl
  |some gv=>
   simp only;generalize zs5 C st xs=vv;rcases vv with _|⟨x,vs⟩
   .rfl
   .cases x<;>first|rfl|(simp only[zbw5,zA3,eV])
 |callm f=>
  simp only[arun,aop,zaA0,PO.isNilQ,PO.isNext,bP,bV];cases zI2 st g with
  |none=>rfl
  |some gv=>rfl
 |callvm=>
  simp only[arun,aop,PO.isNilQ,PO.isNext,bP,bV];cases zI2 st g with
  |none=>rfl
  |some gv=>
   simp only;generalize zs5 C st xs=vv;rcases vv with _|⟨x,vs⟩
   .rfl
   .cases x<;>first|rfl|(simp only[zaA0])
 |_=>rfl
def zaX1(C:Cx)(f:FuncId)(d:Option Nat)(g:Option (Nat×Bool))(gv:Bool)(ob:Prop)(args:List A)(rw:List (Nat×MS))(ps:List POp)(st:St)(K:St->Prop):Prop:=
 ∃r,(gv=true->ob/\PFn C f args r)/\(g=none\/(if r.scal then[]else rw)=[]/\r.isVV=true)/\((st.app d (zQ0 g gv r) (if r.scal then[]else rw)).mem=st.mem/\(st.app d (zQ0 g gv r) (if r.scal then[]else rw)).nx=st.nx)/\zaZ1 C ps (st.app d (zQ0 g gv r) (if r.scal then[]else rw)) K
theorem zdg7{C:Cx}{f:FuncId}{d:Option Nat}{g:Option (Nat×Bool)}{gv:Bool}{ob:Prop}{args:List A}{rw:List (Nat×MS)}{ps:List POp}{st:St}{K:St->Prop}{r:A}
  (hf:gv=true->PFn C f args r) (h:zaZ1 C ps (st.app d (zQ0 g gv r) []) K)
  (ho:gv=true->ob:=by intro;trivial) (hg:g=none\/(if r.scal then[]else rw)=[]/\r.isVV=true:=by first|exact .inl rfl|exact .inr ⟨rfl,rfl⟩) (hn:(if r.scal then[]else rw)=[]:=by rfl):zaX1 C f d g gv ob args rw ps st K:=⟨r,λ e=>⟨ho e,hf e⟩,hg,by rw[hn];exact⟨rfl,rfl⟩,by rw[hn];exact h⟩
theorem zdg8(C:Cx)(st:St)(K:St->Prop):zaZ1 C [] st K=K st:=rfl
theorem zcS5(C:Cx)(d:Option Nat)(g:Option (Nat×Bool))(po:PO)(xs:List PX)(ps:List POp)(st:St)(K:St->Prop):
  zaZ1 C (⟨d,g,po,xs⟩::ps) st K=(match po with
   | .call f=>(match zI2 st g with
    |none=>False
    |some gv=>zaX1 C f d g gv (zaf4 C st xs/\zA1 st.m (zs5 C st xs)) (zG8 st.m (zs5 C st xs)) (zP9 st.m (zC3 (zs5 C st xs))) ps st K)
   | .callv=>(match zI2 st g with
    |none=>False
    |some gv=>(match zs5 C st xs with
     | .clo f caps::vals=>zaX1 C f d g gv (zaf4 C st xs/\zD6 C.P f=true/\zA1 st.m (vals++caps)) (zG8 st.m (vals++caps)) (zP9 st.m (zC3 (vals++caps))) ps st K
     |_=>False))
   | .callb=>(match zI2 st g with
    |none=>False
    |some gv=>(match zs5 C st xs with
     | .bnd f cs::vals=>zaX1 C f d g gv (zaf4 C st xs/\zD6 C.P f=true/\zA1 st.m (.agg cs::vals)) (zG8 st.m (.agg cs::vals)) (zP9 st.m (zC3 (.agg cs::vals))) ps st K
     |_=>False))
   |po=>aop C ⟨d,g,po,xs⟩ st λ st'=>(st'.mem=st.mem/\st'.nx=st.nx)/\zaZ1 C ps st' K):=by
 cases po with
 |call f=>
  simp only[zaZ1,aop,zaX1];cases zI2 st g with
  |none=>rfl
  |some gv=>simp only[zA3,eV]
 |callv=>
  simp only[zaZ1,aop];cases zI2 st g with
  |none=>rfl
  |some gv=>
   simp only;generalize zs5 C st xs=vv;rcases vv with _|⟨x,vs⟩
   .rfl
   .cases x<;>first|rfl|(simp only[zaX1,zA3,eV])
 |callb=>
  simp only[zaZ1,aop];cases zI2 st g with
  |none=>rfl
  |some gv=>
   simp only;generalize zs5 C st xs=vv;rcases vv with _|⟨x,vs⟩
   .rfl
   .cases x<;>first|rfl|(simp only[zaX1,zA3,eV])
 |_=>rfl
def zaX2(C:Cx)(an:List (List Nat))(f:FuncId)(d:Option Nat)(g:Option (Nat×Bool))(gv:Bool)(ob:Prop)(args:List A)(rw:List (Nat×MS))(ids:List Nat)(cok:Bool)(ps:List POp)(st:St)(log:List (List Nat×List Nat))(K:St->Prop):Prop:=
 ∃r,(gv=true->ob/\PFn C f args r)/\(g=none\/(if r.scal then[]else rw)=[]/\r.isVV=true)/\zbh3 (an.getD log.length []) 0 log ids ((if r.scal then[]else rw).map (·.1))=true/\cok=true/\
  zaz9 C an ps (st.app d (zQ0 g gv r) (if r.scal then[]else rw)) (log++[(ids,(if r.scal then[]else rw).map (·.1))]) K
theorem zdg9{C:Cx}{an:List (List Nat)}{f:FuncId}{d:Option Nat}{g:Option (Nat×Bool)}{gv:Bool}{ob:Prop}{args:List A}{rw:List (Nat×MS)}{ids:List Nat}{cok:Bool}{ps:List POp}{st:St}{log:List (List Nat×List Nat)}{K:St->Prop}{r:A}
  (hf:gv=true->PFn C f args r) (h:zbh3 (an.getD log.length []) 0 log ids ((if r.scal then[]else rw).map (·.1))=true/\cok=true/\zaz9 C an ps (st.app d (zQ0 g gv r) (if r.scal then[]else rw)) (log++[(ids,(if r.scal then[]else rw).map (·.1))]) K)
  (ho:gv=true->ob:=by intro;trivial) (hg:g=none\/(if r.scal then[]else rw)=[]/\r.isVV=true:=by first|exact .inl rfl|exact .inr ⟨rfl,rfl⟩):zaX2 C an f d g gv ob args rw ids cok ps st log K:=⟨r,λ e=>⟨ho e,hf e⟩,hg,h.1,h.2.1,h.2.2⟩
def zaN1(C:Cx)(an:List (List Nat))(f:FuncId)(d:Option Nat)(g:Option (Nat×Bool))(gv:Bool)(ob:Prop)(vals:List A)(ids:List Nat)(cok:Bool)(ps:List POp)(st:St)(log:List (List Nat×List Nat))(K:St->Prop):Prop:=
 zaT7 C st.m st.nx f vals g gv ob (λ n=>∀x,st.nx<=x->x<st.nx+n->st.m x=.fresh) λ v mw=>zbh3 (an.getD log.length []) 0 log ids (mw.map (·.1))=true/\cok=true/\zaz9 C an ps (st.app d v mw) (log++[(ids,mw.map (·.1))]) K
theorem zcS6{C:Cx}{an:List (List Nat)}{f:FuncId}{d:Option Nat}{ob:Prop}{vals:List A}{ids:List Nat}{cok:Bool}{ps:List POp}{st:St}{log:List (List Nat×List Nat)}{K:St->Prop}(l:List (Nat×Nat)){az:List A}{ms ms':List (Nat×Row)}{k k':Nat}{r:A}
  (hf:MFn C f az ms k r ms' k') (hok:okM st.m st.nx l vals az ms k k')
  (h:zbh3 (an.getD log.length []) 0 log ids ((mwM st.m (l++newL k st.nx (k'-k)) vals az ms ms' k k').map (·.1))=true/\cok=true/\zaz9 C an ps (st.app d (renR (l++newL k st.nx (k'-k)) r) (mwM st.m (l++newL k st.nx (k'-k)) vals az ms ms' k k')) (log++[(ids,(mwM st.m (l++newL k st.nx (k'-k)) vals az ms ms' k k').map (·.1))]) K)
  (ho:ob:=by trivial) (hr:zbF0 r=true:=by rfl):zaN1 C an f d none true ob vals ids cok ps st log K:=
 ⟨l,az,ms,k,r,ms',k',λ _=>⟨ho,hf,hok,λ x hx _=>zcw5 st x hx⟩,(λ h=>nomatch h),.inl rfl,zbF1 hr,h⟩
theorem zdh0(C:Cx)(an:List (List Nat))(st:St)(log:List (List Nat×List Nat))(K:St->Prop):zaz9 C an [] st log K=K st:=rfl
theorem zcS7(C:Cx)(an:List (List Nat))(d:Option Nat)(g:Option (Nat×Bool))(po:PO)(xs:List PX)(ps:List POp)(st:St)(log:List (List Nat×List Nat))(K:St->Prop):
  zaz9 C an (⟨d,g,po,xs⟩::ps) st log K=(match po with
   | .call f=>(match zG1 st.slot g with
    |none=>False
    |some gv=>zaX2 C an f d g gv (gdsF C st.slot xs/\zA1 st.m (zF2 C st.slot xs)) (zG8 st.m (zF2 C st.slot xs)) (zP9 st.m (zC3 (zF2 C st.slot xs))) (zR0 (zs5 C st xs)) (zaX0 (zs5 C st xs)) ps st log K)
   | .callv=>(match zG1 st.slot g with
    |none=>False
    |some gv=>(match zF2 C st.slot xs with
     | .clo f caps::vals=>zaX2 C an f d g gv (gdsF C st.slot xs/\zD6 C.P f=true/\zA1 st.m (vals++caps)) (zG8 st.m (vals++caps)) (zP9 st.m (zC3 (vals++caps))) (zR0 (zs5 C st xs)) (zaX0 (zs5 C st xs)) ps st log K
     |_=>False))
   | .callb=>(match zG1 st.slot g with
    |none=>False
    |some gv=>(match zF2 C st.slot xs with
     | .bnd f cs::vals=>zaX2 C an f d g gv (gdsF C st.slot xs/\zD6 C.P f=true/\zA1 st.m (.agg cs::vals)) (zG8 st.m (.agg cs::vals)) (zP9 st.m (zC3 (.agg cs::vals))) (zR0 (zs5 C st xs)) (zaX0 (zs5 C st xs)) ps st log K
     |_=>False))
   | .callm f=>(match zG1 st.slot g with
    |none=>False
    |some gv=>zaN1 C an f d g gv (gdsF C st.slot xs) (zF2 C st.slot xs) (zR0 (zs5 C st xs)) (zaX0 (zs5 C st xs)) ps st log K)
   | .callvm=>(match zG1 st.slot g with
    |none=>False
    |some gv=>(match zF2 C st.slot xs with
     | .clo f caps::vals=>zaN1 C an f d g gv (gdsF C st.slot xs/\zD6 C.P f=true) (vals++caps) (zR0 (zs5 C st xs)) (zaX0 (zs5 C st xs)) ps st log K
     |_=>False))
   |po=>aopS C ⟨d,g,po,xs⟩ st.toS st.nx λ v mw=>zbh3 (an.getD log.length []) 0 log (idsP po (zs5 C st xs)) (mw.map (·.1))=true/\zaX0 (zs5 C st xs)=true/\
     zaz9 C an ps (st.app d v mw) (log++[(idsP po (zs5 C st xs),mw.map (·.1))]) K):=by
 cases po with
 |call f=>
  simp only[zaz9,aopS,zaX2,St.toS,idsP];cases zG1 st.slot g with
  |none=>rfl
  |some gv=>simp only[zA3,eV]
 |callv=>
  simp only[zaz9,aopS,St.toS,idsP];cases zG1 st.slot g with
  |none=>rfl
  |some gv=>
   simp only;generalize zF2 C st.slot xs=vv;rcases vv with _|⟨x,vs⟩
   .rfl
   .cases x<;>first|rfl|(simp only[zaX2,zA3,eV])
 |callb=>
  simp only[zaz9,aopS,St.toS,idsP];cases zG1 st.slot g with
  |none=>rfl
  |some gv=>
   simp only;generalize zF2 C st.slot xs=vv;rcases vv with _|⟨x,vs⟩
   .rfl
   .cases x<;>first|rfl|(simp only[zaX2,zA3,eV])
 |callm f=>
  simp only[zaz9,aopS,zaN1,St.toS,idsP];cases zG1 st.slot g with
  |none=>rfl
  |some gv=>rfl
 |callvm=>
  simp only[zaz9,aopS,St.toS,idsP];cases zG1 st.slot g with
  |none=>rfl
  |some gv=>
   simp only;generalize zF2 C st.slot xs=vv;rcases vv with _|⟨x,vs⟩
   .rfl
   .cases x<;>first|rfl|(simp only[zaN1])
 |_=>rfl
def zah9{V:Type}(k:Int):List (Int×V)->Option V
 |[]=>none
 |p::l=>bif k==p.1 then some p.2 else zah9 k l
def zbR2{V:Type}(k:Int)(v:V):List (Int×V)->List (Int×V)
 |[]=>[(k,v)]
 |p::l=>bif k==p.1 then(k,v)::l else p::zbR2 k v l
def mI{V:Type}(q:IntKind)(f:V->List A)(p:Int×V):List A:=.int q p.1::f p.2
@[go_sem] theorem zef7{V:Type}(q:IntKind)(f:V->List A)(k:Int)(l:List (Int×V)):zaz1 (.int q k) (l.map (mI q f))=(zah9 k l).map f:=by
 induction l with
 |nil=>rfl
 |cons p l ih=>
  simp only[cX,mI,zaz1,List.headD_cons,eqK,eq1,zah9,List.tail_cons];cases k==p.1
  .exact ih
  .rfl
@[go_sem] theorem zea1{V:Type}(q:IntKind)(f:V->List A)(p:Int×V):zn6 (mI q f p)=zn6 (f p.2):=by simp[mI,zn6,A.pure1]
@[go_sem] theorem zeg8{V:Type}(kz:A)(ag:Bool)(q:IntKind)(f:V->List A)(p:Int×V):mEnt [kz,.bool ag] (mI q f p)=[.int q p.1,zap6 ag (f p.2)]:=rfl
@[go_sem] theorem zeg9{V:Type}(q:IntKind)(f:V->List A)(l:List (Int×V))(i:Nat)(k0:Int)(v0:V):(l.map (mI q f)).getD i (.int q k0::f v0)=mI q f (l.getD i (k0,v0)):=by simp only[bS,cH];cases l[i]? <;>rfl
@[go_sem] theorem zeh0(s:List Nat)(P:A->Prop):(∀x∈s.map iE,∀a∈x,P a)=(∀i∈s,P (.int .i64 (i:Nat))):=propext ⟨λ h i hi=>h _ (cD.2 ⟨i,hi,rfl⟩) _ (.head _),λ h x hx a ha=>by
 obtain⟨i,hi,rfl⟩:=cD.1 hx;obtain rfl:a=.int .i64 (i:Nat):=by simpa [iE]using ha
 exact h i hi⟩
@[go_sem] theorem zdU7(y i:Nat)(k:IntKind)(c:Int)(s:List Nat):zcD2 ([.mp y,.int k c]::(s++[i]).map iE)=some (y,i):=by simp[zcD2,iE]
@[go_sem] theorem zed7{V:Type}(ag:Bool)(f:V->List A)(z:V)(o:Option V):mval ag (f z) (o.map f)=zap6 ag (f (o.getD z)):=by cases o<;>rfl
@[go_sem] theorem zea2{V:Type}(ag:Bool)(z:List A):mval ag z none=zap6 ag z:=rfl
@[go_sem] theorem zdU8{V W:Type}(f:V->W)(o:Option V):(o.map f).isSome=o.isSome:=by cases o<;>rfl
attribute [go_sem ↓] aop aopS
attribute [go_sem] zdu6 zdg6 zdg8 zcS5 zdh0 zcS7 zG1 zF2 gdsF St.toS idsP zR0 idsA zbh2 zaP5 zaX0 zbl5 A.flatCap okM zbE4 argM A.hands zdQ9 zcZ5 fzM zcq8 zbP9 newL zak7 mwM entM zbZ6 MS.like renR ren0 zcE1 resL zbQ2 zca7 zI2 St.slot St.m look zs5 zaf4 xv A.nc A.gd ev zcq0 zaD3 zaM4 zap7 A.cells A.isV A.isK A.isStr A.isVV allV allK zz0 laid zbY0 zap6
 zI1 key1 keyL A.isAg nxtQ entQ PO.lax nilQ zQ0 St.app putF putM nxt rm zcq7 St.drop zA3 zG8 zA1 frz frz1 zaz5 zat3 zaz6 zP8 zC3 zP9 A.scal A.scal1 A.scal2 zz9 zbZ5 zn6 A.pure1 pureEs
 zq9 LK.fits eqA eq1 glob zI9 zcs1 allG zbh1 resA resG zcs0 Le leF leM rho ren ren1 zak6 idOk zbw3 idEs zaP3
def SeqQ(C:Cx)(E:Env)(y:PC)(Q:Exit->St->Prop):Exit->St->Prop:=λ e s=>match e with|.normal=>AW C E y Q s|e=>Q e s
def BlkQ(id:Nat)(Q:Exit->St->Prop):Exit->St->Prop:=λ e s=>match e with|.exit i=>(if i=id then Q .normal s else Q (.exit i) s)|e=>Q e s
section
variable {C:Cx} {E:Env} {Q:Exit→St→Prop} {st:St}
theorem za0{x y:PC}(h:AW C E x (SeqQ C E y Q) st):AW C E (.seq x y) Q st:=zdT8 h
theorem zy9{id:Nat}{c:PC}(h:AW C E c (BlkQ id Q) st):AW C E (.block id c) Q st:=zca3 h
theorem zcG0{y:PC}(s:St):SeqQ C E y Q .normal s=AW C E y Q s:=rfl
theorem zdu7{y:PC}(s:St):SeqQ C E y Q .ret s=Q .ret s:=rfl
theorem zdh1{y:PC}(i:Nat)(s:St):SeqQ C E y Q (.exit i) s=Q (.exit i) s:=rfl
theorem zcG1(i:Nat)(s:St):BlkQ i Q .normal s=Q .normal s:=rfl
theorem zdu8(i:Nat)(s:St):BlkQ i Q .ret s=Q .ret s:=rfl
theorem zdh2(i j:Nat)(s:St):BlkQ i Q (.exit j) s=if j=i then Q .normal s else Q (.exit j) s:=rfl
theorem zdu9(rs:List RX)(r:A)(fr:List (Nat×A))(m:List (Nat×Row))(n:Nat):Post rs r .ret ⟨fr,m,n⟩=zcs1 ⟨fr,m,n⟩ rs r:=rfl
theorem zcG2(rs:List RX)(r:A)(fr:List (Nat×A))(m:List (Nat×Row))(n:Nat):Post rs r .normal ⟨fr,m,n⟩=zcs1 ⟨fr,m,n⟩ rs r:=rfl
theorem zdh3(k:Nat)(rs:List RX)(rl:List A)(ms':List (Nat×Row))(k':Nat)(fr:List (Nat×A))(m:List (Nat×Row))(n:Nat):zcE8 k rs rl ms' k' .ret ⟨fr,m,n⟩=zbe0 k ⟨fr,m,n⟩ rs rl ms' k':=rfl
theorem zcx4(k:Nat)(rs:List RX)(rl:List A)(ms':List (Nat×Row))(k':Nat)(fr:List (Nat×A))(m:List (Nat×Row))(n:Nat):zcE8 k rs rl ms' k' .normal ⟨fr,m,n⟩=zbe0 k ⟨fr,m,n⟩ rs rl ms' k':=rfl
attribute [go_sem] zdh3 zcx4 zcF9 zdu4 zdg4 St.gh St.ghOk St.fz St.fzOk St.own0 St.ownb St.ownbOk zbE8 zbe4 zdu3 St.unfs St.cast St.unf zcc2 zay5 unfA memN fzA fzCs fzV fzEs fzFr zcF6 zcs5 zbK3 zcF7 zbW7 zcx0 zcx1 zbW8
attribute [go_sem] zcG0 zdu7 zdh1 zcG1 zdu8 zdh2 zdu9 zcG2
end
theorem zcc4(n:Nat):zN7 n []:=by intro c hc;cases hc
theorem zcG3(n:Nat)(a:List A)(b:List (List A)):zN7 n (a::b)↔a.length=n/\zN7 n b:=by simp only[zN7,bX];exact⟨λ h=>⟨h a (.inl rfl),λ c hc=>h c (.inr hc)⟩,λ⟨h1,h2⟩ c hc=>hc.elim (λ e=>e▸h1) (h2 c)⟩
theorem zbF2:zU1 []:=by intro c hc;cases hc
attribute [go_sem] dG Nat.add_zero jU cU Nat.lt_add_one fM Int.toNat_zero Int.toNat_natCast Int.natCast_zero imp_self cN fU iA iC and_false or_true true_or gF iB forall_const true_implies iD fK bT bV eq_self ne_eq jQ gD cA eK eT gC cI dI Bool.not_not bP eG cond_true cond_false Bool.cond_true_left Bool.cond_true_right Bool.cond_false_left Bool.cond_false_right bU cV Option.getD_some Option.getD_none Option.map_some Option.map_none Option.bind_some Option.isSome_some Option.isNone_none List.length_cons List.length_nil cO bR List.all_nil List.all_cons List.nil_append eR iS cX List.set_cons_zero List.set_nil List.getD_cons_zero hB eA List.headD_cons List.contains_nil List.take_nil List.drop_nil iZ
attribute [simp] zcc4 zbF2
attribute [go_sem] zcc4 zcG3 zbF2
@[go_sem] theorem zea3(l:List UInt8):(l.map λ b=>[A.int .u8 (b.toNat:Int)])=(l.map λ b=>(b.toNat:Int)).map (eI .u8):=by rw[jJ];rfl
@[go_sem] theorem zeh1(q:Nat×MS)(l r:List (Nat×MS)):q::l++r=q::(l++r):=rfl
@[go_sem] theorem zeh2:([]:List A).flatMap zP8=[]:=rfl
@[go_sem] theorem zeh3(x lo n:Nat)(cs:List A):(A.own x lo n::cs).flatMap zP8=x::cs.flatMap zP8:=rfl
@[go_sem] theorem zeh4(s:ByteArray)(cs:List A):(A.str s::cs).flatMap zP8=cs.flatMap zP8:=rfl
@[go_sem] theorem zeh5(k:IntKind)(n:Int)(cs:List A):(A.int k n::cs).flatMap zP8=cs.flatMap zP8:=rfl
@[go_sem] theorem zef8(b:Bool)(cs:List A):(A.bool b::cs).flatMap zP8=cs.flatMap zP8:=rfl
@[go_sem] theorem zeG7(l:List (List A))(cs:List A):(A.sl l::cs).flatMap zP8=cs.flatMap zP8:=rfl
attribute [go_sem] List.isEmpty_nil List.isEmpty_cons jY List.forall_mem_cons dX
@[go_sem↓] theorem zed8(r:A):(if r.scal=true then([]:List (Nat×MS))else[])=[]:=jY _
@[go_sem] theorem zef9:IntKind.i64.wrap (0+1)=1:=by decide
@[go_sem] theorem zeg0:IntKind.i64.wrap (1+1)=2:=by decide
@[go_sem] theorem zeg1:IntKind.i64.wrap (2+1)=3:=by decide
@[go_sem] theorem zeg2(c x:A)(cs xs:List A):upd (c::cs) 0 (x::xs)=x::upd cs 0 xs:=by simp[upd,eD]
@[go_sem] theorem zeg3(cs:List A)(n:Nat):upd cs n []=cs:=by simp[upd]
@[go_sem] theorem zeh6(c:A)(cs new:List A)(n:Nat):upd (c::cs) (n+1) new=c::upd cs n new:=by simp[upd,Nat.add_right_comm]
@[go_sem] theorem zeg4(c:A)(cs:List A)(k:Nat):sub (c::cs) 0 (k+1)=c::sub cs 0 k:=by simp[sub]
@[go_sem] theorem zeg5(cs:List A)(n:Nat):sub cs n 0=[]:=by simp[sub]
@[go_sem] theorem zeh7(c:A)(cs:List A)(n k:Nat):sub (c::cs) (n+1) k=sub cs n k:=by simp[sub]
def gd{α:Type}(p:Prop)[Decidable p](k:Option α):Option α:=if p then k else none
theorem zg4{α:Type}{p:Prop}[Decidable p]{k:Option α}{r:α}(h:gd p k=some r):p/\k=some r:=by
 unfold gd at h;split at h
 .exact⟨by assumption,h⟩
 .cases h
theorem zb0{α:Type}{p:Prop}[Decidable p]{k:Option α}(h:p):gd p k=k:=bO h
theorem zd0{α β:Type}{m:Option α}{f:α->Option β}{r:β}(h:m.bind f=some r):∃v,m=some v/\f v=some r:=by
 cases m with
 |none=>cases h
 |some v=>exact⟨v,rfl,h⟩
theorem zbw6{α:Type}{c:Bool}{x y r:α}(hb:c=true)(h:(if c=true then x else y)=r):x=r:=by rw[bO hb]at h;exact h
theorem zed9{α:Type}{c:Bool}{x y r:α}(hb:c=false)(h:(if c=true then x else y)=r):y=r:=by subst hb;exact h
def iter{G X:Type}(body:G->Option (G⊕X)):Nat->G->Option X
 |0,_=>none
 |n+1,g=>match body g with
  |none=>none
  |some (.inl g')=>iter body n g'
  |some (.inr x)=>some x
theorem zbK6{G X:Type}{body:G->Option (G⊕X)}{x:X}:∀{n m:Nat} {g:G},iter body n g=some x->n<=m->iter body m g=some x
 |0,_,_,h,_=>by cases h
 |n+1,0,_,_,hm=>by omega
 |n+1,m+1,g,h,hm=>by
  simp only[iter]at h⊢;cases hb:body g with
  |none=>rw[hb]at h;cases h
  |some y=>
   rw[hb]at h;cases y with
   |inl g'=>exact zbK6 (n:=n) (m:=m) h (by omega)
   |inr x'=>exact h
open Classical in
noncomputable def zc1{G X:Type}(body:G->Option (G⊕X))(g:G):Option X:=
 match iter body 1000 g with
 |some x=>some x
 |none=>if h:∃n x,iter body n g=some x then some (Classical.choose (eH h))else none
theorem zay6{G X:Type}{body:G->Option (G⊕X)}{g:G}{x:X}:zc1 body g=some x↔∃n,iter body n g=some x:=by
 have both:∀{n m:Nat} {x y:X},iter body n g=some x->iter body m g=some y->some x=some y:=λ{n m x y} h1 h2=>by rw[<-zbK6 h1 (Nat.le_add_right n m),<-zbK6 h2 (Nat.le_add_left m n)]
 unfold zc1;cases h0:iter body 1000 g with
 |some y=>exact⟨λ h=>⟨1000,by rw[h0];exact h⟩,λ⟨n,hn⟩=>both h0 hn⟩
 |none=>
  constructor
  .intro h;simp only at h;split at h
   .rename_i hh;cases h;exact⟨_,eH (eH hh)⟩
   .cases h
  .rintro⟨n,hn⟩;have hh:∃n x,iter body n g=some x:=⟨n,x,hn⟩;simp only;rw[jS hh];exact both (eH (eH hh)) hn
theorem zh3{G X:Type}(body:G->Option (G⊕X))(g:G):zc1 body g=match body g with
  |none=>none
  |some (.inl g')=>zc1 body g'
  |some (.inr x)=>some x:=by
 cases hb:body g with
 |none=>
  simp only;cases h:zc1 body g with
  |none=>rfl
  |some x=>
   obtain⟨n,hn⟩:=zay6.1 h;cases n with
   |zero=>cases hn
   |succ n=>simp only[iter,hb]at hn;cases hn
 |some y=>
  cases y with
  |inr x=>exact zay6.2 ⟨1,by simp[iter,hb]⟩
  |inl g'=>
   simp only;cases h:zc1 body g' with
   |some x=>obtain⟨n,hn⟩:=zay6.1 h;exact zay6.2 ⟨n+1,by simp only[iter,hb];exact hn⟩
   |none=>
    cases h2:zc1 body g with
    |none=>rfl
    |some x=>
     obtain⟨n,hn⟩:=zay6.1 h2;cases n with
     |zero=>cases hn
     |succ n=>simp only[iter,hb]at hn;rw[zay6.2 ⟨n,hn⟩]at h;cases h
def zaZ4(E:Env){V:Type}(J:V->St)(P:V->Prop)(s:St):Prop:=∃v,P v/\St.le E s (J v)
theorem zcG4{E:Env}{V:Type}{J:V->St}{P:V->Prop}{s:St}{k:Nat}(hK:E.k0=k)(v:V)(h:P v)(l:List (Nat×Nat))(hl:Le l s (J v)/\zaz7 k l (J v).nx=true):zaZ4 E J P s:=⟨v,h,St.le_of l hl.1 (by rw[hK];exact hl.2)⟩
def zbw7(E:Env){V:Type}(J:V->St)(P:V->Prop)(Q:Exit->St->Prop):Exit->St->Prop:=λ e s=>match e with|.normal=>zaZ4 E J P s|e=>Q e s
def BlkJ(E:Env){V:Type}(id:Nat)(J:V->St)(P:V->Prop)(Q:Exit->St->Prop):Exit->St->Prop:=λ e s=>match e with
 | .normal=>zaZ4 E J P s
 | .exit i=>if i=id then zaZ4 E J P s else Q (.exit i) s
 |e=>Q e s
def zcG5(E:Env){G X:Type}(I:G->St)(y:G⊕X)(s:St):Prop:=∃g',y=.inl g'/\St.le E s (I g')
theorem zcG6{E:Env}{G X:Type}{I:G->St}{g':G}{s:St}{k:Nat}(hK:E.k0=k)(l:List (Nat×Nat))(hl:Le l s (I g')/\zaz7 k l (I g').nx=true):zcG5 (X:=X) E I (.inl g') s:=⟨g',rfl,St.le_of l hl.1 (by rw[hK];exact hl.2)⟩
def zbR3(E:Env){G X:Type}(I:G->St)(y:G⊕X)(Q:Exit->St->Prop):Exit->St->Prop:=λ e s=>match e with|.normal=>zcG5 E I y s|e=>Q e s
section
variable {C:Cx} {E:Env} {Q:Exit→St→Prop} {st:St}
theorem AW.join{V:Type}{J:V->St}{c:PC}{Q':Exit->St->Prop}(h:AW C E c Q' st)
  (hq:∀e s,Q' e s->Q e s\/∃v,St.le E s (J v)/\Q e (J v)):AW C E c Q st:=
 λ code hc a w hs=>wp_mono (h code hc a w hs) λ e a' w' ⟨st',h1,h2⟩=>by
  rcases hq e st' h1 with h3|⟨v,h3,h4⟩
  .exact⟨st',h3,h2⟩
  .exact⟨J v,h4,h3 a' w' h2⟩
theorem zdL1{x:PX}{p q:PC}{V:Type}(J:V->St)(P:V->Prop){b:Bool}(hx:xv C.G st.slot x=.bool b)(hG:E.G=C.G)(hk:∀v,P v->Q .normal (J v))
  (ht:b=true->AW C E p (zbw7 E J P Q) st) (hf:b=false->AW C E q (zbw7 E J P Q) st):AW C E (.cond x p q) Q st:=by
 have key:∀c,AW C E c (zbw7 E J P Q) st->AW C E c Q st:=λ c h=>h.join (J:=J) λ e s h=>by
  cases e with
  |normal=>obtain⟨v,h1,h2⟩:=h;exact .inr ⟨v,h2,hk v h1⟩
  |_=>exact .inl h
 exact zbW5 hx hG (λ h=>key _ (ht h)) (λ h=>key _ (hf h))
theorem zB7{id:Nat}{c:PC}{V:Type}(J:V->St)(P:V->Prop)(hk:∀v,P v->Q .normal (J v))(h:AW C E c (BlkJ E id J P Q) st):AW C E (.block id c) Q st:=by
 refine zca3 (h.join (J:=J) λ e s h=>?_);cases e with
 |normal=>obtain⟨v,h1,h2⟩:=h;exact .inr ⟨v,h2,hk v h1⟩
 |exit i=>
  simp only[BlkJ]at h⊢;split at h
  .obtain⟨v,h1,h2⟩:=h;rename_i hi;exact .inr ⟨v,h2,by rw[bO hi];exact hk v h1⟩
  .rename_i hi;exact .inl (by rw[bN hi];exact h)
 |_=>exact .inl h
def zcG7(E:Env){V:Type}(id:Nat)(J:V->St)(P:V->Prop)(Q:Exit->St->Prop):Exit->St->Prop:=λ e s=>match e with
 | .normal=>zaZ4 E J P s\/Q .normal s
 | .exit i=>if i=id then(zaZ4 E J P s\/Q .normal s)else Q (.exit i) s
 |e=>Q e s
theorem zcs8{id:Nat}{c:PC}{V:Type}(J:V->St)(P:V->Prop)(hk:∀v,P v->Q .normal (J v))(h:AW C E c (zcG7 E id J P Q) st):AW C E (.block id c) Q st:=by
 refine zca3 (h.join (J:=J) λ e s h=>?_);cases e with
 |normal=>
  rcases h with⟨v,h1,h2⟩|h
  .exact .inr ⟨v,h2,hk v h1⟩
  .exact .inl h
 |exit i=>
  simp only[zcG7]at h⊢;split at h
  .rename_i hi;rcases h with⟨v,h1,h2⟩|h
   .exact .inr ⟨v,h2,by rw[bO hi];exact hk v h1⟩
   .exact .inl (by rw[bO hi];exact h)
  .rename_i hi;exact .inl (by rw[bN hi];exact h)
 |_=>exact .inl h
theorem zcx5{c:PC}{G X:Type}{body:G->Option (G⊕X)}{g0:G}{x:X}(I:G->St){k:Nat}(hK:E.k0=k)(l:List (Nat×Nat))(hx:zc1 body g0=some x)(hle:Le l st (I g0)/\zaz7 k l (I g0).nx=true)
  (h:∀g y,body g=some y->(∀x',y=.inr x'->x'=x)->AW C E c (zbR3 E I y Q) (I g)):AW C E (.loop c) Q st:=by
 obtain⟨n,hn⟩:=zay6.1 hx;refine zcw7 (G:={p:Nat×G//iter body p.1 p.2=some x}) (λ p=>I p.1.2) (λ _=>True) (λ p=>p.1.1) ⟨(n,g0),hn⟩ trivial (St.le_of l hle.1 (by rw[hK];exact hle.2)) λ⟨⟨m,g⟩,hm⟩ _=>?_;cases m with
 |zero=>cases hm
 |succ m=>
  simp only[iter]at hm;cases hb:body g with
  |none=>rw[hb]at hm;cases hm
  |some y=>
   rw[hb]at hm;refine(h g y hb λ x' e=>by subst e;exact dP hm).mono λ e s hs=>?_;cases e with
   |normal=>obtain⟨g',rfl,h2⟩:=hs;exact⟨⟨(m,g'),hm⟩,trivial,h2,dY m⟩
   |_=>exact hs
def zdv0(E:Env){G X β:Type}(I:G->St)(body:G->Option (G⊕X))(kk:X->Option β)(R:Option β)(s:St):Prop:=∃g',(zc1 body g').bind kk=R/\St.le E s (I g')
def zda8(E:Env){G X β:Type}(I:G->St)(body:G->Option (G⊕X))(kk:X->Option β)(R:Option β)(Q:Exit->St->Prop):Exit->St->Prop:=λ e s=>match e with|.normal=>zdv0 E I body kk R s|e=>Q e s
theorem zcx6{G X β:Type}(I:G->St)(body:G->Option (G⊕X))(kk:X->Option β)(R:Option β)(s:St):zda8 E I body kk R Q .normal s=zdv0 E I body kk R s:=rfl
theorem zdh4{G X β:Type}(I:G->St)(body:G->Option (G⊕X))(kk:X->Option β)(R:Option β)(s:St):zda8 E I body kk R Q .ret s=Q .ret s:=rfl
theorem zcS8{G X β:Type}(I:G->St)(body:G->Option (G⊕X))(kk:X->Option β)(R:Option β)(i:Nat)(s:St):zda8 E I body kk R Q (.exit i) s=Q (.exit i) s:=rfl
theorem zdv1{c:PC}{G X β:Type}{body:G->Option (G⊕X)}{kk:X->Option β}{r:β}(I:G->St){k:Nat}(hK:E.k0=k)(h1:AW C E c (zda8 E I body kk (some r) Q) st)
  (h:∀x,kk x=some r->∀g y,body g=some y->(∀x',y=.inr x'->x'=x)->AW C E c (zbR3 E I y Q) (I g)):AW C E (.loop c) Q st:=by
 refine zdK2 (G:={p:Nat×G//∃x,iter body p.1 p.2=some x/\kk x=some r}) (λ p=>I p.1.2) (λ _=>True) (λ p=>p.1.1) (λ⟨⟨m,g⟩,x,hm,hx⟩ _=>?_) (h1.mono λ e s hs=>?_)
 .cases m with
  |zero=>cases hm
  |succ m=>
   simp only[iter]at hm;cases hb:body g with
   |none=>rw[hb]at hm;cases hm
   |some y=>
    rw[hb]at hm;refine(h x hx g y hb λ x' e=>by subst e;exact dP hm).mono λ e s hs=>?_;cases e with
    |normal=>obtain⟨g',rfl,h2⟩:=hs;exact⟨⟨(m,g'),x,hm,hx⟩,trivial,h2,dY m⟩
    |_=>exact hs
 .cases e with
  |normal=>obtain⟨g',h2,h3⟩:=hs;obtain⟨x,h4,h5⟩:=zd0 h2;obtain⟨n,hn⟩:=zay6.1 h4;exact⟨⟨(n,g'),x,hn,h5⟩,trivial,h3⟩
  |_=>exact hs
theorem zcx7{V:Type}(J:V->St)(P:V->Prop)(s:St):zbw7 E J P Q .normal s=zaZ4 E J P s:=rfl
theorem zdh5{V:Type}(J:V->St)(P:V->Prop)(s:St):zbw7 E J P Q .ret s=Q .ret s:=rfl
theorem zcS9{V:Type}(J:V->St)(P:V->Prop)(i:Nat)(s:St):zbw7 E J P Q (.exit i) s=Q (.exit i) s:=rfl
theorem zcG8{V:Type}(id:Nat)(J:V->St)(P:V->Prop)(s:St):BlkJ E id J P Q .normal s=zaZ4 E J P s:=rfl
theorem zdv2{V:Type}(id:Nat)(J:V->St)(P:V->Prop)(s:St):BlkJ E id J P Q .ret s=Q .ret s:=rfl
theorem zdh6{V:Type}(id:Nat)(J:V->St)(P:V->Prop)(i:Nat)(s:St):BlkJ E id J P Q (.exit i) s=if i=id then zaZ4 E J P s else Q (.exit i) s:=rfl
theorem zcx8{G X:Type}(I:G->St)(y:G⊕X)(s:St):zbR3 E I y Q .normal s=zcG5 E I y s:=rfl
theorem zdh7{G X:Type}(I:G->St)(y:G⊕X)(s:St):zbR3 E I y Q .ret s=Q .ret s:=rfl
theorem zcT0{G X:Type}(I:G->St)(y:G⊕X)(i:Nat)(s:St):zbR3 E I y Q (.exit i) s=Q (.exit i) s:=rfl
theorem zcx9{V:Type}(id:Nat)(J:V->St)(P:V->Prop)(s:St):zcG7 E id J P Q .normal s=(zaZ4 E J P s\/Q .normal s):=rfl
theorem zdh8{V:Type}(id:Nat)(J:V->St)(P:V->Prop)(s:St):zcG7 E id J P Q .ret s=Q .ret s:=rfl
theorem zcT1{V:Type}(id:Nat)(J:V->St)(P:V->Prop)(i:Nat)(s:St):zcG7 E id J P Q (.exit i) s=if i=id then(zaZ4 E J P s\/Q .normal s)else Q (.exit i) s:=rfl
attribute [go_sem] zcx9 zdh8 zcT1 zcx6 zdh4 zcS8 zcx7 zdh5 zcS9 zcG8 zdv2 zdh6 zcx8 zdh7 zcT0
end
def zbw8{V G X:Type}(body:V->G->Option (G⊕X))(fin:G->X):List V->G->Option X
 |[],g=>some (fin g)
 |e::p,g=>match body e g with
  |none=>none
  |some (.inl g')=>zbw8 body fin p g'
  |some (.inr x)=>some x
noncomputable def rngO{V G X β:Type}(m:List V)(d:V)(body:V->G->Option (G⊕X))(fin:G->X)(g0:G)(kk:X->Option β):Option β:=
 open Classical in if h:∃r,∀q:List Nat,q.Perm (List.range m.length)->(zbw8 body fin (q.map (m.getD · d)) g0).bind kk=some r then some (Classical.choose h)else none
theorem zdh9{V G X β:Type}{m:List V}{d:V}{body:V->G->Option (G⊕X)}{fin:G->X}{g0:G}{kk:X->Option β}{r:β}(h:rngO m d body fin g0 kk=some r):
  ∀q:List Nat,q.Perm (List.range m.length)->(zbw8 body fin (q.map (m.getD · d)) g0).bind kk=some r:=by
 unfold rngO at h;split at h
 .rename_i hh;cases h;exact eH hh
 .cases h
theorem zdL2{V G X β:Type}{m:List V}{d:V}{body:V->G->Option (G⊕X)}{fin:G->X}{g0:G}{kk:X->Option β}{r:β}
  (h:∀q:List Nat,q.Perm (List.range m.length)->(zbw8 body fin (q.map (m.getD · d)) g0).bind kk=some r):rngO m d body fin g0 kk=some r:=by
 unfold rngO;have hh:∃r,∀q:List Nat,q.Perm (List.range m.length)->(zbw8 body fin (q.map (m.getD · d)) g0).bind kk=some r:=⟨r,h⟩;rw[jS hh];have h1:=eH hh _ (iT _);rw[h _ (iT _)]at h1;exact h1.symm
structure RngP {V G X β:Type} (m:List V) (d:V) (body:V->G->Option (G⊕X)) (fin:G->X) (kk:X->Option β) (r:β) (s:List Nat) (g:G):Prop where
 nd:s.Nodup
 lt:∀i∈s,i<m.length
 ok:∀q,(s++q).Perm (List.range m.length)->(zbw8 body fin (q.map (m.getD · d)) g).bind kk=some r
theorem zdL3{n:Nat}{s:List Nat}(h1:s.Nodup)(h2:∀i∈s,i<n):∃q,(s++q).Perm (List.range n):=by
 refine⟨(List.range n).filter (λ i=>!s.contains i),(jL ?_ jA).2 λ i=>?_⟩
 .rw[gU];exact⟨h1,eX.nodup jA,λ a ha b hb e=>by subst e;simp at hb;exact hb.2 ha⟩
 .simp only[cP,dM,dH,cQ,jB,dA];constructor
  .rintro(h|h)
   .exact h2 i h
   .exact h.1
  .intro h
   by_cases c:i∈s
   .exact .inl c
   .exact .inr ⟨h,c⟩
theorem zdv3{V G X β:Type}{m:List V}{d:V}{body:V->G->Option (G⊕X)}{fin:G->X}{kk:X->Option β}{r:β}{s:List Nat}{g:G}{i:Nat}(h:RngP m d body fin kk r s g)(hi:i<m.length)(hs:iE i∉s.map iE):
  ∃y,body (m.getD i d) g=some y/\(∀g',y=.inl g'->RngP m d body fin kk r (s++[i]) g')/\∀x,y=.inr x->kk x=some r:=by
 have hs':i∉s:=λ hh=>hs (cD.2 ⟨i,hh,rfl⟩);have nd:(s++[i]).Nodup:=by rw[gU];exact⟨h.nd,by simp,λ a ha b hb e=>by simp at hb;subst hb;subst e;exact hs' ha⟩
 have lt:∀j∈s++[i],j<m.length:=λ j hj=>by
  rcases cP.1 hj with hj|hj
  .exact h.lt j hj
  .simp at hj;subst hj;exact hi
 obtain⟨q,hq⟩:=zdL3 nd lt;have hq0:=h.ok (i::q) (by rw[bZ]at hq;exact hq);simp only[cX,zbw8]at hq0;cases hb:body (m.getD i d) g with
 |none=>rw[hb]at hq0;cases hq0
 |some y=>
  refine⟨y,rfl,λ g' e=>⟨nd,lt,λ q hq=>?_⟩,λ x e=>?_⟩
  .have:=h.ok (i::q) (by rw[bZ]at hq;exact hq);simp only[cX,zbw8,hb,e]at this;exact this
  .rw[hb,e]at hq0;exact hq0
theorem zdL4{V G X β:Type}{m:List V}{d:V}{body:V->G->Option (G⊕X)}{fin:G->X}{kk:X->Option β}{r:β}{s:List Nat}{g:G}(h:RngP m d body fin kk r s g)(ha:∀i,i<m.length->iE i∈s.map iE):kk (fin g)=some r:=by
 have:=h.ok [] (by
  rw[eR];refine(jL h.nd jA).2 λ i=>?_;rw[dH];refine⟨h.lt i,λ hi=>?_⟩;obtain⟨j,hj,e⟩:=cD.1 (ha i hi);simp only[iE,fX,A.int.injEq,fU,iA]at e;have:j=i:=by omega
  exact this▸hj)
 exact this
def RngN{V G X β:Type}(E:Env)(I:List Nat->G->St)(m:List V)(d:V)(body:V->G->Option (G⊕X))(fin:G->X)(kk:X->Option β)(r:β)(s:List Nat)(w:St):Prop:=
 ∃i g',RngP m d body fin kk r (s++[i]) g'/\St.le E w (I (s++[i]) g')
def RngQ{V G X β:Type}(E:Env)(I:List Nat->G->St)(m:List V)(d:V)(body:V->G->Option (G⊕X))(fin:G->X)(kk:X->Option β)(r:β)(s:List Nat)(Q:Exit->St->Prop):Exit->St->Prop:=λ e w=>match e with|.normal=>RngN E I m d body fin kk r s w|e=>Q e w
section
variable {C:Cx} {E:Env} {Q:Exit→St→Prop} {st:St}
theorem zee0{c:PC}{V G X β:Type}{m:List V}{d:V}{body:V->G->Option (G⊕X)}{fin:G->X}{g0:G}{kk:X->Option β}{r:β}(I:List Nat->G->St)(h:rngO m d body fin g0 kk=some r)(h0:St.le E st (I [] g0))
  (hb:∀s g,RngP m d body fin kk r s g->AW C E c (RngQ E I m d body fin kk r s Q) (I s g)):AW C E (.loop c) Q st:=by
 refine zcw7 (G:=List Nat×G) (λ p=>I p.1 p.2) (λ p=>RngP m d body fin kk r p.1 p.2) (λ p=>m.length-p.1.length) ([],g0) ⟨List.nodup_nil,(λ i hi=>nomatch hi),λ q hq=>zdh9 h q hq⟩ h0 λ p hp=>?_;refine(hb p.1 p.2 hp).mono λ e w hw=>?_;cases e with
 |normal=>
  obtain⟨i,g',h1,h2⟩:=hw;refine⟨(p.1++[i],g'),h1,h2,?_⟩;have:(p.1++[i]).length<=m.length:=by
   have:=dO h1.nd (l₂:=List.range m.length) λ j hj=>dH.2 (h1.lt j hj)
   simpa using this
  simp only[bR,List.length_cons,List.length_nil]at this⊢;omega
 |_=>exact hw
theorem zcG9{V G X β:Type}(I:List Nat->G->St)(m:List V)(d:V)(body:V->G->Option (G⊕X))(fin:G->X)(kk:X->Option β)(r:β)(s:List Nat)(w:St):RngQ E I m d body fin kk r s Q .normal w=RngN E I m d body fin kk r s w:=rfl
theorem zdv4{V G X β:Type}(I:List Nat->G->St)(m:List V)(d:V)(body:V->G->Option (G⊕X))(fin:G->X)(kk:X->Option β)(r:β)(s:List Nat)(w:St):RngQ E I m d body fin kk r s Q .ret w=Q .ret w:=rfl
theorem zdi0{V G X β:Type}(I:List Nat->G->St)(m:List V)(d:V)(body:V->G->Option (G⊕X))(fin:G->X)(kk:X->Option β)(r:β)(s:List Nat)(i:Nat)(w:St):RngQ E I m d body fin kk r s Q (.exit i) w=Q (.exit i) w:=rfl
attribute [go_sem] zcG9 zdv4 zdi0
end
def unfull:A->A
 | .full es=>.sl es
 |a=>a
theorem PFn.unfull{C:Cx}{f:FuncId}{az:List A}{r:A}(h:PFn C f (az.map unfull) r):PFn C f az r:=by
 intro w W vs hg hW hl ha;refine h w W vs hg hW (by simpa using hl) λ i v a hv hx=>?_;rw[cH]at hx;cases hy:az[i]? with
 |none=>rw[hy]at hx;cases hx
 |some b=>
  rw[hy]at hx;cases hx;have:=ha i v b hv hy;cases b with
  |full es=>
   have h2:RepC w W v (.full es):=this;cases h2 with
   |full a n es h=>exact h
  |_=>exact this
@[go_sem] theorem zeh8(a b:Nat):Nat.min a b=min a b:=rfl
attribute [go_sem] Ab.unfull zaz7 fixL
attribute [go_sem] Int.cast_ofNat_Int fH fD fQ Nat.min_self
def Imp(q p:Prop):Prop:=q->p
theorem Imp.and{q a b:Prop}(ha:a)(h:Imp q b):Imp q (a/\b):=λ hq=>⟨ha,h hq⟩
theorem Imp.refl{q:Prop}:Imp q q:=λ h=>h
theorem im{q p:Prop}(w:Imp q p:=by(simp only[go_sem,↓reduceIte,reduceCtorEq,Nat.reduceEqDiff,Nat.reduceAdd,Nat.reduceSub,Nat.reduceMul,Nat.reduceLeDiff,Nat.reduceLT,Int.reduceLE,Int.reduceLT,Int.reduceToNat,Int.reduceNeg];(repeat((with_reducible apply Imp.and);focus (first|assumption|omega|rfl|(simp;done)|(simp;omega)|(intros;simp_all;done)|grind)));exact Imp.refl)):Imp q p:=w
theorem i0{q p:Prop}(w:Imp q p:=by(simp only[go_sem,↓reduceIte,reduceCtorEq,Nat.reduceEqDiff,Nat.reduceAdd,Nat.reduceSub,Nat.reduceMul,Nat.reduceLeDiff,Nat.reduceLT,Int.reduceLE,Int.reduceLT,Int.reduceToNat,Int.reduceNeg];exact Imp.refl)):Imp q p:=w
theorem lw{p:Prop}(w:p:=by(simp only[go_sem,↓reduceIte,reduceCtorEq,Nat.reduceEqDiff,Nat.reduceAdd,Nat.reduceSub,Nat.reduceMul,Nat.reduceLeDiff,Nat.reduceLT,Int.reduceLE,Int.reduceLT,Int.reduceToNat,Int.reduceNeg];first|(done)|trivial|(simp;done)|(repeat'(first|rfl|trivial|omega|(simp;done)|(simp;omega)|(congr 1;omega)|(congr 1;simp only[bR,dT,eU,gN];omega)|apply And.intro)))):p:=w
section
variable {C:Cx} {E:Env} {Q:Exit→St→Prop} {st:St} {q:Prop}
theorem g_st{p:Prop}(h:q)(e:Imp q p:=by exact i0):p:=e h
theorem zh7(h:q)(e:Imp q (Q .normal st):=by exact i0):AW C E .skip Q st:=zdK0 (e h)
theorem zda9(h:q)(e:Imp q (Q .normal st):=by exact i0):AW C E .label Q st:=zdt4 (e h)
theorem zE5{id:Nat}(h:q)(e:Imp q (Q (.exit id) st):=by exact i0):AW C E (.exit id) Q st:=zdK1 (e h)
theorem zm8(h:q)(e:Imp q (Q .ret st):=by exact i0):AW C E .ret Q st:=zdT9 (e h)
theorem za1{dr:List Nat}{ops:List POp}(hG:E.G=C.G)(h:q)
  (e:Imp q (arun C ops st λ s=>Q .normal (s.drop dr)):=by exact im):AW C E (.reg dr ops) Q st:=zdU0 hG (e h)
theorem zby9{dr:List Nat}{ops:List POp}(hm:C.P.follows .mixedOrders=true)(hG:E.G=C.G)(h:q)
  (e:Imp q (zaZ1 C ops st λ s=>Q .normal (s.drop dr)):=by exact im):AW C E (.regd dr ops) Q st:=zdK4 hm hG (e h)
theorem zaE3{dr:List Nat}{an:List (List Nat)}{ops:List POp}(hm:C.P.follows .mixedOrders=true)(hG:E.G=C.G)(h:q)
  (e:Imp q (zaz9 C an ops st [] λ s=>Q .normal (s.drop dr)):=by exact im):AW C E (.regm dr an ops) Q st:=zdK8 hm hG (e h)
theorem zr3{f:FuncId}{d:Option Nat}{g:Option (Nat×Bool)}{gv:Bool}{ob:Prop}{args:List A}{rw:List (Nat×MS)}{ps:List POp}{st:St}{K:St->Prop}{r:A}
  (hf:gv=true->PFn C f args r) (h:q)
  (e:Imp q (arun C ps (st.app d (zQ0 g gv r) (if r.scal then[]else rw)) K):=by exact im)
  (ho:gv=true->ob:=by intro;trivial) (hg:g=none\/(if r.scal then[]else rw)=[]/\r.isVV=true:=by first|exact .inl rfl|exact .inr ⟨rfl,rfl⟩|exact .inr ⟨jY _,rfl⟩):zbw5 C f d g gv ob args rw ps st K:=zdu5 hf (e h) ho hg
theorem zaA1{f:FuncId}{d:Option Nat}{g:Option (Nat×Bool)}{gv:Bool}{ob:Prop}{args:List A}{rw:List (Nat×MS)}{ps:List POp}{st:St}{K:St->Prop}{r:A}
  (hf:gv=true->PFn C f args r) (h:q)
  (e:Imp q (zaZ1 C ps (st.app d (zQ0 g gv r) []) K):=by exact im)
  (ho:gv=true->ob:=by intro;trivial) (hg:g=none\/(if r.scal then[]else rw)=[]/\r.isVV=true:=by first|exact .inl rfl|exact .inr ⟨rfl,rfl⟩|exact .inr ⟨jY _,rfl⟩) (hn:(if r.scal then[]else rw)=[]:=by first|rfl|exact jY _):zaX1 C f d g gv ob args rw ps st K:=zdg7 hf (e h) ho hg hn
theorem zS0{an:List (List Nat)}{f:FuncId}{d:Option Nat}{g:Option (Nat×Bool)}{gv:Bool}{ob:Prop}{args:List A}{rw:List (Nat×MS)}{ids:List Nat}{cok:Bool}{ps:List POp}{st:St}{log:List (List Nat×List Nat)}{K:St->Prop}{r:A}
  (hf:gv=true->PFn C f args r) (h:q)
  (e:Imp q (zbh3 (an.getD log.length []) 0 log ids ((if r.scal then[]else rw).map (·.1))=true/\cok=true/\zaz9 C an ps (st.app d (zQ0 g gv r) (if r.scal then[]else rw)) (log++[(ids,(if r.scal then[]else rw).map (·.1))]) K):=by exact im)
  (ho:gv=true->ob:=by intro;trivial) (hg:g=none\/(if r.scal then[]else rw)=[]/\r.isVV=true:=by first|exact .inl rfl|exact .inr ⟨rfl,rfl⟩|exact .inr ⟨jY _,rfl⟩):zaX2 C an f d g gv ob args rw ids cok ps st log K:=zdg9 hf (e h) ho hg
theorem zh9{α:Type}{x:PX}{p q:PC}{b c:Bool}{X Y r:α}(hx:xv C.G st.slot x=.bool b)(hG:E.G=C.G)(h:(if c=true then X else Y)=r)
  (ht:b=true->X=r->AW C E p Q st) (hf:b=false->Y=r->AW C E q Q st) (e:b=c:=by first|rfl|(simp;done)|grind):AW C E (.cond x p q) Q st:=by
 subst e;exact zbW5 hx hG (λ hb=>ht hb (by rw[bO hb]at h;exact h)) (λ hb=>hf hb (by rw[hb]at h;simpa using h))
theorem zaA2{α:Type}{x:PX}{p q:PC}{V:Type}(J:V->St)(P:V->Prop){b c:Bool}{X Y r:α}(hx:xv C.G st.slot x=.bool b)(hG:E.G=C.G)(h:(if c=true then X else Y)=r)(hk:∀v,P v->Q .normal (J v))
  (ht:b=true->X=r->AW C E p (zbw7 E J P Q) st) (hf:b=false->Y=r->AW C E q (zbw7 E J P Q) st) (e:b=c:=by first|rfl|(simp;done)|grind):AW C E (.cond x p q) Q st:=by
 subst e;exact zdL1 J P hx hG hk (λ hb=>ht hb (by rw[bO hb]at h;exact h)) (λ hb=>hf hb (by rw[hb]at h;simpa using h))
theorem zy2{α:Type}{x r:α}{p:Prop}(h:some x=some r)(e:x=r->p:=by(intro e;subst e;first|done|rfl|trivial|(simp;done)|(repeat'(first|rfl|trivial|omega|(simp;done)|(simp;omega)|(refine dC A.sl (dC (List.map _) ?_);exact dN (by first|omega|(simp;omega)))|apply And.intro)))):p:=e (dP h)
theorem zaE4{α:Type}{x r:α}{p:Prop}(h:x=r)(e:x=r->p:=by(intro e;subst e;first|done|rfl|trivial|(simp;done)|(repeat'(first|rfl|trivial|omega|(simp;done)|(simp;omega)|(refine dC A.sl (dC (List.map _) ?_);exact dN (by first|omega|(simp;omega)))|apply And.intro)))):p:=e h
theorem zv9{V:Type}{J:V->St}{P:V->Prop}{s:St}{k:Nat}(hK:E.k0=k)(l:List (Nat×Nat))(v:V)(h:P v)
  (hl:Le l s (J v)/\zaz7 k l (J v).nx=true:=by exact lw):zaZ4 E J P s:=zcG4 hK v h l hl
theorem zU3{G X:Type}{I:G->St}{g':G}{y:G⊕X}{s:St}{k:Nat}(hK:E.k0=k)(l:List (Nat×Nat))(h:some (.inl g')=some y)
  (hl:Le l s (I g')/\zaz7 k l (I g').nx=true:=by exact lw):zcG5 E I y s:=by
 cases h;exact zcG6 hK l hl
theorem zdb0{G X β:Type}{I:G->St}{body:G->Option (G⊕X)}{kk:X->Option β}{R:Option β}{g':G}{s:St}{k:Nat}(hK:E.k0=k)(l:List (Nat×Nat))(h:(zc1 body g').bind kk=R)
  (hl:Le l s (I g')/\zaz7 k l (I g').nx=true:=by exact lw):zdv0 E I body kk R s:=
 ⟨g',h,St.le_of l hl.1 (by rw[hK];exact hl.2)⟩
theorem zat4{c:PC}{G X β:Type}{body:G->Option (G⊕X)}{g0:G}{kk:X->Option β}{r:β}(I:G->St){k:Nat}(hK:E.k0=k)(l:List (Nat×Nat))(h:(zc1 body g0).bind kk=some r)
  (hb:∀x,kk x=some r->∀g y,body g=some y->(∀x',y=.inr x'->x'=x)->AW C E c (zbR3 E I y Q) (I g))
  (hle:Le l st (I g0)/\zaz7 k l (I g0).nx=true:=by exact lw):AW C E (.loop c) Q st:=by
 obtain⟨x,hx,hk⟩:=zd0 h;exact zcx5 I hK l hx hle (hb x hk)
theorem zee1{c:PC}{V G X β:Type}{m:List V}{d:V}{body:V->G->Option (G⊕X)}{fin:G->X}{g0:G}{kk:X->Option β}{r:β}(I:List Nat->G->St){k:Nat}(hK:E.k0=k)(l:List (Nat×Nat))(h:rngO m d body fin g0 kk=some r)
  (hb:∀s g,RngP m d body fin kk r s g->AW C E c (RngQ E I m d body fin kk r s Q) (I s g))
  (hle:Le l st (I [] g0)/\zaz7 k l (I [] g0).nx=true:=by exact lw):AW C E (.loop c) Q st:=
 zee0 I h (St.le_of l hle.1 (by rw[hK];exact hle.2)) hb
theorem zdL5{V G X β:Type}{m:List V}{d:V}{body:V->G->Option (G⊕X)}{fin:G->X}{kk:X->Option β}{r:β}{I:List Nat->G->St}{g':G}{y:G⊕X}{s:List Nat}{i:Nat}{w:St}{k:Nat}(hK:E.k0=k)(l:List (Nat×Nat))(h:some (.inl g')=some y)
  (hP:∀g',y=.inl g'->RngP m d body fin kk r (s++[i]) g') (hl:Le l w (I (s++[i]) g')/\zaz7 k l (I (s++[i]) g').nx=true:=by exact lw):RngN E I m d body fin kk r s w:=by
 cases h;exact⟨i,g',hP g' rfl,St.le_of l hl.1 (by rw[hK];exact hl.2)⟩
theorem zdU9{α:Type}{r:α}(h:none=some r):AW C E .dead Q st:=by cases h
theorem zac1{x:PX}{p r:PC}(hx:xv C.G st.slot x=.bool true)(hG:E.G=C.G)(h:AW C E p Q st):AW C E (.cond x p r) Q st:=zbW5 hx hG (λ _=>h) (λ h=>by cases h)
theorem zaH9{x:PX}{p r:PC}(hx:xv C.G st.slot x=.bool false)(hG:E.G=C.G)(h:AW C E r Q st):AW C E (.cond x p r) Q st:=zbW5 hx hG (λ h=>by cases h) (λ _=>h)
theorem g_gh{c:PC}(g:Gh)(h:q)(e:Imp q (AW C E c Q (st.gh g)):=by exact i0)(hok:st.ghOk g:=by exact lw):AW C E c Q st:=zed6 g hok (e h)
theorem zx8{α:Type}{x r:α}{k:Nat}{st:St}{rs:List RX}{rl:List A}{ms':List (Nat×Row)}{k':Nat}(l:List (Nat×Nat))(h:some x=some r)
  (e:x=r->zbQ2 st rs/\zca7 rl=true/\Le l ⟨zI9 0 (resL st rs),st.mem,st.nx⟩ ⟨zI9 0 rl,ms',k'⟩/\zaz7 k l k'=true:=by(intro e;subst e;exact lw)):zbe0 k st rs rl ms' k':=by
 obtain⟨h1,h2,h3,h4⟩:=e (dP h);exact⟨h1,h2,l,h3,h4⟩
@[go_sem] theorem zdG0{α:Type}(a:Nat×α)(l m:List (Nat×α))(n:Nat):look ((a::l)++m) n=if a.1=n then some a.2 else look (l++m) n:=rfl
@[go_sem] theorem zdV0(m:Nat->MS)(v:A)(vs ws:List A):zG8 m ((v::vs)++ws)=frz m v::zG8 m (vs++ws):=rfl
@[go_sem] theorem zdL6(m:Nat->MS)(v:A)(vs ws:List A):zA1 m ((v::vs)++ws)=(zaz5 m v/\zA1 m (vs++ws)):=rfl
@[go_sem] theorem zdG1(v:A)(vs ws:List A):zC3 ((v::vs)++ws)=zaz6 v++zC3 (vs++ws):=rfl
@[go_sem] theorem zea4(m:Nat->MS)(l:List (Nat×Nat))(k:Nat)(v a:A)(vs ws az:List A):zbE4 m l k ((v::vs)++ws) (a::az)=(argM m l k v a/\zbE4 m l k (vs++ws) az):=rfl
@[go_sem] theorem zeg6(v a:A)(vs ws az:List A):fzM ((v::vs)++ws) (a::az)=(if a.hands then[]else zaz6 v)++fzM (vs++ws) az:=rfl
@[go_sem] theorem zdL7(q:Nat×MS)(r m:List (Nat×MS))(n:Nat):nxt n ((q::r)++m)=nxt (if q.1=n then n+1 else n) (r++m):=rfl
@[go_sem] theorem zdL8{α:Type}(m:List (Nat×α))(n:Nat):look ([]++m) n=look m n:=rfl
theorem zs8{f:FuncId}{d:Option Nat}{ob:Prop}{vals:List A}{ps:List POp}{st:St}{K:St->Prop}(l nl:List (Nat×Nat))(ids:List Nat){az:List A}{ms ms':List (Nat×Row)}{k k':Nat}{r:A}
  (hf:MFn C f az ms k r ms' k') (hnl:newL k st.nx (k'-k)=nl) (hids:ms.map (·.1)++(List.range (k'-k)).map (k+·)=ids) (h:q)
  (e:Imp q (arun C ps (st.app d (renR (l++nl) r) (zP9 st.m (fzM vals az)++zak7 (l++nl) ms' ids)) K):=by exact im)
  (hok:okM st.m st.nx l vals az ms k k':=by exact lw)
  (ho:ob:=by trivial) (hr:zbF0 r=true:=by rfl):zaA0 C f d none true ob vals ps st K:=by
 subst hnl;subst hids;exact zdg5 l hf hok (e h) ho hr
theorem zbF3{an:List (List Nat)}{f:FuncId}{d:Option Nat}{ob:Prop}{vals:List A}{vi:List Nat}{cok:Bool}{ps:List POp}{st:St}{log:List (List Nat×List Nat)}{K:St->Prop}(l nl:List (Nat×Nat))(ids:List Nat){az:List A}{ms ms':List (Nat×Row)}{k k':Nat}{r:A}
  (hf:MFn C f az ms k r ms' k') (hnl:newL k st.nx (k'-k)=nl) (hids:ms.map (·.1)++(List.range (k'-k)).map (k+·)=ids) (h:q)
  (e:Imp q (zbh3 (an.getD log.length []) 0 log vi ((zP9 st.m (fzM vals az)++zak7 (l++nl) ms' ids).map (·.1))=true/\cok=true/\zaz9 C an ps (st.app d (renR (l++nl) r) (zP9 st.m (fzM vals az)++zak7 (l++nl) ms' ids)) (log++[(vi,(zP9 st.m (fzM vals az)++zak7 (l++nl) ms' ids).map (·.1))]) K):=by exact im)
  (hok:okM st.m st.nx l vals az ms k k':=by exact lw)
  (ho:ob:=by trivial) (hr:zbF0 r=true:=by rfl):zaN1 C an f d none true ob vals vi cok ps st log K:=by
 subst hnl;subst hids;exact zcS6 l hf hok (e h) ho hr
theorem zcy0{α β:Type}{x r:α}(h:some (Sum.inl x:α⊕β)=some (.inl r)):some x=some r:=by cases h;rfl
theorem zbs1{α β:Type}{x r:β}(h:some (Sum.inr x:α⊕β)=some (.inr r)):some x=some r:=by cases h;rfl
theorem zdb1{α:Type}{c gv:Bool}{X Y r:α}{f:FuncId}{d:Option Nat}{g:Option (Nat×Bool)}{ob:Prop}{vals:List A}{ps:List POp}{st:St}{K:St->Prop}(h:(if c=true then X else Y)=r)
  (ht:gv=true->X=r->zaA0 C f d g gv ob vals ps st K) (hf:gv=false->Y=r->zaA0 C f d g gv ob vals ps st K) (ec:gv=c:=by first|rfl|(simp;done)|grind):zaA0 C f d g gv ob vals ps st K:=by
 subst ec;cases hg:gv with
 |true=>rw[hg]at ht;exact ht rfl (zbw6 hg h)
 |false=>rw[hg]at hf;exact hf rfl (zed9 hg h)
theorem zcH0{gv:Bool}{f:FuncId}{d:Option Nat}{g:Option (Nat×Bool)}{ob:Prop}{vals:List A}{ps:List POp}{st:St}{K:St->Prop}(hc:gv=true)(l nl:List (Nat×Nat))(ids:List Nat){az:List A}{ms ms':List (Nat×Row)}{k k':Nat}{r:A}
  (hf:MFn C f az ms k r ms' k') (hnl:newL k st.nx (k'-k)=nl) (hids:ms.map (·.1)++(List.range (k'-k)).map (k+·)=ids) (h:q)
  (e:Imp q (arun C ps (st.app d (zQ0 g true (renR (l++nl) r)) (zP9 st.m (fzM vals az)++zak7 (l++nl) ms' ids)) K):=by exact im)
  (hok:okM st.m st.nx l vals az ms k k':=by exact lw)
  (ho:ob:=by first|trivial|(simp_all;done)) (hr:zbF0 r=true:=by rfl) (hvv:(renR (l++nl) r).isVV=true:=by rfl):zaA0 C f d g gv ob vals ps st K:=by
 subst hnl;subst hids;subst hc;exact⟨l,az,ms,k,r,ms',k',λ _=>⟨ho,hf,hok,trivial⟩,(λ h=>nomatch h),.inr hvv,zbF1 hr,e h⟩
theorem zdb2(m:Nat->MS)(nx:Nat)(vals:List A):mwM m ([]++newL 0 nx (0-0)) vals [] [] [] 0 0=[]:=by cases vals<;>rfl
theorem zcH1{gv:Bool}{f:FuncId}{d:Option Nat}{g:Option (Nat×Bool)}{ob:Prop}{vals:List A}{ps:List POp}{st:St}{K:St->Prop}(hc:gv=false)(dv:A)(h:q)
  (e:Imp q (arun C ps (st.app d (zQ0 g false dv) []) K):=by exact im)
  (hd:renR [] dv=dv:=by rfl) (hn:zbF0 dv=true:=by rfl) (hvv:dv.isVV=true:=by rfl):zaA0 C f d g gv ob vals ps st K:=by
 subst hc;have hd':renR ([]++newL 0 st.nx (0-0)) dv=dv:=hd;refine⟨[],[],[],0,dv,[],0,(λ h=>nomatch h),λ _=>⟨rfl,?_⟩,.inr ?_,zbF1 hn,?_⟩
 .rw[zdb2];trivial
 .rw[hd'];exact hvv
 .rw[zdb2,hd'];exact e h
end
end Ab
end Go.Proofs.YtdlfhmkmnjbihaaGreatDoor
