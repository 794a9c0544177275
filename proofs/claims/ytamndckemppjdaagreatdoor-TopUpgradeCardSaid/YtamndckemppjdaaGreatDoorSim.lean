import Derived.Test.YtamndckemppjdaaGreatDoorAb20
import Derived.RangeFuncRecord
import Derived.RangeFuncLeaves
import Derived.Below
namespace Go.Proofs.YtamndckemppjdaaGreatDoor
namespace Ab
set_option linter.unusedSimpArgs false
set_option linter.unusedVariables false
section
variable {C:Cx} {E:Env}
def FSt(ps:List POp)(vs:Nat->A)(mws:Nat->List (Nat×MS))(s:S)(f:Nat->Bool):Nat->S
  |0=>s
  |n+1=>match ps[n]? with
    |some p=>if f n then⟨setF (FSt ps vs mws s f n).fr p.dst (vs n),setM (FSt ps vs mws s f n).mem (mws n)⟩else FSt ps vs mws s f n
    |none=>FSt ps vs mws s f n
theorem zM0{y:Nat}:∀{mw:List (Nat×MS)} {m:Nat->MS},y∉mw.map (·.1)->setM m mw y=m y
  |[],_,_=>rfl
  |q::mw,m,h=>by simp only[setM];rw[zM0 λ hh=>h (.tail _ hh)];refine cL λ e=>h ?_;rw[e];exact .head _
theorem zbe8{y:Nat}:∀{mw:List (Nat×MS)} {m m2:Nat->MS},y∈mw.map (·.1)->setM m mw y=setM m2 mw y
  |q::mw,m,m2,h=>by
    simp only[setM]
    by_cases h2:y∈mw.map (·.1)
    .exact zbe8 h2
    · rw[zM0 h2,zM0 h2]
      rcases dB.1 h with rfl|h
      .simp
      .exact absurd h h2
theorem zbi8{ps:List POp}{vs:Nat->A}{mws:Nat->List (Nat×MS)}{s:S}{f f':Nat->Bool}:∀n,(∀i,i<n->f i=f' i)->FSt ps vs mws s f n=FSt ps vs mws s f' n
  |0,_=>rfl
  |n+1,h=>by have ih:=zbi8 (ps:=ps) (vs:=vs) (mws:=mws) (s:=s) n λ i hi=>h i (by omega);simp only[FSt,ih,h n (by omega)]
theorem zaE3(f:Nat->A)(d:Option Nat)(v:A)(t:Nat):setF f d v t=if d=some t then v else f t:=rfl
theorem zbL2{ps:List POp}{vs:Nat->A}{mws:Nat->List (Nat×MS)}{s:S}{f:Nat->Bool}{j t:Nat}(h1:∀i q,i<j->ps[i]? =some q->q.dst=some t->f i=true)(h2:∀i q,j<=i->ps[i]? =some q->q.dst=some t->f i=false):
    ∀n,(FSt ps vs mws s f n).fr t=(FSt ps vs mws s (λ _=>true) (min n j)).fr t
  |0=>by simp[FSt]
  |n+1=>by
    have ih:=zbL2 (vs:=vs) (mws:=mws) (s:=s) h1 h2 n
    by_cases hn:n<j
    · rw[show min (n+1) j=n+1 by omega]
      rw[show min n j=n by omega]at ih;simp only[FSt];cases hq:ps[n]? with
      |none=>exact ih
      |some q=>
        simp only[dM]
        by_cases hd:q.dst=some t
        .rw[h1 n q hn hq hd];simp[zaE3,hd]
        · rw[zaE3,cL hd]
          split
          .simp only[zaE3,cL hd];exact ih
          .exact ih
    · rw[show min (n+1) j=j by omega]
      rw[show min n j=j by omega]at ih;simp only[FSt];cases hq:ps[n]? with
      |none=>exact ih
      |some q=>
        simp only[]
        by_cases hd:q.dst=some t
        .rw[h2 n q (by omega) hq hd];simpa using ih
        · split
          .simp only[zaE3,cL hd];exact ih
          .exact ih
theorem zbG0{ps:List POp}{vs:Nat->A}{mws:Nat->List (Nat×MS)}{s:S}{f:Nat->Bool}{j y:Nat}(h1:∀i q,i<j->ps[i]? =some q->y∈(mws i).map (·.1)->f i=true)(h2:∀i q,j<=i->ps[i]? =some q->y∈(mws i).map (·.1)->f i=false):
    ∀n,(FSt ps vs mws s f n).mem y=(FSt ps vs mws s (λ _=>true) (min n j)).mem y
  |0=>by simp[FSt]
  |n+1=>by
    have ih:=zbG0 (vs:=vs) (mws:=mws) (s:=s) h1 h2 n
    by_cases hn:n<j
    · rw[show min (n+1) j=n+1 by omega]
      rw[show min n j=n by omega]at ih;simp only[FSt];cases hq:ps[n]? with
      |none=>exact ih
      |some q=>
        simp only[dM]
        by_cases hd:y∈(mws n).map (·.1)
        .rw[h1 n q hn hq hd];simp only[dM];exact zbe8 hd
        · rw[zM0 hd]
          split
          · show setM _ _ _=_
            rw[zM0 hd];exact ih
          .exact ih
    · rw[show min (n+1) j=j by omega]
      rw[show min n j=j by omega]at ih;simp only[FSt];cases hq:ps[n]? with
      |none=>exact ih
      |some q=>
        simp only[]
        by_cases hd:y∈(mws n).map (·.1)
        .rw[h2 n q (by omega) hq hd];simpa using ih
        · split
          · show setM _ _ _=_
            rw[zM0 hd];exact ih
          .exact ih
theorem zbX0{ps:List POp}{vs:Nat->A}{mws:Nat->List (Nat×MS)}{s:S}{f:Nat->Bool}{j:Nat}{p:POp}(hp:ps[j]? =some p)(hf:f j=false)(f':Nat->Bool)(hj:f' j=true)(hf':∀i,i≠j->f' i=f i)
    (hc:∀i q,j<i->ps[i]? =some q->f i=true->conf p q=false) (hm:∀i q,j<i->ps[i]? =some q->f i=true->∀y∈(mws j).map (·.1),y∉(mws i).map (·.1)):
    ∀n,(∀t,(FSt ps vs mws s f' n).fr t=if j<n/\p.dst=some t then vs j else(FSt ps vs mws s f n).fr t)/\∀y,(FSt ps vs mws s f' n).mem y=if j<n then setM (FSt ps vs mws s f n).mem (mws j) y else(FSt ps vs mws s f n).mem y
  |0=>by simp[FSt]
  |n+1=>by
    obtain⟨ih,ih2⟩:=zbX0 (vs:=vs) (mws:=mws) (s:=s) hp hf f' hj hf' hc hm n
    by_cases hn:n=j
    · subst hn
      simp only[FSt,hp,hj,hf,dM,cG,cV];refine⟨λ t=>?_,λ y=>?_⟩
      · rw[zaE3]
        by_cases hd:p.dst=some t
        .simp[hd]
        · simp only[hd,cV,and_false]
          have:=ih t
          simpa [hd]using this
      · rw[cQ (iS n)]
        have e:(FSt ps vs mws s f' n).mem=(FSt ps vs mws s f n).mem:=funext λ z=>by have:=ih2 z;simpa using this
        rw[e]
    · have hlt:j<n+1↔j<n:=by omega
      simp only[FSt,hf' n hn,hlt];cases hq:ps[n]? with
      |none=>exact⟨by simpa using ih,by simpa using ih2⟩
      |some q=>
        simp only[];split
        · rename_i hfn
          refine⟨λ t=>?_,λ y=>?_⟩
          · simp only[zaE3,ih t]
            by_cases hd:q.dst=some t
            · simp only[hd,dM]
              by_cases hjn:j<n
              · have:=hc n q hjn hq hfn
                unfold conf at this
                by_cases hpd:p.dst=some t
                .simp[hpd,hd]at this
                .simp[hpd]
              .simp[hjn]
            .simp[hd]
          · by_cases hjn:j<n
            · simp only[hjn,dM]at ih2|-
              have hdj:=hm n q hjn hq hfn
              by_cases h1:y∈(mws n).map (·.1)
              · rw[zM0 (mw:=mws j) λ hh=>hdj y hh h1]
                exact zbe8 h1
              · rw[zM0 h1,ih2 y]
                by_cases h2:y∈(mws j).map (·.1)
                .exact zbe8 h2
                .rw[zM0 h2,zM0 h2,zM0 h1]
            · simp only[hjn,cV]at ih2|-
              have e:(FSt ps vs mws s f' n).mem=(FSt ps vs mws s f n).mem:=funext ih2;rw[e]
        .exact⟨ih,ih2⟩
theorem zaq4:∀{x y:List Nat},disj x y=true->∀z∈x,z∉y
  |a::x,y,h,z,hz=>by
    simp only[disj,cF,dQ,iB,eD]at h;rcases dB.1 hz with rfl|hz
    .exact h.1
    .exact zaq4 h.2 z hz
theorem zbi9{an:List Nat}:∀{log:List (List Nat×List Nat)} {i:Nat} {r w:List Nat},zaG0 an i log r w=true->∀n q,log[n]? =some q->i+n∉an->disj q.2 r=true/\disj q.2 w=true/\disj w q.1=true
  |x::log,i,r,w,h,n,q,hq,hn=>by
    simp only[zaG0,cF,iV]at h;cases n with
    |zero=>
      simp at hq;subst hq;rcases h.1 with h1|h1
      .exact absurd (by simpa using h1) hn
      .exact⟨h1.1.1,h1.1.2,h1.2⟩
    |succ n=>exact zbi9 h.2 n q (by simpa using hq) (by rwa [show i+1+n=i+(n+1)by omega])
theorem zbj0{an:List (List Nat)}{K:St->Prop}:∀(ps:List POp) (st:St) (log:List (List Nat×List Nat)),zaf0 C an ps st log K->∃(vs:Nat->A) (mws:Nat->List (Nat×MS)) (sts:Nat->St),K (sts ps.length)/\sts 0=st/\
    ∀j p,ps[j]? =some p->sts (j+1)=(sts j).app p.dst (vs j) (mws j)/\mwOk (sts j).nx (mws j)/\aopS C p (sts j).toS (sts j).nx (λ v mw=>v=vs j/\mw=mws j)/\zaG1 p.po (zs1 C (sts j) p.xs)=true/\
      (∀i q,i<log.length->log[i]? =some q->i∉an.getD (log.length+j) []->disj q.2 (idsP p.po (zs1 C (sts j) p.xs))=true/\disj q.2 ((mws j).map (·.1))=true/\disj ((mws j).map (·.1)) q.1=true)/\
      (∀i q,i<j->ps[i]? =some q->log.length+i∉an.getD (log.length+j) []->disj ((mws i).map (·.1)) (idsP p.po (zs1 C (sts j) p.xs))=true/\disj ((mws i).map (·.1)) ((mws j).map (·.1))=true/\disj ((mws j).map (·.1)) (idsP q.po (zs1 C (sts i) q.xs))=true)
  |[],st,log,h=>⟨λ _=>.any,λ _=>[],λ _=>st,h,rfl,λ j p hp=>by simp at hp⟩
  |p::ps,st,log,h=>by
    obtain⟨v,mw,⟨hmw,hi,hcap,hrest⟩,h4⟩:=zbW8 (zcf9 h);obtain⟨vs,mws,sts,h5,h6,h7⟩:=zbj0 ps _ _ hrest;refine⟨λ i=>match i with|0=>v|i+1=>vs i,λ i=>match i with|0=>mw|i+1=>mws i,λ i=>match i with|0=>st|i+1=>sts i,h5,rfl,λ j q hq=>?_⟩;cases j with
    |zero=>simp at hq;subst hq;refine⟨h6,hmw,h4,hcap,λ i q hi2 hq hn=>?_,λ i q hi2=>by omega⟩;exact zbi9 hi i q hq (by rw[dJ];exact hn)
    |succ j=>
      obtain⟨g1,g2,g3,g4,g5,g6⟩:=h7 j q (by simpa using hq);simp only[cX,List.length_cons,List.length_nil,dJ]at g5 g6;refine⟨g1,g2,g3,g4,λ i x hi2 hx hn=>?_,λ i x hi2 hx hn=>?_⟩
      .exact g5 i x (by omega) (by rw[dF hi2];exact hx) (by rwa [show log.length+1+j=log.length+(j+1)by omega])
      · cases i with
        |zero=>simp at hx;subst hx;have:=g5 log.length (idsP p.po (zs1 C st p.xs),mw.map (·.1)) (by omega) (by rw[eC (cU _)];simp) (by rw[show log.length+1+j=log.length+(j+1)by omega];exact hn);exact this
        |succ i=>exact g6 i x (by omega) (by simpa using hx) (by rw[show log.length+1+j=log.length+(j+1)by omega,show log.length+1+i=log.length+(i+1)by omega];exact hn)
theorem zbj1{st:St}(xs:List PX):zs1 C st xs=zA3 C st.toS.fr xs:=zaJ4 xs
theorem zbG1{os:Array Oper}{ps:List POp}{s0:S}{vs:Nat->A}{mws:Nat->List (Nat×MS)}{sts:Nat->St}{K:St->Prop}{Q:Exit->Act->World->Prop}(hG:E.G=C.G)(hr:ROk C E.N os 0 ps)(hso:POp.sortOk os.toList 0=true)
    (hco:zaY2 ps (ancs [] (os.toList.map zB1))=true) (hK:K (sts ps.length))
    (hst:∀j,j<=ps.length->(sts j).toS=FSt ps vs mws s0 (λ _=>true) j)
    (hv:∀j p,ps[j]? =some p->mwOk (sts j).nx (mws j)/\aopS C p (sts j).toS (sts j).nx (λ v mw=>v=vs j/\mw=mws j)/\zaG1 p.po (zs1 C (sts j) p.xs)=true/\
      (∀i q,i<j->ps[i]? =some q->i∉(ancs [] (os.toList.map zB1)).getD j []->disj ((mws i).map (·.1)) (idsP p.po (zs1 C (sts j) p.xs))=true/\disj ((mws i).map (·.1)) ((mws j).map (·.1))=true/\disj ((mws j).map (·.1)) (idsP q.po (zs1 C (sts i) q.xs))=true))
    (hnx:∀i j,i<=j->(sts i).nx<=(sts j).nx) (hnx0:∀y,(sts 0).nx<=y->s0.mem y=.fresh) (hkey:∀j p y,ps[j]? =some p->y∈(mws j).map (·.1)->y<(sts (j+1)).nx)
    (hQ:∀st' a' w',K st'->Sat E st'.toS a' w'->Q .normal a' w'):
    ∀(fuel:Nat) (listed:Array Bool) (a:Act) (w:World),listed.size=os.size->Sat E (FSt ps vs mws s0 (λ i=>listed.getD i false) ps.length) a w->
      (∀j o,os[j]? =some o->listed.getD j false=true->∀i∈zB1 o,listed.getD i false=true)->left (λ i=>listed.getD i false) os.size<=fuel->
      wpAny C.P .any os Q fuel listed a w:=by
  have hlen:ps.length=os.size:=by have:=hr.size;omega
  have hdone:∀(listed:Array Bool) (a:Act) (w:World),Sat E (FSt ps vs mws s0 (λ i=>listed.getD i false) ps.length) a w->(∀i,i<os.size->listed.getD i false=true)->Q .normal a w:=by intro listed a w hs hall;refine hQ _ a w hK ?_;rw[hst ps.length (cU _),zbi8 (f:=λ _=>true) (f':=λ i=>listed.getD i false) ps.length λ i hi=>(hall i (by omega)).symm];exact hs
  have hready:∀(listed:Array Bool),listed.size=os.size->Region.ready .any os listed=[]->∀i,i<os.size->listed.getD i false=true:=by
    intro listed hsz hr0 i;induction i using Nat.strongRecOn with
    |_ i ih=>
      intro hi;cases hl:listed.getD i false with
      |true=>rfl
      |false=>
        have:i∈Region.ready .any os listed:=by
          rw[mem_ready];refine⟨?_,os[i],by simp[hi],λ e he hb=>?_⟩
          · have h1:i<listed.size:=by omega
            simp only[Array.getD,h1,iU]at hl⊢;exact hl
          · have h2:e.on∈zB1 os[i]:=by
              simp only[zB1,cS,fS];exact⟨e,⟨by simpa using he,hb⟩,rfl⟩
            have h3:=zaJ6 os.toList 0 hso i os[i] (by simp[hi]) e.on h2;exact ih e.on (by omega) (by omega)
        rw[hr0]at this;cases this
  intro fuel;induction fuel with
  |zero=>
    intro listed a w hsz hs hcl hle;have hall:=zaY5 (f:=λ i=>listed.getD i false) os.size (by omega);refine⟨?_,hdone listed a w hs hall⟩;cases hrd:Region.ready .any os listed with
    |nil=>rfl
    |cons i rs=>
      have:i∈Region.ready .any os listed:=by rw[hrd];simp
      rw[mem_ready]at this;obtain⟨h1,o,ho,_⟩:=this;have hi:=(cO.1 ho).1;have:=hall i hi;have h2:i<listed.size:=by omega
      simp only[Array.getD,h2,iU]at h1 this;rw[this]at h1;cases h1
  |succ fuel ih=>
    intro listed a w hsz hs hcl hle;refine⟨λ hr0=>hdone listed a w hs (hready listed hsz hr0),λ i hi=>?_⟩;rw[mem_ready]at hi;obtain⟨hl,o,ho,hed⟩:=hi;have hlt:=(cO.1 ho).1;have hlt2:i<listed.size:=by omega
    have hl:listed.getD i false=false:=by simp only[Array.getD,hlt2,iU]at hl⊢;exact hl
    obtain⟨p,hp,hpo⟩:=hr.at (j:=i) (by rw[dJ];exact ho);have hedge:∀k∈zB1 o,listed.getD k false=true:=by intro k hk;simp only[zB1,cS,fS]at hk;obtain⟨e,⟨he,hb⟩,rfl⟩:=hk;exact hed e (by simpa using he) hb
    have hset:(listed.setIfInBounds i true).getD i false=true:=by simp[Array.getD,hlt2]
    have hsetne:∀k,k≠i->(listed.setIfInBounds i true).getD k false=listed.getD k false:=λ k hk=>getD_set_ne false (iP hk);have hcl':∀j o,os[j]? =some o->(listed.setIfInBounds i true).getD j false=true->∀k∈zB1 o,(listed.setIfInBounds i true).getD k false=true:=by
      intro j o' ho' hj k hk
      by_cases hji:j=i
      · subst hji
        rw[ho]at ho';cases ho';exact getD_set_true (hedge k hk)
      · rw[hsetne j hji]at hj
        exact getD_set_true (hcl j o' ho' hj k hk)
    have hanc:∀j,(listed.setIfInBounds i true).getD j false=true->∀k∈(ancs [] (os.toList.map zB1)).getD j [],(listed.setIfInBounds i true).getD k false=true:=
      zaz7 (D:=λ j=>(listed.setIfInBounds i true).getD j false=true) _ [] (λ j e he hD=>by
        simp only[cP,cI]at he;obtain⟨o',ho',rfl⟩:=he;exact hcl' j o' (by simpa using ho') (by simpa using hD)) (λ j _ k hk=>by simp at hk)
    have hanc0:∀j,listed.getD j false=true->∀k∈(ancs [] (os.toList.map zB1)).getD j [],listed.getD k false=true:=
      zaz7 (D:=λ j=>listed.getD j false=true) _ [] (λ j e he hD=>by
        simp only[cP,cI]at he;obtain⟨o',ho',rfl⟩:=he;exact hcl j o' (by simpa using ho') (by simpa using hD)) (λ j _ k hk=>by simp at hk)
    have hbef:∀k q,k<i->ps[k]? =some q->conf q p=true->listed.getD k false=true:=by intro k q hk hq hc;have:=hanc i hset k (zav9 hco hk hq hp hc);rwa [hsetne k (by omega)]at this
    have haft:∀k q,i<k->ps[k]? =some q->conf p q=true->listed.getD k false=false:=by
      intro k q hk hq hc;cases hlk:listed.getD k false with
      |false=>rfl
      |true=>have:=hanc0 k hlk i (zav9 hco hk hp hq hc);rw[hl]at this;cases this
    have hbefM:∀k,k<i->listed.getD k false=false->k∉(ancs [] (os.toList.map zB1)).getD i []:=λ k hk hlk hh=>by have:=hanc i hset k hh;rw[hsetne k (by omega),hlk]at this;cases this
    have haftM:∀k,i<k->listed.getD k false=true->i∉(ancs [] (os.toList.map zB1)).getD k []:=λ k hk hlk hh=>by have:=hanc0 k hlk i hh;rw[hl]at this;cases this
    obtain ⟨hmw,haop,hcap,hind⟩:=hv i p hp;have hil:i<ps.length:=(cH.1 hp).1;have hsi:=hst i (gE hil);have hrow:∀y,(y∈idsP p.po (zs1 C (sts i) p.xs)\/y∈(mws i).map (·.1))->(FSt ps vs mws s0 (λ k=>listed.getD k false) ps.length).mem y=(sts i).toS.mem y:=λ y hy=>by
      rw[hsi];have:=zbG0 (ps:=ps) (vs:=vs) (mws:=mws) (s:=s0) (f:=λ k=>listed.getD k false) (j:=i) (y:=y) (λ k q hk hq hyk=>?_) (λ k q hk hq hyk=>?_) ps.length
      .rw[this,gW (gE hil)]
      · cases hlk:listed.getD k false with
        |true=>rfl
        |false=>
          obtain⟨g1,g2,g3⟩:=hind k q hk hq (hbefM k hk hlk);rcases hy with hy|hy
          .exact absurd hy (zaq4 g1 y hyk)
          .exact absurd hy (zaq4 g2 y hyk)
      · cases hlk:listed.getD k false with
        |false=>rfl
        |true=>
          have hki:i<k:=by
            rcases Nat.lt_or_eq_of_le hk with h|h
            .exact h
            .subst h;rw[hl]at hlk;cases hlk
          obtain⟨g0,g00,g000,gg⟩:=hv k q hq;obtain⟨g1,g2,g3⟩:=gg i p hki hp (haftM k hki hlk);rcases hy with hy|hy
          .exact absurd hy (zaq4 g3 y hyk)
          .exact absurd hyk (zaq4 g2 y hy)
    have hslot:∀t∈p.rds,(sts i).toS.fr t=(FSt ps vs mws s0 (λ k=>listed.getD k false) ps.length).fr t:=λ t ht=>by
      rw[hsi];rw[zbL2 (j:=i) (t:=t) (f:=λ k=>listed.getD k false) (λ k q hk hq hd=>hbef k q hk hq (zaE0 hd (.inl ht)).1) (λ k q hk hq hd=>?_) ps.length,gW (gE hil)]
      by_cases hki:k=i
      .subst hki;exact hl
      .exact haft k q (by omega) hq ((zaE0 hd (.inl ht)).2 ht)
    have haop2:=zbz9 (s2:=FSt ps vs mws s0 (λ k=>listed.getD k false) ps.length) hslot (λ y hy=>(hrow y (.inl (by rw[zbj1];exact hy))).symm) (λ y hy=>(hrow y (.inr hy)).symm) (λ f caps vals _ hvals c hc=>by
      have hcap:=zbW7 hcap;rw[zbj1,hvals]at hcap;exact zbb5 hcap c hc) (zbz8 hcap) haop
    have hfin:∃id,(FSt ps vs mws s0 (λ k=>listed.getD k false) ps.length).mem id=.fresh/\aopS C p (FSt ps vs mws s0 (λ k=>listed.getD k false) ps.length) id (λ v mw=>v=vs i/\mw=mws i):=by
      rcases zcg0 haop2 with h1|h1
      .exact⟨_,by rw[hrow _ (.inr h1)];exact(sts i).m_nx,haop2⟩
      · refine⟨(sts ps.length).nx,?_,h1 _ (hnx i _ (gE hil))⟩
        rw[zbG0 (j:=0) (f:=λ k=>listed.getD k false) (λ k q hk=>by omega) (λ k q _ hq hyk=>by
          have h2:=hkey k q _ hq hyk;have h3:=hnx (k+1) ps.length (cH.1 hq).1;omega) ps.length]
        simp only[Nat.min_zero,FSt];exact hnx0 _ (hnx 0 _ (eQ _))
    obtain⟨id,hid,haop3⟩:=hfin;obtain⟨W,μ,hs⟩:=hs;have key:=zbi0 hs hG hid hpo haop3 (Q:=Q) (k:=wpAny C.P .any os Q fuel (listed.setIfInBounds i true)) (λ v mw a' w' hvm hs'=>by
      obtain⟨rfl,rfl⟩:=hvm;refine ih _ a' w' (by simpa using hsz) ?_ hcl' ?_
      · obtain⟨e1,e2⟩:=zbX0 (vs:=vs) (mws:=mws) (s:=s0) (f:=λ k=>listed.getD k false) hp hl (λ k=>(listed.setIfInBounds i true).getD k false) hset hsetne (λ k q hk hq hfk=>by
          cases hc:conf p q with
          |false=>rfl
          |true=>have:=haft k q hk hq hc;exact absurd (this.symm.trans hfk) (by simp)) (λ k q hk hq hfk y hy hyk=>by
          obtain⟨g0,g00,g000,gg⟩:=hv k q hq;obtain⟨g1,g2,g3⟩:=gg i p hk hp (haftM k hk hfk);exact zaq4 g2 y hy hyk) ps.length
        have e:FSt ps vs mws s0 (λ k=>(listed.setIfInBounds i true).getD k false) ps.length=⟨setF (FSt ps vs mws s0 (λ k=>listed.getD k false) ps.length).fr p.dst (vs i),setM (FSt ps vs mws s0 (λ k=>listed.getD k false) ps.length).mem (mws i)⟩:=by
          have h1:(FSt ps vs mws s0 (λ k=>(listed.setIfInBounds i true).getD k false) ps.length).fr=setF (FSt ps vs mws s0 (λ k=>listed.getD k false) ps.length).fr p.dst (vs i):=funext λ t=>by rw[e1 t,zaE3];simp only[hil,hZ]
          have h2:(FSt ps vs mws s0 (λ k=>(listed.setIfInBounds i true).getD k false) ps.length).mem=setM (FSt ps vs mws s0 (λ k=>listed.getD k false) ps.length).mem (mws i):=funext λ y=>by rw[e2 y,cQ hil]
          rw[<-h1,<-h2]
        rw[e];exact hs'
      · have:=zbi5 (f:=λ k=>listed.getD k false) (f':=λ k=>(listed.setIfInBounds i true).getD k false) (j:=i) hl hset hsetne os.size
        rw[cQ hlt]at this;omega)
    simp only[wpOp,ho];split at key
    .rename_i hw;rw[cQ hw];exact .inl key
    .rename_i hw;rw[cL hw];exact key
theorem zbj2:∀(mw:List (Nat×MS)) (nx:Nat),nx<=nxt nx mw
  |[],nx=>cU _
  |q::mw,nx=>by simp only[nxt];refine fZ ?_ (zbj2 mw _);split<;>omega
theorem zbX1:∀{mw:List (Nat×MS)} {nx:Nat},mwOk nx mw->∀y∈mw.map (·.1),y<nxt nx mw
  |q::mw,nx,h,y,hy=>by
    obtain⟨h1,h2,h3⟩:=h;simp only[nxt];rcases dB.1 hy with rfl|hy
    · refine cR ?_ (zbj2 mw _)
      show q.1<_;split<;>omega
    .exact zbX1 h3 y hy
theorem zcg1{Q:Exit->St->Prop}{st:St}{dr:List Nat}{an:List (List Nat)}{ops:List POp}(hm:C.P.follows .mixedOrders=true)(hG:E.G=C.G)(h:zaf0 C an ops st [] λ s=>Q .normal (s.drop dr)):AW C E (.regm dr an ops) Q st:=λ code hc a w hs=>by
  cases code with
  |region id os d=>
   cases d with
   |false=>simp[chkC]at hc
   |true=>
    simp only[chkC,cF,cY]at hc;obtain⟨hc1,hc2,hc3,hc4⟩:=hc;have hr:ROk C E.N os 0 ops:=by obtain⟨P,G⟩:=C;exact zaM9 os.toList ops 0 hc1 (by simp) (by simp)
    obtain⟨vs,mws,sts,hK,h0,hv⟩:=zbj0 ops st [] h;subst hc4;have hnx1:∀j,(sts j).nx<=(sts (j+1)).nx\/ops.length<=j:=λ j=>by
      by_cases hj:j<ops.length
      · obtain⟨g1,g2,_⟩:=hv j ops[j] (by simp[hj])
        left;rw[g1];exact zbj2 _ _
      .right;omega
    let sts':Nat->St:=λ j=>if j<=ops.length then sts j else sts ops.length
    have hs':∀j,j<=ops.length->sts' j=sts j:=λ j hj=>cQ hj;have hs2:∀j,ops.length<=j->sts' j=sts ops.length:=λ j hj=>by
      show(if j<=ops.length then sts j else sts ops.length)=_;split
      .rw[show j=ops.length by omega]
      .rfl
    have hstep:∀j,(sts' j).nx<=(sts' (j+1)).nx:=λ j=>by
      by_cases hj:j<ops.length
      · rw[hs' j (by omega),hs' (j+1) (by omega)]
        rcases hnx1 j with h1|h1
        .exact h1
        .omega
      .rw[hs2 j (by omega),hs2 (j+1) (by omega)];exact cU _
    have hmono:∀i j,i<=j->(sts' i).nx<=(sts' j).nx:=λ i j hij=>by
      induction j with
      |zero=>rw[show i=0 by omega];exact cU _
      |succ j ih=>
        by_cases hi:i=j+1
        .rw[hi];exact cU _
        .exact fZ (ih (by omega)) (hstep j)
    have hFS:∀j,j<=ops.length->(sts' j).toS=FSt ops vs mws st.toS (λ _=>true) j:=λ j hj=>by
      rw[hs' j hj];induction j with
      |zero=>rw[h0];rfl
      |succ j ih=>
        obtain⟨g1,g2,_⟩:=hv j ops[j] (by simp[show j<ops.length by omega]);have ih:=ih (by omega);rw[g1,zaU3 _ _ _ _ g2];have hq:ops[j]? =some ops[j]:=by simp[show j<ops.length by omega]
        simp only[FSt,hq,dM];rw[<-ih];rfl
    refine wp_region_any hm ?_;refine zbG1 (s0:=st.toS) (vs:=vs) (mws:=mws) (sts:=sts') (K:=λ s=>Q .normal (s.drop dr)) hG hr hc2 hc3 (by rw[hs' _ (cU _)];exact hK) hFS (λ j p hp=>?_) hmono (λ y hy=>?_) (λ j p y hp hy=>?_) (λ st' a' w' hQ hs'=>⟨_,hQ,hs'.drop⟩) os.size _ a _ (by simp) ?_ (λ j o ho hj=>?_) ?_
    · have hj:=(cH.1 hp).1
      obtain⟨g1,g2,g3,g4,_,g6⟩:=hv j p hp;rw[hs' j (by omega)];refine⟨g2,g3,g4,λ i q hi hq hn=>?_⟩;rw[hs' i (by omega)];simp only[List.length_nil,dJ]at g6;exact g6 i q hi hq hn
    · rw[hs' 0 (eQ _),h0]at hy
      exact zbe6 st y hy
    · have hj:=(cH.1 hp).1
      obtain⟨g1,g2,_⟩:=hv j p hp;rw[hs' (j+1) (by omega),g1];exact zbX1 g2 y hy
    · have e:FSt ops vs mws st.toS (λ i=>(Array.replicate os.size false).getD i false) ops.length=FSt ops vs mws st.toS (λ _=>false) ops.length:=zbi8 _ λ i _=>by simp[Array.getD]
      have e2:∀n,FSt ops vs mws st.toS (λ _=>false) n=st.toS:=λ n=>by
        induction n with
        |zero=>rfl
        |succ n ih=>simp only[FSt,ih,cG,cV];split<;>rfl
      rw[e,e2];exact hs.drawn (hY _)
    .simp[Array.getD]at hj
    · have:∀n,left (λ i=>(Array.replicate os.size false).getD i false) n<=n:=λ n=>by
        induction n with
        |zero=>exact cU _
        |succ n ih=>simp only[left];split<;>omega
      exact this _
  |_=>simp[chkC]at hc
end
def memN(n:Nat):List Nat->Bool
 |[]=>false
 |m::ms=>if n=m then true else memN n ms
theorem zbj3{n:Nat}:∀{l:List Nat},memN n l=true↔n∈l
 |[]=>by simp[memN]
 |m::ms=>by
  unfold memN;split
  .rename_i h;simp[h]
  .rename_i h;rw[zbj3];simp[h]
def fzA(ids:List Nat)(m:Nat->MS):A->A
 | .own y lo n=>if memN y ids=true then frz1 m (.own y lo n)else .own y lo n
 |a=>a
def fzCs(ids:List Nat)(m:Nat->MS):List A->List A
 |[]=>[]
 |a::as=>fzA ids m a::fzCs ids m as
def fzV(ids:List Nat)(m:Nat->MS):A->A
 | .agg cs=>if zk0 cs=true then .agg cs else .agg (fzCs ids m cs)
 |a=>fzA ids m a
def fzEs(ids:List Nat)(m:Nat->MS)(es:List (List A)):List (List A):=if pureEs es=true then es else es.map (fzCs ids m)
def fzFr(ids:List Nat)(m:Nat->MS):List (Nat×A)->List (Nat×A)
 |[]=>[]
 |q::r=>(q.1,fzV ids m q.2)::fzFr ids m r
def zbA0(ids:List Nat)(m:Nat->MS):List (Nat×Row)->List (Nat×Row)
 |[]=>[]
 |q::r=>(q.1,⟨q.2.ro||memN q.1 ids,q.2.sz,q.2.z,fzEs ids m q.2.es⟩)::zbA0 ids m r
def zbq4(ids:List Nat)(m:Nat->MS):A->Prop
 | .own y lo n=>if memN y ids=true then zV8 m (.own y lo n)else True
 |_=>True
def zaY7(ids:List Nat)(m:Nat->MS):List A->Prop
 |[]=>True
 |a::as=>zbq4 ids m a/\zaY7 ids m as
def zbA1(ids:List Nat)(m:Nat->MS):A->Prop
 | .agg cs=>if zk0 cs=true then True else zaY7 ids m cs
 |a=>zbq4 ids m a
def zbe9(ids:List Nat)(m:Nat->MS):List (List A)->Prop
 |[]=>True
 |c::cs=>zaY7 ids m c/\zbe9 ids m cs
def zbt4(ids:List Nat)(m:Nat->MS)(es:List (List A)):Prop:=if pureEs es=true then True else zbe9 ids m es
def zbt5(ids:List Nat)(m:Nat->MS):List (Nat×A)->Prop
 |[]=>True
 |q::r=>zbA1 ids m q.2/\zbt5 ids m r
def zbf0(ids:List Nat)(m:Nat->MS):List (Nat×Row)->Prop
 |[]=>True
 |q::r=>zbt4 ids m q.2.es/\zbf0 ids m r
def St.fz(st:St)(ids:List Nat):St:=⟨fzFr ids st.m st.fr,zbA0 ids st.m st.mem,st.nx⟩
def St.fzOk(st:St)(ids:List Nat):Prop:=zbt5 ids st.m st.fr/\zbf0 ids st.m st.mem
section
variable {C:Cx} {a:Act} {E:Env} {st:St} {w:World} {W:Nat→Prop} {μ:Nat→Loc}
theorem zbt6(ids:List Nat)(m:Nat->MS):∀(cs:List A) (i:Nat),(fzCs ids m cs)[i]? =(cs[i]?).map (fzA ids m)
 |[],i=>by simp[fzCs]
 |c::cs,i=>by
  cases i with
  |zero=>simp[fzCs]
  |succ i=>simp[fzCs,zbt6 ids m cs i]
theorem zbj4(ids:List Nat)(m:Nat->MS):∀cs:List A,(fzCs ids m cs).length=cs.length
 |[]=>rfl
 |_::cs=>by simp[fzCs,zbj4 ids m cs]
theorem zaY8{ids:List Nat}{m:Nat->MS}:∀{cs:List A},zaY7 ids m cs->∀c∈cs,zbq4 ids m c
 |c::cs,h,d,hd=>by
  rcases dB.1 hd with rfl|hd
  .exact h.1
  .exact zaY8 h.2 d hd
theorem zbj5{ids:List Nat}{m:Nat->MS}:∀{cs:List (List A)},zbe9 ids m cs->∀c∈cs,zaY7 ids m c
 |c::cs,h,d,hd=>by
  rcases dB.1 hd with rfl|hd
  .exact h.1
  .exact zbj5 h.2 d hd
theorem zbq5(ids:List Nat)(m:Nat->MS)(t:Nat):∀fr:List (Nat×A),look (fzFr ids m fr) t=(look fr t).map (fzV ids m)
 |[]=>rfl
 |q::r=>by
  simp only[fzFr,look];split
  .rfl
  .exact zbq5 ids m t r
theorem zbj6(ids:List Nat)(m:Nat->MS)(x:Nat):∀mem:List (Nat×Row),look (zbA0 ids m mem) x=(look mem x).map λ r=>⟨r.ro||memN x ids,r.sz,r.z,fzEs ids m r.es⟩
 |[]=>rfl
 |q::r=>by
  simp only[zbA0,look];split
  .rename_i h;subst h;rfl
  .exact zbj6 ids m x r
theorem zbq6{ids:List Nat}{m:Nat->MS}:∀{fr:List (Nat×A)},zbt5 ids m fr->∀t v,look fr t=some v->zbA1 ids m v
 |q::r,h,t,v,hv=>by
  simp only[look]at hv;split at hv
  .cases hv;exact h.1
  .exact zbq6 h.2 t v hv
theorem zbj7{ids:List Nat}{m:Nat->MS}:∀{mem:List (Nat×Row)},zbf0 ids m mem->∀x r,look mem x=some r->zbt4 ids m r.es
 |q::r,h,t,v,hv=>by
  simp only[look]at hv;split at hv
  .cases hv;exact h.1
  .exact zbj7 h.2 t v hv
theorem RepK.less{v:Value}{x:A}{ids:List Nat}(h:RepK w W μ v x):RepK w (zal0 W μ ids) μ v x:=
 h.goes (Keeps.refl (λ _=>False) w) (λ _ _ _ h=>h) (λ _ _ h1 h2=>h1 h2.1) (Old.refl μ)
theorem zbt7{s:S}(hs:SatW E s a w W μ){v:Value}{x:A}{ids:List Nat}(h:RepK w W μ v x)(hok:zbq4 ids s.mem x):RepK w (zal0 W μ ids) μ v (fzA ids s.mem x):=by
 cases x with
 |own y lo n=>
  simp only[fzA,zbq4]at hok⊢;split
  .rename_i hy;rw[cQ hy]at hok;exact zp5 (zbh3 hs h hok (λ z hz=>by simp[zI3]at hz;subst hz;exact zbj3.1 hy))
  .exact h.less
 |_=>exact h.less
theorem zcq9{s:S}(hs:SatW E s a w W μ){v:Value}{x:A}{ids:List Nat}(h:Rep w W μ v x)(hok:zbA1 ids s.mem x):Rep w (zal0 W μ ids) μ v (fzV ids s.mem x):=by
 have hgo:Rep w (zal0 W μ ids) μ v x:=h.goes (Keeps.refl (λ _=>False) w) (λ _ _ _ h=>h) (λ _ _ h1 h2=>h1 h2.1) (Old.refl μ);cases x with
 |own y lo n=>exact zp6 (zo5 (zbt7 (x:=.own y lo n) hs h hok))
 |agg cs=>
  simp only[fzV,zbA1]at hok⊢;split
  .exact hgo
  .rename_i hp;rw[cL hp]at hok;obtain⟨vs,hv,hl,hr⟩:=h;refine⟨vs,hv,by rw[zbj4];exact hl,λ i u b hu hb=>?_⟩;rw[zbt6]at hb;obtain⟨c,hc,rfl⟩:=cI.1 hb;exact zbt7 hs (hr i u c hu hc) (zaY8 hok c (cN hc))
 |_=>exact hgo
@[go_sem] theorem zcQ2(ids:List Nat)(m:Nat->MS)(s:List Nat):(s.map iE).map (fzCs ids m)=s.map iE:=by simp[iE,fzCs,fzA]
theorem zcg2{ids:List Nat}{m:Nat->MS}{y c:Nat}{seen:List Nat}:fzEs ids m ([.mp y,.int .i64 c]::seen.map iE)=[.mp y,.int .i64 c]::seen.map iE:=by unfold fzEs;rw[cL (by simp[pureEs,zk0,A.pure1]),dI,zcQ2];rfl
theorem zbP2{s:S}(hs:SatW E s a w W μ)(ids:List Nat):zaq7 w (zal0 W μ ids) E.G:=λ g cs hg=>by obtain⟨h1,h2,h3⟩:=hs.glob g cs hg;refine⟨λ hh=>h1 hh.1,h2,λ j b hj=>?_⟩;obtain⟨u,hu,hr⟩:=h3 j b hj;exact⟨u,hu,hr.less⟩
theorem St.le_fz(ids:List Nat)(h:st.fzOk ids):St.le E st (st.fz ids):=by
 intro a w ⟨W,μ,hs⟩;refine⟨zal0 W μ ids,μ,{hs with
  defers:=(let⟨Ds,d1,d2,d3,d4⟩:=hs.defers;⟨Ds,d1,d2,d3,λ D hD=>let⟨g1,g2,g3,g4⟩:=d4 D hD;⟨⟨g1,λ⟨x,k,_,hk,he⟩=>g4 x k hk he⟩,g2,g3,g4⟩⟩)
  fr:=λ t=>?_
  mem:=λ x=>?_
  wsub:=λ b hb=>hs.wsub b hb.1
  wsup:=λ b hb=>?_
  wlt:=λ b hb=>hs.wlt b hb.1
  glob:=zbP2 hs ids}⟩
 .show Rep w _ μ _ ((st.fz ids).slot t);have hr:Rep w W μ _ (st.slot t):=hs.fr t;simp only[St.slot,St.fz,zbq5]at hr⊢;cases hl:look st.fr t with
  |none=>trivial
  |some v=>rw[hl]at hr;exact zcq9 hs hr (zbq6 h.1 t v hl)
 .show zV7 w _ μ x ((st.fz ids).m x);have hm:zV7 w W μ x (st.m x):=hs.mem x;simp only[St.m,St.fz,zbj6]at hm⊢;split
  .rename_i hx;rw[cQ hx]at hm;exact hm
  .rename_i hx;rw[cL hx]at hm;cases hl:look st.mem x with
   |none=>rw[hl]at hm;exact hm
   |some r=>
    rw[hl]at hm;have hok:=zbj7 h.2 x r hl;have hro':∀k,μ x=.at_ k->(r.ro=false->W k.b)->(r.ro||memN x ids)=false->zal0 W μ ids k.b:=λ k e1 hro hr'=>by simp only[Bool.or_eq_false_iff]at hr';refine⟨hro hr'.1,λ⟨y,ky,hy,hy2,hy3⟩=>?_⟩;have:=hs.inj y x ky k hy2 e1 hy3;subst this;rw[zbj3.2 hy]at hr';cases hr'.2
    rcases hm with⟨e1,e2,e3⟩|⟨k,e1,⟨hro,hsz,hpos,us,rest,e,h4,h5,h6⟩|gM|gI⟩
    .exact .inl ⟨e1,by show fzEs ids st.m r.es=[];rw[e2];rfl,e3⟩
    rotate_left
    .have hp:=gM.pure;obtain⟨hro,hsz,hpos,es,h4,h5,h6⟩:=gM;refine .inr ⟨k,e1,.inr (.inl ⟨λ hr=>hro' k e1 hro hr,hsz,hpos,es,h4,?_,λ i e c q1 q2=>?_⟩)⟩
     .show es.size=(fzEs ids st.m r.es).length;unfold fzEs;rw[cQ hp];exact h5
     .have q3:(fzEs ids st.m r.es)[i]? =some c:=q2;unfold fzEs at q3;rw[cQ hp]at q3;exact(h6 i e c q1 q3).keep (Keeps.refl (λ _=>False) w) (λ _ _ _ h=>h) (λ _ _ h h2=>h h2.1)
    .obtain⟨hro,hsz,hpos,hz,y,b,c,seen,h4,h5,h6⟩:=gI;exact .inr ⟨k,e1,.inr (.inr ⟨λ hr=>hro' k e1 hro hr,hsz,hpos,hz,y,b,c,seen,by show fzEs ids st.m r.es=_;rw[h4];exact zcg2,h5,h6⟩)⟩
    .refine .inr ⟨k,e1,.inl ⟨λ hr=>hro' k e1 hro hr,hsz,hpos,us,rest,e,h4,h5,?_⟩⟩
     .show Flat _ r.sz us (fzEs ids st.m r.es);unfold fzEs;unfold zbt4 at hok;split
      .exact h6.mono λ u b hr=>hr.less
      .rename_i hp;rw[cL hp]at hok;refine⟨by simpa using h6.hl,λ i c hc=>?_,λ i c j b hc hb=>?_⟩
       .simp only[cP,cI]at hc;obtain⟨c0,hc0,rfl⟩:=hc;rw[zbj4];exact h6.hs i c0 hc0
       .simp only[cP,cI]at hc;obtain⟨c0,hc0,rfl⟩:=hc;rw[zbt6]at hb;obtain⟨b0,hb0,rfl⟩:=cI.1 hb;obtain⟨u,hu,hr⟩:=h6.ha i c0 j b0 hc0 hb0;exact⟨u,hu,zbt7 hs hr (zaY8 (zbj5 hok c0 (cN hc0)) b0 (cN hb0))⟩
 .rcases hs.wsup b hb with h1|h1
  .by_cases hx:∃x k,x∈ids/\μ x=.at_ k/\k.b=b
   .obtain⟨x,k,_,hx2,hx3⟩:=hx;rcases hs.live x k hx2 with h2|h2
    .exact .inr (hx3▸h2)
    .have:=hs.winlt b hb;omega
   .exact .inl ⟨h1,hx⟩
  .exact .inr h1
def St.own0(st:St)(t sz:Nat)(z:List A):St:=⟨(t,.own st.nx 0 0)::rm t st.fr,(st.nx,⟨false,sz,z,[]⟩)::st.mem,st.nx+1⟩
theorem St.le_own0(t sz:Nat)(z:List A)(hz:0<sz)(h:st.slot t=.full []):St.le E st (st.own0 t sz z):=by
 intro a w ⟨W,μ,hs⟩;have hst:=Step.newEmpty (r:=⟨false,sz,z,[]⟩) hs.mem hs.inj hs.wlt (St.m_nx st) hz rfl (Keeps.refl _ w);have h2:=hs.step (d:=none) (v:=undef) (av:=.any) hst (λ x hx=>by cases hx) trivial;have hem:(st.own0 t sz z).m=setM st.m [(st.nx,.row ⟨false,sz,z,[]⟩)]:=by
  funext x;simp only[St.m,St.own0,setM,look]
  by_cases hx:x=st.nx
  .subst hx;rw[cL (by omega),cQ rfl,cQ rfl]
  .by_cases h3:st.nx<=x
   .rw[cQ (show st.nx+1<=x by omega),cL hx,cQ h3]
   .rw[cL (show¬st.nx+1<=x by omega),cL (show¬st.nx=x by omega),cL hx,cL h3]
 refine⟨_,_,{h2 with fr:=λ t'=>?_,mem:=?_}⟩
 .have h3:=h2.fr t';show Rep w W _ (a.tmps.getD t' undef) ((st.own0 t sz z).slot t');have h4:Rep w W (λ x=>if x=st.nx then .empty else μ x) (a.tmps.getD t' undef) (st.slot t'):=h3;simp only[St.slot,St.own0,look];split
  .rename_i ht;subst ht;rw[h]at h4;have h5:RepC w W (a.tmps.getD t undef) (.full []):=h4;generalize a.tmps.getD t undef=v at h5;cases h5 with
   |full ad n es h6=>
    cases h6 with
    |sl0=>exact zay2 (by simp) 0
    |sl b off cap s es us _ _ hn=>simp at hn
  .rename_i ht;rw[zak6,cL (λ e=>ht e.symm)];exact h4
 .show zac5 w W _ (st.own0 t sz z).m;rw[hem];exact h2.mem
def zaE4(j n:Nat):List (List A)->List (List A)
 |[c]=>[upd c j [.own n 0 0]]
 |es=>es
def zaV0(x j n:Nat):List (Nat×Row)->List (Nat×Row)
 |[]=>[]
 |q::r=>if q.1=x then(q.1,⟨q.2.ro,q.2.sz,q.2.z,zaE4 j n q.2.es⟩)::r else q::zaV0 x j n r
def zbX2(j:Nat):List (List A)->Prop
 |[c]=>sub c j 1=[.full []]
 |_=>False
def St.ownb(st:St)(x j sz:Nat)(z:List A):St:=⟨st.fr,(st.nx,⟨false,sz,z,[]⟩)::zaV0 x j st.nx st.mem,st.nx+1⟩
def St.ownbOk(st:St)(x j sz:Nat):Prop:=0<sz/\match st.m x with
 | .row r=>0<r.sz/\zbX2 j r.es
 |_=>False
theorem zaV1(x j n y:Nat):∀mem:List (Nat×Row),look (zaV0 x j n mem) y=(look mem y).map λ r=>if y=x then⟨r.ro,r.sz,r.z,zaE4 j n r.es⟩else r
 |[]=>rfl
 |q::r=>by
  simp only[zaV0];split
  .rename_i h;simp only[look];split
   .rename_i h2;simp[<-h2,h]
   .rename_i h2;have:¬y=x:=λ e=>h2 (h.trans e.symm);cases look r y<;>simp[this]
  .rename_i h;simp only[look];split
   .rename_i h2;simp[<-h2,h]
   .exact zaV1 x j n y r
theorem zbA2{v:Value}{x:Nat}(hx:μ x=.empty)(h:RepK w W μ v (.full [])):RepK w W μ v (.own x 0 0):=by
 have h5:RepC w W v (.full []):=h;cases h5 with
 |full ad n es h6=>
  cases h6 with
  |sl0=>refine⟨rfl,?_⟩;rw[hx];exact⟨rfl,ad,rfl⟩
  |sl b off cap s es us _ _ hn=>simp at hn
theorem St.le_ownb(x j sz:Nat)(z:List A)(h:st.ownbOk x j sz):St.le E st (st.ownb x j sz z):=by
 obtain⟨hz,hnil⟩:=h;intro a w ⟨W,μ,hs⟩;have hst:=Step.newEmpty (r:=⟨false,sz,z,[]⟩) hs.mem hs.inj hs.wlt (St.m_nx st) hz rfl (Keeps.refl _ w);have h2:=hs.step (d:=none) (v:=undef) (av:=.any) hst (λ x hx=>by cases hx) trivial;refine⟨_,_,{h2 with fr:=λ t=>h2.fr t,mem:=λ y=>?_}⟩;have hm:=h2.mem y;have hxn:x<st.nx:=by
  cases hr:st.m x with
  |fresh=>rw[hr]at hnil;exact hnil.elim
  |dead=>rw[hr]at hnil;exact hnil.elim
  |row r=>exact St.m_row hr
 show zV7 w W _ y ((st.ownb x j sz z).m y);have hm':zV7 w W (λ x=>if x=st.nx then .empty else μ x) y (setM st.m [(st.nx,.row ⟨false,sz,z,[]⟩)] y):=hm;simp only[setM]at hm'
 by_cases hy:y=st.nx
 .subst hy;have e:(st.ownb x j sz z).m st.nx=.row ⟨false,sz,z,[]⟩:=by
   simp only[St.m,St.ownb,look];rw[cL (by omega)];simp
  rw[cQ rfl]at hm';rw[e];exact hm'
 rw[cL hy]at hm';have e:(st.ownb x j sz z).m y=match st.m y with
   | .row r=>.row (if y=x then⟨r.ro,r.sz,r.z,zaE4 j st.nx r.es⟩else r)
   |q=>q:=by
  simp only[St.m,St.ownb,look,zaV1]
  by_cases h3:st.nx<=y
  .rw[cQ (show st.nx+1<=y by omega),cQ h3]
  .rw[cL (show¬st.nx+1<=y by omega),cL (show¬st.nx=y by omega),cL h3];cases look st.mem y<;>rfl
 rw[e];cases hr:st.m y with
 |fresh=>rw[hr]at hm';exact hm'
 |dead=>rw[hr]at hm';exact hm'
 |row r=>
  rw[hr]at hm';simp only
  by_cases hyx:y=x
  .subst hyx;rw[cQ rfl];rw[hr]at hnil;obtain⟨hpz,hnil⟩:0<r.sz/\zbX2 j r.es:=hnil;rcases hm' with⟨g1,g2,g3⟩|⟨k,g1,gA⟩
   .rw[g2]at hnil;exact hnil.elim
   .obtain⟨g2,g3,g4,us,rest,e',g5,g6,g7⟩:=gA.ok (by have:=gA.wr.2;omega);refine .inr ⟨k,g1,.inl ⟨g2,g3,g4,us,rest,e',g5,g6,?_⟩⟩;show Flat _ r.sz us (zaE4 j st.nx r.es);obtain⟨ro,sz',z',es⟩:=r
    match es,hnil with
    |[c],hnil=>
     have hj:sub c j 1=[.full []]:=hnil;have hc:c.length=sz':=g7.hs 0 c rfl;have hjl:c[j]? =some (.full []):=by
      have h8:((c.drop j).take 1)[0]? =some (.full []):=by show(sub c j 1)[0]? =_;rw[hj];rfl
      simpa [dG,dO]using h8
     have hlt:j<c.length:=(cH.1 hjl).1;have hu:upd c j [.own st.nx 0 0]=c.set j (.own st.nx 0 0):=by simp only[upd,List.length_cons,List.length_nil,dJ];rw[gO,cQ hlt];simp
     refine⟨g7.hl,λ i d hd=>?_,λ i d q b hd hb=>?_⟩
     .cases i with
      |zero=>simp[zaE4]at hd;subst hd;rw[hu,iW];exact hc
      |succ i=>simp[zaE4]at hd
     .cases i with
      |zero=>
       simp[zaE4]at hd;subst hd;rw[hu,List.getElem?_set]at hb;split at hb
       .rename_i hq;subst hq;cases hb;obtain⟨u,hu1,hu2⟩:=g7.ha 0 c j _ rfl hjl;exact⟨u,hu1,zbA2 (by simp) hu2⟩
       .exact g7.ha 0 c q b rfl hb
      |succ i=>simp[zaE4]at hd
  .rw[cL hyx];exact hm'
def unfA:A->A
 | .full es=>.sl es
 |a=>a
def unfCs:List A->List A
 |[]=>[]
 |a::as=>unfA a::unfCs as
def zbj8:List (Nat×Row)->List (Nat×Row)
 |[]=>[]
 |q::r=>(q.1,⟨q.2.ro,q.2.sz,q.2.z,q.2.es.map unfCs⟩)::zbj8 r
def St.unf(st:St):St:=⟨st.fr,zbj8 st.mem,st.nx⟩
theorem zbj9:∀(cs:List A) (i:Nat),(unfCs cs)[i]? =(cs[i]?).map unfA
 |[],i=>by simp[unfCs]
 |c::cs,i=>by
  cases i with
  |zero=>simp[unfCs]
  |succ i=>simp[unfCs,zbj9 cs i]
theorem zaY9:∀cs:List A,(unfCs cs).length=cs.length
 |[]=>rfl
 |_::cs=>by simp[unfCs,zaY9 cs]
theorem zbc2(x:Nat):∀mem:List (Nat×Row),look (zbj8 mem) x=(look mem x).map λ r=>⟨r.ro,r.sz,r.z,r.es.map unfCs⟩
 |[]=>rfl
 |q::r=>by
  simp only[zbj8,look];split
  .rfl
  .exact zbc2 x r
theorem zcg3{v:Value}{x:A}(h:RepK w W μ v x):RepK w W μ v (unfA x):=by
 cases x with
 |full es=>
  have h2:RepC w W v (.full es):=h;cases h2 with
  |full a n es h3=>exact zp5 h3
 |_=>exact h
@[go_sem] theorem zcr0(s:List Nat):(s.map iE).map unfCs=s.map iE:=by simp[iE,unfCs,unfA]
theorem zcm8{v:Value}{x:A}(h:RepC w W v x):RepC w W v (unfA x):=by
 cases x with
 |full es=>cases h with|full a n es h3=>exact h3
 |_=>exact h
theorem zaq6.unf{z:List A}{i:Nat}{e:MapEntry}{c:List A}(h:zaq6 w W z i e c):zaq6 w W z i e (unfCs c):=by
 obtain⟨h0,k,cs,ag,rfl,h2,h3,h4,h5⟩:=h;refine⟨h0,k,unfCs cs,ag,?_,h2,h3,h4,?_⟩
 .simp only[unfCs];congr 1;generalize z.headD .any=zk at h3;cases zk<;>cases k<;>first|rfl|(simp[zC9,key1]at h3)
 .unfold RepX at*;split
  .rename_i ha;rw[cQ ha]at h5;obtain⟨vs,g1,g2,g3⟩:=h5;refine⟨vs,g1,by rw[zaY9];exact g2,λ j u b p q=>?_⟩;rw[zbj9]at q;obtain⟨b0,q0,rfl⟩:=cI.1 q;exact zcm8 (g3 j u b0 p q0)
  .rename_i ha;rw[cL ha]at h5;obtain⟨b,rfl,g⟩:=h5;exact⟨unfA b,rfl,zcm8 g⟩
theorem St.le_unf:St.le E st st.unf:=by
 intro a w ⟨W,μ,hs⟩;refine⟨W,μ,{hs with mem:=λ x=>?_}⟩;show zV7 w W μ x (st.unf.m x);have hm:zV7 w W μ x (st.m x):=hs.mem x;simp only[St.m,St.unf,zbc2]at hm⊢;split
 .rename_i hx;rw[cQ hx]at hm;exact hm
 .rename_i hx;rw[cL hx]at hm;cases hl:look st.mem x with
  |none=>rw[hl]at hm;exact hm
  |some r=>
   rw[hl]at hm;rcases hm with⟨e1,e2,e3⟩|⟨k,e1,⟨hro,hsz,hpos,us,rest,e,h4,h5,h6⟩|⟨hro,hsz,hpos,es,h4,h5,h6⟩|⟨hro,hsz,hpos,hz,y,b,c,seen,h4,h5,h6⟩⟩
   .exact .inl ⟨e1,by show r.es.map unfCs=[];rw[e2];rfl,e3⟩
   rotate_left
   .refine .inr ⟨k,e1,.inr (.inl ⟨hro,hsz,hpos,es,h4,by show es.size=(r.es.map unfCs).length;simpa using h5,λ i e c q1 q2=>?_⟩)⟩;have q3:(r.es.map unfCs)[i]? =some c:=q2;simp only[cP,cI]at q3;obtain⟨c0,hc0,rfl⟩:=q3;exact(h6 i e c0 q1 hc0).unf
   .exact .inr ⟨k,e1,.inr (.inr ⟨hro,hsz,hpos,hz,y,b,c,seen,by show r.es.map unfCs=_;rw[h4,dI,zcr0];rfl,h5,h6⟩)⟩
   .refine .inr ⟨k,e1,.inl ⟨hro,hsz,hpos,us,rest,e,h4,h5,?_⟩⟩;show Flat _ r.sz us (r.es.map unfCs);refine⟨by simpa using h6.hl,λ i c hc=>?_,λ i c j b hc hb=>?_⟩
    .simp only[cP,cI]at hc;obtain⟨c0,hc0,rfl⟩:=hc;rw[zaY9];exact h6.hs i c0 hc0
    .simp only[cP,cI]at hc;obtain⟨c0,hc0,rfl⟩:=hc;rw[zbj9]at hb;obtain⟨b0,hb0,rfl⟩:=cI.1 hb;obtain⟨u,hu,hr⟩:=h6.ha i c0 j b0 hc0 hb0;exact⟨u,hu,zcg3 hr⟩
def St.cast(st:St)(t:Nat)(v:A):St:=⟨(t,v)::rm t st.fr,st.mem,st.nx⟩
theorem St.le_cast(t:Nat)(v:A)(h:st.slot t=v):St.le E st (st.cast t v):=by
 have e:(st.cast t v).toS=st.toS:=by
  simp only[St.toS];congr 1;funext x;simp only[St.slot,St.cast,look];split
  .rename_i hx;subst hx;exact h.symm
  .rename_i hx;rw[zak6,cL (λ e=>hx e.symm)]
 intro a w hs;rw[e];exact hs
def St.unfs(st:St)(t:Nat):St:=⟨(t,unfA (st.slot t))::rm t st.fr,st.mem,st.nx⟩
theorem St.le_unfs(t:Nat):St.le E st (st.unfs t):=by
 intro a w ⟨W,μ,hs⟩;refine⟨W,μ,{hs with fr:=λ t'=>?_}⟩;show Rep w W μ (a.tmps.getD t' undef) ((st.unfs t).slot t');have hr:Rep w W μ (a.tmps.getD t' undef) (st.slot t'):=hs.fr t'
 by_cases h:t=t'
 .subst h;have e:(st.unfs t).slot t=unfA (st.slot t):=by simp[St.slot,St.unfs,look]
  rw[e];generalize st.slot t=x at hr⊢;cases x with
  |full es=>have h2:RepC w W (a.tmps.getD t undef) (.full es):=hr;exact zp6 (zo5 (zp5 h2.of_full.1))
  |_=>exact hr
 .have e:(st.unfs t).slot t'=st.slot t':=by
   simp only[St.slot,St.unfs,look];rw[cL h,zak6,cL (λ e=>h e.symm)]
  rw[e];exact hr
def zaN0(x n:Nat):List (Nat×Row)->List (Nat×Row)
 |[]=>[]
 |q::r=>(if q.1=x then(q.1,⟨q.2.ro,q.2.sz,q.2.z,q.2.es.take n⟩)else q)::zaN0 x n r
theorem zaE5(x n y:Nat):∀mem:List (Nat×Row),look (zaN0 x n mem) y=(look mem y).map λ r=>if y=x then⟨r.ro,r.sz,r.z,r.es.take n⟩else r
 |[]=>rfl
 |q::r=>by
  simp only[zaN0,look]
  by_cases h:q.1=x
  .rw[cQ h]
   by_cases h2:q.1=y
   .rw[cQ h2,cQ h2];simp[<-h2,h]
   .rw[cL h2,cL h2];exact zaE5 x n y r
  .rw[cL h]
   by_cases h2:q.1=y
   .rw[cQ h2,cQ h2];simp[<-h2,h]
   .rw[cL h2,cL h2];exact zaE5 x n y r
def St.trim(st:St)(x n:Nat):St:=⟨st.fr,zaN0 x n st.mem,st.nx⟩
def St.trimOk(st:St)(x:Nat):Prop:=match st.m x with
 | .row r=>0<r.sz
 |_=>False
theorem St.le_trim(x n:Nat)(h:st.trimOk x):St.le E st (st.trim x n):=by
 intro a w ⟨W,μ,hs⟩;refine⟨W,μ,{hs with mem:=λ y=>?_}⟩;show zV7 w W μ y ((st.trim x n).m y);have hm:=hs.mem y;change zV7 w W μ y (st.m y)at hm;have e:(st.trim x n).m y=if st.nx<=y then .fresh else match look (zaN0 x n st.mem) y with|some r=>.row r|none=>.dead:=rfl
 have e0:st.m y=if st.nx<=y then .fresh else match look st.mem y with|some r=>.row r|none=>.dead:=rfl
 by_cases hy:st.nx<=y
 .rw[e,cQ hy];rw[e0,cQ hy]at hm;exact hm
 .rw[e,cL hy,zaE5];rw[e0,cL hy]at hm;cases hl:look st.mem y with
  |none=>rw[hl]at hm;simpa using hm
  |some r=>
   rw[hl]at hm;simp only[Option.map_some]at hm|-
   by_cases hx:y=x
   .rw[cQ hx];subst hx;have hz:0<r.sz:=by
     unfold St.trimOk at h;simp only[St.m,hl]at h;rw[cL hy]at h;exact h
    rcases hm with⟨e1,e2,e3⟩|⟨k,e1,e2⟩
    .exact .inl ⟨e1,by simp[e2],e3⟩
    .have hk:0<k.sz:=by have:=e2.wr.2;omega
     obtain⟨g1,g2,g3,us,rest,e,g4,g5,g6⟩:=e2.ok hk;refine .inr ⟨k,e1,.inl ⟨g1,g2,g3,us.take (n*r.sz),us.drop (n*r.sz)++rest,e,?_,?_,g6.take n⟩⟩
     .rw[<-dW,dY];exact g4
     .rw[<-g5];simp;omega
   .rw[cL hx];exact hm
inductive Gh where
 |unf
 |cast (t:Nat) (v:A)
 |fz (ids:List Nat)
 |own0 (t sz:Nat) (z:List A)
 |ownb (x j sz:Nat) (z:List A)
 |unfs (t:Nat)
 |trim (x n:Nat)
def St.gh(st:St):Gh->St
 | .unf=>st.unf
 | .cast t v=>st.cast t v
 | .fz ids=>st.fz ids
 | .own0 t sz z=>st.own0 t sz z
 | .ownb x j sz z=>st.ownb x j sz z
 | .unfs t=>st.unfs t
 | .trim x n=>st.trim x n
def St.ghOk(st:St):Gh->Prop
 | .unf=>True
 | .cast t v=>st.slot t=v
 | .fz ids=>st.fzOk ids
 | .own0 t sz _=>0<sz/\st.slot t=.full []
 | .ownb x j sz _=>st.ownbOk x j sz
 | .unfs _=>True
 | .trim x _=>st.trimOk x
theorem St.le_gh(g:Gh)(h:st.ghOk g):St.le E st (st.gh g):=by
 cases g with
 |unf=>exact St.le_unf
 |cast t v=>exact St.le_cast t v h
 |fz ids=>exact St.le_fz ids h
 |own0 t sz z=>exact St.le_own0 t sz z h.1 h.2
 |ownb x j sz z=>exact St.le_ownb x j sz z h
 |unfs t=>exact St.le_unfs t
 |trim x n=>exact St.le_trim x n h
theorem zcQ3{c:PC}{Q:Exit->St->Prop}(g:Gh)(hok:st.ghOk g)(h:AW C E c Q (st.gh g)):AW C E c Q st:=AW.weak (St.le_gh g hok) h
def UL(C:Cx)(E:Env)(c:PC)(Q:Exit->St->Prop):Nat->St->Prop
 |0,_=>False
 |n+1,s=>AW C E c (λ e s'=>match e with|.normal=>UL C E c Q n s'|e=>Q e s') s
def UnrQ(C:Cx)(E:Env)(c:PC)(n:Nat)(Q:Exit->St->Prop):Exit->St->Prop:=λ e s'=>match e with|.normal=>UL C E c Q n s'|e=>Q e s'
theorem zaz8{c:PC}{Q:Exit->St->Prop}(n:Nat)(h:UL C E c Q n st):AW C E (.loop c) Q st:=
 zbt1 (G:=Nat×St) (λ g=>g.2) (λ g=>UL C E c Q g.1 g.2) (λ g=>g.1) (n,st) h (λ a w h=>h) (λ⟨m,s⟩ hg=>by
  cases m with
  |zero=>exact hg.elim
  |succ m=>
   refine AW.mono hg λ e s h=>?_;cases e with
   |normal=>exact⟨(m,s),h,λ a w h=>h,iS m⟩
   |_=>exact h)
theorem zY8{c:PC}{Q:Exit->St->Prop}{n:Nat}(h:AW C E c (UnrQ C E c n Q) st):UL C E c Q (n+1) st:=h
theorem zbA3{c:PC}{Q:Exit->St->Prop}(n:Nat)(s:St):UnrQ C E c n Q .normal s=UL C E c Q n s:=rfl
theorem zbX3{c:PC}{Q:Exit->St->Prop}(n:Nat)(s:St):UnrQ C E c n Q .ret s=Q .ret s:=rfl
theorem zbP3{c:PC}{Q:Exit->St->Prop}(n i:Nat)(s:St):UnrQ C E c n Q (.exit i) s=Q (.exit i) s:=rfl
end
theorem zbt8{P:Program}{g:Operand}{ps:Array Tmp}{assign body:Code}{Q:Exit->Act->World->Prop}{a:Act}{w:World}
  (h:∀fn,∃(l:Nat) (mark:List Deferred) (w₁:World) (d:Deferred) (w₁':World) (f:FuncId) (args:Array Value) (w₂:World),
   (Instr.enterLoop fn a.tmps ps assign body none).run P w=.ok (l,mark) w₁/\(resolve a.eval (rangeCall g l) 0).run P w₁=.ok d w₁'/\(invoke d.target d.args).run P w₁'=.ok (.enter f args) w₂/\
   Calls P f args w₂ λ e w₃=>∃v,e=.returned v/\∃w₄,(Instr.endLoop l).run P w₃=.ok none w₄/\Q .normal {a with defers:=mark++a.defers} w₄):
  (Code.rangeFunc g ps assign body).wp P Q a w:=by
 intro b k cs
 let b':Frame:={b with roundOf:=none}
 have eb:∀(a:Act) (k:List Item),b.at a k=b'.atR a k:=λ a k=>rfl;obtain⟨l,mark,w₁,d,w₁',f,args,w₂,he,hres,hinv,hcall⟩:=h b.fn;have henter:=stepR_rangeFunc (P:=P) (b:=b') (a:=a) (k:=k) (cs:=cs) (w:=w) he hres hinv;obtain⟨e,w₃,fr,⟨v,he2,w₄,hend,hq⟩,hsteps,hfn,hleave⟩:=hcall (b'.atR {a with defers:=mark++a.defers} (.inRangeFunc l::k)::cs);subst he2;refine⟨.normal,_,w₄,hq,?_⟩;show Steps P _ _;rw[eb,eb];refine .head henter (Steps.trans hsteps (.head ?_ (.one (stepR_endRangeFunc hend))));rw[<-finish_atR_inRangeFunc l v];exact step_leave_returned hleave
def zaV2(P:Program)(fn:Func)(tmps:Array Value)(R:Ending->World->Prop):List Deferred->World->Prop
 |[],w=>∃v,(results fn tmps).run P w=.ok v w/\R (.returned v) w
 |d::ds,w=>∃r w',d.target=.collected r/\(Instr.takeDeferred r).run P w=.ok [] w'/\zaV2 P fn tmps R ds w'
theorem zay4{P:Program}{fn:Func}{tmps:Array Value}{R:Ending->World->Prop}:∀(ds:List Deferred) (w:World) (fr:Frame) (cs:List Frame),fr.mode=.returning->fr.defers=ds->fr.tmps=tmps->P.funcs[fr.fn]? =some fn->fr.kind=.normal->
  zaV2 P fn tmps R ds w->∃v w' fr',R (.returned v) w'/\Steps P (lone fr cs w) (lone fr' cs w')/\fr'.fn=fr.fn/\fr'.leaving P w' (.returned v)
 |[],w,fr,cs,hm,hd,ht,hf,hk,⟨v,h1,h2⟩=>⟨v,w,fr,h2,Steps.refl P _,rfl,hm,hd,hk,fn,hf,ht▸h1⟩
 |d::ds,w,fr,cs,hm,hd,ht,hf,hk,⟨r,w',h1,h2,h3⟩=>by have s1:=step_collected (P:=P) (cs:=cs) (fr:=fr) (by rw[hm];exactλ h=>nomatch h) hd h1 h2;obtain⟨v,w'',fr',q1,q2,q3,q4⟩:=zay4 ds w' {fr with defers:=[]++ds} cs hm rfl ht hf hk h3;exact⟨v,w'',fr',q1,.head s1 q2,q3,q4⟩
def zbP4(P:Program)(fn:Func)(R:Ending->World->Prop):Exit->Act->World->Prop
 | .normal,a,w|.ret,a,w=>zaV2 P fn a.tmps R a.defers w
 |_,_,_=>False
theorem zaV3{P:Program}{f:FuncId}{fn:Func}{c:Code}{args:Array Value}{w:World}{R:Ending->World->Prop}(hf:P.funcs[f]? =some fn)(hb:fn.body=some c)
  (h:c.wp P (zbP4 P fn R) {tmps:=args++Array.replicate (fn.ntmps-args.size) undef,defers:=[]} w):Calls P f args w R:=by
 intro cs
 let b:Frame:={(default:Frame)with fn:=f,kind:=.normal}
 have henter:Frame.enter P f args .normal=b.at {tmps:=args++Array.replicate (fn.ntmps-args.size) undef,defers:=[]} [.code c]:=by simp[Frame.enter,Frame.at,hf,hb,b]
 obtain⟨e,a',w',hq,harr⟩:=h b [] cs;rw[<-henter]at harr;cases e with
 |normal=>obtain⟨v,w'',fr',q1,q2,q3,q4⟩:=zay4 a'.defers w' {b.at a' []with mode:=.returning} cs rfl rfl rfl hf rfl hq;exact⟨.returned v,w'',fr',q1,Steps.trans harr (.head step_end q2),q3,q4⟩
 |ret=>obtain⟨todo,hs⟩:=harr;obtain⟨v,w'',fr',q1,q2,q3,q4⟩:=zay4 a'.defers w' {b.at a' todo with mode:=.returning} cs rfl rfl rfl hf rfl hq;exact⟨.returned v,w'',fr',q1,Steps.trans hs q2,q3,q4⟩
 |_=>exact hq.elim
theorem SatW.poke{E:Env}{s:S}{a:Act}{w:World}{W:Nat->Prop}{μ:Nat->Loc}(hs:SatW E s a w W μ){D:Nat}(o:Obj)(hD:W D)(h0:E.w0.heap.size<=D)(hμ:∀y k,μ y=.at_ k->k.b≠D){ds:List Deferred}
  (hm:zaI7 E.df E.w0.heap.size (w.putObj D o) W μ ds):SatW E s {a with defers:=ds} (w.putObj D o) W μ:=by
 have hlt:=hs.wlt D hD;have hk:Keeps (λ b=>b=D) w (w.putObj D o):=⟨rfl,rfl,rfl,cU _,by simp[World.putObj],λ b hb hn=>World.putObj_heap_other hn⟩;have hsz:(w.putObj D o).heap.size=w.heap.size:=by simp[World.putObj]
 have hDW:∀b,b<w.heap.size->¬W b->¬b=D:=λ b _ h1 h2=>h1 (h2▸hD);exact{hs with
  defers:=hm
  fr:=λ t=>(hs.fr t).goes hk hDW (λ _ _ h=>h) (Old.refl μ)
  mem:=λ x=>(hs.mem x).goes hk hDW (λ _ _ h=>h) (Old.refl μ) rfl (λ k h=>hμ x k h) (λ _ h=>h)
  keeps:=hs.keeps.trans hk (λ x hx he=>by subst he;omega)
  wlt:=λ b hb=>by rw[hsz];exact hs.wlt b hb
  glob:=λ g cs hg=>by
   obtain⟨h1,h2,h3⟩:=hs.glob g cs hg;refine⟨h1,by rw[hsz];exact h2,λ j b hj=>?_⟩;obtain⟨u,hu,hr⟩:=h3 j b hj;exact⟨u,(World.cell?_of_block (w:=w) (hk.block g h2 λ hh=>h1 (hh▸hD))).trans hu,hr.keep hk hDW (λ _ _ h=>h)⟩}
section
variable {C:Cx}
theorem zbq7{fn:Func}{N:Nat}{G:zaI4}{w:World}{W:Nat->Prop}{rs:List RX}{r:A}{st':St}{tmps:Array Value}(hlt:∀b,W b->b<w.heap.size)(hres:zaj3 C.P fn.results.toList rs=true)(hro:zaU7 st' rs r):
  ∀(Ds:List Nat) (w':World) (W':Nat->Prop) (μ':Nat->Loc),SatW ⟨w,W,λ _=>False,N,G,0,zN6,true⟩ st'.toS {tmps:=tmps,defers:=Ds.map zaI6} w' W' μ'->Ds.Nodup->(∀D∈Ds,W' D/\w.heap.size<=D/\w'.heap[D]? =some (.deferred (some []))/\∀y k,μ' y=.at_ k->k.b≠D)->
   zaV2 C.P fn tmps (λ e w''=>∃v,e=.returned v/\Keeps (λ _=>False) w w''/\Rep w'' W zN6 v r) (Ds.map zaI6) w'
 |[],w',W',μ',hs,_,_=>by obtain⟨v,h1,h2,h3⟩:=zbK3 hlt hres hs hro;exact⟨v,h1,v,rfl,h2,h3⟩
 |D::Ds,w',W',μ',hs,hn,hD=>by
  obtain⟨g1,g2,g3,g4⟩:=hD D (.head _);obtain⟨n1,n2⟩:=iX.1 hn;have rest:∀D'∈Ds,W' D'/\w.heap.size<=D'/\(w'.putObj D (.deferred none)).heap[D']? =some (.deferred (some []))/\∀y k,μ' y=.at_ k->k.b≠D':=λ D' h'=>by obtain⟨q1,q2,q3,q4⟩:=hD D' (.tail _ h');exact⟨q1,q2,(World.putObj_heap_other (λ e:D'=D=>n1 (e▸h'))).trans q3,q4⟩
  refine⟨D,_,rfl,run_takeDeferred g3,?_⟩;exact zbq7 hlt hres hro Ds _ W' μ' (hs.poke (.deferred none) g1 g2 g4 ⟨Ds,rfl,(λ h=>nomatch h),n2,rest⟩) n2 rest
theorem zbG2{f:FuncId}{pc:PC}{N np:Nat}{rs:List RX}(hchk:chkF C.P f pc N rs np=true){as:List A}(hnp:as.length=np){r:A}
  (h:∀E:Env,E.G=C.G->E.N=N->E.k0=0->E.df=true->AW C E pc (Post rs r) ⟨zz9 0 as,[],0⟩):PFn C f as r:=by
 intro w W vs hgl hlt hlen hargs;unfold chkF at hchk;split at hchk
 .rename_i fn hfn;simp only[cF,cY]at hchk;obtain⟨⟨⟨hc,hN⟩,hres⟩,hle⟩:=hchk;have hle:np<=N:=dZ hle;split at hc
  .rename_i c hb;have hS:=zbK4 (df:=true) hgl hlt hlen hargs hN (hnp▸hle);have hwp:=h ⟨w,W,λ _=>False,N,C.G,0,zN6,true⟩ rfl rfl rfl rfl c hc _ w ⟨W,zN6,hS⟩;refine zaV3 hfn hb (wp_mono hwp λ e a' w' ⟨st',hq,W',μ',hs'⟩=>?_);have fin:zaU7 st' rs r->zaV2 C.P fn a'.tmps (λ e w''=>∃v,e=.returned v/\Keeps (λ _=>False) w w''/\Rep w'' W zN6 v r) a'.defers w':=λ hro=>by
    obtain⟨Ds,d1,_,d3,d4⟩:=hs'.defers;have hs2:SatW ⟨w,W,λ _=>False,N,C.G,0,zN6,true⟩ st'.toS {tmps:=a'.tmps,defers:=Ds.map zaI6} w' W' μ':=by rw[<-d1];exact hs'
    rw[d1];exact zbq7 hlt hres hro Ds w' W' μ' hs2 d3 d4
   cases e with
   |normal=>exact fin hq
   |ret=>exact fin hq
   |_=>exact hq.elim
  .cases hc
 .cases hchk
def YFn(C:Cx)(f:FuncId)(as:List A)(ms:List (Nat×Row))(k:Nat)(r:A)(ms':List (Nat×Row))(k':Nat):Prop:=∀u:Value,MPre C [u] f as ms k r ms' k'
theorem zbP5{f:FuncId}{pc:PC}{N np:Nat}{rs:List RX}(hchk:chkF C.P f pc N rs np=true){as:List A}(hnp:1+as.length=np){ms ms':List (Nat×Row)}{k k':Nat}{rl:List A}(hms:zaU8 ms=true)(hall:zaJ2 ms k=true)
  (hrl:rl.length=rs.length) (h:∀E:Env,E.G=C.G->E.N=N->E.k0=k->AW C E pc (zbb3 k rs rl ms' k') ⟨zz9 1 as,ms,k⟩):YFn C f as ms k (zaU6 rl) ms' k':=λ u=>zbK6 hchk [u] hnp hms hall hrl h
theorem zcQ4{E:Env}{Q:Exit->St->Prop}{st:St}{x:PX}{f:FuncId}{caps as:List A}{ms ms':List (Nat×Row)}{k k':Nat}{r:A}(hdf:E.df=true)(hG:E.G=C.G)(hx:xv C.G st.slot x=.clo f caps)(hb:zx1 C.P f=true)
  (l:List (Nat×Nat)) (hf:YFn C f as ms k r ms' k') (hok:okM st.m st.nx l caps as ms k k') (hr0:∀g c,r≠.cnd g c)
  (h:Q .normal (st.app none .any (mwM st.m (l++newL k st.nx (k'-k)) caps as ms ms' k k'))):AW C E (.rf x) Q st:=λ code hc a w hs=>by
 cases code<;>simp[chkC]at hc;rename_i g ps assign body;obtain⟨W,μ,hs⟩:=hs;have hrx:=zaX6 hs hc;rw[hG]at hrx;rw[show xv C.G st.toS.fr x=.clo f caps from hx]at hrx;obtain⟨vs,hv1,hv2,hv3⟩:=cloK (show RepK w W μ (a.eval g) (.clo f caps)from hrx) (zaR0 hb);refine zbt8 λ fn=>?_;obtain⟨rec,hrec⟩:∃rec:LoopState->Loop,rec=λ s=>{state:=s,pending:=none,fn,tmps:=a.tmps,params:=ps,assign,body,defers:=w.heap.size}:=⟨_,rfl⟩;obtain⟨W1,hW1⟩:∃W1,(w.alloc (.deferred (some []))).alloc (.loop (rec .ready))=W1:=⟨_,rfl⟩;have hsz:W1.heap.size=w.heap.size+2:=by rw[<-hW1];simp
 have hL1:W1.heap[w.heap.size+1]? =some (.loop (rec .ready)):=by rw[<-hW1];have:=World.alloc_heap_new (w.alloc (.deferred (some []))) (.loop (rec .ready));rwa [World.size_alloc]at this
 have hD1:W1.heap[w.heap.size]? =some (.deferred (some [])):=by rw[<-hW1];exact(RowKit.Below.heap_alloc _ _ _ (by simp)).trans (World.alloc_heap_new w _)
 have hk1:Keeps (λ _=>False) w W1:=by rw[<-hW1];exact⟨rfl,rfl,rfl,cU _,by simp;omega,λ b hb _=>(RowKit.Below.heap_alloc _ _ _ (by simp;omega)).trans (RowKit.Below.heap_alloc _ _ _ hb)⟩
 let Wc:Nat->Prop:=λ b=>W b\/b=w.heap.size\/b=w.heap.size+1
 have hWc:∀b,b<w.heap.size->¬W b->¬Wc b:=λ b hb h1 h2=>by rcases h2 with h2|h2|h2;exact h1 h2;all_goals omega
 have hμlt:∀y kk,μ y=.at_ kk->kk.b<w.heap.size:=λ y kk hy=>by obtain⟨_,_,h⟩:=hs.mem.at_ hy;exact h.lt
 obtain⟨Ds,d1,d2,d3,d4⟩:=hs.defers;have hDlt:∀D∈Ds,D<w.heap.size:=λ D hD=>hs.wlt D (d4 D hD).1;have hmk:zaI7 E.df E.w0.heap.size W1 Wc μ (zaI6 w.heap.size::a.defers):=by
  refine⟨w.heap.size::Ds,by rw[d1];rfl,(λ h=>by rw[hdf]at h;cases h),iX.2 ⟨λ h=>hJ _ (hDlt _ h),d3⟩,λ D hD=>?_⟩;rcases dB.1 hD with rfl|hD
  .exact⟨.inr (.inl rfl),hs.keeps.size,hD1,λ y kk hy he=>by have:=hμlt y kk hy;omega⟩
  .obtain⟨g1,g2,g3,g4⟩:=d4 D hD;exact⟨.inl g1,g2,(hk1.block D (hDlt D hD) id).trans g3,g4⟩
 have hs1:SatW E st.toS {a with defers:=zaI6 w.heap.size::a.defers} W1 Wc μ:={hs with
  defers:=hmk
  fr:=λ t=>(hs.fr t).goes hk1 (λ _ _ _ h=>h) hWc (Old.refl μ)
  mem:=λ y=>(hs.mem y).goes hk1 (λ _ _ _ h=>h) hWc (Old.refl μ) rfl (λ _ _ h=>h) (λ _ h=>.inl h)
  keeps:=hs.keeps.trans hk1 (λ _ _ h=>h.elim)
  wsub:=λ b hb=>by
   have:=hs.keeps.size;rcases hb with hb|hb|hb
   .exact hs.wsub b hb
   .exact .inr (by omega)
   .exact .inr (by omega)
  wsup:=λ b hb=>(hs.wsup b hb).imp .inl id
  wlt:=λ b hb=>by
   rcases hb with hb|hb|hb
   .have:=hs.wlt b hb;omega
   all_goals omega
  glob:=λ g cs hg=>by
   obtain⟨h1,h2,h3⟩:=hs.glob g cs hg;refine⟨hWc g h2 h1,by omega,λ j b hj=>?_⟩;obtain⟨u,hu,hr⟩:=h3 j b hj;exact⟨u,(World.cell?_of_block (w:=w) (hk1.block g h2 id)).trans hu,hr.keep hk1 (λ _ _ _ h=>h) hWc⟩}
 have hV:∀(i:Nat) (v:Value) (b:A),vs[i]? =some v->caps[i]? =some b->Rep W1 Wc μ v b:=λ i v b h1 h2=>
  (zp6 (zo5 (hv3 i v b h1 h2).toK)).goes hk1 (λ _ _ _ h=>h) hWc (Old.refl μ)
 have hc2:=zbp6 hs1 hG hv2 hV (λ y hy _=>zbe6 st y hy) (hf (.func (.yield (w.heap.size+1)) #[] #[])) hok hr0;refine⟨w.heap.size+1,[zaI6 w.heap.size],W1,{target:=.fn (.func f) vs.toArray,args:=#[.func (.yield (w.heap.size+1)) #[] #[]]},W1,f,([Value.func (.yield (w.heap.size+1)) #[] #[]]++vs).toArray,W1,?_,?_,?_,?_⟩
 .rw[<-hW1,hrec];exact run_enterLoop_outer _ _ _ _ _
 .simp only[resolve,hv1];simp[go_sem]
 .unfold zx1 at hb;split at hb
  .rename_i fn' hfn';simp only[cF,dQ]at hb;have hbd:fn'.body.isNone=false:=by cases hbd:fn'.body<;>simp[hbd]at hb|-
   have e1:([Value.func (.yield (w.heap.size+1)) #[] #[]]++vs).toArray=#[Value.func (.yield (w.heap.size+1)) #[] #[]]++vs.toArray:=by simp
   rw[e1];simp only[invoke,callFunc,Sem.run_bind,run_program,Result.andThen_ok,hfn'];rw[cL (by simp[hb.1.2]),cL (by simp[hbd])];rfl
  .cases hb
 .refine hc2.mono ?_;rintro e w2 ⟨v,W2,μ2,rfl,hrep,hst⟩;have hs2:=hs1.step hst (d:=none) (v:=undef) (av:=.any) (λ x hx=>by cases hx) trivial;have hL2W:W2 (w.heap.size+1):=(hst.wsup _ (.inr (.inr rfl))).resolve_right λ⟨y,kk,hy,he⟩=>by have:=hμlt y kk hy;omega
  have hμ2:∀y kk,μ2 y=.at_ kk->kk.b≠w.heap.size+1:=λ y kk hy he=>by
   rcases hst.live y kk hy with⟨z,kz,hz,he2⟩|h1
   .have:=hμlt z kz hz;omega
   .omega
  have hL2:w2.heap[w.heap.size+1]? =some (.loop (rec .ready)):=(hst.keeps.block _ (by omega) λ⟨_,y,kk,hy,he⟩=>by have:=hμlt y kk hy;omega).trans hL1;refine⟨v,rfl,_,by have:=run_endLoop (P:=C.P) hL2 (by rw[hrec];simp);rw[hrec]at this;exact this,st.app none .any _,h,W2,μ2,?_⟩;have hmw:mwOk st.nx (mwM st.m (l++newL k st.nx (k'-k)) caps as ms ms' k k'):=zbh9 hok;have hm3:=hs2.defers;obtain⟨Ds2,e1,e2,e3,e4⟩:=hm3;have hmk3:zaI7 E.df E.w0.heap.size (w2.putObj (w.heap.size+1) (.loop {rec .ready with state:=.exhausted})) W2 μ2 (zaI6 w.heap.size::a.defers):=by refine⟨Ds2,e1,e2,e3,λ D hD=>?_⟩;obtain⟨g1,g2,g3,g4⟩:=e4 D hD;refine⟨g1,g2,(World.putObj_heap_other λ e=>?_).trans g3,g4⟩;subst e;rw[hL2]at g3;cases g3
  have:=hs2.poke (.loop {rec .ready with state:=.exhausted}) hL2W (by have:=hs.keeps.size;omega) hμ2 hmk3;rw[hrec]at this;rw[zaU3 st none .any _ hmw];exact this
end
def zaO9(C:Cx)(f:FuncId)(d:Option Nat)(g:Option (Nat×Bool))(gv:Bool)(ob:Prop)(args:List A)(rw:List (Nat×MS))(ps:List POp)(st:St)(K:St->Prop):Prop:=
 ∃r,(gv=true->ob/\PFn C f args r)/\(g=none\/(if r.scal then[]else rw)=[]/\r.isVV=true)/\arun C ps (st.app d (zH1 g gv r) (if r.scal then[]else rw)) K
theorem zbX4{C:Cx}{f:FuncId}{d:Option Nat}{g:Option (Nat×Bool)}{gv:Bool}{ob:Prop}{args:List A}{rw:List (Nat×MS)}{ps:List POp}{st:St}{K:St->Prop}{r:A}
  (hf:gv=true->PFn C f args r) (h:arun C ps (st.app d (zH1 g gv r) (if r.scal then[]else rw)) K)
  (ho:gv=true->ob:=by intro;trivial) (hg:g=none\/(if r.scal then[]else rw)=[]/\r.isVV=true:=by first|exact .inl rfl|exact .inr ⟨rfl,rfl⟩):zaO9 C f d g gv ob args rw ps st K:=⟨r,λ e=>⟨ho e,hf e⟩,hg,h⟩
def zU0(C:Cx)(f:FuncId)(d:Option Nat)(g:Option (Nat×Bool))(gv:Bool)(ob:Prop)(vals:List A)(ps:List POp)(st:St)(K:St->Prop):Prop:=
 zao1 C st.m st.nx f vals g gv ob (λ _=>True) λ v mw=>arun C ps (st.app d v mw) K
def zaG2:A->Bool
 | .cnd _ _=>false
 |_=>true
theorem zaz9{r:A}(h:zaG2 r=true):∀g c,r≠.cnd g c:=λ g c e=>by subst e;cases h
theorem zbP6{C:Cx}{f:FuncId}{d:Option Nat}{ob:Prop}{vals:List A}{ps:List POp}{st:St}{K:St->Prop}(l:List (Nat×Nat)){az:List A}{ms ms':List (Nat×Row)}{k k':Nat}{r:A}
  (hf:MFn C f az ms k r ms' k') (hok:okM st.m st.nx l vals az ms k k') (h:arun C ps (st.app d (renR (l++newL k st.nx (k'-k)) r) (mwM st.m (l++newL k st.nx (k'-k)) vals az ms ms' k k')) K)
  (ho:ob:=by trivial) (hr:zaG2 r=true:=by rfl):zU0 C f d none true ob vals ps st K:=
 ⟨l,az,ms,k,r,ms',k',λ _=>⟨ho,hf,hok,trivial⟩,(λ h=>nomatch h),.inl rfl,zaz9 hr,h⟩
theorem zbG3{C:Cx}{f:FuncId}{d:Option Nat}{g:Option (Nat×Bool)}{gv:Bool}{ob:Prop}{vals:List A}{ps:List POp}{st:St}{K:St->Prop}(l:List (Nat×Nat)){az:List A}{ms ms':List (Nat×Row)}{k:Nat}{r:A}
  (hf:gv=true->MFn C f az ms k r ms' k) (hok:gv=true->okM st.m st.nx l vals az ms k k) (hs:gv=false->zaU2 st.m (mwM st.m l vals az ms ms' k k)) (h:arun C ps (st.app d (zH1 g gv (renR l r)) (mwM st.m l vals az ms ms' k k)) K)
  (ho:gv=true->ob) (hr:zaG2 r=true:=by rfl) (hv:(renR l r).isVV=true:=by rfl):zU0 C f d g gv ob vals ps st K:=by
 have e:l++newL k st.nx (k-k)=l:=by rw[gQ];exact eN l
 refine⟨l,az,ms,k,r,ms',k,λ h=>⟨ho h,hf h,hok h,trivial⟩,?_⟩;rw[e];exact⟨λ h=>⟨rfl,hs h⟩,.inr hv,zaz9 hr,h⟩
theorem zbX5(C:Cx)(st:St)(K:St->Prop):arun C [] st K=K st:=rfl
theorem zbP7(C:Cx)(d:Option Nat)(g:Option (Nat×Bool))(po:PO)(xs:List PX)(ps:List POp)(st:St)(K:St->Prop):
  arun C (⟨d,g,po,xs⟩::ps) st K=(match po with
   | .call f=>(match zB0 st g with
    |none=>False
    |some gv=>zaO9 C f d g gv (zP7 C st xs/\zx2 st.m (zs1 C st xs)) (zC0 st.m (zs1 C st xs)) (zG1 st.m (zz2 (zs1 C st xs))) ps st K)
   | .callv=>(match zB0 st g with
    |none=>False
    |some gv=>(match zs1 C st xs with
     | .clo f caps::vals=>zaO9 C f d g gv (zP7 C st xs/\zx1 C.P f=true/\zx2 st.m (vals++caps)) (zC0 st.m (vals++caps)) (zG1 st.m (zz2 (vals++caps))) ps st K
     |_=>False))
   | .callb=>(match zB0 st g with
    |none=>False
    |some gv=>(match zs1 C st xs with
     | .bnd f cs::vals=>zaO9 C f d g gv (zP7 C st xs/\zx1 C.P f=true/\zx2 st.m (.agg cs::vals)) (zC0 st.m (.agg cs::vals)) (zG1 st.m (zz2 (.agg cs::vals))) ps st K
     |_=>False))
   | .callm f=>(match zB0 st g with
    |none=>False
    |some gv=>zU0 C f d g gv (zP7 C st xs) (zs1 C st xs) ps st K)
   | .callvm=>(match zB0 st g with
    |none=>False
    |some gv=>(match zs1 C st xs with
     | .clo f caps::vals=>zU0 C f d g gv (zP7 C st xs/\zx1 C.P f=true) (vals++caps) ps st K
     |_=>False))
   | .inv t _ f pr=>(match zB0 st g with
    |none=>False
    |some gv=>(match zs1 C st xs with
     | .ipt t' x i j::vals=>zU0 C f d g gv (zP7 C st xs/\t'=t/\zaQ7 st.m pr x i j) (ircv st.m pr x i j::vals) ps st K
     |_=>False))
   | .next dd=>g=none/\zP7 C st xs/\nxtQ dd st.m (λ v mw=>arun C ps (st.app d v mw) K) (zs1 C st xs)
   | .entry dd=>g=none/\zP7 C st xs/\entQ dd st.m (λ v mw=>arun C ps (st.app d v mw) K) (zs1 C st xs)
   | .eqNil=>g=none/\zP7 C st xs/\nilQ (λ b=>arun C ps (st.app d (.bool b) []) K) (zs1 C st xs)
   |po=>aop C ⟨d,g,po,xs⟩ st λ st'=>arun C ps st' K):=by
 cases po with
 |eqNil=>rfl
 |next dd=>rfl
 |entry dd=>rfl
 |call f=>
  simp only[arun,aop,zaO9,PO.isNilQ,PO.isNext,cG,cV];cases zB0 st g with
  |none=>rfl
  |some gv=>simp only[zx3,fQ]
 |callv=>
  simp only[arun,aop,PO.isNilQ,PO.isNext,cG,cV];cases zB0 st g with
  |none=>rfl
  |some gv=>
   simp only;generalize zs1 C st xs=vv;rcases vv with _|⟨x,vs⟩
   .rfl
   .cases x<;>first|rfl|(simp only[zaO9,zx3,fQ])
 |callb=>
  simp only[arun,aop,PO.isNilQ,PO.isNext,cG,cV];cases zB0 st g with
  |none=>rfl
  |some gv=>
   simp only;generalize zs1 C st xs=vv;rcases vv with _|⟨x,vs⟩
   .rfl
   .cases x<;>first|rfl|(simp only[zaO9,zx3,fQ])
 |callm f=>
  simp only[arun,aop,zU0,PO.isNilQ,PO.isNext,cG,cV];cases zB0 st g with
  |none=>rfl
  |some gv=>rfl
 |callvm=>
  simp only[arun,aop,PO.isNilQ,PO.isNext,cG,cV];cases zB0 st g with
  |none=>rfl
  |some gv=>
   simp only;generalize zs1 C st xs=vv;rcases vv with _|⟨x,vs⟩
   .rfl
   .cases x<;>first|rfl|(simp only[zU0])
 |inv t nm f pr=>
  simp only[arun,aop,PO.isNilQ,PO.isNext,cG,cV];cases zB0 st g with
  |none=>rfl
  |some gv=>
   simp only;generalize zs1 C st xs=vv;rcases vv with _|⟨x,vs⟩
   .rfl
   .cases x<;>first|rfl|(simp only[zU0])
 |_=>rfl
def zay5(C:Cx)(f:FuncId)(d:Option Nat)(g:Option (Nat×Bool))(gv:Bool)(ob:Prop)(args:List A)(rw:List (Nat×MS))(ps:List POp)(st:St)(K:St->Prop):Prop:=
 ∃r,(gv=true->ob/\PFn C f args r)/\(g=none\/(if r.scal then[]else rw)=[]/\r.isVV=true)/\((st.app d (zH1 g gv r) (if r.scal then[]else rw)).mem=st.mem/\(st.app d (zH1 g gv r) (if r.scal then[]else rw)).nx=st.nx)/\zaz6 C ps (st.app d (zH1 g gv r) (if r.scal then[]else rw)) K
theorem zbP8{C:Cx}{f:FuncId}{d:Option Nat}{g:Option (Nat×Bool)}{gv:Bool}{ob:Prop}{args:List A}{rw:List (Nat×MS)}{ps:List POp}{st:St}{K:St->Prop}{r:A}
  (hf:gv=true->PFn C f args r) (h:zaz6 C ps (st.app d (zH1 g gv r) []) K)
  (ho:gv=true->ob:=by intro;trivial) (hg:g=none\/(if r.scal then[]else rw)=[]/\r.isVV=true:=by first|exact .inl rfl|exact .inr ⟨rfl,rfl⟩) (hn:(if r.scal then[]else rw)=[]:=by rfl):zay5 C f d g gv ob args rw ps st K:=⟨r,λ e=>⟨ho e,hf e⟩,hg,by rw[hn];exact⟨rfl,rfl⟩,by rw[hn];exact h⟩
theorem zbP9(C:Cx)(st:St)(K:St->Prop):zaz6 C [] st K=K st:=rfl
theorem zbG4(C:Cx)(d:Option Nat)(g:Option (Nat×Bool))(po:PO)(xs:List PX)(ps:List POp)(st:St)(K:St->Prop):
  zaz6 C (⟨d,g,po,xs⟩::ps) st K=(match po with
   | .call f=>(match zB0 st g with
    |none=>False
    |some gv=>zay5 C f d g gv (zP7 C st xs/\zx2 st.m (zs1 C st xs)) (zC0 st.m (zs1 C st xs)) (zG1 st.m (zz2 (zs1 C st xs))) ps st K)
   | .callv=>(match zB0 st g with
    |none=>False
    |some gv=>(match zs1 C st xs with
     | .clo f caps::vals=>zay5 C f d g gv (zP7 C st xs/\zx1 C.P f=true/\zx2 st.m (vals++caps)) (zC0 st.m (vals++caps)) (zG1 st.m (zz2 (vals++caps))) ps st K
     |_=>False))
   | .callb=>(match zB0 st g with
    |none=>False
    |some gv=>(match zs1 C st xs with
     | .bnd f cs::vals=>zay5 C f d g gv (zP7 C st xs/\zx1 C.P f=true/\zx2 st.m (.agg cs::vals)) (zC0 st.m (.agg cs::vals)) (zG1 st.m (zz2 (.agg cs::vals))) ps st K
     |_=>False))
   |po=>aop C ⟨d,g,po,xs⟩ st λ st'=>(st'.mem=st.mem/\st'.nx=st.nx)/\zaz6 C ps st' K):=by
 cases po with
 |call f=>
  simp only[zaz6,aop,zay5];cases zB0 st g with
  |none=>rfl
  |some gv=>simp only[zx3,fQ]
 |callv=>
  simp only[zaz6,aop];cases zB0 st g with
  |none=>rfl
  |some gv=>
   simp only;generalize zs1 C st xs=vv;rcases vv with _|⟨x,vs⟩
   .rfl
   .cases x<;>first|rfl|(simp only[zay5,zx3,fQ])
 |callb=>
  simp only[zaz6,aop];cases zB0 st g with
  |none=>rfl
  |some gv=>
   simp only;generalize zs1 C st xs=vv;rcases vv with _|⟨x,vs⟩
   .rfl
   .cases x<;>first|rfl|(simp only[zay5,zx3,fQ])
 |_=>rfl
def zay6(C:Cx)(an:List (List Nat))(f:FuncId)(d:Option Nat)(g:Option (Nat×Bool))(gv:Bool)(ob:Prop)(args:List A)(rw:List (Nat×MS))(ids:List Nat)(cok:Bool)(ps:List POp)(st:St)(log:List (List Nat×List Nat))(K:St->Prop):Prop:=
 ∃r,(gv=true->ob/\PFn C f args r)/\(g=none\/(if r.scal then[]else rw)=[]/\r.isVV=true)/\zaG0 (an.getD log.length []) 0 log ids ((if r.scal then[]else rw).map (·.1))=true/\cok=true/\
  zaf0 C an ps (st.app d (zH1 g gv r) (if r.scal then[]else rw)) (log++[(ids,(if r.scal then[]else rw).map (·.1))]) K
theorem zbQ0{C:Cx}{an:List (List Nat)}{f:FuncId}{d:Option Nat}{g:Option (Nat×Bool)}{gv:Bool}{ob:Prop}{args:List A}{rw:List (Nat×MS)}{ids:List Nat}{cok:Bool}{ps:List POp}{st:St}{log:List (List Nat×List Nat)}{K:St->Prop}{r:A}
  (hf:gv=true->PFn C f args r) (h:zaG0 (an.getD log.length []) 0 log ids ((if r.scal then[]else rw).map (·.1))=true/\cok=true/\zaf0 C an ps (st.app d (zH1 g gv r) (if r.scal then[]else rw)) (log++[(ids,(if r.scal then[]else rw).map (·.1))]) K)
  (ho:gv=true->ob:=by intro;trivial) (hg:g=none\/(if r.scal then[]else rw)=[]/\r.isVV=true:=by first|exact .inl rfl|exact .inr ⟨rfl,rfl⟩):zay6 C an f d g gv ob args rw ids cok ps st log K:=⟨r,λ e=>⟨ho e,hf e⟩,hg,h.1,h.2.1,h.2.2⟩
def zap9(C:Cx)(an:List (List Nat))(f:FuncId)(d:Option Nat)(g:Option (Nat×Bool))(gv:Bool)(ob:Prop)(vals:List A)(ids:List Nat)(cok:Bool)(ps:List POp)(st:St)(log:List (List Nat×List Nat))(K:St->Prop):Prop:=
 zao1 C st.m st.nx f vals g gv ob (λ n=>∀x,st.nx<=x->x<st.nx+n->st.m x=.fresh) λ v mw=>zaG0 (an.getD log.length []) 0 log ids (mw.map (·.1))=true/\cok=true/\zaf0 C an ps (st.app d v mw) (log++[(ids,mw.map (·.1))]) K
theorem zbG5{C:Cx}{an:List (List Nat)}{f:FuncId}{d:Option Nat}{ob:Prop}{vals:List A}{ids:List Nat}{cok:Bool}{ps:List POp}{st:St}{log:List (List Nat×List Nat)}{K:St->Prop}(l:List (Nat×Nat)){az:List A}{ms ms':List (Nat×Row)}{k k':Nat}{r:A}
  (hf:MFn C f az ms k r ms' k') (hok:okM st.m st.nx l vals az ms k k')
  (h:zaG0 (an.getD log.length []) 0 log ids ((mwM st.m (l++newL k st.nx (k'-k)) vals az ms ms' k k').map (·.1))=true/\cok=true/\zaf0 C an ps (st.app d (renR (l++newL k st.nx (k'-k)) r) (mwM st.m (l++newL k st.nx (k'-k)) vals az ms ms' k k')) (log++[(ids,(mwM st.m (l++newL k st.nx (k'-k)) vals az ms ms' k k').map (·.1))]) K)
  (ho:ob:=by trivial) (hr:zaG2 r=true:=by rfl):zap9 C an f d none true ob vals ids cok ps st log K:=
 ⟨l,az,ms,k,r,ms',k',λ _=>⟨ho,hf,hok,λ x hx _=>zbe6 st x hx⟩,(λ h=>nomatch h),.inl rfl,zaz9 hr,h⟩
attribute [go_sem] szM ircv zaQ7
theorem zbQ1(C:Cx)(an:List (List Nat))(st:St)(log:List (List Nat×List Nat))(K:St->Prop):zaf0 C an [] st log K=K st:=rfl
theorem zbG6(C:Cx)(an:List (List Nat))(d:Option Nat)(g:Option (Nat×Bool))(po:PO)(xs:List PX)(ps:List POp)(st:St)(log:List (List Nat×List Nat))(K:St->Prop):
  zaf0 C an (⟨d,g,po,xs⟩::ps) st log K=(match po with
   | .call f=>(match zB6 st.slot g with
    |none=>False
    |some gv=>zay6 C an f d g gv (gdsF C st.slot xs/\zx2 st.m (zA3 C st.slot xs)) (zC0 st.m (zA3 C st.slot xs)) (zG1 st.m (zz2 (zA3 C st.slot xs))) (zJ0 (zs1 C st xs)) (zaJ8 (zs1 C st xs)) ps st log K)
   | .callv=>(match zB6 st.slot g with
    |none=>False
    |some gv=>(match zA3 C st.slot xs with
     | .clo f caps::vals=>zay6 C an f d g gv (gdsF C st.slot xs/\zx1 C.P f=true/\zx2 st.m (vals++caps)) (zC0 st.m (vals++caps)) (zG1 st.m (zz2 (vals++caps))) (zJ0 (zs1 C st xs)) (zaJ8 (zs1 C st xs)) ps st log K
     |_=>False))
   | .callb=>(match zB6 st.slot g with
    |none=>False
    |some gv=>(match zA3 C st.slot xs with
     | .bnd f cs::vals=>zay6 C an f d g gv (gdsF C st.slot xs/\zx1 C.P f=true/\zx2 st.m (.agg cs::vals)) (zC0 st.m (.agg cs::vals)) (zG1 st.m (zz2 (.agg cs::vals))) (zJ0 (zs1 C st xs)) (zaJ8 (zs1 C st xs)) ps st log K
     |_=>False))
   | .callm f=>(match zB6 st.slot g with
    |none=>False
    |some gv=>zap9 C an f d g gv (gdsF C st.slot xs) (zA3 C st.slot xs) (zJ0 (zs1 C st xs)) (zaJ8 (zs1 C st xs)) ps st log K)
   | .callvm=>(match zB6 st.slot g with
    |none=>False
    |some gv=>(match zA3 C st.slot xs with
     | .clo f caps::vals=>zap9 C an f d g gv (gdsF C st.slot xs/\zx1 C.P f=true) (vals++caps) (zJ0 (zs1 C st xs)) (zaJ8 (zs1 C st xs)) ps st log K
     |_=>False))
   |po=>aopS C ⟨d,g,po,xs⟩ st.toS st.nx λ v mw=>zaG0 (an.getD log.length []) 0 log (idsP po (zs1 C st xs)) (mw.map (·.1))=true/\zaG1 po (zs1 C st xs)=true/\
     zaf0 C an ps (st.app d v mw) (log++[(idsP po (zs1 C st xs),mw.map (·.1))]) K):=by
 cases po with
 |call f=>
  simp only[zaf0,aopS,zay6,St.toS,idsP,zaG1];cases zB6 st.slot g with
  |none=>rfl
  |some gv=>simp only[zx3,fQ]
 |callv=>
  simp only[zaf0,aopS,St.toS,idsP,zaG1];cases zB6 st.slot g with
  |none=>rfl
  |some gv=>
   simp only;generalize zA3 C st.slot xs=vv;rcases vv with _|⟨x,vs⟩
   .rfl
   .cases x<;>first|rfl|(simp only[zay6,zx3,fQ])
 |callb=>
  simp only[zaf0,aopS,St.toS,idsP,zaG1];cases zB6 st.slot g with
  |none=>rfl
  |some gv=>
   simp only;generalize zA3 C st.slot xs=vv;rcases vv with _|⟨x,vs⟩
   .rfl
   .cases x<;>first|rfl|(simp only[zay6,zx3,fQ])
 |callm f=>
  simp only[zaf0,aopS,zap9,St.toS,idsP,zaG1];cases zB6 st.slot g with
  |none=>rfl
  |some gv=>rfl
 |callvm=>
  simp only[zaf0,aopS,St.toS,idsP,zaG1];cases zB6 st.slot g with
  |none=>rfl
  |some gv=>
   simp only;generalize zA3 C st.slot xs=vv;rcases vv with _|⟨x,vs⟩
   .rfl
   .cases x<;>first|rfl|(simp only[zap9])
 |_=>rfl
def mget{V:Type}(k:ByteArray):List (ByteArray×V)->Option V
 |[]=>none
 |p::l=>bif k.toList==p.1.toList then some p.2 else mget k l
def mput{V:Type}(k:ByteArray)(v:V):List (ByteArray×V)->List (ByteArray×V)
 |[]=>[(k,v)]
 |p::l=>bif k.toList==p.1.toList then(k,v)::l else p::mput k v l
def zao2{V:Type}(k:Int):List (Int×V)->Option V
 |[]=>none
 |p::l=>bif k==p.1 then some p.2 else zao2 k l
def zaP0{V:Type}(k:Int)(v:V):List (Int×V)->List (Int×V)
 |[]=>[(k,v)]
 |p::l=>bif k==p.1 then(k,v)::l else p::zaP0 k v l
def mS{V:Type}(f:V->List A)(p:ByteArray×V):List A:=.str p.1::f p.2
def mI{V:Type}(q:IntKind)(f:V->List A)(p:Int×V):List A:=.int q p.1::f p.2
@[go_sem] theorem zdm7{V:Type}(f:V->List A)(k:ByteArray)(l:List (ByteArray×V)):zaa4 (.str k) (l.map (mS f))=(mget k l).map f:=by
 induction l with
 |nil=>rfl
 |cons p l ih=>
  simp only[dI,mS,zaa4,List.headD_cons,eqK,eq1,mget,List.tail_cons];cases k.toList==p.1.toList
  .exact ih
  .rfl
@[go_sem] theorem zdo3{V:Type}(f:V->List A)(k:ByteArray)(v:V)(l:List (ByteArray×V)):mins (.str k) (f v) (l.map (mS f))=(mput k v l).map (mS f):=by
 induction l with
 |nil=>rfl
 |cons p l ih=>
  simp only[dI,mS,mins,List.headD_cons,eqK,eq1,mput];cases k.toList==p.1.toList
  .simp only[cond_false,ih];rfl
  .rfl
@[go_sem] theorem zdm8{V:Type}(q:IntKind)(f:V->List A)(k:Int)(l:List (Int×V)):zaa4 (.int q k) (l.map (mI q f))=(zao2 k l).map f:=by
 induction l with
 |nil=>rfl
 |cons p l ih=>
  simp only[dI,mI,zaa4,List.headD_cons,eqK,eq1,zao2,List.tail_cons];cases k==p.1
  .exact ih
  .rfl
@[go_sem] theorem zcr1{V:Type}(q:IntKind)(f:V->List A)(k:Int)(v:V)(l:List (Int×V)):mins (.int q k) (f v) (l.map (mI q f))=(zaP0 k v l).map (mI q f):=by
 induction l with
 |nil=>rfl
 |cons p l ih=>
  simp only[dI,mI,mins,List.headD_cons,eqK,eq1,zaP0];cases k==p.1
  .simp only[cond_false,ih];rfl
  .rfl
@[go_sem] theorem zcM7{V:Type}(f:V->List A)(p:ByteArray×V):zk0 (mS f p)=zk0 (f p.2):=by simp[mS,zk0,A.pure1]
@[go_sem] theorem zdo4{V:Type}(kz:A)(ag:Bool)(q:IntKind)(f:V->List A)(p:Int×V):mEnt [kz,.bool ag] (mI q f p)=[.int q p.1,zP9 ag (f p.2)]:=rfl
@[go_sem] theorem zdo5(s:List Nat)(P:A->Prop):(∀x∈s.map iE,∀a∈x,P a)=(∀i∈s,P (.int .i64 (i:Nat))):=propext ⟨λ h i hi=>h _ (cS.2 ⟨i,hi,rfl⟩) _ (.head _),λ h x hx a ha=>by
 obtain⟨i,hi,rfl⟩:=cS.1 hx;obtain rfl:a=.int .i64 (i:Nat):=by simpa [iE]using ha
 exact h i hi⟩
@[go_sem] theorem zcr2(y i:Nat)(k:IntKind)(c:Int)(s:List Nat):zbx7 ([.mp y,.int k c]::(s++[i]).map iE)=some (y,i):=by simp[zbx7,iE]
@[go_sem] theorem zdo6{V:Type}(kz:A)(ag:Bool)(f:V->List A)(p:ByteArray×V):mEnt [kz,.bool ag] (mS f p)=[.str p.1,zP9 ag (f p.2)]:=rfl
@[go_sem] theorem zdo7{V:Type}(f:V->List A)(l:List (ByteArray×V))(i:Nat)(k0:ByteArray)(v0:V):(l.map (mS f)).getD i (.str k0::f v0)=mS f (l.getD i (k0,v0)):=by simp only[cK,cP];cases l[i]? <;>rfl
@[go_sem] theorem zcQ5{V:Type}(ag:Bool)(f:V->List A)(z:V)(o:Option V):mval ag (f z) (o.map f)=zP9 ag (f (o.getD z)):=by cases o<;>rfl
@[go_sem] theorem zcM8{V:Type}(ag:Bool)(z:List A):mval ag z none=zP9 ag z:=rfl
@[go_sem] theorem zcr3{V W:Type}(f:V->W)(o:Option V):(o.map f).isSome=o.isSome:=by cases o<;>rfl
attribute [go_sem ↓] aop aopS
@[go_sem] theorem zbX6:∀cs:List A,zaI5 cs=zk0 cs
 |[]=>rfl
 |c::cs=>by simp only[zaI5,zk0,zbX6 cs]
attribute [go_sem] zbX5 zbP7 zbP9 zbG4 zbQ1 zbG6 zB6 zA3 gdsF St.toS idsP zJ0 idsA zaF9 zar2 zaG1 zaJ8 zaJ7 A.flatCap okM zaU1 argM A.hands zcm7 zbJ7 fzM zbo9 zaJ2 newL zQ6 mwM entM zaU2 MS.like renR ren0 zby6 resL zbb2 zbi3 zB0 St.slot St.m look zs1 zP7 xv A.nc A.gd ev zbo1 zah8 zao0 zY6 A.cells A.isV A.isK A.isStr A.isVV allV allK zx0 laid zbf7 zP9
 zC9 key1 keyL A.isAg nxtQ entQ PO.lax nilQ zH1 St.app putF putM nxt rm zbo8 St.drop zx3 zC0 zx2 frz frz1 zac7 zV8 zae8 zI3 zz2 zG1 A.scal A.scal1 A.scal2 zs0 zbh1 zk0 A.pure1 pureEs
 zo2 LK.fits eqA eq1 glob zz9 zaU7 allG zaF8 resA resG zaU6 Le leF leM rho ren ren1 zU5 idOk zaO7 idEs zar0
def SeqQ(C:Cx)(E:Env)(y:PC)(Q:Exit->St->Prop):Exit->St->Prop:=λ e s=>match e with|.normal=>AW C E y Q s|e=>Q e s
def BlkQ(id:Nat)(Q:Exit->St->Prop):Exit->St->Prop:=λ e s=>match e with|.exit i=>(if i=id then Q .normal s else Q (.exit i) s)|e=>Q e s
section
variable {C:Cx} {E:Env} {Q:Exit→St→Prop} {st:St}
theorem za2{x y:PC}(h:AW C E x (SeqQ C E y Q) st):AW C E (.seq x y) Q st:=zcq1 h
theorem zr6{id:Nat}{c:PC}(h:AW C E c (BlkQ id Q) st):AW C E (.block id c) Q st:=zbz1 h
theorem zbA4{y:PC}(s:St):SeqQ C E y Q .normal s=AW C E y Q s:=rfl
theorem zbX7{y:PC}(s:St):SeqQ C E y Q .ret s=Q .ret s:=rfl
theorem zbQ2{y:PC}(i:Nat)(s:St):SeqQ C E y Q (.exit i) s=Q (.exit i) s:=rfl
theorem zbA5(i:Nat)(s:St):BlkQ i Q .normal s=Q .normal s:=rfl
theorem zbX8(i:Nat)(s:St):BlkQ i Q .ret s=Q .ret s:=rfl
theorem zbQ3(i j:Nat)(s:St):BlkQ i Q (.exit j) s=if j=i then Q .normal s else Q (.exit j) s:=rfl
theorem zbX9(rs:List RX)(r:A)(fr:List (Nat×A))(m:List (Nat×Row))(n:Nat):Post rs r .ret ⟨fr,m,n⟩=zaU7 ⟨fr,m,n⟩ rs r:=rfl
theorem zbA6(rs:List RX)(r:A)(fr:List (Nat×A))(m:List (Nat×Row))(n:Nat):Post rs r .normal ⟨fr,m,n⟩=zaU7 ⟨fr,m,n⟩ rs r:=rfl
theorem zbQ4(k:Nat)(rs:List RX)(rl:List A)(ms':List (Nat×Row))(k':Nat)(fr:List (Nat×A))(m:List (Nat×Row))(n:Nat):zbb3 k rs rl ms' k' .ret ⟨fr,m,n⟩=zaD9 k ⟨fr,m,n⟩ rs rl ms' k':=rfl
theorem zbt9(k:Nat)(rs:List RX)(rl:List A)(ms':List (Nat×Row))(k':Nat)(fr:List (Nat×A))(m:List (Nat×Row))(n:Nat):zbb3 k rs rl ms' k' .normal ⟨fr,m,n⟩=zaD9 k ⟨fr,m,n⟩ rs rl ms' k':=rfl
attribute [go_sem] zbQ4 zbt9 zbA3 zbX3 zbP3 St.gh St.ghOk St.fz St.fzOk St.own0 St.ownb St.ownbOk zaV0 zaE4 zbX2 St.unfs St.cast St.unf zbj8 unfCs unfA memN fzA fzCs fzV fzEs fzFr zbA0 zbq4 zaY7 zbA1 zbe9 zbt4 zbt5 zbf0
attribute [go_sem] zbA4 zbX7 zbQ2 zbA5 zbX8 zbQ3 zbX9 zbA6
end
theorem zbk0(n:Nat):zH7 n []:=by intro c hc;cases hc
theorem zbA7(n:Nat)(a:List A)(b:List (List A)):zH7 n (a::b)↔a.length=n/\zH7 n b:=by simp only[zH7,dB];exact⟨λ h=>⟨h a (.inl rfl),λ c hc=>h c (.inr hc)⟩,λ⟨h1,h2⟩ c hc=>hc.elim (λ e=>e▸h1) (h2 c)⟩
theorem zaV4:zN4 []:=by intro c hc;cases hc
attribute [go_sem] dJ Nat.add_zero hJ cU Nat.lt_add_one eQ Int.toNat_zero Int.toNat_natCast Int.natCast_zero imp_self jB hZ iA false_and and_false or_true true_or or_false false_or forall_const true_implies false_implies implies_true dM cV eq_self ne_eq iN iO Bool.true_and gJ Bool.false_and iJ dS fW Bool.not_not cG Bool.true_eq_false cond_true cond_false Bool.cond_true_left Bool.cond_true_right Bool.cond_false_left Bool.cond_false_right decide_true decide_false Option.getD_some Option.getD_none Option.map_some Option.map_none Option.bind_some Option.isSome_some Option.isNone_none List.length_cons List.length_nil eA cX List.all_nil List.all_cons List.nil_append eN List.map_nil dI List.set_cons_zero List.set_nil List.getD_cons_zero List.getD_cons_succ iW List.headD_cons List.contains_nil List.take_nil List.drop_nil gC
attribute [simp] zbk0 zaV4
attribute [go_sem] zbk0 zbA7 zaV4
@[go_sem] theorem zdm9:u8s []=some []:=rfl
@[go_sem] theorem zcQ6(n:Int)(l:List (List A)):u8s ([.int .u8 n]::l)=(u8s l).map (n::·):=rfl
@[go_sem] theorem zdo8(q:Nat×MS)(l r:List (Nat×MS)):q::l++r=q::(l++r):=rfl
@[go_sem] theorem zdo9:([]:List A).flatMap zI3=[]:=rfl
@[go_sem] theorem zdp0(x lo n:Nat)(cs:List A):(A.own x lo n::cs).flatMap zI3=x::cs.flatMap zI3:=rfl
@[go_sem] theorem zdp1(s:ByteArray)(cs:List A):(A.str s::cs).flatMap zI3=cs.flatMap zI3:=rfl
@[go_sem] theorem zdp2(k:IntKind)(n:Int)(cs:List A):(A.int k n::cs).flatMap zI3=cs.flatMap zI3:=rfl
@[go_sem] theorem zdn0(b:Bool)(cs:List A):(A.bool b::cs).flatMap zI3=cs.flatMap zI3:=rfl
@[go_sem] theorem zdI2(l:List (List A))(cs:List A):(A.sl l::cs).flatMap zI3=cs.flatMap zI3:=rfl
attribute [go_sem] List.isEmpty_nil List.isEmpty_cons jC List.forall_mem_cons List.not_mem_nil
@[go_sem↓] theorem zcQ7(r:A):(if r.scal=true then([]:List (Nat×MS))else[])=[]:=jC _
@[go_sem] theorem zdn1:IntKind.i64.wrap (0+1)=1:=by decide
@[go_sem] theorem zdn2:IntKind.i64.wrap (1+1)=2:=by decide
@[go_sem] theorem zdn3:IntKind.i64.wrap (2+1)=3:=by decide
@[go_sem] theorem zdn4(c x:A)(cs xs:List A):upd (c::cs) 0 (x::xs)=x::upd cs 0 xs:=by simp[upd,dH]
@[go_sem] theorem zdn5(cs:List A)(n:Nat):upd cs n []=cs:=by simp[upd]
@[go_sem] theorem zdp3(c:A)(cs new:List A)(n:Nat):upd (c::cs) (n+1) new=c::upd cs n new:=by simp[upd,Nat.add_right_comm]
@[go_sem] theorem zdn6(c:A)(cs:List A)(k:Nat):sub (c::cs) 0 (k+1)=c::sub cs 0 k:=by simp[sub]
@[go_sem] theorem zdn7(cs:List A)(n:Nat):sub cs n 0=[]:=by simp[sub]
@[go_sem] theorem zdp4(c:A)(cs:List A)(n k:Nat):sub (c::cs) (n+1) k=sub cs n k:=by simp[sub]
end Ab
end Go.Proofs.YtamndckemppjdaaGreatDoor
