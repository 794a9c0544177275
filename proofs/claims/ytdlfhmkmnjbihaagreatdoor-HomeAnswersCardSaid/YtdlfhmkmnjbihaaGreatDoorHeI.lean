import Derived.Test.YtdlfhmkmnjbihaaGreatDoorHeD
import Derived.Test.YtdlfhmkmnjbihaaGreatDoorHkD
import Derived.Test.YtdlfhmkmnjbihaaGreatDoorHm28
namespace Go.Proofs.YtdlfhmkmnjbihaaGreatDoor
namespace Ab
set_option linter.unusedVariables false
set_option linter.unusedSimpArgs false
theorem zbI7(a b:key):eqA (key.enc a) (key.enc b)=decide (a=b):=by rw[cI];simp[eqA,eq1,zL9,fH,key.enc,aF.enc,key.ext_iff,aF.ext_iff]
def genG(k:key)(l:List (key×Int)):Option Int:=zbB6 key.enc k l
theorem zbV6(k k2:key)(v:Int):∀l,genG k (zbj1 key.enc k2 v l)=if k=k2 then some v else genG k l
 |[]=>by
  unfold genG;simp only[zbj1,zbB6,zbI7]
  by_cases e:k=k2<;>simp[e]
 |p::l=>by
  have ih:=zbV6 k k2 v l;unfold genG at ih⊢;simp only[zbj1,zbI7]
  by_cases e:k2=p.1
  .simp only[e,bV,cond_true,zbB6,zbI7]
   by_cases e2:k=p.1<;>simp[e2]
  .simp only[e,dL,cond_false,zbB6,zbI7,ih]
   by_cases e2:k=p.1
   .have:k≠k2:=λ z=>e (z▸e2);simp[e2,this];intro z;exact absurd z.symm e
   .by_cases e3:k=k2<;>simp[e,e2,e3]
def zcf0(h:aX)(l:List (key×Int)):Prop:=∀t∈h.tags,genG ⟨t.aI,t.name⟩ l=some t.gen
theorem zdg6{h:aX}{l:List (key×Int)}(hg:zcf0 h l){p:aF}{n:ByteArray}(hk:(p,n)∈h.tags.map keyT):(genT h.tags p n).1=(genG ⟨p,n⟩ l).getD 0:=by
 have h2:=zbb7.2 hk;unfold genT at h2⊢;cases hf:h.tags.find? (isT p n)with
 |none=>rw[hf]at h2;cases h2
 |some t=>have hm:=hJ hf;have hkey:=zbI0.1 (jZ hf);have:=hg t hm;rw[show t.aI=p from cU Prod.fst hkey,show t.name=n from cU Prod.snd hkey]at this;rw[this];rfl
def GrOk(t:List aA)(x:aF)(ev:List aS):Prop:=∀e∈ev,e.kind=1->(e.aI,e.name)∈zG3 t\/e.aI=x
theorem zbV7{y:aA}{g:aO}(h:g∈advG y):hasQ y g.aI=true:=by obtain⟨ws,e1,e2⟩:=zaP3 y;rw[e2]at h;obtain⟨w,hw,rfl⟩:=bW.1 h;exact(zp5 y _).2 (.inl ⟨w,by rw[e1];exact cO _ hw,rfl⟩)
theorem zdg7{q:aA}{p:aF}{a:aC}{pr:Int}(h:(zy0 q p a pr).2.2=0){g:aO}(hg:g∈(zy0 q p a pr).2.1):hasQ q g.aI=true\/g.aI=p:=by
 refine(zaU0 h g.aI).1 ?_;obtain⟨_,_,_,_,_,hh⟩:=zau1 h;rcases hh with⟨_,e⟩|⟨_,_,e,_⟩|⟨_,_,_,e,_⟩
 .rw[e]at hg;cases hg
 .rw[e]at hg⊢;rw[zH3];exact zbV7 hg
 .rw[e]at hg⊢;rw[zH3];exact zbV7 hg
theorem zcR8{q:aA}{p:aF}(h:(zw7 q p).2.2=0){g:aO}(hg:g∈(zw7 q p).2.1):hasQ q g.aI=true:=by refine zaT3 h ?_;obtain⟨_,_,_,e,_⟩:=zZ1 h;rw[e]at hg⊢;rw[zH3];exact zbV7 hg
theorem zdg8{q:aA}{p:aF}{a:aC}(h:(zv0 q p a).2.2=0){g:aO}(hg:g∈(zv0 q p a).2.1):hasQ q g.aI=true:=by
 refine zbf6 h ?_;obtain⟨_,_,_,_,_,hh⟩:=zaa1 h;rcases hh with⟨_,e⟩|⟨_,e,_⟩
 .rw[e]at hg;cases hg
 .rw[e]at hg⊢;rw[zH3];exact zbV7 hg
theorem zcR9{q:aA}{p:aF}(h:(zw1 q p).2.2=0){g:aO}(hg:g∈(zw1 q p).2.1):hasQ q g.aI=true:=by obtain⟨_,_,_,e,_⟩:=zaS5 h;rw[e]at hg;exact((zcI5 q p g.aI).1 (zbV7 hg)).1
theorem zbg6{nm:ByteArray}{l:List aO}{e:aS}(h:e∈zw2 nm l):∃g∈l,e=zbS5 nm g:=by unfold zw2 at h;obtain⟨g,hg,rfl⟩:=bW.1 h;exact⟨g,hg,rfl⟩
theorem zcS0{t:List aA}{p:aF}{a:bF}{pr:Int}(h:(zv1 t p a pr).2.2=0):GrOk t p (zv1 t p a pr).2.1:=by
 unfold zv1 at h⊢;obtain⟨hv,i,h1,h2,h3,e⟩:=zaA5 h;rw[e]at h⊢;cases hfu:zaI6 t p with
 |true=>rw[hfu,bM rfl]at h;exact absurd h (by decide)
 |false=>
  rw[hfu,bL (by decide)]at h;rw[bL (by decide)];obtain⟨e0,e1⟩:=zae9 h;rw[e1];intro x hx _;obtain⟨g,hg,rfl⟩:=zbg6 (show x∈zw2 a.name _ from hx);rcases zdg7 e0 hg with k|k
  .refine .inl ?_;show(g.aI,a.name)∈zG3 t;rw[<-h3];exact(zbI6 hv h2).2 k
  .exact .inr k
theorem zcE2{t:List aA}{p:aF}{nm:ByteArray}(h:(zt9 t p nm).2.2=0):GrOk t p (zt9 t p nm).2.1:=by unfold zt9 at h⊢;obtain⟨hv,i,h1,h2,h3,e⟩:=zaA5 h;rw[e]at h⊢;obtain⟨e0,e1⟩:=zae9 h;rw[e1];intro x hx _;obtain⟨g,hg,rfl⟩:=zbg6 (show x∈zw2 nm _ from hx);refine .inl ?_;show(g.aI,nm)∈zG3 t;rw[<-h3];exact(zbI6 hv h2).2 (zcR8 e0 hg)
theorem zcS1{t:List aA}{p:aF}{a:bF}(h:(zu4 t p a).2.2=0):GrOk t p (zu4 t p a).2.1:=by
 unfold zu4 at h⊢;obtain⟨hv,i,h1,h2,h3,e⟩:=zaA5 h;rw[e]at h⊢;obtain⟨e0,e1⟩:=zae9 h;rw[e1];intro x hx hk;rcases cF.1 (show x∈(if getH (t.getD i aA.zero).aL p=a.aK then[]else[zbS6 p a.name a.aK])++zw2 a.name (zv0 (t.getD i aA.zero) p a.aK).2.1 from hx)with hx|hx
 .split at hx
  .cases hx
  .rw[dK.1 hx]at hk;exact absurd hk (by show¬(3:Int)=1;decide)
 .obtain⟨g,hg,rfl⟩:=zbg6 hx;refine .inl ?_;show(g.aI,a.name)∈zG3 t;rw[<-h3];exact(zbI6 hv h2).2 (zdg8 e0 hg)
theorem zcE3{t u:List aA}{i:Nat}{p:aF}(hV:ValidT t)(ho:Only t u i p)(hin:hasQ (u.getD i aA.zero) p=true->hasQ (t.getD i aA.zero) p=true){k:aF×ByteArray}(hk:k∈zG3 u):k∈zG3 t:=by
 obtain⟨x,n⟩:=k;obtain⟨j,hj,hn,hh⟩:=(zZ7 ho.v).1 hk;rw[ho.len]at hj;refine(zZ7 hV).2 ⟨j,hj,(ho.name j hj).symm.trans hn,?_⟩
 by_cases ej:j=i
 .subst ej
  by_cases ex:x=p
  .subst ex;exact hin hh
  .rw[<-ho.has x ex];exact hh
 .rw[<-ho.oth j ej];exact hh
theorem zdq3{t:List aA}(h:ValidT t)(p x:aF):GrOk t x (remT t p).2:=by
 rw[zbf5 h];intro e he hk;obtain⟨q,hq,he⟩:=eD.1 (show e∈t.flatMap (remE p)from he);obtain⟨i,hi,rfl⟩:=eA hq;unfold remE at he;split at he
 .rename_i e0;rcases cF.1 he with he|he
  .split at he
   .cases he
   .rw[dK.1 he]at hk;exact absurd hk (by show¬(3:Int)=1;decide)
  .obtain⟨g,hg,rfl⟩:=zbg6 he;have:=(zbI6 h hi (p:=g.aI)).2 (by rw[zA5 _ _ _ hi];exact zcR9 e0 hg);rw[zA5 _ _ _ hi]at this;exact .inl this
 .cases he
theorem zdg9{t:List aA}(h:ValidT t)(p:aF){k:aF×ByteArray}(hk:k∈zG3 (remT t p).1):k∈zG3 t:=by
 obtain⟨x,n⟩:=k;obtain⟨j,hj,hn,hh⟩:=(zZ7 (zaF9 h p)).1 hk;rw[zbf5 h]at hj hn hh;have hj':j<t.length:=by simpa using hj
 have hq:=h.each _ (zh4 (z:=aA.zero) hj');have hd:(t.map (remN · p)).getD j aA.zero=remN (t.getD j aA.zero) p:=zaQ0 _ _ _ _ _ hj';simp only[hd]at hn hh;rw[zbb4 hq]at hn;exact(zZ7 h).2 ⟨j,hj',hn,((zbQ8 hq p x).1 hh).1⟩
theorem zbV8(a b:Int){t:List aA}(x:aF):∀(ps:List aF) {s:List aA×List aS},ValidT s.1->GrOk t x s.2->(∀k∈zG3 s.1,k∈zG3 t)->GrOk t x (ps.foldl (zu0 a b) s).2
 |[],_,_,h,_=>h
 |p::ps,s,hv,h,hsub=>by
  rw[List.foldl_cons]
  by_cases k:oldP a b p=true
  .rw[show zu0 a b s p=((remT s.1 p).1,s.2++(remT s.1 p).2)from bM k];refine zbV8 a b x ps (zaF9 hv p) (λ e he hk=>?_) λ k hk=>hsub k (zdg9 hv p hk);rcases cF.1 he with he|he
   .exact h e he hk
   .rcases zdq3 hv p x e he hk with g|g
    .exact .inl (hsub _ g)
    .exact .inr g
  .rw[show zu0 a b s p=s from bL k];exact zbV8 a b x ps hv h hsub
theorem zcS2{t:List aA}(h:ValidT t)(a b:Int)(x:aF):GrOk t x (zA9 t a b).2:=by unfold zA9;rw[bM ((zs4 t).2 h)];exact zbV8 a b x _ h (λ e he=>by cases he) λ k hk=>hk
structure PostsOk (m:aJ) (x:ResH) (l:List (key×Int)):Prop where
 len:x.2.1.length<=2000000
 some_:m.kind≠5->x.2.1.length≠0
 first:m.kind≠5->∃i:Nat,zm5 x.1.aG m.aY.name=i/\∃d:Bool,x.2.1.getD 0 aW.zero=zr0 m (getH (x.1.aG.getD i aA.zero).aL m.aI) d/\
  (m.kind=2->d=true/\(zt0 (x.1.aG.getD i aA.zero) m.aI).2=false)/\(m.kind=1->d=!(zt0 (x.1.aG.getD i aA.zero) m.aI).2)
 rest:∀j,j<x.2.1.length->(j≠0\/m.kind=5)->∃tg e,x.2.1.getD j aW.zero=zaL0 tg e/\(genT tg e.aI e.name).1=(genG ⟨e.aI,e.name⟩ l).getD 0
theorem zck8{m:aJ}{u:bB}{x:ResH}{l:List (key×Int)}(hV:ValidT x.1.aG)(hk:kK m.kind)(h:PostsOk m x l):zc0 (zG5 (m,u) x l) 0=some (.inl ()):=by
 have hlen:=h.len;have h8:=hV.len;rw[zU7 x.2.1.length (λ _=>true) (λ j hj=>by
  unfold zG5;have h3:0<=(j:Int)/\(j:Int)<(x.2.1.length:Int):=by omega
  simp only[h3.1,h3.2,cP,zk1,bV,bS,Int.toNat_natCast];rw[zj5 (x:=(j:Int)+1) (by omega) (by omega)]
  by_cases c:j=0/\m.kind≠5
  .obtain⟨i,hf,d,hp,d2,d1⟩:=h.first c.2;obtain⟨hi,hn⟩:=zbt1 hf;have hq:=zo6 (hV.each _ (zh4 (z:=aA.zero) hi));obtain⟨y,hy⟩:∃y,x.2.1.getD j aW.zero=y:=⟨_,rfl⟩;simp only[hy];rw[c.1,hp]at hy;subst hy;rw[bL (by unfold zr0;simp),bM (by simp[c.1,c.2]),bL (by unfold zr0;simp),zE6 _ _ (by omega),Option.bind_some,hf,bL (by simp),za6 (by omega)];simp only[Int.toNat_natCast];rw[zx5 _ _ (by omega),Option.bind_some,bL (by unfold zr0;simp),zS4 _ _ (by omega) (by omega),Option.bind_some];rw[bL (by
    rcases hk with k|k|k
    .have:=d1 k;unfold zr0;simp only[k,this];cases(zt0 (x.1.aG.getD i aA.zero) m.aI).2<;>simp
    .obtain⟨e1,e2⟩:=d2 k;unfold zr0;rw[e2];simp[k,e1]
    .exact absurd k c.2)]
  .obtain⟨tg,e,hp,hg⟩:=h.rest j hj (by
    by_cases z:j=0
    .exact .inr (eK λ k=>c ⟨z,k⟩)
    .exact .inl z)
   obtain⟨y,hy⟩:∃y,x.2.1.getD j aW.zero=y:=⟨_,rfl⟩;simp only[hy];rw[hp]at hy;subst hy;rw[bL (by unfold zaL0;simp),bL (by
    simp only[bK,bQ,cK,cS];rintro⟨z,k⟩;exact c ⟨by omega,k⟩),bL (by
    unfold genG at hg;unfold zaL0;simp[hg])]) (by unfold zG5;simp),zaG2,bM rfl]
theorem zbd6{h:aX}{m:aJ}{l:List (key×Int)}{t:List aA}{ev:List aS}{x:aF}(g:GoodH h)(hg:zcf0 h l)(hr:GrOk h.aG x ev){l2:List (key×Int)}(hl:∀p n,p≠x->genG ⟨p,n⟩ l2=genG ⟨p,n⟩ l){j:Nat}(hj:j<(zE2 h.tags ev x).length):
  ∃tg e,(zE2 h.tags ev x).getD j aW.zero=zaL0 tg e/\(genT tg e.aI e.name).1=(genG ⟨e.aI,e.name⟩ l2).getD 0:=by
 have hm:=zh4 (z:=aW.zero) hj;unfold zE2 at hm⊢;obtain⟨e,he,hp⟩:=bW.1 hm;obtain⟨he,ht⟩:=cV.1 he;unfold zbU5 at ht;simp only[bK,bQ,cK,cS]at ht;refine⟨h.tags,e,hp.symm,?_⟩;rw[hl _ _ ht.2];refine zdg6 hg ?_;rcases hr e he ht.1 with k|k
 .exact(g.same _).2 k
 .exact absurd k ht.2
theorem zcw3{t:List aA}{p:aF}{a:bF}{i:Nat}(hf:zm5 t a.name=i)(h:(zu4 t p a).2.2=0):(zt0 ((zu4 t p a).1.getD i aA.zero) p).2=false:=by
 unfold zu4 at h⊢;obtain⟨hv,j,h1,h2,h3,e⟩:=zaA5 h;have:j=i:=by omega
 subst this;rw[e]at h⊢;obtain⟨e0,e1⟩:=zae9 h;rw[e1,h1,zU6];show(zt0 ((t.set j (zv0 (t.getD j aA.zero) p a.aK).1).getD j aA.zero) p).2=false;rw[zx6 _ _ _ _ h2];obtain⟨_,_,_,hw,_,hh⟩:=zaa1 e0;rcases hh with⟨_,e⟩|⟨_,e,_⟩
 .rw[e];exact hw
 .rw[e];show(zt0 (advS (zaa7 (t.getD j aA.zero) p a.aK)) p).2=false;obtain⟨ws,o1,_⟩:=zaP3 (zaa7 (t.getD j aA.zero) p a.aK);refine zaq3.2 λ w hw' k=>?_;have hm:w∈ordQ (zaa7 (t.getD j aA.zero) p a.aK):=by rw[o1];exact cC _ hw'
  exact zaq3.1 hw w hm k
theorem zbZ4{t:List aA}{p:aF}{nm:ByteArray}{i:Nat}(hf:zm5 t nm=i)(h:(zt9 t p nm).2.2=0):(zt0 ((zt9 t p nm).1.getD i aA.zero) p).2=false:=by
 unfold zt9 at h⊢;obtain⟨hv,j,h1,h2,h3,e⟩:=zaA5 h;have:j=i:=by omega
 subst this;rw[e]at h⊢;obtain⟨e0,e1⟩:=zae9 h;rw[e1,h1,zU6];show(zt0 ((t.set j (zw7 (t.getD j aA.zero) p).1).getD j aA.zero) p).2=false;rw[zx6 _ _ _ _ h2];obtain⟨_,_,_,ec,hs⟩:=zZ1 e0;rw[ec];show(zt0 (advS (zM1 (t.getD j aA.zero) p)) p).2=false;obtain⟨ws,o1,_⟩:=zaP3 (zM1 (t.getD j aA.zero) p);refine zaq3.2 λ w hw k=>?_;have hm:w∈ordQ (zM1 (t.getD j aA.zero) p):=by rw[o1];exact cC _ hw
 unfold ordQ zM1 at hm;simp only[cF,zaB5]at hm;rcases hm with hm|hm
 .exact hm.2 k
 .exact hm.2 k
def zbd7(m:aJ)(l:List (key×Int)):List (key×Int):=if m.kind=1 then zbj1 key.enc ⟨m.aI,m.aY.name⟩ m.gen l else l
theorem zcE4{h:aX}{m:aJ}{l:List (key×Int)}(hg:zcf0 h l)(e:(zN1 h m).2.2.2=0):PostsOk m (zN1 h m) (zbd7 m l)/\zcf0 (zN1 h m).1 (zbd7 m l):=by
 unfold zN1 at e|-
 by_cases hv:zR4 h=false
 .rw[bM hv]at e;exact absurd e (by decide)
 rw[bL hv]at e⊢;have g:=(zan5 h).1 (by simpa using hv)
 by_cases hm:zN5 m=false
 .rw[bM hm]at e;exact absurd e (by decide)
 rw[bL hm]at e|-
 by_cases k1:m.kind=1
 .rw[bM k1]at e⊢;unfold zai8 at e|-
  by_cases c:(zv1 h.aG m.aI m.aY m.aV).2.2=0
  .obtain⟨i,hi,hn,hf,e0,h1,_,hv'⟩:=zbf7 c;have hr:=(zD1 (g.v.each _ (zh4 (z:=aA.zero) hi)) (.claim m.aI m.aY.aK m.aV e0)).2;have hq1:(zv1 h.aG m.aI m.aY m.aV).1.getD i aA.zero=(zy0 (h.aG.getD i aA.zero) m.aI m.aY.aK m.aV).1:=by rw[h1,zx6 _ _ _ _ hi]
   have hf':zm5 (zv1 h.aG m.aI m.aY m.aV).1 m.aY.name=i:=by rw[<-hn,<-hr,<-hq1];exact zar0 hv'.asc (by rw[h1,dP];exact hi)
   simp only[c,bS];have hst:∀p n,p≠m.aI->genG ⟨p,n⟩ (zbd7 m l)=genG ⟨p,n⟩ l:=λ p n hp=>by unfold zbd7;rw[bM k1,zbV6,bL λ z=>hp (cU key.p z)]
   have hgl:=zaf0 h.tags (zv1 h.aG m.aI m.aY m.aV).2.1 m.aI;have hsz:=(zaT1 g.v.small m.aI m.aY m.aV).2.2;refine⟨⟨?_,λ _=>by simp,λ _=>⟨i,hf',!(zt0 ((zv1 h.aG m.aI m.aY m.aV).1.getD i aA.zero) m.aI).2,by simp only[hf',Int.toNat_natCast];rfl,λ k=>absurd (k1.symm.trans k) (by decide),λ _=>rfl⟩,λ j hj hjj=>?_⟩,λ t ht=>?_⟩
   .simp only[List.length_cons];omega
   .cases j with
    |zero=>
     rcases hjj with z|z
     .exact absurd rfl z
     .exact absurd (k1.symm.trans z) (by decide)
    |succ j=>simp only[List.length_cons]at hj;exact zbd6 (m:=m) (t:=h.aG) g hg (zcS0 c) hst (by omega)
   .unfold zbd7;rw[bM k1,zbV6];rcases(zbd3 _ _ _ _).1 ht with⟨_,rfl⟩|⟨ht,hk⟩
    .rw[bM rfl]
    .rw[bL λ z=>hk (Prod.ext (cU key.p z) (cU key.name z))];exact hg t ht
  .simp only[c,bU]at e;exact absurd e c
 have hs1:zbd7 m l=l:=bL k1;rw[bL k1,hs1]at*
 by_cases k2:m.kind=2
 .rw[bM k2]at e⊢;unfold zS7 at e|-
  by_cases hf:zm5 h.aG m.aY.name<0
  .simp only[hf,bS]at e;exact absurd e (by decide)
  simp only[hf,bU]at e⊢;obtain⟨i,hi⟩:∃i:Nat,zm5 h.aG m.aY.name=i:=⟨_,(hY (by omega)).symm⟩;obtain⟨hl,hn⟩:=zbt1 hi;obtain⟨c,hc⟩:∃c,(if(zt0 (h.aG.getD (zm5 h.aG m.aY.name).toNat aA.zero) m.aI).2=true then zt9 h.aG m.aI m.aY.name else(h.aG,[],0))=c:=⟨_,rfl⟩;simp only[hc]at e⊢;simp only[hi,Int.toNat_natCast]at e hc|-
  by_cases c0:c.2.2=0
  .have hct:Only h.aG c.1 i m.aI/\(hasQ (c.1.getD i aA.zero) m.aI=true->hasQ (h.aG.getD i aA.zero) m.aI=true)/\GrOk h.aG m.aI c.2.1/\(zt0 (c.1.getD i aA.zero) m.aI).2=false/\c.2.1.length<=17:=by
    by_cases w:(zt0 (h.aG.getD i aA.zero) m.aI).2=true
    .rw[bM w]at hc;subst hc;exact⟨zaU1 hi c0,zby8 hi c0,zcE2 c0,zbZ4 hi c0,zaT6 g.v _ _⟩
    .rw[bL w]at hc;subst hc;exact⟨Only.refl g.v _ _,id,(λ _ he=>nomatch he),(by show(zt0 (h.aG.getD i aA.zero) m.aI).2=false;simpa using w),eY _⟩
   obtain⟨ho,hin,hgr,hw,hle⟩:=hct;have hfc:zm5 c.1 m.aY.name=i:=by rw[<-hn,<-ho.name i hl];exact zar0 ho.v.asc (by rw[ho.len];exact hl)
   have hev:=zbg1 ho.v m.aI m.aY;have key:∀(r:List aA×List aS),zm5 r.1 m.aY.name=i->GrOk h.aG m.aI r.2->(zt0 (r.1.getD i aA.zero) m.aI).2=false->r.2.length<=1000->
     PostsOk m (⟨r.1,zar3 h.tags m.aI m.aY.name (decide (m.aI∈zu6 (r.1.getD i aA.zero)))⟩,zr0 m (getH (r.1.getD i aA.zero).aL m.aI) true::zE2 h.tags r.2 m.aI,r.2,0) l/\zcf0 ⟨r.1,zar3 h.tags m.aI m.aY.name (decide (m.aI∈zu6 (r.1.getD i aA.zero)))⟩ l:=by
    intro r hfr hgr' hwr hlr;have hgl:=zaf0 h.tags r.2 m.aI;refine⟨⟨?_,λ _=>by simp,λ _=>⟨i,hfr,true,rfl,λ _=>⟨rfl,hwr⟩,λ k=>absurd k k1⟩,λ j hj hjj=>?_⟩,λ t ht=>hg t (cV.1 ht).1⟩
    .simp only[List.length_cons];omega
    .cases j with
     |zero=>
      rcases hjj with z|z
      .exact absurd rfl z
      .exact absurd (k2.symm.trans z) (by decide)
     |succ j=>simp only[List.length_cons]at hj;exact zbd6 (m:=m) (t:=h.aG) g hg hgr' (λ _ _ _=>rfl) (by omega)
   simp only[c0,bS]
   by_cases l0:(zu4 c.1 m.aI m.aY).2.2=0
   .simp only[l0,bS];have ho2:=ho.trans (zbd2 hfc l0);refine key ((zu4 c.1 m.aI m.aY).1,c.2.1++(zu4 c.1 m.aI m.aY).2.1) ?_ (λ x hx hk=>?_) (zcw3 hfc l0) (by rw[bP];omega)
    .rw[<-hn,<-ho2.name i hl];exact zar0 ho2.v.asc (by rw[ho2.len];exact hl)
    .rcases cF.1 hx with hx|hx
     .exact hgr x hx hk
     .rcases zcS1 l0 x hx hk with z|z
      .exact .inl (zcE3 g.v ho hin z)
      .exact .inr z
   .simp only[l0,bU];exact key (c.1,c.2.1) hfc hgr hw (by simp only;omega)
  .simp only[c0,bU]at e;exact absurd e c0
 rw[bL k2]at e|-
 by_cases k5:m.kind=5
 .rw[bM k5]at e⊢;unfold zbc7;have hgl:=zaf0 h.tags (zA9 h.aG m.site m.inc).2 aF.zero;have hpe:=(zar2 h.aG m.site m.inc).2.2;refine⟨⟨by simp only;omega,λ z=>absurd k5 z,λ z=>absurd k5 z,λ j hj _=>?_⟩,λ t ht=>hg t (cV.1 ht).1⟩;exact zbd6 (m:=m) (t:=h.aG) g hg (zcS2 g.v _ _ _) (λ _ _ _=>rfl) hj
 rw[bL k5]at e;exact absurd e (by decide)
theorem zbz3(l:List Int):zG9 l=some true:=by
 unfold zG9
 by_cases hL:zF0 l=true
 .have hl:l.length<=1000000:=by unfold zF0 at hL;simp at hL;omega
  have hu:=zbT6 hl;rw[hL,bL (by decide),show({bB.zero with l:=l}:bB)=zac0 l from rfl,zcE1 _ hu,Option.bind_some];simp only;rw[zaI8,zdg5,Option.bind_some];obtain⟨x,hx,rfl⟩:=zap9 (body:=zN9 (zaQ1 (zac0 l),zH2 8 (zac0 l))) (λ w=>TapeOk w.1/\GoodH w.2.1/\zcf0 w.2.1 w.2.2) (λ w=>w.1.l.length-w.1.at_.toNat) (λ x=>x=.inl ()) (by
   rintro⟨u,h,gs⟩ ⟨ho,g,hg⟩;simp only at ho g hg;unfold zN9 zc1;simp only[Option.bind_some]
   by_cases hm:u.at_<(u.l.length:Int)
   .rw[bM (bZ hm)];obtain⟨m,n,e,hk⟩:=zbo5 (zaQ2 (zac0 l)) (zaC2 (zac0 l)) ho;have hs:=g.small;rw[e,Option.bind_some];simp only;rw[zai0 h m (by omega) hk,Option.bind_some]
    by_cases e0:(zN1 h m).2.2.2=0
    .have gv:=zby9 e0;obtain⟨hp,hg2⟩:=zcE4 hg e0;have key:zA3 (m,zH2 (n+1) u) (zN1 h m) (zbd7 m gs)=some (.inl (zH2 (n+1) u,(zN1 h m).1,zbd7 m gs)):=by
      unfold zA3;rw[zck8 gv.v hk hp,Option.bind_some];unfold zN8;simp only;rw[bL (by
       simp only[bK,cK,cS,bQ];rintro⟨z,y⟩;exact hp.some_ z (by omega))]
     refine .inl ⟨(zH2 (n+1) u,(zN1 h m).1,zbd7 m gs),?_,⟨zak0 _ ho,gv,hg2⟩,zau8 ho hm n⟩;rw[bL (by simp[e0])]
     by_cases k1:m.kind=1
     .rw[bM (bZ k1),<-key];unfold zbd7;rw[bM k1]
     .rw[bL (by simpa using k1),<-key];unfold zbd7;rw[bL k1]
    .rw[bM (by simp[e0])];exact .inl ⟨(zH2 (n+1) u,h,gs),rfl,⟨zak0 _ ho,g,hg⟩,zau8 ho hm n⟩
   .rw[bL (by simpa using hm)];exact .inr ⟨_,rfl,rfl⟩) (zH2 8 (zac0 l),zce8 (zac0 l),[]) ⟨zak0 8 hu,zbo4 _,λ t ht=>nomatch (show t∈([]:List bA)from ht)⟩
  rw[hx,Option.bind_some];unfold zN7;simp only;rw[zN6];rfl
 .rw[bM (by simpa using hL),zN6];rfl
end Ab
end Go.Proofs.YtdlfhmkmnjbihaaGreatDoor
