import Derived.Test.YtdlfhmkmnjbihaaGreatDoorHkD
import Derived.Test.YtdlfhmkmnjbihaaGreatDoorTabA
namespace Go.Proofs.YtdlfhmkmnjbihaaGreatDoor
namespace Ab
set_option linter.unusedVariables false
set_option linter.unusedSimpArgs false
def zaz9(l:List aO)(e:aS):List aO:=setL l e.aI e.aK
theorem adv_holds:∀q,(advS q).aL=(advG q).foldl (λ l g=>setL l g.aI g.aK) q.aL:=by
 refine zbs0 (λ q h=>?_) λ q hc h=>?_
 .rw[zba8 h,zbr8 h];rfl
 .rw[zaF6 hc,zbr7 hc,List.foldl_cons,h,(zbf1 hc).2]
theorem remE_holds{q:aA}(h:ze7 q=true)(p:aF):(remE p q).foldl zaz9 q.aL=(remN q p).aL:=by
 have hs:=((zp4 q).1 h).1;unfold remE remN;cases hp:hasQ q p with
 |false=>
  have e:(zw1 q p).2.2≠0:=by rw[zav8 h hp];decide
  rw[bL e,bL e];rfl
 |true=>
  have e:=zaS6 h hp;have e0:(zw1 q p).2.2=0:=by rw[e];rfl
  rw[bM e0,bM e0,e,zaB6];show _=(advS (del q p)).aL;rw[adv_holds,iN];have hd:((if getH q.aL p=aC.zero then[]else[zbS6 p q.aB.name aC.zero]):List aS).foldl zaz9 q.aL=(del q p).aL:=by
   show _=zs3 p q.aL
   by_cases hz:getH q.aL p=aC.zero
   .rw[bM hz];refine(zbC5 λ x hx ex=>?_).symm;exact((zcr8 hs.hv p).2 (bW.2 ⟨x,hx,ex⟩)) hz
   .rw[bL hz];show setL q.aL p aC.zero=_;unfold setL;rw[bM rfl]
  rw[hd];show(zw2 q.aB.name (advG (del q p))).foldl zaz9 (del q p).aL=_;unfold zw2;rw[List.foldl_map];rfl
theorem zaC1{nm:ByteArray}{l:List aO}{e:aS}(h:e∈zw2 nm l):e.name=nm:=by unfold zw2 at h;obtain⟨g,_,rfl⟩:=bW.1 h;rfl
theorem zce7{p:aF}{q:aA}{e:aS}(h:e∈remE p q):e.name=q.aB.name:=by
 unfold remE at h;split at h
 .rcases cF.1 h with h|h
  .split at h
   .cases h
   .rw[dK.1 h];rfl
  .exact zaC1 h
 .cases h
theorem zbd1(nm:ByteArray)(g l:List aO):(zw2 nm g).foldl zaz9 l=g.foldl (λ l g=>setL l g.aI g.aK) l:=by unfold zw2;rw[List.foldl_map];rfl
theorem claim_holds{q:aA}{p:aF}{a:aC}{pr:Int}(h:(zy0 q p a pr).2.2=0)(nm:ByteArray):(zw2 nm (zy0 q p a pr).2.1).foldl zaz9 q.aL=(zy0 q p a pr).1.aL:=by
 obtain⟨_,_,_,_,_,hh⟩:=zau1 h;rw[zbd1];rcases hh with⟨_,e⟩|⟨_,_,e,_⟩|⟨_,_,_,e,_⟩
 .rw[e];rfl
 .rw[e];exact(adv_holds (claimC q p a)).symm
 .rw[e];exact(adv_holds (claimW q p a pr)).symm
theorem cancel_holds{q:aA}{p:aF}(h:(zw7 q p).2.2=0)(nm:ByteArray):(zw2 nm (zw7 q p).2.1).foldl zaz9 q.aL=(zw7 q p).1.aL:=by obtain⟨_,_,_,e,_⟩:=zZ1 h;rw[zbd1,e];exact(adv_holds (zM1 q p)).symm
theorem lower_holds{q:aA}{p:aF}{a:aC}(h:(zv0 q p a).2.2=0)(nm:ByteArray):
  ((if getH q.aL p=a then[]else[zbS6 p nm a])++zw2 nm (zv0 q p a).2.1).foldl zaz9 q.aL=(zv0 q p a).1.aL:=by
 obtain⟨_,_,_,_,_,hh⟩:=zaa1 h;rw[iN,zbd1];rcases hh with⟨e1,e⟩|⟨e1,e,_⟩
 .rw[bM e1,e];rfl
 .rw[bL e1,e];exact(adv_holds (zaa7 q p a)).symm
def zaA6(p:aF)(n:ByteArray)(d:aC)(ev:List aS):aC:=ev.foldl (λ d e=>if e.aI=p/\e.name=n then e.aK else d) d
theorem zaT9(p:aF)(n:ByteArray)(d:aC)(a b:List aS):zaA6 p n d (a++b)=zaA6 p n (zaA6 p n d a) b:=iN
theorem zaJ2{p:aF}{n:ByteArray}:∀{ev:List aS} {d:aC},(∀e∈ev,e.name≠n)->zaA6 p n d ev=d
 |[],_,_=>rfl
 |e::ev,d,h=>by show zaA6 p n (if e.aI=p/\e.name=n then e.aK else d) ev=d;rw[bL λ k=>h e (.head _) k.2];exact zaJ2 λ x hx=>h x (.tail _ hx)
theorem zby7{p:aF}{n:ByteArray}:∀{ev:List aS} {l:List aO},(∀e∈ev,e.name=n)->getH (ev.foldl zaz9 l) p=zaA6 p n (getH l p) ev
 |[],_,_=>rfl
 |e::ev,l,h=>by
  have hn:=h e (.head _);show getH (ev.foldl zaz9 (zaz9 l e)) p=zaA6 p n (if e.aI=p/\e.name=n then e.aK else getH l p) ev;rw[zby7 λ x hx=>h x (.tail _ hx)];congr 1;unfold zaz9
  by_cases k:e.aI=p
  .rw[bM ⟨k,hn⟩,k,zaq2]
  .rw[bL λ z=>k z.1,zD0 λ z=>k z.symm]
structure Told (t u:List aA) (ev:List aS):Prop where
 len:u.length=t.length
 res:∀i,i<t.length->(u.getD i aA.zero).aB=(t.getD i aA.zero).aB
 tell:∀i,i<t.length->∀p,getH (u.getD i aA.zero).aL p=zaA6 p (t.getD i aA.zero).aB.name (getH (t.getD i aA.zero).aL p) ev
theorem Told.refl(t:List aA):Told t t []:=⟨rfl,λ _ _=>rfl,λ _ _ _=>rfl⟩
theorem Told.trans{t u v:List aA}{a b:List aS}(h:Told t u a)(k:Told u v b):Told t v (a++b):=by refine⟨k.len.trans h.len,λ i hi=>(k.res i (by rw[h.len];exact hi)).trans (h.res i hi),λ i hi p=>?_⟩;rw[k.tell i (by rw[h.len];exact hi) p,h.tell i hi p,h.res i hi,zaT9]
theorem zx6{α:Type}(l:List α)(i:Nat)(x z:α)(h:i<l.length):(l.set i x).getD i z=x:=by rw[bO,gU h];rfl
theorem zZ2{α:Type}(l:List α){i j:Nat}(x z:α)(h:i≠j):(l.set i x).getD j z=l.getD j z:=by rw[bO,List.getElem?_set_ne h,<-bO]
theorem Told.set{t:List aA}(hv:ValidT t){i:Nat}(hi:i<t.length){q:aA}{es:List aS}(hr:q.aB=(t.getD i aA.zero).aB)(he:∀e∈es,e.name=(t.getD i aA.zero).aB.name)
  (hh:es.foldl zaz9 (t.getD i aA.zero).aL=q.aL):Told t (t.set i q) es:=by
 refine⟨by rw[dP],λ j hj=>?_,λ j hj p=>?_⟩
 .by_cases e:i=j
  .subst e;rw[zx6 _ _ _ _ hi,hr]
  .rw[zZ2 _ _ _ e]
 .by_cases e:i=j
  .subst e;rw[zx6 _ _ _ _ hi,<-hh,zby7 he]
  .rw[zZ2 _ _ _ e,zaJ2 λ x hx k=>e (zbH8 hv.asc hi hj (by rw[<-he x hx,k]))]
theorem zcv4{t:List aA}{p:aF}{a:bF}{pr:Int}(h:(zv1 t p a pr).2.2=0):Told t (zv1 t p a pr).1 (zv1 t p a pr).2.1:=by
 unfold zv1 at h⊢;obtain⟨hv,i,h1,h2,h3,e⟩:=zaA5 h;rw[e]at h⊢;cases hfu:zaI6 t p with
 |true=>rw[hfu,bM rfl]at h;exact absurd h (by decide)
 |false=>rw[hfu,bL (by decide)]at h;rw[bL (by decide)];obtain⟨e0,e1⟩:=zae9 h;rw[e1,h1,zU6];have hq:=hv.each _ (zh4 (z:=aA.zero) h2);exact Told.set hv h2 (es:=zw2 a.name (zy0 (t.getD i aA.zero) p a.aK pr).2.1) (zD1 hq (.claim p a.aK pr e0)).2 (λ x hx=>by rw[h3];exact zaC1 hx) (claim_holds e0 _)
theorem zck6{t:List aA}{p:aF}{nm:ByteArray}(h:(zt9 t p nm).2.2=0):Told t (zt9 t p nm).1 (zt9 t p nm).2.1:=by unfold zt9 at h⊢;obtain⟨hv,i,h1,h2,h3,e⟩:=zaA5 h;rw[e]at h⊢;obtain⟨e0,e1⟩:=zae9 h;rw[e1,h1,zU6];have hq:=hv.each _ (zh4 (z:=aA.zero) h2);exact Told.set hv h2 (es:=zw2 nm (zw7 (t.getD i aA.zero) p).2.1) (zD1 hq (.cancel p e0)).2 (λ x hx=>by rw[h3];exact zaC1 hx) (cancel_holds e0 _)
theorem zcv5{t:List aA}{p:aF}{a:bF}(h:(zu4 t p a).2.2=0):Told t (zu4 t p a).1 (zu4 t p a).2.1:=by
 unfold zu4 at h⊢;obtain⟨hv,i,h1,h2,h3,e⟩:=zaA5 h;rw[e]at h⊢;obtain⟨e0,e1⟩:=zae9 h;rw[e1,h1,zU6];have hq:=hv.each _ (zh4 (z:=aA.zero) h2);refine Told.set hv h2 (es:=(if getH (t.getD i aA.zero).aL p=a.aK then[]else[zbS6 p a.name a.aK])++zw2 a.name (zv0 (t.getD i aA.zero) p a.aK).2.1) (zD1 hq (.lower p a.aK e0)).2 (λ x hx=>?_) (lower_holds e0 _);rw[h3];rcases cF.1 hx with hx|hx
 .split at hx
  .cases hx
  .rw[dK.1 hx];rfl
 .exact zaC1 hx
theorem zbV3(p:aF)(d:aC)(f:aA->List aS)(hf:∀q,∀e∈f q,e.name=q.aB.name):∀{t:List aA},AscN t->∀i,i<t.length->zaA6 p (t.getD i aA.zero).aB.name d (t.flatMap f)=zaA6 p (t.getD i aA.zero).aB.name d (f (t.getD i aA.zero))
 |[],_,i,hi=>absurd hi (Nat.not_lt_zero i)
 |q::t,ha,0,_=>by
  have ha':=cG.1 ha;rw[eG,zaT9];show zaA6 p q.aB.name (zaA6 p q.aB.name d (f q)) (t.flatMap f)=zaA6 p q.aB.name d (f q);exact zaJ2 λ e he k=>by obtain⟨x,hx,h1⟩:=eD.1 he;rw[hf x e h1]at k;exact zbx5 (ha'.1 x hx) k.symm
 |q::t,ha,i+1,hi=>by
  have ha':=cG.1 ha;have hi':i<t.length:=by rw[List.length_cons]at hi;omega
  rw[eG,zaT9,show((q::t).getD (i+1) aA.zero)=t.getD i aA.zero from rfl,zaJ2 (ev:=f q) λ e he k=>by
   rw[hf q e he]at k;exact zbx5 (ha'.1 _ (zh4 (z:=aA.zero) hi')) k]
  exact zbV3 p d f hf ha'.2 i hi'
theorem zaQ0{α β:Type}(l:List α)(f:α->β)(i:Nat)(z:α)(y:β)(h:i<l.length):(l.map f).getD i y=f (l.getD i z):=by rw[bO,bO,cE,bR h];rfl
theorem zcR3{t:List aA}(h:ValidT t)(p:aF):Told t (remT t p).1 (remT t p).2:=by
 rw[zbf5 h];refine⟨by rw[cH],λ i hi=>?_,λ i hi x=>?_⟩
 .show((t.map (remN · p)).getD i aA.zero).aB=_;rw[zaQ0 t _ i aA.zero _ hi];exact zbb4 (h.each _ (zh4 hi)) p
 .show getH ((t.map (remN · p)).getD i aA.zero).aL x=zaA6 x _ _ (t.flatMap (remE p));rw[zaQ0 t _ i aA.zero _ hi,zbV3 x _ _ (λ q e he=>zce7 he) h.asc i hi,<-remE_holds (h.each _ (zh4 hi)),zby7 λ e he=>zce7 he]
theorem zbo3(a b:Int){t:List aA}:∀(ps:List aF) {s:List aA×List aS},ValidT s.1->Told t s.1 s.2->Told t (ps.foldl (zu0 a b) s).1 (ps.foldl (zu0 a b) s).2
 |[],_,_,h=>h
 |p::ps,s,hv,h=>by
  rw[List.foldl_cons]
  by_cases k:oldP a b p=true
  .rw[show zu0 a b s p=((remT s.1 p).1,s.2++(remT s.1 p).2)from bM k];exact zbo3 a b ps (zaF9 hv p) (h.trans (zcR3 hv p))
  .rw[show zu0 a b s p=s from bL k];exact zbo3 a b ps hv h
theorem zcv6{t:List aA}(h:ValidT t)(a b:Int):Told t (zA9 t a b).1 (zA9 t a b).2:=by unfold zA9;rw[bM ((zs4 t).2 h)];exact zbo3 a b _ h (Told.refl t)
theorem zcR4{h:aX}{m:aJ}(e:(zN1 h m).2.2.2=0):Told h.aG (zN1 h m).1.aG (zN1 h m).2.2.1:=by
 unfold zN1 at e|-
 by_cases hv:zR4 h=false
 .rw[bM hv]at e;exact absurd e (by decide)
 rw[bL hv]at e⊢;have hV:=zbc8 (by simpa using hv)
 by_cases hm:zN5 m=false
 .rw[bM hm]at e;exact absurd e (by decide)
 rw[bL hm]at e|-
 by_cases k1:m.kind=1
 .rw[bM k1]at e⊢;unfold zai8 at e|-
  by_cases c:(zv1 h.aG m.aI m.aY m.aV).2.2=0
  .simp only[c,bS];exact zcv4 c
  .simp only[c,bU]at e;exact absurd e c
 rw[bL k1]at e|-
 by_cases k2:m.kind=2
 .rw[bM k2]at e⊢;unfold zS7 at e|-
  by_cases hf:zm5 h.aG m.aY.name<0
  .simp only[hf,bS]at e;exact absurd e (by decide)
  simp only[hf,bU]at e⊢;obtain⟨c,hc⟩:∃c,(if(zt0 (h.aG.getD (zm5 h.aG m.aY.name).toNat aA.zero) m.aI).2=true then zt9 h.aG m.aI m.aY.name else(h.aG,[],0))=c:=⟨_,rfl⟩;simp only[hc]at e|-
  by_cases c0:c.2.2=0
  .have hct:Told h.aG c.1 c.2.1:=by
    by_cases w:(zt0 (h.aG.getD (zm5 h.aG m.aY.name).toNat aA.zero) m.aI).2=true
    .rw[bM w]at hc;subst hc;exact zck6 c0
    .rw[bL w]at hc;subst hc;exact Told.refl _
   simp only[c0,bS]
   by_cases l0:(zu4 c.1 m.aI m.aY).2.2=0
   .simp only[l0,bS];exact hct.trans (zcv5 l0)
   .simp only[l0,bU];exact hct
  .simp only[c0,bU]at e;exact absurd e c0
 rw[bL k2]at e|-
 by_cases k5:m.kind=5
 .rw[bM k5]at e⊢;exact zcv6 hV m.site m.inc
 rw[bL k5]at e;exact absurd e (by decide)
structure GoodH (h:aX):Prop where
 v:ValidT h.aG
 ok:∀t∈h.tags,zb6 t.aI=true/\0<=t.gen/\t.gen<=1073741824
 asc:h.tags.Pairwise ltT
 same:∀k,k∈h.tags.map keyT↔k∈zG3 h.aG
theorem GoodH.count{h:aX}(g:GoodH h):(zG3 h.aG).length=h.tags.length:=by have h1:=dH (zbb8 g.v.asc) (l₂:=h.tags.map keyT) λ k hk=>(g.same k).2 hk;have h2:=dH (zbU2 g.asc) (l₂:=zG3 h.aG) λ k hk=>(g.same k).1 hk;rw[cH]at h1 h2;omega
theorem zan5(h:aX):zR4 h=true↔GoodH h:=by
 unfold zR4;simp only[bK,dB,dN,bQ,zcJ1,Int.natCast_inj];constructor
 .rintro⟨hv,h1,h2,h3⟩;have hV:=(zs4 _).1 hv;have ok:∀i,i<h.tags.length->zb6 (h.tags.getD i bA.zero).aI=true/\(0<=(h.tags.getD i bA.zero).gen/\(h.tags.getD i bA.zero).gen<=1073741824)/\(i=0\/ltT (h.tags.getD (i-1) bA.zero) (h.tags.getD i bA.zero)):=λ i hi=>by
   have:=h1 i hi;unfold okT at this
   simpa only[bK,dT,bQ]using this
  have asc:h.tags.Pairwise ltT:=zct7 λ i h0 hi=>by
   rcases(ok i hi).2.2 with k|k
   .omega
   .exact k
  have sup:∀x∈zG3 h.aG,x∈h.tags.map keyT:=λ x hx=>by obtain⟨p,n⟩:=x;obtain⟨q,hq,rfl,hp⟩:=zaC9.1 hx;have:=h2 q hq;unfold zaB8 at this;rw[dB]at this;exact zbb7.1 (this p hp)
  refine⟨hV,λ t ht=>?_,asc,λ k=>⟨λ hk=>?_,sup k⟩⟩
  .obtain⟨i,hi,rfl⟩:=eA ht;have:=ok i hi;rw[zA5 _ _ _ hi]at this;exact⟨this.1,this.2.1⟩
  .exact zbb9 (zbb8 hV.asc) sup (by rw[cH];omega) k hk
 .intro g;refine⟨(zs4 _).2 g.v,λ i hi=>?_,λ q hq=>?_,g.count⟩
  .have hm:=g.ok _ (zh4 (z:=bA.zero) hi);unfold okT;simp only[bK,dT,bQ];refine⟨hm.1,hm.2,?_⟩
   by_cases e:i=0
   .exact .inl e
   .refine .inr ?_;have:=fP.1 g.asc (i-1) i (by omega) hi (by omega);rw[zA5 _ _ _ hi,zA5 _ _ _ (show i-1<h.tags.length by omega)];exact this
  .unfold zaB8;rw[dB];intro p hp;exact zbb7.2 ((g.same _).2 (zaC9.2 ⟨q,hq,rfl,hp⟩))
theorem zZ7{t:List aA}(h:ValidT t){p:aF}{n:ByteArray}:(p,n)∈zG3 t↔∃i,i<t.length/\(t.getD i aA.zero).aB.name=n/\hasQ (t.getD i aA.zero) p=true:=by
 rw[zaC9];constructor
 .rintro⟨q,hq,hn,hp⟩;obtain⟨i,hi,rfl⟩:=eA hq;refine⟨i,hi,?_⟩;rw[zA5 _ _ _ hi];exact⟨hn,(zae5 ((zp4 _).1 (h.each _ hq)).1).1 hp⟩
 .rintro⟨i,hi,hn,hp⟩;have hm:=zh4 (z:=aA.zero) hi;exact⟨_,hm,hn,(zae5 ((zp4 _).1 (h.each _ hm)).1).2 hp⟩
theorem zbI6{t:List aA}(h:ValidT t){i:Nat}(hi:i<t.length){p:aF}:(p,(t.getD i aA.zero).aB.name)∈zG3 t↔hasQ (t.getD i aA.zero) p=true:=by
 rw[zZ7 h];constructor
 .rintro⟨j,hj,hn,hp⟩;rw[<-zbH8 h.asc hj hi hn];exact hp
 .exactλ hp=>⟨i,hi,rfl,hp⟩
theorem zaU0{q:aA}{p:aF}{a:aC}{pr:Int}(h:(zy0 q p a pr).2.2=0)(x:aF):hasQ (zy0 q p a pr).1 x=true↔hasQ q x=true\/x=p:=by
 refine⟨zcd8 h,λ k=>?_⟩;obtain⟨_,_,_,hf,_,hh⟩:=zau1 h;rcases hh with⟨hc,e⟩|⟨_,hz,e,_⟩|⟨_,_,_,e,_⟩
 .rw[e];rcases k with k|rfl
  .exact k
  .refine(zp5 q x).2 (.inr ?_);rcases((zX1 _ _ _).1 hc).2.2 with k|k
   .exact absurd k (zR3 hf)
   .exact k.1
 .rw[e,zH3];rcases k with k|rfl
  .rcases(zp5 q x).1 k with⟨w,hw,ew⟩|k
   .refine(zp5 _ x).2 (.inl ⟨w,?_,ew⟩);unfold ordQ claimC;unfold ordQ at hw;simp only[cF,dK]at hw⊢;rcases hw with hw|hw
    .exact .inl (.inl hw)
    .exact .inr hw
   .exact(zp5 _ x).2 (.inr k)
  .exact(zp5 _ x).2 (.inr hz)
 .rw[e,zH3];rcases k with k|rfl
  .rcases(zp5 q x).1 k with⟨w,hw,ew⟩|k
   .unfold ordQ at hw;rcases cF.1 hw with hw|hw
    .exact(zp5 _ x).2 (.inl ⟨w,cO _ hw,ew⟩)
    .rw[<-dV (zC3 q.aT ⟨p,a,pr,0⟩ q.aT.length) q.aT]at hw;rcases cF.1 hw with hw|hw
     .refine(zp5 _ x).2 (.inl ⟨w,cC _ ?_,ew⟩);unfold claimW zaA3;exact cO _ hw
     .refine(zp5 _ x).2 (.inl ⟨bump w,cC _ ?_,ew⟩);unfold claimW zaA3;exact cC _ (.tail _ (bW.2 ⟨w,hw,rfl⟩))
   .exact(zp5 _ x).2 (.inr k)
  .refine(zp5 _ x).2 (.inl ⟨⟨x,a,pr,0⟩,cC _ ?_,rfl⟩);unfold claimW zaA3;exact cC _ (.head _)
theorem zcv7{q:aA}{p:aF}(h:(zw7 q p).2.2=0){x:aF}(hx:x≠p):hasQ (zw7 q p).1 x=hasQ q x:=by
 rw[cI];refine⟨zaT3 h,λ k=>?_⟩;obtain⟨_,_,_,e,_⟩:=zZ1 h;rw[e,zH3];rcases(zp5 q x).1 k with⟨w,hw,ew⟩|k
 .refine(zp5 _ x).2 (.inl ⟨w,?_,ew⟩);unfold ordQ zM1;unfold ordQ at hw;simp only[cF,zaB5]at hw⊢;have:w.aI≠p:=by rw[ew];exact hx
  rcases hw with hw|hw
  .exact .inl ⟨hw,this⟩
  .exact .inr ⟨hw,this⟩
 .exact(zp5 _ x).2 (.inr k)
theorem zcD9{q:aA}{p:aF}{a:aC}(h:(zv0 q p a).2.2=0){x:aF}(hx:x≠p):hasQ (zv0 q p a).1 x=hasQ q x:=by
 rw[cI];refine⟨zbf6 h,λ k=>?_⟩;obtain⟨_,_,_,_,_,hh⟩:=zaa1 h;rcases hh with⟨_,e⟩|⟨_,e,_⟩
 .rw[e];exact k
 .rw[e,zH3];rcases(zp5 q x).1 k with k|k
  .exact(zp5 _ x).2 (.inl k)
  .refine(zp5 _ x).2 (.inr ?_);unfold zaa7;rw[zD0 hx];exact k
structure Only (t u:List aA) (i:Nat) (p:aF):Prop where
 v:ValidT u
 len:u.length=t.length
 name:∀j,j<t.length->(u.getD j aA.zero).aB.name=(t.getD j aA.zero).aB.name
 oth:∀j,j≠i->u.getD j aA.zero=t.getD j aA.zero
 has:∀x,x≠p->hasQ (u.getD i aA.zero) x=hasQ (t.getD i aA.zero) x
theorem Only.refl{t:List aA}(h:ValidT t)(i:Nat)(p:aF):Only t t i p:=⟨h,rfl,λ _ _=>rfl,λ _ _=>rfl,λ _ _=>rfl⟩
theorem Only.trans{t u w:List aA}{i:Nat}{p:aF}(h:Only t u i p)(k:Only u w i p):Only t w i p:=
 ⟨k.v,k.len.trans h.len,λ j hj=>(k.name j (by rw[h.len];exact hj)).trans (h.name j hj),λ j hj=>(k.oth j hj).trans (h.oth j hj),λ x hx=>(k.has x hx).trans (h.has x hx)⟩
theorem zcv8{t:List aA}{i:Nat}(hi:i<t.length){q:aA}{p:aF}(hv:ValidT (t.set i q))(hr:q.aB=(t.getD i aA.zero).aB)(hh:∀x,x≠p->hasQ q x=hasQ (t.getD i aA.zero) x):Only t (t.set i q) i p:=by
 refine⟨hv,by rw[dP],λ j hj=>?_,λ j hj=>zZ2 _ _ _ hj.symm,λ x hx=>?_⟩
 .by_cases e:i=j
  .subst e;rw[zx6 _ _ _ _ hi,hr]
  .rw[zZ2 _ _ _ e]
 .rw[zx6 _ _ _ _ hi];exact hh x hx
theorem zbt1{t:List aA}{nm:ByteArray}{i:Nat}(h:zm5 t nm=i):i<t.length/\(t.getD i aA.zero).aB.name=nm:=by
 rcases zak1 (t:=t) (nm:=nm)with f|⟨j,f,hj,hn⟩
 .omega
 .have:j=i:=by omega
  subst this;exact⟨hj,hn⟩
theorem zaU1{t:List aA}{p:aF}{nm:ByteArray}{i:Nat}(hf:zm5 t nm=i)(h:(zt9 t p nm).2.2=0):Only t (zt9 t p nm).1 i p:=by
 obtain⟨_,_,_,_,hv'⟩:=zbn8 h;unfold zt9 at h hv'⊢;obtain⟨hv,j,h1,h2,h3,e⟩:=zaA5 h;have:j=i:=by omega
 subst this;rw[e]at h hv'⊢;obtain⟨e0,e1⟩:=zae9 h;rw[e1,h1,zU6]at hv'⊢;exact zcv8 h2 hv' (zD1 (hv.each _ (zh4 (z:=aA.zero) h2)) (.cancel p e0)).2 λ x hx=>zcv7 e0 hx
theorem zbd2{t:List aA}{p:aF}{a:bF}{i:Nat}(hf:zm5 t a.name=i)(h:(zu4 t p a).2.2=0):Only t (zu4 t p a).1 i p:=by
 obtain⟨_,_,_,_,hv'⟩:=zcd9 h;unfold zu4 at h hv'⊢;obtain⟨hv,j,h1,h2,h3,e⟩:=zaA5 h;have:j=i:=by omega
 subst this;rw[e]at h hv'⊢;obtain⟨e0,e1⟩:=zae9 h;rw[e1,h1,zU6]at hv'⊢;exact zcv8 h2 hv' (zD1 (hv.each _ (zh4 (z:=aA.zero) h2)) (.lower p a.aK e0)).2 λ x hx=>zcD9 e0 hx
theorem zby8{t:List aA}{p:aF}{nm:ByteArray}{i:Nat}(hf:zm5 t nm=i)(h:(zt9 t p nm).2.2=0)(k:hasQ ((zt9 t p nm).1.getD i aA.zero) p=true):hasQ (t.getD i aA.zero) p=true:=by
 unfold zt9 at h k;obtain⟨hv,j,h1,h2,h3,e⟩:=zaA5 h;have:j=i:=by omega
 subst this;rw[e]at h k;obtain⟨e0,e1⟩:=zae9 h;rw[e1,h1,zU6]at k;have k':hasQ ((t.set j (zw7 (t.getD j aA.zero) p).1).getD j aA.zero) p=true:=k;rw[zx6 _ _ _ _ h2]at k';exact zaT3 e0 k'
theorem zcv9{t:List aA}{p:aF}{a:bF}{i:Nat}(hf:zm5 t a.name=i)(h:(zu4 t p a).2.2=0)(k:hasQ ((zu4 t p a).1.getD i aA.zero) p=true):hasQ (t.getD i aA.zero) p=true:=by
 unfold zu4 at h k;obtain⟨hv,j,h1,h2,h3,e⟩:=zaA5 h;have:j=i:=by omega
 subst this;rw[e]at h k;obtain⟨e0,e1⟩:=zae9 h;rw[e1,h1,zU6]at k;have k':hasQ ((t.set j (zv0 (t.getD j aA.zero) p a.aK).1).getD j aA.zero) p=true:=k;rw[zx6 _ _ _ _ h2]at k';exact zbf6 e0 k'
theorem zcw0{a b c:bA}(h:keyT a=keyT b):ltT a c↔ltT b c:=by have e1:a.aI=b.aI:=cU Prod.fst h;have e2:a.name=b.name:=cU Prod.snd h;unfold ltT;rw[e1,e2]
theorem zbg4(x:bA):∀l,insT x true l=l.filter λ t=>!decide (keyT t=keyT x)
 |[]=>rfl
 |t::l=>by
  simp only[insT,jG,zbg4 x l,gS]
  by_cases k:keyT t=keyT x<;>simp[k]
theorem zbd3(x:bA):∀(d:Bool) (l:List bA) (y:bA),y∈insT x d l↔(d=false/\y=x)\/(y∈l/\keyT y≠keyT x)
 |d,[],y=>by cases d<;>simp[insT]
 |d,t::l,y=>by
  simp only[insT,cF,zbd3 x _ l,bY]
  by_cases k:keyT t=keyT x
  .have n:¬ltT t x:=λ z=>zaB7 z k
   by_cases e:y=t
   .subst e;cases d<;>simp[k,n]
   .cases d<;>simp[k,n,e]
  .by_cases n:ltT t x
   .by_cases e:y=t
    .subst e;cases d<;>simp[k,n]
    .cases d<;>simp[k,n,e]
   .by_cases e:y=t
    .subst e;cases d<;>simp[k,n]
    .cases d<;>simp[k,n,e]
theorem zcw1(x:bA):∀{l:List bA},l.Pairwise ltT->(insT x false l).Pairwise ltT
 |[],_=>by simp[insT]
 |t::l,h=>by
  have h':=cG.1 h
  by_cases n:ltT t x
  .have e:insT x false (t::l)=t::insT x false l:=by simp[insT,n,zaB7 n]
   rw[e];refine cG.2 ⟨λ y hy=>?_,zcw1 x h'.2⟩;rcases(zbd3 x false l y).1 hy with⟨_,rfl⟩|⟨hy,_⟩
   .exact n
   .exact h'.1 y hy
  .have e:insT x false (t::l)=x::(t::l).filter λ t=>!decide (keyT t=keyT x):=by
    simp only[insT,n,fS,cP,bS,dL,dU,jY,zbg4,gS]
    by_cases k:keyT t=keyT x<;>simp[k]
   rw[e];refine cG.2 ⟨λ y hy=>?_,h.sublist eQ⟩;obtain⟨hy,hk⟩:=cV.1 hy;have hk':keyT y≠keyT x:=by simpa using hk
   rcases bY.1 hy with rfl|hy
   .exact(zbx9 hk').resolve_left n
   .by_cases k:keyT t=keyT x
    .exact(zcw0 k).1 (h'.1 y hy)
    .exact zbf8 ((zbx9 k).resolve_left n) (h'.1 y hy)
theorem zcE0{h:aX}{m:aJ}(g:GoodH h)(hp:zb6 m.aI=true)(hg:0<=m.gen/\m.gen<=1073741824)(e:(zv1 h.aG m.aI m.aY m.aV).2.2=0):GoodH ⟨(zv1 h.aG m.aI m.aY m.aV).1,insT ⟨m.aI,m.aY.name,m.gen⟩ false h.tags⟩:=by
 obtain⟨i,hi,hn,hf,e0,h1,_,hv⟩:=zbf7 e;refine⟨hv,λ t ht=>?_,zcw1 _ g.asc,λ k=>?_⟩
 .rcases(zbd3 _ _ _ _).1 ht with⟨_,rfl⟩|⟨ht,_⟩
  .exact⟨hp,hg⟩
  .exact g.ok t ht
 .obtain⟨x,n⟩:=k;have hr:=(zD1 (g.v.each _ (zh4 (z:=aA.zero) hi)) (.claim m.aI m.aY.aK m.aV e0)).2;have hP:(x,n)∈zG3 (zv1 h.aG m.aI m.aY m.aV).1↔(x,n)∈zG3 h.aG\/(x=m.aI/\n=m.aY.name):=by
   rw[zZ7 hv,zZ7 g.v,h1];simp only[dP];constructor
   .rintro⟨j,hj,hn',hh⟩
    by_cases ej:i=j
    .subst ej;rw[zx6 _ _ _ _ hi]at hn' hh;rw[hr]at hn';rcases(zaU0 e0 x).1 hh with k|k
     .exact .inl ⟨i,hj,hn',k⟩
     .exact .inr ⟨k,hn'.symm.trans hn⟩
    .rw[zZ2 _ _ _ ej]at hn' hh;exact .inl ⟨j,hj,hn',hh⟩
   .rintro(⟨j,hj,hn',hh⟩|⟨rfl,rfl⟩)
    .by_cases ej:i=j
     .subst ej;refine⟨i,hj,?_,?_⟩
      .rw[zx6 _ _ _ _ hi,hr];exact hn'
      .rw[zx6 _ _ _ _ hi];exact(zaU0 e0 x).2 (.inl hh)
     .refine⟨j,hj,?_,?_⟩
      .rw[zZ2 _ _ _ ej];exact hn'
      .rw[zZ2 _ _ _ ej];exact hh
    .refine⟨i,hi,?_,?_⟩
     .rw[zx6 _ _ _ _ hi,hr];exact hn
     .rw[zx6 _ _ _ _ hi];exact(zaU0 e0 _).2 (.inr rfl)
  rw[hP,<-g.same];simp only[bW,zbd3];constructor
  .rintro⟨t,⟨_,rfl⟩|⟨ht,_⟩,hk⟩
   .exact .inr ⟨(cU Prod.fst hk).symm,(cU Prod.snd hk).symm⟩
   .exact .inl ⟨t,ht,hk⟩
  .rintro(⟨t,ht,hk⟩|⟨rfl,rfl⟩)
   .by_cases k:keyT t=keyT ⟨m.aI,m.aY.name,m.gen⟩
    .exact⟨_,.inl ⟨trivial,rfl⟩,k.symm.trans hk⟩
    .exact⟨t,.inr ⟨ht,k⟩,hk⟩
   .exact⟨_,.inl ⟨trivial,rfl⟩,rfl⟩
theorem zbg5{h:aX}{p:aF}{i:Nat}(g:GoodH h)(hi:i<h.aG.length){u:List aA}(ho:Only h.aG u i p)(hin:hasQ (u.getD i aA.zero) p=true->hasQ (h.aG.getD i aA.zero) p=true){n:ByteArray}(hn:(h.aG.getD i aA.zero).aB.name=n):
  GoodH ⟨u,zar3 h.tags p n (decide (p∈zu6 (u.getD i aA.zero)))⟩:=by
 have hi':i<u.length:=by rw[ho.len];exact hi
 have hmem:p∈zu6 (u.getD i aA.zero)↔hasQ (u.getD i aA.zero) p=true:=zae5 ((zp4 _).1 (ho.v.each _ (zh4 (z:=aA.zero) hi'))).1;refine⟨ho.v,λ t ht=>g.ok t (cV.1 ht).1,g.asc.sublist eQ,λ k=>?_⟩;obtain⟨x,n'⟩:=k;have hk:(x,n')∈(zar3 h.tags p n (decide (p∈zu6 (u.getD i aA.zero)))).map keyT↔(x,n')∈h.tags.map keyT/\((x,n')=(p,n)->hasQ (u.getD i aA.zero) p=true):=by
  unfold zar3;simp only[bW,cV,dT,bQ,cK,cS];constructor
  .rintro⟨t,⟨ht,hc⟩,hk⟩;refine⟨⟨t,ht,hk⟩,λ e=>?_⟩;rcases hc with hc|hc
   .exact hmem.1 hc
   .exact absurd (hk.trans e) hc
  .rintro⟨⟨t,ht,hk⟩,hc⟩;refine⟨t,⟨ht,?_⟩,hk⟩
   by_cases e:keyT t=(p,n)
   .exact .inl (hmem.2 (hc (hk.symm.trans e)))
   .exact .inr e
 show(x,n')∈(zar3 h.tags p n (decide (p∈zu6 (u.getD i aA.zero)))).map keyT↔(x,n')∈zG3 u;rw[hk,g.same,zZ7 g.v,zZ7 ho.v,ho.len];constructor
 .rintro⟨⟨j,hj,hn',hh⟩,hc⟩;refine⟨j,hj,(ho.name j hj).trans hn',?_⟩
  by_cases ej:j=i
  .subst ej
   by_cases ex:x=p
   .subst ex;exact hc (by rw[<-hn',hn])
   .rw[ho.has x ex];exact hh
  .rw[ho.oth j ej];exact hh
 .rintro⟨j,hj,hn',hh⟩;rw[ho.name j hj]at hn';refine⟨⟨j,hj,hn',?_⟩,λ e=>?_⟩
  .by_cases ej:j=i
   .subst ej
    by_cases ex:x=p
    .subst ex;exact hin hh
    .rw[<-ho.has x ex];exact hh
   .rw[<-ho.oth j ej];exact hh
  .have e1:x=p:=cU Prod.fst e;have e2:n'=n:=cU Prod.snd e;have:j=i:=zbH8 g.v.asc hj hi (by rw[hn',e2,hn]);subst this;subst e1;exact hh
theorem zbV4{h:aX}{m:aJ}(g:GoodH h):GoodH (zbc7 h m).1:=by
 have hv:=zaB9 g.v m.site m.inc;show GoodH ⟨(zA9 h.aG m.site m.inc).1,h.tags.filter λ t=>decide (t.aI∈zl7 (zA9 h.aG m.site m.inc).1)⟩;refine⟨hv,λ t ht=>g.ok t (cV.1 ht).1,g.asc.sublist eQ,λ k=>?_⟩;obtain⟨x,n⟩:=k;have hp:=zbD0 g.v m.site m.inc;have hr:=zaT4 g.v m.site m.inc;show(x,n)∈(h.tags.filter λ t=>decide (t.aI∈zl7 (zA9 h.aG m.site m.inc).1)).map keyT↔(x,n)∈zG3 (zA9 h.aG m.site m.inc).1;rw[hp];have hk:(x,n)∈(h.tags.filter λ t=>decide (t.aI∈(zl7 h.aG).filter λ p=>!oldP m.site m.inc p)).map keyT↔(x,n)∈h.tags.map keyT/\x∈(zl7 h.aG).filter λ p=>!oldP m.site m.inc p:=by
  simp only[bW];constructor
  .rintro⟨t,ht,hk⟩;obtain⟨ht,hc⟩:=cV.1 ht;refine⟨⟨t,ht,hk⟩,?_⟩;rw[<-show t.aI=x from cU Prod.fst hk];exact iO hc
  .rintro⟨⟨t,ht,hk⟩,hc⟩;refine⟨t,cV.2 ⟨ht,?_⟩,hk⟩;rw[show t.aI=x from cU Prod.fst hk];exact bZ hc
 rw[hk,g.same,zZ7 g.v,zZ7 hv,hr,zce1];have hd:∀j,j<h.aG.length->(zaG0 h.aG ((zl7 h.aG).filter (oldP m.site m.inc))).getD j aA.zero=remS (h.aG.getD j aA.zero) ((zl7 h.aG).filter (oldP m.site m.inc)):=λ j hj=>zaQ0 _ _ _ _ _ hj;constructor
 .rintro⟨⟨j,hj,hn,hh⟩,hc⟩;have hq:=g.v.each _ (zh4 (z:=aA.zero) hj);refine⟨j,hj,?_,?_⟩
  .rw[hd j hj,zbs4 _ hq];exact hn
  .rw[hd j hj,zaP4 _ hq];refine⟨hh,λ k=>?_⟩;have h1:=(cV.1 hc).2;have h2:=(cV.1 k).2;rw[h2]at h1;exact absurd h1 (by decide)
 .rintro⟨j,hj,hn,hh⟩;have hq:=g.v.each _ (zh4 (z:=aA.zero) hj);rw[hd j hj,zbs4 _ hq]at hn;rw[hd j hj,zaP4 _ hq]at hh;have hx:=zah9 g.v hj hh.1;refine⟨⟨j,hj,hn,hh.1⟩,cV.2 ⟨hx,?_⟩⟩;cases ho:oldP m.site m.inc x with
  |false=>rfl
  |true=>exact absurd (cV.2 ⟨hx,ho⟩) hh.2
theorem zcJ7{m:aJ}(h:zN5 m=true)(k:m.kind=1\/m.kind=2):zb6 m.aI=true/\0<=m.gen/\m.gen<=1073741824:=by
 unfold zN5 at h;rw[bK,dB]at h;have g:∀i:Nat,i=1\/i=2->(80:UInt8)∈(Arr.get zu2 i ⟨#[]⟩).data.toList/\(71:UInt8)∈(Arr.get zu2 i ⟨#[]⟩).data.toList:=by rintro i (rfl|rfl)<;>decide
 have g':=g m.kind.toNat (by omega);have hf:(Arr.get zu2 m.kind.toNat ⟨#[]⟩).data.toList=zG4 m.kind:=by unfold zG4;rw[ByteArray.toList_eq]
 rw[hf]at g';have h1:inN 0 1073741824 m.gen=true:=h.1 71 g'.2;unfold inN at h1;rw[bK,bQ,bQ]at h1;exact⟨h.1 80 g'.1,h1⟩
theorem zby9{h:aX}{m:aJ}(e:(zN1 h m).2.2.2=0):GoodH (zN1 h m).1:=by
 unfold zN1 at e|-
 by_cases hv:zR4 h=false
 .rw[bM hv]at e;exact absurd e (by decide)
 rw[bL hv]at e⊢;have g:=(zan5 h).1 (by simpa using hv)
 by_cases hm:zN5 m=false
 .rw[bM hm]at e;exact absurd e (by decide)
 rw[bL hm]at e⊢;have hm':zN5 m=true:=by simpa using hm
 by_cases k1:m.kind=1
 .rw[bM k1]at e⊢;unfold zai8 at e|-
  by_cases c:(zv1 h.aG m.aI m.aY m.aV).2.2=0
  .simp only[c,bS];have:=zcJ7 hm' (.inl k1);exact zcE0 g this.1 this.2 c
  .simp only[c,bU]at e;exact absurd e c
 rw[bL k1]at e|-
 by_cases k2:m.kind=2
 .rw[bM k2]at e⊢;unfold zS7 at e|-
  by_cases hf:zm5 h.aG m.aY.name<0
  .simp only[hf,bS]at e;exact absurd e (by decide)
  simp only[hf,bU]at e⊢;obtain⟨i,hi⟩:∃i:Nat,zm5 h.aG m.aY.name=i:=⟨_,(hY (by omega)).symm⟩;obtain⟨hl,hn⟩:=zbt1 hi;obtain⟨c,hc⟩:∃c,(if(zt0 (h.aG.getD (zm5 h.aG m.aY.name).toNat aA.zero) m.aI).2=true then zt9 h.aG m.aI m.aY.name else(h.aG,[],0))=c:=⟨_,rfl⟩;simp only[hc]at e⊢;simp only[hi,Int.toNat_natCast]at e|-
  by_cases c0:c.2.2=0
  .have hct:Only h.aG c.1 i m.aI/\(hasQ (c.1.getD i aA.zero) m.aI=true->hasQ (h.aG.getD i aA.zero) m.aI=true):=by
    by_cases w:(zt0 (h.aG.getD (zm5 h.aG m.aY.name).toNat aA.zero) m.aI).2=true
    .rw[bM w]at hc;subst hc;exact⟨zaU1 hi c0,zby8 hi c0⟩
    .rw[bL w]at hc;subst hc;exact⟨Only.refl g.v _ _,id⟩
   have hfc:zm5 c.1 m.aY.name=i:=by rw[<-hn,<-hct.1.name i hl];exact zar0 hct.1.v.asc (by rw[hct.1.len];exact hl)
   simp only[c0,bS]
   by_cases l0:(zu4 c.1 m.aI m.aY).2.2=0
   .simp only[l0,bS];exact zbg5 g hl (hct.1.trans (zbd2 hfc l0)) (λ k=>hct.2 (zcv9 hfc l0 k)) hn
   .simp only[l0,bU];exact zbg5 g hl hct.1 hct.2 hn
  .simp only[c0,bU]at e;exact absurd e c0
 rw[bL k2]at e|-
 by_cases k5:m.kind=5
 .rw[bM k5]at e⊢;exact zbV4 g
 rw[bL k5]at e;exact absurd e (by decide)
theorem zaG2(n:Nat):((List.range n).all λ _=>true)=true:=by rw[dB];intro _ _;rfl
def zcw2(r:aD):aD:={r with home:=0}
theorem zcR5(v:bB×List aD)(hl:v.2.length<=1000):zc0 (zF3 v) (0,v.2)=some (v.2.map zcw2):=by
 have key:∀k i (acc:List aD),i+k=v.2.length->acc.length=v.2.length->acc.drop i=v.2.drop i->acc.take i=(v.2.take i).map zcw2->zc0 (zF3 v) ((i:Int),acc)=some (v.2.map zcw2):=by
  intro k;induction k with
  |zero=>
   intro i acc hi hn hd ht;have:i=v.2.length:=by omega
   subst this;rw[zg9];unfold zF3;rw[bL (by simp)];simp only;rw[<-hn,fC,hn,fC]at ht;rw[ht]
  |succ k ih=>
   intro i acc hi hn hd ht;have hlt:i<v.2.length:=by omega
   rw[zg9];have hstep:zF3 v ((i:Int),acc)=some (.inl (((i+1:Nat):Int),acc.set i (zcw2 (acc.getD i aD.zero)))):=by unfold zF3;simp only[Int.toNat_natCast];rw[bM (by simpa using hlt),za6 (by omega),zd0 i (by omega)];rfl
   rw[hstep];have hacc:i<acc.length:=by omega
   have ha:acc.getD i aD.zero=v.2.getD i aD.zero:=by
    have h1:acc.getD i aD.zero=(acc.drop i).getD 0 aD.zero:=by simp[bO]
    have h2:v.2.getD i aD.zero=(v.2.drop i).getD 0 aD.zero:=by simp[bO]
    rw[h1,hd,<-h2]
   refine ih (i+1) _ (by omega) (by rw[dP];exact hn) ?_ ?_
   .rw[jD (by omega),<-eN,<-eN,hd]
   .rw[zaC8 (z:=aD.zero) (by rw[dP];exact hacc),zaC8 (z:=aD.zero) hlt,iA (by omega),ht,dX];congr 1;rw[List.map_singleton,bO,gU hacc,Option.getD_some,ha]
 exact key v.2.length 0 v.2 (by omega) rfl rfl rfl
def zaQ1(u:bB):List aD:=(catL u).map zcw2
theorem zcE1(u:bB)(hu:TapeOk u):zp8 u=some (zaQ1 u,zH2 8 u):=by unfold zp8;rw[zcC9 u hu,Option.bind_some,zcR5 _ (by show(6:Nat)<=1000;decide),Option.bind_some];rfl
theorem zaQ2(u:bB):(zaQ1 u).length=6:=by unfold zaQ1;rw[cH];rfl
theorem zbd4(u:bB):catV (zaQ1 u)=true:=by
 obtain⟨h1,h2,h3⟩:=(zae7 _).1 (zdf2 u);refine(zae7 _).2 ⟨by rw[zaQ2];decide,λ r hr=>?_,?_⟩
 .obtain⟨x,hx,rfl⟩:=bW.1 hr;have:=h2 x hx;unfold resV at this⊢;simp only[bK]at this⊢;exact⟨this.1,this.2.1,rfl,rfl⟩
 .unfold zaQ1;exact gX.2 h3
theorem zaC2(u:bB):∀r∈zaQ1 u,zd3 r=true:=λ r hr=>by obtain⟨x,hx,rfl⟩:=bW.1 hr;exact zbC8 u x hx
theorem zdg4(u:bB):atL (zaQ1 u) 0=zaQ1 u:=by unfold atL;refine iB.2 λ r hr=>?_;obtain⟨x,_,rfl⟩:=bW.1 hr;exact bZ rfl
def zce8(u:bB):aX:={aX.zero with aG:=(zaQ1 u).map zV5}
theorem zdg5(u:bB):newH (zaQ1 u) 0=(zce8 u,0):=by unfold newH zce8;rw[bM ⟨zbd4 u,by decide⟩,zdg4];unfold newT;rw[bM (zbd4 u)]
theorem zbo4(u:bB):GoodH (zce8 u):=by have hv:=zcQ2 (zbd4 u);refine⟨hv,λ t ht=>(nomatch (show t∈([]:List bA)from ht)),List.Pairwise.nil,λ k=>?_⟩;obtain⟨p,n⟩:=k;refine⟨λ h=>(nomatch (show(p,n)∈([]:List (aF×ByteArray))from h)),λ h=>?_⟩;obtain⟨i,hi,_,hh⟩:=(zZ7 hv).1 h;rw[cH]at hi;rw[zaQ0 _ _ i aD.zero _ hi,zce0]at hh;cases hh
theorem zcR6(t:List aA):(zG3 t).length=(t.flatMap zu6).length:=by
 unfold zG3;induction t with
 |nil=>rfl
 |cons q t ih=>simp only[eG,bP,cH,ih]
theorem GoodH.small{h:aX}(g:GoodH h):h.tags.length<=192:=by have h1:=g.count;have h2:=zcR6 h.aG;have h3:=zbH7 h.aG g.v.each;have h4:=g.v.len;omega
theorem zbo5{cat:List aD}(hc:cat.length=6)(hs:∀r∈cat,zd3 r=true){u:bB}(hu:TapeOk u):
  ∃m n,zj9 cat u=some (m,zH2 (n+1) u)/\kK m.kind:=by
 have o1:=zy2 hu;have o2:=zy2 o1;have o3:=zy2 o2;have o4:=zy2 o3;have o5:=zy2 o4;have o6:=zy2 o5;have o7:=zy2 o6;have r1:=zU5 (cat.length:Int) u (by omega);have hsh:=hs _ (zh4 (z:=aD.zero) (show(zX7 (cat.length:Int) u).toNat<cat.length by omega));unfold zj9;rw[zA2 _ _ hu (by omega) (by omega),Option.bind_some,za6 r1];simp only;rw[zA2 3 _ o1 (by decide) (by decide),Option.bind_some];simp only;rw[zA2 2 _ o2 (by decide) (by decide),Option.bind_some];simp only;rw[zA2 2 _ o3 (by decide) (by decide),Option.bind_some];simp only;rw[zA2 9 _ o4 (by decide) (by decide),Option.bind_some];simp only;rw[zA2 9 _ o5 (by decide) (by decide),Option.bind_some];simp only;split
 .rw[zA2 8 _ o6 (by decide) (by decide),Option.bind_some];simp only;rw[zaq7 _ _ hsh,Option.bind_some,zA2 3 _ o7 (by decide) (by decide),Option.bind_some];exact⟨_,7,rfl,.inl rfl⟩
 .split
  .split
   .rw[zA2 8 _ o6 (by decide) (by decide),Option.bind_some];simp only;rw[zaq7 _ _ hsh,Option.bind_some];exact⟨_,6,rfl,.inr (.inl rfl)⟩
   .exact⟨_,5,rfl,.inr (.inl rfl)⟩
  .rw[zA2 3 _ o6 (by decide) (by decide),Option.bind_some];simp only;rw[zA2 3 _ o7 (by decide) (by decide),Option.bind_some];exact⟨_,7,rfl,.inr (.inr rfl)⟩
theorem zau8{u:bB}(hu:TapeOk u)(hm:u.at_<(u.l.length:Int))(n:Nat):(zH2 (n+1) u).l.length-(zH2 (n+1) u).at_.toNat<u.l.length-u.at_.toNat:=by
 have ht:=hu.at_;have e1:(zO5 u).at_=u.at_+1:=by unfold zO5;rw[bL (by omega)]
 have:u.at_+1<=(zH2 (n+1) u).at_:=by rw[zH2,<-e1];exact zct2 n (zy2 hu)
 rw[zcI9];omega
theorem zdq2{h:aX}{m:aJ}(g:GoodH h):(zN1 h m).2.2.1.length<=1000000:=by
 unfold zN1;rw[bL (by rw[(zan5 h).2 g];decide)];split
 .simp[errH]
 split
 .unfold zai8;have hs:=(zaT1 g.v.small m.aI m.aY m.aV).2.2
  by_cases c:(zv1 h.aG m.aI m.aY m.aV).2.2=0
  .simp only[c,bS];exact hs
  .simp only[c,bU];simp[errH]
 split
 .unfold zS7
  by_cases hf:zm5 h.aG m.aY.name<0
  .simp only[hf,bS];simp[errH]
  simp only[hf,bU];obtain⟨c,hc⟩:∃c,(if(zt0 (h.aG.getD (zm5 h.aG m.aY.name).toNat aA.zero) m.aI).2=true then zt9 h.aG m.aI m.aY.name else(h.aG,[],0))=c:=⟨_,rfl⟩;simp only[hc]
  by_cases c0:c.2.2=0
  .have hct:ValidT c.1/\c.2.1.length<=17:=by
    by_cases w:(zt0 (h.aG.getD (zm5 h.aG m.aY.name).toNat aA.zero) m.aI).2=true
    .rw[bM w]at hc;subst hc;obtain⟨_,_,_,_,hv⟩:=zbn8 c0;exact⟨hv,zaT6 g.v _ _⟩
    .rw[bL w]at hc;subst hc;exact⟨g.v,by simp⟩
   simp only[c0,bS];have hl:=zbg1 hct.1 m.aI m.aY
   by_cases l0:(zu4 c.1 m.aI m.aY).2.2=0
   .simp only[l0,bS,bP];omega
   .simp only[l0,bU];omega
  .simp only[c0,bU];simp[errH]
 split
 .exact(zar2 _ _ _).2.2
 .simp[errH]
theorem zbz0(q:aA)(h0:q.aL.length<=1000)(h1:q.aH.length<=1000)(h2:q.aT.length<=1000):zq9 q=some (zu6 q):=by rw[<-zar1 q h0 h1 h2];rfl
theorem zce9(p:aF)(n:ByteArray):∀(l:List aS) (i:Nat) (d:aC),walk (X:=aC) (λ _ e d=>some (.inl (if e.aI=p/\e.name=n then e.aK else d))) (λ d=>d) l i d=some (zaA6 p n d l)
 |[],_,_=>rfl
 |e::l,i,d=>by simp only[walk];rw[zce9 p n l (i+1)];rfl
theorem zcR7(v7:aX×(List aW)×(List aS)×Int)(j:Nat)(v9 v10:List aF)(k:Int)(d:aC)(hl:v7.2.2.1.length<=1000000):
  zc0 (zB4 v7 (j:Int) v9 v10 k) (0,d)=some (zaA6 ((v9++v10).getD k.toNat aF.zero) (v7.1.aG.getD j aA.zero).aB.name d v7.2.2.1):=by
 have key:=zad7 (body:=zB4 v7 (j:Int) v9 v10 k) v7.2.2.1 aS.zero (λ i (d:aC)=>((i:Int),d)) (λ _ e d=>some (.inl (if e.aI=((v9++v10).getD k.toNat aF.zero)/\e.name=(v7.1.aG.getD j aA.zero).aB.name then e.aK else d))) (λ d=>d)
  (λ i d hi=>by
   unfold zB4;have h3:0<=(i:Int)/\(i:Int)<(v7.2.2.1.length:Int):=by omega
   simp only[h3.1,h3.2,cP,zk1,bV,bS,Int.toNat_natCast,zd0 i (show i<4611686018427387904 by omega)]
   by_cases e1:(v7.2.2.1.getD i aS.zero).aI=(v9++v10).getD k.toNat aF.zero<;>by_cases e2:(v7.2.2.1.getD i aS.zero).name=(v7.1.aG.getD j aA.zero).aB.name<;>simp[e1,e2,zL9,wmap,-List.getD_eq_getElem?_getD]) (λ d=>by unfold zB4;simp) d
 rw[show((0,d):Int×aC)=(λ(i:Nat) (d:aC)=>((i:Int),d)) 0 d from rfl,key,zce9]
theorem zck7(u:bB){h:aX}{v:ResH}(g:GoodH h)(gv:GoodH v.1)(ht:Told h.aG v.1.aG v.2.2.1)(hl:v.2.2.1.length<=1000000):zc0 (zH9 (u,h) v) 0=some (.inl ()):=by
 rw[zU7 v.1.aG.length (λ _=>true) (λ i hi=>by
  have hi':i<h.aG.length:=by rw[<-ht.len];exact hi
  have q1:=gv.v.each _ (zh4 (z:=aA.zero) hi);have q2:=g.v.each _ (zh4 (z:=aA.zero) hi');have l1:=zo6 q1;have l2:=zo6 q2;have p1:=zau5 q1;have p2:=zau5 q2;have h8:=g.v.len;unfold zH9;have h3:0<=(i:Int)/\(i:Int)<(v.1.aG.length:Int):=by omega
  have h4:0<=(i:Int)/\(i:Int)<(h.aG.length:Int):=by omega
  simp only[h3.1,h3.2,h4.2,cP,zk1,bV,bS,Int.toNat_natCast];rw[zbz0 _ (by omega) (by omega) (by omega),Option.bind_some,zar1 _ (by omega) (by omega) (by omega),Option.bind_some,za6 (by omega)];rw[zU7 (zu6 (v.1.aG.getD i aA.zero)++zu6 (h.aG.getD i aA.zero)).length (λ _=>true) (λ k hk=>by
   rw[bP]at hk;unfold zQ5;simp only[Int.toNat_natCast];rw[bM (by rw[bQ];omega),za6 (by rw[bP];omega),za6 h4,zx5 _ _ (by omega),Option.bind_some,zcR7 v i _ _ _ _ hl,Option.bind_some];unfold zQ4;simp only[Int.toNat_natCast];rw[zx5 _ _ (by omega),Option.bind_some,bL (by
    rw[ht.tell i hi',ht.res i hi'];simp),zj5 (by omega) (by omega)]
   rfl) (by unfold zQ5;simp),zaG2,Option.bind_some]
  unfold zQ3;rw[zj5 (by omega) (by omega)];rfl) (by unfold zH9;simp),zaG2]
 rfl
theorem zbF8(l:List Int):zD3 l=some true:=by
 unfold zD3
 by_cases hL:zF0 l=true
 .have hl:l.length<=1000000:=by unfold zF0 at hL;simp at hL;omega
  have hu:=zbT6 hl;rw[hL,bL (by decide),show({bB.zero with l:=l}:bB)=zac0 l from rfl,zcE1 _ hu,Option.bind_some];simp only;rw[zaI8,zdg5,Option.bind_some,bL (by simp)];have hb:=λ(w:bB×aX)=>zbo5 (zaQ2 (zac0 l)) (zaC2 (zac0 l)) (u:=w.1);obtain⟨x,hx,rfl⟩:=zap9 (body:=zQ6 (zaQ1 (zac0 l),zH2 8 (zac0 l))) (λ w=>TapeOk w.1/\GoodH w.2) (λ w=>w.1.l.length-w.1.at_.toNat) (λ x=>x=.inl ()) (by
   rintro⟨u,h⟩ ⟨ho,g⟩;simp only at ho g;unfold zQ6 zc1;simp only[Option.bind_some]
   by_cases hm:u.at_<(u.l.length:Int)
   .rw[bM (bZ hm)];obtain⟨m,n,e,hk⟩:=zbo5 (zaQ2 (zac0 l)) (zaC2 (zac0 l)) ho;have hs:=g.small;rw[e,Option.bind_some];simp only;rw[zai0 h m (by omega) hk,Option.bind_some]
    by_cases e0:(zN1 h m).2.2.2=0
    .have gv:=zby9 e0;have ht:=zcR4 e0;have hs2:=gv.small;rw[bL (by simp[e0]),zaw0 _ (by omega),Option.bind_some,(zan5 _).2 gv,bL (by simp[ht.len]),zck7 u g gv ht (zdq2 g),Option.bind_some];exact .inl ⟨(zH2 (n+1) u,(zN1 h m).1),rfl,⟨zak0 _ ho,gv⟩,zau8 ho hm n⟩
    .rw[bM (by simp[e0])];exact .inl ⟨(zH2 (n+1) u,h),rfl,⟨zak0 _ ho,g⟩,zau8 ho hm n⟩
   .rw[bL (by simpa using hm)];exact .inr ⟨_,rfl,rfl⟩) (zH2 8 (zac0 l),zce8 (zac0 l)) ⟨zak0 8 hu,zbo4 _⟩
  rw[hx,Option.bind_some];unfold zQ2;simp only;rw[zN6];rfl
 .rw[bM (by simpa using hL),zN6];rfl
end Ab
end Go.Proofs.YtdlfhmkmnjbihaaGreatDoor
