import Derived.Test.YtdlfhmkmnjbihaaGreatDoorDec
import Derived.Test.YtdlfhmkmnjbihaaGreatDoorHm25
import Derived.Test.YtdlfhmkmnjbihaaGreatDoorHm26
namespace Go.Proofs.YtdlfhmkmnjbihaaGreatDoor
namespace Ab
set_option linter.unusedSimpArgs false
set_option linter.unusedVariables false
theorem zj5{x:Int}(h1:-9223372036854775808<=x)(h2:x<9223372036854775808):IntKind.i64.wrap x=x:=by rw[IntKind.wrap_i64];omega
theorem zbP0{G X:Type}{body:G->Option (G⊕X)}(I:G->Prop)(μ:G->Nat)(spec:G->X)
  (h:∀g,I g->(∃g',body g=some (.inl g')/\I g'/\μ g'<μ g/\spec g'=spec g)\/body g=some (.inr (spec g))):∀g,I g->zc0 body g=some (spec g):=by
 have key:∀n g,μ g=n->I g->zc0 body g=some (spec g):=by
  intro n;induction n using Nat.strongRecOn with
  |_ n ih=>
   intro g hn hg;rw[zg9];rcases h g hg with⟨g',h1,h2,h3,h4⟩|h1
   .rw[h1];simp only;rw[ih (μ g') (hn▸h3) g' rfl h2,h4]
   .rw[h1]
 exactλ g hg=>key _ g rfl hg
def zC2{X:Type}(out:Nat->Option X):Nat->Nat->Option X
 |0,_=>none
 |n+1,i=>match out i with
  |some x=>some x
  |none=>zC2 out n (i+1)
theorem zD5{X:Type}{body:Int->Option (Int⊕X)}(n:Nat)(out:Nat->Option X)(fin:X)
  (h:∀i:Nat,i<n->body i=some (match out i with|some x=>.inr x|none=>.inl ((i:Int)+1))) (hend:body n=some (.inr fin)):zc0 body 0=some ((zC2 out n 0).getD fin):=by
 have key:∀k i,i+k=n->zc0 body (i:Int)=some ((zC2 out k i).getD fin):=by
  intro k;induction k with
  |zero=>intro i hi;rw[zg9,show i=n by omega,hend];rfl
  |succ k ih=>
   intro i hi;rw[zg9,h i (by omega)];simp only[zC2];cases ho:out i with
   |some x=>rfl
   |none=>simp only;have:=ih (i+1) (by omega);rw[show((i+1:Nat):Int)=(i:Int)+1 by omega]at this;exact this
 exact key n 0 (by omega)
def zaW0{S X:Type}(step:Nat->S->S⊕X)(fin:S->X):Nat->Nat->S->X
 |0,_,s=>fin s
 |n+1,i,s=>match step i s with
  | .inl s'=>zaW0 step fin n (i+1) s'
  | .inr x=>x
theorem zcc7{S X:Type}{body:Int×S->Option ((Int×S)⊕X)}(n:Nat)(step:Nat->S->S⊕X)(fin:S->X)(inv:Nat->S->Prop)
  (h:∀i s,i<n->inv i s->body ((i:Int),s)=some (match step i s with|.inl s'=>.inl ((i:Int)+1,s')|.inr x=>.inr x)/\∀s',step i s=.inl s'->inv (i+1) s')
  (hend:∀s,inv n s->body ((n:Int),s)=some (.inr (fin s))) (s0:S) (h0:inv 0 s0):zc0 body (0,s0)=some (zaW0 step fin n 0 s0):=by
 have key:∀k i s,i+k=n->inv i s->zc0 body ((i:Int),s)=some (zaW0 step fin k i s):=by
  intro k;induction k with
  |zero=>intro i s hi hs;rw[zg9,show i=n by omega,hend s (by rw[<-show i=n by omega];exact hs)];rfl
  |succ k ih=>
   intro i s hi hs;obtain⟨h1,h2⟩:=h i s (by omega) hs;rw[zg9,h1];simp only[zaW0];cases ho:step i s with
   |inr x=>rfl
   |inl s'=>simp only;have:=ih (i+1) s' (by omega) (h2 s' ho);rw[show((i+1:Nat):Int)=(i:Int)+1 by omega]at this;exact this
 exact key n 0 s0 (by omega) h0
theorem zap9{G X:Type}{body:G->Option (G⊕X)}(I:G->Prop)(μ:G->Nat)(Post:X->Prop)
  (h:∀g,I g->(∃g',body g=some (.inl g')/\I g'/\μ g'<μ g)\/∃x,body g=some (.inr x)/\Post x):∀g,I g->∃x,zc0 body g=some x/\Post x:=by
 have key:∀n g,μ g=n->I g->∃x,zc0 body g=some x/\Post x:=by
  intro n;induction n using Nat.strongRecOn with
  |_ n ih=>
   intro g hn hg;rw[zg9];rcases h g hg with⟨g',h1,h2,h3⟩|⟨x,h1,h2⟩
   .rw[h1];exact ih (μ g') (hn▸h3) g' rfl h2
   .rw[h1];exact⟨x,rfl,h2⟩
 exactλ g hg=>key _ g rfl hg
theorem zcq1{S X:Type}{body:Int×S->Option ((Int×S)⊕X)}(n:Nat)(step:Nat->S->S⊕X)(fin:S->X)(inv:Nat->S->Prop)
  (h:∀i s,i<n->inv i s->body ((i:Int),s)=some (match step i s with|.inl s'=>.inl ((i:Int)+1,s')|.inr x=>.inr x)/\∀s',step i s=.inl s'->inv (i+1) s')
  (hend:∀s,inv n s->body ((n:Int),s)=some (.inr (fin s))):∀k i s,i+k=n->inv i s->zc0 body ((i:Int),s)=some (zaW0 step fin k i s):=by
 intro k;induction k with
 |zero=>intro i s hi hs;rw[zg9,show i=n by omega,hend s (by rw[<-show i=n by omega];exact hs)];rfl
 |succ k ih=>
  intro i s hi hs;obtain⟨h1,h2⟩:=h i s (by omega) hs;rw[zg9,h1];simp only[zaW0];cases ho:step i s with
  |inr x=>rfl
  |inl s'=>simp only;have:=ih (i+1) s' (by omega) (h2 s' ho);rw[show((i+1:Nat):Int)=(i:Int)+1 by omega]at this;exact this
theorem zM7(p:Nat->Bool){U:Type}:∀k i,zC2 (λ i=>if p i=true then none else some (Sum.inr (α:=U) false)) k i=if(List.range' i k).all p=true then none else some (.inr false)
 |0,i=>rfl
 |k+1,i=>by
  simp only[zC2,fV,List.all_cons];cases hp:p i with
  |true=>simp only[bS,cA];exact zM7 p k (i+1)
  |false=>simp
theorem zdd6{α:Type}[DecidableEq α](a b:List α)(z:α)(h:a.length=b.length):((List.range a.length).all λ i=>decide (a.getD i z=b.getD i z))=decide (a=b):=by
 rw[cI];simp only[dB,dN,bQ];constructor
 .intro hh;refine jT h λ i h1 h2=>?_;have:=hh i h1;rwa [bO,bO,bR h1,bR h2]at this
 .rintro rfl i _;rfl
theorem zbv8{α:Type}[DecidableEq α](a b:List α)(z:α){body:Int->Option (Int⊕(Unit⊕Bool))}(hl:a.length<4611686018427387904)(h:a.length=b.length)
  (hb:∀i:Int,body i=if(decide (i<(a.length:Int)))=true then gd (0<=i/\i<(a.length:Int))<|gd (0<=i/\i<(b.length:Int))<|
   (if(!decide (a.getD i.toNat z=b.getD i.toNat z))=true then some (.inr (.inr false))else some (.inl (IntKind.i64.wrap (i+1))))else some (.inr (.inl ()))):
  (zc0 body 0).bind (λ|.inl _=>some true|.inr z=>some z)=some (decide (a=b)):=by
 have key:zc0 body 0=some ((zC2 (λ i=>if decide (a.getD i z=b.getD i z)=true then none else some (Sum.inr false)) a.length 0).getD (Sum.inl ())):=by
  refine zD5 a.length _ (Sum.inl ()) (λ i hi=>?_) ?_
  .rw[hb,bM (bZ (by omega)),za6 (by omega),za6 (by omega)];simp only[Int.toNat_natCast]
   by_cases hx:a.getD i z=b.getD i z
   .simp only[hx,bV,cW,bN,bU,bS];rw[zj5 (by omega) (by omega)]
   .simp only[hx,dL,dU,bS,bN,bU]
  .rw[hb,bL (by simp)]
 rw[key,zM7,<-dS,zdd6 a b z h];cases decide (a=b)<;>rfl
theorem zbP1{α:Type}(f:Nat->α):∀n i (s:List α),zaW0 (X:=List α) (λ i s=>.inl (s++[f i])) (λ s=>s) n i s=s++(List.range' i n).map f
 |0,i,s=>by simp[zaW0]
 |n+1,i,s=>by simp[zaW0,zbP1 f n (i+1),fV]
theorem zbm6{α:Type}(l:List α)(z:α)(p:α->Bool):∀n i (s:List α),i+n=l.length->zaW0 (X:=List α) (λ i s=>.inl (if p (l.getD i z)=true then s++[l.getD i z]else s)) (λ s=>s) n i s=s++(l.drop i).filter p
 |0,i,s,h=>by simp[zaW0,fD (show l.length<=i by omega)]
 |n+1,i,s,h=>by
  have hd:l.drop i=l.getD i z::l.drop (i+1):=by rw[fE (show i<l.length by omega),bO,bR (show i<l.length by omega)];rfl
  rw[hd];simp only[zaW0,zbm6 l z p n (i+1) _ (by omega),gS];split<;>simp
theorem zan2{α:Type}(l:List α)(i:Nat)(z:α)(h:i<l.length):l.drop i=l.getD i z::l.drop (i+1):=by rw[fE h,bO,bR h];rfl
theorem zbP2{α β:Type}(l:List α)(z:α)(f:α->β):∀n i,i+n<=l.length->(List.range' i n).map (λ i=>f (l.getD i z))=((l.drop i).take n).map f
 |0,i,h=>by simp
 |n+1,i,h=>by rw[zan2 l i z (by omega),List.take_succ_cons,fV,cN,cN,zbP2 l z f n (i+1) (by omega)]
theorem zcc8{α:Type}(l:List α)(i n:Nat)(z:α)(h:i<n):(l.take n).getD i z=l.getD i z:=by rw[bO,bO,dD,bM h]
theorem zav7{α:Type}(l:List α)(i:Nat)(x z:α)(h:i<l.length):(l.set i x).getD i z=x:=by rw[bO,gU h];rfl
theorem zcO5{α:Type}(l m:List α)(i:Nat)(z:α)(h:i<l.length):(l++m).getD i z=l.getD i z:=by rw[bO,bO,cY h]
def walk{α S X:Type}(step:Nat->α->S->Option (S⊕X))(fin:S->X):List α->Nat->S->Option X
 |[],_,s=>some (fin s)
 |a::l,i,s=>match step i a s with
  |none=>none
  |some (.inl s')=>walk step fin l (i+1) s'
  |some (.inr x)=>some x
def wmap{G S X:Type}(mk:S->G):S⊕X->G⊕X
 | .inl s=>.inl (mk s)
 | .inr x=>.inr x
theorem zv6{α S X G:Type}{body:G->Option (G⊕X)}(l:List α)(z:α)(mk:Nat->S->G)(step:Nat->α->S->Option (S⊕X))(fin:S->X)(inv:Nat->S->Prop)
  (hb:∀i s,i<l.length->inv i s->body (mk i s)=(step i (l.getD i z) s).map (wmap (mk (i+1)))/\∀s',step i (l.getD i z) s=some (.inl s')->inv (i+1) s')
  (he:∀s,inv l.length s->body (mk l.length s)=some (.inr (fin s))) (s0:S) (h0:inv 0 s0):zc0 body (mk 0 s0)=walk step fin l 0 s0:=by
 have key:∀k i s,i+k=l.length->inv i s->zc0 body (mk i s)=walk step fin (l.drop i) i s:=by
  intro k;induction k with
  |zero=>
   intro i s hi hs;have:i=l.length:=by omega
   subst this;rw[zg9,he s hs,jU];rfl
  |succ k ih=>
   intro i s hi hs;obtain⟨h1,h2⟩:=hb i s (by omega) hs;rw[zg9,h1,zan2 l i z (by omega)];simp only[walk];cases ho:step i (l.getD i z) s with
   |none=>rfl
   |some y=>
    cases y with
    |inl s'=>exact ih (i+1) s' (by omega) (h2 s' ho)
    |inr x=>rfl
 have:=key l.length 0 s0 (by omega) h0;rwa [eZ]at this
theorem zad7{α S X G:Type}{body:G->Option (G⊕X)}(l:List α)(z:α)(mk:Nat->S->G)(step:Nat->α->S->Option (S⊕X))(fin:S->X)
  (hb:∀i s,i<l.length->body (mk i s)=(step i (l.getD i z) s).map (wmap (mk (i+1))))
  (he:∀s,body (mk l.length s)=some (.inr (fin s))) (s0:S):zc0 body (mk 0 s0)=walk step fin l 0 s0:=
 zv6 l z mk step fin (λ _ _=>True) (λ i s h _=>⟨hb i s h,λ _ _=>trivial⟩) (λ s _=>he s) s0 trivial
theorem zd0(i:Nat)(h:i<4611686018427387904):IntKind.i64.wrap ((i:Int)+1)=((i+1:Nat):Int):=by rw[zj5 (by omega) (by omega)];omega
theorem zan3(i:Nat)(h:i<4611686018427387904)(h0:0<i):IntKind.i64.wrap ((i:Int)-1)=((i-1:Nat):Int):=by rw[zj5 (by omega) (by omega)];omega
theorem gdp{α:Type}{p:Prop}[Decidable p]{k:Option α}(h:p):gd p k=k:=bM h
@[simp] theorem zk1{α:Type}[Decidable True](k:Option α):gd True k=k:=bM trivial
theorem gdn{α:Type}{p:Prop}[Decidable p]{k:Option α}(h:¬p):gd p k=none:=bL h
def zaO2{β:Type}(s:List β):Option β->List β
 |some b=>s++[b]
 |none=>s
theorem zaO3{α β X:Type}(f:α->Option β)(fin:List β->X):∀(l:List α) (i:Nat) (s:List β),
  walk (λ _ a s=>some (.inl (zaO2 s (f a)))) fin l i s=some (fin (s++l.filterMap f))
 |[],i,s=>by simp[walk]
 |a::l,i,s=>by simp only[walk,List.filterMap_cons];rw[zaO3 f fin l (i+1)];cases f a<;>simp[zaO2]
abbrev cmpP(p q:aF):Int:=zq8 p q
def ltP(p q:aF):Prop:=p.site<q.site\/p.site=q.site/\(p.inc<q.inc\/p.inc=q.inc/\p.num<q.num)
instance(p q:aF):Decidable (ltP p q):=by unfold ltP;infer_instance
theorem zcq2(a b:Int):zJ1 a b=if a<b then-1 else if b<a then 1 else 0:=by unfold zJ1;simp only[bQ]
theorem zbq9(p q:aF):cmpP p q=if ltP p q then-1 else if ltP q p then 1 else 0:=by
 obtain⟨a,b,c⟩:=p;obtain⟨d,e,f⟩:=q;unfold cmpP zq8 ltP;simp only[zcq2,cK,cS]
 grind
theorem zQ1(p:aF):¬ltP p p:=by unfold ltP;omega
theorem zat5{p q r:aF}(h:ltP p q)(k:ltP q r):ltP p r:=by unfold ltP at*;omega
theorem zbv9{p q:aF}(h:ltP p q):¬ltP q p:=by unfold ltP at*;omega
theorem zaa0{p q:aF}(h:p≠q):ltP p q\/ltP q p:=by obtain⟨a,b,c⟩:=p;obtain⟨d,e,f⟩:=q;simp only[ne_eq,aF.mk.injEq]at h;unfold ltP;simp only;omega
theorem zbP3(p q:aF):0<cmpP p q↔ltP q p:=by
 rw[zbq9]
 by_cases h:ltP p q
 .simp[h,zbv9 h]
 .by_cases h2:ltP q p<;>simp[h,h2]
theorem zbC0(p q:aF):0<=cmpP p q↔¬ltP p q:=by
 rw[zbq9]
 by_cases h:ltP p q
 .simp[h]
 .by_cases h2:ltP q p<;>simp[h,h2]
theorem zat6(p q:aF):zc3 p q=some (cmpP p q):=by
 unfold zc3 zf0;have e:∀(x y z:Int) (i:Nat) (h:[x,y,z].length=3),Arr.get (⟨[x,y,z],h⟩:Arr Int 3) i 0=match i with|0=>x|1=>y|_=>z:=by
  intro x y z i h
  match i with
  |0=>rfl
  |1=>rfl
  |2=>rfl
  |n+3=>
   have:¬(n+3<3):=by omega
   simp[Arr.get,zE3,this]
 have w1:IntKind.i64.wrap (0+1)=1:=by decide
 have w2:IntKind.i64.wrap (1+1)=2:=by decide
 have w3:IntKind.i64.wrap (2+1)=3:=by decide
 have s3:zm1 ⟨[p.site,p.inc,p.num],rfl⟩ ⟨[q.site,q.inc,q.num],rfl⟩ 3=some (.inr (.inl ())):=by unfold zm1;simp
 have s2:zm1 ⟨[p.site,p.inc,p.num],rfl⟩ ⟨[q.site,q.inc,q.num],rfl⟩ 2=some (if p.num<q.num then .inr (.inr (-1))else if q.num<p.num then .inr (.inr 1)else .inl 3):=by
  unfold zm1;rw[bM (by decide),gdp (by decide),gdp (by decide),gdp (by decide)];simp only[e,show(2:Int).toNat=2 from rfl,bQ,w3]
  by_cases h:p.num<q.num
  .simp[h]
  .by_cases h2:q.num<p.num<;>simp[h,h2]
 have s1:zm1 ⟨[p.site,p.inc,p.num],rfl⟩ ⟨[q.site,q.inc,q.num],rfl⟩ 1=some (if p.inc<q.inc then .inr (.inr (-1))else if q.inc<p.inc then .inr (.inr 1)else .inl 2):=by
  unfold zm1;rw[bM (by decide),gdp (by decide),gdp (by decide),gdp (by decide)];simp only[e,Int.toNat_one,bQ,w2]
  by_cases h:p.inc<q.inc
  .simp[h]
  .by_cases h2:q.inc<p.inc<;>simp[h,h2]
 have s0:zm1 ⟨[p.site,p.inc,p.num],rfl⟩ ⟨[q.site,q.inc,q.num],rfl⟩ 0=some (if p.site<q.site then .inr (.inr (-1))else if q.site<p.site then .inr (.inr 1)else .inl 1):=by
  unfold zm1;rw[bM (by decide),gdp (by decide),gdp (by decide),gdp (by decide)];simp only[e,Int.toNat_zero,bQ,w1]
  by_cases h:p.site<q.site
  .simp[h]
  .by_cases h2:q.site<p.site<;>simp[h,h2]
 rw[zbq9];unfold ltP
 by_cases a1:p.site<q.site
 .rw[zg9,s0];simp[a1]
 .by_cases a2:q.site<p.site
  .rw[zg9,s0];have:¬p.site=q.site:=by omega
   simp[a1,a2,this]
  .have h1:p.site=q.site:=by omega
   by_cases b1:p.inc<q.inc
   .rw[zg9,s0];simp only[a1,a2,bU];rw[zg9,s1];simp[b1,h1]
   .by_cases b2:q.inc<p.inc
    .have:¬p.inc=q.inc:=by omega
     rw[zg9,s0];simp only[a1,a2,bU];rw[zg9,s1];simp[b1,b2,h1,this]
    .have h2:p.inc=q.inc:=by omega
     rw[zg9,s0];simp only[a1,a2,bU];rw[zg9,s1];simp only[b1,b2,bU];rw[zg9,s2]
     by_cases c1:p.num<q.num
     .simp[c1,h1,h2]
     .by_cases c2:q.num<p.num
      .simp[c1,c2,h1,h2]
      .simp only[c1,c2,bU];rw[zg9,s3];simp[h1,h2,zY2]
def insP(p:aF)(a:aC):List aO->List aO
 |[]=>[⟨p,a⟩]
 |h::t=>if ltP p h.aI then⟨p,a⟩::h::t else h::insP p a t
def zs3(p:aF)(l:List aO):List aO:=l.filter λ h=>!decide (h.aI=p)
def setL(l:List aO)(p:aF)(a:aC):List aO:=if a=aC.zero then zs3 p l else insP p a (zs3 p l)
theorem zdz1(p:aF):zs3 p []=[]:=rfl
theorem zay3(p:aF)(h:aO)(t:List aO):zs3 p (h::t)=if h.aI=p then zs3 p t else h::zs3 p t:=by unfold zs3;rw[gS];by_cases e:h.aI=p<;>simp[e]
theorem zaR8(p:aF)(l:List aO):(zs3 p l).length<=l.length:=gD _ _
theorem zaq0(l:List aO)(p:aF)(a:aC)(hl:l.length<=1000000):zq1 l p a=some (setL l p a):=by
 unfold zq1;have key:=zv6 (body:=zad1 l p a) l aO.zero (λ i (s:Bool×List aO)=>(s.1,(i:Int),s.2))
  (λ i h s=>some (.inl (if h.aI=p then s else if s.1=false/\ltP p h.aI then(true,s.2++[⟨p,a⟩]++[h])else(s.1,s.2++[h])))) (λ s=>s) (λ i s=>s.2.length<=2*i)
  (λ i s hi hs=>by
   refine⟨?_,λ s' h=>?_⟩
   .unfold zad1;have h1:s.2.length+1<=4294967296:=by omega
    have h2:s.2.length+1+1<=4294967296:=by omega
    have h3:0<=(i:Int)/\(i:Int)<(l.length:Int):=by omega
    simp only[h1,h2,h3.1,h3.2,cP,fI,zk1,bV,bS,Int.toNat_natCast,bQ,bK,cK,zbP3,zd0 i (by omega),Option.map_some,wmap]
    by_cases e:(l.getD i aO.zero).aI=p
    .simp only[e,bS]
    .simp only[e,bU];split<;>rfl
   .simp only[cJ,dQ]at h;subst h;split
    .omega
    .split<;>simp<;>omega)
  (λ s hs=>by unfold zad1;simp) (zd6 a,[]) (by simp)
 have hz:zd6 a=decide (a=aC.zero):=rfl;have fold:∀(l:List aO) (i:Nat) (d:Bool) (o:List aO),walk (λ i h (s:Bool×List aO)=>some (.inl (if h.aI=p then s else if s.1=false/\ltP p h.aI then(true,s.2++[⟨p,a⟩]++[h])else(s.1,s.2++[h])))) (λ s=>s) l i (d,o)=
   some (if d=true then(true,o++zs3 p l)else if(zs3 p l).any (λ h=>decide (ltP p h.aI))=true then(true,o++insP p a (zs3 p l))else(false,o++zs3 p l)):=by
  intro l;induction l with
  |nil=>intro i d o;cases d<;>simp[walk,zs3]
  |cons h t ih=>
   intro i d o;simp only[walk,zay3]
   by_cases e:h.aI=p
   .simp only[e,bS];exact ih (i+1) d o
   .simp only[e,bU]
    by_cases e2:d=false/\ltP p h.aI
    .obtain⟨rfl,e3⟩:=e2;simp only[e3,cP,bS];rw[ih];simp[insP,e3]
    .rw[bL e2,ih];cases d with
     |true=>simp
     |false=>have e3:¬ltP p h.aI:=λ hh=>e2 ⟨rfl,hh⟩;simp only[bN,bU,insP,e3,List.any_cons,dL,dW];split<;>simp
 have noins:∀l:List aO,l.any (λ h=>decide (ltP p h.aI))=false->insP p a l=l++[⟨p,a⟩]:=by
  intro l;induction l with
  |nil=>intro _;rfl
  |cons h t ih=>intro hh;simp only[List.any_cons,iX,cS]at hh;simp only[insP,hh.1,bU,ih hh.2,List.cons_append]
 rw[show((zd6 a,(0:Int),([]:List aO)):Bool×Int×List aO)=(λ(i:Nat) (s:Bool×List aO)=>(s.1,(i:Int),s.2)) 0 (zd6 a,[])from rfl,key,fold,hz];unfold setL zaE5;have ho:=zaR8 p l
 by_cases ha:a=aC.zero
 .simp[ha]
 .simp only[ha,dL,bN,bU,List.nil_append]
  by_cases hx:(zs3 p l).any (λ h=>decide (ltP p h.aI))=true
  .simp[hx]
  .have hx:(zs3 p l).any (λ h=>decide (ltP p h.aI))=false:=by simpa using hx
   rw[bL (by rw[hx];decide),Option.bind_some,noins _ hx];show gd ((zs3 p l).length+1<=4294967296) _=_;rw[gdp (by omega)]
theorem zdd7{α:Type}(l:List α)(k:Nat)(z x:α)(hk:k<=l.length):
  (((l++[z]).take (k+1)++(((l++[z]).drop k).take (l.length+1-k)).take (l.length+1-(k+1))++(l++[z]).drop (k+1+min (((l++[z]).drop k).take (l.length+1-k)).length (l.length+1-(k+1)))).set k x)=l.take k++x::l.drop k:=by
 have e1:((l++[z]).drop k).take (l.length+1-k)=l.drop k++[z]:=by rw[fF hk,dG (by simp;omega)]
 have e2:(l.drop k++[z]).take (l.length+1-(k+1))=l.drop k:=by rw[eH (by simp),dG (by simp)]
 have e3:(l++[z]).drop (k+1+min (l.drop k++[z]).length (l.length+1-(k+1)))=[]:=by rw[fD];simp;omega
 rw[e1,e2,e3,fB]
 by_cases hkl:k=l.length
 .subst hkl;rw[dG (by simp),jU,fB,gE _ _ (cQ _)];simp
 .have:(l++[z]).take (k+1)=l.take k++[l[k]'(by omega)]:=by
   rw[eH (by omega),eX (by omega)]
  rw[this,dE,gE _ _ (by simp;omega)];simp[show min k l.length=k by omega]
theorem zad8(l:List aO)(p:aF)(a:aC)(hl:l.length<=1000000):zn3 l p a=some (setL l p a):=by
 unfold zn3;have hw:IntKind.i64.wrap ((l.length:Int)+1)=(l.length:Int)+1:=zj5 (by omega) (by omega);rw[hw,gdp (by omega)];have key:=zv6 (body:=zO6 l p) l aO.zero (λ i (s:Int×List aO)=>(s.1,(i:Int),s.2))
  (λ i h s=>some (.inl (if h.aI=p then s else(if s.1<0/\ltP p h.aI then(s.2.length:Int)else s.1,s.2++[h])))) (λ s=>s) (λ i s=>s.2.length<=i)
  (λ i s hi hs=>by
   refine⟨?_,λ s' h=>?_⟩
   .unfold zO6;have h1:s.2.length+1<=4294967296:=by omega
    have h3:0<=(i:Int)/\(i:Int)<(l.length:Int):=by omega
    simp only[h1,h3.1,h3.2,cP,fI,zk1,bV,bS,Int.toNat_natCast,bQ,bK,zat6,zd0 i (by omega),Option.map_some,wmap]
    by_cases e:(l.getD i aO.zero).aI=p
    .simp only[e,bS]
    .simp only[e,bU]
     by_cases e2:s.1<0
     .simp only[e2,bS,Option.bind_some,fX,zbP3];split<;>rfl
     .simp only[e2,bU,Option.bind_some,jS]
   .simp only[cJ,dQ]at h;subst h;split
    .omega
    .simp;omega)
  (λ s hs=>by unfold zO6;simp) (-1,[]) (by simp)
 have fold:∀(l:List aO) (i:Nat) (d:Int) (o:List aO),walk (λ i h (s:Int×List aO)=>some (.inl (if h.aI=p then s else(if s.1<0/\ltP p h.aI then(s.2.length:Int)else s.1,s.2++[h])))) (λ s=>s) l i (d,o)=
   some (if d<0/\(zs3 p l).any (λ h=>decide (ltP p h.aI))=true then(((o.length+(zs3 p l).findIdx (λ h=>decide (ltP p h.aI)):Nat):Int),o++zs3 p l)else(d,o++zs3 p l)):=by
  intro l;induction l with
  |nil=>intro i d o;simp[walk,zs3]
  |cons h t ih=>
   intro i d o;simp only[walk,zay3]
   by_cases e:h.aI=p
   .simp only[e,bS];exact ih (i+1) d o
   .simp only[e,bU]
    by_cases e2:d<0/\ltP p h.aI
    .simp only[e2,cP,bS];rw[ih,bL (by omega)];simp[e2.2,jP]
    .rw[bL e2,ih]
     by_cases e3:d<0
     .have e4:¬ltP p h.aI:=λ hh=>e2 ⟨e3,hh⟩;simp only[e3,fX,List.any_cons,e4,dL,dW,jP,cond_false,bP,List.length_cons,List.length_nil,dE,List.cons_append,List.nil_append];split
      .congr 3;omega
      .rfl
     .simp[e3]
 have ins:∀l:List aO,insP p a l=l.take (l.findIdx (λ h=>decide (ltP p h.aI)))++⟨p,a⟩::l.drop (l.findIdx (λ h=>decide (ltP p h.aI))):=by
  intro l;induction l with
  |nil=>rfl
  |cons h t ih=>
   simp only[insP,jP]
   by_cases e:ltP p h.aI
   .simp[e]
   .simp[e,ih]
 have key2:zc0 (zO6 l p) (-1,0,List.replicate 0 aO.zero)=some (if(zs3 p l).any (λ h=>decide (ltP p h.aI))=true then(((zs3 p l).findIdx (λ h=>decide (ltP p h.aI)):Nat):Int)else-1,zs3 p l):=by
  rw[show((-1,0,List.replicate 0 aO.zero):Int×Int×List aO)=(λ(i:Nat) (s:Int×List aO)=>(s.1,(i:Int),s.2)) 0 (-1,[])from rfl,key,fold];have:((-1:Int)<0):=by decide
  simp only[this,fX,List.nil_append,List.length_nil,dC];split<;>rfl
 rw[key2,Option.bind_some];unfold zag1 setL;have hz:zf8 a=decide (a=aC.zero):=rfl;rw[hz]
 by_cases ha:a=aC.zero
 .simp[ha]
 .simp only[ha,dL,bN,bU,bQ];have ho:=zaR8 p l;generalize zs3 p l=o at ho;have fi:o.findIdx (λ h=>decide (ltP p h.aI))<=o.length:=List.findIdx_le_length;have hz2:({aO.zero with}:aO)=aO.zero:=rfl
  by_cases hx:o.any (λ h=>decide (ltP p h.aI))=true
  .simp only[hx,bS];generalize hk:o.findIdx (λ h=>decide (ltP p h.aI))=k at fi;have hkl:k<o.length:=by rw[<-hk];exact List.findIdx_lt_length_of_exists (by simpa using hx)
   rw[bL (by omega)];simp only[zd0 k (by omega),Int.toNat_natCast];rw[gdp (by omega),gdp (by omega),gdp (by omega),gdp (by omega),zdd7 o k _ _ (by omega),ins o,hk]
  .have hx':o.any (λ h=>decide (ltP p h.aI))=false:=by simpa using hx
   simp only[hx',bN,bU];rw[bM (by decide)];have hk:o.findIdx (λ h=>decide (ltP p h.aI))=o.length:=by rw[List.findIdx_eq_length];simpa using hx'
   simp only[zd0 o.length (by omega),Int.toNat_natCast];rw[gdp (by omega),gdp (by omega),gdp (by omega),gdp (by omega),zdd7 o o.length _ _ (by omega),ins o,hk]
theorem zaO4(r:aD):zE9 r=zd3 r:=by
 unfold zE9 zd3;rw[cI]
 by_cases h1:r.kind=1
 .simp[h1]
 .by_cases h2:r.kind=2<;>simp[h1,h2]
theorem zbe5(r:aD)(a:aC):zu3 r a=zb0 r a:=by unfold zu3 zb0 zv7 zr5;rw[zaO4]
theorem zbe6(r:aD)(a:aC):zr6 r a=zb2 r a:=by unfold zr6 zb2 zd6 zf8;rw[zaO4,zbe5]
theorem zaO5(p:aF):zn4 p=zb6 p:=by unfold zn4 zb6 zM5;rw[cI];simp;omega
theorem zG2(r:aD):zd3 r=true↔(r.kind=1/\r.aU=1)\/(r.kind=2/\1<=r.aU/\r.aU<=8):=by
 unfold zd3
 by_cases h1:r.kind=1
 .simp[h1]
 .by_cases h2:r.kind=2<;>simp[h1,h2]
theorem zW7(r:aD)(a:aC):zb0 r a=true↔(r.kind=1/\r.aU=1/\1<=a.mode/\a.mode<=5/\a.aU=0)\/(r.kind=2/\1<=r.aU/\r.aU<=8/\a.mode=0/\1<=a.aU/\a.aU<=r.aU):=by
 unfold zb0 zr5;have:=zG2 r;cases h:zd3 r with
 |false=>rw[h]at this;simp only[bN,false_iff]at this;simp only[dU,bS,bN,false_iff];omega
 |true=>
  rw[h]at this;simp only[kG]at this
  by_cases h1:r.kind=1
  .simp[h1];omega
  .simp[h1];omega
theorem perm_iff(r:aD)(a:aC):zb2 r a=true↔(zd3 r=true/\a=aC.zero)\/zb0 r a=true:=by
 unfold zb2 zf8;have e:(decide (a={aC.zero with}):Bool)=decide (a=aC.zero):=rfl;rw[e];have hs:zb0 r a=true->zd3 r=true:=by rw[zW7,zG2];omega
 cases h1:zd3 r<;>cases h2:zb0 r a<;>simp_all
theorem zat7{r:aD}{a:aC}(h:zb2 r a=true)(hk:r.kind=1):a.aU=0/\0<=a.mode/\a.mode<=5/\r.aU=1:=by
 rw[perm_iff,zW7,zG2]at h;rcases h with⟨h1,rfl⟩|h1
 .simp[aC.zero];omega
 .omega
theorem zbe7{r:aD}{a:aC}(h:zb2 r a=true)(hk:r.kind=2):a.mode=0/\0<=a.aU/\a.aU<=r.aU/\r.aU<=8:=by
 rw[perm_iff,zW7,zG2]at h;rcases h with⟨h1,rfl⟩|h1
 .simp[aC.zero];omega
 .omega
theorem zX6{r:aD}{a:aC}(h:zb2 r a=true):0<=a.aU/\a.aU<=8/\0<=a.mode/\a.mode<=5/\1<=r.aU/\r.aU<=8:=by
 rw[perm_iff,zW7,zG2]at h;rcases h with⟨h1,rfl⟩|h1
 .simp[aC.zero];omega
 .omega
abbrev mC(a b:Int):Bool:=zI3 a b
theorem zci4(a b:Int):mC a b=true↔(1<=a/\a<=4/\1<=b/\b<=4)/\(a=1\/b=1\/a=b/\a≠4):=by
 unfold mC zI3 zv7;split
 .rename_i h;simp at h;simp;omega
 .rename_i h;simp at h;simp;omega
theorem zbH5(a b:Int):mC a b=mC b a:=by rw[cI,zci4,zci4];omega
theorem zbm7(a b:Int):zg5 a b=some (mC a b):=by
 unfold zg5 zr5
 by_cases h:(1<=a/\a<=5)/\(1<=b/\b<=5)
 .obtain⟨⟨a1,a2⟩,b1,b2⟩:=h;have wa:IntKind.i64.wrap (a-1)=a-1:=zj5 (by omega) (by omega);have wb:IntKind.i64.wrap (b-1)=b-1:=zj5 (by omega) (by omega);simp only[wa,wb];rw[gdp (λ _=>by omega),gdp (λ _=>by omega)];congr 1;have ha:a=1\/a=2\/a=3\/a=4\/a=5:=by omega
  have hb:b=1\/b=2\/b=3\/b=4\/b=5:=by omega
  rcases ha with rfl|rfl|rfl|rfl|rfl<;>rcases hb with rfl|rfl|rfl|rfl|rfl<;>decide
 .have hv:(((decide (1<=a))&&(decide (a<=5)))&&((decide (1<=b))&&(decide (b<=5))))=false:=by
   rw[dO];intro hh;simp at hh;omega
  rw[hv];rw[gdp (λ h=>by cases h),gdp (λ h=>by cases h)];have:mC a b=false:=by rw[dO];intro hh;rw[zci4]at hh;omega
  rw[this];rfl
def zaj5(b a:aC):Prop:=b.mode≠0/\a.mode≠0/\mC b.mode a.mode=false
instance(b a:aC):Decidable (zaj5 b a):=by unfold zaj5;infer_instance
def sumU:List aC->Int
 |[]=>0
 |a::l=>a.aU+sumU l
structure CompP (r:aD) (l:List aC):Prop where
 perm:∀a∈l,zb2 r a=true
 sum:sumU l<=r.aU
 pair:l.Pairwise λ b a=>¬zaj5 b a
instance(r:aD)(l:List aC):Decidable (CompP r l):=
 decidable_of_iff ((∀a∈l,zb2 r a=true)/\sumU l<=r.aU/\l.Pairwise λ b a=>¬zaj5 b a) ⟨λ⟨a,b,c⟩=>⟨a,b,c⟩,λ⟨a,b,c⟩=>⟨a,b,c⟩⟩
def zbC1(r:aD)(l:List aC):Bool:=zd3 r&&decide (CompP r l)
theorem zcq3{l:List aC}(h:∀a∈l,0<=a.aU):0<=sumU l:=by
 induction l with
 |nil=>simp[sumU]
 |cons a l ih=>have:=ih λ b hb=>h b (.tail _ hb);have:=h a (.head _);simp only[sumU];omega
def zbj9(r:aD):List aC->List aC->Int->Bool
 |[],_,_=>true
 |a::t,prev,s=>zb2 r a&&(decide (s+a.aU<=r.aU)&&(decide (∀b∈prev,¬zaj5 b a)&&zbj9 r t (prev++[a]) (s+a.aU)))
theorem zbw0(r:aD)(hr:0<=r.aU):∀(l prev:List aC) (s:Int),s<=r.aU->(zbj9 r l prev s=true↔(∀a∈l,zb2 r a=true)/\s+sumU l<=r.aU/\(∀b∈prev,∀a∈l,¬zaj5 b a)/\l.Pairwise λ b a=>¬zaj5 b a)
 |[],prev,s,hs=>by simp[zbj9,sumU];exact hs
 |a::t,prev,s,hs=>by
  simp only[zbj9,bK,bQ,List.forall_mem_cons,cG,sumU];constructor
  .rintro⟨h1,h2,h3,h4⟩;rw[zbw0 r hr t (prev++[a]) (s+a.aU) h2]at h4;obtain⟨k1,k2,k3,k4⟩:=h4;refine⟨⟨h1,k1⟩,by omega,λ b hb=>⟨h3 b hb,λ c hc=>k3 b (by simp[hb]) c hc⟩,λ c hc=>k3 a (by simp) c hc,k4⟩
  .rintro⟨⟨h1,k1⟩,h2,h3,h4,h5⟩;have hn:0<=sumU t:=zcq3 λ b hb=>(zX6 (k1 b hb)).1;have h6:s+a.aU<=r.aU:=by omega
   refine⟨h1,h6,λ b hb=>(h3 b hb).1,?_⟩;rw[zbw0 r hr t (prev++[a]) (s+a.aU) h6];refine⟨k1,by omega,λ b hb c hc=>?_,h5⟩;rcases cF.1 hb with hb|hb
   .exact(h3 b hb).2 c hc
   .simp at hb;subst hb;exact h4 c hc
theorem zcq4(r:aD)(l:List aC)(hs:zd3 r=true):zbC1 r l=zbj9 r l [] 0:=by
 have hr:1<=r.aU:=by rw[zG2]at hs;omega
 unfold zbC1;rw[hs,cA,cI,zbw0 r (by omega) l [] 0 (by omega),bQ];exact⟨λ⟨a,b,c⟩=>⟨a,by omega,by simp,c⟩,λ⟨a,b,_,c⟩=>⟨a,by omega,c⟩⟩
def zbm8(seen:Arr Bool 6)(m:Int):Bool:=(List.range' 0 6).all λ k=>!(seen.get k false)||mC k m
theorem zci5(l:List aC)(g:Int×Int×Arr Bool 6):zc0 (zA0 l g) 0=some (if zbm8 g.2.2 (l.getD g.2.1.toNat aC.zero).mode=true then .inl ()else .inr false):=by
 have key:=zD5 (body:=zA0 l g) 6 (λ i=>if(!(g.2.2.get i false)||mC i (l.getD g.2.1.toNat aC.zero).mode)=true then none else some (.inr false)) (.inl ()) (λ i hi=>by
  unfold zA0;have h3:0<=(i:Int)/\(i:Int)<6:=by omega
  have h4:IntKind.i64.wrap ((i:Int)+1)=(i:Int)+1:=zj5 (by omega) (by omega);simp only[h3.1,h3.2,cP,zk1,bV,bS,Int.toNat_natCast,zbm7,h4];cases Arr.get g.2.2 i false<;>cases mC i (l.getD g.2.1.toNat aC.zero).mode<;>rfl) (by unfold zA0;simp)
 rw[key,zM7];unfold zbm8;split<;>simp_all
theorem zdo5(s:Arr Bool 6)(i k:Nat)(hi:i<6)(hk:k<6):(s.put i true).get k false=if k=i then true else s.get k false:=by
 obtain⟨l,hl⟩:=s;simp only[Arr.put,Arr.get,zao5 hi,zao5 hk,bO,List.getElem?_set]
 by_cases h:k=i
 .subst h;simp[hl,hk]
 .rw[bL (λ e=>h e.symm),bL h]
theorem zba1(r:aD)(l:List aC)(hl:l.length<=1000000):zk4 r l=some (zbC1 r l):=by
 unfold zk4;cases hs:zd3 r with
 |false=>simp[zbC1,hs]
 |true=>
  have hru:1<=r.aU/\r.aU<=8:=by rw[zG2]at hs;omega
  rw[zcq4 r l hs];simp only[cW,bN,bU];have key:=zv6 (body:=zF2 r l) l aC.zero (λ i (s:Int×Arr Bool 6)=>(s.1,(i:Int),s.2))
   (λ i a s=>some (if zb2 r a=false\/r.aU<s.1+a.aU then .inr false else if a.mode=0 then .inl (s.1+a.aU,s.2)else if zbm8 s.2 a.mode=true then .inl (s.1+a.aU,s.2.put a.mode.toNat true)else .inr false)) (λ _=>true) (λ i s=>0<=s.1/\s.1<=8)
   (λ i s hi hi2=>by
    refine⟨?_,λ s' h=>?_⟩
    .unfold zF2;have h3:0<=(i:Int)/\(i:Int)<(l.length:Int):=by omega
     simp only[h3.1,h3.2,cP,zk1,bV,bS,Int.toNat_natCast,zd0 i (by omega),Option.map_some,zci5];cases hp:zb2 r (l.getD i aC.zero)with
     |false=>simp[wmap]
     |true=>
      have hb:=zX6 hp;have hw:IntKind.i64.wrap (s.1+(l.getD i aC.zero).aU)=s.1+(l.getD i aC.zero).aU:=zj5 (by omega) (by omega);simp only[hw,cW,dW,bQ,dY,iF]
      by_cases h4:r.aU<s.1+(l.getD i aC.zero).aU
      .simp only[h4,bS,wmap]
      .by_cases h5:(l.getD i aC.zero).mode=0
       .simp only[h4,bU,h5,bS,wmap]
       .simp only[h4,h5,bU]
        by_cases h6:zbm8 s.2 (l.getD i aC.zero).mode=true
        .simp only[h6,bS,Option.bind_some,wmap];unfold zN3;simp only[Int.toNat_natCast,hw,zd0 i (by omega)];rw[gdp (by omega)]
        .simp only[h6,bN,bU,wmap,Option.bind_some]
    .simp only[cJ]at h;split at h
     .cases h
     .rename_i hn;simp only[not_or,fG]at hn;have hb:=zX6 hn.1;split at h
      .cases h;simp only;omega
      .split at h
       .cases h;simp only;omega
       .cases h)
   (λ s hs=>by unfold zF2;simp) (0,Arr.rep 6 false) (by simp)
  have fold:∀(l prev:List aC) (i:Nat) (s:Int) (seen:Arr Bool 6),(∀b∈prev,0<=b.mode/\b.mode<=5)->(∀k,k<6->seen.get k false=decide (∃b∈prev,b.mode≠0/\b.mode=(k:Int)))->
    walk (λ i a (s:Int×Arr Bool 6)=>some (if zb2 r a=false\/r.aU<s.1+a.aU then .inr false else if a.mode=0 then .inl (s.1+a.aU,s.2)else if zbm8 s.2 a.mode=true then .inl (s.1+a.aU,s.2.put a.mode.toNat true)else .inr false)) (λ _=>true) l i (s,seen)=some (zbj9 r l prev s):=by
   intro l;induction l with
   |nil=>intro prev i s seen _ _;rfl
   |cons a t ih=>
    intro prev i s seen hpv hsn;simp only[walk,zbj9];cases hp:zb2 r a with
    |false=>simp
    |true=>
     have hb:=zX6 hp
     by_cases h4:r.aU<s+a.aU
     .simp[h4];intro h;omega
     .have h4':s+a.aU<=r.aU:=by omega
      simp only[dY,iF,h4,bU,h4',bV,cA]
      by_cases h5:a.mode=0
      .simp only[h5,bS];rw[ih (prev++[a]) (i+1) (s+a.aU) seen (by
        intro b hb';rcases cF.1 hb' with h|h
        .exact hpv b h
        .simp at h;subst h;omega) (by
        intro k hk;rw[hsn k hk,fQ];constructor
        .rintro⟨b,h1,h2⟩;exact⟨b,by simp[h1],h2⟩
        .rintro⟨b,h1,h2,h3⟩;rcases cF.1 h1 with h|h
         .exact⟨b,h,h2,h3⟩
         .simp at h;subst h;exact absurd h5 h2)]
       have:∀b∈prev,¬zaj5 b a:=λ b _ hc=>hc.2.1 h5;rw[bZ this,cA]
      .simp only[h5,bU];have hse:zbm8 seen a.mode=decide (∀b∈prev,¬zaj5 b a):=by
        rw[cI,bQ];unfold zbm8;simp only[dB,List.mem_range'_1,dT,cK];constructor
        .intro hh b hb' ⟨c1,c2,c3⟩;have hbb:=hpv b hb';rcases hh b.mode.toNat (by omega)with h|h
         .rw[hsn _ (by omega)]at h;simp only[cS,not_exists,not_and]at h;exact h b hb' c1 (by omega)
         .rw[show((b.mode.toNat:Nat):Int)=b.mode by omega,c3]at h;cases h
        .intro hh k hk;rw[hsn k (by omega)]
         by_cases he:∃b∈prev,b.mode≠0/\b.mode=(k:Int)
         .obtain⟨b,h1,h2,h3⟩:=he;right;rw[<-h3];have:=hh b h1;unfold zaj5 at this;simp only[not_and,fG]at this;exact this h2 h5
         .left;simpa using he
       rw[hse]
       by_cases h7:∀b∈prev,¬zaj5 b a
       .rw[bZ h7];simp only[bS,cA];rw[ih (prev++[a]) (i+1) (s+a.aU) (seen.put a.mode.toNat true) (by
         intro b hb';rcases cF.1 hb' with h|h
         .exact hpv b h
         .simp at h;subst h;omega) (by
         intro k hk;rw[zdo5 seen a.mode.toNat k (by omega) hk,hsn k hk]
         by_cases hka:k=a.mode.toNat
         .rw[bM hka];exact(bZ ⟨a,by simp,h5,by omega⟩).symm
         .rw[bL hka,fQ];constructor
          .rintro⟨b,h1,h2⟩;exact⟨b,by simp[h1],h2⟩
          .rintro⟨b,h1,h2,h3⟩;rcases cF.1 h1 with h|h
           .exact⟨b,h,h2,h3⟩
           .simp at h;subst h;omega)]
       .rw[fU h7];rfl
  have k2:=fold l [] 0 0 (Arr.rep 6 false) (by simp) (by
   intro k hk;have:k=0\/k=1\/k=2\/k=3\/k=4\/k=5:=by omega
   rcases this with rfl|rfl|rfl|rfl|rfl|rfl<;>rfl)
  rw[show((0,0,Arr.rep 6 false):Int×Int×Arr Bool 6)=(λ(i:Nat) (s:Int×Arr Bool 6)=>(s.1,(i:Int),s.2)) 0 (0,Arr.rep 6 false)from rfl,key,k2];rfl
theorem zbw1(l:List aC)(g:Int×Int)(h0:0<=g.2)(hl:g.2<(l.length:Int))(hll:l.length<=1000000):zc0 (zB3 l g) 0=
  some (if(List.range' 0 g.2.toNat).all (λ k=>decide (l.getD g.2.toNat aC.zero=aC.zero)||(decide (l.getD k aC.zero=aC.zero)||mC (l.getD g.2.toNat aC.zero).mode (l.getD k aC.zero).mode))=true then .inl ()else .inr false):=by
 have hz:∀a:aC,zd6 a=decide (a=aC.zero):=λ _=>rfl;have key:=zD5 (body:=zB3 l g) g.2.toNat (λ i=>if(decide (l.getD g.2.toNat aC.zero=aC.zero)||(decide (l.getD i aC.zero=aC.zero)||mC (l.getD g.2.toNat aC.zero).mode (l.getD i aC.zero).mode))=true then none else some (.inr false)) (.inl ()) (λ i hi=>by
  unfold zB3;have h3:(i:Int)<g.2:=by omega
  have h4:IntKind.i64.wrap ((i:Int)+1)=(i:Int)+1:=zj5 (by omega) (by omega);have h5:0<=(i:Int)/\(i:Int)<(l.length:Int):=by omega
  simp only[h3,bV,bS,Int.toNat_natCast,h4,h5.1,h5.2,h0,hl,cP,fI,zk1,hz];cases decide (l.getD g.2.toNat aC.zero=aC.zero)<;>cases decide (l.getD i aC.zero=aC.zero)<;>cases hm:zI3 (l.getD g.2.toNat aC.zero).mode (l.getD i aC.zero).mode<;>simp only[mC,hm]<;>rfl) (by unfold zB3;rw[bL];simp;omega)
 rw[key,zM7];split<;>simp_all
theorem zbi3(r:aD)(l:List aC)(hl:l.length<=1000000):zk7 r l=some (zbC1 r l):=by
 unfold zk7;rw[zaO4];cases hs:zd3 r with
 |false=>simp[zbC1,hs]
 |true=>
  have hru:1<=r.aU/\r.aU<=8/\(r.kind=1\/r.kind=2):=by rw[zG2]at hs;omega
  rw[zcq4 r l hs];simp only[cW,bN,bU];have key:=zv6 (body:=zx8 r l) l aC.zero (λ i (s:Int)=>(s,(i:Int)))
   (λ i a s=>some (if zb2 r a=false then .inr (.inr false)else if r.kind=2 then(if r.aU<s+a.aU then .inr (.inr false)else .inl (s+a.aU))else
    if(List.range' 0 i).all (λ k=>decide (a=aC.zero)||(decide (l.getD k aC.zero=aC.zero)||mC a.mode (l.getD k aC.zero).mode))=true then .inl s else .inr (.inr false))) (λ _=>Sum.inl (β:=Bool) ()) (λ i s=>0<=s/\s<=8)
   (λ i s hi hi2=>by
    refine⟨?_,λ s' h=>?_⟩
    .unfold zx8;have h3:0<=(i:Int)/\(i:Int)<(l.length:Int):=by omega
     simp only[h3.1,h3.2,cP,zk1,bV,bS,Int.toNat_natCast,zd0 i (by omega),Option.map_some,zbe6,zbw1 l (s,(i:Int)) h3.1 h3.2 hl];cases hp:zb2 r (l.getD i aC.zero)with
     |false=>simp[wmap]
     |true=>
      have hb:=zX6 hp;have hw:IntKind.i64.wrap (s+(l.getD i aC.zero).aU)=s+(l.getD i aC.zero).aU:=zj5 (by omega) (by omega);simp only[hw,cW,bN,bU,dY,bQ]
      by_cases h4:r.kind=2
      .by_cases h5:r.aU<s+(l.getD i aC.zero).aU
       .simp only[h4,h5,bS,wmap]
       .simp only[h4,h5,bS,bU,wmap]
      .simp only[h4,bU];split
       .simp only[zaa3,wmap,zd0 i (by omega:i<4611686018427387904),Option.bind_some]
       .simp only[wmap,Option.bind_some]
    .simp only[cJ]at h;split at h
     .cases h
     .rename_i hn;simp only[fG]at hn;have hb:=zX6 hn;split at h
      .split at h
       .cases h
       .cases h;omega
      .split at h
       .cases h;exact hi2
       .cases h)
   (λ s hs=>by unfold zx8;simp) 0 (by simp)
  have fold:∀(t prev:List aC) (s:Int),l=prev++t->(∀b∈prev,zb2 r b=true)->(r.kind=1->s=0)->s<=r.aU->
    walk (λ i a (s:Int)=>some (if zb2 r a=false then .inr (.inr false)else if r.kind=2 then(if r.aU<s+a.aU then .inr (.inr false)else .inl (s+a.aU))else
     if(List.range' 0 i).all (λ k=>decide (a=aC.zero)||(decide (l.getD k aC.zero=aC.zero)||mC a.mode (l.getD k aC.zero).mode))=true then .inl s else .inr (.inr false))) (λ _=>Sum.inl (β:=Bool) ()) t prev.length s=some (if zbj9 r t prev s=true then .inl ()else .inr false):=by
   intro t;induction t with
   |nil=>intro prev s _ _ _ _;rfl
   |cons a t ih=>
    intro prev s hlt hpp hs0 hsu;simp only[walk,zbj9]
    by_cases hp:zb2 r a=true
    .have hpp':∀b∈prev++[a],zb2 r b=true:=λ b hb=>by
      rcases cF.1 hb with h|h
      .exact hpp b h
      .simp at h;subst h;exact hp
     have hlt':l=(prev++[a])++t:=by rw[hlt];simp
     have hlen:(prev++[a]).length=prev.length+1:=by simp
     rcases hru.2.2 with hk|hk
     ·
      have ha:=zat7 hp hk;have hs:=hs0 hk;subst hs;have hk2:¬r.kind=2:=by omega
      have hsum:(0:Int)+a.aU<=r.aU:=by omega
      simp only[hp,dY,bU,hk2,hsum,bV,cA];have hall:(List.range' 0 prev.length).all (λ k=>decide (a=aC.zero)||(decide (l.getD k aC.zero=aC.zero)||mC a.mode (l.getD k aC.zero).mode))=decide (∀b∈prev,¬zaj5 b a):=by
       rw[cI,bQ];simp only[dB,List.mem_range'_1,dT,bQ];have hget:∀k,k<prev.length->l.getD k aC.zero=prev.getD k aC.zero:=λ k hk=>by rw[hlt,zcO5 _ _ _ _ hk]
       have hmem:∀k,k<prev.length->prev.getD k aC.zero∈prev:=λ k hk=>by rw[bO,bR hk];exact gT hk
       have zX0:∀b,zb2 r b=true->(b=aC.zero↔b.mode=0):=λ b hb=>by have:=zat7 hb hk;rw[aC.ext_iff];simp[aC.zero];omega
       constructor
       .intro hh b hb ⟨c1,c2,c3⟩;obtain⟨k,hk1,hk2⟩:=gN.1 hb;have e:prev.getD k aC.zero=b:=by rw[bO,bR hk1,Option.getD_some,hk2]
        rcases hh k (by omega)with h|h|h
        .exact c2 ((zX0 a hp).1 h)
        .rw[hget k hk1,e]at h;exact c1 ((zX0 b (hpp b hb)).1 h)
        .rw[hget k hk1,e,zbH5,c3]at h;cases h
       .intro hh k hk1;have hk2:k<prev.length:=by omega
        rw[hget k hk2];have h1:=hh _ (hmem k hk2);have h2:=hpp _ (hmem k hk2);unfold zaj5 at h1;rw[zX0 a hp,zX0 _ h2]
        by_cases e1:a.mode=0
        .exact .inl e1
        .by_cases e2:(prev.getD k aC.zero).mode=0
         .exact .inr (.inl e2)
         .refine .inr (.inr ?_);rw[zbH5];simp only[not_and,fG]at h1;exact h1 e2 e1
      rw[hall]
      by_cases h7:∀b∈prev,¬zaj5 b a
      .rw[bZ h7];simp only[bS,cA];have:=ih (prev++[a]) 0 hlt' hpp' (λ _=>rfl) (by omega);rw[hlen]at this;simp only[hk2,bU]at this;rw[this,ha.1];rfl
      .rw[fU h7];rfl
     ·
      have ha:=zbe7 hp hk;simp only[hp,dY,bU,hk,bS,cA];have h7:∀b∈prev,¬zaj5 b a:=λ b _ hc=>hc.2.1 ha.1
      by_cases h5:r.aU<s+a.aU
      .have:¬s+a.aU<=r.aU:=by omega
       simp[h5,this]
      .have:s+a.aU<=r.aU:=by omega
       rw[bZ h7];simp only[h5,bU,this,bV,cA];have h8:=ih (prev++[a]) (s+a.aU) hlt' hpp' (λ h=>by omega) this;rw[hlen]at h8;simp only[hk,bS]at h8;exact h8
    .simp[hp]
  rw[show((0,0):Int×Int)=(λ(i:Nat) (s:Int)=>(s,(i:Int))) 0 0 from rfl,key];have k2:=fold l [] 0 rfl (by simp) (λ _=>rfl) (by omega);rw[List.length_nil]at k2;rw[k2];cases zbj9 r l [] 0<;>rfl
structure GoodP (r:aD) (l:List aO):Prop where
 each:∀h∈l,zb6 h.aI=true/\zb0 r h.aK=true
 asc:l.Pairwise λ a b=>ltP a.aI b.aI
instance(r:aD)(l:List aO):Decidable (GoodP r l):=
 decidable_of_iff ((∀h∈l,zb6 h.aI=true/\zb0 r h.aK=true)/\l.Pairwise λ a b=>ltP a.aI b.aI) ⟨λ⟨a,b⟩=>⟨a,b⟩,λ⟨a,b⟩=>⟨a,b⟩⟩
def zE5(r:aD)(l:List aO):Bool:=zd3 r&&(decide (l.length<=8)&&(decide (GoodP r l)&&decide (CompP r (l.map (·.aK)))))
theorem zcq5{r:aD}{a:aC}(h:zb0 r a=true):zd3 r=true:=by rw[zW7]at h;rw[zG2];omega
theorem zG8{r:aD}{a:aC}(h:zb0 r a=true):zb2 r a=true:=(perm_iff r a).2 (.inr h)
theorem zR3{r:aD}{a:aC}(h:zb0 r a=true):a≠aC.zero:=by rw[zW7]at h;intro e;subst e;simp[aC.zero]at h
def zan4(r:aD):List aO->Option aF->Bool
 |[],_=>true
 |h::t,pv=>zb6 h.aI&&(zb0 r h.aK&&((match pv with|none=>true|some q=>decide (ltP q h.aI))&&zan4 r t (some h.aI)))
theorem zbw2(r:aD):∀(l:List aO) (pv:Option aF),zan4 r l pv=true↔GoodP r l/\∀q,pv=some q->∀h∈l,ltP q h.aI
 |[],pv=>by simp only[zan4,eE,iG,fI,gV,kG];exact⟨by simp,.nil⟩
 |h::t,pv=>by
  simp only[zan4,bK];rw[zbw2 r t (some h.aI)];constructor
  .rintro⟨h1,h2,h3,⟨h4,h5⟩,h6⟩;refine⟨⟨λ x hx=>?_,cG.2 ⟨λ x hx=>h6 _ rfl x hx,h5⟩⟩,λ q hq x hx=>?_⟩
   .rcases bY.1 hx with rfl|hx
    .exact⟨h1,h2⟩
    .exact h4 x hx
   .subst hq;simp only[bQ]at h3;rcases bY.1 hx with rfl|hx
    .exact h3
    .exact zat5 h3 (h6 _ rfl x hx)
  .rintro⟨⟨h1,h2⟩,h3⟩;rw[cG]at h2;refine⟨(h1 h (.head _)).1,(h1 h (.head _)).2,?_,⟨λ x hx=>h1 x (.tail _ hx),h2.2⟩,λ q hq x hx=>by cases hq;exact h2.1 x hx⟩;cases pv with
   |none=>rfl
   |some q=>exact bZ (h3 q rfl h (.head _))
theorem zat8(r:aD)(l:List aO):zs0 r l=some (zE5 r l):=by
 unfold zs0 zE5;cases hs:zd3 r with
 |false=>simp
 |true=>
  by_cases h8:8<(l.length:Int)
  .have:¬l.length<=8:=by omega
   simp[h8,this]
  .have hl8:l.length<=8:=by omega
   simp only[cW,dW,h8,dL,bN,bU,hl8,bV,cA];have key:=zv6 (body:=zP7 r l) l aO.zero (λ i (s:List aC)=>((i:Int),s))
    (λ i h s=>some (if zb6 h.aI=true/\zb0 r h.aK=true/\(i=0\/ltP (l.getD (i-1) aO.zero).aI h.aI)then .inl (s++[h.aK])else .inr (.inr false))) (λ s=>Sum.inl (β:=Bool) s) (λ i s=>s.length<=i)
    (λ i s hi hs=>by
     refine⟨?_,λ s' h=>?_⟩
     .unfold zP7;have h1:s.length+1<=4294967296:=by omega
      have h3:0<=(i:Int)/\(i:Int)<(l.length:Int):=by omega
      simp only[h1,h3.1,h3.2,cP,zk1,bV,bS,Int.toNat_natCast,zat6,zd0 i (by omega),Option.map_some,bQ,bK,dT,cK]
      by_cases e1:zb6 (l.getD i aO.zero).aI=false\/zb0 r (l.getD i aO.zero).aK=false
      .rw[bM e1,bL (by rintro⟨k1,k2,_⟩;rcases e1 with e|e<;>simp_all)];rfl
      .rw[bL e1];simp only[not_or,fG]at e1
       by_cases e2:i=0
       .subst e2;rw[gdp (by omega)];simp only[Int.natCast_zero,Int.lt_irrefl,bU,Option.bind_some,jS,e1,cP,true_or,bS,wmap]
       .have w:IntKind.i64.wrap ((i:Int)-1)=((i-1:Nat):Int):=zan3 i (by omega) (by omega);rw[gdp (by rw[w];omega)];simp only[w,Int.toNat_natCast,show(0:Int)<(i:Int)by omega,bS,Option.bind_some,fX,zbC0,e1,e2,iF]
        by_cases e3:ltP (l.getD (i-1) aO.zero).aI (l.getD i aO.zero).aI
        .simp only[e3,not_true,bU,bS,wmap]
        .simp only[e3,fS,bS,bU,wmap]
     .simp only[cJ]at h;split at h
      .cases h;simp;omega
      .cases h)
    (λ s hs=>by unfold zP7;simp) [] (by simp)
   have fold:∀(t prev:List aO) (s:List aC),l=prev++t->
     walk (λ i h (s:List aC)=>some (if zb6 h.aI=true/\zb0 r h.aK=true/\(i=0\/ltP (l.getD (i-1) aO.zero).aI h.aI)then .inl (s++[h.aK])else .inr (.inr false))) (λ s=>Sum.inl (β:=Bool) s) t prev.length s=
      some (if zan4 r t (prev.getLast?.map (·.aI))=true then .inl (s++t.map (·.aK))else .inr false):=by
    intro t;induction t with
    |nil=>intro prev s _;simp[walk,zan4]
    |cons h t ih=>
     intro prev s hlt;simp only[walk];have hq:(prev.length=0\/ltP (l.getD (prev.length-1) aO.zero).aI h.aI)↔(match prev.getLast?.map (·.aI)with|none=>true|some q=>decide (ltP q h.aI))=true:=by
      rcases List.eq_nil_or_concat prev with rfl|⟨pp,x,rfl⟩
      .simp
      .have:(l.getD ((pp.concat x).length-1) aO.zero)=x:=by
        rw[hlt];simp[bO]
       rw[this];simp
     by_cases e:zb6 h.aI=true/\zb0 r h.aK=true/\(prev.length=0\/ltP (l.getD (prev.length-1) aO.zero).aI h.aI)
     .rw[bM e];have:=ih (prev++[h]) (s++[h.aK]) (by rw[hlt];simp);rw[show(prev++[h]).length=prev.length+1 by simp]at this;simp only;have ht:zan4 r (h::t) (prev.getLast?.map (·.aI))=zan4 r t (some h.aI):=by simp only[zan4,e.1,e.2.1,hq.1 e.2.2,cA]
      rw[this,ht];simp
     .rw[bL e];rw[hq]at e;have hf:zan4 r (h::t) (prev.getLast?.map (·.aI))=false:=by
       rw[dO];intro hh;simp only[zan4,bK]at hh;exact e ⟨hh.1,hh.2.1,hh.2.2.1⟩
      rw[hf];rfl
   have k2:=fold l [] [] rfl;rw[List.length_nil]at k2;rw[show((0,[]):Int×List aC)=(λ(i:Nat) (s:List aC)=>((i:Int),s)) 0 []from rfl,key,k2];have hg:=zbw2 r l none
   by_cases e:zan4 r l none=true
   .have hgp:GoodP r l:=(hg.1 e).1;rw[bM (by simpa using e)];simp only[Option.bind_some,zam5,List.nil_append];rw[zba1 r _ (by simp;omega)];simp[zbC1,hs,hgp]
   .have hgp:¬GoodP r l:=λ h=>e (hg.2 ⟨h,by simp⟩);rw[bL (by simpa using e)];simp[hgp]
theorem zbw3(l:List aO)(hl:l.length<=1000000):ze9 l=some (l.map (·.aK)):=by
 unfold ze9;have key:=zv6 (body:=zP2 l) l aO.zero (λ i (s:List aC)=>((i:Int),s)) (λ i h s=>some (.inl (zaO2 s (some h.aK)))) (λ s=>s) (λ i s=>s.length<=i)
  (λ i s hi hs=>by
   refine⟨?_,λ s' h=>?_⟩
   .unfold zP2;have h1:s.length+1<=4294967296:=by omega
    have h3:0<=(i:Int)/\(i:Int)<(l.length:Int):=by omega
    simp only[h1,h3.1,h3.2,cP,zk1,bV,bS,Int.toNat_natCast,zd0 i (by omega),Option.map_some,wmap,zaO2]
   .simp only[cJ,dQ]at h;subst h;simp[zaO2];omega)
  (λ s hs=>by unfold zP2;simp) [] (by simp)
 rw[show((0,[]):Int×List aC)=(λ(i:Nat) (s:List aC)=>((i:Int),s)) 0 []from rfl,key,zaO3 (λ h:aO=>some h.aK)];simp[zal9]
theorem zaF0(r:aD)(l:List aO):zv9 r l=some (zE5 r l):=by
 unfold zv9 zE5;rw[zaO4];cases hs:zd3 r with
 |false=>simp
 |true=>
  by_cases h8:8<(l.length:Int)
  .have:¬l.length<=8:=by omega
   simp[h8,this]
  .have hl8:l.length<=8:=by omega
   simp only[cW,dW,h8,dL,bN,bU,hl8,bV,cA];have key:=zv6 (body:=zW3 r l) l aO.zero (λ i (_:Unit)=>(i:Int))
    (λ i h _=>some (if zb6 h.aI=true/\zb0 r h.aK=true/\(i=0\/ltP (l.getD (i-1) aO.zero).aI h.aI)then .inl ()else .inr (.inr false))) (λ _=>Sum.inl (β:=Bool) ()) (λ i s=>True)
    (λ i s hi _=>by
     refine⟨?_,λ _ _=>trivial⟩;unfold zW3;have h3:0<=(i:Int)/\(i:Int)<(l.length:Int):=by omega
     simp only[h3.1,h3.2,cP,fI,zk1,bV,bS,Int.toNat_natCast,zd0 i (by omega),Option.map_some,zaO5,zbe5]
     by_cases e2:i=0
     .subst e2;rw[gdp (by simp)]
      by_cases e1:zb6 (l.getD 0 aO.zero).aI=true
      .by_cases e3:zb0 r (l.getD 0 aO.zero).aK=true
       .simp only[e1,e3];simp[wmap]
       .simp only[e1,e3];simp[wmap]
      .simp only[e1];simp[wmap]
     .have w:IntKind.i64.wrap ((i:Int)-1)=((i-1:Nat):Int):=zan3 i (by omega) (by omega);rw[gdp (λ _=>by rw[w];omega)];simp only[w,Int.toNat_natCast,show(0:Int)<(i:Int)by omega,bV,cA,zbC0,e2,iF]
      by_cases e1:zb6 (l.getD i aO.zero).aI=true
      .by_cases e3:zb0 r (l.getD i aO.zero).aK=true
       .by_cases e4:ltP (l.getD (i-1) aO.zero).aI (l.getD i aO.zero).aI
        .simp only[e1,e3,e4];simp[wmap]
        .simp only[e1,e3,e4];simp[wmap]
       .simp only[e1,e3];simp[wmap]
      .simp only[e1];simp[wmap])
    (λ s hs=>by unfold zW3;simp) () trivial
   have fold:∀(t prev:List aO),l=prev++t->
     walk (λ i h (_:Unit)=>some (if zb6 h.aI=true/\zb0 r h.aK=true/\(i=0\/ltP (l.getD (i-1) aO.zero).aI h.aI)then .inl ()else .inr (.inr false))) (λ _=>Sum.inl (β:=Bool) ()) t prev.length ()=
      some (if zan4 r t (prev.getLast?.map (·.aI))=true then .inl ()else .inr false):=by
    intro t;induction t with
    |nil=>intro prev _;simp[walk,zan4]
    |cons h t ih=>
     intro prev hlt;simp only[walk];have hq:(prev.length=0\/ltP (l.getD (prev.length-1) aO.zero).aI h.aI)↔(match prev.getLast?.map (·.aI)with|none=>true|some q=>decide (ltP q h.aI))=true:=by
      rcases List.eq_nil_or_concat prev with rfl|⟨pp,x,rfl⟩
      .simp
      .have:(l.getD ((pp.concat x).length-1) aO.zero)=x:=by
        rw[hlt];simp[bO]
       rw[this];simp
     by_cases e:zb6 h.aI=true/\zb0 r h.aK=true/\(prev.length=0\/ltP (l.getD (prev.length-1) aO.zero).aI h.aI)
     .rw[bM e];have:=ih (prev++[h]) (by rw[hlt];simp);rw[show(prev++[h]).length=prev.length+1 by simp]at this;simp only;have ht:zan4 r (h::t) (prev.getLast?.map (·.aI))=zan4 r t (some h.aI):=by simp only[zan4,e.1,e.2.1,hq.1 e.2.2,cA]
      rw[this,ht];simp
     .rw[bL e];rw[hq]at e;have hf:zan4 r (h::t) (prev.getLast?.map (·.aI))=false:=by
       rw[dO];intro hh;simp only[zan4,bK]at hh;exact e ⟨hh.1,hh.2.1,hh.2.2.1⟩
      rw[hf];rfl
   have k2:=fold l [] rfl;rw[List.length_nil]at k2;rw[show(0:Int)=(λ(i:Nat) (_:Unit)=>(i:Int)) 0 ()from rfl,key,k2];have hg:=zbw2 r l none
   by_cases e:zan4 r l none=true
   .have hgp:GoodP r l:=(hg.1 e).1;rw[bM (by simpa using e)];simp only[Option.bind_some,zat0];rw[zbw3 l (by omega),Option.bind_some,zbi3 r _ (by simp;omega)];simp[zbC1,hs,hgp]
   .have hgp:¬GoodP r l:=λ h=>e (hg.2 ⟨h,by simp⟩);rw[bL (by simpa using e)];simp[hgp]
theorem zbr0(p:aF)(a:aC)(l:List aO):(insP p a l).length=l.length+1:=by
 induction l with
 |nil=>rfl
 |cons h t ih=>simp only[insP];split<;>simp[ih]
theorem zdd8(l:List aO)(p:aF)(a:aC):(setL l p a).length<=l.length+1:=by
 have:=zaR8 p l;unfold setL;split
 .omega
 .rw[zbr0];omega
theorem zad9{r:aD}{l:List aO}(h:zE5 r l=true):l.length<=8:=by unfold zE5 at h;simp at h;exact h.2.1
def zab9(r:aD)(l:List aO)(p:aF)(a:aC):Bool:=zE5 r l&&(zb6 p&&zb0 r a)
def zay4(r:aD)(l:List aO)(p:aF)(a:aC):Bool:=zab9 r l p a&&zE5 r (setL l p a)
theorem zcO6(r:aD)(l:List aO)(p:aF)(a:aC):zA1 r l p a=some (zab9 r l p a):=by unfold zA1 zab9;rw[zat8,Option.bind_some,fW]
theorem zcI0(r:aD)(l:List aO)(p:aF)(a:aC):zB8 r l p a=some (zay4 r l p a):=by
 unfold zB8 zay4;rw[zcO6,Option.bind_some];cases h:zab9 r l p a with
 |false=>simp
 |true=>
  have hv:zE5 r l=true:=by unfold zab9 at h;simp at h;exact h.1
  simp only[bS];rw[zad8 l p a (by have:=zad9 hv;omega),Option.bind_some,zat8];simp
theorem zcq6(r:aD)(l:List aO)(p:aF)(a:aC):zN4 r l p a=some (zay4 r l p a):=by
 unfold zN4 zay4;rw[zaF0,Option.bind_some,zaO5,zbe5,fW];change((if zab9 r l p a=true then _ else _):Option (List aO)).bind _=_;cases h:zab9 r l p a with
 |false=>unfold zab9 at h;simp[h]
 |true=>
  have hv:zE5 r l=true:=by unfold zab9 at h;simp at h;exact h.1
  unfold zab9 at h;simp only[h,bS];rw[zaq0 l p a (by have:=zad9 hv;omega),Option.bind_some,zaF0];simp
def zae0(p:aF):List aM->Nat->Option Nat
 |[],_=>none
 |w::l,i=>if w.aI=p then some i else zae0 p l (i+1)
def zM0(l:List aM)(p:aF):Int:=match zae0 p l 0 with
 |some i=>i
 |none=>-1
theorem zbC2(l:List aM)(p:aF):∀k i,i+k=l.length->zC2 (λ i=>if(l.getD i aM.zero).aI=p then some (i:Int)else none) k i=(zae0 p (l.drop i) i).map λ n:Nat=>(n:Int)
 |0,i,h=>by rw[fD (by omega)];rfl
 |k+1,i,h=>by
  rw[zan2 l i aM.zero (by omega)];simp only[zC2,zae0]
  by_cases hp:(l.getD i aM.zero).aI=p
  .simp only[hp,bS,Option.map_some]
  .simp only[hp,bU];exact zbC2 l p k (i+1) (by omega)
theorem zah6(l:List aM)(p:aF)(hl:l.length<4611686018427387904):zk2 l p=some (zM0 l p):=by
 unfold zk2;have key:zc0 (zac7 l p) 0=some ((zC2 (λ i=>if(l.getD i aM.zero).aI=p then some (Sum.inr (i:Int))else none) l.length 0).getD (Sum.inl ())):=by
  refine zD5 l.length _ (Sum.inl ()) (λ i hi=>?_) ?_
  .unfold zac7;rw[bM (by simpa using hi),za6 (by omega)];simp only[Int.toNat_natCast,bQ];split
   .rfl
   .rw[zj5 (by omega) (by omega)]
  .unfold zac7;rw[bL (by simp)]
 rw[key];have h2:=zbC2 l p l.length 0 (by omega);have h3:∀k i,zC2 (λ i=>if(l.getD i aM.zero).aI=p then some (Sum.inr (α:=Unit) (i:Int))else none) k i=(zC2 (λ i=>if(l.getD i aM.zero).aI=p then some (i:Int)else none) k i).map Sum.inr:=by
  intro k;induction k with
  |zero=>intro i;rfl
  |succ k ih=>
   intro i;simp only[zC2]
   by_cases hp:(l.getD i aM.zero).aI=p
   .simp only[hp,bS,Option.map_some]
   .simp only[hp,bU,ih]
 rw[h3,h2,eZ];unfold zM0;cases zae0 p l 0<;>rfl
theorem zaj6(l:List aM)(p:aF)(hl:l.length<4611686018427387904):zi5 l p=some (zM0 l p):=by have e:zi5 l p=zk2 l p:=rfl;rw[e];exact zah6 l p hl
theorem zaR9(w:aM):zy1 w=zg1 w:=by unfold zy1 zg1 zn4 zb6 zM5 zK6 zb0 zd3 zv7 zr5;rw[cI];simp;omega
def zR6(l:List aM):Bool:=decide (l.length<=8)&&(List.range l.length).all λ i=>zg1 (l.getD i aM.zero)&&decide (zM0 l (l.getD i aM.zero).aI=i)
theorem zaK2(l:List aM):zr1 l=some (zR6 l):=by
 unfold zr1 zR6
 by_cases h8:8<(l.length:Int)
 .rw[bM (by simpa using h8)];have:¬l.length<=8:=by omega
  simp[this]
 .rw[bL (by simpa using h8)];have hl:l.length<4611686018427387904:=by omega
  have key:zc0 (zM6 l) 0=some ((zC2 (λ i=>if(zg1 (l.getD i aM.zero)&&decide (zM0 l (l.getD i aM.zero).aI=i))=true then none else some (Sum.inr false)) l.length 0).getD (Sum.inl ())):=by
   refine zD5 l.length _ (Sum.inl ()) (λ i hi=>?_) ?_
   .unfold zM6;rw[bM (by simpa using hi),za6 (by omega)];simp only[Int.toNat_natCast]
    by_cases hv:zg1 (l.getD i aM.zero)=true
    .simp only[hv,bS,zah6 l _ hl,Option.bind_some,cW,dW,cA]
     by_cases hf:zM0 l (l.getD i aM.zero).aI=(i:Int)
     .simp only[hf,bV,cW,bN,bU,bS];rw[zj5 (by omega) (by omega)]
     .simp only[hf,dL,dU,bS,bN,bU]
    .have hv:zg1 (l.getD i aM.zero)=false:=by simpa using hv
     simp only[hv,bN,bU,Option.bind_some,dU,jG,bS,gR]
   .unfold zM6;rw[bL (by simp)]
  rw[key,zM7,<-dS];have:l.length<=8:=by omega
  simp only[this,bV,cA];cases(List.range l.length).all λ i=>zg1 (l.getD i aM.zero)&&decide (zM0 l (l.getD i aM.zero).aI=i)<;>rfl
theorem zba2(l:List aM):zr2 l=some (zR6 l):=by
 rw[<-zaK2 l];unfold zr2 zr1
 by_cases h8:8<(l.length:Int)
 .rw[bM (bZ h8),bM (bZ h8)]
 .rw[bL (by simpa using h8),bL (by simpa using h8)];have hl:l.length<4611686018427387904:=by omega
  have e:zag4 l=zM6 l:=funext λ i=>by
   unfold zag4 zM6
   by_cases hi:i<(l.length:Int)
   .rw[bM (bZ hi),bM (bZ hi)]
    by_cases h0:0<=i/\i<(l.length:Int)
    .rw[za6 h0,za6 h0,za6 (λ _=>h0)];simp only[zaR9,zaj6 l _ hl,zah6 l _ hl]
    .unfold gd;rw[bL h0,bL h0]
   .rw[bL (by simpa using hi)];rw[bL (by simpa using hi)]
  rw[e];rfl
theorem zcq7{p:aF}:∀{l:List aM} {i j:Nat},zae0 p l i=some j->i<=j/\j<i+l.length
 |w::l,i,j,h=>by
  simp only[zae0]at h;split at h
  .cases h;simp
  .have:=zcq7 h;simp only[List.length_cons];omega
theorem zcq8(l:List aM)(p:aF):zM0 l p=-1\/0<=zM0 l p/\zM0 l p<l.length:=by
 unfold zM0;cases h:zae0 p l 0 with
 |none=>exact .inl rfl
 |some j=>right;have:=zcq7 h;simp only;omega
def over(w e:aM):Bool:=decide (e.aV<w.aV)&&decide (e.bE<3)
theorem zdo6(w e:aM):decide (zax7 w e=1)=over w e:=by unfold zax7 over;cases(decide (e.aV<w.aV)&&decide (e.bE<3))<;>rfl
def zC3(l:List aM)(w:aM):Nat->Nat
 |0=>0
 |k+1=>if over w (l.getD k aM.zero)=true then zC3 l w k else k+1
theorem zaO6(l:List aM)(w:aM):∀k,zC3 l w k<=k
 |0=>cQ _
 |k+1=>by unfold zC3;split<;>have:=zaO6 l w k<;>omega
def bump(e:aM):aM:={e with bE:=IntKind.i64.wrap (e.bE+1)}
def zaA3(l:List aM)(w:aM)(n:Nat):List aM:=l.take n++w::(l.drop n).map bump
def insS(l:List aM)(w:aM):List aM×Int×Int:=
 if zR6 l=false then([],0,2)
 else if zg1 w=false\/w.bE≠0 then([],0,1)
 else if 0<=zM0 l w.aI then([],0,11)
 else if l.length=8 then([],0,4)
 else(zaA3 l w (zC3 l w l.length),(zC3 l w l.length:Int),0)
theorem zaS0{l:List aM}(h:zR6 l=true):l.length<=8:=by simp only[zR6,bK,bQ]at h;exact h.1
theorem zbP4(l:List aM)(w:aM):zx0 l w=some (insS l w):=by
 unfold zx0 insS;rw[zaK2,Option.bind_some];cases hv:zR6 l with
 |false=>rfl
 |true=>
  have h8:=zaS0 hv;simp only[cW,bN,dY,bU]
  by_cases hw:zg1 w=false\/w.bE≠0
  .rw[bM hw,bM (by rcases hw with h|h<;>simp[h])]
  .have hw1:zg1 w=true:=by simpa usingλ h=>hw (.inl h)
   have hw2:w.bE=0:=by simpa usingλ h=>hw (.inr h)
   rw[bL hw,bL (by simp[hw1,hw2]),zah6 _ _ (by omega),Option.bind_some]
   by_cases hf:0<=zM0 l w.aI
   .rw[bM hf,bM (bZ hf)]
   .rw[bL hf,bL (by simpa using hf)]
    by_cases h9:l.length=8
    .rw[bM h9,bM (bZ (by omega))]
    .rw[bL h9,bL (by simp;omega),zj5 (by omega) (by omega),za6 (by omega)];have e1:((l.length:Int)+1).toNat=l.length+1:=by omega
     rw[e1,List.take_zero,List.nil_append,dG (show l.length<=l.length+1 by omega),dC,fN (show l.length<=l.length+1 by omega)];obtain⟨x,hx,h1,h2,h3,h4⟩:=zap9 (body:=zag6 w) (λ g=>∃i:Nat,g.1=i/\i<=l.length/\g.2.length=l.length+1/\g.2.take i=l.take i/\g.2.drop (i+1)=(l.drop i).map bump/\zC3 l w l.length=zC3 l w i) (λ g=>g.1.toNat)
      (λ x=>x.1=(zC3 l w l.length:Nat)/\x.2.length=l.length+1/\x.2.take (zC3 l w l.length)=l.take (zC3 l w l.length)/\x.2.drop (zC3 l w l.length+1)=(l.drop (zC3 l w l.length)).map bump) (λ g ⟨i,g1,g2,g3,g4,g5,g6⟩=>by
       obtain⟨gi,r⟩:=g;simp only at g1 g3 g4 g5;subst g1;unfold zag6;simp only[zdo6];cases i with
       |zero=>refine .inr ⟨(0,r),?_,by simp[g6,zC3],g3,by simp[g6,zC3],by simpa [g6,zC3]using g5⟩;rw[za6 (by simp)];rfl
       |succ i=>
        have hgd:r.getD i aM.zero=l.getD i aM.zero:=by rw[<-zcc8 r i (i+1) _ (by omega),g4,zcc8 _ _ _ _ (by omega)]
        have e2:IntKind.i64.wrap (((i+1:Nat):Int)-1)=(i:Int):=by rw[zj5 (by omega) (by omega)];omega
        simp only[e2,Int.toNat_natCast,hgd];rw[za6 (by omega)]
        by_cases ho:over w (l.getD i aM.zero)=true
        .left;rw[bM (by simp only[ho,eP,bQ];omega),za6 (by omega),za6 (by omega),za6 (by omega),za6 (by omega),zav7 _ _ _ _ (by omega),List.set_set];refine⟨_,rfl,⟨i,rfl,by omega,by simpa using g3,?_,?_,by rw[g6,zC3,bM ho]⟩,by simp only[Int.toNat_natCast];omega⟩
         .rw[iA (by omega)];have:=cU (List.take i) g4;rwa [iJ,iJ,fN (by omega)]at this
         .rw[zan2 l i aM.zero (by omega),cN,<-g5,fE (by rw[dP];omega),List.getElem_set_self,jD (by omega)];rfl
        .right;refine⟨((i+1:Nat),r),?_,by rw[g6,zC3,bL ho],g3,?_,?_⟩
         .rw[bL (by rw[bK];exactλ h=>ho h.2)]
         .rw[g6,zC3,bL ho];exact g4
         .rw[g6,zC3,bL ho];exact g5) ((l.length:Int),l++List.drop l.length (List.replicate (l.length+1) aM.zero)) ⟨l.length,rfl,cQ _,by simp,by simp,by simp,rfl⟩
     rw[hx,Option.bind_some];have hp:=zaO6 l w l.length;obtain⟨xi,r⟩:=x;simp only at h1 h2 h3 h4;subst h1;unfold zas9;rw[za6 (by simp only;omega)];simp only[Int.toNat_natCast,zaA3];rw[gF,bM (by omega),h3,h4]
theorem zbE5(l:List aM)(w:aM):zv5 l w=some (insS l w):=by
 unfold zv5 insS;rw[zba2,Option.bind_some];cases hv:zR6 l with
 |false=>rfl
 |true=>
  have h8:=zaS0 hv;simp only[cW,bN,dY,bU,zaR9]
  by_cases hw:zg1 w=false\/w.bE≠0
  .rw[bM hw,bM (by rcases hw with h|h<;>simp[h])]
  .have hw1:zg1 w=true:=by simpa usingλ h=>hw (.inl h)
   have hw2:w.bE=0:=by simpa usingλ h=>hw (.inr h)
   rw[bL hw,bL (by simp[hw1,hw2]),zaj6 _ _ (by omega),Option.bind_some]
   by_cases hf:0<=zM0 l w.aI
   .rw[bM hf,bM (bZ hf)]
   .rw[bL hf,bL (by simpa using hf)]
    by_cases h9:l.length=8
    .rw[bM h9,bM (bZ (by omega))]
    .rw[bL h9,bL (by simp;omega)];have h2:=zbP0 (body:=zab8 l w) (λ g=>∃i:Nat,g=i/\i<=l.length) (λ g=>g.toNat) (λ g=>((zC3 l w g.toNat:Nat):Int)) (λ g ⟨i,g1,g2⟩=>by
      subst g1;unfold zab8;cases i with
      |zero=>right;rw[za6 (by simp),za6 (by simp)];rfl
      |succ i=>
       have e2:IntKind.i64.wrap (((i+1:Nat):Int)-1)=(i:Int):=by rw[zj5 (by omega) (by omega)];omega
       simp only[e2,Int.toNat_natCast];rw[za6 (by omega),za6 (by omega),fW]
       by_cases ho:over w (l.getD i aM.zero)=true
       .left;rw[bM (by unfold over at ho;simp only[ho,eP,bQ];omega)];exact⟨_,rfl,⟨i,rfl,by omega⟩,by simp only[Int.toNat_natCast];omega,by simp only[Int.toNat_natCast,zC3,ho,bS]⟩
       .right;rw[bL (by rw[bK];exactλ h=>ho h.2)];simp only[zC3,bL ho]) (l.length:Int) ⟨l.length,rfl,cQ _⟩
     rw[h2,Option.bind_some];simp only[Int.toNat_natCast];have hp:=zaO6 l w l.length;generalize zC3 l w l.length=n at hp;unfold zT4;simp only[Int.toNat_natCast];rw[za6 (by omega),za6 (by simp;omega),za6 (by simp;omega)];have key:=zcq1 (body:=zT3 l) l.length (λ i s=>.inl (s++[bump (l.getD i aM.zero)])) (λ s=>s) (λ i s=>s.length<=i+1) (λ i s hi hs=>by
      refine⟨?_,λ s' h=>by cases h;simp;omega⟩;unfold zT3;rw[bM (bZ (by simp only;omega)),za6 (by simp only;omega),za6 (by simp only;omega),zj5 (by simp only;omega) (by simp only;omega)];rfl) (λ s hs=>by
      unfold zT3;rw[bL (by simp)]) (l.length-n) n (l.take n++[w]) (by omega) (by simp only[bP,dM,List.length_cons,List.length_nil];omega)
     have e3:(l.drop n).take (l.length-n)=l.drop n:=dG (by simp);rw[key,zbP1,zbP2 l aM.zero bump _ n (by omega),e3,Option.bind_some];simp[zap6,zaA3]
theorem zbr1(a b:List aM)(hl:a.length<4611686018427387904):zc7 a b=some (decide (a=b)):=by
 unfold zc7
 by_cases h:a.length=b.length
 .rw[bL (by simp[h])];exact zbv8 a b aM.zero hl h λ i=>rfl
 .rw[bM (by simp;omega)];have:a≠b:=λ e=>h (by rw[e]);simp[this]
def notP(p:aF)(w:aM):Bool:=!decide (w.aI=p)
def rmL(l:List aM)(p:aF):List aM:=l.filter (notP p)
theorem zdo7(l:List aM)(p:aF):(rmL l p).length<=l.length:=gD _ _
theorem zaq1(l:List aM)(p:aF)(hl:l.length<4294967296):zh5 l p=some (rmL l p,decide ((rmL l p).length<l.length)):=by
 unfold zh5;have key:=zcc7 (body:=zW1 l p) l.length (λ i s=>.inl (if notP p (l.getD i aM.zero)=true then s++[l.getD i aM.zero]else s)) (λ s=>s) (λ i s=>s.length<=i) (λ i s hi hs=>by
  refine⟨?_,λ s' h=>by simp only[dQ]at h;subst h;split<;>first|omega|(simp only[bP,List.length_cons,List.length_nil];omega)⟩;unfold zW1;rw[bM (bZ (by simp only;omega)),za6 (by simp only;omega),zj5 (by simp only;omega) (by simp only;omega)];simp only[Int.toNat_natCast]
  by_cases hp:(!decide ((l.getD i aM.zero).aI=p))=true
  .rw[bM hp,bM (show notP p _=true from hp),za6 (by omega)]
  .rw[bL hp,bL (show¬notP p _=true from hp)]) (λ s hs=>by
  unfold zW1;rw[bL (by simp)]) [] (eY _)
 rw[key,zbm6 l aM.zero (notP p) l.length 0 [] (by omega),List.nil_append,eZ,Option.bind_some];unfold zas6 rmL;simp
theorem zal4(l:List aM)(p:aF)(hl:l.length<4294967296):ze8 l p=some (rmL l p,decide ((rmL l p).length<l.length)):=by
 unfold ze8;have key:=zcc7 (body:=zS9 l p) l.length (λ i s=>.inl (if notP p (l.getD i aM.zero)=true then s++[l.getD i aM.zero]else s)) (λ s=>s) (λ i s=>s.length<=i) (λ i s hi hs=>by
  refine⟨?_,λ s' h=>by simp only[dQ]at h;subst h;split<;>first|omega|(simp only[bP,List.length_cons,List.length_nil];omega)⟩;unfold zS9;rw[bM (bZ (by simp only;omega)),za6 (by simp only;omega),zj5 (by simp only;omega) (by simp only;omega)];simp only[Int.toNat_natCast]
  by_cases hp:(!decide ((l.getD i aM.zero).aI=p))=true
  .rw[bM hp,bM (show notP p _=true from hp),za6 (by omega),za6 (by omega)]
  .rw[bL hp,bL (show¬notP p _=true from hp)]) (λ s hs=>by
  unfold zS9;rw[bL (by simp)]) [] (eY _)
 rw[key,zbm6 l aM.zero (notP p) l.length 0 [] (by omega),List.nil_append,eZ,Option.bind_some];unfold zao9 rmL;simp
theorem zbP5{p:aF}:∀{l:List aM} {i:Nat},zae0 p l i=none↔∀w∈l,w.aI≠p
 |[],i=>by simp[zae0]
 |w::l,i=>by
  simp only[zae0]
  by_cases h:w.aI=p
  .simp[h]
  .simp only[h,bU,zbP5 (l:=l),bY,forall_eq_or_imp,ne_eq,fS,fX]
theorem zbw4{l:List aM}{p:aF}:¬0<=zM0 l p↔∀w∈l,w.aI≠p:=by rw[<-zbP5 (i:=0)];unfold zM0;cases zae0 p l 0<;>simp
theorem zbw5{w:aM}(h:zg1 w=true):0<=w.bE/\w.bE<=3:=by unfold zg1 at h;simp only[bK,bQ]at h;exact⟨h.1.2,h.2⟩
theorem zdA5(e:aM):(bump e).aI=e.aI:=rfl
theorem zcq9(s:ByteArray):zI0 s=zD7 s:=by unfold zI0 zD7 zx7;generalize(s.toList==_)=a;generalize(s.toList==_)=b;generalize(s.toList==_)=c;generalize(s.toList==_)=d;generalize(s.toList==_)=e;cases a<;>cases b<;>cases c<;>cases d<;>cases e<;>rfl
def chI(s:ByteArray)(i:Nat):Int:=((s.toList.getD i 0).toNat:Int)
def okC(s:ByteArray)(i:Nat):Bool:=zK3 (chI s i)||(!decide (i=0)&&zz8 (chI s i))
theorem zbr2(s:ByteArray)(hl:s.size<=12):zc0 (zz9 s) 0=some (if(List.range s.size).all (okC s)=true then .inl ()else .inr false):=by
 have key:zc0 (zz9 s) 0=some ((zC2 (λ i=>if okC s i=true then none else some (Sum.inr false)) s.size 0).getD (Sum.inl ())):=by
  refine zD5 s.size _ (Sum.inl ()) (λ i hi=>?_) ?_
  .unfold zz9;rw[bM (by simpa using hi),za6 (by omega),zj5 (by omega) (by omega)];simp only[Int.toNat_natCast];have e:((!((decide (97<=((s.toList.getD i 0).toNat:Int)))&&(decide (((s.toList.getD i 0).toNat:Int)<=122))))&&((decide ((i:Int)=0))||(!((((decide (48<=((s.toList.getD i 0).toNat:Int)))&&(decide (((s.toList.getD i 0).toNat:Int)<=57)))||(decide (((s.toList.getD i 0).toNat:Int)=95)))||(decide (((s.toList.getD i 0).toNat:Int)=45))))))=!okC s i:=by
    unfold okC zz8 zK3 chI;generalize((s.toList.getD i 0).toNat:Int)=c;rw[cI];simp;omega
   cases hk:okC s i
   .rw[hk]at e;exact bM e
   .rw[hk]at e;exact bL (by rw[show _=false from e];decide)
  .unfold zz9;rw[bL (by simp)]
 rw[key,zM7,<-dS];cases(List.range s.size).all (okC s)<;>rfl
theorem zbE6(s:ByteArray)(hl:s.size<=12):zc0 (zD8 s) 0=some (if(List.range s.size).all (λ i=>zz8 (chI s i))=true then .inl ()else .inr false):=by
 have key:zc0 (zD8 s) 0=some ((zC2 (λ i=>if zz8 (chI s i)=true then none else some (Sum.inr false)) s.size 0).getD (Sum.inl ())):=by
  refine zD5 s.size _ (Sum.inl ()) (λ i hi=>?_) ?_
  .unfold zD8;rw[bM (by simpa using hi),za6 (by omega),zj5 (by omega) (by omega)];simp only[Int.toNat_natCast];show(if(!zz8 (chI s i))=true then _ else _)=_;cases zz8 (chI s i)<;>rfl
  .unfold zD8;rw[bL (by simp)]
 rw[key,zM7,<-dS];cases(List.range s.size).all (λ i=>zz8 (chI s i))<;>rfl
def zW8(s:ByteArray):Bool:=decide (1<=s.size)&&(decide (s.size<=12)&&(!zD7 s&&(List.range s.size).all (okC s)))
theorem zaz7(s:ByteArray):zc6 s=some (zW8 s):=by
 unfold zc6 zW8;rw[zcq9]
 by_cases h1:s.size<1
 .have:¬1<=s.size:=by omega
  rw[bM (by simp;omega)];simp[this]
 by_cases h2:12<s.size
 .have:¬s.size<=12:=by omega
  rw[bM (by simp;omega)];simp[this]
 cases hr:zD7 s
 .rw[bL (by simp;omega),zbr2 s (by omega)];have a1:1<=s.size:=by omega
  have a2:s.size<=12:=by omega
  simp only[a1,a2,bV,cA,dU];cases(List.range s.size).all (okC s)<;>rfl
 .rw[bM (by simp)];simp
theorem zbk0(s:ByteArray):zi7 s=some (zW8 s):=by
 unfold zi7 zW8
 by_cases h1:s.size<1
 .have:¬1<=s.size:=by omega
  rw[za6 (by simp;omega),bM (by simp;omega)];simp[this]
 by_cases h2:12<s.size
 .have:¬s.size<=12:=by omega
  rw[za6 (by simp;omega),bM (by simp;omega)];simp[this]
 have a1:1<=s.size:=by omega
 have a2:s.size<=12:=by omega
 rw[za6 (by intro _;omega)];have c0:((s.toList.getD 0 0).toNat:Int)=chI s 0:=rfl;have d1:decide ((s.size:Int)<1)=false:=by simp;omega
 have d2:decide (12<(s.size:Int))=false:=by simp;omega
 simp only[a1,a2,bV,cA,c0,d1,d2,dW];have hall:(List.range s.size).all (okC s)=(zK3 (chI s 0)&&(List.range s.size).all λ i=>zz8 (chI s i)):=by
  rw[cI];simp only[dB,dN,bK,okC,dT,cK,cS];constructor
  .intro h;refine⟨?_,λ i hi=>?_⟩
   .rcases h 0 (by omega)with h|h
    .exact h
    .exact absurd rfl h.1
   .rcases h i hi with h|h
    .unfold zz8;simp[h]
    .exact h.2
  .rintro⟨h0,h⟩ i hi
   by_cases hz:i=0
   .subst hz;exact .inl h0
   .exact .inr ⟨hz,h i hi⟩
 rw[hall];cases hr:zD7 s
 .cases hL:zK3 (chI s 0)
  .rfl
  .simp only[cW,gJ,bN,bU,zbE6 s a2,dU,cA];cases(List.range s.size).all (λ i=>zz8 (chI s i))<;>rfl
 .simp
def resV(r:aD):Bool:=zW8 r.name&&(zd3 r&&(decide (0<=r.home)&&decide (r.home<4)))
theorem zaF1(r:aD):zc4 r=some (resV r):=by unfold zc4 resV;rw[zaz7];simp only[Option.bind_some,fW]
theorem zbr3(r:aD):zi4 r=some (resV r):=by unfold zi4 resV;rw[zbk0,zaO4];simp only[Option.bind_some,fW]
def getH(l:List aO)(p:aF):aC:=match l.find? λ h=>decide (h.aI=p)with
 |some h=>h.aK
 |none=>aC.zero
theorem zbP6(l:List aO)(p:aF):∀k i,i+k=l.length->((zC2 (λ i=>if(l.getD i aO.zero).aI=p then some (Sum.inr (α:=Unit) (l.getD i aO.zero).aK)else none) k i).getD (Sum.inl ()))=match(l.drop i).find? λ h=>decide (h.aI=p)with
  |some h=>Sum.inr h.aK
  |none=>Sum.inl ()
 |0,i,h=>by rw[fD (by omega)];rfl
 |k+1,i,h=>by
  rw[zan2 l i aO.zero (by omega)];simp only[zC2,List.find?_cons]
  by_cases hp:(l.getD i aO.zero).aI=p
  .simp only[hp,bS,bV,Option.getD_some]
  .simp only[hp,bU,dL];exact zbP6 l p k (i+1) (by omega)
theorem zba3(l:List aO)(p:aF)(hl:l.length<4611686018427387904):zi2 l p=some (getH l p):=by
 unfold zi2;have key:zc0 (zI1 l p) 0=some ((zC2 (λ i=>if(l.getD i aO.zero).aI=p then some (Sum.inr (α:=Unit) (l.getD i aO.zero).aK)else none) l.length 0).getD (Sum.inl ())):=by
  refine zD5 l.length _ (Sum.inl ()) (λ i hi=>?_) ?_
  .unfold zI1;rw[bM (by simpa using hi),za6 (by omega),zj5 (by omega) (by omega)];simp only[Int.toNat_natCast,bQ];split<;>rfl
  .unfold zI1;rw[bL (by simp)]
 rw[key,zbP6 l p l.length 0 (by omega),eZ];unfold getH;cases l.find? λ h=>decide (h.aI=p)<;>rfl
theorem zaS1(l:List aO)(p:aF)(hl:l.length<4611686018427387904):zl8 l p=some (getH l p):=by
 rw[<-zba3 l p hl];unfold zl8 zi2;have e:zao7 l p=zI1 l p:=funext λ i=>by
  unfold zao7 zI1
  by_cases h:0<=i/\i<(l.length:Int)
  .simp only[za6 h]
  .by_cases hi:i<(l.length:Int)
   .rw[bM (bZ hi),bM (bZ hi),gdn h,gdn h]
   .rw[bL (by simpa using hi),bL (by simpa using hi)]
 rw[e];rfl
theorem zaB4(a:aC):zd6 a=zf8 a:=rfl
abbrev covM(a b:Int):Bool:=zP6 a b
theorem zba4(a b:Int):covM a b=true↔(1<=a/\a<=5/\1<=b/\b<=5)/\(a=b\/a=5\/b=1\/a=4/\b≠5):=by
 unfold covM zP6 zv7
 by_cases h:1<=a/\a<=5/\1<=b/\b<=5
 .rw[bL (by simp;omega)];simp;omega
 .rw[bM (by simp;omega)];simp;omega
theorem zaF2(a b:Int):zl6 a b=some (covM a b):=by
 unfold zl6 zr5;rw[za6 (by simp;omega)];congr 1;rw[cI,zba4]
 by_cases h:1<=a/\a<=5/\1<=b/\b<=5
 .obtain⟨h1,h2,h3,h4⟩:=h;have ha:a=1\/a=2\/a=3\/a=4\/a=5:=by omega
  have hb:b=1\/b=2\/b=3\/b=4\/b=5:=by omega
  rcases ha with rfl|rfl|rfl|rfl|rfl<;>rcases hb with rfl|rfl|rfl|rfl|rfl<;>decide
 .constructor
  .intro hh;simp only[bK,bQ]at hh;omega
  .rintro⟨hh,_⟩;exact absurd hh h
def covA(r:aD)(a b:aC):Bool:=zk3 r a b
theorem zat9(r:aD)(a b:aC):zo5 r a b=some (covA r a b):=by unfold zo5 covA zk3;simp only[zbe6,zaB4,zaF2,Option.bind_some];cases zb2 r a<;>cases zb2 r b<;>simp;cases ha:zf8 a<;>cases hb:zf8 b<;>simp;split<;>rfl
theorem zJ8(q:aA)(p:aF)(hl:q.aL.length<4611686018427387904):zj4 q p=some (getH q.aL p):=by unfold zj4;rw[zba3 _ _ hl];rfl
theorem zx5(q:aA)(p:aF)(hl:q.aL.length<4611686018427387904):zg7 q p=some (getH q.aL p):=by unfold zg7;rw[zaS1 _ _ hl];rfl
theorem hb(b:Bool):b=true\/b=false:=by cases b<;>simp
def cvI(q:aA)(i:Nat):Bool:=
 let w:=q.aH.getD i aM.zero
 let h:=getH q.aL w.aI
 decide (zM0 q.aH w.aI=(i:Int))&&(!zf8 h&&(zb0 q.aB w.aK&&(covA q.aB w.aK h&&(!decide (w.aK=h)&&(decide (w.aV=0)&&decide (w.bE=0))))))
def cvOk(q:aA):Bool:=decide (q.aH.length<=8)&&(List.range q.aH.length).all (cvI q)
def wtI(q:aA)(i:Nat):Bool:=
 let w:=q.aT.getD i aM.zero
 zb0 q.aB w.aK&&zf8 (getH q.aL w.aI)
def wtOk(q:aA):Bool:=zR6 q.aT&&(decide (q.aL.length+q.aT.length<=8)&&(List.range q.aT.length).all (wtI q))
theorem zbX6(q:aA)(hl:q.aL.length<4611686018427387904)(hc:q.aH.length<=8):zc0 (zx1 q) 0=some (if(List.range q.aH.length).all (cvI q)=true then .inl ()else .inr false):=by
 have key:zc0 (zx1 q) 0=some ((zC2 (λ i=>if cvI q i=true then none else some (Sum.inr false)) q.aH.length 0).getD (Sum.inl ())):=by
  refine zD5 q.aH.length _ (Sum.inl ()) (λ i hi=>?_) ?_
  .unfold zx1;rw[bM (by simpa using hi),za6 (by omega),zj5 (by omega) (by omega),Int.toNat_natCast];unfold cvI;generalize q.aH.getD i aM.zero=w;rw[zJ8 q _ hl,Option.bind_some,zah6 _ _ (show q.aH.length<4611686018427387904 by omega),Option.bind_some];simp only[zat9];rcases hb (decide (zM0 q.aH w.aI=(i:Int)))with c1|c1<;>rcases hb (zf8 (getH q.aL w.aI))with c2|c2<;>rcases hb (zb0 q.aB w.aK)with c3|c3<;>rcases hb (covA q.aB w.aK (getH q.aL w.aI))with c4|c4<;>
    rcases hb (decide (w.aK=getH q.aL w.aI))with c5|c5<;>rcases hb (decide (w.aV=0))with c6|c6<;>rcases hb (decide (w.bE=0))with c7|c7<;>
    simp only[c1,c2,c3,c4,c5,c6,c7,cW,dU,jY,jG,Bool.or_false,dW,eP,cA,gZ,gR,bS,bU,bN,Option.bind_some,gJ,iH]
  .unfold zx1;rw[bL (by simp)]
 rw[key,zM7,<-dS];cases(List.range q.aH.length).all (cvI q)<;>rfl
theorem zaS2(q:aA)(hl:q.aL.length<4611686018427387904):zo1 q=some (cvOk q):=by
 unfold zo1 cvOk
 by_cases h:8<q.aH.length
 .have:¬q.aH.length<=8:=by omega
  rw[bM (by simp;omega)];simp[this]
 .have h8:q.aH.length<=8:=by omega
  rw[bL (by simp;omega),zbX6 q hl h8];simp only[h8,bV,cA];cases(List.range q.aH.length).all (cvI q)<;>rfl
theorem zbP7(q:aA)(hl:q.aL.length<4611686018427387904)(hc:q.aT.length<=8):zc0 (zx9 q) 0=some (if(List.range q.aT.length).all (wtI q)=true then .inl ()else .inr false):=by
 have key:zc0 (zx9 q) 0=some ((zC2 (λ i=>if wtI q i=true then none else some (Sum.inr false)) q.aT.length 0).getD (Sum.inl ())):=by
  refine zD5 q.aT.length _ (Sum.inl ()) (λ i hi=>?_) ?_
  .unfold zx9;rw[bM (by simpa using hi),za6 (by omega),zj5 (by omega) (by omega),Int.toNat_natCast];unfold wtI;generalize q.aT.getD i aM.zero=w;rw[zJ8 q _ hl];rcases hb (zf8 (getH q.aL w.aI))with c2|c2<;>rcases hb (zb0 q.aB w.aK)with c3|c3<;>simp only[c2,c3,cW,dU,jY,jG,Bool.or_false,dW,eP,cA,gZ,gR,bS,bU,bN,Option.bind_some,gJ,iH]
  .unfold zx9;rw[bL (by simp)]
 rw[key,zM7,<-dS];cases(List.range q.aT.length).all (wtI q)<;>rfl
theorem zbi4(q:aA)(hl:q.aL.length<=1000000):zr9 q=some (wtOk q):=by
 unfold zr9 wtOk;rw[zaK2,Option.bind_some];cases hv:zR6 q.aT
 .simp
 .have h8:=zaS0 hv;rw[zj5 (by omega) (by omega)]
  by_cases h:8<q.aL.length+q.aT.length
  .have:¬q.aL.length+q.aT.length<=8:=by omega
   rw[bM (by simp;omega)];simp[this]
  .have h9:q.aL.length+q.aT.length<=8:=by omega
   rw[bL (by simp;omega),zbP7 q (by omega) h8];simp only[h9,bV,cA];cases(List.range q.aT.length).all (wtI q)<;>rfl
def zaK3(q:aA):Bool:=resV q.aB&&(zE5 q.aB q.aL&&(cvOk q&&(wtOk q&&(decide (0<=q.gen)&&decide (q.gen<=1073741824)))))
theorem zbP8(q:aA):zJ2 q=some (zaK3 q):=by
 unfold zJ2 zaK3;rw[zaF1,Option.bind_some];cases resV q.aB
 .simp
 .simp only[bS,zat8,Option.bind_some,cA];cases hv:zE5 q.aB q.aL
  .simp
  .have hl:=zad9 hv;simp only[bS,zaS2 q (by omega),Option.bind_some,cA];cases cvOk q
   .simp
   .simp only[bS,zbi4 q (by omega),Option.bind_some,cA,fW]
theorem zbP9(q:aA)(hl:q.aL.length<=1000000)(hc:q.aT.length<=8):zc0 (zag9 q) 0=some (if(List.range q.aT.length).all (wtI q)=true then .inl ()else .inr false):=by
 rw[<-zbP7 q (by omega) hc];congr 1;funext i;unfold zag9 zx9
 by_cases h:0<=i/\i<(q.aT.length:Int)
 .rw[bM (bZ h.2),bM (bZ h.2),za6 h,za6 h,za6 (λ _=>h)];simp only[zbe5,zaB4,zaS1 _ _ (show q.aL.length<4611686018427387904 by omega),zJ8 q _ (show q.aL.length<4611686018427387904 by omega)]
 .by_cases hi:i<(q.aT.length:Int)
  .rw[bM (bZ hi),bM (bZ hi),gdn h,gdn h]
  .rw[bL (by simpa using hi),bL (by simpa using hi)]
theorem zbr4(q:aA)(hl:q.aL.length<=1000000)(hc:q.aH.length<=8):zc0 (zO7 q) 0=some (if(List.range q.aH.length).all (cvI q)=true then .inl ()else .inr false):=by
 have key:zc0 (zO7 q) 0=some ((zC2 (λ i=>if cvI q i=true then none else some (Sum.inr false)) q.aH.length 0).getD (Sum.inl ())):=by
  refine zD5 q.aH.length _ (Sum.inl ()) (λ i hi=>?_) ?_
  .unfold zO7;rw[bM (by simpa using hi),za6 (by omega),zj5 (by omega) (by omega),Int.toNat_natCast];unfold cvI covA;generalize q.aH.getD i aM.zero=w;rw[zaS1 _ _ (show q.aL.length<4611686018427387904 by omega),Option.bind_some,zaj6 _ _ (show q.aH.length<4611686018427387904 by omega)];simp only[zaB4,zbe5];rcases hb (decide (zM0 q.aH w.aI=(i:Int)))with c1|c1<;>rcases hb (zf8 (getH q.aL w.aI))with c2|c2<;>rcases hb (zb0 q.aB w.aK)with c3|c3<;>rcases hb (zk3 q.aB w.aK (getH q.aL w.aI))with c4|c4<;>
    rcases hb (decide (w.aK=getH q.aL w.aI))with c5|c5<;>rcases hb (decide (w.aV=0))with c6|c6<;>rcases hb (decide (w.bE=0))with c7|c7<;>
    simp only[c1,c2,c3,c4,c5,c6,c7,cW,dU,jY,jG,Bool.or_false,dW,eP,cA,gZ,gR,bS,bU,bN,Option.bind_some,gJ,iH]
  .unfold zO7;rw[bL (by simp)]
 rw[key,zM7,<-dS];cases(List.range q.aH.length).all (cvI q)<;>rfl
theorem zaF3(q:aA):zz4 q=some (zaK3 q):=by
 unfold zz4 zaK3 cvOk wtOk;rw[zbr3,Option.bind_some];cases resV q.aB
 .simp
 .simp only[bS,zaF0,Option.bind_some,cA];cases hv:zE5 q.aB q.aL
  .simp
  .have hl:=zad9 hv
   by_cases hc:8<q.aH.length
   .have h1:¬q.aH.length<=8:=by omega
    have h2:decide (8<(q.aH.length:Int))=true:=by simp;omega
    simp[h1,h2]
   .have h1:q.aH.length<=8:=by omega
    have h2:decide (8<(q.aH.length:Int))=false:=by simp;omega
    simp only[h1,h2,cW,gJ,dU,bS,zba2,Option.bind_some,dW,bV,cA];cases hw:zR6 q.aT
    .simp
    .have h8:=zaS0 hw;simp only[cW,dW,cA];rw[zj5 (by omega) (by omega)]
     by_cases h:q.aL.length+q.aT.length<=8
     .by_cases g1:0<=q.gen
      .by_cases g2:q.gen<=1073741824
       .rw[bL (by simp;omega),zbr4 q (by omega) h1];simp only[h,g1,g2,bV,cA,eP];cases(List.range q.aH.length).all (cvI q)
        .rfl
        .simp only[bS,Option.bind_some,cA];unfold zah0;rw[zbP9 q (by omega) h8];cases(List.range q.aT.length).all (wtI q)<;>rfl
       .rw[bM (by simp;omega)];simp[g2]
      .rw[bM (by simp;omega)];simp[g1]
     .rw[bM (by simp;omega)];simp[h]
def zB2(q:aA):aM×Bool:=match q.aH++q.aT with
 |w::_=>(w,true)
 |[]=>(aM.zero,false)
theorem zaK4(q:aA):zk6 q=some (zB2 q):=by
 unfold zk6 zB2;cases q.aH with
 |cons a l=>rw[bM (by simp),za6 (by simp)];rfl
 |nil=>
  rw[bL (by simp)];cases q.aT with
  |cons a l=>rw[bM (by simp),za6 (by simp)];rfl
  |nil=>rw[bL (by simp)];rfl
theorem zbk1(q:aA):zl5 q=some (zB2 q):=by rw[<-zaK4];rfl
def ze7(q:aA):Bool:=zaK3 q&&!((zB2 q).2&&zay4 q.aB q.aL (zB2 q).1.aI (zB2 q).1.aK)
theorem zbw6(q:aA):zH0 q=some (ze7 q):=by
 unfold zH0 ze7;rw[zbP8,Option.bind_some];cases zaK3 q
 .simp
 .rw[bL (by simp),zaK4,Option.bind_some];cases(zB2 q).2<;>simp[zcI0]
theorem zaO7(q:aA):zz5 q=some (ze7 q):=by
 unfold zz5 ze7;rw[zaF3,Option.bind_some];cases zaK3 q
 .simp
 .rw[bL (by simp),zbk1,Option.bind_some];cases(zB2 q).2<;>simp[zcq6]
theorem zae1(q:aA):zz2 q=some (ze7 q):=by unfold zz2;rw[zbw6];rfl
theorem zae2(q:aA):zz6 q=some (ze7 q):=by
 unfold zz6;rw[zaF3,Option.bind_some];cases h:zaK3 q
 .simp[ze7,h]
 .simp[zaO7]
theorem zbX7(a b:List aO)(hl:a.length<4611686018427387904):zd2 a b=some (decide (a=b)):=by
 unfold zd2
 by_cases h:a.length=b.length
 .rw[bL (by simp[h])];exact zbv8 a b aO.zero hl h (λ i=>rfl)
 .rw[bM (by simp;omega)];have:a≠b:=λ e=>h (by rw[e]);simp[this]
instance:DecidableEq aA:=λ a b=>decidable_of_iff (a.aB=b.aB/\a.aL=b.aL/\a.aH=b.aH/\a.aT=b.aT/\a.gen=b.gen) (by rw[aA.ext_iff])
theorem zbX8(a b:aA)(h1:a.aL.length<4611686018427387904)(h2:a.aH.length<4611686018427387904)(h3:a.aT.length<4611686018427387904):zo0 a b=some (decide (a=b)):=by
 unfold zo0;simp only[zbX7 _ _ h1,zbr1 _ _ h2,zbr1 _ _ h3];have e:decide (a=b)=(decide (a.aB=b.aB)&&(decide (a.gen=b.gen)&&(decide (a.aL=b.aL)&&(decide (a.aH=b.aH)&&decide (a.aT=b.aT))))):=by
  rw[cI];simp only[bQ,bK,aA.ext_iff];constructor
  .rintro⟨a1,a2,a3,a4,a5⟩;exact⟨a1,a5,a2,a3,a4⟩
  .rintro⟨a1,a5,a2,a3,a4⟩;exact⟨a1,a2,a3,a4,a5⟩
 rw[e];cases decide (a.aB=b.aB)<;>cases decide (a.gen=b.gen)<;>cases decide (a.aL=b.aL)<;>cases decide (a.aH=b.aH)<;>cases decide (a.aT=b.aT)<;>rfl
def newQ(r:aD):aA×Int:=if resV r=true then({aA.zero with aB:=r},0)else(aA.zero,1)
theorem zci6(r:aD):zy9 r=some (newQ r):=by unfold zy9 newQ;rw[zaF1,Option.bind_some];cases resV r<;>rfl
theorem zcB7(a b:List aM)(ha:a.length<=1000000)(hb:b.length<=1000000):za9 [a,b]=some (a++b):=by
 unfold za9;have s0:zm0 [a,b] (0,0)=some (.inl ((a.length:Int),1)):=by unfold zm0;rw[bM (by simp),za6 (by simp)];show(if decide (IntKind.i64.wrap (0+(a.length:Int))<0)=true then none else some (Sum.inl (IntKind.i64.wrap (0+(a.length:Int)),_)))=_;rw[zj5 (by omega) (by omega),bL (by simp),Int.zero_add];rfl
 have s1:zm0 [a,b] ((a.length:Int),1)=some (.inl ((a.length:Int)+(b.length:Int),2)):=by unfold zm0;rw[bM (by simp),za6 (by simp)];show(if decide (IntKind.i64.wrap ((a.length:Int)+(b.length:Int))<0)=true then none else some (Sum.inl (IntKind.i64.wrap ((a.length:Int)+(b.length:Int)),_)))=_;rw[zj5 (by omega) (by omega),bL (by simp;omega)];rfl
 have s2:zm0 [a,b] ((a.length:Int)+(b.length:Int),2)=some (.inr ((a.length:Int)+(b.length:Int))):=by unfold zm0;rw[bL (by simp)]
 rw[zg9,s0];simp only;rw[zg9,s1];simp only;rw[zg9,s2];simp only[Option.bind_some];unfold zv2 za7;rw[za6 (by omega),Option.bind_some];have t0:zl9 [a,b] (0,[])=some (.inl (1,a)):=by unfold zl9;rw[bM (by simp),za6 (by simp),za6 (by simp;omega)];rfl
 have t1:zl9 [a,b] (1,a)=some (.inl (2,a++b)):=by unfold zl9;rw[bM (by simp),za6 (by simp),za6 (by simp;omega)];rfl
 have t2:zl9 [a,b] (2,a++b)=some (.inr (a++b)):=by unfold zl9;rw[bL (by simp)]
 rw[zg9,t0];simp only;rw[zg9,t1];simp only;rw[zg9,t2];rfl
theorem zba5(q:aA)(h1:q.aH.length<=1000000)(h2:q.aT.length<=1000000):zp0 q=some (q.aH++q.aT):=by unfold zp0;rw[zcB7 _ _ h1 h2];rfl
def zbr5(l:List aM)(p:aF):aC×Bool:=match l.find? λ w=>decide (w.aI=p)with
 |some w=>(w.aK,true)
 |none=>(aC.zero,false)
def zt0(q:aA)(p:aF):aC×Bool:=zbr5 (q.aH++q.aT) p
theorem zbC3(l:List aM)(p:aF):∀k i,i+k=l.length->((zC2 (λ i=>if(l.getD i aM.zero).aI=p then some (Sum.inr (α:=Unit) ((l.getD i aM.zero).aK,true))else none) k i).getD (Sum.inl ()))=match(l.drop i).find? λ w=>decide (w.aI=p)with
  |some w=>Sum.inr (w.aK,true)
  |none=>Sum.inl ()
 |0,i,h=>by rw[fD (by omega)];rfl
 |k+1,i,h=>by
  rw[zan2 l i aM.zero (by omega)];simp only[zC2,List.find?_cons]
  by_cases hp:(l.getD i aM.zero).aI=p
  .simp only[hp,bS,bV,Option.getD_some]
  .simp only[hp,bU,dL];exact zbC3 l p k (i+1) (by omega)
theorem zal5(q:aA)(p:aF)(h1:q.aH.length<=1000000)(h2:q.aT.length<=1000000):zn6 q p=some (zt0 q p):=by
 unfold zn6 zt0;rw[zba5 q h1 h2,Option.bind_some];have hl:(q.aH++q.aT).length<=2000000:=by rw[bP];omega
 generalize q.aH++q.aT=l at*;have key:zc0 (zT0 p l) 0=some ((zC2 (λ i=>if(l.getD i aM.zero).aI=p then some (Sum.inr (α:=Unit) ((l.getD i aM.zero).aK,true))else none) l.length 0).getD (Sum.inl ())):=by
  refine zD5 l.length _ (Sum.inl ()) (λ i hi=>?_) ?_
  .unfold zT0;rw[bM (by simpa using hi),za6 (by omega),zj5 (by omega) (by omega)];simp only[Int.toNat_natCast,bQ];split<;>rfl
  .unfold zT0;rw[bL (by simp)]
 rw[key,zbC3 l p l.length 0 (by omega),eZ];unfold zbr5;cases l.find? λ w=>decide (w.aI=p)<;>rfl
def upM(a b g:Int):Bool:=covM g a&&covM g b
def supM(a b:Int):Int:=if upM a b 1=true then 1 else if upM a b 2=true then 2 else if upM a b 3=true then 3 else if upM a b 4=true then 4 else if upM a b 5=true then 5 else 0
theorem zbX9(a b g:Int)(h1:1<=g)(h2:g<=5):zZ9 a b g=some (if upM a b g=true then .inr (.inr g)else .inl (g+1)):=by unfold zZ9 upM;rw[bM (by simpa using h2),zaF2,Option.bind_some,zj5 (by omega) (by omega),zaF2];cases covM g a<;>cases covM g b<;>rfl
theorem zci7(a b:Int):zZ9 a b 6=some (.inr (.inl ())):=by unfold zZ9;rw[bL (by decide)]
theorem zcr0{body:Int->Option (Int⊕(Unit⊕Int))}(a b:Int)(hs:∀g,1<=g->g<=5->body g=some (if upM a b g=true then .inr (.inr g)else .inl (g+1)))(he:body 6=some (.inr (.inl ()))):
  (zc0 body 1).bind (λ|.inl _=>some 0|.inr z=>some z)=some (supM a b):=by
 unfold supM;rw[zg9,hs 1 (by decide) (by decide)]
 by_cases c1:upM a b 1=true
 .simp[c1]
 simp only[c1,bN,bU];rw[show(1:Int)+1=2 from rfl,zg9,hs 2 (by decide) (by decide)]
 by_cases c2:upM a b 2=true
 .simp[c2]
 simp only[c2,bN,bU];rw[show(2:Int)+1=3 from rfl,zg9,hs 3 (by decide) (by decide)]
 by_cases c3:upM a b 3=true
 .simp[c3]
 simp only[c3,bN,bU];rw[show(3:Int)+1=4 from rfl,zg9,hs 4 (by decide) (by decide)]
 by_cases c4:upM a b 4=true
 .simp[c4]
 simp only[c4,bN,bU];rw[show(4:Int)+1=5 from rfl,zg9,hs 5 (by decide) (by decide)]
 by_cases c5:upM a b 5=true
 .simp[c5]
 simp only[c5,bN,bU];rw[show(5:Int)+1=6 from rfl,zg9,he];rfl
theorem zcr1(a b:Int):zu5 a b=some (supM a b):=zcr0 a b (zbX9 a b) (zci7 a b)
theorem zci8(a b:Int):zs6 a b=some (supM a b):=by
 refine zcr0 a b (λ g h1 h2=>?_) ?_
 .unfold zap1;rw[bM (by simpa using h2),zj5 (by omega) (by omega)];rcases hb (covM g a)with c|c<;>rcases hb (covM g b)with d|d<;>simp[upM,c,d]
 .unfold zap1;rw[bL (by decide)]
def zae3(r:aD)(a b:aC):aC:=
 if(!zb2 r a||!zb2 r b)=true then aC.zero else
 if zf8 a=true then b else if zf8 b=true then a else
 if r.kind=1 then{aC.zero with mode:=supM a.mode b.mode}else{aC.zero with aU:=if a.aU<b.aU then b.aU else a.aU}
theorem zbQ0(r:aD)(a b:aC):zs7 r a b=some (zae3 r a b):=by
 unfold zs7 zae3;simp only[zcr1,Option.bind_some];split
 .rfl
 split
 .rfl
 split
 .rfl
 by_cases h:r.kind=1
 .simp[h]
 .simp[h]
theorem zdd9:∀a∈[(1:Int),2,3,4,5],∀b∈[(1:Int),2,3,4,5],covM a b=true->supM a b=a:=by decide
theorem zcO7:∀a∈[(1:Int),2,3,4,5],∀b∈[(1:Int),2,3,4,5],covM b a=true->supM a b=b:=by decide
theorem zbY0(r:aD)(a b:aC):zC6 r a b=some (zae3 r a b):=by
 unfold zC6 zae3;simp only[zbe6,zci8,Option.bind_some];cases ha:zb2 r a
 .simp
 cases hpb:zb2 r b
 .simp
 simp only[cW,gJ,bN,bU];unfold zk3;simp only[zbe6,zaB4,ha,hpb,cW,gJ,bN,bU];rcases hb (zf8 a)with hza|hza<;>rcases hb (zf8 b)with hzb|hzb
 rotate_left 3
 .simp only[hza,hzb,bN,bU]
  by_cases hk:r.kind=1
  .have pa:=zat7 ha hk;have pb:=zat7 hpb hk;have na:a.mode≠0:=λ h=>by
    have:a=aC.zero:=by cases a;simp only at*;simp[aC.zero];omega
    rw[this]at hza;exact absurd hza (by decide)
   have nb:b.mode≠0:=λ h=>by
    have:b=aC.zero:=by cases b;simp only at*;simp[aC.zero];omega
    rw[this]at hzb;exact absurd hzb (by decide)
   have ma:a.mode∈[(1:Int),2,3,4,5]:=by simp;omega
   have mb:b.mode∈[(1:Int),2,3,4,5]:=by simp;omega
   have ea:a={aC.zero with mode:=a.mode}:=by cases a;simp only at*;simp[aC.zero];omega
   have eb:b={aC.zero with mode:=b.mode}:=by cases b;simp only at*;simp[aC.zero];omega
   simp only[hk,bV,bS]
   by_cases c1:covM a.mode b.mode=true
   .rw[bM c1,zdd9 _ ma _ mb c1];exact cU some ea
   .rw[bL c1]
    by_cases c2:covM b.mode a.mode=true
    .rw[bM c2,zcO7 _ ma _ mb c2];exact cU some eb
    .rw[bL c2]
  .have hk2:r.kind=2:=by
    have:=ha;rw[perm_iff,zG2,zW7]at this;omega
   have pa:=zbe7 ha hk2;have pb:=zbe7 hpb hk2;have ea:a={aC.zero with aU:=a.aU}:=by cases a;simp only at*;simp[aC.zero];omega
   have eb:b={aC.zero with aU:=b.aU}:=by cases b;simp only at*;simp[aC.zero];omega
   have d:decide (r.kind=1)=false:=by simpa using hk
   simp only[d,hk,bN,bU,bQ]
   by_cases c1:b.aU<=a.aU
   .have:¬a.aU<b.aU:=by omega
    rw[bM c1,bL this];exact cU some ea
   .have:a.aU<b.aU:=by omega
    have c2:a.aU<=b.aU:=by omega
    rw[bL c1,bM c2,bM this];exact cU some eb
 .have e0:a=aC.zero:=by unfold zf8 at hza;simpa using hza
  have e1:b=aC.zero:=by unfold zf8 at hzb;simpa using hzb
  simp only[hza,hzb,bS];rw[e0,e1]
 .simp only[hza,hzb,bS,bN,bU]
 .simp only[hza,hzb,bS,bN,bU]
theorem zdo8(g:Int):zaB3 g=zt3 g:=rfl
theorem zaF4(q:aA)(h1:q.aL.length<=1000000)(h2:q.aH.length<=1000000)(h3:q.aT.length<=1000000):zi3 q=some q:=by unfold zi3;rw[za6 (by omega),za6 (by omega),za6 (by omega)]
theorem zbw7(q:aA)(h1:q.aL.length<=1000000)(h2:q.aH.length<=1000000)(h3:q.aT.length<=1000000):zg6 q=some q:=by unfold zg6;rw[za6 (by omega),za6 (by omega),za6 (by omega)]
theorem zaj7(q:aA)(h1:q.aL.length<=1000000)(h2:q.aH.length<=1000000)(h3:q.aT.length<=1000000):zj0 q=some q:=by unfold zj0;rw[za6 (by omega),za6 (by omega),za6 (by omega)]
theorem zbE7(q:aA)(h1:q.aL.length<=1000000)(h2:q.aH.length<=1000000)(h3:q.aT.length<=1000000):zh8 q=some q:=by unfold zh8;rw[za6 (by omega),za6 (by omega),za6 (by omega)]
def popQ(q:aA):aA:=
 if 0<q.aH.length then{q with aL:=setL q.aL (zB2 q).1.aI (zB2 q).1.aK,aH:=q.aH.drop 1}
 else{q with aL:=setL q.aL (zB2 q).1.aI (zB2 q).1.aK,aT:=q.aT.drop 1}
def canQ(q:aA):Bool:=(zB2 q).2&&zay4 q.aB q.aL (zB2 q).1.aI (zB2 q).1.aK
def zaO8(s:aA×List aO):aA×List aO:=(popQ s.1,s.2++[⟨(zB2 s.1).1.aI,(zB2 s.1).1.aK⟩])
def advN:Nat->aA×List aO->aA×List aO
 |0,s=>s
 |n+1,s=>if canQ s.1=true then advN n (zaO8 s)else s
def zL5(q:aA):Nat:=q.aH.length+q.aT.length
def advQ(q:aA):aA×List aO:=advN (zL5 q) (q,[])
theorem zah7{q:aA}(h:canQ q=true):0<zL5 q/\zL5 (popQ q)+1=zL5 q/\q.aL.length<=8:=by
 unfold canQ at h;simp only[bK]at h;obtain⟨h1,h2⟩:=h;have hv:zE5 q.aB q.aL=true:=by unfold zay4 zab9 at h2;simp only[bK]at h2;exact h2.1.1
 refine⟨?_,?_,zad9 hv⟩
 .unfold zB2 at h1;unfold zL5;cases hc:q.aH with
  |cons a l=>simp;omega
  |nil=>
   cases hw:q.aT with
   |cons a l=>simp
   |nil=>simp[hc,hw]at h1
 .unfold zB2 at h1;unfold zL5 popQ;cases hc:q.aH with
  |cons a l=>simp;omega
  |nil=>
   cases hw:q.aT with
   |cons a l=>simp
   |nil=>simp[hc,hw]at h1
theorem zaO9(s:aA×List aO):advN (zL5 s.1) s=if canQ s.1=true then advN (zL5 (zaO8 s).1) (zaO8 s)else s:=by
 cases hc:canQ s.1 with
 |false=>
  cases hn:zL5 s.1 with
  |zero=>rfl
  |succ n=>simp[advN,hc]
 |true=>obtain⟨h1,h2,_⟩:=zah7 hc;have:zL5 s.1=zL5 (popQ s.1)+1:=h2.symm;rw[this];simp[advN,hc,zaO8]
theorem zci9(g:aA×List aO)(hg:g.2.length<=1000000):zL1 g=some (if canQ g.1=true then .inl (zaO8 g)else .inr g):=by
 unfold zL1;rw[zaK4,Option.bind_some];rcases hb (zB2 g.1).2 with h2|h2
 .rw[bM h2,zcI0,Option.bind_some];rcases hb (zay4 g.1.aB g.1.aL (zB2 g.1).1.aI (zB2 g.1).1.aK)with hr|hr
  .have hc:canQ g.1=true:=by unfold canQ;rw[h2,hr];rfl
   obtain⟨_,_,hl⟩:=zah7 hc;rw[bL (by rw[h2,hr];decide),bM hc];unfold zaO8 popQ
   by_cases h0:0<g.1.aH.length
   .rw[bM (by simpa using h0),za6 (by omega),bM h0];unfold zE0;rw[zad8 _ _ _ (by simp only;omega),Option.bind_some,za6 (by omega)]
   .rw[bL (by simpa using h0),bL h0];have hw:0<g.1.aT.length:=by
     have:=(zah7 hc).1;unfold zL5 at this;omega
    rw[za6 (by omega)];unfold zE0;rw[zad8 _ _ _ (by simp only;omega),Option.bind_some,za6 (by omega)]
  .have hc:canQ g.1=false:=by unfold canQ;rw[h2,hr];rfl
   rw[bM (by rw[h2,hr];decide),bL (by rw[hc];decide)]
 .have hc:canQ g.1=false:=by unfold canQ;rw[h2];rfl
  rw[bL (by rw[h2];decide),Option.bind_some,bM (by rw[h2];decide),bL (by rw[hc];decide)]
theorem zbw8(q:aA)(h:zL5 q<=1000):zr7 q=some ((advQ q).2,(advQ q).1):=by
 unfold zr7;have key:=zbP0 (body:=zL1) (λ g=>zL5 g.1+g.2.length<=1000) (λ g=>zL5 g.1) (λ g=>advN (zL5 g.1) g) (λ g hg=>by
  rw[zci9 g (by omega)];cases hc:canQ g.1 with
  |false=>right;rw[bL (by decide),zaO9,bL (by rw[hc];decide)]
  |true=>
   left;obtain⟨h1,h2,_⟩:=zah7 hc;refine⟨zaO8 g,by rw[bM rfl],?_,?_,?_⟩
   .unfold zaO8;simp only[bP,List.length_cons,List.length_nil];omega
   .show zL5 (popQ g.1)<zL5 g.1;omega
   .rw[zaO9 g,bM hc]) (q,[]) (by simpa using h)
 rw[key];rfl
theorem zbm9(p:aF):∀(l:List aM) (i:Nat),match zae0 p l i with
  |some j=>i<=j/\(l.find? λ w=>decide (w.aI=p))=some (l.getD (j-i) aM.zero)
  |none=>(l.find? λ w=>decide (w.aI=p))=none
 |[],i=>rfl
 |w::l,i=>by
  simp only[zae0,List.find?_cons]
  by_cases hp:w.aI=p
  .simp[hp]
  .have ih:=zbm9 p l (i+1);simp only[hp,bU,dL];cases hf:zae0 p l (i+1)with
   |none=>rw[hf]at ih;exact ih
   |some j=>rw[hf]at ih;obtain⟨h1,h2⟩:=ih;refine⟨by omega,?_⟩;rw[h2,show j-i=(j-(i+1))+1 by omega,gQ]
theorem zbQ1(l:List aM)(p:aF):zbr5 l p=if 0<=zM0 l p then((l.getD (zM0 l p).toNat aM.zero).aK,true)else(aC.zero,false):=by
 have h:=zbm9 p l 0;unfold zbr5 zM0;cases hf:zae0 p l 0 with
 |none=>rw[hf]at h;simp only at h;rw[h];rfl
 |some j=>rw[hf]at h;obtain⟨_,h2⟩:=h;rw[h2,bM (by simp only;omega)];simp
theorem zcj0(l m:List aM)(p:aF):zbr5 (l++m) p=if 0<=zM0 l p then zbr5 l p else zbr5 m p:=by
 have h:=zbm9 p l 0;unfold zbr5 zM0;rw[List.find?_append];cases hf:zae0 p l 0 with
 |none=>rw[hf]at h;simp only at h;rw[h,bL (by decide)];rfl
 |some j=>rw[hf]at h;obtain⟨_,h2⟩:=h;rw[h2,bM (by simp only;omega)];rfl
theorem zS4(q:aA)(p:aF)(h1:q.aH.length<=1000000)(h2:q.aT.length<=1000000):zh9 q p=some (zt0 q p):=by
 unfold zh9 zt0;rw[zaj6 _ _ (by omega),Option.bind_some,zcj0,zbQ1 q.aH,zbQ1 q.aT];have b1:=zcq8 q.aH p;have b2:=zcq8 q.aT p
 by_cases c1:0<=zM0 q.aH p
 .rw[bM (bZ c1),za6 (by omega),bM c1,bM c1]
 .rw[bL (by simpa using c1),bL c1,zaj6 _ _ (by omega),Option.bind_some]
  by_cases c2:0<=zM0 q.aT p
  .rw[bM (bZ c2),za6 (by omega),bM c2]
  .rw[bL (by simpa using c2),bL c2]
end Ab
end Go.Proofs.YtdlfhmkmnjbihaaGreatDoor
