import Derived.Test.YtdlfhmkmnjbihaaGreatDoorDec
import Derived.Test.YtdlfhmkmnjbihaaGreatDoorHm27
namespace Go.Proofs.YtdlfhmkmnjbihaaGreatDoor
namespace Ab
set_option linter.unusedSimpArgs false
set_option linter.unusedVariables false
theorem zk8{x:Int}(h1:-9223372036854775808<=x)(h2:x<9223372036854775808):IntKind.i64.wrap x=x:=by rw[IntKind.wrap_i64];omega
theorem zce4{G X:Type}{body:G->Option (G⊕X)}(I:G->Prop)(μ:G->Nat)(spec:G->X)
  (h:∀g,I g->(∃g',body g=some (.inl g')/\I g'/\μ g'<μ g/\spec g'=spec g)\/body g=some (.inr (spec g))):∀g,I g->zc1 body g=some (spec g):=by
 have key:∀n g,μ g=n->I g->zc1 body g=some (spec g):=by
  intro n;induction n using Nat.strongRecOn with
  |_ n ih=>
   intro g hn hg;rw[zh3];rcases h g hg with⟨g',h1,h2,h3,h4⟩|h1
   .rw[h1];simp only;rw[ih (μ g') (hn▸h3) g' rfl h2,h4]
   .rw[h1]
 exactλ g hg=>key _ g rfl hg
def zG5{X:Type}(out:Nat->Option X):Nat->Nat->Option X
 |0,_=>none
 |n+1,i=>match out i with
  |some x=>some x
  |none=>zG5 out n (i+1)
theorem zE8{X:Type}{body:Int->Option (Int⊕X)}(n:Nat)(out:Nat->Option X)(fin:X)
  (h:∀i:Nat,i<n->body i=some (match out i with|some x=>.inr x|none=>.inl ((i:Int)+1))) (hend:body n=some (.inr fin)):zc1 body 0=some ((zG5 out n 0).getD fin):=by
 have key:∀k i,i+k=n->zc1 body (i:Int)=some ((zG5 out k i).getD fin):=by
  intro k;induction k with
  |zero=>intro i hi;rw[zh3,show i=n by omega,hend];rfl
  |succ k ih=>
   intro i hi;rw[zh3,h i (by omega)];simp only[zG5];cases ho:out i with
   |some x=>rfl
   |none=>simp only;have:=ih (i+1) (by omega);rw[show((i+1:Nat):Int)=(i:Int)+1 by omega]at this;exact this
 exact key n 0 (by omega)
def zbi8{S X:Type}(step:Nat->S->S⊕X)(fin:S->X):Nat->Nat->S->X
 |0,_,s=>fin s
 |n+1,i,s=>match step i s with
  | .inl s'=>zbi8 step fin n (i+1) s'
  | .inr x=>x
theorem zcs9{S X:Type}{body:Int×S->Option ((Int×S)⊕X)}(n:Nat)(step:Nat->S->S⊕X)(fin:S->X)(inv:Nat->S->Prop)
  (h:∀i s,i<n->inv i s->body ((i:Int),s)=some (match step i s with|.inl s'=>.inl ((i:Int)+1,s')|.inr x=>.inr x)/\∀s',step i s=.inl s'->inv (i+1) s')
  (hend:∀s,inv n s->body ((n:Int),s)=some (.inr (fin s))) (s0:S) (h0:inv 0 s0):zc1 body (0,s0)=some (zbi8 step fin n 0 s0):=by
 have key:∀k i s,i+k=n->inv i s->zc1 body ((i:Int),s)=some (zbi8 step fin k i s):=by
  intro k;induction k with
  |zero=>intro i s hi hs;rw[zh3,show i=n by omega,hend s (by rw[<-show i=n by omega];exact hs)];rfl
  |succ k ih=>
   intro i s hi hs;obtain⟨h1,h2⟩:=h i s (by omega) hs;rw[zh3,h1];simp only[zbi8];cases ho:step i s with
   |inr x=>rfl
   |inl s'=>simp only;have:=ih (i+1) s' (by omega) (h2 s' ho);rw[show((i+1:Nat):Int)=(i:Int)+1 by omega]at this;exact this
 exact key n 0 s0 (by omega) h0
theorem zaR1{G X:Type}{body:G->Option (G⊕X)}(I:G->Prop)(μ:G->Nat)(Post:X->Prop)
  (h:∀g,I g->(∃g',body g=some (.inl g')/\I g'/\μ g'<μ g)\/∃x,body g=some (.inr x)/\Post x):∀g,I g->∃x,zc1 body g=some x/\Post x:=by
 have key:∀n g,μ g=n->I g->∃x,zc1 body g=some x/\Post x:=by
  intro n;induction n using Nat.strongRecOn with
  |_ n ih=>
   intro g hn hg;rw[zh3];rcases h g hg with⟨g',h1,h2,h3⟩|⟨x,h1,h2⟩
   .rw[h1];exact ih (μ g') (hn▸h3) g' rfl h2
   .rw[h1];exact⟨x,rfl,h2⟩
 exactλ g hg=>key _ g rfl hg
theorem zcI1{S X:Type}{body:Int×S->Option ((Int×S)⊕X)}(n:Nat)(step:Nat->S->S⊕X)(fin:S->X)(inv:Nat->S->Prop)
  (h:∀i s,i<n->inv i s->body ((i:Int),s)=some (match step i s with|.inl s'=>.inl ((i:Int)+1,s')|.inr x=>.inr x)/\∀s',step i s=.inl s'->inv (i+1) s')
  (hend:∀s,inv n s->body ((n:Int),s)=some (.inr (fin s))):∀k i s,i+k=n->inv i s->zc1 body ((i:Int),s)=some (zbi8 step fin k i s):=by
 intro k;induction k with
 |zero=>intro i s hi hs;rw[zh3,show i=n by omega,hend s (by rw[<-show i=n by omega];exact hs)];rfl
 |succ k ih=>
  intro i s hi hs;obtain⟨h1,h2⟩:=h i s (by omega) hs;rw[zh3,h1];simp only[zbi8];cases ho:step i s with
  |inr x=>rfl
  |inl s'=>simp only;have:=ih (i+1) s' (by omega) (h2 s' ho);rw[show((i+1:Nat):Int)=(i:Int)+1 by omega]at this;exact this
theorem zM5(p:Nat->Bool){U:Type}:∀k i,zG5 (λ i=>if p i=true then none else some (Sum.inr (α:=U) false)) k i=if(List.range' i k).all p=true then none else some (.inr false)
 |0,i=>rfl
 |k+1,i=>by
  simp only[zG5,gG,List.all_cons];cases hp:p i with
  |true=>simp only[bT,cA];exact zM5 p k (i+1)
  |false=>simp
theorem zdA9{α:Type}[DecidableEq α](a b:List α)(z:α)(h:a.length=b.length):((List.range a.length).all λ i=>decide (a.getD i z=b.getD i z))=decide (a=b):=by
 rw[cJ];simp only[cS,dH,bQ];constructor
 .intro hh;refine jX h λ i h1 h2=>?_;have:=hh i h1;rwa [bS,bS,bW h1,bW h2]at this
 .rintro rfl i _;rfl
theorem zbs3{α:Type}[DecidableEq α](a b:List α)(z:α){body:Int->Option (Int⊕(Unit⊕Bool))}(hl:a.length<4611686018427387904)(h:a.length=b.length)
  (hb:∀i:Int,body i=if(decide (i<(a.length:Int)))=true then gd (0<=i/\i<(a.length:Int))<|gd (0<=i/\i<(b.length:Int))<|
   (if(!decide (a.getD i.toNat z=b.getD i.toNat z))=true then some (.inr (.inr false))else some (.inl (IntKind.i64.wrap (i+1))))else some (.inr (.inl ()))):
  (zc1 body 0).bind (λ|.inl _=>some true|.inr z=>some z)=some (decide (a=b)):=by
 have key:zc1 body 0=some ((zG5 (λ i=>if decide (a.getD i z=b.getD i z)=true then none else some (Sum.inr false)) a.length 0).getD (Sum.inl ())):=by
  refine zE8 a.length _ (Sum.inl ()) (λ i hi=>?_) ?_
  .rw[hb,bO (cB (by omega)),zb0 (by omega),zb0 (by omega)];simp only[Int.toNat_natCast]
   by_cases hx:a.getD i z=b.getD i z
   .simp only[hx,bU,cI,bP,bV,bT];rw[zk8 (by omega) (by omega)]
   .simp only[hx,cV,dI,bT,bP,bV]
  .rw[hb,bN (by simp)]
 rw[key,zM5,<-dZ,zdA9 a b z h];cases decide (a=b)<;>rfl
theorem zce5{α:Type}(f:Nat->α):∀n i (s:List α),zbi8 (X:=List α) (λ i s=>.inl (s++[f i])) (λ s=>s) n i s=s++(List.range' i n).map f
 |0,i,s=>by simp[zbi8]
 |n+1,i,s=>by simp[zbi8,zce5 f n (i+1),gG]
theorem zbA4{α:Type}(l:List α)(z:α)(p:α->Bool):∀n i (s:List α),i+n=l.length->zbi8 (X:=List α) (λ i s=>.inl (if p (l.getD i z)=true then s++[l.getD i z]else s)) (λ s=>s) n i s=s++(l.drop i).filter p
 |0,i,s,h=>by simp[zbi8,fJ (show l.length<=i by omega)]
 |n+1,i,s,h=>by
  have hd:l.drop i=l.getD i z::l.drop (i+1):=by rw[fL (show i<l.length by omega),bS,bW (show i<l.length by omega)];rfl
  rw[hd];simp only[zbi8,zbA4 l z p n (i+1) _ (by omega),hI];split<;>simp
theorem zae5{α:Type}(l:List α)(i:Nat)(z:α)(h:i<l.length):l.drop i=l.getD i z::l.drop (i+1):=by rw[fL h,bS,bW h];rfl
theorem zce6{α β:Type}(l:List α)(z:α)(f:α->β):∀n i,i+n<=l.length->(List.range' i n).map (λ i=>f (l.getD i z))=((l.drop i).take n).map f
 |0,i,h=>by simp
 |n+1,i,h=>by rw[zae5 l i z (by omega),List.take_succ_cons,gG,cX,cX,zce6 l z f n (i+1) (by omega)]
theorem zbL9{α:Type}(l:List α)(i n:Nat)(z:α)(h:i<n):(l.take n).getD i z=l.getD i z:=by rw[bS,bS,dJ,bO h]
theorem zaI1{α:Type}(l:List α)(i:Nat)(x z:α)(h:i<l.length):(l.set i x).getD i z=x:=by rw[bS,hY h];rfl
theorem zdk2{α:Type}(l m:List α)(i:Nat)(z:α)(h:i<l.length):(l++m).getD i z=l.getD i z:=by rw[bS,bS,dF h]
def walk{α S X:Type}(step:Nat->α->S->Option (S⊕X))(fin:S->X):List α->Nat->S->Option X
 |[],_,s=>some (fin s)
 |a::l,i,s=>match step i a s with
  |none=>none
  |some (.inl s')=>walk step fin l (i+1) s'
  |some (.inr x)=>some x
def wmap{G S X:Type}(mk:S->G):S⊕X->G⊕X
 | .inl s=>.inl (mk s)
 | .inr x=>.inr x
theorem zv8{α S X G:Type}{body:G->Option (G⊕X)}(l:List α)(z:α)(mk:Nat->S->G)(step:Nat->α->S->Option (S⊕X))(fin:S->X)(inv:Nat->S->Prop)
  (hb:∀i s,i<l.length->inv i s->body (mk i s)=(step i (l.getD i z) s).map (wmap (mk (i+1)))/\∀s',step i (l.getD i z) s=some (.inl s')->inv (i+1) s')
  (he:∀s,inv l.length s->body (mk l.length s)=some (.inr (fin s))) (s0:S) (h0:inv 0 s0):zc1 body (mk 0 s0)=walk step fin l 0 s0:=by
 have key:∀k i s,i+k=l.length->inv i s->zc1 body (mk i s)=walk step fin (l.drop i) i s:=by
  intro k;induction k with
  |zero=>
   intro i s hi hs;have:i=l.length:=by omega
   subst this;rw[zh3,he s hs,hJ];rfl
  |succ k ih=>
   intro i s hi hs;obtain⟨h1,h2⟩:=hb i s (by omega) hs;rw[zh3,h1,zae5 l i z (by omega)];simp only[walk];cases ho:step i (l.getD i z) s with
   |none=>rfl
   |some y=>
    cases y with
    |inl s'=>exact ih (i+1) s' (by omega) (h2 s' ho)
    |inr x=>rfl
 have:=key l.length 0 s0 (by omega) h0;rwa [fD]at this
theorem zV7{α S X G:Type}{body:G->Option (G⊕X)}(l:List α)(z:α)(mk:Nat->S->G)(step:Nat->α->S->Option (S⊕X))(fin:S->X)
  (hb:∀i s,i<l.length->body (mk i s)=(step i (l.getD i z) s).map (wmap (mk (i+1))))
  (he:∀s,body (mk l.length s)=some (.inr (fin s))) (s0:S):zc1 body (mk 0 s0)=walk step fin l 0 s0:=
 zv8 l z mk step fin (λ _ _=>True) (λ i s h _=>⟨hb i s h,λ _ _=>trivial⟩) (λ s _=>he s) s0 trivial
theorem zc2(i:Nat)(h:i<4611686018427387904):IntKind.i64.wrap ((i:Int)+1)=((i+1:Nat):Int):=by rw[zk8 (by omega) (by omega)];omega
theorem zX8(i:Nat)(h:i<4611686018427387904)(h0:0<i):IntKind.i64.wrap ((i:Int)-1)=((i-1:Nat):Int):=by rw[zk8 (by omega) (by omega)];omega
theorem gdp{α:Type}{p:Prop}[Decidable p]{k:Option α}(h:p):gd p k=k:=bO h
@[simp] theorem zl3{α:Type}[Decidable True](k:Option α):gd True k=k:=bO trivial
@[simp] theorem zdB0{α:Type}[Decidable False](k:Option α):gd False k=none:=bN (λ h=>h)
theorem gdn{α:Type}{p:Prop}[Decidable p]{k:Option α}(h:¬p):gd p k=none:=bN h
def zbb3{β:Type}(s:List β):Option β->List β
 |some b=>s++[b]
 |none=>s
theorem zbb4{α β X:Type}(f:α->Option β)(fin:List β->X):∀(l:List α) (i:Nat) (s:List β),
  walk (λ _ a s=>some (.inl (zbb3 s (f a)))) fin l i s=some (fin (s++l.filterMap f))
 |[],i,s=>by simp[walk]
 |a::l,i,s=>by simp only[walk,List.filterMap_cons];rw[zbb4 f fin l (i+1)];cases f a<;>simp[zbb3]
abbrev cmpP(p q:aF):Int:=zt7 p q
def ltP(p q:aF):Prop:=p.site<q.site\/p.site=q.site/\(p.inc<q.inc\/p.inc=q.inc/\p.num<q.num)
instance(p q:aF):Decidable (ltP p q):=by unfold ltP;infer_instance
theorem zcI2(a b:Int):zM8 a b=if a<b then-1 else if b<a then 1 else 0:=by unfold zM8;simp only[bQ]
theorem zbG0(p q:aF):cmpP p q=if ltP p q then-1 else if ltP q p then 1 else 0:=by
 obtain⟨a,b,c⟩:=p;obtain⟨d,e,f⟩:=q;unfold cmpP zt7 ltP;simp only[zcI2,cQ,dA]
 grind
theorem zV8(p:aF):¬ltP p p:=by unfold ltP;omega
theorem zaG0{p q r:aF}(h:ltP p q)(k:ltP q r):ltP p r:=by unfold ltP at*;omega
theorem zbM0{p q:aF}(h:ltP p q):¬ltP q p:=by unfold ltP at*;omega
theorem zaj6{p q:aF}(h:p≠q):ltP p q\/ltP q p:=by obtain⟨a,b,c⟩:=p;obtain⟨d,e,f⟩:=q;simp only[ne_eq,aF.mk.injEq]at h;unfold ltP;simp only;omega
theorem zce7(p q:aF):0<cmpP p q↔ltP q p:=by
 rw[zbG0]
 by_cases h:ltP p q
 .simp[h,zbM0 h]
 .by_cases h2:ltP q p<;>simp[h,h2]
theorem zbR5(p q:aF):0<=cmpP p q↔¬ltP p q:=by
 rw[zbG0]
 by_cases h:ltP p q
 .simp[h]
 .by_cases h2:ltP q p<;>simp[h,h2]
theorem zae6(p q:aF):zc4 p q=some (cmpP p q):=by
 unfold zc4 zf7;have e:∀(x y z:Int) (i:Nat) (h:[x,y,z].length=3),Arr.get (⟨[x,y,z],h⟩:Arr Int 3) i 0=match i with|0=>x|1=>y|_=>z:=by
  intro x y z i h
  match i with
  |0=>rfl
  |1=>rfl
  |2=>rfl
  |n+3=>
   have:¬(n+3<3):=by omega
   simp[Arr.get,zI4,this]
 have w1:IntKind.i64.wrap (0+1)=1:=by decide
 have w2:IntKind.i64.wrap (1+1)=2:=by decide
 have w3:IntKind.i64.wrap (2+1)=3:=by decide
 have s3:zp9 ⟨[p.site,p.inc,p.num],rfl⟩ ⟨[q.site,q.inc,q.num],rfl⟩ 3=some (.inr (.inl ())):=by unfold zp9;simp
 have s2:zp9 ⟨[p.site,p.inc,p.num],rfl⟩ ⟨[q.site,q.inc,q.num],rfl⟩ 2=some (if p.num<q.num then .inr (.inr (-1))else if q.num<p.num then .inr (.inr 1)else .inl 3):=by
  unfold zp9;rw[bO (by decide),gdp (by decide),gdp (by decide),gdp (by decide)];simp only[e,show(2:Int).toNat=2 from rfl,bQ,w3]
  by_cases h:p.num<q.num
  .simp[h]
  .by_cases h2:q.num<p.num<;>simp[h,h2]
 have s1:zp9 ⟨[p.site,p.inc,p.num],rfl⟩ ⟨[q.site,q.inc,q.num],rfl⟩ 1=some (if p.inc<q.inc then .inr (.inr (-1))else if q.inc<p.inc then .inr (.inr 1)else .inl 2):=by
  unfold zp9;rw[bO (by decide),gdp (by decide),gdp (by decide),gdp (by decide)];simp only[e,Int.toNat_one,bQ,w2]
  by_cases h:p.inc<q.inc
  .simp[h]
  .by_cases h2:q.inc<p.inc<;>simp[h,h2]
 have s0:zp9 ⟨[p.site,p.inc,p.num],rfl⟩ ⟨[q.site,q.inc,q.num],rfl⟩ 0=some (if p.site<q.site then .inr (.inr (-1))else if q.site<p.site then .inr (.inr 1)else .inl 1):=by
  unfold zp9;rw[bO (by decide),gdp (by decide),gdp (by decide),gdp (by decide)];simp only[e,Int.toNat_zero,bQ,w1]
  by_cases h:p.site<q.site
  .simp[h]
  .by_cases h2:q.site<p.site<;>simp[h,h2]
 rw[zbG0];unfold ltP
 by_cases a1:p.site<q.site
 .rw[zh3,s0];simp[a1]
 .by_cases a2:q.site<p.site
  .rw[zh3,s0];have:¬p.site=q.site:=by omega
   simp[a1,a2,this]
  .have h1:p.site=q.site:=by omega
   by_cases b1:p.inc<q.inc
   .rw[zh3,s0];simp only[a1,a2,bV];rw[zh3,s1];simp[b1,h1]
   .by_cases b2:q.inc<p.inc
    .have:¬p.inc=q.inc:=by omega
     rw[zh3,s0];simp only[a1,a2,bV];rw[zh3,s1];simp[b1,b2,h1,this]
    .have h2:p.inc=q.inc:=by omega
     rw[zh3,s0];simp only[a1,a2,bV];rw[zh3,s1];simp only[b1,b2,bV];rw[zh3,s2]
     by_cases c1:p.num<q.num
     .simp[c1,h1,h2]
     .by_cases c2:q.num<p.num
      .simp[c1,c2,h1,h2]
      .simp only[c1,c2,bV];rw[zh3,s3];simp[h1,h2,zag4]
def insP(p:aF)(a:aC):List aT->List aT
 |[]=>[⟨p,a⟩]
 |h::t=>if ltP p h.aI then⟨p,a⟩::h::t else h::insP p a t
def zw0(p:aF)(l:List aT):List aT:=l.filter λ h=>!decide (h.aI=p)
def setL(l:List aT)(p:aF)(a:aC):List aT:=if a=aC.zero then zw0 p l else insP p a (zw0 p l)
theorem zdZ3(p:aF):zw0 p []=[]:=rfl
theorem zaL0(p:aF)(h:aT)(t:List aT):zw0 p (h::t)=if h.aI=p then zw0 p t else h::zw0 p t:=by unfold zw0;rw[hI];by_cases e:h.aI=p<;>simp[e]
theorem zaR2(p:aF)(l:List aT):(zw0 p l).length<=l.length:=iG _ _
theorem zaC2(l:List aT)(p:aF)(a:aC)(hl:l.length<=1000000):zr1 l p a=some (setL l p a):=by
 unfold zr1;have key:=zv8 (body:=zan2 l p a) l aT.zero (λ i (s:Bool×List aT)=>(s.1,(i:Int),s.2))
  (λ i h s=>some (.inl (if h.aI=p then s else if s.1=false/\ltP p h.aI then(true,s.2++[⟨p,a⟩]++[h])else(s.1,s.2++[h])))) (λ s=>s) (λ i s=>s.2.length<=2*i)
  (λ i s hi hs=>by
   refine⟨?_,λ s' h=>?_⟩
   .unfold zan2;have h1:s.2.length+1<=4294967296:=by omega
    have h2:s.2.length+1+1<=4294967296:=by omega
    have h3:0<=(i:Int)/\(i:Int)<(l.length:Int):=by omega
    simp only[h1,h2,h3.1,h3.2,cN,fK,zl3,bU,bT,Int.toNat_natCast,bQ,bM,cQ,zce7,zc2 i (by omega),Option.map_some,wmap]
    by_cases e:(l.getD i aT.zero).aI=p
    .simp only[e,bT]
    .simp only[e,bV];split<;>rfl
   .simp only[cK,dW]at h;subst h;split
    .omega
    .split<;>simp<;>omega)
  (λ s hs=>by unfold zan2;simp) (zh5 a,[]) (by simp)
 have hz:zh5 a=decide (a=aC.zero):=rfl;have fold:∀(l:List aT) (i:Nat) (d:Bool) (o:List aT),walk (λ i h (s:Bool×List aT)=>some (.inl (if h.aI=p then s else if s.1=false/\ltP p h.aI then(true,s.2++[⟨p,a⟩]++[h])else(s.1,s.2++[h])))) (λ s=>s) l i (d,o)=
   some (if d=true then(true,o++zw0 p l)else if(zw0 p l).any (λ h=>decide (ltP p h.aI))=true then(true,o++insP p a (zw0 p l))else(false,o++zw0 p l)):=by
  intro l;induction l with
  |nil=>intro i d o;cases d<;>simp[walk,zw0]
  |cons h t ih=>
   intro i d o;simp only[walk,zaL0]
   by_cases e:h.aI=p
   .simp only[e,bT];exact ih (i+1) d o
   .simp only[e,bV]
    by_cases e2:d=false/\ltP p h.aI
    .obtain⟨rfl,e3⟩:=e2;simp only[e3,cN,bT];rw[ih];simp[insP,e3]
    .rw[bN e2,ih];cases d with
     |true=>simp
     |false=>have e3:¬ltP p h.aI:=λ hh=>e2 ⟨rfl,hh⟩;simp only[bP,bV,insP,e3,List.any_cons,cV,dK];split<;>simp
 have noins:∀l:List aT,l.any (λ h=>decide (ltP p h.aI))=false->insP p a l=l++[⟨p,a⟩]:=by
  intro l;induction l with
  |nil=>intro _;rfl
  |cons h t ih=>intro hh;simp only[List.any_cons,jC,dA]at hh;simp only[insP,hh.1,bV,ih hh.2,List.cons_append]
 rw[show((zh5 a,(0:Int),([]:List aT)):Bool×Int×List aT)=(λ(i:Nat) (s:Bool×List aT)=>(s.1,(i:Int),s.2)) 0 (zh5 a,[])from rfl,key,fold,hz];unfold setL zaQ4;have ho:=zaR2 p l
 by_cases ha:a=aC.zero
 .simp[ha]
 .simp only[ha,cV,bP,bV,List.nil_append]
  by_cases hx:(zw0 p l).any (λ h=>decide (ltP p h.aI))=true
  .simp[hx]
  .have hx:(zw0 p l).any (λ h=>decide (ltP p h.aI))=false:=by simpa using hx
   rw[bN (by rw[hx];decide),Option.bind_some,noins _ hx];show gd ((zw0 p l).length+1<=4294967296) _=_;rw[gdp (by omega)]
theorem zdB1{α:Type}(l:List α)(k:Nat)(z x:α)(hk:k<=l.length):
  (((l++[z]).take (k+1)++(((l++[z]).drop k).take (l.length+1-k)).take (l.length+1-(k+1))++(l++[z]).drop (k+1+min (((l++[z]).drop k).take (l.length+1-k)).length (l.length+1-(k+1)))).set k x)=l.take k++x::l.drop k:=by
 have e1:((l++[z]).drop k).take (l.length+1-k)=l.drop k++[z]:=by rw[fN hk,dN (by simp;omega)]
 have e2:(l.drop k++[z]).take (l.length+1-(k+1))=l.drop k:=by rw[eN (by simp),dN (by simp)]
 have e3:(l++[z]).drop (k+1+min (l.drop k++[z]).length (l.length+1-(k+1)))=[]:=by rw[fJ];simp;omega
 rw[e1,e2,e3,eR]
 by_cases hkl:k=l.length
 .subst hkl;rw[dN (by simp),hJ,eR,gP _ _ (cU _)];simp
 .have:(l++[z]).take (k+1)=l.take k++[l[k]'(by omega)]:=by
   rw[eN (by omega),fC (by omega)]
  rw[this,bZ,gP _ _ (by simp;omega)];simp[show min k l.length=k by omega]
theorem zao2(l:List aT)(p:aF)(a:aC)(hl:l.length<=1000000):zm4 l p a=some (setL l p a):=by
 unfold zm4;have hw:IntKind.i64.wrap ((l.length:Int)+1)=(l.length:Int)+1:=zk8 (by omega) (by omega);rw[hw,gdp (by omega)];have key:=zv8 (body:=zT4 l p) l aT.zero (λ i (s:Int×List aT)=>(s.1,(i:Int),s.2))
  (λ i h s=>some (.inl (if h.aI=p then s else(if s.1<0/\ltP p h.aI then(s.2.length:Int)else s.1,s.2++[h])))) (λ s=>s) (λ i s=>s.2.length<=i)
  (λ i s hi hs=>by
   refine⟨?_,λ s' h=>?_⟩
   .unfold zT4;have h1:s.2.length+1<=4294967296:=by omega
    have h3:0<=(i:Int)/\(i:Int)<(l.length:Int):=by omega
    simp only[h1,h3.1,h3.2,cN,fK,zl3,bU,bT,Int.toNat_natCast,bQ,bM,zae6,zc2 i (by omega),Option.map_some,wmap]
    by_cases e:(l.getD i aT.zero).aI=p
    .simp only[e,bT]
    .simp only[e,bV]
     by_cases e2:s.1<0
     .simp only[e2,bT,Option.bind_some,fU,zce7];split<;>rfl
     .simp only[e2,bV,Option.bind_some,iC]
   .simp only[cK,dW]at h;subst h;split
    .omega
    .simp;omega)
  (λ s hs=>by unfold zT4;simp) (-1,[]) (by simp)
 have fold:∀(l:List aT) (i:Nat) (d:Int) (o:List aT),walk (λ i h (s:Int×List aT)=>some (.inl (if h.aI=p then s else(if s.1<0/\ltP p h.aI then(s.2.length:Int)else s.1,s.2++[h])))) (λ s=>s) l i (d,o)=
   some (if d<0/\(zw0 p l).any (λ h=>decide (ltP p h.aI))=true then(((o.length+(zw0 p l).findIdx (λ h=>decide (ltP p h.aI)):Nat):Int),o++zw0 p l)else(d,o++zw0 p l)):=by
  intro l;induction l with
  |nil=>intro i d o;simp[walk,zw0]
  |cons h t ih=>
   intro i d o;simp only[walk,zaL0]
   by_cases e:h.aI=p
   .simp only[e,bT];exact ih (i+1) d o
   .simp only[e,bV]
    by_cases e2:d<0/\ltP p h.aI
    .simp only[e2,cN,bT];rw[ih,bN (by omega)];simp[e2.2,jT]
    .rw[bN e2,ih]
     by_cases e3:d<0
     .have e4:¬ltP p h.aI:=λ hh=>e2 ⟨e3,hh⟩;simp only[e3,fU,List.any_cons,e4,cV,dK,jT,cond_false,bR,List.length_cons,List.length_nil,bZ,List.cons_append,List.nil_append];split
      .congr 3;omega
      .rfl
     .simp[e3]
 have ins:∀l:List aT,insP p a l=l.take (l.findIdx (λ h=>decide (ltP p h.aI)))++⟨p,a⟩::l.drop (l.findIdx (λ h=>decide (ltP p h.aI))):=by
  intro l;induction l with
  |nil=>rfl
  |cons h t ih=>
   simp only[insP,jT]
   by_cases e:ltP p h.aI
   .simp[e]
   .simp[e,ih]
 have key2:zc1 (zT4 l p) (-1,0,List.replicate 0 aT.zero)=some (if(zw0 p l).any (λ h=>decide (ltP p h.aI))=true then(((zw0 p l).findIdx (λ h=>decide (ltP p h.aI)):Nat):Int)else-1,zw0 p l):=by
  rw[show((-1,0,List.replicate 0 aT.zero):Int×Int×List aT)=(λ(i:Nat) (s:Int×List aT)=>(s.1,(i:Int),s.2)) 0 (-1,[])from rfl,key,fold];have:((-1:Int)<0):=by decide
  simp only[this,fU,List.nil_append,List.length_nil,dG];split<;>rfl
 rw[key2,Option.bind_some];unfold zaq6 setL;have hz:zk5 a=decide (a=aC.zero):=rfl;rw[hz]
 by_cases ha:a=aC.zero
 .simp[ha]
 .simp only[ha,cV,bP,bV,bQ];have ho:=zaR2 p l;generalize zw0 p l=o at ho;have fi:o.findIdx (λ h=>decide (ltP p h.aI))<=o.length:=List.findIdx_le_length;have hz2:({aT.zero with}:aT)=aT.zero:=rfl
  by_cases hx:o.any (λ h=>decide (ltP p h.aI))=true
  .simp only[hx,bT];generalize hk:o.findIdx (λ h=>decide (ltP p h.aI))=k at fi;have hkl:k<o.length:=by rw[<-hk];exact List.findIdx_lt_length_of_exists (by simpa using hx)
   rw[bN (by omega)];simp only[zc2 k (by omega),Int.toNat_natCast];rw[gdp (by omega),gdp (by omega),gdp (by omega),gdp (by omega),zdB1 o k _ _ (by omega),ins o,hk]
  .have hx':o.any (λ h=>decide (ltP p h.aI))=false:=by simpa using hx
   simp only[hx',bP,bV];rw[bO (by decide)];have hk:o.findIdx (λ h=>decide (ltP p h.aI))=o.length:=by rw[List.findIdx_eq_length];simpa using hx'
   simp only[zc2 o.length (by omega),Int.toNat_natCast];rw[gdp (by omega),gdp (by omega),gdp (by omega),gdp (by omega),zdB1 o o.length _ _ (by omega),ins o,hk]
theorem zbb5(r:aD):zJ1 r=zh1 r:=by
 unfold zJ1 zh1;rw[cJ]
 by_cases h1:r.kind=1
 .simp[h1]
 .by_cases h2:r.kind=2<;>simp[h1,h2]
theorem zbs4(r:aD)(a:aC):zy0 r a=zb4 r a:=by unfold zy0 zb4 zy3 zv2;rw[zbb5]
theorem zbs5(r:aD)(a:aC):zv3 r a=zc0 r a:=by unfold zv3 zc0 zh5 zk5;rw[zbb5,zbs4]
theorem zao3(p:aF):zl9 p=za3 p:=by unfold zl9 za3 zK2;rw[cJ];simp;omega
theorem zH0(r:aD):zh1 r=true↔(r.kind=1/\r.aV=1)\/(r.kind=2/\1<=r.aV/\r.aV<=8):=by
 unfold zh1
 by_cases h1:r.kind=1
 .simp[h1]
 .by_cases h2:r.kind=2<;>simp[h1,h2]
theorem zaa9(r:aD)(a:aC):zb4 r a=true↔(r.kind=1/\r.aV=1/\1<=a.mode/\a.mode<=5/\a.aV=0)\/(r.kind=2/\1<=r.aV/\r.aV<=8/\a.mode=0/\1<=a.aV/\a.aV<=r.aV):=by
 unfold zb4 zv2;have:=zH0 r;cases h:zh1 r with
 |false=>rw[h]at this;simp only[bP,kH]at this;simp only[dI,bT,bP,kH];omega
 |true=>
  rw[h]at this;simp only[kI]at this
  by_cases h1:r.kind=1
  .simp[h1];omega
  .simp[h1];omega
theorem perm_iff(r:aD)(a:aC):zc0 r a=true↔(zh1 r=true/\a=aC.zero)\/zb4 r a=true:=by
 unfold zc0 zk5;have e:(decide (a={aC.zero with}):Bool)=decide (a=aC.zero):=rfl;rw[e];have hs:zb4 r a=true->zh1 r=true:=by rw[zaa9,zH0];omega
 cases h1:zh1 r<;>cases h2:zb4 r a<;>simp_all
theorem zaG1{r:aD}{a:aC}(h:zc0 r a=true)(hk:r.kind=1):a.aV=0/\0<=a.mode/\a.mode<=5/\r.aV=1:=by
 rw[perm_iff,zaa9,zH0]at h;rcases h with⟨h1,rfl⟩|h1
 .simp[aC.zero];omega
 .omega
theorem zbs6{r:aD}{a:aC}(h:zc0 r a=true)(hk:r.kind=2):a.mode=0/\0<=a.aV/\a.aV<=r.aV/\r.aV<=8:=by
 rw[perm_iff,zaa9,zH0]at h;rcases h with⟨h1,rfl⟩|h1
 .simp[aC.zero];omega
 .omega
theorem zaf7{r:aD}{a:aC}(h:zc0 r a=true):0<=a.aV/\a.aV<=8/\0<=a.mode/\a.mode<=5/\1<=r.aV/\r.aV<=8:=by
 rw[perm_iff,zaa9,zH0]at h;rcases h with⟨h1,rfl⟩|h1
 .simp[aC.zero];omega
 .omega
abbrev mC(a b:Int):Bool:=zL8 a b
theorem zcy7(a b:Int):mC a b=true↔(1<=a/\a<=4/\1<=b/\b<=4)/\(a=1\/b=1\/a=b/\a≠4):=by
 unfold mC zL8 zy3;split
 .rename_i h;simp at h;simp;omega
 .rename_i h;simp at h;simp;omega
theorem zbX0(a b:Int):mC a b=mC b a:=by rw[cJ,zcy7,zcy7];omega
theorem zbA5(a b:Int):zg1 a b=some (mC a b):=by
 unfold zg1 zv2
 by_cases h:(1<=a/\a<=5)/\(1<=b/\b<=5)
 .obtain⟨⟨a1,a2⟩,b1,b2⟩:=h;have wa:IntKind.i64.wrap (a-1)=a-1:=zk8 (by omega) (by omega);have wb:IntKind.i64.wrap (b-1)=b-1:=zk8 (by omega) (by omega);simp only[wa,wb];rw[gdp (λ _=>by omega),gdp (λ _=>by omega)];congr 1;have ha:a=1\/a=2\/a=3\/a=4\/a=5:=by omega
  have hb:b=1\/b=2\/b=3\/b=4\/b=5:=by omega
  rcases ha with rfl|rfl|rfl|rfl|rfl<;>rcases hb with rfl|rfl|rfl|rfl|rfl<;>decide
 .have hv:(((decide (1<=a))&&(decide (a<=5)))&&((decide (1<=b))&&(decide (b<=5))))=false:=by
   rw[cY];intro hh;simp at hh;omega
  rw[hv];rw[gdp (λ h=>by cases h),gdp (λ h=>by cases h)];have:mC a b=false:=by rw[cY];intro hh;rw[zcy7]at hh;omega
  rw[this];rfl
def zau4(b a:aC):Prop:=b.mode≠0/\a.mode≠0/\mC b.mode a.mode=false
instance(b a:aC):Decidable (zau4 b a):=by unfold zau4;infer_instance
def sumU:List aC->Int
 |[]=>0
 |a::l=>a.aV+sumU l
structure CompP (r:aD) (l:List aC):Prop where
 perm:∀a∈l,zc0 r a=true
 sum:sumU l<=r.aV
 pair:l.Pairwise λ b a=>¬zau4 b a
instance(r:aD)(l:List aC):Decidable (CompP r l):=
 decidable_of_iff ((∀a∈l,zc0 r a=true)/\sumU l<=r.aV/\l.Pairwise λ b a=>¬zau4 b a) ⟨λ⟨a,b,c⟩=>⟨a,b,c⟩,λ⟨a,b,c⟩=>⟨a,b,c⟩⟩
def zbR6(r:aD)(l:List aC):Bool:=zh1 r&&decide (CompP r l)
theorem zcI3{l:List aC}(h:∀a∈l,0<=a.aV):0<=sumU l:=by
 induction l with
 |nil=>simp[sumU]
 |cons a l ih=>have:=ih λ b hb=>h b (.tail _ hb);have:=h a (.head _);simp only[sumU];omega
def zbx3(r:aD):List aC->List aC->Int->Bool
 |[],_,_=>true
 |a::t,prev,s=>zc0 r a&&(decide (s+a.aV<=r.aV)&&(decide (∀b∈prev,¬zau4 b a)&&zbx3 r t (prev++[a]) (s+a.aV)))
theorem zbM1(r:aD)(hr:0<=r.aV):∀(l prev:List aC) (s:Int),s<=r.aV->(zbx3 r l prev s=true↔(∀a∈l,zc0 r a=true)/\s+sumU l<=r.aV/\(∀b∈prev,∀a∈l,¬zau4 b a)/\l.Pairwise λ b a=>¬zau4 b a)
 |[],prev,s,hs=>by simp[zbx3,sumU];exact hs
 |a::t,prev,s,hs=>by
  simp only[zbx3,bM,bQ,List.forall_mem_cons,cL,sumU];constructor
  .rintro⟨h1,h2,h3,h4⟩;rw[zbM1 r hr t (prev++[a]) (s+a.aV) h2]at h4;obtain⟨k1,k2,k3,k4⟩:=h4;refine⟨⟨h1,k1⟩,by omega,λ b hb=>⟨h3 b hb,λ c hc=>k3 b (by simp[hb]) c hc⟩,λ c hc=>k3 a (by simp) c hc,k4⟩
  .rintro⟨⟨h1,k1⟩,h2,h3,h4,h5⟩;have hn:0<=sumU t:=zcI3 λ b hb=>(zaf7 (k1 b hb)).1;have h6:s+a.aV<=r.aV:=by omega
   refine⟨h1,h6,λ b hb=>(h3 b hb).1,?_⟩;rw[zbM1 r hr t (prev++[a]) (s+a.aV) h6];refine⟨k1,by omega,λ b hb c hc=>?_,h5⟩;rcases cP.1 hb with hb|hb
   .exact(h3 b hb).2 c hc
   .simp at hb;subst hb;exact h4 c hc
theorem zcI4(r:aD)(l:List aC)(hs:zh1 r=true):zbR6 r l=zbx3 r l [] 0:=by
 have hr:1<=r.aV:=by rw[zH0]at hs;omega
 unfold zbR6;rw[hs,cA,cJ,zbM1 r (by omega) l [] 0 (by omega),bQ];exact⟨λ⟨a,b,c⟩=>⟨a,by omega,by simp,c⟩,λ⟨a,b,_,c⟩=>⟨a,by omega,c⟩⟩
def zbA6(seen:Arr Bool 6)(m:Int):Bool:=(List.range' 0 6).all λ k=>!(seen.get k false)||mC k m
theorem zcy8(l:List aC)(g:Int×Int×Arr Bool 6):zc1 (zE0 l g) 0=some (if zbA6 g.2.2 (l.getD g.2.1.toNat aC.zero).mode=true then .inl ()else .inr false):=by
 have key:=zE8 (body:=zE0 l g) 6 (λ i=>if(!(g.2.2.get i false)||mC i (l.getD g.2.1.toNat aC.zero).mode)=true then none else some (.inr false)) (.inl ()) (λ i hi=>by
  unfold zE0;have h3:0<=(i:Int)/\(i:Int)<6:=by omega
  have h4:IntKind.i64.wrap ((i:Int)+1)=(i:Int)+1:=zk8 (by omega) (by omega);simp only[h3.1,h3.2,cN,zl3,bU,bT,Int.toNat_natCast,zbA5,h4];cases Arr.get g.2.2 i false<;>cases mC i (l.getD g.2.1.toNat aC.zero).mode<;>rfl) (by unfold zE0;simp)
 rw[key,zM5];unfold zbA6;split<;>simp_all
theorem zdN8(s:Arr Bool 6)(i k:Nat)(hi:i<6)(hk:k<6):(s.put i true).get k false=if k=i then true else s.get k false:=by
 obtain⟨l,hl⟩:=s;simp only[Arr.put,Arr.get,zaz8 hi,zaz8 hk,bS,List.getElem?_set]
 by_cases h:k=i
 .subst h;simp[hl,hk]
 .rw[bN (λ e=>h e.symm),bN h]
theorem zbn9(r:aD)(l:List aC)(hl:l.length<=1000000):zj4 r l=some (zbR6 r l):=by
 unfold zj4;cases hs:zh1 r with
 |false=>simp[zbR6,hs]
 |true=>
  have hru:1<=r.aV/\r.aV<=8:=by rw[zH0]at hs;omega
  rw[zcI4 r l hs];simp only[cI,bP,bV];have key:=zv8 (body:=zJ3 r l) l aC.zero (λ i (s:Int×Arr Bool 6)=>(s.1,(i:Int),s.2))
   (λ i a s=>some (if zc0 r a=false\/r.aV<s.1+a.aV then .inr false else if a.mode=0 then .inl (s.1+a.aV,s.2)else if zbA6 s.2 a.mode=true then .inl (s.1+a.aV,s.2.put a.mode.toNat true)else .inr false)) (λ _=>true) (λ i s=>0<=s.1/\s.1<=8)
   (λ i s hi hi2=>by
    refine⟨?_,λ s' h=>?_⟩
    .unfold zJ3;have h3:0<=(i:Int)/\(i:Int)<(l.length:Int):=by omega
     simp only[h3.1,h3.2,cN,zl3,bU,bT,Int.toNat_natCast,zc2 i (by omega),Option.map_some,zcy8];cases hp:zc0 r (l.getD i aC.zero)with
     |false=>simp[wmap]
     |true=>
      have hb:=zaf7 hp;have hw:IntKind.i64.wrap (s.1+(l.getD i aC.zero).aV)=s.1+(l.getD i aC.zero).aV:=zk8 (by omega) (by omega);simp only[hw,cI,dK,bQ,eG,iB]
      by_cases h4:r.aV<s.1+(l.getD i aC.zero).aV
      .simp only[h4,bT,wmap]
      .by_cases h5:(l.getD i aC.zero).mode=0
       .simp only[h4,bV,h5,bT,wmap]
       .simp only[h4,h5,bV]
        by_cases h6:zbA6 s.2 (l.getD i aC.zero).mode=true
        .simp only[h6,bT,Option.bind_some,wmap];unfold zS2;simp only[Int.toNat_natCast,hw,zc2 i (by omega)];rw[gdp (by omega)]
        .simp only[h6,bP,bV,wmap,Option.bind_some]
    .simp only[cK]at h;split at h
     .cases h
     .rename_i hn;simp only[not_or,fO]at hn;have hb:=zaf7 hn.1;split at h
      .cases h;simp only;omega
      .split at h
       .cases h;simp only;omega
       .cases h)
   (λ s hs=>by unfold zJ3;simp) (0,Arr.rep 6 false) (by simp)
  have fold:∀(l prev:List aC) (i:Nat) (s:Int) (seen:Arr Bool 6),(∀b∈prev,0<=b.mode/\b.mode<=5)->(∀k,k<6->seen.get k false=decide (∃b∈prev,b.mode≠0/\b.mode=(k:Int)))->
    walk (λ i a (s:Int×Arr Bool 6)=>some (if zc0 r a=false\/r.aV<s.1+a.aV then .inr false else if a.mode=0 then .inl (s.1+a.aV,s.2)else if zbA6 s.2 a.mode=true then .inl (s.1+a.aV,s.2.put a.mode.toNat true)else .inr false)) (λ _=>true) l i (s,seen)=some (zbx3 r l prev s):=by
   intro l;induction l with
   |nil=>intro prev i s seen _ _;rfl
   |cons a t ih=>
    intro prev i s seen hpv hsn;simp only[walk,zbx3];cases hp:zc0 r a with
    |false=>simp
    |true=>
     have hb:=zaf7 hp
     by_cases h4:r.aV<s+a.aV
     .simp[h4];intro h;omega
     .have h4':s+a.aV<=r.aV:=by omega
      simp only[eG,iB,h4,bV,h4',bU,cA]
      by_cases h5:a.mode=0
      .simp only[h5,bT];rw[ih (prev++[a]) (i+1) (s+a.aV) seen (by
        intro b hb';rcases cP.1 hb' with h|h
        .exact hpv b h
        .simp at h;subst h;omega) (by
        intro k hk;rw[hsn k hk,fZ];constructor
        .rintro⟨b,h1,h2⟩;exact⟨b,by simp[h1],h2⟩
        .rintro⟨b,h1,h2,h3⟩;rcases cP.1 h1 with h|h
         .exact⟨b,h,h2,h3⟩
         .simp at h;subst h;exact absurd h5 h2)]
       have:∀b∈prev,¬zau4 b a:=λ b _ hc=>hc.2.1 h5;rw[cB this,cA]
      .simp only[h5,bV];have hse:zbA6 seen a.mode=decide (∀b∈prev,¬zau4 b a):=by
        rw[cJ,bQ];unfold zbA6;simp only[cS,List.mem_range'_1,dE,cQ];constructor
        .intro hh b hb' ⟨c1,c2,c3⟩;have hbb:=hpv b hb';rcases hh b.mode.toNat (by omega)with h|h
         .rw[hsn _ (by omega)]at h;simp only[dA,not_exists,not_and]at h;exact h b hb' c1 (by omega)
         .rw[show((b.mode.toNat:Nat):Int)=b.mode by omega,c3]at h;cases h
        .intro hh k hk;rw[hsn k (by omega)]
         by_cases he:∃b∈prev,b.mode≠0/\b.mode=(k:Int)
         .obtain⟨b,h1,h2,h3⟩:=he;right;rw[<-h3];have:=hh b h1;unfold zau4 at this;simp only[not_and,fO]at this;exact this h2 h5
         .left;simpa using he
       rw[hse]
       by_cases h7:∀b∈prev,¬zau4 b a
       .rw[cB h7];simp only[bT,cA];rw[ih (prev++[a]) (i+1) (s+a.aV) (seen.put a.mode.toNat true) (by
         intro b hb';rcases cP.1 hb' with h|h
         .exact hpv b h
         .simp at h;subst h;omega) (by
         intro k hk;rw[zdN8 seen a.mode.toNat k (by omega) hk,hsn k hk]
         by_cases hka:k=a.mode.toNat
         .rw[bO hka];exact(cB ⟨a,by simp,h5,by omega⟩).symm
         .rw[bN hka,fZ];constructor
          .rintro⟨b,h1,h2⟩;exact⟨b,by simp[h1],h2⟩
          .rintro⟨b,h1,h2,h3⟩;rcases cP.1 h1 with h|h
           .exact⟨b,h,h2,h3⟩
           .simp at h;subst h;omega)]
       .rw[fF h7];rfl
  have k2:=fold l [] 0 0 (Arr.rep 6 false) (by simp) (by
   intro k hk;have:k=0\/k=1\/k=2\/k=3\/k=4\/k=5:=by omega
   rcases this with rfl|rfl|rfl|rfl|rfl|rfl<;>rfl)
  rw[show((0,0,Arr.rep 6 false):Int×Int×Arr Bool 6)=(λ(i:Nat) (s:Int×Arr Bool 6)=>(s.1,(i:Int),s.2)) 0 (0,Arr.rep 6 false)from rfl,key,k2];rfl
theorem zbM2(l:List aC)(g:Int×Int)(h0:0<=g.2)(hl:g.2<(l.length:Int))(hll:l.length<=1000000):zc1 (zF9 l g) 0=
  some (if(List.range' 0 g.2.toNat).all (λ k=>decide (l.getD g.2.toNat aC.zero=aC.zero)||(decide (l.getD k aC.zero=aC.zero)||mC (l.getD g.2.toNat aC.zero).mode (l.getD k aC.zero).mode))=true then .inl ()else .inr false):=by
 have hz:∀a:aC,zh5 a=decide (a=aC.zero):=λ _=>rfl;have key:=zE8 (body:=zF9 l g) g.2.toNat (λ i=>if(decide (l.getD g.2.toNat aC.zero=aC.zero)||(decide (l.getD i aC.zero=aC.zero)||mC (l.getD g.2.toNat aC.zero).mode (l.getD i aC.zero).mode))=true then none else some (.inr false)) (.inl ()) (λ i hi=>by
  unfold zF9;have h3:(i:Int)<g.2:=by omega
  have h4:IntKind.i64.wrap ((i:Int)+1)=(i:Int)+1:=zk8 (by omega) (by omega);have h5:0<=(i:Int)/\(i:Int)<(l.length:Int):=by omega
  simp only[h3,bU,bT,Int.toNat_natCast,h4,h5.1,h5.2,h0,hl,cN,fK,zl3,hz];cases decide (l.getD g.2.toNat aC.zero=aC.zero)<;>cases decide (l.getD i aC.zero=aC.zero)<;>cases hm:zL8 (l.getD g.2.toNat aC.zero).mode (l.getD i aC.zero).mode<;>simp only[mC,hm]<;>rfl) (by unfold zF9;rw[bN];simp;omega)
 rw[key,zM5];split<;>simp_all
theorem zbv8(r:aD)(l:List aC)(hl:l.length<=1000000):zl2 r l=some (zbR6 r l):=by
 unfold zl2;rw[zbb5];cases hs:zh1 r with
 |false=>simp[zbR6,hs]
 |true=>
  have hru:1<=r.aV/\r.aV<=8/\(r.kind=1\/r.kind=2):=by rw[zH0]at hs;omega
  rw[zcI4 r l hs];simp only[cI,bP,bV];have key:=zv8 (body:=zB5 r l) l aC.zero (λ i (s:Int)=>(s,(i:Int)))
   (λ i a s=>some (if zc0 r a=false then .inr (.inr false)else if r.kind=2 then(if r.aV<s+a.aV then .inr (.inr false)else .inl (s+a.aV))else
    if(List.range' 0 i).all (λ k=>decide (a=aC.zero)||(decide (l.getD k aC.zero=aC.zero)||mC a.mode (l.getD k aC.zero).mode))=true then .inl s else .inr (.inr false))) (λ _=>Sum.inl (β:=Bool) ()) (λ i s=>0<=s/\s<=8)
   (λ i s hi hi2=>by
    refine⟨?_,λ s' h=>?_⟩
    .unfold zB5;have h3:0<=(i:Int)/\(i:Int)<(l.length:Int):=by omega
     simp only[h3.1,h3.2,cN,zl3,bU,bT,Int.toNat_natCast,zc2 i (by omega),Option.map_some,zbs5,zbM2 l (s,(i:Int)) h3.1 h3.2 hl];cases hp:zc0 r (l.getD i aC.zero)with
     |false=>simp[wmap]
     |true=>
      have hb:=zaf7 hp;have hw:IntKind.i64.wrap (s+(l.getD i aC.zero).aV)=s+(l.getD i aC.zero).aV:=zk8 (by omega) (by omega);simp only[hw,cI,bP,bV,eG,bQ]
      by_cases h4:r.kind=2
      .by_cases h5:r.aV<s+(l.getD i aC.zero).aV
       .simp only[h4,h5,bT,wmap]
       .simp only[h4,h5,bT,bV,wmap]
      .simp only[h4,bV];split
       .simp only[zak1,wmap,zc2 i (by omega:i<4611686018427387904),Option.bind_some]
       .simp only[wmap,Option.bind_some]
    .simp only[cK]at h;split at h
     .cases h
     .rename_i hn;simp only[fO]at hn;have hb:=zaf7 hn;split at h
      .split at h
       .cases h
       .cases h;omega
      .split at h
       .cases h;exact hi2
       .cases h)
   (λ s hs=>by unfold zB5;simp) 0 (by simp)
  have fold:∀(t prev:List aC) (s:Int),l=prev++t->(∀b∈prev,zc0 r b=true)->(r.kind=1->s=0)->s<=r.aV->
    walk (λ i a (s:Int)=>some (if zc0 r a=false then .inr (.inr false)else if r.kind=2 then(if r.aV<s+a.aV then .inr (.inr false)else .inl (s+a.aV))else
     if(List.range' 0 i).all (λ k=>decide (a=aC.zero)||(decide (l.getD k aC.zero=aC.zero)||mC a.mode (l.getD k aC.zero).mode))=true then .inl s else .inr (.inr false))) (λ _=>Sum.inl (β:=Bool) ()) t prev.length s=some (if zbx3 r t prev s=true then .inl ()else .inr false):=by
   intro t;induction t with
   |nil=>intro prev s _ _ _ _;rfl
   |cons a t ih=>
    intro prev s hlt hpp hs0 hsu;simp only[walk,zbx3]
    by_cases hp:zc0 r a=true
    .have hpp':∀b∈prev++[a],zc0 r b=true:=λ b hb=>by
      rcases cP.1 hb with h|h
      .exact hpp b h
      .simp at h;subst h;exact hp
     have hlt':l=(prev++[a])++t:=by rw[hlt];simp
     have hlen:(prev++[a]).length=prev.length+1:=by simp
     rcases hru.2.2 with hk|hk
     ·
      have ha:=zaG1 hp hk;have hs:=hs0 hk;subst hs;have hk2:¬r.kind=2:=by omega
      have hsum:(0:Int)+a.aV<=r.aV:=by omega
      simp only[hp,eG,bV,hk2,hsum,bU,cA];have hall:(List.range' 0 prev.length).all (λ k=>decide (a=aC.zero)||(decide (l.getD k aC.zero=aC.zero)||mC a.mode (l.getD k aC.zero).mode))=decide (∀b∈prev,¬zau4 b a):=by
       rw[cJ,bQ];simp only[cS,List.mem_range'_1,dE,bQ];have hget:∀k,k<prev.length->l.getD k aC.zero=prev.getD k aC.zero:=λ k hk=>by rw[hlt,zdk2 _ _ _ _ hk]
       have hmem:∀k,k<prev.length->prev.getD k aC.zero∈prev:=λ k hk=>by rw[bS,bW hk];exact hX hk
       have zae9:∀b,zc0 r b=true->(b=aC.zero↔b.mode=0):=λ b hb=>by have:=zaG1 hb hk;rw[aC.ext_iff];simp[aC.zero];omega
       constructor
       .intro hh b hb ⟨c1,c2,c3⟩;obtain⟨k,hk1,hk2⟩:=gV.1 hb;have e:prev.getD k aC.zero=b:=by rw[bS,bW hk1,Option.getD_some,hk2]
        rcases hh k (by omega)with h|h|h
        .exact c2 ((zae9 a hp).1 h)
        .rw[hget k hk1,e]at h;exact c1 ((zae9 b (hpp b hb)).1 h)
        .rw[hget k hk1,e,zbX0,c3]at h;cases h
       .intro hh k hk1;have hk2:k<prev.length:=by omega
        rw[hget k hk2];have h1:=hh _ (hmem k hk2);have h2:=hpp _ (hmem k hk2);unfold zau4 at h1;rw[zae9 a hp,zae9 _ h2]
        by_cases e1:a.mode=0
        .exact .inl e1
        .by_cases e2:(prev.getD k aC.zero).mode=0
         .exact .inr (.inl e2)
         .refine .inr (.inr ?_);rw[zbX0];simp only[not_and,fO]at h1;exact h1 e2 e1
      rw[hall]
      by_cases h7:∀b∈prev,¬zau4 b a
      .rw[cB h7];simp only[bT,cA];have:=ih (prev++[a]) 0 hlt' hpp' (λ _=>rfl) (by omega);rw[hlen]at this;simp only[hk2,bV]at this;rw[this,ha.1];rfl
      .rw[fF h7];rfl
     ·
      have ha:=zbs6 hp hk;simp only[hp,eG,bV,hk,bT,cA];have h7:∀b∈prev,¬zau4 b a:=λ b _ hc=>hc.2.1 ha.1
      by_cases h5:r.aV<s+a.aV
      .have:¬s+a.aV<=r.aV:=by omega
       simp[h5,this]
      .have:s+a.aV<=r.aV:=by omega
       rw[cB h7];simp only[h5,bV,this,bU,cA];have h8:=ih (prev++[a]) (s+a.aV) hlt' hpp' (λ h=>by omega) this;rw[hlen]at h8;simp only[hk,bT]at h8;exact h8
    .simp[hp]
  rw[show((0,0):Int×Int)=(λ(i:Nat) (s:Int)=>(s,(i:Int))) 0 0 from rfl,key];have k2:=fold l [] 0 rfl (by simp) (λ _=>rfl) (by omega);rw[List.length_nil]at k2;rw[k2];cases zbx3 r l [] 0<;>rfl
structure GoodP (r:aD) (l:List aT):Prop where
 each:∀h∈l,za3 h.aI=true/\zb4 r h.aJ=true
 asc:l.Pairwise λ a b=>ltP a.aI b.aI
instance(r:aD)(l:List aT):Decidable (GoodP r l):=
 decidable_of_iff ((∀h∈l,za3 h.aI=true/\zb4 r h.aJ=true)/\l.Pairwise λ a b=>ltP a.aI b.aI) ⟨λ⟨a,b⟩=>⟨a,b⟩,λ⟨a,b⟩=>⟨a,b⟩⟩
def zI5(r:aD)(l:List aT):Bool:=zh1 r&&(decide (l.length<=8)&&(decide (GoodP r l)&&decide (CompP r (l.map (·.aJ)))))
theorem zcI5{r:aD}{a:aC}(h:zb4 r a=true):zh1 r=true:=by rw[zaa9]at h;rw[zH0];omega
theorem zK1{r:aD}{a:aC}(h:zb4 r a=true):zc0 r a=true:=(perm_iff r a).2 (.inr h)
theorem zW1{r:aD}{a:aC}(h:zb4 r a=true):a≠aC.zero:=by rw[zaa9]at h;intro e;subst e;simp[aC.zero]at h
def zay7(r:aD):List aT->Option aF->Bool
 |[],_=>true
 |h::t,pv=>za3 h.aI&&(zb4 r h.aJ&&((match pv with|none=>true|some q=>decide (ltP q h.aI))&&zay7 r t (some h.aI)))
theorem zbM3(r:aD):∀(l:List aT) (pv:Option aF),zay7 r l pv=true↔GoodP r l/\∀q,pv=some q->∀h∈l,ltP q h.aI
 |[],pv=>by simp only[zay7,dX,iD,fK,iA,kI];exact⟨by simp,.nil⟩
 |h::t,pv=>by
  simp only[zay7,bM];rw[zbM3 r t (some h.aI)];constructor
  .rintro⟨h1,h2,h3,⟨h4,h5⟩,h6⟩;refine⟨⟨λ x hx=>?_,cL.2 ⟨λ x hx=>h6 _ rfl x hx,h5⟩⟩,λ q hq x hx=>?_⟩
   .rcases bX.1 hx with rfl|hx
    .exact⟨h1,h2⟩
    .exact h4 x hx
   .subst hq;simp only[bQ]at h3;rcases bX.1 hx with rfl|hx
    .exact h3
    .exact zaG0 h3 (h6 _ rfl x hx)
  .rintro⟨⟨h1,h2⟩,h3⟩;rw[cL]at h2;refine⟨(h1 h (.head _)).1,(h1 h (.head _)).2,?_,⟨λ x hx=>h1 x (.tail _ hx),h2.2⟩,λ q hq x hx=>by cases hq;exact h2.1 x hx⟩;cases pv with
   |none=>rfl
   |some q=>exact cB (h3 q rfl h (.head _))
theorem zaG2(r:aD)(l:List aT):zq8 r l=some (zI5 r l):=by
 unfold zq8 zI5;cases hs:zh1 r with
 |false=>simp
 |true=>
  by_cases h8:8<(l.length:Int)
  .have:¬l.length<=8:=by omega
   simp[h8,this]
  .have hl8:l.length<=8:=by omega
   simp only[cI,dK,h8,cV,bP,bV,hl8,bU,cA];have key:=zv8 (body:=zV1 r l) l aT.zero (λ i (s:List aC)=>((i:Int),s))
    (λ i h s=>some (if za3 h.aI=true/\zb4 r h.aJ=true/\(i=0\/ltP (l.getD (i-1) aT.zero).aI h.aI)then .inl (s++[h.aJ])else .inr (.inr false))) (λ s=>Sum.inl (β:=Bool) s) (λ i s=>s.length<=i)
    (λ i s hi hs=>by
     refine⟨?_,λ s' h=>?_⟩
     .unfold zV1;have h1:s.length+1<=4294967296:=by omega
      have h3:0<=(i:Int)/\(i:Int)<(l.length:Int):=by omega
      simp only[h1,h3.1,h3.2,cN,zl3,bU,bT,Int.toNat_natCast,zae6,zc2 i (by omega),Option.map_some,bQ,bM,dE,cQ]
      by_cases e1:za3 (l.getD i aT.zero).aI=false\/zb4 r (l.getD i aT.zero).aJ=false
      .rw[bO e1,bN (by rintro⟨k1,k2,_⟩;rcases e1 with e|e<;>simp_all)];rfl
      .rw[bN e1];simp only[not_or,fO]at e1
       by_cases e2:i=0
       .subst e2;rw[gdp (by omega)];simp only[Int.natCast_zero,Int.lt_irrefl,bV,Option.bind_some,iC,e1,cN,true_or,bT,wmap]
       .have w:IntKind.i64.wrap ((i:Int)-1)=((i-1:Nat):Int):=zX8 i (by omega) (by omega);rw[gdp (by rw[w];omega)];simp only[w,Int.toNat_natCast,show(0:Int)<(i:Int)by omega,bT,Option.bind_some,fU,zbR5,e1,e2,iB]
        by_cases e3:ltP (l.getD (i-1) aT.zero).aI (l.getD i aT.zero).aI
        .simp only[e3,not_true,bV,bT,wmap]
        .simp only[e3,gD,bT,bV,wmap]
     .simp only[cK]at h;split at h
      .cases h;simp;omega
      .cases h)
    (λ s hs=>by unfold zV1;simp) [] (by simp)
   have fold:∀(t prev:List aT) (s:List aC),l=prev++t->
     walk (λ i h (s:List aC)=>some (if za3 h.aI=true/\zb4 r h.aJ=true/\(i=0\/ltP (l.getD (i-1) aT.zero).aI h.aI)then .inl (s++[h.aJ])else .inr (.inr false))) (λ s=>Sum.inl (β:=Bool) s) t prev.length s=
      some (if zay7 r t (prev.getLast?.map (·.aI))=true then .inl (s++t.map (·.aJ))else .inr false):=by
    intro t;induction t with
    |nil=>intro prev s _;simp[walk,zay7]
    |cons h t ih=>
     intro prev s hlt;simp only[walk];have hq:(prev.length=0\/ltP (l.getD (prev.length-1) aT.zero).aI h.aI)↔(match prev.getLast?.map (·.aI)with|none=>true|some q=>decide (ltP q h.aI))=true:=by
      rcases List.eq_nil_or_concat prev with rfl|⟨pp,x,rfl⟩
      .simp
      .have:(l.getD ((pp.concat x).length-1) aT.zero)=x:=by
        rw[hlt];simp[bS]
       rw[this];simp
     by_cases e:za3 h.aI=true/\zb4 r h.aJ=true/\(prev.length=0\/ltP (l.getD (prev.length-1) aT.zero).aI h.aI)
     .rw[bO e];have:=ih (prev++[h]) (s++[h.aJ]) (by rw[hlt];simp);rw[show(prev++[h]).length=prev.length+1 by simp]at this;simp only;have ht:zay7 r (h::t) (prev.getLast?.map (·.aI))=zay7 r t (some h.aI):=by simp only[zay7,e.1,e.2.1,hq.1 e.2.2,cA]
      rw[this,ht];simp
     .rw[bN e];rw[hq]at e;have hf:zay7 r (h::t) (prev.getLast?.map (·.aI))=false:=by
       rw[cY];intro hh;simp only[zay7,bM]at hh;exact e ⟨hh.1,hh.2.1,hh.2.2.1⟩
      rw[hf];rfl
   have k2:=fold l [] [] rfl;rw[List.length_nil]at k2;rw[show((0,[]):Int×List aC)=(λ(i:Nat) (s:List aC)=>((i:Int),s)) 0 []from rfl,key,k2];have hg:=zbM3 r l none
   by_cases e:zay7 r l none=true
   .have hgp:GoodP r l:=(hg.1 e).1;rw[bO (by simpa using e)];simp only[Option.bind_some,zax4,List.nil_append];rw[zbn9 r _ (by simp;omega)];simp[zbR6,hs,hgp]
   .have hgp:¬GoodP r l:=λ h=>e (hg.2 ⟨h,by simp⟩);rw[bN (by simpa using e)];simp[hgp]
theorem zbM4(l:List aT)(hl:l.length<=1000000):zf5 l=some (l.map (·.aJ)):=by
 unfold zf5;have key:=zv8 (body:=zU5 l) l aT.zero (λ i (s:List aC)=>((i:Int),s)) (λ i h s=>some (.inl (zbb3 s (some h.aJ)))) (λ s=>s) (λ i s=>s.length<=i)
  (λ i s hi hs=>by
   refine⟨?_,λ s' h=>?_⟩
   .unfold zU5;have h1:s.length+1<=4294967296:=by omega
    have h3:0<=(i:Int)/\(i:Int)<(l.length:Int):=by omega
    simp only[h1,h3.1,h3.2,cN,zl3,bU,bT,Int.toNat_natCast,zc2 i (by omega),Option.map_some,wmap,zbb3]
   .simp only[cK,dW]at h;subst h;simp[zbb3];omega)
  (λ s hs=>by unfold zU5;simp) [] (by simp)
 rw[show((0,[]):Int×List aC)=(λ(i:Nat) (s:List aC)=>((i:Int),s)) 0 []from rfl,key,zbb4 (λ h:aT=>some h.aJ)];simp[zaw8]
theorem zaR3(r:aD)(l:List aT):zv6 r l=some (zI5 r l):=by
 unfold zv6 zI5;rw[zbb5];cases hs:zh1 r with
 |false=>simp
 |true=>
  by_cases h8:8<(l.length:Int)
  .have:¬l.length<=8:=by omega
   simp[h8,this]
  .have hl8:l.length<=8:=by omega
   simp only[cI,dK,h8,cV,bP,bV,hl8,bU,cA];have key:=zv8 (body:=zae0 r l) l aT.zero (λ i (_:Unit)=>(i:Int))
    (λ i h _=>some (if za3 h.aI=true/\zb4 r h.aJ=true/\(i=0\/ltP (l.getD (i-1) aT.zero).aI h.aI)then .inl ()else .inr (.inr false))) (λ _=>Sum.inl (β:=Bool) ()) (λ i s=>True)
    (λ i s hi _=>by
     refine⟨?_,λ _ _=>trivial⟩;unfold zae0;have h3:0<=(i:Int)/\(i:Int)<(l.length:Int):=by omega
     simp only[h3.1,h3.2,cN,fK,zl3,bU,bT,Int.toNat_natCast,zc2 i (by omega),Option.map_some,zao3,zbs4]
     by_cases e2:i=0
     .subst e2;rw[gdp (by simp)]
      by_cases e1:za3 (l.getD 0 aT.zero).aI=true
      .by_cases e3:zb4 r (l.getD 0 aT.zero).aJ=true
       .simp only[e1,e3];simp[wmap]
       .simp only[e1,e3];simp[wmap]
      .simp only[e1];simp[wmap]
     .have w:IntKind.i64.wrap ((i:Int)-1)=((i-1:Nat):Int):=zX8 i (by omega) (by omega);rw[gdp (λ _=>by rw[w];omega)];simp only[w,Int.toNat_natCast,show(0:Int)<(i:Int)by omega,bU,cA,zbR5,e2,iB]
      by_cases e1:za3 (l.getD i aT.zero).aI=true
      .by_cases e3:zb4 r (l.getD i aT.zero).aJ=true
       .by_cases e4:ltP (l.getD (i-1) aT.zero).aI (l.getD i aT.zero).aI
        .simp only[e1,e3,e4];simp[wmap]
        .simp only[e1,e3,e4];simp[wmap]
       .simp only[e1,e3];simp[wmap]
      .simp only[e1];simp[wmap])
    (λ s hs=>by unfold zae0;simp) () trivial
   have fold:∀(t prev:List aT),l=prev++t->
     walk (λ i h (_:Unit)=>some (if za3 h.aI=true/\zb4 r h.aJ=true/\(i=0\/ltP (l.getD (i-1) aT.zero).aI h.aI)then .inl ()else .inr (.inr false))) (λ _=>Sum.inl (β:=Bool) ()) t prev.length ()=
      some (if zay7 r t (prev.getLast?.map (·.aI))=true then .inl ()else .inr false):=by
    intro t;induction t with
    |nil=>intro prev _;simp[walk,zay7]
    |cons h t ih=>
     intro prev hlt;simp only[walk];have hq:(prev.length=0\/ltP (l.getD (prev.length-1) aT.zero).aI h.aI)↔(match prev.getLast?.map (·.aI)with|none=>true|some q=>decide (ltP q h.aI))=true:=by
      rcases List.eq_nil_or_concat prev with rfl|⟨pp,x,rfl⟩
      .simp
      .have:(l.getD ((pp.concat x).length-1) aT.zero)=x:=by
        rw[hlt];simp[bS]
       rw[this];simp
     by_cases e:za3 h.aI=true/\zb4 r h.aJ=true/\(prev.length=0\/ltP (l.getD (prev.length-1) aT.zero).aI h.aI)
     .rw[bO e];have:=ih (prev++[h]) (by rw[hlt];simp);rw[show(prev++[h]).length=prev.length+1 by simp]at this;simp only;have ht:zay7 r (h::t) (prev.getLast?.map (·.aI))=zay7 r t (some h.aI):=by simp only[zay7,e.1,e.2.1,hq.1 e.2.2,cA]
      rw[this,ht];simp
     .rw[bN e];rw[hq]at e;have hf:zay7 r (h::t) (prev.getLast?.map (·.aI))=false:=by
       rw[cY];intro hh;simp only[zay7,bM]at hh;exact e ⟨hh.1,hh.2.1,hh.2.2.1⟩
      rw[hf];rfl
   have k2:=fold l [] rfl;rw[List.length_nil]at k2;rw[show(0:Int)=(λ(i:Nat) (_:Unit)=>(i:Int)) 0 ()from rfl,key,k2];have hg:=zbM3 r l none
   by_cases e:zay7 r l none=true
   .have hgp:GoodP r l:=(hg.1 e).1;rw[bO (by simpa using e)];simp only[Option.bind_some,zaF1];rw[zbM4 l (by omega),Option.bind_some,zbv8 r _ (by simp;omega)];simp[zbR6,hs,hgp]
   .have hgp:¬GoodP r l:=λ h=>e (hg.2 ⟨h,by simp⟩);rw[bN (by simpa using e)];simp[hgp]
theorem zbG1(p:aF)(a:aC)(l:List aT):(insP p a l).length=l.length+1:=by
 induction l with
 |nil=>rfl
 |cons h t ih=>simp only[insP];split<;>simp[ih]
theorem zdB2(l:List aT)(p:aF)(a:aC):(setL l p a).length<=l.length+1:=by
 have:=zaR2 p l;unfold setL;split
 .omega
 .rw[zbG1];omega
theorem zao4{r:aD}{l:List aT}(h:zI5 r l=true):l.length<=8:=by unfold zI5 at h;simp at h;exact h.2.1
def zam0(r:aD)(l:List aT)(p:aF)(a:aC):Bool:=zI5 r l&&(za3 p&&zb4 r a)
def zaL1(r:aD)(l:List aT)(p:aF)(a:aC):Bool:=zam0 r l p a&&zI5 r (setL l p a)
theorem zdk3(r:aD)(l:List aT)(p:aF)(a:aC):zx5 r l p a=some (zam0 r l p a):=by unfold zx5 zam0;rw[zaG2,Option.bind_some,gJ]
theorem zdc9(r:aD)(l:List aT)(p:aF)(a:aC):zC8 r l p a=some (zaL1 r l p a):=by
 unfold zC8 zaL1;rw[zdk3,Option.bind_some];cases h:zam0 r l p a with
 |false=>simp
 |true=>
  have hv:zI5 r l=true:=by unfold zam0 at h;simp at h;exact h.1
  simp only[bT];rw[zao2 l p a (by have:=zao4 hv;omega),Option.bind_some,zaG2];simp
theorem zcI6(r:aD)(l:List aT)(p:aF)(a:aC):zN0 r l p a=some (zaL1 r l p a):=by
 unfold zN0 zaL1;rw[zaR3,Option.bind_some,zao3,zbs4,gJ];change((if zam0 r l p a=true then _ else _):Option (List aT)).bind _=_;cases h:zam0 r l p a with
 |false=>unfold zam0 at h;simp[h]
 |true=>
  have hv:zI5 r l=true:=by unfold zam0 at h;simp at h;exact h.1
  unfold zam0 at h;simp only[h,bT];rw[zaC2 l p a (by have:=zao4 hv;omega),Option.bind_some,zaR3];simp
def zao5(p:aF):List aM->Nat->Option Nat
 |[],_=>none
 |w::l,i=>if w.aI=p then some i else zao5 p l (i+1)
def zQ7(l:List aM)(p:aF):Int:=match zao5 p l 0 with
 |some i=>i
 |none=>-1
theorem zbR7(l:List aM)(p:aF):∀k i,i+k=l.length->zG5 (λ i=>if(l.getD i aM.zero).aI=p then some (i:Int)else none) k i=(zao5 p (l.drop i) i).map λ n:Nat=>(n:Int)
 |0,i,h=>by rw[fJ (by omega)];rfl
 |k+1,i,h=>by
  rw[zae5 l i aM.zero (by omega)];simp only[zG5,zao5]
  by_cases hp:(l.getD i aM.zero).aI=p
  .simp only[hp,bT,Option.map_some]
  .simp only[hp,bV];exact zbR7 l p k (i+1) (by omega)
theorem zas7(l:List aM)(p:aF)(hl:l.length<4611686018427387904):zl7 l p=some (zQ7 l p):=by
 unfold zl7;have key:zc1 (zam7 l p) 0=some ((zG5 (λ i=>if(l.getD i aM.zero).aI=p then some (Sum.inr (i:Int))else none) l.length 0).getD (Sum.inl ())):=by
  refine zE8 l.length _ (Sum.inl ()) (λ i hi=>?_) ?_
  .unfold zam7;rw[bO (by simpa using hi),zb0 (by omega)];simp only[Int.toNat_natCast,bQ];split
   .rfl
   .rw[zk8 (by omega) (by omega)]
  .unfold zam7;rw[bN (by simp)]
 rw[key];have h2:=zbR7 l p l.length 0 (by omega);have h3:∀k i,zG5 (λ i=>if(l.getD i aM.zero).aI=p then some (Sum.inr (α:=Unit) (i:Int))else none) k i=(zG5 (λ i=>if(l.getD i aM.zero).aI=p then some (i:Int)else none) k i).map Sum.inr:=by
  intro k;induction k with
  |zero=>intro i;rfl
  |succ k ih=>
   intro i;simp only[zG5]
   by_cases hp:(l.getD i aM.zero).aI=p
   .simp only[hp,bT,Option.map_some]
   .simp only[hp,bV,ih]
 rw[h3,h2,fD];unfold zQ7;cases zao5 p l 0<;>rfl
theorem zau5(l:List aM)(p:aF)(hl:l.length<4611686018427387904):zk3 l p=some (zQ7 l p):=by have e:zk3 l p=zl7 l p:=rfl;rw[e];exact zas7 l p hl
theorem zaN7(w:aM):zz6 w=zi4 w:=by unfold zz6 zi4 zl9 za3 zK2 zu4 zb4 zh1 zy3 zv2;rw[cJ];simp;omega
def zS4(l:List aM):Bool:=decide (l.length<=8)&&(List.range l.length).all λ i=>zi4 (l.getD i aM.zero)&&decide (zQ7 l (l.getD i aM.zero).aI=i)
theorem zaX5(l:List aM):zs0 l=some (zS4 l):=by
 unfold zs0 zS4
 by_cases h8:8<(l.length:Int)
 .rw[bO (by simpa using h8)];have:¬l.length<=8:=by omega
  simp[this]
 .rw[bN (by simpa using h8)];have hl:l.length<4611686018427387904:=by omega
  have key:zc1 (zR1 l) 0=some ((zG5 (λ i=>if(zi4 (l.getD i aM.zero)&&decide (zQ7 l (l.getD i aM.zero).aI=i))=true then none else some (Sum.inr false)) l.length 0).getD (Sum.inl ())):=by
   refine zE8 l.length _ (Sum.inl ()) (λ i hi=>?_) ?_
   .unfold zR1;rw[bO (by simpa using hi),zb0 (by omega)];simp only[Int.toNat_natCast]
    by_cases hv:zi4 (l.getD i aM.zero)=true
    .simp only[hv,bT,zas7 l _ hl,Option.bind_some,cI,dK,cA]
     by_cases hf:zQ7 l (l.getD i aM.zero).aI=(i:Int)
     .simp only[hf,bU,cI,bP,bV,bT];rw[zk8 (by omega) (by omega)]
     .simp only[hf,cV,dI,bT,bP,bV]
    .have hv:zi4 (l.getD i aM.zero)=false:=by simpa using hv
     simp only[hv,bP,bV,Option.bind_some,dI,fV,bT,eT]
   .unfold zR1;rw[bN (by simp)]
  rw[key,zM5,<-dZ];have:l.length<=8:=by omega
  simp only[this,bU,cA];cases(List.range l.length).all λ i=>zi4 (l.getD i aM.zero)&&decide (zQ7 l (l.getD i aM.zero).aI=i)<;>rfl
theorem zbo0(l:List aM):zr5 l=some (zS4 l):=by
 rw[<-zaX5 l];unfold zr5 zs0
 by_cases h8:8<(l.length:Int)
 .rw[bO (cB h8),bO (cB h8)]
 .rw[bN (by simpa using h8),bN (by simpa using h8)];have hl:l.length<4611686018427387904:=by omega
  have e:zaq9 l=zR1 l:=funext λ i=>by
   unfold zaq9 zR1
   by_cases hi:i<(l.length:Int)
   .rw[bO (cB hi),bO (cB hi)]
    by_cases h0:0<=i/\i<(l.length:Int)
    .rw[zb0 h0,zb0 h0,zb0 (λ _=>h0)];simp only[zaN7,zau5 l _ hl,zas7 l _ hl]
    .unfold gd;rw[bN h0,bN h0]
   .rw[bN (by simpa using hi)];rw[bN (by simpa using hi)]
  rw[e];rfl
theorem zcI7{p:aF}:∀{l:List aM} {i j:Nat},zao5 p l i=some j->i<=j/\j<i+l.length
 |w::l,i,j,h=>by
  simp only[zao5]at h;split at h
  .cases h;simp
  .have:=zcI7 h;simp only[List.length_cons];omega
theorem zcI8(l:List aM)(p:aF):zQ7 l p=-1\/0<=zQ7 l p/\zQ7 l p<l.length:=by
 unfold zQ7;cases h:zao5 p l 0 with
 |none=>exact .inl rfl
 |some j=>right;have:=zcI7 h;simp only;omega
def over(w e:aM):Bool:=decide (e.aX<w.aX)&&decide (e.bG<3)
theorem zdN9(w e:aM):decide (zaJ3 w e=1)=over w e:=by unfold zaJ3 over;cases(decide (e.aX<w.aX)&&decide (e.bG<3))<;>rfl
def zG6(l:List aM)(w:aM):Nat->Nat
 |0=>0
 |k+1=>if over w (l.getD k aM.zero)=true then zG6 l w k else k+1
theorem zbb6(l:List aM)(w:aM):∀k,zG6 l w k<=k
 |0=>cU _
 |k+1=>by unfold zG6;split<;>have:=zbb6 l w k<;>omega
def bump(e:aM):aM:={e with bG:=IntKind.i64.wrap (e.bG+1)}
def zaM7(l:List aM)(w:aM)(n:Nat):List aM:=l.take n++w::(l.drop n).map bump
def insS(l:List aM)(w:aM):List aM×Int×Int:=
 if zS4 l=false then([],0,2)
 else if zi4 w=false\/w.bG≠0 then([],0,1)
 else if 0<=zQ7 l w.aI then([],0,11)
 else if l.length=8 then([],0,4)
 else(zaM7 l w (zG6 l w l.length),(zG6 l w l.length:Int),0)
theorem zbe5{l:List aM}(h:zS4 l=true):l.length<=8:=by simp only[zS4,bM,bQ]at h;exact h.1
theorem zce8(l:List aM)(w:aM):zw8 l w=some (insS l w):=by
 unfold zw8 insS;rw[zaX5,Option.bind_some];cases hv:zS4 l with
 |false=>rfl
 |true=>
  have h8:=zbe5 hv;simp only[cI,bP,eG,bV]
  by_cases hw:zi4 w=false\/w.bG≠0
  .rw[bO hw,bO (by rcases hw with h|h<;>simp[h])]
  .have hw1:zi4 w=true:=by simpa usingλ h=>hw (.inl h)
   have hw2:w.bG=0:=by simpa usingλ h=>hw (.inr h)
   rw[bN hw,bN (by simp[hw1,hw2]),zas7 _ _ (by omega),Option.bind_some]
   by_cases hf:0<=zQ7 l w.aI
   .rw[bO hf,bO (cB hf)]
   .rw[bN hf,bN (by simpa using hf)]
    by_cases h9:l.length=8
    .rw[bO h9,bO (cB (by omega))]
    .rw[bN h9,bN (by simp;omega),zk8 (by omega) (by omega),zb0 (by omega)];have e1:((l.length:Int)+1).toNat=l.length+1:=by omega
     rw[e1,List.take_zero,List.nil_append,dN (show l.length<=l.length+1 by omega),dG,fW (show l.length<=l.length+1 by omega)];obtain⟨x,hx,h1,h2,h3,h4⟩:=zaR1 (body:=zar4 w) (λ g=>∃i:Nat,g.1=i/\i<=l.length/\g.2.length=l.length+1/\g.2.take i=l.take i/\g.2.drop (i+1)=(l.drop i).map bump/\zG6 l w l.length=zG6 l w i) (λ g=>g.1.toNat)
      (λ x=>x.1=(zG6 l w l.length:Nat)/\x.2.length=l.length+1/\x.2.take (zG6 l w l.length)=l.take (zG6 l w l.length)/\x.2.drop (zG6 l w l.length+1)=(l.drop (zG6 l w l.length)).map bump) (λ g ⟨i,g1,g2,g3,g4,g5,g6⟩=>by
       obtain⟨gi,r⟩:=g;simp only at g1 g3 g4 g5;subst g1;unfold zar4;simp only[zdN9];cases i with
       |zero=>refine .inr ⟨(0,r),?_,by simp[g6,zG6],g3,by simp[g6,zG6],by simpa [g6,zG6]using g5⟩;rw[zb0 (by simp)];rfl
       |succ i=>
        have hgd:r.getD i aM.zero=l.getD i aM.zero:=by rw[<-zbL9 r i (i+1) _ (by omega),g4,zbL9 _ _ _ _ (by omega)]
        have e2:IntKind.i64.wrap (((i+1:Nat):Int)-1)=(i:Int):=by rw[zk8 (by omega) (by omega)];omega
        simp only[e2,Int.toNat_natCast,hgd];rw[zb0 (by omega)]
        by_cases ho:over w (l.getD i aM.zero)=true
        .left;rw[bO (by simp only[ho,eK,bQ];omega),zb0 (by omega),zb0 (by omega),zb0 (by omega),zb0 (by omega),zaI1 _ _ _ _ (by omega),List.set_set];refine⟨_,rfl,⟨i,rfl,by omega,by simpa using g3,?_,?_,by rw[g6,zG6,bO ho]⟩,by simp only[Int.toNat_natCast];omega⟩
         .rw[iN (by omega)];have:=dC (List.take i) g4;rwa [iR,iR,fW (by omega)]at this
         .rw[zae5 l i aM.zero (by omega),cX,<-g5,fL (by rw[eA];omega),List.getElem_set_self,jH (by omega)];rfl
        .right;refine⟨((i+1:Nat),r),?_,by rw[g6,zG6,bN ho],g3,?_,?_⟩
         .rw[bN (by rw[bM];exactλ h=>ho h.2)]
         .rw[g6,zG6,bN ho];exact g4
         .rw[g6,zG6,bN ho];exact g5) ((l.length:Int),l++List.drop l.length (List.replicate (l.length+1) aM.zero)) ⟨l.length,rfl,cU _,by simp,by simp,by simp,rfl⟩
     rw[hx,Option.bind_some];have hp:=zbb6 l w l.length;obtain⟨xi,r⟩:=x;simp only at h1 h2 h3 h4;subst h1;unfold zaE9;rw[zb0 (by simp only;omega)];simp only[Int.toNat_natCast,zaM7];rw[gQ,bO (by omega),h3,h4]
theorem zbU4(l:List aM)(w:aM):zt5 l w=some (insS l w):=by
 unfold zt5 insS;rw[zbo0,Option.bind_some];cases hv:zS4 l with
 |false=>rfl
 |true=>
  have h8:=zbe5 hv;simp only[cI,bP,eG,bV,zaN7]
  by_cases hw:zi4 w=false\/w.bG≠0
  .rw[bO hw,bO (by rcases hw with h|h<;>simp[h])]
  .have hw1:zi4 w=true:=by simpa usingλ h=>hw (.inl h)
   have hw2:w.bG=0:=by simpa usingλ h=>hw (.inr h)
   rw[bN hw,bN (by simp[hw1,hw2]),zau5 _ _ (by omega),Option.bind_some]
   by_cases hf:0<=zQ7 l w.aI
   .rw[bO hf,bO (cB hf)]
   .rw[bN hf,bN (by simpa using hf)]
    by_cases h9:l.length=8
    .rw[bO h9,bO (cB (by omega))]
    .rw[bN h9,bN (by simp;omega)];have h2:=zce4 (body:=zal5 l w) (λ g=>∃i:Nat,g=i/\i<=l.length) (λ g=>g.toNat) (λ g=>((zG6 l w g.toNat:Nat):Int)) (λ g ⟨i,g1,g2⟩=>by
      subst g1;unfold zal5;cases i with
      |zero=>right;rw[zb0 (by simp),zb0 (by simp)];rfl
      |succ i=>
       have e2:IntKind.i64.wrap (((i+1:Nat):Int)-1)=(i:Int):=by rw[zk8 (by omega) (by omega)];omega
       simp only[e2,Int.toNat_natCast];rw[zb0 (by omega),zb0 (by omega),gJ]
       by_cases ho:over w (l.getD i aM.zero)=true
       .left;rw[bO (by unfold over at ho;simp only[ho,eK,bQ];omega)];exact⟨_,rfl,⟨i,rfl,by omega⟩,by simp only[Int.toNat_natCast];omega,by simp only[Int.toNat_natCast,zG6,ho,bT]⟩
       .right;rw[bN (by rw[bM];exactλ h=>ho h.2)];simp only[zG6,bN ho]) (l.length:Int) ⟨l.length,rfl,cU _⟩
     rw[h2,Option.bind_some];simp only[Int.toNat_natCast];have hp:=zbb6 l w l.length;generalize zG6 l w l.length=n at hp;unfold zZ1;simp only[Int.toNat_natCast];rw[zb0 (by omega),zb0 (by simp;omega),zb0 (by simp;omega)];have key:=zcI1 (body:=zZ0 l) l.length (λ i s=>.inl (s++[bump (l.getD i aM.zero)])) (λ s=>s) (λ i s=>s.length<=i+1) (λ i s hi hs=>by
      refine⟨?_,λ s' h=>by cases h;simp;omega⟩;unfold zZ0;rw[bO (cB (by simp only;omega)),zb0 (by simp only;omega),zb0 (by simp only;omega),zk8 (by simp only;omega) (by simp only;omega)];rfl) (λ s hs=>by
      unfold zZ0;rw[bN (by simp)]) (l.length-n) n (l.take n++[w]) (by omega) (by simp only[bR,dT,List.length_cons,List.length_nil];omega)
     have e3:(l.drop n).take (l.length-n)=l.drop n:=dN (by simp);rw[key,zce5,zce6 l aM.zero bump _ n (by omega),e3,Option.bind_some];simp[zaB6,zaM7]
theorem zbG2(a b:List aM)(hl:a.length<4611686018427387904):zd2 a b=some (decide (a=b)):=by
 unfold zd2
 by_cases h:a.length=b.length
 .rw[bN (by simp[h])];exact zbs3 a b aM.zero hl h λ i=>rfl
 .rw[bO (by simp;omega)];have:a≠b:=λ e=>h (by rw[e]);simp[this]
def notP(p:aF)(w:aM):Bool:=!decide (w.aI=p)
def rmL(l:List aM)(p:aF):List aM:=l.filter (notP p)
theorem zdO0(l:List aM)(p:aF):(rmL l p).length<=l.length:=iG _ _
theorem zaC3(l:List aM)(p:aF)(hl:l.length<4294967296):zi1 l p=some (rmL l p,decide ((rmL l p).length<l.length)):=by
 unfold zi1;have key:=zcs9 (body:=zad1 l p) l.length (λ i s=>.inl (if notP p (l.getD i aM.zero)=true then s++[l.getD i aM.zero]else s)) (λ s=>s) (λ i s=>s.length<=i) (λ i s hi hs=>by
  refine⟨?_,λ s' h=>by simp only[dW]at h;subst h;split<;>first|omega|(simp only[bR,List.length_cons,List.length_nil];omega)⟩;unfold zad1;rw[bO (cB (by simp only;omega)),zb0 (by simp only;omega),zk8 (by simp only;omega) (by simp only;omega)];simp only[Int.toNat_natCast]
  by_cases hp:(!decide ((l.getD i aM.zero).aI=p))=true
  .rw[bO hp,bO (show notP p _=true from hp),zb0 (by omega)]
  .rw[bN hp,bN (show¬notP p _=true from hp)]) (λ s hs=>by
  unfold zad1;rw[bN (by simp)]) [] (fM _)
 rw[key,zbA4 l aM.zero (notP p) l.length 0 [] (by omega),List.nil_append,fD,Option.bind_some];unfold zaE5 rmL;simp
theorem zaw3(l:List aM)(p:aF)(hl:l.length<4294967296):zf9 l p=some (rmL l p,decide ((rmL l p).length<l.length)):=by
 unfold zf9;have key:=zcs9 (body:=zY6 l p) l.length (λ i s=>.inl (if notP p (l.getD i aM.zero)=true then s++[l.getD i aM.zero]else s)) (λ s=>s) (λ i s=>s.length<=i) (λ i s hi hs=>by
  refine⟨?_,λ s' h=>by simp only[dW]at h;subst h;split<;>first|omega|(simp only[bR,List.length_cons,List.length_nil];omega)⟩;unfold zY6;rw[bO (cB (by simp only;omega)),zb0 (by simp only;omega),zk8 (by simp only;omega) (by simp only;omega)];simp only[Int.toNat_natCast]
  by_cases hp:(!decide ((l.getD i aM.zero).aI=p))=true
  .rw[bO hp,bO (show notP p _=true from hp),zb0 (by omega),zb0 (by omega)]
  .rw[bN hp,bN (show¬notP p _=true from hp)]) (λ s hs=>by
  unfold zY6;rw[bN (by simp)]) [] (fM _)
 rw[key,zbA4 l aM.zero (notP p) l.length 0 [] (by omega),List.nil_append,fD,Option.bind_some];unfold zaA7 rmL;simp
theorem zce9{p:aF}:∀{l:List aM} {i:Nat},zao5 p l i=none↔∀w∈l,w.aI≠p
 |[],i=>by simp[zao5]
 |w::l,i=>by
  simp only[zao5]
  by_cases h:w.aI=p
  .simp[h]
  .simp only[h,bV,zce9 (l:=l),bX,forall_eq_or_imp,ne_eq,gD,fU]
theorem zbM5{l:List aM}{p:aF}:¬0<=zQ7 l p↔∀w∈l,w.aI≠p:=by rw[<-zce9 (i:=0)];unfold zQ7;cases zao5 p l 0<;>simp
theorem zbM6{w:aM}(h:zi4 w=true):0<=w.bG/\w.bG<=3:=by unfold zi4 at h;simp only[bM,bQ]at h;exact⟨h.1.2,h.2⟩
theorem zea5(e:aM):(bump e).aI=e.aI:=rfl
theorem zcI9(s:ByteArray):zL5 s=zH2 s:=by unfold zL5 zH2 zB4;generalize(s.toList==_)=a;generalize(s.toList==_)=b;generalize(s.toList==_)=c;generalize(s.toList==_)=d;generalize(s.toList==_)=e;cases a<;>cases b<;>cases c<;>cases d<;>cases e<;>rfl
def chI(s:ByteArray)(i:Nat):Int:=((s.toList.getD i 0).toNat:Int)
def okC(s:ByteArray)(i:Nat):Bool:=zO0 (chI s i)||(!decide (i=0)&&zD8 (chI s i))
theorem zbG3(s:ByteArray)(hl:s.size<=12):zc1 (zD9 s) 0=some (if(List.range s.size).all (okC s)=true then .inl ()else .inr false):=by
 have key:zc1 (zD9 s) 0=some ((zG5 (λ i=>if okC s i=true then none else some (Sum.inr false)) s.size 0).getD (Sum.inl ())):=by
  refine zE8 s.size _ (Sum.inl ()) (λ i hi=>?_) ?_
  .unfold zD9;rw[bO (by simpa using hi),zb0 (by omega),zk8 (by omega) (by omega)];simp only[Int.toNat_natCast];have e:((!((decide (97<=((s.toList.getD i 0).toNat:Int)))&&(decide (((s.toList.getD i 0).toNat:Int)<=122))))&&((decide ((i:Int)=0))||(!((((decide (48<=((s.toList.getD i 0).toNat:Int)))&&(decide (((s.toList.getD i 0).toNat:Int)<=57)))||(decide (((s.toList.getD i 0).toNat:Int)=95)))||(decide (((s.toList.getD i 0).toNat:Int)=45))))))=!okC s i:=by
    unfold okC zD8 zO0 chI;generalize((s.toList.getD i 0).toNat:Int)=c;rw[cJ];simp;omega
   cases hk:okC s i
   .rw[hk]at e;exact bO e
   .rw[hk]at e;exact bN (by rw[show _=false from e];decide)
  .unfold zD9;rw[bN (by simp)]
 rw[key,zM5,<-dZ];cases(List.range s.size).all (okC s)<;>rfl
theorem zbU5(s:ByteArray)(hl:s.size<=12):zc1 (zH3 s) 0=some (if(List.range s.size).all (λ i=>zD8 (chI s i))=true then .inl ()else .inr false):=by
 have key:zc1 (zH3 s) 0=some ((zG5 (λ i=>if zD8 (chI s i)=true then none else some (Sum.inr false)) s.size 0).getD (Sum.inl ())):=by
  refine zE8 s.size _ (Sum.inl ()) (λ i hi=>?_) ?_
  .unfold zH3;rw[bO (by simpa using hi),zb0 (by omega),zk8 (by omega) (by omega)];simp only[Int.toNat_natCast];show(if(!zD8 (chI s i))=true then _ else _)=_;cases zD8 (chI s i)<;>rfl
  .unfold zH3;rw[bN (by simp)]
 rw[key,zM5,<-dZ];cases(List.range s.size).all (λ i=>zD8 (chI s i))<;>rfl
def zy8(s:ByteArray):Bool:=decide (1<=s.size)&&(decide (s.size<=12)&&(!zH2 s&&(List.range s.size).all (okC s)))
theorem zai6(s:ByteArray):zc5 s=some (zy8 s):=by
 unfold zc5 zy8;rw[zcI9]
 by_cases h1:s.size<1
 .have:¬1<=s.size:=by omega
  rw[bO (by simp;omega)];simp[this]
 by_cases h2:12<s.size
 .have:¬s.size<=12:=by omega
  rw[bO (by simp;omega)];simp[this]
 cases hr:zH2 s
 .rw[bN (by simp;omega),zbG3 s (by omega)];have a1:1<=s.size:=by omega
  have a2:s.size<=12:=by omega
  simp only[a1,a2,bU,cA,dI];cases(List.range s.size).all (okC s)<;>rfl
 .rw[bO (by simp)];simp
theorem zau6(s:ByteArray):zg2 s=some (zy8 s):=by
 unfold zg2 zy8
 by_cases h1:s.size<1
 .have:¬1<=s.size:=by omega
  rw[zb0 (by simp;omega),bO (by simp;omega)];simp[this]
 by_cases h2:12<s.size
 .have:¬s.size<=12:=by omega
  rw[zb0 (by simp;omega),bO (by simp;omega)];simp[this]
 have a1:1<=s.size:=by omega
 have a2:s.size<=12:=by omega
 rw[zb0 (by intro _;omega)];have c0:((s.toList.getD 0 0).toNat:Int)=chI s 0:=rfl;have d1:decide ((s.size:Int)<1)=false:=by simp;omega
 have d2:decide (12<(s.size:Int))=false:=by simp;omega
 simp only[a1,a2,bU,cA,c0,d1,d2,dK];have hall:(List.range s.size).all (okC s)=(zO0 (chI s 0)&&(List.range s.size).all λ i=>zD8 (chI s i)):=by
  rw[cJ];simp only[cS,dH,bM,okC,dE,cQ,dA];constructor
  .intro h;refine⟨?_,λ i hi=>?_⟩
   .rcases h 0 (by omega)with h|h
    .exact h
    .exact absurd rfl h.1
   .rcases h i hi with h|h
    .unfold zD8;simp[h]
    .exact h.2
  .rintro⟨h0,h⟩ i hi
   by_cases hz:i=0
   .subst hz;exact .inl h0
   .exact .inr ⟨hz,h i hi⟩
 rw[hall];cases hr:zH2 s
 .cases hL:zO0 (chI s 0)
  .rfl
  .simp only[cI,fB,bP,bV,zbU5 s a2,dI,cA];cases(List.range s.size).all (λ i=>zD8 (chI s i))<;>rfl
 .simp
def resV(r:aD):Bool:=zy8 r.name&&(zh1 r&&(decide (0<=r.home)&&decide (r.home<4)))
theorem zaR4(r:aD):zc7 r=some (resV r):=by unfold zc7 resV;rw[zai6];simp only[Option.bind_some,gJ]
theorem zbG4(r:aD):zg9 r=some (resV r):=by unfold zg9 resV;rw[zau6,zbb5];simp only[Option.bind_some,gJ]
def getH(l:List aT)(p:aF):aC:=match l.find? λ h=>decide (h.aI=p)with
 |some h=>h.aJ
 |none=>aC.zero
theorem zcf0(l:List aT)(p:aF):∀k i,i+k=l.length->((zG5 (λ i=>if(l.getD i aT.zero).aI=p then some (Sum.inr (α:=Unit) (l.getD i aT.zero).aJ)else none) k i).getD (Sum.inl ()))=match(l.drop i).find? λ h=>decide (h.aI=p)with
  |some h=>Sum.inr h.aJ
  |none=>Sum.inl ()
 |0,i,h=>by rw[fJ (by omega)];rfl
 |k+1,i,h=>by
  rw[zae5 l i aT.zero (by omega)];simp only[zG5,List.find?_cons]
  by_cases hp:(l.getD i aT.zero).aI=p
  .simp only[hp,bT,bU,Option.getD_some]
  .simp only[hp,bV,cV];exact zcf0 l p k (i+1) (by omega)
theorem zbo1(l:List aT)(p:aF)(hl:l.length<4611686018427387904):zj8 l p=some (getH l p):=by
 unfold zj8;have key:zc1 (zL3 l p) 0=some ((zG5 (λ i=>if(l.getD i aT.zero).aI=p then some (Sum.inr (α:=Unit) (l.getD i aT.zero).aJ)else none) l.length 0).getD (Sum.inl ())):=by
  refine zE8 l.length _ (Sum.inl ()) (λ i hi=>?_) ?_
  .unfold zL3;rw[bO (by simpa using hi),zb0 (by omega),zk8 (by omega) (by omega)];simp only[Int.toNat_natCast,bQ];split<;>rfl
  .unfold zL3;rw[bN (by simp)]
 rw[key,zcf0 l p l.length 0 (by omega),fD];unfold getH;cases l.find? λ h=>decide (h.aI=p)<;>rfl
theorem zbe6(l:List aT)(p:aF)(hl:l.length<4611686018427387904):zm6 l p=some (getH l p):=by
 rw[<-zbo1 l p hl];unfold zm6 zj8;have e:zaA4 l p=zL3 l p:=funext λ i=>by
  unfold zaA4 zL3
  by_cases h:0<=i/\i<(l.length:Int)
  .simp only[zb0 h]
  .by_cases hi:i<(l.length:Int)
   .rw[bO (cB hi),bO (cB hi),gdn h,gdn h]
   .rw[bN (by simpa using hi),bN (by simpa using hi)]
 rw[e];rfl
theorem zaN8(a:aC):zh5 a=zk5 a:=rfl
abbrev covM(a b:Int):Bool:=zV0 a b
theorem zbo2(a b:Int):covM a b=true↔(1<=a/\a<=5/\1<=b/\b<=5)/\(a=b\/a=5\/b=1\/a=4/\b≠5):=by
 unfold covM zV0 zy3
 by_cases h:1<=a/\a<=5/\1<=b/\b<=5
 .rw[bN (by simp;omega)];simp;omega
 .rw[bO (by simp;omega)];simp;omega
theorem zaR5(a b:Int):zl4 a b=some (covM a b):=by
 unfold zl4 zv2;rw[zb0 (by simp;omega)];congr 1;rw[cJ,zbo2]
 by_cases h:1<=a/\a<=5/\1<=b/\b<=5
 .obtain⟨h1,h2,h3,h4⟩:=h;have ha:a=1\/a=2\/a=3\/a=4\/a=5:=by omega
  have hb:b=1\/b=2\/b=3\/b=4\/b=5:=by omega
  rcases ha with rfl|rfl|rfl|rfl|rfl<;>rcases hb with rfl|rfl|rfl|rfl|rfl<;>decide
 .constructor
  .intro hh;simp only[bM,bQ]at hh;omega
  .rintro⟨hh,_⟩;exact absurd hh h
def covA(r:aD)(a b:aC):Bool:=zq1 r a b
theorem zaG3(r:aD)(a b:aC):zo2 r a b=some (covA r a b):=by unfold zo2 covA zq1;simp only[zbs5,zaN8,zaR5,Option.bind_some];cases zc0 r a<;>cases zc0 r b<;>simp;cases ha:zk5 a<;>cases hb:zk5 b<;>simp;split<;>rfl
theorem zN4(q:aA)(p:aF)(hl:q.aL.length<4611686018427387904):zl0 q p=some (getH q.aL p):=by unfold zl0;rw[zbo1 _ _ hl];rfl
theorem zT2(q:aA)(p:aF)(hl:q.aL.length<4611686018427387904):zk7 q p=some (getH q.aL p):=by unfold zk7;rw[zbe6 _ _ hl];rfl
theorem hb(b:Bool):b=true\/b=false:=by cases b<;>simp
def cvI(q:aA)(i:Nat):Bool:=
 let w:=q.aH.getD i aM.zero
 let h:=getH q.aL w.aI
 decide (zQ7 q.aH w.aI=(i:Int))&&(!zk5 h&&(zb4 q.aB w.aJ&&(covA q.aB w.aJ h&&(!decide (w.aJ=h)&&(decide (w.aX=0)&&decide (w.bG=0))))))
def cvOk(q:aA):Bool:=decide (q.aH.length<=8)&&(List.range q.aH.length).all (cvI q)
def wtI(q:aA)(i:Nat):Bool:=
 let w:=q.aU.getD i aM.zero
 zb4 q.aB w.aJ&&zk5 (getH q.aL w.aI)
def wtOk(q:aA):Bool:=zS4 q.aU&&(decide (q.aL.length+q.aU.length<=8)&&(List.range q.aU.length).all (wtI q))
theorem zco2(q:aA)(hl:q.aL.length<4611686018427387904)(hc:q.aH.length<=8):zc1 (zA7 q) 0=some (if(List.range q.aH.length).all (cvI q)=true then .inl ()else .inr false):=by
 have key:zc1 (zA7 q) 0=some ((zG5 (λ i=>if cvI q i=true then none else some (Sum.inr false)) q.aH.length 0).getD (Sum.inl ())):=by
  refine zE8 q.aH.length _ (Sum.inl ()) (λ i hi=>?_) ?_
  .unfold zA7;rw[bO (by simpa using hi),zb0 (by omega),zk8 (by omega) (by omega),Int.toNat_natCast];unfold cvI;generalize q.aH.getD i aM.zero=w;rw[zN4 q _ hl,Option.bind_some,zas7 _ _ (show q.aH.length<4611686018427387904 by omega),Option.bind_some];simp only[zaG3];rcases hb (decide (zQ7 q.aH w.aI=(i:Int)))with c1|c1<;>rcases hb (zk5 (getH q.aL w.aI))with c2|c2<;>rcases hb (zb4 q.aB w.aJ)with c3|c3<;>rcases hb (covA q.aB w.aJ (getH q.aL w.aI))with c4|c4<;>
    rcases hb (decide (w.aJ=getH q.aL w.aI))with c5|c5<;>rcases hb (decide (w.aX=0))with c6|c6<;>rcases hb (decide (w.bG=0))with c7|c7<;>
    simp only[c1,c2,c3,c4,c5,c6,c7,cI,dI,jK,fV,jV,dK,eK,cA,gC,eT,bT,bV,bP,Option.bind_some,fB,fT]
  .unfold zA7;rw[bN (by simp)]
 rw[key,zM5,<-dZ];cases(List.range q.aH.length).all (cvI q)<;>rfl
theorem zbe7(q:aA)(hl:q.aL.length<4611686018427387904):zo5 q=some (cvOk q):=by
 unfold zo5 cvOk
 by_cases h:8<q.aH.length
 .have:¬q.aH.length<=8:=by omega
  rw[bO (by simp;omega)];simp[this]
 .have h8:q.aH.length<=8:=by omega
  rw[bN (by simp;omega),zco2 q hl h8];simp only[h8,bU,cA];cases(List.range q.aH.length).all (cvI q)<;>rfl
theorem zcf1(q:aA)(hl:q.aL.length<4611686018427387904)(hc:q.aU.length<=8):zc1 (zB6 q) 0=some (if(List.range q.aU.length).all (wtI q)=true then .inl ()else .inr false):=by
 have key:zc1 (zB6 q) 0=some ((zG5 (λ i=>if wtI q i=true then none else some (Sum.inr false)) q.aU.length 0).getD (Sum.inl ())):=by
  refine zE8 q.aU.length _ (Sum.inl ()) (λ i hi=>?_) ?_
  .unfold zB6;rw[bO (by simpa using hi),zb0 (by omega),zk8 (by omega) (by omega),Int.toNat_natCast];unfold wtI;generalize q.aU.getD i aM.zero=w;rw[zN4 q _ hl];rcases hb (zk5 (getH q.aL w.aI))with c2|c2<;>rcases hb (zb4 q.aB w.aJ)with c3|c3<;>simp only[c2,c3,cI,dI,jK,fV,jV,dK,eK,cA,gC,eT,bT,bV,bP,Option.bind_some,fB,fT]
  .unfold zB6;rw[bN (by simp)]
 rw[key,zM5,<-dZ];cases(List.range q.aU.length).all (wtI q)<;>rfl
theorem zbv9(q:aA)(hl:q.aL.length<=1000000):zr9 q=some (wtOk q):=by
 unfold zr9 wtOk;rw[zaX5,Option.bind_some];cases hv:zS4 q.aU
 .simp
 .have h8:=zbe5 hv;rw[zk8 (by omega) (by omega)]
  by_cases h:8<q.aL.length+q.aU.length
  .have:¬q.aL.length+q.aU.length<=8:=by omega
   rw[bO (by simp;omega)];simp[this]
  .have h9:q.aL.length+q.aU.length<=8:=by omega
   rw[bN (by simp;omega),zcf1 q (by omega) h8];simp only[h9,bU,cA];cases(List.range q.aU.length).all (wtI q)<;>rfl
def zaX6(q:aA):Bool:=resV q.aB&&(zI5 q.aB q.aL&&(cvOk q&&(wtOk q&&(decide (0<=q.gen)&&decide (q.gen<=1073741824)))))
theorem zcf2(q:aA):zA8 q=some (zaX6 q):=by
 unfold zA8 zaX6;rw[zaR4,Option.bind_some];cases resV q.aB
 .simp
 .simp only[bT,zaG2,Option.bind_some,cA];cases hv:zI5 q.aB q.aL
  .simp
  .have hl:=zao4 hv;simp only[bT,zbe7 q (by omega),Option.bind_some,cA];cases cvOk q
   .simp
   .simp only[bT,zbv9 q (by omega),Option.bind_some,cA,gJ]
theorem zcf3(q:aA)(hl:q.aL.length<=1000000)(hc:q.aU.length<=8):zc1 (zar5 q) 0=some (if(List.range q.aU.length).all (wtI q)=true then .inl ()else .inr false):=by
 rw[<-zcf1 q (by omega) hc];congr 1;funext i;unfold zar5 zB6
 by_cases h:0<=i/\i<(q.aU.length:Int)
 .rw[bO (cB h.2),bO (cB h.2),zb0 h,zb0 h,zb0 (λ _=>h)];simp only[zbs4,zaN8,zbe6 _ _ (show q.aL.length<4611686018427387904 by omega),zN4 q _ (show q.aL.length<4611686018427387904 by omega)]
 .by_cases hi:i<(q.aU.length:Int)
  .rw[bO (cB hi),bO (cB hi),gdn h,gdn h]
  .rw[bN (by simpa using hi),bN (by simpa using hi)]
theorem zbG5(q:aA)(hl:q.aL.length<=1000000)(hc:q.aH.length<=8):zc1 (zT6 q) 0=some (if(List.range q.aH.length).all (cvI q)=true then .inl ()else .inr false):=by
 have key:zc1 (zT6 q) 0=some ((zG5 (λ i=>if cvI q i=true then none else some (Sum.inr false)) q.aH.length 0).getD (Sum.inl ())):=by
  refine zE8 q.aH.length _ (Sum.inl ()) (λ i hi=>?_) ?_
  .unfold zT6;rw[bO (by simpa using hi),zb0 (by omega),zk8 (by omega) (by omega),Int.toNat_natCast];unfold cvI covA;generalize q.aH.getD i aM.zero=w;rw[zbe6 _ _ (show q.aL.length<4611686018427387904 by omega),Option.bind_some,zau5 _ _ (show q.aH.length<4611686018427387904 by omega)];simp only[zaN8,zbs4];rcases hb (decide (zQ7 q.aH w.aI=(i:Int)))with c1|c1<;>rcases hb (zk5 (getH q.aL w.aI))with c2|c2<;>rcases hb (zb4 q.aB w.aJ)with c3|c3<;>rcases hb (zq1 q.aB w.aJ (getH q.aL w.aI))with c4|c4<;>
    rcases hb (decide (w.aJ=getH q.aL w.aI))with c5|c5<;>rcases hb (decide (w.aX=0))with c6|c6<;>rcases hb (decide (w.bG=0))with c7|c7<;>
    simp only[c1,c2,c3,c4,c5,c6,c7,cI,dI,jK,fV,jV,dK,eK,cA,gC,eT,bT,bV,bP,Option.bind_some,fB,fT]
  .unfold zT6;rw[bN (by simp)]
 rw[key,zM5,<-dZ];cases(List.range q.aH.length).all (cvI q)<;>rfl
theorem zaR6(q:aA):zx0 q=some (zaX6 q):=by
 unfold zx0 zaX6 cvOk wtOk;rw[zbG4,Option.bind_some];cases resV q.aB
 .simp
 .simp only[bT,zaR3,Option.bind_some,cA];cases hv:zI5 q.aB q.aL
  .simp
  .have hl:=zao4 hv
   by_cases hc:8<q.aH.length
   .have h1:¬q.aH.length<=8:=by omega
    have h2:decide (8<(q.aH.length:Int))=true:=by simp;omega
    simp[h1,h2]
   .have h1:q.aH.length<=8:=by omega
    have h2:decide (8<(q.aH.length:Int))=false:=by simp;omega
    simp only[h1,h2,cI,fB,dI,bT,zbo0,Option.bind_some,dK,bU,cA];cases hw:zS4 q.aU
    .simp
    .have h8:=zbe5 hw;simp only[cI,dK,cA];rw[zk8 (by omega) (by omega)]
     by_cases h:q.aL.length+q.aU.length<=8
     .by_cases g1:0<=q.gen
      .by_cases g2:q.gen<=1073741824
       .rw[bN (by simp;omega),zbG5 q (by omega) h1];simp only[h,g1,g2,bU,cA,eK];cases(List.range q.aH.length).all (cvI q)
        .rfl
        .simp only[bT,Option.bind_some,cA];unfold zar6;rw[zcf3 q (by omega) h8];cases(List.range q.aU.length).all (wtI q)<;>rfl
       .rw[bO (by simp;omega)];simp[g2]
      .rw[bO (by simp;omega)];simp[g1]
     .rw[bO (by simp;omega)];simp[h]
def zF6(q:aA):aM×Bool:=match q.aH++q.aU with
 |w::_=>(w,true)
 |[]=>(aM.zero,false)
theorem zaX7(q:aA):zl6 q=some (zF6 q):=by
 unfold zl6 zF6;cases q.aH with
 |cons a l=>rw[bO (by simp),zb0 (by simp)];rfl
 |nil=>
  rw[bN (by simp)];cases q.aU with
  |cons a l=>rw[bO (by simp),zb0 (by simp)];rfl
  |nil=>rw[bN (by simp)];rfl
theorem zbx4(q:aA):zl8 q=some (zF6 q):=by rw[<-zaX7];rfl
def zi0(q:aA):Bool:=zaX6 q&&!((zF6 q).2&&zaL1 q.aB q.aL (zF6 q).1.aI (zF6 q).1.aJ)
theorem zbM7(q:aA):zD3 q=some (zi0 q):=by
 unfold zD3 zi0;rw[zcf2,Option.bind_some];cases zaX6 q
 .simp
 .rw[bN (by simp),zaX7,Option.bind_some];cases(zF6 q).2<;>simp[zdc9]
theorem zbb7(q:aA):zD0 q=some (zi0 q):=by
 unfold zD0 zi0;rw[zaR6,Option.bind_some];cases zaX6 q
 .simp
 .rw[bN (by simp),zbx4,Option.bind_some];cases(zF6 q).2<;>simp[zcI6]
theorem zae7(q:aA):zy5 q=some (zi0 q):=by unfold zy5;rw[zbM7];rfl
theorem zao6(q:aA):zA9 q=some (zi0 q):=by
 unfold zA9;rw[zaR6,Option.bind_some];cases h:zaX6 q
 .simp[zi0,h]
 .simp[zbb7]
theorem zco3(a b:List aT)(hl:a.length<4611686018427387904):zd9 a b=some (decide (a=b)):=by
 unfold zd9
 by_cases h:a.length=b.length
 .rw[bN (by simp[h])];exact zbs3 a b aT.zero hl h (λ i=>rfl)
 .rw[bO (by simp;omega)];have:a≠b:=λ e=>h (by rw[e]);simp[this]
instance:DecidableEq aA:=λ a b=>decidable_of_iff (a.aB=b.aB/\a.aL=b.aL/\a.aH=b.aH/\a.aU=b.aU/\a.gen=b.gen) (by rw[aA.ext_iff])
theorem zco4(a b:aA)(h1:a.aL.length<4611686018427387904)(h2:a.aH.length<4611686018427387904)(h3:a.aU.length<4611686018427387904):zo7 a b=some (decide (a=b)):=by
 unfold zo7;simp only[zco3 _ _ h1,zbG2 _ _ h2,zbG2 _ _ h3];have e:decide (a=b)=(decide (a.aB=b.aB)&&(decide (a.gen=b.gen)&&(decide (a.aL=b.aL)&&(decide (a.aH=b.aH)&&decide (a.aU=b.aU))))):=by
  rw[cJ];simp only[bQ,bM,aA.ext_iff];constructor
  .rintro⟨a1,a2,a3,a4,a5⟩;exact⟨a1,a5,a2,a3,a4⟩
  .rintro⟨a1,a5,a2,a3,a4⟩;exact⟨a1,a2,a3,a4,a5⟩
 rw[e];cases decide (a.aB=b.aB)<;>cases decide (a.gen=b.gen)<;>cases decide (a.aL=b.aL)<;>cases decide (a.aH=b.aH)<;>cases decide (a.aU=b.aU)<;>rfl
def newQ(r:aD):aA×Int:=if resV r=true then({aA.zero with aB:=r},0)else(aA.zero,1)
theorem zcy9(r:aD):zv0 r=some (newQ r):=by unfold zv0 newQ;rw[zaR4,Option.bind_some];cases resV r<;>rfl
theorem zcU9(a b:List aM)(ha:a.length<=1000000)(hb:b.length<=1000000):za9 [a,b]=some (a++b):=by
 unfold za9;have s0:zp6 [a,b] (0,0)=some (.inl ((a.length:Int),1)):=by unfold zp6;rw[bO (by simp),zb0 (by simp)];show(if decide (IntKind.i64.wrap (0+(a.length:Int))<0)=true then none else some (Sum.inl (IntKind.i64.wrap (0+(a.length:Int)),_)))=_;rw[zk8 (by omega) (by omega),bN (by simp),Int.zero_add];rfl
 have s1:zp6 [a,b] ((a.length:Int),1)=some (.inl ((a.length:Int)+(b.length:Int),2)):=by unfold zp6;rw[bO (by simp),zb0 (by simp)];show(if decide (IntKind.i64.wrap ((a.length:Int)+(b.length:Int))<0)=true then none else some (Sum.inl (IntKind.i64.wrap ((a.length:Int)+(b.length:Int)),_)))=_;rw[zk8 (by omega) (by omega),bN (by simp;omega)];rfl
 have s2:zp6 [a,b] ((a.length:Int)+(b.length:Int),2)=some (.inr ((a.length:Int)+(b.length:Int))):=by unfold zp6;rw[bN (by simp)]
 rw[zh3,s0];simp only;rw[zh3,s1];simp only;rw[zh3,s2];simp only[Option.bind_some];unfold zz2 za8;rw[zb0 (by omega),Option.bind_some];have t0:zp5 [a,b] (0,[])=some (.inl (1,a)):=by unfold zp5;rw[bO (by simp),zb0 (by simp),zb0 (by simp;omega)];rfl
 have t1:zp5 [a,b] (1,a)=some (.inl (2,a++b)):=by unfold zp5;rw[bO (by simp),zb0 (by simp),zb0 (by simp;omega)];rfl
 have t2:zp5 [a,b] (2,a++b)=some (.inr (a++b)):=by unfold zp5;rw[bN (by simp)]
 rw[zh3,t0];simp only;rw[zh3,t1];simp only;rw[zh3,t2];rfl
theorem zbo3(q:aA)(h1:q.aH.length<=1000000)(h2:q.aU.length<=1000000):zo9 q=some (q.aH++q.aU):=by unfold zo9;rw[zcU9 _ _ h1 h2];rfl
def zbG6(l:List aM)(p:aF):aC×Bool:=match l.find? λ w=>decide (w.aI=p)with
 |some w=>(w.aJ,true)
 |none=>(aC.zero,false)
def zB2(q:aA)(p:aF):aC×Bool:=zbG6 (q.aH++q.aU) p
theorem zbR8(l:List aM)(p:aF):∀k i,i+k=l.length->((zG5 (λ i=>if(l.getD i aM.zero).aI=p then some (Sum.inr (α:=Unit) ((l.getD i aM.zero).aJ,true))else none) k i).getD (Sum.inl ()))=match(l.drop i).find? λ w=>decide (w.aI=p)with
  |some w=>Sum.inr (w.aJ,true)
  |none=>Sum.inl ()
 |0,i,h=>by rw[fJ (by omega)];rfl
 |k+1,i,h=>by
  rw[zae5 l i aM.zero (by omega)];simp only[zG5,List.find?_cons]
  by_cases hp:(l.getD i aM.zero).aI=p
  .simp only[hp,bT,bU,Option.getD_some]
  .simp only[hp,bV,cV];exact zbR8 l p k (i+1) (by omega)
theorem zaw4(q:aA)(p:aF)(h1:q.aH.length<=1000000)(h2:q.aU.length<=1000000):zo4 q p=some (zB2 q p):=by
 unfold zo4 zB2;rw[zbo3 q h1 h2,Option.bind_some];have hl:(q.aH++q.aU).length<=2000000:=by rw[bR];omega
 generalize q.aH++q.aU=l at*;have key:zc1 (zY9 p l) 0=some ((zG5 (λ i=>if(l.getD i aM.zero).aI=p then some (Sum.inr (α:=Unit) ((l.getD i aM.zero).aJ,true))else none) l.length 0).getD (Sum.inl ())):=by
  refine zE8 l.length _ (Sum.inl ()) (λ i hi=>?_) ?_
  .unfold zY9;rw[bO (by simpa using hi),zb0 (by omega),zk8 (by omega) (by omega)];simp only[Int.toNat_natCast,bQ];split<;>rfl
  .unfold zY9;rw[bN (by simp)]
 rw[key,zbR8 l p l.length 0 (by omega),fD];unfold zbG6;cases l.find? λ w=>decide (w.aI=p)<;>rfl
def upM(a b g:Int):Bool:=covM g a&&covM g b
def supM(a b:Int):Int:=if upM a b 1=true then 1 else if upM a b 2=true then 2 else if upM a b 3=true then 3 else if upM a b 4=true then 4 else if upM a b 5=true then 5 else 0
theorem zco5(a b g:Int)(h1:1<=g)(h2:g<=5):zaj2 a b g=some (if upM a b g=true then .inr (.inr g)else .inl (g+1)):=by unfold zaj2 upM;rw[bO (by simpa using h2),zaR5,Option.bind_some,zk8 (by omega) (by omega),zaR5];cases covM g a<;>cases covM g b<;>rfl
theorem zcz0(a b:Int):zaj2 a b 6=some (.inr (.inl ())):=by unfold zaj2;rw[bN (by decide)]
theorem zcJ0{body:Int->Option (Int⊕(Unit⊕Int))}(a b:Int)(hs:∀g,1<=g->g<=5->body g=some (if upM a b g=true then .inr (.inr g)else .inl (g+1)))(he:body 6=some (.inr (.inl ()))):
  (zc1 body 1).bind (λ|.inl _=>some 0|.inr z=>some z)=some (supM a b):=by
 unfold supM;rw[zh3,hs 1 (by decide) (by decide)]
 by_cases c1:upM a b 1=true
 .simp[c1]
 simp only[c1,bP,bV];rw[show(1:Int)+1=2 from rfl,zh3,hs 2 (by decide) (by decide)]
 by_cases c2:upM a b 2=true
 .simp[c2]
 simp only[c2,bP,bV];rw[show(2:Int)+1=3 from rfl,zh3,hs 3 (by decide) (by decide)]
 by_cases c3:upM a b 3=true
 .simp[c3]
 simp only[c3,bP,bV];rw[show(3:Int)+1=4 from rfl,zh3,hs 4 (by decide) (by decide)]
 by_cases c4:upM a b 4=true
 .simp[c4]
 simp only[c4,bP,bV];rw[show(4:Int)+1=5 from rfl,zh3,hs 5 (by decide) (by decide)]
 by_cases c5:upM a b 5=true
 .simp[c5]
 simp only[c5,bP,bV];rw[show(5:Int)+1=6 from rfl,zh3,he];rfl
theorem zcJ1(a b:Int):zu9 a b=some (supM a b):=zcJ0 a b (zco5 a b) (zcz0 a b)
theorem zcz1(a b:Int):zt3 a b=some (supM a b):=by
 refine zcJ0 a b (λ g h1 h2=>?_) ?_
 .unfold zaB0;rw[bO (by simpa using h2),zk8 (by omega) (by omega)];rcases hb (covM g a)with c|c<;>rcases hb (covM g b)with d|d<;>simp[upM,c,d]
 .unfold zaB0;rw[bN (by decide)]
def zao7(r:aD)(a b:aC):aC:=
 if(!zc0 r a||!zc0 r b)=true then aC.zero else
 if zk5 a=true then b else if zk5 b=true then a else
 if r.kind=1 then{aC.zero with mode:=supM a.mode b.mode}else{aC.zero with aV:=if a.aV<b.aV then b.aV else a.aV}
theorem zcf4(r:aD)(a b:aC):zt0 r a b=some (zao7 r a b):=by
 unfold zt0 zao7;simp only[zcJ1,Option.bind_some];split
 .rfl
 split
 .rfl
 split
 .rfl
 by_cases h:r.kind=1
 .simp[h]
 .simp[h]
theorem zdB3:∀a∈[(1:Int),2,3,4,5],∀b∈[(1:Int),2,3,4,5],covM a b=true->supM a b=a:=by decide
theorem zdk4:∀a∈[(1:Int),2,3,4,5],∀b∈[(1:Int),2,3,4,5],covM b a=true->supM a b=b:=by decide
theorem zco6(r:aD)(a b:aC):zz3 r a b=some (zao7 r a b):=by
 unfold zz3 zao7;simp only[zbs5,zcz1,Option.bind_some];cases ha:zc0 r a
 .simp
 cases hpb:zc0 r b
 .simp
 simp only[cI,fB,bP,bV];unfold zq1;simp only[zbs5,zaN8,ha,hpb,cI,fB,bP,bV];rcases hb (zk5 a)with hza|hza<;>rcases hb (zk5 b)with hzb|hzb
 rotate_left 3
 .simp only[hza,hzb,bP,bV]
  by_cases hk:r.kind=1
  .have pa:=zaG1 ha hk;have pb:=zaG1 hpb hk;have na:a.mode≠0:=λ h=>by
    have:a=aC.zero:=by cases a;simp only at*;simp[aC.zero];omega
    rw[this]at hza;exact absurd hza (by decide)
   have nb:b.mode≠0:=λ h=>by
    have:b=aC.zero:=by cases b;simp only at*;simp[aC.zero];omega
    rw[this]at hzb;exact absurd hzb (by decide)
   have ma:a.mode∈[(1:Int),2,3,4,5]:=by simp;omega
   have mb:b.mode∈[(1:Int),2,3,4,5]:=by simp;omega
   have ea:a={aC.zero with mode:=a.mode}:=by cases a;simp only at*;simp[aC.zero];omega
   have eb:b={aC.zero with mode:=b.mode}:=by cases b;simp only at*;simp[aC.zero];omega
   simp only[hk,bU,bT]
   by_cases c1:covM a.mode b.mode=true
   .rw[bO c1,zdB3 _ ma _ mb c1];exact dC some ea
   .rw[bN c1]
    by_cases c2:covM b.mode a.mode=true
    .rw[bO c2,zdk4 _ ma _ mb c2];exact dC some eb
    .rw[bN c2]
  .have hk2:r.kind=2:=by
    have:=ha;rw[perm_iff,zH0,zaa9]at this;omega
   have pa:=zbs6 ha hk2;have pb:=zbs6 hpb hk2;have ea:a={aC.zero with aV:=a.aV}:=by cases a;simp only at*;simp[aC.zero];omega
   have eb:b={aC.zero with aV:=b.aV}:=by cases b;simp only at*;simp[aC.zero];omega
   have d:decide (r.kind=1)=false:=by simpa using hk
   simp only[d,hk,bP,bV,bQ]
   by_cases c1:b.aV<=a.aV
   .have:¬a.aV<b.aV:=by omega
    rw[bO c1,bN this];exact dC some ea
   .have:a.aV<b.aV:=by omega
    have c2:a.aV<=b.aV:=by omega
    rw[bN c1,bO c2,bO this];exact dC some eb
 .have e0:a=aC.zero:=by unfold zk5 at hza;simpa using hza
  have e1:b=aC.zero:=by unfold zk5 at hzb;simpa using hzb
  simp only[hza,hzb,bT];rw[e0,e1]
 .simp only[hza,hzb,bT,bP,bV]
 .simp only[hza,hzb,bT,bP,bV]
theorem zdO1(g:Int):zaN5 g=zw6 g:=rfl
theorem zaR7(q:aA)(h1:q.aL.length<=1000000)(h2:q.aH.length<=1000000)(h3:q.aU.length<=1000000):zj9 q=some q:=by unfold zj9;rw[zb0 (by omega),zb0 (by omega),zb0 (by omega)]
theorem zbM8(q:aA)(h1:q.aL.length<=1000000)(h2:q.aH.length<=1000000)(h3:q.aU.length<=1000000):zg6 q=some q:=by unfold zg6;rw[zb0 (by omega),zb0 (by omega),zb0 (by omega)]
theorem zau7(q:aA)(h1:q.aL.length<=1000000)(h2:q.aH.length<=1000000)(h3:q.aU.length<=1000000):zk6 q=some q:=by unfold zk6;rw[zb0 (by omega),zb0 (by omega),zb0 (by omega)]
theorem zbU6(q:aA)(h1:q.aL.length<=1000000)(h2:q.aH.length<=1000000)(h3:q.aU.length<=1000000):zi5 q=some q:=by unfold zi5;rw[zb0 (by omega),zb0 (by omega),zb0 (by omega)]
def popQ(q:aA):aA:=
 if 0<q.aH.length then{q with aL:=setL q.aL (zF6 q).1.aI (zF6 q).1.aJ,aH:=q.aH.drop 1}
 else{q with aL:=setL q.aL (zF6 q).1.aI (zF6 q).1.aJ,aU:=q.aU.drop 1}
def canQ(q:aA):Bool:=(zF6 q).2&&zaL1 q.aB q.aL (zF6 q).1.aI (zF6 q).1.aJ
def zbb8(s:aA×List aT):aA×List aT:=(popQ s.1,s.2++[⟨(zF6 s.1).1.aI,(zF6 s.1).1.aJ⟩])
def advN:Nat->aA×List aT->aA×List aT
 |0,s=>s
 |n+1,s=>if canQ s.1=true then advN n (zbb8 s)else s
def zP4(q:aA):Nat:=q.aH.length+q.aU.length
def advQ(q:aA):aA×List aT:=advN (zP4 q) (q,[])
theorem zas8{q:aA}(h:canQ q=true):0<zP4 q/\zP4 (popQ q)+1=zP4 q/\q.aL.length<=8:=by
 unfold canQ at h;simp only[bM]at h;obtain⟨h1,h2⟩:=h;have hv:zI5 q.aB q.aL=true:=by unfold zaL1 zam0 at h2;simp only[bM]at h2;exact h2.1.1
 refine⟨?_,?_,zao4 hv⟩
 .unfold zF6 at h1;unfold zP4;cases hc:q.aH with
  |cons a l=>simp;omega
  |nil=>
   cases hw:q.aU with
   |cons a l=>simp
   |nil=>simp[hc,hw]at h1
 .unfold zF6 at h1;unfold zP4 popQ;cases hc:q.aH with
  |cons a l=>simp;omega
  |nil=>
   cases hw:q.aU with
   |cons a l=>simp
   |nil=>simp[hc,hw]at h1
theorem zbb9(s:aA×List aT):advN (zP4 s.1) s=if canQ s.1=true then advN (zP4 (zbb8 s).1) (zbb8 s)else s:=by
 cases hc:canQ s.1 with
 |false=>
  cases hn:zP4 s.1 with
  |zero=>rfl
  |succ n=>simp[advN,hc]
 |true=>obtain⟨h1,h2,_⟩:=zas8 hc;have:zP4 s.1=zP4 (popQ s.1)+1:=h2.symm;rw[this];simp[advN,hc,zbb8]
theorem zcz2(g:aA×List aT)(hg:g.2.length<=1000000):zO6 g=some (if canQ g.1=true then .inl (zbb8 g)else .inr g):=by
 unfold zO6;rw[zaX7,Option.bind_some];rcases hb (zF6 g.1).2 with h2|h2
 .rw[bO h2,zdc9,Option.bind_some];rcases hb (zaL1 g.1.aB g.1.aL (zF6 g.1).1.aI (zF6 g.1).1.aJ)with hr|hr
  .have hc:canQ g.1=true:=by unfold canQ;rw[h2,hr];rfl
   obtain⟨_,_,hl⟩:=zas8 hc;rw[bN (by rw[h2,hr];decide),bO hc];unfold zbb8 popQ
   by_cases h0:0<g.1.aH.length
   .rw[bO (by simpa using h0),zb0 (by omega),bO h0];unfold zH9;rw[zao2 _ _ _ (by simp only;omega),Option.bind_some,zb0 (by omega)]
   .rw[bN (by simpa using h0),bN h0];have hw:0<g.1.aU.length:=by
     have:=(zas8 hc).1;unfold zP4 at this;omega
    rw[zb0 (by omega)];unfold zH9;rw[zao2 _ _ _ (by simp only;omega),Option.bind_some,zb0 (by omega)]
  .have hc:canQ g.1=false:=by unfold canQ;rw[h2,hr];rfl
   rw[bO (by rw[h2,hr];decide),bN (by rw[hc];decide)]
 .have hc:canQ g.1=false:=by unfold canQ;rw[h2];rfl
  rw[bN (by rw[h2];decide),Option.bind_some,bO (by rw[h2];decide),bN (by rw[hc];decide)]
theorem zbM9(q:aA)(h:zP4 q<=1000):zt6 q=some ((advQ q).2,(advQ q).1):=by
 unfold zt6;have key:=zce4 (body:=zO6) (λ g=>zP4 g.1+g.2.length<=1000) (λ g=>zP4 g.1) (λ g=>advN (zP4 g.1) g) (λ g hg=>by
  rw[zcz2 g (by omega)];cases hc:canQ g.1 with
  |false=>right;rw[bN (by decide),zbb9,bN (by rw[hc];decide)]
  |true=>
   left;obtain⟨h1,h2,_⟩:=zas8 hc;refine⟨zbb8 g,by rw[bO rfl],?_,?_,?_⟩
   .unfold zbb8;simp only[bR,List.length_cons,List.length_nil];omega
   .show zP4 (popQ g.1)<zP4 g.1;omega
   .rw[zbb9 g,bO hc]) (q,[]) (by simpa using h)
 rw[key];rfl
theorem zbA7(p:aF):∀(l:List aM) (i:Nat),match zao5 p l i with
  |some j=>i<=j/\(l.find? λ w=>decide (w.aI=p))=some (l.getD (j-i) aM.zero)
  |none=>(l.find? λ w=>decide (w.aI=p))=none
 |[],i=>rfl
 |w::l,i=>by
  simp only[zao5,List.find?_cons]
  by_cases hp:w.aI=p
  .simp[hp]
  .have ih:=zbA7 p l (i+1);simp only[hp,bV,cV];cases hf:zao5 p l (i+1)with
   |none=>rw[hf]at ih;exact ih
   |some j=>rw[hf]at ih;obtain⟨h1,h2⟩:=ih;refine⟨by omega,?_⟩;rw[h2,show j-i=(j-(i+1))+1 by omega,hB]
theorem zcf5(l:List aM)(p:aF):zbG6 l p=if 0<=zQ7 l p then((l.getD (zQ7 l p).toNat aM.zero).aJ,true)else(aC.zero,false):=by
 have h:=zbA7 p l 0;unfold zbG6 zQ7;cases hf:zao5 p l 0 with
 |none=>rw[hf]at h;simp only at h;rw[h];rfl
 |some j=>rw[hf]at h;obtain⟨_,h2⟩:=h;rw[h2,bO (by simp only;omega)];simp
theorem zcz3(l m:List aM)(p:aF):zbG6 (l++m) p=if 0<=zQ7 l p then zbG6 l p else zbG6 m p:=by
 have h:=zbA7 p l 0;unfold zbG6 zQ7;rw[List.find?_append];cases hf:zao5 p l 0 with
 |none=>rw[hf]at h;simp only at h;rw[h,bN (by decide)];rfl
 |some j=>rw[hf]at h;obtain⟨_,h2⟩:=h;rw[h2,bO (by simp only;omega)];rfl
theorem zai7(q:aA)(p:aF)(h1:q.aH.length<=1000000)(h2:q.aU.length<=1000000):zi6 q p=some (zB2 q p):=by
 unfold zi6 zB2;rw[zau5 _ _ (by omega),Option.bind_some,zcz3,zcf5 q.aH,zcf5 q.aU];have b1:=zcI8 q.aH p;have b2:=zcI8 q.aU p
 by_cases c1:0<=zQ7 q.aH p
 .rw[bO (cB c1),zb0 (by omega),bO c1,bO c1]
 .rw[bN (by simpa using c1),bN c1,zau5 _ _ (by omega),Option.bind_some]
  by_cases c2:0<=zQ7 q.aU p
  .rw[bO (cB c2),zb0 (by omega),bO c2]
  .rw[bN (by simpa using c2),bN c2]
end Ab
end Go.Proofs.YtdlfhmkmnjbihaaGreatDoor
