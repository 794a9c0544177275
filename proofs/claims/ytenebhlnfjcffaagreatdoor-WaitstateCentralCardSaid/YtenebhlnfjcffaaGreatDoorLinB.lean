import Derived.Test.YtenebhlnfjcffaaGreatDoorHand
import Derived.Test.YtenebhlnfjcffaaGreatDoorHm30
namespace Go.Proofs.YtenebhlnfjcffaaGreatDoor
namespace Ab
set_option linter.unusedSimpArgs false
set_option linter.unusedVariables false
theorem zj1{x:Int}(h1:-9223372036854775808<=x)(h2:x<9223372036854775808):IntKind.i64.wrap x=x:=by rw[IntKind.wrap_i64];omega
theorem zcB3{G X:Type}{body:G->Option (G⊕X)}(I:G->Prop)(μ:G->Nat)(spec:G->X)
  (h:∀g,I g->(∃g',body g=some (.inl g')/\I g'/\μ g'<μ g/\spec g'=spec g)\/body g=some (.inr (spec g))):∀g,I g->zc2 body g=some (spec g):=by
 have key:∀n g,μ g=n->I g->zc2 body g=some (spec g):=by
  intro n;induction n using Nat.strongRecOn with
  |_ n ih=>
   intro g hn hg;rw[zq3];rcases h g hg with⟨g',h1,h2,h3,h4⟩|h1
   .rw[h1];simp only;rw[ih (μ g') (hn▸h3) g' rfl h2,h4]
   .rw[h1]
 exactλ g hg=>key _ g rfl hg
def zR0{X:Type}(out:Nat->Option X):Nat->Nat->Option X
 |0,_=>none
 |n+1,i=>match out i with
  |some x=>some x
  |none=>zR0 out n (i+1)
theorem zN5{X:Type}{body:Int->Option (Int⊕X)}(n:Nat)(out:Nat->Option X)(fin:X)
  (h:∀i:Nat,i<n->body i=some (match out i with|some x=>.inr x|none=>.inl ((i:Int)+1))) (hend:body n=some (.inr fin)):zc2 body 0=some ((zR0 out n 0).getD fin):=by
 have key:∀k i,i+k=n->zc2 body (i:Int)=some ((zR0 out k i).getD fin):=by
  intro k;induction k with
  |zero=>intro i hi;rw[zq3,show i=n by omega,hend];rfl
  |succ k ih=>
   intro i hi;rw[zq3,h i (by omega)];simp only[zR0];cases ho:out i with
   |some x=>rfl
   |none=>simp only;have:=ih (i+1) (by omega);rw[show((i+1:Nat):Int)=(i:Int)+1 by omega]at this;exact this
 exact key n 0 (by omega)
def zbj2{S X:Type}(step:Nat->S->S⊕X)(fin:S->X):Nat->Nat->S->X
 |0,_,s=>fin s
 |n+1,i,s=>match step i s with
  | .inl s'=>zbj2 step fin n (i+1) s'
  | .inr x=>x
theorem zdd1{S X:Type}{body:Int×S->Option ((Int×S)⊕X)}(n:Nat)(step:Nat->S->S⊕X)(fin:S->X)(inv:Nat->S->Prop)
  (h:∀i s,i<n->inv i s->body ((i:Int),s)=some (match step i s with|.inl s'=>.inl ((i:Int)+1,s')|.inr x=>.inr x)/\∀s',step i s=.inl s'->inv (i+1) s')
  (hend:∀s,inv n s->body ((n:Int),s)=some (.inr (fin s))) (s0:S) (h0:inv 0 s0):zc2 body (0,s0)=some (zbj2 step fin n 0 s0):=by
 have key:∀k i s,i+k=n->inv i s->zc2 body ((i:Int),s)=some (zbj2 step fin k i s):=by
  intro k;induction k with
  |zero=>intro i s hi hs;rw[zq3,show i=n by omega,hend s (by rw[<-show i=n by omega];exact hs)];rfl
  |succ k ih=>
   intro i s hi hs;obtain⟨h1,h2⟩:=h i s (by omega) hs;rw[zq3,h1];simp only[zbj2];cases ho:step i s with
   |inr x=>rfl
   |inl s'=>simp only;have:=ih (i+1) s' (by omega) (h2 s' ho);rw[show((i+1:Nat):Int)=(i:Int)+1 by omega]at this;exact this
 exact key n 0 s0 (by omega) h0
theorem zq9{G X:Type}{body:G->Option (G⊕X)}(I:G->Prop)(μ:G->Nat)(Post:X->Prop)
  (h:∀g,I g->(∃g',body g=some (.inl g')/\I g'/\μ g'<μ g)\/∃x,body g=some (.inr x)/\Post x):∀g,I g->∃x,zc2 body g=some x/\Post x:=by
 have key:∀n g,μ g=n->I g->∃x,zc2 body g=some x/\Post x:=by
  intro n;induction n using Nat.strongRecOn with
  |_ n ih=>
   intro g hn hg;rw[zq3];rcases h g hg with⟨g',h1,h2,h3⟩|⟨x,h1,h2⟩
   .rw[h1];exact ih (μ g') (hn▸h3) g' rfl h2
   .rw[h1];exact⟨x,rfl,h2⟩
 exactλ g hg=>key _ g rfl hg
theorem zcB4{S X:Type}{body:Int×S->Option ((Int×S)⊕X)}(n:Nat)(step:Nat->S->S⊕X)(fin:S->X)(inv:Nat->S->Prop)
  (h:∀i s,i<n->inv i s->body ((i:Int),s)=some (match step i s with|.inl s'=>.inl ((i:Int)+1,s')|.inr x=>.inr x)/\∀s',step i s=.inl s'->inv (i+1) s')
  (hend:∀s,inv n s->body ((n:Int),s)=some (.inr (fin s))):∀k i s,i+k=n->inv i s->zc2 body ((i:Int),s)=some (zbj2 step fin k i s):=by
 intro k;induction k with
 |zero=>intro i s hi hs;rw[zq3,show i=n by omega,hend s (by rw[<-show i=n by omega];exact hs)];rfl
 |succ k ih=>
  intro i s hi hs;obtain⟨h1,h2⟩:=h i s (by omega) hs;rw[zq3,h1];simp only[zbj2];cases ho:step i s with
  |inr x=>rfl
  |inl s'=>simp only;have:=ih (i+1) s' (by omega) (h2 s' ho);rw[show((i+1:Nat):Int)=(i:Int)+1 by omega]at this;exact this
theorem zZ2(p:Nat->Bool){U:Type}:∀k i,zR0 (λ i=>if p i=true then none else some (Sum.inr (α:=U) false)) k i=if(List.range' i k).all p=true then none else some (.inr false)
 |0,i=>rfl
 |k+1,i=>by
  simp only[zR0,hX,List.all_cons];cases hp:p i with
  |true=>simp only[cC,cK];exact zZ2 p k (i+1)
  |false=>simp
theorem zdO2{α:Type}[DecidableEq α](a b:List α)(z:α)(h:a.length=b.length):((List.range a.length).all λ i=>decide (a.getD i z=b.getD i z))=decide (a=b):=by
 rw[dW];simp only[fH,eX,bY];constructor
 .intro hh;refine iX h λ i h1 h2=>?_;have:=hh i h1;rwa [bW,bW,bZ h1,bZ h2]at this
 .rintro rfl i _;rfl
theorem zdd2{α:Type}[DecidableEq α](a b:List α)(z:α){body:Int->Option (Int⊕(Unit⊕Bool))}(hl:a.length<4611686018427387904)(h:a.length=b.length)
  (hb:∀i:Int,body i=if(decide (i<(a.length:Int)))=true then gd (0<=i/\i<(a.length:Int))<|gd (0<=i/\i<(b.length:Int))<|
   (if(!decide (a.getD i.toNat z=b.getD i.toNat z))=true then some (.inr (.inr false))else some (.inl (IntKind.i64.wrap (i+1))))else some (.inr (.inl ()))):
  (zc2 body 0).bind (λ|.inl _=>some true|.inr z=>some z)=some (decide (a=b)):=by
 have key:zc2 body 0=some ((zR0 (λ i=>if decide (a.getD i z=b.getD i z)=true then none else some (Sum.inr false)) a.length 0).getD (Sum.inl ())):=by
  refine zN5 a.length _ (Sum.inl ()) (λ i hi=>?_) ?_
  .rw[hb,bX (cG (by omega)),zh3 (by omega),zh3 (by omega)];simp only[Int.toNat_natCast]
   by_cases hx:a.getD i z=b.getD i z
   .simp only[hx,cA,cO,bT,cB,cC];rw[zj1 (by omega) (by omega)]
   .simp only[hx,cJ,dC,cC,bT,cB]
  .rw[hb,bV (by simp)]
 rw[key,zZ2,<-fE,zdO2 a b z h];cases decide (a=b)<;>rfl
theorem zbX2{α:Type}(f:Nat->α):∀n i (s:List α),zbj2 (X:=List α) (λ i s=>.inl (s++[f i])) (λ s=>s) n i s=s++(List.range' i n).map f
 |0,i,s=>by simp[zbj2]
 |n+1,i,s=>by simp[zbj2,zbX2 f n (i+1),hX]
theorem zbX3{α:Type}(l:List α)(z:α)(p:α->Bool):∀n i (s:List α),i+n=l.length->zbj2 (X:=List α) (λ i s=>.inl (if p (l.getD i z)=true then s++[l.getD i z]else s)) (λ s=>s) n i s=s++(l.drop i).filter p
 |0,i,s,h=>by simp[zbj2,gJ (show l.length<=i by omega)]
 |n+1,i,s,h=>by
  have hd:l.drop i=l.getD i z::l.drop (i+1):=by rw[gP (show i<l.length by omega),bW,bZ (show i<l.length by omega)];rfl
  rw[hd];simp only[zbj2,zbX3 l z p n (i+1) _ (by omega),jC];split<;>simp
theorem zaH3{α:Type}(l:List α)(i:Nat)(z:α)(h:i<l.length):l.drop i=l.getD i z::l.drop (i+1):=by rw[gP h,bW,bZ h];rfl
theorem zbX4{α β:Type}(l:List α)(z:α)(f:α->β):∀n i,i+n<=l.length->(List.range' i n).map (λ i=>f (l.getD i z))=((l.drop i).take n).map f
 |0,i,h=>by simp
 |n+1,i,h=>by rw[zaH3 l i z (by omega),List.take_succ_cons,hX,dF,dF,zbX4 l z f n (i+1) (by omega)]
theorem zaH4{α:Type}(l:List α)(i n:Nat)(z:α)(h:i<n):(l.take n).getD i z=l.getD i z:=by rw[bW,bW,dT,bX h]
theorem zp9{α:Type}(l:List α)(i:Nat)(x z:α)(h:i<l.length):(l.set i x).getD i z=x:=by rw[bW,List.getElem?_set_self h];rfl
theorem zaH5{α:Type}(l m:List α)(i:Nat)(z:α)(h:i<l.length):(l++m).getD i z=l.getD i z:=by rw[bW,bW,dR h]
def walk{α S X:Type}(step:Nat->α->S->Option (S⊕X))(fin:S->X):List α->Nat->S->Option X
 |[],_,s=>some (fin s)
 |a::l,i,s=>match step i a s with
  |none=>none
  |some (.inl s')=>walk step fin l (i+1) s'
  |some (.inr x)=>some x
def wmap{G S X:Type}(mk:S->G):S⊕X->G⊕X
 | .inl s=>.inl (mk s)
 | .inr x=>.inr x
theorem zE7{α S X G:Type}{body:G->Option (G⊕X)}(l:List α)(z:α)(mk:Nat->S->G)(step:Nat->α->S->Option (S⊕X))(fin:S->X)(inv:Nat->S->Prop)
  (hb:∀i s,i<l.length->inv i s->body (mk i s)=(step i (l.getD i z) s).map (wmap (mk (i+1)))/\∀s',step i (l.getD i z) s=some (.inl s')->inv (i+1) s')
  (he:∀s,inv l.length s->body (mk l.length s)=some (.inr (fin s))) (s0:S) (h0:inv 0 s0):zc2 body (mk 0 s0)=walk step fin l 0 s0:=by
 have key:∀k i s,i+k=l.length->inv i s->zc2 body (mk i s)=walk step fin (l.drop i) i s:=by
  intro k;induction k with
  |zero=>
   intro i s hi hs;have:i=l.length:=by omega
   subst this;rw[zq3,he s hs,kV];rfl
  |succ k ih=>
   intro i s hi hs;obtain⟨h1,h2⟩:=hb i s (by omega) hs;rw[zq3,h1,zaH3 l i z (by omega)];simp only[walk];cases ho:step i (l.getD i z) s with
   |none=>rfl
   |some y=>
    cases y with
    |inl s'=>exact ih (i+1) s' (by omega) (h2 s' ho)
    |inr x=>rfl
 have:=key l.length 0 s0 (by omega) h0;rwa [gW]at this
theorem zap3{α S X G:Type}{body:G->Option (G⊕X)}(l:List α)(z:α)(mk:Nat->S->G)(step:Nat->α->S->Option (S⊕X))(fin:S->X)
  (hb:∀i s,i<l.length->body (mk i s)=(step i (l.getD i z) s).map (wmap (mk (i+1))))
  (he:∀s,body (mk l.length s)=some (.inr (fin s))) (s0:S):zc2 body (mk 0 s0)=walk step fin l 0 s0:=
 zE7 l z mk step fin (λ _ _=>True) (λ i s h _=>⟨hb i s h,λ _ _=>trivial⟩) (λ s _=>he s) s0 trivial
theorem zc4(i:Nat)(h:i<4611686018427387904):IntKind.i64.wrap ((i:Int)+1)=((i+1:Nat):Int):=by rw[zj1 (by omega) (by omega)];omega
theorem zah8(i:Nat)(h:i<4611686018427387904)(h0:0<i):IntKind.i64.wrap ((i:Int)-1)=((i-1:Nat):Int):=by rw[zj1 (by omega) (by omega)];omega
theorem gdp{α:Type}{p:Prop}[Decidable p]{k:Option α}(h:p):gd p k=k:=bX h
@[simp] theorem zg9{α:Type}[Decidable True](k:Option α):gd True k=k:=bX trivial
theorem gdn{α:Type}{p:Prop}[Decidable p]{k:Option α}(h:¬p):gd p k=none:=bV h
def zaL6{β:Type}(s:List β):Option β->List β
 |some b=>s++[b]
 |none=>s
theorem zdd3{β:Type}(s:List β)(o:Option β):(zaL6 s o).length<=s.length+1:=by cases o<;>simp[zaL6]
theorem zaP8{α β X:Type}(f:α->Option β)(fin:List β->X):∀(l:List α) (i:Nat) (s:List β),
  walk (λ _ a s=>some (.inl (zaL6 s (f a)))) fin l i s=some (fin (s++l.filterMap f))
 |[],i,s=>by simp[walk]
 |a::l,i,s=>by simp only[walk,List.filterMap_cons];rw[zaP8 f fin l (i+1)];cases f a<;>simp[zaL6]
noncomputable def zaS3(j1:(List aL)):Option ((List aL)):=
 some j1
noncomputable def zak2(a0:List bA)(g1:Int×(List aL)):Option ((Int×(List aL))⊕(((List aL)))):=
 (if(decide (g1.1<(a0.length:Int)))=true then
  gd (0<=g1.1/\g1.1<(a0.length:Int))<|
  gd (g1.2.length+1<=4294967296)<|
  some (.inl ((IntKind.i64.wrap (g1.1+1)),(g1.2++[(a0.getD g1.1.toNat bA.zero).aK])))
 else
  some (.inr g1.2))
noncomputable def zaN0(a0:List bA):Option ((List aL)):=
 (zc2 (zak2 a0) (0,[])).bind (λ z=>zaS3 z)
abbrev cmpP(p q:aL):Int:=zv4 p q
def ltP(p q:aL):Prop:=p.site<q.site\/p.site=q.site/\(p.inc<q.inc\/p.inc=q.inc/\p.num<q.num)
instance(p q:aL):Decidable (ltP p q):=by unfold ltP;infer_instance
theorem zcB5(a b:Int):zR8 a b=if a<b then-1 else if b<a then 1 else 0:=by unfold zR8;simp only[bY]
theorem zbq6(p q:aL):cmpP p q=if ltP p q then-1 else if ltP q p then 1 else 0:=by
  obtain⟨a,b,c⟩:=p;obtain⟨d,e,f⟩:=q;unfold cmpP zv4 ltP;simp only[zcB5,cP,cL]
  grind
theorem zR1(p:aL):¬ltP p p:=by unfold ltP;omega
theorem zat0{p q r:aL}(h:ltP p q)(k:ltP q r):ltP p r:=by unfold ltP at*;omega
theorem zbc0{p q:aL}(h:ltP p q):¬ltP q p:=by unfold ltP at*;omega
theorem zat1{p q:aL}(h:p≠q):ltP p q\/ltP q p:=by obtain⟨a,b,c⟩:=p;obtain⟨d,e,f⟩:=q;simp only[ne_eq,aL.mk.injEq]at h;unfold ltP;simp only;omega
theorem zbX5(p q:aL):0<cmpP p q↔ltP q p:=by
  rw[zbq6]
  by_cases h:ltP p q
  .simp[h,zbc0 h]
  .by_cases h2:ltP q p<;>simp[h,h2]
theorem zaz5(p q:aL):0<=cmpP p q↔¬ltP p q:=by
  rw[zbq6]
  by_cases h:ltP p q
  .simp[h]
  .by_cases h2:ltP q p<;>simp[h,h2]
theorem zR2(p q:aL):zd4 p q=some (cmpP p q):=by
  unfold zd4 zh8;have e:∀(x y z:Int) (i:Nat) (h:[x,y,z].length=3),Arr.get (⟨[x,y,z],h⟩:Arr Int 3) i 0=match i with|0=>x|1=>y|_=>z:=by
    intro x y z i h
    match i with
    |0=>rfl
    |1=>rfl
    |2=>rfl
    |n+3=>
      have:¬(n+3<3):=by omega
      simp[Arr.get,zO4,this]
  have w1:IntKind.i64.wrap (0+1)=1:=by decide
  have w2:IntKind.i64.wrap (1+1)=2:=by decide
  have w3:IntKind.i64.wrap (2+1)=3:=by decide
  have s3:zq2 ⟨[p.site,p.inc,p.num],rfl⟩ ⟨[q.site,q.inc,q.num],rfl⟩ 3=some (.inr (.inl ())):=by unfold zq2;simp
  have s2:zq2 ⟨[p.site,p.inc,p.num],rfl⟩ ⟨[q.site,q.inc,q.num],rfl⟩ 2=some (if p.num<q.num then .inr (.inr (-1))else if q.num<p.num then .inr (.inr 1)else .inl 3):=by
    unfold zq2;rw[bX (by decide),gdp (by decide),gdp (by decide),gdp (by decide)];simp only[e,show(2:Int).toNat=2 from rfl,bY,w3]
    by_cases h:p.num<q.num
    .simp[h]
    .by_cases h2:q.num<p.num<;>simp[h,h2]
  have s1:zq2 ⟨[p.site,p.inc,p.num],rfl⟩ ⟨[q.site,q.inc,q.num],rfl⟩ 1=some (if p.inc<q.inc then .inr (.inr (-1))else if q.inc<p.inc then .inr (.inr 1)else .inl 2):=by
    unfold zq2;rw[bX (by decide),gdp (by decide),gdp (by decide),gdp (by decide)];simp only[e,Int.toNat_one,bY,w2]
    by_cases h:p.inc<q.inc
    .simp[h]
    .by_cases h2:q.inc<p.inc<;>simp[h,h2]
  have s0:zq2 ⟨[p.site,p.inc,p.num],rfl⟩ ⟨[q.site,q.inc,q.num],rfl⟩ 0=some (if p.site<q.site then .inr (.inr (-1))else if q.site<p.site then .inr (.inr 1)else .inl 1):=by
    unfold zq2;rw[bX (by decide),gdp (by decide),gdp (by decide),gdp (by decide)];simp only[e,Int.toNat_zero,bY,w1]
    by_cases h:p.site<q.site
    .simp[h]
    .by_cases h2:q.site<p.site<;>simp[h,h2]
  rw[zbq6];unfold ltP
  by_cases a1:p.site<q.site
  .rw[zq3,s0];simp[a1]
  · by_cases a2:q.site<p.site
    · rw[zq3,s0]
      have:¬p.site=q.site:=by omega
      simp[a1,a2,this]
    · have h1:p.site=q.site:=by omega
      by_cases b1:p.inc<q.inc
      .rw[zq3,s0];simp only[a1,a2,cB];rw[zq3,s1];simp[b1,h1]
      · by_cases b2:q.inc<p.inc
        · have:¬p.inc=q.inc:=by omega
          rw[zq3,s0];simp only[a1,a2,cB];rw[zq3,s1];simp[b1,b2,h1,this]
        · have h2:p.inc=q.inc:=by omega
          rw[zq3,s0];simp only[a1,a2,cB];rw[zq3,s1];simp only[b1,b2,cB];rw[zq3,s2]
          by_cases c1:p.num<q.num
          .simp[c1,h1,h2]
          · by_cases c2:q.num<p.num
            .simp[c1,c2,h1,h2]
            .simp only[c1,c2,cB];rw[zq3,s3];simp[h1,h2,zaj4]
def insP(p:aL)(a:aC):List bA->List bA
  |[]=>[⟨p,a⟩]
  |h::t=>if ltP p h.aK then⟨p,a⟩::h::t else h::insP p a t
def zx2(p:aL)(l:List bA):List bA:=l.filter λ h=>!decide (h.aK=p)
def setL(l:List bA)(p:aL)(a:aC):List bA:=if a=aC.zero then zx2 p l else insP p a (zx2 p l)
theorem zdO3(p:aL):zx2 p []=[]:=rfl
theorem zaL7(p:aL)(h:bA)(t:List bA):zx2 p (h::t)=if h.aK=p then zx2 p t else h::zx2 p t:=by unfold zx2;rw[jC];by_cases e:h.aK=p<;>simp[e]
theorem zaS4(p:aL)(l:List bA):(zx2 p l).length<=l.length:=iR _ _
theorem zaD7(l:List bA)(p:aL)(a:aC)(hl:l.length<=1000000):zt1 l p a=some (setL l p a):=by
  unfold zt1;have key:=zE7 (body:=zao7 l p a) l bA.zero (λ i (s:Bool×List bA)=>(s.1,(i:Int),s.2))
    (λ i h s=>some (.inl (if h.aK=p then s else if s.1=false/\ltP p h.aK then(true,s.2++[⟨p,a⟩]++[h])else(s.1,s.2++[h])))) (λ s=>s) (λ i s=>s.2.length<=2*i)
    (λ i s hi hs=>by
      refine⟨?_,λ s' h=>?_⟩
      · unfold zao7
        have h1:s.2.length+1<=4294967296:=by omega
        have h2:s.2.length+1+1<=4294967296:=by omega
        have h3:0<=(i:Int)/\(i:Int)<(l.length:Int):=by omega
        simp only[h1,h2,h3.1,h3.2,cS,eD,zg9,cA,cC,Int.toNat_natCast,bY,bU,cP,zbX5,zc4 i (by omega),Option.map_some,wmap]
        by_cases e:(l.getD i bA.zero).aK=p
        .simp only[e,cC]
        · simp only[e,cB]
          split<;>rfl
      · simp only[dE,fN]at h
        subst h;split
        .omega
        .split<;>simp<;>omega)
    (λ s hs=>by unfold zao7;simp) (zn2 a,[]) (by simp)
  have hz:zn2 a=decide (a=aC.zero):=rfl;have fold:∀(l:List bA) (i:Nat) (d:Bool) (o:List bA),walk (λ i h (s:Bool×List bA)=>some (.inl (if h.aK=p then s else if s.1=false/\ltP p h.aK then(true,s.2++[⟨p,a⟩]++[h])else(s.1,s.2++[h])))) (λ s=>s) l i (d,o)=
      some (if d=true then(true,o++zx2 p l)else if(zx2 p l).any (λ h=>decide (ltP p h.aK))=true then(true,o++insP p a (zx2 p l))else(false,o++zx2 p l)):=by
    intro l;induction l with
    |nil=>intro i d o;cases d<;>simp[walk,zx2]
    |cons h t ih=>
      intro i d o;simp only[walk,zaL7]
      by_cases e:h.aK=p
      .simp only[e,cC];exact ih (i+1) d o
      · simp only[e,cB]
        by_cases e2:d=false/\ltP p h.aK
        · obtain⟨rfl,e3⟩:=e2
          simp only[e3,cS,cC];rw[ih];simp[insP,e3]
        · rw[bV e2,ih]
          cases d with
          |true=>simp
          |false=>have e3:¬ltP p h.aK:=λ hh=>e2 ⟨rfl,hh⟩;simp only[bT,cB,insP,e3,List.any_cons,cJ,dM];split<;>simp
  have noins:∀l:List bA,l.any (λ h=>decide (ltP p h.aK))=false->insP p a l=l++[⟨p,a⟩]:=by
    intro l;induction l with
    |nil=>intro _;rfl
    |cons h t ih=>intro hh;simp only[List.any_cons,fU,cL]at hh;simp only[insP,hh.1,cB,ih hh.2,List.cons_append]
  rw[show((zn2 a,(0:Int),([]:List bA)):Bool×Int×List bA)=(λ(i:Nat) (s:Bool×List bA)=>(s.1,(i:Int),s.2)) 0 (zn2 a,[])from rfl,key,fold,hz];unfold setL zaR3;have ho:=zaS4 p l
  by_cases ha:a=aC.zero
  .simp[ha]
  · simp only[ha,cJ,bT,cB,List.nil_append]
    by_cases hx:(zx2 p l).any (λ h=>decide (ltP p h.aK))=true
    .simp[hx]
    · have hx:(zx2 p l).any (λ h=>decide (ltP p h.aK))=false:=by simpa using hx
      rw[bV (by rw[hx];decide),Option.bind_some,noins _ hx];show gd ((zx2 p l).length+1<=4294967296) _=_;rw[gdp (by omega)]
theorem zdt0{α:Type}(l:List α)(k:Nat)(z x:α)(hk:k<=l.length):
    (((l++[z]).take (k+1)++(((l++[z]).drop k).take (l.length+1-k)).take (l.length+1-(k+1))++(l++[z]).drop (k+1+min (((l++[z]).drop k).take (l.length+1-k)).length (l.length+1-(k+1)))).set k x)=l.take k++x::l.drop k:=by
  have e1:((l++[z]).drop k).take (l.length+1-k)=l.drop k++[z]:=by rw[fX hk,dO (by simp;omega)]
  have e2:(l.drop k++[z]).take (l.length+1-(k+1))=l.drop k:=by rw[eP (by simp),dO (by simp)]
  have e3:(l++[z]).drop (k+1+min (l.drop k++[z]).length (l.length+1-(k+1)))=[]:=by rw[gJ];simp;omega
  rw[e1,e2,e3,dX]
  by_cases hkl:k=l.length
  · subst hkl
    rw[dO (by simp),kV,dX,gR _ _ (dA _)];simp
  · have:(l++[z]).take (k+1)=l.take k++[l[k]'(by omega)]:=by
      rw[eP (by omega),fR (by omega)]
    rw[this,dD,gR _ _ (by simp;omega)];simp[show min k l.length=k by omega]
theorem zbX6(l:List bA)(p:aL)(a:aC)(hl:l.length<=1000000):zr4 l p a=some (setL l p a):=by
  unfold zr4;have hw:IntKind.i64.wrap ((l.length:Int)+1)=(l.length:Int)+1:=zj1 (by omega) (by omega);rw[hw,gdp (by omega)];have key:=zE7 (body:=zX3 l p) l bA.zero (λ i (s:Int×List bA)=>(s.1,(i:Int),s.2))
    (λ i h s=>some (.inl (if h.aK=p then s else(if s.1<0/\ltP p h.aK then(s.2.length:Int)else s.1,s.2++[h])))) (λ s=>s) (λ i s=>s.2.length<=i)
    (λ i s hi hs=>by
      refine⟨?_,λ s' h=>?_⟩
      · unfold zX3
        have h1:s.2.length+1<=4294967296:=by omega
        have h3:0<=(i:Int)/\(i:Int)<(l.length:Int):=by omega
        simp only[h1,h3.1,h3.2,cS,eD,zg9,cA,cC,Int.toNat_natCast,bY,bU,zR2,zc4 i (by omega),Option.map_some,wmap]
        by_cases e:(l.getD i bA.zero).aK=p
        .simp only[e,cC]
        · simp only[e,cB]
          by_cases e2:s.1<0
          · simp only[e2,cC,Option.bind_some,fK,zbX5]
            split<;>rfl
          .simp only[e2,cB,Option.bind_some,jA]
      · simp only[dE,fN]at h
        subst h;split
        .omega
        .simp;omega)
    (λ s hs=>by unfold zX3;simp) (-1,[]) (by simp)
  have fold:∀(l:List bA) (i:Nat) (d:Int) (o:List bA),walk (λ i h (s:Int×List bA)=>some (.inl (if h.aK=p then s else(if s.1<0/\ltP p h.aK then(s.2.length:Int)else s.1,s.2++[h])))) (λ s=>s) l i (d,o)=
      some (if d<0/\(zx2 p l).any (λ h=>decide (ltP p h.aK))=true then(((o.length+(zx2 p l).findIdx (λ h=>decide (ltP p h.aK)):Nat):Int),o++zx2 p l)else(d,o++zx2 p l)):=by
    intro l;induction l with
    |nil=>intro i d o;simp[walk,zx2]
    |cons h t ih=>
      intro i d o;simp only[walk,zaL7]
      by_cases e:h.aK=p
      .simp only[e,cC];exact ih (i+1) d o
      · simp only[e,cB]
        by_cases e2:d<0/\ltP p h.aK
        · simp only[e2,cS,cC]
          rw[ih,bV (by omega)];simp[e2.2,kO]
        · rw[bV e2,ih]
          by_cases e3:d<0
          · have e4:¬ltP p h.aK:=λ hh=>e2 ⟨e3,hh⟩
            simp only[e3,fK,List.any_cons,e4,cJ,dM,kO,cond_false,cD,List.length_cons,List.length_nil,dD,List.cons_append,List.nil_append];split
            .congr 3;omega
            .rfl
          .simp[e3]
  have ins:∀l:List bA,insP p a l=l.take (l.findIdx (λ h=>decide (ltP p h.aK)))++⟨p,a⟩::l.drop (l.findIdx (λ h=>decide (ltP p h.aK))):=by
    intro l;induction l with
    |nil=>rfl
    |cons h t ih=>
      simp only[insP,kO]
      by_cases e:ltP p h.aK
      .simp[e]
      .simp[e,ih]
  have key2:zc2 (zX3 l p) (-1,0,List.replicate 0 bA.zero)=some (if(zx2 p l).any (λ h=>decide (ltP p h.aK))=true then(((zx2 p l).findIdx (λ h=>decide (ltP p h.aK)):Nat):Int)else-1,zx2 p l):=by
    rw[show((-1,0,List.replicate 0 bA.zero):Int×Int×List bA)=(λ(i:Nat) (s:Int×List bA)=>(s.1,(i:Int),s.2)) 0 (-1,[])from rfl,key,fold];have:((-1:Int)<0):=by decide
    simp only[this,fK,List.nil_append,List.length_nil,dV];split<;>rfl
  rw[key2,Option.bind_some];unfold zar7 setL;have hz:zk8 a=decide (a=aC.zero):=rfl;rw[hz]
  by_cases ha:a=aC.zero
  .simp[ha]
  · simp only[ha,cJ,bT,cB,bY]
    have ho:=zaS4 p l;generalize zx2 p l=o at ho;have fi:o.findIdx (λ h=>decide (ltP p h.aK))<=o.length:=List.findIdx_le_length;have hz2:({bA.zero with}:bA)=bA.zero:=rfl
    by_cases hx:o.any (λ h=>decide (ltP p h.aK))=true
    · simp only[hx,cC]
      generalize hk:o.findIdx (λ h=>decide (ltP p h.aK))=k at fi;have hkl:k<o.length:=by rw[<-hk];exact List.findIdx_lt_length_of_exists (by simpa using hx)
      rw[bV (by omega)];simp only[zc4 k (by omega),Int.toNat_natCast];rw[gdp (by omega),gdp (by omega),gdp (by omega),gdp (by omega),zdt0 o k _ _ (by omega),ins o,hk]
    · have hx':o.any (λ h=>decide (ltP p h.aK))=false:=by simpa using hx
      simp only[hx',bT,cB];rw[bX (by decide)];have hk:o.findIdx (λ h=>decide (ltP p h.aK))=o.length:=by rw[List.findIdx_eq_length];simpa using hx'
      simp only[zc4 o.length (by omega),Int.toNat_natCast];rw[gdp (by omega),gdp (by omega),gdp (by omega),gdp (by omega),zdt0 o o.length _ _ (by omega),ins o,hk]
theorem zbc1(r:aH):zM6 r=zg4 r:=by
 unfold zM6 zg4;rw[dW]
 by_cases h1:r.kind=1
 .simp[h1]
 .by_cases h2:r.kind=2<;>simp[h1,h2]
theorem zaJ2(r:aH)(a:aC):zv6 r a=za2 r a:=by unfold zv6 za2 zB9 zw5;rw[zbc1]
theorem zbq7(r:aH)(a:aC):zw6 r a=zc9 r a:=by unfold zw6 zc9 zn2 zk8;rw[zbc1,zaJ2]
theorem zaS5(p:aL):zr5 p=zd2 p:=by unfold zr5 zd2 zU1;rw[dW];simp;omega
theorem zK2(r:aH):zg4 r=true↔(r.kind=1/\r.aS=1)\/(r.kind=2/\1<=r.aS/\r.aS<=8):=by
 unfold zg4
 by_cases h1:r.kind=1
 .simp[h1]
 .by_cases h2:r.kind=2<;>simp[h1,h2]
theorem zF1(r:aH)(a:aC):za2 r a=true↔(r.kind=1/\r.aS=1/\1<=a.mode/\a.mode<=5/\a.aS=0)\/(r.kind=2/\1<=r.aS/\r.aS<=8/\a.mode=0/\1<=a.aS/\a.aS<=r.aS):=by
 unfold za2 zw5;have:=zK2 r;cases h:zg4 r with
 |false=>rw[h]at this;simp only[bT,false_iff]at this;simp only[dC,cC,bT,false_iff];omega
 |true=>
  rw[h]at this;simp only[true_iff]at this
  by_cases h1:r.kind=1
  .simp[h1];omega
  .simp[h1];omega
theorem perm_iff(r:aH)(a:aC):zc9 r a=true↔(zg4 r=true/\a=aC.zero)\/za2 r a=true:=by
 unfold zc9 zk8;have e:(decide (a={aC.zero with}):Bool)=decide (a=aC.zero):=rfl;rw[e];have hs:za2 r a=true->zg4 r=true:=by rw[zF1,zK2];omega
 cases h1:zg4 r<;>cases h2:za2 r a<;>simp_all
theorem zaH6{r:aH}{a:aC}(h:zc9 r a=true)(hk:r.kind=1):a.aS=0/\0<=a.mode/\a.mode<=5/\r.aS=1:=by
 rw[perm_iff,zF1,zK2]at h;rcases h with⟨h1,rfl⟩|h1
 .simp[aC.zero];omega
 .omega
theorem zbq8{r:aH}{a:aC}(h:zc9 r a=true)(hk:r.kind=2):a.mode=0/\0<=a.aS/\a.aS<=r.aS/\r.aS<=8:=by
 rw[perm_iff,zF1,zK2]at h;rcases h with⟨h1,rfl⟩|h1
 .simp[aC.zero];omega
 .omega
theorem zai7{r:aH}{a:aC}(h:zc9 r a=true):0<=a.aS/\a.aS<=8/\0<=a.mode/\a.mode<=5/\1<=r.aS/\r.aS<=8:=by
 rw[perm_iff,zF1,zK2]at h;rcases h with⟨h1,rfl⟩|h1
 .simp[aC.zero];omega
 .omega
abbrev mC(a b:Int):Bool:=zP6 a b
theorem zcr3(a b:Int):mC a b=true↔(1<=a/\a<=4/\1<=b/\b<=4)/\(a=1\/b=1\/a=b/\a≠4):=by
 unfold mC zP6 zB9;split
 .rename_i h;simp at h;simp;omega
 .rename_i h;simp at h;simp;omega
theorem zbQ9(a b:Int):mC a b=mC b a:=by rw[dW,zcr3,zcr3];omega
theorem zbx3(a b:Int):zh9 a b=some (mC a b):=by
 unfold zh9 zw5
 by_cases h:(1<=a/\a<=5)/\(1<=b/\b<=5)
 .obtain⟨⟨a1,a2⟩,b1,b2⟩:=h;have wa:IntKind.i64.wrap (a-1)=a-1:=zj1 (by omega) (by omega);have wb:IntKind.i64.wrap (b-1)=b-1:=zj1 (by omega) (by omega);simp only[wa,wb];rw[gdp (λ _=>by omega),gdp (λ _=>by omega)];congr 1;have ha:a=1\/a=2\/a=3\/a=4\/a=5:=by omega
  have hb:b=1\/b=2\/b=3\/b=4\/b=5:=by omega
  rcases ha with rfl|rfl|rfl|rfl|rfl<;>rcases hb with rfl|rfl|rfl|rfl|rfl<;>decide
 .have hv:(((decide (1<=a))&&(decide (a<=5)))&&((decide (1<=b))&&(decide (b<=5))))=false:=by
   rw[dP];intro hh;simp at hh;omega
  rw[hv];rw[gdp (λ h=>by cases h),gdp (λ h=>by cases h)];have:mC a b=false:=by rw[dP];intro hh;rw[zcr3]at hh;omega
  rw[this];rfl
def zav4(b a:aC):Prop:=b.mode≠0/\a.mode≠0/\mC b.mode a.mode=false
instance(b a:aC):Decidable (zav4 b a):=by unfold zav4;infer_instance
def sumU:List aC->Int
 |[]=>0
 |a::l=>a.aS+sumU l
structure CompP (r:aH) (l:List aC):Prop where
 perm:∀a∈l,zc9 r a=true
 sum:sumU l<=r.aS
 pair:l.Pairwise λ b a=>¬zav4 b a
instance(r:aH)(l:List aC):Decidable (CompP r l):=
 decidable_of_iff ((∀a∈l,zc9 r a=true)/\sumU l<=r.aS/\l.Pairwise λ b a=>¬zav4 b a) ⟨λ⟨a,b,c⟩=>⟨a,b,c⟩,λ⟨a,b,c⟩=>⟨a,b,c⟩⟩
def zbL6(r:aH)(l:List aC):Bool:=zg4 r&&decide (CompP r l)
theorem zcB6{l:List aC}(h:∀a∈l,0<=a.aS):0<=sumU l:=by
 induction l with
 |nil=>simp[sumU]
 |cons a l ih=>have:=ih λ b hb=>h b (.tail _ hb);have:=h a (.head _);simp only[sumU];omega
def zbt9(r:aH):List aC->List aC->Int->Bool
 |[],_,_=>true
 |a::t,prev,s=>zc9 r a&&(decide (s+a.aS<=r.aS)&&(decide (∀b∈prev,¬zav4 b a)&&zbt9 r t (prev++[a]) (s+a.aS)))
theorem zbG3(r:aH)(hr:0<=r.aS):∀(l prev:List aC) (s:Int),s<=r.aS->(zbt9 r l prev s=true↔(∀a∈l,zc9 r a=true)/\s+sumU l<=r.aS/\(∀b∈prev,∀a∈l,¬zav4 b a)/\l.Pairwise λ b a=>¬zav4 b a)
 |[],prev,s,hs=>by simp[zbt9,sumU];exact hs
 |a::t,prev,s,hs=>by
  simp only[zbt9,bU,bY,List.forall_mem_cons,cX,sumU];constructor
  .rintro⟨h1,h2,h3,h4⟩;rw[zbG3 r hr t (prev++[a]) (s+a.aS) h2]at h4;obtain⟨k1,k2,k3,k4⟩:=h4;refine⟨⟨h1,k1⟩,by omega,λ b hb=>⟨h3 b hb,λ c hc=>k3 b (by simp[hb]) c hc⟩,λ c hc=>k3 a (by simp) c hc,k4⟩
  .rintro⟨⟨h1,k1⟩,h2,h3,h4,h5⟩;have hn:0<=sumU t:=zcB6 λ b hb=>(zai7 (k1 b hb)).1;have h6:s+a.aS<=r.aS:=by omega
   refine⟨h1,h6,λ b hb=>(h3 b hb).1,?_⟩;rw[zbG3 r hr t (prev++[a]) (s+a.aS) h6];refine⟨k1,by omega,λ b hb c hc=>?_,h5⟩;rcases cR.1 hb with hb|hb
   .exact(h3 b hb).2 c hc
   .simp at hb;subst hb;exact h4 c hc
theorem zcB7(r:aH)(l:List aC)(hs:zg4 r=true):zbL6 r l=zbt9 r l [] 0:=by
 have hr:1<=r.aS:=by rw[zK2]at hs;omega
 unfold zbL6;rw[hs,cK,dW,zbG3 r (by omega) l [] 0 (by omega),bY];exact⟨λ⟨a,b,c⟩=>⟨a,by omega,by simp,c⟩,λ⟨a,b,_,c⟩=>⟨a,by omega,c⟩⟩
def zbx4(seen:Arr Bool 6)(m:Int):Bool:=(List.range' 0 6).all λ k=>!(seen.get k false)||mC k m
theorem zcr4(l:List aC)(g:Int×Int×Arr Bool 6):zc2 (zG0 l g) 0=some (if zbx4 g.2.2 (l.getD g.2.1.toNat aC.zero).mode=true then .inl ()else .inr false):=by
 have key:=zN5 (body:=zG0 l g) 6 (λ i=>if(!(g.2.2.get i false)||mC i (l.getD g.2.1.toNat aC.zero).mode)=true then none else some (.inr false)) (.inl ()) (λ i hi=>by
  unfold zG0;have h3:0<=(i:Int)/\(i:Int)<6:=by omega
  have h4:IntKind.i64.wrap ((i:Int)+1)=(i:Int)+1:=zj1 (by omega) (by omega);simp only[h3.1,h3.2,cS,zg9,cA,cC,Int.toNat_natCast,zbx3,h4];cases Arr.get g.2.2 i false<;>cases mC i (l.getD g.2.1.toNat aC.zero).mode<;>rfl) (by unfold zG0;simp)
 rw[key,zZ2];unfold zbx4;split<;>simp_all
theorem zdE4(s:Arr Bool 6)(i k:Nat)(hi:i<6)(hk:k<6):(s.put i true).get k false=if k=i then true else s.get k false:=by
 obtain⟨l,hl⟩:=s;simp only[Arr.put,Arr.get,zaq8 hi,zaq8 hk,bW,List.getElem?_set]
 by_cases h:k=i
 .subst h;simp[hl,hk]
 .rw[bV (λ e=>h e.symm),bV h]
theorem zbn2(r:aH)(l:List aC)(hl:l.length<=1000000):zk5 r l=some (zbL6 r l):=by
 unfold zk5;cases hs:zg4 r with
 |false=>simp[zbL6,hs]
 |true=>
  have hru:1<=r.aS/\r.aS<=8:=by rw[zK2]at hs;omega
  rw[zcB7 r l hs];simp only[cO,bT,cB];have key:=zE7 (body:=zM8 r l) l aC.zero (λ i (s:Int×Arr Bool 6)=>(s.1,(i:Int),s.2))
   (λ i a s=>some (if zc9 r a=false\/r.aS<s.1+a.aS then .inr false else if a.mode=0 then .inl (s.1+a.aS,s.2)else if zbx4 s.2 a.mode=true then .inl (s.1+a.aS,s.2.put a.mode.toNat true)else .inr false)) (λ _=>true) (λ i s=>0<=s.1/\s.1<=8)
   (λ i s hi hi2=>by
    refine⟨?_,λ s' h=>?_⟩
    .unfold zM8;have h3:0<=(i:Int)/\(i:Int)<(l.length:Int):=by omega
     simp only[h3.1,h3.2,cS,zg9,cA,cC,Int.toNat_natCast,zc4 i (by omega),Option.map_some,zcr4];cases hp:zc9 r (l.getD i aC.zero)with
     |false=>simp[wmap]
     |true=>
      have hb:=zai7 hp;have hw:IntKind.i64.wrap (s.1+(l.getD i aC.zero).aS)=s.1+(l.getD i aC.zero).aS:=zj1 (by omega) (by omega);simp only[hw,cO,dM,bY,gS,iP]
      by_cases h4:r.aS<s.1+(l.getD i aC.zero).aS
      .simp only[h4,cC,wmap]
      .by_cases h5:(l.getD i aC.zero).mode=0
       .simp only[h4,cB,h5,cC,wmap]
       .simp only[h4,h5,cB]
        by_cases h6:zbx4 s.2 (l.getD i aC.zero).mode=true
        .simp only[h6,cC,Option.bind_some,wmap];unfold zV8;simp only[Int.toNat_natCast,hw,zc4 i (by omega)];rw[gdp (by omega)]
        .simp only[h6,bT,cB,wmap,Option.bind_some]
    .simp only[dE]at h;split at h
     .cases h
     .rename_i hn;simp only[kD,fB]at hn;have hb:=zai7 hn.1;split at h
      .cases h;simp only;omega
      .split at h
       .cases h;simp only;omega
       .cases h)
   (λ s hs=>by unfold zM8;simp) (0,Arr.rep 6 false) (by simp)
  have fold:∀(l prev:List aC) (i:Nat) (s:Int) (seen:Arr Bool 6),(∀b∈prev,0<=b.mode/\b.mode<=5)->(∀k,k<6->seen.get k false=decide (∃b∈prev,b.mode≠0/\b.mode=(k:Int)))->
    walk (λ i a (s:Int×Arr Bool 6)=>some (if zc9 r a=false\/r.aS<s.1+a.aS then .inr false else if a.mode=0 then .inl (s.1+a.aS,s.2)else if zbx4 s.2 a.mode=true then .inl (s.1+a.aS,s.2.put a.mode.toNat true)else .inr false)) (λ _=>true) l i (s,seen)=some (zbt9 r l prev s):=by
   intro l;induction l with
   |nil=>intro prev i s seen _ _;rfl
   |cons a t ih=>
    intro prev i s seen hpv hsn;simp only[walk,zbt9];cases hp:zc9 r a with
    |false=>simp
    |true=>
     have hb:=zai7 hp
     by_cases h4:r.aS<s+a.aS
     .simp[h4];intro h;omega
     .have h4':s+a.aS<=r.aS:=by omega
      simp only[gS,iP,h4,cB,h4',cA,cK]
      by_cases h5:a.mode=0
      .simp only[h5,cC];rw[ih (prev++[a]) (i+1) (s+a.aS) seen (by
        intro b hb';rcases cR.1 hb' with h|h
        .exact hpv b h
        .simp at h;subst h;omega) (by
        intro k hk;rw[hsn k hk,jB];constructor
        .rintro⟨b,h1,h2⟩;exact⟨b,by simp[h1],h2⟩
        .rintro⟨b,h1,h2,h3⟩;rcases cR.1 h1 with h|h
         .exact⟨b,h,h2,h3⟩
         .simp at h;subst h;exact absurd h5 h2)]
       have:∀b∈prev,¬zav4 b a:=λ b _ hc=>hc.2.1 h5;rw[cG this,cK]
      .simp only[h5,cB];have hse:zbx4 seen a.mode=decide (∀b∈prev,¬zav4 b a):=by
        rw[dW,bY];unfold zbx4;simp only[fH,List.mem_range'_1,dI,cP];constructor
        .intro hh b hb' ⟨c1,c2,c3⟩;have hbb:=hpv b hb';rcases hh b.mode.toNat (by omega)with h|h
         .rw[hsn _ (by omega)]at h;simp only[cL,not_exists,not_and]at h;exact h b hb' c1 (by omega)
         .rw[show((b.mode.toNat:Nat):Int)=b.mode by omega,c3]at h;cases h
        .intro hh k hk;rw[hsn k (by omega)]
         by_cases he:∃b∈prev,b.mode≠0/\b.mode=(k:Int)
         .obtain⟨b,h1,h2,h3⟩:=he;right;rw[<-h3];have:=hh b h1;unfold zav4 at this;simp only[not_and,fB]at this;exact this h2 h5
         .left;simpa using he
       rw[hse]
       by_cases h7:∀b∈prev,¬zav4 b a
       .rw[cG h7];simp only[cC,cK];rw[ih (prev++[a]) (i+1) (s+a.aS) (seen.put a.mode.toNat true) (by
         intro b hb';rcases cR.1 hb' with h|h
         .exact hpv b h
         .simp at h;subst h;omega) (by
         intro k hk;rw[zdE4 seen a.mode.toNat k (by omega) hk,hsn k hk]
         by_cases hka:k=a.mode.toNat
         .rw[bX hka];exact(cG ⟨a,by simp,h5,by omega⟩).symm
         .rw[bV hka,jB];constructor
          .rintro⟨b,h1,h2⟩;exact⟨b,by simp[h1],h2⟩
          .rintro⟨b,h1,h2,h3⟩;rcases cR.1 h1 with h|h
           .exact⟨b,h,h2,h3⟩
           .simp at h;subst h;omega)]
       .rw[eE h7];rfl
  have k2:=fold l [] 0 0 (Arr.rep 6 false) (by simp) (by
   intro k hk;have:k=0\/k=1\/k=2\/k=3\/k=4\/k=5:=by omega
   rcases this with rfl|rfl|rfl|rfl|rfl|rfl<;>rfl)
  rw[show((0,0,Arr.rep 6 false):Int×Int×Arr Bool 6)=(λ(i:Nat) (s:Int×Arr Bool 6)=>(s.1,(i:Int),s.2)) 0 (0,Arr.rep 6 false)from rfl,key,k2];rfl
theorem zbG4(l:List aC)(g:Int×Int)(h0:0<=g.2)(hl:g.2<(l.length:Int))(hll:l.length<=1000000):zc2 (zH5 l g) 0=
  some (if(List.range' 0 g.2.toNat).all (λ k=>decide (l.getD g.2.toNat aC.zero=aC.zero)||(decide (l.getD k aC.zero=aC.zero)||mC (l.getD g.2.toNat aC.zero).mode (l.getD k aC.zero).mode))=true then .inl ()else .inr false):=by
 have hz:∀a:aC,zn2 a=decide (a=aC.zero):=λ _=>rfl;have key:=zN5 (body:=zH5 l g) g.2.toNat (λ i=>if(decide (l.getD g.2.toNat aC.zero=aC.zero)||(decide (l.getD i aC.zero=aC.zero)||mC (l.getD g.2.toNat aC.zero).mode (l.getD i aC.zero).mode))=true then none else some (.inr false)) (.inl ()) (λ i hi=>by
  unfold zH5;have h3:(i:Int)<g.2:=by omega
  have h4:IntKind.i64.wrap ((i:Int)+1)=(i:Int)+1:=zj1 (by omega) (by omega);have h5:0<=(i:Int)/\(i:Int)<(l.length:Int):=by omega
  simp only[h3,cA,cC,Int.toNat_natCast,h4,h5.1,h5.2,h0,hl,cS,eD,zg9,hz];cases decide (l.getD g.2.toNat aC.zero=aC.zero)<;>cases decide (l.getD i aC.zero=aC.zero)<;>cases hm:zP6 (l.getD g.2.toNat aC.zero).mode (l.getD i aC.zero).mode<;>simp only[mC,hm]<;>rfl) (by unfold zH5;rw[bV];simp;omega)
 rw[key,zZ2];split<;>simp_all
theorem zbs4(r:aH)(l:List aC)(hl:l.length<=1000000):zm0 r l=some (zbL6 r l):=by
 unfold zm0;rw[zbc1];cases hs:zg4 r with
 |false=>simp[zbL6,hs]
 |true=>
  have hru:1<=r.aS/\r.aS<=8/\(r.kind=1\/r.kind=2):=by rw[zK2]at hs;omega
  rw[zcB7 r l hs];simp only[cO,bT,cB];have key:=zE7 (body:=zE1 r l) l aC.zero (λ i (s:Int)=>(s,(i:Int)))
   (λ i a s=>some (if zc9 r a=false then .inr (.inr false)else if r.kind=2 then(if r.aS<s+a.aS then .inr (.inr false)else .inl (s+a.aS))else
    if(List.range' 0 i).all (λ k=>decide (a=aC.zero)||(decide (l.getD k aC.zero=aC.zero)||mC a.mode (l.getD k aC.zero).mode))=true then .inl s else .inr (.inr false))) (λ _=>Sum.inl (β:=Bool) ()) (λ i s=>0<=s/\s<=8)
   (λ i s hi hi2=>by
    refine⟨?_,λ s' h=>?_⟩
    .unfold zE1;have h3:0<=(i:Int)/\(i:Int)<(l.length:Int):=by omega
     simp only[h3.1,h3.2,cS,zg9,cA,cC,Int.toNat_natCast,zc4 i (by omega),Option.map_some,zbq7,zbG4 l (s,(i:Int)) h3.1 h3.2 hl];cases hp:zc9 r (l.getD i aC.zero)with
     |false=>simp[wmap]
     |true=>
      have hb:=zai7 hp;have hw:IntKind.i64.wrap (s+(l.getD i aC.zero).aS)=s+(l.getD i aC.zero).aS:=zj1 (by omega) (by omega);simp only[hw,cO,bT,cB,gS,bY]
      by_cases h4:r.kind=2
      .by_cases h5:r.aS<s+(l.getD i aC.zero).aS
       .simp only[h4,h5,cC,wmap]
       .simp only[h4,h5,cC,cB,wmap]
      .simp only[h4,cB];split
       .simp only[zal5,wmap,zc4 i (by omega:i<4611686018427387904),Option.bind_some]
       .simp only[wmap,Option.bind_some]
    .simp only[dE]at h;split at h
     .cases h
     .rename_i hn;simp only[fB]at hn;have hb:=zai7 hn;split at h
      .split at h
       .cases h
       .cases h;omega
      .split at h
       .cases h;exact hi2
       .cases h)
   (λ s hs=>by unfold zE1;simp) 0 (by simp)
  have fold:∀(t prev:List aC) (s:Int),l=prev++t->(∀b∈prev,zc9 r b=true)->(r.kind=1->s=0)->s<=r.aS->
    walk (λ i a (s:Int)=>some (if zc9 r a=false then .inr (.inr false)else if r.kind=2 then(if r.aS<s+a.aS then .inr (.inr false)else .inl (s+a.aS))else
     if(List.range' 0 i).all (λ k=>decide (a=aC.zero)||(decide (l.getD k aC.zero=aC.zero)||mC a.mode (l.getD k aC.zero).mode))=true then .inl s else .inr (.inr false))) (λ _=>Sum.inl (β:=Bool) ()) t prev.length s=some (if zbt9 r t prev s=true then .inl ()else .inr false):=by
   intro t;induction t with
   |nil=>intro prev s _ _ _ _;rfl
   |cons a t ih=>
    intro prev s hlt hpp hs0 hsu;simp only[walk,zbt9]
    by_cases hp:zc9 r a=true
    .have hpp':∀b∈prev++[a],zc9 r b=true:=λ b hb=>by
      rcases cR.1 hb with h|h
      .exact hpp b h
      .simp at h;subst h;exact hp
     have hlt':l=(prev++[a])++t:=by rw[hlt];simp
     have hlen:(prev++[a]).length=prev.length+1:=by simp
     rcases hru.2.2 with hk|hk
     ·
      have ha:=zaH6 hp hk;have hs:=hs0 hk;subst hs;have hk2:¬r.kind=2:=by omega
      have hsum:(0:Int)+a.aS<=r.aS:=by omega
      simp only[hp,gS,cB,hk2,hsum,cA,cK];have hall:(List.range' 0 prev.length).all (λ k=>decide (a=aC.zero)||(decide (l.getD k aC.zero=aC.zero)||mC a.mode (l.getD k aC.zero).mode))=decide (∀b∈prev,¬zav4 b a):=by
       rw[dW,bY];simp only[fH,List.mem_range'_1,dI,bY];have hget:∀k,k<prev.length->l.getD k aC.zero=prev.getD k aC.zero:=λ k hk=>by rw[hlt,zaH5 _ _ _ _ hk]
       have hmem:∀k,k<prev.length->prev.getD k aC.zero∈prev:=λ k hk=>by rw[bW,bZ hk];exact iN hk
       have zak8:∀b,zc9 r b=true->(b=aC.zero↔b.mode=0):=λ b hb=>by have:=zaH6 hb hk;rw[aC.ext_iff];simp[aC.zero];omega
       constructor
       .intro hh b hb ⟨c1,c2,c3⟩;obtain⟨k,hk1,hk2⟩:=eY.1 hb;have e:prev.getD k aC.zero=b:=by rw[bW,bZ hk1,Option.getD_some,hk2]
        rcases hh k (by omega)with h|h|h
        .exact c2 ((zak8 a hp).1 h)
        .rw[hget k hk1,e]at h;exact c1 ((zak8 b (hpp b hb)).1 h)
        .rw[hget k hk1,e,zbQ9,c3]at h;cases h
       .intro hh k hk1;have hk2:k<prev.length:=by omega
        rw[hget k hk2];have h1:=hh _ (hmem k hk2);have h2:=hpp _ (hmem k hk2);unfold zav4 at h1;rw[zak8 a hp,zak8 _ h2]
        by_cases e1:a.mode=0
        .exact .inl e1
        .by_cases e2:(prev.getD k aC.zero).mode=0
         .exact .inr (.inl e2)
         .refine .inr (.inr ?_);rw[zbQ9];simp only[not_and,fB]at h1;exact h1 e2 e1
      rw[hall]
      by_cases h7:∀b∈prev,¬zav4 b a
      .rw[cG h7];simp only[cC,cK];have:=ih (prev++[a]) 0 hlt' hpp' (λ _=>rfl) (by omega);rw[hlen]at this;simp only[hk2,cB]at this;rw[this,ha.1];rfl
      .rw[eE h7];rfl
     ·
      have ha:=zbq8 hp hk;simp only[hp,gS,cB,hk,cC,cK];have h7:∀b∈prev,¬zav4 b a:=λ b _ hc=>hc.2.1 ha.1
      by_cases h5:r.aS<s+a.aS
      .have:¬s+a.aS<=r.aS:=by omega
       simp[h5,this]
      .have:s+a.aS<=r.aS:=by omega
       rw[cG h7];simp only[h5,cB,this,cA,cK];have h8:=ih (prev++[a]) (s+a.aS) hlt' hpp' (λ h=>by omega) this;rw[hlen]at h8;simp only[hk,cC]at h8;exact h8
    .simp[hp]
  rw[show((0,0):Int×Int)=(λ(i:Nat) (s:Int)=>(s,(i:Int))) 0 0 from rfl,key];have k2:=fold l [] 0 rfl (by simp) (λ _=>rfl) (by omega);rw[List.length_nil]at k2;rw[k2];cases zbt9 r l [] 0<;>rfl
structure GoodP (r:aH) (l:List bA):Prop where
 each:∀h∈l,zd2 h.aK=true/\za2 r h.aM=true
 asc:l.Pairwise λ a b=>ltP a.aK b.aK
instance(r:aH)(l:List bA):Decidable (GoodP r l):=
 decidable_of_iff ((∀h∈l,zd2 h.aK=true/\za2 r h.aM=true)/\l.Pairwise λ a b=>ltP a.aK b.aK) ⟨λ⟨a,b⟩=>⟨a,b⟩,λ⟨a,b⟩=>⟨a,b⟩⟩
def zL5(r:aH)(l:List bA):Bool:=zg4 r&&(decide (l.length<=8)&&(decide (GoodP r l)&&decide (CompP r (l.map (·.aM)))))
theorem zbn3{r:aH}{a:aC}(h:za2 r a=true):zg4 r=true:=by rw[zF1]at h;rw[zK2];omega
theorem zC7{r:aH}{a:aC}(h:za2 r a=true):zc9 r a=true:=(perm_iff r a).2 (.inr h)
theorem zW1{r:aH}{a:aC}(h:za2 r a=true):a≠aC.zero:=by rw[zF1]at h;intro e;subst e;simp[aC.zero]at h
def zaz6(r:aH):List bA->Option aL->Bool
 |[],_=>true
 |h::t,pv=>zd2 h.aK&&(za2 r h.aM&&((match pv with|none=>true|some q=>decide (ltP q h.aK))&&zaz6 r t (some h.aK)))
theorem zbG5(r:aH):∀(l:List bA) (pv:Option aL),zaz6 r l pv=true↔GoodP r l/\∀q,pv=some q->∀h∈l,ltP q h.aK
 |[],pv=>by simp only[zaz6,hY,hJ,eD,iW,true_iff];exact⟨by simp,.nil⟩
 |h::t,pv=>by
  simp only[zaz6,bU];rw[zbG5 r t (some h.aK)];constructor
  .rintro⟨h1,h2,h3,⟨h4,h5⟩,h6⟩;refine⟨⟨λ x hx=>?_,cX.2 ⟨λ x hx=>h6 _ rfl x hx,h5⟩⟩,λ q hq x hx=>?_⟩
   .rcases cF.1 hx with rfl|hx
    .exact⟨h1,h2⟩
    .exact h4 x hx
   .subst hq;simp only[bY]at h3;rcases cF.1 hx with rfl|hx
    .exact h3
    .exact zat0 h3 (h6 _ rfl x hx)
  .rintro⟨⟨h1,h2⟩,h3⟩;rw[cX]at h2;refine⟨(h1 h (.head _)).1,(h1 h (.head _)).2,?_,⟨λ x hx=>h1 x (.tail _ hx),h2.2⟩,λ q hq x hx=>by cases hq;exact h2.1 x hx⟩;cases pv with
   |none=>rfl
   |some q=>exact cG (h3 q rfl h (.head _))
theorem zaH7(r:aH)(l:List bA):zs5 r l=some (zL5 r l):=by
 unfold zs5 zL5;cases hs:zg4 r with
 |false=>simp
 |true=>
  by_cases h8:8<(l.length:Int)
  .have:¬l.length<=8:=by omega
   simp[h8,this]
  .have hl8:l.length<=8:=by omega
   simp only[cO,dM,h8,cJ,bT,cB,hl8,cA,cK];have key:=zE7 (body:=zY4 r l) l bA.zero (λ i (s:List aC)=>((i:Int),s))
    (λ i h s=>some (if zd2 h.aK=true/\za2 r h.aM=true/\(i=0\/ltP (l.getD (i-1) bA.zero).aK h.aK)then .inl (s++[h.aM])else .inr (.inr false))) (λ s=>Sum.inl (β:=Bool) s) (λ i s=>s.length<=i)
    (λ i s hi hs=>by
     refine⟨?_,λ s' h=>?_⟩
     .unfold zY4;have h1:s.length+1<=4294967296:=by omega
      have h3:0<=(i:Int)/\(i:Int)<(l.length:Int):=by omega
      simp only[h1,h3.1,h3.2,cS,zg9,cA,cC,Int.toNat_natCast,zR2,zc4 i (by omega),Option.map_some,bY,bU,dI,cP]
      by_cases e1:zd2 (l.getD i bA.zero).aK=false\/za2 r (l.getD i bA.zero).aM=false
      .rw[bX e1,bV (by rintro⟨k1,k2,_⟩;rcases e1 with e|e<;>simp_all)];rfl
      .rw[bV e1];simp only[kD,fB]at e1
       by_cases e2:i=0
       .subst e2;rw[gdp (by omega)];simp only[Int.natCast_zero,eR,cB,Option.bind_some,jA,e1,cS,true_or,cC,wmap]
       .have w:IntKind.i64.wrap ((i:Int)-1)=((i-1:Nat):Int):=zah8 i (by omega) (by omega);rw[gdp (by rw[w];omega)];simp only[w,Int.toNat_natCast,show(0:Int)<(i:Int)by omega,cC,Option.bind_some,fK,zaz5,e1,e2,iP]
        by_cases e3:ltP (l.getD (i-1) bA.zero).aK (l.getD i bA.zero).aK
        .simp only[e3,not_true,cB,cC,wmap]
        .simp only[e3,iU,cC,cB,wmap]
     .simp only[dE]at h;split at h
      .cases h;simp;omega
      .cases h)
    (λ s hs=>by unfold zY4;simp) [] (by simp)
   have fold:∀(t prev:List bA) (s:List aC),l=prev++t->
     walk (λ i h (s:List aC)=>some (if zd2 h.aK=true/\za2 r h.aM=true/\(i=0\/ltP (l.getD (i-1) bA.zero).aK h.aK)then .inl (s++[h.aM])else .inr (.inr false))) (λ s=>Sum.inl (β:=Bool) s) t prev.length s=
      some (if zaz6 r t (prev.getLast?.map (·.aK))=true then .inl (s++t.map (·.aM))else .inr false):=by
    intro t;induction t with
    |nil=>intro prev s _;simp[walk,zaz6]
    |cons h t ih=>
     intro prev s hlt;simp only[walk];have hq:(prev.length=0\/ltP (l.getD (prev.length-1) bA.zero).aK h.aK)↔(match prev.getLast?.map (·.aK)with|none=>true|some q=>decide (ltP q h.aK))=true:=by
      rcases iS prev with rfl|⟨pp,x,rfl⟩
      .simp
      .have:(l.getD ((pp.concat x).length-1) bA.zero)=x:=by
        rw[hlt];simp[bW]
       rw[this];simp
     by_cases e:zd2 h.aK=true/\za2 r h.aM=true/\(prev.length=0\/ltP (l.getD (prev.length-1) bA.zero).aK h.aK)
     .rw[bX e];have:=ih (prev++[h]) (s++[h.aM]) (by rw[hlt];simp);rw[show(prev++[h]).length=prev.length+1 by simp]at this;simp only;have ht:zaz6 r (h::t) (prev.getLast?.map (·.aK))=zaz6 r t (some h.aK):=by simp only[zaz6,e.1,e.2.1,hq.1 e.2.2,cK]
      rw[this,ht];simp
     .rw[bV e];rw[hq]at e;have hf:zaz6 r (h::t) (prev.getLast?.map (·.aK))=false:=by
       rw[dP];intro hh;simp only[zaz6,bU]at hh;exact e ⟨hh.1,hh.2.1,hh.2.2.1⟩
      rw[hf];rfl
   have k2:=fold l [] [] rfl;rw[List.length_nil]at k2;rw[show((0,[]):Int×List aC)=(λ(i:Nat) (s:List aC)=>((i:Int),s)) 0 []from rfl,key,k2];have hg:=zbG5 r l none
   by_cases e:zaz6 r l none=true
   .have hgp:GoodP r l:=(hg.1 e).1;rw[bX (by simpa using e)];simp only[Option.bind_some,zax7,List.nil_append];rw[zbn2 r _ (by simp;omega)];simp[zbL6,hs,hgp]
   .have hgp:¬GoodP r l:=λ h=>e (hg.2 ⟨h,by simp⟩);rw[bV (by simpa using e)];simp[hgp]
theorem zbG6(l:List bA)(hl:l.length<=1000000):zh7 l=some (l.map (·.aM)):=by
 unfold zh7;have key:=zE7 (body:=zY2 l) l bA.zero (λ i (s:List aC)=>((i:Int),s)) (λ i h s=>some (.inl (zaL6 s (some h.aM)))) (λ s=>s) (λ i s=>s.length<=i)
  (λ i s hi hs=>by
   refine⟨?_,λ s' h=>?_⟩
   .unfold zY2;have h1:s.length+1<=4294967296:=by omega
    have h3:0<=(i:Int)/\(i:Int)<(l.length:Int):=by omega
    simp only[h1,h3.1,h3.2,cS,zg9,cA,cC,Int.toNat_natCast,zc4 i (by omega),Option.map_some,wmap,zaL6]
   .simp only[dE,fN]at h;subst h;simp[zaL6];omega)
  (λ s hs=>by unfold zY2;simp) [] (by simp)
 rw[show((0,[]):Int×List aC)=(λ(i:Nat) (s:List aC)=>((i:Int),s)) 0 []from rfl,key,zaP8 (λ h:bA=>some h.aM)];simp[zax3]
theorem zaS6(r:aH)(l:List bA):zu9 r l=some (zL5 r l):=by
 unfold zu9 zL5;rw[zbc1];cases hs:zg4 r with
 |false=>simp
 |true=>
  by_cases h8:8<(l.length:Int)
  .have:¬l.length<=8:=by omega
   simp[h8,this]
  .have hl8:l.length<=8:=by omega
   simp only[cO,dM,h8,cJ,bT,cB,hl8,cA,cK];have key:=zE7 (body:=zah2 r l) l bA.zero (λ i (_:Unit)=>(i:Int))
    (λ i h _=>some (if zd2 h.aK=true/\za2 r h.aM=true/\(i=0\/ltP (l.getD (i-1) bA.zero).aK h.aK)then .inl ()else .inr (.inr false))) (λ _=>Sum.inl (β:=Bool) ()) (λ i s=>True)
    (λ i s hi _=>by
     refine⟨?_,λ _ _=>trivial⟩;unfold zah2;have h3:0<=(i:Int)/\(i:Int)<(l.length:Int):=by omega
     simp only[h3.1,h3.2,cS,eD,zg9,cA,cC,Int.toNat_natCast,zc4 i (by omega),Option.map_some,zaS5,zaJ2]
     by_cases e2:i=0
     .subst e2;rw[gdp (by simp)]
      by_cases e1:zd2 (l.getD 0 bA.zero).aK=true
      .by_cases e3:za2 r (l.getD 0 bA.zero).aM=true
       .simp only[e1,e3];simp[wmap]
       .simp only[e1,e3];simp[wmap]
      .simp only[e1];simp[wmap]
     .have w:IntKind.i64.wrap ((i:Int)-1)=((i-1:Nat):Int):=zah8 i (by omega) (by omega);rw[gdp (λ _=>by rw[w];omega)];simp only[w,Int.toNat_natCast,show(0:Int)<(i:Int)by omega,cA,cK,zaz5,e2,iP]
      by_cases e1:zd2 (l.getD i bA.zero).aK=true
      .by_cases e3:za2 r (l.getD i bA.zero).aM=true
       .by_cases e4:ltP (l.getD (i-1) bA.zero).aK (l.getD i bA.zero).aK
        .simp only[e1,e3,e4];simp[wmap]
        .simp only[e1,e3,e4];simp[wmap]
       .simp only[e1,e3];simp[wmap]
      .simp only[e1];simp[wmap])
    (λ s hs=>by unfold zah2;simp) () trivial
   have fold:∀(t prev:List bA),l=prev++t->
     walk (λ i h (_:Unit)=>some (if zd2 h.aK=true/\za2 r h.aM=true/\(i=0\/ltP (l.getD (i-1) bA.zero).aK h.aK)then .inl ()else .inr (.inr false))) (λ _=>Sum.inl (β:=Bool) ()) t prev.length ()=
      some (if zaz6 r t (prev.getLast?.map (·.aK))=true then .inl ()else .inr false):=by
    intro t;induction t with
    |nil=>intro prev _;simp[walk,zaz6]
    |cons h t ih=>
     intro prev hlt;simp only[walk];have hq:(prev.length=0\/ltP (l.getD (prev.length-1) bA.zero).aK h.aK)↔(match prev.getLast?.map (·.aK)with|none=>true|some q=>decide (ltP q h.aK))=true:=by
      rcases iS prev with rfl|⟨pp,x,rfl⟩
      .simp
      .have:(l.getD ((pp.concat x).length-1) bA.zero)=x:=by
        rw[hlt];simp[bW]
       rw[this];simp
     by_cases e:zd2 h.aK=true/\za2 r h.aM=true/\(prev.length=0\/ltP (l.getD (prev.length-1) bA.zero).aK h.aK)
     .rw[bX e];have:=ih (prev++[h]) (by rw[hlt];simp);rw[show(prev++[h]).length=prev.length+1 by simp]at this;simp only;have ht:zaz6 r (h::t) (prev.getLast?.map (·.aK))=zaz6 r t (some h.aK):=by simp only[zaz6,e.1,e.2.1,hq.1 e.2.2,cK]
      rw[this,ht];simp
     .rw[bV e];rw[hq]at e;have hf:zaz6 r (h::t) (prev.getLast?.map (·.aK))=false:=by
       rw[dP];intro hh;simp only[zaz6,bU]at hh;exact e ⟨hh.1,hh.2.1,hh.2.2.1⟩
      rw[hf];rfl
   have k2:=fold l [] rfl;rw[List.length_nil]at k2;rw[show(0:Int)=(λ(i:Nat) (_:Unit)=>(i:Int)) 0 ()from rfl,key,k2];have hg:=zbG5 r l none
   by_cases e:zaz6 r l none=true
   .have hgp:GoodP r l:=(hg.1 e).1;rw[bX (by simpa using e)];simp only[Option.bind_some,zaG9];rw[zbG6 l (by omega),Option.bind_some,zbs4 r _ (by simp;omega)];simp[zbL6,hs,hgp]
   .have hgp:¬GoodP r l:=λ h=>e (hg.2 ⟨h,by simp⟩);rw[bV (by simpa using e)];simp[hgp]
theorem zbB9(p:aL)(a:aC)(l:List bA):(insP p a l).length=l.length+1:=by
 induction l with
 |nil=>rfl
 |cons h t ih=>simp only[insP];split<;>simp[ih]
theorem zdt1(l:List bA)(p:aL)(a:aC):(setL l p a).length<=l.length+1:=by
 have:=zaS4 p l;unfold setL;split
 .omega
 .rw[zbB9];omega
theorem zap4{r:aH}{l:List bA}(h:zL5 r l=true):l.length<=8:=by unfold zL5 at h;simp at h;exact h.2.1
def zan3(r:aH)(l:List bA)(p:aL)(a:aC):Bool:=zL5 r l&&(zd2 p&&za2 r a)
def zaO3(r:aH)(l:List bA)(p:aL)(a:aC):Bool:=zan3 r l p a&&zL5 r (setL l p a)
theorem zdd4(r:aH)(l:List bA)(p:aL)(a:aC):zy2 r l p a=some (zan3 r l p a):=by unfold zy2 zan3;rw[zaH7,Option.bind_some,gV]
theorem zdE5(r:aH)(l:List bA)(p:aL)(a:aC):zT3 r l p a=some (zaO3 r l p a):=by
 unfold zT3 zaO3;rw[zdd4,Option.bind_some];cases h:zan3 r l p a with
 |false=>simp
 |true=>
  have hv:zL5 r l=true:=by unfold zan3 at h;simp at h;exact h.1
  simp only[cC];rw[zbX6 l p a (by have:=zap4 hv;omega),Option.bind_some,zaH7];simp
theorem zcB8(r:aH)(l:List bA)(p:aL)(a:aC):zN0 r l p a=some (zaO3 r l p a):=by
 unfold zN0 zaO3;rw[zaS6,Option.bind_some,zaS5,zaJ2,gV];change((if zan3 r l p a=true then _ else _):Option (List bA)).bind _=_;cases h:zan3 r l p a with
 |false=>unfold zan3 at h;simp[h]
 |true=>
  have hv:zL5 r l=true:=by unfold zan3 at h;simp at h;exact h.1
  unfold zan3 at h;simp only[h,cC];rw[zaD7 l p a (by have:=zap4 hv;omega),Option.bind_some,zaS6];simp
def zap5(p:aL):List aU->Nat->Option Nat
 |[],_=>none
 |w::l,i=>if w.aK=p then some i else zap5 p l (i+1)
def zW9(l:List aU)(p:aL):Int:=match zap5 p l 0 with
 |some i=>i
 |none=>-1
theorem zbL7(l:List aU)(p:aL):∀k i,i+k=l.length->zR0 (λ i=>if(l.getD i aU.zero).aK=p then some (i:Int)else none) k i=(zap5 p (l.drop i) i).map λ n:Nat=>(n:Int)
 |0,i,h=>by rw[gJ (by omega)];rfl
 |k+1,i,h=>by
  rw[zaH3 l i aU.zero (by omega)];simp only[zR0,zap5]
  by_cases hp:(l.getD i aU.zero).aK=p
  .simp only[hp,cC,Option.map_some]
  .simp only[hp,cB];exact zbL7 l p k (i+1) (by omega)
theorem zaO8(l:List aU)(p:aL)(hl:l.length<4611686018427387904):zn7 l p=some (zW9 l p):=by
 unfold zn7;have key:zc2 (zao2 l p) 0=some ((zR0 (λ i=>if(l.getD i aU.zero).aK=p then some (Sum.inr (i:Int))else none) l.length 0).getD (Sum.inl ())):=by
  refine zN5 l.length _ (Sum.inl ()) (λ i hi=>?_) ?_
  .unfold zao2;rw[bX (by simpa using hi),zh3 (by omega)];simp only[Int.toNat_natCast,bY];split
   .rfl
   .rw[zj1 (by omega) (by omega)]
  .unfold zao2;rw[bV (by simp)]
 rw[key];have h2:=zbL7 l p l.length 0 (by omega);have h3:∀k i,zR0 (λ i=>if(l.getD i aU.zero).aK=p then some (Sum.inr (α:=Unit) (i:Int))else none) k i=(zR0 (λ i=>if(l.getD i aU.zero).aK=p then some (i:Int)else none) k i).map Sum.inr:=by
  intro k;induction k with
  |zero=>intro i;rfl
  |succ k ih=>
   intro i;simp only[zR0]
   by_cases hp:(l.getD i aU.zero).aK=p
   .simp only[hp,cC,Option.map_some]
   .simp only[hp,cB,ih]
 rw[h3,h2,gW];unfold zW9;cases zap5 p l 0<;>rfl
theorem zav5(l:List aU)(p:aL)(hl:l.length<4611686018427387904):zk6 l p=some (zW9 l p):=by have e:zk6 l p=zn7 l p:=rfl;rw[e];exact zaO8 l p hl
theorem zaO9(w:aU):zC0 w=zm9 w:=by unfold zC0 zm9 zr5 zd2 zU1 zn0 za2 zg4 zB9 zw5;rw[dW];simp;omega
def zZ3(l:List aU):Bool:=decide (l.length<=8)&&(List.range l.length).all λ i=>zm9 (l.getD i aU.zero)&&decide (zW9 l (l.getD i aU.zero).aK=i)
theorem zbu0(l:List aU):zu2 l=some (zZ3 l):=by
 unfold zu2 zZ3
 by_cases h8:8<(l.length:Int)
 .rw[bX (by simpa using h8)];have:¬l.length<=8:=by omega
  simp[this]
 .rw[bV (by simpa using h8)];have hl:l.length<4611686018427387904:=by omega
  have key:zc2 (zU3 l) 0=some ((zR0 (λ i=>if(zm9 (l.getD i aU.zero)&&decide (zW9 l (l.getD i aU.zero).aK=i))=true then none else some (Sum.inr false)) l.length 0).getD (Sum.inl ())):=by
   refine zN5 l.length _ (Sum.inl ()) (λ i hi=>?_) ?_
   .unfold zU3;rw[bX (by simpa using hi),zh3 (by omega)];simp only[Int.toNat_natCast]
    by_cases hv:zm9 (l.getD i aU.zero)=true
    .simp only[hv,cC,zaO8 l _ hl,Option.bind_some,cO,dM,cK]
     by_cases hf:zW9 l (l.getD i aU.zero).aK=(i:Int)
     .simp only[hf,cA,cO,bT,cB,cC];rw[zj1 (by omega) (by omega)]
     .simp only[hf,cJ,dC,cC,bT,cB]
    .have hv:zm9 (l.getD i aU.zero)=false:=by simpa using hv
     simp only[hv,bT,cB,Option.bind_some,dC,fZ,cC,eN]
   .unfold zU3;rw[bV (by simp)]
  rw[key,zZ2,<-fE];have:l.length<=8:=by omega
  simp only[this,cA,cK];cases(List.range l.length).all λ i=>zm9 (l.getD i aU.zero)&&decide (zW9 l (l.getD i aU.zero).aK=i)<;>rfl
theorem zbn4(l:List aU):zs9 l=some (zZ3 l):=by
 rw[<-zbu0 l];unfold zs9 zu2
 by_cases h8:8<(l.length:Int)
 .rw[bX (cG h8),bX (cG h8)]
 .rw[bV (by simpa using h8),bV (by simpa using h8)];have hl:l.length<4611686018427387904:=by omega
  have e:zar8 l=zU3 l:=funext λ i=>by
   unfold zar8 zU3
   by_cases hi:i<(l.length:Int)
   .rw[bX (cG hi),bX (cG hi)]
    by_cases h0:0<=i/\i<(l.length:Int)
    .rw[zh3 h0,zh3 h0,zh3 (λ _=>h0)];simp only[zaO9,zav5 l _ hl,zaO8 l _ hl]
    .unfold gd;rw[bV h0,bV h0]
   .rw[bV (by simpa using hi)];rw[bV (by simpa using hi)]
  rw[e];rfl
theorem zcB9{p:aL}:∀{l:List aU} {i j:Nat},zap5 p l i=some j->i<=j/\j<i+l.length
 |w::l,i,j,h=>by
  simp only[zap5]at h;split at h
  .cases h;simp
  .have:=zcB9 h;simp only[List.length_cons];omega
theorem zcC0(l:List aU)(p:aL):zW9 l p=-1\/0<=zW9 l p/\zW9 l p<l.length:=by
 unfold zW9;cases h:zap5 p l 0 with
 |none=>exact .inl rfl
 |some j=>right;have:=zcB9 h;simp only;omega
def over(w e:aU):Bool:=decide (e.aZ<w.aZ)&&decide (e.bR<3)
def zap6(l:List aU)(w:aU):Nat->Nat
 |0=>0
 |k+1=>if over w (l.getD k aU.zero)=true then zap6 l w k else k+1
theorem zbq9(l:List aU)(w:aU):∀k,zap6 l w k<=k
 |0=>dA _
 |k+1=>by unfold zap6;split<;>have:=zbq9 l w k<;>omega
def bump(e:aU):aU:={e with bR:=IntKind.i64.wrap (e.bR+1)}
def zbc2(l:List aU)(w:aU)(n:Nat):List aU:=l.take n++w::(l.drop n).map bump
def insS(l:List aU)(w:aU):List aU×Int×Int:=
 if zZ3 l=false then([],0,2)
 else if zm9 w=false\/w.bR≠0 then([],0,1)
 else if 0<=zW9 l w.aK then([],0,11)
 else if l.length=8 then([],0,4)
 else(zbc2 l w (zap6 l w l.length),(zap6 l w l.length:Int),0)
theorem zbx5{l:List aU}(h:zZ3 l=true):l.length<=8:=by simp only[zZ3,bU,bY]at h;exact h.1
theorem zbO0(l:List aU)(w:aU):zx5 l w=some (insS l w):=by
 unfold zx5 insS;rw[zbn4,Option.bind_some];cases hv:zZ3 l with
 |false=>rfl
 |true=>
  have h8:=zbx5 hv;simp only[cO,bT,gS,cB,zaO9]
  by_cases hw:zm9 w=false\/w.bR≠0
  .rw[bX hw,bX (by rcases hw with h|h<;>simp[h])]
  .have hw1:zm9 w=true:=by simpa usingλ h=>hw (.inl h)
   have hw2:w.bR=0:=by simpa usingλ h=>hw (.inr h)
   rw[bV hw,bV (by simp[hw1,hw2]),zav5 _ _ (by omega),Option.bind_some]
   by_cases hf:0<=zW9 l w.aK
   .rw[bX hf,bX (cG hf)]
   .rw[bV hf,bV (by simpa using hf)]
    by_cases h9:l.length=8
    .rw[bX h9,bX (cG (by omega))]
    .rw[bV h9,bV (by simp;omega)];have h2:=zcB3 (body:=zam9 l w) (λ g=>∃i:Nat,g=i/\i<=l.length) (λ g=>g.toNat) (λ g=>((zap6 l w g.toNat:Nat):Int)) (λ g ⟨i,g1,g2⟩=>by
      subst g1;unfold zam9;cases i with
      |zero=>right;rw[zh3 (by simp),zh3 (by simp)];rfl
      |succ i=>
       have e2:IntKind.i64.wrap (((i+1:Nat):Int)-1)=(i:Int):=by rw[zj1 (by omega) (by omega)];omega
       simp only[e2,Int.toNat_natCast];rw[zh3 (by omega),zh3 (by omega),gV]
       by_cases ho:over w (l.getD i aU.zero)=true
       .left;rw[bX (by unfold over at ho;simp only[ho,fM,bY];omega)];exact⟨_,rfl,⟨i,rfl,by omega⟩,by simp only[Int.toNat_natCast];omega,by simp only[Int.toNat_natCast,zap6,ho,cC]⟩
       .right;rw[bV (by rw[bU];exactλ h=>ho h.2)];simp only[zap6,bV ho]) (l.length:Int) ⟨l.length,rfl,dA _⟩
     rw[h2,Option.bind_some];simp only[Int.toNat_natCast];have hp:=zbq9 l w l.length;generalize zap6 l w l.length=n at hp;unfold zac1;simp only[Int.toNat_natCast];rw[zh3 (by omega),zh3 (by simp;omega),zh3 (by simp;omega)];have key:=zcB4 (body:=zac0 l) l.length (λ i s=>.inl (s++[bump (l.getD i aU.zero)])) (λ s=>s) (λ i s=>s.length<=i+1) (λ i s hi hs=>by
      refine⟨?_,λ s' h=>by cases h;simp;omega⟩;unfold zac0;rw[bX (cG (by simp only;omega)),zh3 (by simp only;omega),zh3 (by simp only;omega),zj1 (by simp only;omega) (by simp only;omega)];rfl) (λ s hs=>by
      unfold zac0;rw[bV (by simp)]) (l.length-n) n (l.take n++[w]) (by omega) (by simp only[cD,cU,List.length_cons,List.length_nil];omega)
     have e3:(l.drop n).take (l.length-n)=l.drop n:=dO (by simp);rw[key,zbX2,zbX4 l aU.zero bump _ n (by omega),e3,Option.bind_some];simp[zaD3,zbc2]
def notP(p:aL)(w:aU):Bool:=!decide (w.aK=p)
def rmL(l:List aU)(p:aL):List aU:=l.filter (notP p)
theorem zdE6(l:List aU)(p:aL):(rmL l p).length<=l.length:=iR _ _
theorem zax0(l:List aU)(p:aL)(hl:l.length<4294967296):zh5 l p=some (rmL l p,decide ((rmL l p).length<l.length)):=by
 unfold zh5;have key:=zdd1 (body:=zab3 l p) l.length (λ i s=>.inl (if notP p (l.getD i aU.zero)=true then s++[l.getD i aU.zero]else s)) (λ s=>s) (λ i s=>s.length<=i) (λ i s hi hs=>by
  refine⟨?_,λ s' h=>by simp only[fN]at h;subst h;split<;>first|omega|(simp only[cD,List.length_cons,List.length_nil];omega)⟩;unfold zab3;rw[bX (cG (by simp only;omega)),zh3 (by simp only;omega),zj1 (by simp only;omega) (by simp only;omega)];simp only[Int.toNat_natCast]
  by_cases hp:(!decide ((l.getD i aU.zero).aK=p))=true
  .rw[bX hp,bX (show notP p _=true from hp),zh3 (by omega),zh3 (by omega)]
  .rw[bV hp,bV (show¬notP p _=true from hp)]) (λ s hs=>by
  unfold zab3;rw[bV (by simp)]) [] (fD _)
 rw[key,zbX3 l aU.zero (notP p) l.length 0 [] (by omega),List.nil_append,gW,Option.bind_some];unfold zaC0 rmL;simp
theorem zbX7{p:aL}:∀{l:List aU} {i:Nat},zap5 p l i=none↔∀w∈l,w.aK≠p
 |[],i=>by simp[zap5]
 |w::l,i=>by
  simp only[zap5]
  by_cases h:w.aK=p
  .simp[h]
  .simp only[h,cB,zbX7 (l:=l),cF,forall_eq_or_imp,ne_eq,iU,fK]
theorem zdd5{l:List aU}{p:aL}:¬0<=zW9 l p↔∀w∈l,w.aK≠p:=by rw[<-zbX7 (i:=0)];unfold zW9;cases zap5 p l 0<;>simp
theorem zbG7{w:aU}(h:zm9 w=true):0<=w.bR/\w.bR<=3:=by unfold zm9 at h;simp only[bU,bY]at h;exact⟨h.1.2,h.2⟩
theorem zdP3(e:aU):(bump e).aK=e.aK:=rfl
theorem zcC1(s:ByteArray):zP4 s=zK5 s:=by unfold zP4 zK5 zD9;generalize(s.toList==_)=a;generalize(s.toList==_)=b;generalize(s.toList==_)=c;generalize(s.toList==_)=d;generalize(s.toList==_)=e;cases a<;>cases b<;>cases c<;>cases d<;>cases e<;>rfl
def chI(s:ByteArray)(i:Nat):Int:=((s.toList.getD i 0).toNat:Int)
def okC(s:ByteArray)(i:Nat):Bool:=zS6 (chI s i)||(!decide (i=0)&&zF9 (chI s i))
theorem zbC0(s:ByteArray)(hl:s.size<=12):zc2 (zF7 s) 0=some (if(List.range s.size).all (okC s)=true then .inl ()else .inr false):=by
 have key:zc2 (zF7 s) 0=some ((zR0 (λ i=>if okC s i=true then none else some (Sum.inr false)) s.size 0).getD (Sum.inl ())):=by
  refine zN5 s.size _ (Sum.inl ()) (λ i hi=>?_) ?_
  .unfold zF7;rw[bX (by simpa using hi),zh3 (by omega),zj1 (by omega) (by omega)];simp only[Int.toNat_natCast];have e:((!((decide (97<=((s.toList.getD i 0).toNat:Int)))&&(decide (((s.toList.getD i 0).toNat:Int)<=122))))&&((decide ((i:Int)=0))||(!((((decide (48<=((s.toList.getD i 0).toNat:Int)))&&(decide (((s.toList.getD i 0).toNat:Int)<=57)))||(decide (((s.toList.getD i 0).toNat:Int)=95)))||(decide (((s.toList.getD i 0).toNat:Int)=45))))))=!okC s i:=by
    unfold okC zF9 zS6 chI;generalize((s.toList.getD i 0).toNat:Int)=c;rw[dW];simp;omega
   cases hk:okC s i
   .rw[hk]at e;exact bX e
   .rw[hk]at e;exact bV (by rw[show _=false from e];decide)
  .unfold zF7;rw[bV (by simp)]
 rw[key,zZ2,<-fE];cases(List.range s.size).all (okC s)<;>rfl
theorem zbO1(s:ByteArray)(hl:s.size<=12):zc2 (zK6 s) 0=some (if(List.range s.size).all (λ i=>zF9 (chI s i))=true then .inl ()else .inr false):=by
 have key:zc2 (zK6 s) 0=some ((zR0 (λ i=>if zF9 (chI s i)=true then none else some (Sum.inr false)) s.size 0).getD (Sum.inl ())):=by
  refine zN5 s.size _ (Sum.inl ()) (λ i hi=>?_) ?_
  .unfold zK6;rw[bX (by simpa using hi),zh3 (by omega),zj1 (by omega) (by omega)];simp only[Int.toNat_natCast];show(if(!zF9 (chI s i))=true then _ else _)=_;cases zF9 (chI s i)<;>rfl
  .unfold zK6;rw[bV (by simp)]
 rw[key,zZ2,<-fE];cases(List.range s.size).all (λ i=>zF9 (chI s i))<;>rfl
def zE5(s:ByteArray):Bool:=decide (1<=s.size)&&(decide (s.size<=12)&&(!zK5 s&&(List.range s.size).all (okC s)))
theorem zaN1(s:ByteArray):ze5 s=some (zE5 s):=by
 unfold ze5 zE5;rw[zcC1]
 by_cases h1:s.size<1
 .have:¬1<=s.size:=by omega
  rw[bX (by simp;omega)];simp[this]
 by_cases h2:12<s.size
 .have:¬s.size<=12:=by omega
  rw[bX (by simp;omega)];simp[this]
 cases hr:zK5 s
 .rw[bV (by simp;omega),zbC0 s (by omega)];have a1:1<=s.size:=by omega
  have a2:s.size<=12:=by omega
  simp only[a1,a2,cA,cK,dC];cases(List.range s.size).all (okC s)<;>rfl
 .rw[bX (by simp)];simp
theorem zaJ3(s:ByteArray):zi0 s=some (zE5 s):=by
 unfold zi0 zE5
 by_cases h1:s.size<1
 .have:¬1<=s.size:=by omega
  rw[zh3 (by simp;omega),bX (by simp;omega)];simp[this]
 by_cases h2:12<s.size
 .have:¬s.size<=12:=by omega
  rw[zh3 (by simp;omega),bX (by simp;omega)];simp[this]
 have a1:1<=s.size:=by omega
 have a2:s.size<=12:=by omega
 rw[zh3 (by intro _;omega)];have c0:((s.toList.getD 0 0).toNat:Int)=chI s 0:=rfl;have d1:decide ((s.size:Int)<1)=false:=by simp;omega
 have d2:decide (12<(s.size:Int))=false:=by simp;omega
 simp only[a1,a2,cA,cK,c0,d1,d2,dM];have hall:(List.range s.size).all (okC s)=(zS6 (chI s 0)&&(List.range s.size).all λ i=>zF9 (chI s i)):=by
  rw[dW];simp only[fH,eX,bU,okC,dI,cP,cL];constructor
  .intro h;refine⟨?_,λ i hi=>?_⟩
   .rcases h 0 (by omega)with h|h
    .exact h
    .exact absurd rfl h.1
   .rcases h i hi with h|h
    .unfold zF9;simp[h]
    .exact h.2
  .rintro⟨h0,h⟩ i hi
   by_cases hz:i=0
   .subst hz;exact .inl h0
   .exact .inr ⟨hz,h i hi⟩
 rw[hall];cases hr:zK5 s
 .cases hL:zS6 (chI s 0)
  .rfl
  .simp only[cO,eU,bT,cB,zbO1 s a2,dC,cK];cases(List.range s.size).all (λ i=>zF9 (chI s i))<;>rfl
 .simp
def resV(r:aH):Bool:=zE5 r.name&&(zg4 r&&(decide (0<=r.home)&&decide (r.home<4)))
theorem zbn5(r:aH):ze7 r=some (resV r):=by unfold ze7 resV;rw[zaN1];simp only[Option.bind_some,gV]
theorem zbC1(r:aH):zi5 r=some (resV r):=by unfold zi5 resV;rw[zaJ3,zbc1];simp only[Option.bind_some,gV]
def getH(l:List bA)(p:aL):aC:=match l.find? λ h=>decide (h.aK=p)with
 |some h=>h.aM
 |none=>aC.zero
theorem zbX8(l:List bA)(p:aL):∀k i,i+k=l.length->((zR0 (λ i=>if(l.getD i bA.zero).aK=p then some (Sum.inr (α:=Unit) (l.getD i bA.zero).aM)else none) k i).getD (Sum.inl ()))=match(l.drop i).find? λ h=>decide (h.aK=p)with
  |some h=>Sum.inr h.aM
  |none=>Sum.inl ()
 |0,i,h=>by rw[gJ (by omega)];rfl
 |k+1,i,h=>by
  rw[zaH3 l i bA.zero (by omega)];simp only[zR0,List.find?_cons]
  by_cases hp:(l.getD i bA.zero).aK=p
  .simp only[hp,cC,cA,Option.getD_some]
  .simp only[hp,cB,cJ];exact zbX8 l p k (i+1) (by omega)
theorem zbn6(l:List bA)(p:aL)(hl:l.length<4611686018427387904):zk3 l p=some (getH l p):=by
 unfold zk3;have key:zc2 (zP2 l p) 0=some ((zR0 (λ i=>if(l.getD i bA.zero).aK=p then some (Sum.inr (α:=Unit) (l.getD i bA.zero).aM)else none) l.length 0).getD (Sum.inl ())):=by
  refine zN5 l.length _ (Sum.inl ()) (λ i hi=>?_) ?_
  .unfold zP2;rw[bX (by simpa using hi),zh3 (by omega),zj1 (by omega) (by omega)];simp only[Int.toNat_natCast,bY];split<;>rfl
  .unfold zP2;rw[bV (by simp)]
 rw[key,zbX8 l p l.length 0 (by omega),gW];unfold getH;cases l.find? λ h=>decide (h.aK=p)<;>rfl
theorem zbf5(l:List bA)(p:aL)(hl:l.length<4611686018427387904):zo2 l p=some (getH l p):=by
 rw[<-zbn6 l p hl];unfold zo2 zk3;have e:zaB7 l p=zP2 l p:=funext λ i=>by
  unfold zaB7 zP2
  by_cases h:0<=i/\i<(l.length:Int)
  .simp only[zh3 h]
  .by_cases hi:i<(l.length:Int)
   .rw[bX (cG hi),bX (cG hi),gdn h,gdn h]
   .rw[bV (by simpa using hi),bV (by simpa using hi)]
 rw[e];rfl
theorem zaJ4(a:aC):zn2 a=zk8 a:=rfl
abbrev covM(a b:Int):Bool:=zH9 a b
theorem zaL8(a b:Int):covM a b=true↔(1<=a/\a<=5/\1<=b/\b<=5)/\(a=b\/a=5\/b=1\/a=4/\b≠5):=by
 unfold covM zH9 zB9
 by_cases h:1<=a/\a<=5/\1<=b/\b<=5
 .rw[bV (by simp;omega)];simp;omega
 .rw[bX (by simp;omega)];simp;omega
theorem zaD8(a b:Int):zm3 a b=some (covM a b):=by
 unfold zm3 zw5;rw[zh3 (by simp;omega)];congr 1;rw[dW,zaL8]
 by_cases h:1<=a/\a<=5/\1<=b/\b<=5
 .obtain⟨h1,h2,h3,h4⟩:=h;have ha:a=1\/a=2\/a=3\/a=4\/a=5:=by omega
  have hb:b=1\/b=2\/b=3\/b=4\/b=5:=by omega
  rcases ha with rfl|rfl|rfl|rfl|rfl<;>rcases hb with rfl|rfl|rfl|rfl|rfl<;>decide
 .constructor
  .intro hh;simp only[bU,bY]at hh;omega
  .rintro⟨hh,_⟩;exact absurd hh h
def covA(r:aH)(a b:aC):Bool:=zu4 r a b
theorem zaH8(r:aH)(a b:aC):zp5 r a b=some (covA r a b):=by unfold zp5 covA zu4;simp only[zbq7,zaJ4,zaD8,Option.bind_some];cases zc9 r a<;>cases zc9 r b<;>simp;cases ha:zk8 a<;>cases hb:zk8 b<;>simp;split<;>rfl
theorem zal3(q:aB)(p:aL)(hl:q.aP.length<4611686018427387904):zn4 q p=some (getH q.aP p):=by unfold zn4;rw[zbn6 _ _ hl];rfl
theorem zI3(q:aB)(p:aL)(hl:q.aP.length<4611686018427387904):zj8 q p=some (getH q.aP p):=by unfold zj8;rw[zbf5 _ _ hl];rfl
theorem hb(b:Bool):b=true\/b=false:=by cases b<;>simp
def cvI(q:aB)(i:Nat):Bool:=
 let w:=q.aN.getD i aU.zero
 let h:=getH q.aP w.aK
 decide (zW9 q.aN w.aK=(i:Int))&&(!zk8 h&&(za2 q.aA w.aM&&(covA q.aA w.aM h&&(!decide (w.aM=h)&&(decide (w.aZ=0)&&decide (w.bR=0))))))
def cvOk(q:aB):Bool:=decide (q.aN.length<=8)&&(List.range q.aN.length).all (cvI q)
def wtI(q:aB)(i:Nat):Bool:=
 let w:=q.aT.getD i aU.zero
 za2 q.aA w.aM&&zk8 (getH q.aP w.aK)
def wtOk(q:aB):Bool:=zZ3 q.aT&&(decide (q.aP.length+q.aT.length<=8)&&(List.range q.aT.length).all (wtI q))
theorem zcg4(q:aB)(hl:q.aP.length<4611686018427387904)(hc:q.aN.length<=8):zc2 (zD6 q) 0=some (if(List.range q.aN.length).all (cvI q)=true then .inl ()else .inr false):=by
 have key:zc2 (zD6 q) 0=some ((zR0 (λ i=>if cvI q i=true then none else some (Sum.inr false)) q.aN.length 0).getD (Sum.inl ())):=by
  refine zN5 q.aN.length _ (Sum.inl ()) (λ i hi=>?_) ?_
  .unfold zD6;rw[bX (by simpa using hi),zh3 (by omega),zj1 (by omega) (by omega),Int.toNat_natCast];unfold cvI;generalize q.aN.getD i aU.zero=w;rw[zal3 q _ hl,Option.bind_some,zaO8 _ _ (show q.aN.length<4611686018427387904 by omega),Option.bind_some];simp only[zaH8];rcases hb (decide (zW9 q.aN w.aK=(i:Int)))with c1|c1<;>rcases hb (zk8 (getH q.aP w.aK))with c2|c2<;>rcases hb (za2 q.aA w.aM)with c3|c3<;>rcases hb (covA q.aA w.aM (getH q.aP w.aK))with c4|c4<;>
    rcases hb (decide (w.aM=getH q.aP w.aK))with c5|c5<;>rcases hb (decide (w.aZ=0))with c6|c6<;>rcases hb (decide (w.bR=0))with c7|c7<;>
    simp only[c1,c2,c3,c4,c5,c6,c7,cO,dC,jT,fZ,jH,dM,fM,cK,iM,eN,cC,cB,bT,Option.bind_some,eU,gF]
  .unfold zD6;rw[bV (by simp)]
 rw[key,zZ2,<-fE];cases(List.range q.aN.length).all (cvI q)<;>rfl
theorem zbf6(q:aB)(hl:q.aP.length<4611686018427387904):zo4 q=some (cvOk q):=by
 unfold zo4 cvOk
 by_cases h:8<q.aN.length
 .have:¬q.aN.length<=8:=by omega
  rw[bX (by simp;omega)];simp[this]
 .have h8:q.aN.length<=8:=by omega
  rw[bV (by simp;omega),zcg4 q hl h8];simp only[h8,cA,cK];cases(List.range q.aN.length).all (cvI q)<;>rfl
theorem zbX9(q:aB)(hl:q.aP.length<4611686018427387904)(hc:q.aT.length<=8):zc2 (zE2 q) 0=some (if(List.range q.aT.length).all (wtI q)=true then .inl ()else .inr false):=by
 have key:zc2 (zE2 q) 0=some ((zR0 (λ i=>if wtI q i=true then none else some (Sum.inr false)) q.aT.length 0).getD (Sum.inl ())):=by
  refine zN5 q.aT.length _ (Sum.inl ()) (λ i hi=>?_) ?_
  .unfold zE2;rw[bX (by simpa using hi),zh3 (by omega),zj1 (by omega) (by omega),Int.toNat_natCast];unfold wtI;generalize q.aT.getD i aU.zero=w;rw[zal3 q _ hl];rcases hb (zk8 (getH q.aP w.aK))with c2|c2<;>rcases hb (za2 q.aA w.aM)with c3|c3<;>simp only[c2,c3,cO,dC,jT,fZ,jH,dM,fM,cK,iM,eN,cC,cB,bT,Option.bind_some,eU,gF]
  .unfold zE2;rw[bV (by simp)]
 rw[key,zZ2,<-fE];cases(List.range q.aT.length).all (wtI q)<;>rfl
theorem zbs5(q:aB)(hl:q.aP.length<=1000000):zr2 q=some (wtOk q):=by
 unfold zr2 wtOk;rw[zbu0,Option.bind_some];cases hv:zZ3 q.aT
 .simp
 .have h8:=zbx5 hv;rw[zj1 (by omega) (by omega)]
  by_cases h:8<q.aP.length+q.aT.length
  .have:¬q.aP.length+q.aT.length<=8:=by omega
   rw[bX (by simp;omega)];simp[this]
  .have h9:q.aP.length+q.aT.length<=8:=by omega
   rw[bV (by simp;omega),zbX9 q (by omega) h8];simp only[h9,cA,cK];cases(List.range q.aT.length).all (wtI q)<;>rfl
def zaY8(q:aB):Bool:=resV q.aA&&(zL5 q.aA q.aP&&(cvOk q&&(wtOk q&&(decide (0<=q.gen)&&decide (q.gen<=1073741824)))))
theorem zbY0(q:aB):zF3 q=some (zaY8 q):=by
 unfold zF3 zaY8;rw[zbn5,Option.bind_some];cases resV q.aA
 .simp
 .simp only[cC,zaH7,Option.bind_some,cK];cases hv:zL5 q.aA q.aP
  .simp
  .have hl:=zap4 hv;simp only[cC,zbf6 q (by omega),Option.bind_some,cK];cases cvOk q
   .simp
   .simp only[cC,zbs5 q (by omega),Option.bind_some,cK,gV]
theorem zbY1(q:aB)(hl:q.aP.length<=1000000)(hc:q.aT.length<=8):zc2 (zas2 q) 0=some (if(List.range q.aT.length).all (wtI q)=true then .inl ()else .inr false):=by
 rw[<-zbX9 q (by omega) hc];congr 1;funext i;unfold zas2 zE2
 by_cases h:0<=i/\i<(q.aT.length:Int)
 .rw[bX (cG h.2),bX (cG h.2),zh3 h,zh3 h,zh3 (λ _=>h)];simp only[zaJ2,zaJ4,zbf5 _ _ (show q.aP.length<4611686018427387904 by omega),zal3 q _ (show q.aP.length<4611686018427387904 by omega)]
 .by_cases hi:i<(q.aT.length:Int)
  .rw[bX (cG hi),bX (cG hi),gdn h,gdn h]
  .rw[bV (by simpa using hi),bV (by simpa using hi)]
theorem zbC2(q:aB)(hl:q.aP.length<=1000000)(hc:q.aN.length<=8):zc2 (zX6 q) 0=some (if(List.range q.aN.length).all (cvI q)=true then .inl ()else .inr false):=by
 have key:zc2 (zX6 q) 0=some ((zR0 (λ i=>if cvI q i=true then none else some (Sum.inr false)) q.aN.length 0).getD (Sum.inl ())):=by
  refine zN5 q.aN.length _ (Sum.inl ()) (λ i hi=>?_) ?_
  .unfold zX6;rw[bX (by simpa using hi),zh3 (by omega),zj1 (by omega) (by omega),Int.toNat_natCast];unfold cvI covA;generalize q.aN.getD i aU.zero=w;rw[zbf5 _ _ (show q.aP.length<4611686018427387904 by omega),Option.bind_some,zav5 _ _ (show q.aN.length<4611686018427387904 by omega)];simp only[zaJ4,zaJ2];rcases hb (decide (zW9 q.aN w.aK=(i:Int)))with c1|c1<;>rcases hb (zk8 (getH q.aP w.aK))with c2|c2<;>rcases hb (za2 q.aA w.aM)with c3|c3<;>rcases hb (zu4 q.aA w.aM (getH q.aP w.aK))with c4|c4<;>
    rcases hb (decide (w.aM=getH q.aP w.aK))with c5|c5<;>rcases hb (decide (w.aZ=0))with c6|c6<;>rcases hb (decide (w.bR=0))with c7|c7<;>
    simp only[c1,c2,c3,c4,c5,c6,c7,cO,dC,jT,fZ,jH,dM,fM,cK,iM,eN,cC,cB,bT,Option.bind_some,eU,gF]
  .unfold zX6;rw[bV (by simp)]
 rw[key,zZ2,<-fE];cases(List.range q.aN.length).all (cvI q)<;>rfl
theorem zaS7(q:aB):zA1 q=some (zaY8 q):=by
 unfold zA1 zaY8 cvOk wtOk;rw[zbC1,Option.bind_some];cases resV q.aA
 .simp
 .simp only[cC,zaS6,Option.bind_some,cK];cases hv:zL5 q.aA q.aP
  .simp
  .have hl:=zap4 hv
   by_cases hc:8<q.aN.length
   .have h1:¬q.aN.length<=8:=by omega
    have h2:decide (8<(q.aN.length:Int))=true:=by simp;omega
    simp[h1,h2]
   .have h1:q.aN.length<=8:=by omega
    have h2:decide (8<(q.aN.length:Int))=false:=by simp;omega
    simp only[h1,h2,cO,eU,dC,cC,zbn4,Option.bind_some,dM,cA,cK];cases hw:zZ3 q.aT
    .simp
    .have h8:=zbx5 hw;simp only[cO,dM,cK];rw[zj1 (by omega) (by omega)]
     by_cases h:q.aP.length+q.aT.length<=8
     .by_cases g1:0<=q.gen
      .by_cases g2:q.gen<=1073741824
       .rw[bV (by simp;omega),zbC2 q (by omega) h1];simp only[h,g1,g2,cA,cK,fM];cases(List.range q.aN.length).all (cvI q)
        .rfl
        .simp only[cC,Option.bind_some,cK];unfold zas3;rw[zbY1 q (by omega) h8];cases(List.range q.aT.length).all (wtI q)<;>rfl
       .rw[bX (by simp;omega)];simp[g2]
      .rw[bX (by simp;omega)];simp[g1]
     .rw[bX (by simp;omega)];simp[h]
def zO3(q:aB):aU×Bool:=match q.aN++q.aT with
 |w::_=>(w,true)
 |[]=>(aU.zero,false)
theorem zbu1(q:aB):zn8 q=some (zO3 q):=by
 unfold zn8 zO3;cases q.aN with
 |cons a l=>rw[bX (by simp),zh3 (by simp)];rfl
 |nil=>
  rw[bV (by simp)];cases q.aT with
  |cons a l=>rw[bX (by simp),zh3 (by simp)];rfl
  |nil=>rw[bV (by simp)];rfl
theorem zbu2(q:aB):zn3 q=some (zO3 q):=by rw[<-zbu1];rfl
def zj6(q:aB):Bool:=zaY8 q&&!((zO3 q).2&&zaO3 q.aA q.aP (zO3 q).1.aK (zO3 q).1.aM)
theorem zbG8(q:aB):zU6 q=some (zj6 q):=by
 unfold zU6 zj6;rw[zbY0,Option.bind_some];cases zaY8 q
 .simp
 .rw[bV (by simp),zbu1,Option.bind_some];cases(zO3 q).2<;>simp[zdE5]
theorem zbc3(q:aB):zI8 q=some (zj6 q):=by
 unfold zI8 zj6;rw[zaS7,Option.bind_some];cases zaY8 q
 .simp
 .rw[bV (by simp),zbu2,Option.bind_some];cases(zO3 q).2<;>simp[zcB8]
theorem zbn7(q:aB):zW7 q=some (zj6 q):=by unfold zW7;rw[zbG8];rfl
theorem zap7(q:aB):zI0 q=some (zj6 q):=by
 unfold zI0;rw[zaS7,Option.bind_some];cases h:zaY8 q
 .simp[zj6,h]
 .simp[zbc3]
instance:DecidableEq aB:=λ a b=>decidable_of_iff (a.aA=b.aA/\a.aP=b.aP/\a.aN=b.aN/\a.aT=b.aT/\a.gen=b.gen) (by rw[aB.ext_iff])
theorem zcM5(a b:List aU)(ha:a.length<=1000000)(hb:b.length<=1000000):zb7 [a,b]=some (a++b):=by
 unfold zb7;have s0:zq1 [a,b] (0,0)=some (.inl ((a.length:Int),1)):=by unfold zq1;rw[bX (by simp),zh3 (by simp)];show(if decide (IntKind.i64.wrap (0+(a.length:Int))<0)=true then none else some (Sum.inl (IntKind.i64.wrap (0+(a.length:Int)),_)))=_;rw[zj1 (by omega) (by omega),bV (by simp),Int.zero_add];rfl
 have s1:zq1 [a,b] ((a.length:Int),1)=some (.inl ((a.length:Int)+(b.length:Int),2)):=by unfold zq1;rw[bX (by simp),zh3 (by simp)];show(if decide (IntKind.i64.wrap ((a.length:Int)+(b.length:Int))<0)=true then none else some (Sum.inl (IntKind.i64.wrap ((a.length:Int)+(b.length:Int)),_)))=_;rw[zj1 (by omega) (by omega),bV (by simp;omega)];rfl
 have s2:zq1 [a,b] ((a.length:Int)+(b.length:Int),2)=some (.inr ((a.length:Int)+(b.length:Int))):=by unfold zq1;rw[bV (by simp)]
 rw[zq3,s0];simp only;rw[zq3,s1];simp only;rw[zq3,s2];simp only[Option.bind_some];unfold zB1 zb5;rw[zh3 (by omega),Option.bind_some];have t0:zq0 [a,b] (0,[])=some (.inl (1,a)):=by unfold zq0;rw[bX (by simp),zh3 (by simp),zh3 (by simp;omega)];rfl
 have t1:zq0 [a,b] (1,a)=some (.inl (2,a++b)):=by unfold zq0;rw[bX (by simp),zh3 (by simp),zh3 (by simp;omega)];rfl
 have t2:zq0 [a,b] (2,a++b)=some (.inr (a++b)):=by unfold zq0;rw[bV (by simp)]
 rw[zq3,t0];simp only;rw[zq3,t1];simp only;rw[zq3,t2];rfl
theorem zbn8(q:aB)(h1:q.aN.length<=1000000)(h2:q.aT.length<=1000000):zq8 q=some (q.aN++q.aT):=by unfold zq8;rw[zcM5 _ _ h1 h2];rfl
def zaz7(l:List aU)(p:aL):aC×Bool:=match l.find? λ w=>decide (w.aK=p)with
 |some w=>(w.aM,true)
 |none=>(aC.zero,false)
def zr8(q:aB)(p:aL):aC×Bool:=zaz7 (q.aN++q.aT) p
theorem zbL8(l:List aU)(p:aL):∀k i,i+k=l.length->((zR0 (λ i=>if(l.getD i aU.zero).aK=p then some (Sum.inr (α:=Unit) ((l.getD i aU.zero).aM,true))else none) k i).getD (Sum.inl ()))=match(l.drop i).find? λ w=>decide (w.aK=p)with
  |some w=>Sum.inr (w.aM,true)
  |none=>Sum.inl ()
 |0,i,h=>by rw[gJ (by omega)];rfl
 |k+1,i,h=>by
  rw[zaH3 l i aU.zero (by omega)];simp only[zR0,List.find?_cons]
  by_cases hp:(l.getD i aU.zero).aK=p
  .simp only[hp,cC,cA,Option.getD_some]
  .simp only[hp,cB,cJ];exact zbL8 l p k (i+1) (by omega)
theorem zaN2(q:aB)(p:aL)(h1:q.aN.length<=1000000)(h2:q.aT.length<=1000000):zq6 q p=some (zr8 q p):=by
 unfold zq6 zr8;rw[zbn8 q h1 h2,Option.bind_some];have hl:(q.aN++q.aT).length<=2000000:=by rw[cD];omega
 generalize q.aN++q.aT=l at*;have key:zc2 (zab7 p l) 0=some ((zR0 (λ i=>if(l.getD i aU.zero).aK=p then some (Sum.inr (α:=Unit) ((l.getD i aU.zero).aM,true))else none) l.length 0).getD (Sum.inl ())):=by
  refine zN5 l.length _ (Sum.inl ()) (λ i hi=>?_) ?_
  .unfold zab7;rw[bX (by simpa using hi),zh3 (by omega),zj1 (by omega) (by omega)];simp only[Int.toNat_natCast,bY];split<;>rfl
  .unfold zab7;rw[bV (by simp)]
 rw[key,zbL8 l p l.length 0 (by omega),gW];unfold zaz7;cases l.find? λ w=>decide (w.aK=p)<;>rfl
def upM(a b g:Int):Bool:=covM g a&&covM g b
def supM(a b:Int):Int:=if upM a b 1=true then 1 else if upM a b 2=true then 2 else if upM a b 3=true then 3 else if upM a b 4=true then 4 else if upM a b 5=true then 5 else 0
theorem zcg5(a b g:Int)(h1:1<=g)(h2:g<=5):zal2 a b g=some (if upM a b g=true then .inr (.inr g)else .inl (g+1)):=by unfold zal2 upM;rw[bX (by simpa using h2),zaD8,Option.bind_some,zj1 (by omega) (by omega),zaD8];cases covM g a<;>cases covM g b<;>rfl
theorem zcr5(a b:Int):zal2 a b 6=some (.inr (.inl ())):=by unfold zal2;rw[bV (by decide)]
theorem zcC2{body:Int->Option (Int⊕(Unit⊕Int))}(a b:Int)(hs:∀g,1<=g->g<=5->body g=some (if upM a b g=true then .inr (.inr g)else .inl (g+1)))(he:body 6=some (.inr (.inl ()))):
  (zc2 body 1).bind (λ|.inl _=>some 0|.inr z=>some z)=some (supM a b):=by
 unfold supM;rw[zq3,hs 1 (by decide) (by decide)]
 by_cases c1:upM a b 1=true
 .simp[c1]
 simp only[c1,bT,cB];rw[show(1:Int)+1=2 from rfl,zq3,hs 2 (by decide) (by decide)]
 by_cases c2:upM a b 2=true
 .simp[c2]
 simp only[c2,bT,cB];rw[show(2:Int)+1=3 from rfl,zq3,hs 3 (by decide) (by decide)]
 by_cases c3:upM a b 3=true
 .simp[c3]
 simp only[c3,bT,cB];rw[show(3:Int)+1=4 from rfl,zq3,hs 4 (by decide) (by decide)]
 by_cases c4:upM a b 4=true
 .simp[c4]
 simp only[c4,bT,cB];rw[show(4:Int)+1=5 from rfl,zq3,hs 5 (by decide) (by decide)]
 by_cases c5:upM a b 5=true
 .simp[c5]
 simp only[c5,bT,cB];rw[show(5:Int)+1=6 from rfl,zq3,he];rfl
theorem zcC3(a b:Int):zx8 a b=some (supM a b):=zcC2 a b (zcg5 a b) (zcr5 a b)
theorem zcr6(a b:Int):zv1 a b=some (supM a b):=by
 refine zcC2 a b (λ g h1 h2=>?_) ?_
 .unfold zaD0;rw[bX (by simpa using h2),zj1 (by omega) (by omega)];rcases hb (covM g a)with c|c<;>rcases hb (covM g b)with d|d<;>simp[upM,c,d]
 .unfold zaD0;rw[bV (by decide)]
def zJ6(r:aH)(a b:aC):aC:=
 if(!zc9 r a||!zc9 r b)=true then aC.zero else
 if zk8 a=true then b else if zk8 b=true then a else
 if r.kind=1 then{aC.zero with mode:=supM a.mode b.mode}else{aC.zero with aS:=if a.aS<b.aS then b.aS else a.aS}
theorem zbY2(r:aH)(a b:aC):zu0 r a b=some (zJ6 r a b):=by
 unfold zu0 zJ6;simp only[zcC3,Option.bind_some];split
 .rfl
 split
 .rfl
 split
 .rfl
 by_cases h:r.kind=1
 .simp[h]
 .simp[h]
theorem zdt2:∀a∈[(1:Int),2,3,4,5],∀b∈[(1:Int),2,3,4,5],covM a b=true->supM a b=a:=by decide
theorem zdd6:∀a∈[(1:Int),2,3,4,5],∀b∈[(1:Int),2,3,4,5],covM b a=true->supM a b=b:=by decide
theorem zbu3(r:aH)(a b:aC):zy7 r a b=some (zJ6 r a b):=by
 unfold zy7 zJ6;simp only[zbq7,zcr6,Option.bind_some];cases ha:zc9 r a
 .simp
 cases hpb:zc9 r b
 .simp
 simp only[cO,eU,bT,cB];unfold zu4;simp only[zbq7,zaJ4,ha,hpb,cO,eU,bT,cB];rcases hb (zk8 a)with hza|hza<;>rcases hb (zk8 b)with hzb|hzb
 rotate_left 3
 .simp only[hza,hzb,bT,cB]
  by_cases hk:r.kind=1
  .have pa:=zaH6 ha hk;have pb:=zaH6 hpb hk;have na:a.mode≠0:=λ h=>by
    have:a=aC.zero:=by cases a;simp only at*;simp[aC.zero];omega
    rw[this]at hza;exact absurd hza (by decide)
   have nb:b.mode≠0:=λ h=>by
    have:b=aC.zero:=by cases b;simp only at*;simp[aC.zero];omega
    rw[this]at hzb;exact absurd hzb (by decide)
   have ma:a.mode∈[(1:Int),2,3,4,5]:=by simp;omega
   have mb:b.mode∈[(1:Int),2,3,4,5]:=by simp;omega
   have ea:a={aC.zero with mode:=a.mode}:=by cases a;simp only at*;simp[aC.zero];omega
   have eb:b={aC.zero with mode:=b.mode}:=by cases b;simp only at*;simp[aC.zero];omega
   simp only[hk,cA,cC]
   by_cases c1:covM a.mode b.mode=true
   .rw[bX c1,zdt2 _ ma _ mb c1];exact dG some ea
   .rw[bV c1]
    by_cases c2:covM b.mode a.mode=true
    .rw[bX c2,zdd6 _ ma _ mb c2];exact dG some eb
    .rw[bV c2]
  .have hk2:r.kind=2:=by
    have:=ha;rw[perm_iff,zK2,zF1]at this;omega
   have pa:=zbq8 ha hk2;have pb:=zbq8 hpb hk2;have ea:a={aC.zero with aS:=a.aS}:=by cases a;simp only at*;simp[aC.zero];omega
   have eb:b={aC.zero with aS:=b.aS}:=by cases b;simp only at*;simp[aC.zero];omega
   have d:decide (r.kind=1)=false:=by simpa using hk
   simp only[d,hk,bT,cB,bY]
   by_cases c1:b.aS<=a.aS
   .have:¬a.aS<b.aS:=by omega
    rw[bX c1,bV this];exact dG some ea
   .have:a.aS<b.aS:=by omega
    have c2:a.aS<=b.aS:=by omega
    rw[bV c1,bX c2,bX this];exact dG some eb
 .have e0:a=aC.zero:=by unfold zk8 at hza;simpa using hza
  have e1:b=aC.zero:=by unfold zk8 at hzb;simpa using hzb
  simp only[hza,hzb,cC];rw[e0,e1]
 .simp only[hza,hzb,cC,bT,cB]
 .simp only[hza,hzb,cC,bT,cB]
theorem zdE7(g:Int):zp8 g=zp8 g:=rfl
theorem zaJ5(q:aB)(h1:q.aP.length<=1000000)(h2:q.aN.length<=1000000)(h3:q.aT.length<=1000000):zl8 q=some q:=by unfold zl8;rw[zh3 (by omega),zh3 (by omega),zh3 (by omega)]
theorem zbO2(q:aB)(h1:q.aP.length<=1000000)(h2:q.aN.length<=1000000)(h3:q.aT.length<=1000000):zj9 q=some q:=by unfold zj9;rw[zh3 (by omega),zh3 (by omega),zh3 (by omega)]
def popQ(q:aB):aB:=
 if 0<q.aN.length then{q with aP:=setL q.aP (zO3 q).1.aK (zO3 q).1.aM,aN:=q.aN.drop 1}
 else{q with aP:=setL q.aP (zO3 q).1.aK (zO3 q).1.aM,aT:=q.aT.drop 1}
def canQ(q:aB):Bool:=(zO3 q).2&&zaO3 q.aA q.aP (zO3 q).1.aK (zO3 q).1.aM
def zbC3(s:aB×List bA):aB×List bA:=(popQ s.1,s.2++[⟨(zO3 s.1).1.aK,(zO3 s.1).1.aM⟩])
def advN:Nat->aB×List bA->aB×List bA
 |0,s=>s
 |n+1,s=>if canQ s.1=true then advN n (zbC3 s)else s
def zah9(q:aB):Nat:=q.aN.length+q.aT.length
def advQ(q:aB):aB×List bA:=advN (zah9 q) (q,[])
theorem zaP9{q:aB}(h:canQ q=true):0<zah9 q/\zah9 (popQ q)+1=zah9 q/\q.aP.length<=8:=by
 unfold canQ at h;simp only[bU]at h;obtain⟨h1,h2⟩:=h;have hv:zL5 q.aA q.aP=true:=by unfold zaO3 zan3 at h2;simp only[bU]at h2;exact h2.1.1
 refine⟨?_,?_,zap4 hv⟩
 .unfold zO3 at h1;unfold zah9;cases hc:q.aN with
  |cons a l=>simp;omega
  |nil=>
   cases hw:q.aT with
   |cons a l=>simp
   |nil=>simp[hc,hw]at h1
 .unfold zO3 at h1;unfold zah9 popQ;cases hc:q.aN with
  |cons a l=>simp;omega
  |nil=>
   cases hw:q.aT with
   |cons a l=>simp
   |nil=>simp[hc,hw]at h1
theorem zbG9(s:aB×List bA):advN (zah9 s.1) s=if canQ s.1=true then advN (zah9 (zbC3 s).1) (zbC3 s)else s:=by
 cases hc:canQ s.1 with
 |false=>
  cases hn:zah9 s.1 with
  |zero=>rfl
  |succ n=>simp[advN,hc]
 |true=>obtain⟨h1,h2,_⟩:=zaP9 hc;have:zah9 s.1=zah9 (popQ s.1)+1:=h2.symm;rw[this];simp[advN,hc,zbC3]
theorem zbx6(p:aL):∀(l:List aU) (i:Nat),match zap5 p l i with
  |some j=>i<=j/\(l.find? λ w=>decide (w.aK=p))=some (l.getD (j-i) aU.zero)
  |none=>(l.find? λ w=>decide (w.aK=p))=none
 |[],i=>rfl
 |w::l,i=>by
  simp only[zap5,List.find?_cons]
  by_cases hp:w.aK=p
  .simp[hp]
  .have ih:=zbx6 p l (i+1);simp only[hp,cB,cJ];cases hf:zap5 p l (i+1)with
   |none=>rw[hf]at ih;exact ih
   |some j=>rw[hf]at ih;obtain⟨h1,h2⟩:=ih;refine⟨by omega,?_⟩;rw[h2,show j-i=(j-(i+1))+1 by omega,gN]
theorem zbY3(l:List aU)(p:aL):zaz7 l p=if 0<=zW9 l p then((l.getD (zW9 l p).toNat aU.zero).aM,true)else(aC.zero,false):=by
 have h:=zbx6 p l 0;unfold zaz7 zW9;cases hf:zap5 p l 0 with
 |none=>rw[hf]at h;simp only at h;rw[h];rfl
 |some j=>rw[hf]at h;obtain⟨_,h2⟩:=h;rw[h2,bX (by simp only;omega)];simp
theorem zcr7(l m:List aU)(p:aL):zaz7 (l++m) p=if 0<=zW9 l p then zaz7 l p else zaz7 m p:=by
 have h:=zbx6 p l 0;unfold zaz7 zW9;rw[List.find?_append];cases hf:zap5 p l 0 with
 |none=>rw[hf]at h;simp only at h;rw[h,bV (by decide)];rfl
 |some j=>rw[hf]at h;obtain⟨_,h2⟩:=h;rw[h2,bX (by simp only;omega)];rfl
theorem zU7(q:aB)(p:aL)(h1:q.aN.length<=1000000)(h2:q.aT.length<=1000000):zi7 q p=some (zr8 q p):=by
 unfold zi7 zr8;rw[zav5 _ _ (by omega),Option.bind_some,zcr7,zbY3 q.aN,zbY3 q.aT];have b1:=zcC0 q.aN p;have b2:=zcC0 q.aT p
 by_cases c1:0<=zW9 q.aN p
 .rw[bX (cG c1),zh3 (by omega),bX c1,bX c1]
 .rw[bV (by simpa using c1),bV c1,zav5 _ _ (by omega),Option.bind_some]
  by_cases c2:0<=zW9 q.aT p
  .rw[bX (cG c2),zh3 (by omega),bX c2]
  .rw[bV (by simpa using c2),bV c2]
def optI(o:Option Nat):Int:=match o with
 |some i=>(i:Int)
 |none=>-1
theorem zdd7(l:List aU)(p:aL):zW9 l p=optI (zap5 p l 0):=rfl
theorem zdt3(o:Option Nat):optI (o.map (·+1))=if 0<=optI o then optI o+1 else-1:=by
 cases o with
 |none=>rfl
 |some n=>have h:(0:Int)<=optI (some n):=Int.natCast_nonneg n;rw[bX h];exact Int.natCast_succ n
theorem zbx7{l:List aU}:(∀i,i<l.length->zW9 l (l.getD i aU.zero).aK=i)↔(l.map (·.aK)).Nodup:=by
 induction l with
 |nil=>simp
 |cons w l ih=>
  rw[dF,fL];have shift:∀p i,zap5 p l (i+1)=(zap5 p l i).map (·+1):=by
   intro p
   clear ih
   induction l with
   |nil=>intro i;rfl
   |cons x l ih=>intro i;simp only[zap5];split<;>simp[ih]
  have hcons:∀i,zW9 (w::l) (l.getD i aU.zero).aK=if w.aK=(l.getD i aU.zero).aK then 0 else if 0<=zW9 l (l.getD i aU.zero).aK then zW9 l (l.getD i aU.zero).aK+1 else-1:=λ i=>by
   simp only[zdd7,zap5,shift]
   by_cases h:w.aK=(l.getD i aU.zero).aK
   .simp[h,optI]
   .simp only[h,cB];exact zdt3 _
  constructor
  .intro h;have h1:∀i,i<l.length->w.aK≠(l.getD i aU.zero).aK/\zW9 l (l.getD i aU.zero).aK=i:=λ i hi=>by
    have:=h (i+1) (by simpa using hi);rw[gN,hcons]at this;split at this
    .omega
    .rename_i hne;split at this
     .exact⟨hne,by omega⟩
     .omega
   refine⟨λ hm=>?_,ih.1 λ i hi=>(h1 i hi).2⟩;obtain⟨x,hx,he⟩:=cI.1 hm;obtain⟨i,hi,rfl⟩:=eY.1 hx;have:=(h1 i hi).1;rw[bW,bZ hi]at this;exact this he.symm
  .rintro⟨h1,h2⟩ i hi;have h3:=ih.2 h2;cases i with
   |zero=>simp[zW9,zap5]
   |succ i=>
    have hi':i<l.length:=by simpa using hi
    have hne:w.aK≠(l.getD i aU.zero).aK:=λ e=>h1 (cI.2 ⟨l.getD i aU.zero,by
     rw[bW,bZ hi'];exact iN hi',e.symm⟩)
    rw[gN,hcons,bV hne,h3 i hi',bX (by omega)];omega
theorem zay0(l:List aU):zZ3 l=true↔l.length<=8/\(∀w∈l,zm9 w=true)/\(l.map (·.aK)).Nodup:=by
 unfold zZ3;simp only[bU,bY,fH,eX];constructor
 .rintro⟨h1,h2⟩;refine⟨h1,λ w hw=>?_,zbx7.1 λ i hi=>(h2 i hi).2⟩;obtain⟨i,hi,rfl⟩:=eY.1 hw;have:=(h2 i hi).1;rwa [bW,bZ hi]at this
 .rintro⟨h1,h2,h3⟩;refine⟨h1,λ i hi=>⟨h2 _ ?_,zbx7.2 h3 i hi⟩⟩;rw[bW,bZ hi];exact iN hi
theorem zcl0{l:List aU}(p:aL)(h:zZ3 l=true):zZ3 (rmL l p)=true:=by rw[zay0]at h⊢;refine⟨eC (zdE6 l p) h.1,λ w hw=>h.2.1 w ((hI.1 hw).1),?_⟩;exact(h.2.2).sublist ((iK).map _)
theorem zbL9(l:List aU)(w:aU):∀k i,zap6 l w k<=i->i<k->over w (l.getD i aU.zero)=true
 |k+1,i,h1,h2=>by
  unfold zap6 at h1;split at h1
  .rename_i ho
   by_cases hi:i=k
   .subst hi;exact ho
   .exact zbL9 l w k i h1 (by omega)
  .omega
theorem zdd8{l:List aU}{w e:aU}(h:e∈l.drop (zap6 l w l.length)):over w e=true:=by obtain⟨i,hi,rfl⟩:=eY.1 h;have:=zbL9 l w l.length (zap6 l w l.length+i) (by omega) (by simp at hi;omega);rw[List.getElem_drop];rwa [bW,bZ (by simp at hi;omega)]at this
theorem zbY4{w e:aU}(h:zm9 e=true)(ho:over w e=true):zm9 (bump e)=true/\(bump e).bR=e.bR+1:=by
 have h1:=zbG7 h;have h2:e.bR<3:=by unfold over at ho;simp at ho;exact ho.2
 have h3:(bump e).bR=e.bR+1:=by unfold bump;simp only;rw[zj1 (by omega) (by omega)]
 refine⟨?_,h3⟩;unfold zm9 at h⊢;simp only[bU,bY]at h⊢;rw[h3];exact⟨⟨h.1.1,by omega⟩,by omega⟩
theorem zcr8(l:List aU)(w:aU)(n:Nat):(zbc2 l w n).map (·.aK)=(l.take n).map (·.aK)++w.aK::(l.drop n).map (·.aK):=by unfold zbc2;rw[fA,dF,lC];rfl
theorem zcM6{l:List aU}{w:aU}(h:zZ3 l=true)(hw:zm9 w=true)(hne:∀e∈l,e.aK≠w.aK)(hl:l.length<8):zZ3 (zbc2 l w (zap6 l w l.length))=true:=by
 rw[zay0]at h⊢;have hn:=zbq9 l w l.length;have ho:=λ e=>zdd8 (l:=l) (w:=w) (e:=e);generalize zap6 l w l.length=n at hn ho;refine⟨by simp[zbc2];omega,λ e he=>?_,?_⟩
 .simp only[zbc2,cR,cF,cI]at he;rcases he with he|rfl|⟨x,hx,rfl⟩
  .exact h.2.1 e (fV he)
  .exact hw
  .exact(zbY4 (h.2.1 x (gX hx)) (ho x hx)).1
 .rw[zcr8];have h3:=h.2.2;rw[<-eH n l,fA]at h3;have hin:w.aK∉(l.take n).map (·.aK)++(l.drop n).map (·.aK):=by
   rw[<-fA,eH];intro hm;obtain⟨x,hx,he⟩:=cI.1 hm;exact hne x hx he
  exact(kW.nodup_iff).2 (fL.2 ⟨hin,h3⟩)
end Ab
end Go.Proofs.YtenebhlnfjcffaaGreatDoor
