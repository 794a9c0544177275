import Derived.Test.YtfmnjkfhahfhgaaGreatDoorAuto
import Derived.Test.YtfmnjkfhahfhgaaGreatDoorHm29
namespace Go.Proofs.YtfmnjkfhahfhgaaGreatDoor
namespace Ab
set_option linter.defProp false
set_option linter.unusedSimpArgs false
set_option linter.unusedVariables false
def mB{x:Int}(H:-9223372036854775808<=x)(O:x<9223372036854775808):IntKind.i64.wrap x=x:=by rw[IntKind.wrap_i64];omega
def Tr{G X:Type}{body:G->Option (G⊕X)}(I:G->Prop)(μ:G->Nat)(H:G->X)
  (h:∀g,I g->(∃O,body g=some (.inl O)/\I O/\μ O<μ g/\H O=H g)\/body g=some (.inr (H g))):∀g,I g->lS body g=some (H g):=by
 have U:∀n g,μ g=n->I g->lS body g=some (H g):=by
  intro n;induction n using Nat.strongRecOn with
  |_ n Y=>
   intro g B hg;rw[mF];rcases h g hg with⟨O,h1,F,M,K⟩|h1
   .rw[h1];simp only;rw[Y (μ O) (B▸M) O rfl F,K]
   .rw[h1]
 exactλ g hg=>U _ g rfl hg
def pP{X:Type}(H:Nat->Option X):Nat->Nat->Option X
 |0,_=>none
 |n+1,i=>match H i with
  |some x=>some x
  |none=>pP H n (i+1)
def sQ{X:Type}{body:Int->Option (Int⊕X)}(n:Nat)(H:Nat->Option X)(O:X)
  (h:∀i:Nat,i<n->body i=some (match H i with|some x=>.inr x|none=>.inl ((i:Int)+1))) (U:body n=some (.inr O)):lS body 0=some ((pP H n 0).getD O):=by
 have Y:∀k i,i+k=n->lS body (i:Int)=some ((pP H k i).getD O):=by
  intro k;induction k with
  |zero=>intro i K;rw[mF,show i=n by omega,U];rfl
  |succ k B=>
   intro i K;rw[mF,h i om];simp only[pP];cases L:H i with
   |some x=>rfl
   |none=>simp only;have:=B (i+1) om;rw[show((i+1:Nat):Int)=(i:Int)+1 by omega]at this;exact this
 exact Y n 0 om
def uN{S X:Type}(H:Nat->S->S⊕X)(O:S->X):Nat->Nat->S->X
 |0,_,s=>O s
 |n+1,i,s=>match H i s with
  | .inl U=>uN H O n (i+1) U
  | .inr x=>x
def bVd{S X:Type}{body:Int×S->Option ((Int×S)⊕X)}(n:Nat)(H:Nat->S->S⊕X)(U:S->X)(O:Nat->S->Prop)
  (h:∀i s,i<n->O i s->body ((i:Int),s)=some (match H i s with|.inl Y=>.inl ((i:Int)+1,Y)|.inr x=>.inr x)/\∀Y,H i s=.inl Y->O (i+1) Y)
  (B:∀s,O n s->body ((n:Int),s)=some (.inr (U s))) (s0:S) (K:O 0 s0):lS body (0,s0)=some (uN H U n 0 s0):=by
 have F:∀k i s,i+k=n->O i s->lS body ((i:Int),s)=some (uN H U k i s):=by
  intro k;induction k with
  |zero=>intro i s L M;rw[mF,show i=n by omega,B s (by rw[<-show i=n by omega];exact M)];rfl
  |succ k ih=>
   intro i s L M;obtain⟨V,Z⟩:=h i s om M;rw[mF,V];simp only[uN];cases ho:H i s with
   |inr x=>rfl
   |inl Y=>simp only;have:=ih (i+1) Y om (Z Y ho);rw[show((i+1:Nat):Int)=(i:Int)+1 by omega]at this;exact this
 exact F n 0 s0 om K
def nM{G X:Type}{body:G->Option (G⊕X)}(I:G->Prop)(μ:G->Nat)(Post:X->Prop)
  (h:∀g,I g->(∃H,body g=some (.inl H)/\I H/\μ H<μ g)\/∃x,body g=some (.inr x)/\Post x):∀g,I g->∃x,lS body g=some x/\Post x:=by
 have O:∀n g,μ g=n->I g->∃x,lS body g=some x/\Post x:=by
  intro n;induction n using Nat.strongRecOn with
  |_ n B=>
   intro g F hg;rw[mF];rcases h g hg with⟨H,U,Y,M⟩|⟨x,U,Y⟩
   .rw[U];exact B (μ H) (F▸M) H rfl Y
   .rw[U];exact⟨x,rfl,Y⟩
 exactλ g hg=>O _ g rfl hg
def bVe{S X:Type}{body:Int×S->Option ((Int×S)⊕X)}(n:Nat)(H:Nat->S->S⊕X)(Y:S->X)(O:Nat->S->Prop)
  (h:∀i s,i<n->O i s->body ((i:Int),s)=some (match H i s with|.inl U=>.inl ((i:Int)+1,U)|.inr x=>.inr x)/\∀U,H i s=.inl U->O (i+1) U)
  (B:∀s,O n s->body ((n:Int),s)=some (.inr (Y s))):∀k i s,i+k=n->O i s->lS body ((i:Int),s)=some (uN H Y k i s):=by
 intro k;induction k with
 |zero=>intro i s K F;rw[mF,show i=n by omega,B s (by rw[<-show i=n by omega];exact F)];rfl
 |succ k M=>
  intro i s K F;obtain⟨L,V⟩:=h i s om F;rw[mF,L];simp only[uN];cases Z:H i s with
  |inr x=>rfl
  |inl U=>simp only;have:=M (i+1) U om (V U Z);rw[show((i+1:Nat):Int)=(i:Int)+1 by omega]at this;exact this
def tQ(p:Nat->Bool){U:Type}:∀k i,pP (λ i=>if p i=true then none else some (Sum.inr (α:=U) false)) k i=if(List.range' i k).all p=true then none else some (.inr false)
 |0,i=>rfl
 |k+1,i=>by
  simp only[pP,gV,List.all_cons];cases H:p i with
  |true=>simp only[cG,cL];exact tQ p k (i+1)
  |false=>simp
def Ts{α:Type}[DecidableEq α](a b:List α)(z:α)(h:a.length=b.length):((List.range a.length).all λ i=>decide (a.getD i z=b.getD i z))=decide (a=b):=by
 rw[dM];simp only[dT,eD,cD];constructor
 .intro O;refine kN h λ i H U=>?_;have:=O i H;rwa [cB,cB,cE H,cE U]at this
 .rintro rfl i _;rfl
def Nb{α:Type}[DecidableEq α](a b:List α)(z:α){body:Int->Option (Int⊕(Unit⊕Bool))}(L:a.length<4611686018427387904)(h:a.length=b.length)
  (hb:∀i:Int,body i=if(decide (i<(a.length:Int)))=true then gd (0<=i/\i<(a.length:Int))<|gd (0<=i/\i<(b.length:Int))<|
   (if(!decide (a.getD i.toNat z=b.getD i.toNat z))=true then some (.inr (.inr false))else some (.inl (IntKind.i64.wrap (i+1))))else some (.inr (.inl ()))):
  (lS body 0).bind (λ|.inl _=>some true|.inr z=>some z)=some (decide (a=b)):=by
 have H:lS body 0=some ((pP (λ i=>if decide (a.getD i z=b.getD i z)=true then none else some (Sum.inr false)) a.length 0).getD (Sum.inl ())):=by
  refine sQ a.length _ (Sum.inl ()) (λ i O=>?_) ?_
  .rw[hb,cA (cP om),lV om,lV om];simp only[Qm]
   by_cases K:a.getD i z=b.getD i z
   .simp only[K,cF,cR,bY,cH,cG];rw[mB om om]
   .simp only[K,cO,dK,cG,bY,cH]
  .rw[hb,bZ (by simp)]
 rw[H,tQ,<-eP,Ts a b z h];cases decide (a=b)<;>rfl
def Tt{α:Type}(f:Nat->α):∀n i (s:List α),uN (X:=List α) (λ i s=>.inl (s++[f i])) (λ s=>s) n i s=s++(List.range' i n).map f
 |0,i,s=>by simp[uN]
 |n+1,i,s=>by simp[uN,Tt f n (i+1),gV]
def Tu{α:Type}(l:List α)(z:α)(p:α->Bool):∀n i (s:List α),i+n=l.length->uN (X:=List α) (λ i s=>.inl (if p (l.getD i z)=true then s++[l.getD i z]else s)) (λ s=>s) n i s=s++(l.drop i).filter p
 |0,i,s,h=>by simp[uN,gU (show l.length<=i by omega)]
 |n+1,i,s,h=>by
  have H:l.drop i=l.getD i z::l.drop (i+1):=by rw[gG (show i<l.length by omega),cB,cE (show i<l.length by omega)];rfl
  rw[H];simp only[uN,Tu l z p n (i+1) _ om,jP];split<;>simp
def s7{α:Type}(l:List α)(i:Nat)(z:α)(h:i<l.length):l.drop i=l.getD i z::l.drop (i+1):=by rw[gG h,cB,cE h];rfl
def Tv{α β:Type}(l:List α)(z:α)(f:α->β):∀n i,i+n<=l.length->(List.range' i n).map (λ i=>f (l.getD i z))=((l.drop i).take n).map f
 |0,i,h=>by simp
 |n+1,i,h=>by rw[s7 l i z om,lN,gV,dJ,dJ,Tv l z f n (i+1) om]
def Tw{α:Type}(l:List α)(i n:Nat)(z:α)(h:i<n):(l.take n).getD i z=l.getD i z:=by rw[cB,cB,dX,cA h]
def rK{α:Type}(l:List α)(i:Nat)(x z:α)(h:i<l.length):(l.set i x).getD i z=x:=by rw[cB,lK h];rfl
def bVm{α:Type}(l m:List α)(i:Nat)(z:α)(h:i<l.length):(l++m).getD i z=l.getD i z:=by rw[cB,cB,dU h]
def walk{α S X:Type}(H:Nat->α->S->Option (S⊕X))(O:S->X):List α->Nat->S->Option X
 |[],_,s=>some (O s)
 |a::l,i,s=>match H i a s with
  |none=>none
  |some (.inl s')=>walk H O l (i+1) s'
  |some (.inr x)=>some x
def wmap{G S X:Type}(H:S->G):S⊕X->G⊕X
 | .inl s=>.inl (H s)
 | .inr x=>.inr x
def qS{α S X G:Type}{body:G->Option (G⊕X)}(l:List α)(z:α)(Y:Nat->S->G)(H:Nat->α->S->Option (S⊕X))(U:S->X)(O:Nat->S->Prop)
  (hb:∀i s,i<l.length->O i s->body (Y i s)=(H i (l.getD i z) s).map (wmap (Y (i+1)))/\∀B,H i (l.getD i z) s=some (.inl B)->O (i+1) B)
  (K:∀s,O l.length s->body (Y l.length s)=some (.inr (U s))) (s0:S) (L:O 0 s0):lS body (Y 0 s0)=walk H U l 0 s0:=by
 have F:∀k i s,i+k=l.length->O i s->lS body (Y i s)=walk H U (l.drop i) i s:=by
  intro k;induction k with
  |zero=>
   intro i s V M;have:i=l.length:=om
   subst this;rw[mF,K s M,iX];rfl
  |succ k ih=>
   intro i s V M;obtain⟨Z,h2⟩:=hb i s om M;rw[mF,Z,s7 l i z om];simp only[walk];cases ho:H i (l.getD i z) s with
   |none=>rfl
   |some y=>
    cases y with
    |inl B=>exact ih (i+1) B om (h2 B ho)
    |inr x=>rfl
 have:=F l.length 0 s0 om L;rwa [gO]at this
def vM{α S X G:Type}{body:G->Option (G⊕X)}(l:List α)(z:α)(U:Nat->S->G)(H:Nat->α->S->Option (S⊕X))(O:S->X)
  (hb:∀i s,i<l.length->body (U i s)=(H i (l.getD i z) s).map (wmap (U (i+1))))
  (Y:∀s,body (U l.length s)=some (.inr (O s))) (s0:S):lS body (U 0 s0)=walk H O l 0 s0:=
 qS l z U H O (λ _ _=>True) (λ i s h _=>⟨hb i s h,λ _ _=>trivial⟩) (λ s _=>Y s) s0 trivial
def lY(i:Nat)(h:i<4611686018427387904):IntKind.i64.wrap ((i:Int)+1)=((i+1:Nat):Int):=by rw[mB om om];omega
def zR(i:Nat)(h:i<4611686018427387904)(H:0<i):IntKind.i64.wrap ((i:Int)-1)=((i-1:Nat):Int):=by rw[mB om om];omega
def gdp{α:Type}{p:Prop}[Decidable p]{k:Option α}(h:p):gd p k=k:=cA h
@[simp] theorem mD{α:Type}[Decidable True](k:Option α):gd True k=k:=cA trivial
@[simp] theorem bVp{α:Type}[Decidable False](k:Option α):gd False k=none:=bZ (λ h=>h)
def gdn{α:Type}{p:Prop}[Decidable p]{k:Option α}(h:¬p):gd p k=none:=bZ h
def rP{β:Type}(s:List β):Option β->List β
 |some b=>s++[b]
 |none=>s
def bVr{β:Type}(s:List β)(o:Option β):(rP s o).length<=s.length+1:=by cases o<;>simp[rP]
def Ed{α β X:Type}(f:α->Option β)(H:List β->X):∀(l:List α) (i:Nat) (s:List β),
  walk (λ _ a s=>some (.inl (rP s (f a)))) H l i s=some (H (s++l.filterMap f))
 |[],i,s=>by simp[walk]
 |a::l,i,s=>by simp only[walk,List.filterMap_cons];rw[Ed f H l (i+1)];cases f a<;>simp[rP]
abbrev cmpP(p q:aK):Int:=uH p q
def ltP(p q:aK):Prop:=p.site<q.site\/p.site=q.site/\(p.inc<q.inc\/p.inc=q.inc/\p.num<q.num)
instance(p q:aK):Decidable (ltP p q):=by unfold ltP;infer_instance
def bVt(a b:Int):yE a b=if a<b then-1 else if b<a then 1 else 0:=by unfold yE;simp only[cD]
def J6(p q:aK):cmpP p q=if ltP p q then-1 else if ltP q p then 1 else 0:=by
 obtain⟨a,b,c⟩:=p;obtain⟨d,e,f⟩:=q;unfold cmpP uH ltP;simp only[bVt,dA,dL]
 grind
def Ee(p:aK):¬ltP p p:=by unfold ltP;omega
def Bu{p q r:aK}(h:ltP p q)(k:ltP q r):ltP p r:=by unfold ltP at*;omega
def Nc{p q:aK}(h:ltP p q):¬ltP q p:=by unfold ltP at*;omega
def Bv{p q:aK}(h:p≠q):ltP p q\/ltP q p:=by obtain⟨a,b,c⟩:=p;obtain⟨d,e,f⟩:=q;simp only[ne_eq,aK.mk.injEq]at h;unfold ltP;simp only;omega
def Nd(p q:aK):0<cmpP p q↔ltP q p:=by
 rw[J6]
 by_cases h:ltP p q
 .simp[h,Nc h]
 .by_cases H:ltP q p<;>simp[h,H]
def J7(p q:aK):0<=cmpP p q↔¬ltP p q:=by
 rw[J6]
 by_cases h:ltP p q
 .simp[h]
 .by_cases H:ltP q p<;>simp[h,H]
def J8(p q:aK):wR p q=some (cmpP p q):=by
 unfold wR Au;have e:∀(x y z:Int) (i:Nat) (h:[x,y,z].length=3),Arr.get (⟨[x,y,z],h⟩:Arr Int 3) i 0=match i with|0=>x|1=>y|_=>z:=by
  intro x y z i h
  match i with
  |0=>rfl
  |1=>rfl
  |2=>rfl
  |n+3=>
   have:¬(n+3<3):=om
   simp[Arr.get,oN,this]
 have Z:IntKind.i64.wrap (0+1)=1:=by decide
 have w2:IntKind.i64.wrap (1+1)=2:=by decide
 have w3:IntKind.i64.wrap (2+1)=3:=by decide
 have s3:rH ⟨[p.site,p.inc,p.num],rfl⟩ ⟨[q.site,q.inc,q.num],rfl⟩ 3=some (.inr (.inl ())):=by unfold rH;simp
 have s2:rH ⟨[p.site,p.inc,p.num],rfl⟩ ⟨[q.site,q.inc,q.num],rfl⟩ 2=some (if p.num<q.num then .inr (.inr (-1))else if q.num<p.num then .inr (.inr 1)else .inl 3):=by
  unfold rH;rw[cA Om,gdp Om,gdp Om,gdp Om];simp only[e,show(2:Int).toNat=2 from rfl,cD,w3]
  by_cases h:p.num<q.num
  .simp[h]
  .by_cases H:q.num<p.num<;>simp[h,H]
 have F:rH ⟨[p.site,p.inc,p.num],rfl⟩ ⟨[q.site,q.inc,q.num],rfl⟩ 1=some (if p.inc<q.inc then .inr (.inr (-1))else if q.inc<p.inc then .inr (.inr 1)else .inl 2):=by
  unfold rH;rw[cA Om,gdp Om,gdp Om,gdp Om];simp only[e,Int.toNat_one,cD,w2]
  by_cases h:p.inc<q.inc
  .simp[h]
  .by_cases H:q.inc<p.inc<;>simp[h,H]
 have O:rH ⟨[p.site,p.inc,p.num],rfl⟩ ⟨[q.site,q.inc,q.num],rfl⟩ 0=some (if p.site<q.site then .inr (.inr (-1))else if q.site<p.site then .inr (.inr 1)else .inl 1):=by
  unfold rH;rw[cA Om,gdp Om,gdp Om,gdp Om];simp only[e,Int.toNat_zero,cD,Z]
  by_cases h:p.site<q.site
  .simp[h]
  .by_cases H:q.site<p.site<;>simp[h,H]
 rw[J6];unfold ltP
 by_cases U:p.site<q.site
 .rw[mF,O];simp[U]
 .by_cases B:q.site<p.site
  .rw[mF,O];have:¬p.site=q.site:=om
   simp[U,B,this]
  .have Y:p.site=q.site:=om
   by_cases M:p.inc<q.inc
   .rw[mF,O];simp only[U,B,cH];rw[mF,F];simp[M,Y]
   .by_cases L:q.inc<p.inc
    .have:¬p.inc=q.inc:=om
     rw[mF,O];simp only[U,B,cH];rw[mF,F];simp[M,L,Y,this]
    .have H:p.inc=q.inc:=om
     rw[mF,O];simp only[U,B,cH];rw[mF,F];simp only[M,L,cH];rw[mF,s2]
     by_cases K:p.num<q.num
     .simp[K,Y,H]
     .by_cases V:q.num<p.num
      .simp[K,V,Y,H]
      .simp only[K,V,cH];rw[mF,s3];simp[Y,H,Iw]
def insP(p:aK)(a:aC):List aX->List aX
 |[]=>[⟨p,a⟩]
 |h::t=>if ltP p h.aL then⟨p,a⟩::h::t else h::insP p a t
def nC(p:aK)(l:List aX):List aX:=l.filter λ h=>!decide (h.aL=p)
def setL(l:List aX)(p:aK)(a:aC):List aX:=if a=aC.zero then nC p l else insP p a (nC p l)
def bW2(p:aK):nC p []=[]:=rfl
def GM(p:aK)(h:aX)(t:List aX):nC p (h::t)=if h.aL=p then nC p t else h::nC p t:=by unfold nC;rw[jP];by_cases e:h.aL=p<;>simp[e]
def GN(p:aK)(l:List aX):(nC p l).length<=l.length:=iQ _ _
def GO(l:List aX)(p:aK)(a:aC)(hl:l.length<=1000000):wV l p a=some (setL l p a):=by
 unfold wV;have F:=qS (body:=FK l p a) l aX.zero (λ i (s:Bool×List aX)=>(s.1,(i:Int),s.2))
  (λ i h s=>some (.inl (if h.aL=p then s else if s.1=false/\ltP p h.aL then(true,s.2++[⟨p,a⟩]++[h])else(s.1,s.2++[h])))) (λ s=>s) (λ i s=>s.2.length<=2*i)
  (λ i s hi Z=>by
   refine⟨?_,λ s' h=>?_⟩
   .unfold FK;have h1:s.2.length+1<=4294967296:=om
    have h2:s.2.length+1+1<=4294967296:=om
    have L:0<=(i:Int)/\(i:Int)<(l.length:Int):=om
    simp only[h1,h2,L.1,L.2,cW,eZ,mD,cF,cG,Qm,cD,bX,dA,Nd,lY i om,xm,wmap]
    by_cases e:(l.getD i aX.zero).aL=p
    .simp only[e,cG]
    .simp only[e,cH];split<;>rfl
   .simp only[dD,fI]at h;subst h;split
    .omega
    .split<;>simp<;>omega)
  (λ s Z=>by unfold FK;simp) (nP a,[]) (by simp)
 have hz:nP a=decide (a=aC.zero):=rfl;have O:∀(l:List aX) (i:Nat) (d:Bool) (o:List aX),walk (λ i h (s:Bool×List aX)=>some (.inl (if h.aL=p then s else if s.1=false/\ltP p h.aL then(true,s.2++[⟨p,a⟩]++[h])else(s.1,s.2++[h])))) (λ s=>s) l i (d,o)=
   some (if d=true then(true,o++nC p l)else if(nC p l).any (λ h=>decide (ltP p h.aL))=true then(true,o++insP p a (nC p l))else(false,o++nC p l)):=by
  intro l;induction l with
  |nil=>intro i d o;cases d<;>simp[walk,nC]
  |cons h t U=>
   intro i d o;simp only[walk,GM]
   by_cases e:h.aL=p
   .simp only[e,cG];exact U (i+1) d o
   .simp only[e,cH]
    by_cases M:d=false/\ltP p h.aL
    .obtain⟨rfl,B⟩:=M;simp only[B,cW,cG];rw[U];simp[insP,B]
    .rw[bZ M,U];cases d with
     |true=>simp
     |false=>have B:¬ltP p h.aL:=λ Y=>M ⟨rfl,Y⟩;simp only[bY,cH,insP,B,List.any_cons,cO,dP];split<;>simp
 have H:∀l:List aX,l.any (λ h=>decide (ltP p h.aL))=false->insP p a l=l++[⟨p,a⟩]:=by
  intro l;induction l with
  |nil=>intro _;rfl
  |cons h t U=>intro Y;simp only[List.any_cons,iS,dL]at Y;simp only[insP,Y.1,cH,U Y.2,Jm]
 rw[show((nP a,(0:Int),([]:List aX)):Bool×Int×List aX)=(λ(i:Nat) (s:Bool×List aX)=>(s.1,(i:Int),s.2)) 0 (nP a,[])from rfl,F,O,hz];unfold setL Mt;have ho:=GN p l
 by_cases V:a=aC.zero
 .simp[V]
 .simp only[V,cO,bY,cH,jm]
  by_cases K:(nC p l).any (λ h=>decide (ltP p h.aL))=true
  .simp[K]
  .have K:(nC p l).any (λ h=>decide (ltP p h.aL))=false:=by simpa using K
   rw[bZ (by rw[K];decide),eF,H _ K];show gd ((nC p l).length+1<=4294967296) _=_;rw[gdp om]
def Tx{α:Type}(l:List α)(k:Nat)(z x:α)(O:k<=l.length):
  (((l++[z]).take (k+1)++(((l++[z]).drop k).take (l.length+1-k)).take (l.length+1-(k+1))++(l++[z]).drop (k+1+min (((l++[z]).drop k).take (l.length+1-k)).length (l.length+1-(k+1)))).set k x)=l.take k++x::l.drop k:=by
 have U:((l++[z]).drop k).take (l.length+1-k)=l.drop k++[z]:=by rw[fR O,eK (by simp;omega)]
 have Y:(l.drop k++[z]).take (l.length+1-(k+1))=l.drop k:=by rw[fC (by simp),eK (by simp)]
 have B:(l++[z]).drop (k+1+min (l.drop k++[z]).length (l.length+1-(k+1)))=[]:=by rw[gU];simp;omega
 rw[U,Y,B,eO]
 by_cases H:k=l.length
 .subst H;rw[eK (by simp),iX,eO,hX _ _ (dE _)];simp
 .have:(l++[z]).take (k+1)=l.take k++[l[k]'(by omega)]:=by
   rw[fC om,fM om]
  rw[this,cJ,hX _ _ (by simp;omega)];simp[show min k l.length=k by omega]
def bW7(l:List aX)(p:aK)(a:aC)(hl:l.length<=1000000):AH l p a=some (setL l p a):=by
 unfold AH;have hw:IntKind.i64.wrap ((l.length:Int)+1)=(l.length:Int)+1:=mB om om;rw[hw,gdp om];have h0:=qS (body:=CT l p) l aX.zero (λ i (s:Int×List aX)=>(s.1,(i:Int),s.2))
  (λ i h s=>some (.inl (if h.aL=p then s else(if s.1<0/\ltP p h.aL then(s.2.length:Int)else s.1,s.2++[h])))) (λ s=>s) (λ i s=>s.2.length<=i)
  (λ i s hi hs=>by
   refine⟨?_,λ s' h=>?_⟩
   .unfold CT;have h1:s.2.length+1<=4294967296:=om
    have V:0<=(i:Int)/\(i:Int)<(l.length:Int):=om
    simp only[h1,V.1,V.2,cW,eZ,mD,cF,cG,Qm,cD,bX,J8,lY i om,xm,wmap]
    by_cases e:(l.getD i aX.zero).aL=p
    .simp only[e,cG]
    .simp only[e,cH]
     by_cases H:s.1<0
     .simp only[H,cG,qm,gC,Nd];split<;>rfl
     .simp only[H,cH,qm,iO]
   .simp only[dD,fI]at h;subst h;split
    .omega
    .simp;omega)
  (λ s hs=>by unfold CT;simp) (-1,[]) (by simp)
 have O:∀(l:List aX) (i:Nat) (d:Int) (o:List aX),walk (λ i h (s:Int×List aX)=>some (.inl (if h.aL=p then s else(if s.1<0/\ltP p h.aL then(s.2.length:Int)else s.1,s.2++[h])))) (λ s=>s) l i (d,o)=
   some (if d<0/\(nC p l).any (λ h=>decide (ltP p h.aL))=true then(((o.length+(nC p l).findIdx (λ h=>decide (ltP p h.aL)):Nat):Int),o++nC p l)else(d,o++nC p l)):=by
  intro l;induction l with
  |nil=>intro i d o;simp[walk,nC]
  |cons h t U=>
   intro i d o;simp only[walk,GM]
   by_cases e:h.aL=p
   .simp only[e,cG];exact U (i+1) d o
   .simp only[e,cH]
    by_cases H:d<0/\ltP p h.aL
    .simp only[H,cW,cG];rw[U,bZ om];simp[H.2,kG]
    .rw[bZ H,U]
     by_cases K:d<0
     .have e4:¬ltP p h.aL:=λ hh=>H ⟨K,hh⟩;simp only[K,gC,List.any_cons,e4,cO,dP,kG,cond_false,cC,ym,Ym,cJ,Jm,jm];split
      .congr 3;omega
      .rfl
     .simp[K]
 have Y:∀l:List aX,insP p a l=l.take (l.findIdx (λ h=>decide (ltP p h.aL)))++⟨p,a⟩::l.drop (l.findIdx (λ h=>decide (ltP p h.aL))):=by
  intro l;induction l with
  |nil=>rfl
  |cons h t U=>
   simp only[insP,kG]
   by_cases e:ltP p h.aL
   .simp[e]
   .simp[e,U]
 have B:lS (CT l p) (-1,0,List.replicate 0 aX.zero)=some (if(nC p l).any (λ h=>decide (ltP p h.aL))=true then(((nC p l).findIdx (λ h=>decide (ltP p h.aL)):Nat):Int)else-1,nC p l):=by
  rw[show((-1,0,List.replicate 0 aX.zero):Int×Int×List aX)=(λ(i:Nat) (s:Int×List aX)=>(s.1,(i:Int),s.2)) 0 (-1,[])from rfl,h0,O];have:((-1:Int)<0):=by decide
  simp only[this,gC,jm,Ym,dY];split<;>rfl
 rw[B,eF];unfold IN setL;have hz:oG a=decide (a=aC.zero):=rfl;rw[hz]
 by_cases Z:a=aC.zero
 .simp[Z]
 .simp only[Z,cO,bY,cH,cD];have ho:=GN p l;generalize nC p l=o at ho;have fi:o.findIdx (λ h=>decide (ltP p h.aL))<=o.length:=List.findIdx_le_length;have x0:({aX.zero with}:aX)=aX.zero:=rfl
  by_cases L:o.any (λ h=>decide (ltP p h.aL))=true
  .simp only[L,cG];generalize M:o.findIdx (λ h=>decide (ltP p h.aL))=k at fi;have y0:k<o.length:=by rw[<-M];exact List.findIdx_lt_length_of_exists (by simpa using L)
   rw[bZ om];simp only[lY k om,Qm];rw[gdp om,gdp om,gdp om,gdp om,Tx o k _ _ om,Y o,M]
  .have F:o.any (λ h=>decide (ltP p h.aL))=false:=by simpa using L
   simp only[F,bY,cH];rw[cA Om];have M:o.findIdx (λ h=>decide (ltP p h.aL))=o.length:=by rw[List.findIdx_eq_length];simpa using F
   simp only[lY o.length om,Qm];rw[gdp om,gdp om,gdp om,gdp om,Tx o o.length _ _ om,Y o,M]
def GP(r:aH):yI r=nQ r:=by
 unfold yI nQ;rw[dM]
 by_cases H:r.kind=1
 .simp[H]
 .by_cases O:r.kind=2<;>simp[H,O]
def s8(r:aH)(a:aC):qF r a=mE r a:=by unfold qF mE rX qQ;rw[GP]
def Eg(r:aH)(a:aC):tM r a=nK r a:=by unfold tM nK nP oG;rw[GP,s8]
def vN(p:aK):oU p=mL p:=by unfold oU mL j7;rw[dM];simp;omega
def sR(r:aH):nQ r=true↔(r.kind=1/\r.aT=1)\/(r.kind=2/\1<=r.aT/\r.aT<=8):=by
 unfold nQ
 by_cases H:r.kind=1
 .simp[H]
 .by_cases O:r.kind=2<;>simp[H,O]
def rC(r:aH)(a:aC):mE r a=true↔(r.kind=1/\r.aT=1/\1<=a.mode/\a.mode<=5/\a.aT=0)\/(r.kind=2/\1<=r.aT/\r.aT<=8/\a.mode=0/\1<=a.aT/\a.aT<=r.aT):=by
 unfold mE qQ;have:=sR r;cases h:nQ r with
 |false=>rw[h]at this;simp only[bY,false_iff]at this;simp only[dK,cG,bY,false_iff];omega
 |true=>
  rw[h]at this;simp only[true_iff]at this
  by_cases H:r.kind=1
  .simp[H];omega
  .simp[H];omega
def perm_iff(r:aH)(a:aC):nK r a=true↔(nQ r=true/\a=aC.zero)\/mE r a=true:=by
 unfold nK oG;have e:(decide (a={aC.zero with}):Bool)=decide (a=aC.zero):=rfl;rw[e];have H:mE r a=true->nQ r=true:=by rw[rC,sR];omega
 cases K:nQ r<;>cases L:mE r a<;>simp_all
def Bw{r:aH}{a:aC}(h:nK r a=true)(H:r.kind=1):a.aT=0/\0<=a.mode/\a.mode<=5/\r.aT=1:=by
 rw[perm_iff,rC,sR]at h;rcases h with⟨h1,rfl⟩|h1
 .simp[aC.zero];omega
 .omega
def J9{r:aH}{a:aC}(h:nK r a=true)(H:r.kind=2):a.mode=0/\0<=a.aT/\a.aT<=r.aT/\r.aT<=8:=by
 rw[perm_iff,rC,sR]at h;rcases h with⟨h1,rfl⟩|h1
 .simp[aC.zero];omega
 .omega
def t6{r:aH}{a:aC}(h:nK r a=true):0<=a.aT/\a.aT<=8/\0<=a.mode/\a.mode<=5/\1<=r.aT/\r.aT<=8:=by
 rw[perm_iff,rC,sR]at h;rcases h with⟨h1,rfl⟩|h1
 .simp[aC.zero];omega
 .omega
abbrev mC(a b:Int):Bool:=CJ a b
def Ka(a b:Int):mC a b=true↔(1<=a/\a<=4/\1<=b/\b<=4)/\(a=1\/b=1\/a=b/\a≠4):=by
 unfold mC CJ rX;split
 .rename_i h;simp at h;simp;omega
 .rename_i h;simp at h;simp;omega
def Kb(a b:Int):mC a b=mC b a:=by rw[dM,Ka,Ka];omega
def bWh(a b:Int):CI a b=some (mC a b):=by
 unfold CI qQ
 by_cases h:(1<=a/\a<=5)/\(1<=b/\b<=5)
 .obtain⟨⟨Y,B⟩,F,M⟩:=h;have O:IntKind.i64.wrap (a-1)=a-1:=mB om om;have U:IntKind.i64.wrap (b-1)=b-1:=mB om om;simp only[O,U];rw[gdp (λ _=>om),gdp (λ _=>om)];congr 1;have K:a=1\/a=2\/a=3\/a=4\/a=5:=om
  have hb:b=1\/b=2\/b=3\/b=4\/b=5:=om
  rcases K with rfl|rfl|rfl|rfl|rfl<;>rcases hb with rfl|rfl|rfl|rfl|rfl<;>decide
 .have L:(((decide (1<=a))&&(decide (a<=5)))&&((decide (1<=b))&&(decide (b<=5))))=false:=by
   rw[dG];intro H;simp at H;omega
  rw[L];rw[gdp (λ h=>by cases h),gdp (λ h=>by cases h)];have:mC a b=false:=by rw[dG];intro H;rw[Ka]at H;omega
  rw[this];rfl
def qH(b a:aC):Prop:=b.mode≠0/\a.mode≠0/\mC b.mode a.mode=false
instance(b a:aC):Decidable (qH b a):=by unfold qH;infer_instance
def sumU:List aC->Int
 |[]=>0
 |a::l=>a.aT+sumU l
structure CompP (r:aH) (l:List aC):Prop where
 perm:∀a∈l,nK r a=true
 sum:sumU l<=r.aT
 pair:l.Pairwise λ b a=>¬qH b a
instance(r:aH)(l:List aC):Decidable (CompP r l):=
 decidable_of_iff ((∀a∈l,nK r a=true)/\sumU l<=r.aT/\l.Pairwise λ b a=>¬qH b a) ⟨λ⟨a,b,c⟩=>⟨a,b,c⟩,λ⟨a,b,c⟩=>⟨a,b,c⟩⟩
def t7(r:aH)(l:List aC):Bool:=nQ r&&decide (CompP r l)
def bWk{l:List aC}(h:∀a∈l,0<=a.aT):0<=sumU l:=by
 induction l with
 |nil=>simp[sumU]
 |cons a l H=>have:=H λ b hb=>h b (.tail _ hb);have:=h a (.head _);simp only[sumU];omega
def xD(r:aH):List aC->List aC->Int->Bool
 |[],_,_=>true
 |a::t,prev,s=>nK r a&&(decide (s+a.aT<=r.aT)&&(decide (∀b∈prev,¬qH b a)&&xD r t (prev++[a]) (s+a.aT)))
def Nf(r:aH)(M:0<=r.aT):∀(l H:List aC) (s:Int),s<=r.aT->(xD r l H s=true↔(∀a∈l,nK r a=true)/\s+sumU l<=r.aT/\(∀b∈H,∀a∈l,¬qH b a)/\l.Pairwise λ b a=>¬qH b a)
 |[],H,s,K=>by simp[xD,sumU];exact K
 |a::t,H,s,K=>by
  simp only[xD,bX,cD,List.forall_mem_cons,dB,sumU];constructor
  .rintro⟨F,L,U,Y⟩;rw[Nf r M t (H++[a]) (s+a.aT) L]at Y;obtain⟨B,k2,V,k4⟩:=Y;refine⟨⟨F,B⟩,by omega,λ b hb=>⟨U b hb,λ c O=>V b (by simp[hb]) c O⟩,λ c O=>V a (by simp) c O,k4⟩
  .rintro⟨⟨F,B⟩,L,U,Y,h5⟩;have hn:0<=sumU t:=bWk λ b hb=>(t6 (B b hb)).1;have Z:s+a.aT<=r.aT:=om
   refine⟨F,Z,λ b hb=>(U b hb).1,?_⟩;rw[Nf r M t (H++[a]) (s+a.aT) Z];refine⟨B,by omega,λ b hb c O=>?_,h5⟩;rcases cX.1 hb with hb|hb
   .exact(U b hb).2 c O
   .simp at hb;subst hb;exact Y c O
def Ty(r:aH)(l:List aC)(H:nQ r=true):t7 r l=xD r l [] 0:=by
 have O:1<=r.aT:=by rw[sR]at H;omega
 unfold t7;rw[H,cL,dM,Nf r om l [] 0 om,cD];exact⟨λ⟨a,b,c⟩=>⟨a,by omega,by simp,c⟩,λ⟨a,b,_,c⟩=>⟨a,by omega,c⟩⟩
def Bx(H:Arr Bool 6)(m:Int):Bool:=(List.range' 0 6).all λ k=>!(H.get k false)||mC k m
def bWp(l:List aC)(g:Int×Int×Arr Bool 6):lS (C3 l g) 0=some (if Bx g.2.2 (l.getD g.2.1.toNat aC.zero).mode=true then .inl ()else .inr false):=by
 have H:=sQ (body:=C3 l g) 6 (λ i=>if(!(g.2.2.get i false)||mC i (l.getD g.2.1.toNat aC.zero).mode)=true then none else some (.inr false)) (.inl ()) (λ i K=>by
  unfold C3;have O:0<=(i:Int)/\(i:Int)<6:=om
  have U:IntKind.i64.wrap ((i:Int)+1)=(i:Int)+1:=mB om om;simp only[O.1,O.2,cW,mD,cF,cG,Qm,bWh,U];cases Arr.get g.2.2 i false<;>cases mC i (l.getD g.2.1.toNat aC.zero).mode<;>rfl) (by unfold C3;simp)
 rw[H,tQ];unfold Bx;split<;>simp_all
def bWq(s:Arr Bool 6)(i k:Nat)(hi:i<6)(H:k<6):(s.put i true).get k false=if k=i then true else s.get k false:=by
 obtain⟨l,K⟩:=s;simp only[Arr.put,Arr.get,Cj hi,Cj H,cB,List.getElem?_set]
 by_cases h:k=i
 .subst h;simp[K,H]
 .rw[bZ (λ e=>h e.symm),bZ h]
def bWr(r:aH)(l:List aC)(hl:l.length<=1000000):AQ r l=some (t7 r l):=by
 unfold AQ;cases Z:nQ r with
 |false=>simp[t7,Z]
 |true=>
  have p0:1<=r.aT/\r.aT<=8:=by rw[sR]at Z;omega
  rw[Ty r l Z];simp only[cR,bY,cH];have z0:=qS (body:=FM r l) l aC.zero (λ i (s:Int×Arr Bool 6)=>(s.1,(i:Int),s.2))
   (λ i a s=>some (if nK r a=false\/r.aT<s.1+a.aT then .inr false else if a.mode=0 then .inl (s.1+a.aT,s.2)else if Bx s.2 a.mode=true then .inl (s.1+a.aT,s.2.put a.mode.toNat true)else .inr false)) (λ _=>true) (λ i s=>0<=s.1/\s.1<=8)
   (λ i s hi q0=>by
    refine⟨?_,λ s' h=>?_⟩
    .unfold FM;have K:0<=(i:Int)/\(i:Int)<(l.length:Int):=om
     simp only[K.1,K.2,cW,mD,cF,cG,Qm,lY i om,xm,bWp];cases hp:nK r (l.getD i aC.zero)with
     |false=>simp[wmap]
     |true=>
      have hb:=t6 hp;have hw:IntKind.i64.wrap (s.1+(l.getD i aC.zero).aT)=s.1+(l.getD i aC.zero).aT:=mB om om;simp only[hw,cR,dP,cD,gH,jG]
      by_cases L:r.aT<s.1+(l.getD i aC.zero).aT
      .simp only[L,cG,wmap]
      .by_cases B:(l.getD i aC.zero).mode=0
       .simp only[L,cH,B,cG,wmap]
       .simp only[L,B,cH]
        by_cases h6:Bx s.2 (l.getD i aC.zero).mode=true
        .simp only[h6,cG,qm,wmap];unfold I4;simp only[Qm,hw,lY i om];rw[gdp om]
        .simp only[h6,bY,cH,wmap,qm]
    .simp only[dD]at h;split at h
     .cases h
     .rename_i hn;simp only[kZ,fS]at hn;have hb:=t6 hn.1;split at h
      .cases h;simp only;omega
      .split at h
       .cases h;simp only;omega
       .cases h)
   (λ s Z=>by unfold FM;simp) (0,Arr.rep 6 false) (by simp)
  have x0:∀(l H:List aC) (i:Nat) (s:Int) (O:Arr Bool 6),(∀b∈H,0<=b.mode/\b.mode<=5)->(∀k,k<6->O.get k false=decide (∃b∈H,b.mode≠0/\b.mode=(k:Int)))->
    walk (λ i a (s:Int×Arr Bool 6)=>some (if nK r a=false\/r.aT<s.1+a.aT then .inr false else if a.mode=0 then .inl (s.1+a.aT,s.2)else if Bx s.2 a.mode=true then .inl (s.1+a.aT,s.2.put a.mode.toNat true)else .inr false)) (λ _=>true) l i (s,O)=some (xD r l H s):=by
   intro l;induction l with
   |nil=>intro H i s O _ _;rfl
   |cons a t ih=>
    intro H i s O h0 F;simp only[walk,xD];cases hp:nK r a with
    |false=>simp
    |true=>
     have hb:=t6 hp
     by_cases L:r.aT<s+a.aT
     .simp[L];intro h;omega
     .have u0:s+a.aT<=r.aT:=om
      simp only[gH,jG,L,cH,u0,cF,cL]
      by_cases B:a.mode=0
      .simp only[B,cG];rw[ih (H++[a]) (i+1) (s+a.aT) O (by
        intro b U;rcases cX.1 U with h|h
        .exact h0 b h
        .simp at h;subst h;omega) (by
        intro k V;rw[F k V,iW];constructor
        .rintro⟨b,M,Y⟩;exact⟨b,by simp[M],Y⟩
        .rintro⟨b,M,Y,K⟩;rcases cX.1 M with h|h
         .exact⟨b,h,Y,K⟩
         .simp at h;subst h;exact absurd B Y)]
       have:∀b∈H,¬qH b a:=λ b _ hc=>hc.2.1 B;rw[cP this,cL]
      .simp only[B,cH];have v0:Bx O a.mode=decide (∀b∈H,¬qH b a):=by
        rw[dM,cD];unfold Bx;simp only[dT,List.mem_range'_1,dV,dA];constructor
        .intro hh b U ⟨c1,c2,c3⟩;have r0:=h0 b U;rcases hh b.mode.toNat (by omega)with h|h
         .rw[F _ om]at h;simp only[dL,not_exists,not_and]at h;exact h b U c1 om
         .rw[show((b.mode.toNat:Nat):Int)=b.mode by omega,c3]at h;cases h
        .intro hh k V;rw[F k om]
         by_cases he:∃b∈H,b.mode≠0/\b.mode=(k:Int)
         .obtain⟨b,M,Y,K⟩:=he;right;rw[<-K];have:=hh b M;unfold qH at this;simp only[not_and,fS]at this;exact this Y B
         .left;simpa using he
       rw[v0]
       by_cases h7:∀b∈H,¬qH b a
       .rw[cP h7];simp only[cG,cL];rw[ih (H++[a]) (i+1) (s+a.aT) (O.put a.mode.toNat true) (by
         intro b U;rcases cX.1 U with h|h
         .exact h0 b h
         .simp at h;subst h;omega) (by
         intro k V;rw[bWq O a.mode.toNat k om V,F k V]
         by_cases y0:k=a.mode.toNat
         .rw[cA y0];exact(cP ⟨a,by simp,B,by omega⟩).symm
         .rw[bZ y0,iW];constructor
          .rintro⟨b,M,Y⟩;exact⟨b,by simp[M],Y⟩
          .rintro⟨b,M,Y,K⟩;rcases cX.1 M with h|h
           .exact⟨b,h,Y,K⟩
           .simp at h;subst h;omega)]
       .rw[fH h7];rfl
  have k2:=x0 l [] 0 0 (Arr.rep 6 false) (by simp) (by
   intro k V;have:k=0\/k=1\/k=2\/k=3\/k=4\/k=5:=om
   rcases this with rfl|rfl|rfl|rfl|rfl|rfl<;>rfl)
  rw[show((0,0,Arr.rep 6 false):Int×Int×Arr Bool 6)=(λ(i:Nat) (s:Int×Arr Bool 6)=>(s.1,(i:Int),s.2)) 0 (0,Arr.rep 6 false)from rfl,z0,k2];rfl
def bWs(l:List aC)(g:Int×Int)(U:0<=g.2)(K:g.2<(l.length:Int))(Y:l.length<=1000000):lS (Di l g) 0=
  some (if(List.range' 0 g.2.toNat).all (λ k=>decide (l.getD g.2.toNat aC.zero=aC.zero)||(decide (l.getD k aC.zero=aC.zero)||mC (l.getD g.2.toNat aC.zero).mode (l.getD k aC.zero).mode))=true then .inl ()else .inr false):=by
 have B:∀a:aC,nP a=decide (a=aC.zero):=λ _=>rfl;have H:=sQ (body:=Di l g) g.2.toNat (λ i=>if(decide (l.getD g.2.toNat aC.zero=aC.zero)||(decide (l.getD i aC.zero=aC.zero)||mC (l.getD g.2.toNat aC.zero).mode (l.getD i aC.zero).mode))=true then none else some (.inr false)) (.inl ()) (λ i L=>by
  unfold Di;have F:(i:Int)<g.2:=om
  have M:IntKind.i64.wrap ((i:Int)+1)=(i:Int)+1:=mB om om;have O:0<=(i:Int)/\(i:Int)<(l.length:Int):=om
  simp only[F,cF,cG,Qm,M,O.1,O.2,U,K,cW,eZ,mD,B];cases decide (l.getD g.2.toNat aC.zero=aC.zero)<;>cases decide (l.getD i aC.zero=aC.zero)<;>cases hm:CJ (l.getD g.2.toNat aC.zero).mode (l.getD i aC.zero).mode<;>simp only[mC,hm]<;>rfl) (by unfold Di;rw[bZ];simp;omega)
 rw[H,tQ];split<;>simp_all
def bWt(r:aH)(l:List aC)(hl:l.length<=1000000):A4 r l=some (t7 r l):=by
 unfold A4;rw[GP];cases V:nQ r with
 |false=>simp[t7,V]
 |true=>
  have u0:1<=r.aT/\r.aT<=8/\(r.kind=1\/r.kind=2):=by rw[sR]at V;omega
  rw[Ty r l V];simp only[cR,bY,cH];have v0:=qS (body:=A3 r l) l aC.zero (λ i (s:Int)=>(s,(i:Int)))
   (λ i a s=>some (if nK r a=false then .inr (.inr false)else if r.kind=2 then(if r.aT<s+a.aT then .inr (.inr false)else .inl (s+a.aT))else
    if(List.range' 0 i).all (λ k=>decide (a=aC.zero)||(decide (l.getD k aC.zero=aC.zero)||mC a.mode (l.getD k aC.zero).mode))=true then .inl s else .inr (.inr false))) (λ _=>Sum.inl (β:=Bool) ()) (λ i s=>0<=s/\s<=8)
   (λ i s hi p0=>by
    refine⟨?_,λ s' h=>?_⟩
    .unfold A3;have h3:0<=(i:Int)/\(i:Int)<(l.length:Int):=om
     simp only[h3.1,h3.2,cW,mD,cF,cG,Qm,lY i om,xm,Eg,bWs l (s,(i:Int)) h3.1 h3.2 hl];cases Y:nK r (l.getD i aC.zero)with
     |false=>simp[wmap]
     |true=>
      have hb:=t6 Y;have hw:IntKind.i64.wrap (s+(l.getD i aC.zero).aT)=s+(l.getD i aC.zero).aT:=mB om om;simp only[hw,cR,bY,cH,gH,cD]
      by_cases h4:r.kind=2
      .by_cases Z:r.aT<s+(l.getD i aC.zero).aT
       .simp only[h4,Z,cG,wmap]
       .simp only[h4,Z,cG,cH,wmap]
      .simp only[h4,cH];split
       .simp only[MB,wmap,lY i (by omega:i<4611686018427387904),qm]
       .simp only[wmap,qm]
    .simp only[dD]at h;split at h
     .cases h
     .rename_i hn;simp only[fS]at hn;have hb:=t6 hn;split at h
      .split at h
       .cases h
       .cases h;omega
      .split at h
       .cases h;exact p0
       .cases h)
   (λ s V=>by unfold A3;simp) 0 (by simp)
  have x0:∀(t H:List aC) (s:Int),l=H++t->(∀b∈H,nK r b=true)->(r.kind=1->s=0)->s<=r.aT->
    walk (λ i a (s:Int)=>some (if nK r a=false then .inr (.inr false)else if r.kind=2 then(if r.aT<s+a.aT then .inr (.inr false)else .inl (s+a.aT))else
     if(List.range' 0 i).all (λ k=>decide (a=aC.zero)||(decide (l.getD k aC.zero=aC.zero)||mC a.mode (l.getD k aC.zero).mode))=true then .inl s else .inr (.inr false))) (λ _=>Sum.inl (β:=Bool) ()) t H.length s=some (if xD r t H s=true then .inl ()else .inr false):=by
   intro t;induction t with
   |nil=>intro H s _ _ _ _;rfl
   |cons a t ih=>
    intro H s hlt h0 q0 r0;simp only[walk,xD]
    by_cases Y:nK r a=true
    .have F:∀b∈H++[a],nK r b=true:=λ b hb=>by
      rcases cX.1 hb with h|h
      .exact h0 b h
      .simp at h;subst h;exact Y
     have M:l=(H++[a])++t:=by rw[hlt];simp
     have K:(H++[a]).length=H.length+1:=by simp
     rcases u0.2.2 with hk|hk
     ·
      have ha:=Bw Y hk;have V:=q0 hk;subst V;have O:¬r.kind=2:=om
      have y0:(0:Int)+a.aT<=r.aT:=om
      simp only[Y,gH,cH,O,y0,cF,cL];have z0:(List.range' 0 H.length).all (λ k=>decide (a=aC.zero)||(decide (l.getD k aC.zero=aC.zero)||mC a.mode (l.getD k aC.zero).mode))=decide (∀b∈H,¬qH b a):=by
       rw[dM,cD];simp only[dT,List.mem_range'_1,dV,cD];have U:∀k,k<H.length->l.getD k aC.zero=H.getD k aC.zero:=λ k hk=>by rw[hlt,bVm _ _ _ _ hk]
       have L:∀k,k<H.length->H.getD k aC.zero∈H:=λ k hk=>by rw[cB,cE hk];exact iK hk
       have uO:∀b,nK r b=true->(b=aC.zero↔b.mode=0):=λ b hb=>by have:=Bw hb hk;rw[aC.ext_iff];simp[aC.zero];omega
       constructor
       .intro hh b hb ⟨c1,c2,c3⟩;obtain⟨k,B,O⟩:=fY.1 hb;have e:H.getD k aC.zero=b:=by rw[cB,cE B,Xm,O]
        rcases hh k (by omega)with h|h|h
        .exact c2 ((uO a Y).1 h)
        .rw[U k B,e]at h;exact c1 ((uO b (h0 b hb)).1 h)
        .rw[U k B,e,Kb,c3]at h;cases h
       .intro hh k B;have O:k<H.length:=om
        rw[U k O];have h1:=hh _ (L k O);have h2:=h0 _ (L k O);unfold qH at h1;rw[uO a Y,uO _ h2]
        by_cases e1:a.mode=0
        .exact .inl e1
        .by_cases e2:(H.getD k aC.zero).mode=0
         .exact .inr (.inl e2)
         .refine .inr (.inr ?_);rw[Kb];simp only[not_and,fS]at h1;exact h1 e2 e1
      rw[z0]
      by_cases h7:∀b∈H,¬qH b a
      .rw[cP h7];simp only[cG,cL];have:=ih (H++[a]) 0 M F (λ _=>rfl) om;rw[K]at this;simp only[O,cH]at this;rw[this,ha.1];rfl
      .rw[fH h7];rfl
     ·
      have ha:=J9 Y hk;simp only[Y,gH,cH,hk,cG,cL];have h7:∀b∈H,¬qH b a:=λ b _ hc=>hc.2.1 ha.1
      by_cases Z:r.aT<s+a.aT
      .have:¬s+a.aT<=r.aT:=om
       simp[Z,this]
      .have:s+a.aT<=r.aT:=om
       rw[cP h7];simp only[Z,cH,this,cF,cL];have h8:=ih (H++[a]) (s+a.aT) M F (λ h=>om) this;rw[K]at h8;simp only[hk,cG]at h8;exact h8
    .simp[Y]
  rw[show((0,0):Int×Int)=(λ(i:Nat) (s:Int)=>(s,(i:Int))) 0 0 from rfl,v0];have k2:=x0 l [] 0 rfl (by simp) (λ _=>rfl) om;rw[lH]at k2;rw[k2];cases xD r l [] 0<;>rfl
structure GoodP (r:aH) (l:List aX):Prop where
 each:∀h∈l,mL h.aL=true/\mE r h.aJ=true
 asc:l.Pairwise λ a b=>ltP a.aL b.aL
instance(r:aH)(l:List aX):Decidable (GoodP r l):=
 decidable_of_iff ((∀h∈l,mL h.aL=true/\mE r h.aJ=true)/\l.Pairwise λ a b=>ltP a.aL b.aL) ⟨λ⟨a,b⟩=>⟨a,b⟩,λ⟨a,b⟩=>⟨a,b⟩⟩
def oS(r:aH)(l:List aX):Bool:=nQ r&&(decide (l.length<=8)&&(decide (GoodP r l)&&decide (CompP r (l.map (·.aJ)))))
def Tz{r:aH}{a:aC}(h:mE r a=true):nQ r=true:=by rw[rC]at h;rw[sR];omega
def qT{r:aH}{a:aC}(h:mE r a=true):nK r a=true:=(perm_iff r a).2 (.inr h)
def rZ{r:aH}{a:aC}(h:mE r a=true):a≠aC.zero:=by rw[rC]at h;intro e;subst e;simp[aC.zero]at h
def qU(r:aH):List aX->Option aK->Bool
 |[],_=>true
 |h::t,pv=>mL h.aL&&(mE r h.aJ&&((match pv with|none=>true|some q=>decide (ltP q h.aL))&&qU r t (some h.aL)))
def Ng(r:aH):∀(l:List aX) (H:Option aK),qU r l H=true↔GoodP r l/\∀q,H=some q->∀h∈l,ltP q h.aL
 |[],H=>by simp only[qU,eU,jR,eZ,jA,true_iff];exact⟨by simp,.nil⟩
 |h::t,H=>by
  simp only[qU,bX];rw[Ng r t (some h.aL)];constructor
  .rintro⟨O,U,Y,⟨M,K⟩,F⟩;refine⟨⟨λ x hx=>?_,dB.2 ⟨λ x hx=>F _ rfl x hx,K⟩⟩,λ q B x hx=>?_⟩
   .rcases cK.1 hx with rfl|hx
    .exact⟨O,U⟩
    .exact M x hx
   .subst B;simp only[cD]at Y;rcases cK.1 hx with rfl|hx
    .exact Y
    .exact Bu Y (F _ rfl x hx)
  .rintro⟨⟨O,U⟩,Y⟩;rw[dB]at U;refine⟨(O h (.head _)).1,(O h (.head _)).2,?_,⟨λ x hx=>O x (.tail _ hx),U.2⟩,λ q B x hx=>by cases B;exact U.1 x hx⟩;cases H with
   |none=>rfl
   |some q=>exact cP (Y q rfl h (.head _))
def Nh(r:aH)(l:List aX):yY r l=some (oS r l):=by
 unfold yY oS;cases F:nQ r with
 |false=>simp
 |true=>
  by_cases V:8<(l.length:Int)
  .have:¬l.length<=8:=om
   simp[V,this]
  .have M:l.length<=8:=om
   simp only[cR,dP,V,cO,bY,cH,M,cF,cL];have h0:=qS (body:=F1 r l) l aX.zero (λ i (s:List aC)=>((i:Int),s))
    (λ i h s=>some (if mL h.aL=true/\mE r h.aJ=true/\(i=0\/ltP (l.getD (i-1) aX.zero).aL h.aL)then .inl (s++[h.aJ])else .inr (.inr false))) (λ s=>Sum.inl (β:=Bool) s) (λ i s=>s.length<=i)
    (λ i s hi F=>by
     refine⟨?_,λ s' h=>?_⟩
     .unfold F1;have h1:s.length+1<=4294967296:=om
      have Z:0<=(i:Int)/\(i:Int)<(l.length:Int):=om
      simp only[h1,Z.1,Z.2,cW,mD,cF,cG,Qm,J8,lY i om,xm,cD,bX,dV,dA]
      by_cases U:mL (l.getD i aX.zero).aL=false\/mE r (l.getD i aX.zero).aJ=false
      .rw[cA U,bZ (by rintro⟨k1,L,_⟩;rcases U with e|e<;>simp_all)];rfl
      .rw[bZ U];simp only[kZ,fS]at U
       by_cases e2:i=0
       .subst e2;rw[gdp om];simp only[Int.natCast_zero,iG,cH,qm,iO,U,cW,true_or,cG,wmap]
       .have w:IntKind.i64.wrap ((i:Int)-1)=((i-1:Nat):Int):=zR i om om;rw[gdp (by rw[w];omega)];simp only[w,Qm,show(0:Int)<(i:Int)by omega,cG,qm,gC,J7,U,e2,jG]
        by_cases e3:ltP (l.getD (i-1) aX.zero).aL (l.getD i aX.zero).aL
        .simp only[e3,not_true,cH,cG,wmap]
        .simp only[e3,iC,cG,cH,wmap]
     .simp only[dD]at h;split at h
      .cases h;simp;omega
      .cases h)
    (λ s F=>by unfold F1;simp) [] (by simp)
   have Y:∀(t H:List aX) (s:List aC),l=H++t->
     walk (λ i h (s:List aC)=>some (if mL h.aL=true/\mE r h.aJ=true/\(i=0\/ltP (l.getD (i-1) aX.zero).aL h.aL)then .inl (s++[h.aJ])else .inr (.inr false))) (λ s=>Sum.inl (β:=Bool) s) t H.length s=
      some (if qU r t (H.getLast?.map (·.aL))=true then .inl (s++t.map (·.aJ))else .inr false):=by
    intro t;induction t with
    |nil=>intro H s _;simp[walk,qU]
    |cons h t ih=>
     intro H s K;simp only[walk];have hq:(H.length=0\/ltP (l.getD (H.length-1) aX.zero).aL h.aL)↔(match H.getLast?.map (·.aL)with|none=>true|some q=>decide (ltP q h.aL))=true:=by
      rcases List.eq_nil_or_concat H with rfl|⟨pp,x,rfl⟩
      .simp
      .have:(l.getD ((pp.concat x).length-1) aX.zero)=x:=by
        rw[K];simp[cB]
       rw[this];simp
     by_cases e:mL h.aL=true/\mE r h.aJ=true/\(H.length=0\/ltP (l.getD (H.length-1) aX.zero).aL h.aL)
     .rw[cA e];have:=ih (H++[h]) (s++[h.aJ]) (by rw[K];simp);rw[show(H++[h]).length=H.length+1 by simp]at this;simp only;have ht:qU r (h::t) (H.getLast?.map (·.aL))=qU r t (some h.aL):=by simp only[qU,e.1,e.2.1,hq.1 e.2.2,cL]
      rw[this,ht];simp
     .rw[bZ e];rw[hq]at e;have hf:qU r (h::t) (H.getLast?.map (·.aL))=false:=by
       rw[dG];intro B;simp only[qU,bX]at B;exact e ⟨B.1,B.2.1,B.2.2.1⟩
      rw[hf];rfl
   have L:=Y l [] [] rfl;rw[lH]at L;rw[show((0,[]):Int×List aC)=(λ(i:Nat) (s:List aC)=>((i:Int),s)) 0 []from rfl,h0,L];have hg:=Ng r l none
   by_cases e:qU r l none=true
   .have O:GoodP r l:=(hg.1 e).1;rw[cA (by simpa using e)];simp only[qm,MC,jm];rw[bWr r _ (by simp;omega)];simp[t7,F,O]
   .have O:¬GoodP r l:=λ h=>e (hg.2 ⟨h,by simp⟩);rw[bZ (by simpa using e)];simp[O]
def bX0(l:List aX)(K:l.length<=1000000):An l=some (l.map (·.aJ)):=by
 unfold An;have H:=qS (body:=Ff l) l aX.zero (λ i (s:List aC)=>((i:Int),s)) (λ i h s=>some (.inl (rP s (some h.aJ)))) (λ s=>s) (λ i s=>s.length<=i)
  (λ i s L U=>by
   refine⟨?_,λ B h=>?_⟩
   .unfold Ff;have Y:s.length+1<=4294967296:=om
    have O:0<=(i:Int)/\(i:Int)<(l.length:Int):=om
    simp only[Y,O.1,O.2,cW,mD,cF,cG,Qm,lY i om,xm,wmap,rP]
   .simp only[dD,fI]at h;subst h;simp[rP];omega)
  (λ s U=>by unfold Ff;simp) [] (by simp)
 rw[show((0,[]):Int×List aC)=(λ(i:Nat) (s:List aC)=>((i:Int),s)) 0 []from rfl,H,Ed (λ h:aX=>some h.aJ)];simp[L6]
def Ni(r:aH)(l:List aX):zC r l=some (oS r l):=by
 unfold zC oS;rw[GP];cases L:nQ r with
 |false=>simp
 |true=>
  by_cases V:8<(l.length:Int)
  .have:¬l.length<=8:=om
   simp[V,this]
  .have M:l.length<=8:=om
   simp only[cR,dP,V,cO,bY,cH,M,cF,cL];have h0:=qS (body:=F7 r l) l aX.zero (λ i (_:Unit)=>(i:Int))
    (λ i h _=>some (if mL h.aL=true/\mE r h.aJ=true/\(i=0\/ltP (l.getD (i-1) aX.zero).aL h.aL)then .inl ()else .inr (.inr false))) (λ _=>Sum.inl (β:=Bool) ()) (λ i s=>True)
    (λ i s hi _=>by
     refine⟨?_,λ _ _=>trivial⟩;unfold F7;have Z:0<=(i:Int)/\(i:Int)<(l.length:Int):=om
     simp only[Z.1,Z.2,cW,eZ,mD,cF,cG,Qm,lY i om,xm,vN,s8]
     by_cases e2:i=0
     .subst e2;rw[gdp (by simp)]
      by_cases O:mL (l.getD 0 aX.zero).aL=true
      .by_cases Y:mE r (l.getD 0 aX.zero).aJ=true
       .simp only[O,Y];simp[wmap]
       .simp only[O,Y];simp[wmap]
      .simp only[O];simp[wmap]
     .have w:IntKind.i64.wrap ((i:Int)-1)=((i-1:Nat):Int):=zR i om om;rw[gdp (λ _=>by rw[w];omega)];simp only[w,Qm,show(0:Int)<(i:Int)by omega,cF,cL,J7,e2,jG]
      by_cases O:mL (l.getD i aX.zero).aL=true
      .by_cases Y:mE r (l.getD i aX.zero).aJ=true
       .by_cases e4:ltP (l.getD (i-1) aX.zero).aL (l.getD i aX.zero).aL
        .simp only[O,Y,e4];simp[wmap]
        .simp only[O,Y,e4];simp[wmap]
       .simp only[O,Y];simp[wmap]
      .simp only[O];simp[wmap])
    (λ s L=>by unfold F7;simp) () trivial
   have B:∀(t H:List aX),l=H++t->
     walk (λ i h (_:Unit)=>some (if mL h.aL=true/\mE r h.aJ=true/\(i=0\/ltP (l.getD (i-1) aX.zero).aL h.aL)then .inl ()else .inr (.inr false))) (λ _=>Sum.inl (β:=Bool) ()) t H.length ()=
      some (if qU r t (H.getLast?.map (·.aL))=true then .inl ()else .inr false):=by
    intro t;induction t with
    |nil=>intro H _;simp[walk,qU]
    |cons h t ih=>
     intro H K;simp only[walk];have hq:(H.length=0\/ltP (l.getD (H.length-1) aX.zero).aL h.aL)↔(match H.getLast?.map (·.aL)with|none=>true|some q=>decide (ltP q h.aL))=true:=by
      rcases List.eq_nil_or_concat H with rfl|⟨pp,x,rfl⟩
      .simp
      .have:(l.getD ((pp.concat x).length-1) aX.zero)=x:=by
        rw[K];simp[cB]
       rw[this];simp
     by_cases e:mL h.aL=true/\mE r h.aJ=true/\(H.length=0\/ltP (l.getD (H.length-1) aX.zero).aL h.aL)
     .rw[cA e];have:=ih (H++[h]) (by rw[K];simp);rw[show(H++[h]).length=H.length+1 by simp]at this;simp only;have ht:qU r (h::t) (H.getLast?.map (·.aL))=qU r t (some h.aL):=by simp only[qU,e.1,e.2.1,hq.1 e.2.2,cL]
      rw[this,ht];simp
     .rw[bZ e];rw[hq]at e;have hf:qU r (h::t) (H.getLast?.map (·.aL))=false:=by
       rw[dG];intro F;simp only[qU,bX]at F;exact e ⟨F.1,F.2.1,F.2.2.1⟩
      rw[hf];rfl
   have k2:=B l [] rfl;rw[lH]at k2;rw[show(0:Int)=(λ(i:Nat) (_:Unit)=>(i:Int)) 0 ()from rfl,h0,k2];have hg:=Ng r l none
   by_cases e:qU r l none=true
   .have U:GoodP r l:=(hg.1 e).1;rw[cA (by simpa using e)];simp only[qm,MO];rw[bX0 l om,eF,bWt r _ (by simp;omega)];simp[t7,L,U]
   .have U:¬GoodP r l:=λ h=>e (hg.2 ⟨h,by simp⟩);rw[bZ (by simpa using e)];simp[U]
def Kc(p:aK)(a:aC)(l:List aX):(insP p a l).length=l.length+1:=by
 induction l with
 |nil=>rfl
 |cons h t H=>simp only[insP];split<;>simp[H]
def bX3(l:List aX)(p:aK)(a:aC):(setL l p a).length<=l.length+1:=by
 have:=GN p l;unfold setL;split
 .omega
 .rw[Kc];omega
def t8{r:aH}{l:List aX}(h:oS r l=true):l.length<=8:=by unfold oS at h;simp at h;exact h.2.1
def sS(r:aH)(l:List aX)(p:aK)(a:aC):Bool:=oS r l&&(mL p&&mE r a)
def sA(r:aH)(l:List aX)(p:aK)(a:aC):Bool:=sS r l p a&&oS r (setL l p a)
def bX7(r:aH)(l:List aX)(p:aK)(a:aC):Dk r l p a=some (sS r l p a):=by unfold Dk sS;rw[Nh,eF,gW]
def bX8(r:aH)(l:List aX)(p:aK)(a:aC):DA r l p a=some (sA r l p a):=by
 unfold DA sA;rw[bX7,eF];cases h:sS r l p a with
 |false=>simp
 |true=>
  have H:oS r l=true:=by unfold sS at h;simp at h;exact h.1
  simp only[cG];rw[bW7 l p a (by have:=t8 H;omega),eF,Nh];simp
def bX9(r:aH)(l:List aX)(p:aK)(a:aC):Dz r l p a=some (sA r l p a):=by
 unfold Dz sA;rw[Ni,eF,vN,s8,gW];change((if sS r l p a=true then _ else _):Option (List aX)).bind _=_;cases h:sS r l p a with
 |false=>unfold sS at h;simp[h]
 |true=>
  have H:oS r l=true:=by unfold sS at h;simp at h;exact h.1
  unfold sS at h;simp only[h,cG];rw[GO l p a (by have:=t8 H;omega),eF,Ni];simp
def pU(p:aK):List aV->Nat->Option Nat
 |[],_=>none
 |w::l,i=>if w.aL=p then some i else pU p l (i+1)
def oH(l:List aV)(p:aK):Int:=match pU p l 0 with
 |some i=>i
 |none=>-1
def TA(l:List aV)(p:aK):∀k i,i+k=l.length->pP (λ i=>if(l.getD i aV.zero).aL=p then some (i:Int)else none) k i=(pU p (l.drop i) i).map λ n:Nat=>(n:Int)
 |0,i,h=>by rw[gU om];rfl
 |k+1,i,h=>by
  rw[s7 l i aV.zero om];simp only[pP,pU]
  by_cases H:(l.getD i aV.zero).aL=p
  .simp only[H,cG,xm]
  .simp only[H,cH];exact TA l p k (i+1) om
def Kd(l:List aV)(p:aK)(L:l.length<4611686018427387904):yG l p=some (oH l p):=by
 unfold yG;have H:lS (Fj l p) 0=some ((pP (λ i=>if(l.getD i aV.zero).aL=p then some (Sum.inr (i:Int))else none) l.length 0).getD (Sum.inl ())):=by
  refine sQ l.length _ (Sum.inl ()) (λ i K=>?_) ?_
  .unfold Fj;rw[cA (by simpa using K),lV om];simp only[Qm,cD];split
   .rfl
   .rw[mB om om]
  .unfold Fj;rw[bZ (by simp)]
 rw[H];have U:=TA l p l.length 0 om;have Y:∀k i,pP (λ i=>if(l.getD i aV.zero).aL=p then some (Sum.inr (α:=Unit) (i:Int))else none) k i=(pP (λ i=>if(l.getD i aV.zero).aL=p then some (i:Int)else none) k i).map Sum.inr:=by
  intro k;induction k with
  |zero=>intro i;rfl
  |succ k B=>
   intro i;simp only[pP]
   by_cases O:(l.getD i aV.zero).aL=p
   .simp only[O,cG,xm]
   .simp only[O,cH,B]
 rw[Y,U,gO];unfold oH;cases pU p l 0<;>rfl
def GQ(l:List aV)(p:aK)(H:l.length<4611686018427387904):vF l p=some (oH l p):=by have e:vF l p=yG l p:=rfl;rw[e];exact Kd l p H
def Ke(w:aV):wS w=oY w:=by unfold wS oY oU mL j7 pH mE nQ rX qQ;rw[dM];simp;omega
def pZ(l:List aV):Bool:=decide (l.length<=8)&&(List.range l.length).all λ i=>oY (l.getD i aV.zero)&&decide (oH l (l.getD i aV.zero).aL=i)
def TB(l:List aV):o9 l=some (pZ l):=by
 unfold o9 pZ
 by_cases O:8<(l.length:Int)
 .rw[cA (by simpa using O)];have:¬l.length<=8:=om
  simp[this]
 .rw[bZ (by simpa using O)];have L:l.length<4611686018427387904:=om
  have H:lS (AU l) 0=some ((pP (λ i=>if(oY (l.getD i aV.zero)&&decide (oH l (l.getD i aV.zero).aL=i))=true then none else some (Sum.inr false)) l.length 0).getD (Sum.inl ())):=by
   refine sQ l.length _ (Sum.inl ()) (λ i V=>?_) ?_
   .unfold AU;rw[cA (by simpa using V),lV om];simp only[Qm]
    by_cases K:oY (l.getD i aV.zero)=true
    .simp only[K,cG,Kd l _ L,qm,cR,dP,cL]
     by_cases U:oH l (l.getD i aV.zero).aL=(i:Int)
     .simp only[U,cF,cR,bY,cH,cG];rw[mB om om]
     .simp only[U,cO,dK,cG,bY,cH]
    .have K:oY (l.getD i aV.zero)=false:=by simpa using K
     simp only[K,bY,cH,qm,dK,fT,cG,eQ]
   .unfold AU;rw[bZ (by simp)]
  rw[H,tQ,<-eP];have:l.length<=8:=om
  simp only[this,cF,cL];cases(List.range l.length).all λ i=>oY (l.getD i aV.zero)&&decide (oH l (l.getD i aV.zero).aL=i)<;>rfl
def TD(l:List aV):o5 l=some (pZ l):=by
 rw[<-TB l];unfold o5 o9
 by_cases O:8<(l.length:Int)
 .rw[cA (cP O),cA (cP O)]
 .rw[bZ (by simpa using O),bZ (by simpa using O)];have L:l.length<4611686018427387904:=om
  have e:I7 l=AU l:=funext λ i=>by
   unfold I7 AU
   by_cases K:i<(l.length:Int)
   .rw[cA (cP K),cA (cP K)]
    by_cases H:0<=i/\i<(l.length:Int)
    .rw[lV H,lV H,lV (λ _=>H)];simp only[Ke,GQ l _ L,Kd l _ L]
    .unfold gd;rw[bZ H,bZ H]
   .rw[bZ (by simpa using K)];rw[bZ (by simpa using K)]
  rw[e];rfl
def TE{p:aK}:∀{l:List aV} {i j:Nat},pU p l i=some j->i<=j/\j<i+l.length
 |w::l,i,j,h=>by
  simp only[pU]at h;split at h
  .cases h;simp
  .have:=TE h;simp only[ym];omega
def TF(l:List aV)(p:aK):oH l p=-1\/0<=oH l p/\oH l p<l.length:=by
 unfold oH;cases h:pU p l 0 with
 |none=>exact .inl rfl
 |some j=>right;have:=TE h;simp only;omega
def over(w e:aV):Bool:=decide (e.bD<w.bD)&&decide (e.bS<3)
def rQ(l:List aV)(w:aV):Nat->Nat
 |0=>0
 |k+1=>if over w (l.getD k aV.zero)=true then rQ l w k else k+1
def Kf(l:List aV)(w:aV):∀k,rQ l w k<=k
 |0=>dE _
 |k+1=>by unfold rQ;split<;>have:=Kf l w k<;>omega
def bump(e:aV):aV:={e with bS:=IntKind.i64.wrap (e.bS+1)}
def vO(l:List aV)(w:aV)(n:Nat):List aV:=l.take n++w::(l.drop n).map bump
def insS(l:List aV)(w:aV):List aV×Int×Int:=
 if pZ l=false then([],0,2)
 else if oY w=false\/w.bS≠0 then([],0,1)
 else if 0<=oH l w.aL then([],0,11)
 else if l.length=8 then([],0,4)
 else(vO l w (rQ l w l.length),(rQ l w l.length:Int),0)
def Nj{l:List aV}(h:pZ l=true):l.length<=8:=by simp only[pZ,bX,cD]at h;exact h.1
def bXp(l:List aV)(w:aV):Ba l w=some (insS l w):=by
 unfold Ba insS;rw[TD,eF];cases V:pZ l with
 |false=>rfl
 |true=>
  have h8:=Nj V;simp only[cR,bY,gH,cH,Ke]
  by_cases K:oY w=false\/w.bS≠0
  .rw[cA K,cA (by rcases K with h|h<;>simp[h])]
  .have L:oY w=true:=by simpa usingλ h=>K (.inl h)
   have U:w.bS=0:=by simpa usingλ h=>K (.inr h)
   rw[bZ K,bZ (by simp[L,U]),GQ _ _ om,eF]
   by_cases O:0<=oH l w.aL
   .rw[cA O,cA (cP O)]
   .rw[bZ O,bZ (by simpa using O)]
    by_cases B:l.length=8
    .rw[cA B,cA (cP om)]
    .rw[bZ B,bZ (by simp;omega)];have F:=Tr (body:=Jo l w) (λ g=>∃i:Nat,g=i/\i<=l.length) (λ g=>g.toNat) (λ g=>((rQ l w g.toNat:Nat):Int)) (λ g ⟨i,Z,g2⟩=>by
      subst Z;unfold Jo;cases i with
      |zero=>right;rw[lV (by simp),lV (by simp)];rfl
      |succ i=>
       have M:IntKind.i64.wrap (((i+1:Nat):Int)-1)=(i:Int):=by rw[mB om om];omega
       simp only[M,Qm];rw[lV om,lV om,gW]
       by_cases H:over w (l.getD i aV.zero)=true
       .left;rw[cA (by unfold over at H;simp only[H,fB,cD];omega)];exact⟨_,rfl,⟨i,rfl,by omega⟩,by simp only[Qm];omega,by simp only[Qm,rQ,H,cG]⟩
       .right;rw[bZ (by rw[bX];exactλ h=>H h.2)];simp only[rQ,bZ H]) (l.length:Int) ⟨l.length,rfl,dE _⟩
     rw[F,eF];simp only[Qm];have hp:=Kf l w l.length;generalize rQ l w l.length=n at hp;unfold F5;simp only[Qm];rw[lV om,lV (by simp;omega),lV (by simp;omega)];have Y:=bVe (body:=F4 l) l.length (λ i s=>.inl (s++[bump (l.getD i aV.zero)])) (λ s=>s) (λ i s=>s.length<=i+1) (λ i s hi hs=>by
      refine⟨?_,λ s' h=>by cases h;simp;omega⟩;unfold F4;rw[cA (cP (by simp only;omega)),lV (by simp only;omega),lV (by simp only;omega),mB (by simp only;omega) (by simp only;omega)];rfl) (λ s hs=>by
      unfold F4;rw[bZ (by simp)]) (l.length-n) n (l.take n++[w]) om (by simp only[cC,dC,ym,Ym];omega)
     have e3:(l.drop n).take (l.length-n)=l.drop n:=eK (by simp);rw[Y,Tt,Tv l aV.zero bump _ n om,e3,eF];simp[MM,vO]
def TG(a b:List aV)(H:a.length<4611686018427387904):l8 a b=some (decide (a=b)):=by
 unfold l8
 by_cases h:a.length=b.length
 .rw[bZ (by simp[h])];exact Nb a b aV.zero H h λ i=>rfl
 .rw[cA (by simp;omega)];have:a≠b:=λ e=>h (by rw[e]);simp[this]
def notP(p:aK)(w:aV):Bool:=!decide (w.aL=p)
def rmL(l:List aV)(p:aK):List aV:=l.filter (notP p)
def bXr(l:List aV)(p:aK):(rmL l p).length<=l.length:=iQ _ _
def Kg(l:List aV)(p:aK)(K:l.length<4294967296):wN l p=some (rmL l p,decide ((rmL l p).length<l.length)):=by
 unfold wN;have O:=bVd (body:=Fb l p) l.length (λ i s=>.inl (if notP p (l.getD i aV.zero)=true then s++[l.getD i aV.zero]else s)) (λ s=>s) (λ i s=>s.length<=i) (λ i s L U=>by
  refine⟨?_,λ Y h=>by simp only[fI]at h;subst h;split<;>first|omega|(simp only[cC,ym,Ym];omega)⟩;unfold Fb;rw[cA (cP (by simp only;omega)),lV (by simp only;omega),mB (by simp only;omega) (by simp only;omega)];simp only[Qm]
  by_cases H:(!decide ((l.getD i aV.zero).aL=p))=true
  .rw[cA H,cA (show notP p _=true from H),lV om,lV om]
  .rw[bZ H,bZ (show¬notP p _=true from H)]) (λ s U=>by
  unfold Fb;rw[bZ (by simp)]) [] (fO _)
 rw[O,Tu l aV.zero (notP p) l.length 0 [] om,lD,gO,eF];unfold L4 rmL;simp
def TH{p:aK}:∀{l:List aV} {i:Nat},pU p l i=none↔∀w∈l,w.aL≠p
 |[],i=>by simp[pU]
 |w::l,i=>by
  simp only[pU]
  by_cases h:w.aL=p
  .simp[h]
  .simp only[h,cH,TH (l:=l),cK,forall_eq_or_imp,ne_eq,iC,gC]
def bXu{l:List aV}{p:aK}:¬0<=oH l p↔∀w∈l,w.aL≠p:=by rw[<-TH (i:=0)];unfold oH;cases pU p l 0<;>simp
def bXv{w:aV}(h:oY w=true):0<=w.bS/\w.bS<=3:=by unfold oY at h;simp only[bX,cD]at h;exact⟨h.1.2,h.2⟩
def bXw(e:aV):(bump e).aL=e.aL:=rfl
def bXx(s:ByteArray):Cp s=l7 s:=by unfold Cp l7 Ai;generalize(s.toList==_)=a;generalize(s.toList==_)=b;generalize(s.toList==_)=c;generalize(s.toList==_)=d;generalize(s.toList==_)=e;cases a<;>cases b<;>cases c<;>cases d<;>cases e<;>rfl
def chI(s:ByteArray)(i:Nat):Int:=((s.toList.getD i 0).toNat:Int)
def okC(s:ByteArray)(i:Nat):Bool:=l9 (chI s i)||(!decide (i=0)&&tJ (chI s i))
def bXy(s:ByteArray)(O:s.size<=12):lS (CM s) 0=some (if(List.range s.size).all (okC s)=true then .inl ()else .inr false):=by
 have H:lS (CM s) 0=some ((pP (λ i=>if okC s i=true then none else some (Sum.inr false)) s.size 0).getD (Sum.inl ())):=by
  refine sQ s.size _ (Sum.inl ()) (λ i L=>?_) ?_
  .unfold CM;rw[cA (by simpa using L),lV om,mB om om];simp only[Qm];have e:((!((decide (97<=((s.toList.getD i 0).toNat:Int)))&&(decide (((s.toList.getD i 0).toNat:Int)<=122))))&&((decide ((i:Int)=0))||(!((((decide (48<=((s.toList.getD i 0).toNat:Int)))&&(decide (((s.toList.getD i 0).toNat:Int)<=57)))||(decide (((s.toList.getD i 0).toNat:Int)=95)))||(decide (((s.toList.getD i 0).toNat:Int)=45))))))=!okC s i:=by
    unfold okC tJ l9 chI;generalize((s.toList.getD i 0).toNat:Int)=c;rw[dM];simp;omega
   cases K:okC s i
   .rw[K]at e;exact cA e
   .rw[K]at e;exact bZ (by rw[show _=false from e];decide)
  .unfold CM;rw[bZ (by simp)]
 rw[H,tQ,<-eP];cases(List.range s.size).all (okC s)<;>rfl
def bXz(s:ByteArray)(L:s.size<=12):lS (CZ s) 0=some (if(List.range s.size).all (λ i=>tJ (chI s i))=true then .inl ()else .inr false):=by
 have H:lS (CZ s) 0=some ((pP (λ i=>if tJ (chI s i)=true then none else some (Sum.inr false)) s.size 0).getD (Sum.inl ())):=by
  refine sQ s.size _ (Sum.inl ()) (λ i K=>?_) ?_
  .unfold CZ;rw[cA (by simpa using K),lV om,mB om om];simp only[Qm];show(if(!tJ (chI s i))=true then _ else _)=_;cases tJ (chI s i)<;>rfl
  .unfold CZ;rw[bZ (by simp)]
 rw[H,tQ,<-eP];cases(List.range s.size).all (λ i=>tJ (chI s i))<;>rfl
def nY(s:ByteArray):Bool:=decide (1<=s.size)&&(decide (s.size<=12)&&(!l7 s&&(List.range s.size).all (okC s)))
def GR(s:ByteArray):vG s=some (nY s):=by
 unfold vG nY;rw[bXx]
 by_cases U:s.size<1
 .have:¬1<=s.size:=om
  rw[cA (by simp;omega)];simp[this]
 by_cases Y:12<s.size
 .have:¬s.size<=12:=om
  rw[cA (by simp;omega)];simp[this]
 cases K:l7 s
 .rw[bZ (by simp;omega),bXy s om];have H:1<=s.size:=om
  have O:s.size<=12:=om
  simp only[H,O,cF,cL,dK];cases(List.range s.size).all (okC s)<;>rfl
 .rw[cA (by simp)];simp
def Eh(s:ByteArray):uI s=some (nY s):=by
 unfold uI nY
 by_cases V:s.size<1
 .have:¬1<=s.size:=om
  rw[lV (by simp;omega),cA (by simp;omega)];simp[this]
 by_cases Z:12<s.size
 .have:¬s.size<=12:=om
  rw[lV (by simp;omega),cA (by simp;omega)];simp[this]
 have Y:1<=s.size:=om
 have O:s.size<=12:=om
 rw[lV (by intro _;omega)];have B:((s.toList.getD 0 0).toNat:Int)=chI s 0:=rfl;have F:decide ((s.size:Int)<1)=false:=by simp;omega
 have M:decide (12<(s.size:Int))=false:=by simp;omega
 simp only[Y,O,cF,cL,B,F,M,dP];have H:(List.range s.size).all (okC s)=(l9 (chI s 0)&&(List.range s.size).all λ i=>tJ (chI s i)):=by
  rw[dM];simp only[dT,eD,bX,okC,dV,dA,dL];constructor
  .intro h;refine⟨?_,λ i K=>?_⟩
   .rcases h 0 (by omega)with h|h
    .exact h
    .exact absurd rfl h.1
   .rcases h i K with h|h
    .unfold tJ;simp[h]
    .exact h.2
  .rintro⟨L,h⟩ i K
   by_cases U:i=0
   .subst U;exact .inl L
   .exact .inr ⟨U,h i K⟩
 rw[H];cases hr:l7 s
 .cases hL:l9 (chI s 0)
  .rfl
  .simp only[cR,eY,bY,cH,bXz s O,dK,cL];cases(List.range s.size).all (λ i=>tJ (chI s i))<;>rfl
 .simp
def resV(r:aH):Bool:=nY r.name&&(nQ r&&(decide (0<=r.home)&&decide (r.home<4)))
def bY2(r:aH):C0 r=some (resV r):=by unfold C0 resV;rw[GR];simp only[qm,gW]
def TJ(r:aH):AX r=some (resV r):=by unfold AX resV;rw[Eh,GP];simp only[qm,gW]
def getH(l:List aX)(p:aK):aC:=match l.find? λ h=>decide (h.aL=p)with
 |some h=>h.aJ
 |none=>aC.zero
def TL(l:List aX)(p:aK):∀k i,i+k=l.length->((pP (λ i=>if(l.getD i aX.zero).aL=p then some (Sum.inr (α:=Unit) (l.getD i aX.zero).aJ)else none) k i).getD (Sum.inl ()))=match(l.drop i).find? λ h=>decide (h.aL=p)with
  |some h=>Sum.inr h.aJ
  |none=>Sum.inl ()
 |0,i,h=>by rw[gU om];rfl
 |k+1,i,h=>by
  rw[s7 l i aX.zero om];simp only[pP,List.find?_cons]
  by_cases H:(l.getD i aX.zero).aL=p
  .simp only[H,cG,cF,Xm]
  .simp only[H,cH,cO];exact TL l p k (i+1) om
def TM(l:List aX)(p:aK)(L:l.length<4611686018427387904):l6 l p=some (getH l p):=by
 unfold l6;have H:lS (Aq l p) 0=some ((pP (λ i=>if(l.getD i aX.zero).aL=p then some (Sum.inr (α:=Unit) (l.getD i aX.zero).aJ)else none) l.length 0).getD (Sum.inl ())):=by
  refine sQ l.length _ (Sum.inl ()) (λ i K=>?_) ?_
  .unfold Aq;rw[cA (by simpa using K),lV om,mB om om];simp only[Qm,cD];split<;>rfl
  .unfold Aq;rw[bZ (by simp)]
 rw[H,TL l p l.length 0 om,gO];unfold getH;cases l.find? λ h=>decide (h.aL=p)<;>rfl
def Nk(l:List aX)(p:aK)(K:l.length<4611686018427387904):yF l p=some (getH l p):=by
 rw[<-TM l p K];unfold yF l6;have e:Ih l p=Aq l p:=funext λ i=>by
  unfold Ih Aq
  by_cases h:0<=i/\i<(l.length:Int)
  .simp only[lV h]
  .by_cases H:i<(l.length:Int)
   .rw[cA (cP H),cA (cP H),gdn h,gdn h]
   .rw[bZ (by simpa using H),bZ (by simpa using H)]
 rw[e];rfl
def xE(a:aC):nP a=oG a:=rfl
abbrev covM(a b:Int):Bool:=n5 a b
def Ei(a b:Int):covM a b=true↔(1<=a/\a<=5/\1<=b/\b<=5)/\(a=b\/a=5\/b=1\/a=4/\b≠5):=by
 unfold covM n5 rX
 by_cases h:1<=a/\a<=5/\1<=b/\b<=5
 .rw[bZ (by simp;omega)];simp;omega
 .rw[cA (by simp;omega)];simp;omega
def bY9(a b:Int):CF a b=some (covM a b):=by
 unfold CF qQ;rw[lV (by simp;omega)];congr 1;rw[dM,Ei]
 by_cases h:1<=a/\a<=5/\1<=b/\b<=5
 .obtain⟨O,U,Y,B⟩:=h;have K:a=1\/a=2\/a=3\/a=4\/a=5:=om
  have hb:b=1\/b=2\/b=3\/b=4\/b=5:=om
  rcases K with rfl|rfl|rfl|rfl|rfl<;>rcases hb with rfl|rfl|rfl|rfl|rfl<;>decide
 .constructor
  .intro H;simp only[bX,cD]at H;omega
  .rintro⟨H,_⟩;exact absurd H h
def covA(r:aH)(a b:aC):Bool:=rJ r a b
def bYa(r:aH)(a b:aC):C6 r a b=some (covA r a b):=by unfold C6 covA rJ;simp only[Eg,xE,bY9,qm];cases nK r a<;>cases nK r b<;>simp;cases H:oG a<;>cases hb:oG b<;>simp;split<;>rfl
def Nl(q:aA)(p:aK)(H:q.aS.length<4611686018427387904):AE q p=some (getH q.aS p):=by unfold AE;rw[TM _ _ H];rfl
def vP(q:aA)(p:aK)(H:q.aS.length<4611686018427387904):rI q p=some (getH q.aS p):=by unfold rI;rw[Nk _ _ H];rfl
def hb(b:Bool):b=true\/b=false:=by cases b<;>simp
def cvI(q:aA)(i:Nat):Bool:=
 let w:=q.aN.getD i aV.zero
 let h:=getH q.aS w.aL
 decide (oH q.aN w.aL=(i:Int))&&(!oG h&&(mE q.aB w.aJ&&(covA q.aB w.aJ h&&(!decide (w.aJ=h)&&(decide (w.bD=0)&&decide (w.bS=0))))))
def cvOk(q:aA):Bool:=decide (q.aN.length<=8)&&(List.range q.aN.length).all (cvI q)
def wtI(q:aA)(i:Nat):Bool:=
 let w:=q.aW.getD i aV.zero
 mE q.aB w.aJ&&oG (getH q.aS w.aL)
def wtOk(q:aA):Bool:=pZ q.aW&&(decide (q.aS.length+q.aW.length<=8)&&(List.range q.aW.length).all (wtI q))
def bYc(q:aA)(K:q.aS.length<4611686018427387904)(O:q.aN.length<=8):lS (Do q) 0=some (if(List.range q.aN.length).all (cvI q)=true then .inl ()else .inr false):=by
 have H:lS (Do q) 0=some ((pP (λ i=>if cvI q i=true then none else some (Sum.inr false)) q.aN.length 0).getD (Sum.inl ())):=by
  refine sQ q.aN.length _ (Sum.inl ()) (λ i L=>?_) ?_
  .unfold Do;rw[cA (by simpa using L),lV om,mB om om,lA];unfold cvI;generalize q.aN.getD i aV.zero=w;rw[Nl q _ K,eF,Kd _ _ (show q.aN.length<4611686018427387904 by omega),eF];simp only[bYa];rcases hb (decide (oH q.aN w.aL=(i:Int)))with c1|c1<;>rcases hb (oG (getH q.aS w.aL))with c2|c2<;>rcases hb (mE q.aB w.aJ)with c3|c3<;>rcases hb (covA q.aB w.aJ (getH q.aS w.aL))with c4|c4<;>
    rcases hb (decide (w.aJ=getH q.aS w.aL))with c5|c5<;>rcases hb (decide (w.bD=0))with c6|c6<;>rcases hb (decide (w.bS=0))with c7|c7<;>
    simp only[c1,c2,c3,c4,c5,c6,c7,cR,dK,jJ,fT,jS,dP,fB,cL,gY,eQ,cG,cH,bY,qm,eY,gK]
  .unfold Do;rw[bZ (by simp)]
 rw[H,tQ,<-eP];cases(List.range q.aN.length).all (cvI q)<;>rfl
def bYd(q:aA)(K:q.aS.length<4611686018427387904):Bc q=some (cvOk q):=by
 unfold Bc cvOk
 by_cases h:8<q.aN.length
 .have:¬q.aN.length<=8:=om
  rw[cA (by simp;omega)];simp[this]
 .have H:q.aN.length<=8:=om
  rw[bZ (by simp;omega),bYc q K H];simp only[H,cF,cL];cases(List.range q.aN.length).all (cvI q)<;>rfl
def TN(q:aA)(K:q.aS.length<4611686018427387904)(O:q.aW.length<=8):lS (A8 q) 0=some (if(List.range q.aW.length).all (wtI q)=true then .inl ()else .inr false):=by
 have H:lS (A8 q) 0=some ((pP (λ i=>if wtI q i=true then none else some (Sum.inr false)) q.aW.length 0).getD (Sum.inl ())):=by
  refine sQ q.aW.length _ (Sum.inl ()) (λ i L=>?_) ?_
  .unfold A8;rw[cA (by simpa using L),lV om,mB om om,lA];unfold wtI;generalize q.aW.getD i aV.zero=w;rw[Nl q _ K];rcases hb (oG (getH q.aS w.aL))with c2|c2<;>rcases hb (mE q.aB w.aJ)with c3|c3<;>simp only[c2,c3,cR,dK,jJ,fT,jS,dP,fB,cL,gY,eQ,cG,cH,bY,qm,eY,gK]
  .unfold A8;rw[bZ (by simp)]
 rw[H,tQ,<-eP];cases(List.range q.aW.length).all (wtI q)<;>rfl
def bYf(q:aA)(L:q.aS.length<=1000000):A9 q=some (wtOk q):=by
 unfold A9 wtOk;rw[TB,eF];cases K:pZ q.aW
 .simp
 .have H:=Nj K;rw[mB om om]
  by_cases h:8<q.aS.length+q.aW.length
  .have:¬q.aS.length+q.aW.length<=8:=om
   rw[cA (by simp;omega)];simp[this]
  .have O:q.aS.length+q.aW.length<=8:=om
   rw[bZ (by simp;omega),TN q om H];simp only[O,cF,cL];cases(List.range q.aW.length).all (wtI q)<;>rfl
def xF(q:aA):Bool:=resV q.aB&&(oS q.aB q.aS&&(cvOk q&&(wtOk q&&(decide (0<=q.gen)&&decide (q.gen<=1073741824)))))
def bYh(q:aA):Ds q=some (xF q):=by
 unfold Ds xF;rw[bY2,eF];cases resV q.aB
 .simp
 .simp only[cG,Nh,qm,cL];cases H:oS q.aB q.aS
  .simp
  .have K:=t8 H;simp only[cG,bYd q om,qm,cL];cases cvOk q
   .simp
   .simp only[cG,bYf q om,qm,cL,gW]
def bYi(q:aA)(L:q.aS.length<=1000000)(H:q.aW.length<=8):lS (Ju q) 0=some (if(List.range q.aW.length).all (wtI q)=true then .inl ()else .inr false):=by
 rw[<-TN q om H];congr 1;funext i;unfold Ju A8
 by_cases h:0<=i/\i<(q.aW.length:Int)
 .rw[cA (cP h.2),cA (cP h.2),lV h,lV h,lV (λ _=>h)];simp only[s8,xE,Nk _ _ (show q.aS.length<4611686018427387904 by omega),Nl q _ (show q.aS.length<4611686018427387904 by omega)]
 .by_cases K:i<(q.aW.length:Int)
  .rw[cA (cP K),cA (cP K),gdn h,gdn h]
  .rw[bZ (by simpa using K),bZ (by simpa using K)]
def bYj(q:aA)(L:q.aS.length<=1000000)(O:q.aN.length<=8):lS (DB q) 0=some (if(List.range q.aN.length).all (cvI q)=true then .inl ()else .inr false):=by
 have H:lS (DB q) 0=some ((pP (λ i=>if cvI q i=true then none else some (Sum.inr false)) q.aN.length 0).getD (Sum.inl ())):=by
  refine sQ q.aN.length _ (Sum.inl ()) (λ i K=>?_) ?_
  .unfold DB;rw[cA (by simpa using K),lV om,mB om om,lA];unfold cvI covA;generalize q.aN.getD i aV.zero=w;rw[Nk _ _ (show q.aS.length<4611686018427387904 by omega),eF,GQ _ _ (show q.aN.length<4611686018427387904 by omega)];simp only[xE,s8];rcases hb (decide (oH q.aN w.aL=(i:Int)))with c1|c1<;>rcases hb (oG (getH q.aS w.aL))with c2|c2<;>rcases hb (mE q.aB w.aJ)with c3|c3<;>rcases hb (rJ q.aB w.aJ (getH q.aS w.aL))with c4|c4<;>
    rcases hb (decide (w.aJ=getH q.aS w.aL))with c5|c5<;>rcases hb (decide (w.bD=0))with c6|c6<;>rcases hb (decide (w.bS=0))with c7|c7<;>
    simp only[c1,c2,c3,c4,c5,c6,c7,cR,dK,jJ,fT,jS,dP,fB,cL,gY,eQ,cG,cH,bY,qm,eY,gK]
  .unfold DB;rw[bZ (by simp)]
 rw[H,tQ,<-eP];cases(List.range q.aN.length).all (cvI q)<;>rfl
def Nm(q:aA):zG q=some (xF q):=by
 unfold zG xF cvOk wtOk;rw[TJ,eF];cases resV q.aB
 .simp
 .simp only[cG,Ni,qm,cL];cases K:oS q.aB q.aS
  .simp
  .have V:=t8 K
   by_cases F:8<q.aN.length
   .have H:¬q.aN.length<=8:=om
    have O:decide (8<(q.aN.length:Int))=true:=by simp;omega
    simp[H,O]
   .have H:q.aN.length<=8:=om
    have O:decide (8<(q.aN.length:Int))=false:=by simp;omega
    simp only[H,O,cR,eY,dK,cG,TD,qm,dP,cF,cL];cases L:pZ q.aW
    .simp
    .have B:=Nj L;simp only[cR,dP,cL];rw[mB om om]
     by_cases h:q.aS.length+q.aW.length<=8
     .by_cases U:0<=q.gen
      .by_cases Y:q.gen<=1073741824
       .rw[bZ (by simp;omega),bYj q om H];simp only[h,U,Y,cF,cL,fB];cases(List.range q.aN.length).all (cvI q)
        .rfl
        .simp only[cG,qm,cL];unfold Jv;rw[bYi q om B];cases(List.range q.aW.length).all (wtI q)<;>rfl
       .rw[cA (by simp;omega)];simp[Y]
      .rw[cA (by simp;omega)];simp[U]
     .rw[cA (by simp;omega)];simp[h]
def nR(q:aA):aV×Bool:=match q.aN++q.aW with
 |w::_=>(w,true)
 |[]=>(aV.zero,false)
def TO(q:aA):Cr q=some (nR q):=by
 unfold Cr nR;cases q.aN with
 |cons a l=>rw[cA (by simp),lV (by simp)];rfl
 |nil=>
  rw[bZ (by simp)];cases q.aW with
  |cons a l=>rw[cA (by simp),lV (by simp)];rfl
  |nil=>rw[bZ (by simp)];rfl
def TP(q:aA):Cu q=some (nR q):=by rw[<-TO];rfl
def mK(q:aA):Bool:=xF q&&!((nR q).2&&sA q.aB q.aS (nR q).1.aL (nR q).1.aJ)
def bYn(q:aA):Gc q=some (mK q):=by
 unfold Gc mK;rw[bYh,eF];cases xF q
 .simp
 .rw[bZ (by simp),TO,eF];cases(nR q).2<;>simp[bX8]
def TQ(q:aA):Bl q=some (mK q):=by
 unfold Bl mK;rw[Nm,eF];cases xF q
 .simp
 .rw[bZ (by simp),TP,eF];cases(nR q).2<;>simp[bX9]
def bYp(q:aA):Gd q=some (mK q):=by unfold Gd;rw[bYn];rfl
def GS(q:aA):wY q=some (mK q):=by
 unfold wY;rw[Nm,eF];cases h:xF q
 .simp[mK,h]
 .simp[TQ]
def bYr(a b:List aX)(H:a.length<4611686018427387904):Aw a b=some (decide (a=b)):=by
 unfold Aw
 by_cases h:a.length=b.length
 .rw[bZ (by simp[h])];exact Nb a b aX.zero H h (λ i=>rfl)
 .rw[cA (by simp;omega)];have:a≠b:=λ e=>h (by rw[e]);simp[this]
instance:DecidableEq aA:=λ a b=>decidable_of_iff (a.aB=b.aB/\a.aS=b.aS/\a.aN=b.aN/\a.aW=b.aW/\a.gen=b.gen) (by rw[aA.ext_iff])
def bYs(a b:aA)(F:a.aS.length<4611686018427387904)(M:a.aN.length<4611686018427387904)(K:a.aW.length<4611686018427387904):CL a b=some (decide (a=b)):=by
 unfold CL;simp only[bYr _ _ F,TG _ _ M,TG _ _ K];have e:decide (a=b)=(decide (a.aB=b.aB)&&(decide (a.gen=b.gen)&&(decide (a.aS=b.aS)&&(decide (a.aN=b.aN)&&decide (a.aW=b.aW))))):=by
  rw[dM];simp only[cD,bX,aA.ext_iff];constructor
  .rintro⟨H,O,U,Y,B⟩;exact⟨H,B,O,U,Y⟩
  .rintro⟨H,B,O,U,Y⟩;exact⟨H,O,U,Y,B⟩
 rw[e];cases decide (a.aB=b.aB)<;>cases decide (a.gen=b.gen)<;>cases decide (a.aS=b.aS)<;>cases decide (a.aN=b.aN)<;>cases decide (a.aW=b.aW)<;>rfl
def bYt(a b:List aV)(K:a.length<=1000000)(hb:b.length<=1000000):Ax [a,b]=some (a++b):=by
 unfold Ax;have H:m7 [a,b] (0,0)=some (.inl ((a.length:Int),1)):=by unfold m7;rw[cA (by simp),lV (by simp)];show(if decide (IntKind.i64.wrap (0+(a.length:Int))<0)=true then none else some (Sum.inl (IntKind.i64.wrap (0+(a.length:Int)),_)))=_;rw[mB om om,bZ (by simp),Int.zero_add];rfl
 have O:m7 [a,b] ((a.length:Int),1)=some (.inl ((a.length:Int)+(b.length:Int),2)):=by unfold m7;rw[cA (by simp),lV (by simp)];show(if decide (IntKind.i64.wrap ((a.length:Int)+(b.length:Int))<0)=true then none else some (Sum.inl (IntKind.i64.wrap ((a.length:Int)+(b.length:Int)),_)))=_;rw[mB om om,bZ (by simp;omega)];rfl
 have U:m7 [a,b] ((a.length:Int)+(b.length:Int),2)=some (.inr ((a.length:Int)+(b.length:Int))):=by unfold m7;rw[bZ (by simp)]
 rw[mF,H];simp only;rw[mF,O];simp only;rw[mF,U];simp only[qm];unfold IG Ix;rw[lV om,eF];have Y:m6 [a,b] (0,[])=some (.inl (1,a)):=by unfold m6;rw[cA (by simp),lV (by simp),lV (by simp;omega)];rfl
 have B:m6 [a,b] (1,a)=some (.inl (2,a++b)):=by unfold m6;rw[cA (by simp),lV (by simp),lV (by simp;omega)];rfl
 have F:m6 [a,b] (2,a++b)=some (.inr (a++b)):=by unfold m6;rw[bZ (by simp)]
 rw[mF,Y];simp only;rw[mF,B];simp only;rw[mF,F];rfl
def bYu(q:aA)(H:q.aN.length<=1000000)(O:q.aW.length<=1000000):CX q=some (q.aN++q.aW):=by unfold CX;rw[bYt _ _ H O];rfl
def u6(l:List aV)(p:aK):aC×Bool:=match l.find? λ w=>decide (w.aL=p)with
 |some w=>(w.aJ,true)
 |none=>(aC.zero,false)
def nA(q:aA)(p:aK):aC×Bool:=u6 (q.aN++q.aW) p
def upM(a b g:Int):Bool:=covM g a&&covM g b
def supM(a b:Int):Int:=if upM a b 1=true then 1 else if upM a b 2=true then 2 else if upM a b 3=true then 3 else if upM a b 4=true then 4 else if upM a b 5=true then 5 else 0
def bYw{body:Int->Option (Int⊕(Unit⊕Int))}(a b:Int)(H:∀g,1<=g->g<=5->body g=some (if upM a b g=true then .inr (.inr g)else .inl (g+1)))(F:body 6=some (.inr (.inl ()))):
  (lS body 1).bind (λ|.inl _=>some 0|.inr z=>some z)=some (supM a b):=by
 unfold supM;rw[mF,H 1 Om Om]
 by_cases O:upM a b 1=true
 .simp[O]
 simp only[O,bY,cH];rw[show(1:Int)+1=2 from rfl,mF,H 2 Om Om]
 by_cases K:upM a b 2=true
 .simp[K]
 simp only[K,bY,cH];rw[show(2:Int)+1=3 from rfl,mF,H 3 Om Om]
 by_cases U:upM a b 3=true
 .simp[U]
 simp only[U,bY,cH];rw[show(3:Int)+1=4 from rfl,mF,H 4 Om Om]
 by_cases Y:upM a b 4=true
 .simp[Y]
 simp only[Y,bY,cH];rw[show(4:Int)+1=5 from rfl,mF,H 5 Om Om]
 by_cases B:upM a b 5=true
 .simp[B]
 simp only[B,bY,cH];rw[show(5:Int)+1=6 from rfl,mF,F];rfl
def bYx(a b:Int):C2 a b=some (supM a b):=by
 refine bYw a b (λ g O H=>?_) ?_
 .unfold I2;rw[cA (by simpa using H),mB om om];rcases hb (covM g a)with c|c<;>rcases hb (covM g b)with d|d<;>simp[upM,c,d]
 .unfold I2;rw[bZ Om]
def qV(r:aH)(a b:aC):aC:=
 if(!nK r a||!nK r b)=true then aC.zero else
 if oG a=true then b else if oG b=true then a else
 if r.kind=1 then{aC.zero with mode:=supM a.mode b.mode}else{aC.zero with aT:=if a.aT<b.aT then b.aT else a.aT}
def bYz:∀a∈[(1:Int),2,3,4,5],∀b∈[(1:Int),2,3,4,5],covM a b=true->supM a b=a:=by decide
def bZ0:∀a∈[(1:Int),2,3,4,5],∀b∈[(1:Int),2,3,4,5],covM b a=true->supM a b=b:=by decide
def TR(r:aH)(a b:aC):A5 r a b=some (qV r a b):=by
 unfold A5 qV;simp only[Eg,bYx,qm];cases V:nK r a
 .simp
 cases K:nK r b
 .simp
 simp only[cR,eY,bY,cH];unfold rJ;simp only[Eg,xE,V,K,cR,eY,bY,cH];rcases hb (oG a)with hza|hza<;>rcases hb (oG b)with hzb|hzb
 rotate_left 3
 .simp only[hza,hzb,bY,cH]
  by_cases O:r.kind=1
  .have pa:=Bw V O;have pb:=Bw K O;have na:a.mode≠0:=λ h=>by
    have:a=aC.zero:=by cases a;simp only at*;simp[aC.zero];omega
    rw[this]at hza;exact absurd hza Om
   have nb:b.mode≠0:=λ h=>by
    have:b=aC.zero:=by cases b;simp only at*;simp[aC.zero];omega
    rw[this]at hzb;exact absurd hzb Om
   have F:a.mode∈[(1:Int),2,3,4,5]:=by simp;omega
   have M:b.mode∈[(1:Int),2,3,4,5]:=by simp;omega
   have Y:a={aC.zero with mode:=a.mode}:=by cases a;simp only at*;simp[aC.zero];omega
   have B:b={aC.zero with mode:=b.mode}:=by cases b;simp only at*;simp[aC.zero];omega
   simp only[O,cF,cG]
   by_cases H:covM a.mode b.mode=true
   .rw[cA H,bYz _ F _ M H];exact eA some Y
   .rw[bZ H]
    by_cases L:covM b.mode a.mode=true
    .rw[cA L,bZ0 _ F _ M L];exact eA some B
    .rw[bZ L]
  .have U:r.kind=2:=by
    have:=V;rw[perm_iff,sR,rC]at this;omega
   have pa:=J9 V U;have pb:=J9 K U;have Y:a={aC.zero with aT:=a.aT}:=by cases a;simp only at*;simp[aC.zero];omega
   have B:b={aC.zero with aT:=b.aT}:=by cases b;simp only at*;simp[aC.zero];omega
   have d:decide (r.kind=1)=false:=by simpa using O
   simp only[d,O,bY,cH,cD]
   by_cases H:b.aT<=a.aT
   .have:¬a.aT<b.aT:=om
    rw[cA H,bZ this];exact eA some Y
   .have:a.aT<b.aT:=om
    have L:a.aT<=b.aT:=om
    rw[bZ H,cA L,cA this];exact eA some B
 .have Z:a=aC.zero:=by unfold oG at hza;simpa using hza
  have e1:b=aC.zero:=by unfold oG at hzb;simpa using hzb
  simp only[hza,hzb,cG];rw[Z,e1]
 .simp only[hza,hzb,cG,bY,cH]
 .simp only[hza,hzb,cG,bY,cH]
def bZ2(g:Int):oO g=oO g:=rfl
def Kh(q:aA)(H:q.aS.length<=1000000)(O:q.aN.length<=1000000)(U:q.aW.length<=1000000):yN q=some q:=by unfold yN;rw[lV om,lV om,lV om]
def bZ4(q:aA)(H:q.aS.length<=1000000)(O:q.aN.length<=1000000)(U:q.aW.length<=1000000):Cy q=some q:=by unfold Cy;rw[lV om,lV om,lV om]
def popQ(q:aA):aA:=
 if 0<q.aN.length then{q with aS:=setL q.aS (nR q).1.aL (nR q).1.aJ,aN:=q.aN.drop 1}
 else{q with aS:=setL q.aS (nR q).1.aL (nR q).1.aJ,aW:=q.aW.drop 1}
def canQ(q:aA):Bool:=(nR q).2&&sA q.aB q.aS (nR q).1.aL (nR q).1.aJ
def zS(s:aA×List aX):aA×List aX:=(popQ s.1,s.2++[⟨(nR s.1).1.aL,(nR s.1).1.aJ⟩])
def advN:Nat->aA×List aX->aA×List aX
 |0,s=>s
 |n+1,s=>if canQ s.1=true then advN n (zS s)else s
def oZ(q:aA):Nat:=q.aN.length+q.aW.length
def advQ(q:aA):aA×List aX:=advN (oZ q) (q,[])
def Ej{q:aA}(h:canQ q=true):0<oZ q/\oZ (popQ q)+1=oZ q/\q.aS.length<=8:=by
 unfold canQ at h;simp only[bX]at h;obtain⟨H,O⟩:=h;have U:oS q.aB q.aS=true:=by unfold sA sS at O;simp only[bX]at O;exact O.1.1
 refine⟨?_,?_,t8 U⟩
 .unfold nR at H;unfold oZ;cases K:q.aN with
  |cons a l=>simp;omega
  |nil=>
   cases L:q.aW with
   |cons a l=>simp
   |nil=>simp[K,L]at H
 .unfold nR at H;unfold oZ popQ;cases K:q.aN with
  |cons a l=>simp;omega
  |nil=>
   cases L:q.aW with
   |cons a l=>simp
   |nil=>simp[K,L]at H
def Nn(s:aA×List aX):advN (oZ s.1) s=if canQ s.1=true then advN (oZ (zS s).1) (zS s)else s:=by
 cases K:canQ s.1 with
 |false=>
  cases L:oZ s.1 with
  |zero=>rfl
  |succ n=>simp[advN,K]
 |true=>obtain⟨O,H,_⟩:=Ej K;have:oZ s.1=oZ (popQ s.1)+1:=H.symm;rw[this];simp[advN,K,zS]
def No(p:aK):∀(l:List aV) (i:Nat),match pU p l i with
  |some j=>i<=j/\(l.find? λ w=>decide (w.aL=p))=some (l.getD (j-i) aV.zero)
  |none=>(l.find? λ w=>decide (w.aL=p))=none
 |[],i=>rfl
 |w::l,i=>by
  simp only[pU,List.find?_cons]
  by_cases O:w.aL=p
  .simp[O]
  .have H:=No p l (i+1);simp only[O,cH,cO];cases K:pU p l (i+1)with
   |none=>rw[K]at H;exact H
   |some j=>rw[K]at H;obtain⟨Y,U⟩:=H;refine⟨by omega,?_⟩;rw[U,show j-i=(j-(i+1))+1 by omega,gT]
def TS(l:List aV)(p:aK):u6 l p=if 0<=oH l p then((l.getD (oH l p).toNat aV.zero).aJ,true)else(aC.zero,false):=by
 have h:=No p l 0;unfold u6 oH;cases K:pU p l 0 with
 |none=>rw[K]at h;simp only at h;rw[h];rfl
 |some j=>rw[K]at h;obtain⟨_,H⟩:=h;rw[H,cA (by simp only;omega)];simp
def bZb(l m:List aV)(p:aK):u6 (l++m) p=if 0<=oH l p then u6 l p else u6 m p:=by
 have h:=No p l 0;unfold u6 oH;rw[List.find?_append];cases K:pU p l 0 with
 |none=>rw[K]at h;simp only at h;rw[h,bZ Om];rfl
 |some j=>rw[K]at h;obtain⟨_,H⟩:=h;rw[H,cA (by simp only;omega)];rfl
def u7(q:aA)(p:aK)(O:q.aN.length<=1000000)(U:q.aW.length<=1000000):tH q p=some (nA q p):=by
 unfold tH nA;rw[GQ _ _ om,eF,bZb,TS q.aN,TS q.aW];have Y:=TF q.aN p;have B:=TF q.aW p
 by_cases H:0<=oH q.aN p
 .rw[cA (cP H),lV om,cA H,cA H]
 .rw[bZ (by simpa using H),bZ H,GQ _ _ om,eF]
  by_cases K:0<=oH q.aW p
  .rw[cA (cP K),lV om,cA K]
  .rw[bZ (by simpa using K),bZ K]
def optI(o:Option Nat):Int:=match o with
 |some i=>(i:Int)
 |none=>-1
def bZc(l:List aV)(p:aK):oH l p=optI (pU p l 0):=rfl
def bZd(o:Option Nat):optI (o.map (·+1))=if 0<=optI o then optI o+1 else-1:=by
 cases o with
 |none=>rfl
 |some n=>have h:(0:Int)<=optI (some n):=Int.natCast_nonneg n;rw[cA h];exact Int.natCast_succ n
def Np{l:List aV}:(∀i,i<l.length->oH l (l.getD i aV.zero).aL=i)↔(l.map (·.aL)).Nodup:=by
 induction l with
 |nil=>simp
 |cons w l B=>
  rw[dJ,iN];have O:∀p i,pU p l (i+1)=(pU p l i).map (·+1):=by
   intro p
   clear B
   induction l with
   |nil=>intro i;rfl
   |cons x l B=>intro i;simp only[pU];split<;>simp[B]
  have H:∀i,oH (w::l) (l.getD i aV.zero).aL=if w.aL=(l.getD i aV.zero).aL then 0 else if 0<=oH l (l.getD i aV.zero).aL then oH l (l.getD i aV.zero).aL+1 else-1:=λ i=>by
   simp only[bZc,pU,O]
   by_cases h:w.aL=(l.getD i aV.zero).aL
   .simp[h,optI]
   .simp only[h,cH];exact bZd _
  constructor
  .intro h;have F:∀i,i<l.length->w.aL≠(l.getD i aV.zero).aL/\oH l (l.getD i aV.zero).aL=i:=λ i K=>by
    have:=h (i+1) (by simpa using K);rw[gT,H]at this;split at this
    .omega
    .rename_i U;split at this
     .exact⟨U,by omega⟩
     .omega
   refine⟨λ hm=>?_,B.1 λ i K=>(F i K).2⟩;obtain⟨x,L,M⟩:=cQ.1 hm;obtain⟨i,K,rfl⟩:=fY.1 L;have:=(F i K).1;rw[cB,cE K]at this;exact this M.symm
  .rintro⟨F,V⟩ i K;have Z:=B.2 V;cases i with
   |zero=>simp[oH,pU]
   |succ i=>
    have Y:i<l.length:=by simpa using K
    have U:w.aL≠(l.getD i aV.zero).aL:=λ e=>F (cQ.2 ⟨l.getD i aV.zero,by
     rw[cB,cE Y];exact iK Y,e.symm⟩)
    rw[gT,H,bZ U,Z i Y,cA om];omega
def GT(l:List aV):pZ l=true↔l.length<=8/\(∀w∈l,oY w=true)/\(l.map (·.aL)).Nodup:=by
 unfold pZ;simp only[bX,cD,dT,eD];constructor
 .rintro⟨O,H⟩;refine⟨O,λ w L=>?_,Np.1 λ i K=>(H i K).2⟩;obtain⟨i,K,rfl⟩:=fY.1 L;have:=(H i K).1;rwa [cB,cE K]at this
 .rintro⟨O,H,U⟩;refine⟨O,λ i K=>⟨H _ ?_,Np.2 U i K⟩⟩;rw[cB,cE K];exact iK K
def TT{l:List aV}(p:aK)(h:pZ l=true):pZ (rmL l p)=true:=by rw[GT]at h⊢;refine⟨dF (bXr l p) h.1,λ w H=>h.2.1 w ((gR.1 H).1),?_⟩;exact(h.2.2).sublist ((iZ).map _)
def TU(l:List aV)(w:aV):∀k i,rQ l w k<=i->i<k->over w (l.getD i aV.zero)=true
 |k+1,i,K,O=>by
  unfold rQ at K;split at K
  .rename_i H
   by_cases L:i=k
   .subst L;exact H
   .exact TU l w k i K om
  .omega
def bZi{l:List aV}{w e:aV}(h:e∈l.drop (rQ l w l.length)):over w e=true:=by obtain⟨i,H,rfl⟩:=fY.1 h;have:=TU l w l.length (rQ l w l.length+i) om (by simp at H;omega);rw[List.getElem_drop];rwa [cB,cE (by simp at H;omega)]at this
def bZj{w e:aV}(h:oY e=true)(ho:over w e=true):oY (bump e)=true/\(bump e).bS=e.bS+1:=by
 have O:=bXv h;have U:e.bS<3:=by unfold over at ho;simp at ho;exact ho.2
 have H:(bump e).bS=e.bS+1:=by unfold bump;simp only;rw[mB om om]
 refine⟨?_,H⟩;unfold oY at h⊢;simp only[bX,cD]at h⊢;rw[H];exact⟨⟨h.1.1,by omega⟩,by omega⟩
def bZk(l:List aV)(w:aV)(n:Nat):(vO l w n).map (·.aL)=(l.take n).map (·.aL)++w.aL::(l.drop n).map (·.aL):=by unfold vO;rw[fG,dJ,kV];rfl
def bZl{l:List aV}{w:aV}(h:pZ l=true)(L:oY w=true)(O:∀e∈l,e.aL≠w.aL)(V:l.length<8):pZ (vO l w (rQ l w l.length))=true:=by
 rw[GT]at h⊢;have F:=Kf l w l.length;have Y:=λ e=>bZi (l:=l) (w:=w) (e:=e);generalize rQ l w l.length=n at F Y;refine⟨by simp[vO];omega,λ e H=>?_,?_⟩
 .simp only[vO,cX,cK,cQ]at H;rcases H with H|rfl|⟨x,K,rfl⟩
  .exact h.2.1 e (iD H)
  .exact L
  .exact(bZj (h.2.1 x (iU K)) (Y x K)).1
 .rw[bZk];have B:=h.2.2;rw[<-eV n l,fG]at B;have U:w.aL∉(l.take n).map (·.aL)++(l.drop n).map (·.aL):=by
   rw[<-fG,eV];intro hm;obtain⟨x,K,H⟩:=cQ.1 hm;exact O x K H
  exact(List.perm_middle.nodup_iff).2 (iN.2 ⟨U,B⟩)
end Ab
end Go.Proofs.YtfmnjkfhahfhgaaGreatDoor
