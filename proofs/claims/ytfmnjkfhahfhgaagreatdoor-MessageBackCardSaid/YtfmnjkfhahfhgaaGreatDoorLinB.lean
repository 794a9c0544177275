import Derived.Test.YtfmnjkfhahfhgaaGreatDoorAuto
import Derived.Test.YtfmnjkfhahfhgaaGreatDoorHm29
namespace Go.Proofs.YtfmnjkfhahfhgaaGreatDoor
namespace Ab
set_option linter.defProp false
set_option linter.unusedSimpArgs false
set_option linter.unusedVariables false
def mB{x:Int}(H:-9223372036854775808<=x)(O:x<9223372036854775808):IntKind.i64.wrap x=x:=by rw[IntKind.wrap_i64];omega
def Ut{G X:Type}{body:G->Option (G⊕X)}(I:G->Prop)(μ:G->Nat)(H:G->X)
  (h:∀g,I g->(∃O,body g=some (.inl O)/\I O/\μ O<μ g/\H O=H g)\/body g=some (.inr (H g))):∀g,I g->lY body g=some (H g):=by
 have U:∀n g,μ g=n->I g->lY body g=some (H g):=by
  intro n;induction n using Nat.strongRecOn with
  |_ n Y=>
   intro g B hg;rw[mJ];rcases h g hg with⟨O,h1,F,M,K⟩|h1
   .rw[h1];simp only;rw[Y (μ O) (B▸M) O rfl F,K]
   .rw[h1]
 exactλ g hg=>U _ g rfl hg
def qA{X:Type}(H:Nat->Option X):Nat->Nat->Option X
 |0,_=>none
 |n+1,i=>match H i with
  |some x=>some x
  |none=>qA H n (i+1)
def tP{X:Type}{body:Int->Option (Int⊕X)}(n:Nat)(H:Nat->Option X)(O:X)
  (h:∀i:Nat,i<n->body i=some (match H i with|some x=>.inr x|none=>.inl ((i:Int)+1))) (U:body n=some (.inr O)):lY body 0=some ((qA H n 0).getD O):=by
 have Y:∀k i,i+k=n->lY body (i:Int)=some ((qA H k i).getD O):=by
  intro k;induction k with
  |zero=>intro i K;rw[mJ,show i=n by omega,U];rfl
  |succ k B=>
   intro i K;rw[mJ,h i om];simp only[qA];cases L:H i with
   |some x=>rfl
   |none=>simp only;have:=B (i+1) om;rw[show((i+1:Nat):Int)=(i:Int)+1 by omega]at this;exact this
 exact Y n 0 om
def vN{S X:Type}(H:Nat->S->S⊕X)(O:S->X):Nat->Nat->S->X
 |0,_,s=>O s
 |n+1,i,s=>match H i s with
  | .inl U=>vN H O n (i+1) U
  | .inr x=>x
def bVj{S X:Type}{body:Int×S->Option ((Int×S)⊕X)}(n:Nat)(H:Nat->S->S⊕X)(U:S->X)(O:Nat->S->Prop)
  (h:∀i s,i<n->O i s->body ((i:Int),s)=some (match H i s with|.inl Y=>.inl ((i:Int)+1,Y)|.inr x=>.inr x)/\∀Y,H i s=.inl Y->O (i+1) Y)
  (B:∀s,O n s->body ((n:Int),s)=some (.inr (U s))) (s0:S) (K:O 0 s0):lY body (0,s0)=some (vN H U n 0 s0):=by
 have F:∀k i s,i+k=n->O i s->lY body ((i:Int),s)=some (vN H U k i s):=by
  intro k;induction k with
  |zero=>intro i s L M;rw[mJ,show i=n by omega,B s (by rw[<-show i=n by omega];exact M)];rfl
  |succ k ih=>
   intro i s L M;obtain⟨V,Z⟩:=h i s om M;rw[mJ,V];simp only[vN];cases ho:H i s with
   |inr x=>rfl
   |inl Y=>simp only;have:=ih (i+1) Y om (Z Y ho);rw[show((i+1:Nat):Int)=(i:Int)+1 by omega]at this;exact this
 exact F n 0 s0 om K
def nV{G X:Type}{body:G->Option (G⊕X)}(I:G->Prop)(μ:G->Nat)(Post:X->Prop)
  (h:∀g,I g->(∃H,body g=some (.inl H)/\I H/\μ H<μ g)\/∃x,body g=some (.inr x)/\Post x):∀g,I g->∃x,lY body g=some x/\Post x:=by
 have O:∀n g,μ g=n->I g->∃x,lY body g=some x/\Post x:=by
  intro n;induction n using Nat.strongRecOn with
  |_ n B=>
   intro g F hg;rw[mJ];rcases h g hg with⟨H,U,Y,M⟩|⟨x,U,Y⟩
   .rw[U];exact B (μ H) (F▸M) H rfl Y
   .rw[U];exact⟨x,rfl,Y⟩
 exactλ g hg=>O _ g rfl hg
def bVk{S X:Type}{body:Int×S->Option ((Int×S)⊕X)}(n:Nat)(H:Nat->S->S⊕X)(Y:S->X)(O:Nat->S->Prop)
  (h:∀i s,i<n->O i s->body ((i:Int),s)=some (match H i s with|.inl U=>.inl ((i:Int)+1,U)|.inr x=>.inr x)/\∀U,H i s=.inl U->O (i+1) U)
  (B:∀s,O n s->body ((n:Int),s)=some (.inr (Y s))):∀k i s,i+k=n->O i s->lY body ((i:Int),s)=some (vN H Y k i s):=by
 intro k;induction k with
 |zero=>intro i s K F;rw[mJ,show i=n by omega,B s (by rw[<-show i=n by omega];exact F)];rfl
 |succ k M=>
  intro i s K F;obtain⟨L,V⟩:=h i s om F;rw[mJ,L];simp only[vN];cases Z:H i s with
  |inr x=>rfl
  |inl U=>simp only;have:=M (i+1) U om (V U Z);rw[show((i+1:Nat):Int)=(i:Int)+1 by omega]at this;exact this
def uP(p:Nat->Bool){U:Type}:∀k i,qA (λ i=>if p i=true then none else some (Sum.inr (α:=U) false)) k i=if(List.range' i k).all p=true then none else some (.inr false)
 |0,i=>rfl
 |k+1,i=>by
  simp only[qA,hI,List.all_cons];cases H:p i with
  |true=>simp only[cH,cN];exact uP p k (i+1)
  |false=>simp
def Uu{α:Type}[DecidableEq α](a b:List α)(z:α)(h:a.length=b.length):((List.range a.length).all λ i=>decide (a.getD i z=b.getD i z))=decide (a=b):=by
 rw[dR];simp only[dQ,eH,cC];constructor
 .intro O;refine kT h λ i H U=>?_;have:=O i H;rwa [cD,cD,cE H,cE U]at this
 .rintro rfl i _;rfl
def N7{α:Type}[DecidableEq α](a b:List α)(z:α){body:Int->Option (Int⊕(Unit⊕Bool))}(L:a.length<4611686018427387904)(h:a.length=b.length)
  (hb:∀i:Int,body i=if(decide (i<(a.length:Int)))=true then gd (0<=i/\i<(a.length:Int))<|gd (0<=i/\i<(b.length:Int))<|
   (if(!decide (a.getD i.toNat z=b.getD i.toNat z))=true then some (.inr (.inr false))else some (.inl (IntKind.i64.wrap (i+1))))else some (.inr (.inl ()))):
  (lY body 0).bind (λ|.inl _=>some true|.inr z=>some z)=some (decide (a=b)):=by
 have H:lY body 0=some ((qA (λ i=>if decide (a.getD i z=b.getD i z)=true then none else some (Sum.inr false)) a.length 0).getD (Sum.inl ())):=by
  refine tP a.length _ (Sum.inl ()) (λ i O=>?_) ?_
  .rw[hb,cB (cQ om),mD om,mD om];simp only[Qm]
   by_cases K:a.getD i z=b.getD i z
   .simp only[K,cF,cR,bZ,cI,cH];rw[mB om om]
   .simp only[K,cP,dL,cH,bZ,cI]
  .rw[hb,bX (by simp)]
 rw[H,uP,<-eZ,Uu a b z h];cases decide (a=b)<;>rfl
def Uv{α:Type}(f:Nat->α):∀n i (s:List α),vN (X:=List α) (λ i s=>.inl (s++[f i])) (λ s=>s) n i s=s++(List.range' i n).map f
 |0,i,s=>by simp[vN]
 |n+1,i,s=>by simp[vN,Uv f n (i+1),hI]
def Uw{α:Type}(l:List α)(z:α)(p:α->Bool):∀n i (s:List α),i+n=l.length->vN (X:=List α) (λ i s=>.inl (if p (l.getD i z)=true then s++[l.getD i z]else s)) (λ s=>s) n i s=s++(l.drop i).filter p
 |0,i,s,h=>by simp[vN,gZ (show l.length<=i by omega)]
 |n+1,i,s,h=>by
  have H:l.drop i=l.getD i z::l.drop (i+1):=by rw[gL (show i<l.length by omega),cD,cE (show i<l.length by omega)];rfl
  rw[H];simp only[vN,Uw l z p n (i+1) _ om,jV];split<;>simp
def l5{α:Type}(l:List α)(i:Nat)(z:α)(h:i<l.length):l.drop i=l.getD i z::l.drop (i+1):=by rw[gL h,cD,cE h];rfl
def Ux{α β:Type}(l:List α)(z:α)(f:α->β):∀n i,i+n<=l.length->(List.range' i n).map (λ i=>f (l.getD i z))=((l.drop i).take n).map f
 |0,i,h=>by simp
 |n+1,i,h=>by rw[l5 l i z om,lT,hI,dO,dO,Ux l z f n (i+1) om]
def Uy{α:Type}(l:List α)(i n:Nat)(z:α)(h:i<n):(l.take n).getD i z=l.getD i z:=by rw[cD,cD,eA,cB h]
def sA{α:Type}(l:List α)(i:Nat)(x z:α)(h:i<l.length):(l.set i x).getD i z=x:=by rw[cD,lQ h];rfl
def Uz{α:Type}(l m:List α)(i:Nat)(z:α)(h:i<l.length):(l++m).getD i z=l.getD i z:=by rw[cD,cD,dX h]
def walk{α S X:Type}(H:Nat->α->S->Option (S⊕X))(O:S->X):List α->Nat->S->Option X
 |[],_,s=>some (O s)
 |a::l,i,s=>match H i a s with
  |none=>none
  |some (.inl s')=>walk H O l (i+1) s'
  |some (.inr x)=>some x
def wmap{G S X:Type}(H:S->G):S⊕X->G⊕X
 | .inl s=>.inl (H s)
 | .inr x=>.inr x
def rD{α S X G:Type}{body:G->Option (G⊕X)}(l:List α)(z:α)(Y:Nat->S->G)(H:Nat->α->S->Option (S⊕X))(U:S->X)(O:Nat->S->Prop)
  (hb:∀i s,i<l.length->O i s->body (Y i s)=(H i (l.getD i z) s).map (wmap (Y (i+1)))/\∀B,H i (l.getD i z) s=some (.inl B)->O (i+1) B)
  (K:∀s,O l.length s->body (Y l.length s)=some (.inr (U s))) (s0:S) (L:O 0 s0):lY body (Y 0 s0)=walk H U l 0 s0:=by
 have F:∀k i s,i+k=l.length->O i s->lY body (Y i s)=walk H U (l.drop i) i s:=by
  intro k;induction k with
  |zero=>
   intro i s V M;have:i=l.length:=om
   subst this;rw[mJ,K s M,iO];rfl
  |succ k ih=>
   intro i s V M;obtain⟨Z,h2⟩:=hb i s om M;rw[mJ,Z,l5 l i z om];simp only[walk];cases ho:H i (l.getD i z) s with
   |none=>rfl
   |some y=>
    cases y with
    |inl B=>exact ih (i+1) B om (h2 B ho)
    |inr x=>rfl
 have:=F l.length 0 s0 om L;rwa [fT]at this
def wP{α S X G:Type}{body:G->Option (G⊕X)}(l:List α)(z:α)(U:Nat->S->G)(H:Nat->α->S->Option (S⊕X))(O:S->X)
  (hb:∀i s,i<l.length->body (U i s)=(H i (l.getD i z) s).map (wmap (U (i+1))))
  (Y:∀s,body (U l.length s)=some (.inr (O s))) (s0:S):lY body (U 0 s0)=walk H O l 0 s0:=
 rD l z U H O (λ _ _=>True) (λ i s h _=>⟨hb i s h,λ _ _=>trivial⟩) (λ s _=>Y s) s0 trivial
def mF(i:Nat)(h:i<4611686018427387904):IntKind.i64.wrap ((i:Int)+1)=((i+1:Nat):Int):=by rw[mB om om];omega
def l6(i:Nat)(h:i<4611686018427387904)(H:0<i):IntKind.i64.wrap ((i:Int)-1)=((i-1:Nat):Int):=by rw[mB om om];omega
def gdp{α:Type}{p:Prop}[Decidable p]{k:Option α}(h:p):gd p k=k:=cB h
@[simp] theorem mL{α:Type}[Decidable True](k:Option α):gd True k=k:=cB trivial
@[simp] theorem bVv{α:Type}[Decidable False](k:Option α):gd False k=none:=bX (λ h=>h)
def gdn{α:Type}{p:Prop}[Decidable p]{k:Option α}(h:¬p):gd p k=none:=bX h
def sH{β:Type}(s:List β):Option β->List β
 |some b=>s++[b]
 |none=>s
def bVx{β:Type}(s:List β)(o:Option β):(sH s o).length<=s.length+1:=by cases o<;>simp[sH]
def E2{α β X:Type}(f:α->Option β)(H:List β->X):∀(l:List α) (i:Nat) (s:List β),
  walk (λ _ a s=>some (.inl (sH s (f a)))) H l i s=some (H (s++l.filterMap f))
 |[],i,s=>by simp[walk]
 |a::l,i,s=>by simp only[walk,List.filterMap_cons];rw[E2 f H l (i+1)];cases f a<;>simp[sH]
abbrev cmpP(p q:aK):Int:=vG p q
def ltP(p q:aK):Prop:=p.site<q.site\/p.site=q.site/\(p.inc<q.inc\/p.inc=q.inc/\p.num<q.num)
instance(p q:aK):Decidable (ltP p q):=by unfold ltP;infer_instance
def bVz(a b:Int):zQ a b=if a<b then-1 else if b<a then 1 else 0:=by unfold zQ;simp only[cC]
def K3(p q:aK):cmpP p q=if ltP p q then-1 else if ltP q p then 1 else 0:=by
 obtain⟨a,b,c⟩:=p;obtain⟨d,e,f⟩:=q;unfold cmpP vG ltP;simp only[bVz,dA,dF]
 grind
def E3(p:aK):¬ltP p p:=by unfold ltP;omega
def Cg{p q r:aK}(h:ltP p q)(k:ltP q r):ltP p r:=by unfold ltP at*;omega
def N8{p q:aK}(h:ltP p q):¬ltP q p:=by unfold ltP at*;omega
def Ch{p q:aK}(h:p≠q):ltP p q\/ltP q p:=by obtain⟨a,b,c⟩:=p;obtain⟨d,e,f⟩:=q;simp only[ne_eq,aK.mk.injEq]at h;unfold ltP;simp only;omega
def N9(p q:aK):0<cmpP p q↔ltP q p:=by
 rw[K3]
 by_cases h:ltP p q
 .simp[h,N8 h]
 .by_cases H:ltP q p<;>simp[h,H]
def K4(p q:aK):0<=cmpP p q↔¬ltP p q:=by
 rw[K3]
 by_cases h:ltP p q
 .simp[h]
 .by_cases H:ltP q p<;>simp[h,H]
def K5(p q:aK):xT p q=some (cmpP p q):=by
 unfold xT Bc;have e:∀(x y z:Int) (i:Nat) (h:[x,y,z].length=3),Arr.get (⟨[x,y,z],h⟩:Arr Int 3) i 0=match i with|0=>x|1=>y|_=>z:=by
  intro x y z i h
  match i with
  |0=>rfl
  |1=>rfl
  |2=>rfl
  |n+3=>
   have:¬(n+3<3):=om
   simp[Arr.get,oV,this]
 have Z:IntKind.i64.wrap (0+1)=1:=by decide
 have w2:IntKind.i64.wrap (1+1)=2:=by decide
 have w3:IntKind.i64.wrap (2+1)=3:=by decide
 have s3:rX ⟨[p.site,p.inc,p.num],rfl⟩ ⟨[q.site,q.inc,q.num],rfl⟩ 3=some (.inr (.inl ())):=by unfold rX;simp
 have s2:rX ⟨[p.site,p.inc,p.num],rfl⟩ ⟨[q.site,q.inc,q.num],rfl⟩ 2=some (if p.num<q.num then .inr (.inr (-1))else if q.num<p.num then .inr (.inr 1)else .inl 3):=by
  unfold rX;rw[cB Om,gdp Om,gdp Om,gdp Om];simp only[e,show(2:Int).toNat=2 from rfl,cC,w3]
  by_cases h:p.num<q.num
  .simp[h]
  .by_cases H:q.num<p.num<;>simp[h,H]
 have F:rX ⟨[p.site,p.inc,p.num],rfl⟩ ⟨[q.site,q.inc,q.num],rfl⟩ 1=some (if p.inc<q.inc then .inr (.inr (-1))else if q.inc<p.inc then .inr (.inr 1)else .inl 2):=by
  unfold rX;rw[cB Om,gdp Om,gdp Om,gdp Om];simp only[e,Int.toNat_one,cC,w2]
  by_cases h:p.inc<q.inc
  .simp[h]
  .by_cases H:q.inc<p.inc<;>simp[h,H]
 have O:rX ⟨[p.site,p.inc,p.num],rfl⟩ ⟨[q.site,q.inc,q.num],rfl⟩ 0=some (if p.site<q.site then .inr (.inr (-1))else if q.site<p.site then .inr (.inr 1)else .inl 1):=by
  unfold rX;rw[cB Om,gdp Om,gdp Om,gdp Om];simp only[e,Int.toNat_zero,cC,Z]
  by_cases h:p.site<q.site
  .simp[h]
  .by_cases H:q.site<p.site<;>simp[h,H]
 rw[K3];unfold ltP
 by_cases U:p.site<q.site
 .rw[mJ,O];simp[U]
 .by_cases B:q.site<p.site
  .rw[mJ,O];have:¬p.site=q.site:=om
   simp[U,B,this]
  .have Y:p.site=q.site:=om
   by_cases M:p.inc<q.inc
   .rw[mJ,O];simp only[U,B,cI];rw[mJ,F];simp[M,Y]
   .by_cases L:q.inc<p.inc
    .have:¬p.inc=q.inc:=om
     rw[mJ,O];simp only[U,B,cI];rw[mJ,F];simp[M,L,Y,this]
    .have H:p.inc=q.inc:=om
     rw[mJ,O];simp only[U,B,cI];rw[mJ,F];simp only[M,L,cI];rw[mJ,s2]
     by_cases K:p.num<q.num
     .simp[K,Y,H]
     .by_cases V:q.num<p.num
      .simp[K,V,Y,H]
      .simp only[K,V,cI];rw[mJ,s3];simp[Y,H,Jz]
def insP(p:aK)(a:aC):List aX->List aX
 |[]=>[⟨p,a⟩]
 |h::t=>if ltP p h.aM then⟨p,a⟩::h::t else h::insP p a t
def nJ(p:aK)(l:List aX):List aX:=l.filter λ h=>!decide (h.aM=p)
def setL(l:List aX)(p:aK)(a:aC):List aX:=if a=aC.zero then nJ p l else insP p a (nJ p l)
def bW8(p:aK):nJ p []=[]:=rfl
def HI(p:aK)(h:aX)(t:List aX):nJ p (h::t)=if h.aM=p then nJ p t else h::nJ p t:=by unfold nJ;rw[jV];by_cases e:h.aM=p<;>simp[e]
def HJ(p:aK)(l:List aX):(nJ p l).length<=l.length:=iV _ _
def HK(l:List aX)(p:aK)(a:aC)(hl:l.length<=1000000):xY l p a=some (setL l p a):=by
 unfold xY;have F:=rD (body:=Gz l p a) l aX.zero (λ i (s:Bool×List aX)=>(s.1,(i:Int),s.2))
  (λ i h s=>some (.inl (if h.aM=p then s else if s.1=false/\ltP p h.aM then(true,s.2++[⟨p,a⟩]++[h])else(s.1,s.2++[h])))) (λ s=>s) (λ i s=>s.2.length<=2*i)
  (λ i s hi Z=>by
   refine⟨?_,λ s' h=>?_⟩
   .unfold Gz;have h1:s.2.length+1<=4294967296:=om
    have h2:s.2.length+1+1<=4294967296:=om
    have L:0<=(i:Int)/\(i:Int)<(l.length:Int):=om
    simp only[h1,h2,L.1,L.2,cX,fD,mL,cF,cH,Qm,cC,bY,dA,N9,mF i om,xm,wmap]
    by_cases e:(l.getD i aX.zero).aM=p
    .simp only[e,cH]
    .simp only[e,cI];split<;>rfl
   .simp only[cJ,fN]at h;subst h;split
    .omega
    .split<;>simp<;>omega)
  (λ s Z=>by unfold Gz;simp) (nX a,[]) (by simp)
 have hz:nX a=decide (a=aC.zero):=rfl;have O:∀(l:List aX) (i:Nat) (d:Bool) (o:List aX),walk (λ i h (s:Bool×List aX)=>some (.inl (if h.aM=p then s else if s.1=false/\ltP p h.aM then(true,s.2++[⟨p,a⟩]++[h])else(s.1,s.2++[h])))) (λ s=>s) l i (d,o)=
   some (if d=true then(true,o++nJ p l)else if(nJ p l).any (λ h=>decide (ltP p h.aM))=true then(true,o++insP p a (nJ p l))else(false,o++nJ p l)):=by
  intro l;induction l with
  |nil=>intro i d o;cases d<;>simp[walk,nJ]
  |cons h t U=>
   intro i d o;simp only[walk,HI]
   by_cases e:h.aM=p
   .simp only[e,cH];exact U (i+1) d o
   .simp only[e,cI]
    by_cases M:d=false/\ltP p h.aM
    .obtain⟨rfl,B⟩:=M;simp only[B,cX,cH];rw[U];simp[insP,B]
    .rw[bX M,U];cases d with
     |true=>simp
     |false=>have B:¬ltP p h.aM:=λ Y=>M ⟨rfl,Y⟩;simp only[bZ,cI,insP,B,List.any_cons,cP,dT];split<;>simp
 have H:∀l:List aX,l.any (λ h=>decide (ltP p h.aM))=false->insP p a l=l++[⟨p,a⟩]:=by
  intro l;induction l with
  |nil=>intro _;rfl
  |cons h t U=>intro Y;simp only[List.any_cons,iX,dF]at Y;simp only[insP,Y.1,cI,U Y.2,Jm]
 rw[show((nX a,(0:Int),([]:List aX)):Bool×Int×List aX)=(λ(i:Nat) (s:Bool×List aX)=>(s.1,(i:Int),s.2)) 0 (nX a,[])from rfl,F,O,hz];unfold setL Ny;have ho:=HJ p l
 by_cases V:a=aC.zero
 .simp[V]
 .simp only[V,cP,bZ,cI,jm]
  by_cases K:(nJ p l).any (λ h=>decide (ltP p h.aM))=true
  .simp[K]
  .have K:(nJ p l).any (λ h=>decide (ltP p h.aM))=false:=by simpa using K
   rw[bX (by rw[K];decide),eF,H _ K];show gd ((nJ p l).length+1<=4294967296) _=_;rw[gdp om]
def UA{α:Type}(l:List α)(k:Nat)(z x:α)(O:k<=l.length):
  (((l++[z]).take (k+1)++(((l++[z]).drop k).take (l.length+1-k)).take (l.length+1-(k+1))++(l++[z]).drop (k+1+min (((l++[z]).drop k).take (l.length+1-k)).length (l.length+1-(k+1)))).set k x)=l.take k++x::l.drop k:=by
 have U:((l++[z]).drop k).take (l.length+1-k)=l.drop k++[z]:=by rw[fW O,eJ (by simp;omega)]
 have Y:(l.drop k++[z]).take (l.length+1-(k+1))=l.drop k:=by rw[eY (by simp),eJ (by simp)]
 have B:(l++[z]).drop (k+1+min (l.drop k++[z]).length (l.length+1-(k+1)))=[]:=by rw[gZ];simp;omega
 rw[U,Y,B,eE]
 by_cases H:k=l.length
 .subst H;rw[eJ (by simp),iO,eE,iC _ _ (dG _)];simp
 .have:(l++[z]).take (k+1)=l.take k++[l[k]'(by omega)]:=by
   rw[eY om,fR om]
  rw[this,cG,iC _ _ (by simp;omega)];simp[show min k l.length=k by omega]
def bWd(l:List aX)(p:aK)(a:aC)(hl:l.length<=1000000):Bq l p a=some (setL l p a):=by
 unfold Bq;have hw:IntKind.i64.wrap ((l.length:Int)+1)=(l.length:Int)+1:=mB om om;rw[hw,gdp om];have h0:=rD (body:=DH l p) l aX.zero (λ i (s:Int×List aX)=>(s.1,(i:Int),s.2))
  (λ i h s=>some (.inl (if h.aM=p then s else(if s.1<0/\ltP p h.aM then(s.2.length:Int)else s.1,s.2++[h])))) (λ s=>s) (λ i s=>s.2.length<=i)
  (λ i s hi hs=>by
   refine⟨?_,λ s' h=>?_⟩
   .unfold DH;have h1:s.2.length+1<=4294967296:=om
    have V:0<=(i:Int)/\(i:Int)<(l.length:Int):=om
    simp only[h1,V.1,V.2,cX,fD,mL,cF,cH,Qm,cC,bY,K5,mF i om,xm,wmap]
    by_cases e:(l.getD i aX.zero).aM=p
    .simp only[e,cH]
    .simp only[e,cI]
     by_cases H:s.1<0
     .simp only[H,cH,qm,gG,N9];split<;>rfl
     .simp only[H,cI,qm,iT]
   .simp only[cJ,fN]at h;subst h;split
    .omega
    .simp;omega)
  (λ s hs=>by unfold DH;simp) (-1,[]) (by simp)
 have O:∀(l:List aX) (i:Nat) (d:Int) (o:List aX),walk (λ i h (s:Int×List aX)=>some (.inl (if h.aM=p then s else(if s.1<0/\ltP p h.aM then(s.2.length:Int)else s.1,s.2++[h])))) (λ s=>s) l i (d,o)=
   some (if d<0/\(nJ p l).any (λ h=>decide (ltP p h.aM))=true then(((o.length+(nJ p l).findIdx (λ h=>decide (ltP p h.aM)):Nat):Int),o++nJ p l)else(d,o++nJ p l)):=by
  intro l;induction l with
  |nil=>intro i d o;simp[walk,nJ]
  |cons h t U=>
   intro i d o;simp only[walk,HI]
   by_cases e:h.aM=p
   .simp only[e,cH];exact U (i+1) d o
   .simp only[e,cI]
    by_cases H:d<0/\ltP p h.aM
    .simp only[H,cX,cH];rw[U,bX om];simp[H.2,kM]
    .rw[bX H,U]
     by_cases K:d<0
     .have e4:¬ltP p h.aM:=λ hh=>H ⟨K,hh⟩;simp only[K,gG,List.any_cons,e4,cP,dT,kM,cond_false,cA,ym,Ym,cG,Jm,jm];split
      .congr 3;omega
      .rfl
     .simp[K]
 have Y:∀l:List aX,insP p a l=l.take (l.findIdx (λ h=>decide (ltP p h.aM)))++⟨p,a⟩::l.drop (l.findIdx (λ h=>decide (ltP p h.aM))):=by
  intro l;induction l with
  |nil=>rfl
  |cons h t U=>
   simp only[insP,kM]
   by_cases e:ltP p h.aM
   .simp[e]
   .simp[e,U]
 have B:lY (DH l p) (-1,0,List.replicate 0 aX.zero)=some (if(nJ p l).any (λ h=>decide (ltP p h.aM))=true then(((nJ p l).findIdx (λ h=>decide (ltP p h.aM)):Nat):Int)else-1,nJ p l):=by
  rw[show((-1,0,List.replicate 0 aX.zero):Int×Int×List aX)=(λ(i:Nat) (s:Int×List aX)=>(s.1,(i:Int),s.2)) 0 (-1,[])from rfl,h0,O];have:((-1:Int)<0):=by decide
  simp only[this,gG,jm,Ym,eC];split<;>rfl
 rw[B,eF];unfold JR setL;have hz:oQ a=decide (a=aC.zero):=rfl;rw[hz]
 by_cases Z:a=aC.zero
 .simp[Z]
 .simp only[Z,cP,bZ,cI,cC];have ho:=HJ p l;generalize nJ p l=o at ho;have fi:o.findIdx (λ h=>decide (ltP p h.aM))<=o.length:=List.findIdx_le_length;have x0:({aX.zero with}:aX)=aX.zero:=rfl
  by_cases L:o.any (λ h=>decide (ltP p h.aM))=true
  .simp only[L,cH];generalize M:o.findIdx (λ h=>decide (ltP p h.aM))=k at fi;have y0:k<o.length:=by rw[<-M];exact List.findIdx_lt_length_of_exists (by simpa using L)
   rw[bX om];simp only[mF k om,Qm];rw[gdp om,gdp om,gdp om,gdp om,UA o k _ _ om,Y o,M]
  .have F:o.any (λ h=>decide (ltP p h.aM))=false:=by simpa using L
   simp only[F,bZ,cI];rw[cB Om];have M:o.findIdx (λ h=>decide (ltP p h.aM))=o.length:=by rw[List.findIdx_eq_length];simpa using F
   simp only[mF o.length om,Qm];rw[gdp om,gdp om,gdp om,gdp om,UA o o.length _ _ om,Y o,M]
def HL(r:aI):zU r=oB r:=by
 unfold zU oB;rw[dR]
 by_cases H:r.kind=1
 .simp[H]
 .by_cases O:r.kind=2<;>simp[H,O]
def At(r:aI)(a:aC):qP r a=mM r a:=by unfold qP mM sQ rB;rw[HL]
def E4(r:aI)(a:aC):uL r a=nS r a:=by unfold uL nS nX oQ;rw[HL,At]
def wQ(p:aK):pC p=mP p:=by unfold pC mP s7;rw[dR];simp;omega
def tQ(r:aI):oB r=true↔(r.kind=1/\r.aU=1)\/(r.kind=2/\1<=r.aU/\r.aU<=8):=by
 unfold oB
 by_cases H:r.kind=1
 .simp[H]
 .by_cases O:r.kind=2<;>simp[H,O]
def rR(r:aI)(a:aC):mM r a=true↔(r.kind=1/\r.aU=1/\1<=a.mode/\a.mode<=5/\a.aU=0)\/(r.kind=2/\1<=r.aU/\r.aU<=8/\a.mode=0/\1<=a.aU/\a.aU<=r.aU):=by
 unfold mM rB;have:=tQ r;cases h:oB r with
 |false=>rw[h]at this;simp only[bZ,false_iff]at this;simp only[dL,cH,bZ,false_iff];omega
 |true=>
  rw[h]at this;simp only[true_iff]at this
  by_cases H:r.kind=1
  .simp[H];omega
  .simp[H];omega
def perm_iff(r:aI)(a:aC):nS r a=true↔(oB r=true/\a=aC.zero)\/mM r a=true:=by
 unfold nS oQ;have e:(decide (a={aC.zero with}):Bool)=decide (a=aC.zero):=rfl;rw[e];have H:mM r a=true->oB r=true:=by rw[rR,tQ];omega
 cases K:oB r<;>cases L:mM r a<;>simp_all
def Ci{r:aI}{a:aC}(h:nS r a=true)(H:r.kind=1):a.aU=0/\0<=a.mode/\a.mode<=5/\r.aU=1:=by
 rw[perm_iff,rR,tQ]at h;rcases h with⟨h1,rfl⟩|h1
 .simp[aC.zero];omega
 .omega
def K6{r:aI}{a:aC}(h:nS r a=true)(H:r.kind=2):a.mode=0/\0<=a.aU/\a.aU<=r.aU/\r.aU<=8:=by
 rw[perm_iff,rR,tQ]at h;rcases h with⟨h1,rfl⟩|h1
 .simp[aC.zero];omega
 .omega
def Au{r:aI}{a:aC}(h:nS r a=true):0<=a.aU/\a.aU<=8/\0<=a.mode/\a.mode<=5/\1<=r.aU/\r.aU<=8:=by
 rw[perm_iff,rR,tQ]at h;rcases h with⟨h1,rfl⟩|h1
 .simp[aC.zero];omega
 .omega
abbrev mC(a b:Int):Bool:=Dy a b
def K7(a b:Int):mC a b=true↔(1<=a/\a<=4/\1<=b/\b<=4)/\(a=1\/b=1\/a=b/\a≠4):=by
 unfold mC Dy sQ;split
 .rename_i h;simp at h;simp;omega
 .rename_i h;simp at h;simp;omega
def K8(a b:Int):mC a b=mC b a:=by rw[dR,K7,K7];omega
def bWn(a b:Int):Dx a b=some (mC a b):=by
 unfold Dx rB
 by_cases h:(1<=a/\a<=5)/\(1<=b/\b<=5)
 .obtain⟨⟨Y,B⟩,F,M⟩:=h;have O:IntKind.i64.wrap (a-1)=a-1:=mB om om;have U:IntKind.i64.wrap (b-1)=b-1:=mB om om;simp only[O,U];rw[gdp (λ _=>om),gdp (λ _=>om)];congr 1;have K:a=1\/a=2\/a=3\/a=4\/a=5:=om
  have hb:b=1\/b=2\/b=3\/b=4\/b=5:=om
  rcases K with rfl|rfl|rfl|rfl|rfl<;>rcases hb with rfl|rfl|rfl|rfl|rfl<;>decide
 .have L:(((decide (1<=a))&&(decide (a<=5)))&&((decide (1<=b))&&(decide (b<=5))))=false:=by
   rw[dJ];intro H;simp at H;omega
  rw[L];rw[gdp (λ h=>by cases h),gdp (λ h=>by cases h)];have:mC a b=false:=by rw[dJ];intro H;rw[K7]at H;omega
  rw[this];rfl
def qS(b a:aC):Prop:=b.mode≠0/\a.mode≠0/\mC b.mode a.mode=false
instance(b a:aC):Decidable (qS b a):=by unfold qS;infer_instance
def sumU:List aC->Int
 |[]=>0
 |a::l=>a.aU+sumU l
structure CompP (r:aI) (l:List aC):Prop where
 perm:∀a∈l,nS r a=true
 sum:sumU l<=r.aU
 pair:l.Pairwise λ b a=>¬qS b a
instance(r:aI)(l:List aC):Decidable (CompP r l):=
 decidable_of_iff ((∀a∈l,nS r a=true)/\sumU l<=r.aU/\l.Pairwise λ b a=>¬qS b a) ⟨λ⟨a,b,c⟩=>⟨a,b,c⟩,λ⟨a,b,c⟩=>⟨a,b,c⟩⟩
def Av(r:aI)(l:List aC):Bool:=oB r&&decide (CompP r l)
def bWq{l:List aC}(h:∀a∈l,0<=a.aU):0<=sumU l:=by
 induction l with
 |nil=>simp[sumU]
 |cons a l H=>have:=H λ b hb=>h b (.tail _ hb);have:=h a (.head _);simp only[sumU];omega
def yK(r:aI):List aC->List aC->Int->Bool
 |[],_,_=>true
 |a::t,prev,s=>nS r a&&(decide (s+a.aU<=r.aU)&&(decide (∀b∈prev,¬qS b a)&&yK r t (prev++[a]) (s+a.aU)))
def Oa(r:aI)(M:0<=r.aU):∀(l H:List aC) (s:Int),s<=r.aU->(yK r l H s=true↔(∀a∈l,nS r a=true)/\s+sumU l<=r.aU/\(∀b∈H,∀a∈l,¬qS b a)/\l.Pairwise λ b a=>¬qS b a)
 |[],H,s,K=>by simp[yK,sumU];exact K
 |a::t,H,s,K=>by
  simp only[yK,bY,cC,List.forall_mem_cons,dD,sumU];constructor
  .rintro⟨F,L,U,Y⟩;rw[Oa r M t (H++[a]) (s+a.aU) L]at Y;obtain⟨B,k2,V,k4⟩:=Y;refine⟨⟨F,B⟩,by omega,λ b hb=>⟨U b hb,λ c O=>V b (by simp[hb]) c O⟩,λ c O=>V a (by simp) c O,k4⟩
  .rintro⟨⟨F,B⟩,L,U,Y,h5⟩;have hn:0<=sumU t:=bWq λ b hb=>(Au (B b hb)).1;have Z:s+a.aU<=r.aU:=om
   refine⟨F,Z,λ b hb=>(U b hb).1,?_⟩;rw[Oa r M t (H++[a]) (s+a.aU) Z];refine⟨B,by omega,λ b hb c O=>?_,h5⟩;rcases cY.1 hb with hb|hb
   .exact(U b hb).2 c O
   .simp at hb;subst hb;exact Y c O
def UB(r:aI)(l:List aC)(H:oB r=true):Av r l=yK r l [] 0:=by
 have O:1<=r.aU:=by rw[tQ]at H;omega
 unfold Av;rw[H,cN,dR,Oa r om l [] 0 om,cC];exact⟨λ⟨a,b,c⟩=>⟨a,by omega,by simp,c⟩,λ⟨a,b,_,c⟩=>⟨a,by omega,c⟩⟩
def Cj(H:Arr Bool 6)(m:Int):Bool:=(List.range' 0 6).all λ k=>!(H.get k false)||mC k m
def bWv(l:List aC)(g:Int×Int×Arr Bool 6):lY (DR l g) 0=some (if Cj g.2.2 (l.getD g.2.1.toNat aC.zero).mode=true then .inl ()else .inr false):=by
 have H:=tP (body:=DR l g) 6 (λ i=>if(!(g.2.2.get i false)||mC i (l.getD g.2.1.toNat aC.zero).mode)=true then none else some (.inr false)) (.inl ()) (λ i K=>by
  unfold DR;have O:0<=(i:Int)/\(i:Int)<6:=om
  have U:IntKind.i64.wrap ((i:Int)+1)=(i:Int)+1:=mB om om;simp only[O.1,O.2,cX,mL,cF,cH,Qm,bWn,U];cases Arr.get g.2.2 i false<;>cases mC i (l.getD g.2.1.toNat aC.zero).mode<;>rfl) (by unfold DR;simp)
 rw[H,uP];unfold Cj;split<;>simp_all
def bWw(s:Arr Bool 6)(i k:Nat)(hi:i<6)(H:k<6):(s.put i true).get k false=if k=i then true else s.get k false:=by
 obtain⟨l,K⟩:=s;simp only[Arr.put,Arr.get,Db hi,Db H,cD,List.getElem?_set]
 by_cases h:k=i
 .subst h;simp[K,H]
 .rw[bX (λ e=>h e.symm),bX h]
def bWx(r:aI)(l:List aC)(hl:l.length<=1000000):Bz r l=some (Av r l):=by
 unfold Bz;cases Z:oB r with
 |false=>simp[Av,Z]
 |true=>
  have p0:1<=r.aU/\r.aU<=8:=by rw[tQ]at Z;omega
  rw[UB r l Z];simp only[cR,bZ,cI];have z0:=rD (body:=GB r l) l aC.zero (λ i (s:Int×Arr Bool 6)=>(s.1,(i:Int),s.2))
   (λ i a s=>some (if nS r a=false\/r.aU<s.1+a.aU then .inr false else if a.mode=0 then .inl (s.1+a.aU,s.2)else if Cj s.2 a.mode=true then .inl (s.1+a.aU,s.2.put a.mode.toNat true)else .inr false)) (λ _=>true) (λ i s=>0<=s.1/\s.1<=8)
   (λ i s hi q0=>by
    refine⟨?_,λ s' h=>?_⟩
    .unfold GB;have K:0<=(i:Int)/\(i:Int)<(l.length:Int):=om
     simp only[K.1,K.2,cX,mL,cF,cH,Qm,mF i om,xm,bWv];cases hp:nS r (l.getD i aC.zero)with
     |false=>simp[wmap]
     |true=>
      have hb:=Au hp;have hw:IntKind.i64.wrap (s.1+(l.getD i aC.zero).aU)=s.1+(l.getD i aC.zero).aU:=mB om om;simp only[hw,cR,dT,cC,gN,jL]
      by_cases L:r.aU<s.1+(l.getD i aC.zero).aU
      .simp only[L,cH,wmap]
      .by_cases B:(l.getD i aC.zero).mode=0
       .simp only[L,cI,B,cH,wmap]
       .simp only[L,B,cI]
        by_cases h6:Cj s.2 (l.getD i aC.zero).mode=true
        .simp only[h6,cH,qm,wmap];unfold J8;simp only[Qm,hw,mF i om];rw[gdp om]
        .simp only[h6,bZ,cI,wmap,qm]
    .simp only[cJ]at h;split at h
     .cases h
     .rename_i hn;simp only[lE,fX]at hn;have hb:=Au hn.1;split at h
      .cases h;simp only;omega
      .split at h
       .cases h;simp only;omega
       .cases h)
   (λ s Z=>by unfold GB;simp) (0,Arr.rep 6 false) (by simp)
  have x0:∀(l H:List aC) (i:Nat) (s:Int) (O:Arr Bool 6),(∀b∈H,0<=b.mode/\b.mode<=5)->(∀k,k<6->O.get k false=decide (∃b∈H,b.mode≠0/\b.mode=(k:Int)))->
    walk (λ i a (s:Int×Arr Bool 6)=>some (if nS r a=false\/r.aU<s.1+a.aU then .inr false else if a.mode=0 then .inl (s.1+a.aU,s.2)else if Cj s.2 a.mode=true then .inl (s.1+a.aU,s.2.put a.mode.toNat true)else .inr false)) (λ _=>true) l i (s,O)=some (yK r l H s):=by
   intro l;induction l with
   |nil=>intro H i s O _ _;rfl
   |cons a t ih=>
    intro H i s O h0 F;simp only[walk,yK];cases hp:nS r a with
    |false=>simp
    |true=>
     have hb:=Au hp
     by_cases L:r.aU<s+a.aU
     .simp[L];intro h;omega
     .have u0:s+a.aU<=r.aU:=om
      simp only[gN,jL,L,cI,u0,cF,cN]
      by_cases B:a.mode=0
      .simp only[B,cH];rw[ih (H++[a]) (i+1) (s+a.aU) O (by
        intro b U;rcases cY.1 U with h|h
        .exact h0 b h
        .simp at h;subst h;omega) (by
        intro k V;rw[F k V,jB];constructor
        .rintro⟨b,M,Y⟩;exact⟨b,by simp[M],Y⟩
        .rintro⟨b,M,Y,K⟩;rcases cY.1 M with h|h
         .exact⟨b,h,Y,K⟩
         .simp at h;subst h;exact absurd B Y)]
       have:∀b∈H,¬qS b a:=λ b _ hc=>hc.2.1 B;rw[cQ this,cN]
      .simp only[B,cI];have v0:Cj O a.mode=decide (∀b∈H,¬qS b a):=by
        rw[dR,cC];unfold Cj;simp only[dQ,List.mem_range'_1,dS,dA];constructor
        .intro hh b U ⟨c1,c2,c3⟩;have r0:=h0 b U;rcases hh b.mode.toNat (by omega)with h|h
         .rw[F _ om]at h;simp only[dF,not_exists,not_and]at h;exact h b U c1 om
         .rw[show((b.mode.toNat:Nat):Int)=b.mode by omega,c3]at h;cases h
        .intro hh k V;rw[F k om]
         by_cases he:∃b∈H,b.mode≠0/\b.mode=(k:Int)
         .obtain⟨b,M,Y,K⟩:=he;right;rw[<-K];have:=hh b M;unfold qS at this;simp only[not_and,fX]at this;exact this Y B
         .left;simpa using he
       rw[v0]
       by_cases h7:∀b∈H,¬qS b a
       .rw[cQ h7];simp only[cH,cN];rw[ih (H++[a]) (i+1) (s+a.aU) (O.put a.mode.toNat true) (by
         intro b U;rcases cY.1 U with h|h
         .exact h0 b h
         .simp at h;subst h;omega) (by
         intro k V;rw[bWw O a.mode.toNat k om V,F k V]
         by_cases y0:k=a.mode.toNat
         .rw[cB y0];exact(cQ ⟨a,by simp,B,by omega⟩).symm
         .rw[bX y0,jB];constructor
          .rintro⟨b,M,Y⟩;exact⟨b,by simp[M],Y⟩
          .rintro⟨b,M,Y,K⟩;rcases cY.1 M with h|h
           .exact⟨b,h,Y,K⟩
           .simp at h;subst h;omega)]
       .rw[fC h7];rfl
  have k2:=x0 l [] 0 0 (Arr.rep 6 false) (by simp) (by
   intro k V;have:k=0\/k=1\/k=2\/k=3\/k=4\/k=5:=om
   rcases this with rfl|rfl|rfl|rfl|rfl|rfl<;>rfl)
  rw[show((0,0,Arr.rep 6 false):Int×Int×Arr Bool 6)=(λ(i:Nat) (s:Int×Arr Bool 6)=>(s.1,(i:Int),s.2)) 0 (0,Arr.rep 6 false)from rfl,z0,k2];rfl
def bWy(l:List aC)(g:Int×Int)(U:0<=g.2)(K:g.2<(l.length:Int))(Y:l.length<=1000000):lY (D6 l g) 0=
  some (if(List.range' 0 g.2.toNat).all (λ k=>decide (l.getD g.2.toNat aC.zero=aC.zero)||(decide (l.getD k aC.zero=aC.zero)||mC (l.getD g.2.toNat aC.zero).mode (l.getD k aC.zero).mode))=true then .inl ()else .inr false):=by
 have B:∀a:aC,nX a=decide (a=aC.zero):=λ _=>rfl;have H:=tP (body:=D6 l g) g.2.toNat (λ i=>if(decide (l.getD g.2.toNat aC.zero=aC.zero)||(decide (l.getD i aC.zero=aC.zero)||mC (l.getD g.2.toNat aC.zero).mode (l.getD i aC.zero).mode))=true then none else some (.inr false)) (.inl ()) (λ i L=>by
  unfold D6;have F:(i:Int)<g.2:=om
  have M:IntKind.i64.wrap ((i:Int)+1)=(i:Int)+1:=mB om om;have O:0<=(i:Int)/\(i:Int)<(l.length:Int):=om
  simp only[F,cF,cH,Qm,M,O.1,O.2,U,K,cX,fD,mL,B];cases decide (l.getD g.2.toNat aC.zero=aC.zero)<;>cases decide (l.getD i aC.zero=aC.zero)<;>cases hm:Dy (l.getD g.2.toNat aC.zero).mode (l.getD i aC.zero).mode<;>simp only[mC,hm]<;>rfl) (by unfold D6;rw[bX];simp;omega)
 rw[H,uP];split<;>simp_all
def bWz(r:aI)(l:List aC)(hl:l.length<=1000000):BK r l=some (Av r l):=by
 unfold BK;rw[HL];cases V:oB r with
 |false=>simp[Av,V]
 |true=>
  have u0:1<=r.aU/\r.aU<=8/\(r.kind=1\/r.kind=2):=by rw[tQ]at V;omega
  rw[UB r l V];simp only[cR,bZ,cI];have v0:=rD (body:=BJ r l) l aC.zero (λ i (s:Int)=>(s,(i:Int)))
   (λ i a s=>some (if nS r a=false then .inr (.inr false)else if r.kind=2 then(if r.aU<s+a.aU then .inr (.inr false)else .inl (s+a.aU))else
    if(List.range' 0 i).all (λ k=>decide (a=aC.zero)||(decide (l.getD k aC.zero=aC.zero)||mC a.mode (l.getD k aC.zero).mode))=true then .inl s else .inr (.inr false))) (λ _=>Sum.inl (β:=Bool) ()) (λ i s=>0<=s/\s<=8)
   (λ i s hi p0=>by
    refine⟨?_,λ s' h=>?_⟩
    .unfold BJ;have h3:0<=(i:Int)/\(i:Int)<(l.length:Int):=om
     simp only[h3.1,h3.2,cX,mL,cF,cH,Qm,mF i om,xm,E4,bWy l (s,(i:Int)) h3.1 h3.2 hl];cases Y:nS r (l.getD i aC.zero)with
     |false=>simp[wmap]
     |true=>
      have hb:=Au Y;have hw:IntKind.i64.wrap (s+(l.getD i aC.zero).aU)=s+(l.getD i aC.zero).aU:=mB om om;simp only[hw,cR,bZ,cI,gN,cC]
      by_cases h4:r.kind=2
      .by_cases Z:r.aU<s+(l.getD i aC.zero).aU
       .simp only[h4,Z,cH,wmap]
       .simp only[h4,Z,cH,cI,wmap]
      .simp only[h4,cI];split
       .simp only[NG,wmap,mF i (by omega:i<4611686018427387904),qm]
       .simp only[wmap,qm]
    .simp only[cJ]at h;split at h
     .cases h
     .rename_i hn;simp only[fX]at hn;have hb:=Au hn;split at h
      .split at h
       .cases h
       .cases h;omega
      .split at h
       .cases h;exact p0
       .cases h)
   (λ s V=>by unfold BJ;simp) 0 (by simp)
  have x0:∀(t H:List aC) (s:Int),l=H++t->(∀b∈H,nS r b=true)->(r.kind=1->s=0)->s<=r.aU->
    walk (λ i a (s:Int)=>some (if nS r a=false then .inr (.inr false)else if r.kind=2 then(if r.aU<s+a.aU then .inr (.inr false)else .inl (s+a.aU))else
     if(List.range' 0 i).all (λ k=>decide (a=aC.zero)||(decide (l.getD k aC.zero=aC.zero)||mC a.mode (l.getD k aC.zero).mode))=true then .inl s else .inr (.inr false))) (λ _=>Sum.inl (β:=Bool) ()) t H.length s=some (if yK r t H s=true then .inl ()else .inr false):=by
   intro t;induction t with
   |nil=>intro H s _ _ _ _;rfl
   |cons a t ih=>
    intro H s hlt h0 q0 r0;simp only[walk,yK]
    by_cases Y:nS r a=true
    .have F:∀b∈H++[a],nS r b=true:=λ b hb=>by
      rcases cY.1 hb with h|h
      .exact h0 b h
      .simp at h;subst h;exact Y
     have M:l=(H++[a])++t:=by rw[hlt];simp
     have K:(H++[a]).length=H.length+1:=by simp
     rcases u0.2.2 with hk|hk
     ·
      have ha:=Ci Y hk;have V:=q0 hk;subst V;have O:¬r.kind=2:=om
      have y0:(0:Int)+a.aU<=r.aU:=om
      simp only[Y,gN,cI,O,y0,cF,cN];have z0:(List.range' 0 H.length).all (λ k=>decide (a=aC.zero)||(decide (l.getD k aC.zero=aC.zero)||mC a.mode (l.getD k aC.zero).mode))=decide (∀b∈H,¬qS b a):=by
       rw[dR,cC];simp only[dQ,List.mem_range'_1,dS,cC];have U:∀k,k<H.length->l.getD k aC.zero=H.getD k aC.zero:=λ k hk=>by rw[hlt,Uz _ _ _ _ hk]
       have L:∀k,k<H.length->H.getD k aC.zero∈H:=λ k hk=>by rw[cD,cE hk];exact iP hk
       have vO:∀b,nS r b=true->(b=aC.zero↔b.mode=0):=λ b hb=>by have:=Ci hb hk;rw[aC.ext_iff];simp[aC.zero];omega
       constructor
       .intro hh b hb ⟨c1,c2,c3⟩;obtain⟨k,B,O⟩:=gD.1 hb;have e:H.getD k aC.zero=b:=by rw[cD,cE B,Xm,O]
        rcases hh k (by omega)with h|h|h
        .exact c2 ((vO a Y).1 h)
        .rw[U k B,e]at h;exact c1 ((vO b (h0 b hb)).1 h)
        .rw[U k B,e,K8,c3]at h;cases h
       .intro hh k B;have O:k<H.length:=om
        rw[U k O];have h1:=hh _ (L k O);have h2:=h0 _ (L k O);unfold qS at h1;rw[vO a Y,vO _ h2]
        by_cases e1:a.mode=0
        .exact .inl e1
        .by_cases e2:(H.getD k aC.zero).mode=0
         .exact .inr (.inl e2)
         .refine .inr (.inr ?_);rw[K8];simp only[not_and,fX]at h1;exact h1 e2 e1
      rw[z0]
      by_cases h7:∀b∈H,¬qS b a
      .rw[cQ h7];simp only[cH,cN];have:=ih (H++[a]) 0 M F (λ _=>rfl) om;rw[K]at this;simp only[O,cI]at this;rw[this,ha.1];rfl
      .rw[fC h7];rfl
     ·
      have ha:=K6 Y hk;simp only[Y,gN,cI,hk,cH,cN];have h7:∀b∈H,¬qS b a:=λ b _ hc=>hc.2.1 ha.1
      by_cases Z:r.aU<s+a.aU
      .have:¬s+a.aU<=r.aU:=om
       simp[Z,this]
      .have:s+a.aU<=r.aU:=om
       rw[cQ h7];simp only[Z,cI,this,cF,cN];have h8:=ih (H++[a]) (s+a.aU) M F (λ h=>om) this;rw[K]at h8;simp only[hk,cH]at h8;exact h8
    .simp[Y]
  rw[show((0,0):Int×Int)=(λ(i:Nat) (s:Int)=>(s,(i:Int))) 0 0 from rfl,v0];have k2:=x0 l [] 0 rfl (by simp) (λ _=>rfl) om;rw[lN]at k2;rw[k2];cases yK r l [] 0<;>rfl
structure GoodP (r:aI) (l:List aX):Prop where
 each:∀h∈l,mP h.aM=true/\mM r h.aJ=true
 asc:l.Pairwise λ a b=>ltP a.aM b.aM
instance(r:aI)(l:List aX):Decidable (GoodP r l):=
 decidable_of_iff ((∀h∈l,mP h.aM=true/\mM r h.aJ=true)/\l.Pairwise λ a b=>ltP a.aM b.aM) ⟨λ⟨a,b⟩=>⟨a,b⟩,λ⟨a,b⟩=>⟨a,b⟩⟩
def pA(r:aI)(l:List aX):Bool:=oB r&&(decide (l.length<=8)&&(decide (GoodP r l)&&decide (CompP r (l.map (·.aJ)))))
def UC{r:aI}{a:aC}(h:mM r a=true):oB r=true:=by rw[rR]at h;rw[tQ];omega
def rE{r:aI}{a:aC}(h:mM r a=true):nS r a=true:=(perm_iff r a).2 (.inr h)
def sT{r:aI}{a:aC}(h:mM r a=true):a≠aC.zero:=by rw[rR]at h;intro e;subst e;simp[aC.zero]at h
def rF(r:aI):List aX->Option aK->Bool
 |[],_=>true
 |h::t,pv=>mP h.aM&&(mM r h.aJ&&((match pv with|none=>true|some q=>decide (ltP q h.aM))&&rF r t (some h.aM)))
def Ob(r:aI):∀(l:List aX) (H:Option aK),rF r l H=true↔GoodP r l/\∀q,H=some q->∀h∈l,ltP q h.aM
 |[],H=>by simp only[rF,eX,jX,fD,jF,true_iff];exact⟨by simp,.nil⟩
 |h::t,H=>by
  simp only[rF,bY];rw[Ob r t (some h.aM)];constructor
  .rintro⟨O,U,Y,⟨M,K⟩,F⟩;refine⟨⟨λ x hx=>?_,dD.2 ⟨λ x hx=>F _ rfl x hx,K⟩⟩,λ q B x hx=>?_⟩
   .rcases cL.1 hx with rfl|hx
    .exact⟨O,U⟩
    .exact M x hx
   .subst B;simp only[cC]at Y;rcases cL.1 hx with rfl|hx
    .exact Y
    .exact Cg Y (F _ rfl x hx)
  .rintro⟨⟨O,U⟩,Y⟩;rw[dD]at U;refine⟨(O h (.head _)).1,(O h (.head _)).2,?_,⟨λ x hx=>O x (.tail _ hx),U.2⟩,λ q B x hx=>by cases B;exact U.1 x hx⟩;cases H with
   |none=>rfl
   |some q=>exact cQ (Y q rfl h (.head _))
def Od(r:aI)(l:List aX):d7 r l=some (pA r l):=by
 unfold d7 pA;cases F:oB r with
 |false=>simp
 |true=>
  by_cases V:8<(l.length:Int)
  .have:¬l.length<=8:=om
   simp[V,this]
  .have M:l.length<=8:=om
   simp only[cR,dT,V,cP,bZ,cI,M,cF,cN];have h0:=rD (body:=GQ r l) l aX.zero (λ i (s:List aC)=>((i:Int),s))
    (λ i h s=>some (if mP h.aM=true/\mM r h.aJ=true/\(i=0\/ltP (l.getD (i-1) aX.zero).aM h.aM)then .inl (s++[h.aJ])else .inr (.inr false))) (λ s=>Sum.inl (β:=Bool) s) (λ i s=>s.length<=i)
    (λ i s hi F=>by
     refine⟨?_,λ s' h=>?_⟩
     .unfold GQ;have h1:s.length+1<=4294967296:=om
      have Z:0<=(i:Int)/\(i:Int)<(l.length:Int):=om
      simp only[h1,Z.1,Z.2,cX,mL,cF,cH,Qm,K5,mF i om,xm,cC,bY,dS,dA]
      by_cases U:mP (l.getD i aX.zero).aM=false\/mM r (l.getD i aX.zero).aJ=false
      .rw[cB U,bX (by rintro⟨k1,L,_⟩;rcases U with e|e<;>simp_all)];rfl
      .rw[bX U];simp only[lE,fX]at U
       by_cases e2:i=0
       .subst e2;rw[gdp om];simp only[Int.natCast_zero,iL,cI,qm,iT,U,cX,true_or,cH,wmap]
       .have w:IntKind.i64.wrap ((i:Int)-1)=((i-1:Nat):Int):=l6 i om om;rw[gdp (by rw[w];omega)];simp only[w,Qm,show(0:Int)<(i:Int)by omega,cH,qm,gG,K4,U,e2,jL]
        by_cases e3:ltP (l.getD (i-1) aX.zero).aM (l.getD i aX.zero).aM
        .simp only[e3,not_true,cI,cH,wmap]
        .simp only[e3,iH,cH,cI,wmap]
     .simp only[cJ]at h;split at h
      .cases h;simp;omega
      .cases h)
    (λ s F=>by unfold GQ;simp) [] (by simp)
   have Y:∀(t H:List aX) (s:List aC),l=H++t->
     walk (λ i h (s:List aC)=>some (if mP h.aM=true/\mM r h.aJ=true/\(i=0\/ltP (l.getD (i-1) aX.zero).aM h.aM)then .inl (s++[h.aJ])else .inr (.inr false))) (λ s=>Sum.inl (β:=Bool) s) t H.length s=
      some (if rF r t (H.getLast?.map (·.aM))=true then .inl (s++t.map (·.aJ))else .inr false):=by
    intro t;induction t with
    |nil=>intro H s _;simp[walk,rF]
    |cons h t ih=>
     intro H s K;simp only[walk];have hq:(H.length=0\/ltP (l.getD (H.length-1) aX.zero).aM h.aM)↔(match H.getLast?.map (·.aM)with|none=>true|some q=>decide (ltP q h.aM))=true:=by
      rcases List.eq_nil_or_concat H with rfl|⟨pp,x,rfl⟩
      .simp
      .have:(l.getD ((pp.concat x).length-1) aX.zero)=x:=by
        rw[K];simp[cD]
       rw[this];simp
     by_cases e:mP h.aM=true/\mM r h.aJ=true/\(H.length=0\/ltP (l.getD (H.length-1) aX.zero).aM h.aM)
     .rw[cB e];have:=ih (H++[h]) (s++[h.aJ]) (by rw[K];simp);rw[show(H++[h]).length=H.length+1 by simp]at this;simp only;have ht:rF r (h::t) (H.getLast?.map (·.aM))=rF r t (some h.aM):=by simp only[rF,e.1,e.2.1,hq.1 e.2.2,cN]
      rw[this,ht];simp
     .rw[bX e];rw[hq]at e;have hf:rF r (h::t) (H.getLast?.map (·.aM))=false:=by
       rw[dJ];intro B;simp only[rF,bY]at B;exact e ⟨B.1,B.2.1,B.2.2.1⟩
      rw[hf];rfl
   have L:=Y l [] [] rfl;rw[lN]at L;rw[show((0,[]):Int×List aC)=(λ(i:Nat) (s:List aC)=>((i:Int),s)) 0 []from rfl,h0,L];have hg:=Ob r l none
   by_cases e:rF r l none=true
   .have O:GoodP r l:=(hg.1 e).1;rw[cB (by simpa using e)];simp only[qm,NH,jm];rw[bWx r _ (by simp;omega)];simp[Av,F,O]
   .have O:¬GoodP r l:=λ h=>e (hg.2 ⟨h,by simp⟩);rw[bX (by simpa using e)];simp[O]
def bX6(l:List aX)(K:l.length<=1000000):A5 l=some (l.map (·.aJ)):=by
 unfold A5;have H:=rD (body:=F3 l) l aX.zero (λ i (s:List aC)=>((i:Int),s)) (λ i h s=>some (.inl (sH s (some h.aJ)))) (λ s=>s) (λ i s=>s.length<=i)
  (λ i s L U=>by
   refine⟨?_,λ B h=>?_⟩
   .unfold F3;have Y:s.length+1<=4294967296:=om
    have O:0<=(i:Int)/\(i:Int)<(l.length:Int):=om
    simp only[Y,O.1,O.2,cX,mL,cF,cH,Qm,mF i om,xm,wmap,sH]
   .simp only[cJ,fN]at h;subst h;simp[sH];omega)
  (λ s U=>by unfold F3;simp) [] (by simp)
 rw[show((0,[]):Int×List aC)=(λ(i:Nat) (s:List aC)=>((i:Int),s)) 0 []from rfl,H,E2 (λ h:aX=>some h.aJ)];simp[Nf]
def Oe(r:aI)(l:List aX):g9 r l=some (pA r l):=by
 unfold g9 pA;rw[HL];cases L:oB r with
 |false=>simp
 |true=>
  by_cases V:8<(l.length:Int)
  .have:¬l.length<=8:=om
   simp[V,this]
  .have M:l.length<=8:=om
   simp only[cR,dT,V,cP,bZ,cI,M,cF,cN];have h0:=rD (body:=G3 r l) l aX.zero (λ i (_:Unit)=>(i:Int))
    (λ i h _=>some (if mP h.aM=true/\mM r h.aJ=true/\(i=0\/ltP (l.getD (i-1) aX.zero).aM h.aM)then .inl ()else .inr (.inr false))) (λ _=>Sum.inl (β:=Bool) ()) (λ i s=>True)
    (λ i s hi _=>by
     refine⟨?_,λ _ _=>trivial⟩;unfold G3;have Z:0<=(i:Int)/\(i:Int)<(l.length:Int):=om
     simp only[Z.1,Z.2,cX,fD,mL,cF,cH,Qm,mF i om,xm,wQ,At]
     by_cases e2:i=0
     .subst e2;rw[gdp (by simp)]
      by_cases O:mP (l.getD 0 aX.zero).aM=true
      .by_cases Y:mM r (l.getD 0 aX.zero).aJ=true
       .simp only[O,Y];simp[wmap]
       .simp only[O,Y];simp[wmap]
      .simp only[O];simp[wmap]
     .have w:IntKind.i64.wrap ((i:Int)-1)=((i-1:Nat):Int):=l6 i om om;rw[gdp (λ _=>by rw[w];omega)];simp only[w,Qm,show(0:Int)<(i:Int)by omega,cF,cN,K4,e2,jL]
      by_cases O:mP (l.getD i aX.zero).aM=true
      .by_cases Y:mM r (l.getD i aX.zero).aJ=true
       .by_cases e4:ltP (l.getD (i-1) aX.zero).aM (l.getD i aX.zero).aM
        .simp only[O,Y,e4];simp[wmap]
        .simp only[O,Y,e4];simp[wmap]
       .simp only[O,Y];simp[wmap]
      .simp only[O];simp[wmap])
    (λ s L=>by unfold G3;simp) () trivial
   have B:∀(t H:List aX),l=H++t->
     walk (λ i h (_:Unit)=>some (if mP h.aM=true/\mM r h.aJ=true/\(i=0\/ltP (l.getD (i-1) aX.zero).aM h.aM)then .inl ()else .inr (.inr false))) (λ _=>Sum.inl (β:=Bool) ()) t H.length ()=
      some (if rF r t (H.getLast?.map (·.aM))=true then .inl ()else .inr false):=by
    intro t;induction t with
    |nil=>intro H _;simp[walk,rF]
    |cons h t ih=>
     intro H K;simp only[walk];have hq:(H.length=0\/ltP (l.getD (H.length-1) aX.zero).aM h.aM)↔(match H.getLast?.map (·.aM)with|none=>true|some q=>decide (ltP q h.aM))=true:=by
      rcases List.eq_nil_or_concat H with rfl|⟨pp,x,rfl⟩
      .simp
      .have:(l.getD ((pp.concat x).length-1) aX.zero)=x:=by
        rw[K];simp[cD]
       rw[this];simp
     by_cases e:mP h.aM=true/\mM r h.aJ=true/\(H.length=0\/ltP (l.getD (H.length-1) aX.zero).aM h.aM)
     .rw[cB e];have:=ih (H++[h]) (by rw[K];simp);rw[show(H++[h]).length=H.length+1 by simp]at this;simp only;have ht:rF r (h::t) (H.getLast?.map (·.aM))=rF r t (some h.aM):=by simp only[rF,e.1,e.2.1,hq.1 e.2.2,cN]
      rw[this,ht];simp
     .rw[bX e];rw[hq]at e;have hf:rF r (h::t) (H.getLast?.map (·.aM))=false:=by
       rw[dJ];intro F;simp only[rF,bY]at F;exact e ⟨F.1,F.2.1,F.2.2.1⟩
      rw[hf];rfl
   have k2:=B l [] rfl;rw[lN]at k2;rw[show(0:Int)=(λ(i:Nat) (_:Unit)=>(i:Int)) 0 ()from rfl,h0,k2];have hg:=Ob r l none
   by_cases e:rF r l none=true
   .have U:GoodP r l:=(hg.1 e).1;rw[cB (by simpa using e)];simp only[qm,NM];rw[bX6 l om,eF,bWz r _ (by simp;omega)];simp[Av,L,U]
   .have U:¬GoodP r l:=λ h=>e (hg.2 ⟨h,by simp⟩);rw[bX (by simpa using e)];simp[U]
def K9(p:aK)(a:aC)(l:List aX):(insP p a l).length=l.length+1:=by
 induction l with
 |nil=>rfl
 |cons h t H=>simp only[insP];split<;>simp[H]
def bX9(l:List aX)(p:aK)(a:aC):(setL l p a).length<=l.length+1:=by
 have:=HJ p l;unfold setL;split
 .omega
 .rw[K9];omega
def Aw{r:aI}{l:List aX}(h:pA r l=true):l.length<=8:=by unfold pA at h;simp at h;exact h.2.1
def tR(r:aI)(l:List aX)(p:aK)(a:aC):Bool:=pA r l&&(mP p&&mM r a)
def sU(r:aI)(l:List aX)(p:aK)(a:aC):Bool:=tR r l p a&&pA r (setL l p a)
def bXd(r:aI)(l:List aX)(p:aK)(a:aC):D8 r l p a=some (tR r l p a):=by unfold D8 tR;rw[Od,eF,hJ]
def bXe(r:aI)(l:List aX)(p:aK)(a:aC):Ep r l p a=some (sU r l p a):=by
 unfold Ep sU;rw[bXd,eF];cases h:tR r l p a with
 |false=>simp
 |true=>
  have H:pA r l=true:=by unfold tR at h;simp at h;exact h.1
  simp only[cH];rw[bWd l p a (by have:=Aw H;omega),eF,Od];simp
def bXf(r:aI)(l:List aX)(p:aK)(a:aC):Eo r l p a=some (sU r l p a):=by
 unfold Eo sU;rw[Oe,eF,wQ,At,hJ];change((if tR r l p a=true then _ else _):Option (List aX)).bind _=_;cases h:tR r l p a with
 |false=>unfold tR at h;simp[h]
 |true=>
  have H:pA r l=true:=by unfold tR at h;simp at h;exact h.1
  unfold tR at h;simp only[h,cH];rw[HK l p a (by have:=Aw H;omega),eF,Oe];simp
def qE(p:aK):List aV->Nat->Option Nat
 |[],_=>none
 |w::l,i=>if w.aM=p then some i else qE p l (i+1)
def oR(l:List aV)(p:aK):Int:=match qE p l 0 with
 |some i=>i
 |none=>-1
def UD(l:List aV)(p:aK):∀k i,i+k=l.length->qA (λ i=>if(l.getD i aV.zero).aM=p then some (i:Int)else none) k i=(qE p (l.drop i) i).map λ n:Nat=>(n:Int)
 |0,i,h=>by rw[gZ om];rfl
 |k+1,i,h=>by
  rw[l5 l i aV.zero om];simp only[qA,qE]
  by_cases H:(l.getD i aV.zero).aM=p
  .simp only[H,cH,xm]
  .simp only[H,cI];exact UD l p k (i+1) om
def La(l:List aV)(p:aK)(L:l.length<4611686018427387904):zS l p=some (oR l p):=by
 unfold zS;have H:lY (F7 l p) 0=some ((qA (λ i=>if(l.getD i aV.zero).aM=p then some (Sum.inr (i:Int))else none) l.length 0).getD (Sum.inl ())):=by
  refine tP l.length _ (Sum.inl ()) (λ i K=>?_) ?_
  .unfold F7;rw[cB (by simpa using K),mD om];simp only[Qm,cC];split
   .rfl
   .rw[mB om om]
  .unfold F7;rw[bX (by simp)]
 rw[H];have U:=UD l p l.length 0 om;have Y:∀k i,qA (λ i=>if(l.getD i aV.zero).aM=p then some (Sum.inr (α:=Unit) (i:Int))else none) k i=(qA (λ i=>if(l.getD i aV.zero).aM=p then some (i:Int)else none) k i).map Sum.inr:=by
  intro k;induction k with
  |zero=>intro i;rfl
  |succ k B=>
   intro i;simp only[qA]
   by_cases O:(l.getD i aV.zero).aM=p
   .simp only[O,cH,xm]
   .simp only[O,cI,B]
 rw[Y,U,fT];unfold oR;cases qE p l 0<;>rfl
def HM(l:List aV)(p:aK)(H:l.length<4611686018427387904):wG l p=some (oR l p):=by have e:wG l p=zS l p:=rfl;rw[e];exact La l p H
def Lb(w:aV):xV w=pI w:=by unfold xV pI pC mP s7 pR mM oB sQ rB;rw[dR];simp;omega
def qJ(l:List aV):Bool:=decide (l.length<=8)&&(List.range l.length).all λ i=>pI (l.getD i aV.zero)&&decide (oR l (l.getD i aV.zero).aM=i)
def UE(l:List aV):z7 l=some (qJ l):=by
 unfold z7 qJ
 by_cases O:8<(l.length:Int)
 .rw[cB (by simpa using O)];have:¬l.length<=8:=om
  simp[this]
 .rw[bX (by simpa using O)];have L:l.length<4611686018427387904:=om
  have H:lY (BC l) 0=some ((qA (λ i=>if(pI (l.getD i aV.zero)&&decide (oR l (l.getD i aV.zero).aM=i))=true then none else some (Sum.inr false)) l.length 0).getD (Sum.inl ())):=by
   refine tP l.length _ (Sum.inl ()) (λ i V=>?_) ?_
   .unfold BC;rw[cB (by simpa using V),mD om];simp only[Qm]
    by_cases K:pI (l.getD i aV.zero)=true
    .simp only[K,cH,La l _ L,qm,cR,dT,cN]
     by_cases U:oR l (l.getD i aV.zero).aM=(i:Int)
     .simp only[U,cF,cR,bZ,cI,cH];rw[mB om om]
     .simp only[U,cP,dL,cH,bZ,cI]
    .have K:pI (l.getD i aV.zero)=false:=by simpa using K
     simp only[K,bZ,cI,qm,dL,fY,cH,fA]
   .unfold BC;rw[bX (by simp)]
  rw[H,uP,<-eZ];have:l.length<=8:=om
  simp only[this,cF,cN];cases(List.range l.length).all λ i=>pI (l.getD i aV.zero)&&decide (oR l (l.getD i aV.zero).aM=i)<;>rfl
def UF(l:List aV):y9 l=some (qJ l):=by
 rw[<-UE l];unfold y9 z7
 by_cases O:8<(l.length:Int)
 .rw[cB (cQ O),cB (cQ O)]
 .rw[bX (by simpa using O),bX (by simpa using O)];have L:l.length<4611686018427387904:=om
  have e:Kb l=BC l:=funext λ i=>by
   unfold Kb BC
   by_cases K:i<(l.length:Int)
   .rw[cB (cQ K),cB (cQ K)]
    by_cases H:0<=i/\i<(l.length:Int)
    .rw[mD H,mD H,mD (λ _=>H)];simp only[Lb,HM l _ L,La l _ L]
    .unfold gd;rw[bX H,bX H]
   .rw[bX (by simpa using K)];rw[bX (by simpa using K)]
  rw[e];rfl
def UG{p:aK}:∀{l:List aV} {i j:Nat},qE p l i=some j->i<=j/\j<i+l.length
 |w::l,i,j,h=>by
  simp only[qE]at h;split at h
  .cases h;simp
  .have:=UG h;simp only[ym];omega
def UH(l:List aV)(p:aK):oR l p=-1\/0<=oR l p/\oR l p<l.length:=by
 unfold oR;cases h:qE p l 0 with
 |none=>exact .inl rfl
 |some j=>right;have:=UG h;simp only;omega
def over(w e:aV):Bool:=decide (e.bC<w.bC)&&decide (e.bS<3)
def sI(l:List aV)(w:aV):Nat->Nat
 |0=>0
 |k+1=>if over w (l.getD k aV.zero)=true then sI l w k else k+1
def Lc(l:List aV)(w:aV):∀k,sI l w k<=k
 |0=>dG _
 |k+1=>by unfold sI;split<;>have:=Lc l w k<;>omega
def bump(e:aV):aV:={e with bS:=IntKind.i64.wrap (e.bS+1)}
def wR(l:List aV)(w:aV)(n:Nat):List aV:=l.take n++w::(l.drop n).map bump
def insS(l:List aV)(w:aV):List aV×Int×Int:=
 if qJ l=false then([],0,2)
 else if pI w=false\/w.bS≠0 then([],0,1)
 else if 0<=oR l w.aM then([],0,11)
 else if l.length=8 then([],0,4)
 else(wR l w (sI l w l.length),(sI l w l.length:Int),0)
def Of{l:List aV}(h:qJ l=true):l.length<=8:=by simp only[qJ,bY,cC]at h;exact h.1
def bXv(l:List aV)(w:aV):BR l w=some (insS l w):=by
 unfold BR insS;rw[UF,eF];cases V:qJ l with
 |false=>rfl
 |true=>
  have h8:=Of V;simp only[cR,bZ,gN,cI,Lb]
  by_cases K:pI w=false\/w.bS≠0
  .rw[cB K,cB (by rcases K with h|h<;>simp[h])]
  .have L:pI w=true:=by simpa usingλ h=>K (.inl h)
   have U:w.bS=0:=by simpa usingλ h=>K (.inr h)
   rw[bX K,bX (by simp[L,U]),HM _ _ om,eF]
   by_cases O:0<=oR l w.aM
   .rw[cB O,cB (cQ O)]
   .rw[bX O,bX (by simpa using O)]
    by_cases B:l.length=8
    .rw[cB B,cB (cQ om)]
    .rw[bX B,bX (by simp;omega)];have F:=Ut (body:=Kq l w) (λ g=>∃i:Nat,g=i/\i<=l.length) (λ g=>g.toNat) (λ g=>((sI l w g.toNat:Nat):Int)) (λ g ⟨i,Z,g2⟩=>by
      subst Z;unfold Kq;cases i with
      |zero=>right;rw[mD (by simp),mD (by simp)];rfl
      |succ i=>
       have M:IntKind.i64.wrap (((i+1:Nat):Int)-1)=(i:Int):=by rw[mB om om];omega
       simp only[M,Qm];rw[mD om,mD om,hJ]
       by_cases H:over w (l.getD i aV.zero)=true
       .left;rw[cB (by unfold over at H;simp only[H,fI,cC];omega)];exact⟨_,rfl,⟨i,rfl,by omega⟩,by simp only[Qm];omega,by simp only[Qm,sI,H,cH]⟩
       .right;rw[bX (by rw[bY];exactλ h=>H h.2)];simp only[sI,bX H]) (l.length:Int) ⟨l.length,rfl,dG _⟩
     rw[F,eF];simp only[Qm];have hp:=Lc l w l.length;generalize sI l w l.length=n at hp;unfold G1;simp only[Qm];rw[mD om,mD (by simp;omega),mD (by simp;omega)];have Y:=bVk (body:=G0 l) l.length (λ i s=>.inl (s++[bump (l.getD i aV.zero)])) (λ s=>s) (λ i s=>s.length<=i+1) (λ i s hi hs=>by
      refine⟨?_,λ s' h=>by cases h;simp;omega⟩;unfold G0;rw[cB (cQ (by simp only;omega)),mD (by simp only;omega),mD (by simp only;omega),mB (by simp only;omega) (by simp only;omega)];rfl) (λ s hs=>by
      unfold G0;rw[bX (by simp)]) (l.length-n) n (l.take n++[w]) om (by simp only[cA,dE,ym,Ym];omega)
     have e3:(l.drop n).take (l.length-n)=l.drop n:=eJ (by simp);rw[Y,Uv,Ux l aV.zero bump _ n om,e3,eF];simp[NK,wR]
def UI(a b:List aV)(H:a.length<4611686018427387904):w7 a b=some (decide (a=b)):=by
 unfold w7
 by_cases h:a.length=b.length
 .rw[bX (by simp[h])];exact N7 a b aV.zero H h λ i=>rfl
 .rw[cB (by simp;omega)];have:a≠b:=λ e=>h (by rw[e]);simp[this]
def notP(p:aK)(w:aV):Bool:=!decide (w.aM=p)
def rmL(l:List aV)(p:aK):List aV:=l.filter (notP p)
def bXx(l:List aV)(p:aK):(rmL l p).length<=l.length:=iV _ _
def Ld(l:List aV)(p:aK)(K:l.length<4294967296):xP l p=some (rmL l p,decide ((rmL l p).length<l.length)):=by
 unfold xP;have O:=bVj (body:=F0 l p) l.length (λ i s=>.inl (if notP p (l.getD i aV.zero)=true then s++[l.getD i aV.zero]else s)) (λ s=>s) (λ i s=>s.length<=i) (λ i s L U=>by
  refine⟨?_,λ Y h=>by simp only[fN]at h;subst h;split<;>first|omega|(simp only[cA,ym,Ym];omega)⟩;unfold F0;rw[cB (cQ (by simp only;omega)),mD (by simp only;omega),mB (by simp only;omega) (by simp only;omega)];simp only[Qm]
  by_cases H:(!decide ((l.getD i aV.zero).aM=p))=true
  .rw[cB H,cB (show notP p _=true from H),mD om,mD om]
  .rw[bX H,bX (show¬notP p _=true from H)]) (λ s U=>by
  unfold F0;rw[bX (by simp)]) [] (fS _)
 rw[O,Uw l aV.zero (notP p) l.length 0 [] om,lJ,fT,eF];unfold Nb rmL;simp
def UJ{p:aK}:∀{l:List aV} {i:Nat},qE p l i=none↔∀w∈l,w.aM≠p
 |[],i=>by simp[qE]
 |w::l,i=>by
  simp only[qE]
  by_cases h:w.aM=p
  .simp[h]
  .simp only[h,cI,UJ (l:=l),cL,forall_eq_or_imp,ne_eq,iH,gG]
def bY0{l:List aV}{p:aK}:¬0<=oR l p↔∀w∈l,w.aM≠p:=by rw[<-UJ (i:=0)];unfold oR;cases qE p l 0<;>simp
def bY1{w:aV}(h:pI w=true):0<=w.bS/\w.bS<=3:=by unfold pI at h;simp only[bY,cC]at h;exact⟨h.1.2,h.2⟩
def bY2(e:aV):(bump e).aM=e.aM:=rfl
def bY3(s:ByteArray):Dh s=w6 s:=by unfold Dh w6 A0;generalize(s.toList==_)=a;generalize(s.toList==_)=b;generalize(s.toList==_)=c;generalize(s.toList==_)=d;generalize(s.toList==_)=e;cases a<;>cases b<;>cases c<;>cases d<;>cases e<;>rfl
def chI(s:ByteArray)(i:Nat):Int:=((s.toList.getD i 0).toNat:Int)
def okC(s:ByteArray)(i:Nat):Bool:=w9 (chI s i)||(!decide (i=0)&&uI (chI s i))
def bY4(s:ByteArray)(O:s.size<=12):lY (DB s) 0=some (if(List.range s.size).all (okC s)=true then .inl ()else .inr false):=by
 have H:lY (DB s) 0=some ((qA (λ i=>if okC s i=true then none else some (Sum.inr false)) s.size 0).getD (Sum.inl ())):=by
  refine tP s.size _ (Sum.inl ()) (λ i L=>?_) ?_
  .unfold DB;rw[cB (by simpa using L),mD om,mB om om];simp only[Qm];have e:((!((decide (97<=((s.toList.getD i 0).toNat:Int)))&&(decide (((s.toList.getD i 0).toNat:Int)<=122))))&&((decide ((i:Int)=0))||(!((((decide (48<=((s.toList.getD i 0).toNat:Int)))&&(decide (((s.toList.getD i 0).toNat:Int)<=57)))||(decide (((s.toList.getD i 0).toNat:Int)=95)))||(decide (((s.toList.getD i 0).toNat:Int)=45))))))=!okC s i:=by
    unfold okC uI w9 chI;generalize((s.toList.getD i 0).toNat:Int)=c;rw[dR];simp;omega
   cases K:okC s i
   .rw[K]at e;exact cB e
   .rw[K]at e;exact bX (by rw[show _=false from e];decide)
  .unfold DB;rw[bX (by simp)]
 rw[H,uP,<-eZ];cases(List.range s.size).all (okC s)<;>rfl
def bY5(s:ByteArray)(L:s.size<=12):lY (DN s) 0=some (if(List.range s.size).all (λ i=>uI (chI s i))=true then .inl ()else .inr false):=by
 have H:lY (DN s) 0=some ((qA (λ i=>if uI (chI s i)=true then none else some (Sum.inr false)) s.size 0).getD (Sum.inl ())):=by
  refine tP s.size _ (Sum.inl ()) (λ i K=>?_) ?_
  .unfold DN;rw[cB (by simpa using K),mD om,mB om om];simp only[Qm];show(if(!uI (chI s i))=true then _ else _)=_;cases uI (chI s i)<;>rfl
  .unfold DN;rw[bX (by simp)]
 rw[H,uP,<-eZ];cases(List.range s.size).all (λ i=>uI (chI s i))<;>rfl
def nY(s:ByteArray):Bool:=decide (1<=s.size)&&(decide (s.size<=12)&&(!w6 s&&(List.range s.size).all (okC s)))
def HN(s:ByteArray):wH s=some (nY s):=by
 unfold wH nY;rw[bY3]
 by_cases U:s.size<1
 .have:¬1<=s.size:=om
  rw[cB (by simp;omega)];simp[this]
 by_cases Y:12<s.size
 .have:¬s.size<=12:=om
  rw[cB (by simp;omega)];simp[this]
 cases K:w6 s
 .rw[bX (by simp;omega),bY4 s om];have H:1<=s.size:=om
  have O:s.size<=12:=om
  simp only[H,O,cF,cN,dL];cases(List.range s.size).all (okC s)<;>rfl
 .rw[cB (by simp)];simp
def E5(s:ByteArray):vH s=some (nY s):=by
 unfold vH nY
 by_cases V:s.size<1
 .have:¬1<=s.size:=om
  rw[mD (by simp;omega),cB (by simp;omega)];simp[this]
 by_cases Z:12<s.size
 .have:¬s.size<=12:=om
  rw[mD (by simp;omega),cB (by simp;omega)];simp[this]
 have Y:1<=s.size:=om
 have O:s.size<=12:=om
 rw[mD (by intro _;omega)];have B:((s.toList.getD 0 0).toNat:Int)=chI s 0:=rfl;have F:decide ((s.size:Int)<1)=false:=by simp;omega
 have M:decide (12<(s.size:Int))=false:=by simp;omega
 simp only[Y,O,cF,cN,B,F,M,dT];have H:(List.range s.size).all (okC s)=(w9 (chI s 0)&&(List.range s.size).all λ i=>uI (chI s i)):=by
  rw[dR];simp only[dQ,eH,bY,okC,dS,dA,dF];constructor
  .intro h;refine⟨?_,λ i K=>?_⟩
   .rcases h 0 (by omega)with h|h
    .exact h
    .exact absurd rfl h.1
   .rcases h i K with h|h
    .unfold uI;simp[h]
    .exact h.2
  .rintro⟨L,h⟩ i K
   by_cases U:i=0
   .subst U;exact .inl L
   .exact .inr ⟨U,h i K⟩
 rw[H];cases hr:w6 s
 .cases hL:w9 (chI s 0)
  .rfl
  .simp only[cR,fG,bZ,cI,bY5 s O,dL,cN];cases(List.range s.size).all (λ i=>uI (chI s i))<;>rfl
 .simp
def resV(r:aI):Bool:=nY r.name&&(oB r&&(decide (0<=r.home)&&decide (r.home<4)))
def bY8(r:aI):DO r=some (resV r):=by unfold DO resV;rw[HN];simp only[qm,hJ]
def UK(r:aI):BE r=some (resV r):=by unfold BE resV;rw[E5,HL];simp only[qm,hJ]
def getH(l:List aX)(p:aK):aC:=match l.find? λ h=>decide (h.aM=p)with
 |some h=>h.aJ
 |none=>aC.zero
def UL(l:List aX)(p:aK):∀k i,i+k=l.length->((qA (λ i=>if(l.getD i aX.zero).aM=p then some (Sum.inr (α:=Unit) (l.getD i aX.zero).aJ)else none) k i).getD (Sum.inl ()))=match(l.drop i).find? λ h=>decide (h.aM=p)with
  |some h=>Sum.inr h.aJ
  |none=>Sum.inl ()
 |0,i,h=>by rw[gZ om];rfl
 |k+1,i,h=>by
  rw[l5 l i aX.zero om];simp only[qA,List.find?_cons]
  by_cases H:(l.getD i aX.zero).aM=p
  .simp only[H,cH,cF,Xm]
  .simp only[H,cI,cP];exact UL l p k (i+1) om
def UM(l:List aX)(p:aK)(L:l.length<4611686018427387904):u6 l p=some (getH l p):=by
 unfold u6;have H:lY (A8 l p) 0=some ((qA (λ i=>if(l.getD i aX.zero).aM=p then some (Sum.inr (α:=Unit) (l.getD i aX.zero).aJ)else none) l.length 0).getD (Sum.inl ())):=by
  refine tP l.length _ (Sum.inl ()) (λ i K=>?_) ?_
  .unfold A8;rw[cB (by simpa using K),mD om,mB om om];simp only[Qm,cC];split<;>rfl
  .unfold A8;rw[bX (by simp)]
 rw[H,UL l p l.length 0 om,fT];unfold getH;cases l.find? λ h=>decide (h.aM=p)<;>rfl
def Og(l:List aX)(p:aK)(K:l.length<4611686018427387904):zR l p=some (getH l p):=by
 rw[<-UM l p K];unfold zR u6;have e:Jk l p=A8 l p:=funext λ i=>by
  unfold Jk A8
  by_cases h:0<=i/\i<(l.length:Int)
  .simp only[mD h]
  .by_cases H:i<(l.length:Int)
   .rw[cB (cQ H),cB (cQ H),gdn h,gdn h]
   .rw[bX (by simpa using H),bX (by simpa using H)]
 rw[e];rfl
def yL(a:aC):nX a=oQ a:=rfl
abbrev covM(a b:Int):Bool:=y4 a b
def E6(a b:Int):covM a b=true↔(1<=a/\a<=5/\1<=b/\b<=5)/\(a=b\/a=5\/b=1\/a=4/\b≠5):=by
 unfold covM y4 sQ
 by_cases h:1<=a/\a<=5/\1<=b/\b<=5
 .rw[bX (by simp;omega)];simp;omega
 .rw[cB (by simp;omega)];simp;omega
def bYf(a b:Int):Dv a b=some (covM a b):=by
 unfold Dv rB;rw[mD (by simp;omega)];congr 1;rw[dR,E6]
 by_cases h:1<=a/\a<=5/\1<=b/\b<=5
 .obtain⟨O,U,Y,B⟩:=h;have K:a=1\/a=2\/a=3\/a=4\/a=5:=om
  have hb:b=1\/b=2\/b=3\/b=4\/b=5:=om
  rcases K with rfl|rfl|rfl|rfl|rfl<;>rcases hb with rfl|rfl|rfl|rfl|rfl<;>decide
 .constructor
  .intro H;simp only[bY,cC]at H;omega
  .rintro⟨H,_⟩;exact absurd H h
def covA(r:aI)(a b:aC):Bool:=rZ r a b
def bYg(r:aI)(a b:aC):DU r a b=some (covA r a b):=by unfold DU covA rZ;simp only[E4,yL,bYf,qm];cases nS r a<;>cases nS r b<;>simp;cases H:oQ a<;>cases hb:oQ b<;>simp;split<;>rfl
def Oh(q:aA)(p:aK)(H:q.aT.length<4611686018427387904):Bm q p=some (getH q.aT p):=by unfold Bm;rw[UM _ _ H];rfl
def wS(q:aA)(p:aK)(H:q.aT.length<4611686018427387904):rY q p=some (getH q.aT p):=by unfold rY;rw[Og _ _ H];rfl
def hb(b:Bool):b=true\/b=false:=by cases b<;>simp
def cvI(q:aA)(i:Nat):Bool:=
 let w:=q.aN.getD i aV.zero
 let h:=getH q.aT w.aM
 decide (oR q.aN w.aM=(i:Int))&&(!oQ h&&(mM q.aB w.aJ&&(covA q.aB w.aJ h&&(!decide (w.aJ=h)&&(decide (w.bC=0)&&decide (w.bS=0))))))
def cvOk(q:aA):Bool:=decide (q.aN.length<=8)&&(List.range q.aN.length).all (cvI q)
def wtI(q:aA)(i:Nat):Bool:=
 let w:=q.aW.getD i aV.zero
 mM q.aB w.aJ&&oQ (getH q.aT w.aM)
def wtOk(q:aA):Bool:=qJ q.aW&&(decide (q.aT.length+q.aW.length<=8)&&(List.range q.aW.length).all (wtI q))
def bYi(q:aA)(K:q.aT.length<4611686018427387904)(O:q.aN.length<=8):lY (Eb q) 0=some (if(List.range q.aN.length).all (cvI q)=true then .inl ()else .inr false):=by
 have H:lY (Eb q) 0=some ((qA (λ i=>if cvI q i=true then none else some (Sum.inr false)) q.aN.length 0).getD (Sum.inl ())):=by
  refine tP q.aN.length _ (Sum.inl ()) (λ i L=>?_) ?_
  .unfold Eb;rw[cB (by simpa using L),mD om,mB om om,lF];unfold cvI;generalize q.aN.getD i aV.zero=w;rw[Oh q _ K,eF,La _ _ (show q.aN.length<4611686018427387904 by omega),eF];simp only[bYg];rcases hb (decide (oR q.aN w.aM=(i:Int)))with c1|c1<;>rcases hb (oQ (getH q.aT w.aM))with c2|c2<;>rcases hb (mM q.aB w.aJ)with c3|c3<;>rcases hb (covA q.aB w.aJ (getH q.aT w.aM))with c4|c4<;>
    rcases hb (decide (w.aJ=getH q.aT w.aM))with c5|c5<;>rcases hb (decide (w.bC=0))with c6|c6<;>rcases hb (decide (w.bS=0))with c7|c7<;>
    simp only[c1,c2,c3,c4,c5,c6,c7,cR,dL,jO,fY,jG,dT,fI,cN,hY,fA,cH,cI,bZ,qm,fG,gP]
  .unfold Eb;rw[bX (by simp)]
 rw[H,uP,<-eZ];cases(List.range q.aN.length).all (cvI q)<;>rfl
def bYj(q:aA)(K:q.aT.length<4611686018427387904):BT q=some (cvOk q):=by
 unfold BT cvOk
 by_cases h:8<q.aN.length
 .have:¬q.aN.length<=8:=om
  rw[cB (by simp;omega)];simp[this]
 .have H:q.aN.length<=8:=om
  rw[bX (by simp;omega),bYi q K H];simp only[H,cF,cN];cases(List.range q.aN.length).all (cvI q)<;>rfl
def UN(q:aA)(K:q.aT.length<4611686018427387904)(O:q.aW.length<=8):lY (BP q) 0=some (if(List.range q.aW.length).all (wtI q)=true then .inl ()else .inr false):=by
 have H:lY (BP q) 0=some ((qA (λ i=>if wtI q i=true then none else some (Sum.inr false)) q.aW.length 0).getD (Sum.inl ())):=by
  refine tP q.aW.length _ (Sum.inl ()) (λ i L=>?_) ?_
  .unfold BP;rw[cB (by simpa using L),mD om,mB om om,lF];unfold wtI;generalize q.aW.getD i aV.zero=w;rw[Oh q _ K];rcases hb (oQ (getH q.aT w.aM))with c2|c2<;>rcases hb (mM q.aB w.aJ)with c3|c3<;>simp only[c2,c3,cR,dL,jO,fY,jG,dT,fI,cN,hY,fA,cH,cI,bZ,qm,fG,gP]
  .unfold BP;rw[bX (by simp)]
 rw[H,uP,<-eZ];cases(List.range q.aW.length).all (wtI q)<;>rfl
def bYl(q:aA)(L:q.aT.length<=1000000):BQ q=some (wtOk q):=by
 unfold BQ wtOk;rw[UE,eF];cases K:qJ q.aW
 .simp
 .have H:=Of K;rw[mB om om]
  by_cases h:8<q.aT.length+q.aW.length
  .have:¬q.aT.length+q.aW.length<=8:=om
   rw[cB (by simp;omega)];simp[this]
  .have O:q.aT.length+q.aW.length<=8:=om
   rw[bX (by simp;omega),UN q om H];simp only[O,cF,cN];cases(List.range q.aW.length).all (wtI q)<;>rfl
def yM(q:aA):Bool:=resV q.aB&&(pA q.aB q.aT&&(cvOk q&&(wtOk q&&(decide (0<=q.gen)&&decide (q.gen<=1073741824)))))
def bYn(q:aA):Eg q=some (yM q):=by
 unfold Eg yM;rw[bY8,eF];cases resV q.aB
 .simp
 .simp only[cH,Od,qm,cN];cases H:pA q.aB q.aT
  .simp
  .have K:=Aw H;simp only[cH,bYj q om,qm,cN];cases cvOk q
   .simp
   .simp only[cH,bYl q om,qm,cN,hJ]
def bYo(q:aA)(L:q.aT.length<=1000000)(H:q.aW.length<=8):lY (Kx q) 0=some (if(List.range q.aW.length).all (wtI q)=true then .inl ()else .inr false):=by
 rw[<-UN q om H];congr 1;funext i;unfold Kx BP
 by_cases h:0<=i/\i<(q.aW.length:Int)
 .rw[cB (cQ h.2),cB (cQ h.2),mD h,mD h,mD (λ _=>h)];simp only[At,yL,Og _ _ (show q.aT.length<4611686018427387904 by omega),Oh q _ (show q.aT.length<4611686018427387904 by omega)]
 .by_cases K:i<(q.aW.length:Int)
  .rw[cB (cQ K),cB (cQ K),gdn h,gdn h]
  .rw[bX (by simpa using K),bX (by simpa using K)]
def bYp(q:aA)(L:q.aT.length<=1000000)(O:q.aN.length<=8):lY (Er q) 0=some (if(List.range q.aN.length).all (cvI q)=true then .inl ()else .inr false):=by
 have H:lY (Er q) 0=some ((qA (λ i=>if cvI q i=true then none else some (Sum.inr false)) q.aN.length 0).getD (Sum.inl ())):=by
  refine tP q.aN.length _ (Sum.inl ()) (λ i K=>?_) ?_
  .unfold Er;rw[cB (by simpa using K),mD om,mB om om,lF];unfold cvI covA;generalize q.aN.getD i aV.zero=w;rw[Og _ _ (show q.aT.length<4611686018427387904 by omega),eF,HM _ _ (show q.aN.length<4611686018427387904 by omega)];simp only[yL,At];rcases hb (decide (oR q.aN w.aM=(i:Int)))with c1|c1<;>rcases hb (oQ (getH q.aT w.aM))with c2|c2<;>rcases hb (mM q.aB w.aJ)with c3|c3<;>rcases hb (rZ q.aB w.aJ (getH q.aT w.aM))with c4|c4<;>
    rcases hb (decide (w.aJ=getH q.aT w.aM))with c5|c5<;>rcases hb (decide (w.bC=0))with c6|c6<;>rcases hb (decide (w.bS=0))with c7|c7<;>
    simp only[c1,c2,c3,c4,c5,c6,c7,cR,dL,jO,fY,jG,dT,fI,cN,hY,fA,cH,cI,bZ,qm,fG,gP]
  .unfold Er;rw[bX (by simp)]
 rw[H,uP,<-eZ];cases(List.range q.aN.length).all (cvI q)<;>rfl
def Oi(q:aA):i6 q=some (yM q):=by
 unfold i6 yM cvOk wtOk;rw[UK,eF];cases resV q.aB
 .simp
 .simp only[cH,Oe,qm,cN];cases K:pA q.aB q.aT
  .simp
  .have V:=Aw K
   by_cases F:8<q.aN.length
   .have H:¬q.aN.length<=8:=om
    have O:decide (8<(q.aN.length:Int))=true:=by simp;omega
    simp[H,O]
   .have H:q.aN.length<=8:=om
    have O:decide (8<(q.aN.length:Int))=false:=by simp;omega
    simp only[H,O,cR,fG,dL,cH,UF,qm,dT,cF,cN];cases L:qJ q.aW
    .simp
    .have B:=Of L;simp only[cR,dT,cN];rw[mB om om]
     by_cases h:q.aT.length+q.aW.length<=8
     .by_cases U:0<=q.gen
      .by_cases Y:q.gen<=1073741824
       .rw[bX (by simp;omega),bYp q om H];simp only[h,U,Y,cF,cN,fI];cases(List.range q.aN.length).all (cvI q)
        .rfl
        .simp only[cH,qm,cN];unfold Ky;rw[bYo q om B];cases(List.range q.aW.length).all (wtI q)<;>rfl
       .rw[cB (by simp;omega)];simp[Y]
      .rw[cB (by simp;omega)];simp[U]
     .rw[cB (by simp;omega)];simp[h]
def oC(q:aA):aV×Bool:=match q.aN++q.aW with
 |w::_=>(w,true)
 |[]=>(aV.zero,false)
def UO(q:aA):Dk q=some (oC q):=by
 unfold Dk oC;cases q.aN with
 |cons a l=>rw[cB (by simp),mD (by simp)];rfl
 |nil=>
  rw[bX (by simp)];cases q.aW with
  |cons a l=>rw[cB (by simp),mD (by simp)];rfl
  |nil=>rw[bX (by simp)];rfl
def UP(q:aA):Dl q=some (oC q):=by rw[<-UO];rfl
def mR(q:aA):Bool:=yM q&&!((oC q).2&&sU q.aB q.aT (oC q).1.aM (oC q).1.aJ)
def bYt(q:aA):G8 q=some (mR q):=by
 unfold G8 mR;rw[bYn,eF];cases yM q
 .simp
 .rw[bX (by simp),UO,eF];cases(oC q).2<;>simp[bXe]
def UQ(q:aA):B3 q=some (mR q):=by
 unfold B3 mR;rw[Oi,eF];cases yM q
 .simp
 .rw[bX (by simp),UP,eF];cases(oC q).2<;>simp[bXf]
def bYv(q:aA):G9 q=some (mR q):=by unfold G9;rw[bYt];rfl
def HO(q:aA):yE q=some (mR q):=by
 unfold yE;rw[Oi,eF];cases h:yM q
 .simp[mR,h]
 .simp[UQ]
def bYx(a b:List aX)(H:a.length<4611686018427387904):Be a b=some (decide (a=b)):=by
 unfold Be
 by_cases h:a.length=b.length
 .rw[bX (by simp[h])];exact N7 a b aX.zero H h (λ i=>rfl)
 .rw[cB (by simp;omega)];have:a≠b:=λ e=>h (by rw[e]);simp[this]
instance:DecidableEq aA:=λ a b=>decidable_of_iff (a.aB=b.aB/\a.aT=b.aT/\a.aN=b.aN/\a.aW=b.aW/\a.gen=b.gen) (by rw[aA.ext_iff])
def bYy(a b:aA)(F:a.aT.length<4611686018427387904)(M:a.aN.length<4611686018427387904)(K:a.aW.length<4611686018427387904):DA a b=some (decide (a=b)):=by
 unfold DA;simp only[bYx _ _ F,UI _ _ M,UI _ _ K];have e:decide (a=b)=(decide (a.aB=b.aB)&&(decide (a.gen=b.gen)&&(decide (a.aT=b.aT)&&(decide (a.aN=b.aN)&&decide (a.aW=b.aW))))):=by
  rw[dR];simp only[cC,bY,aA.ext_iff];constructor
  .rintro⟨H,O,U,Y,B⟩;exact⟨H,B,O,U,Y⟩
  .rintro⟨H,B,O,U,Y⟩;exact⟨H,O,U,Y,B⟩
 rw[e];cases decide (a.aB=b.aB)<;>cases decide (a.gen=b.gen)<;>cases decide (a.aT=b.aT)<;>cases decide (a.aN=b.aN)<;>cases decide (a.aW=b.aW)<;>rfl
def bYz(a b:List aV)(K:a.length<=1000000)(hb:b.length<=1000000):Bf [a,b]=some (a++b):=by
 unfold Bf;have H:x8 [a,b] (0,0)=some (.inl ((a.length:Int),1)):=by unfold x8;rw[cB (by simp),mD (by simp)];show(if decide (IntKind.i64.wrap (0+(a.length:Int))<0)=true then none else some (Sum.inl (IntKind.i64.wrap (0+(a.length:Int)),_)))=_;rw[mB om om,bX (by simp),lU];rfl
 have O:x8 [a,b] ((a.length:Int),1)=some (.inl ((a.length:Int)+(b.length:Int),2)):=by unfold x8;rw[cB (by simp),mD (by simp)];show(if decide (IntKind.i64.wrap ((a.length:Int)+(b.length:Int))<0)=true then none else some (Sum.inl (IntKind.i64.wrap ((a.length:Int)+(b.length:Int)),_)))=_;rw[mB om om,bX (by simp;omega)];rfl
 have U:x8 [a,b] ((a.length:Int)+(b.length:Int),2)=some (.inr ((a.length:Int)+(b.length:Int))):=by unfold x8;rw[bX (by simp)]
 rw[mJ,H];simp only;rw[mJ,O];simp only;rw[mJ,U];simp only[qm];unfold JJ JA;rw[mD om,eF];have Y:x7 [a,b] (0,[])=some (.inl (1,a)):=by unfold x7;rw[cB (by simp),mD (by simp),mD (by simp;omega)];rfl
 have B:x7 [a,b] (1,a)=some (.inl (2,a++b)):=by unfold x7;rw[cB (by simp),mD (by simp),mD (by simp;omega)];rfl
 have F:x7 [a,b] (2,a++b)=some (.inr (a++b)):=by unfold x7;rw[bX (by simp)]
 rw[mJ,Y];simp only;rw[mJ,B];simp only;rw[mJ,F];rfl
def bZ0(q:aA)(H:q.aN.length<=1000000)(O:q.aW.length<=1000000):DL q=some (q.aN++q.aW):=by unfold DL;rw[bYz _ _ H O];rfl
def Ax(l:List aV)(p:aK):aC×Bool:=match l.find? λ w=>decide (w.aM=p)with
 |some w=>(w.aJ,true)
 |none=>(aC.zero,false)
def nH(q:aA)(p:aK):aC×Bool:=Ax (q.aN++q.aW) p
def upM(a b g:Int):Bool:=covM g a&&covM g b
def supM(a b:Int):Int:=if upM a b 1=true then 1 else if upM a b 2=true then 2 else if upM a b 3=true then 3 else if upM a b 4=true then 4 else if upM a b 5=true then 5 else 0
def bZ2{body:Int->Option (Int⊕(Unit⊕Int))}(a b:Int)(H:∀g,1<=g->g<=5->body g=some (if upM a b g=true then .inr (.inr g)else .inl (g+1)))(F:body 6=some (.inr (.inl ()))):
  (lY body 1).bind (λ|.inl _=>some 0|.inr z=>some z)=some (supM a b):=by
 unfold supM;rw[mJ,H 1 Om Om]
 by_cases O:upM a b 1=true
 .simp[O]
 simp only[O,bZ,cI];rw[show(1:Int)+1=2 from rfl,mJ,H 2 Om Om]
 by_cases K:upM a b 2=true
 .simp[K]
 simp only[K,bZ,cI];rw[show(2:Int)+1=3 from rfl,mJ,H 3 Om Om]
 by_cases U:upM a b 3=true
 .simp[U]
 simp only[U,bZ,cI];rw[show(3:Int)+1=4 from rfl,mJ,H 4 Om Om]
 by_cases Y:upM a b 4=true
 .simp[Y]
 simp only[Y,bZ,cI];rw[show(4:Int)+1=5 from rfl,mJ,H 5 Om Om]
 by_cases B:upM a b 5=true
 .simp[B]
 simp only[B,bZ,cI];rw[show(5:Int)+1=6 from rfl,mJ,F];rfl
def bZ3(a b:Int):DQ a b=some (supM a b):=by
 refine bZ2 a b (λ g O H=>?_) ?_
 .unfold J6;rw[cB (by simpa using H),mB om om];rcases hb (covM g a)with c|c<;>rcases hb (covM g b)with d|d<;>simp[upM,c,d]
 .unfold J6;rw[bX Om]
def rG(r:aI)(a b:aC):aC:=
 if(!nS r a||!nS r b)=true then aC.zero else
 if oQ a=true then b else if oQ b=true then a else
 if r.kind=1 then{aC.zero with mode:=supM a.mode b.mode}else{aC.zero with aU:=if a.aU<b.aU then b.aU else a.aU}
def bZ5:∀a∈[(1:Int),2,3,4,5],∀b∈[(1:Int),2,3,4,5],covM a b=true->supM a b=a:=by decide
def bZ6:∀a∈[(1:Int),2,3,4,5],∀b∈[(1:Int),2,3,4,5],covM b a=true->supM a b=b:=by decide
def UR(r:aI)(a b:aC):BM r a b=some (rG r a b):=by
 unfold BM rG;simp only[E4,bZ3,qm];cases V:nS r a
 .simp
 cases K:nS r b
 .simp
 simp only[cR,fG,bZ,cI];unfold rZ;simp only[E4,yL,V,K,cR,fG,bZ,cI];rcases hb (oQ a)with hza|hza<;>rcases hb (oQ b)with hzb|hzb
 rotate_left 3
 .simp only[hza,hzb,bZ,cI]
  by_cases O:r.kind=1
  .have pa:=Ci V O;have pb:=Ci K O;have na:a.mode≠0:=λ h=>by
    have:a=aC.zero:=by cases a;simp only at*;simp[aC.zero];omega
    rw[this]at hza;exact absurd hza Om
   have nb:b.mode≠0:=λ h=>by
    have:b=aC.zero:=by cases b;simp only at*;simp[aC.zero];omega
    rw[this]at hzb;exact absurd hzb Om
   have F:a.mode∈[(1:Int),2,3,4,5]:=by simp;omega
   have M:b.mode∈[(1:Int),2,3,4,5]:=by simp;omega
   have Y:a={aC.zero with mode:=a.mode}:=by cases a;simp only at*;simp[aC.zero];omega
   have B:b={aC.zero with mode:=b.mode}:=by cases b;simp only at*;simp[aC.zero];omega
   simp only[O,cF,cH]
   by_cases H:covM a.mode b.mode=true
   .rw[cB H,bZ5 _ F _ M H];exact dZ some Y
   .rw[bX H]
    by_cases L:covM b.mode a.mode=true
    .rw[cB L,bZ6 _ F _ M L];exact dZ some B
    .rw[bX L]
  .have U:r.kind=2:=by
    have:=V;rw[perm_iff,tQ,rR]at this;omega
   have pa:=K6 V U;have pb:=K6 K U;have Y:a={aC.zero with aU:=a.aU}:=by cases a;simp only at*;simp[aC.zero];omega
   have B:b={aC.zero with aU:=b.aU}:=by cases b;simp only at*;simp[aC.zero];omega
   have d:decide (r.kind=1)=false:=by simpa using O
   simp only[d,O,bZ,cI,cC]
   by_cases H:b.aU<=a.aU
   .have:¬a.aU<b.aU:=om
    rw[cB H,bX this];exact dZ some Y
   .have:a.aU<b.aU:=om
    have L:a.aU<=b.aU:=om
    rw[bX H,cB L,cB this];exact dZ some B
 .have Z:a=aC.zero:=by unfold oQ at hza;simpa using hza
  have e1:b=aC.zero:=by unfold oQ at hzb;simpa using hzb
  simp only[hza,hzb,cH];rw[Z,e1]
 .simp only[hza,hzb,cH,bZ,cI]
 .simp only[hza,hzb,cH,bZ,cI]
def bZ8(g:Int):oW g=oW g:=rfl
def Lf(q:aA)(H:q.aT.length<=1000000)(O:q.aN.length<=1000000)(U:q.aW.length<=1000000):zZ q=some q:=by unfold zZ;rw[mD om,mD om,mD om]
def bZa(q:aA)(H:q.aT.length<=1000000)(O:q.aN.length<=1000000)(U:q.aW.length<=1000000):Do q=some q:=by unfold Do;rw[mD om,mD om,mD om]
def popQ(q:aA):aA:=
 if 0<q.aN.length then{q with aT:=setL q.aT (oC q).1.aM (oC q).1.aJ,aN:=q.aN.drop 1}
 else{q with aT:=setL q.aT (oC q).1.aM (oC q).1.aJ,aW:=q.aW.drop 1}
def canQ(q:aA):Bool:=(oC q).2&&sU q.aB q.aT (oC q).1.aM (oC q).1.aJ
def l7(s:aA×List aX):aA×List aX:=(popQ s.1,s.2++[⟨(oC s.1).1.aM,(oC s.1).1.aJ⟩])
def advN:Nat->aA×List aX->aA×List aX
 |0,s=>s
 |n+1,s=>if canQ s.1=true then advN n (l7 s)else s
def pJ(q:aA):Nat:=q.aN.length+q.aW.length
def advQ(q:aA):aA×List aX:=advN (pJ q) (q,[])
def E7{q:aA}(h:canQ q=true):0<pJ q/\pJ (popQ q)+1=pJ q/\q.aT.length<=8:=by
 unfold canQ at h;simp only[bY]at h;obtain⟨H,O⟩:=h;have U:pA q.aB q.aT=true:=by unfold sU tR at O;simp only[bY]at O;exact O.1.1
 refine⟨?_,?_,Aw U⟩
 .unfold oC at H;unfold pJ;cases K:q.aN with
  |cons a l=>simp;omega
  |nil=>
   cases L:q.aW with
   |cons a l=>simp
   |nil=>simp[K,L]at H
 .unfold oC at H;unfold pJ popQ;cases K:q.aN with
  |cons a l=>simp;omega
  |nil=>
   cases L:q.aW with
   |cons a l=>simp
   |nil=>simp[K,L]at H
def Oj(s:aA×List aX):advN (pJ s.1) s=if canQ s.1=true then advN (pJ (l7 s).1) (l7 s)else s:=by
 cases K:canQ s.1 with
 |false=>
  cases L:pJ s.1 with
  |zero=>rfl
  |succ n=>simp[advN,K]
 |true=>obtain⟨O,H,_⟩:=E7 K;have:pJ s.1=pJ (popQ s.1)+1:=H.symm;rw[this];simp[advN,K,l7]
def Ok(p:aK):∀(l:List aV) (i:Nat),match qE p l i with
  |some j=>i<=j/\(l.find? λ w=>decide (w.aM=p))=some (l.getD (j-i) aV.zero)
  |none=>(l.find? λ w=>decide (w.aM=p))=none
 |[],i=>rfl
 |w::l,i=>by
  simp only[qE,List.find?_cons]
  by_cases O:w.aM=p
  .simp[O]
  .have H:=Ok p l (i+1);simp only[O,cI,cP];cases K:qE p l (i+1)with
   |none=>rw[K]at H;exact H
   |some j=>rw[K]at H;obtain⟨Y,U⟩:=H;refine⟨by omega,?_⟩;rw[U,show j-i=(j-(i+1))+1 by omega,gX]
def US(l:List aV)(p:aK):Ax l p=if 0<=oR l p then((l.getD (oR l p).toNat aV.zero).aJ,true)else(aC.zero,false):=by
 have h:=Ok p l 0;unfold Ax oR;cases K:qE p l 0 with
 |none=>rw[K]at h;simp only at h;rw[h];rfl
 |some j=>rw[K]at h;obtain⟨_,H⟩:=h;rw[H,cB (by simp only;omega)];simp
def bZh(l m:List aV)(p:aK):Ax (l++m) p=if 0<=oR l p then Ax l p else Ax m p:=by
 have h:=Ok p l 0;unfold Ax oR;rw[List.find?_append];cases K:qE p l 0 with
 |none=>rw[K]at h;simp only at h;rw[h,bX Om];rfl
 |some j=>rw[K]at h;obtain⟨_,H⟩:=h;rw[H,cB (by simp only;omega)];rfl
def Ay(q:aA)(p:aK)(O:q.aN.length<=1000000)(U:q.aW.length<=1000000):uG q p=some (nH q p):=by
 unfold uG nH;rw[HM _ _ om,eF,bZh,US q.aN,US q.aW];have Y:=UH q.aN p;have B:=UH q.aW p
 by_cases H:0<=oR q.aN p
 .rw[cB (cQ H),mD om,cB H,cB H]
 .rw[bX (by simpa using H),bX H,HM _ _ om,eF]
  by_cases K:0<=oR q.aW p
  .rw[cB (cQ K),mD om,cB K]
  .rw[bX (by simpa using K),bX K]
def optI(o:Option Nat):Int:=match o with
 |some i=>(i:Int)
 |none=>-1
def bZi(l:List aV)(p:aK):oR l p=optI (qE p l 0):=rfl
def bZj(o:Option Nat):optI (o.map (·+1))=if 0<=optI o then optI o+1 else-1:=by
 cases o with
 |none=>rfl
 |some n=>have h:(0:Int)<=optI (some n):=Int.natCast_nonneg n;rw[cB h];exact Int.natCast_succ n
def Ol{l:List aV}:(∀i,i<l.length->oR l (l.getD i aV.zero).aM=i)↔(l.map (·.aM)).Nodup:=by
 induction l with
 |nil=>simp
 |cons w l B=>
  rw[dO,iS];have O:∀p i,qE p l (i+1)=(qE p l i).map (·+1):=by
   intro p
   clear B
   induction l with
   |nil=>intro i;rfl
   |cons x l B=>intro i;simp only[qE];split<;>simp[B]
  have H:∀i,oR (w::l) (l.getD i aV.zero).aM=if w.aM=(l.getD i aV.zero).aM then 0 else if 0<=oR l (l.getD i aV.zero).aM then oR l (l.getD i aV.zero).aM+1 else-1:=λ i=>by
   simp only[bZi,qE,O]
   by_cases h:w.aM=(l.getD i aV.zero).aM
   .simp[h,optI]
   .simp only[h,cI];exact bZj _
  constructor
  .intro h;have F:∀i,i<l.length->w.aM≠(l.getD i aV.zero).aM/\oR l (l.getD i aV.zero).aM=i:=λ i K=>by
    have:=h (i+1) (by simpa using K);rw[gX,H]at this;split at this
    .omega
    .rename_i U;split at this
     .exact⟨U,by omega⟩
     .omega
   refine⟨λ hm=>?_,B.1 λ i K=>(F i K).2⟩;obtain⟨x,L,M⟩:=cS.1 hm;obtain⟨i,K,rfl⟩:=gD.1 L;have:=(F i K).1;rw[cD,cE K]at this;exact this M.symm
  .rintro⟨F,V⟩ i K;have Z:=B.2 V;cases i with
   |zero=>simp[oR,qE]
   |succ i=>
    have Y:i<l.length:=by simpa using K
    have U:w.aM≠(l.getD i aV.zero).aM:=λ e=>F (cS.2 ⟨l.getD i aV.zero,by
     rw[cD,cE Y];exact iP Y,e.symm⟩)
    rw[gX,H,bX U,Z i Y,cB om];omega
def HP(l:List aV):qJ l=true↔l.length<=8/\(∀w∈l,pI w=true)/\(l.map (·.aM)).Nodup:=by
 unfold qJ;simp only[bY,cC,dQ,eH];constructor
 .rintro⟨O,H⟩;refine⟨O,λ w L=>?_,Ol.1 λ i K=>(H i K).2⟩;obtain⟨i,K,rfl⟩:=gD.1 L;have:=(H i K).1;rwa [cD,cE K]at this
 .rintro⟨O,H,U⟩;refine⟨O,λ i K=>⟨H _ ?_,Ol.2 U i K⟩⟩;rw[cD,cE K];exact iP K
def UT{l:List aV}(p:aK)(h:qJ l=true):qJ (rmL l p)=true:=by rw[HP]at h⊢;refine⟨dI (bXx l p) h.1,λ w H=>h.2.1 w ((gV.1 H).1),?_⟩;exact(h.2.2).sublist ((jD).map _)
def UU(l:List aV)(w:aV):∀k i,sI l w k<=i->i<k->over w (l.getD i aV.zero)=true
 |k+1,i,K,O=>by
  unfold sI at K;split at K
  .rename_i H
   by_cases L:i=k
   .subst L;exact H
   .exact UU l w k i K om
  .omega
def bZo{l:List aV}{w e:aV}(h:e∈l.drop (sI l w l.length)):over w e=true:=by obtain⟨i,H,rfl⟩:=gD.1 h;have:=UU l w l.length (sI l w l.length+i) om (by simp at H;omega);rw[List.getElem_drop];rwa [cD,cE (by simp at H;omega)]at this
def bZp{w e:aV}(h:pI e=true)(ho:over w e=true):pI (bump e)=true/\(bump e).bS=e.bS+1:=by
 have O:=bY1 h;have U:e.bS<3:=by unfold over at ho;simp at ho;exact ho.2
 have H:(bump e).bS=e.bS+1:=by unfold bump;simp only;rw[mB om om]
 refine⟨?_,H⟩;unfold pI at h⊢;simp only[bY,cC]at h⊢;rw[H];exact⟨⟨h.1.1,by omega⟩,by omega⟩
def bZq(l:List aV)(w:aV)(n:Nat):(wR l w n).map (·.aM)=(l.take n).map (·.aM)++w.aM::(l.drop n).map (·.aM):=by unfold wR;rw[fL,dO,kC];rfl
def bZr{l:List aV}{w:aV}(h:qJ l=true)(L:pI w=true)(O:∀e∈l,e.aM≠w.aM)(V:l.length<8):qJ (wR l w (sI l w l.length))=true:=by
 rw[HP]at h⊢;have F:=Lc l w l.length;have Y:=λ e=>bZo (l:=l) (w:=w) (e:=e);generalize sI l w l.length=n at F Y;refine⟨by simp[wR];omega,λ e H=>?_,?_⟩
 .simp only[wR,cY,cL,cS]at H;rcases H with H|rfl|⟨x,K,rfl⟩
  .exact h.2.1 e (iJ H)
  .exact L
  .exact(bZp (h.2.1 x (iZ K)) (Y x K)).1
 .rw[bZq];have B:=h.2.2;rw[<-eO n l,fL]at B;have U:w.aM∉(l.take n).map (·.aM)++(l.drop n).map (·.aM):=by
   rw[<-fL,eO];intro hm;obtain⟨x,K,H⟩:=cS.1 hm;exact O x K H
  exact(List.perm_middle.nodup_iff).2 (iS.2 ⟨U,B⟩)
end Ab
end Go.Proofs.YtfmnjkfhahfhgaaGreatDoor
