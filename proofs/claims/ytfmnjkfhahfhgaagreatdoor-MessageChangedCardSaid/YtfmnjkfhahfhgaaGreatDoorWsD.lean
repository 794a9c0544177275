import Derived.Test.YtfmnjkfhahfhgaaGreatDoorAuto
import Derived.Laws.Bits64
import Derived.Laws.BitsLemmas
import Derived.KernelRfl
import Derived.Test.YtfmnjkfhahfhgaaGreatDoorHm29
namespace Go.Proofs.YtfmnjkfhahfhgaaGreatDoor
namespace Ab
set_option linter.all false
def mH{x:Int}(H:-9223372036854775808<=x)(O:x<9223372036854775808):IntKind.i64.wrap x=x:=by rw[IntKind.wrap_i64];omega
def Vo{G X:Type}{body:G->Option (G⊕X)}(I:G->Prop)(μ:G->Nat)(H:G->X)
  (h:∀g,I g->(∃O,body g=some (.inl O)/\I O/\μ O<μ g/\H O=H g)\/body g=some (.inr (H g))):∀g,I g->mF body g=some (H g):=by
 have U:∀n g,μ g=n->I g->mF body g=some (H g):=by
  intro n;induction n using Nat.strongRecOn with
  |_ n Y=>
   intro g B hg;rw[mP];rcases h g hg with⟨O,h1,F,M,K⟩|h1
   .rw[h1];simp only;rw[Y (μ O) (B▸M) O rfl F,K]
   .rw[h1]
 exactλ g hg=>U _ g rfl hg
def qG{X:Type}(H:Nat->Option X):Nat->Nat->Option X
 |0,_=>none
 |n+1,i=>match H i with
  |some x=>some x
  |none=>qG H n (i+1)
def uB{X:Type}{body:Int->Option (Int⊕X)}(n:Nat)(H:Nat->Option X)(O:X)
  (h:∀i:Nat,i<n->body i=some (match H i with|some x=>.inr x|none=>.inl ((i:Int)+1))) (U:body n=some (.inr O)):mF body 0=some ((qG H n 0).getD O):=by
 have Y:∀k i,i+k=n->mF body (i:Int)=some ((qG H k i).getD O):=by
  intro k;induction k with
  |zero=>intro i K;rw[mP,show i=n by omega,U];rfl
  |succ k B=>
   intro i K;rw[mP,h i om];simp only[qG];cases L:H i with
   |some x=>rfl
   |none=>simp only;have:=B (i+1) om;rw[show((i+1:Nat):Int)=(i:Int)+1 by omega]at this;exact this
 exact Y n 0 om
def wE{S X:Type}(H:Nat->S->S⊕X)(O:S->X):Nat->Nat->S->X
 |0,_,s=>O s
 |n+1,i,s=>match H i s with
  | .inl U=>wE H O n (i+1) U
  | .inr x=>x
def bVf{S X:Type}{body:Int×S->Option ((Int×S)⊕X)}(n:Nat)(H:Nat->S->S⊕X)(U:S->X)(O:Nat->S->Prop)
  (h:∀i s,i<n->O i s->body ((i:Int),s)=some (match H i s with|.inl Y=>.inl ((i:Int)+1,Y)|.inr x=>.inr x)/\∀Y,H i s=.inl Y->O (i+1) Y)
  (B:∀s,O n s->body ((n:Int),s)=some (.inr (U s))) (s0:S) (K:O 0 s0):mF body (0,s0)=some (wE H U n 0 s0):=by
 have F:∀k i s,i+k=n->O i s->mF body ((i:Int),s)=some (wE H U k i s):=by
  intro k;induction k with
  |zero=>intro i s L M;rw[mP,show i=n by omega,B s (by rw[<-show i=n by omega];exact M)];rfl
  |succ k ih=>
   intro i s L M;obtain⟨V,Z⟩:=h i s om M;rw[mP,V];simp only[wE];cases ho:H i s with
   |inr x=>rfl
   |inl Y=>simp only;have:=ih (i+1) Y om (Z Y ho);rw[show((i+1:Nat):Int)=(i:Int)+1 by omega]at this;exact this
 exact F n 0 s0 om K
def nZ{G X:Type}{body:G->Option (G⊕X)}(I:G->Prop)(μ:G->Nat)(Post:X->Prop)
  (h:∀g,I g->(∃H,body g=some (.inl H)/\I H/\μ H<μ g)\/∃x,body g=some (.inr x)/\Post x):∀g,I g->∃x,mF body g=some x/\Post x:=by
 have O:∀n g,μ g=n->I g->∃x,mF body g=some x/\Post x:=by
  intro n;induction n using Nat.strongRecOn with
  |_ n B=>
   intro g F hg;rw[mP];rcases h g hg with⟨H,U,Y,M⟩|⟨x,U,Y⟩
   .rw[U];exact B (μ H) (F▸M) H rfl Y
   .rw[U];exact⟨x,rfl,Y⟩
 exactλ g hg=>O _ g rfl hg
def bVg{S X:Type}{body:Int×S->Option ((Int×S)⊕X)}(n:Nat)(H:Nat->S->S⊕X)(Y:S->X)(O:Nat->S->Prop)
  (h:∀i s,i<n->O i s->body ((i:Int),s)=some (match H i s with|.inl U=>.inl ((i:Int)+1,U)|.inr x=>.inr x)/\∀U,H i s=.inl U->O (i+1) U)
  (B:∀s,O n s->body ((n:Int),s)=some (.inr (Y s))):∀k i s,i+k=n->O i s->mF body ((i:Int),s)=some (wE H Y k i s):=by
 intro k;induction k with
 |zero=>intro i s K F;rw[mP,show i=n by omega,B s (by rw[<-show i=n by omega];exact F)];rfl
 |succ k M=>
  intro i s K F;obtain⟨L,V⟩:=h i s om F;rw[mP,L];simp only[wE];cases Z:H i s with
  |inr x=>rfl
  |inl U=>simp only;have:=M (i+1) U om (V U Z);rw[show((i+1:Nat):Int)=(i:Int)+1 by omega]at this;exact this
def vC(p:Nat->Bool){U:Type}:∀k i,qG (λ i=>if p i=true then none else some (Sum.inr (α:=U) false)) k i=if(List.range' i k).all p=true then none else some (.inr false)
 |0,i=>rfl
 |k+1,i=>by
  simp only[qG,hZ,List.all_cons];cases H:p i with
  |true=>simp only[cH,cL];exact vC p k (i+1)
  |false=>simp
def Vp{α:Type}[DecidableEq α](a b:List α)(z:α)(h:a.length=b.length):((List.range a.length).all λ i=>decide (a.getD i z=b.getD i z))=decide (a=b):=by
 rw[dM];simp only[dT,eH,cB];constructor
 .intro O;refine jX h λ i H U=>?_;have:=O i H;rwa [cD,cD,cF H,cF U]at this
 .rintro rfl i _;rfl
def O6{α:Type}[DecidableEq α](a b:List α)(z:α){body:Int->Option (Int⊕(Unit⊕Bool))}(L:a.length<4611686018427387904)(h:a.length=b.length)
  (hb:∀i:Int,body i=if(decide (i<(a.length:Int)))=true then gd (0<=i/\i<(a.length:Int))<|gd (0<=i/\i<(b.length:Int))<|
   (if(!decide (a.getD i.toNat z=b.getD i.toNat z))=true then some (.inr (.inr false))else some (.inl (IntKind.i64.wrap (i+1))))else some (.inr (.inl ()))):
  (mF body 0).bind (λ|.inl _=>some true|.inr z=>some z)=some (decide (a=b)):=by
 have H:mF body 0=some ((qG (λ i=>if decide (a.getD i z=b.getD i z)=true then none else some (Sum.inr false)) a.length 0).getD (Sum.inl ())):=by
  refine uB a.length _ (Sum.inl ()) (λ i O=>?_) ?_
  .rw[hb,cA (cP om),mL om,mL om];simp only[Qm]
   by_cases K:a.getD i z=b.getD i z
   .simp only[K,cG,cQ,bZ,cI,cH];rw[mH om om]
   .simp only[K,cO,dO,cH,bZ,cI]
  .rw[hb,bX (by simp)]
 rw[H,vC,<-eX,Vp a b z h];cases decide (a=b)<;>rfl
def Vq{α:Type}(f:Nat->α):∀n i (s:List α),wE (X:=List α) (λ i s=>.inl (s++[f i])) (λ s=>s) n i s=s++(List.range' i n).map f
 |0,i,s=>by simp[wE]
 |n+1,i,s=>by simp[wE,Vq f n (i+1),hZ]
def Vr{α:Type}(l:List α)(z:α)(p:α->Bool):∀n i (s:List α),i+n=l.length->wE (X:=List α) (λ i s=>.inl (if p (l.getD i z)=true then s++[l.getD i z]else s)) (λ s=>s) n i s=s++(l.drop i).filter p
 |0,i,s,h=>by simp[wE,hX (show l.length<=i by omega)]
 |n+1,i,s,h=>by
  have H:l.drop i=l.getD i z::l.drop (i+1):=by rw[gN (show i<l.length by omega),cD,cF (show i<l.length by omega)];rfl
  rw[H];simp only[wE,Vr l z p n (i+1) _ om,jZ];split<;>simp
def xK{α:Type}(l:List α)(i:Nat)(z:α)(h:i<l.length):l.drop i=l.getD i z::l.drop (i+1):=by rw[gN h,cD,cF h];rfl
def Vs{α β:Type}(l:List α)(z:α)(f:α->β):∀n i,i+n<=l.length->(List.range' i n).map (λ i=>f (l.getD i z))=((l.drop i).take n).map f
 |0,i,h=>by simp
 |n+1,i,h=>by rw[xK l i z om,lZ,hZ,dN,dN,Vs l z f n (i+1) om]
def O7{α:Type}(l:List α)(i n:Nat)(z:α)(h:i<n):(l.take n).getD i z=l.getD i z:=by rw[cD,cD,eA,cA h]
def sH{α:Type}(l:List α)(i:Nat)(x z:α)(h:i<l.length):(l.set i x).getD i z=x:=by rw[cD,lW h];rfl
def bVo{α:Type}(l m:List α)(i:Nat)(z:α)(h:i<l.length):(l++m).getD i z=l.getD i z:=by rw[cD,cD,dX h]
def walk{α S X:Type}(H:Nat->α->S->Option (S⊕X))(O:S->X):List α->Nat->S->Option X
 |[],_,s=>some (O s)
 |a::l,i,s=>match H i a s with
  |none=>none
  |some (.inl s')=>walk H O l (i+1) s'
  |some (.inr x)=>some x
def wmap{G S X:Type}(H:S->G):S⊕X->G⊕X
 | .inl s=>.inl (H s)
 | .inr x=>.inr x
def rL{α S X G:Type}{body:G->Option (G⊕X)}(l:List α)(z:α)(Y:Nat->S->G)(H:Nat->α->S->Option (S⊕X))(U:S->X)(O:Nat->S->Prop)
  (hb:∀i s,i<l.length->O i s->body (Y i s)=(H i (l.getD i z) s).map (wmap (Y (i+1)))/\∀B,H i (l.getD i z) s=some (.inl B)->O (i+1) B)
  (K:∀s,O l.length s->body (Y l.length s)=some (.inr (U s))) (s0:S) (L:O 0 s0):mF body (Y 0 s0)=walk H U l 0 s0:=by
 have F:∀k i s,i+k=l.length->O i s->mF body (Y i s)=walk H U (l.drop i) i s:=by
  intro k;induction k with
  |zero=>
   intro i s V M;have:i=l.length:=om
   subst this;rw[mP,K s M,iT];rfl
  |succ k ih=>
   intro i s V M;obtain⟨Z,h2⟩:=hb i s om M;rw[mP,Z,xK l i z om];simp only[walk];cases ho:H i (l.getD i z) s with
   |none=>rfl
   |some y=>
    cases y with
    |inl B=>exact ih (i+1) B om (h2 B ho)
    |inr x=>rfl
 have:=F l.length 0 s0 om L;rwa [fF]at this
def xL{α S X G:Type}{body:G->Option (G⊕X)}(l:List α)(z:α)(U:Nat->S->G)(H:Nat->α->S->Option (S⊕X))(O:S->X)
  (hb:∀i s,i<l.length->body (U i s)=(H i (l.getD i z) s).map (wmap (U (i+1))))
  (Y:∀s,body (U l.length s)=some (.inr (O s))) (s0:S):mF body (U 0 s0)=walk H O l 0 s0:=
 rL l z U H O (λ _ _=>True) (λ i s h _=>⟨hb i s h,λ _ _=>trivial⟩) (λ s _=>Y s) s0 trivial
def mK(i:Nat)(h:i<4611686018427387904):IntKind.i64.wrap ((i:Int)+1)=((i+1:Nat):Int):=by rw[mH om om];omega
def w9(i:Nat)(h:i<4611686018427387904)(H:0<i):IntKind.i64.wrap ((i:Int)-1)=((i-1:Nat):Int):=by rw[mH om om];omega
def gdp{α:Type}{p:Prop}[Decidable p]{k:Option α}(h:p):gd p k=k:=cA h
@[simp] theorem mR{α:Type}[Decidable True](k:Option α):gd True k=k:=cA trivial
@[simp] theorem bVr{α:Type}[Decidable False](k:Option α):gd False k=none:=bX (λ h=>h)
def gdn{α:Type}{p:Prop}[Decidable p]{k:Option α}(h:¬p):gd p k=none:=bX h
def sP{β:Type}(s:List β):Option β->List β
 |some b=>s++[b]
 |none=>s
def bVt{β:Type}(s:List β)(o:Option β):(sP s o).length<=s.length+1:=by cases o<;>simp[sP]
def F4{α β X:Type}(f:α->Option β)(H:List β->X):∀(l:List α) (i:Nat) (s:List β),
  walk (λ _ a s=>some (.inl (sP s (f a)))) H l i s=some (H (s++l.filterMap f))
 |[],i,s=>by simp[walk]
 |a::l,i,s=>by simp only[walk,List.filterMap_cons];rw[F4 f H l (i+1)];cases f a<;>simp[sP]
abbrev cmpP(p q:aK):Int:=vW p q
def ltP(p q:aK):Prop:=p.site<q.site\/p.site=q.site/\(p.inc<q.inc\/p.inc=q.inc/\p.num<q.num)
instance(p q:aK):Decidable (ltP p q):=by unfold ltP;infer_instance
def bVv(a b:Int):j7 a b=if a<b then-1 else if b<a then 1 else 0:=by unfold j7;simp only[cB]
def LX(p q:aK):cmpP p q=if ltP p q then-1 else if ltP q p then 1 else 0:=by
 obtain⟨a,b,c⟩:=p;obtain⟨d,e,f⟩:=q;unfold cmpP vW ltP;simp only[bVv,dB,dE]
 grind
def F5(p:aK):¬ltP p p:=by unfold ltP;omega
def Dg{p q r:aK}(h:ltP p q)(k:ltP q r):ltP p r:=by unfold ltP at*;omega
def O8{p q:aK}(h:ltP p q):¬ltP q p:=by unfold ltP at*;omega
def Dh{p q:aK}(h:p≠q):ltP p q\/ltP q p:=by obtain⟨a,b,c⟩:=p;obtain⟨d,e,f⟩:=q;simp only[ne_eq,aK.mk.injEq]at h;unfold ltP;simp only;omega
def O9(p q:aK):0<cmpP p q↔ltP q p:=by
 rw[LX]
 by_cases h:ltP p q
 .simp[h,O8 h]
 .by_cases H:ltP q p<;>simp[h,H]
def LY(p q:aK):0<=cmpP p q↔¬ltP p q:=by
 rw[LX]
 by_cases h:ltP p q
 .simp[h]
 .by_cases H:ltP q p<;>simp[h,H]
def LZ(p q:aK):yQ p q=some (cmpP p q):=by
 unfold yQ Cf;have e:∀(x y z:Int) (i:Nat) (h:[x,y,z].length=3),Arr.get (⟨[x,y,z],h⟩:Arr Int 3) i 0=match i with|0=>x|1=>y|_=>z:=by
  intro x y z i h
  match i with
  |0=>rfl
  |1=>rfl
  |2=>rfl
  |n+3=>
   have:¬(n+3<3):=om
   simp[Arr.get,pB,this]
 have Z:IntKind.i64.wrap (0+1)=1:=by decide
 have w2:IntKind.i64.wrap (1+1)=2:=by decide
 have w3:IntKind.i64.wrap (2+1)=3:=by decide
 have s3:sE ⟨[p.site,p.inc,p.num],rfl⟩ ⟨[q.site,q.inc,q.num],rfl⟩ 3=some (.inr (.inl ())):=by unfold sE;simp
 have s2:sE ⟨[p.site,p.inc,p.num],rfl⟩ ⟨[q.site,q.inc,q.num],rfl⟩ 2=some (if p.num<q.num then .inr (.inr (-1))else if q.num<p.num then .inr (.inr 1)else .inl 3):=by
  unfold sE;rw[cA Om,gdp Om,gdp Om,gdp Om];simp only[e,show(2:Int).toNat=2 from rfl,cB,w3]
  by_cases h:p.num<q.num
  .simp[h]
  .by_cases H:q.num<p.num<;>simp[h,H]
 have F:sE ⟨[p.site,p.inc,p.num],rfl⟩ ⟨[q.site,q.inc,q.num],rfl⟩ 1=some (if p.inc<q.inc then .inr (.inr (-1))else if q.inc<p.inc then .inr (.inr 1)else .inl 2):=by
  unfold sE;rw[cA Om,gdp Om,gdp Om,gdp Om];simp only[e,Int.toNat_one,cB,w2]
  by_cases h:p.inc<q.inc
  .simp[h]
  .by_cases H:q.inc<p.inc<;>simp[h,H]
 have O:sE ⟨[p.site,p.inc,p.num],rfl⟩ ⟨[q.site,q.inc,q.num],rfl⟩ 0=some (if p.site<q.site then .inr (.inr (-1))else if q.site<p.site then .inr (.inr 1)else .inl 1):=by
  unfold sE;rw[cA Om,gdp Om,gdp Om,gdp Om];simp only[e,Int.toNat_zero,cB,Z]
  by_cases h:p.site<q.site
  .simp[h]
  .by_cases H:q.site<p.site<;>simp[h,H]
 rw[LX];unfold ltP
 by_cases U:p.site<q.site
 .rw[mP,O];simp[U]
 .by_cases B:q.site<p.site
  .rw[mP,O];have:¬p.site=q.site:=om
   simp[U,B,this]
  .have Y:p.site=q.site:=om
   by_cases M:p.inc<q.inc
   .rw[mP,O];simp only[U,B,cI];rw[mP,F];simp[M,Y]
   .by_cases L:q.inc<p.inc
    .have:¬p.inc=q.inc:=om
     rw[mP,O];simp only[U,B,cI];rw[mP,F];simp[M,L,Y,this]
    .have H:p.inc=q.inc:=om
     rw[mP,O];simp only[U,B,cI];rw[mP,F];simp only[M,L,cI];rw[mP,s2]
     by_cases K:p.num<q.num
     .simp[K,Y,H]
     .by_cases V:q.num<p.num
      .simp[K,V,Y,H]
      .simp only[K,V,cI];rw[mP,s3];simp[Y,H,KC]
def insP(p:aK)(a:aC):List bA->List bA
 |[]=>[⟨p,a⟩]
 |h::t=>if ltP p h.aM then⟨p,a⟩::h::t else h::insP p a t
def nR(p:aK)(l:List bA):List bA:=l.filter λ h=>!decide (h.aM=p)
def setL(l:List bA)(p:aK)(a:aC):List bA:=if a=aC.zero then nR p l else insP p a (nR p l)
def bW4(p:aK):nR p []=[]:=rfl
def IL(p:aK)(h:bA)(t:List bA):nR p (h::t)=if h.aM=p then nR p t else h::nR p t:=by unfold nR;rw[jZ];by_cases e:h.aM=p<;>simp[e]
def IM(p:aK)(l:List bA):(nR p l).length<=l.length:=jB _ _
def IN(l:List bA)(p:aK)(a:aC)(hl:l.length<=1000000):yU l p a=some (setL l p a):=by
 unfold yU;have F:=rL (body:=HH l p a) l bA.zero (λ i (s:Bool×List bA)=>(s.1,(i:Int),s.2))
  (λ i h s=>some (.inl (if h.aM=p then s else if s.1=false/\ltP p h.aM then(true,s.2++[⟨p,a⟩]++[h])else(s.1,s.2++[h])))) (λ s=>s) (λ i s=>s.2.length<=2*i)
  (λ i s hi Z=>by
   refine⟨?_,λ s' h=>?_⟩
   .unfold HH;have h1:s.2.length+1<=4294967296:=om
    have h2:s.2.length+1+1<=4294967296:=om
    have L:0<=(i:Int)/\(i:Int)<(l.length:Int):=om
    simp only[h1,h2,L.1,L.2,cW,fD,mR,cG,cH,Qm,cB,bY,dB,O9,mK i om,xm,wmap]
    by_cases e:(l.getD i bA.zero).aM=p
    .simp only[e,cH]
    .simp only[e,cI];split<;>rfl
   .simp only[cY,fH]at h;subst h;split
    .omega
    .split<;>simp<;>omega)
  (λ s Z=>by unfold HH;simp) (oG a,[]) (by simp)
 have hz:oG a=decide (a=aC.zero):=rfl;have O:∀(l:List bA) (i:Nat) (d:Bool) (o:List bA),walk (λ i h (s:Bool×List bA)=>some (.inl (if h.aM=p then s else if s.1=false/\ltP p h.aM then(true,s.2++[⟨p,a⟩]++[h])else(s.1,s.2++[h])))) (λ s=>s) l i (d,o)=
   some (if d=true then(true,o++nR p l)else if(nR p l).any (λ h=>decide (ltP p h.aM))=true then(true,o++insP p a (nR p l))else(false,o++nR p l)):=by
  intro l;induction l with
  |nil=>intro i d o;cases d<;>simp[walk,nR]
  |cons h t U=>
   intro i d o;simp only[walk,IL]
   by_cases e:h.aM=p
   .simp only[e,cH];exact U (i+1) d o
   .simp only[e,cI]
    by_cases M:d=false/\ltP p h.aM
    .obtain⟨rfl,B⟩:=M;simp only[B,cW,cH];rw[U];simp[insP,B]
    .rw[bX M,U];cases d with
     |true=>simp
     |false=>have B:¬ltP p h.aM:=λ Y=>M ⟨rfl,Y⟩;simp only[bZ,cI,insP,B,List.any_cons,cO,dP];split<;>simp
 have H:∀l:List bA,l.any (λ h=>decide (ltP p h.aM))=false->insP p a l=l++[⟨p,a⟩]:=by
  intro l;induction l with
  |nil=>intro _;rfl
  |cons h t U=>intro Y;simp only[List.any_cons,jD,dE]at Y;simp only[insP,Y.1,cI,U Y.2,Jm]
 rw[show((oG a,(0:Int),([]:List bA)):Bool×Int×List bA)=(λ(i:Nat) (s:Bool×List bA)=>(s.1,(i:Int),s.2)) 0 (oG a,[])from rfl,F,O,hz];unfold setL Oy;have ho:=IM p l
 by_cases V:a=aC.zero
 .simp[V]
 .simp only[V,cO,bZ,cI,jm]
  by_cases K:(nR p l).any (λ h=>decide (ltP p h.aM))=true
  .simp[K]
  .have K:(nR p l).any (λ h=>decide (ltP p h.aM))=false:=by simpa using K
   rw[bX (by rw[K];decide),eF,H _ K];show gd ((nR p l).length+1<=4294967296) _=_;rw[gdp om]
def Vt{α:Type}(l:List α)(k:Nat)(z x:α)(O:k<=l.length):
  (((l++[z]).take (k+1)++(((l++[z]).drop k).take (l.length+1-k)).take (l.length+1-(k+1))++(l++[z]).drop (k+1+min (((l++[z]).drop k).take (l.length+1-k)).length (l.length+1-(k+1)))).set k x)=l.take k++x::l.drop k:=by
 have U:((l++[z]).drop k).take (l.length+1-k)=l.drop k++[z]:=by rw[fJ O,eJ (by simp;omega)]
 have Y:(l.drop k++[z]).take (l.length+1-(k+1))=l.drop k:=by rw[fI (by simp),eJ (by simp)]
 have B:(l++[z]).drop (k+1+min (l.drop k++[z]).length (l.length+1-(k+1)))=[]:=by rw[hX];simp;omega
 rw[U,Y,B,dY]
 by_cases H:k=l.length
 .subst H;rw[eJ (by simp),iT,dY,iI _ _ (dC _)];simp
 .have:(l++[z]).take (k+1)=l.take k++[l[k]'(by omega)]:=by
   rw[fI om,fR om]
  rw[this,cE,iI _ _ (by simp;omega)];simp[show min k l.length=k by omega]
def bW9(l:List bA)(p:aK)(a:aC)(hl:l.length<=1000000):Cw l p a=some (setL l p a):=by
 unfold Cw;have hw:IntKind.i64.wrap ((l.length:Int)+1)=(l.length:Int)+1:=mH om om;rw[hw,gdp om];have h0:=rL (body:=EL l p) l bA.zero (λ i (s:Int×List bA)=>(s.1,(i:Int),s.2))
  (λ i h s=>some (.inl (if h.aM=p then s else(if s.1<0/\ltP p h.aM then(s.2.length:Int)else s.1,s.2++[h])))) (λ s=>s) (λ i s=>s.2.length<=i)
  (λ i s hi hs=>by
   refine⟨?_,λ s' h=>?_⟩
   .unfold EL;have h1:s.2.length+1<=4294967296:=om
    have V:0<=(i:Int)/\(i:Int)<(l.length:Int):=om
    simp only[h1,V.1,V.2,cW,fD,mR,cG,cH,Qm,cB,bY,LZ,mK i om,xm,wmap]
    by_cases e:(l.getD i bA.zero).aM=p
    .simp only[e,cH]
    .simp only[e,cI]
     by_cases H:s.1<0
     .simp only[H,cH,qm,gG,O9];split<;>rfl
     .simp only[H,cI,qm,iZ]
   .simp only[cY,fH]at h;subst h;split
    .omega
    .simp;omega)
  (λ s hs=>by unfold EL;simp) (-1,[]) (by simp)
 have O:∀(l:List bA) (i:Nat) (d:Int) (o:List bA),walk (λ i h (s:Int×List bA)=>some (.inl (if h.aM=p then s else(if s.1<0/\ltP p h.aM then(s.2.length:Int)else s.1,s.2++[h])))) (λ s=>s) l i (d,o)=
   some (if d<0/\(nR p l).any (λ h=>decide (ltP p h.aM))=true then(((o.length+(nR p l).findIdx (λ h=>decide (ltP p h.aM)):Nat):Int),o++nR p l)else(d,o++nR p l)):=by
  intro l;induction l with
  |nil=>intro i d o;simp[walk,nR]
  |cons h t U=>
   intro i d o;simp only[walk,IL]
   by_cases e:h.aM=p
   .simp only[e,cH];exact U (i+1) d o
   .simp only[e,cI]
    by_cases H:d<0/\ltP p h.aM
    .simp only[H,cW,cH];rw[U,bX om];simp[H.2,kS]
    .rw[bX H,U]
     by_cases K:d<0
     .have e4:¬ltP p h.aM:=λ hh=>H ⟨K,hh⟩;simp only[K,gG,List.any_cons,e4,cO,dP,kS,cond_false,cC,ym,Ym,cE,Jm,jm];split
      .congr 3;omega
      .rfl
     .simp[K]
 have Y:∀l:List bA,insP p a l=l.take (l.findIdx (λ h=>decide (ltP p h.aM)))++⟨p,a⟩::l.drop (l.findIdx (λ h=>decide (ltP p h.aM))):=by
  intro l;induction l with
  |nil=>rfl
  |cons h t U=>
   simp only[insP,kS]
   by_cases e:ltP p h.aM
   .simp[e]
   .simp[e,U]
 have B:mF (EL l p) (-1,0,List.replicate 0 bA.zero)=some (if(nR p l).any (λ h=>decide (ltP p h.aM))=true then(((nR p l).findIdx (λ h=>decide (ltP p h.aM)):Nat):Int)else-1,nR p l):=by
  rw[show((-1,0,List.replicate 0 bA.zero):Int×Int×List bA)=(λ(i:Nat) (s:Int×List bA)=>(s.1,(i:Int),s.2)) 0 (-1,[])from rfl,h0,O];have:((-1:Int)<0):=by decide
  simp only[this,gG,jm,Ym,eC];split<;>rfl
 rw[B,eF];unfold KS setL;have hz:oW a=decide (a=aC.zero):=rfl;rw[hz]
 by_cases Z:a=aC.zero
 .simp[Z]
 .simp only[Z,cO,bZ,cI,cB];have ho:=IM p l;generalize nR p l=o at ho;have fi:o.findIdx (λ h=>decide (ltP p h.aM))<=o.length:=List.findIdx_le_length;have x0:({bA.zero with}:bA)=bA.zero:=rfl
  by_cases L:o.any (λ h=>decide (ltP p h.aM))=true
  .simp only[L,cH];generalize M:o.findIdx (λ h=>decide (ltP p h.aM))=k at fi;have y0:k<o.length:=by rw[<-M];exact List.findIdx_lt_length_of_exists (by simpa using L)
   rw[bX om];simp only[mK k om,Qm];rw[gdp om,gdp om,gdp om,gdp om,Vt o k _ _ om,Y o,M]
  .have F:o.any (λ h=>decide (ltP p h.aM))=false:=by simpa using L
   simp only[F,bZ,cI];rw[cA Om];have M:o.findIdx (λ h=>decide (ltP p h.aM))=o.length:=by rw[List.findIdx_eq_length];simpa using F
   simp only[mK o.length om,Qm];rw[gdp om,gdp om,gdp om,gdp om,Vt o o.length _ _ om,Y o,M]
def IP(r:aJ):l5 r=oI r:=by
 unfold l5 oI;rw[dM]
 by_cases H:r.kind=1
 .simp[H]
 .by_cases O:r.kind=2<;>simp[H,O]
def Bt(r:aJ)(a:aC):qW r a=mS r a:=by unfold qW mS sX rI;rw[IP]
def F6(r:aJ)(a:aC):uW r a=oB r a:=by unfold uW oB oG oW;rw[IP,Bt]
def xM(p:aK):pJ p=mV p:=by unfold pJ mV j5;rw[dM];simp;omega
def uC(r:aJ):oI r=true↔(r.kind=1/\r.aU=1)\/(r.kind=2/\1<=r.aU/\r.aU<=8):=by
 unfold oI
 by_cases H:r.kind=1
 .simp[H]
 .by_cases O:r.kind=2<;>simp[H,O]
def rY(r:aJ)(a:aC):mS r a=true↔(r.kind=1/\r.aU=1/\1<=a.mode/\a.mode<=5/\a.aU=0)\/(r.kind=2/\1<=r.aU/\r.aU<=8/\a.mode=0/\1<=a.aU/\a.aU<=r.aU):=by
 unfold mS rI;have:=uC r;cases h:oI r with
 |false=>rw[h]at this;simp only[bZ,kZ]at this;simp only[dO,cH,bZ,kZ];omega
 |true=>
  rw[h]at this;simp only[true_iff]at this
  by_cases H:r.kind=1
  .simp[H];omega
  .simp[H];omega
def perm_iff(r:aJ)(a:aC):oB r a=true↔(oI r=true/\a=aC.zero)\/mS r a=true:=by
 unfold oB oW;have e:(decide (a={aC.zero with}):Bool)=decide (a=aC.zero):=rfl;rw[e];have H:mS r a=true->oI r=true:=by rw[rY,uC];omega
 cases K:oI r<;>cases L:mS r a<;>simp_all
def Di{r:aJ}{a:aC}(h:oB r a=true)(H:r.kind=1):a.aU=0/\0<=a.mode/\a.mode<=5/\r.aU=1:=by
 rw[perm_iff,rY,uC]at h;rcases h with⟨h1,rfl⟩|h1
 .simp[aC.zero];omega
 .omega
def L0{r:aJ}{a:aC}(h:oB r a=true)(H:r.kind=2):a.mode=0/\0<=a.aU/\a.aU<=r.aU/\r.aU<=8:=by
 rw[perm_iff,rY,uC]at h;rcases h with⟨h1,rfl⟩|h1
 .simp[aC.zero];omega
 .omega
def Bu{r:aJ}{a:aC}(h:oB r a=true):0<=a.aU/\a.aU<=8/\0<=a.mode/\a.mode<=5/\1<=r.aU/\r.aU<=8:=by
 rw[perm_iff,rY,uC]at h;rcases h with⟨h1,rfl⟩|h1
 .simp[aC.zero];omega
 .omega
abbrev mC(a b:Int):Bool:=EA a b
def L1(a b:Int):mC a b=true↔(1<=a/\a<=4/\1<=b/\b<=4)/\(a=1\/b=1\/a=b/\a≠4):=by
 unfold mC EA sX;split
 .rename_i h;simp at h;simp;omega
 .rename_i h;simp at h;simp;omega
def L2(a b:Int):mC a b=mC b a:=by rw[dM,L1,L1];omega
def bWj(a b:Int):Ez a b=some (mC a b):=by
 unfold Ez rI
 by_cases h:(1<=a/\a<=5)/\(1<=b/\b<=5)
 .obtain⟨⟨Y,B⟩,F,M⟩:=h;have O:IntKind.i64.wrap (a-1)=a-1:=mH om om;have U:IntKind.i64.wrap (b-1)=b-1:=mH om om;simp only[O,U];rw[gdp (λ _=>om),gdp (λ _=>om)];congr 1;have K:a=1\/a=2\/a=3\/a=4\/a=5:=om
  have hb:b=1\/b=2\/b=3\/b=4\/b=5:=om
  rcases K with rfl|rfl|rfl|rfl|rfl<;>rcases hb with rfl|rfl|rfl|rfl|rfl<;>decide
 .have L:(((decide (1<=a))&&(decide (a<=5)))&&((decide (1<=b))&&(decide (b<=5))))=false:=by
   rw[dI];intro H;simp at H;omega
  rw[L];rw[gdp (λ h=>by cases h),gdp (λ h=>by cases h)];have:mC a b=false:=by rw[dI];intro H;rw[L1]at H;omega
  rw[this];rfl
def qY(b a:aC):Prop:=b.mode≠0/\a.mode≠0/\mC b.mode a.mode=false
instance(b a:aC):Decidable (qY b a):=by unfold qY;infer_instance
def sumU:List aC->Int
 |[]=>0
 |a::l=>a.aU+sumU l
structure CompP (r:aJ) (l:List aC):Prop where
 perm:∀a∈l,oB r a=true
 sum:sumU l<=r.aU
 pair:l.Pairwise λ b a=>¬qY b a
instance(r:aJ)(l:List aC):Decidable (CompP r l):=
 decidable_of_iff ((∀a∈l,oB r a=true)/\sumU l<=r.aU/\l.Pairwise λ b a=>¬qY b a) ⟨λ⟨a,b,c⟩=>⟨a,b,c⟩,λ⟨a,b,c⟩=>⟨a,b,c⟩⟩
def Bv(r:aJ)(l:List aC):Bool:=oI r&&decide (CompP r l)
def bWm{l:List aC}(h:∀a∈l,0<=a.aU):0<=sumU l:=by
 induction l with
 |nil=>simp[sumU]
 |cons a l H=>have:=H λ b hb=>h b (.tail _ hb);have:=h a (.head _);simp only[sumU];omega
def zH(r:aJ):List aC->List aC->Int->Bool
 |[],_,_=>true
 |a::t,prev,s=>oB r a&&(decide (s+a.aU<=r.aU)&&(decide (∀b∈prev,¬qY b a)&&zH r t (prev++[a]) (s+a.aU)))
def Pa(r:aJ)(M:0<=r.aU):∀(l H:List aC) (s:Int),s<=r.aU->(zH r l H s=true↔(∀a∈l,oB r a=true)/\s+sumU l<=r.aU/\(∀b∈H,∀a∈l,¬qY b a)/\l.Pairwise λ b a=>¬qY b a)
 |[],H,s,K=>by simp[zH,sumU];exact K
 |a::t,H,s,K=>by
  simp only[zH,bY,cB,List.forall_mem_cons,dF,sumU];constructor
  .rintro⟨F,L,U,Y⟩;rw[Pa r M t (H++[a]) (s+a.aU) L]at Y;obtain⟨B,k2,V,k4⟩:=Y;refine⟨⟨F,B⟩,by omega,λ b hb=>⟨U b hb,λ c O=>V b (by simp[hb]) c O⟩,λ c O=>V a (by simp) c O,k4⟩
  .rintro⟨⟨F,B⟩,L,U,Y,h5⟩;have hn:0<=sumU t:=bWm λ b hb=>(Bu (B b hb)).1;have Z:s+a.aU<=r.aU:=om
   refine⟨F,Z,λ b hb=>(U b hb).1,?_⟩;rw[Pa r M t (H++[a]) (s+a.aU) Z];refine⟨B,by omega,λ b hb c O=>?_,h5⟩;rcases cX.1 hb with hb|hb
   .exact(U b hb).2 c O
   .simp at hb;subst hb;exact Y c O
def Vu(r:aJ)(l:List aC)(H:oI r=true):Bv r l=zH r l [] 0:=by
 have O:1<=r.aU:=by rw[uC]at H;omega
 unfold Bv;rw[H,cL,dM,Pa r om l [] 0 om,cB];exact⟨λ⟨a,b,c⟩=>⟨a,by omega,by simp,c⟩,λ⟨a,b,_,c⟩=>⟨a,by omega,c⟩⟩
def Dj(H:Arr Bool 6)(m:Int):Bool:=(List.range' 0 6).all λ k=>!(H.get k false)||mC k m
def bWr(l:List aC)(g:Int×Int×Arr Bool 6):mF (EV l g) 0=some (if Dj g.2.2 (l.getD g.2.1.toNat aC.zero).mode=true then .inl ()else .inr false):=by
 have H:=uB (body:=EV l g) 6 (λ i=>if(!(g.2.2.get i false)||mC i (l.getD g.2.1.toNat aC.zero).mode)=true then none else some (.inr false)) (.inl ()) (λ i K=>by
  unfold EV;have O:0<=(i:Int)/\(i:Int)<6:=om
  have U:IntKind.i64.wrap ((i:Int)+1)=(i:Int)+1:=mH om om;simp only[O.1,O.2,cW,mR,cG,cH,Qm,bWj,U];cases Arr.get g.2.2 i false<;>cases mC i (l.getD g.2.1.toNat aC.zero).mode<;>rfl) (by unfold EV;simp)
 rw[H,vC];unfold Dj;split<;>simp_all
def bWs(s:Arr Bool 6)(i k:Nat)(hi:i<6)(H:k<6):(s.put i true).get k false=if k=i then true else s.get k false:=by
 obtain⟨l,K⟩:=s;simp only[Arr.put,Arr.get,Ec hi,Ec H,cD,List.getElem?_set]
 by_cases h:k=i
 .subst h;simp[K,H]
 .rw[bX (λ e=>h e.symm),bX h]
def bWt(r:aJ)(l:List aC)(hl:l.length<=1000000):CG r l=some (Bv r l):=by
 unfold CG;cases Z:oI r with
 |false=>simp[Bv,Z]
 |true=>
  have q0:1<=r.aU/\r.aU<=8:=by rw[uC]at Z;omega
  rw[Vu r l Z];simp only[cQ,bZ,cI];have z0:=rL (body:=HJ r l) l aC.zero (λ i (s:Int×Arr Bool 6)=>(s.1,(i:Int),s.2))
   (λ i a s=>some (if oB r a=false\/r.aU<s.1+a.aU then .inr false else if a.mode=0 then .inl (s.1+a.aU,s.2)else if Dj s.2 a.mode=true then .inl (s.1+a.aU,s.2.put a.mode.toNat true)else .inr false)) (λ _=>true) (λ i s=>0<=s.1/\s.1<=8)
   (λ i s hi r0=>by
    refine⟨?_,λ s' h=>?_⟩
    .unfold HJ;have K:0<=(i:Int)/\(i:Int)<(l.length:Int):=om
     simp only[K.1,K.2,cW,mR,cG,cH,Qm,mK i om,xm,bWr];cases hp:oB r (l.getD i aC.zero)with
     |false=>simp[wmap]
     |true=>
      have hb:=Bu hp;have hw:IntKind.i64.wrap (s.1+(l.getD i aC.zero).aU)=s.1+(l.getD i aC.zero).aU:=mH om om;simp only[hw,cQ,dP,cB,gP,jO]
      by_cases L:r.aU<s.1+(l.getD i aC.zero).aU
      .simp only[L,cH,wmap]
      .by_cases B:(l.getD i aC.zero).mode=0
       .simp only[L,cI,B,cH,wmap]
       .simp only[L,B,cI]
        by_cases h6:Dj s.2 (l.getD i aC.zero).mode=true
        .simp only[h6,cH,qm,wmap];unfold K6;simp only[Qm,hw,mK i om];rw[gdp om]
        .simp only[h6,bZ,cI,wmap,qm]
    .simp only[cY]at h;split at h
     .cases h
     .rename_i hn;simp only[lK,fW]at hn;have hb:=Bu hn.1;split at h
      .cases h;simp only;omega
      .split at h
       .cases h;simp only;omega
       .cases h)
   (λ s Z=>by unfold HJ;simp) (0,Arr.rep 6 false) (by simp)
  have x0:∀(l H:List aC) (i:Nat) (s:Int) (O:Arr Bool 6),(∀b∈H,0<=b.mode/\b.mode<=5)->(∀k,k<6->O.get k false=decide (∃b∈H,b.mode≠0/\b.mode=(k:Int)))->
    walk (λ i a (s:Int×Arr Bool 6)=>some (if oB r a=false\/r.aU<s.1+a.aU then .inr false else if a.mode=0 then .inl (s.1+a.aU,s.2)else if Dj s.2 a.mode=true then .inl (s.1+a.aU,s.2.put a.mode.toNat true)else .inr false)) (λ _=>true) l i (s,O)=some (zH r l H s):=by
   intro l;induction l with
   |nil=>intro H i s O _ _;rfl
   |cons a t ih=>
    intro H i s O h0 F;simp only[walk,zH];cases hp:oB r a with
    |false=>simp
    |true=>
     have hb:=Bu hp
     by_cases L:r.aU<s+a.aU
     .simp[L];intro h;omega
     .have u0:s+a.aU<=r.aU:=om
      simp only[gP,jO,L,cI,u0,cG,cL]
      by_cases B:a.mode=0
      .simp only[B,cH];rw[ih (H++[a]) (i+1) (s+a.aU) O (by
        intro b U;rcases cX.1 U with h|h
        .exact h0 b h
        .simp at h;subst h;omega) (by
        intro k V;rw[F k V,jG];constructor
        .rintro⟨b,M,Y⟩;exact⟨b,by simp[M],Y⟩
        .rintro⟨b,M,Y,K⟩;rcases cX.1 M with h|h
         .exact⟨b,h,Y,K⟩
         .simp at h;subst h;exact absurd B Y)]
       have:∀b∈H,¬qY b a:=λ b _ hc=>hc.2.1 B;rw[cP this,cL]
      .simp only[B,cI];have p0:Dj O a.mode=decide (∀b∈H,¬qY b a):=by
        rw[dM,cB];unfold Dj;simp only[dT,List.mem_range'_1,dU,dB];constructor
        .intro hh b U ⟨c1,c2,c3⟩;have s0:=h0 b U;rcases hh b.mode.toNat (by omega)with h|h
         .rw[F _ om]at h;simp only[dE,not_exists,not_and]at h;exact h b U c1 om
         .rw[show((b.mode.toNat:Nat):Int)=b.mode by omega,c3]at h;cases h
        .intro hh k V;rw[F k om]
         by_cases he:∃b∈H,b.mode≠0/\b.mode=(k:Int)
         .obtain⟨b,M,Y,K⟩:=he;right;rw[<-K];have:=hh b M;unfold qY at this;simp only[not_and,fW]at this;exact this Y B
         .left;simpa using he
       rw[p0]
       by_cases h7:∀b∈H,¬qY b a
       .rw[cP h7];simp only[cH,cL];rw[ih (H++[a]) (i+1) (s+a.aU) (O.put a.mode.toNat true) (by
         intro b U;rcases cX.1 U with h|h
         .exact h0 b h
         .simp at h;subst h;omega) (by
         intro k V;rw[bWs O a.mode.toNat k om V,F k V]
         by_cases y0:k=a.mode.toNat
         .rw[cA y0];exact(cP ⟨a,by simp,B,by omega⟩).symm
         .rw[bX y0,jG];constructor
          .rintro⟨b,M,Y⟩;exact⟨b,by simp[M],Y⟩
          .rintro⟨b,M,Y,K⟩;rcases cX.1 M with h|h
           .exact⟨b,h,Y,K⟩
           .simp at h;subst h;omega)]
       .rw[fM h7];rfl
  have k2:=x0 l [] 0 0 (Arr.rep 6 false) (by simp) (by
   intro k V;have:k=0\/k=1\/k=2\/k=3\/k=4\/k=5:=om
   rcases this with rfl|rfl|rfl|rfl|rfl|rfl<;>rfl)
  rw[show((0,0,Arr.rep 6 false):Int×Int×Arr Bool 6)=(λ(i:Nat) (s:Int×Arr Bool 6)=>(s.1,(i:Int),s.2)) 0 (0,Arr.rep 6 false)from rfl,z0,k2];rfl
def bWu(l:List aC)(g:Int×Int)(U:0<=g.2)(K:g.2<(l.length:Int))(Y:l.length<=1000000):mF (E8 l g) 0=
  some (if(List.range' 0 g.2.toNat).all (λ k=>decide (l.getD g.2.toNat aC.zero=aC.zero)||(decide (l.getD k aC.zero=aC.zero)||mC (l.getD g.2.toNat aC.zero).mode (l.getD k aC.zero).mode))=true then .inl ()else .inr false):=by
 have B:∀a:aC,oG a=decide (a=aC.zero):=λ _=>rfl;have H:=uB (body:=E8 l g) g.2.toNat (λ i=>if(decide (l.getD g.2.toNat aC.zero=aC.zero)||(decide (l.getD i aC.zero=aC.zero)||mC (l.getD g.2.toNat aC.zero).mode (l.getD i aC.zero).mode))=true then none else some (.inr false)) (.inl ()) (λ i L=>by
  unfold E8;have F:(i:Int)<g.2:=om
  have M:IntKind.i64.wrap ((i:Int)+1)=(i:Int)+1:=mH om om;have O:0<=(i:Int)/\(i:Int)<(l.length:Int):=om
  simp only[F,cG,cH,Qm,M,O.1,O.2,U,K,cW,fD,mR,B];cases decide (l.getD g.2.toNat aC.zero=aC.zero)<;>cases decide (l.getD i aC.zero=aC.zero)<;>cases hm:EA (l.getD g.2.toNat aC.zero).mode (l.getD i aC.zero).mode<;>simp only[mC,hm]<;>rfl) (by unfold E8;rw[bX];simp;omega)
 rw[H,vC];split<;>simp_all
def bWv(r:aJ)(l:List aC)(hl:l.length<=1000000):CS r l=some (Bv r l):=by
 unfold CS;rw[IP];cases V:oI r with
 |false=>simp[Bv,V]
 |true=>
  have u0:1<=r.aU/\r.aU<=8/\(r.kind=1\/r.kind=2):=by rw[uC]at V;omega
  rw[Vu r l V];simp only[cQ,bZ,cI];have p0:=rL (body:=CR r l) l aC.zero (λ i (s:Int)=>(s,(i:Int)))
   (λ i a s=>some (if oB r a=false then .inr (.inr false)else if r.kind=2 then(if r.aU<s+a.aU then .inr (.inr false)else .inl (s+a.aU))else
    if(List.range' 0 i).all (λ k=>decide (a=aC.zero)||(decide (l.getD k aC.zero=aC.zero)||mC a.mode (l.getD k aC.zero).mode))=true then .inl s else .inr (.inr false))) (λ _=>Sum.inl (β:=Bool) ()) (λ i s=>0<=s/\s<=8)
   (λ i s hi q0=>by
    refine⟨?_,λ s' h=>?_⟩
    .unfold CR;have h3:0<=(i:Int)/\(i:Int)<(l.length:Int):=om
     simp only[h3.1,h3.2,cW,mR,cG,cH,Qm,mK i om,xm,F6,bWu l (s,(i:Int)) h3.1 h3.2 hl];cases Y:oB r (l.getD i aC.zero)with
     |false=>simp[wmap]
     |true=>
      have hb:=Bu Y;have hw:IntKind.i64.wrap (s+(l.getD i aC.zero).aU)=s+(l.getD i aC.zero).aU:=mH om om;simp only[hw,cQ,bZ,cI,gP,cB]
      by_cases h4:r.kind=2
      .by_cases Z:r.aU<s+(l.getD i aC.zero).aU
       .simp only[h4,Z,cH,wmap]
       .simp only[h4,Z,cH,cI,wmap]
      .simp only[h4,cI];split
       .simp only[OG,wmap,mK i (by omega:i<4611686018427387904),qm]
       .simp only[wmap,qm]
    .simp only[cY]at h;split at h
     .cases h
     .rename_i hn;simp only[fW]at hn;have hb:=Bu hn;split at h
      .split at h
       .cases h
       .cases h;omega
      .split at h
       .cases h;exact q0
       .cases h)
   (λ s V=>by unfold CR;simp) 0 (by simp)
  have x0:∀(t H:List aC) (s:Int),l=H++t->(∀b∈H,oB r b=true)->(r.kind=1->s=0)->s<=r.aU->
    walk (λ i a (s:Int)=>some (if oB r a=false then .inr (.inr false)else if r.kind=2 then(if r.aU<s+a.aU then .inr (.inr false)else .inl (s+a.aU))else
     if(List.range' 0 i).all (λ k=>decide (a=aC.zero)||(decide (l.getD k aC.zero=aC.zero)||mC a.mode (l.getD k aC.zero).mode))=true then .inl s else .inr (.inr false))) (λ _=>Sum.inl (β:=Bool) ()) t H.length s=some (if zH r t H s=true then .inl ()else .inr false):=by
   intro t;induction t with
   |nil=>intro H s _ _ _ _;rfl
   |cons a t ih=>
    intro H s hlt h0 r0 s0;simp only[walk,zH]
    by_cases Y:oB r a=true
    .have F:∀b∈H++[a],oB r b=true:=λ b hb=>by
      rcases cX.1 hb with h|h
      .exact h0 b h
      .simp at h;subst h;exact Y
     have M:l=(H++[a])++t:=by rw[hlt];simp
     have K:(H++[a]).length=H.length+1:=by simp
     rcases u0.2.2 with hk|hk
     ·
      have ha:=Di Y hk;have V:=r0 hk;subst V;have O:¬r.kind=2:=om
      have y0:(0:Int)+a.aU<=r.aU:=om
      simp only[Y,gP,cI,O,y0,cG,cL];have z0:(List.range' 0 H.length).all (λ k=>decide (a=aC.zero)||(decide (l.getD k aC.zero=aC.zero)||mC a.mode (l.getD k aC.zero).mode))=decide (∀b∈H,¬qY b a):=by
       rw[dM,cB];simp only[dT,List.mem_range'_1,dU,cB];have U:∀k,k<H.length->l.getD k aC.zero=H.getD k aC.zero:=λ k hk=>by rw[hlt,bVo _ _ _ _ hk]
       have L:∀k,k<H.length->H.getD k aC.zero∈H:=λ k hk=>by rw[cD,cF hk];exact iA hk
       have wF:∀b,oB r b=true->(b=aC.zero↔b.mode=0):=λ b hb=>by have:=Di hb hk;rw[aC.ext_iff];simp[aC.zero];omega
       constructor
       .intro hh b hb ⟨c1,c2,c3⟩;obtain⟨k,B,O⟩:=gC.1 hb;have e:H.getD k aC.zero=b:=by rw[cD,cF B,Xm,O]
        rcases hh k (by omega)with h|h|h
        .exact c2 ((wF a Y).1 h)
        .rw[U k B,e]at h;exact c1 ((wF b (h0 b hb)).1 h)
        .rw[U k B,e,L2,c3]at h;cases h
       .intro hh k B;have O:k<H.length:=om
        rw[U k O];have h1:=hh _ (L k O);have h2:=h0 _ (L k O);unfold qY at h1;rw[wF a Y,wF _ h2]
        by_cases e1:a.mode=0
        .exact .inl e1
        .by_cases e2:(H.getD k aC.zero).mode=0
         .exact .inr (.inl e2)
         .refine .inr (.inr ?_);rw[L2];simp only[not_and,fW]at h1;exact h1 e2 e1
      rw[z0]
      by_cases h7:∀b∈H,¬qY b a
      .rw[cP h7];simp only[cH,cL];have:=ih (H++[a]) 0 M F (λ _=>rfl) om;rw[K]at this;simp only[O,cI]at this;rw[this,ha.1];rfl
      .rw[fM h7];rfl
     ·
      have ha:=L0 Y hk;simp only[Y,gP,cI,hk,cH,cL];have h7:∀b∈H,¬qY b a:=λ b _ hc=>hc.2.1 ha.1
      by_cases Z:r.aU<s+a.aU
      .have:¬s+a.aU<=r.aU:=om
       simp[Z,this]
      .have:s+a.aU<=r.aU:=om
       rw[cP h7];simp only[Z,cI,this,cG,cL];have h8:=ih (H++[a]) (s+a.aU) M F (λ h=>om) this;rw[K]at h8;simp only[hk,cH]at h8;exact h8
    .simp[Y]
  rw[show((0,0):Int×Int)=(λ(i:Nat) (s:Int)=>(s,(i:Int))) 0 0 from rfl,p0];have k2:=x0 l [] 0 rfl (by simp) (λ _=>rfl) om;rw[lU]at k2;rw[k2];cases zH r l [] 0<;>rfl
structure GoodP (r:aJ) (l:List bA):Prop where
 each:∀h∈l,mV h.aM=true/\mS r h.aI=true
 asc:l.Pairwise λ a b=>ltP a.aM b.aM
instance(r:aJ)(l:List bA):Decidable (GoodP r l):=
 decidable_of_iff ((∀h∈l,mV h.aM=true/\mS r h.aI=true)/\l.Pairwise λ a b=>ltP a.aM b.aM) ⟨λ⟨a,b⟩=>⟨a,b⟩,λ⟨a,b⟩=>⟨a,b⟩⟩
def pG(r:aJ)(l:List bA):Bool:=oI r&&(decide (l.length<=8)&&(decide (GoodP r l)&&decide (CompP r (l.map (·.aI)))))
def Vv{r:aJ}{a:aC}(h:mS r a=true):oI r=true:=by rw[rY]at h;rw[uC];omega
def rM{r:aJ}{a:aC}(h:mS r a=true):oB r a=true:=(perm_iff r a).2 (.inr h)
def tD{r:aJ}{a:aC}(h:mS r a=true):a≠aC.zero:=by rw[rY]at h;intro e;subst e;simp[aC.zero]at h
def rN(r:aJ):List bA->Option aK->Bool
 |[],_=>true
 |h::t,pv=>mV h.aM&&(mS r h.aI&&((match pv with|none=>true|some q=>decide (ltP q h.aM))&&rN r t (some h.aM)))
def Pb(r:aJ):∀(l:List bA) (H:Option aK),rN r l H=true↔GoodP r l/\∀q,H=some q->∀h∈l,ltP q h.aM
 |[],H=>by simp only[rN,eP,kB,fD,jK,true_iff];exact⟨by simp,.nil⟩
 |h::t,H=>by
  simp only[rN,bY];rw[Pb r t (some h.aM)];constructor
  .rintro⟨O,U,Y,⟨M,K⟩,F⟩;refine⟨⟨λ x hx=>?_,dF.2 ⟨λ x hx=>F _ rfl x hx,K⟩⟩,λ q B x hx=>?_⟩
   .rcases cK.1 hx with rfl|hx
    .exact⟨O,U⟩
    .exact M x hx
   .subst B;simp only[cB]at Y;rcases cK.1 hx with rfl|hx
    .exact Y
    .exact Dg Y (F _ rfl x hx)
  .rintro⟨⟨O,U⟩,Y⟩;rw[dF]at U;refine⟨(O h (.head _)).1,(O h (.head _)).2,?_,⟨λ x hx=>O x (.tail _ hx),U.2⟩,λ q B x hx=>by cases B;exact U.1 x hx⟩;cases H with
   |none=>rfl
   |some q=>exact cP (Y q rfl h (.head _))
def Pc(r:aJ)(l:List bA):o8 r l=some (pG r l):=by
 unfold o8 pG;cases F:oI r with
 |false=>simp
 |true=>
  by_cases V:8<(l.length:Int)
  .have:¬l.length<=8:=om
   simp[V,this]
  .have M:l.length<=8:=om
   simp only[cQ,dP,V,cO,bZ,cI,M,cG,cL];have h0:=rL (body:=H0 r l) l bA.zero (λ i (s:List aC)=>((i:Int),s))
    (λ i h s=>some (if mV h.aM=true/\mS r h.aI=true/\(i=0\/ltP (l.getD (i-1) bA.zero).aM h.aM)then .inl (s++[h.aI])else .inr (.inr false))) (λ s=>Sum.inl (β:=Bool) s) (λ i s=>s.length<=i)
    (λ i s hi F=>by
     refine⟨?_,λ s' h=>?_⟩
     .unfold H0;have h1:s.length+1<=4294967296:=om
      have Z:0<=(i:Int)/\(i:Int)<(l.length:Int):=om
      simp only[h1,Z.1,Z.2,cW,mR,cG,cH,Qm,LZ,mK i om,xm,cB,bY,dU,dB]
      by_cases U:mV (l.getD i bA.zero).aM=false\/mS r (l.getD i bA.zero).aI=false
      .rw[cA U,bX (by rintro⟨k1,L,_⟩;rcases U with e|e<;>simp_all)];rfl
      .rw[bX U];simp only[lK,fW]at U
       by_cases e2:i=0
       .subst e2;rw[gdp om];simp only[Int.natCast_zero,iP,cI,qm,iZ,U,cW,true_or,cH,wmap]
       .have w:IntKind.i64.wrap ((i:Int)-1)=((i-1:Nat):Int):=w9 i om om;rw[gdp (by rw[w];omega)];simp only[w,Qm,show(0:Int)<(i:Int)by omega,cH,qm,gG,LY,U,e2,jO]
        by_cases e3:ltP (l.getD (i-1) bA.zero).aM (l.getD i bA.zero).aM
        .simp only[e3,not_true,cI,cH,wmap]
        .simp only[e3,iN,cH,cI,wmap]
     .simp only[cY]at h;split at h
      .cases h;simp;omega
      .cases h)
    (λ s F=>by unfold H0;simp) [] (by simp)
   have Y:∀(t H:List bA) (s:List aC),l=H++t->
     walk (λ i h (s:List aC)=>some (if mV h.aM=true/\mS r h.aI=true/\(i=0\/ltP (l.getD (i-1) bA.zero).aM h.aM)then .inl (s++[h.aI])else .inr (.inr false))) (λ s=>Sum.inl (β:=Bool) s) t H.length s=
      some (if rN r t (H.getLast?.map (·.aM))=true then .inl (s++t.map (·.aI))else .inr false):=by
    intro t;induction t with
    |nil=>intro H s _;simp[walk,rN]
    |cons h t ih=>
     intro H s K;simp only[walk];have hq:(H.length=0\/ltP (l.getD (H.length-1) bA.zero).aM h.aM)↔(match H.getLast?.map (·.aM)with|none=>true|some q=>decide (ltP q h.aM))=true:=by
      rcases List.eq_nil_or_concat H with rfl|⟨pp,x,rfl⟩
      .simp
      .have:(l.getD ((pp.concat x).length-1) bA.zero)=x:=by
        rw[K];simp[cD]
       rw[this];simp
     by_cases e:mV h.aM=true/\mS r h.aI=true/\(H.length=0\/ltP (l.getD (H.length-1) bA.zero).aM h.aM)
     .rw[cA e];have:=ih (H++[h]) (s++[h.aI]) (by rw[K];simp);rw[show(H++[h]).length=H.length+1 by simp]at this;simp only;have ht:rN r (h::t) (H.getLast?.map (·.aM))=rN r t (some h.aM):=by simp only[rN,e.1,e.2.1,hq.1 e.2.2,cL]
      rw[this,ht];simp
     .rw[bX e];rw[hq]at e;have hf:rN r (h::t) (H.getLast?.map (·.aM))=false:=by
       rw[dI];intro B;simp only[rN,bY]at B;exact e ⟨B.1,B.2.1,B.2.2.1⟩
      rw[hf];rfl
   have L:=Y l [] [] rfl;rw[lU]at L;rw[show((0,[]):Int×List aC)=(λ(i:Nat) (s:List aC)=>((i:Int),s)) 0 []from rfl,h0,L];have hg:=Pb r l none
   by_cases e:rN r l none=true
   .have O:GoodP r l:=(hg.1 e).1;rw[cA (by simpa using e)];simp only[qm,OH,jm];rw[bWt r _ (by simp;omega)];simp[Bv,F,O]
   .have O:¬GoodP r l:=λ h=>e (hg.2 ⟨h,by simp⟩);rw[bX (by simpa using e)];simp[O]
def bX2(l:List bA)(K:l.length<=1000000):B7 l=some (l.map (·.aI)):=by
 unfold B7;have H:=rL (body:=Hb l) l bA.zero (λ i (s:List aC)=>((i:Int),s)) (λ i h s=>some (.inl (sP s (some h.aI)))) (λ s=>s) (λ i s=>s.length<=i)
  (λ i s L U=>by
   refine⟨?_,λ B h=>?_⟩
   .unfold Hb;have Y:s.length+1<=4294967296:=om
    have O:0<=(i:Int)/\(i:Int)<(l.length:Int):=om
    simp only[Y,O.1,O.2,cW,mR,cG,cH,Qm,mK i om,xm,wmap,sP]
   .simp only[cY,fH]at h;subst h;simp[sP];omega)
  (λ s U=>by unfold Hb;simp) [] (by simp)
 rw[show((0,[]):Int×List aC)=(λ(i:Nat) (s:List aC)=>((i:Int),s)) 0 []from rfl,H,F4 (λ h:bA=>some h.aI)];simp[Od]
def Pd(r:aJ)(l:List bA):q6 r l=some (pG r l):=by
 unfold q6 pG;rw[IP];cases L:oI r with
 |false=>simp
 |true=>
  by_cases V:8<(l.length:Int)
  .have:¬l.length<=8:=om
   simp[V,this]
  .have M:l.length<=8:=om
   simp only[cQ,dP,V,cO,bZ,cI,M,cG,cL];have h0:=rL (body:=H7 r l) l bA.zero (λ i (_:Unit)=>(i:Int))
    (λ i h _=>some (if mV h.aM=true/\mS r h.aI=true/\(i=0\/ltP (l.getD (i-1) bA.zero).aM h.aM)then .inl ()else .inr (.inr false))) (λ _=>Sum.inl (β:=Bool) ()) (λ i s=>True)
    (λ i s hi _=>by
     refine⟨?_,λ _ _=>trivial⟩;unfold H7;have Z:0<=(i:Int)/\(i:Int)<(l.length:Int):=om
     simp only[Z.1,Z.2,cW,fD,mR,cG,cH,Qm,mK i om,xm,xM,Bt]
     by_cases e2:i=0
     .subst e2;rw[gdp (by simp)]
      by_cases O:mV (l.getD 0 bA.zero).aM=true
      .by_cases Y:mS r (l.getD 0 bA.zero).aI=true
       .simp only[O,Y];simp[wmap]
       .simp only[O,Y];simp[wmap]
      .simp only[O];simp[wmap]
     .have w:IntKind.i64.wrap ((i:Int)-1)=((i-1:Nat):Int):=w9 i om om;rw[gdp (λ _=>by rw[w];omega)];simp only[w,Qm,show(0:Int)<(i:Int)by omega,cG,cL,LY,e2,jO]
      by_cases O:mV (l.getD i bA.zero).aM=true
      .by_cases Y:mS r (l.getD i bA.zero).aI=true
       .by_cases e4:ltP (l.getD (i-1) bA.zero).aM (l.getD i bA.zero).aM
        .simp only[O,Y,e4];simp[wmap]
        .simp only[O,Y,e4];simp[wmap]
       .simp only[O,Y];simp[wmap]
      .simp only[O];simp[wmap])
    (λ s L=>by unfold H7;simp) () trivial
   have B:∀(t H:List bA),l=H++t->
     walk (λ i h (_:Unit)=>some (if mV h.aM=true/\mS r h.aI=true/\(i=0\/ltP (l.getD (i-1) bA.zero).aM h.aM)then .inl ()else .inr (.inr false))) (λ _=>Sum.inl (β:=Bool) ()) t H.length ()=
      some (if rN r t (H.getLast?.map (·.aM))=true then .inl ()else .inr false):=by
    intro t;induction t with
    |nil=>intro H _;simp[walk,rN]
    |cons h t ih=>
     intro H K;simp only[walk];have hq:(H.length=0\/ltP (l.getD (H.length-1) bA.zero).aM h.aM)↔(match H.getLast?.map (·.aM)with|none=>true|some q=>decide (ltP q h.aM))=true:=by
      rcases List.eq_nil_or_concat H with rfl|⟨pp,x,rfl⟩
      .simp
      .have:(l.getD ((pp.concat x).length-1) bA.zero)=x:=by
        rw[K];simp[cD]
       rw[this];simp
     by_cases e:mV h.aM=true/\mS r h.aI=true/\(H.length=0\/ltP (l.getD (H.length-1) bA.zero).aM h.aM)
     .rw[cA e];have:=ih (H++[h]) (by rw[K];simp);rw[show(H++[h]).length=H.length+1 by simp]at this;simp only;have ht:rN r (h::t) (H.getLast?.map (·.aM))=rN r t (some h.aM):=by simp only[rN,e.1,e.2.1,hq.1 e.2.2,cL]
      rw[this,ht];simp
     .rw[bX e];rw[hq]at e;have hf:rN r (h::t) (H.getLast?.map (·.aM))=false:=by
       rw[dI];intro F;simp only[rN,bY]at F;exact e ⟨F.1,F.2.1,F.2.2.1⟩
      rw[hf];rfl
   have k2:=B l [] rfl;rw[lU]at k2;rw[show(0:Int)=(λ(i:Nat) (_:Unit)=>(i:Int)) 0 ()from rfl,h0,k2];have hg:=Pb r l none
   by_cases e:rN r l none=true
   .have U:GoodP r l:=(hg.1 e).1;rw[cA (by simpa using e)];simp only[qm,ON];rw[bX2 l om,eF,bWv r _ (by simp;omega)];simp[Bv,L,U]
   .have U:¬GoodP r l:=λ h=>e (hg.2 ⟨h,by simp⟩);rw[bX (by simpa using e)];simp[U]
def L3(p:aK)(a:aC)(l:List bA):(insP p a l).length=l.length+1:=by
 induction l with
 |nil=>rfl
 |cons h t H=>simp only[insP];split<;>simp[H]
def bX5(l:List bA)(p:aK)(a:aC):(setL l p a).length<=l.length+1:=by
 have:=IM p l;unfold setL;split
 .omega
 .rw[L3];omega
def Bw{r:aJ}{l:List bA}(h:pG r l=true):l.length<=8:=by unfold pG at h;simp at h;exact h.2.1
def uD(r:aJ)(l:List bA)(p:aK)(a:aC):Bool:=pG r l&&(mV p&&mS r a)
def tE(r:aJ)(l:List bA)(p:aK)(a:aC):Bool:=uD r l p a&&pG r (setL l p a)
def bX9(r:aJ)(l:List bA)(p:aK)(a:aC):Fb r l p a=some (uD r l p a):=by unfold Fb uD;rw[Pc,eF,iB]
def bXa(r:aJ)(l:List bA)(p:aK)(a:aC):Fq r l p a=some (tE r l p a):=by
 unfold Fq tE;rw[bX9,eF];cases h:uD r l p a with
 |false=>simp
 |true=>
  have H:pG r l=true:=by unfold uD at h;simp at h;exact h.1
  simp only[cH];rw[bW9 l p a (by have:=Bw H;omega),eF,Pc];simp
def bXb(r:aJ)(l:List bA)(p:aK)(a:aC):Fp r l p a=some (tE r l p a):=by
 unfold Fp tE;rw[Pd,eF,xM,Bt,iB];change((if uD r l p a=true then _ else _):Option (List bA)).bind _=_;cases h:uD r l p a with
 |false=>unfold uD at h;simp[h]
 |true=>
  have H:pG r l=true:=by unfold uD at h;simp at h;exact h.1
  unfold uD at h;simp only[h,cH];rw[IN l p a (by have:=Bw H;omega),eF,Pd];simp
def qL(p:aK):List aV->Nat->Option Nat
 |[],_=>none
 |w::l,i=>if w.aM=p then some i else qL p l (i+1)
def oX(l:List aV)(p:aK):Int:=match qL p l 0 with
 |some i=>i
 |none=>-1
def Vw(l:List aV)(p:aK):∀k i,i+k=l.length->qG (λ i=>if(l.getD i aV.zero).aM=p then some (i:Int)else none) k i=(qL p (l.drop i) i).map λ n:Nat=>(n:Int)
 |0,i,h=>by rw[hX om];rfl
 |k+1,i,h=>by
  rw[xK l i aV.zero om];simp only[qG,qL]
  by_cases H:(l.getD i aV.zero).aM=p
  .simp only[H,cH,xm]
  .simp only[H,cI];exact Vw l p k (i+1) om
def L4(l:List aV)(p:aK)(L:l.length<4611686018427387904):j9 l p=some (oX l p):=by
 unfold j9;have H:mF (Hf l p) 0=some ((qG (λ i=>if(l.getD i aV.zero).aM=p then some (Sum.inr (i:Int))else none) l.length 0).getD (Sum.inl ())):=by
  refine uB l.length _ (Sum.inl ()) (λ i K=>?_) ?_
  .unfold Hf;rw[cA (by simpa using K),mL om];simp only[Qm,cB];split
   .rfl
   .rw[mH om om]
  .unfold Hf;rw[bX (by simp)]
 rw[H];have U:=Vw l p l.length 0 om;have Y:∀k i,qG (λ i=>if(l.getD i aV.zero).aM=p then some (Sum.inr (α:=Unit) (i:Int))else none) k i=(qG (λ i=>if(l.getD i aV.zero).aM=p then some (i:Int)else none) k i).map Sum.inr:=by
  intro k;induction k with
  |zero=>intro i;rfl
  |succ k B=>
   intro i;simp only[qG]
   by_cases O:(l.getD i aV.zero).aM=p
   .simp only[O,cH,xm]
   .simp only[O,cI,B]
 rw[Y,U,fF];unfold oX;cases qL p l 0<;>rfl
def IQ(l:List aV)(p:aK)(H:l.length<4611686018427387904):wX l p=some (oX l p):=by have e:wX l p=j9 l p:=rfl;rw[e];exact L4 l p H
def L5(w:aV):yR w=pO w:=by unfold yR pO pJ mV j5 pX mS oI sX rI;rw[dM];simp;omega
def qQ(l:List aV):Bool:=decide (l.length<=8)&&(List.range l.length).all λ i=>pO (l.getD i aV.zero)&&decide (oX l (l.getD i aV.zero).aM=i)
def Vx(l:List aV):AZ l=some (qQ l):=by
 unfold AZ qQ
 by_cases O:8<(l.length:Int)
 .rw[cA (by simpa using O)];have:¬l.length<=8:=om
  simp[this]
 .rw[bX (by simpa using O)];have L:l.length<4611686018427387904:=om
  have H:mF (CK l) 0=some ((qG (λ i=>if(pO (l.getD i aV.zero)&&decide (oX l (l.getD i aV.zero).aM=i))=true then none else some (Sum.inr false)) l.length 0).getD (Sum.inl ())):=by
   refine uB l.length _ (Sum.inl ()) (λ i V=>?_) ?_
   .unfold CK;rw[cA (by simpa using V),mL om];simp only[Qm]
    by_cases K:pO (l.getD i aV.zero)=true
    .simp only[K,cH,L4 l _ L,qm,cQ,dP,cL]
     by_cases U:oX l (l.getD i aV.zero).aM=(i:Int)
     .simp only[U,cG,cQ,bZ,cI,cH];rw[mH om om]
     .simp only[U,cO,dO,cH,bZ,cI]
    .have K:pO (l.getD i aV.zero)=false:=by simpa using K
     simp only[K,bZ,cI,qm,dO,fV,cH,eY]
   .unfold CK;rw[bX (by simp)]
  rw[H,vC,<-eX];have:l.length<=8:=om
  simp only[this,cG,cL];cases(List.range l.length).all λ i=>pO (l.getD i aV.zero)&&decide (oX l (l.getD i aV.zero).aM=i)<;>rfl
def Vy(l:List aV):AX l=some (qQ l):=by
 rw[<-Vx l];unfold AX AZ
 by_cases O:8<(l.length:Int)
 .rw[cA (cP O),cA (cP O)]
 .rw[bX (by simpa using O),bX (by simpa using O)];have L:l.length<4611686018427387904:=om
  have e:K8 l=CK l:=funext λ i=>by
   unfold K8 CK
   by_cases K:i<(l.length:Int)
   .rw[cA (cP K),cA (cP K)]
    by_cases H:0<=i/\i<(l.length:Int)
    .rw[mL H,mL H,mL (λ _=>H)];simp only[L5,IQ l _ L,L4 l _ L]
    .unfold gd;rw[bX H,bX H]
   .rw[bX (by simpa using K)];rw[bX (by simpa using K)]
  rw[e];rfl
def Vz{p:aK}:∀{l:List aV} {i j:Nat},qL p l i=some j->i<=j/\j<i+l.length
 |w::l,i,j,h=>by
  simp only[qL]at h;split at h
  .cases h;simp
  .have:=Vz h;simp only[ym];omega
def VA(l:List aV)(p:aK):oX l p=-1\/0<=oX l p/\oX l p<l.length:=by
 unfold oX;cases h:qL p l 0 with
 |none=>exact .inl rfl
 |some j=>right;have:=Vz h;simp only;omega
def over(w e:aV):Bool:=decide (e.bE<w.bE)&&decide (e.bS<3)
def sQ(l:List aV)(w:aV):Nat->Nat
 |0=>0
 |k+1=>if over w (l.getD k aV.zero)=true then sQ l w k else k+1
def L6(l:List aV)(w:aV):∀k,sQ l w k<=k
 |0=>dC _
 |k+1=>by unfold sQ;split<;>have:=L6 l w k<;>omega
def bump(e:aV):aV:={e with bS:=IntKind.i64.wrap (e.bS+1)}
def xN(l:List aV)(w:aV)(n:Nat):List aV:=l.take n++w::(l.drop n).map bump
def insS(l:List aV)(w:aV):List aV×Int×Int:=
 if qQ l=false then([],0,2)
 else if pO w=false\/w.bS≠0 then([],0,1)
 else if 0<=oX l w.aM then([],0,11)
 else if l.length=8 then([],0,4)
 else(xN l w (sQ l w l.length),(sQ l w l.length:Int),0)
def Pe{l:List aV}(h:qQ l=true):l.length<=8:=by simp only[qQ,bY,cB]at h;exact h.1
def bXr(l:List aV)(w:aV):CY l w=some (insS l w):=by
 unfold CY insS;rw[Vy,eF];cases V:qQ l with
 |false=>rfl
 |true=>
  have h8:=Pe V;simp only[cQ,bZ,gP,cI,L5]
  by_cases K:pO w=false\/w.bS≠0
  .rw[cA K,cA (by rcases K with h|h<;>simp[h])]
  .have L:pO w=true:=by simpa usingλ h=>K (.inl h)
   have U:w.bS=0:=by simpa usingλ h=>K (.inr h)
   rw[bX K,bX (by simp[L,U]),IQ _ _ om,eF]
   by_cases O:0<=oX l w.aM
   .rw[cA O,cA (cP O)]
   .rw[bX O,bX (by simpa using O)]
    by_cases B:l.length=8
    .rw[cA B,cA (cP om)]
    .rw[bX B,bX (by simp;omega)];have F:=Vo (body:=Lk l w) (λ g=>∃i:Nat,g=i/\i<=l.length) (λ g=>g.toNat) (λ g=>((sQ l w g.toNat:Nat):Int)) (λ g ⟨i,Z,g2⟩=>by
      subst Z;unfold Lk;cases i with
      |zero=>right;rw[mL (by simp),mL (by simp)];rfl
      |succ i=>
       have M:IntKind.i64.wrap (((i+1:Nat):Int)-1)=(i:Int):=by rw[mH om om];omega
       simp only[M,Qm];rw[mL om,mL om,iB]
       by_cases H:over w (l.getD i aV.zero)=true
       .left;rw[cA (by unfold over at H;simp only[H,fG,cB];omega)];exact⟨_,rfl,⟨i,rfl,by omega⟩,by simp only[Qm];omega,by simp only[Qm,sQ,H,cH]⟩
       .right;rw[bX (by rw[bY];exactλ h=>H h.2)];simp only[sQ,bX H]) (l.length:Int) ⟨l.length,rfl,dC _⟩
     rw[F,eF];simp only[Qm];have hp:=L6 l w l.length;generalize sQ l w l.length=n at hp;unfold H5;simp only[Qm];rw[mL om,mL (by simp;omega),mL (by simp;omega)];have Y:=bVg (body:=H4 l) l.length (λ i s=>.inl (s++[bump (l.getD i aV.zero)])) (λ s=>s) (λ i s=>s.length<=i+1) (λ i s hi hs=>by
      refine⟨?_,λ s' h=>by cases h;simp;omega⟩;unfold H4;rw[cA (cP (by simp only;omega)),mL (by simp only;omega),mL (by simp only;omega),mH (by simp only;omega) (by simp only;omega)];rfl) (λ s hs=>by
      unfold H4;rw[bX (by simp)]) (l.length-n) n (l.take n++[w]) om (by simp only[cC,dD,ym,Ym];omega)
     have e3:(l.drop n).take (l.length-n)=l.drop n:=eJ (by simp);rw[Y,Vq,Vs l aV.zero bump _ n om,e3,eF];simp[OL,xN]
def VB(a b:List aV)(H:a.length<4611686018427387904):AH a b=some (decide (a=b)):=by
 unfold AH
 by_cases h:a.length=b.length
 .rw[bX (by simp[h])];exact O6 a b aV.zero H h λ i=>rfl
 .rw[cA (by simp;omega)];have:a≠b:=λ e=>h (by rw[e]);simp[this]
def notP(p:aK)(w:aV):Bool:=!decide (w.aM=p)
def rmL(l:List aV)(p:aK):List aV:=l.filter (notP p)
def bXt(l:List aV)(p:aK):(rmL l p).length<=l.length:=jB _ _
def L7(l:List aV)(p:aK)(K:l.length<4294967296):yM l p=some (rmL l p,decide ((rmL l p).length<l.length)):=by
 unfold yM;have O:=bVf (body:=G8 l p) l.length (λ i s=>.inl (if notP p (l.getD i aV.zero)=true then s++[l.getD i aV.zero]else s)) (λ s=>s) (λ i s=>s.length<=i) (λ i s L U=>by
  refine⟨?_,λ Y h=>by simp only[fH]at h;subst h;split<;>first|omega|(simp only[cC,ym,Ym];omega)⟩;unfold G8;rw[cA (cP (by simp only;omega)),mL (by simp only;omega),mH (by simp only;omega) (by simp only;omega)];simp only[Qm]
  by_cases H:(!decide ((l.getD i aV.zero).aM=p))=true
  .rw[cA H,cA (show notP p _=true from H),mL om,mL om]
  .rw[bX H,bX (show¬notP p _=true from H)]) (λ s U=>by
  unfold G8;rw[bX (by simp)]) [] (fS _)
 rw[O,Vr l aV.zero (notP p) l.length 0 [] om,lP,fF,eF];unfold Oa rmL;simp
def VC{p:aK}:∀{l:List aV} {i:Nat},qL p l i=none↔∀w∈l,w.aM≠p
 |[],i=>by simp[qL]
 |w::l,i=>by
  simp only[qL]
  by_cases h:w.aM=p
  .simp[h]
  .simp only[h,cI,VC (l:=l),cK,forall_eq_or_imp,ne_eq,iN,gG]
def bXw{l:List aV}{p:aK}:¬0<=oX l p↔∀w∈l,w.aM≠p:=by rw[<-VC (i:=0)];unfold oX;cases qL p l 0<;>simp
def bXx{w:aV}(h:pO w=true):0<=w.bS/\w.bS<=3:=by unfold pO at h;simp only[bY,cB]at h;exact⟨h.1.2,h.2⟩
def bXy(e:aV):(bump e).aM=e.aM:=rfl
def bXz(s:ByteArray):Ej s=AG s:=by unfold Ej AG B1;generalize(s.toList==_)=a;generalize(s.toList==_)=b;generalize(s.toList==_)=c;generalize(s.toList==_)=d;generalize(s.toList==_)=e;cases a<;>cases b<;>cases c<;>cases d<;>cases e<;>rfl
def chI(s:ByteArray)(i:Nat):Int:=((s.toList.getD i 0).toNat:Int)
def okC(s:ByteArray)(i:Nat):Bool:=AJ (chI s i)||(!decide (i=0)&&uT (chI s i))
def bY0(s:ByteArray)(O:s.size<=12):mF (ED s) 0=some (if(List.range s.size).all (okC s)=true then .inl ()else .inr false):=by
 have H:mF (ED s) 0=some ((qG (λ i=>if okC s i=true then none else some (Sum.inr false)) s.size 0).getD (Sum.inl ())):=by
  refine uB s.size _ (Sum.inl ()) (λ i L=>?_) ?_
  .unfold ED;rw[cA (by simpa using L),mL om,mH om om];simp only[Qm];have e:((!((decide (97<=((s.toList.getD i 0).toNat:Int)))&&(decide (((s.toList.getD i 0).toNat:Int)<=122))))&&((decide ((i:Int)=0))||(!((((decide (48<=((s.toList.getD i 0).toNat:Int)))&&(decide (((s.toList.getD i 0).toNat:Int)<=57)))||(decide (((s.toList.getD i 0).toNat:Int)=95)))||(decide (((s.toList.getD i 0).toNat:Int)=45))))))=!okC s i:=by
    unfold okC uT AJ chI;generalize((s.toList.getD i 0).toNat:Int)=c;rw[dM];simp;omega
   cases K:okC s i
   .rw[K]at e;exact cA e
   .rw[K]at e;exact bX (by rw[show _=false from e];decide)
  .unfold ED;rw[bX (by simp)]
 rw[H,vC,<-eX];cases(List.range s.size).all (okC s)<;>rfl
def bY1(s:ByteArray)(L:s.size<=12):mF (ER s) 0=some (if(List.range s.size).all (λ i=>uT (chI s i))=true then .inl ()else .inr false):=by
 have H:mF (ER s) 0=some ((qG (λ i=>if uT (chI s i)=true then none else some (Sum.inr false)) s.size 0).getD (Sum.inl ())):=by
  refine uB s.size _ (Sum.inl ()) (λ i K=>?_) ?_
  .unfold ER;rw[cA (by simpa using K),mL om,mH om om];simp only[Qm];show(if(!uT (chI s i))=true then _ else _)=_;cases uT (chI s i)<;>rfl
  .unfold ER;rw[bX (by simp)]
 rw[H,vC,<-eX];cases(List.range s.size).all (λ i=>uT (chI s i))<;>rfl
def oH(s:ByteArray):Bool:=decide (1<=s.size)&&(decide (s.size<=12)&&(!AG s&&(List.range s.size).all (okC s)))
def IR(s:ByteArray):wY s=some (oH s):=by
 unfold wY oH;rw[bXz]
 by_cases U:s.size<1
 .have:¬1<=s.size:=om
  rw[cA (by simp;omega)];simp[this]
 by_cases Y:12<s.size
 .have:¬s.size<=12:=om
  rw[cA (by simp;omega)];simp[this]
 cases K:AG s
 .rw[bX (by simp;omega),bY0 s om];have H:1<=s.size:=om
  have O:s.size<=12:=om
  simp only[H,O,cG,cL,dO];cases(List.range s.size).all (okC s)<;>rfl
 .rw[cA (by simp)];simp
def F7(s:ByteArray):vX s=some (oH s):=by
 unfold vX oH
 by_cases V:s.size<1
 .have:¬1<=s.size:=om
  rw[mL (by simp;omega),cA (by simp;omega)];simp[this]
 by_cases Z:12<s.size
 .have:¬s.size<=12:=om
  rw[mL (by simp;omega),cA (by simp;omega)];simp[this]
 have Y:1<=s.size:=om
 have O:s.size<=12:=om
 rw[mL (by intro _;omega)];have B:((s.toList.getD 0 0).toNat:Int)=chI s 0:=rfl;have F:decide ((s.size:Int)<1)=false:=by simp;omega
 have M:decide (12<(s.size:Int))=false:=by simp;omega
 simp only[Y,O,cG,cL,B,F,M,dP];have H:(List.range s.size).all (okC s)=(AJ (chI s 0)&&(List.range s.size).all λ i=>uT (chI s i)):=by
  rw[dM];simp only[dT,eH,bY,okC,dU,dB,dE];constructor
  .intro h;refine⟨?_,λ i K=>?_⟩
   .rcases h 0 (by omega)with h|h
    .exact h
    .exact absurd rfl h.1
   .rcases h i K with h|h
    .unfold uT;simp[h]
    .exact h.2
  .rintro⟨L,h⟩ i K
   by_cases U:i=0
   .subst U;exact .inl L
   .exact .inr ⟨U,h i K⟩
 rw[H];cases hr:AG s
 .cases hL:AJ (chI s 0)
  .rfl
  .simp only[cQ,fC,bZ,cI,bY1 s O,dO,cL];cases(List.range s.size).all (λ i=>uT (chI s i))<;>rfl
 .simp
def resV(r:aJ):Bool:=oH r.name&&(oI r&&(decide (0<=r.home)&&decide (r.home<4)))
def bY4(r:aJ):ES r=some (resV r):=by unfold ES resV;rw[IR];simp only[qm,iB]
def VD(r:aJ):CM r=some (resV r):=by unfold CM resV;rw[F7,IP];simp only[qm,iB]
def getH(l:List bA)(p:aK):aC:=match l.find? λ h=>decide (h.aM=p)with
 |some h=>h.aI
 |none=>aC.zero
def VE(l:List bA)(p:aK):∀k i,i+k=l.length->((qG (λ i=>if(l.getD i bA.zero).aM=p then some (Sum.inr (α:=Unit) (l.getD i bA.zero).aI)else none) k i).getD (Sum.inl ()))=match(l.drop i).find? λ h=>decide (h.aM=p)with
  |some h=>Sum.inr h.aI
  |none=>Sum.inl ()
 |0,i,h=>by rw[hX om];rfl
 |k+1,i,h=>by
  rw[xK l i bA.zero om];simp only[qG,List.find?_cons]
  by_cases H:(l.getD i bA.zero).aM=p
  .simp only[H,cH,cG,Xm]
  .simp only[H,cI,cO];exact VE l p k (i+1) om
def VF(l:List bA)(p:aK)(L:l.length<4611686018427387904):AE l p=some (getH l p):=by
 unfold AE;have H:mF (Ca l p) 0=some ((qG (λ i=>if(l.getD i bA.zero).aM=p then some (Sum.inr (α:=Unit) (l.getD i bA.zero).aI)else none) l.length 0).getD (Sum.inl ())):=by
  refine uB l.length _ (Sum.inl ()) (λ i K=>?_) ?_
  .unfold Ca;rw[cA (by simpa using K),mL om,mH om om];simp only[Qm,cB];split<;>rfl
  .unfold Ca;rw[bX (by simp)]
 rw[H,VE l p l.length 0 om,fF];unfold getH;cases l.find? λ h=>decide (h.aM=p)<;>rfl
def Pf(l:List bA)(p:aK)(K:l.length<4611686018427387904):j8 l p=some (getH l p):=by
 rw[<-VF l p K];unfold j8 AE;have e:Kn l p=Ca l p:=funext λ i=>by
  unfold Kn Ca
  by_cases h:0<=i/\i<(l.length:Int)
  .simp only[mL h]
  .by_cases H:i<(l.length:Int)
   .rw[cA (cP H),cA (cP H),gdn h,gdn h]
   .rw[bX (by simpa using H),bX (by simpa using H)]
 rw[e];rfl
def zI(a:aC):oG a=oW a:=rfl
abbrev covM(a b:Int):Bool:=AQ a b
def F8(a b:Int):covM a b=true↔(1<=a/\a<=5/\1<=b/\b<=5)/\(a=b\/a=5\/b=1\/a=4/\b≠5):=by
 unfold covM AQ sX
 by_cases h:1<=a/\a<=5/\1<=b/\b<=5
 .rw[bX (by simp;omega)];simp;omega
 .rw[cA (by simp;omega)];simp;omega
def bYb(a b:Int):Ex a b=some (covM a b):=by
 unfold Ex rI;rw[mL (by simp;omega)];congr 1;rw[dM,F8]
 by_cases h:1<=a/\a<=5/\1<=b/\b<=5
 .obtain⟨O,U,Y,B⟩:=h;have K:a=1\/a=2\/a=3\/a=4\/a=5:=om
  have hb:b=1\/b=2\/b=3\/b=4\/b=5:=om
  rcases K with rfl|rfl|rfl|rfl|rfl<;>rcases hb with rfl|rfl|rfl|rfl|rfl<;>decide
 .constructor
  .intro H;simp only[bY,cB]at H;omega
  .rintro⟨H,_⟩;exact absurd H h
def covA(r:aJ)(a b:aC):Bool:=sG r a b
def bYc(r:aJ)(a b:aC):EY r a b=some (covA r a b):=by unfold EY covA sG;simp only[F6,zI,bYb,qm];cases oB r a<;>cases oB r b<;>simp;cases H:oW a<;>cases hb:oW b<;>simp;split<;>rfl
def Pg(q:aA)(p:aK)(H:q.aS.length<4611686018427387904):Cr q p=some (getH q.aS p):=by unfold Cr;rw[VF _ _ H];rfl
def xO(q:aA)(p:aK)(H:q.aS.length<4611686018427387904):sF q p=some (getH q.aS p):=by unfold sF;rw[Pf _ _ H];rfl
def hb(b:Bool):b=true\/b=false:=by cases b<;>simp
def cvI(q:aA)(i:Nat):Bool:=
 let w:=q.aN.getD i aV.zero
 let h:=getH q.aS w.aM
 decide (oX q.aN w.aM=(i:Int))&&(!oW h&&(mS q.aB w.aI&&(covA q.aB w.aI h&&(!decide (w.aI=h)&&(decide (w.bE=0)&&decide (w.bS=0))))))
def cvOk(q:aA):Bool:=decide (q.aN.length<=8)&&(List.range q.aN.length).all (cvI q)
def wtI(q:aA)(i:Nat):Bool:=
 let w:=q.aW.getD i aV.zero
 mS q.aB w.aI&&oW (getH q.aS w.aM)
def wtOk(q:aA):Bool:=qQ q.aW&&(decide (q.aS.length+q.aW.length<=8)&&(List.range q.aW.length).all (wtI q))
def bYe(q:aA)(K:q.aS.length<4611686018427387904)(O:q.aN.length<=8):mF (Fg q) 0=some (if(List.range q.aN.length).all (cvI q)=true then .inl ()else .inr false):=by
 have H:mF (Fg q) 0=some ((qG (λ i=>if cvI q i=true then none else some (Sum.inr false)) q.aN.length 0).getD (Sum.inl ())):=by
  refine uB q.aN.length _ (Sum.inl ()) (λ i L=>?_) ?_
  .unfold Fg;rw[cA (by simpa using L),mL om,mH om om,lL];unfold cvI;generalize q.aN.getD i aV.zero=w;rw[Pg q _ K,eF,L4 _ _ (show q.aN.length<4611686018427387904 by omega),eF];simp only[bYc];rcases hb (decide (oX q.aN w.aM=(i:Int)))with c1|c1<;>rcases hb (oW (getH q.aS w.aM))with c2|c2<;>rcases hb (mS q.aB w.aI)with c3|c3<;>rcases hb (covA q.aB w.aI (getH q.aS w.aM))with c4|c4<;>
    rcases hb (decide (w.aI=getH q.aS w.aM))with c5|c5<;>rcases hb (decide (w.bE=0))with c6|c6<;>rcases hb (decide (w.bS=0))with c7|c7<;>
    simp only[c1,c2,c3,c4,c5,c6,c7,cQ,dO,jS,fV,kC,dP,fG,cL,iD,eY,cH,cI,bZ,qm,fC,gF]
  .unfold Fg;rw[bX (by simp)]
 rw[H,vC,<-eX];cases(List.range q.aN.length).all (cvI q)<;>rfl
def bYf(q:aA)(K:q.aS.length<4611686018427387904):C0 q=some (cvOk q):=by
 unfold C0 cvOk
 by_cases h:8<q.aN.length
 .have:¬q.aN.length<=8:=om
  rw[cA (by simp;omega)];simp[this]
 .have H:q.aN.length<=8:=om
  rw[bX (by simp;omega),bYe q K H];simp only[H,cG,cL];cases(List.range q.aN.length).all (cvI q)<;>rfl
def VG(q:aA)(K:q.aS.length<4611686018427387904)(O:q.aW.length<=8):mF (CW q) 0=some (if(List.range q.aW.length).all (wtI q)=true then .inl ()else .inr false):=by
 have H:mF (CW q) 0=some ((qG (λ i=>if wtI q i=true then none else some (Sum.inr false)) q.aW.length 0).getD (Sum.inl ())):=by
  refine uB q.aW.length _ (Sum.inl ()) (λ i L=>?_) ?_
  .unfold CW;rw[cA (by simpa using L),mL om,mH om om,lL];unfold wtI;generalize q.aW.getD i aV.zero=w;rw[Pg q _ K];rcases hb (oW (getH q.aS w.aM))with c2|c2<;>rcases hb (mS q.aB w.aI)with c3|c3<;>simp only[c2,c3,cQ,dO,jS,fV,kC,dP,fG,cL,iD,eY,cH,cI,bZ,qm,fC,gF]
  .unfold CW;rw[bX (by simp)]
 rw[H,vC,<-eX];cases(List.range q.aW.length).all (wtI q)<;>rfl
def bYh(q:aA)(L:q.aS.length<=1000000):CX q=some (wtOk q):=by
 unfold CX wtOk;rw[Vx,eF];cases K:qQ q.aW
 .simp
 .have H:=Pe K;rw[mH om om]
  by_cases h:8<q.aS.length+q.aW.length
  .have:¬q.aS.length+q.aW.length<=8:=om
   rw[cA (by simp;omega)];simp[this]
  .have O:q.aS.length+q.aW.length<=8:=om
   rw[bX (by simp;omega),VG q om H];simp only[O,cG,cL];cases(List.range q.aW.length).all (wtI q)<;>rfl
def zJ(q:aA):Bool:=resV q.aB&&(pG q.aB q.aS&&(cvOk q&&(wtOk q&&(decide (0<=q.gen)&&decide (q.gen<=1073741824)))))
def bYj(q:aA):Fk q=some (zJ q):=by
 unfold Fk zJ;rw[bY4,eF];cases resV q.aB
 .simp
 .simp only[cH,Pc,qm,cL];cases H:pG q.aB q.aS
  .simp
  .have K:=Bw H;simp only[cH,bYf q om,qm,cL];cases cvOk q
   .simp
   .simp only[cH,bYh q om,qm,cL,iB]
def bYk(q:aA)(L:q.aS.length<=1000000)(H:q.aW.length<=8):mF (Lq q) 0=some (if(List.range q.aW.length).all (wtI q)=true then .inl ()else .inr false):=by
 rw[<-VG q om H];congr 1;funext i;unfold Lq CW
 by_cases h:0<=i/\i<(q.aW.length:Int)
 .rw[cA (cP h.2),cA (cP h.2),mL h,mL h,mL (λ _=>h)];simp only[Bt,zI,Pf _ _ (show q.aS.length<4611686018427387904 by omega),Pg q _ (show q.aS.length<4611686018427387904 by omega)]
 .by_cases K:i<(q.aW.length:Int)
  .rw[cA (cP K),cA (cP K),gdn h,gdn h]
  .rw[bX (by simpa using K),bX (by simpa using K)]
def bYl(q:aA)(L:q.aS.length<=1000000)(O:q.aN.length<=8):mF (Fr q) 0=some (if(List.range q.aN.length).all (cvI q)=true then .inl ()else .inr false):=by
 have H:mF (Fr q) 0=some ((qG (λ i=>if cvI q i=true then none else some (Sum.inr false)) q.aN.length 0).getD (Sum.inl ())):=by
  refine uB q.aN.length _ (Sum.inl ()) (λ i K=>?_) ?_
  .unfold Fr;rw[cA (by simpa using K),mL om,mH om om,lL];unfold cvI covA;generalize q.aN.getD i aV.zero=w;rw[Pf _ _ (show q.aS.length<4611686018427387904 by omega),eF,IQ _ _ (show q.aN.length<4611686018427387904 by omega)];simp only[zI,Bt];rcases hb (decide (oX q.aN w.aM=(i:Int)))with c1|c1<;>rcases hb (oW (getH q.aS w.aM))with c2|c2<;>rcases hb (mS q.aB w.aI)with c3|c3<;>rcases hb (sG q.aB w.aI (getH q.aS w.aM))with c4|c4<;>
    rcases hb (decide (w.aI=getH q.aS w.aM))with c5|c5<;>rcases hb (decide (w.bE=0))with c6|c6<;>rcases hb (decide (w.bS=0))with c7|c7<;>
    simp only[c1,c2,c3,c4,c5,c6,c7,cQ,dO,jS,fV,kC,dP,fG,cL,iD,eY,cH,cI,bZ,qm,fC,gF]
  .unfold Fr;rw[bX (by simp)]
 rw[H,vC,<-eX];cases(List.range q.aN.length).all (cvI q)<;>rfl
def Ph(q:aA):s8 q=some (zJ q):=by
 unfold s8 zJ cvOk wtOk;rw[VD,eF];cases resV q.aB
 .simp
 .simp only[cH,Pd,qm,cL];cases K:pG q.aB q.aS
  .simp
  .have V:=Bw K
   by_cases F:8<q.aN.length
   .have H:¬q.aN.length<=8:=om
    have O:decide (8<(q.aN.length:Int))=true:=by simp;omega
    simp[H,O]
   .have H:q.aN.length<=8:=om
    have O:decide (8<(q.aN.length:Int))=false:=by simp;omega
    simp only[H,O,cQ,fC,dO,cH,Vy,qm,dP,cG,cL];cases L:qQ q.aW
    .simp
    .have B:=Pe L;simp only[cQ,dP,cL];rw[mH om om]
     by_cases h:q.aS.length+q.aW.length<=8
     .by_cases U:0<=q.gen
      .by_cases Y:q.gen<=1073741824
       .rw[bX (by simp;omega),bYl q om H];simp only[h,U,Y,cG,cL,fG];cases(List.range q.aN.length).all (cvI q)
        .rfl
        .simp only[cH,qm,cL];unfold Lr;rw[bYk q om B];cases(List.range q.aW.length).all (wtI q)<;>rfl
       .rw[cA (by simp;omega)];simp[Y]
      .rw[cA (by simp;omega)];simp[U]
     .rw[cA (by simp;omega)];simp[h]
def oJ(q:aA):aV×Bool:=match q.aN++q.aW with
 |w::_=>(w,true)
 |[]=>(aV.zero,false)
def VH(q:aA):Em q=some (oJ q):=by
 unfold Em oJ;cases q.aN with
 |cons a l=>rw[cA (by simp),mL (by simp)];rfl
 |nil=>
  rw[bX (by simp)];cases q.aW with
  |cons a l=>rw[cA (by simp),mL (by simp)];rfl
  |nil=>rw[bX (by simp)];rfl
def VI(q:aA):Eo q=some (oJ q):=by rw[<-VH];rfl
def mZ(q:aA):Bool:=zJ q&&!((oJ q).2&&tE q.aB q.aS (oJ q).1.aM (oJ q).1.aI)
def bYp(q:aA):Ft q=some (mZ q):=by
 unfold Ft mZ;rw[bYj,eF];cases zJ q
 .simp
 .rw[bX (by simp),VH,eF];cases(oJ q).2<;>simp[bXa]
def VJ(q:aA):C5 q=some (mZ q):=by
 unfold C5 mZ;rw[Ph,eF];cases zJ q
 .simp
 .rw[bX (by simp),VI,eF];cases(oJ q).2<;>simp[bXb]
def bYr(q:aA):Fu q=some (mZ q):=by unfold Fu;rw[bYp];rfl
def IS(q:aA):zA q=some (mZ q):=by
 unfold zA;rw[Ph,eF];cases h:zJ q
 .simp[mZ,h]
 .simp[VJ]
def bYt(a b:List bA)(H:a.length<4611686018427387904):Ci a b=some (decide (a=b)):=by
 unfold Ci
 by_cases h:a.length=b.length
 .rw[bX (by simp[h])];exact O6 a b bA.zero H h (λ i=>rfl)
 .rw[cA (by simp;omega)];have:a≠b:=λ e=>h (by rw[e]);simp[this]
instance:DecidableEq aA:=λ a b=>decidable_of_iff (a.aB=b.aB/\a.aS=b.aS/\a.aN=b.aN/\a.aW=b.aW/\a.gen=b.gen) (by rw[aA.ext_iff])
def bYu(a b:aA)(F:a.aS.length<4611686018427387904)(M:a.aN.length<4611686018427387904)(K:a.aW.length<4611686018427387904):EC a b=some (decide (a=b)):=by
 unfold EC;simp only[bYt _ _ F,VB _ _ M,VB _ _ K];have e:decide (a=b)=(decide (a.aB=b.aB)&&(decide (a.gen=b.gen)&&(decide (a.aS=b.aS)&&(decide (a.aN=b.aN)&&decide (a.aW=b.aW))))):=by
  rw[dM];simp only[cB,bY,aA.ext_iff];constructor
  .rintro⟨H,O,U,Y,B⟩;exact⟨H,B,O,U,Y⟩
  .rintro⟨H,B,O,U,Y⟩;exact⟨H,O,U,Y,B⟩
 rw[e];cases decide (a.aB=b.aB)<;>cases decide (a.gen=b.gen)<;>cases decide (a.aS=b.aS)<;>cases decide (a.aN=b.aN)<;>cases decide (a.aW=b.aW)<;>rfl
def bYv(a b:List aV)(K:a.length<=1000000)(hb:b.length<=1000000):Cj [a,b]=some (a++b):=by
 unfold Cj;have H:AN [a,b] (0,0)=some (.inl ((a.length:Int),1)):=by unfold AN;rw[cA (by simp),mL (by simp)];show(if decide (IntKind.i64.wrap (0+(a.length:Int))<0)=true then none else some (Sum.inl (IntKind.i64.wrap (0+(a.length:Int)),_)))=_;rw[mH om om,bX (by simp),lF];rfl
 have O:AN [a,b] ((a.length:Int),1)=some (.inl ((a.length:Int)+(b.length:Int),2)):=by unfold AN;rw[cA (by simp),mL (by simp)];show(if decide (IntKind.i64.wrap ((a.length:Int)+(b.length:Int))<0)=true then none else some (Sum.inl (IntKind.i64.wrap ((a.length:Int)+(b.length:Int)),_)))=_;rw[mH om om,bX (by simp;omega)];rfl
 have U:AN [a,b] ((a.length:Int)+(b.length:Int),2)=some (.inr ((a.length:Int)+(b.length:Int))):=by unfold AN;rw[bX (by simp)]
 rw[mP,H];simp only;rw[mP,O];simp only;rw[mP,U];simp only[qm];unfold KN KD;rw[mL om,eF];have Y:AM [a,b] (0,[])=some (.inl (1,a)):=by unfold AM;rw[cA (by simp),mL (by simp),mL (by simp;omega)];rfl
 have B:AM [a,b] (1,a)=some (.inl (2,a++b)):=by unfold AM;rw[cA (by simp),mL (by simp),mL (by simp;omega)];rfl
 have F:AM [a,b] (2,a++b)=some (.inr (a++b)):=by unfold AM;rw[bX (by simp)]
 rw[mP,Y];simp only;rw[mP,B];simp only;rw[mP,F];rfl
def bYw(q:aA)(H:q.aN.length<=1000000)(O:q.aW.length<=1000000):EP q=some (q.aN++q.aW):=by unfold EP;rw[bYv _ _ H O];rfl
def Bx(l:List aV)(p:aK):aC×Bool:=match l.find? λ w=>decide (w.aM=p)with
 |some w=>(w.aI,true)
 |none=>(aC.zero,false)
def nO(q:aA)(p:aK):aC×Bool:=Bx (q.aN++q.aW) p
def upM(a b g:Int):Bool:=covM g a&&covM g b
def supM(a b:Int):Int:=if upM a b 1=true then 1 else if upM a b 2=true then 2 else if upM a b 3=true then 3 else if upM a b 4=true then 4 else if upM a b 5=true then 5 else 0
def bYy{body:Int->Option (Int⊕(Unit⊕Int))}(a b:Int)(H:∀g,1<=g->g<=5->body g=some (if upM a b g=true then .inr (.inr g)else .inl (g+1)))(F:body 6=some (.inr (.inl ()))):
  (mF body 1).bind (λ|.inl _=>some 0|.inr z=>some z)=some (supM a b):=by
 unfold supM;rw[mP,H 1 Om Om]
 by_cases O:upM a b 1=true
 .simp[O]
 simp only[O,bZ,cI];rw[show(1:Int)+1=2 from rfl,mP,H 2 Om Om]
 by_cases K:upM a b 2=true
 .simp[K]
 simp only[K,bZ,cI];rw[show(2:Int)+1=3 from rfl,mP,H 3 Om Om]
 by_cases U:upM a b 3=true
 .simp[U]
 simp only[U,bZ,cI];rw[show(3:Int)+1=4 from rfl,mP,H 4 Om Om]
 by_cases Y:upM a b 4=true
 .simp[Y]
 simp only[Y,bZ,cI];rw[show(4:Int)+1=5 from rfl,mP,H 5 Om Om]
 by_cases B:upM a b 5=true
 .simp[B]
 simp only[B,bZ,cI];rw[show(5:Int)+1=6 from rfl,mP,F];rfl
def bYz(a b:Int):EU a b=some (supM a b):=by
 refine bYy a b (λ g O H=>?_) ?_
 .unfold K4;rw[cA (by simpa using H),mH om om];rcases hb (covM g a)with c|c<;>rcases hb (covM g b)with d|d<;>simp[upM,c,d]
 .unfold K4;rw[bX Om]
def rO(r:aJ)(a b:aC):aC:=
 if(!oB r a||!oB r b)=true then aC.zero else
 if oW a=true then b else if oW b=true then a else
 if r.kind=1 then{aC.zero with mode:=supM a.mode b.mode}else{aC.zero with aU:=if a.aU<b.aU then b.aU else a.aU}
def bZ1:∀a∈[(1:Int),2,3,4,5],∀b∈[(1:Int),2,3,4,5],covM a b=true->supM a b=a:=by decide
def bZ2:∀a∈[(1:Int),2,3,4,5],∀b∈[(1:Int),2,3,4,5],covM b a=true->supM a b=b:=by decide
def VK(r:aJ)(a b:aC):CT r a b=some (rO r a b):=by
 unfold CT rO;simp only[F6,bYz,qm];cases V:oB r a
 .simp
 cases K:oB r b
 .simp
 simp only[cQ,fC,bZ,cI];unfold sG;simp only[F6,zI,V,K,cQ,fC,bZ,cI];rcases hb (oW a)with hza|hza<;>rcases hb (oW b)with hzb|hzb
 rotate_left 3
 .simp only[hza,hzb,bZ,cI]
  by_cases O:r.kind=1
  .have pa:=Di V O;have pb:=Di K O;have na:a.mode≠0:=λ h=>by
    have:a=aC.zero:=by cases a;simp only at*;simp[aC.zero];omega
    rw[this]at hza;exact absurd hza Om
   have nb:b.mode≠0:=λ h=>by
    have:b=aC.zero:=by cases b;simp only at*;simp[aC.zero];omega
    rw[this]at hzb;exact absurd hzb Om
   have F:a.mode∈[(1:Int),2,3,4,5]:=by simp;omega
   have M:b.mode∈[(1:Int),2,3,4,5]:=by simp;omega
   have Y:a={aC.zero with mode:=a.mode}:=by cases a;simp only at*;simp[aC.zero];omega
   have B:b={aC.zero with mode:=b.mode}:=by cases b;simp only at*;simp[aC.zero];omega
   simp only[O,cG,cH]
   by_cases H:covM a.mode b.mode=true
   .rw[cA H,bZ1 _ F _ M H];exact dZ some Y
   .rw[bX H]
    by_cases L:covM b.mode a.mode=true
    .rw[cA L,bZ2 _ F _ M L];exact dZ some B
    .rw[bX L]
  .have U:r.kind=2:=by
    have:=V;rw[perm_iff,uC,rY]at this;omega
   have pa:=L0 V U;have pb:=L0 K U;have Y:a={aC.zero with aU:=a.aU}:=by cases a;simp only at*;simp[aC.zero];omega
   have B:b={aC.zero with aU:=b.aU}:=by cases b;simp only at*;simp[aC.zero];omega
   have d:decide (r.kind=1)=false:=by simpa using O
   simp only[d,O,bZ,cI,cB]
   by_cases H:b.aU<=a.aU
   .have:¬a.aU<b.aU:=om
    rw[cA H,bX this];exact dZ some Y
   .have:a.aU<b.aU:=om
    have L:a.aU<=b.aU:=om
    rw[bX H,cA L,cA this];exact dZ some B
 .have Z:a=aC.zero:=by unfold oW at hza;simpa using hza
  have e1:b=aC.zero:=by unfold oW at hzb;simpa using hzb
  simp only[hza,hzb,cH];rw[Z,e1]
 .simp only[hza,hzb,cH,bZ,cI]
 .simp only[hza,hzb,cH,bZ,cI]
def bZ4(g:Int):pC g=pC g:=rfl
def L8(q:aA)(H:q.aS.length<=1000000)(O:q.aN.length<=1000000)(U:q.aW.length<=1000000):m4 q=some q:=by unfold m4;rw[mL om,mL om,mL om]
def bZ6(q:aA)(H:q.aS.length<=1000000)(O:q.aN.length<=1000000)(U:q.aW.length<=1000000):Es q=some q:=by unfold Es;rw[mL om,mL om,mL om]
def popQ(q:aA):aA:=
 if 0<q.aN.length then{q with aS:=setL q.aS (oJ q).1.aM (oJ q).1.aI,aN:=q.aN.drop 1}
 else{q with aS:=setL q.aS (oJ q).1.aM (oJ q).1.aI,aW:=q.aW.drop 1}
def canQ(q:aA):Bool:=(oJ q).2&&tE q.aB q.aS (oJ q).1.aM (oJ q).1.aI
def x9(s:aA×List bA):aA×List bA:=(popQ s.1,s.2++[⟨(oJ s.1).1.aM,(oJ s.1).1.aI⟩])
def advN:Nat->aA×List bA->aA×List bA
 |0,s=>s
 |n+1,s=>if canQ s.1=true then advN n (x9 s)else s
def pP(q:aA):Nat:=q.aN.length+q.aW.length
def advQ(q:aA):aA×List bA:=advN (pP q) (q,[])
def F9{q:aA}(h:canQ q=true):0<pP q/\pP (popQ q)+1=pP q/\q.aS.length<=8:=by
 unfold canQ at h;simp only[bY]at h;obtain⟨H,O⟩:=h;have U:pG q.aB q.aS=true:=by unfold tE uD at O;simp only[bY]at O;exact O.1.1
 refine⟨?_,?_,Bw U⟩
 .unfold oJ at H;unfold pP;cases K:q.aN with
  |cons a l=>simp;omega
  |nil=>
   cases L:q.aW with
   |cons a l=>simp
   |nil=>simp[K,L]at H
 .unfold oJ at H;unfold pP popQ;cases K:q.aN with
  |cons a l=>simp;omega
  |nil=>
   cases L:q.aW with
   |cons a l=>simp
   |nil=>simp[K,L]at H
def Pi(s:aA×List bA):advN (pP s.1) s=if canQ s.1=true then advN (pP (x9 s).1) (x9 s)else s:=by
 cases K:canQ s.1 with
 |false=>
  cases L:pP s.1 with
  |zero=>rfl
  |succ n=>simp[advN,K]
 |true=>obtain⟨O,H,_⟩:=F9 K;have:pP s.1=pP (popQ s.1)+1:=H.symm;rw[this];simp[advN,K,x9]
def Pj(p:aK):∀(l:List aV) (i:Nat),match qL p l i with
  |some j=>i<=j/\(l.find? λ w=>decide (w.aM=p))=some (l.getD (j-i) aV.zero)
  |none=>(l.find? λ w=>decide (w.aM=p))=none
 |[],i=>rfl
 |w::l,i=>by
  simp only[qL,List.find?_cons]
  by_cases O:w.aM=p
  .simp[O]
  .have H:=Pj p l (i+1);simp only[O,cI,cO];cases K:qL p l (i+1)with
   |none=>rw[K]at H;exact H
   |some j=>rw[K]at H;obtain⟨Y,U⟩:=H;refine⟨by omega,?_⟩;rw[U,show j-i=(j-(i+1))+1 by omega,hI]
def VL(l:List aV)(p:aK):Bx l p=if 0<=oX l p then((l.getD (oX l p).toNat aV.zero).aI,true)else(aC.zero,false):=by
 have h:=Pj p l 0;unfold Bx oX;cases K:qL p l 0 with
 |none=>rw[K]at h;simp only at h;rw[h];rfl
 |some j=>rw[K]at h;obtain⟨_,H⟩:=h;rw[H,cA (by simp only;omega)];simp
def bZd(l m:List aV)(p:aK):Bx (l++m) p=if 0<=oX l p then Bx l p else Bx m p:=by
 have h:=Pj p l 0;unfold Bx oX;rw[List.find?_append];cases K:qL p l 0 with
 |none=>rw[K]at h;simp only at h;rw[h,bX Om];rfl
 |some j=>rw[K]at h;obtain⟨_,H⟩:=h;rw[H,cA (by simp only;omega)];rfl
def By(q:aA)(p:aK)(O:q.aN.length<=1000000)(U:q.aW.length<=1000000):uR q p=some (nO q p):=by
 unfold uR nO;rw[IQ _ _ om,eF,bZd,VL q.aN,VL q.aW];have Y:=VA q.aN p;have B:=VA q.aW p
 by_cases H:0<=oX q.aN p
 .rw[cA (cP H),mL om,cA H,cA H]
 .rw[bX (by simpa using H),bX H,IQ _ _ om,eF]
  by_cases K:0<=oX q.aW p
  .rw[cA (cP K),mL om,cA K]
  .rw[bX (by simpa using K),bX K]
def optI(o:Option Nat):Int:=match o with
 |some i=>(i:Int)
 |none=>-1
def bZe(l:List aV)(p:aK):oX l p=optI (qL p l 0):=rfl
def bZf(o:Option Nat):optI (o.map (·+1))=if 0<=optI o then optI o+1 else-1:=by
 cases o with
 |none=>rfl
 |some n=>have h:(0:Int)<=optI (some n):=Int.natCast_nonneg n;rw[cA h];exact Int.natCast_succ n
def Pk{l:List aV}:(∀i,i<l.length->oX l (l.getD i aV.zero).aM=i)↔(l.map (·.aM)).Nodup:=by
 induction l with
 |nil=>simp
 |cons w l B=>
  rw[dN,iX];have O:∀p i,qL p l (i+1)=(qL p l i).map (·+1):=by
   intro p
   clear B
   induction l with
   |nil=>intro i;rfl
   |cons x l B=>intro i;simp only[qL];split<;>simp[B]
  have H:∀i,oX (w::l) (l.getD i aV.zero).aM=if w.aM=(l.getD i aV.zero).aM then 0 else if 0<=oX l (l.getD i aV.zero).aM then oX l (l.getD i aV.zero).aM+1 else-1:=λ i=>by
   simp only[bZe,qL,O]
   by_cases h:w.aM=(l.getD i aV.zero).aM
   .simp[h,optI]
   .simp only[h,cI];exact bZf _
  constructor
  .intro h;have F:∀i,i<l.length->w.aM≠(l.getD i aV.zero).aM/\oX l (l.getD i aV.zero).aM=i:=λ i K=>by
    have:=h (i+1) (by simpa using K);rw[hI,H]at this;split at this
    .omega
    .rename_i U;split at this
     .exact⟨U,by omega⟩
     .omega
   refine⟨λ hm=>?_,B.1 λ i K=>(F i K).2⟩;obtain⟨x,L,M⟩:=cR.1 hm;obtain⟨i,K,rfl⟩:=gC.1 L;have:=(F i K).1;rw[cD,cF K]at this;exact this M.symm
  .rintro⟨F,V⟩ i K;have Z:=B.2 V;cases i with
   |zero=>simp[oX,qL]
   |succ i=>
    have Y:i<l.length:=by simpa using K
    have U:w.aM≠(l.getD i aV.zero).aM:=λ e=>F (cR.2 ⟨l.getD i aV.zero,by
     rw[cD,cF Y];exact iA Y,e.symm⟩)
    rw[hI,H,bX U,Z i Y,cA om];omega
def IT(l:List aV):qQ l=true↔l.length<=8/\(∀w∈l,pO w=true)/\(l.map (·.aM)).Nodup:=by
 unfold qQ;simp only[bY,cB,dT,eH];constructor
 .rintro⟨O,H⟩;refine⟨O,λ w L=>?_,Pk.1 λ i K=>(H i K).2⟩;obtain⟨i,K,rfl⟩:=gC.1 L;have:=(H i K).1;rwa [cD,cF K]at this
 .rintro⟨O,H,U⟩;refine⟨O,λ i K=>⟨H _ ?_,Pk.2 U i K⟩⟩;rw[cD,cF K];exact iA K
def VM{l:List aV}(p:aK)(h:qQ l=true):qQ (rmL l p)=true:=by rw[IT]at h⊢;refine⟨dG (bXt l p) h.1,λ w H=>h.2.1 w ((gY.1 H).1),?_⟩;exact(h.2.2).sublist ((jJ).map _)
def VN(l:List aV)(w:aV):∀k i,sQ l w k<=i->i<k->over w (l.getD i aV.zero)=true
 |k+1,i,K,O=>by
  unfold sQ at K;split at K
  .rename_i H
   by_cases L:i=k
   .subst L;exact H
   .exact VN l w k i K om
  .omega
def bZk{l:List aV}{w e:aV}(h:e∈l.drop (sQ l w l.length)):over w e=true:=by obtain⟨i,H,rfl⟩:=gC.1 h;have:=VN l w l.length (sQ l w l.length+i) om (by simp at H;omega);rw[List.getElem_drop];rwa [cD,cF (by simp at H;omega)]at this
def bZl{w e:aV}(h:pO e=true)(ho:over w e=true):pO (bump e)=true/\(bump e).bS=e.bS+1:=by
 have O:=bXx h;have U:e.bS<3:=by unfold over at ho;simp at ho;exact ho.2
 have H:(bump e).bS=e.bS+1:=by unfold bump;simp only;rw[mH om om]
 refine⟨?_,H⟩;unfold pO at h⊢;simp only[bY,cB]at h⊢;rw[H];exact⟨⟨h.1.1,by omega⟩,by omega⟩
def bZm(l:List aV)(w:aV)(n:Nat):(xN l w n).map (·.aM)=(l.take n).map (·.aM)++w.aM::(l.drop n).map (·.aM):=by unfold xN;rw[fL,dN,jP];rfl
def bZn{l:List aV}{w:aV}(h:qQ l=true)(L:pO w=true)(O:∀e∈l,e.aM≠w.aM)(V:l.length<8):qQ (xN l w (sQ l w l.length))=true:=by
 rw[IT]at h⊢;have F:=L6 l w l.length;have Y:=λ e=>bZk (l:=l) (w:=w) (e:=e);generalize sQ l w l.length=n at F Y;refine⟨by simp[xN];omega,λ e H=>?_,?_⟩
 .simp only[xN,cX,cK,cR]at H;rcases H with H|rfl|⟨x,K,rfl⟩
  .exact h.2.1 e (gD H)
  .exact L
  .exact(bZl (h.2.1 x (gU K)) (Y x K)).1
 .rw[bZm];have B:=h.2.2;rw[<-eO n l,fL]at B;have U:w.aM∉(l.take n).map (·.aM)++(l.drop n).map (·.aM):=by
   rw[<-fL,eO];intro hm;obtain⟨x,K,H⟩:=cR.1 hm;exact O x K H
  exact(List.perm_middle.nodup_iff).2 (iX.2 ⟨U,B⟩)
def VO{p:aK}{l:List bA}{h:bA}:h∈nR p l↔h∈l/\h.aM≠p:=by unfold nR;simp
def bZp{l m:List aC}(h:l.Sublist m)(H:∀a∈m,0<=a.aU):sumU l<=sumU m:=by
 induction h with
 |slnil=>exact gV _
 |cons a h O=>have:=O λ b hb=>H b (.tail _ hb);have:=H a (.head _);simp only[sumU];omega
 |cons_cons a h O=>have:=O λ b hb=>H b (.tail _ hb);simp only[sumU];omega
def CompP.sub{r:aJ}{l m:List aC}(h:CompP r m)(H:l.Sublist m):CompP r l where
 perm:=λ a K=>h.perm a (H.subset K)
 sum:=Int.le_trans (bZp H λ a K=>(Bu (h.perm a K)).1) h.sum
 pair:=h.pair.sublist H
def GoodP.sub{r:aJ}{l m:List bA}(h:GoodP r m)(H:l.Sublist m):GoodP r l:=⟨λ x K=>h.each x (H.subset K),h.asc.sublist H⟩
def xP(r:aJ)(l:List bA):pG r l=true↔oI r=true/\l.length<=8/\GoodP r l/\CompP r (l.map (·.aI)):=by unfold pG;simp
def Pl{r:aJ}{l m:List bA}(h:pG r m=true)(H:l.Sublist m):pG r l=true:=by rw[xP]at h⊢;exact⟨h.1,dG H.length_le h.2.1,h.2.2.1.sub H,h.2.2.2.sub (H.map _)⟩
def Pm(p:aK)(l:List bA):(nR p l).Sublist l:=jJ
def Pn(p:aK)(a:aC)(l:List bA):(insP p a l).Perm (⟨p,a⟩::l):=by
 induction l with
 |nil=>exact jE _
 |cons h t H=>
  simp only[insP];split
  .exact jE _
  .exact(List.Perm.cons h H).trans (List.Perm.swap _ _ _)
def VP{p:aK}{a:aC}:∀{l:List bA},l.Pairwise (λ a b=>ltP a.aM b.aM)->(∀h∈l,h.aM≠p)->(insP p a l).Pairwise λ a b=>ltP a.aM b.aM
 |[],_,_=>by simp[insP]
 |h::t,K,L=>by
  rw[dF]at K;simp only[insP];split
  .rename_i H;rw[dF];refine⟨λ x hx=>?_,dF.2 K⟩;rcases cK.1 hx with rfl|hx
   .exact H
   .exact Dg H (K.1 x hx)
  .rename_i H;rw[dF];refine⟨λ x hx=>?_,VP K.2 λ x hx=>L x (.tail _ hx)⟩;rcases cK.1 ((Pn p a t).mem_iff.1 hx)with rfl|hx
   .rcases Dh (L h (.head _))with h1|h1
    .exact h1
    .exact absurd h1 H
   .exact K.1 x hx
def Po{l m:List aC}(h:l.Perm m):sumU l=sumU m:=by
 induction h with
 |nil=>rfl
 |cons a _ U=>simp only[sumU,U]
 |swap a b l=>simp only[sumU];omega
 |trans _ _ H O=>exact H.trans O
def L9{a b:aC}(h:¬qY a b):¬qY b a:=λ⟨H,O,U⟩=>h ⟨O,H,by rw[L2];exact U⟩
def CompP.perm_iff{r:aJ}{l m:List aC}(h:l.Perm m):CompP r l↔CompP r m:=by
 constructor
 .intro k;exact⟨λ a H=>k.perm a (h.mem_iff.2 H),by rw[<-Po h];exact k.sum,(h.pairwise_iff (λ h=>L9 h)).1 k.pair⟩
 .intro k;exact⟨λ a H=>k.perm a (h.mem_iff.1 H),by rw[Po h];exact k.sum,(h.pairwise_iff (λ h=>L9 h)).2 k.pair⟩
def VQ{r:aJ}{l:List bA}{p:aK}{a:aC}(V:pG r l=true)(B:mV p=true)(L:mS r a=true)(K:(nR p l).length+1<=8):
  tE r l p a=true↔(∀h∈nR p l,¬qY h.aI a)/\a.aU+sumU ((nR p l).map (·.aI))<=r.aU:=by
 have U:=(xP r l).1 V;have M:=tD L;have ho:=Pl V (Pm p l);have H:=(xP r _).1 ho;have Z:uD r l p a=true:=by unfold uD;simp[V,B,L]
 have Y:((insP p a (nR p l)).map (·.aI)).Perm (a::(nR p l).map (·.aI)):=(Pn p a (nR p l)).map _;unfold tE;rw[Z,cL,xP];unfold setL;rw[bX M,CompP.perm_iff Y];constructor
 .rintro⟨_,_,_,F⟩;refine⟨λ h O=>?_,F.sum⟩;have:=(dF.1 F.pair).1 h.aI (cR.2 ⟨h,O,rfl⟩);exact L9 this
 .rintro⟨h1,h2⟩;refine⟨U.1,by rw[L3];exact K,⟨λ x hx=>?_,VP H.2.2.1.asc λ h O=>(VO.1 O).2⟩,⟨λ b hb=>?_,h2,?_⟩⟩
  .rcases cK.1 ((Pn p a _).mem_iff.1 hx)with rfl|hx
   .exact⟨B,L⟩
   .exact H.2.2.1.each x hx
  .rcases cK.1 hb with rfl|hb
   .exact rM L
   .exact H.2.2.2.perm b hb
  .rw[dF];refine⟨λ b hb=>?_,H.2.2.2.pair⟩;obtain⟨h,O,rfl⟩:=cR.1 hb;exact L9 (h1 h O)
def VR{α S X:Type}(f:S->α->S)(H:S->X):∀(l:List α) (i:Nat) (s:S),walk (λ _ a s=>some (.inl (f s a))) H l i s=some (H (l.foldl f s))
 |[],_,_=>rfl
 |a::l,i,s=>by simp only[walk,List.foldl_cons];exact VR f H l (i+1) _
def bZz(l:List bA)(K:l.length<=1000000):Hk l=some (l.map (·.aM)):=by
 unfold Hk;have H:=rL (body:=Hj l) l bA.zero (λ i (s:List aK)=>((i:Int),s)) (λ i h s=>some (.inl (sP s (some h.aM)))) (λ s=>s) (λ i s=>s.length<=i)
  (λ i s L U=>by
   refine⟨?_,λ B h=>?_⟩
   .unfold Hj;have Y:s.length+1<=4294967296:=om
    have O:0<=(i:Int)/\(i:Int)<(l.length:Int):=om
    simp only[Y,O.1,O.2,cW,mR,cG,cH,Qm,mK i om,xm,wmap,sP]
   .simp only[cY,fH]at h;subst h;simp[sP];omega)
  (λ s U=>by unfold Hj;simp) [] (by simp)
 rw[show((0,[]):Int×List aK)=(λ(i:Nat) (s:List aK)=>((i:Int),s)) 0 []from rfl,H,F4 (λ h:bA=>some h.aM)];simp[Oh]
def VS{α:Type}{P:α->Prop}{l:List α}{z:α}:(∀i,i<l.length->P (l.getD i z))↔∀w∈l,P w:=by
 constructor
 .intro h w K;obtain⟨i,H,rfl⟩:=gC.1 K;have:=h i H;rwa [cD,cF H]at this
 .intro h i H;refine h _ ?_;rw[cD,cF H];exact iA H
def cA1(p:aK):getH [] p=aC.zero:=rfl
def wG(h:bA)(t:List bA)(p:aK):getH (h::t) p=if h.aM=p then h.aI else getH t p:=by
 unfold getH;rw[List.find?_cons]
 by_cases e:h.aM=p<;>simp[e]
def VT(p:aK)(l:List bA):getH (nR p l) p=aC.zero:=by
 induction l with
 |nil=>rfl
 |cons h t H=>
  rw[IL]
  by_cases e:h.aM=p
  .simp only[e,cH];exact H
  .simp only[e,cI,wG];exact H
def Ga{p q:aK}(O:q≠p)(l:List bA):getH (nR p l) q=getH l q:=by
 induction l with
 |nil=>rfl
 |cons h t H=>
  rw[IL]
  by_cases e:h.aM=p
  .simp only[e,cH,wG];rw[bX (λ U=>O U.symm)];exact H
  .simp only[e,cI,wG];split
   .rfl
   .exact H
def VU(p:aK)(a:aC):∀l:List bA,(∀h∈l,h.aM≠p)->getH (insP p a l) p=a
 |[],_=>by simp[insP,wG]
 |h::t,H=>by
  simp only[insP];split
  .simp[wG]
  .simp only[wG,H h (.head _),cI];exact VU p a t λ x K=>H x (.tail _ K)
def VV{p q:aK}(a:aC)(H:q≠p):∀l:List bA,getH (insP p a l) q=getH l q
 |[]=>by simp only[insP,wG];rw[bX (λ e:p=q=>H e.symm)]
 |h::t=>by
  simp only[insP];split
  .simp only[wG];rw[bX (λ e:p=q=>H e.symm)]
  .simp only[wG];split
   .rfl
   .exact VV a H t
def Pp(l:List bA)(p:aK)(a:aC):getH (setL l p a) p=a:=by
 unfold setL;split
 .rename_i h;rw[VT,h]
 .exact VU p a _ λ h H=>(VO.1 H).2
def zK{p q:aK}(H:q≠p)(l:List bA)(a:aC):getH (setL l p a) q=getH l q:=by
 unfold setL;split
 .exact Ga H l
 .rw[VV a H];exact Ga H l
def Dk{l:List bA}{p:aK}(h:getH l p≠aC.zero):(⟨p,getH l p⟩:bA)∈l:=by
 induction l with
 |nil=>exact absurd rfl h
 |cons x t H=>
  rw[wG]at h|-
  by_cases e:x.aM=p
  .rw[cA e];subst e;exact .head _
  .rw[bX e]at h⊢;exact .tail _ (H h)
def cA9{l:List bA}{p:aK}(h:∀x∈l,x.aM≠p):nR p l=l:=List.filter_eq_self.2 λ x H=>by simpa using h x H
def Asc(l:List bA):Prop:=l.Pairwise λ a b=>ltP a.aM b.aM
def Ma{r:aJ}{l:List bA}(h:pG r l=true):Asc l:=((xP r l).1 h).2.2.1.asc
def VW{h:bA}{t:List bA}(k:Asc (h::t)):∀x∈t,x.aM≠h.aM:=λ x H e=>by have:=(dF.1 k).1 x H;rw[e]at this;exact F5 _ this
def VX{l:List bA}(h:Asc l){p:aK}(H:getH l p≠aC.zero):l.Perm (⟨p,getH l p⟩::nR p l):=by
 induction l with
 |nil=>exact absurd rfl H
 |cons x t O=>
  rw[wG]at H⊢;rw[IL]
  by_cases e:x.aM=p
  .rw[cA e,cA e,cA9 (by rw[<-e];exact VW h)];subst e;exact jE _
  .rw[bX e]at H;rw[bX e,bX e];exact((O (dF.1 h).2 H).cons x).trans (List.Perm.swap _ _ _)
def Pq{l:List bA}(h:Asc l){p:aK}(H:getH l p≠aC.zero):(nR p l).length+1=l.length:=by
 have:=(VX h H).length_eq
 simpa using this.symm
def cAe{l:List bA}(K:Asc l){x:bA}(hx:x∈l):getH l x.aM=x.aI:=by
 induction l with
 |nil=>cases hx
 |cons y t H=>
  rw[wG];rcases cK.1 hx with rfl|hx
  .rw[cA rfl]
  .rw[bX (λ e:y.aM=x.aM=>VW K x hx e.symm)];exact H (dF.1 K).2 hx
def Bz{r:aJ}{l:List bA}(h:pG r l=true)(p:aK):oB r (getH l p)=true:=by
 have H:=(xP r l).1 h
 by_cases e:getH l p=aC.zero
 .rw[e,perm_iff];exact .inl ⟨H.1,rfl⟩
 .exact rM (H.2.2.1.each _ (Dk e)).2
def wF(a:aC):oW a=true↔a=aC.zero:=by unfold oW;simp
def zL(a:aC):oW a=false↔a≠aC.zero:=by rw[<-gQ,wF]
structure SoundP (q:aA):Prop where
 res:resV q.aB=true
 hv:pG q.aB q.aS=true
 cl:q.aN.length<=8
 cn:(q.aN.map (·.aM)).Nodup
 cg:∀w∈q.aN,getH q.aS w.aM≠aC.zero/\mS q.aB w.aI=true/\covA q.aB w.aI (getH q.aS w.aM)=true/\w.aI≠getH q.aS w.aM/\w.bE=0/\w.bS=0
 wv:qQ q.aW=true
 wl:q.aS.length+q.aW.length<=8
 wg:∀w∈q.aW,mS q.aB w.aI=true/\getH q.aS w.aM=aC.zero
 gen:0<=q.gen/\q.gen<=1073741824
def Pr(q:aA):zJ q=true↔SoundP q:=by
 have Z:cvOk q=true↔q.aN.length<=8/\(q.aN.map (·.aM)).Nodup/\∀w∈q.aN,getH q.aS w.aM≠aC.zero/\mS q.aB w.aI=true/\covA q.aB w.aI (getH q.aS w.aM)=true/\w.aI≠getH q.aS w.aM/\w.bE=0/\w.bS=0:=by
  unfold cvOk;rw[<-Pk,<-VS (z:=aV.zero)];simp only[bY,cB,dT,eH,cvI,dB,zL,dE];constructor
  .rintro⟨O,H⟩;exact⟨O,λ i K=>(H i K).1,λ i K=>(H i K).2⟩
  .rintro⟨O,H,U⟩;exact⟨O,λ i K=>⟨H i K,U i K⟩⟩
 have hw:wtOk q=true↔qQ q.aW=true/\q.aS.length+q.aW.length<=8/\∀w∈q.aW,mS q.aB w.aI=true/\getH q.aS w.aM=aC.zero:=by unfold wtOk;rw[<-VS (z:=aV.zero)];simp only[bY,cB,dT,eH,wtI,wF]
 unfold zJ;simp only[bY,Z,hw,cB];constructor
 .rintro⟨O,H,⟨U,Y,B⟩,⟨F,M,L⟩,V⟩;exact⟨O,H,U,Y,B,F,M,L,V⟩
 .rintro⟨O,H,U,Y,B,F,M,L,V⟩;exact⟨O,H,⟨U,Y,B⟩,⟨F,M,L⟩,V⟩
def SoundP.apart{q:aA}(h:SoundP q){c w:aV}(H:c∈q.aN)(K:w∈q.aW):c.aM≠w.aM:=λ e=>
 (h.cg c H).1 (by rw[e];exact(h.wg w K).2)
inductive Pop (q:aA):Prop where
 |con (w:aV) (cs:List aV) (h:q.aN=w::cs) (hd:(oJ q).1=w) (hr:tE q.aB q.aS w.aM w.aI=true) (hp:popQ q={q with aS:=setL q.aS w.aM w.aI,aN:=cs})
 |wait (w:aV) (ws:List aV) (hc:q.aN=[]) (h:q.aW=w::ws) (hd:(oJ q).1=w) (hr:tE q.aB q.aS w.aM w.aI=true) (hp:popQ q={q with aS:=setL q.aS w.aM w.aI,aW:=ws})
def Ps{q:aA}(h:canQ q=true):Pop q:=by
 unfold canQ at h;rw[bY]at h;obtain⟨O,U⟩:=h;cases K:q.aN with
 |cons w Y=>
  have H:(oJ q).1=w:=by unfold oJ;rw[K];rfl
  exact .con w Y K H (by rw[<-H];exact U) (by unfold popQ;rw[H];simp[K])
 |nil=>
  cases L:q.aW with
  |cons w B=>
   have H:(oJ q).1=w:=by unfold oJ;rw[K,L];rfl
   exact .wait w B K L H (by rw[<-H];exact U) (by unfold popQ;rw[H];simp[K,L])
  |nil=>unfold oJ at O;rw[K,L]at O;exact absurd O Om
def Gb{r:aJ}{l:List bA}{p:aK}{a:aC}(h:tE r l p a=true):pG r l=true/\mV p=true/\mS r a=true/\pG r (setL l p a)=true:=by unfold tE uD at h;simp only[bY]at h;exact⟨h.1.1,h.1.2.1,h.1.2.2,h.2⟩
def VY{r:aJ}{l:List bA}{p:aK}(a:aC)(h:pG r l=true)(H:getH l p≠aC.zero):(setL l p a).length<=l.length:=by
 have:=Pq (Ma h) H;unfold setL;split
 .omega
 .rw[L3];omega
def cAl{w:aV}{l:List aV}(h:qQ (w::l)=true):qQ l=true:=by rw[IT]at h⊢;obtain⟨O,U,H⟩:=h;rw[dN,iX]at H;exact⟨by simp at O;omega,λ x K=>U x (.tail _ K),H.2⟩
def SoundP.pop{q:aA}(h:SoundP q)(Z:canQ q=true):SoundP (popQ q):=by
 cases Ps Z with
 |con w cs U hd M L=>
  rw[L];obtain⟨_,_,_,V⟩:=Gb M;have B:w.aM∉cs.map (·.aM)/\(cs.map (·.aM)).Nodup:=by have:=h.cn;rw[U,dN,iX]at this;exact this
  have hw:=h.cg w (by rw[U];exact .head _);have hl:=VY w.aI h.hv hw.1;have F:=h.cl;rw[U,lN]at F;refine⟨h.res,V,by simp only;omega,B.2,λ c H=>?_,h.wv,?_,λ x K=>?_,h.gen⟩
  .have O:c.aM≠w.aM:=λ e=>B.1 (cR.2 ⟨c,H,e⟩);simp only[zK O];exact h.cg c (by rw[U];exact .tail _ H)
  .have:=h.wl;simp only;omega
  .have O:x.aM≠w.aM:=λ e=>h.apart (c:=w) (by rw[U];exact .head _) K e.symm;simp only[zK O];exact h.wg x K
 |wait w ws h0 U hd M L=>
  rw[L];obtain⟨_,_,_,V⟩:=Gb M;have hl:=bX5 q.aS w.aM w.aI;have F:=h.wl;have Y:=h.wv;rw[U]at F Y;have B:w.aM∉ws.map (·.aM):=by have:=((IT _).1 Y).2.2;rw[dN,iX]at this;exact this.1
  rw[lN]at F;refine⟨h.res,V,h.cl,h.cn,λ c H=>?_,cAl Y,by simp only;omega,λ x K=>?_,h.gen⟩
  .rw[h0]at H;cases H
  .have O:x.aM≠w.aM:=λ e=>B (cR.2 ⟨x,K,e⟩);simp only[zK O];exact h.wg x (by rw[U];exact .tail _ K)
def Pt:∀(n:Nat) (q:aA) (l:List bA),advN n (q,l)=((advN n (q,[])).1,l++(advN n (q,[])).2)
 |0,q,l=>by simp[advN]
 |n+1,q,l=>by
  simp only[advN];split
  .unfold x9;simp only[jm];rw[Pt n (popQ q) (l++_),Pt n (popQ q) [_],cE]
  .simp
def advS(q:aA):aA:=(advQ q).1
def advG(q:aA):List bA:=(advQ q).2
def Mc(q:aA):advQ q=if canQ q=true then((advQ (popQ q)).1,⟨(oJ q).1.aM,(oJ q).1.aI⟩::(advQ (popQ q)).2)else(q,[]):=by
 unfold advQ;rw[Pi (q,[])];show(if canQ q=true then advN (pP (popQ q)) (popQ q,[]++[_])else(q,[]))=_;split
 .rw[Pt];rfl
 .rfl
def Pu{q:aA}(h:canQ q=true):advS q=advS (popQ q):=by unfold advS;rw[Mc q,cA h]
def cAp{q:aA}(h:canQ q=true):advG q=⟨(oJ q).1.aM,(oJ q).1.aI⟩::advG (popQ q):=by unfold advG;rw[Mc q,cA h]
def Pv{q:aA}(h:canQ q=false):advS q=q:=by unfold advS;rw[Mc q,h];rfl
def cAr{q:aA}(h:canQ q=false):advG q=[]:=by unfold advG;rw[Mc q,h];rfl
def IU{P:aA->Prop}(h:∀q,canQ q=true->P q->P (popQ q)):∀q,P q->P (advS q):=by
 have O:∀n q,pP q=n->P q->P (advS q):=by
  intro n;induction n using Nat.strongRecOn with
  |_ n U=>
   intro q Y H;cases K:canQ q with
   |false=>rw[Pv K];exact H
   |true=>rw[Pu K];have:=(F9 K).2.1;exact U (pP (popQ q)) om _ rfl (h q K H)
 exactλ q H=>O _ q rfl H
def VZ{P:aA->Prop}(O:∀q,canQ q=false->P q)(h:∀q,canQ q=true->P (popQ q)->P q):∀q,P q:=by
 have H:∀n q,pP q=n->P q:=by
  intro n;induction n using Nat.strongRecOn with
  |_ n U=>
   intro q Y;cases K:canQ q with
   |false=>exact O q K
   |true=>have:=(F9 K).2.1;exact h q K (U (pP (popQ q)) om _ rfl)
 exactλ q=>H _ q rfl
def cAu:∀q,canQ (advS q)=false:=by refine VZ (λ q h=>by rw[Pv h];exact h) λ q h H=>by rw[Pu h];exact H
def SoundP.adv{q:aA}(h:SoundP q):SoundP (advS q):=IU (P:=SoundP) (λ _ H h=>h.pop H) q h
def qR(q:aA):mZ q=true↔SoundP q/\canQ q=false:=by unfold mZ;rw[bY,Pr];show SoundP q/\(!canQ q)=true↔_;rw[dB]
def cAv:∀q,(advG q).length+pP (advS q)=pP q:=by
 refine VZ (λ q h=>by rw[Pv h,cAr h];simp) λ q h H=>by rw[Pu h,cAp h,lN];have:=(F9 h).2.1;omega
def cAw(r:aJ)(a b:aC):covA r a b=(!(!oB r a||!oB r b)&&(oW b||(!oW a&&(if r.kind=1 then covM a.mode b.mode else decide (b.aU<=a.aU))))):=by
 have H:=F6 r a;have O:=F6 r b;have U:=zI a;have Y:=zI b;have h:covA r a b=(!(!uW r a||!uW r b)&&(oG b||(!oG a&&(if r.kind=1 then covM a.mode b.mode else decide (b.aU<=a.aU))))):=by
  unfold covA sG;generalize(!uW r a||!uW r b)=x;generalize oG b=y;generalize oG a=z
  by_cases B:r.kind=1<;>cases x<;>cases y<;>cases z<;>simp[B]
 rw[h,H,O,U,Y]
def uE(r:aJ)(a b:aC):covA r a b=true↔oB r a=true/\oB r b=true/\(b=aC.zero\/a≠aC.zero/\b≠aC.zero/\((r.kind=1/\covM a.mode b.mode=true)\/(r.kind≠1/\b.aU<=a.aU))):=by
 rw[cAw];have U:=wF a;have H:=wF b;simp only[bY,dU,dB,jD,Bool.not_eq_false',H,zL]
 by_cases e:b=aC.zero
 .simp[e,fU]
 .by_cases O:r.kind=1<;>simp[e,O,fU]
def y5{r:aJ}{a:aC}(h:oB r a=true):covA r a a=true:=by
 rw[uE];refine⟨h,h,?_⟩
 by_cases e:a=aC.zero
 .exact .inl e
 .refine .inr ⟨e,e,?_⟩
  by_cases H:r.kind=1
  .left;refine⟨H,?_⟩;have:=Di h H;have hm:a.mode≠0:=λ hm=>e (by obtain⟨m,u⟩:=a;simp only at*;unfold aC.zero;congr;omega);rw[F8];omega
  .exact .inr ⟨H,gV _⟩
def Pw{r:aJ}{a:aC}(h:oB r a=true)(H:oI r=true):covA r a aC.zero=true:=by rw[uE];exact⟨h,(perm_iff r _).2 (.inl ⟨H,rfl⟩),.inl rfl⟩
def Md{r:aJ}{a b c:aC}(U:covA r a b=true)(Y:covA r b c=true):covA r a c=true:=by
 rw[uE]at U Y⊢;refine⟨U.1,Y.2.1,?_⟩;rcases Y.2.2 with e|⟨B,F,O⟩
 .exact .inl e
 .rcases U.2.2 with e|⟨M,_,H⟩
  .exact absurd e B
  .refine .inr ⟨M,F,?_⟩;rcases O with⟨k,O⟩|⟨k,O⟩
   .rcases H with⟨_,H⟩|⟨k',_⟩
    .left;refine⟨k,?_⟩;rw[F8]at O H⊢;omega
    .exact absurd k k'
   .rcases H with⟨k',_⟩|⟨_,H⟩
    .exact absurd k' k
    .exact .inr ⟨k,by omega⟩
def low(a b:aC):Prop:=a.aU<=b.aU/\∀c,¬qY b c->¬qY a c
def cB1{r:aJ}{a b:aC}(h:covA r b a=true):low a b:=by
 rw[uE]at h;obtain⟨F,Y,H⟩:=h;have B:=Bu F;rcases H with e|⟨Z,x0,H⟩
 .subst e;refine⟨B.1,λ c _ O=>?_⟩;exact O.1 rfl
 .rcases H with⟨k,H⟩|⟨k,H⟩
  .have p1:=Di F k;have M:=Di Y k;refine⟨by omega,λ c O U=>O ⟨?_,U.2.1,?_⟩⟩
   .rw[F8]at H;omega
   .have K:=U.2.2;rw[<-gQ]at K⊢;intro L;apply K;rw[L1]at L⊢;rw[F8]at H;omega
  .have V:r.kind=2:=by
    have:=(perm_iff r a).1 Y;rw[uC,rY]at this;omega
   have M:=L0 Y V;exact⟨H,λ c _ O=>O.1 M.1⟩
def cB2{r:aJ}{l:List bA}{p:aK}{a:aC}:tE r l p a=true↔pG r l=true/\mV p=true/\mS r a=true/\(nR p l).length+1<=8/\(∀h∈nR p l,¬qY h.aI a)/\a.aU+sumU ((nR p l).map (·.aI))<=r.aU:=by
 constructor
 .intro h;obtain⟨O,U,H,Y⟩:=Gb h;have K:(nR p l).length+1<=8:=by
   have:=Bw Y;unfold setL at this;rw[bX (tD H),L3]at this;exact this
  exact⟨O,U,H,K,(VQ O U H K).1 h⟩
 .rintro⟨O,U,H,Y,B⟩;exact(VQ O U H Y).2 B
def cB3{r:aJ}{l:List bA}{p:aK}{a:aC}(K:pG r l=true)(M:getH l p≠aC.zero)(V:covA r (getH l p) a=true):pG r (setL l p a)=true:=by
 have O:=Ma K;have H:=(xP r l).1 K
 by_cases Z:a=aC.zero
 .unfold setL;rw[cA Z];exact Pl K (Pm p l)
 .have B:mS r a=true:=by
   rcases(perm_iff r a).1 ((uE _ _ _).1 V).2.1 with h|h
   .exact absurd h.2 Z
   .exact h
  have U:=cB1 V;have hm:=Dk M;have hlt:=Pq O M;have F:=VX O M;have Y:tE r l p a=true:=by
   rw[cB2];refine⟨K,(H.2.2.1.each _ hm).1,B,by have:=H.2.1;omega,λ x hx h0=>?_,?_⟩
   .have L:=(CompP.perm_iff (F.map (·.aI))).1 H.2.2.2;have:=(dF.1 L.pair).1 x.aI (cR.2 ⟨x,hx,rfl⟩);exact U.2 _ this (by
     obtain⟨c1,c2,c3⟩:=h0;exact⟨c2,c1,by rw[L2];exact c3⟩)
   .have h1:=Po (F.map (·.aI));have h2:=H.2.2.2.sum;rw[h1]at h2;simp only[dN,sumU]at h2;have:=U.1;omega
  exact(Gb Y).2.2.2
def del(q:aA)(p:aK):aA:={q with aS:=nR p q.aS,aN:=rmL q.aN p,aW:=rmL q.aW p}
def Dl{w:aV}{l:List aV}{p:aK}:w∈rmL l p↔w∈l/\w.aM≠p:=by unfold rmL notP;simp
def Gc(l:List aV)(p:aK):(rmL l p).Sublist l:=jJ
def SoundP.del{q:aA}(h:SoundP q)(p:aK):SoundP (del q p):=by
 have U:=(Gc q.aN p).length_le;have Y:=(Gc q.aW p).length_le;have B:=IM p q.aS;have F:=h.cl;have M:=h.wl;refine⟨h.res,Pl h.hv (Pm p _),by simp only[Ab.del];omega,h.cn.sublist ((Gc _ _).map _),λ w K=>?_,VM p h.wv,by simp only[Ab.del];omega,λ w K=>?_,h.gen⟩
 .obtain⟨H,O⟩:=Dl.1 K;simp only[Ab.del,Ga O];exact h.cg w H
 .obtain⟨H,O⟩:=Dl.1 K;simp only[Ab.del,Ga O];exact h.wg w H
def cB6(q:aA)(g:Int):canQ {q with gen:=g}=canQ q:=rfl
def Px(q:aA):(popQ q).gen=q.gen/\(popQ q).aB=q.aB:=by unfold popQ;split<;>exact⟨rfl,rfl⟩
def V0(q:aA):(advS q).gen=q.gen/\(advS q).aB=q.aB:=
 IU (P:=λ x=>x.gen=q.gen/\x.aB=q.aB) (λ x _ h=>by rw[(Px x).1,(Px x).2];exact h) q ⟨rfl,rfl⟩
def V1(g:Int):0<=pC g/\pC g<=1073741824:=by
  unfold pC
  by_cases h:g<0\/1073741824<=g
  .rw[cA (by simpa using h)];decide
  .rw[bX (by simpa using h),mH om om];omega
def rZ(q:aA):aA×List bA×Int:=({advS q with gen:=pC q.gen},advG q,0)
def SoundP.gen'{q:aA}(h:SoundP q)(g:Int)(H:0<=g)(O:g<=1073741824):SoundP {q with gen:=g}:=⟨h.res,h.hv,h.cl,h.cn,h.cg,h.wv,h.wl,h.wg,H,O⟩
def Gd{q:aA}(h:SoundP q):mZ (rZ q).1=true:=by rw[qR];exact⟨h.adv.gen' _ (V1 _).1 (V1 _).2,by show canQ (advS q)=false;exact cAu q⟩
def V2(q:aA)(p:aK):(nO q p).2=true↔∃w∈q.aN++q.aW,w.aM=p:=by
  unfold nO Bx;cases h:(q.aN++q.aW).find? λ w=>decide (w.aM=p)with
  |none=>
    rw[List.find?_eq_none]at h;simp only[cB]at h;constructor
    .intro H;cases H
    .rintro⟨w,K,e⟩;exact absurd e (h w K)
  |some w=>have O:=kN h;have H:=List.find?_some h;exact⟨λ _=>⟨w,O,by simpa using H⟩,λ _=>rfl⟩
def Dm{q:aA}{p:aK}:(nO q p).2=false↔∀w∈q.aN++q.aW,w.aM≠p:=by
  rw[<-gQ,V2];constructor
  .exactλ h w H e=>h ⟨w,H,e⟩
  .rintro h ⟨w,H,e⟩;exact h w H e
def cBd:∀a∈[(1:Int),2,3,4,5],∀b∈[(1:Int),2,3,4,5],supM a b∈[(1:Int),2,3,4,5]/\covM (supM a b) a=true/\covM (supM a b) b=true:=by decide
def cBe{r:aJ}{a b:aC}(K:mS r a=true)(hb:mS r b=true)(H:r.kind=1):rO r a b=⟨supM a.mode b.mode,0⟩:=by unfold rO;rw[rM K,rM hb,(zL a).2 (tD K),(zL b).2 (tD hb)];simp[H,aC.zero]
def cBf{r:aJ}{a b:aC}(K:mS r a=true)(hb:mS r b=true)(H:r.kind≠1):rO r a b=⟨0,if a.aU<b.aU then b.aU else a.aU⟩:=by unfold rO;rw[rM K,rM hb,(zL a).2 (tD K),(zL b).2 (tD hb)];simp[H,aC.zero]
def V3{r:aJ}{h a:aC}(O:mS r h=true)(K:mS r a=true)(B:covA r h a=false):
    mS r (rO r h a)=true/\covA r (rO r h a) h=true/\covA r (rO r h a) a=true/\rO r h a≠h:=by
  have Y:mS r (rO r h a)=true/\covA r (rO r h a) h=true/\covA r (rO r h a) a=true:=by
    have fh:=(rY r h).1 O;have fa:=(rY r a).1 K
    by_cases U:r.kind=1
    · have F:h.mode∈[(1:Int),2,3,4,5]:=by simp;omega
      have M:a.mode∈[(1:Int),2,3,4,5]:=by simp;omega
      obtain⟨L,V,Z⟩:=cBd _ F _ M;rw[cBe O K U];have H:mS r ⟨supM h.mode a.mode,0⟩=true:=by rw[rY];left;simp at L;exact⟨U,by omega,by simp only;omega,by simp only;omega,rfl⟩
      refine⟨H,?_,?_⟩
      .rw[uE];exact⟨rM H,rM O,.inr ⟨tD H,tD O,.inl ⟨U,V⟩⟩⟩
      .rw[uE];exact⟨rM H,rM K,.inr ⟨tD H,tD K,.inl ⟨U,Z⟩⟩⟩
    · rw[cBf O K U]
      have H:mS r ⟨0,if h.aU<a.aU then a.aU else h.aU⟩=true:=by rw[rY];right;refine⟨by omega,by omega,by omega,rfl,?_,?_⟩<;>simp only<;>split<;>omega
      refine⟨H,?_,?_⟩
      · rw[uE];refine⟨rM H,rM O,.inr ⟨tD H,tD O,.inr ⟨U,?_⟩⟩⟩
        simp only;split<;>omega
      · rw[uE];refine⟨rM H,rM K,.inr ⟨tD H,tD K,.inr ⟨U,?_⟩⟩⟩
        simp only;split<;>omega
  refine⟨Y.1,Y.2.1,Y.2.2,λ e=>?_⟩;have:=Y.2.2;rw[e,B]at this;cases this
def claimC(q:aA)(p:aK)(a:aC):aA:={q with aN:=q.aN++[⟨p,rO q.aB (getH q.aS p) a,0,0⟩]}
def claimW(q:aA)(p:aK)(a:aC)(pr:Int):aA:={q with aW:=xN q.aW ⟨p,a,pr,0⟩ (sQ q.aW ⟨p,a,pr,0⟩ q.aW.length)}
def zM(q:aA)(p:aK):aA:={q with aN:=rmL q.aN p,aW:=rmL q.aW p}
def wH(q:aA)(p:aK)(a:aC):aA:={q with aS:=setL q.aS p a}
def hasQ(q:aA)(p:aK):Bool:=(nO q p).2||!oW (getH q.aS p)
def errQ(e:Int):aA×List bA×Int:=(aA.zero,[],e)
def zN(p:aK)(pr:Int):Bool:=mV p&&(decide (0<=pr)&&decide (pr<=7))
def qM(q:aA)(p:aK)(a:aC)(pr:Int):aA×List bA×Int:=
  if mZ q=false then errQ 2 else if zN p pr=false then errQ 1 else if mS q.aB a=false then errQ 12 else if(nO q p).2=true then errQ 14
  else if covA q.aB (getH q.aS p) a=true then(q,[],0)else if getH q.aS p≠aC.zero then rZ (claimC q p a)
  else if 8<=q.aS.length+q.aW.length then errQ 4 else rZ (claimW q p a pr)
def pY(q:aA)(p:aK):aA×List bA×Int:=
  if mZ q=false then errQ 2 else if(nO q p).2=false then errQ 10 else rZ (zM q p)
def oQ(q:aA)(p:aK)(a:aC):aA×List bA×Int:=
  if mZ q=false then errQ 2 else if getH q.aS p=aC.zero then errQ 10 else if(nO q p).2=true then errQ 14
  else if covA q.aB (getH q.aS p) a=false then errQ 12 else if getH q.aS p=a then(q,[],0)else rZ (wH q p a)
def pQ(q:aA)(p:aK):aA×List bA×Int:=
  if mZ q=false then errQ 2 else if hasQ q p=false then errQ 10 else rZ (del q p)
def SoundP.cancel{q:aA}(h:SoundP q)(p:aK):SoundP (zM q p):=by have H:=(Gc q.aN p).length_le;have O:=(Gc q.aW p).length_le;have U:=h.cl;have Y:=h.wl;exact⟨h.res,h.hv,by simp only[zM];omega,h.cn.sublist ((Gc _ _).map _),λ w K=>h.cg w (Dl.1 K).1,VM p h.wv,by simp only[zM];omega,λ w K=>h.wg w (Dl.1 K).1,h.gen⟩
def SoundP.claimC{q:aA}(h:SoundP q){p:aK}{a:aC}(Z:mS q.aB a=true)(V:(nO q p).2=false)(Y:covA q.aB (getH q.aS p) a=false)(U:getH q.aS p≠aC.zero):SoundP (claimC q p a):=by
  have hv:=(xP _ _).1 h.hv;have O:mS q.aB (getH q.aS p)=true:=(hv.2.2.1.each _ (Dk U)).2;obtain⟨j1,B,j3,F⟩:=V3 O Z Y;rw[Dm]at V;refine⟨h.res,h.hv,?_,?_,λ w hww=>?_,h.wv,h.wl,h.wg,h.gen⟩
  ·
    have M:((q.aN++[(⟨p,rO q.aB (getH q.aS p) a,0,0⟩:aV)]).map (·.aM)).Nodup:=by rw[fL,jQ];refine⟨h.cn,by simp,λ x K y L=>?_⟩;simp only[dN,iU,dQ]at L;obtain⟨c,H,rfl⟩:=cR.1 K;rw[L];exact V c (dW _ H)
    have hs:∀x∈(q.aN++[(⟨p,rO q.aB (getH q.aS p) a,0,0⟩:aV)]).map (·.aM),x∈q.aS.map (·.aM):=by
      intro x K;simp only[fL,cX,dN,iU,dQ]at K;rcases K with K|rfl
      · obtain⟨c,H,rfl⟩:=cR.1 K
        exact cR.2 ⟨_,Dk (h.cg c H).1,rfl⟩
      .exact cR.2 ⟨_,Dk U,rfl⟩
    have:=eT M hs;have h8:=Bw h.hv;rw[dK,dK]at this;show(q.aN++[(⟨p,rO q.aB (getH q.aS p) a,0,0⟩:aV)]).length<=8;omega
  · show((q.aN++[(⟨p,rO q.aB (getH q.aS p) a,0,0⟩:aV)]).map (·.aM)).Nodup
    rw[fL,jQ];refine⟨h.cn,by simp,λ x K y L=>?_⟩;simp only[dN,iU,dQ]at L;obtain⟨c,H,rfl⟩:=cR.1 K;rw[L];exact V c (dW _ H)
  · rcases cX.1 hww with hww|hww
    .exact h.cg w hww
    · rw[dQ]at hww;subst hww
      exact⟨U,j1,B,F,rfl,rfl⟩
def V4{r:aJ}{p:aK}{a:aC}{pr:Int}(K:mS r a=true)(H:zN p pr=true):pO ⟨p,a,pr,0⟩=true:=by rw[rY]at K;unfold zN at H;simp only[bY,cB]at H;rw[<-L5];unfold yR;rw[xM,H.1];unfold pX sX;simp;omega
def cBm{q:aA}(h:SoundP q){p:aK}{a:aC}{pr:Int}(L:mS q.aB a=true)(O:zN p pr=true)(K:(nO q p).2=false)(U:q.aW.length<8):
    insS q.aW ⟨p,a,pr,0⟩=((claimW q p a pr).aW,(sQ q.aW ⟨p,a,pr,0⟩ q.aW.length:Int),0):=by
  unfold insS;rw[bX (by rw[h.wv];decide),bX (by rw[V4 L O];simp),bX ?_,bX om]
  .rfl
  · rw[Dm]at K
    exact bXw.2 λ w H=>K w (dJ _ H)
def SoundP.claimW{q:aA}(h:SoundP q){p:aK}{a:aC}{pr:Int}(K:mS q.aB a=true)(U:zN p pr=true)(L:(nO q p).2=false)(Y:getH q.aS p=aC.zero)(hl:q.aS.length+q.aW.length<8):SoundP (claimW q p a pr):=by
  rw[Dm]at L;have O:∀e∈q.aW,e.aM≠p:=λ e B=>L e (dJ _ B);have V:=bZn (w:=⟨p,a,pr,0⟩) h.wv (V4 K U) O om;refine⟨h.res,h.hv,h.cl,h.cn,h.cg,V,?_,λ w H=>?_,h.gen⟩
  · have F:=L6 q.aW ⟨p,a,pr,0⟩ q.aW.length
    simp only[Ab.claimW,xN,cC,ym,dK,dD,dS];omega
  · simp only[Ab.claimW,xN,cX,cK,cR]at H
    rcases H with H|rfl|⟨x,Z,rfl⟩
    .exact h.wg w (gD H)
    .exact⟨K,Y⟩
    .exact h.wg x (gU Z)
def SoundP.lower{q:aA}(h:SoundP q){p:aK}{a:aC}(K:(nO q p).2=false)(O:getH q.aS p≠aC.zero)(U:covA q.aB (getH q.aS p) a=true):SoundP (wH q p a):=by
  rw[Dm]at K;have L:=VY a h.hv O;have Y:=h.wl;refine⟨h.res,cB3 h.hv O U,h.cl,h.cn,λ w H=>?_,h.wv,by simp only[wH];omega,λ w H=>?_,h.gen⟩
  · simp only[wH,zK (K w (dW _ H))]
    exact h.cg w H
  · simp only[wH,zK (K w (dJ _ H))]
    exact h.wg w H
def Me{q:aA}{p:aK}{a:aC}{pr:Int}(h:(qM q p a pr).2.2=0):SoundP q/\canQ q=false/\zN p pr=true/\mS q.aB a=true/\(nO q p).2=false/\
    ((covA q.aB (getH q.aS p) a=true/\qM q p a pr=(q,[],0))\/
     (covA q.aB (getH q.aS p) a=false/\getH q.aS p≠aC.zero/\qM q p a pr=rZ (claimC q p a)/\SoundP (claimC q p a))\/
     (covA q.aB (getH q.aS p) a=false/\getH q.aS p=aC.zero/\q.aS.length+q.aW.length<8/\qM q p a pr=rZ (claimW q p a pr)/\SoundP (claimW q p a pr))):=by
  unfold qM at h|-
  by_cases F:mZ q=false
  .rw[cA F]at h;exact absurd h Om
  rw[bX F]at h|-
  by_cases B:zN p pr=false
  .rw[cA B]at h;exact absurd h Om
  rw[bX B]at h|-
  by_cases U:mS q.aB a=false
  .rw[cA U]at h;exact absurd h Om
  rw[bX U]at h|-
  by_cases Y:(nO q p).2=true
  .rw[cA Y]at h;exact absurd h Om
  rw[bX Y]at h⊢;rw[fW]at F B U;rw[gQ]at Y;obtain⟨M,L⟩:=(qR q).1 F;refine⟨M,L,B,U,Y,?_⟩
  by_cases O:covA q.aB (getH q.aS p) a=true
  .rw[cA O];exact .inl ⟨O,rfl⟩
  rw[bX O]at h⊢;rw[gQ]at O
  by_cases H:getH q.aS p≠aC.zero
  .rw[cA H];exact .inr (.inl ⟨O,H,rfl,M.claimC U Y O H⟩)
  rw[bX H]at h|-
  by_cases K:8<=q.aS.length+q.aW.length
  .rw[cA K]at h;exact absurd h Om
  rw[bX K];have H:=kT.1 H;exact .inr (.inr ⟨O,H,by omega,rfl,M.claimW U B Y H om⟩)
def IV{q:aA}{p:aK}(h:(pY q p).2.2=0):SoundP q/\canQ q=false/\(nO q p).2=true/\pY q p=rZ (zM q p)/\SoundP (zM q p):=by
  unfold pY at h|-
  by_cases H:mZ q=false
  .rw[cA H]at h;exact absurd h Om
  rw[bX H]at h|-
  by_cases O:(nO q p).2=false
  .rw[cA O]at h;exact absurd h Om
  rw[bX O];rw[fW]at H O;obtain⟨Y,U⟩:=(qR q).1 H;exact⟨Y,U,O,rfl,Y.cancel p⟩
def Ge{q:aA}{p:aK}{a:aC}(h:(oQ q p a).2.2=0):SoundP q/\canQ q=false/\getH q.aS p≠aC.zero/\(nO q p).2=false/\covA q.aB (getH q.aS p) a=true/\
    ((getH q.aS p=a/\oQ q p a=(q,[],0))\/(getH q.aS p≠a/\oQ q p a=rZ (wH q p a)/\SoundP (wH q p a))):=by
  unfold oQ at h|-
  by_cases U:mZ q=false
  .rw[cA U]at h;exact absurd h Om
  rw[bX U]at h|-
  by_cases Y:getH q.aS p=aC.zero
  .rw[cA Y]at h;exact absurd h Om
  rw[bX Y]at h|-
  by_cases H:(nO q p).2=true
  .rw[cA H]at h;exact absurd h Om
  rw[bX H]at h|-
  by_cases O:covA q.aB (getH q.aS p) a=false
  .rw[cA O]at h;exact absurd h Om
  rw[bX O]at h⊢;rw[fW]at U O;rw[gQ]at H;obtain⟨M,F⟩:=(qR q).1 U;refine⟨M,F,Y,H,O,?_⟩
  by_cases B:getH q.aS p=a
  .rw[cA B];exact .inl ⟨B,rfl⟩
  .rw[bX B];exact .inr ⟨B,rfl,M.lower H Y O⟩
def Py{q:aA}{p:aK}(h:(pQ q p).2.2=0):SoundP q/\canQ q=false/\hasQ q p=true/\pQ q p=rZ (del q p)/\SoundP (del q p):=by
  unfold pQ at h|-
  by_cases H:mZ q=false
  .rw[cA H]at h;exact absurd h Om
  rw[bX H]at h|-
  by_cases O:hasQ q p=false
  .rw[cA O]at h;exact absurd h Om
  rw[bX O];rw[fW]at H O;obtain⟨Y,U⟩:=(qR q).1 H;exact⟨Y,U,O,rfl,Y.del p⟩
def ordQ(q:aA):List aV:=q.aN++q.aW
def Pz{q:aA}(h:canQ q=true):ordQ q=(oJ q).1::ordQ (popQ q)/\(popQ q).aS=setL q.aS (oJ q).1.aM (oJ q).1.aI:=by
 cases Ps h with
 |con w F H O Y U=>rw[U,O];unfold ordQ;rw[H];exact⟨rfl,rfl⟩
 |wait w M B H O Y U=>rw[U,O];unfold ordQ;rw[B,H];exact⟨rfl,rfl⟩
def cBs{q:aA}(h:canQ q=true):tE q.aB q.aS (oJ q).1.aM (oJ q).1.aI=true:=by unfold canQ at h;rw[bY]at h;exact h.2
def V5{q:aA}{p:aK}(h:∀w∈ordQ q,w.aM≠p):getH (advS q).aS p=getH q.aS p/\∀w∈ordQ (advS q),w.aM≠p:=by
 have:=IU (P:=λ x=>getH x.aS p=getH q.aS p/\∀w∈ordQ x,w.aM≠p) (λ x O K=>by
  obtain⟨U,Y⟩:=Pz O;obtain⟨B,H⟩:=K;rw[U]at H;refine⟨?_,λ w L=>H w (.tail _ L)⟩;rw[Y,zK (lD (H _ (.head _)))];exact B) q ⟨rfl,h⟩
 exact this
def IW{q:aA}(B:SoundP q)(p:aK):covA q.aB (getH (advS q).aS p) (getH q.aS p)=true:=by
 have:=IU (P:=λ x=>SoundP x/\x.aB=q.aB/\covA q.aB (getH x.aS p) (getH q.aS p)=true) (λ x O ⟨K,L,V⟩=>by
  refine⟨K.pop O,by rw[(Px x).2];exact L,?_⟩;obtain⟨e1,Z⟩:=Pz O;rw[Z]
  by_cases H:p=(oJ x).1.aM
  .subst H;rw[Pp];refine Md ?_ V;cases Ps O with
   |con w cs U Y F H=>rw[Y,<-L];exact(K.cg w (by rw[U];exact .head _)).2.2.1
   |wait w ws h0 U Y F H=>rw[Y,(K.wg w (by rw[U];exact .head _)).2,<-L];have M:=(Gb F).2.2.1;exact Pw (rM M) (Vv M)
  .rw[zK H];exact V) q ⟨B,rfl,y5 (Bz B.hv p)⟩
 exact this.2.2
def cBv{r:aJ}{l:List bA}(h:pG r l=true)(p:aK):getH l p≠aC.zero↔p∈l.map (·.aM):=by
 constructor
 .intro H;exact cR.2 ⟨_,Dk H,rfl⟩
 .intro H;obtain⟨x,K,rfl⟩:=cR.1 H;rw[cAe (Ma h) K];exact tD (((xP _ _).1 h).2.2.1.each x K).2
def qS(q:aA)(p:aK):hasQ q p=true↔(∃w∈ordQ q,w.aM=p)\/getH q.aS p≠aC.zero:=by unfold hasQ;rw[dU,V2,dB,zL];rfl
def cBw{q:aA}(h:SoundP q)(p:aK):hasQ q p=true↔p∈(ordQ q).map (·.aM)\/p∈q.aS.map (·.aM):=by simp only[qS,cBv h.hv,cR]
def cBx{q:aA}(O:canQ q=true)(p:aK):hasQ (popQ q) p=hasQ q p:=by
 rw[dM,qS,qS];obtain⟨U,Y⟩:=Pz O;rw[U,Y];have B:=tD (Gb (cBs O)).2.2.1
 by_cases H:p=(oJ q).1.aM
 .subst H;rw[Pp];exact⟨λ _=>.inl ⟨_,.head _,rfl⟩,λ _=>.inr B⟩
 .rw[zK H];constructor
  .rintro(⟨w,hw,e⟩|h)
   .exact .inl ⟨w,.tail _ hw,e⟩
   .exact .inr h
  .rintro(⟨w,hw,e⟩|h)
   .rcases cK.1 hw with rfl|hw
    .exact absurd e.symm H
    .exact .inl ⟨w,hw,e⟩
   .exact .inr h
def V6(q:aA)(p:aK):hasQ (advS q) p=hasQ q p:=IU (P:=λ x=>hasQ x p=hasQ q p) (λ x H h=>by rw[cBx H];exact h) q rfl
def PA(q:aA)(g:Int)(p:aK):hasQ {q with gen:=g} p=hasQ q p:=rfl
def PB{q:aA}{p:aK}{w:aV}:w∈ordQ (del q p)↔w∈ordQ q/\w.aM≠p:=by
 unfold ordQ del;simp only[cX,Dl];constructor
 .rintro(⟨a,b⟩|⟨a,b⟩)
  .exact⟨.inl a,b⟩
  .exact⟨.inr a,b⟩
 .rintro⟨a|a,b⟩
  .exact .inl ⟨a,b⟩
  .exact .inr ⟨a,b⟩
def cC1(q:aA)(p x:aK):hasQ (del q p) x=true↔hasQ q x=true/\x≠p:=by
 rw[qS,qS]
 by_cases K:x=p
 .subst K;constructor
  .rintro(⟨w,L,e⟩|h)
   .exact absurd e (PB.1 L).2
   .exact absurd (VT _ _) h
  .rintro⟨_,h⟩;exact absurd rfl h
 .have H:getH (del q p).aS x=getH q.aS x:=Ga K _;rw[H];constructor
  .rintro(⟨w,L,e⟩|h)
   .exact⟨.inl ⟨w,(PB.1 L).1,e⟩,K⟩
   .exact⟨.inr h,K⟩
  .rintro⟨⟨w,L,e⟩|h,_⟩
   .exact .inl ⟨w,PB.2 ⟨L,by rw[e];exact K⟩,e⟩
   .exact .inr h
def remN(q:aA)(p:aK):aA:=if(pQ q p).2.2=0 then(pQ q p).1 else q
def xQ(q:aA):(rZ q).1={advS q with gen:=pC q.gen}:=rfl
def PD{q:aA}(h:mZ q=true){p:aK}(H:hasQ q p=true):pQ q p=rZ (del q p):=by unfold pQ;rw[bX (by rw[h];decide),bX (by rw[H];decide)]
def PE{q:aA}(h:mZ q=true){p:aK}(H:hasQ q p=false):pQ q p=errQ 10:=by unfold pQ;rw[bX (by rw[h];decide),cA H]
def V7{q:aA}(h:mZ q=true)(p:aK):mZ (remN q p)=true:=by
 unfold remN;split
 .rename_i H;obtain⟨_,_,_,e,O⟩:=Py H;rw[e];exact Gd O
 .exact h
def V8{q:aA}(h:mZ q=true){p x:aK}(L:x≠p):covA q.aB (getH (remN q p).aS x) (getH q.aS x)=true/\(remN q p).aB=q.aB:=by
 obtain⟨H,Y⟩:=(qR q).1 h;unfold remN;cases K:hasQ q p with
 |true=>rw[PD h K,cA (show(rZ (del q p)).2.2=0 from rfl),xQ];have O:=IW (H.del p) x;have U:getH (del q p).aS x=getH q.aS x:=Ga L _;rw[U]at O;exact⟨O,(V0 (del q p)).2⟩
 |false=>rw[PE h K,bX Om];exact⟨y5 (Bz H.hv x),rfl⟩
def V9{q:aA}(h:mZ q=true)(p x:aK):hasQ (remN q p) x=true↔hasQ q x=true/\x≠p:=by
 unfold remN;cases H:hasQ q p with
 |true=>rw[PD h H,cA (show(rZ (del q p)).2.2=0 from rfl),xQ,PA,V6,cC1]
 |false=>
  rw[PE h H,bX Om];constructor
  .intro K;exact⟨K,λ e=>by rw[e,H]at K;cases K⟩
  .exact And.left
def IX:∀{a b:List aK},a.Pairwise ltP->b.Pairwise ltP->(∀x,x∈a↔x∈b)->a=b
 |[],b,_,_,h=>by
  cases b with
  |nil=>rfl
  |cons y b=>exact absurd ((h y).2 (.head _)) (by simp)
 |x::a,[],_,_,h=>absurd ((h x).1 (.head _)) (by simp)
 |x::a,y::b,K,hb,h=>by
  rw[dF]at K hb;have H:x=y:=by
   rcases cK.1 ((h x).1 (.head _))with e|hx
   .exact e
   .rcases cK.1 ((h y).2 (.head _))with e|hy
    .exact e.symm
    .exact absurd (Dg (K.1 y hy) (hb.1 x hx)) (F5 x)
  subst H;congr 1;refine IX K.2 hb.2 λ z=>?_;have O:=h z;constructor
  .intro hm;rcases cK.1 (O.1 (.tail _ hm))with e|hm'
   .subst e;exact absurd (K.1 z hm) (F5 z)
   .exact hm'
  .intro hm;rcases cK.1 (O.2 (.tail _ hm))with e|hm'
   .subst e;exact absurd (hb.1 z hm) (F5 z)
   .exact hm'
def sR(p:aK):List aK->List aK
 |[]=>[p]
 |x::t=>if p=x then x::t else if ltP p x then p::x::t else x::sR p t
def Dn{p x:aK}:∀{l:List aK},x∈sR p l↔x=p\/x∈l
 |[]=>by simp[sR]
 |y::t=>by
  simp only[sR];split
  .rename_i h;subst h;simp only[cK];constructor
   .intro h;exact .inr h
   .rintro(rfl|h)
    .exact .inl rfl
    .exact h
  .split
   .simp only[cK]
   .simp only[cK,Dn (l:=t)];constructor
    .rintro(h|h|h)
     .exact .inr (.inl h)
     .exact .inl h
     .exact .inr (.inr h)
    .rintro(h|h|h)
     .exact .inr (.inl h)
     .exact .inl h
     .exact .inr (.inr h)
def Do{p:aK}:∀{l:List aK},l.Pairwise ltP->(sR p l).Pairwise ltP
 |[],_=>by simp[sR]
 |y::t,h=>by
  simp only[sR];split
  .exact h
  .rename_i H;rw[dF]at h;split
   .rename_i K;rw[dF];refine⟨λ x hx=>?_,dF.2 h⟩;rcases cK.1 hx with rfl|hx
    .exact K
    .exact Dg K (h.1 x hx)
   .rename_i K;rw[dF];refine⟨λ x hx=>?_,Do h.2⟩;rcases Dn.1 hx with rfl|hx
    .rcases Dh H with h1|h1
     .exact absurd h1 K
     .exact h1
    .exact h.1 x hx
def cCb{p:aK}:∀{l:List aK},l.Pairwise ltP->p∈l->sR p l=l:=λ K H=>
 IX (Do K) K λ x=>by
  rw[Dn];constructor
  .rintro(rfl|h)
   .exact H
   .exact h
  .exact .inr
def xR(l:List aK):List aK:=l.foldl (λ s p=>sR p s) []
def PF:∀(l s:List aK),s.Pairwise ltP->(l.foldl (λ s p=>sR p s) s).Pairwise ltP/\∀x,x∈l.foldl (λ s p=>sR p s) s↔x∈s\/x∈l
 |[],s,h=>⟨h,λ x=>by simp⟩
 |p::l,s,h=>by
  obtain⟨H,O⟩:=PF l (sR p s) (Do h);refine⟨H,λ x=>?_⟩;rw[lR,O,Dn,cK];constructor
  .rintro((h|h)|h)
   .exact .inr (.inl h)
   .exact .inl h
   .exact .inr (.inr h)
  .rintro(h|h|h)
   .exact .inl (.inr h)
   .exact .inl (.inl h)
   .exact .inr h
def IY(l:List aK):(xR l).Pairwise ltP:=(PF l [] .nil).1
def Gf{l:List aK}{x:aK}:x∈xR l↔x∈l:=by
 have:=(PF l [] .nil).2 x;unfold xR
 simpa using this
def cCg{l s:List aK}(h:s.Pairwise ltP)(hm:∀x,x∈s↔x∈l):s=xR l:=IX h (IY l) λ x=>by rw[hm,Gf]
def IZ{l:List aK}(h:l.Pairwise ltP):l.Nodup:=h.imp λ H e=>by subst e;exact F5 _ H
def I0(l:List aK):(xR l).length<=l.length:=eT (IZ (IY l)) λ x H=>Gf.1 H
def dst:List aK->List aK
 |[]=>[]
 |[x]=>[x]
 |x::y::t=>if x=y then dst (y::t)else x::dst (y::t)
def Mf:∀{l:List aK} {x:aK},x∈dst l↔x∈l
 |[],x=>by simp[dst]
 |[y],x=>by simp[dst]
 |y::z::t,x=>by
  simp only[dst];split
  .rename_i h;subst h;rw[Mf (l:=y::t)];simp
  .rw[cK,Mf (l:=z::t),cK (b:=y)]
def PG:∀{l:List aK},l.Pairwise (λ x y=>¬ltP y x)->(dst l).Pairwise ltP
 |[],_=>by simp[dst]
 |[x],_=>by simp[dst]
 |x::y::t,h=>by
  simp only[dst];rw[dF]at h;split
  .exact PG h.2
  .rename_i H;rw[dF];refine⟨λ z O=>?_,PG h.2⟩;have O:=Mf.1 O
   by_cases e:x=z
   .subst e;rcases cK.1 O with e|hz'
    .exact absurd e H
    .have U:=(dF.1 h.2).1 x hz';rcases Dh H with h3|h3
     .exact absurd h3 U
     .exact absurd h3 (h.1 y (.head _))
   .rcases Dh e with h1|h1
    .exact h1
    .exact absurd h1 (h.1 z O)
def cCl{l s:List aK}(h:s.Pairwise λ x y=>¬ltP y x)(hm:∀x,x∈s↔x∈l):dst s=xR l:=cCg (PG h) λ x=>by rw[Mf,hm]
def Wa:∀(l:List aK) (x y:aK),dst (l++[x,y])=if x=y then dst (l++[x])else dst (l++[x])++[y]
 |[],x,y=>by
  by_cases h:x=y<;>simp[dst,h]
 |[a],x,y=>by
  by_cases h:x=y
  .subst h;by_cases H:a=x<;>simp[dst,H]
  .by_cases H:a=x
   .subst H;simp[dst,h]
   .simp[dst,h,H]
 |a::b::l,x,y=>by
  have O:=Wa (b::l) x y;simp only[Jm,dst]at O⊢;rw[O]
  by_cases h:x=y<;>by_cases H:a=b<;>simp[h,H]
def cCn(x y:aK):¬ltP y x\/¬ltP x y:=by
 by_cases h:ltP y x
 .exact .inr (O8 h)
 .exact .inl h
def cCo(l:List aK):(l.mergeSort λ x y=>!decide (ltP y x)).Pairwise λ x y=>¬ltP y x:=by
 have:=List.pairwise_mergeSort (le:=λ x y=>!decide (ltP y x)) (λ a b c H O=>by
  simp only[dB,dE]at H O⊢;intro U
  by_cases e:b=a
  .subst e;exact O U
  .rcases Dh e with h4|h4
   .exact H h4
   .by_cases Y:b=c
    .subst Y;exact H U
    .rcases Dh Y with h5|h5
     .exact O8 (Dg U h4) h5
     .exact O h5) (λ a b=>by
  rcases cCn a b with h|h
  .simp[h]
  .simp[h]) l
 exact this.imp λ h=>by simpa using h
def ifNT{α:Type}(x y:α):(if(!true)=true then x else y)=y:=rfl
def ifTF{α:Type}(x y:α):(if true=false then x else y)=y:=rfl
def ifFT{α:Type}(x y:α):(if false=true then x else y)=y:=rfl
def cCp(l:List aK)(H:l.length<=4294967296):E2 l=some (l.mergeSort λ x y=>!decide (ltP y x)):=by unfold E2;rw[mL H];congr 2
def cCq{l:List aK}{i:Nat}(h:i+1<l.length):l.take (i+2)=l.take i++[l.getD i aK.zero,l.getD (i+1) aK.zero]:=by rw[fR om,fR om,cE];congr 1;rw[cD,cF om,cD,cF h];rfl
def PH{l:List aK}{i:Nat}(h:i<l.length):l.take (i+1)=l.take i++[l.getD i aK.zero]:=by rw[fR h];congr 1;rw[cD,cF h];rfl
def PI{l:List aK}{i:Nat}(h:i+1<l.length):dst (l.take (i+2))=if l.getD i aK.zero=l.getD (i+1) aK.zero then dst (l.take (i+1))else dst (l.take (i+1))++[l.getD (i+1) aK.zero]:=by rw[cCq h,Wa,<-PH om]
def Wb{l m:List aK}{i j:Nat}(h:l.drop i=m.drop i)(H:i<=j):l.getD j aK.zero=m.getD j aK.zero:=by
 have e:∀x:List aK,x.getD j aK.zero=(x.drop i).getD (j-i) aK.zero:=λ x=>by rw[cD,cD,eG,show i+(j-i)=j by omega]
 rw[e l,e m,h]
def cCu(a:List aK)(g:Nat)(hg:1<=g)(hgl:g<a.length)(hl:a.length<=1000000)(F:a.getD g aK.zero=a.getD (g-1) aK.zero)(M:dst (a.take g)=a.take g):
  ∃x,mF (Kj a g) ((g:Int),1,a)=some x/\∃k:Nat,x.1=(k:Int)/\x.2.length=a.length/\k<=a.length/\x.2.take k=dst a:=by
 refine nZ (λ s=>∃k B:Nat,s.1=(k:Int)/\s.2.1=(B:Int)/\s.2.2.length=a.length/\1<=B/\g+B<=a.length/\k+1<=g+B/\s.2.2.take k=dst (a.take (g+B))/\s.2.2.drop (g+B-1)=a.drop (g+B-1)) (λ s=>(a.length-s.2.1.toNat)) _ ?_ _ ?_
 .rintro⟨k,B,s⟩ ⟨U,H,Z,h2,L,h4,h5,h6,V,K⟩;simp only at Z h2 L V K;subst Z;subst h2;unfold Kj
  by_cases hlt:g+H<a.length
  .left;have w:IntKind.i64.wrap ((H:Int)-1)=((H-1:Nat):Int):=by rw[mH om om];omega
   have w2:IntKind.i64.wrap ((H:Int)+1)=((H+1:Nat):Int):=by rw[mH om om];omega
   have w3:IntKind.i64.wrap ((U:Int)+1)=((U+1:Nat):Int):=by rw[mH om om];omega
   have r1:s.getD (g+H) aK.zero=a.getD (g+H) aK.zero:=Wb K om;have r2:s.getD (g+(H-1)) aK.zero=a.getD (g+(H-1)) aK.zero:=Wb K om;have O:=PI (l:=a) (i:=g+(H-1)) om;rw[show g+(H-1)+2=g+(H+1)by omega,show g+(H-1)+1=g+H by omega]at O;simp only[Qm,w,w2,w3];rw[cA (by simp;omega),mL om,mL om,r1,r2]
   by_cases Y:a.getD (g+H) aK.zero=a.getD (g+(H-1)) aK.zero
   .refine⟨((U:Int),((H+1:Nat):Int),s),by rw[bX (by simp only[Y,cG,cQ,bZ,iN])],⟨U,H+1,rfl,rfl,L,by omega,by omega,by omega,?_,?_⟩,by simp only[Qm];omega⟩
    .simp only;rw[V,O,cA Y.symm]
    .simp only;rw[show g+(H+1)-1=(g+H-1)+1 by omega,<-eV,<-eV,K]
   .rw[cA (by simpa using Y),mL om,mL om];refine⟨(((U+1:Nat):Int),((H+1:Nat):Int),s.set U (a.getD (g+H) aK.zero)),rfl,⟨U+1,H+1,rfl,rfl,by simp[L],by omega,by omega,by omega,?_,?_⟩,by simp only[Qm];omega⟩
    .simp only;rw[O,bX (λ e=>Y e.symm),<-V,PH (by rw[dV];omega),List.take_set_of_le om,sH _ _ _ _ om]
    .simp only;rw[List.drop_set_of_lt om,show g+(H+1)-1=(g+H-1)+1 by omega,<-eV,<-eV,K]
  .right;refine⟨((U:Int),s),by simp only[Qm];rw[bX (by simp;omega)],U,rfl,L,by omega,?_⟩;simp only;rw[V,eJ om]
 .refine⟨g,1,rfl,rfl,rfl,by omega,by omega,by omega,?_,rfl⟩;simp only;have O:=PI (l:=a) (i:=g-1) om;rw[show g-1+2=g+1 by omega,show g-1+1=g by omega,cA F.symm,M]at O;exact O.symm
def cCv(a:List aK)(Z:a.length<=1000000):∃r,AB a=some (dst a,r):=by
 unfold AB
 by_cases M:a.length<2
 .rw[cA (by simp;omega)];refine⟨a,?_⟩;have:dst a=a:=by
   match a,M with
   |[],_=>rfl
   |[x],_=>rfl
   |x::y::t,h=>simp at h;omega
  rw[this]
 .rw[bX (by simp;omega)];obtain⟨x,V,Y⟩:=nZ (body:=G9 a) (λ g=>∃n:Nat,g=(n:Int)/\1<=n/\n<=a.length/\dst (a.take n)=a.take n) (λ g=>a.length-g.toNat)
   (λ x=>match x with|.inl _=>dst a=a|.inr z=>z.1=dst a) (by
    rintro g ⟨n,rfl,h1,h3,L⟩;unfold G9
    by_cases K:n<a.length
    .have w:IntKind.i64.wrap ((n:Int)-1)=((n-1:Nat):Int):=by rw[mH om om];omega
     have w2:IntKind.i64.wrap ((n:Int)+1)=((n+1:Nat):Int):=by rw[mH om om];omega
     rw[cA (by simp;omega),mL om,w,w2,mL om];simp only[Qm]
     by_cases B:a.getD n aK.zero=a.getD (n-1) aK.zero
     .right;obtain⟨x,V,k,H,F,h0,O⟩:=cCu a n h1 K Z B L;rw[cA (cP B),mL om,V];obtain⟨x1,x2⟩:=x;simp only at H F O;subst H;rw[eF];unfold Ob;simp only[Qm];rw[mL om,mL om];refine⟨_,rfl,?_⟩;simp only;rw[fF,cE,fI (by simp;omega),lH,Nat.min_self,O]
     .left;refine⟨((n+1:Nat):Int),by rw[bX (by simpa using B)],⟨n+1,rfl,by omega,by omega,?_⟩,by simp only[Qm];omega⟩;have U:=PI (l:=a) (i:=n-1) om;rw[show n-1+2=n+1 by omega,show n-1+1=n by omega,bX (λ e=>B e.symm),L,<-PH K]at U;exact U
    .right;refine⟨.inl (),by rw[bX (by simp;omega)],?_⟩;simp only;rw[eJ om]at L;exact L) 1 ⟨1,rfl,by omega,by omega,by
      match a,M with
      |x::t,_=>simp[dst]⟩
  rw[V];cases x with
  |inl u=>simp only at Y;refine⟨a,?_⟩;rw[Y];rfl
  |inr z=>simp only at Y;refine⟨z.2,?_⟩;rw[<-Y];rfl
def PJ(l:List aK)(H:l.length<=1000000):q5 l=some (xR l):=by unfold q5;rw[mL om,cCp l om,eF];obtain⟨r,h⟩:=cCv (l.mergeSort λ x y=>!decide (ltP y x)) (by rw[List.length_mergeSort];exact H);rw[h];simp only[qm];rw[cCl (cCo l) λ x=>List.mem_mergeSort]
def Wd(l:List aK)(p:aK)(K:l.length<=1000000):l7 l p=some (decide (p∈l)):=by
 unfold l7;have O:=xL (body:=Ho l p) l aK.zero (λ i (_:Unit)=>(i:Int)) (λ _ x _=>some (if x=p then .inr (Sum.inr true)else .inl ())) (λ _=>Sum.inl (β:=Bool) ())
  (λ i s L=>by
   unfold Ho;have U:0<=(i:Int)/\(i:Int)<(l.length:Int):=om
   simp only[U.1,U.2,cW,mR,cG,cH,Qm,mK i om,xm,cB];split<;>rfl)
  (λ s=>by unfold Ho;simp) ()
 rw[show(0:Int)=(λ(i:Nat) (_:Unit)=>(i:Int)) 0 ()from rfl,O];have H:∀(l:List aK) (i:Nat),walk (λ _ x (_:Unit)=>some (if x=p then .inr (Sum.inr true)else .inl ())) (λ _=>Sum.inl (β:=Bool) ()) l i ()=some (if p∈l then .inr true else .inl ()):=by
  intro l;induction l with
  |nil=>intro i;simp[walk]
  |cons x t Y=>
   intro i;simp only[walk]
   by_cases e:x=p
   .subst e;simp
   .simp only[e,cI,cK,λ h:p=x=>e h.symm,jO];rw[Y];have:¬p=x:=λ h=>e h.symm;simp[this]
 rw[H]
 by_cases B:p∈l<;>simp[B,Oi]
def cCy(q:aA)(O:q.aN.length<=1000)(B:q.aW.length<=1000):CP q=some ((ordQ q).map (·.aM)):=by
 unfold CP;rw[bYw q om om,eF];have K:(q.aN++q.aW).length<=2000:=by rw[cC];omega
 show _=some ((q.aN++q.aW).map (·.aM));generalize q.aN++q.aW=l at K;have H:=rL (body:=HY l) l aV.zero (λ i (s:List aK)=>((i:Int),s)) (λ i h s=>some (.inl (sP s (some h.aM)))) (λ s=>s) (λ i s=>s.length<=i)
  (λ i s L Y=>by
   refine⟨?_,λ F h=>?_⟩
   .unfold HY;have O:s.length+1<=4294967296:=om
    have U:0<=(i:Int)/\(i:Int)<(l.length:Int):=om
    simp only[O,U.1,U.2,cW,mR,cG,cH,Qm,mK i om,xm,wmap,sP]
   .simp only[cY,fH]at h;subst h;simp[sP];omega)
  (λ s Y=>by unfold HY;simp) [] (by simp)
 rw[show((0,[]):Int×List aK)=(λ(i:Nat) (s:List aK)=>((i:Int),s)) 0 []from rfl,H,F4 (λ h:aV=>some h.aM)];simp[OE]
def cCz(l:List bA)(H:l.length<=1000000):B3 l=some (l.map (·.aM)):=by have e:B3 l=Hk l:=rfl;rw[e];exact bZz l H
def sA(q:aA):List aK:=xR (q.aS.map (·.aM)++(ordQ q).map (·.aM))
def cD1(q:aA)(U:q.aS.length<=1000)(H:q.aN.length<=1000)(O:q.aW.length<=1000):Fn q=some (sA q):=by
 unfold Fn sA;have K:(ordQ q).length<=2000:=by unfold ordQ;rw[cC];omega
 rw[cCz _ om,eF,cCy q H O,eF,mL (by simp;omega),PJ _ (by simp;omega)];rfl
def We{q:aA}(h:SoundP q){p:aK}:p∈sA q↔hasQ q p=true:=by unfold sA;rw[Gf,cX,cBw h,or_comm]
def SoundP.lens{q:aA}(h:SoundP q):q.aS.length<=8/\q.aN.length<=8/\q.aW.length<=8/\pP q<=16:=by have:=h.cl;have:=h.wl;have:=Bw h.hv;unfold pP;omega
def cD3{q:aA}(h:SoundP q):mZ q=!canQ q:=by unfold mZ;rw[(Pr q).2 h,cL];rfl
def cD4(g:aA×List bA)(O:SoundP g.1)(hg:g.2.length<=1000000):FA g=some (if canQ g.1=true then .inl (x9 g)else .inr g):=by
 unfold FA;rw[VJ,eF,cD3 O];cases K:canQ g.1 with
 |false=>simp
 |true=>
  obtain⟨U,_,L⟩:=F9 K;rw[cA (by simp),VI,eF,cA rfl];unfold x9 popQ
  by_cases H:0<g.1.aN.length
  .rw[cA (by simpa using H),mL om,cA H];unfold In;rw[IN _ _ _ (by simp only;omega),eF,mL om]
  .rw[bX (by simpa using H),bX H];have V:0<g.1.aW.length:=by unfold pP at U;omega
   rw[mL om];unfold In;rw[IN _ _ _ (by simp only;omega),eF,mL om]
def cD5{q:aA}(h:SoundP q):C6 q=some (advS q,advG q):=by
 unfold C6;have L:=h.lens;rw[Ph,eF,(Pr q).2 h,bX Om,L8 q om om om,eF];have H:=Vo (body:=FA) (λ g=>SoundP g.1/\pP g.1+g.2.length<=1000) (λ g=>pP g.1) (λ g=>advN (pP g.1) g) (λ g hg=>by
  rw[cD4 g hg.1 om];cases K:canQ g.1 with
  |false=>right;rw[bX Om,Pi,bX (by rw[K];decide)]
  |true=>
   left;obtain⟨O,U,_⟩:=F9 K;refine⟨x9 g,by rw[cA rfl],⟨hg.1.pop K,?_⟩,?_,?_⟩
   .unfold x9;simp only[cC,ym,Ym];omega
   .show pP (popQ g.1)<pP g.1;omega
   .rw[Pi g,cA K]) (q,[]) ⟨h,by simp only[Ym];omega⟩
 rw[H];rfl
def I1{q:aA}(h:SoundP q):zC q=some (rZ q):=by unfold zC;rw[cD5 h,eF,bZ4];rfl
def cD7(p:aK)(pr:Int):(((!(mV p))||(decide (pr<0)))||(decide (7<pr)))=!zN p pr:=by
 unfold zN;generalize mV p=b;rw[dM];cases b
 .simp
 .simp
def cD8(q:aA)(p:aK)(a:aC)(pr:Int):u6 q p a pr=some (qM q p a pr):=by
 unfold u6 qM;rw[IS,eF];cases Z:mZ q with
 |false=>rfl
 |true=>
  obtain⟨U,F⟩:=(qR q).1 Z;have hl:=U.lens;rw[ifNT,ifTF,xM,cD7];cases V:zN p pr with
  |false=>rfl
  |true=>
   rw[ifNT,ifTF,Bt];cases K:mS q.aB a with
   |false=>rfl
   |true=>
    rw[ifNT,ifTF,By q p om om,eF];cases L:(nO q p).2 with
    |true=>rfl
    |false=>
     rw[ifFT,ifFT,bZ6 q om om om,eF,xO q p om,eF];have Y:sG q.aB (getH q.aS p) a=covA q.aB (getH q.aS p) a:=rfl;rw[Y];cases h5:covA q.aB (getH q.aS p) a with
     |true=>rfl
     |false=>
      rw[ifFT,ifFT,zI]
      by_cases O:getH q.aS p=aC.zero
      .rw[bX (by rw[(wF _).2 O];decide),bX (show¬getH q.aS p≠aC.zero fromλ k=>k O),mH om om]
       by_cases M:8<=q.aS.length+q.aW.length
       .rw[cA (by simp;omega),cA M];rfl
       .rw[bX (by simp;omega),bX M,bXr,eF];have hi:=cBm U K V L (p:=p) (a:=a) (pr:=pr) om;have e:({aV.zero with aM:=p,aI:=a,bE:=pr}:aV)=⟨p,a,pr,0⟩:=rfl;rw[e,hi,bX (by simp)];have H:=U.claimW K V L O om (p:=p) (a:=a) (pr:=pr);have B:(⟨(⟨q.aB.name,q.aB.kind,q.aB.aU,q.aB.home⟩:aJ),q.aS,q.aN,(claimW q p a pr).aW,q.gen⟩:aA)=claimW q p a pr:=rfl;simp only[B];rw[I1 H];rfl
      .rw[cA (by rw[(zL _).2 O];rfl),cA O];have H:=U.claimC K L h5 O;rw[VK,eF,mL om];have B:(⟨(⟨q.aB.name,q.aB.kind,q.aB.aU,q.aB.home⟩:aJ),q.aS,q.aN++[{aV.zero with aM:=p,aI:=rO q.aB (getH q.aS p) a}],q.aW,q.gen⟩:aA)=claimC q p a:=rfl;rw[B,I1 H];rfl
def cD9(q:aA)(p:aK):FB q p=some (pY q p):=by
 unfold FB pY;rw[IS,eF];cases K:mZ q with
 |false=>rfl
 |true=>
  obtain⟨H,O⟩:=(qR q).1 K;have L:=H.lens;rw[ifNT,ifTF,By q p om om,eF];cases V:(nO q p).2 with
  |false=>rfl
  |true=>rw[ifNT,ifTF,L8 q om om om,eF,L7 _ _ om,eF,L7 _ _ (by simp only;omega),eF];have U:({{q with aN:=rmL q.aN p}with aW:=rmL q.aW p}:aA)=zM q p:=rfl;simp only[U];rw[I1 (H.cancel p)];rfl
def cDa(q:aA)(p:aK)(a:aC):FD q p a=some (oQ q p a):=by
 unfold FD oQ;rw[IS,eF];cases K:mZ q with
 |false=>rfl
 |true=>
  obtain⟨Y,B⟩:=(qR q).1 K;have Z:=Y.lens;rw[ifNT,ifTF,xO q p om,eF,zI]
  by_cases H:getH q.aS p=aC.zero
  .rw[cA ((wF _).2 H),cA H];rfl
  .rw[bX (by rw[(zL _).2 H];decide),bX H,By q p om om,eF];cases L:(nO q p).2 with
   |true=>rfl
   |false=>
    have U:sG q.aB (getH q.aS p) a=covA q.aB (getH q.aS p) a:=rfl;rw[ifFT,ifFT,U];cases V:covA q.aB (getH q.aS p) a with
    |false=>rfl
    |true=>
     rw[ifNT,ifTF,L8 q om om om,eF]
     by_cases O:getH q.aS p=a
     .rw[cA (by simp[O]),cA O]
     .rw[bX (by simpa using O),bX O,IN _ _ _ om,eF];have F:({q with aS:=setL q.aS p a}:aA)=wH q p a:=rfl;simp only[F];rw[I1 (Y.lower L H V)];rfl
def PK(q:aA)(p:aK)(U:q.aS.length<=1000000)(H:q.aN.length<=1000000)(O:q.aW.length<=1000000):AU q p=some (hasQ q p):=by unfold AU hasQ;rw[By q p H O,eF,xO q p om];cases h:(nO q p).2<;>simp[zI]
def Wf(q:aA)(p:aK):C7 q p=some (pQ q p):=by
 unfold C7 pQ;rw[IS,eF];cases K:mZ q with
 |false=>rfl
 |true=>
  obtain⟨H,O⟩:=(qR q).1 K;have L:=H.lens;rw[ifNT,ifTF,PK q p om om om,eF];cases V:hasQ q p with
  |false=>rfl
  |true=>rw[ifNT,ifTF,L8 q om om om,eF,IN _ _ _ om,eF,L7 _ _ (by simp only;omega),eF,L7 _ _ (by simp only;omega),eF];have U:setL q.aS p ({aC.zero with})=nR p q.aS:=cA rfl;have Y:({{{q with aS:=nR p q.aS}with aN:=rmL q.aN p}with aW:=rmL q.aW p}:aA)=del q p:=rfl;simp only[U,Y];rw[I1 (H.del p)];rfl
def BA(x:aA×List bA×Int):Prop:=x.1.aS.length<=8/\x.1.aN.length<=8/\x.1.aW.length<=8/\x.2.1.length<=16
def Mg(e:Int):BA (errQ e):=by unfold BA errQ aA.zero;simp
def I2{q:aA}(h:SoundP q):BA (rZ q):=by have H:=(h.adv).lens;have O:=cAv q;have U:=h.lens;exact⟨H.1,H.2.1,H.2.2.1,by show(advG q).length<=16;omega⟩
def Wg{q:aA}(h:SoundP q):BA (q,[],0):=by have H:=h.lens;exact⟨H.1,H.2.1,H.2.2.1,by simp⟩
def cDh{q:aA}{p:aK}{a:aC}{pr:Int}(h:(qM q p a pr).2.2≠0):∃e,qM q p a pr=errQ e:=by
 unfold qM at h⊢;split;· exact⟨_,rfl⟩
 split;· exact⟨_,rfl⟩
 split;· exact⟨_,rfl⟩
 split;· exact⟨_,rfl⟩
 rename_i U Y B F;rw[bX U,bX Y,bX B,bX F]at h;split
 .rename_i H;rw[cA H]at h;exact absurd rfl h
 rename_i H;rw[bX H]at h;split
 .rename_i O;rw[cA O]at h;exact absurd rfl h
 rename_i O;rw[bX O]at h;split
 .exact⟨_,rfl⟩
 .rename_i M;rw[bX M]at h;exact absurd rfl h
def cDi{q:aA}{p:aK}(h:(pY q p).2.2≠0):∃e,pY q p=errQ e:=by
 unfold pY at h⊢;split;· exact⟨_,rfl⟩
 split;· exact⟨_,rfl⟩
 rename_i H O;rw[bX H,bX O]at h;exact absurd rfl h
def cDj{q:aA}{p:aK}(h:(pQ q p).2.2≠0):∃e,pQ q p=errQ e:=by
 unfold pQ at h⊢;split;· exact⟨_,rfl⟩
 split;· exact⟨_,rfl⟩
 rename_i H O;rw[bX H,bX O]at h;exact absurd rfl h
def cDk{q:aA}{p:aK}{a:aC}(h:(oQ q p a).2.2≠0):∃e,oQ q p a=errQ e:=by
 unfold oQ at h⊢;split;· exact⟨_,rfl⟩
 split;· exact⟨_,rfl⟩
 split;· exact⟨_,rfl⟩
 split;· exact⟨_,rfl⟩
 rename_i O U Y B;rw[bX O,bX U,bX Y,bX B]at h;split
 .rename_i H;rw[cA H]at h;exact absurd rfl h
 .rename_i H;rw[bX H]at h;exact absurd rfl h
def Wh(q:aA)(p:aK)(a:aC)(pr:Int):BA (qM q p a pr):=by
 by_cases h:(qM q p a pr).2.2=0
 .obtain⟨O,_,_,_,_,U⟩:=Me h;rcases U with⟨_,e⟩|⟨_,_,e,H⟩|⟨_,_,_,e,H⟩
  .rw[e];exact Wg O
  .rw[e];exact I2 H
  .rw[e];exact I2 H
 .obtain⟨e,Y⟩:=cDh h;rw[Y];exact Mg e
def Wi(q:aA)(p:aK):BA (pY q p):=by
 by_cases h:(pY q p).2.2=0
 .obtain⟨_,_,_,e,H⟩:=IV h;rw[e];exact I2 H
 .obtain⟨e,O⟩:=cDi h;rw[O];exact Mg e
def Wj(q:aA)(p:aK):BA (pQ q p):=by
 by_cases h:(pQ q p).2.2=0
 .obtain⟨_,_,_,e,H⟩:=Py h;rw[e];exact I2 H
 .obtain⟨e,O⟩:=cDj h;rw[O];exact Mg e
def PL(q:aA)(p:aK)(a:aC):BA (oQ q p a):=by
 by_cases h:(oQ q p a).2.2=0
 .obtain⟨H,_,_,_,_,O⟩:=Ge h;rcases O with⟨_,e⟩|⟨_,e,U⟩
  .rw[e];exact Wg H
  .rw[e];exact I2 U
 .obtain⟨e,Y⟩:=cDk h;rw[Y];exact Mg e
def I3(n m:Int)(B:1<=m)(F:m<=1000000):vR n m=some (n% m):=by
  unfold vR;rw[bX (by simp;omega),gdp om];have K:n.tmod m<m:=Int.tmod_lt_of_pos n om;have U:-m<n.tmod m:=by have:=Int.lt_tmod_of_pos n (show 0<m by omega);omega
  have e:n% m=if n.tmod m<0 then n.tmod m+m else n.tmod m:=by
    rw[Int.emod_eq_tmod]
    by_cases H:0<=n\/m∣n
    · rw[cA H]
      have:0<=n.tmod m:=by
        rcases H with h|h
        .exact Int.tmod_nonneg m h
        .rw[Int.tmod_eq_zero_of_dvd h];omega
      rw[bX om];omega
    · rw[bX H]
      simp only[lK]at H;have Y:0<=(-n).tmod m:=Int.tmod_nonneg m om;rw[Int.neg_tmod]at Y;have M:n.tmod m≠0:=λ h=>H.2 (Int.dvd_of_tmod_eq_zero h);rw[cA om];omega
  rw[e]
  by_cases O:n.tmod m<0
  .rw[cA (by simpa using O),cA O,mH om om]
  .rw[bX (by simpa using O),bX O]
def Wk(n:Int):aK:=⟨(n% 8)% 4,1,1+(n% 8)/4⟩
def PM(n:Int):AP n=some (Wk n):=by unfold AP Wk;rw[I3 n 8 Om Om,eF];have H:0<=n% 8:=iY _ Om;have O:n% 8<8:=iV _ Om;rw[Int.tmod_eq_emod_of_nonneg H,Int.tdiv_eq_ediv_of_nonneg H,mH (x:=n% 8/4) om om,mH om om]
def Wl(n:Int):Int:=EG.getD (n% 8).toNat 0
def amtM(r:aJ)(n:Int):aC:=if r.kind=1 then⟨Wl n,0⟩else⟨0,1+n% r.aU⟩
def cDt(n:Int):Cp n=some (Wl n):=by unfold Cp;have K:(EG.length:Int)=8:=rfl;have H:0<=n% 8:=iY _ Om;have O:n% 8<8:=iV _ Om;rw[K,I3 n 8 Om Om,eF,gdp ⟨H,O⟩];rfl
def PN(r:aJ)(n:Int)(O:oI r=true):n9 r n=some (amtM r n):=by
  rw[uC]at O;unfold n9 amtM
  by_cases H:r.kind=1
  .simp only[H,cG,cH,cDt,qm];rfl
  · simp only[H,cO,bZ,cI]
    rw[I3 n r.aU om om,eF];have U:0<=n% r.aU:=iY _ om;have Y:n% r.aU<r.aU:=iV _ om;rw[mH om om];rfl
structure TapeOk (t:bM):Prop where
  len:t.l.length<=1000000
  at_:0<=t.at_/\t.at_<=t.l.length
def qT(m:Int)(t:bM):Int:=if(t.l.length:Int)<=t.at_ then 0 else(t.l.getD t.at_.toNat 0)% m
def oR(t:bM):bM:=if(t.l.length:Int)<=t.at_ then t else{t with at_:=t.at_+1}
def Dp(m:Int)(t:bM)(K:TapeOk t)(H:1<=m)(O:m<=1000000):nY m t=some (qT m t,oR t):=by
  unfold nY qT oR;have L:=K.len;have V:=K.at_
  by_cases h:(t.l.length:Int)<=t.at_
  .simp only[h,cG,cH]
  · simp only[h,cO,bZ,cI]
    have U:IntKind.i64.wrap (t.at_+1)=t.at_+1:=mH om om;have Y:IntKind.i64.wrap (t.at_+1-1)=t.at_:=by rw[mH om om];omega
    simp only[U,Y];rw[gdp om,I3 _ m H O];rfl
def y9{t:bM}(h:TapeOk t):TapeOk (oR t):=by
  unfold oR;split
  .exact h
  .have:=h.at_;exact⟨h.len,by simp only;omega⟩
def Wm(t:bM):(oR t).l=t.l:=by unfold oR;split<;>rfl
def I4(m:Int)(t:bM)(H:1<=m):0<=qT m t/\qT m t<m:=by
  unfold qT;split
  .omega
  .exact⟨iY _ om,iV _ om⟩
def vD:Nat->bM->bM
  |0,t=>t
  |n+1,t=>vD n (oR t)
def catL(t:bM):List aJ:=
  [⟨⟨#[97]⟩,1,1,qT 4 t⟩,⟨⟨#[98]⟩,1,1,qT 4 (oR t)⟩,⟨⟨#[99]⟩,1,1,qT 4 (vD 2 t)⟩,⟨⟨#[100]⟩,1,1,qT 4 (vD 3 t)⟩,
   ⟨⟨#[112]⟩,2,1+qT 8 (vD 4 t),qT 4 (vD 5 t)⟩,⟨⟨#[113]⟩,2,1+qT 3 (vD 6 t),qT 4 (vD 7 t)⟩]
def cE2(t:bM)(K:TapeOk t):AV t=some (catL t,vD 8 t):=by
  unfold AV;have O:(uX.length:Int)=4:=rfl;have H:∀(i:Nat) (u:bM) (l:List aJ),i<4->TapeOk u->l.length<=10->ET ((i:Int),u,l)=some (.inl ((i:Int)+1,oR u,l++[⟨uX.getD i (⟨#[]⟩),1,1,qT 4 u⟩])):=by
    intro i u l hi L hl;unfold ET;have V:(i:Int)<4:=om
    have Z:0<=(i:Int):=om
    simp only[O,V,Z,cW,mR,cG,cH];rw[Dp 4 u L Om Om,eF,gdp om,mH om om];simp only[Qm]
  have s0:=H 0 t [] Om K (by simp);have U:=y9 K;have s1:=H 1 (oR t) [⟨uX.getD 0 (⟨#[]⟩),1,1,qT 4 t⟩] Om U (by simp);have Y:=y9 U;have s2:=H 2 (oR (oR t)) ([⟨uX.getD 0 (⟨#[]⟩),1,1,qT 4 t⟩]++[⟨uX.getD 1 (⟨#[]⟩),1,1,qT 4 (oR t)⟩]) Om Y (by simp);have B:=y9 Y;have s3:=H 3 (oR (oR (oR t))) ([⟨uX.getD 0 (⟨#[]⟩),1,1,qT 4 t⟩]++[⟨uX.getD 1 (⟨#[]⟩),1,1,qT 4 (oR t)⟩]++[⟨uX.getD 2 (⟨#[]⟩),1,1,qT 4 (oR (oR t))⟩]) Om B (by simp);have F:=y9 B;have s4:∀u l,ET ((4:Int),u,l)=some (.inr (u,l)):=λ u l=>by unfold ET;simp[O]
  rw[mP,show((0:Int),t,([]:List aJ))=(((0:Nat):Int),t,[])from rfl,s0];simp only[jm];rw[mP,show((0:Nat):Int)+1=((1:Nat):Int)from rfl,s1];simp only;rw[mP,show((1:Nat):Int)+1=((2:Nat):Int)from rfl,s2];simp only;rw[mP,show((2:Nat):Int)+1=((3:Nat):Int)from rfl,s3];simp only;rw[mP,show((3:Nat):Int)+1=(4:Int)from rfl,s4];simp only[qm];unfold Ow;have M:=y9 F;have o6:=y9 M;have o7:=y9 o6;have w8:=I4 8 (oR (oR (oR (oR t)))) Om;have w3:=I4 3 (oR (oR (oR (oR (oR (oR t)))))) Om;simp only;rw[Dp 8 _ F Om Om,eF];simp only;rw[Dp 4 _ M Om Om,eF,gdp (by simp)];simp only;rw[Dp 3 _ o6 Om Om,eF];simp only;rw[Dp 4 _ o7 Om Om,eF,gdp (by simp)];simp only;rw[mH (x:=1+qT 8 _) om om,mH (x:=1+qT 3 _) om om];rfl
def cE3(t:bM):∀r∈catL t,oI r=true:=by
  intro r H;have O:=I4 8 (vD 4 t) Om;have U:=I4 3 (vD 6 t) Om;unfold catL at H;simp only[cK,eP,gT]at H;rw[uC];rcases H with rfl|rfl|rfl|rfl|rfl|rfl
  .exact .inl ⟨rfl,rfl⟩
  .exact .inl ⟨rfl,rfl⟩
  .exact .inl ⟨rfl,rfl⟩
  .exact .inl ⟨rfl,rfl⟩
  .exact .inr ⟨rfl,by simp only;omega,by simp only;omega⟩
  .exact .inr ⟨rfl,by simp only;omega,by simp only;omega⟩
def Wn(r:aJ):aA:={aA.zero with aB:=r}
def cE5{r:aJ}(h:resV r=true):oI r=true:=by unfold resV at h;simp only[bY]at h;exact h.2.1
def cE6{q:aA}(h:mZ q=true):oI q.aB=true:=cE5 ((qR q).1 h).1.res
def Wo{α:Type}{l:List α}{i:Nat}{z:α}(h:i<l.length):l.take (i+1)=l.take i++[l.getD i z]:=by rw[fR h,cD,cF h];rfl
def BB{q:aA}(h:mZ q=true):q.aS.length<=8/\q.aN.length<=8/\q.aW.length<=8/\pP q<=16:=((qR q).1 h).1.lens
def Mh{q:aA}(h:mZ q=true){p:aK}(O:hasQ q p=true):(pQ q p).2.2=0/\(pQ q p).1=remN q p:=by
 have e:=PD h O;have H:(pQ q p).2.2=0:=by rw[e];rfl
 refine⟨H,?_⟩;unfold remN;rw[cA H]
def Mi:∀x:List UInt8,Op.bytesLess x x=false
 |[]=>rfl
 |a::x=>by simp[Op.bytesLess,Mi x]
def PP:∀{x y z:List UInt8},Op.bytesLess x y=true->Op.bytesLess y z=true->Op.bytesLess x z=true
 |x,[],z,O,_=>by cases x<;>simp[Op.bytesLess]at O
 |x,b::y,[],_,H=>by simp[Op.bytesLess]at H
 |[],b::y,c::z,_,_=>by simp[Op.bytesLess]
 |a::x,b::y,c::z,O,H=>by
  simp only[Op.bytesLess,dU,bY,cB,dL]at O H⊢;rcases O with O|⟨rfl,O⟩
  .rcases H with H|⟨rfl,H⟩
   .exact .inl (UInt8.lt_trans O H)
   .exact .inl O
  .rcases H with H|⟨rfl,H⟩
   .exact .inl H
   .exact .inr ⟨rfl,PP O H⟩
def ltN(a b:ByteArray):Prop:=Op.bytesLess a.toList b.toList=true
instance(a b:ByteArray):Decidable (ltN a b):=by unfold ltN;infer_instance
def Wp{a b:ByteArray}(h:ltN a b):a≠b:=λ e=>by unfold ltN at h;rw[e,Mi]at h;cases h
def Wq{a b c:ByteArray}(h:ltN a b)(k:ltN b c):ltN a c:=PP h k
def AscN(t:List aA):Prop:=t.Pairwise λ a b=>ltN a.aB.name b.aB.name
def ascW:List aA->Option ByteArray->Bool
 |[],_=>true
 |q::t,pv=>mZ q&&((match pv with|none=>true|some n=>decide (ltN n q.aB.name))&&ascW t (some q.aB.name))
def Wr:∀(t:List aA) (H:Option ByteArray),ascW t H=true↔(∀q∈t,mZ q=true)/\AscN t/\∀n,H=some n->∀q∈t,ltN n q.aB.name
 |[],H=>by simp only[ascW,eP,kB,fD,jK,gG,true_iff];exact .nil
 |q::t,H=>by
  simp only[ascW,bY];rw[Wr t (some q.aB.name)];constructor
  .rintro⟨Y,O,B,K,M⟩;refine⟨λ x hx=>?_,dF.2 ⟨λ x hx=>M _ rfl x hx,K⟩,λ n F x hx=>?_⟩
   .rcases cK.1 hx with rfl|hx
    .exact Y
    .exact B x hx
   .subst F;simp only[cB]at O;rcases cK.1 hx with rfl|hx
    .exact O
    .exact Wq O (M _ rfl x hx)
  .rintro⟨Y,O,B⟩;have U:=dF.1 O;refine⟨Y q (.head _),?_,λ x hx=>Y x (.tail _ hx),U.2,λ n F x hx=>by cases F;exact U.1 x hx⟩;cases H with
   |none=>rfl
   |some n=>exact cP (B n rfl q (.head _))
def qH(t:List aA):Bool:=decide (t.length<=8)&&ascW t none
def oN(t:List aA):List aK:=xR (t.flatMap sA)
def wI(t:List aA):Bool:=qH t&&decide ((oN t).length<=8)
structure ValidT (t:List aA):Prop where
 len:t.length<=8
 each:∀q∈t,mZ q=true
 asc:AscN t
 aD:(oN t).length<=8
def vF(t:List aA):qH t=true↔t.length<=8/\(∀q∈t,mZ q=true)/\AscN t:=by unfold qH;rw[bY,cB,Wr];simp
def z6(t:List aA):wI t=true↔ValidT t:=by unfold wI;rw[bY,cB,vF];exact⟨λ⟨⟨H,O,U⟩,Y⟩=>⟨H,O,U,Y⟩,λ⟨H,O,U,Y⟩=>⟨⟨H,O,U⟩,Y⟩⟩
def Ws{α:Type}(H t:List α)(z:α)(h:H≠[]):(H++t).getD (H.length-1) z=H.getLast h:=by have O:0<H.length:=gZ.2 h;rw[cD,dX om,cF om,List.getLast_eq_getElem];rfl
def cEj(O:List aA):∀(t H:List aA),O=H++t->
  walk (λ i q (_:Unit)=>some (if mZ q=true/\(i=0\/ltN (O.getD (i-1) aA.zero).aB.name q.aB.name)then Sum.inl ()else Sum.inr (Sum.inr (α:=Unit) false))) (λ _=>Sum.inl (β:=Bool) ()) t H.length ()=
   some (if ascW t (H.getLast?.map (·.aB.name))=true then .inl ()else .inr false):=by
 intro t;induction t with
 |nil=>intro H _;simp[walk,ascW]
 |cons q t F=>
  intro H K;simp only[walk];have B:(H.length=0\/ltN (O.getD (H.length-1) aA.zero).aB.name q.aB.name)↔(match H.getLast?.map (·.aB.name)with|none=>true|some n=>decide (ltN n q.aB.name))=true:=by
   by_cases U:H=[]
   .subst U;simp
   .have M:=Ws H (q::t) aA.zero U;rw[K,M,kE U];have:H.length≠0:=λ e=>U (dA e);simp[this]
  by_cases e:mZ q=true/\(H.length=0\/ltN (O.getD (H.length-1) aA.zero).aB.name q.aB.name)
  .rw[cA e];have:=F (H++[q]) (by rw[K];simp);rw[show(H++[q]).length=H.length+1 by simp]at this;simp only;have L:ascW (q::t) (H.getLast?.map (·.aB.name))=ascW t (some q.aB.name):=by simp only[ascW,e.1,B.1 e.2,cL]
   rw[this,L];simp
  .rw[bX e];rw[B]at e;have V:ascW (q::t) (H.getLast?.map (·.aB.name))=false:=by
    rw[dI];intro Y;simp only[ascW,bY]at Y;exact e ⟨Y.1,Y.2.1⟩
   rw[V];rfl
def Wt{body:Int->Option (Int⊕(Unit⊕Bool))}(t:List aA)(L:t.length<=8)
  (hb:∀i:Nat,i<t.length->body (i:Int)=some (if mZ (t.getD i aA.zero)=true/\(i=0\/ltN (t.getD (i-1) aA.zero).aB.name (t.getD i aA.zero).aB.name)then .inl ((i+1:Nat):Int)else .inr (.inr false)))
  (O:body (t.length:Int)=some (.inr (.inl ()))):mF body 0=some (if ascW t none=true then .inl ()else .inr false):=by
 have H:=xL (body:=body) t aA.zero (λ i (_:Unit)=>(i:Int)) (λ i q _=>some (if mZ q=true/\(i=0\/ltN (t.getD (i-1) aA.zero).aB.name q.aB.name)then Sum.inl ()else Sum.inr (Sum.inr (α:=Unit) false))) (λ _=>Sum.inl (β:=Bool) ())
  (λ i s K=>by
   rw[hb i K,lS];split<;>rfl) (λ s=>O) ()
 have:=cEj t t [] rfl;rw[show(0:Int)=(λ(i:Nat) (_:Unit)=>(i:Int)) 0 ()from rfl,H];exact this
def Gg(t:List aA)(h:∀q∈t,mZ q=true):(t.flatMap sA).length<=24*t.length:=by
 induction t with
 |nil=>simp
 |cons q t H=>
  have U:=BB (h q (.head _));have O:=I0 (q.aS.map (·.aM)++(ordQ q).map (·.aM));have Y:=H λ x K=>h x (.tail _ K);have B:(sA q).length<=24:=by unfold sA;unfold ordQ at*;simp only[cC,dK]at O;omega
  rw[eE,cC,lN];omega
def PQ{α β X:Type}(f:α->List β)(H:List β->X):∀(l:List α) (i:Nat) (s:List β),walk (λ _ a s=>some (.inl (s++f a))) H l i s=some (H (s++l.flatMap f))
 |[],i,s=>by simp[walk]
 |a::l,i,s=>by simp only[walk,eE];rw[PQ f H l (i+1),cE]
def mX{α:Type}{l:List α}{i:Nat}{z:α}(h:i<l.length):l.getD i z∈l:=by rw[cD,cF h];exact iA h
def Wu{q:aA}(h:mZ q=true):(sA q).length<=24:=by
 have:=Gg [q] λ x H=>by rw[dQ]at H;rw[H];exact h
 simpa using this
def cEo{t:List aA}(L:t.length<=8)(h:∀q∈t,mZ q=true):C3 t=some (oN t):=by
 unfold C3;have H:=rL (body:=Ib t) t aA.zero (λ i (s:List aK)=>((i:Int),s)) (λ _ q s=>some (.inl (s++sA q))) (λ s=>s) (λ i s=>s.length<=24*i)
  (λ i s K Y=>by
   have O:=h _ (mX (z:=aA.zero) K);have B:=BB O;have F:=Wu O;refine⟨?_,λ M h=>?_⟩
   .unfold Ib;have U:0<=(i:Int)/\(i:Int)<(t.length:Int):=om
    simp only[U.1,U.2,cW,mR,cG,cH,Qm];rw[cD1 _ om om om,eF,mL om,mK i om];rfl
   .simp only[cY,fH]at h;subst h;rw[cC];omega)
  (λ s Y=>by unfold Ib;simp) [] (by simp)
 rw[show((0,[]):Int×List aK)=(λ(i:Nat) (s:List aK)=>((i:Int),s)) 0 []from rfl,H,PQ sA,lP,eF];unfold OS;have:=Gg t h;rw[PJ _ om];rfl
def PR{α:Type}(l:List α)(z:α)(p:α->Bool){body:Int->Option (Int⊕(Unit⊕Int))}(hb:∀i:Nat,i<l.length->body (i:Int)=some (if p (l.getD i z)=true then .inr (.inr (i:Int))else .inl ((i+1:Nat):Int)))
  (Y:body (l.length:Int)=some (.inr (.inl ()))):mF body 0=some (match l.findIdx? p with|some i=>.inr (i:Int)|none=>.inl ()):=by
 have O:=xL (body:=body) l z (λ i (_:Unit)=>(i:Int)) (λ i a _=>some (if p a=true then .inr (Sum.inr (α:=Unit) (i:Int))else .inl ())) (λ _=>Sum.inl (β:=Int) ())
  (λ i s K=>by rw[hb i K,lS];split<;>rfl) (λ s=>Y) ()
 have H:∀(l:List α) (i:Nat),walk (λ i a (_:Unit)=>some (if p a=true then .inr (Sum.inr (α:=Unit) (i:Int))else .inl ())) (λ _=>Sum.inl (β:=Int) ()) l i ()=some (match l.findIdx? p with|some j=>.inr ((i+j:Nat):Int)|none=>.inl ()):=by
  intro l;induction l with
  |nil=>intro i;rfl
  |cons a l B=>
   intro i;simp only[walk,List.findIdx?_cons]
   by_cases U:p a=true
   .simp[U]
   .simp only[U,bZ,cI];rw[B (i+1)];cases l.findIdx? p with
    |none=>rfl
    |some j=>simp only[xm];rw[show i+1+j=i+(j+1)by omega]
 have:=H l 0;simp only[eC]at this;rw[show(0:Int)=(λ(i:Nat) (_:Unit)=>(i:Int)) 0 ()from rfl,O];exact this
def isN(nm:ByteArray)(q:aA):Bool:=q.aB.name.toList==nm.toList
def Wv{nm:ByteArray}{q:aA}:isN nm q=true↔q.aB.name=nm:=by unfold isN;rw[dL];exact i6
def nS(t:List aA)(nm:ByteArray):Int:=match t.findIdx? (isN nm)with
 |some i=>i
 |none=>-1
def I5{t:List aA}{nm:ByteArray}:nS t nm=-1\/∃i:Nat,nS t nm=i/\i<t.length/\(t.getD i aA.zero).aB.name=nm:=by
 unfold nS;cases h:t.findIdx? (isN nm)with
 |none=>exact .inl rfl
 |some i=>right;obtain⟨H,O,_⟩:=iJ.1 h;refine⟨i,rfl,H,?_⟩;rw[cD,cF H];exact Wv.1 O
def PS{t:List aA}(h:AscN t){i j:Nat}(hi:i<t.length)(H:j<t.length)(e:(t.getD i aA.zero).aB.name=(t.getD j aA.zero).aB.name):i=j:=by
 have O:=eZ.1 h;have g:∀k,(U:k<t.length)->t.getD k aA.zero=t[k]:=λ k U=>by rw[cD,cF U];rfl
 rw[g i hi,g j H]at e;rcases Nat.lt_trichotomy i j with h1|h1|h1
 .exact absurd e (Wp (O i j hi H h1))
 .exact h1
 .exact absurd e.symm (Wp (O j i H hi h1))
def Mj{t:List aA}(h:AscN t){i:Nat}(hi:i<t.length):nS t (t.getD i aA.zero).aB.name=i:=by
 rcases I5 (t:=t) (nm:=(t.getD i aA.zero).aB.name)with H|⟨j,H,O,U⟩
 .unfold nS at H;cases K:t.findIdx? (isN (t.getD i aA.zero).aB.name)with
  |some k=>rw[K]at H;simp only at H;omega
  |none=>have:=kO.1 K (t.getD i aA.zero) (mX hi);rw[dI]at this;exact absurd (Wv.2 rfl) this
 .rw[H,PS h O hi U]
def cEu(x:aK)(s:List aK)(B:s.Pairwise ltP)(hx:x∉s)(hl:s.length<=1000000):mF (HD) ((s.length:Int),s++[x])=some (sR x s):=by
 obtain⟨r,h1,h2⟩:=nZ (body:=HD) (λ g=>∃U O:List aK,g=((U.length:Int),U++x::O)/\U++O=s/\∀y∈O,ltP x y) (λ g=>g.1.toNat) (λ r=>r=sR x s) (by
  rintro g ⟨U,O,rfl,K,hpost⟩;have y0:U.length+O.length=s.length:=by rw[<-K,cC]
  unfold HD;simp only[cC,ym]
  by_cases L:U=[]
  .right;subst L;refine⟨_,by rw[mL (by simp),mL (by simp),bX (by simp)],?_⟩;simp only[jm]at K⊢;subst K;refine IX (dF.2 ⟨hpost,B⟩) (Do B) λ y=>?_;rw[Dn,cK]
  .obtain⟨H,y,rfl⟩:∃p' y,U=p'++[y]:=⟨U.dropLast,U.getLast L,(List.dropLast_concat_getLast L).symm⟩;have hk:(H++[y]).length=H.length+1:=by simp
   rw[hk]at y0⊢;have w:IntKind.i64.wrap (((H.length+1:Nat):Int)-1)=(H.length:Int):=by rw[mH om om];omega
   have e1:(H++[y]++x::O).getD H.length aK.zero=y:=by simp[cD]
   have e2:(H++[y]++x::O).getD (H.length+1) aK.zero=x:=by simp[cD]
   have V:0<=(H.length:Int)/\(H.length:Int)<((H.length+1+(O.length+1):Nat):Int):=om
   have Z:0<=((H.length+1:Nat):Int)/\((H.length+1:Nat):Int)<((H.length+1+(O.length+1):Nat):Int):=om
   have F:decide (0<((H.length+1:Nat):Int))=true:=cP om;simp only[w,Qm,e1,e2,F,cL];rw[mL (λ _=>V),mL (λ _=>Z)];have hlt:decide (0<vW y x)=decide (ltP x y):=by rw[jG];exact O9 y x
   rw[hlt]
   by_cases Y:ltP x y
   .left;rw[cA (cP Y),mL V,mL Z,mL V,mL Z];refine⟨((H.length:Int),H++x::(y::O)),?_,⟨H,y::O,rfl,by rw[<-K];simp,λ z hz=>?_⟩,by simp only[Qm];omega⟩
    .congr 3;rw[cE,iI _ _ (dC _),hJ,iI _ _ om,show H.length+1-H.length=1 by omega];rfl
    .rcases cK.1 hz with rfl|hz
     .exact Y
     .exact hpost z hz
   .right;refine⟨_,by rw[bX (by simpa using Y)],?_⟩;have M:ltP y x:=by
     rcases Dh (p:=x) (q:=y) (λ e=>hx (by rw[<-K,e];simp))with h|h
     .exact absurd h Y
     .exact h
    rw[<-K]at B;obtain⟨a1,a2,a3⟩:=fT.1 B;obtain⟨b1,b2,b3⟩:=fT.1 a1;have x0:∀z∈H++[y],ltP z x:=λ z hz=>by
     rcases cX.1 hz with hz|hz
     .exact Dg (b3 z hz y (by simp)) M
     .rw[dQ]at hz;rw[hz];exact M
    rw[<-K];refine IX (fT.2 ⟨a1,dF.2 ⟨hpost,a2⟩,λ z hz u hu=>?_⟩) (Do B) λ z=>?_
    .rcases cK.1 hu with rfl|hu
     .exact x0 z hz
     .exact a3 z hz u hu
    .rw[Dn];simp only[cX,cK,dQ];constructor
     .rintro((h|h)|h|h)
      .exact .inr (.inl (.inl h))
      .exact .inr (.inl (.inr h))
      .exact .inl h
      .exact .inr (.inr h)
     .rintro(h|(h|h)|h)
      .exact .inr (.inl h)
      .exact .inl (.inl h)
      .exact .inl (.inr h)
      .exact .inr (.inr h)) ((s.length:Int),s++[x]) ⟨s,[],by simp,by simp,by simp⟩
 rw[h1,h2]
def PT(l:List aK)(L:l.length<=1000000):n5 l=some (xR l):=by
 unfold n5;have O:=rL (body:=CB l) l aK.zero (λ i (s:List aK)=>((i:Int),s)) (λ _ p s=>some (.inl (sR p s))) (λ s=>s) (λ i s=>s.Pairwise ltP/\s.length<=i)
  (λ i s V H=>by
   have K:∀p,(sR p s).length<=s.length+1:=λ p=>by
    have:=eT (IZ (Do (p:=p) H.1)) (l₂:=p::s) λ z Y=>by
     rcases Dn.1 Y with rfl|h
     .exact .head _
     .exact .tail _ h
    simpa using this
   refine⟨?_,λ B h=>?_⟩
   .unfold CB;have U:0<=(i:Int)/\(i:Int)<(l.length:Int):=om
    simp only[U.1,U.2,cW,mR,cG,cH,Qm];rw[Wd _ _ om,eF,mK i om]
    by_cases hm:l.getD i aK.zero∈s
    .rw[cA (cP hm),lS,cCb H.1 hm];rfl
    .rw[bX (by rw[cB];exact hm),mL om,cEu _ _ H.1 hm om,eF];unfold Ou;simp only[mK i (show i<4611686018427387904 by omega),xm,wmap]
   .simp only[cY,fH]at h;subst h;exact⟨Do H.1,by have:=K (l.getD i aK.zero);omega⟩)
  (λ s H=>by unfold CB;simp) [] ⟨.nil,by simp⟩
 rw[show((0,[]):Int×List aK)=(λ(i:Nat) (s:List aK)=>((i:Int),s)) 0 []from rfl,O,VR (λ s p=>sR p s)];rfl
def BC{α β:Type}(l:List α)(z:α)(f:α->β)(s0:List β){body:Int×List β->Option ((Int×List β)⊕List β)}(L:l.length<=1000000)(Y:s0.length<=1000000)
  (hb:∀(i:Nat) (s:List β),i<l.length->s.length<=3000000->body ((i:Int),s)=some (.inl (((i+1:Nat):Int),s++[f (l.getD i z)]))) (O:∀s,body ((l.length:Int),s)=some (.inr s)):mF body (0,s0)=some (s0++l.map f):=by
 have H:=rL (body:=body) l z (λ i (s:List β)=>((i:Int),s)) (λ i a s=>some (.inl (sP s (some (f a))))) (λ s=>s) (λ i s=>s.length<=1000000+i)
  (λ i s K U=>⟨by rw[hb i s K om];rfl,λ B h=>by simp only[cY,fH]at h;subst h;simp[sP];omega⟩) (λ s U=>O s) s0 om
 rw[show((0,s0):Int×List β)=(λ(i:Nat) (s:List β)=>((i:Int),s)) 0 s0 from rfl,H,F4 (λ a=>some (f a))];simp
def cEx(l:List bA)(K:l.length<=1000000):B8 l=some (l.map (·.aM)):=by
 unfold B8;rw[BC l bA.zero (·.aM) [] K (by simp) (λ i s L U=>by
  unfold Ko;have H:0<=(i:Int)/\(i:Int)<(l.length:Int):=om
  have O:s.length+1<=4294967296:=om
  simp only[O,H.1,H.2,cW,mR,cG,cH,lL,mK i (show i<4611686018427387904 by omega)]) (λ s=>by unfold Ko;simp)]
 rfl
def cEy(q:aA)(O:q.aN.length<=1000)(Y:q.aW.length<=1000):Cd q=some ((ordQ q).map (·.aM)):=by
 unfold Cd;rw[BC q.aN aV.zero (·.aM) [] om (by simp) (λ i s K U=>by
  unfold KA;have H:0<=(i:Int)/\(i:Int)<(q.aN.length:Int):=om
  have O:s.length+1<=4294967296:=om
  simp only[O,H.1,H.2,cW,mR,cG,cH,lL,mK i (show i<4611686018427387904 by omega)]) (λ s=>by unfold KA;simp),eF]
 unfold Kz;rw[BC q.aW aV.zero (·.aM) _ om (by simp;omega) (λ i s K U=>by
  unfold Ky;have H:0<=(i:Int)/\(i:Int)<(q.aW.length:Int):=om
  have O:s.length+1<=4294967296:=om
  simp only[O,H.1,H.2,cW,mR,cG,cH,lL,mK i (show i<4611686018427387904 by omega)]) (λ s=>by unfold Ky;simp),eF]
 unfold Og ordQ;rw[fL,lP]
def cEz(q:aA)(U:q.aS.length<=1000)(H:q.aN.length<=1000)(O:q.aW.length<=1000):CJ q=some (sA q):=by
 unfold CJ sA;have K:(ordQ q).length<=2000:=by unfold ordQ;rw[cC];omega
 rw[cEx _ om,eF,cEy q H O,eF,mL (by simp;omega),PT _ (by simp;omega)];rfl
def Ml{t:List aA}(L:t.length<=8)(h:∀q∈t,mZ q=true):p9 t=some (oN t):=by
 unfold p9;have H:=rL (body:=H3 t) t aA.zero (λ i (s:List aK)=>((i:Int),s)) (λ _ q s=>some (.inl (s++sA q))) (λ s=>s) (λ i s=>s.length<=24*i)
  (λ i s K Y=>by
   have O:=h _ (mX (z:=aA.zero) K);have B:=BB O;have F:=Wu O;refine⟨?_,λ M h=>?_⟩
   .unfold H3;have U:0<=(i:Int)/\(i:Int)<(t.length:Int):=om
    simp only[U.1,U.2,cW,mR,cG,cH,Qm];rw[cEz _ om om om,eF,mL om,mK i om];rfl
   .simp only[cY,fH]at h;subst h;rw[cC];omega)
  (λ s Y=>by unfold H3;simp) [] (by simp)
 rw[show((0,[]):Int×List aK)=(λ(i:Nat) (s:List aK)=>((i:Int),s)) 0 []from rfl,H,PQ sA,lP,eF];unfold OK;have:=Gg t h;rw[PT _ om];rfl
def Ww(t:List aA):Bi t=some (qH t):=by
 unfold Bi qH
 by_cases U:8<t.length
 .have:¬t.length<=8:=om
  rw[cA (by simp;omega)];simp[this]
 .have K:t.length<=8:=om
  rw[bX (by simp;omega),Wt t K (λ i L=>by
   unfold LB;have H:0<=(i:Int)/\(i:Int)<(t.length:Int):=om
   simp only[H.1,H.2,cW,fD,mR,cG,cH,lL,IS,eF,mK i om]
   by_cases O:i=0
   .subst O;rw[mL (by simp)];cases mZ (t.getD 0 aA.zero)<;>simp
   .rw[w9 i om om,mL (by intro _;omega)];simp only[lL,show(0:Int)<(i:Int)by omega,cG,cL,O,jO];unfold ltN;rcases hb (mZ (t.getD i aA.zero))with b1|b1<;>rcases hb (Op.bytesLess (t.getD (i-1) aA.zero).aB.name.toList (t.getD i aA.zero).aB.name.toList)with b2|b2<;>simp[b1,b2,-List.getD_eq_getElem?_getD]) (by unfold LB;simp)]
  simp only[K,cG,cL];cases V:ascW t none<;>rfl
def I6(t:List aA):zB t=some (wI t):=by
 unfold zB wI;rw[Ww,eF];cases K:qH t with
 |false=>rfl
 |true=>obtain⟨H,O,_⟩:=(vF t).1 K;rw[cA rfl,Ml H O,eF,cL];congr 1;rw[dM];simp;omega
def z7(t:List aA)(nm:ByteArray)(K:t.length<=1000000):sY t nm=some (nS t nm):=by
 unfold sY;rw[PR t aA.zero (isN nm) (λ i L=>by
  unfold Kf isN;have H:0<=(i:Int)/\(i:Int)<(t.length:Int):=om
  simp only[H.1,H.2,cW,mR,cG,cH,lL,mK i om];split<;>rfl) (by unfold Kf;simp)]
 unfold nS;cases t.findIdx? (isN nm)<;>rfl
def cF3(a b:List aA)(h:a.length=b.length)(V:a.length<=1000000)(O:∀q∈a,q.aS.length<=1000/\q.aN.length<=1000/\q.aW.length<=1000):
  mF (EO a b) 0=some (if a=b then .inl ()else .inr false):=by
 have H:mF (EO a b) 0=some ((qG (λ i=>if decide (a.getD i aA.zero=b.getD i aA.zero)=true then none else some (Sum.inr false)) a.length 0).getD (Sum.inl ())):=by
  refine uB a.length _ (Sum.inl ()) (λ i K=>?_) ?_
  .have U:=O _ (mX (z:=aA.zero) K);unfold EO;rw[cA (by simpa using K),mL om,mL om,mH om om];simp only[Qm];rw[bYu _ _ om om om,eF]
   by_cases L:a.getD i aA.zero=b.getD i aA.zero
   .simp only[L,cG,cQ,bZ,cI,cH]
   .simp only[L,cO,dO,cH,bZ,cI]
  .unfold EO;rw[bX (by simp)]
 rw[H,vC,<-eX,Vp a b aA.zero h]
 by_cases e:a=b<;>simp[e]
def Wx(a b:List aA)(K:a.length<=1000000)(H:∀q∈a,q.aS.length<=1000/\q.aN.length<=1000/\q.aW.length<=1000):Cz a b=some (decide (a=b)):=by
 unfold Cz
 by_cases h:a.length=b.length
 .rw[bX (by simp[h]),cF3 a b h K H]
  by_cases e:a=b<;>simp[e,Oq]
 .have:¬a=b:=λ e=>h (by rw[e]);rw[cA (by simp;omega),fM this]
mutual
def nE:aR->Int
 |⟨_,_,ks⟩=>1+nM ks
def nM:List aR->Int
 |[]=>0
 |k::l=>max (nE k) (nM l)
end
mutual
def mW:aR->Int
 |⟨_,_,ks⟩=>1+oC ks
def oC:List aR->Int
 |[]=>0
 |k::l=>mW k+oC l
end
def oU(a:aC):Bool:=pX a
mutual
def okE:aR->Bool
 |⟨k,a,ks⟩=>if ks.length=0 then decide (k=0)&&oH a.name&&oU a.aI else decide (1<=k)&&decide (k<=(ks.length:Int))&&decide (a=aO.zero)&&okL ks
def okL:List aR->Bool
 |[]=>true
 |k::l=>okE k&&okL l
end
mutual
def zO:aR->List aO
 |⟨_,a,ks⟩=>if ks.length=0 then[a]else wJ ks
def wJ:List aR->List aO
 |[]=>[]
 |k::l=>zO k++wJ l
end
def Mm(e:aR):nE e=1+nM e.bG:=by cases e;rw[nE]
def vG(e:aR):mW e=1+oC e.bG:=by cases e;rw[mW]
def Mn(e:aR):okE e=if e.bG.length=0 then decide (e.k=0)&&oH e.aZ.name&&oU e.aZ.aI else decide (1<=e.k)&&decide (e.k<=(e.bG.length:Int))&&decide (e.aZ=aO.zero)&&okL e.bG:=by cases e;rw[okE]
def I7(e:aR):zO e=if e.bG.length=0 then[e.aZ]else wJ e.bG:=by cases e;rw[zO]
def Wy:nM []=0:=by rw[nM]
def I8(k:aR)(l:List aR):nM (k::l)=max (nE k) (nM l):=by rw[nM]
def PU:oC []=0:=by rw[oC]
def Dq(k:aR)(l:List aR):oC (k::l)=mW k+oC l:=by rw[oC]
def xS{e k:aR}{n:Nat}(h:_root_.SizeOf.sizeOf e<n+1)(H:k∈e.bG):_root_.SizeOf.sizeOf k<n:=by have O:=jU H;cases e;simp at h O;omega
def Mo:∀(n:Nat) (e:aR),_root_.SizeOf.sizeOf e<n->1<=nE e/\1<=mW e/\nE e<=mW e/\((zO e).length:Int)<=mW e
 |0,_,h=>om
 |n+1,e,h=>by
  have H:∀l:List aR,(∀k∈l,k∈e.bG)->0<=nM l/\0<=oC l/\nM l<=oC l/\(l.length:Int)<=oC l/\((wJ l).length:Int)<=oC l:=by
   intro l;induction l with
   |nil=>intro _;simp[nM,oC,wJ]
   |cons k l O=>intro K;obtain⟨U,Y,B,F,M⟩:=O λ x L=>K x (.tail _ L);obtain⟨V,Z,g3,g4⟩:=Mo n k (xS h (K k (.head _)));simp only[nM,oC,wJ,cC,ym];refine⟨?_,?_,?_,?_,?_⟩<;>omega
  obtain⟨U,Y,B,F,M⟩:=H e.bG λ _ h=>h;rw[Mm,vG,I7];refine⟨by omega,by omega,by omega,?_⟩;split
  .simp;omega
  .omega
def z8(e:aR):1<=nE e:=(Mo _ e (eQ _)).1
def zP(e:aR):1<=mW e:=(Mo _ e (eQ _)).2.1
def Wz(e:aR):((zO e).length:Int)<=mW e:=(Mo _ e (eQ _)).2.2.2
def I9:∀l:List aR,0<=nM l
 |[]=>by simp[nM]
 |k::l=>by have:=I9 l;have:=z8 k;rw[I8];omega
def tO:∀l:List aR,(l.length:Int)<=oC l
 |[]=>by simp[oC]
 |k::l=>by have:=tO l;have:=zP k;simp only[oC,ym];omega
def WA{a:Int}(Y:1<=a)(B:a<=4)(F:aR->Int->Option (Int×Int)):∀(l:List aR),(∀k∈l,∀c,0<=c->c<=24->∃O,F k c=some (if a+1+nE k<=5/\c+mW k<=24 then(nE k,c+mW k)else(0,O)))->
  ∀(i:Nat) (m c:Int),0<=m->0<=c->c<=24->∃O,walk (λ _ k (s:Int×Int)=>(F k s.2).bind λ v=>if v.1=0 then some (.inr (Sum.inr (0,v.2)))else some (.inl (if s.1<v.1 then v.1 else s.1,v.2))) (λ s=>Sum.inl (β:=Int×Int) s) l i (m,c)=
   some (if a+1+nM l<=5/\c+oC l<=24 then .inl (if m<nM l then nM l else m,c+oC l)else .inr (0,O))
 |[],_,i,m,c,hm,L,K=>⟨0,by rw[Wy,PU,cA om];simp only[walk];rw[bX om,iW]⟩
 |k::l,V,i,m,c,hm,L,K=>by
  obtain⟨M,H⟩:=V k (.head _) c L K;have p1:=z8 k;have p2:=zP k;have p3:=I9 l;have p4:=tO l
  by_cases U:a+1+nE k<=5/\c+mW k<=24
  .rw[cA U]at H;obtain⟨c2,e2⟩:=WA Y B F l (λ x hx=>V x (.tail _ hx)) (i+1) (if m<nE k then nE k else m) (c+mW k) (by split<;>omega) om U.2;refine⟨c2,?_⟩;rw[I8,Dq];simp only[walk,H,qm,bX (show¬nE k=0 by omega),e2]
   by_cases Z:a+1+nM l<=5/\c+mW k+oC l<=24
   .rw[cA Z,cA (show a+1+max (nE k) (nM l)<=5/\c+(mW k+oC l)<=24 by omega),show c+(mW k+oC l)=c+mW k+oC l by omega];refine dZ some (dZ Sum.inl (Prod.ext ?_ rfl));show(if(if m<nE k then nE k else m)<nM l then nM l else if m<nE k then nE k else m)=if m<max (nE k) (nM l)then max (nE k) (nM l)else m
    by_cases q1:m<nE k<;>by_cases q2:m<nM l<;>by_cases q3:nE k<nM l<;>simp only[q1,q2,q3,cH,cI]<;>(repeat' split)<;>omega
   .rw[bX Z,bX om]
  .rw[bX U]at H;refine⟨M,?_⟩;rw[I8,Dq];simp only[walk,H,qm,cH];rw[bX om]
def WB:∀(n:Nat) (e:aR),_root_.SizeOf.sizeOf e<n->∀a c,1<=a->a<=5->0<=c->c<=24->∃H,k9 n e a c=some (if a+nE e<=5/\c+mW e<=24 then(nE e,c+mW e)else(0,H))
 |0,_,h,_,_,_,_,_,_=>om
 |n+1,e,h,a,c,h1,h5,M,O=>by
  show∃H,Er (k9 n) e a c=_;unfold Er;have p1:=z8 e;have p2:=zP e;have w1:IntKind.i64.wrap (c+1)=c+1:=mH om om;have w2:IntKind.i64.wrap (a+1)=a+1:=mH om om;rw[w1]
  by_cases L:4<a\/24<c+1
  .rw[cA (by simpa using L)];exact⟨c+1,by rw[bX om]⟩
  .rw[bX (by simpa using L)];have V:∀k∈e.bG,∀c,0<=c->c<=24->∃H,k9 n k (a+1) c=some (if a+1+nE k<=5/\c+mW k<=24 then(nE k,c+mW k)else(0,H)):=
    λ k B c M O=>WB n k (xS h B) (a+1) c om om M O
   have F:=rL (body:=Hg (k9 n) e a) e.bG aR.zero (λ i (s:Int×Int)=>(s.1,(i:Int),s.2))
    (λ _ k (s:Int×Int)=>(k9 n k (a+1) s.2).bind λ v=>if v.1=0 then some (.inr (Sum.inr (0,v.2)))else some (.inl (if s.1<v.1 then v.1 else s.1,v.2))) (λ s=>Sum.inl (β:=Int×Int) s)
    (λ i s=>(i:Int)<s.2/\s.2<=24) (λ i s Z hs=>by
     have B:=mX (z:=aR.zero) Z;obtain⟨H,Y⟩:=V _ B s.2 om hs.2;have p2:=zP (e.bG.getD i aR.zero);have p3:=z8 (e.bG.getD i aR.zero);refine⟨?_,λ s' K=>?_⟩
     .unfold Hg;simp only;rw[cA (by simpa using Z),gdp om,w2];simp only[Qm,Y,qm,cB,mK i (show i<4611686018427387904 by omega)]
      by_cases U:a+1+nE (e.bG.getD i aR.zero)<=5/\s.2+mW (e.bG.getD i aR.zero)<=24
      .simp only[U,cW,cH,bX (show¬nE (e.bG.getD i aR.zero)=0 by omega)];rfl
      .simp only[U,cI,cH];rfl
     .rw[Y,eF]at K
      by_cases U:a+1+nE (e.bG.getD i aR.zero)<=5/\s.2+mW (e.bG.getD i aR.zero)<=24
      .simp only[U,cW,cH,bX (show¬nE (e.bG.getD i aR.zero)=0 by omega),cY,fH]at K;subst K;simp only;omega
      .simp only[U,cI,cH,cY,reduceCtorEq]at K)
    (λ s hs=>by unfold Hg;simp) (0,c+1) (by simp only;omega)
   rw[show((0,0,c+1):Int×Int×Int)=(λ(i:Nat) (s:Int×Int)=>(s.1,(i:Int),s.2)) 0 (0,c+1)from rfl,F];obtain⟨H,Y⟩:=WA h1 om (λ k c=>k9 n k (a+1) c) e.bG V 0 0 (c+1) Om om om;refine⟨H,?_⟩;rw[Y,eF,Mm e,vG e];have p3:=I9 e.bG
   by_cases hh:a+1+nM e.bG<=5/\c+1+oC e.bG<=24
   .rw[cA hh,cA (show a+(1+nM e.bG)<=5/\c+(1+oC e.bG)<=24 by omega)];have:(if 0<nM e.bG then nM e.bG else 0)=nM e.bG:=by split<;>omega
    rw[this];show some (IntKind.i64.wrap (nM e.bG+1),c+1+oC e.bG)=_;rw[mH om om,show nM e.bG+1=1+nM e.bG by omega,show c+1+oC e.bG=c+(1+oC e.bG)by omega]
   .rw[bX hh,bX om]
def fitE(e:aR):Bool:=decide (nE e<=4)&&decide (mW e<=24)
def cFn(e:aR):Ey e=some (if fitE e=true then nE e else 0):=by
 unfold Ey Ku;obtain⟨H,h⟩:=WB _ e (eQ _) 1 0 Om Om Om Om;rw[h,eF];unfold fitE
 by_cases c:1+nE e<=5/\0+mW e<=24
 .rw[cA c,cA (by simp;omega)]
 .rw[bX c,bX (by simp;omega)]
def WC{a:Int}(U:1<=a)(Y:a<=4)(F:aR->Option (Int×Int)):∀(l:List aR),(∀k∈l,F k=some (if a+1+nE k<=5/\mW k<=24 then(mW k,nE k)else(25,0)))->
  ∀(i:Nat) (c m:Int),0<=m->1<=c->c<=24->walk (λ _ k (s:Int×Int)=>(F k).bind λ v=>if 24<s.1+v.1 then some (.inr (Sum.inr (25,0)))else some (.inl (s.1+v.1,if s.2<v.2 then v.2 else s.2))) (λ s=>Sum.inl (β:=Int×Int) s) l i (c,m)=
   some (if a+1+nM l<=5/\c+oC l<=24 then .inl (c+oC l,if m<nM l then nM l else m)else .inr (25,0))
 |[],_,i,c,m,hm,Z,K=>by rw[Wy,PU,cA om];simp only[walk];rw[bX om,iW]
 |k::l,L,i,c,m,hm,Z,K=>by
  have H:=L k (.head _);have p1:=z8 k;have p2:=zP k;have p3:=I9 l;have p4:=tO l;rw[I8,Dq]
  by_cases B:a+1+nE k<=5/\c+mW k<=24
  .rw[cA om]at H;have M:=WC U Y F l (λ x hx=>L x (.tail _ hx)) (i+1) (c+mW k) (if m<nE k then nE k else m) (by split<;>omega) om B.2;simp only[walk,H,qm,bX (show¬24<c+mW k by omega),M]
   by_cases V:a+1+nM l<=5/\c+mW k+oC l<=24
   .rw[cA V,cA (show a+1+max (nE k) (nM l)<=5/\c+(mW k+oC l)<=24 by omega),show c+(mW k+oC l)=c+mW k+oC l by omega];refine dZ some (dZ Sum.inl (Prod.ext rfl ?_));show(if(if m<nE k then nE k else m)<nM l then nM l else if m<nE k then nE k else m)=if m<max (nE k) (nM l)then max (nE k) (nM l)else m
    by_cases q1:m<nE k<;>by_cases q2:m<nM l<;>by_cases q3:nE k<nM l<;>simp only[q1,q2,q3,cH,cI]<;>(repeat' split)<;>omega
   .rw[bX V,bX om]
  .rw[bX om];simp only[walk,H,qm]
   by_cases O:a+1+nE k<=5/\mW k<=24
   .rw[cA O,cA (by simp only;omega)]
   .rw[bX O,cA (by simp only;omega)]
def WD:∀(n:Nat) (e:aR),_root_.SizeOf.sizeOf e<n->∀a,1<=a->a<=5->l9 n e a=some (if a+nE e<=5/\mW e<=24 then(mW e,nE e)else(25,0))
 |0,_,h,_,_,_=>om
 |n+1,e,h,a,V,h5=>by
  show Ew (l9 n) e a=_;unfold Ew;have p1:=z8 e;have p4:=tO e.bG;have Z:IntKind.i64.wrap (a+1)=a+1:=mH om om
  by_cases Y:4<a\/24<(e.bG.length:Int)
  .rw[cA (by simpa using Y),bX (by rw[vG];omega)]
  .rw[bX (by simpa using Y)];have B:∀k∈e.bG,l9 n k (a+1)=some (if a+1+nE k<=5/\mW k<=24 then(mW k,nE k)else(25,0)):=
    λ k O=>WD n k (xS h O) (a+1) om om
   have U:=rL (body:=Ev (l9 n) e a) e.bG aR.zero (λ i (s:Int×Int)=>(s.1,s.2,(i:Int)))
    (λ _ k (s:Int×Int)=>(l9 n k (a+1)).bind λ v=>if 24<s.1+v.1 then some (.inr (Sum.inr (25,0)))else some (.inl (s.1+v.1,if s.2<v.2 then v.2 else s.2))) (λ s=>Sum.inl (β:=Int×Int) s)
    (λ i s=>1<=s.1/\s.1<=24) (λ i s L hs=>by
     have O:=mX (z:=aR.zero) L;have F:=B _ O;have p2:=zP (e.bG.getD i aR.zero);refine⟨?_,λ s' K=>?_⟩
     .unfold Ev;simp only;rw[cA (by simpa using L),gdp om,Z];simp only[Qm,F,qm,cB];unfold KG
      by_cases H:a+1+nE (e.bG.getD i aR.zero)<=5/\mW (e.bG.getD i aR.zero)<=24
      .rw[cA H];simp only[mK i (show i<4611686018427387904 by omega),mH (x:=s.1+mW (e.bG.getD i aR.zero)) om om,cB]
       repeat' split
       all_goals first|rfl|omega
      .rw[bX H];simp only[mH (x:=s.1+25) om om,cB,cA (show 24<s.1+25 by omega),kY];rfl
     .rw[F,eF]at K
      by_cases H:a+1+nE (e.bG.getD i aR.zero)<=5/\mW (e.bG.getD i aR.zero)<=24
      .simp only[H,cW,cH]at K;split at K
       .cases K
       .simp only[cY,fH]at K;subst K;simp only;omega
      .simp only[H,cI,cA (show 24<s.1+25 by omega),cY,reduceCtorEq]at K)
    (λ s hs=>by unfold Ev;simp) (1,0) (by simp only;omega)
   rw[show((1,0,0):Int×Int×Int)=(λ(i:Nat) (s:Int×Int)=>(s.1,s.2,(i:Int))) 0 (1,0)from rfl,U];rw[WC V om (λ k=>l9 n k (a+1)) e.bG B 0 1 0 om om om,eF,Mm e,vG e];have p3:=I9 e.bG
   by_cases M:a+1+nM e.bG<=5/\1+oC e.bG<=24
   .rw[cA M,cA (show a+(1+nM e.bG)<=5/\1+oC e.bG<=24 by omega)];have:(if 0<nM e.bG then nM e.bG else 0)=nM e.bG:=by split<;>omega
    rw[this];show some (1+oC e.bG,IntKind.i64.wrap (nM e.bG+1))=_;rw[mH om om,show nM e.bG+1=1+nM e.bG by omega]
   .rw[bX M,bX om]
def cFq(e:aR):EB e=some (if fitE e=true then mW e else 0):=by
 unfold EB KH;have p:=zP e;rw[WD _ e (eQ _) 1 Om Om,eF];unfold fitE
 by_cases c:1+nE e<=5/\mW e<=24
 .rw[cA c];simp only[show¬24<mW e by omega,show nE e<=4 by omega,c.2,cG,cO,gF,bZ,cH,cI]
 .rw[bX c];have:(decide (nE e<=4)&&decide (mW e<=24))=false:=by rw[dI];simp;omega
  rw[this];rfl
def tP(a:aO):List aO->Option Bool
 |[]=>none
 |x::l=>if a=x then some true else if(a.name.toList==x.name.toList)=true then some false else tP a l
def Aa(a:aO)(l:List aO):Int×List aO:=
 match tP a l with
 |some true=>(0,l)
 |some false=>(13,l)
 |none=>if l.length=8 then(4,l)else(0,l++[a])
def Dr(a:aO)(l:List aO):Option (List aO):=if(Aa a l).1=0 then some (Aa a l).2 else none
def tQ:List aO->List aO->Option (List aO)
 |[],l=>some l
 |a::az,l=>(Dr a l).bind (tQ az)
def WE:∀(x y l:List aO),tQ (x++y) l=(tQ x l).bind (tQ y)
 |[],y,l=>rfl
 |a::x,y,l=>by
  simp only[Jm,tQ];cases Dr a l with
  |none=>rfl
  |some H=>exact WE x y H
def cFw{a:aO}{l:List aO}(h:l.length<=8):(Aa a l).2.length<=8:=by
 unfold Aa;split
 .exact h
 .exact h
 .split
  .exact h
  .simp;omega
def PV:∀{x l r:List aO},l.length<=8->tQ x l=some r->r.length<=8
 |[],l,r,h,e=>by cases e;exact h
 |a::x,l,r,h,e=>by
  simp only[tQ]at e;unfold Dr at e;split at e
  .exact PV (cFw h) e
  .cases e
def cFy(a:aO)(l:List aO)(h:l.length<=8):B2 a l=some (Aa a l):=by
 unfold B2;have L:∀(t:List aO) (i:Nat),walk (λ _ x (_:Unit)=>if a=x then some (.inr (Sum.inr ((0:Int),l)))else if(a.name.toList==x.name.toList)=true then some (.inr (Sum.inr ((13:Int),l)))else some (.inl ())) (λ _=>Sum.inl (β:=Int×List aO) ()) t i ()=
   some (match tP a t with|some true=>.inr (0,l)|some false=>.inr (13,l)|none=>.inl ()):=by
  intro t;induction t with
  |nil=>intro i;rfl
  |cons x t O=>
   intro i;simp only[walk,tP]
   by_cases c:a=x
   .simp only[c,cH]
   .by_cases K:(a.name.toList==x.name.toList)=true
    .simp only[c,K,cH,cI]
    .simp only[c,K,cI];exact O (i+1)
 have H:=xL (body:=G7 a l) l aO.zero (λ i (_:Unit)=>(i:Int))
  (λ _ x (_:Unit)=>if a=x then some (.inr (Sum.inr ((0:Int),l)))else if(a.name.toList==x.name.toList)=true then some (.inr (Sum.inr ((13:Int),l)))else some (.inl ())) (λ _=>Sum.inl (β:=Int×List aO) ())
  (λ i s U=>by
   unfold G7;rw[cA (by simpa using U),gdp om,mK i om];simp only[Qm,cB]
   repeat' split
   all_goals rfl)
  (λ s=>by unfold G7;simp) ()
 rw[show(0:Int)=(λ(i:Nat) (_:Unit)=>(i:Int)) 0 ()from rfl,H,L,eF];unfold Aa;cases tP a l with
 |none=>
  simp only;unfold N8
  by_cases c:l.length=8
  .rw[cA (by simp[c]),cA c]
  .rw[bX (by simp;omega),bX c,gdp om]
 |some b=>cases b<;>rfl
def qI(e:aR)(l:List aO):Option (List aO):=if okE e=true then tQ (zO e) l else none
def BD(H:List aR)(l:List aO):Option (List aO):=if okL H=true then tQ (wJ H) l else none
def cG1(k:aR)(H:List aR)(l:List aO):BD (k::H) l=(qI k l).bind (BD H):=by
 unfold BD qI;simp only[okL,wJ,WE];cases okE k
 .simp
 .simp only[cL,cH];cases tQ (zO k) l with
  |none=>simp
  |some r=>simp only[qm]
def cG2(a:aO):CE a=some (oH a.name&&oU a.aI):=by unfold CE;rw[IR,eF];congr 2
def WF(F:aR->List aO->Option (Bool×List aO)):∀(O:List aR),(∀k∈O,∀l,l.length<=8->∃r,F k l=some (match qI k l with|some H=>(true,H)|none=>(false,r)))->
  ∀(i:Nat) (l:List aO),l.length<=8->∃r,walk (λ _ k (s:List aO)=>(F k s).bind λ v=>if(!v.1)=true then some (.inr (Sum.inr (false,v.2)))else some (.inl v.2)) (λ s=>Sum.inl (β:=Bool×List aO) s) O i l=
   some (match BD O l with|some H=>.inl H|none=>.inr (false,r))
 |[],_,i,l,L=>⟨[],by simp[walk,BD,okL,wJ,tQ]⟩
 |k::O,Z,i,l,L=>by
  obtain⟨r,e⟩:=Z k (.head _) l L;rw[cG1];cases K:qI k l with
  |none=>rw[K]at e;refine⟨r,?_⟩;simp only[walk,e,qm,Option.bind_none,dO,cH]
  |some H=>
   rw[K]at e;have V:H.length<=8:=by
    unfold qI at K;split at K
    .exact PV L K
    .cases K
   obtain⟨U,Y⟩:=WF F O (λ x hx=>Z x (.tail _ hx)) (i+1) H V;refine⟨U,?_⟩;simp only[walk,e,qm,cQ,bZ,cI,Y]
def cG4{e:aR}{l O:List aO}(K:l.length<=8)(H:qI e l=some O):O.length<=8:=by
 unfold qI at H;split at H
 .exact PV K H
 .cases H
def WG:∀(n:Nat) (e:aR),_root_.SizeOf.sizeOf e<n->mW e<=24->∀l,l.length<=8->∃r,yV n e l=some (match qI e l with|some U=>(true,U)|none=>(false,r))
 |0,_,h,_,_,_=>om
 |n+1,e,h,hn,l,L=>by
  show∃r,HX (yV n) e l=_;unfold HX;have p4:=tO e.bG;have h0:=vG e
  by_cases c:e.bG.length=0
  .rw[cA (by simpa using c),cG2];have B:qI e l=if e.k=0/\oH e.aZ.name=true/\oU e.aZ.aI=true then Dr e.aZ l else none:=by
    unfold qI;rw[Mn,I7,cA c,cA c];simp only[tQ,bY,cB,fU];split
    .cases Dr e.aZ l<;>rfl
    .rfl
   rw[B]
   by_cases H:e.k=0
   .simp only[H,cG,cH,qm,cL,gG]
    by_cases V:oH e.aZ.name=true/\oU e.aZ.aI=true
    .simp only[V.1,V.2,gF,cW,cH,cFy e.aZ l L,qm,cL];refine⟨(Aa e.aZ l).2,?_⟩;unfold Dr
     by_cases c3:(Aa e.aZ l).1=0
     .simp only[c3,cG,cH]
     .simp only[c3,cO,cI]
    .have:(oH e.aZ.name&&oU e.aZ.aI)=false:=by rw[dI];simpa using V
     simp only[this,V,bZ,cI,eY];exact⟨l,rfl⟩
   .simp only[H,cO,bZ,cI,qm,eY,iZ];exact⟨l,rfl⟩
  .rw[bX (by simpa using c)];have B:qI e l=if 1<=e.k/\e.k<=(e.bG.length:Int)/\e.aZ=aO.zero then BD e.bG l else none:=by
    unfold qI BD;rw[Mn,I7,bX c,bX c]
    by_cases q1:1<=e.k<;>by_cases q2:e.k<=(e.bG.length:Int)<;>by_cases q3:e.aZ=aO.zero<;>simp[q1,q2,q3]
   rw[B]
   by_cases H:1<=e.k/\e.k<=(e.bG.length:Int)/\e.aZ=aO.zero
   .rw[cA H,bX (by simp[H.2.2];omega)];have hF:∀k∈e.bG,∀l,l.length<=8->∃r,yV n k l=some (match qI k l with|some U=>(true,U)|none=>(false,r)):=by
     intro k hk l L;refine WG n k (xS h hk) ?_ l L;have:∀(O:List aR),k∈O->mW k<=oC O:=by
      intro O;induction O with
      |nil=>intro h;cases h
      |cons x O ih=>
       intro h;rw[Dq];have p1:=zP x;have p2:=tO O;rcases cK.1 h with rfl|h
       .omega
       .have:=ih h;omega
     have:=this e.bG hk;omega
    have F:=rL (body:=HW (yV n) e) e.bG aR.zero (λ i (s:List aO)=>((i:Int),s))
     (λ _ k (s:List aO)=>(yV n k s).bind λ v=>if(!v.1)=true then some (.inr (Sum.inr (false,v.2)))else some (.inl v.2)) (λ s=>Sum.inl (β:=Bool×List aO) s)
     (λ i s=>s.length<=8) (λ i s hi M=>by
      obtain⟨r,Y⟩:=hF _ (mX (z:=aR.zero) hi) s M;refine⟨?_,λ s' K=>?_⟩
      .unfold HW;simp only;rw[cA (by simpa using hi),gdp om];simp only[Qm,Y,qm,mK i (show i<4611686018427387904 by omega)];cases qI (e.bG.getD i aR.zero) s<;>rfl
      .rw[Y,eF]at K;cases Z:qI (e.bG.getD i aR.zero) s with
       |none=>rw[Z]at K;simp at K
       |some U=>
        rw[Z]at K;simp only[cQ,bZ,cI,cY,fH]at K;subst K;exact cG4 M Z)
     (λ s M=>by unfold HW;simp) l L
    rw[show((0,l):Int×List aO)=(λ(i:Nat) (s:List aO)=>((i:Int),s)) 0 l from rfl,F];obtain⟨r,Y⟩:=WF (yV n) e.bG hF 0 l L;rw[Y,eF];refine⟨r,?_⟩;cases BD e.bG l<;>rfl
   .rw[bX H,cA (by
     simp only[dU,cB,dB,dE]
     by_cases q:e.aZ=aO.zero
     .left;have:=mt (λ h:1<=e.k/\e.k<=(e.bG.length:Int)=>(⟨h.1,h.2,q⟩:1<=e.k/\e.k<=(e.bG.length:Int)/\e.aZ=aO.zero)) H;omega
     .exact .inr q)]
    exact⟨l,rfl⟩
def cG6(e:aR):A6 e=some (fitE e&&(qI e []).isSome):=by
 unfold A6;rw[cFn,eF];have p:=z8 e;cases K:fitE e with
 |false=>rfl
 |true=>
  simp only[cH,show¬nE e=0 by omega,cO,dO,cL];unfold Lj;have H:mW e<=24:=by unfold fitE at K;simp at K;omega
  obtain⟨r,O⟩:=WG _ e (eQ _) H [] (by simp);rw[O,eF];cases qI e []<;>rfl
def addA(a:aO)(l:List aO):List aO:=if a∈l then l else l++[a]
def addS:List aO->List aO->List aO
 |[],l=>l
 |a::az,l=>addS az (addA a l)
def WH:∀(x y l:List aO),addS (x++y) l=addS y (addS x l)
 |[],_,_=>rfl
 |a::x,y,l=>WH x y (addA a l)
def cG8(a:aO)(l:List aO):∃t,addA a l=l++t:=by
 unfold addA;split
 .exact⟨[],by simp⟩
 .exact⟨[a],rfl⟩
def PW:∀(x l:List aO),∃t,addS x l=l++t
 |[],l=>⟨[],by simp[addS]⟩
 |a::x,l=>by obtain⟨H,O⟩:=cG8 a l;obtain⟨U,Y⟩:=PW x (addA a l);exact⟨H++U,by rw[addS,Y,O,cE]⟩
def PY:∀(x l:List aO),(addS x l).length<=l.length+x.length
 |[],l=>by simp[addS]
 |a::x,l=>by
  have H:=PY x (addA a l);have O:(addA a l).length<=l.length+1:=by unfold addA;split<;>simp
  simp only[addS,ym];omega
def dnN(l:List aO):Prop:=l.Pairwise λ x y=>(x.name.toList==y.name.toList)=false
def WI{a:aO}:∀{l:List aO},dnN l->a∈l->tP a l=some true
 |x::l,h,hm=>by
  unfold dnN at h;rw[dF]at h;unfold tP
  by_cases c:a=x
  .rw[cA c]
  .rw[bX c];rcases cK.1 hm with e|hm
   .exact absurd e c
   .have:=h.1 a hm;rw[bX (by rw[dL];intro e;rw[e]at this;simp at this)];exact WI h.2 hm
def PZ{a:aO}:∀{l:List aO},tP a l=none->∀x∈l,(x.name.toList==a.name.toList)=false
 |y::l,h,x,hx=>by
  unfold tP at h;split at h
  .cases h
  .split at h
   .cases h
   .rename_i O H;rcases cK.1 hx with rfl|hx
    .rw[dI];intro e;rw[dL]at e;exact H (by rw[dL];exact e.symm)
    .exact PZ h x hx
def WJ{a:aO}:∀{l:List aO},dnN l->tP a l=some false->a∉l/\∃x∈l,(x.name.toList==a.name.toList)=true
 |y::l,K,h=>by
  refine⟨λ hm=>?_,?_⟩
  .rw[WI K hm]at h;cases h
  .unfold tP at h;split at h
   .cases h
   .split at h
    .rename_i H;exact⟨y,.head _,by rw[dL]at H⊢;exact H.symm⟩
    .unfold dnN at K;rw[dF]at K;obtain⟨_,x,L,e⟩:=WJ K.2 h;exact⟨x,.tail _ L,e⟩
def cGe{a:aO}{l:List aO}(h:tP a l=none):a∉l:=λ hm=>by have:=PZ h a hm;simp at this
def cGf{l t:List aO}(h:dnN (l++t)):dnN l:=(fT.1 h).1
def P3:∀(x l:List aO),l.length<=8->dnN l->((tQ x l).isSome=true↔(addS x l).length<=8/\dnN (addS x l))
 |[],l,V,K=>by simp[tQ,addS,V,K]
 |a::x,l,V,K=>by
  simp only[tQ,addS];unfold Dr Aa;cases L:tP a l with
  |some b=>
   cases b with
   |true=>
    have hm:a∈l:=by
     refine Classical.byContradiction λ hm=>?_;have:∀l:List aO,a∉l->tP a l≠some true:=by
      intro l;induction l with
      |nil=>intro _ h;cases h
      |cons y l Y=>
       intro hm h;unfold tP at h;rw[bX (λ(e:a=y)=>hm (by rw[e];exact .head _))]at h;split at h
       .cases h
       .exact Y (λ h=>hm (.tail _ h)) h
     exact this l hm L
    simp only[cH,qm];unfold addA;rw[cA hm];exact P3 x l V K
   |false=>obtain⟨hm,y,Z,e⟩:=WJ K L;simp only[show¬(13:Int)=0 by decide,cI,Option.bind_none,oc,bZ,kZ];rintro⟨_,H⟩;unfold addA at H;rw[bX hm]at H;obtain⟨t,ht⟩:=PW x (l++[a]);rw[ht]at H;have O:=(fT.1 (cGf H)).2.2 y Z a (dQ.2 rfl);rw[e]at O;cases O
  |none=>
   have hm:=cGe L;have ha:addA a l=l++[a]:=by unfold addA;rw[bX hm]
   rw[ha]
   by_cases c:l.length=8
   .simp only[c,cH,show¬(4:Int)=0 by decide,cI,Option.bind_none,oc,bZ,kZ];rintro⟨U,_⟩;obtain⟨t,ht⟩:=PW x (l++[a]);rw[ht]at U;simp at U;omega
   .simp only[c,cI,cH,qm];refine P3 x (l++[a]) (by simp;omega) ?_;unfold dnN;rw[fT];exact⟨K,List.pairwise_singleton _ _,λ y Z z B=>by rw[dQ.1 B];exact PZ L y Z⟩
def addO(e:aR)(l:List aO):Option (List aO):=if okE e=true then some (addS (zO e) l)else none
def addL(H:List aR)(l:List aO):Option (List aO):=if okL H=true then some (addS (wJ H) l)else none
def cGh(k:aR)(H:List aR)(l:List aO):addL (k::H) l=(addO k l).bind (addL H):=by unfold addL addO;simp only[okL,wJ,WH];cases okE k<;>simp
def bad1(r:Nat⊕(Bool×List aO)):Prop:=match r with|.inl _=>True|.inr v=>v.1=false
def got1(F:Option (Nat⊕(Bool×List aO)))(o:Option (List aO)):Prop:=match o with|some l=>F=some (.inr (true,l))|none=>∃r,F=some r/\bad1 r
def cGi(a:aO)(l:List aO){X:Type}(x:X){body:Int->Option (Int⊕(Unit⊕X))}(V:l.length<4611686018427387904)
  (hb:∀i:Nat,i<l.length->body (i:Int)=if l.getD i aO.zero=a then some (.inr (.inr x))else some (.inl ((i+1:Nat):Int))) (O:body (l.length:Int)=some (.inr (.inl ()))):
  mF body 0=some (if a∈l then .inr x else .inl ()):=by
 have K:∀(t:List aO) (i:Nat),walk (λ _ y (_:Unit)=>if y=a then some (.inr (Sum.inr x))else some (.inl ())) (λ _=>Sum.inl (β:=X) ()) t i ()=some (if a∈t then .inr x else .inl ()):=by
  intro t;induction t with
  |nil=>intro i;simp[walk]
  |cons y t U=>
   intro i;simp only[walk]
   by_cases c:y=a
   .rw[cA c];simp[c]
   .rw[bX c];simp only[U (i+1),cK,show¬a=y fromλ e=>c e.symm,jO]
 have H:=xL (body:=body) l aO.zero (λ i (_:Unit)=>(i:Int)) (λ _ y (_:Unit)=>if y=a then some (.inr (Sum.inr x))else some (.inl ())) (λ _=>Sum.inl (β:=X) ())
  (λ i s L=>by rw[hb i L];split<;>rfl) (λ s=>O) ()
 rw[show(0:Int)=(λ(i:Nat) (_:Unit)=>(i:Int)) 0 ()from rfl,H,K]
def P4(F:aR->List aO->Option (Nat⊕(Bool×List aO))){Y:Type}{B:Nat}:∀(H:List aR),(∀k∈H,∀l,(l.length:Int)+mW k<=B->got1 (F k l) (addO k l))->
  ∀(i:Nat) (l:List aO),(l.length:Int)+oC H<=B->(match addL H l with
   |some O=>walk (λ _ k (s:List aO)=>(F k s).bind λ v=>match v with|.inl v=>some (.inr (Sum.inr (Sum.inl s.length)))|.inr v=>if(!v.1)=true then some (.inr (Sum.inr (.inl s.length)))else some (.inl v.2)) (λ s=>Sum.inl (β:=Nat⊕Y) s) H i l=some (.inl O)
   |none=>∃r,walk (λ _ k (s:List aO)=>(F k s).bind λ v=>match v with|.inl v=>some (.inr (Sum.inr (Sum.inl s.length)))|.inr v=>if(!v.1)=true then some (.inr (Sum.inr (.inl s.length)))else some (.inl v.2)) (λ s=>Sum.inl (β:=Nat⊕Y) s) H i l=some (.inr (.inl r)))
 |[],_,i,l,L=>by simp[walk,addL,okL,wJ,addS]
 |k::H,V,i,l,L=>by
  rw[Dq]at L;have p1:=tO H;have e:=V k (.head _) l om;rw[cGh];cases K:addO k l with
  |none=>
   rw[K]at e;obtain⟨r,U,hb⟩:=e;simp only[Option.bind_none];refine⟨l.length,?_⟩;simp only[walk,U,qm];cases r with
   |inl r=>rfl
   |inr v=>have Z:v.1=false:=hb;simp only[Z,dO,cH]
  |some O=>
   rw[K]at e;have M:F k l=some (.inr (true,O)):=e;have hl':(O.length:Int)<=l.length+mW k:=by
    unfold addO at K;split at K
    .cases K;have h1:=PY (zO k) l;have h2:=Wz k;omega
    .cases K
   have e2:=P4 (Y:=Y) F H (λ x hx=>V x (.tail _ hx)) (i+1) O om;simp only[walk,M,qm,cQ,bZ,cI];exact e2
def Ja{e k:aR}(O:k∈e.bG):mW k+1<=mW e:=by
 have:∀(H:List aR),k∈H->mW k<=oC H:=by
  intro H;induction H with
  |nil=>intro h;cases h
  |cons x H U=>
   intro h;rw[Dq];have Y:=zP x;have B:=tO H;rcases cK.1 h with rfl|h
   .omega
   .have:=U h;omega
 have:=this e.bG O;rw[vG e];omega
def Jb{e:aR}(c:e.bG.length=0):okE e=true↔e.k=0/\oH e.aZ.name=true/\oU e.aZ.aI=true:=by rw[Mn,cA c];simp[fU]
def Jc{e:aR}(c:¬e.bG.length=0):okE e=true↔(1<=e.k/\e.k<=(e.bG.length:Int)/\e.aZ=aO.zero)/\okL e.bG=true:=by rw[Mn,bX c];simp[fU]
def WK{e:aR}(c:e.bG.length=0)(l:List aO):addO e l=if e.k=0/\oH e.aZ.name=true/\oU e.aZ.aI=true then some (addA e.aZ l)else none:=by unfold addO;rw[I7,cA c];simp only[Jb c];rfl
def WL{e:aR}(c:¬e.bG.length=0)(l:List aO):addO e l=if 1<=e.k/\e.k<=(e.bG.length:Int)/\e.aZ=aO.zero then addL e.bG l else none:=by
 unfold addO addL;rw[I7,bX c];simp only[Jc c]
 by_cases H:1<=e.k/\e.k<=(e.bG.length:Int)/\e.aZ=aO.zero<;>simp only[H,gG,iZ,cH,cI,cW]
def WM:∀(n:Nat) (e:aR),_root_.SizeOf.sizeOf e<n->∀l,(l.length:Int)+mW e<=100->got1 (xB n e l) (addO e l)
 |0,_,h,_,_=>om
 |n+1,e,h,l,V=>by
  show got1 (xA (xB n) e l) _;unfold xA;have p4:=tO e.bG;have M:=vG e
  by_cases c:e.bG.length=0
  .rw[cA (by simpa using c),WK c]
   by_cases H:e.k=0
   .simp only[H,cG,cH,F7,qm,cQ,dP,gG]
    by_cases K:oH e.aZ.name=true/\oU e.aZ.aI=true
    .rw[cA K,bX (by have:=K.2;unfold oU at this;simp[K.1,this])];rw[cGi e.aZ l (x:=Sum.inr (true,l)) om (λ i L=>by
      unfold Lb;rw[cA (by simpa using L),gdp om,mK i om];simp only[lL,cB]) (by unfold Lb;simp),eF]
     unfold addA got1
     by_cases F:e.aZ∈l
     .simp only[F,cH]
     .simp only[F,cI];unfold OB;rw[gdp om]
    .rw[bX K,cA (by
      have:¬(oH e.aZ.name=true/\pX e.aZ.aI=true):=K;simp only[dU,dB];cases h1:oH e.aZ.name<;>cases h2:pX e.aZ.aI<;>simp_all)]
     exact⟨_,rfl,rfl⟩
   .simp only[H,cO,bZ,cI,qm,dO,fV,cH,iZ];exact⟨_,rfl,rfl⟩
  .rw[bX (by simpa using c),WL c]
   by_cases H:1<=e.k/\e.k<=(e.bG.length:Int)/\e.aZ=aO.zero
   .rw[cA H,bX (by simp[H.2.2];omega)];have hF:∀k∈e.bG,∀l,(l.length:Int)+mW k<=(100:Nat)->got1 (xB n k l) (addO k l):=λ k hk l V=>WM n k (xS h hk) l V;have U:=rL (body:=HN (xB n) e) e.bG aR.zero (λ i (s:List aO)=>((i:Int),s))
     (λ _ k (s:List aO)=>(xB n k s).bind λ v=>match v with|.inl v=>some (.inr (Sum.inr (Sum.inl s.length)))|.inr v=>if(!v.1)=true then some (.inr (Sum.inr (.inl s.length)))else some (.inl v.2)) (λ s=>Sum.inl (β:=Nat⊕(Bool×List aO)) s)
     (λ i s=>True) (λ i s L hs=>by
      refine⟨?_,λ s' hs'=>trivial⟩;unfold HN;simp only;rw[cA (by simpa using L),gdp om];simp only[Qm,mK i (show i<4611686018427387904 by omega)];cases xB n (e.bG.getD i aR.zero) s with
      |none=>rfl
      |some v=>
       cases v with
       |inl v=>rfl
       |inr v=>
        simp only[qm];split<;>rfl)
     (λ s hs=>by unfold HN;simp) l trivial
    rw[show((0,l):Int×List aO)=(λ(i:Nat) (s:List aO)=>((i:Int),s)) 0 l from rfl,U];have O:=P4 (xB n) (Y:=Bool×List aO) (B:=100) e.bG hF 0 l om;cases Z:addL e.bG l with
    |none=>rw[Z]at O;obtain⟨r,O⟩:=O;rw[O,eF];exact⟨_,rfl,trivial⟩
    |some l'=>rw[Z]at O;simp only at O;rw[O,eF];rfl
   .rw[bX H,cA (by
     simp only[dU,cB,dB,dE]
     by_cases q:e.aZ=aO.zero
     .left;have:=mt (λ h:1<=e.k/\e.k<=(e.bG.length:Int)=>(⟨h.1,h.2,q⟩:1<=e.k/\e.k<=(e.bG.length:Int)/\e.aZ=aO.zero)) H;omega
     .exact .inr q)]
    exact⟨_,rfl,rfl⟩
def bad0(r:Nat⊕(List aO×Bool)):Prop:=match r with|.inl _=>True|.inr v=>v.2=false
def cGq(e:aR)(L:mW e<=50):match addO e []with|some l=>CO e=some (.inr (l,true))|none=>∃r,CO e=some r/\bad0 r:=by
 unfold CO;show match addO e []with|some l=>A4 _ e=some (.inr (l,true))|none=>∃r,A4 _ e=some r/\bad0 r
 unfold A4;have p4:=tO e.bG;have F:=vG e
 by_cases c:e.bG.length=0
 .rw[cA (by simpa using c),WK c]
  by_cases H:e.k=0
  .simp only[H,cG,cH,F7,qm,cQ,dP,gG]
   by_cases K:oH e.aZ.name=true/\oU e.aZ.aI=true
   .rw[cA K,bX (by have:=K.2;unfold oU at this;simp[K.1,this])];rw[mP];unfold Li;rfl
   .rw[bX K,cA (by
     have:¬(oH e.aZ.name=true/\pX e.aZ.aI=true):=K;simp only[dU,dB];cases h1:oH e.aZ.name<;>cases h2:pX e.aZ.aI<;>simp_all)]
    exact⟨_,rfl,rfl⟩
  .simp only[H,cO,bZ,cI,qm,dO,fV,cH,iZ];exact⟨_,rfl,rfl⟩
 .rw[bX (by simpa using c),WL c]
  by_cases H:1<=e.k/\e.k<=(e.bG.length:Int)/\e.aZ=aO.zero
  .rw[cA H,bX (by simp[H.2.2];omega)];have M:∀k∈e.bG,∀l,(l.length:Int)+mW k<=(100:Nat)->got1 (AY k l) (addO k l):=λ k hk l L=>WM _ k (eQ _) l L;have U:=rL (body:=E4 e) e.bG aR.zero (λ i (s:List aO)=>((i:Int),s))
    (λ _ k (s:List aO)=>(AY k s).bind λ v=>match v with|.inl v=>some (.inr (Sum.inr (Sum.inl s.length)))|.inr v=>if(!v.1)=true then some (.inr (Sum.inr (.inl s.length)))else some (.inl v.2)) (λ s=>Sum.inl (β:=Nat⊕(List aO×Bool)) s)
    (λ i s=>True) (λ i s Z hs=>by
     refine⟨?_,λ s' hs'=>trivial⟩;unfold E4;simp only;rw[cA (by simpa using Z),gdp om];simp only[Qm,mK i (show i<4611686018427387904 by omega)];cases AY (e.bG.getD i aR.zero) s with
     |none=>rfl
     |some v=>
      cases v with
      |inl v=>rfl
      |inr v=>
       simp only[qm];split<;>rfl)
    (λ s hs=>by unfold E4;simp) [] trivial
   rw[show((0,[]):Int×List aO)=(λ(i:Nat) (s:List aO)=>((i:Int),s)) 0 []from rfl,U];have O:=P4 (AY) (Y:=List aO×Bool) (B:=100) e.bG M 0 [] (by simp;omega);cases V:addL e.bG []with
   |none=>rw[V]at O;obtain⟨r,O⟩:=O;simp only;rw[O,eF];exact⟨_,rfl,trivial⟩
   |some l'=>rw[V]at O;simp only at O⊢;rw[O,eF];rfl
  .rw[bX H,cA (by
    simp only[dU,cB,dB,dE]
    by_cases q:e.aZ=aO.zero
    .left;have:=mt (λ h:1<=e.k/\e.k<=(e.bG.length:Int)=>(⟨h.1,h.2,q⟩:1<=e.k/\e.k<=(e.bG.length:Int)/\e.aZ=aO.zero)) H;omega
    .exact .inr q)]
   exact⟨_,rfl,rfl⟩
def vE(e:aR):Bool:=fitE e&&(qI e []).isSome
def cGr(e:aR):(qI e []).isSome=true↔∃l,addO e []=some l/\l.length<=8/\dnN l:=by
 unfold qI addO
 by_cases c:okE e=true
 .rw[cA c,cA c,P3 _ [] (by simp) .nil];constructor
  .exactλ h=>⟨_,rfl,h⟩
  .rintro⟨l,e,h⟩;cases e;exact h
 .rw[bX c,bX c];simp
def cGs(v:List aO×Bool)(i:Nat)(hi:i<v.1.length)(V:v.1.length<=1000):
  mF (Fc v (i:Int)) 0=some (if(v.1.take i).any (λ x=>(v.1.getD i aO.zero).name.toList==x.name.toList)=true then .inr ([],false)else .inl ()):=by
 have L:∀(t:List aO) (j:Nat),walk (λ _ x (_:Unit)=>if((v.1.getD i aO.zero).name.toList==x.name.toList)=true then some (.inr (Sum.inr (([]:List aO),false)))else some (.inl ())) (λ _=>Sum.inl (β:=List aO×Bool) ()) t j ()=
   some (if t.any (λ x=>(v.1.getD i aO.zero).name.toList==x.name.toList)=true then .inr ([],false)else .inl ()):=by
  intro t;induction t with
  |nil=>intro j;rfl
  |cons x t U=>
   intro j;simp only[walk,List.any_cons]
   by_cases c:((v.1.getD i aO.zero).name.toList==x.name.toList)=true
   .simp only[c,cH,fV]
   .simp only[gQ]at c;simp only[c,dP,bZ,cI];exact U (j+1)
 have K:(v.1.take i).length=i:=by rw[dD];omega
 have H:=xL (body:=Fc v (i:Int)) (v.1.take i) aO.zero (λ j (_:Unit)=>(j:Int))
  (λ _ x (_:Unit)=>if((v.1.getD i aO.zero).name.toList==x.name.toList)=true then some (.inr (Sum.inr (([]:List aO),false)))else some (.inl ())) (λ _=>Sum.inl (β:=List aO×Bool) ())
  (λ j s O=>by
   rw[K]at O;unfold Fc;rw[cA (by simp;omega),gdp om,gdp om,mK j om,O7 _ _ _ _ O];simp only[Qm];split<;>rfl)
  (λ s=>by unfold Fc;rw[K];simp) ()
 rw[show(0:Int)=(λ(j:Nat) (_:Unit)=>(j:Int)) 0 ()from rfl,H,L]
def WN(v:List aO×Bool)(V:v.1.length<=1000):(dnN v.1->mF (CV v) 0=some (.inl ()))/\(¬dnN v.1->mF (CV v) 0=some (.inr ([],false))):=by
 have U:=xL (body:=CV v) v.1 aO.zero (λ i (_:Unit)=>(i:Int))
  (λ i a (_:Unit)=>if(v.1.take i).any (λ x=>a.name.toList==x.name.toList)=true then some (.inr (Sum.inr (([]:List aO),false)))else some (.inl ())) (λ _=>Sum.inl (β:=List aO×Bool) ())
  (λ i s L=>by
   unfold CV;rw[cA (by simpa using L),cGs v i L V];split
   .rfl
   .show some _=_;rw[mK i om];rfl)
  (λ s=>by unfold CV;simp) ()
 have Z:∀(t H:List aO),v.1=H++t->dnN H->(dnN v.1->walk (λ i a (_:Unit)=>if(v.1.take i).any (λ x=>a.name.toList==x.name.toList)=true then some (.inr (Sum.inr (([]:List aO),false)))else some (.inl ())) (λ _=>Sum.inl (β:=List aO×Bool) ()) t H.length ()=some (.inl ()))/\
   (¬dnN v.1->walk (λ i a (_:Unit)=>if(v.1.take i).any (λ x=>a.name.toList==x.name.toList)=true then some (.inr (Sum.inr (([]:List aO),false)))else some (.inl ())) (λ _=>Sum.inl (β:=List aO×Bool) ()) t H.length ()=some (.inr ([],false))):=by
  intro t;induction t with
  |nil=>intro H h Y;exact⟨λ _=>rfl,λ B=>absurd (by rw[h,dY];exact Y) B⟩
  |cons a t M=>
   intro H h Y;have ht:v.1.take H.length=H:=by rw[h,List.take_left'];rfl
   simp only[walk,ht]
   by_cases c:H.any (λ x=>a.name.toList==x.name.toList)=true
   .have B:¬dnN v.1:=by
     intro O;rw[h]at O;obtain⟨x,K,e⟩:=lA.1 c;have:=(fT.1 O).2.2 x K a (.head _);rw[dL]at e;rw[<-e]at this;simp at this
    exact⟨λ h=>absurd h B,λ _=>by rw[cA c]⟩
   .rw[bX c];have F:dnN (H++[a]):=by
     unfold dnN;rw[fT];refine⟨Y,List.pairwise_singleton _ _,λ x K y hy=>?_⟩;rw[dQ.1 hy,dI];intro e;rw[dL]at e;exact c (lA.2 ⟨x,K,by rw[dL];exact e.symm⟩)
    have:=M (H++[a]) (by rw[h];simp) F;rw[show(H++[a]).length=H.length+1 by simp]at this;exact this
 have:=Z v.1 [] rfl .nil;rw[show(0:Int)=(λ(i:Nat) (_:Unit)=>(i:Int)) 0 ()from rfl,U];exact this
def Jd(e:aR):Ba e=some (vE e):=by
 unfold Ba qX;rw[cFq,eF];have p:=zP e;unfold vE;cases O:fitE e with
 |false=>rfl
 |true=>
  have hn:mW e<=24:=by unfold fitE at O;simp at O;omega
  simp only[cH,show¬mW e=0 by omega,cO,bZ,cI,cL];have L:=cGq e om;have H:=cGr e;cases K:addO e []with
  |none=>
   rw[K]at L H;obtain⟨r,M,hb⟩:=L;have O:(qI e []).isSome=false:=by rw[dI];intro h;obtain⟨l,e,_⟩:=H.1 h;cases e
   rw[M,O,eF];cases r with
   |inl r=>rfl
   |inr v=>have V:v.2=false:=hb;simp only[V,dO,fV,cH,qm]
  |some l=>
   rw[K]at L H;simp only at L;have hl:l.length<=24:=by
    unfold addO at K;split at K
    .cases K;have Z:=PY (zO e) [];have h2:=Wz e;simp at Z;omega
    .cases K
   rw[L,eF]
   by_cases c:l.length<=8
   .simp only[cQ,dP,show¬(8:Int)<(l.length:Int)by omega,cO,bZ,cI];have F:=WN (l,true) (by simp only;omega)
    by_cases U:dnN l
    .rw[F.1 U,H.2 ⟨l,rfl,c,U⟩];rfl
    .rw[F.2 U];have:(qI e []).isSome=false:=by
      rw[dI];intro h;obtain⟨l',Y,_,B⟩:=H.1 h;cases Y;exact U B
     rw[this];rfl
   .simp only[cQ,dP,show(8:Int)<(l.length:Int)by omega,cG,cH,qm];have:(qI e []).isSome=false:=by
     rw[dI];intro h;obtain⟨l',Y,B,_⟩:=H.1 h;cases Y;exact c B
    rw[this]
def WO(e:aR):A6 e=some (vE e):=cG6 e
def cGw{t:List aA}(H:t.length<=8)(h:∀q∈t,mZ q=true):Fj t=some (oN t):=by rw[<-Ml H h];rfl
def cGx(s:aH):Be s=LE s:=by
 funext g;unfold Be LE
 by_cases c:g<(s.aY.length:Int)
 .by_cases U:0<=g
  .simp only[c,U,cW,cG,cH,mR,WO,Jd,LZ,xM];generalize K:s.aY.getD g.toNat bR.zero=n;generalize hm:s.aY.getD ((IntKind.i64.wrap (g-1)).toNat) bR.zero=m;cases L:mV n.aM
   .simp
   .cases V:vE n.bU
    .by_cases H:n.gen<0<;>by_cases O:1073741824<n.gen<;>simp[H,O]
    .by_cases H:n.gen<0
     .simp[H]
     .by_cases O:1073741824<n.gen
      .simp[H,O]
      .by_cases Y:0<g<;>simp[H,O,Y]
  .simp only[c,U,iZ,cG,cH,bVr]
 .simp only[c,cO,bZ,cI]
def Gi(l:List bR)(i:Nat)(n:bR):Bool:=mV n.aM&&vE n.bU&&decide (0<=n.gen)&&decide (n.gen<=1073741824)&&(decide (i=0)||decide (cmpP (l.getD (i-1) bR.zero).aM n.aM<0))
def Ac(l:List bR):Bool:=(List.range l.length).all λ i=>Gi l i (l.getD i bR.zero)
def pR(s:aH):List aK:=xR (oN s.aF++s.aY.map (·.aM))
def nX(s:aH):Bool:=qH s.aF&&decide (s.aY.length<=8)&&Ac s.aY&&decide ((pR s).length<=8)
def WP(s:aH)(h8:s.aY.length<=8):mF (Be s) 0=some (if Ac s.aY=true then .inl ()else .inr false):=by
 have Y:=uB (body:=Be s) s.aY.length (λ i=>if Gi s.aY i (s.aY.getD i bR.zero)=true then none else some (Sum.inr (α:=Unit) false)) (Sum.inl ()) (λ i hi=>by
  unfold Be;have L:(i:Int)<(s.aY.length:Int):=om
  have V:0<=(i:Int):=om
  simp only[L,V,cW,cG,cH,mR,WO,LZ,Qm];unfold Gi;have nd:∀x:bR,x=x:=λ x=>rfl;rcases hb (mV (s.aY.getD i bR.zero).aM)with hP|hP
  .rcases hb (vE (s.aY.getD i bR.zero).bU)with hE|hE
   .by_cases U:(s.aY.getD i bR.zero).gen<0
    .simp[hP,hE,U,show¬0<=(s.aY.getD i bR.zero).gen by omega,-List.getD_eq_getElem?_getD]
    .by_cases B:1073741824<(s.aY.getD i bR.zero).gen
     .simp[hP,hE,U,B,show¬(s.aY.getD i bR.zero).gen<=1073741824 by omega,-List.getD_eq_getElem?_getD]
     .have H:0<=(s.aY.getD i bR.zero).gen:=om
      have O:(s.aY.getD i bR.zero).gen<=1073741824:=om
      have Z:IntKind.i64.wrap ((i:Int)+1)=(i:Int)+1:=mH om om
      by_cases M:i=0
      .subst M;simp only[hP,hE,U,B,H,O,cH,qm,cG,cO,cQ,dO,gF,cL,fC,dP,fV,Int.cast_ofNat_Int,iP,iD,eY,bZ,kB,mR,cI];rfl
      .have q4:(0:Int)<(i:Int):=om
       have w:IntKind.i64.wrap ((i:Int)-1)=((i-1:Nat):Int):=w9 i om om;simp only[hP,hE,U,B,H,O,M,q4,cG,cO,cQ,dO,gF,cL,fC,dP,kC,bZ,cH,cI,qm,w,Z,Qm];rw[gdp (by intro _;omega)]
       by_cases K:cmpP (s.aY.getD (i-1) bR.zero).aM (s.aY.getD i bR.zero).aM<0
       .have F:¬0<=cmpP (s.aY.getD (i-1) bR.zero).aM (s.aY.getD i bR.zero).aM:=om
        simp only[K,F,cG,cO,cH,bZ,cI]
       .have F:0<=cmpP (s.aY.getD (i-1) bR.zero).aM (s.aY.getD i bR.zero).aM:=om
        simp only[K,F,cG,cO,cH,bZ,cI]
   .simp[hP,hE,-List.getD_eq_getElem?_getD]
  .simp[hP,-List.getD_eq_getElem?_getD])
  (by unfold Be;simp)
 rw[Y,vC (λ i=>Gi s.aY i (s.aY.getD i bR.zero))];unfold Ac;rw[eX];split<;>rfl
def P5(s:aH)(Y:qH s.aF=true)(B:s.aY.length<=8):t6 s=some (pR s):=by
 obtain⟨H,O,_⟩:=(vF _).1 Y;have F:=Gg s.aF O;have M:(oN s.aF).length<=200:=by have:=I0 (s.aF.flatMap sA);unfold oN;omega
 unfold t6;rw[cGw H O,eF,BC s.aY bR.zero (·.aM) _ om om (λ i t K L=>by
  unfold Ls;have U:0<=(i:Int)/\(i:Int)<(s.aY.length:Int):=om
  have H:t.length+1<=4294967296:=om
  simp only[H,U.1,U.2,cW,mR,cG,cH,lL,mK i (show i<4611686018427387904 by omega)]) (λ t=>by unfold Ls;simp),eF]
 unfold OR;rw[PT _ (by simp;omega)];rfl
def cH2(s:aH)(H:s.aF.length<=8)(O:∀q∈s.aF,mZ q=true)(Y:s.aY.length<=8):Bd s=some (pR s):=by
 have B:=Gg s.aF O;have F:(oN s.aF).length<=200:=by have:=I0 (s.aF.flatMap sA);unfold oN;omega
 unfold Bd;rw[cEo H O,eF,gdp om,BC s.aY bR.zero (·.aM) _ om om (λ i t K L=>by
  unfold Lu;have U:0<=(i:Int)/\(i:Int)<(s.aY.length:Int):=om
  have H:t.length+1<=4294967296:=om
  simp only[H,U.1,U.2,cW,mR,cG,cH,lL,mK i (show i<4611686018427387904 by omega)]) (λ t=>by unfold Lu;simp),eF]
 unfold OT;rw[PJ _ (by simp;omega)];rfl
def cH3(s:aH)(H:qH s.aF=true)(O:s.aY.length<=8):Bd s=some (pR s):=by obtain⟨U,Y,_⟩:=(vF _).1 H;exact cH2 s U Y O
def Je(s:aH):wC s=some (nX s):=by
 unfold wC nX;rw[Ww,eF];cases K:qH s.aF with
 |false=>rfl
 |true=>
  by_cases H:s.aY.length<=8
  .simp only[cQ,dP,show¬(8:Int)<(s.aY.length:Int)by omega,cO,bZ,cI,H,cG,cL];rw[<-cGx,WP s H,eF];cases Ac s.aY with
   |false=>rfl
   |true=>simp only[cH,cL];unfold OX;rw[P5 s K H,eF];congr 1;rw[dM];simp;omega
  .simp only[cQ,dP,show(8:Int)<(s.aY.length:Int)by omega,cG,cH,H,cO,iD,eY]
def Gj(s:aH):yY s=some (nX s):=by
 unfold yY nX
 by_cases H:s.aY.length<=8
 .by_cases O:s.aF.length<=8
  .simp only[show¬(8:Int)<(s.aY.length:Int)by omega,show¬(8:Int)<(s.aF.length:Int)by omega,cO,fC,bZ,cI,H,cG,fG];rw[Wt s.aF O (λ i L=>by
    unfold Lw;have U:0<=(i:Int)/\(i:Int)<(s.aF.length:Int):=om
    simp only[U.1,U.2,cW,mR,cG,cH,lL,bYr,eF,mK i (show i<4611686018427387904 by omega)]
    by_cases Y:i=0
    .subst Y;rw[mL (by simp)];cases mZ (s.aF.getD 0 aA.zero)<;>simp
    .rw[w9 i om om,mL (by intro _;omega)];simp only[lL,show(0:Int)<(i:Int)by omega,cG,cL,Y,jO];unfold ltN;rcases hb (mZ (s.aF.getD i aA.zero))with b1|b1<;>rcases hb (Op.bytesLess (s.aF.getD (i-1) aA.zero).aB.name.toList (s.aF.getD i aA.zero).aB.name.toList)with b2|b2<;>simp[b1,b2,-List.getD_eq_getElem?_getD]) (by unfold Lw;simp)]
   unfold qH;simp only[O,cG,cL];cases K:ascW s.aF none with
   |false=>rfl
   |true=>
    have B:qH s.aF=true:=by unfold qH;simp[O,K]
    simp only[cH,qm,cL];unfold Lv;rw[WP s H,eF];cases Ac s.aY with
    |false=>rfl
    |true=>simp only[cH,cL];unfold OU;rw[cH3 s B H,eF];congr 1;rw[dM];simp;omega
  .have:qH s.aF=false:=by unfold qH;simp[O]
   simp only[show(8:Int)<(s.aF.length:Int)by omega,cG,fV,cH,this,eY]
 .simp only[show(8:Int)<(s.aY.length:Int)by omega,cG,jS,cH,H,cO,iD,eY]
def nI(l:List Int):Prop:=∀x∈l,0<=x/\x<256
def nI.drop{l:List Int}(h:nI l)(n:Nat):nI (l.drop n):=λ x H=>h x (gU H)
def nI.getD{l:List Int}(h:nI l)(i:Nat):0<=l.getD i 0/\l.getD i 0<256:=by
 by_cases H:i<l.length
 .rw[cD,cF H];exact h _ (iA H)
 .rw[cD,gO om];simp
def P6(c:Int)(H:0<=c)(O:c<256):(nP .and .u8 c 128=0)↔c<128:=by
 have k:(List.range 256).all (λ n=>decide ((nP .and .u8 (n:Int) 128=0)↔(n:Int)<128))=true:=by kernel_rfl
 obtain⟨n,rfl⟩:=Int.eq_ofNat_of_zero_le H;have:=dT.1 k n (eH.2 om)
 simpa using this
def cH6{a:List Int}{g H:Int×Int}(O:0<=g.2)(U:g.2<=10)(h:rW a g=some (.inl H)):g.2<10/\g.2<a.length/\H.2=g.2+1/\0<=H.1/\H.1<18446744073709551616:=by
 obtain⟨v,i⟩:=g;simp only at O U;unfold rW at h;simp only[cB]at h;split at h
 .rename_i Y;split at h
  .cases h
  .rename_i K;rw[gdp om]at h;split at h
   .cases h
   .rw[gdp (by rw[mH om om];omega)]at h;split at h
    .cases h;refine⟨Y,by omega,?_,?_⟩
     .simp only;rw[mH om om]
     .simp only[nP];rw[IntKind.wrap_u64];omega
    .split at h<;>cases h
 .cases h
structure UintOk (a:List Int) (r:Int×Int×Int):Prop where
 ok:r.2.2=0->1<=r.2.1/\r.2.1<=a.length/\r.2.1<=10
 no:r.2.2≠0->r.1=0/\r.2.1=0
 v0:0<=r.1
 v1:r.1<18446744073709551616
 n0:0<=r.2.1
 n1:r.2.1<=a.length
 e:r.2.2=0\/r.2.2=5\/r.2.2=6
def Jf{a:List Int}(hb:nI a):∃r,sL a=some r/\UintOk a r:=by
 have V:∃x,mF (rW a) (0,0)=some x/\(match x with|.inl _=>True|.inr r=>UintOk a r):=by
  refine nZ (λ g=>(0<=g.2/\g.2<=10)/\0<=g.1/\g.1<18446744073709551616) (λ g=>(10-g.2).toNat) _ (λ g hg=>?_) (0,0) (by simp);obtain⟨⟨U,O⟩,Y,B⟩:=hg;cases K:rW a g with
  |none=>
   exfalso;obtain⟨v,i⟩:=g;simp only at U O;unfold rW at K;simp only[cB]at K;split at K
   .split at K
    .cases K
    .rw[gdp om]at K;split at K
     .cases K
     .rw[gdp (by rw[mH om om];omega)]at K;split at K
      .cases K
      .split at K<;>cases K
   .cases K
  |some y=>
   cases y with
   |inl F=>obtain⟨k1,k2,k3,M,Z⟩:=cH6 U O K;exact .inl ⟨F,rfl,⟨by omega,M,Z⟩,by omega⟩
   |inr x=>
    refine .inr ⟨x,rfl,?_⟩;obtain⟨v,i⟩:=g;simp only at U O Y B;have H:∀e,e=5\/e=6->UintOk a (0,0,e):=λ e he=>⟨λ h=>by simp only at h;omega,λ _=>⟨rfl,rfl⟩,gV _,by simp,gV _,by simp,.inr he⟩;unfold rW at K;simp only[cB]at K;split at K
    .split at K
     .cases K;exact H 5 (.inl rfl)
     .rename_i c2;rw[gdp om]at K;split at K
      .cases K;exact H 6 (.inr rfl)
      .rw[gdp (by rw[mH om om];omega)]at K;split at K
       .cases K
       .split at K
        .cases K;exact H 6 (.inr rfl)
        .cases K;have L:IntKind.i64.wrap (i+1)=i+1:=mH om om;refine⟨λ _=>?_,λ h=>absurd rfl h,?_,?_,?_,?_,.inl rfl⟩
         .simp only[L];omega
         .simp only[nP];rw[IntKind.wrap_u64];omega
         .simp only[nP];rw[IntKind.wrap_u64];omega
         .simp only[L];omega
         .simp only[L];omega
    .cases K;trivial
 obtain⟨x,O,Y⟩:=V;unfold sL;rw[O];cases x with
 |inl z=>exact⟨(0,0,6),rfl,λ h=>by simp at h,λ _=>⟨rfl,rfl⟩,gV _,by simp,gV _,by simp,.inr (.inr rfl)⟩
 |inr r=>exact⟨r,rfl,Y⟩
structure TextOk (a:List Int) (r:ByteArray×Int×Int):Prop where
 n0:0<=r.2.1
 n1:r.2.1<=a.length
 no:r.2.2≠0->r.1=⟨#[]⟩
def WQ{a:List Int}(hb:nI a)(hl:a.length<=9223372036854775807):∃r,vV a=some r/\TextOk a r:=by
 obtain⟨⟨v,n,e⟩,Y,H⟩:=Jf hb;have k:=H.ok;have B:=H.v0;have F:=H.n0;have M:=H.n1;simp only at k B F M;unfold vV;rw[Y,eF];simp only[dB,dE,cB]
 by_cases O:e=0
 .rw[bX (by simpa using O)]
  by_cases K:1024<v
  .rw[cA K];exact⟨_,rfl,gV _,by simp,λ _=>rfl⟩
  .rw[bX K];have L:IntKind.i64.wrap v=v:=mH om om;have V:IntKind.i64.wrap ((a.length:Int)-n)=a.length-n:=mH om om;have Z:IntKind.i64.wrap (n+v)=n+v:=mH om om;rw[L,V,Z]
   by_cases U:(a.length:Int)-n<v
   .rw[cA U];exact⟨_,rfl,gV _,by simp,λ _=>rfl⟩
   .rw[bX U,gdp om];exact⟨_,rfl,by simp only;omega,by simp only;omega,λ h=>absurd rfl h⟩
 .rw[cA (by simpa using O)];exact⟨_,rfl,gV _,by simp,λ _=>rfl⟩
structure Src (b:List Int):Prop where
 bytes:nI b
 len:b.length<=9223372036854775807
end Ab
end Go.Proofs.YtfmnjkfhahfhgaaGreatDoor
