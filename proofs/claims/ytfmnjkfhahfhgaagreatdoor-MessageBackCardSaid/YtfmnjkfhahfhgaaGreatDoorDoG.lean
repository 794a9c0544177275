import Derived.Test.YtfmnjkfhahfhgaaGreatDoorTabD
import Derived.Test.YtfmnjkfhahfhgaaGreatDoorTabB
import Derived.Test.YtfmnjkfhahfhgaaGreatDoorHm35
namespace Go.Proofs.YtfmnjkfhahfhgaaGreatDoor
namespace Ab
set_option linter.defProp false
set_option linter.unusedVariables false
set_option linter.unusedSimpArgs false
def LD{α:Type}(l:List α)(i:Nat)(z:α)(h:i<l.length):l.set i (l.getD i z)=l:=by rw[cD,cE h,Xm,List.set_getElem_self]
def cJr{body:Int×List aA×List bL->Option ((Int×List aA×List bL)⊕(List aA×List bL))}(t:List aA)(f:aA->aA)(e:aA->List bL)(hl:t.length<=1000)(F:∀q∈t,(e q).length<=100)
  (hb:∀(i:Nat) (s:List aA) (ev:List bL),i<t.length->s.length=t.length->s.getD i aA.zero=t.getD i aA.zero->ev.length<=100000->body ((i:Int),s,ev)=some (.inl (((i+1:Nat):Int),s.set i (f (t.getD i aA.zero)),ev++e (t.getD i aA.zero))))
  (H:∀(s:List aA) (ev:List bL),s.length=t.length->body ((t.length:Int),s,ev)=some (.inr (s,ev))):lY body (0,t,[])=some (t.map f,t.flatMap e):=by
 have Y:∀i,i<=t.length->((t.take i).flatMap e).length<=100*i:=by
  intro i;induction i with
  |zero=>intro _;simp
  |succ i M=>intro L;rw[Vu (z:=aA.zero) om,jE,cA];have:=M om;have h2:=F _ (mS (z:=aA.zero) (show i<t.length by omega));simp only[eQ,List.flatMap_nil,eE];omega
 obtain⟨x,V,Z⟩:=nV (body:=body) (λ g=>∃i:Nat,i<=t.length/\g=((i:Int),(t.take i).map f++t.drop i,(t.take i).flatMap e)) (λ g=>t.length-g.1.toNat) (λ x=>x=(t.map f,t.flatMap e)) (by
  rintro g ⟨i,L,rfl⟩;have O:((t.take i).map f++t.drop i).length=t.length:=by rw[cA,dM,dE,dC];omega
  by_cases K:i<t.length
  .left;have U:((t.take i).map f).length=i:=by rw[dM,dE];omega
   have B:t.drop i=t.getD i aA.zero::t.drop (i+1):=by rw[gL K,cD,cE K];rfl
   have hg:((t.take i).map f++t.drop i).getD i aA.zero=t.getD i aA.zero:=by rw[cD,fH om,U,gY,B];rfl
   refine⟨_,hb i _ _ K O hg (by have:=Y i L;omega),⟨i+1,by omega,?_⟩,by simp only[Qm];omega⟩;rw[Vu (z:=aA.zero) K,fL,jE];congr 2
   .rw[iC _ _ om,U,gY,B];simp
   .simp
  .right;have:i=t.length:=om
   subst this;refine⟨_,H _ _ O,?_⟩;simp) (0,t,[]) ⟨0,by omega,by simp⟩
 rw[V,Z]
def remE(p:aK)(q:aA):List bL:=if(pK q p).2.2=0 then(if getH q.aT p=aC.zero then[]else[Cy p q.aB.name aC.zero])++tT q.aB.name (pK q p).2.1 else[]
def remT(t:List aA)(p:aK):List aA×List bL:=if vR t=true then(t.map (remN · p),t.flatMap (remE p))else([],[])
def Fj(nm:ByteArray)(l:List aX):(tT nm l).length=l.length:=by unfold tT;rw[dM]
def Wh(p:aK)(q:aA):(remE p q).length<=17:=by
 unfold remE;have:=(Vp q p).2.2.2;split
 .rw[cA,Fj];split<;>simp<;>omega
 .simp
def LE{q:aA}(h:mR q=true)(p:aK):(remN q p).aB=q.aB:=
 (Vf h (p:=p) (x:={p with num:=p.num+1}) λ e=>by
  have H:p.num+1=p.num:=dZ aK.num e;omega).2
def cJv(t:List aA)(p:aK):B6 t p=some (remT t p):=by
 unfold B6 remT;rw[H1,eF];cases L:vR t with
 |false=>rfl
 |true=>
  have h:=(m3 t).1 L;have hl:=h.len;rw[ifNT,cB rfl,mD om,cJr t (remN · p) (remE p) om (λ q _=>by have:=Wh p q;omega) (λ i s ev V B hg x0=>by
   have U:=h.each _ (mS (z:=aA.zero) V);have y0:=AB U;have z0:=(Vp (t.getD i aA.zero) p).2.2.2;have O:0<=(i:Int)/\(i:Int)<((s.length:Nat):Int):=om
   have Z:=LE U p;unfold Hm;simp only[lF,hg];rw[cB (cQ O.2),mD O,OO _ _ om om om,eF];cases K:hasQ (t.getD i aA.zero) p with
   |false=>
    have e:=OI U K;have F:(pK (t.getD i aA.zero) p).2.2≠0:=by rw[e];decide
    unfold remE remN;rw[bX F,bX F,cB (show(!false)=true from rfl),mF i om,eE,<-hg,LD _ _ _ om]
   |true=>
    have e:=Lo U K;rw[ifNT,mD O,wS _ _ om,eF];have hz:nX (getH (t.getD i aA.zero).aT p)=decide (getH (t.getD i aA.zero).aT p=aC.zero):=rfl;rw[hz];unfold remE;rw[cB e.1];have M:∀H:List bL,H.length<=1000000->Hl p ((i:Int),s,ev) H=some (.inl (((i+1:Nat):Int),s.set i (remN (t.getD i aA.zero) p),H++tT (t.getD i aA.zero).aB.name (pK (t.getD i aA.zero) p).2.1)):=λ H h0=>by unfold Hl;simp only[lF,hg];rw[mD O,Vl,eF,mD O,e.2,Z,LC _ _ om,eF,mD (by rw[Fj];omega),mF i om]
    by_cases Y:getH (t.getD i aA.zero).aT p=aC.zero
    .rw[bX (nd0 Y),cB Y,M _ om,lJ]
    .rw[cB (nd1 Y),bX Y,mD O,mD om,M _ (by simp;omega),cG];rfl) (λ s ev B=>by
   unfold Hm;simp only;rw[bX (by rw[cC,B];omega)])]
  rfl
def Fk{t:List aA}(h:∀q∈t,mR q=true){p:aK}:p∈oH t↔∃q∈t,hasQ q p=true:=by
 unfold oH;rw[Fd,fM];constructor
 .rintro⟨q,H,O⟩;exact⟨q,H,(Vk ((qK q).1 (h q H)).1).1 O⟩
 .rintro⟨q,H,O⟩;exact⟨q,H,(Vk ((qK q).1 (h q H)).1).2 O⟩
def Pe(t:List aA):(oH t).Nodup:=HV (HU _)
def ValidT.map{t:List aA}(h:ValidT t)(f:aA->aA)(Y:∀q∈t,mR (f q)=true)(O:∀q∈t,(f q).aB=q.aB)(B:∀q∈t,∀p,hasQ (f q) p=true->hasQ q p=true):ValidT (t.map f):=by
 have U:∀q∈t.map f,mR q=true:=λ q H=>by obtain⟨x,K,rfl⟩:=cS.1 H;exact Y x K
 refine⟨by rw[dM];exact h.len,U,?_,?_⟩
 .have:=h.asc;unfold AscN at*;rw[kP];exact this.imp_of_mem λ{a b} Z hb L=>by rw[O a Z,O b hb];exact L
 .refine dI (eP (Pe _) λ x K=>?_) h.aD;obtain⟨q,H,F⟩:=(Fk U).1 K;obtain⟨y,V,rfl⟩:=cS.1 H;exact(Fk h.each).2 ⟨y,V,B y V x F⟩
def Pf{t:List aA}(h:ValidT t)(p:aK):remT t p=(t.map (remN · p),t.flatMap (remE p)):=by unfold remT;rw[cB ((m3 t).2 h)]
def cJz{t:List aA}(h:ValidT t)(p:aK):ValidT (remT t p).1:=by rw[Pf h];exact h.map _ (λ q H=>Ve (h.each q H) p) (λ q H=>LE (h.each q H) p) λ q H x K=>((Vg (h.each q H) p x).1 K).1
def cK0{t:List aA}(h:ValidT t)(p:aK):(remT t p).2.length<=136:=by
 rw[Pf h];have:∀l:List aA,(l.flatMap (remE p)).length<=17*l.length:=by
  intro l;induction l with
  |nil=>simp
  |cons q l H=>rw[eQ,cA,lH];have:=Wh p q;omega
 have O:=this t;have U:=h.len;show(t.flatMap (remE p)).length<=136;omega
inductive StepQ (q:aA):aA->Prop where
 |same:StepQ q q
 |claim (p:aK) (a:aC) (pr:Int) (h:(qF q p a pr).2.2=0):StepQ q (qF q p a pr).1
 |cancel (p:aK) (h:(pS q p).2.2=0):StepQ q (pS q p).1
 |lower (p:aK) (a:aC) (h:(oJ q p a).2.2=0):StepQ q (oJ q p a).1
 |remove (p:aK) (h:(pK q p).2.2=0):StepQ q (pK q p).1
def CA{q x:aA}(h:mR q=true)(K:StepQ q x):mR x=true/\x.aB=q.aB:=by
 have U:∀y:aA,(rS y).1.aB=y.aB:=λ y=>(U7 y).2;cases K with
 |same=>exact⟨h,rfl⟩
 |claim p a B O=>
  obtain⟨_,_,_,_,_,Y⟩:=Lk O;rcases Y with⟨_,e⟩|⟨_,_,e,H⟩|⟨_,_,_,e,H⟩
  .rw[e];exact⟨h,rfl⟩
  .rw[e,U];exact⟨Fb H,rfl⟩
  .rw[e,U];exact⟨Fb H,rfl⟩
 |cancel p O=>obtain⟨_,_,_,e,H⟩:=HR O;rw[e,U];exact⟨Fb H,rfl⟩
 |lower p a O=>
  obtain⟨_,_,_,_,_,Y⟩:=Fc O;rcases Y with⟨_,e⟩|⟨_,e,H⟩
  .rw[e];exact⟨h,rfl⟩
  .rw[e,U];exact⟨Fb H,rfl⟩
 |remove p O=>obtain⟨_,_,_,e,H⟩:=OD O;rw[e,U];exact⟨Fb H,rfl⟩
def LF(q:aA)(x:aK):hasQ (rS q).1 x=hasQ q x:=by rw[wU,OF,Vd]
def cK3{q:aA}{p:aK}{a:aC}{pr:Int}(h:(qF q p a pr).2.2=0){x:aK}(hx:hasQ (qF q p a pr).1 x=true):hasQ q x=true\/x=p:=by
 obtain⟨_,_,_,_,_,O⟩:=Lk h;rcases O with⟨_,e⟩|⟨_,_,e,_⟩|⟨_,_,_,e,_⟩
 .rw[e]at hx;exact .inl hx
 .rw[e,LF,qL]at hx;rcases hx with⟨w,hw,H⟩|hx
  .unfold ordQ claimC at hw;simp only[cY,dP]at hw;rcases hw with(hw|hw)|hw
   .exact .inl ((qL q x).2 (.inl ⟨w,dV _ hw,H⟩))
   .rw[hw]at H;exact .inr H.symm
   .exact .inl ((qL q x).2 (.inl ⟨w,dK _ hw,H⟩))
  .exact .inl ((qL q x).2 (.inr hx))
 .rw[e,LF,qL]at hx;rcases hx with⟨w,hw,H⟩|hx
  .unfold ordQ claimW wR at hw;simp only[cY,cL,cS]at hw;rcases hw with hw|hw|hw|⟨y,K,rfl⟩
   .exact .inl ((qL q x).2 (.inl ⟨w,dV _ hw,H⟩))
   .exact .inl ((qL q x).2 (.inl ⟨w,dK _ (iJ hw),H⟩))
   .rw[hw]at H;exact .inr H.symm
   .exact .inl ((qL q x).2 (.inl ⟨y,dK _ (iZ K),H⟩))
  .exact .inl ((qL q x).2 (.inr hx))
def cK4{q:aA}{p:aK}(h:(pS q p).2.2=0){x:aK}(hx:hasQ (pS q p).1 x=true):hasQ q x=true:=by
 obtain⟨_,_,_,e,_⟩:=HR h;rw[e,LF,qL]at hx;rcases hx with⟨w,hw,H⟩|hx
 .unfold ordQ yP at hw;simp only[cY,Cl]at hw;rcases hw with hw|hw
  .exact(qL q x).2 (.inl ⟨w,dV _ hw.1,H⟩)
  .exact(qL q x).2 (.inl ⟨w,dK _ hw.1,H⟩)
 .exact(qL q x).2 (.inr hx)
def cK5{q:aA}{p:aK}{a:aC}(h:(oJ q p a).2.2=0){x:aK}(hx:hasQ (oJ q p a).1 x=true):hasQ q x=true:=by
 obtain⟨_,_,H,_,_,O⟩:=Fc h;rcases O with⟨_,e⟩|⟨_,e,_⟩
 .rw[e]at hx;exact hx
 .rw[e,LF,qL]at hx;rcases hx with hx|hx
  .exact(qL q x).2 (.inl hx)
  .refine(qL q x).2 (.inr ?_)
   by_cases e:x=p
   .rw[e];exact H
   .unfold vQ at hx;rwa [yN e]at hx
def ValidT.set{t:List aA}(h:ValidT t){i:Nat}(hi:i<t.length){q:aA}(p:aK)(h1:mR q=true)(h2:q.aB=(t.getD i aA.zero).aB)(h3:∀x,hasQ q x=true->x∈oH t\/x=p)
  (V:vU t p=false):ValidT (t.set i q):=by
 have Z:∀y∈t.set i q,mR y=true:=λ y L=>by
  rcases jC L with L|rfl
  .exact h.each y L
  .exact h1
 refine⟨by rw[dW];exact h.len,Z,?_,?_⟩
 .have ha:=h.asc;unfold AscN at*;rw[fK]at ha⊢;have hr:∀k (U:k<(t.set i q).length),((t.set i q)[k]).aB=(t[k]'(by rw[dW]at U;exact U)).aB:=λ k U=>by
   rw[List.getElem_set];split
   .next e=>subst e;rw[h2,cD,cE hi];rfl
   .rfl
  intro a b Y B F;rw[hr a Y,hr b B];exact ha a b _ _ F
 .have H:∀x∈oH (t.set i q),x∈oH t\/x=p:=λ x K=>by
   obtain⟨y,L,O⟩:=(Fk Z).1 K;rcases jC L with L|rfl
   .exact .inl ((Fk h.each).2 ⟨y,L,O⟩)
   .exact h3 x O
  have M:=h.aD
  by_cases O:p∈oH t
  .refine dI (eP (Pe _) (l₂:=oH t) λ x K=>?_) M;rcases H x K with K|rfl
   .exact K
   .exact O
  .have h5:(oH t).length<8:=by
    unfold vU at V;simp only[O,cP,dL,fI,dF]at V;omega
   have:=eP (Pe (t.set i q)) (l₂:=p::oH t) λ x K=>by
    rcases H x K with K|rfl
    .exact .tail _ K
    .exact .head _
   rw[lH]at this;omega
def Ih{t:List aA}(h:ValidT t){i:Nat}(hi:i<t.length){x:aK}(H:hasQ (t.getD i aA.zero) x=true):x∈oH t:=(Fk h.each).2 ⟨_,mS hi,H⟩
def Wi{t:List aA}{p:aK}(h:p∈oH t):vU t p=false:=by unfold vU;simp[h]
def Ii{t:List aA}{nm:ByteArray}{f:aA->ResT}(h:(atT t nm f).2.2=0):ValidT t/\∃i:Nat,nK t nm=i/\i<t.length/\(t.getD i aA.zero).aB.name=nm/\atT t nm f=f (t.getD i aA.zero):=by
 unfold atT at h⊢;cases K:vR t with
 |false=>rw[K,cB rfl]at h;exact absurd h Om
 |true=>
  rw[K,bX Om]at h;rw[bX Om]
  by_cases O:nK t nm<0
  .rw[cB O]at h;exact absurd h Om
  .rw[bX O];rcases H0 (t:=t) (nm:=nm)with H|⟨i,H,U,Y⟩
   .omega
   .exact⟨(m3 t).1 K,i,H,U,Y,by rw[H];rfl⟩
def Ij{t:List aA}{nm:ByteArray}{x:aA×List aX×Int}{ev:List bL}(h:(putT t nm x ev).2.2=0):x.2.2=0/\putT t nm x ev=(Cz t (nK t nm) x.1,ev++tT nm x.2.1,0):=by
 unfold putT at h|-
 by_cases e:x.2.2=0
 .rw[cB e];exact⟨e,rfl⟩
 .rw[bX e]at h;exact absurd h e
def Fl(t:List aA)(i:Nat)(q:aA):Cz t (i:Int) q=t.set i q:=by unfold Cz;rw[cB om];rfl
def cKb{t:List aA}{p:aK}{a:aO}{pr:Int}(h:(uT t p a pr).2.2=0):∃i:Nat,i<t.length/\(t.getD i aA.zero).aB.name=a.name/\nK t a.name=i/\(qF (t.getD i aA.zero) p a.aJ pr).2.2=0/\(uT t p a pr).1=t.set i (qF (t.getD i aA.zero) p a.aJ pr).1/\ValidT t/\ValidT (uT t p a pr).1:=by
 unfold uT at h⊢;obtain⟨L,i,Y,H,B,e⟩:=Ii h;rw[e]at h⊢;cases K:vU t p with
 |true=>rw[K,cB rfl]at h;exact absurd h Om
 |false=>
  rw[K,bX Om]at h;rw[bX Om];obtain⟨O,F⟩:=Ij h;rw[F,Y,Fl];have M:=L.each _ (mS (z:=aA.zero) H);have U:=CA M (.claim p a.aJ pr O);refine⟨i,H,B,rfl,O,rfl,L,L.set H p U.1 U.2 (λ x hx=>?_) K⟩;rcases cK3 O hx with hx|hx
  .exact .inl (Ih L H hx)
  .exact .inr hx
def cKc{t:List aA}{p:aK}{nm:ByteArray}(h:(n5 t p nm).2.2=0):∃i:Nat,i<t.length/\(n5 t p nm).1=t.set i (pS (t.getD i aA.zero) p).1/\ValidT t/\ValidT (n5 t p nm).1:=by
 unfold n5 at h⊢;obtain⟨K,i,Y,H,Z,e⟩:=Ii h;rw[e]at h⊢;obtain⟨O,B⟩:=Ij h;rw[B,Y,Fl];have F:=K.each _ (mS (z:=aA.zero) H);have U:=CA F (.cancel p O);obtain⟨_,_,L,_,_⟩:=HR O;have M:hasQ (t.getD i aA.zero) p=true:=by unfold hasQ;rw[L];rfl
 exact⟨i,H,rfl,K,K.set H p U.1 U.2 (λ x V=>.inl (Ih K H (cK4 O V))) (Wi (Ih K H M))⟩
def Wj{t:List aA}{p:aK}{a:aO}(h:(qT t p a).2.2=0):∃i:Nat,i<t.length/\(qT t p a).1=t.set i (oJ (t.getD i aA.zero) p a.aJ).1/\ValidT t/\ValidT (qT t p a).1:=by unfold qT at h⊢;obtain⟨K,i,B,H,Z,e⟩:=Ii h;rw[e]at h⊢;obtain⟨O,F⟩:=Ij h;rw[F,B,Fl];have M:=K.each _ (mS (z:=aA.zero) H);have Y:=CA M (.lower p a.aJ O);obtain⟨_,_,U,_,_,_⟩:=Fc O;have L:hasQ (t.getD i aA.zero) p=true:=(qL _ _).2 (.inr U);exact⟨i,H,rfl,K,K.set H p Y.1 Y.2 (λ x V=>.inl (Ih K H (cK5 O V))) (Wi (Ih K H L))⟩
def sayE(nm:ByteArray)(a:aC)(e:bN):aC:=if e.name=nm then e.after else a
def mZ(l:List bN)(nm:ByteArray):aC:=l.foldl (sayE nm) aC.zero
def vV{α:Type}{l:List α}{i:Nat}(z:α)(h:i<l.length):l.take (i+1)=l.take i++[l.getD i z]:=by rw[List.take_add_one,cE h,cD,cE h];rfl
def Pg(l:List bN)(e:bN)(nm:ByteArray):mZ (l++[e]) nm=if e.name=nm then e.after else mZ l nm:=by unfold mZ;rw[List.foldl_append];rfl
def LG(a b:ByteArray):(a.toList==b.toList)=decide (a=b):=by
 by_cases h:a=b
 .simp[h]
 .rw[fC h];cases hb:a.toList==b.toList with
  |false=>rfl
  |true=>exact absurd (zL.1 (dN.1 hb)) h
def AG(l:List bN)(nm:ByteArray)(V:l.length<=1000000):tN l nm=some (mZ l nm):=by
 unfold tN;obtain⟨x,O,U⟩:=nV (body:=Jo l nm) (λ g=>∃i:Nat,g.1=i/\i<=l.length/\g.2=mZ (l.take i) nm) (λ g=>l.length-g.1.toNat) (λ x=>x=mZ l nm)
  (λ g ⟨i,K,L,hg⟩=>by
   obtain⟨B,Y⟩:=g;simp only at K hg;subst K;unfold Jo
   by_cases c:i<l.length
   .left;have H:0<=(i:Int)/\(i:Int)<(l.length:Int):=om
    simp only[H.1,H.2,cX,mL,cF,cH,Qm,LG,cC,mF i (show i<4611686018427387904 by omega)];refine⟨((i+1:Nat),mZ (l.take (i+1)) nm),?_,⟨i+1,rfl,c,rfl⟩,by simp only[Qm];omega⟩;rw[vV bN.zero c,Pg]
    by_cases e:(l.getD i bN.zero).name=nm
    .rw[cB e,cB e]
    .rw[bX e,bX e,hg]
   .right;have e:i=l.length:=om
    refine⟨Y,?_,by rw[hg,e,eV]⟩;simp only[show¬(i:Int)<(l.length:Int)by omega,cP,bZ,cI]) (0,aC.zero) ⟨0,rfl,by omega,rfl⟩
 rw[O,eF,U];rfl
def cKi{α:Type}(l:List α)(z:α){i j:Nat}(hi:i<l.length)(H:j<l.length):((l.set i (l.getD j z)).set j (l.getD i z)).Perm l:=by rw[cD,cD,cE hi,cE H];exact List.set_set_perm hi H
def cKj(O:List ByteArray)(K:O.length<=1000000)(g:Int×List ByteArray)(U:0<=g.1)(Y:g.1<(g.2.length:Int))(H:g.2.Perm O):∃x,lY Gg g=some x/\x.Perm O:=by
 refine nV (body:=Gg) (λ g=>0<=g.1/\g.1<(g.2.length:Int)/\g.2.Perm O) (λ g=>g.1.toNat) (λ x=>x.Perm O) ?_ g ⟨U,Y,H⟩;rintro⟨i,l⟩ ⟨U,Y,H⟩;simp only at U Y H;have B:=H.length_eq;unfold Gg
 by_cases c:0<i
 .have e:IntKind.i64.wrap (i-1)=i-1:=mB om om;simp only[c,cF,e,cN];rw[gdp (by intro;omega),gdp (by intro;omega)];cases hb:Op.bytesLess (l.getD i.toNat ⟨#[]⟩).toList (l.getD (i-1).toNat ⟨#[]⟩).toList with
  |false=>exact .inr ⟨l,by simp,H⟩
  |true=>left;simp only[cH];rw[gdp ⟨U,Y⟩,gdp om,gdp ⟨U,Y⟩,gdp om];exact⟨_,rfl,⟨by simp only;omega,by simp only[dW];omega,(cKi l _ om om).trans H⟩,by simp only;omega⟩
 .simp only[c,cP,fA,bZ,cI];rw[gdp (by intro h;cases h),gdp (by intro h;cases h)];exact .inr ⟨l,rfl,H⟩
def CB(nm:ByteArray)(s:List ByteArray):Bool:=s.any λ n=>decide (n=nm)
def Wk{nm:ByteArray}{s:List ByteArray}:CB nm s=true↔nm∈s:=by unfold CB;rw[kV];exact⟨λ⟨n,H,O⟩=>gH O▸H,λ h=>⟨nm,h,by simp⟩⟩
def cKm(l:List bN)(i:Nat)(hi:i<l.length)(s:List ByteArray)(Z:s.length<=1000000)(v:Int×List ByteArray)(L:v=((i:Int),s)):
  lY (Gj l v) (false,0)=some (CB (l.getD i bN.zero).name s):=by
 subst L;obtain⟨x,U,Y⟩:=nV (body:=Gj l ((i:Int),s)) (λ g=>∃k:Nat,g.2=k/\k<=s.length/\g.1=CB (l.getD i bN.zero).name (s.take k)) (λ g=>s.length-g.2.toNat) (λ x=>x=CB (l.getD i bN.zero).name s)
  (λ g ⟨k,K,V,hg⟩=>by
   obtain⟨B,F⟩:=g;simp only at K hg;subst K;unfold Gj
   by_cases c:k<s.length
   .left;have H:0<=(k:Int)/\(k:Int)<(s.length:Int):=om
    have O:0<=(i:Int)/\(i:Int)<(l.length:Int):=om
    simp only[H.1,H.2,O.1,O.2,cX,fD,mL,cF,cH,Qm,LG,mF k (show k<4611686018427387904 by omega)];refine⟨_,rfl,⟨k+1,rfl,c,?_⟩,by simp only[Qm];omega⟩;rw[vV (⟨#[]⟩:ByteArray) c,hg];simp only[CB,List.any_append,List.any_cons,List.any_nil,jG]
   .right;have e:k=s.length:=om
    refine⟨B,?_,by rw[hg,e,eV]⟩;simp only[show¬(k:Int)<(s.length:Int)by omega,cP,bZ,cI]) (false,0) ⟨0,rfl,by omega,by simp[CB]⟩
 rw[U,Y]
def Ph(l:List bN)(hl:l.length<=1000000):∃O,xR l=some O/\O.length<=l.length/\∀n,n∈O↔∃e∈l,e.name=n:=by
 unfold xR;obtain⟨x,F,M⟩:=nV (body:=Gk l) (λ g=>∃i:Nat,g.1=i/\i<=l.length/\g.2.length<=i/\∀n,n∈g.2↔∃e∈l.take i,e.name=n) (λ g=>l.length-g.1.toNat)
  (λ x=>x.length<=l.length/\∀n,n∈x↔∃e∈l,e.name=n)
  (λ g ⟨i,V,Z,L,hg⟩=>by
   obtain⟨g1,H⟩:=g;simp only at V L hg;subst V;unfold Gk
   by_cases c:i<l.length
   .left;have Y:0<=(i:Int)/\(i:Int)<(l.length:Int):=om
    simp only[Y.2,cF,cH];rw[cKm l i c H om _ rfl,eF];unfold Gi;have K:∀n,(∃e∈l.take (i+1),e.name=n)↔n∈H\/n=(l.getD i bN.zero).name:=λ n=>by rw[vV bN.zero c,hg];simp only[cY,dP,or_and_right,exists_or,exists_eq_left];exact or_congr kZ ⟨Eq.symm,Eq.symm⟩
    by_cases U:(l.getD i bN.zero).name∈H
    .rw[cB (Wk.2 U)];refine⟨_,by rw[mF i om],⟨i+1,rfl,c,by simp only;omega,λ n=>?_⟩,by simp only[Qm];omega⟩;rw[K];exact⟨Or.inl,λ h=>h.elim id λ h=>h▸U⟩
    .rw[bX (λ h=>U (Wk.1 h)),gdp Y,gdp (by simp only;omega)];obtain⟨y,e1,B⟩:=cKj (H++[(l.getD i bN.zero).name]) (by rw[cA,lM];omega) (IntKind.i64.wrap (((H.length+1:Nat):Int)-1),H++[(l.getD (i:Int).toNat bN.zero).name])
      (by simp only;rw[mB om om];omega) (by simp only[cA,Km];rw[mB om om];omega) (by simp only[Qm];exact iY _)
     rw[e1,eF];unfold Nm;refine⟨_,by rw[mF i om],⟨i+1,rfl,c,by have:=B.length_eq;simp only[cA,Km]at this;simp only;omega,λ n=>?_⟩,by simp only[Qm];omega⟩;rw[K,B.mem_iff,cY,dP]
   .right;have e:i=l.length:=om
    refine⟨H,?_,by omega,λ n=>by rw[hg,e,eV]⟩;simp only[show¬(i:Int)<(l.length:Int)by omega,cP,bZ,cI]) (0,[]) ⟨0,rfl,by omega,by simp,λ n=>by simp⟩
 exact⟨x,by rw[F,eF];rfl,M⟩
def Pi(l:List bW)(x:Int)(K:l.length<=1000000):∃v,zX l x=some v/\(v=-1\/0<=v/\v<(l.length:Int)):=by
 unfold zX;rw[OU l bW.zero (λ a=>decide (a.label=x)) (λ i L=>by
  unfold JB;have H:0<=(i:Int)/\(i:Int)<(l.length:Int):=om
  simp only[H.1,H.2,cX,mL,cF,cH,lF,mF i (show i<4611686018427387904 by omega)];split<;>rfl) (by unfold JB;simp)]
 cases h:l.findIdx? λ a=>decide (a.label=x)with
 |none=>exact⟨-1,rfl,.inl rfl⟩
 |some i=>obtain⟨O,_⟩:=iD.1 h;exact⟨i,rfl,.inr om⟩
structure LedgerP (l:bA):Prop where
 le:l.aQ.length<=72
 ls:l.bH.length<=4
 grow:∀i,i<l.aQ.length->(l.aQ.getD i bN.zero).before=mZ (l.aQ.take i) (l.aQ.getD i bN.zero).name/\b8 (l.aQ.getD i bN.zero).before (l.aQ.getD i bN.zero).after=true
 at_:∀s∈l.bH,0<=s.at_/\s.at_<=(l.aQ.length:Int)
def Wl(l:bA)(V:l.bH.length<=4)(i:Nat):(i<l.bH.length->∃b:Bool,DV l (i:Int)=some (if b=true then .inl ((i+1:Nat):Int)else .inr (.inr false))/\
  (b=true->0<=(l.bH.getD i bW.zero).at_/\(l.bH.getD i bW.zero).at_<=(l.aQ.length:Int)))/\(i=l.bH.length->DV l (i:Int)=some (.inr (.inl ()))):=by
 refine⟨λ c=>?_,λ c=>?_⟩
 .unfold DV;have U:0<=(i:Int)/\(i:Int)<(l.bH.length:Int):=om
  simp only[U.1,U.2,cX,mL,cF,cH,Qm];rw[gdp (by
   intro h;simp only[bY,cC]at h;have:=h.2;rw[mB om om];omega)]
  obtain⟨v,K,_⟩:=Pi l.bH ((l.bH.getD i bW.zero).label) om;generalize L:(!(((((decide ((l.bH.getD i bW.zero).label<1))||(decide (99<(l.bH.getD i bW.zero).label)))||(decide ((l.bH.getD i bW.zero).at_<0)))||(decide ((l.aQ.length:Int)<(l.bH.getD i bW.zero).at_)))||((decide (0<(i:Int)))&&(decide ((l.bH.getD i bW.zero).at_<(l.bH.getD ((IntKind.i64.wrap ((i:Int)-1)).toNat) bW.zero).at_)))))=A;have H:(((((decide ((l.bH.getD i bW.zero).label<1))||(decide (99<(l.bH.getD i bW.zero).label)))||(decide ((l.bH.getD i bW.zero).at_<0)))||(decide ((l.aQ.length:Int)<(l.bH.getD i bW.zero).at_)))||((decide (0<(i:Int)))&&(decide ((l.bH.getD i bW.zero).at_<(l.bH.getD ((IntKind.i64.wrap ((i:Int)-1)).toNat) bW.zero).at_))))=!A:=by rw[<-L,Bool.not_not]
  simp only[H];cases A with
  |false=>exact⟨false,by simp,by simp⟩
  |true=>
   simp only[cH,K,qm,cR,dT];have O:0<=(l.bH.getD i bW.zero).at_/\(l.bH.getD i bW.zero).at_<=(l.aQ.length:Int):=by simp only[cR,iX,dF]at H;omega
   by_cases e:v=(i:Int)
   .exact⟨true,by simp[e,mF i (show i<4611686018427387904 by omega)],λ _=>O⟩
   .exact⟨false,by simp[e],by simp⟩
 .subst c;unfold DV;simp
def cKq(l:bA)(K:l.aQ.length<=72)(i:Nat)(c:i<l.aQ.length):∃b:Bool,GE l (i:Int)=some (if b=true then .inl ((i+1:Nat):Int)else .inr (.inr false))/\
  (b=true->(l.aQ.getD i bN.zero).before=mZ (l.aQ.take i) (l.aQ.getD i bN.zero).name/\b8 (l.aQ.getD i bN.zero).before (l.aQ.getD i bN.zero).after=true):=by
 unfold GE;have U:0<=(i:Int)/\(i:Int)<(l.aQ.length:Int):=om
 simp only[U.1,U.2,cX,mL,cF,cH,Qm];rw[E5,eF,gdp (λ _=>by simp<;>omega),AG _ _ (by simp;omega)];cases L:nY (l.aQ.getD i bN.zero).name with
 |false=>exact⟨false,by simp,by simp⟩
 |true=>
  simp only[cH,qm,cR,dT]
  by_cases H:(l.aQ.getD i bN.zero).before=mZ (l.aQ.take i) (l.aQ.getD i bN.zero).name
  .have O:decide ((l.aQ.getD i bN.zero).before=mZ (l.aQ.take i) (l.aQ.getD i bN.zero).name)=true:=cQ H;cases V:b8 (l.aQ.getD i bN.zero).before (l.aQ.getD i bN.zero).after with
   |false=>exact⟨false,by simp only[dL,jO,cH,bZ,cI],λ h=>nomatch h⟩
   |true=>exact⟨true,by simp only[O,cR,fG,bZ,cI,cH,mF i (show i<4611686018427387904 by omega)],λ _=>⟨H,rfl⟩⟩
  .have O:decide ((l.aQ.getD i bN.zero).before=mZ (l.aQ.take i) (l.aQ.getD i bN.zero).name)=false:=fC H;exact⟨false,by simp only[O,dL,fY,cH,bZ,cI],λ h=>nomatch h⟩
def CC{body:Int->Option (Int⊕(Unit⊕Bool))}(n:Nat)(P:Nat->Prop)(h:∀i:Nat,i<n->∃b:Bool,body (i:Int)=some (if b=true then .inl ((i+1:Nat):Int)else .inr (.inr false))/\(b=true->P i))(U:body (n:Int)=some (.inr (.inl ()))):
  lY body 0=some (.inr false)\/lY body 0=some (.inl ())/\∀i,i<n->P i:=by
 obtain⟨x,O,H⟩:=nV (body:=body) (λ g=>∃i:Nat,g=i/\i<=n/\∀k,k<i->P k) (λ g=>n-g.toNat) (λ x=>x=.inr false\/x=.inl ()/\∀i,i<n->P i)
  (λ g ⟨i,K,L,hg⟩=>by
   subst K
   by_cases c:i<n
   .obtain⟨b,hb,Y⟩:=h i c;cases b with
    |false=>exact .inr ⟨_,hb,.inl rfl⟩
    |true=>exact .inl ⟨_,hb,⟨i+1,rfl,c,λ k B=>by
      rcases kD k i with h5|h5
      .exact hg k h5
      .have:k=i:=om
       subst this;exact Y rfl⟩,by simp only[Qm];omega⟩
   .have:i=n:=om
    subst this;exact .inr ⟨_,U,.inr ⟨rfl,hg⟩⟩) 0 ⟨0,rfl,by omega,λ k B=>om⟩
 rcases H with rfl|⟨rfl,H⟩
 .exact .inl O
 .exact .inr ⟨O,H⟩
def wY{α:Type}{l:List α}{z x:α}(h:x∈l):∃i,i<l.length/\l.getD i z=x:=by obtain⟨i,H,e⟩:=gD.1 h;exact⟨i,H,by rw[cD,cE H];exact e⟩
def CD(l:bA):∃b,uN l=some b/\(b=true->LedgerP l):=by
 unfold uN
 by_cases c:l.aQ.length<=72/\l.bH.length<=4
 .rw[bX (by simp;omega)];rcases CC l.aQ.length _ (λ i K=>cKq l c.1 i K) (by unfold GE;simp)with L|⟨L,V⟩
  .exact⟨false,by rw[L];rfl,by simp⟩
  .rw[L,eF];show∃b,GD l ()=some b/\_;unfold GD;obtain⟨U,Y,_⟩:=Ph l.aQ om;rw[Y,eF]
   by_cases O:(8:Int)<U.length
   .exact⟨false,by rw[cB (by simpa using O)],by simp⟩
   .rw[bX (by simpa using O)];rcases CC l.bH.length _ (λ i K=>(Wl l c.2 i).1 K) ((Wl l c.2 _).2 rfl)with H|⟨H,B⟩
    .exact⟨false,by rw[H];rfl,by simp⟩
    .refine⟨true,by rw[H];rfl,λ _=>⟨c.1,c.2,V,λ s F=>?_⟩⟩;obtain⟨i,K,rfl⟩:=wY (z:=bW.zero) F;exact B i K
 .exact⟨false,by rw[cB (by simp;omega)],by simp⟩
def cKt{α β:Type}{o:Option α}{f:α->β}{b:β}(h:(o.bind λ v=>some (f v))=some b):∃v,o=some v/\f v=b:=by
 cases o with
 |none=>cases h
 |some v=>exact⟨v,rfl,dY h⟩
def LH(e:aS):∃v,qQ e=some v/\v.2=vE e:=by have h:=H8 e;unfold Ah at h;exact cKt h
def LI{e:aS}{v:List aO×Bool}(h:qQ e=some v):v.1.length<=8:=by
 unfold qQ at h;obtain⟨v1,O,h⟩:=lZ h
 by_cases c:v1=0
 .rw[cB (by simpa using c)]at h;cases h;simp
 rw[bX (by simpa using c)]at h;obtain⟨v2,U,h⟩:=lZ h;cases v2 with
 |inl v2=>cases h;simp
 |inr v2=>
  simp only at h
  by_cases K:((!v2.2)||(decide (8<(v2.1.length:Int))))=true
  .rw[cB K]at h;cases h;simp
  .rw[bX K]at h;have L:v2.1.length<=8:=by
    simp only[dS,cC,lE]at K;omega
   have H:=VT v2 om
   by_cases d:dnN v2.1
   .rw[H.1 d]at h;have:GV v2 ()=some v:=h;unfold GV at this;cases this;exact L
   .rw[H.2 d]at h;cases h;simp
def cKw(e:aS)(L:List aO)(S:List Bool)(B:L.length<=1000):∃b,((lY (Gl e L S) 0).bind (λ|.inl z=>Nn z|.inr z=>some z))=some b/\((∀i,S.getD i false=false)->b=false):=by
 obtain⟨x,O,U⟩:=nV (body:=Gl e L S) (λ g=>∃i:Nat,g=i/\i<=L.length) (λ g=>L.length-g.toNat) (λ x=>∀b,x=.inr b->(∀i,S.getD i false=false)->b=false)
  (λ g ⟨i,K,V⟩=>by
   subst K;unfold Gl
   by_cases c:i<L.length
   .have H:0<=(i:Int)/\(i:Int)<(L.length:Int):=om
    simp only[H.1,H.2,cX,mL,cF,cH,Qm]
    by_cases d:L.getD i aO.zero=e.aZ
    .right;rw[cB (by simpa using d),gdp (by intro h;simp only[cC]at h;simp;omega)];exact⟨_,rfl,λ b hb Y=>by cases hb;rw[Y,hY]⟩
    .left;rw[bX (by simpa using d),mF i om];exact⟨_,rfl,⟨i+1,rfl,c⟩,by simp only[Qm];omega⟩
   .right;simp only[show¬(i:Int)<(L.length:Int)by omega,cP,bZ,cI];exact⟨_,rfl,λ b hb=>by cases hb⟩) 0 ⟨0,rfl,by omega⟩
 rw[O];cases x with
 |inl x=>exact⟨false,rfl,λ _=>rfl⟩
 |inr b=>exact⟨b,rfl,U b rfl⟩
def Wm:∀(n:Nat) (e:aS),_root_.SizeOf.sizeOf e<n->mQ e<=24->∀(L:List aO) (S:List Bool),L.length<=1000->∃b,fr_ref08_holds n e L S=some b/\(okE e=true->(∀i,S.getD i false=false)->b=false)
 |0,_,h,_,_,_,_=>om
 |n+1,e,h,hn,L,S,K=>by
  show∃b,Bd (fr_ref08_holds n) e L S=some b/\_;unfold Bd;have hl:=tC e.bG;have x0:=uS e
  by_cases c:e.k=0
  .rw[cB (by simpa using c)];obtain⟨b,O,U⟩:=cKw e L S K;exact⟨b,O,λ _=>U⟩
  .rw[bX (by simpa using c)];obtain⟨x,O,U⟩:=nV (body:=JG (fr_ref08_holds n) e L S) (λ g=>∃i:Nat,g.2=i/\i<=e.bG.length/\0<=g.1/\g.1<=i/\(okL e.bG=true->(∀i,S.getD i false=false)->g.1=0)) (λ g=>e.bG.length-g.2.toNat)
    (λ x=>okL e.bG=true->(∀i,S.getD i false=false)->x=0)
    (λ g ⟨i,V,hle,Z,h4,hg⟩=>by
     obtain⟨m,g2⟩:=g;simp only at V Z h4 hg;subst V;unfold JG
     by_cases c:i<e.bG.length
     .left;have F:0<=(i:Int)/\(i:Int)<(e.bG.length:Int):=om
      simp only[F.1,F.2,cX,mL,cF,cH,Qm];have Y:=mS (z:=aS.zero) c;obtain⟨b,e1,e2⟩:=Wm n _ (yS h Y) (by have:=H5 Y;omega) L S K;rw[e1,eF,mF i om];cases b with
      |true=>rw[cB rfl,mB om om];exact⟨_,rfl,⟨i+1,rfl,c,by simp only;omega,by simp only;omega,λ H B=>by have:=e2 (Ic H Y) B;cases this⟩,by simp only[Qm];omega⟩
      |false=>rw[bX Om];exact⟨_,rfl,⟨i+1,rfl,c,Z,by simp only;omega,hg⟩,by simp only[Qm];omega⟩
     .right;simp only[show¬(i:Int)<(e.bG.length:Int)by omega,cP,bZ,cI];exact⟨_,rfl,hg⟩) (0,0) ⟨0,rfl,by omega,by simp,by simp,λ _ _=>rfl⟩
   rw[O,eF];refine⟨_,rfl,λ H B=>?_⟩
   by_cases M:e.bG.length=0
   .exact absurd ((H6 M).1 H).1 c
   .have h5:=(H7 M).1 H;rw[U h5.2 B];exact fC om
def Wn{e:aS}(h:vE e=true):mQ e<=24:=by have:=(LA h).2;unfold fitE at this;simp only[bY,cC]at this;omega
def Pj{e:aS}(h:vE e=true){L:List aO}(H:L.length<=1000)(S:List Bool):∃b,f_ref08_holds e L S=some b/\((∀i,S.getD i false=false)->b=false):=by unfold f_ref08_holds;obtain⟨b,O,U⟩:=Wm _ e (eT _) (Wn h) L S H;exact⟨b,O,U (LA h).1⟩
def Pk{e:aS}(h:vE e=true)(S:List Bool):∃b,Aj e S=some b/\((∀i,S.getD i false=false)->b=false):=by unfold Aj;obtain⟨v,H,O⟩:=LH e;rw[H,eF,O,h];obtain⟨b,U,Y⟩:=Pj h (L:=v.1) (by have:=LI H;omega) S;rw[cB rfl,U];exact⟨b,by simp,Y⟩
def CE(e:aS):∃l,vJ e=some l/\l.length<=8/\qQ e=some (l,vE e):=by unfold vJ;obtain⟨v,H,O⟩:=LH e;exact⟨v.1,by rw[H];rfl,LI H,by rw[H,<-O]⟩
def cL2(S:List Bool)(v:List aO×Bool)(V:v.1.length<=8)(s0:List Bool)(H:s0.length=v.1.length):∃x,lY (Hh S v) (0,s0)=some x/\x.length=v.1.length:=
 nV (body:=Hh S v) (λ g=>∃i:Nat,g.1=i/\i<=v.1.length/\g.2.length=v.1.length) (λ g=>v.1.length-g.1.toNat) (λ x=>x.length=v.1.length)
  (λ g ⟨i,K,L,hg⟩=>by
   obtain⟨U,Y⟩:=g;simp only at K hg;subst K;unfold Hh
   by_cases c:i<v.1.length
   .left;have O:0<=(i:Int)/\(i:Int)<(v.1.length:Int):=om
    simp only[O.2,cF,cH,Qm];rw[gdp (by intro h;simp only[cC]at h;omega),gdp om,mF i om];exact⟨_,rfl,⟨i+1,rfl,c,by simp only[dW];exact hg⟩,by simp only[Qm];omega⟩
   .right;simp only[show¬(i:Int)<(v.1.length:Int)by omega,cP,bZ,cI];exact⟨_,rfl,hg⟩) (0,s0) ⟨0,rfl,by omega,H⟩
def cL3{e:aS}(h:vE e=true)(v:List aO×Bool)(Y:v.1.length<=8)(s0:List Bool)(H:s0.length=v.1.length):∃x,lY (Hg e v) (IntKind.i64.wrap ((v.1.length:Int)-1),s0)=some x/\x.length=v.1.length:=
 nV (body:=Hg e v) (λ g=>-1<=g.1/\g.1<(v.1.length:Int)/\g.2.length=v.1.length) (λ g=>(g.1+1).toNat) (λ x=>x.length=v.1.length)
  (λ g ⟨K,V,hg⟩=>by
   obtain⟨i,s⟩:=g;simp only at K V hg;unfold Hg
   by_cases c:0<=i
   .left;have O:IntKind.i64.wrap (i-1)=i-1:=mB om om;rw[cB (by simpa using c)];simp only[O];rw[gdp om]
    by_cases d:s.getD i.toNat false=true
    .rw[cB d,gdp om];obtain⟨b,U,_⟩:=Pj h (L:=v.1) om (s.set i.toNat false);rw[U,eF,gdp om];refine⟨(i-1,_),rfl,⟨by simp only;omega,by simp only;omega,?_⟩,by simp only;omega⟩;simp only[dW];exact hg
    .rw[bX d];exact⟨(i-1,s),rfl,⟨by simp only;omega,by simp only;omega,hg⟩,by simp only;omega⟩
   .right;simp only[c,cP,bZ,cI];exact⟨_,rfl,hg⟩) _ ⟨by simp only;rw[mB om om];omega,by simp only;rw[mB om om];omega,H⟩
def cL4{e:aS}(h:vE e=true)(S:List Bool){l:List aO}(K:qQ e=some (l,vE e)):∃x,Al e S=some x/\x.length=l.length:=by
 unfold Al;have V:=LI K;simp only at V;rw[K,eF,gdp (by simp only;omega),h,cB rfl];obtain⟨b,H,_⟩:=Pj h (L:=l) om S;simp only[H,qm];cases b with
 |false=>exact⟨_,rfl,by simp⟩
 |true=>simp only[cR,fG,bZ,cI];obtain⟨x,O,U⟩:=cL2 S (l,true) (by simp only;omega) (List.replicate ((l.length:Int).toNat) false) (by simp);rw[O,eF];unfold KI;obtain⟨y,Y,B⟩:=cL3 h (l,true) (by simp only;omega) x U;rw[Y];exact⟨y,rfl,B⟩
def Pl(l:List aG)(p:aK)(L:l.length<=1000):∃v,xQ l p=some v/\(v=-1/\(∀x∈l,x.aM≠p)\/∃i:Nat,v=i/\i<l.length/\(l.getD i aG.zero).aM=p):=by
 unfold xQ;rw[OU l aG.zero (λ a=>decide (a.aM=p)) (λ i V=>by
  unfold Jn;have H:0<=(i:Int)/\(i:Int)<(l.length:Int):=om
  simp only[H.1,H.2,cX,mL,cF,cH,lF,mF i (show i<4611686018427387904 by omega)];split<;>rfl) (by unfold Jn;simp)]
 cases h:l.findIdx? λ a=>decide (a.aM=p)with
 |none=>refine⟨-1,rfl,.inl ⟨rfl,λ x K e=>?_⟩⟩;have:=kI.1 h x K;simp[e]at this
 |some i=>obtain⟨O,U,_⟩:=iD.1 h;refine⟨i,rfl,.inr ⟨i,rfl,O,?_⟩⟩;rw[cD,cE O];exact gH U
def Wo(t:List aA)(K:t.length<=1000):x3 t=some (t.map (·.aB)):=by
 unfold x3;rw[AC t aA.zero (·.aB) [] om (by simp) (λ i s L O=>by
  unfold JF;have H:0<=(i:Int)/\(i:Int)<(t.length:Int):=om
  simp only[H.1,H.2,cX,mL,cF,cH,lF,mF i (show i<4611686018427387904 by omega)];rw[gdp om]) (λ s=>by unfold JF;simp)]
 rfl
def LJ{α β:Type}(l:List α)(z:α)(f:α->Option β){body:Int×List β->Option ((Int×List β)⊕List β)}(L:l.length<=1000000)
  (hb:∀(i:Nat) (s:List β),i<l.length->s.length<=1000000->body ((i:Int),s)=some (.inl (((i+1:Nat):Int),sH s (f (l.getD i z))))) (O:∀s,body ((l.length:Int),s)=some (.inr s)):lY body (0,[])=some (l.filterMap f):=by
 have H:=rD (body:=body) l z (λ i (s:List β)=>((i:Int),s)) (λ i a s=>some (.inl (sH s (f a)))) (λ s=>s) (λ i s=>s.length<=i)
  (λ i s K U=>⟨by rw[hb i s K om];rfl,λ Y h=>by simp only[cJ,fN]at h;subst h;have:=bVx s (f (l.getD i z));omega⟩) (λ s U=>O s) [] (by simp)
 rw[show((0,[]):Int×List β)=(λ(i:Nat) (s:List β)=>((i:Int),s)) 0 []from rfl,H,E2 f];simp
def n7(p:aK)(q:aA):Option aO:=if getH q.aT p=aC.zero then none else some ⟨q.aB.name,getH q.aT p⟩
def Fm(p:aK)(q:aA):Option aO:=if(nH q p).2=true then some ⟨q.aB.name,(nH q p).1⟩else none
def sayF(l:List bN)(n:ByteArray):Option aO:=if mZ l n=aC.zero then none else some ⟨n,mZ l n⟩
def AH{t:List aA}(h:Lens t){i:Nat}(hi:i<t.length):(t.getD i aA.zero).aT.length<=1000/\(t.getD i aA.zero).aN.length<=1000/\(t.getD i aA.zero).aW.length<=1000:=h _ (mS hi)
def cLb(t:List aA)(p:aK)(V:t.length<=1000)(O:Lens t):Bv t p=some (t.filterMap (n7 p)):=by
 unfold Bv;rw[LJ t aA.zero (n7 p) om (λ i s K L=>by
  unfold JZ;have H:0<=(i:Int)/\(i:Int)<(t.length:Int):=om
  have Y:=AH O K;have U:s.length+1<=4294967296:=om
  simp only[H.1,H.2,U,cX,mL,cF,cH,lF,mF i (show i<4611686018427387904 by omega),wS (t.getD i aA.zero) p om,eF,yL];unfold n7
  by_cases c:getH (t.getD i aA.zero).aT p=aC.zero
  .rw[cB c,bX (by rw[(vO _).2 c];decide)];rfl
  .rw[bX c,cB (by rw[(yO _).2 c];rfl)];rfl) (λ s=>by unfold JZ;simp)]
 rfl
def cLc(t:List aA)(p:aK)(V:t.length<=1000)(O:Lens t):By t p=some (t.filterMap (Fm p)):=by
 unfold By;rw[LJ t aA.zero (Fm p) om (λ i s K L=>by
  unfold J5;have H:0<=(i:Int)/\(i:Int)<(t.length:Int):=om
  have Y:=AH O K;have U:s.length+1<=4294967296:=om
  simp only[H.1,H.2,U,cX,mL,cF,cH,lF,mF i (show i<4611686018427387904 by omega),Ay (t.getD i aA.zero) p om om,eF];unfold Fm;split<;>rfl) (λ s=>by unfold J5;simp)]
 rfl
def cLd(l:bA)(L:l.aQ.length<=1000):∃H:List ByteArray,xR l.aQ=some H/\(∀n,n∈H↔∃e∈l.aQ,e.name=n)/\Bi l=some (H.filterMap (sayF l.aQ))/\H.length<=l.aQ.length:=by
 obtain⟨H,U,Y,O⟩:=Ph l.aQ om;refine⟨H,U,O,?_,Y⟩;unfold Bi;rw[U,eF,LJ H ⟨#[]⟩ (sayF l.aQ) om (λ i s V K=>by
  unfold JM;have O:0<=(i:Int)/\(i:Int)<(H.length:Int):=om
  have B:s.length+1<=4294967296:=om
  simp only[O.1,O.2,B,cX,mL,cF,cH,lF,mF i (show i<4611686018427387904 by omega),AG l.aQ _ om,eF];unfold sayF
  by_cases c:mZ l.aQ (H.getD i ⟨#[]⟩)=aC.zero
  .rw[cB c,bX (by rw[c];decide)];rfl
  .rw[bX c,cB (by rw[fC c];rfl)];rfl) (λ s=>by unfold JM;simp)]
 rfl
def cLe(a b:List aO)(H:a.length<=1000000):xO a b=some (decide (a=b)):=by
 unfold xO
 by_cases h:a.length=b.length
 .rw[bX (by simp[h])];exact N7 a b aO.zero om h (λ i=>rfl)
 .have:¬a=b:=λ e=>h (by rw[e]);rw[cB (by simp;omega),fC this]
def Pm(t:List aA)(p:aK)(e:aS)(hl:t.length<=1000)(F:Lens t):∃O L,i9 t p e=some O/\qQ e=some (L,vE e)/\O.length=L.length/\(t=[]->∀i,O.getD i false=false):=by
 obtain⟨L,M,h2,H⟩:=CE e;unfold i9;rw[M,eF,gdp om];obtain⟨x,U,Z,B⟩:=nV (body:=KK t p L) (λ g=>∃i:Nat,g.1=i/\i<=L.length/\g.2.length=L.length/\(t=[]->∀i,g.2.getD i false=false)) (λ g=>L.length-g.1.toNat) (λ x=>x.length=L.length/\(t=[]->∀i,x.getD i false=false))
  (λ g ⟨i,V,hle,hg,K⟩=>by
   obtain⟨g1,g2⟩:=g;simp only at V hg K;subst V;unfold KK
   by_cases c:i<L.length
   .left;have H:0<=(i:Int)/\(i:Int)<(L.length:Int):=om
    have U:(i:Int)<(g2.length:Int):=om
    simp only[H.1,H.2,U,cX,mL,cF,cH,Qm,mF i (show i<4611686018427387904 by omega),m4 t _ (show t.length<=1000000 by omega),qm];rcases H0 (t:=t) (nm:=(L.getD i aO.zero).name)with e|⟨k,e,Y,_⟩
    .rw[e,bX Om];exact⟨_,rfl,⟨i+1,rfl,c,hg,K⟩,by simp only[Qm];omega⟩
    .have B:=AH F Y;rw[e,cB (by simp),gdp om,gdp om];simp only[Qm];rw[wS _ _ om,eF];exact⟨_,rfl,⟨i+1,rfl,c,by simp only[dW];exact hg,λ h=>by rw[h]at Y;cases Y⟩,by simp only[Qm];omega⟩
   .right;simp only[show¬(i:Int)<(L.length:Int)by omega,cP,bZ,cI];exact⟨_,rfl,hg,K⟩) (0,List.replicate ((L.length:Int).toNat) false) ⟨0,rfl,by omega,by simp,λ _ i=>by
     simp only[cD,jJ];split<;>rfl⟩
 exact⟨x,L,by rw[U];rfl,H,Z,B⟩
def Ik(q:aA)(x:aG)(L:List aO):Prop:=
 (∃a∈L,a.name=q.aB.name/\covA q.aB (mZ x.bF.aQ q.aB.name) a.aJ=false/\
  ((nH q x.aM).2=false/\getH q.aT x.aM=rG q.aB (mZ x.bF.aQ q.aB.name) a.aJ\/getH q.aT x.aM=mZ x.bF.aQ q.aB.name))\/
 (getH q.aT x.aM=mZ x.bF.aQ q.aB.name/\(nH q x.aM).2=false)
def cLh(q:aA)(x:aG)(K:q.aW.length<=1000):∃r,lY (Eh q x) 0=some r/\(r=.inl ()\/r=.inr false):=by
 rcases CC (body:=Eh q x) q.aW.length (λ _=>True) (λ i L=>by
  unfold Eh;have H:0<=(i:Int)/\(i:Int)<(q.aW.length:Int):=om
  simp only[H.1,H.2,cX,fD,mL,cF,cH,Qm,mF i (show i<4611686018427387904 by omega)];split
  .exact⟨false,rfl,trivial⟩
  .exact⟨true,rfl,trivial⟩) (by unfold Eh;simp)with h|⟨h,_⟩
 .exact⟨_,h,.inr rfl⟩
 .exact⟨_,h,.inl rfl⟩
def cLi(q:aA)(x:aG)(L:List aO)(he:x.bF.aQ.length<=1000)(h0:q.aT.length<=1000)(h1:q.aN.length<=1000)(Y:q.aW.length<=1000)(hL:L.length<=1000):
  ∃b,BV q x L=some b/\(b=true->Ik q x L):=by
 unfold BV;rw[AG _ _ om,eF,wS _ _ om,eF,Ay _ _ om om,eF];obtain⟨r,H,B⟩:=nV (body:=Ei q x L (mZ x.bF.aQ q.aB.name) (getH q.aT x.aM) (nH q x.aM)) (λ g=>∃i:Nat,g=i/\i<=L.length) (λ g=>L.length-g.toNat)
  (λ r=>r=.inl ()\/∃b,r=.inr b/\(b=true->Ik q x L))
  (λ g ⟨i,K,V⟩=>by
   subst K;unfold Ei
   by_cases c:i<L.length
   .have H:0<=(i:Int)/\(i:Int)<(L.length:Int):=om
    simp only[H.1,H.2,cX,mL,cF,cH,Qm,mF i (show i<4611686018427387904 by omega),LG]
    by_cases d:((!decide ((L.getD i aO.zero).name=q.aB.name))||(rZ q.aB (mZ x.bF.aQ q.aB.name) ((L.getD i aO.zero).aJ)))=true
    .rw[cB d];exact .inl ⟨_,rfl,⟨i+1,rfl,c⟩,by simp only[Qm];omega⟩
    .rw[bX d];right;simp only[dS,dA,dF,lE,kO,gO]at d;obtain⟨O,U⟩:=d;have hm:=mS (z:=aO.zero) c;rw[UR,eF];cases Z:(nH q x.aM).2 with
     |false=>simp only[dL,cH];refine⟨_,rfl,.inr ⟨_,rfl,λ hb=>.inl ⟨_,hm,O,U,.inl ⟨Z,gH hb⟩⟩⟩⟩
     |true=>
      simp only[cR,bZ,cI];obtain⟨r,F,M⟩:=cLh q x Y;rw[F];rcases M with rfl|rfl
      .refine⟨_,rfl,.inr ⟨_,rfl,λ hb=>.inl ⟨_,hm,O,U,.inr ?_⟩⟩⟩;simp only[bY,cC]at hb;exact hb.1
      .exact⟨_,rfl,.inr ⟨false,rfl,λ h=>nomatch h⟩⟩
   .right;simp only[show¬(i:Int)<(L.length:Int)by omega,cP,bZ,cI];exact⟨_,rfl,.inl rfl⟩) 0 ⟨0,rfl,by omega⟩
 rw[H];rcases B with rfl|⟨b,rfl,hb⟩
 .refine⟨_,rfl,λ h=>.inr ?_⟩;simp only[bY,cC,dA]at h;exact h
 .exact⟨b,rfl,hb⟩
def cLj(e:aS):∃b,A7 e aS.zero=some b:=by
 unfold A7;show∃b,t7 (Dm _) e aS.zero=some b;unfold t7;split
 .exact⟨_,rfl⟩
 .rename_i h;have:e.bG.length=0:=by
   simp only[dS,lE,dA,dF,kO]at h;have H:=h.2;simp only[aS.zero,Ym]at H;omega
  rw[mJ];unfold F4;simp only[this,Int.natCast_zero,show¬(0:Int)<0 by omega,cP,bZ,cI];exact⟨_,rfl⟩
def cLk(l:List aI)(nm:ByteArray)(V:l.length<=1000):∃v,A3 l nm=some v/\(v.2=true->v.1∈l/\v.1.name=nm):=by
 unfold A3;obtain⟨r,H,O⟩:=nV (body:=Jf l nm) (λ g=>∃i:Nat,g=i/\i<=l.length) (λ g=>l.length-g.toNat) (λ r=>r=.inl ()\/∃x,r=.inr (x,true)/\x∈l/\x.name=nm)
  (λ g ⟨i,K,L⟩=>by
   subst K;unfold Jf
   by_cases c:i<l.length
   .have H:0<=(i:Int)/\(i:Int)<(l.length:Int):=om
    simp only[H.1,H.2,cX,mL,cF,cH,Qm,mF i (show i<4611686018427387904 by omega),LG]
    by_cases d:(l.getD i aI.zero).name=nm
    .rw[cB (cQ d)];exact .inr ⟨_,rfl,.inr ⟨_,rfl,mS c,d⟩⟩
    .rw[bX (by simpa using d)];exact .inl ⟨_,rfl,⟨i+1,rfl,c⟩,by simp only[Qm];omega⟩
   .right;simp only[show¬(i:Int)<(l.length:Int)by omega,cP,bZ,cI];exact⟨_,rfl,.inl rfl⟩) 0 ⟨0,rfl,by omega⟩
 rw[H];rcases O with rfl|⟨x,rfl,U⟩
 .exact⟨_,rfl,λ h=>nomatch h⟩
 .exact⟨_,rfl,λ _=>U⟩
def cLl(l:List aI)(a:aO)(L:l.length<=1000):∃v,Es l a=some v/\(v=0->∃r∈l,r.name=a.name/\mM r a.aJ=true):=by
 unfold Es;rw[Wg,eF];cases catV l with
 |false=>exact⟨2,rfl,λ h=>nomatch h⟩
 |true=>
  obtain⟨v,O,H⟩:=cLk l a.name L;simp only[cR,bZ,cI,O,qm];cases K:v.2 with
  |false=>exact⟨10,rfl,λ h=>nomatch h⟩
  |true=>
   simp only[cR,bZ,cI];cases U:qP v.1 a.aJ with
   |false=>exact⟨12,rfl,λ h=>nomatch h⟩
   |true=>exact⟨0,rfl,λ _=>⟨v.1,(H K).1,(H K).2,by rw[<-At];exact U⟩⟩
def Wp(l:List aI)(e:aS)(K:l.length<=1000):∃v,Ai l e=some v/\(v=0->∀L b,qQ e=some (L,b)->∀a∈L,∃r∈l,r.name=a.name/\mM r a.aJ=true):=by
 unfold Ai;obtain⟨w,U,h2⟩:=LH e;have hw:=LI U;rw[U,eF];cases H:w.2 with
 |false=>exact⟨1,rfl,λ h=>nomatch h⟩
 |true=>
  simp only[cR,bZ,cI];obtain⟨r,Y,h5⟩:=nV (body:=KA l w) (λ g=>∃i:Nat,g=i/\i<=w.1.length/\∀k,k<i->∃r∈l,r.name=(w.1.getD k aO.zero).name/\mM r (w.1.getD k aO.zero).aJ=true) (λ g=>w.1.length-g.toNat)
   (λ r=>(∃v,r=.inr v/\v≠0)\/r=.inl ()/\∀k,k<w.1.length->∃r∈l,r.name=(w.1.getD k aO.zero).name/\mM r (w.1.getD k aO.zero).aJ=true)
   (λ g ⟨i,V,Z,hg⟩=>by
    subst V;unfold KA
    by_cases c:i<w.1.length
    .have H:0<=(i:Int)/\(i:Int)<(w.1.length:Int):=om
     obtain⟨v,B,F⟩:=cLl l (w.1.getD i aO.zero) K;simp only[H.1,H.2,cX,mL,cF,cH,Qm,mF i (show i<4611686018427387904 by omega),B,qm]
     by_cases d:v=0
     .rw[bX (by simp[d])];refine .inl ⟨_,rfl,⟨i+1,rfl,c,λ k O=>?_⟩,by simp only[Qm];omega⟩;rcases kD k i with h5|h5
      .exact hg k h5
      .have:k=i:=om
       subst this;exact F d
     .rw[cB (by simp[d])];exact .inr ⟨_,rfl,.inl ⟨v,rfl,d⟩⟩
    .have:i=w.1.length:=om
     subst this;right;simp only[show¬(w.1.length:Int)<(w.1.length:Int)by omega,cP,bZ,cI];exact⟨_,rfl,.inr ⟨rfl,hg⟩⟩) 0 ⟨0,rfl,by omega,λ k O=>om⟩
  rw[Y];rcases h5 with⟨v,rfl,hv⟩|⟨rfl,hg⟩
  .exact⟨v,rfl,λ h=>absurd h hv⟩
  .refine⟨0,rfl,λ _ L b M a ha=>?_⟩;cases M;obtain⟨k,O,rfl⟩:=wY (z:=aO.zero) ha;exact hg k O
structure ProcC (t:List aA) (x:aG):Prop where
 pv:mP x.aM=true
 gen:0<=x.gen/\x.gen<=1073741824
 led:LedgerP x.bF
 held:∀n,mZ x.bF.aQ n≠aC.zero->∃q∈t,q.aB.name=n/\mM q.aB (mZ x.bF.aQ n)=true
 wait:x.bI=true->vE x.bJ.bU=true/\∀L b,qQ x.bJ.bU=some (L,b)->(∀a∈L,∃q∈t,q.aB.name=a.name/\mM q.aB a.aJ=true)/\∀q∈t,Ik q x L
 run:x.bI=false->∀q∈t,getH q.aT x.aM=mZ x.bF.aQ q.aB.name/\(nH q x.aM).2=false
structure CenP (c:bD):Prop where
 t:ValidT c.aF
 len:c.aD.length<=8
 each:∀x∈c.aD,ProcC c.aF x
 asc:c.aD.Pairwise λ a b=>ltP a.aM b.aM
 aD:∀p∈oH c.aF,∃x∈c.aD,x.aM=p
def ValidT.inj{t:List aA}(h:ValidT t){q H:aA}(O:q∈t)(U:H∈t)(e:q.aB.name=H.aB.name):q=H:=by obtain⟨i,K,rfl⟩:=wY (z:=aA.zero) O;obtain⟨j,Y,rfl⟩:=wY (z:=aA.zero) U;rw[OV h.asc K Y e]
def ValidT.lens'{t:List aA}(h:ValidT t):t.length<=1000/\Lens t:=⟨by have:=h.len;omega,h.lens⟩
def Wq{l:List bN}{n:ByteArray}(h:mZ l n≠aC.zero):∃e∈l,e.name=n:=by
 have:∀(l:List bN) (a:aC),(∀e∈l,e.name≠n)->l.foldl (sayE n) a=a:=by
  intro l;induction l with
  |nil=>intro a _;rfl
  |cons e l O=>
   intro a H;rw[lP];have:sayE n a e=a:=by unfold sayE;rw[bX (H e (.head _))]
   rw[this];exact O a λ x K=>H x (.tail _ K)
 by_cases c:∃e∈l,e.name=n
 .exact c
 .exact absurd (this l aC.zero λ e U Y=>c ⟨e,U,Y⟩) h
def cLo(c:bD)(L:c.aF.length<=1000)(v:List aO)(V:v.length<=1000):
  lY (Eu c v) 0=some (.inr false)\/lY (Eu c v) 0=some (.inl ())/\∀i,i<v.length->∃q∈c.aF,q.aB.name=(v.getD i aO.zero).name/\mM q.aB (v.getD i aO.zero).aJ=true:=
 CC v.length _ (λ i Y=>by
  unfold Eu;have H:0<=(i:Int)/\(i:Int)<(v.length:Int):=om
  simp only[H.1,H.2,cX,fD,mL,cF,cH,Qm,mF i (show i<4611686018427387904 by omega),m4 c.aF _ (show c.aF.length<=1000000 by omega),qm];rcases H0 (t:=c.aF) (nm:=(v.getD i aO.zero).name)with e|⟨k,e,O,U⟩
  .refine⟨false,?_,λ h=>nomatch h⟩;rw[e,gdp (by intro h;exact absurd h Om)];rfl
  .rw[e,gdp (by intro _;omega)];simp only[Qm,show¬(k:Int)<0 by omega,cP,dT];cases K:qP (c.aF.getD k aA.zero).aB (v.getD i aO.zero).aJ with
   |false=>exact⟨false,rfl,λ h=>nomatch h⟩
   |true=>exact⟨true,rfl,λ _=>⟨_,mS O,U,by rw[<-At];exact K⟩⟩) (by unfold Eu;simp)
def cLp(c:bD)(x:aG)(L:List aO)(F:L.length<=8)(O:x.bF.aQ.length<=1000)(V:c.aF.length<=1000)(U:Lens c.aF):
  lY (Et c x L) 0=some (.inr false)\/lY (Et c x L) 0=some (.inl ())/\∀i,i<c.aF.length->Ik (c.aF.getD i aA.zero) x L:=
 CC c.aF.length _ (λ i K=>by
  unfold Et;have H:0<=(i:Int)/\(i:Int)<(c.aF.length:Int):=om
  have M:=AH U K;obtain⟨b,Y,B⟩:=cLi (c.aF.getD i aA.zero) x L O om om om om;simp only[H.1,H.2,cX,fD,mL,cF,cH,Qm,mF i (show i<4611686018427387904 by omega),Y,qm];cases b with
  |false=>exact⟨false,rfl,λ h=>nomatch h⟩
  |true=>exact⟨true,rfl,λ _=>B rfl⟩) (by unfold Et;simp)
def cLq(c:bD)(x:aG)(hv:ValidT c.aF):∃b,An c x=some b/\(b=true->ProcC c.aF x):=by
 obtain⟨K,V⟩:=hv.lens';unfold An;obtain⟨bl,l1,l2⟩:=CD x.bF;rw[l1,wQ];cases hp:mP x.aM with
 |false=>exact⟨false,rfl,λ h=>nomatch h⟩
 |true=>
 by_cases cc:x.cost<1\/1000<x.cost
 .refine⟨false,?_,λ h=>nomatch h⟩;rcases cc with h|h<;>simp[h]
 have c1:¬x.cost<1:=λ h=>cc (.inl h);have c2:¬1000<x.cost:=λ h=>cc (.inr h);simp only[c1,c2,cP,cR,fG,dL,cH,qm,dT];cases bl with
 |false=>exact⟨false,rfl,λ h=>nomatch h⟩
 |true=>
 have O:=l2 rfl
 by_cases cg:x.gen<0\/1073741824<x.gen
 .refine⟨false,?_,λ h=>nomatch h⟩;rcases cg with h|h<;>simp[h]
 have g1:¬x.gen<0:=λ h=>cg (.inl h);have g2:¬1073741824<x.gen:=λ h=>cg (.inr h);simp only[g1,g2,cP,cR,fG,bZ,cI];obtain⟨Y,n1,n2,n3,n4⟩:=cLd x.bF (by have:=O.le;omega);have u0:=O.le;have h0:(Y.filterMap (sayF x.bF.aQ)).length<=1000:=by have:=gQ (sayF x.bF.aQ) Y;omega
 rw[n3,eF];rcases cLo c K _ h0 with h1|⟨h1,h2⟩
 .exact⟨false,by rw[h1];rfl,λ h=>nomatch h⟩
 have H:∀n,mZ x.bF.aQ n≠aC.zero->∃q∈c.aF,q.aB.name=n/\mM q.aB (mZ x.bF.aQ n)=true:=λ n hn=>by have hm:(⟨n,mZ x.bF.aQ n⟩:aO)∈Y.filterMap (sayF x.bF.aQ):=fZ.2 ⟨n,(n2 n).2 (Wq hn),by unfold sayF;rw[bX hn]⟩;obtain⟨i,hi,e⟩:=wY (z:=aO.zero) hm;have:=h2 i hi;rw[e]at this;exact this
 rw[h1,eF];show∃b,Hi c x _ ()=some b/\_;unfold Hi;have x0:(c.aF.filterMap (n7 x.aM)).length<=1000:=by have:=gQ (n7 x.aM) c.aF;omega
 cases hw:x.bI with
 |false=>
  simp only[dL,cH];obtain⟨b1,s1⟩:=cLj x.bJ.bU;have sr:∃b,DF x.bJ {bO.zero with}=some b:=by unfold DF;rw[show({bO.zero with}:bO).bU=aS.zero from rfl,s1];exact⟨_,rfl⟩
  obtain⟨b2,s2⟩:=sr;rw[s2,eF,cLb _ _ K V,cLc _ _ K V]
  by_cases c3:(b2&&decide (x.since=0))=true
  .simp only[c3,cH,qm,cLe _ _ (show(Y.filterMap (sayF x.bF.aQ)).length<=1000000 by omega),cN]
   by_cases Z:Y.filterMap (sayF x.bF.aQ)=c.aF.filterMap (n7 x.aM)
   .simp only[Z,cF,cH,qm,cN];refine⟨_,rfl,λ hb=>⟨hp,by omega,O,H,λ h=>(by rw[hw]at h;cases h),λ _ q U=>?_⟩⟩;have hb:(c.aF.filterMap (Fm x.aM)).length=0:=by have:=gH hb;omega
    constructor
    .by_cases z1:getH q.aT x.aM=aC.zero
     .by_cases z2:mZ x.bF.aQ q.aB.name=aC.zero
      .rw[z1,z2]
      .have hm:(⟨q.aB.name,mZ x.bF.aQ q.aB.name⟩:aO)∈Y.filterMap (sayF x.bF.aQ):=fZ.2 ⟨_,(n2 _).2 (Wq z2),by unfold sayF;rw[bX z2]⟩;rw[Z]at hm;obtain⟨q',y0,e⟩:=fZ.1 hm;unfold n7 at e
       by_cases F:getH q'.aT x.aM=aC.zero
       .rw[cB F]at e;cases e
       .rw[bX F]at e;simp only[cJ,aO.mk.injEq]at e;have:=hv.inj y0 U e.1;subst this;exact absurd z1 F
     .have hm:(⟨q.aB.name,getH q.aT x.aM⟩:aO)∈c.aF.filterMap (n7 x.aM):=fZ.2 ⟨q,U,by unfold n7;rw[bX z1]⟩;rw[<-Z]at hm;obtain⟨n,hn,e⟩:=fZ.1 hm;unfold sayF at e
      by_cases F:mZ x.bF.aQ n=aC.zero
      .rw[cB F]at e;cases e
      .rw[bX F]at e;simp only[cJ,aO.mk.injEq]at e;rw[<-e.1];exact e.2.symm
    .cases hq2:(nH q x.aM).2 with
     |false=>rfl
     |true=>have:(⟨q.aB.name,(nH q x.aM).1⟩:aO)∈c.aF.filterMap (Fm x.aM):=fZ.2 ⟨q,U,by unfold Fm;rw[cB hq2]⟩;rw[dB hb]at this;cases this
   .simp only[Z,cP,bZ,cI,qm,fA];exact⟨false,rfl,λ h=>nomatch h⟩
  .simp only[c3,cI,qm,bZ,fA];exact⟨false,rfl,λ h=>nomatch h⟩
 |true=>
  simp only[cR,bZ,cI];have v7:∃b,vK x.bJ=some b/\(b=true->vE x.bJ.bU=true):=by unfold vK;rw[H8,eF];refine⟨_,rfl,λ h=>?_⟩;simp only[bY]at h;exact h.1.1.1.1
  obtain⟨b7,v1,v2⟩:=v7;rw[v1,eF];cases b7 with
  |false=>exact⟨false,rfl,λ h=>nomatch h⟩
  |true=>
  have M:=v2 rfl;obtain⟨v9,r1,r2⟩:=Wp (c.aF.map (·.aB)) x.bJ.bU (by simpa using K);simp only[cH,Wo _ K,qm,r1,cR,dT]
  by_cases c9:v9=0
  .obtain⟨bs,L,q1,q2,_⟩:=Pm c.aF x.aM x.bJ.bU K V;obtain⟨z0,q3,_⟩:=Pk M bs;rw[q1];generalize hB:((((!decide (v9=0))||(decide (x.since<0)))||(decide (c.now<x.since)))||((!decide (x.bJ.limit=0))&&(decide ((IntKind.i64.wrap (x.since+x.bJ.limit))<=c.now))))=B;cases B with
   |true=>exact⟨false,rfl,λ h=>nomatch h⟩
   |false=>
    simp only[dL,cH,qm,q3,dT];cases z0 with
    |true=>exact⟨false,rfl,λ h=>nomatch h⟩
    |false=>
     simp only[bZ,cI];obtain⟨l',a1,a2,a3⟩:=CE x.bJ.bU;rw[a1,eF];rcases cLp c x l' a2 om K V with h5|⟨h5,h6⟩
     .exact⟨false,by rw[h5];rfl,λ h=>nomatch h⟩
     .refine⟨true,by rw[h5];rfl,λ _=>⟨hp,by omega,O,H,λ _=>⟨M,λ L b hL=>?_⟩,λ h=>(by rw[hw]at h;cases h)⟩⟩;rw[a3]at hL;cases hL;refine⟨λ a ha=>?_,λ q U=>?_⟩
      .obtain⟨r,hr,e1,e2⟩:=r2 c9 _ _ a3 a ha;obtain⟨q,U,rfl⟩:=cS.1 hr;exact⟨q,U,e1,e2⟩
      .obtain⟨i,hi,rfl⟩:=wY (z:=aA.zero) U;exact h6 i hi
  .simp only[c9,cP,dL,fY,cR,bZ,cI,cH,qm];exact⟨false,rfl,λ h=>nomatch h⟩
def cLr(c:bD)(K:c.aD.length<=8)(v:List aK)(L:v.length<=1000):
  lY (Ew c v) 0=some (.inr false)\/lY (Ew c v) 0=some (.inl ())/\∀i,i<v.length->∃x∈c.aD,x.aM=v.getD i aK.zero:=
 CC v.length _ (λ i V=>by
  unfold Ew;have H:0<=(i:Int)/\(i:Int)<(v.length:Int):=om
  obtain⟨k,O,U⟩:=Pl c.aD (v.getD i aK.zero) om;simp only[H.1,H.2,cX,fD,mL,cF,cH,Qm,mF i (show i<4611686018427387904 by omega),O,qm];rcases U with⟨rfl,_⟩|⟨k,rfl,Y,e⟩
  .exact⟨false,rfl,λ h=>nomatch h⟩
  .exact⟨true,by rw[bX (by simp),cB rfl],λ _=>⟨_,mS Y,e⟩⟩) (by unfold Ew;simp)
def cLs(c:bD)(L:c.aD.length<=8)(K:ValidT c.aF):
  lY (Ev c) 0=some (.inr false)\/lY (Ev c) 0=some (.inl ())/\∀i,i<c.aD.length->ProcC c.aF (c.aD.getD i aG.zero)/\(0<i->ltP (c.aD.getD (i-1) aG.zero).aM (c.aD.getD i aG.zero).aM):=
 CC c.aD.length _ (λ i V=>by
  unfold Ev;have O:0<=(i:Int)/\(i:Int)<(c.aD.length:Int):=om
  obtain⟨b,Y,U⟩:=cLq c (c.aD.getD i aG.zero) K;simp only[O.1,O.2,cX,fD,mL,cF,cH,Qm,mF i (show i<4611686018427387904 by omega),Y,qm];rw[gdp (by
   intro h;simp only[bY,cC]at h;rw[mB om om];try omega)]
  cases b with
  |false=>exact⟨false,rfl,λ h=>nomatch h⟩
  |true=>
   simp only[cR,dT]
   by_cases B:i=0
   .subst B;exact⟨true,rfl,λ _=>⟨U rfl,λ h=>absurd h om⟩⟩
   .rw[l6 i om om];simp only[show(0:Int)<(i:Int)by omega,cF,cN,Qm]
    by_cases H:ltP (c.aD.getD (i-1) aG.zero).aM (c.aD.getD i aG.zero).aM
    .refine⟨true,?_,λ _=>⟨U rfl,λ _=>H⟩⟩;rw[bX (by simp only[cC];exactλ h=>(K4 _ _).1 h H),cB rfl]
    .refine⟨false,?_,λ h=>nomatch h⟩;rw[cB (by simp only[cC];exact(K4 _ _).2 H)];rfl) (by unfold Ev;simp)
def cLt{l:List aG}(h:∀i,i<l.length->0<i->ltP (l.getD (i-1) aG.zero).aM (l.getD i aG.zero).aM):l.Pairwise λ a b=>ltP a.aM b.aM:=by
 rw[fK];have g:∀k,(U:k<l.length)->l.getD k aG.zero=l[k]:=λ k U=>by rw[cD,cE U];rfl
 have O:∀d i,(H:i+d+1<l.length)->ltP (l.getD i aG.zero).aM (l.getD (i+d+1) aG.zero).aM:=by
  intro d;induction d with
  |zero=>intro i H;exact h (i+1) H om
  |succ d Y=>intro i H;exact Cg (Y i om) (h (i+(d+1)+1) H om)
 intro i j K H B;have:=O (j-i-1) i om;rw[show i+(j-i-1)+1=j by omega,g i K,g j H]at this;exact this
def Wr(c:bD):∃b,Ao c=some b/\(b=true->CenP c):=by
 unfold Ao
 by_cases H:c.now<0\/1073741824<c.now
 .refine⟨false,?_,λ h=>nomatch h⟩;rcases H with h|h<;>simp[h]
 have B:¬c.now<0:=λ h=>H (.inl h);have c2:¬1073741824<c.now:=λ h=>H (.inr h);simp only[B,c2,cP,fG,dL,cH,H1,qm,dT];cases hv:vR c.aF with
 |false=>exact⟨false,rfl,λ h=>nomatch h⟩
 |true=>
 have K:=(m3 _).1 hv
 by_cases U:(8:Int)<(c.aD.length:Int)
 .exact⟨false,by simp[U],λ h=>nomatch h⟩
 simp only[U,cP,cR,fG,bZ,cI];have V:c.aD.length<=8:=om
 rw[Lr K.len K.each,eF];rcases cLr c V (oH c.aF) (by have:=K.aD;omega)with Z|⟨Z,h2⟩
 .exact⟨false,by rw[Z];rfl,λ h=>nomatch h⟩
 rw[Z,eF];show∃b,Hj c ()=some b/\_;unfold Hj;rcases cLs c V K with O|⟨O,Y⟩
 .exact⟨false,by rw[O];rfl,λ h=>nomatch h⟩
 refine⟨true,by rw[O];rfl,λ _=>⟨K,V,λ x hx=>?_,cLt λ i L F=>(Y i L).2 F,λ p M=>?_⟩⟩
 .obtain⟨i,L,rfl⟩:=wY (z:=aG.zero) hx;exact(Y i L).1
 .obtain⟨i,L,e⟩:=wY (z:=aK.zero) M;obtain⟨x,hx,e2⟩:=h2 i L;exact⟨x,hx,e2.trans e⟩
def cLv{q:aA}{p:aK}(h:mR q=true)(hw:(nH q p).2=true):(pS q p).2.2=0/\(∀x,covA q.aB (getH (pS q p).1.aT x) (getH q.aT x)=true)/\getH (pS q p).1.aT p=getH q.aT p/\(nH (pS q p).1 p).2=false:=by
 have O:(pS q p).2.2=0:=by unfold pS;rw[bX (by rw[h];decide),bX (by rw[hw];decide)];rfl
 obtain⟨_,_,_,H,Y⟩:=HR O;have B:∀w∈ordQ (yP q p),w.aM≠p:=λ w hw=>by
  unfold ordQ yP at hw;simp only[cY,Cl]at hw;rcases hw with hw|hw
  .exact hw.2
  .exact hw.2
 have U:=Vc B;refine⟨O,λ x=>?_,?_,?_⟩
 .rw[H,wU];exact HS Y x
 .rw[H,wU];exact U.1
 .rw[H,wU];exact Cm.2 U.2
def Ws{q:aA}{p:aK}{a:aC}(h:mR q=true)(B:getH q.aT p≠aC.zero)(K:(nH q p).2=false)(F:covA q.aB (getH q.aT p) a=true):
  (oJ q p a).2.2=0/\(∀x,x≠p->covA q.aB (getH (oJ q p a).1.aT x) (getH q.aT x)=true)/\getH (oJ q p a).1.aT p=a/\(nH (oJ q p a).1 p).2=false:=by
 have U:(oJ q p a).2.2=0:=by unfold oJ;rw[bX (by rw[h];decide),bX B,bX (by rw[K];decide),bX (by rw[F];decide)];split<;>rfl
 obtain⟨M,_,_,_,_,L⟩:=Fc U;rcases L with⟨Y,H⟩|⟨Y,H,V⟩
 .rw[H];exact⟨rfl,λ x _=>l8 (Az M.hv x),Y,K⟩
 .have Z:∀w∈ordQ (vQ q p a),w.aM≠p:=Cm.1 K;have O:=Vc Z;refine⟨U,λ x hx=>?_,?_,?_⟩
  .rw[H,wU];have:=HS V x;unfold vQ at this;rw[yN hx]at this;exact this
  .rw[H,wU];show getH (advS (vQ q p a)).aT p=a;rw[O.1];exact Ou _ _ _
  .rw[H,wU];exact Cm.2 O.2
structure Kept (p:aK) (t t':List aA):Prop where
 v:ValidT t'
 len:t'.length=t.length
 res:∀i,i<t.length->(t'.getD i aA.zero).aB=(t.getD i aA.zero).aB
 cov:∀i,i<t.length->∀x,x≠p->covA (t.getD i aA.zero).aB (getH (t'.getD i aA.zero).aT x) (getH (t.getD i aA.zero).aT x)=true
def LL{α:Type}(l:List α)(i j:Nat)(x z:α)(h:i≠j):(l.set i x).getD j z=l.getD j z:=by rw[cD,cD,lS h]
def Fn{p:aK}{t:List aA}(h:ValidT t):Kept p t t:=
 ⟨h,rfl,λ _ _=>rfl,λ i H x _=>l8 (Az ((qK _).1 (h.each _ (mS (z:=aA.zero) H))).1.hv x)⟩
def LM{p:aK}{t:List aA}(h:ValidT t){i:Nat}(hi:i<t.length){q:aA}(L:ValidT (t.set i q))(O:q.aB=(t.getD i aA.zero).aB)
  (U:∀x,x≠p->covA (t.getD i aA.zero).aB (getH q.aT x) (getH (t.getD i aA.zero).aT x)=true):Kept p t (t.set i q):=by
 have k:=Fn (p:=p) h;refine⟨L,dW,λ j H=>?_,λ j H x K=>?_⟩
 .by_cases e:i=j
  .subst e;rw[sA t i q _ hi];exact O
  .rw[LL t i j q _ e]
 .by_cases e:i=j
  .subst e;rw[sA t i q _ hi];exact U x K
  .rw[LL t i j q _ e];exact k.cov j H x K
def Kept.trans{p:aK}{a b c:List aA}(h:Kept p a b)(k:Kept p b c):Kept p a c:=
 ⟨k.v,k.len.trans h.len,λ i K=>(k.res i (by rw[h.len];exact K)).trans (h.res i K),λ i K x L=>by
  have H:=k.cov i (by rw[h.len];exact K) x L;rw[h.res i K]at H;exact Lj H (h.cov i K x L)⟩
def Kept.find{p:aK}{t H:List aA}(h:ValidT t)(k:Kept p t H){i:Nat}(hi:i<t.length):nK H (t.getD i aA.zero).aB.name=i:=by have:=Lq k.v.asc (i:=i) (by rw[k.len];exact hi);rwa [k.res i hi]at this
def cM0{t:List aA}(h:ValidT t){i:Nat}(hi:i<t.length){p:aK}(L:(nH (t.getD i aA.zero) p).2=true):∃q ev,n5 t p (t.getD i aA.zero).aB.name=(t.set i q,ev,0)/\ev.length<=20/\Kept p t (t.set i q)/\
  getH q.aT p=getH (t.getD i aA.zero).aT p/\(nH q p).2=false/\q.aB=(t.getD i aA.zero).aB:=by
 have H:=h.each _ (mS (z:=aA.zero) hi);obtain⟨O,Y,B,F⟩:=cLv H L;have M:=Lq h.asc hi;have U:=CA H (.cancel p O);have e:n5 t p (t.getD i aA.zero).aB.name=(t.set i (pS (t.getD i aA.zero) p).1,[]++tT (t.getD i aA.zero).aB.name (pS (t.getD i aA.zero) p).2.1,0):=by unfold n5 atT putT;rw[bX (by rw[(m3 t).2 h];decide),M,bX om];simp only[Qm,O,cH];rw[Fl]
 have K:ValidT (t.set i (pS (t.getD i aA.zero) p).1):=by have:=(cKc (t:=t) (p:=p) (nm:=(t.getD i aA.zero).aB.name) (by rw[e]));obtain⟨_,_,_,_,K⟩:=this;rwa [e]at K
 refine⟨_,_,e,?_,LM h hi K U.2 λ x _=>Y x,B,F,U.2⟩;have:=(Vo (t.getD i aA.zero) p).2.2.2;rw[lJ,Fj];omega
def Wt{t:List aA}(h:ValidT t){i:Nat}(hi:i<t.length){p:aK}{a:aC}(Y:getH (t.getD i aA.zero).aT p≠aC.zero)(L:(nH (t.getD i aA.zero) p).2=false)(B:covA (t.getD i aA.zero).aB (getH (t.getD i aA.zero).aT p) a=true):
  ∃q ev,qT t p ⟨(t.getD i aA.zero).aB.name,a⟩=(t.set i q,ev,0)/\ev.length<=20/\Kept p t (t.set i q)/\getH q.aT p=a/\(nH q p).2=false/\q.aB=(t.getD i aA.zero).aB:=by
 have H:=h.each _ (mS (z:=aA.zero) hi);obtain⟨O,F,M,V⟩:=Ws H Y L B;have Z:=Lq h.asc hi;have U:=CA H (.lower p a O);have e:qT t p ⟨(t.getD i aA.zero).aB.name,a⟩=(t.set i (oJ (t.getD i aA.zero) p a).1,(if getH (t.getD i aA.zero).aT p=a then[]else[Cy p (t.getD i aA.zero).aB.name a])++tT (t.getD i aA.zero).aB.name (oJ (t.getD i aA.zero) p a).2.1,0):=by unfold qT atT putT;rw[bX (by rw[(m3 t).2 h];decide)];simp only[Z,Qm,O,cH,show¬(i:Int)<0 by omega,cI];rw[Fl]
 have K:ValidT (t.set i (oJ (t.getD i aA.zero) p a).1):=by have:=(Wj (t:=t) (p:=p) (a:=⟨(t.getD i aA.zero).aB.name,a⟩) (by rw[e]));obtain⟨_,_,_,_,K⟩:=this;rwa [e]at K
 refine⟨_,_,e,?_,LM h hi K U.2 F,M,V,U.2⟩;have:=(OP (t.getD i aA.zero) p a).2.2.2;rw[cA,Fj];have:(if getH (t.getD i aA.zero).aT p=a then([]:List bL)else[Cy p (t.getD i aA.zero).aB.name a]).length<=1:=by split<;>simp
 omega
def vW(w:bB)(t:List aA)(ev:List bL):bB:=⟨⟨w.c.now,t,w.c.aD⟩,ev⟩
def CF(t:List aA)(ev:List bL)(w:bB)(h:w.ev.length+ev.length<=4294967296):vF t ev w=some (w.c.now,t,w.c.aD,w.ev++ev):=by unfold vF;rw[gdp h]
def cM4(x:aG){w:bB}(h:ValidT w.c.aF){i:Nat}(hi:i<w.c.aF.length)(he:x.bF.aQ.length<=1000)(x0:w.ev.length<=1000000)
  (F:covA (w.c.aF.getD i aA.zero).aB (getH (w.c.aF.getD i aA.zero).aT x.aM) (mZ x.bF.aQ (w.c.aF.getD i aA.zero).aB.name)=true):
  ∃q ev,Aq x (w.c.aF.getD i aA.zero).aB.name w=some (vW w (w.c.aF.set i q) (w.ev++ev))/\ev.length<=40/\Kept x.aM w.c.aF (w.c.aF.set i q)/\
   getH q.aT x.aM=mZ x.bF.aQ (w.c.aF.getD i aA.zero).aB.name/\(nH q x.aM).2=false/\q.aB=(w.c.aF.getD i aA.zero).aB:=by
 obtain⟨hl,hs⟩:=h.lens';have h4:=AH hs hi;have hf:=Lq h.asc hi;have k1:∀(H:List aA) (O:List bL),Kept x.aM w.c.aF H->O.length<=20->getH (H.getD i aA.zero).aT x.aM=getH (w.c.aF.getD i aA.zero).aT x.aM->(nH (H.getD i aA.zero) x.aM).2=false->
   (∃Y,H=w.c.aF.set i Y)->∃q ev,Hw x (w.c.aF.getD i aA.zero).aB.name (i:Int) (vW w H (w.ev++O))=some (vW w (w.c.aF.set i q) (w.ev++ev))/\ev.length<=40/\Kept x.aM w.c.aF (w.c.aF.set i q)/\
   getH q.aT x.aM=mZ x.bF.aQ (w.c.aF.getD i aA.zero).aB.name/\(nH q x.aM).2=false/\q.aB=(w.c.aF.getD i aA.zero).aB:=by
  intro H O U h0 hh L ⟨Y,K⟩;have V:i<H.length:=by rw[U.len];exact hi
  have h5:=AH U.v.lens V;have M:=U.res i hi;have hg:H.getD i aA.zero=Y:=by rw[K];exact sA _ _ _ _ hi
  unfold Hw;rw[AG _ _ om,eF];show∃q ev,gd (0<=(i:Int)/\(i:Int)<(H.length:Int)) ((rY (H.getD (i:Int).toNat aA.zero) x.aM).bind _)=_/\_;rw[gdp om];simp only[Qm];rw[wS _ _ om,eF]
  by_cases e:getH (H.getD i aA.zero).aT x.aM=mZ x.bF.aQ (w.c.aF.getD i aA.zero).aB.name
  .rw[bX (by simp[e,-List.getD_eq_getElem?_getD])];refine⟨Y,O,by rw[<-K],by omega,K▸U,by rw[<-hg];exact e,by rw[<-hg];exact L,by rw[<-hg];exact M⟩
  .rw[cB (by simp[e,-List.getD_eq_getElem?_getD])];have hz:getH (H.getD i aA.zero).aT x.aM≠aC.zero:=λ z=>by
    rw[hh]at z e;rw[z]at F;rcases((tS _ _ _).1 F).2.2 with h6|h6
    .exact e (z.trans h6.symm)
    .exact h6.1 rfl
   obtain⟨q,ev,B,r2,Z,r4,r5,r6⟩:=Wt U.v V (p:=x.aM) (a:=mZ x.bF.aQ (w.c.aF.getD i aA.zero).aB.name) hz L (by rw[M,hh];exact F);rw[M]at B r6;rw[Pd,eF];show∃q ev,(vF (qT H x.aM ⟨_,_⟩).1 (qT H x.aM ⟨_,_⟩).2.1 (vW w H (w.ev++O))).bind _=_/\_;rw[B,CF _ _ _ (by show(w.ev++O).length+ev.length<=_;rw[cA];omega),eF];have es:H.set i q=w.c.aF.set i q:=by rw[K,gR]
   refine⟨q,O++ev,?_,by rw[cA];omega,es▸U.trans Z,r4,r5,r6⟩;show some (vW w (H.set i q) ((w.ev++O)++ev))=_;rw[es,cG]
 unfold Aq;rw[m4 _ _ om,eF,hf,gdp om];simp only[Qm];rw[Ay _ _ om om,eF];cases L:(nH (w.c.aF.getD i aA.zero) x.aM).2 with
 |true=>rw[cB rfl];obtain⟨q,ev,B,r2,Z,r4,r5,r6⟩:=cM0 h hi L;rw[cJi,eF,B,CF _ _ _ (by simp only;omega),eF];have hg:(w.c.aF.set i q).getD i aA.zero=q:=sA _ _ _ _ hi;exact k1 (w.c.aF.set i q) ev Z r2 (by rw[hg];exact r4) (by rw[hg];exact r5) ⟨q,rfl⟩
 |false=>rw[bX Om];have:=k1 w.c.aF [] (Fn h) (by simp) rfl L ⟨_,(LD _ _ aA.zero hi).symm⟩;rw[eE]at this;exact this
structure OkW (t:List aA) (y:aG):Prop where
 e:vE y.bJ.bU=true
 le:y.bF.aQ.length<=1000
 at_:∀L b,qQ y.bJ.bU=some (L,b)->∀a∈L,∃i,i<t.length/\(t.getD i aA.zero).aB.name=a.name
 cov:∀i,i<t.length->covA (t.getD i aA.zero).aB (getH (t.getD i aA.zero).aT y.aM) (mZ y.bF.aQ (t.getD i aA.zero).aB.name)=true
def OkW.kept{p:aK}{t H:List aA}{y:aG}(h:OkW t y)(k:Kept p t H)(U:y.aM≠p):OkW H y:=by
 refine⟨h.e,h.le,λ L b O a V=>?_,λ i K=>?_⟩
 .obtain⟨i,K,e⟩:=h.at_ L b O a V;exact⟨i,by rw[k.len];exact K,by rw[k.res i K];exact e⟩
 .rw[k.len]at K;rw[k.res i K];exact Lj (k.cov i K _ U) (h.cov i K)
structure Good (w:bB):Prop where
 v:ValidT w.c.aF
 len:w.c.aD.length<=8
 nd:(w.c.aD.map (·.aM)).Nodup
 ok:∀y∈w.c.aD,y.bI=true->OkW w.c.aF y
def cntW(l:List aG):Nat:=l.countP (·.bI)
def bud(w:bB):Nat:=w.ev.length+2000*cntW w.c.aD
def cM5(l:List aG):cntW l<=l.length:=List.countP_le_length
def Wu{l:List aG}{i:Nat}(h:i<l.length)(y:aG):cntW (l.set i y)+(if(l.getD i aG.zero).bI then 1 else 0)=cntW l+(if y.bI then 1 else 0):=by
 unfold cntW;induction l generalizing i with
 |nil=>cases h
 |cons x l H=>
  cases i with
  |zero=>simp only[List.set_cons_zero,List.countP_cons,List.getD_cons_zero];omega
  |succ i=>simp only[List.set_cons_succ,List.countP_cons,gX];have:=H (i:=i) (by simpa using h);omega
def oX(x:aG):aG:={x with bI:=false,bJ:=bO.zero,since:=0}
def Wv{i:Nat}{w:bB}(hi:i<w.c.aD.length):Bb (i:Int) w=some (w.c.now,w.c.aF,w.c.aD.set i (oX (w.c.aD.getD i aG.zero)),w.ev):=by unfold Bb;rw[gdp om,gdp om,gdp om];simp only[Qm,gR];rw[sA _ _ _ _ hi];rw[sA _ _ _ _ (by simpa using hi)];rfl
def Fo{i:Nat}{w:bB}(hi:i<w.c.aD.length):uH (i:Int) w=some (w.c.now,w.c.aF,w.c.aD.set i {(w.c.aD.getD i aG.zero)with gen:=oW (w.c.aD.getD i aG.zero).gen},w.ev):=by unfold uH;rw[gdp om,gdp om];simp only[Qm]
def Pn(k:Int)(p:aK){w:bB}(h:w.ev.length<=1000000):s8 k p w=some (w.c.now,w.c.aF,w.c.aD,w.ev++[{bL.zero with kind:=k,aM:=p}]):=by unfold s8;rw[gdp om]
def Ww{w:bB}(hl:w.c.aD.length<=8)(O:w.c.aF.length<=1000)(U:Lens w.c.aF)(Y:∀y∈w.c.aD,y.bI=true->vE y.bJ.bU=true):
  ∃v,yH w=some (v,w.c.now,w.c.aF,w.c.aD,w.ev)/\(v=-1\/∃i:Nat,v=i/\i<w.c.aD.length/\(w.c.aD.getD i aG.zero).bI=true/\w.c.aF≠[]):=by
 unfold yH;obtain⟨x,B,F⟩:=nV (body:=KL w) (λ g=>∃i:Nat,g=i/\i<=w.c.aD.length) (λ g=>w.c.aD.length-g.toNat)
  (λ x=>x=.inl ()\/∃i:Nat,x=.inr ((i:Int),w.c.now,w.c.aF,w.c.aD,w.ev)/\i<w.c.aD.length/\(w.c.aD.getD i aG.zero).bI=true/\w.c.aF≠[])
  (λ g ⟨i,V,Z⟩=>by
   subst V;unfold KL
   by_cases c:i<w.c.aD.length
   .have H:0<=(i:Int)/\(i:Int)<(w.c.aD.length:Int):=om
    simp only[H.1,H.2,cX,mL,cF,cH,Qm,mF i (show i<4611686018427387904 by omega)];cases K:(w.c.aD.getD i aG.zero).bI with
    |false=>simp only[bZ,cI,qm,fA];exact .inl ⟨_,rfl,⟨i+1,rfl,c⟩,by simp only[Qm];omega⟩
    |true=>
     simp only[cH,cN];obtain⟨M,L,q1,q2,q3,q4⟩:=Pm w.c.aF (w.c.aD.getD i aG.zero).aM (w.c.aD.getD i aG.zero).bJ.bU O U;obtain⟨b,r1,r2⟩:=Pk (Y _ (mS c) K) M;rw[q1,eF,r1,eF];cases b with
     |false=>rw[bX Om];exact .inl ⟨_,rfl,⟨i+1,rfl,c⟩,by simp only[Qm];omega⟩
     |true=>rw[cB rfl];refine .inr ⟨_,rfl,.inr ⟨i,rfl,c,K,λ hn=>?_⟩⟩;have:=r2 (q4 hn);cases this
   .right;simp only[show¬(i:Int)<(w.c.aD.length:Int)by omega,cP,bZ,cI];exact⟨_,rfl,.inl rfl⟩) 0 ⟨0,rfl,by omega⟩
 rw[B];rcases F with rfl|⟨i,rfl,H,h4,h5⟩
 .exact⟨-1,rfl,.inl rfl⟩
 .exact⟨i,rfl,.inr ⟨i,rfl,H,h4,h5⟩⟩
def cMc(l:bA)(e:bN):∃r,Ea l e=some r/\r.1.aQ.length<=100:=by
 unfold Ea;obtain⟨b,O,U⟩:=CD l;rw[O,eF];cases b with
 |false=>exact⟨_,rfl,by simp[bA.zero]⟩
 |true=>
  have H:=U rfl;have:=H.le;have:=H.ls;simp only[cR,bZ,cI];rw[gdp om,gdp om,gdp om];obtain⟨Y,B,_⟩:=CD ⟨l.aQ++[e],l.bH⟩;rw[B,eF];cases Y with
  |false=>exact⟨_,rfl,by simp[bA.zero]⟩
  |true=>exact⟨_,rfl,by simp;omega⟩
def Left(x:aG)(t H:List aA)(O:List aO):Prop:=∀j,j<t.length->
 (getH (H.getD j aA.zero).aT x.aM=mZ x.bF.aQ (t.getD j aA.zero).aB.name/\(nH (H.getD j aA.zero) x.aM).2=false)\/
 (H.getD j aA.zero=t.getD j aA.zero/\∀a∈O,a.name≠(t.getD j aA.zero).aB.name)
def Left.cov{x:aG}{t H:List aA}{O:List aO}(h:Left x t H O)(k:Kept x.aM t H)(U:∀i,i<t.length->covA (t.getD i aA.zero).aB (getH (t.getD i aA.zero).aT x.aM) (mZ x.bF.aQ (t.getD i aA.zero).aB.name)=true):
  ∀i,i<t.length->covA (t.getD i aA.zero).aB (getH (H.getD i aA.zero).aT x.aM) (mZ x.bF.aQ (t.getD i aA.zero).aB.name)=true:=by
 intro i K;rcases h i K with⟨e,_⟩|⟨e,_⟩
 .rw[<-e,<-k.res i K];exact l8 (Az ((qK _).1 (k.v.each _ (mS (z:=aA.zero) (by rw[k.len];exact K)))).1.hv x.aM)
 .rw[e];exact U i K
def drop_left{x:aG}{w:bB}{t:List aA}(h:ValidT t)(k:Kept x.aM t w.c.aF){M:List aO}(L:Left x t w.c.aF M)(O:x.bF.aQ.length<=1000)(U:w.ev.length<=1000000)
  (hc:∀i,i<t.length->covA (t.getD i aA.zero).aB (getH (t.getD i aA.zero).aT x.aM) (mZ x.bF.aQ (t.getD i aA.zero).aB.name)=true) {a:aO} (ha:∃i,i<t.length/\(t.getD i aA.zero).aB.name=a.name):
  ∃Y ev,Aq x a.name w=some (vW w Y (w.ev++ev))/\ev.length<=40/\Kept x.aM t Y/\Left x t Y (M++[a]):=by
 obtain⟨i,K,V⟩:=ha;have H:i<w.c.aF.length:=by rw[k.len];exact K
 have Z:=k.res i K;obtain⟨q,ev,B,h2,h3,h4,h5,h6⟩:=cM4 x k.v H O U (by rw[Z];exact L.cov k hc i K);rw[Z]at B h4;rw[V]at B;refine⟨_,ev,B,h2,k.trans h3,λ j hj=>?_⟩
 by_cases e:i=j
 .subst e;left;rw[sA _ _ _ _ H];exact⟨h4,h5⟩
 .rw[LL _ _ _ _ _ e];rcases L j hj with F|⟨F,h8⟩
  .exact .inl F
  .refine .inr ⟨F,λ b hb=>?_⟩;rcases cY.1 hb with hb|hb
   .exact h8 b hb
   .rw[dP]at hb;subst hb;rw[<-V];exactλ he=>e (OV h.asc K hj he)
def Wx{i:Nat}{w:bB}(g:Good w)(hi:i<w.c.aD.length)(V:(w.c.aD.getD i aG.zero).bI=true)(hb:bud w<=500000):
  ∃H ev L,j7 (i:Int) w=some ⟨⟨w.c.now,H,w.c.aD.set i (oX (w.c.aD.getD i aG.zero))⟩,w.ev++ev⟩/\ev.length<=320/\Kept (w.c.aD.getD i aG.zero).aM w.c.aF H/\
   qQ (w.c.aD.getD i aG.zero).bJ.bU=some (L,true)/\Left (w.c.aD.getD i aG.zero) w.c.aF H L:=by
 have ok:=g.ok _ (mS hi) V;obtain⟨L,Z,a2,Y⟩:=CE (w.c.aD.getD i aG.zero).bJ.bU;have B:w.ev.length<=500000:=by unfold bud at hb;omega
 unfold j7;rw[gdp om];simp only[Qm];rw[Z,eF];obtain⟨x,h1,h2⟩:=nV (body:=KT (i:Int) w L) (λ g=>∃(k:Nat) (H:List aA) (ev:List bL),g=((k:Int),vW w H (w.ev++ev))/\k<=L.length/\ev.length<=40*k/\Kept (w.c.aD.getD i aG.zero).aM w.c.aF H/\Left (w.c.aD.getD i aG.zero) w.c.aF H (L.take k))
  (λ g=>L.length-g.1.toNat) (λ x=>∃(H:List aA) (ev:List bL),x=vW w H (w.ev++ev)/\ev.length<=320/\Kept (w.c.aD.getD i aG.zero).aM w.c.aF H/\Left (w.c.aD.getD i aG.zero) w.c.aF H L)
  (λ g ⟨k,H,ev,hg,hk,F,hK,O⟩=>by
   subst hg;unfold KT
   by_cases c:k<L.length
   .left;have M:0<=(k:Int)/\(k:Int)<(L.length:Int):=om
    simp only[M.1,M.2,cX,mL,cF,cH,Qm,mF k (show k<4611686018427387904 by omega)];obtain⟨K,U,r1,r2,r3,r4⟩:=drop_left (w:=vW w H (w.ev++ev)) g.v hK O ok.le (by show(w.ev++ev).length<=_;rw[cA];omega) ok.cov (ok.at_ L _ Y _ (mS (z:=aO.zero) c));rw[r1,eF];refine⟨_,rfl,⟨k+1,K,ev++U,?_,c,by rw[cA];omega,r3,?_⟩,by simp only[Qm];omega⟩
    .show(((k+1:Nat):Int),vW (vW w H (w.ev++ev)) K ((w.ev++ev)++U))=_;rw[cG];rfl
    .rw[vV aO.zero c];exact r4
   .right;have e:k=L.length:=om
    simp only[show¬(k:Int)<(L.length:Int)by omega,cP,bZ,cI];exact⟨_,rfl,H,ev,rfl,by omega,hK,by rw[e,eV]at O;exact O⟩) (0,w) ⟨0,w.c.aF,[],by rw[eE];rfl,by omega,by simp,Fn g.v,λ j hj=>.inr ⟨rfl,λ a ha=>by cases ha⟩⟩
 obtain⟨H,ev,rfl,F,hK,O⟩:=h2;rw[h1,eF];unfold N0;rw[Wv (w:=vW w H (w.ev++ev)) hi,eF];exact⟨H,ev,L,rfl,F,hK,by rw[Y,ok.e],O⟩
def Good.upd{w:bB}(g:Good w){i:Nat}(hi:i<w.c.aD.length){Y:List aA}(k:Kept (w.c.aD.getD i aG.zero).aM w.c.aF Y){y:aG}(L:y.aM=(w.c.aD.getD i aG.zero).aM)(V:y.bI=true->OkW Y y)(n:Int)(ev:List bL):
  Good ⟨⟨n,Y,w.c.aD.set i y⟩,ev⟩:=by
 have H:(w.c.aD.set i y).map (·.aM)=w.c.aD.map (·.aM):=by
  rw[lA,L];have:(w.c.aD.map (·.aM)).getD i aK.zero=(w.c.aD.getD i aG.zero).aM:=by rw[cD,cW,cD,cE hi];rfl
  rw[<-this];exact LD _ _ _ (by simpa using hi)
 refine⟨k.v,by simpa using g.len,by show((w.c.aD.set i y).map (·.aM)).Nodup;rw[H];exact g.nd,λ z Z O=>?_⟩;obtain⟨j,U,e⟩:=gD.1 (show z∈w.c.aD.set i y from Z);rw[dW]at U
 by_cases c:i=j
 .subst c;rw[List.getElem_set_self]at e;subst e;exact V O
 .rw[List.getElem_set_ne c]at e;have hm:z∈w.c.aD:=e▸iP U;refine(g.ok z hm O).kept k λ B=>?_;have F:=fK.1 g.nd;have M:(w.c.aD.map (·.aM))[i]'(by simpa using hi)=(w.c.aD.getD i aG.zero).aM:=by
   rw[jW,cD,cE hi];rfl
  have K:(w.c.aD.map (·.aM))[j]'(by simpa using U)=z.aM:=by rw[jW,e]
  rcases kD i j with h|h
  .exact F i j (by simpa using hi) (by simpa using U) h (by rw[M,K,B])
  .exact F j i (by simpa using U) (by simpa using hi) om (by rw[M,K,B])
def Good.lens{w:bB}(g:Good w):w.c.aF.length<=1000/\Lens w.c.aF:=g.v.lens'
def Good.sat{w:bB}(g:Good w):∃v,yH w=some (v,w.c.now,w.c.aF,w.c.aD,w.ev)/\(v=-1\/∃i:Nat,v=i/\i<w.c.aD.length/\(w.c.aD.getD i aG.zero).bI=true/\w.c.aF≠[]):=
 Ww g.len g.lens.1 g.lens.2 λ y H K=>(g.ok y H K).e
def midW(w:bB)(i:Nat)(t:List aA)(y:aG)(ev:List bL):bB:=⟨⟨w.c.now,t,w.c.aD.set i y⟩,ev⟩
def cMe{i:Nat}{w:bB}(g:Good w)(hi:i<w.c.aD.length)(hw:(w.c.aD.getD i aG.zero).bI=true)(hb:bud w<=500000){L:List aO}(hL:L.length<=8)(Y:qQ (w.c.aD.getD i aG.zero).bJ.bU=some (L,true)){O:List Bool}(hk:O.length=L.length){ev0:List bL}(h0:ev0.length<=w.ev.length+1):
  ∃H y ev,lY (Hx ((i:Int),w) O L) (0,midW w i w.c.aF (w.c.aD.getD i aG.zero) ev0)=some (midW w i H y ev)/\Kept (w.c.aD.getD i aG.zero).aM w.c.aF H/\y.aM=(w.c.aD.getD i aG.zero).aM/\ev.length<=w.ev.length+321:=by
 have ok:=g.ok _ (mS hi) hw;have p0:w.ev.length<=500000:=by unfold bud at hb;omega
 obtain⟨x,h1,h2⟩:=nV (body:=Hx ((i:Int),w) O L) (λ g=>∃(k:Nat) (H:List aA) (y:aG) (ev:List bL) (B:List aO),g=((k:Int),midW w i H y ev)/\k<=L.length/\ev.length<=w.ev.length+1+40*k/\Kept (w.c.aD.getD i aG.zero).aM w.c.aF H/\
   Left (w.c.aD.getD i aG.zero) w.c.aF H B/\y.aM=(w.c.aD.getD i aG.zero).aM/\y.bF.aQ.length<=1000)
  (λ g=>L.length-g.1.toNat) (λ x=>∃(H:List aA) (y:aG) (ev:List bL),x=midW w i H y ev/\Kept (w.c.aD.getD i aG.zero).aM w.c.aF H/\y.aM=(w.c.aD.getD i aG.zero).aM/\ev.length<=w.ev.length+321)
  (λ g' ⟨k,H,y,ev,B,hg,hkl,he,hK,K,Z,V⟩=>by
   subst hg;unfold Hx
   by_cases c:k<L.length
   .left;have M:0<=(k:Int)/\(k:Int)<(L.length:Int):=om
    have h4:(k:Int)<(O.length:Int):=om
    simp only[M.1,M.2,h4,cX,mL,cF,cH,Qm,mF k (show k<4611686018427387904 by omega)];cases hkp:O.getD k false with
    |false=>simp only[dL,cH];obtain⟨t2,x0,r1,r2,r3,r4⟩:=drop_left (w:=midW w i H y ev) g.v hK K ok.le (by show ev.length<=_;omega) ok.cov (ok.at_ L _ Y _ (mS (z:=aO.zero) c));rw[r1,eF];exact⟨_,rfl,⟨k+1,t2,y,ev++x0,B++[L.getD k aO.zero],rfl,c,by rw[cA];omega,r3,r4,Z,V⟩,by simp only[Qm];omega⟩
    |true=>
     simp only[cR,bZ,cI];obtain⟨j,hj,hn⟩:=ok.at_ L _ Y _ (mS (z:=aO.zero) c);have y0:j<H.length:=by rw[hK.len];exact hj
     have F:=hK.find g.v hj;rw[hn]at F;have h6:=AH hK.v.lens y0;have hl':=hK.v.lens'.1;have z0:((w.c.aD.set i y).getD i aG.zero)=y:=sA _ _ _ _ hi;show∃u0,(sR H (L.getD k aO.zero).name).bind _=_/\_;rw[m4 _ _ om,eF,F];show∃u0,gd (0<=(j:Int)/\(j:Int)<(H.length:Int)) ((rY (H.getD (j:Int).toNat aA.zero) _).bind _)=_/\_;rw[gdp om];simp only[Qm];rw[wS _ _ om,eF];have U:0<=(i:Int)/\(i:Int)<(((midW w i H y ev).c.aD.length:Nat):Int):=by show _/\(i:Int)<(((w.c.aD.set i y).length:Nat):Int);rw[dW];omega
     have v0:(midW w i H y ev).c.aD.getD i aG.zero=y:=z0;rw[gdp U,v0,AG _ _ om,eF];split
     .rw[gdp U];obtain⟨rr,e1,e2⟩:=cMc y.bF ⟨(L.getD k aO.zero).name,mZ y.bF.aQ (L.getD k aO.zero).name,getH (H.getD j aA.zero).aT (w.c.aD.getD i aG.zero).aM⟩;rw[e1,eF,gdp U];refine⟨_,rfl,⟨k+1,H,{y with bF:=rr.1},ev,B,?_,c,by omega,hK,K,Z,by show rr.1.aQ.length<=_;omega⟩,by simp only[Qm];omega⟩;show(((k+1:Nat):Int),(⟨(⟨w.c.now,H,((w.c.aD.set i y).set i _)⟩:bD),ev⟩:bB))=_;rw[gR];rfl
     .exact⟨_,rfl,⟨k+1,H,y,ev,B,rfl,c,by omega,hK,K,Z,V⟩,by simp only[Qm];omega⟩
   .right;simp only[show¬(k:Int)<(L.length:Int)by omega,cP,bZ,cI];exact⟨_,rfl,H,y,ev,rfl,hK,Z,by omega⟩) (0,midW w i w.c.aF (w.c.aD.getD i aG.zero) ev0) ⟨0,w.c.aF,w.c.aD.getD i aG.zero,ev0,[],rfl,by omega,by omega,Fn g.v,λ j hj=>.inr ⟨rfl,λ a ha=>by cases ha⟩,rfl,ok.le⟩
 obtain⟨H,y,ev,rfl,M,h4,h5⟩:=h2;exact⟨H,y,ev,h1,M,h4,h5⟩
structure Less (w w':bB):Prop where
 good:Good w'
 len:w'.c.aD.length=w.c.aD.length
 cnt:cntW w'.c.aD<=cntW w.c.aD
 bud:bud w'<=bud w
def cMf(w:bB)(i:Nat)(hi:i<w.c.aD.length)(ev:List bL):midW w i w.c.aF (w.c.aD.getD i aG.zero) ev=⟨⟨w.c.now,w.c.aF,w.c.aD⟩,ev⟩:=by unfold midW;rw[LD _ _ _ hi]
def cMg{i:Nat}{w:bB}(g:Good w)(hi:i<w.c.aD.length)(K:(w.c.aD.getD i aG.zero).bI=true)(hb:bud w<=500000):
  ∃v w',EJ ((i:Int),w)=some (.inl (v,w'))/\Less w w'/\cntW w'.c.aD<cntW w.c.aD/\(v=-1\/∃k:Nat,v=k/\k<w'.c.aD.length/\(w'.c.aD.getD k aG.zero).bI=true):=by
 have ok:=g.ok _ (mS hi) K;have F:w.ev.length<=500000:=by unfold bud at hb;omega
 unfold EJ;have M:0<=(i:Int)/\(i:Int)<(w.c.aD.length:Int):=om
 simp only[M.1,M.2,cX,mL,cF,cH,Qm];rw[Pn _ _ om,eF];obtain⟨bs,L',q1,q2,q3,_⟩:=Pm w.c.aF (w.c.aD.getD i aG.zero).aM (w.c.aD.getD i aG.zero).bJ.bU g.lens.1 g.lens.2;obtain⟨L,a1,a2,V⟩:=CE (w.c.aD.getD i aG.zero).bJ.bU;rw[q1,eF];obtain⟨h0,p1,p2⟩:=cL4 ok.e bs V;rw[p1,eF,a1,eF];obtain⟨H,y,ev,Z,r2,r3,r4⟩:=cMe g hi K hb a2 (by rw[V,ok.e]) p2 (ev0:=w.ev++[{bL.zero with kind:=2,aM:=(w.c.aD.getD i aG.zero).aM}]) (by simp);rw[cMf w i hi]at Z;rw[Z,eF];unfold N1;have U:((midW w i H y ev).c.aD.getD i aG.zero)=y:=sA _ _ _ _ hi;have Y:i<(midW w i H y ev).c.aD.length:=by show i<(w.c.aD.set i y).length;rw[dW];exact hi
 rw[Wv (w:=midW w i H y ev) Y,eF,U];have e1:(midW w i H y ev).c.aD.set i (oX y)=w.c.aD.set i (oX y):=by show(w.c.aD.set i y).set i _=_;rw[gR]
 rw[e1];have B:i<(w.c.aD.set i (oX y)).length:=by rw[dW];exact hi
 rw[Fo (w:=⟨⟨_,_,w.c.aD.set i (oX y)⟩,_⟩) B,eF];simp only[sA _ _ _ _ hi,gR];have O:Good ⟨⟨w.c.now,H,w.c.aD.set i {oX y with gen:=oW (oX y).gen}⟩,ev⟩:=g.upd hi r2 (y:={oX y with gen:=oW (oX y).gen}) r3 (λ h=>by cases h) _ _;have x0:cntW (w.c.aD.set i {oX y with gen:=oW (oX y).gen})+1=cntW w.c.aD:=by
  have:=Wu hi {oX y with gen:=oW (oX y).gen};rw[K]at this
  simpa [oX]using this
 obtain⟨v,s1,s2⟩:=O.sat;show∃v w',(yH ⟨⟨w.c.now,H,w.c.aD.set i {oX y with gen:=oW (oX y).gen}⟩,ev⟩).bind _=_/\_;rw[s1,eF];refine⟨v,_,rfl,⟨O,by show(w.c.aD.set i _).length=_;rw[dW],by show cntW (w.c.aD.set i _)<=_;omega,by show ev.length+2000*cntW (w.c.aD.set i _)<=w.ev.length+2000*cntW w.c.aD;omega⟩,by show cntW (w.c.aD.set i _)<_;omega,?_⟩;rcases s2 with h|⟨k,h5,h6,h7,_⟩
 .exact .inl h
 .exact .inr ⟨k,h5,h6,h7⟩
def Less.refl{w:bB}(g:Good w):Less w w:=⟨g,rfl,dG _,dG _⟩
def Less.trans{a b c:bB}(h:Less a b)(k:Less b c):Less a c:=⟨k.good,k.len.trans h.len,dI k.cnt h.cnt,dI k.bud h.bud⟩
def LN{w:bB}(g:Good w)(hb:bud w<=500000):∃w',sG w=some w'/\Less w w':=by
 unfold sG;obtain⟨v,O,U⟩:=g.sat;rw[O,eF];obtain⟨x,Y,B⟩:=nV (body:=EJ) (λ z=>Less w z.2/\(z.1=-1\/∃k:Nat,z.1=k/\k<z.2.c.aD.length/\(z.2.c.aD.getD k aG.zero).bI=true)) (λ z=>cntW z.2.c.aD) (λ x=>Less w x)
  (λ z ⟨K,L⟩=>by
   obtain⟨v,F⟩:=z;simp only at K L;rcases L with rfl|⟨k,rfl,M,H⟩
   .right;exact⟨F,rfl,K⟩
   .left;obtain⟨v',w',V,Z,e3,e4⟩:=cMg K.good M H (dI K.bud hb);exact⟨(v',w'),V,⟨K.trans Z,e4⟩,e3⟩) (v,w) ⟨Less.refl g,by
   rcases U with h|⟨k,h5,h6,h7,_⟩
   .exact .inl h
   .exact .inr ⟨k,h5,h6,h7⟩⟩
 refine⟨x,?_,B⟩;show(lY _ (v,w)).bind _=_;rw[Y];rfl
def cMi{w:bB}(H:w.c.aF=[])(K:w.c.aD.length<=8)(O:∀y∈w.c.aD,y.bI=true->vE y.bJ.bU=true):sG w=some w:=by
 unfold sG;obtain⟨v,U,Y⟩:=Ww K (by rw[H];simp) (by rw[H];intro q h;cases h) O;rw[U,eF];rcases Y with rfl|⟨k,_,_,_,h⟩
 .rw[mJ];rfl
 .exact absurd H h
def Wy{w:bB}(V:w.c.aD.length<=8):∃v,t8 w=some (v,w.c.now,w.c.aF,w.c.aD,w.ev)/\(v=-1\/∃i:Nat,v=i/\i<w.c.aD.length/\(w.c.aD.getD i aG.zero).bI=true):=by
 unfold t8;obtain⟨x,O,U⟩:=nV (body:=Jq w) (λ g=>(∃i:Nat,g.2.2=i/\i<=w.c.aD.length)/\(g.1=-1\/∃i:Nat,g.1=i/\i<w.c.aD.length/\(w.c.aD.getD i aG.zero).bI=true)) (λ g=>w.c.aD.length-g.2.2.toNat)
  (λ x=>x=-1\/∃i:Nat,x=i/\i<w.c.aD.length/\(w.c.aD.getD i aG.zero).bI=true)
  (λ g ⟨⟨i,K,L⟩,hg⟩=>by
   obtain⟨b,Y,B⟩:=g;simp only at K hg;subst K;unfold Jq
   by_cases c:i<w.c.aD.length
   .left;have H:0<=(i:Int)/\(i:Int)<(w.c.aD.length:Int):=om
    simp only[H.1,H.2,cX,mL,cF,cH,Qm,mF i (show i<4611686018427387904 by omega)];split
    .rename_i h;simp only[bY]at h;exact⟨_,rfl,⟨⟨i+1,rfl,c⟩,.inr ⟨i,rfl,c,h.1.1.1⟩⟩,by simp only[Qm];omega⟩
    .exact⟨_,rfl,⟨⟨i+1,rfl,c⟩,hg⟩,by simp only[Qm];omega⟩
   .right;simp only[show¬(i:Int)<(w.c.aD.length:Int)by omega,cP,bZ,cI];exact⟨_,rfl,hg⟩) (-1,0,0) ⟨⟨0,rfl,by omega⟩,.inl rfl⟩
 rw[O,eF];exact⟨x,rfl,U⟩
def Wz{i:Nat}{w:bB}(g:Good w)(hi:i<w.c.aD.length)(K:(w.c.aD.getD i aG.zero).bI=true)(hb:bud w<=500000):
  ∃U H,j7 (i:Int) w=some U/\uH (i:Int) U=some (H.c.now,H.c.aF,H.c.aD,H.ev)/\Good H/\H.c.aD.length=w.c.aD.length/\cntW H.c.aD<cntW w.c.aD/\bud H+1000<=bud w:=by
 obtain⟨Y,ev,L,M,Z,V,_,_⟩:=Wx g hi K hb;have O:i<(w.c.aD.set i (oX (w.c.aD.getD i aG.zero))).length:=by rw[dW];exact hi
 have B:=Fo (w:=⟨⟨w.c.now,Y,w.c.aD.set i (oX (w.c.aD.getD i aG.zero))⟩,w.ev++ev⟩) O;simp only[sA _ _ _ _ hi,gR]at B;have F:cntW (w.c.aD.set i {oX (w.c.aD.getD i aG.zero)with gen:=oW (oX (w.c.aD.getD i aG.zero)).gen})+1=cntW w.c.aD:=by
  have:=Wu hi {oX (w.c.aD.getD i aG.zero)with gen:=oW (oX (w.c.aD.getD i aG.zero)).gen};rw[K]at this
  simpa [oX]using this
 refine⟨_,⟨⟨w.c.now,Y,w.c.aD.set i {oX (w.c.aD.getD i aG.zero)with gen:=oW (oX (w.c.aD.getD i aG.zero)).gen}⟩,w.ev++ev⟩,M,B,g.upd hi V (y:={oX (w.c.aD.getD i aG.zero)with gen:=oW (oX (w.c.aD.getD i aG.zero)).gen}) rfl (λ h=>by cases h) _ _,by simp,by show cntW (w.c.aD.set i _)<_;omega,?_⟩;show(w.ev++ev).length+2000*cntW (w.c.aD.set i _)+1000<=w.ev.length+2000*cntW w.c.aD;rw[cA];omega
def Good.ev{w:bB}(g:Good w)(ev:List bL)(n:Int):Good ⟨⟨n,w.c.aF,w.c.aD⟩,ev⟩:=⟨g.v,g.len,g.nd,g.ok⟩
def cMl(n:Int){w:bB}(g:Good w)(hb:bud w<=400000):∃r,EM n w=some r/\r.2.c.aD.length<=100:=by
 unfold EM;split
 .exact⟨_,rfl,dI g.len Om⟩
 split
 .exact⟨_,rfl,dI g.len Om⟩
 have M:=g.ev w.ev (IntKind.i64.wrap (w.c.now+n));obtain⟨v,V,Z⟩:=Wy (w:=⟨⟨IntKind.i64.wrap (w.c.now+n),w.c.aF,w.c.aD⟩,w.ev⟩) g.len;rw[V,eF];obtain⟨x,h1,h2⟩:=nV (body:=KX) (λ z=>Good z.2/\bud z.2<=400000/\(z.1=-1\/∃k:Nat,z.1=k/\k<z.2.c.aD.length/\(z.2.c.aD.getD k aG.zero).bI=true)) (λ z=>cntW z.2.c.aD) (λ x=>x.c.aD.length<=8)
  (λ z ⟨hg,K,L⟩=>by
   obtain⟨v,H⟩:=z;simp only at hg K L;rcases L with rfl|⟨k,rfl,hk,U⟩
   .right;exact⟨H,rfl,hg.len⟩
   .left;have h0:H.ev.length<=400000:=by unfold bud at K;omega
    unfold KX;have Y:0<=(k:Int)/\(k:Int)<(H.c.aD.length:Int):=om
    simp only[Y.1,Y.2,cX,mL,cF,cH,Qm];rw[Pn _ _ om,eF];have gn:=hg.ev (H.ev++[{bL.zero with kind:=4,aM:=(H.c.aD.getD k aG.zero).aM}]) H.c.now;obtain⟨wa,B,r1,r2,r3,r4,r5,r6⟩:=Wz (w:=⟨⟨H.c.now,H.c.aF,H.c.aD⟩,H.ev++[{bL.zero with kind:=4,aM:=(H.c.aD.getD k aG.zero).aM}]⟩) gn hk U (by unfold bud at K⊢;simp only[cA,Km];omega);have x0:bud B+999<=bud H:=by
     have:bud (⟨⟨H.c.now,H.c.aF,H.c.aD⟩,H.ev++[{bL.zero with kind:=4,aM:=(H.c.aD.getD k aG.zero).aM}]⟩:bB)=bud H+1:=by unfold bud;simp only[cA,Km];omega
     omega
    rw[r1,eF,r2,eF];obtain⟨F,s1,O⟩:=LN r3 om;show∃g',(sG B).bind _=_/\_;rw[s1,eF];obtain⟨v2,e3,e4⟩:=Wy O.good.len;rw[e3,eF];refine⟨_,rfl,⟨O.good.ev _ _,?_,e4⟩,?_⟩
    .have:=O.bud;show bud F<=_;omega
    .have:=O.cnt;show cntW F.c.aD<cntW H.c.aD;exact Nat.lt_of_le_of_lt this r5) (v,⟨⟨IntKind.i64.wrap (w.c.now+n),w.c.aF,w.c.aD⟩,w.ev⟩) ⟨M,hb,Z⟩
 show∃r,(lY _ (v,_)).bind _=some r/\_;rw[h1];exact⟨_,rfl,dI h2 Om⟩
end Ab
end Go.Proofs.YtfmnjkfhahfhgaaGreatDoor
