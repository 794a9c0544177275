import Derived.Test.YtfmnjkfhahfhgaaGreatDoorDoG
import Derived.Test.YtfmnjkfhahfhgaaGreatDoorTabB
import Derived.Test.YtfmnjkfhahfhgaaGreatDoorTabD
namespace Go.Proofs.YtfmnjkfhahfhgaaGreatDoor
namespace Ab
set_option linter.defProp false
set_option linter.unusedVariables false
set_option linter.unusedSimpArgs false
def cMm(p:aK)(cost:Int){w:bB}(L:w.c.aD.length<=8):∃r,y6 p cost w=some r/\r.2.c.aD.length<=100:=by
 unfold y6;split
 .exact⟨_,rfl,by simp only;omega⟩
 obtain⟨v,O,_⟩:=Pl w.c.aD p om;rw[O,eF];split
 .exact⟨_,rfl,by simp only;omega⟩
 split
 .exact⟨_,rfl,by simp only;omega⟩
 rw[gdp om];obtain⟨x,H,U⟩:=nV (body:=J4) (λ g=>0<=g.1/\g.1<(g.2.length:Int)/\g.2.length<=100) (λ g=>g.1.toNat) (λ x=>x.length<=100) (λ g ⟨K,O,H⟩=>by
  obtain⟨i,l⟩:=g;simp only at K O H;unfold J4
  by_cases c:0<i
  .have e:IntKind.i64.wrap (i-1)=i-1:=mB om om;simp only[c,cF,e,cN];rw[gdp (by intro;omega),gdp (by intro;omega)];split
   .left;rw[gdp ⟨K,O⟩,gdp om,gdp ⟨K,O⟩,gdp om];exact⟨_,rfl,⟨by simp only;omega,by simp only[dW];omega,by simp only[dW];exact H⟩,by simp only;omega⟩
   .exact .inr ⟨_,rfl,H⟩
  .simp only[c,cP,fA,bZ,cI];rw[gdp (by intro h;cases h),gdp (by intro h;cases h)];exact .inr ⟨_,rfl,H⟩) (IntKind.i64.wrap (((w.c.aD.length+1:Nat):Int)-1),w.c.aD++[{aG.zero with aM:=p,cost:=cost}])
  ⟨by simp only;rw[mB om om];omega,by simp only[cA,Km];rw[mB om om];omega,by simp only[cA,Km];omega⟩
 rw[H,eF];exact⟨_,rfl,U⟩
def Good.other{w:bB}(g:Good w){i j:Nat}(hi:i<w.c.aD.length)(H:j<w.c.aD.length)(h:i≠j):(w.c.aD.getD j aG.zero).aM≠(w.c.aD.getD i aG.zero).aM:=by
 intro e;have U:=fK.1 g.nd;have gg:∀k,(O:k<w.c.aD.length)->(w.c.aD.map (·.aM))[k]'(by simpa using O)=(w.c.aD.getD k aG.zero).aM:=λ k O=>by rw[jW,cD,cE O];rfl
 rcases kD i j with c|c
 .exact U i j (by simpa using hi) (by simpa using H) c (by rw[gg i hi,gg j H,e])
 .exact U j i (by simpa using H) (by simpa using hi) om (by rw[gg i hi,gg j H,e])
def cMn{t:List aA}(h:ValidT t)(p:aK):Kept p t (remT t p).1:=by
 have L:=cJz h p;rw[Pf h]at L⊢;have H:∀i,i<t.length->(t.map (remN · p)).getD i aA.zero=remN (t.getD i aA.zero) p:=λ i K=>by rw[cD,cW,cD,cE K];rfl
 refine⟨L,by simp,λ i K=>?_,λ i K x O=>?_⟩
 .show((t.map (remN · p)).getD i aA.zero).aB=_;rw[H i K];exact LE (h.each _ (mS K)) p
 .show covA _ (getH ((t.map (remN · p)).getD i aA.zero).aT x) _=true;rw[H i K];exact(Vf (h.each _ (mS K)) O).1
def WA{i:Nat}{w:bB}(g:Good w)(hi:i<w.c.aD.length)(hb:bud w<=400000):∃r,EQ (i:Int) w=some r/\r.c.aD.length<=100:=by
 unfold EQ;have Y:w.ev.length<=400000:=by unfold bud at hb;omega
 have L:=g.len;have B:=cK0 g.v (w.c.aD.getD i aG.zero).aM;rw[gdp om,cJv,eF];simp only[Qm];rw[CF _ _ _ om,eF];have F:IntKind.i64.wrap ((i:Int)+1)=((i+1:Nat):Int):=mF i om;simp only[F,Qm];rw[gdp ⟨by omega,by omega,by omega,trivial⟩,gdp om,gdp (by simp only[dE,dC];omega)];rw[Pn _ _ (by show(w.ev++_).length<=_;rw[cA];omega),eF];have H:(w.c.aD.take i++(w.c.aD.drop (i+1)).take (w.c.aD.length-(i+1))).Sublist w.c.aD:=by
  have e:w.c.aD=w.c.aD.take i++w.c.aD.drop i:=(eO _ _).symm
  conv=>rhs;rw[e]
  refine(List.Sublist.refl _).append ((List.take_sublist _ _).trans ?_);rw[show w.c.aD.drop (i+1)=(w.c.aD.drop i).drop 1 by rw[fB]];exact List.drop_sublist _ _
 have k:=cMn g.v (w.c.aD.getD i aG.zero).aM;have K:∀y∈w.c.aD.take i++(w.c.aD.drop (i+1)).take (w.c.aD.length-(i+1)),∃j,j<w.c.aD.length/\i≠j/\w.c.aD.getD j aG.zero=y:=λ y hy=>by
  rcases cY.1 hy with hy|hy
  .obtain⟨j,O,e⟩:=wY (z:=aG.zero) hy;rw[dE]at O;refine⟨j,by omega,by omega,?_⟩;rw[<-e,Uy _ _ _ _ om]
  .obtain⟨j,O,e⟩:=wY (z:=aG.zero) (iJ hy);rw[dC]at O;refine⟨i+1+j,by omega,by omega,?_⟩;rw[<-e,cD,cD,eG]
 have M:Good ⟨⟨w.c.now,(remT w.c.aF (w.c.aD.getD i aG.zero).aM).1,w.c.aD.take i++(w.c.aD.drop (i+1)).take (w.c.aD.length-(i+1))⟩,(w.ev++(remT w.c.aF (w.c.aD.getD i aG.zero).aM).2)++[{bL.zero with kind:=5,aM:=(w.c.aD.getD i aG.zero).aM}]⟩:=by refine⟨k.v,dI H.length_le L,g.nd.sublist (H.map _),λ y hy V=>?_⟩;obtain⟨j,O,U,rfl⟩:=K y hy;exact(g.ok _ (mS O) V).kept k (g.other hi O U)
 have hc:cntW (w.c.aD.take i++(w.c.aD.drop (i+1)).take (w.c.aD.length-(i+1)))<=cntW w.c.aD:=H.countP_le;obtain⟨w',Z,h9⟩:=LN M (by unfold bud at hb⊢;simp only[cA,Km];omega);exact⟨w',by show(sG _).bind _=_;rw[Z];rfl,dI h9.good.len Om⟩
def cMp{q:aA}{p:aK}{a:aC}{pr:Int}(O:(qF q p a pr).2.2=0)(x:aK):covA q.aB (getH (qF q p a pr).1.aT x) (getH q.aT x)=true:=by
 obtain⟨U,_,_,_,_,h⟩:=Lk O;rcases h with⟨_,e⟩|⟨_,_,e,H⟩|⟨_,_,_,e,H⟩
 .rw[e];exact l8 (Az U.hv x)
 .rw[e,wU];exact HS H x
 .rw[e,wU];exact HS H x
def WB{t:List aA}{nm:ByteArray}{f:aA->ResT}(H:∀q,(f q).2.2≠0->(f q).1=[]/\(f q).2.1=[])(h:(atT t nm f).2.2≠0):(atT t nm f).1=[]/\(atT t nm f).2.1=[]:=by
 unfold atT at h⊢;split
 .exact⟨rfl,rfl⟩
 .rename_i O;rw[bX O]at h;split
  .exact⟨rfl,rfl⟩
  .rename_i K;rw[bX K]at h;exact H _ h
def WC{t:List aA}{nm:ByteArray}{x:aA×List aX×Int}{ev:List bL}(h:(putT t nm x ev).2.2≠0):(putT t nm x ev).1=[]/\(putT t nm x ev).2.1=[]:=by
 unfold putT at h⊢;split
 .rename_i c;rw[cB c]at h;exact absurd rfl h
 .exact⟨rfl,rfl⟩
def cMs{t:List aA}(h:ValidT t)(p:aK)(a:aO)(pr:Int):(uT t p a pr).2.1.length<=20/\((uT t p a pr).1=[]\/∀O,Kept O t (uT t p a pr).1):=by
 by_cases e:(uT t p a pr).2.2=0
 .obtain⟨i,L,Z,h2,U,B,h5,Y⟩:=cKb e;have H:=h.each _ (mS (z:=aA.zero) L);have F:=CA H (.claim p a.aJ pr U);refine⟨?_,.inr λ O=>by rw[B]at Y⊢;exact LM h L Y F.2 λ x _=>cMp U x⟩;unfold uT at e⊢;obtain⟨_,M,_,_,_,V⟩:=Ii e;rw[V]at e⊢;cases K:vU t p with
  |true=>rw[K,cB rfl]at e;exact absurd e Om
  |false=>rw[K,bX Om]at e;rw[bX Om,(Ij e).2];have:=(Vn (t.getD M aA.zero) p a.aJ pr).2.2.2;show([]++tT _ _).length<=20;rw[lJ,Fj];omega
 .have:=WB (t:=t) (nm:=a.name) (f:=λ q=>if vU t p=true then errT 4 else putT t a.name (qF q p a.aJ pr) []) (λ q H=>by
   cases K:vU t p with
   |true=>exact⟨rfl,rfl⟩
   |false=>rw[K,bX Om]at H;rw[bX Om];exact WC H) e
  exact⟨by rw[show(uT t p a pr).2.1=[]from this.2];simp,.inl this.1⟩
def cMt{t:List aA}(h:ValidT t)(p:aK)(a:aO):(qT t p a).2.1.length<=20/\((qT t p a).1=[]\/Kept p t (qT t p a).1):=by
 by_cases e:(qT t p a).2.2=0
 .obtain⟨Y,O⟩:(∃i:Nat,i<t.length/\(oJ (t.getD i aA.zero) p a.aJ).2.2=0/\(qT t p a).1=t.set i (oJ (t.getD i aA.zero) p a.aJ).1)/\(qT t p a).2.1.length<=20:=by
   unfold qT at e⊢;obtain⟨_,i,B,F,U,M⟩:=Ii e;rw[M]at e⊢;obtain⟨V,Z⟩:=Ij e;rw[Z,B,Fl];refine⟨⟨i,F,V,rfl⟩,?_⟩;have:=(OP (t.getD i aA.zero) p a.aJ).2.2.2;show((if getH (t.getD i aA.zero).aT p=a.aJ then([]:List bL)else[Cy p a.name a.aJ])++tT _ _).length<=20;rw[cA,Fj];have:(if getH (t.getD i aA.zero).aT p=a.aJ then([]:List bL)else[Cy p a.name a.aJ]).length<=1:=by split<;>simp
   omega
  obtain⟨i,K,U,h4⟩:=Y;obtain⟨_,_,_,_,L⟩:=Wj e;have H:=h.each _ (mS (z:=aA.zero) K);have hs:=CA H (.lower p a.aJ U);obtain⟨_,_,hz,hw,hc,_⟩:=Fc U;have he:=Ws H hz hw hc;exact⟨O,.inr (by rw[h4]at L⊢;exact LM h K L hs.2 he.2.1)⟩
 .have:=WB (t:=t) (nm:=a.name) (f:=λ q=>putT t a.name (oJ q p a.aJ) (if getH q.aT p=a.aJ then[]else[Cy p a.name a.aJ])) (λ q H=>WC H) e;exact⟨by rw[show(qT t p a).2.1=[]from this.2];simp,.inl this.1⟩
def WD(a:aC):pR a=true↔(1<=a.mode/\a.mode<=5/\a.aU=0)\/(a.mode=0/\1<=a.aU/\a.aU<=8):=by unfold pR sQ;simp only[dS,bY,cC];omega
def cMv{r:aI}{F a b:aC}(hg:b8 a b=true)(Y:covA r F b=true):covA r F a=true:=by
 have V:oB r=true:=by
  rcases(perm_iff r b).1 ((tS _ _ _).1 Y).2.1 with h|h
  .exact h.1
  .exact UC h
 unfold b8 at hg
 by_cases U:pR b=true/\a≠b
 .rw[bX (by simp[U.1,U.2])]at hg
  by_cases B:a=aC.zero
  .rw[B];exact OB ((tS _ _ _).1 Y).1 V
  .have M:¬a=({aC.zero with}:aC):=B;rw[bX (by simpa using M)]at hg
   by_cases K:pR a=true
   .rw[bX (by simp[K])]at hg;have H:b≠aC.zero:=λ e=>by rw[e]at U;exact absurd U.1 Om
    have O:mM r b=true:=by
     rcases(perm_iff r b).1 ((tS _ _ _).1 Y).2.1 with h|h
     .exact absurd h.2 H
     .exact h
    have ub:=(WD b).1 U.1;have ua:=(WD a).1 K;have Z:covA r b a=true:=by
     rw[tS];rw[rR]at O
     by_cases hm:a.mode=0
     .rw[bX (by simp[hm])]at hg;have hg:=gH hg;have fa:mM r a=true:=(rR r a).2 om;exact⟨rE ((rR r b).2 O),rE fa,.inr ⟨H,B,.inr ⟨by omega,by omega⟩⟩⟩
     .rw[cB (by simp[hm])]at hg;have x0:=(E6 b.mode a.mode).1 hg;have fa:mM r a=true:=(rR r a).2 om;exact⟨rE ((rR r b).2 O),rE fa,.inr ⟨H,B,.inl ⟨by omega,hg⟩⟩⟩
    exact Lj Y Z
   .rw[cB (by simp[K])]at hg;cases hg
 .rw[cB (by
   by_cases L:pR b=true
   .have:a=b:=Decidable.byContradiction λ h=>U ⟨L,h⟩;simp[this]
   .simp[L])]at hg
  cases hg
def WE{l:bA}(h:LedgerP l){r:aI}{n:ByteArray}(O:mM r (mZ l.aQ n)=true):∀d k,k+d=l.aQ.length->covA r (mZ l.aQ n) (mZ (l.aQ.take k) n)=true
 |0,k,e=>by rw[show k=l.aQ.length by omega,eV];exact l8 (rE O)
 |d+1,k,e=>by
  have H:=WE h O d (k+1) om;have U:k<l.aQ.length:=om
  rw[vV bN.zero U,Pg]at H;have hg:=h.grow k U
  by_cases c:(l.aQ.getD k bN.zero).name=n
  .rw[cB c]at H;rw[c]at hg;rw[<-hg.1];exact cMv hg.2 H
  .rw[bX c]at H;exact H
def cMx{l:bA}(h:LedgerP l){e:bN}(O:e∈l.aQ):mZ l.aQ e.name≠aC.zero:=by
 have H:∀d k,k+d=l.aQ.length->(∃x∈l.aQ.take k,x.name=e.name)->mZ (l.aQ.take k) e.name≠aC.zero:=by
  have U:∀k,k<=l.aQ.length->(∃x∈l.aQ.take k,x.name=e.name)->mZ (l.aQ.take k) e.name≠aC.zero:=by
   intro k;induction k with
   |zero=>intro _ ⟨x,hx,_⟩;cases hx
   |succ k Y=>
    intro F ⟨x,hx,K⟩;rw[vV bN.zero om,Pg]
    by_cases c:(l.aQ.getD k bN.zero).name=e.name
    .rw[cB c];have hg:=(h.grow k om).2;intro B;rw[B]at hg;unfold b8 at hg;rw[cB (by simp[show pR aC.zero=false by decide])]at hg;cases hg
    .rw[bX c];refine Y om ?_;rw[vV bN.zero om]at hx;rcases cY.1 hx with hx|hx
     .exact⟨x,hx,K⟩
     .rw[dP]at hx;subst hx;exact absurd K c
  exactλ d k e=>U k om
 have:=H 0 l.aQ.length om ⟨e,by rw[eV];exact O,rfl⟩;rwa [eV]at this
def cMy{t:List aA}(K:ValidT t){x:aG}(V:ProcC t x){L:List aO}(Y:∀a∈L,∃q∈t,q.aB.name=a.name/\mM q.aB a.aJ=true){q:aA}(U:q∈t)(B:Ik q x L):
  covA q.aB (getH q.aT x.aM) (mZ x.bF.aQ q.aB.name)=true:=by
 have Z:=((qK _).1 (K.each _ U)).1.hv;have O:=Az Z x.aM;have H:getH q.aT x.aM=mZ x.bF.aQ q.aB.name->covA q.aB (getH q.aT x.aM) (mZ x.bF.aQ q.aB.name)=true:=λ e=>by rw[<-e];exact l8 O
 rcases B with⟨a,ha,F,M,h⟩|⟨h,_⟩
 .rcases h with⟨_,h⟩|h
  .by_cases z:mZ x.bF.aQ q.aB.name=aC.zero
   .rw[z];exact OB O (cE9 (K.each _ U))
   .obtain⟨q1,m1,n1,f1⟩:=V.held _ z;have e1:=K.inj m1 U n1;subst e1;obtain⟨q2,m2,n2,f2⟩:=Y a ha;have e2:=K.inj m2 U (n2.trans F);subst e2;rw[h];exact(Va f1 f2 M).2.1
  .exact H h
 .exact H h
def Po{t:List aA}{n:ByteArray}(h:∃q∈t,q.aB.name=n):∃i,i<t.length/\(t.getD i aA.zero).aB.name=n:=by obtain⟨q,H,e⟩:=h;obtain⟨i,K,rfl⟩:=wY (z:=aA.zero) H;exact⟨i,K,e⟩
def CenP.good{c:bD}(h:CenP c)(ev:List bL):Good ⟨c,ev⟩:=by
 refine⟨h.t,h.len,?_,λ y Z hw=>?_⟩
 .have:=h.asc;rw[List.Nodup,kP];exact this.imp λ K e=>by rw[e]at K;exact E3 _ K
 .have H:=h.each y Z;obtain⟨U,O⟩:=H.wait hw;refine⟨U,by have:=H.led.le;omega,λ L b Y a ha=>?_,λ i V=>?_⟩
  .obtain⟨q,B,e,_⟩:=(O L b Y).1 a ha;exact Po ⟨q,B,e⟩
  .obtain⟨v,F,h4⟩:=LH y.bJ.bU;obtain⟨M,h6⟩:=O v.1 v.2 F;exact cMy h.t H M (mS V) (h6 _ (mS V))
def Pp(p:aK):aK:={p with site:=p.site+1}
def cN1(p:aK):p≠Pp p:=λ e=>by have:=dZ aK.site e;unfold Pp at this;simp only at this;omega
def cN2{w:bB}{i:Nat}(hi:i<w.c.aD.length)(r:bO){L:List aO}(M:L.length<=8)(g:Good w)(hb:bud w<=400000):
  ∃w',lY (HB (i:Int) r L) (0,w)=some w'/\w'.c.aD=w.c.aD/\w'.ev.length<=w.ev.length+160/\(Good w'\/w'.c.aF=[]):=by
 have Y:w.ev.length<=400000:=by unfold bud at hb;omega
 obtain⟨x,B,F⟩:=nV (body:=HB (i:Int) r L) (λ z=>(∃k:Nat,z.1=k/\k<=L.length/\z.2.ev.length<=w.ev.length+20*k)/\z.2.c.aD=w.c.aD/\(Good z.2\/z.2.c.aF=[])) (λ z=>L.length-z.1.toNat)
  (λ x=>x.c.aD=w.c.aD/\x.ev.length<=w.ev.length+160/\(Good x\/x.c.aF=[]))
  (λ z ⟨⟨k,V,Z,he⟩,K,hg⟩=>by
   obtain⟨z1,H⟩:=z;simp only at V he K hg;subst V;unfold HB
   by_cases c:k<L.length
   .left;have U:0<=(k:Int)/\(k:Int)<(L.length:Int):=om
    simp only[U.1,U.2,cX,mL,cF,cH,Qm,mF k (show k<4611686018427387904 by omega)];rw[gdp (by rw[K];omega),cJh,eF];rcases hg with hg|hg
    .obtain⟨c1,c2⟩:=cMs hg.v (H.c.aD.getD i aG.zero).aM (L.getD k aO.zero) r.bC;rw[CF _ _ _ om,eF];refine⟨_,rfl,⟨⟨k+1,rfl,c,by simp only[cA];omega⟩,K,?_⟩,by simp only[Qm];omega⟩;rcases c2 with c2|c2
     .exact .inr c2
     .exact .inl ⟨(c2 aK.zero).v,hg.len,hg.nd,λ y hy hw=>(hg.ok y hy hw).kept (c2 (Pp y.aM)) (cN1 _)⟩
    .have O:uT H.c.aF (H.c.aD.getD i aG.zero).aM (L.getD k aO.zero) r.bC=errT 10:=by
      rw[hg];rfl
     rw[O,CF _ _ _ (by simp[errT];omega),eF];exact⟨_,rfl,⟨⟨k+1,rfl,c,by simp only[errT,eE];omega⟩,K,.inr rfl⟩,by simp only[Qm];omega⟩
   .right;simp only[show¬(k:Int)<(L.length:Int)by omega,cP,bZ,cI];exact⟨_,rfl,K,by omega,hg⟩) (0,w) ⟨⟨0,rfl,by omega,by simp⟩,rfl,.inl g⟩
 exact⟨x,B,F⟩
def Pq{w:bB}(h:Good w/\bud w<=500000\/w.c.aF=[]/\w.c.aD.length<=8/\∀y∈w.c.aD,y.bI=true->vE y.bJ.bU=true):∃w',sG w=some w'/\w'.c.aD.length<=100:=by
 rcases h with⟨h,hb⟩|⟨H,O,U⟩
 .obtain⟨w',H,Y⟩:=LN h hb;exact⟨w',H,dI Y.good.len Om⟩
 .exact⟨w,cMi H O U,by omega⟩
def Fp{w:bB}(H:w.c.aD.length<=8):bud w<=w.ev.length+16000:=by have:=cM5 w.c.aD;unfold bud;omega
def cN5{i:Nat}{c:bD}(h:CenP c)(hi:i<c.aD.length)(r:bO):∃x,EN (i:Int) r ⟨c,[]⟩=some x/\x.2.c.aD.length<=100:=by
 have g:=h.good [];have B:=h.each _ (mS (z:=aG.zero) hi);unfold EN;show∃x,gd (0<=(i:Int)/\(i:Int)<((c.aD.length:Nat):Int)) (if(c.aD.getD (i:Int).toNat aG.zero).bI=true then _ else _)=some x/\_;rw[gdp om];simp only[Qm];cases hw:(c.aD.getD i aG.zero).bI with
 |true=>rw[cB rfl];exact⟨_,rfl,dI h.len Om⟩
 |false=>
 rw[bX Om];have M:∃b,vK r=some b/\(b=true->vE r.bU=true):=by unfold vK;rw[H8,eF];refine⟨_,rfl,λ h=>?_⟩;simp only[bY]at h;exact h.1.1.1.1
 obtain⟨b7,v1,v2⟩:=M;rw[v1,eF];cases b7 with
 |false=>exact⟨_,rfl,dI h.len Om⟩
 |true=>
 have O:=v2 rfl;obtain⟨Z,hs⟩:=h.t.lens';obtain⟨v9,r1,r2⟩:=Wp (c.aF.map (·.aB)) r.bU (by simpa using Z);simp only[cR,bZ,cI,Wo _ Z,qm,r1]
 by_cases U:v9=0
 .simp only[U,cF,cR,bZ,cI];have Y:0<=(i:Int)/\(i:Int)<((c.aD.length:Nat):Int):=om
  rw[gdp Y,gdp Y,gdp Y];simp only[gR,sA _ _ _ _ hi];have hn:=λ(y:aG)=>Fo (i:=i) (w:=⟨⟨c.now,c.aF,c.aD.set i y⟩,[]⟩) (by show i<(c.aD.set i y).length;rw[dW];exact hi);obtain⟨L,a1,a2,a3⟩:=CE r.bU;rw[hn,eF,a1,eF];simp only[sA _ _ _ _ hi,gR];have H:Good ⟨⟨c.now,c.aF,c.aD.set i {{{{c.aD.getD i aG.zero with bI:=true}with bJ:=r}with since:=c.now}with gen:=oW (c.aD.getD i aG.zero).gen}⟩,[]⟩:=
   g.upd (w:=⟨c,[]⟩) hi (Fn h.t) (y:={{{{c.aD.getD i aG.zero with bI:=true}with bJ:=r}with since:=c.now}with gen:=oW (c.aD.getD i aG.zero).gen}) rfl (λ _=>⟨O,by have:=B.led.le;show(c.aD.getD i aG.zero).bF.aQ.length<=_;omega,λ L' b hL a ha=>by
    obtain⟨h0,hr,e1,_⟩:=r2 U L' b hL a ha;obtain⟨q,hq,rfl⟩:=cS.1 hr;exact Po ⟨q,hq,e1⟩,λ j F=>by
    have:=(B.run hw _ (mS (z:=aA.zero) (show j<c.aF.length from F))).1;show covA (c.aF.getD j aA.zero).aB (getH (c.aF.getD j aA.zero).aT (c.aD.getD i aG.zero).aM) (mZ (c.aD.getD i aG.zero).bF.aQ (c.aF.getD j aA.zero).aB.name)=true;rw[<-this];exact l8 (Az ((qK _).1 (h.t.each _ (mS (z:=aA.zero) F))).1.hv _)⟩) _ _
  obtain⟨w',l1,l2,l3,l4⟩:=cN2 (i:=i) (by show i<(c.aD.set i _).length;rw[dW];exact hi) r a2 H (dI (Fp H.len) (by simp));rw[l1,eF];unfold N4;have K:w'.c.aD.length<=8:=by rw[l2];exact H.len
  obtain⟨w2,s1,s9⟩:=Pq (w:=w') (by
   rcases l4 with l4|l4
   .exact .inl ⟨l4,dI (Fp K) (by simp only[Ym]at l3;omega)⟩
   .exact .inr ⟨l4,K,λ y hy V=>by rw[l2]at hy;exact(H.ok y hy V).e⟩)
  rw[s1];exact⟨_,rfl,s9⟩
 .simp only[U,cP,dL,cH];exact⟨_,rfl,dI h.len Om⟩
def cN6(l:bA)(n:ByteArray):∃r,Ag l n=some r:=by
 unfold Ag;obtain⟨b,Y,B⟩:=CD l;rw[Y,eF];cases b with
 |false=>exact⟨_,rfl⟩
 |true=>
 have U:=B rfl;have F:=U.le;have M:=U.ls;simp only[cR,bZ,cI];rw[gdp om];have H:∀(v:Int×bA) (x:bA),x.bH.length=l.bH.length->∃y,lY (G4 l v) (0,x)=some y/\y.aQ=x.aQ/\y.bH.length=l.bH.length:=λ v x hx=>
  nV (body:=G4 l v) (λ g=>∃k:Nat,g.1=k/\k<=l.bH.length/\g.2.aQ=x.aQ/\g.2.bH.length=l.bH.length) (λ g=>l.bH.length-g.1.toNat) (λ y=>y.aQ=x.aQ/\y.bH.length=l.bH.length)
   (λ g ⟨k,V,Z,L,K⟩=>by
    obtain⟨g1,y⟩:=g;simp only at V L K;subst V;unfold G4
    by_cases c:k<l.bH.length
    .left;have O:0<=(k:Int)/\(k:Int)<(l.bH.length:Int):=om
     simp only[K,O.1,O.2,cX,mL,cF,cH,Qm,mF k (show k<4611686018427387904 by omega)];split
     .exact⟨_,rfl,⟨k+1,rfl,c,L,by simp only[dW];exact K⟩,by simp only[Qm];omega⟩
     .exact⟨_,rfl,⟨k+1,rfl,c,L,K⟩,by simp only[Qm];omega⟩
    .right;simp only[K,show¬(k:Int)<(l.bH.length:Int)by omega,cP,bZ,cI];exact⟨_,rfl,L,K⟩) (0,x) ⟨0,rfl,by omega,rfl,hx⟩
 obtain⟨x,O,_⟩:=nV (body:=Ec l n) (λ g=>∃k:Nat,g.1=k/\k<=l.aQ.length/\g.2.aQ.length<=k/\g.2.bH.length=l.bH.length) (λ g=>l.aQ.length-g.1.toNat) (λ _=>True)
  (λ g ⟨k,V,Z,L,K⟩=>by
   obtain⟨g1,y⟩:=g;simp only at V L K;subst V;unfold Ec
   by_cases c:k<l.aQ.length
   .left;have O:0<=(k:Int)/\(k:Int)<(l.aQ.length:Int):=om
    have h5:y.aQ.length+1<=4294967296:=om
    simp only[O.1,O.2,h5,cX,mL,cF,cH,Qm,mF k (show k<4611686018427387904 by omega)];split
    .exact⟨_,rfl,⟨k+1,rfl,c,by simp only[cA,Km];omega,K⟩,by simp only[Qm];omega⟩
    .obtain⟨z,e1,e2,e3⟩:=H ((k:Int),y) y K;rw[e1,eF];unfold NO;exact⟨_,by rw[mF k om],⟨k+1,rfl,c,by simp only[e2];omega,e3⟩,by simp only[Qm];omega⟩
   .right;simp only[show¬(k:Int)<(l.aQ.length:Int)by omega,cP,bZ,cI];exact⟨_,rfl,trivial⟩) (0,⟨[],l.bH⟩) ⟨0,rfl,by omega,by simp,rfl⟩
 rw[O,eF];unfold NN;split<;>exact⟨_,rfl⟩
def cN7{i:Nat}{c:bD}(h:CenP c)(hi:i<c.aD.length)(nm:ByteArray):∃x,HC (i:Int) nm ⟨c,[]⟩=some x/\x.2.c.aD.length<=100:=by
 have g:=h.good [];have O:=h.each _ (mS (z:=aG.zero) hi);unfold HC;show∃x,gd (0<=(i:Int)/\(i:Int)<((c.aD.length:Nat):Int)) (if(c.aD.getD (i:Int).toNat aG.zero).bI=true then _ else _)=some x/\_;have H:0<=(i:Int)/\(i:Int)<((c.aD.length:Nat):Int):=om
 rw[gdp H];simp only[Qm];cases Z:(c.aD.getD i aG.zero).bI with
 |true=>rw[cB rfl];exact⟨_,rfl,dI h.len Om⟩
 |false=>
 rw[bX Om,gdp H,AG _ _ (by have:=O.led.le;omega),eF];split
 .exact⟨_,rfl,dI h.len Om⟩
 obtain⟨M,c2⟩:=cMt h.t (c.aD.getD i aG.zero).aM (⟨nm,aO.zero.aJ⟩:aO);rw[gdp H,Pd,eF,CF _ _ _ (by simp only[lN];omega),eF];obtain⟨r,U⟩:=cN6 (c.aD.getD i aG.zero).bF nm;simp only;rw[gdp H,U,eF,gdp H];have Y:=λ(t:List aA) (ev:List bL) (y:aG)=>Fo (i:=i) (w:=⟨⟨c.now,t,c.aD.set i y⟩,ev⟩) (by show i<(c.aD.set i y).length;rw[dW];exact hi);rw[Y,eF];simp only[sA _ _ _ _ hi,gR];obtain⟨w',B,F⟩:=Pq (w:=⟨⟨c.now,(qT c.aF (c.aD.getD i aG.zero).aM (⟨nm,aO.zero.aJ⟩:aO)).1,c.aD.set i {{c.aD.getD i aG.zero with bF:=r.1}with gen:=oW (c.aD.getD i aG.zero).gen}⟩,[]++(qT c.aF (c.aD.getD i aG.zero).aM (⟨nm,aO.zero.aJ⟩:aO)).2.1⟩) (by
  have L:(c.aD.set i {{c.aD.getD i aG.zero with bF:=r.1}with gen:=oW (c.aD.getD i aG.zero).gen}).length<=8:=by rw[dW];exact h.len
  rcases c2 with c2|c2
  .refine .inr ⟨c2,L,λ y V K=>?_⟩;rcases jC V with V|rfl
   .exact(g.ok y V K).e
   .have:(c.aD.getD i aG.zero).bI=true:=K;rw[Z]at this;cases this
  .refine .inl ⟨g.upd (w:=⟨c,[]⟩) hi c2 (y:={{c.aD.getD i aG.zero with bF:=r.1}with gen:=oW (c.aD.getD i aG.zero).gen}) rfl (λ K=>?_) _ _,dI (Fp L) (by simp only[cA,Ym];omega)⟩;have:(c.aD.getD i aG.zero).bI=true:=K;rw[Z]at this;cases this)
 rw[B];exact⟨_,rfl,F⟩
def WF{l:bA}(K:LedgerP l)(label:Int):∃r,i4 l label=some r/\(r.2.2=0->∃k:Nat,k<=l.aQ.length/\∀a∈r.2.1,(∃e∈l.aQ,e.name=a.name)/\a.aJ=mZ (l.aQ.take k) a.name)/\r.2.1.length<=72/\r.1.aQ.length<=l.aQ.length:=by
 have h0:=K.le;have x0:=K.ls;have M:∀(H:Nat) (U:Nat),H<=l.aQ.length->U<=l.bH.length->∃r,Ed l ((H:Int),(U:Int))=some r/\(r.2.2=0->∃k:Nat,k<=l.aQ.length/\∀a∈r.2.1,(∃e∈l.aQ,e.name=a.name)/\a.aJ=mZ (l.aQ.take k) a.name)/\r.2.1.length<=72/\r.1.aQ.length<=l.aQ.length:=by
  intro H U V Z;unfold Ed;simp only[Qm];rw[gdp om,gdp (by simp only[dE];omega),gdp om,gdp (by simp only[dE];omega),gdp om];obtain⟨O,n1,n2,n3⟩:=Ph (l.aQ.drop H) (by simp only[dC];omega);rw[n1,eF];have y0:O.length<=72:=by rw[dC]at n2;omega
  have Y:=LJ O (⟨#[]⟩:ByteArray) (λ n=>some (⟨n,mZ (l.aQ.take H) n⟩:aO)) (body:=G5 l ((H:Int),(U:Int)) O) om (λ i s hi hs'=>by
   unfold G5;have L:0<=(i:Int)/\(i:Int)<(O.length:Int):=om
   have h5:s.length+1<=4294967296:=om
   simp only[L.1,L.2,h5,cX,mL,cF,cH,Qm,mF i (show i<4611686018427387904 by omega)];rw[AG _ _ (by simp only[dE];omega)];rfl) (λ s=>by unfold G5;simp)
  rw[Y,eF];refine⟨_,rfl,λ _=>⟨H,V,λ a hm=>?_⟩,?_,?_⟩
  .obtain⟨n,hn,e⟩:=fZ.1 (show a∈O.filterMap _ from hm);cases e;obtain⟨en,he,B⟩:=(n3 n).1 hn;exact⟨⟨en,iZ he,B⟩,rfl⟩
  .have:=gQ (λ n=>some (⟨n,mZ (l.aQ.take H) n⟩:aO)) O;show(O.filterMap _).length<=72;omega
  .show(l.aQ.take H).length<=_;rw[dE];omega
 unfold i4;obtain⟨b,h1,_⟩:=CD l;rw[h1,eF];cases b with
 |false=>exact⟨_,rfl,(λ h=>nomatch h),by simp,fS _⟩
 |true=>
 simp only[cR,bZ,cI]
 by_cases c:label=0
 .rw[bX (by simp[c])];exact M 0 0 om om
 .rw[cB (by simp[c])];obtain⟨v,f1,F⟩:=Pi l.bH label om;rw[f1,eF];rcases F with rfl|⟨F,f3⟩
  .exact⟨_,rfl,(λ h=>nomatch h),by simp,fS _⟩
  .rw[bX (by simp;omega),gdp ⟨F,f3⟩];have Z:=K.at_ _ (mS (z:=bW.zero) (show v.toNat<l.bH.length by omega));have e1:(l.bH.getD v.toNat bW.zero).at_=(((l.bH.getD v.toNat bW.zero).at_.toNat:Nat):Int):=om
   have e2:IntKind.i64.wrap (v+1)=((v.toNat+1:Nat):Int):=by rw[mB om om];omega
   rw[e2,e1];exact M _ _ om om
def Back(x:aG)(t H:List aA)(k:Nat):Prop:=∀j,j<t.length->(nH (H.getD j aA.zero) x.aM).2=false/\
 (getH (H.getD j aA.zero).aT x.aM=mZ x.bF.aQ (t.getD j aA.zero).aB.name\/getH (H.getD j aA.zero).aT x.aM=mZ (x.bF.aQ.take k) (t.getD j aA.zero).aB.name)
def cN9{c:bD}(h:CenP c){i:Nat}(hi:i<c.aD.length){v:bA×List aO×Int}(hv:v.2.1.length<=72){k:Nat}(hk:k<=(c.aD.getD i aG.zero).bF.aQ.length)
  (ha:∀a∈v.2.1,(∃e∈(c.aD.getD i aG.zero).bF.aQ,e.name=a.name)/\a.aJ=mZ ((c.aD.getD i aG.zero).bF.aQ.take k) a.name)
  {j1:bB} (hj:(j1.c.aD.getD i aG.zero).aM=(c.aD.getD i aG.zero).aM) (e0:j1.c.aD.length=c.aD.length) {w:bB} (hK:Kept (c.aD.getD i aG.zero).aM c.aF w.c.aF) (hB:Back (c.aD.getD i aG.zero) c.aF w.c.aF k) (f0:w.ev.length<=1000):
  ∃w',lY (HD (i:Int) v j1) (0,w)=some w'/\Kept (c.aD.getD i aG.zero).aM c.aF w'.c.aF/\w'.c.aD=w.c.aD/\w'.ev.length<=w.ev.length+1440:=by
 have hp:=h.each _ (mS (z:=aG.zero) hi);obtain⟨x,h1,h2⟩:=nV (body:=HD (i:Int) v j1) (λ z=>(∃m:Nat,z.1=m/\m<=v.2.1.length/\z.2.ev.length<=w.ev.length+20*m)/\z.2.c.aD=w.c.aD/\Kept (c.aD.getD i aG.zero).aM c.aF z.2.c.aF/\Back (c.aD.getD i aG.zero) c.aF z.2.c.aF k) (λ z=>v.2.1.length-z.1.toNat)
  (λ x=>Kept (c.aD.getD i aG.zero).aM c.aF x.c.aF/\x.c.aD=w.c.aD/\x.ev.length<=w.ev.length+1440)
  (λ z ⟨⟨m,hm,hml,he⟩,L,K,V⟩=>by
   obtain⟨z1,B⟩:=z;simp only at hm he L K V;subst hm;unfold HD
   by_cases cm:m<v.2.1.length
   .left;have h3:0<=(m:Int)/\(m:Int)<(v.2.1.length:Int):=om
    have g0:=K.v.lens'.1;simp only[h3.1,h3.2,cX,mL,cF,cH,Qm,mF m (show m<4611686018427387904 by omega)];obtain⟨⟨en,p0,q0⟩,O⟩:=ha _ (mS (z:=aO.zero) cm);have M:=cMx hp.led p0;rw[q0]at M;obtain⟨q,hq,y0,r0⟩:=hp.held _ M;obtain⟨j,U,H⟩:=Po ⟨q,hq,y0⟩;have s0:c.aF.getD j aA.zero=q:=h.t.inj (mS U) hq (H.trans y0.symm);have h0:j<B.c.aF.length:=by rw[K.len];exact U
    have z0:=K.find h.t U;rw[H]at z0;have h6:=AH K.v.lens h0;rw[m4 _ _ om,eF,z0,gdp om];simp only[Qm,hj];rw[wS _ _ om,eF];split
    .rename_i t0;have u0:¬getH (B.c.aF.getD j aA.zero).aT (c.aD.getD i aG.zero).aM=(v.2.1.getD m aO.zero).aJ:=by simpa [-List.getD_eq_getElem?_getD]using t0
     have v0:=V j U;have F:=K.res j U;have Y:getH (B.c.aF.getD j aA.zero).aT (c.aD.getD i aG.zero).aM=mZ (c.aD.getD i aG.zero).bF.aQ (v.2.1.getD m aO.zero).name:=by
      rcases v0.2 with e|e
      .rw[e,H]
      .rw[H,<-O]at e;exact absurd e u0
     have c0:covA (B.c.aF.getD j aA.zero).aB (getH (B.c.aF.getD j aA.zero).aT (c.aD.getD i aG.zero).aM) (v.2.1.getD m aO.zero).aJ=true:=by rw[Y,O,F,s0];exact WE hp.led r0 ((c.aD.getD i aG.zero).bF.aQ.length-k) k om
     obtain⟨Z,ev,r1,r2,r3,r4,r5,r6⟩:=Wt K.v h0 (p:=(c.aD.getD i aG.zero).aM) (a:=(v.2.1.getD m aO.zero).aJ) (by rw[Y];exact M) v0.1 c0;have x0:(⟨(B.c.aF.getD j aA.zero).aB.name,(v.2.1.getD m aO.zero).aJ⟩:aO)=v.2.1.getD m aO.zero:=by rw[F,H]
     rw[x0]at r1;rw[Pd,eF,r1,CF _ _ _ (by simp only;omega),eF];refine⟨_,rfl,⟨⟨m+1,rfl,cm,by simp only[cA];omega⟩,L,K.trans r3,λ j2 d0=>?_⟩,by simp only[Qm];omega⟩
     by_cases e:j=j2
     .subst e;show(nH ((B.c.aF.set j Z).getD j aA.zero) _).2=false/\_;rw[sA _ _ _ _ h0];exact⟨r5,.inr (by rw[r4,O,H])⟩
     .show(nH ((B.c.aF.set j Z).getD j2 aA.zero) _).2=false/\(getH ((B.c.aF.set j Z).getD j2 aA.zero).aT _=_\/getH ((B.c.aF.set j Z).getD j2 aA.zero).aT _=_);rw[LL _ _ _ _ _ e];exact V j2 d0
    .exact⟨_,rfl,⟨⟨m+1,rfl,cm,by simp only;omega⟩,L,K,V⟩,by simp only[Qm];omega⟩
   .right;simp only[show¬(m:Int)<(v.2.1.length:Int)by omega,cP,bZ,cI];exact⟨_,rfl,K,L,by omega⟩) (0,w) ⟨⟨0,rfl,by omega,by simp⟩,rfl,hK,hB⟩
 exact⟨x,h1,h2⟩
def cNa{i:Nat}{c:bD}(h:CenP c)(hi:i<c.aD.length)(label:Int):∃x,EP (i:Int) label ⟨c,[]⟩=some x/\x.2.c.aD.length<=100:=by
 have g:=h.good [];have Z:=h.each _ (mS (z:=aG.zero) hi);have h3:0<=(i:Int)/\(i:Int)<((c.aD.length:Nat):Int):=om
 unfold EP;show∃x,gd (0<=(i:Int)/\(i:Int)<((c.aD.length:Nat):Int)) ((i4 (c.aD.getD (i:Int).toNat aG.zero).bF label).bind _)=some x/\_;rw[gdp h3];simp only[Qm];obtain⟨v,u1,u2,u3,_⟩:=WF Z.led label;rw[u1,eF]
 by_cases c0:v.2.2=0
 .rw[bX (by simp[c0]),gdp h3];obtain⟨k,hk,h0⟩:=u2 c0;have O:∀(j1:bB),j1.c.aD.length=c.aD.length->(j1.c.aD.getD i aG.zero).aM=(c.aD.getD i aG.zero).aM->(j1.c.aD.getD i aG.zero).bI=false->j1.ev.length<=320->Kept (c.aD.getD i aG.zero).aM c.aF j1.c.aF->Back (c.aD.getD i aG.zero) c.aF j1.c.aF k->
    (∀H (y:aG) (ev:List bL),Kept (c.aD.getD i aG.zero).aM c.aF H->y.aM=(c.aD.getD i aG.zero).aM->y.bI=false->Good ⟨⟨j1.c.now,H,j1.c.aD.set i y⟩,ev⟩)->∃x,EO (i:Int) v j1=some x/\x.2.c.aD.length<=100:=by
   intro j1 x0 K hw1 v0 hK hB hG;unfold EO;have V:i<j1.c.aD.length:=om
   rw[gdp om,gdp om];simp only[Qm];obtain⟨w',l1,l2,l3,l4⟩:=cN9 h hi u3 hk h0 K x0 (w:=⟨⟨j1.c.now,j1.c.aF,j1.c.aD.set i {j1.c.aD.getD i aG.zero with bF:=v.1}⟩,j1.ev⟩) hK hB (by simp only;omega);rw[l1,eF];unfold KY;have y0:i<w'.c.aD.length:=by rw[l3,dW];exact V
   rw[Fo y0,eF];obtain⟨w2,s1,s9⟩:=Pq (w:=⟨⟨w'.c.now,w'.c.aF,w'.c.aD.set i {w'.c.aD.getD i aG.zero with gen:=oW (w'.c.aD.getD i aG.zero).gen}⟩,w'.ev⟩) (.inl (by
    have e:w'.c.aD.set i {w'.c.aD.getD i aG.zero with gen:=oW (w'.c.aD.getD i aG.zero).gen}=j1.c.aD.set i {{j1.c.aD.getD i aG.zero with bF:=v.1}with gen:=oW (j1.c.aD.getD i aG.zero).gen}:=by rw[l3];simp only[sA _ _ _ _ V,gR]
    rw[e];have gg:=hG w'.c.aF {{j1.c.aD.getD i aG.zero with bF:=v.1}with gen:=oW (j1.c.aD.getD i aG.zero).gen} w'.ev l2 K hw1;refine⟨⟨gg.v,gg.len,gg.nd,gg.ok⟩,dI (Fp gg.len) ?_⟩;simp only at l4⊢;omega))
   rw[s1];exact⟨_,rfl,s9⟩
  show∃x,(if(c.aD.getD i aG.zero).bI=true then _ else _)=some x/\_;rcases hb (c.aD.getD i aG.zero).bI with hw|hw
  case inr=>rw[bX (by rw[hw];decide)];refine O ⟨c,[]⟩ rfl rfl hw (by simp) (Fn h.t) (λ j F=>?_) (λ H y ev k1 k2 k3=>g.upd (w:=⟨c,[]⟩) hi k1 k2 (λ U=>by rw[k3]at U;cases U) _ _);have:=Z.run hw _ (mS (z:=aA.zero) (show j<c.aF.length from F));exact⟨this.2,.inl this.1⟩
  case inl=>
   rw[cB hw];obtain⟨H,ev,L,w1,w2,w3,w4,w5⟩:=Wx (w:=⟨c,[]⟩) g hi hw (dI (Fp g.len) (by simp));rw[w1,eF];have Y:(c.aD.set i (oX (c.aD.getD i aG.zero))).getD i aG.zero=oX (c.aD.getD i aG.zero):=sA _ _ _ _ hi;refine O _ (by simp) (by show((c.aD.set i _).getD i aG.zero).aM=_;rw[Y];rfl) (by show((c.aD.set i _).getD i aG.zero).bI=false;rw[Y];rfl) (by simp only[jm];exact w2) w3 (λ j F=>?_) (λ t2 y B k1 k2 k3=>?_)
   .rcases w5 j F with M|⟨M,h6⟩
    .exact⟨M.2,.inl M.1⟩
    .obtain⟨_,z0⟩:=Z.wait hw;have u0:=(z0 L true w4).2 _ (mS (z:=aA.zero) (show j<c.aF.length from F));rcases u0 with⟨a,ha,hn,_⟩|⟨h7,h8⟩
     .exact absurd hn (h6 a ha)
     .show(nH (H.getD j aA.zero) _).2=false/\(getH (H.getD j aA.zero).aT _=_\/_);rw[show H.getD j aA.zero=c.aF.getD j aA.zero from M];exact⟨h8,.inl h7⟩
   .have:=g.upd (w:=⟨c,[]⟩) hi k1 k2 (λ U=>by rw[k3]at U;cases U) c.now B;show Good ⟨⟨c.now,t2,(c.aD.set i _).set i y⟩,B⟩;rw[gR];exact this
 .rw[cB (by simp[c0])];exact⟨_,rfl,dI h.len Om⟩
def cNb(l:bA)(n:Int)(K:l.bH.length<=1000)(U:l.aQ.length<=1000):∃r,D5 l n=some r:=by
 unfold D5;obtain⟨b,H,_⟩:=CD l;rw[H,eF];split
 .exact⟨_,rfl⟩
 split
 .exact⟨_,rfl⟩
 obtain⟨v,O,_⟩:=Pi l.bH n om;rw[O,eF];split
 .exact⟨_,rfl⟩
 split
 .exact⟨_,rfl⟩
 rw[gdp om,gdp om,gdp om];exact⟨_,rfl⟩
def cNc{c:bD}(h:CenP c)(k:bP):∃x,ER k ⟨c,[]⟩=some x/\x.2.c.aD.length<=100:=by
 have g:=h.good [];have H:bud ⟨c,[]⟩<=400000:=dI (Fp g.len) (by simp);have O:∀{o:Option (Int×bB)},(∃x,o=some x/\x.2.c.aD.length<=100)->∃x:Int×bB,(o.bind λ v=>some (v.1,v.2))=some x/\x.2.c.aD.length<=100:=λ{o} ⟨x,L,V⟩=>⟨x,by rw[L];rfl,V⟩;have B:∀{o:Option bB},(∃x,o=some x/\x.c.aD.length<=100)->∃x:Int×bB,(o.bind λ v=>some (0,v))=some x/\x.2.c.aD.length<=100:=λ{o} ⟨x,L,V⟩=>⟨(0,x),by rw[L];rfl,V⟩;unfold ER
 by_cases F:((decide (k.kind<1))||(decide (9<k.kind)))=true
 .rw[cB F];exact⟨_,rfl,dI h.len Om⟩
 rw[bX F]
 by_cases M:k.kind=1
 .rw[cB (cQ M)];exact O (cMm _ _ g.len)
 rw[bX (by simpa using M)]
 by_cases Z:k.kind=9
 .rw[cB (cQ Z)];exact O (cMl _ g H)
 rw[bX (by simpa using Z)];obtain⟨v,i1,i2⟩:=Pl c.aD k.aM (by have:=h.len;omega);show∃x,(xQ c.aD k.aM).bind _=some x/\_;rw[i1,eF];rcases i2 with⟨rfl,_⟩|⟨i,rfl,K,_⟩
 .exact⟨_,rfl,dI h.len Om⟩
 have hp:=h.each _ (mS (z:=aG.zero) K);have U:0<=(i:Int)/\(i:Int)<((c.aD.length:Nat):Int):=om
 rw[bX (by simp)];show∃x,gd (0<=(i:Int)/\(i:Int)<((c.aD.length:Nat):Int)) _=some x/\_;rw[gdp U];simp only[Qm]
 by_cases k2:k.kind=2
 .rw[cB (cQ k2)];exact O (cN5 h K _)
 rw[bX (by simpa using k2)]
 by_cases k3:k.kind=3
 .rw[cB (cQ k3)];rcases hb (c.aD.getD i aG.zero).bI with hw|hw
  case inr=>rw[cB (by show(!(c.aD.getD i aG.zero).bI)=true;rw[hw];rfl)];exact⟨_,rfl,dI h.len Om⟩
  case inl=>rw[bX (by show¬(!(c.aD.getD i aG.zero).bI)=true;rw[hw];decide)];obtain⟨w1,w2,r1,r2,r3,_,_,r6⟩:=Wz (w:=⟨c,[]⟩) g K hw om;rw[r1,eF,r2,eF];obtain⟨w3,Y,s9⟩:=LN r3 om;show∃x,(sG w2).bind _=some x/\_;rw[Y];exact⟨_,rfl,dI s9.good.len Om⟩
 rw[bX (by simpa using k3)]
 by_cases k4:k.kind=4
 .rw[cB (cQ k4)];exact O (cN7 h K _)
 rw[bX (by simpa using k4)]
 by_cases k5:k.kind=5
 .rw[cB (cQ k5)];rcases hb (c.aD.getD i aG.zero).bI with hw|hw
  case inl=>rw[cB (by exact hw)];exact⟨_,rfl,dI h.len Om⟩
  case inr=>
   rw[bX (by show¬(c.aD.getD i aG.zero).bI=true;rw[hw];decide),gdp U];obtain⟨r,Y⟩:=cNb (c.aD.getD i aG.zero).bF k.n (by have:=hp.led.ls;omega) (by have:=hp.led.le;omega);rw[Y,eF];split
   .exact⟨_,rfl,dI h.len Om⟩
   .rw[gdp U];have hn:=λ(y:aG)=>Fo (i:=i) (w:=⟨⟨c.now,c.aF,c.aD.set i y⟩,[]⟩) (by show i<(c.aD.set i y).length;rw[dW];exact K);rw[hn];exact⟨_,rfl,by simp only[dW];exact dI h.len Om⟩
 rw[bX (by simpa using k5)]
 by_cases k6:k.kind=6
 .rw[cB (cQ k6)];exact O (cNa h K _)
 rw[bX (by simpa using k6)]
 by_cases k8:k.kind=8
 .rw[cB (cQ k8)];rcases hb (c.aD.getD i aG.zero).bI with hw|hw
  case inl=>rw[cB (by exact hw)];exact⟨_,rfl,dI h.len Om⟩
  case inr=>rw[bX (by show¬(c.aD.getD i aG.zero).bI=true;rw[hw];decide)];exact B (WA g K H)
 rw[bX (by simpa using k8)]
 by_cases k7:k.kind=7
 .rw[cB (cQ k7)];exact B (WA g K H)
 .rw[bX (by simpa using k7)];exact⟨_,rfl,dI h.len Om⟩
def cNd(c:bD)(k:bP):∃x,ES c k=some x/\x.1.aD.length<=100:=by
 unfold ES;obtain⟨b,H,O⟩:=Wr c;rw[H,eF];cases b with
 |false=>exact⟨_,rfl,by simp[bD.zero]⟩
 |true=>
  have h:=O rfl;rw[bX Om];unfold F5;rw[gdp (by have:=h.t.len;omega),gdp (by have:=h.len;omega),eF];obtain⟨x,e,U⟩:=cNc h k;show∃x,(ER k ⟨c,[]⟩).bind _=some x/\_;rw[e,eF];split
  .exact⟨_,rfl,by simp[bD.zero]⟩
  .exact⟨_,rfl,U⟩
def cNe(c:bD)(l:List bP)(V:l.length<=100000)(O:c.aD.length<=100):∃x,ET c l=some x/\x.aD.length<=100:=by
 unfold ET;obtain⟨x,U,Y⟩:=nV (body:=KZ l) (λ g=>∃k:Nat,g.1=k/\k<=l.length/\g.2.aD.length<=100) (λ g=>l.length-g.1.toNat) (λ x=>x.aD.length<=100)
  (λ g ⟨k,K,L,hg⟩=>by
   obtain⟨F,y⟩:=g;simp only at K hg;subst K;unfold KZ
   by_cases c:k<l.length
   .left;have H:0<=(k:Int)/\(k:Int)<(l.length:Int):=om
    obtain⟨x,e,B⟩:=cNd y (l.getD k bP.zero);simp only[H.1,H.2,cX,mL,cF,cH,Qm,mF k (show k<4611686018427387904 by omega),e,qm];split
    .exact⟨_,rfl,⟨k+1,rfl,c,B⟩,by simp only[Qm];omega⟩
    .exact⟨_,rfl,⟨k+1,rfl,c,hg⟩,by simp only[Qm];omega⟩
   .right;simp only[show¬(k:Int)<(l.length:Int)by omega,cP,bZ,cI];exact⟨_,rfl,hg⟩) (0,c) ⟨0,rfl,by omega,O⟩
 rw[U];exact⟨_,rfl,Y⟩
structure Adv (u u':bK):Prop where
 ok:TapeOk u'
 l:u'.l=u.l
 at_:u.at_<=u'.at_
def Adv.trans{a b c:bK}(h:Adv a b)(k:Adv b c):Adv a c:=⟨k.ok,k.l.trans h.l,Int.le_trans h.at_ k.at_⟩
def Adv.refl{a:bK}(h:TapeOk a):Adv a a:=⟨h,rfl,kN _⟩
def LO{u:bK}(h:TapeOk u):Adv u (oK u):=⟨l9 h,Vs u,by
 unfold oK;split
 .exact kN _
 .show u.at_<=u.at_+1;omega⟩
def qU{m:Int}(H:1<=m)(U:m<=1000000){u:bK}(h:TapeOk u):∃v O,nQ m u=some (v,O)/\Adv u O/\0<=v/\v<m:=by have:=HZ m u H;exact⟨_,_,Cp m u h H U,LO h,this.1,this.2⟩
def cNg{m:Int}(Y:1<=m)(B:m<=1048576){u:bK}(h:TapeOk u):∃v H,nQ m u=some (v,H)/\Adv u H:=by
 unfold nQ;have K:=h.len;have V:=h.at_
 by_cases c:(u.l.length:Int)<=u.at_
 .rw[cB (by simpa using c)];exact⟨_,_,rfl,Adv.refl h⟩
 .rw[bX (by simpa using c)];have O:IntKind.i64.wrap (u.at_+1)=u.at_+1:=mB om om;have U:IntKind.i64.wrap (u.at_+1-1)=u.at_:=by rw[mB om om];omega
  simp only[O,U];rw[gdp om];have hm:∃v,wF (u.l.getD u.at_.toNat 0) m=some v:=by unfold wF;rw[bX (by simp;omega),gdp om];split<;>exact⟨_,rfl⟩
  obtain⟨v,L⟩:=hm;rw[L];exact⟨_,_,rfl,⟨K,by simp only;omega⟩,rfl,by simp only;omega⟩
def WG(H:List aO)(ha:1<=H.length)(hb:H.length<=1000):∀(n:Nat) (d:Int),0<=d->d.toNat<n->d<=10->∀u,TapeOk u->∃e Y,Bt n H d u=some (e,Y)/\Adv u Y
 |0,_,_,h,_,_,_=>om
 |n+1,d,h0,hd,h10,u,L=>by
  show∃e Y,Gv (Bt n) H d u=some (e,Y)/\_;unfold Gv;have first:∃v U,(if(!decide (d=0))=true then nQ 4 u else some (0,u))=some (v,U)/\Adv u U:=by
   split
   .obtain⟨v,U,h1,h2,_⟩:=qU (m:=4) Om Om L;exact⟨v,U,h1,h2⟩
   .exact⟨0,u,rfl,Adv.refl L⟩
  obtain⟨v,U,e1,B⟩:=first
  rw[e1,eF]
  by_cases c:((decide (d=0))||(decide (v=0)))=true
  .rw[cB c];obtain⟨v2,u2,e2,a2,F,M⟩:=qU (m:=(H.length:Int)) om om B.ok;rw[e2,eF,gdp ⟨F,M⟩];exact⟨_,_,rfl,B.trans a2⟩
  .rw[bX c];have x0:1<=d:=by
    simp only[dS,cC,lE]at c;omega
   obtain⟨v3,u3,e3,V,F,M⟩:=qU (m:=3) Om Om B.ok;rw[e3,eF];have Z:IntKind.i64.wrap (1+v3)=1+v3:=mB om om;simp only[Z];obtain⟨v4,u4,e4,a4,r3,r4⟩:=qU (m:=1+v3) om om V.ok;rw[e4,eF];have O:=(B.trans V).trans a4;obtain⟨x,l1,l2⟩:=nV (body:=JX (Bt n) H d (v3,u3)) (λ g=>∃k:Nat,g.1=k/\k<=4/\Adv u g.2.1/\g.2.2.bG.length<=k) (λ g=>4-g.1.toNat) (λ x=>Adv u x.1)
    (λ g ⟨k,hk,hk4,O,K⟩=>by
     obtain⟨g1,t,e⟩:=g;simp only at hk O K;subst hk;unfold JX;simp only[Z]
     by_cases ck:(k:Int)<1+v3
     .left;rw[cB (by simpa using ck)];have wd:IntKind.i64.wrap (d-1)=d-1:=mB om om;obtain⟨e5,u5,e6,a6⟩:=WG H ha hb n (d-1) om om om t O.ok;rw[wd,e6,eF,gdp om,mF k om];exact⟨_,rfl,⟨k+1,rfl,by omega,O.trans a6,by simp only[cA,Km];omega⟩,by simp only[Qm];omega⟩
     .right;rw[bX (by simpa using ck)];exact⟨_,rfl,O⟩) (0,u4,(⟨(IntKind.i64.wrap (1+v4)),(⟨aO.zero.name,(⟨aO.zero.aJ.mode,aO.zero.aJ.aU⟩:aC)⟩:aO),[]⟩:aS)) ⟨0,rfl,by omega,O,by simp⟩
   rw[l1,eF];exact⟨_,_,rfl,l2⟩
def cNi(l:List aI)(hl:1<=l.length)(B:l.length<=10)(F:∀r∈l,oB r=true){u:bK}(M:TapeOk u):∃e H,BA l u=some (e,H)/\Adv u H:=by
 unfold BA;obtain⟨v1,O,L,U⟩:=cNg (m:=1048576) Om Om M;rw[L,eF];obtain⟨x,V,l2⟩:=nV (body:=Ka l (v1,O)) (λ g=>∃k:Nat,g.1=k/\k<=l.length/\g.2.length=k) (λ g=>l.length-g.1.toNat) (λ x=>x.length=l.length)
  (λ g ⟨k,K,Z,hg⟩=>by
   obtain⟨g1,s⟩:=g;simp only at K hg;subst K;unfold Ka
   by_cases c:k<l.length
   .left;have Y:0<=(k:Int)/\(k:Int)<(l.length:Int):=om
    have w1:IntKind.i64.wrap (3*(k:Int))=3*(k:Int):=mB om om;have w2:0<=IntKind.u64.wrap (3*(k:Int)):=by unfold IntKind.wrap;simp only[IntKind.signed,fA,bZ,cI];exact jH _ Om
    simp only[Y.1,Y.2,cX,mL,cF,cH,Qm,mF k (show k<4611686018427387904 by omega),w1];rw[gdp w2,OR _ _ (F _ (mS c)),eF,gdp om];exact⟨_,rfl,⟨k+1,rfl,c,by simp only[cA,Km];omega⟩,by simp only[Qm];omega⟩
   .right;simp only[show¬(k:Int)<(l.length:Int)by omega,cP,bZ,cI];exact⟨_,rfl,by omega⟩) (0,[]) ⟨0,rfl,by omega,rfl⟩
 rw[V,eF];unfold NA JY;obtain⟨e,u2,e2,a2⟩:=WG x om om ((2:Int).toNat+1) 2 Om Om Om O U.ok;rw[e2];exact⟨_,_,rfl,U.trans a2⟩
def cNj(l:List aI)(L:1<=l.length)(O:l.length<=10)(V:∀r∈l,oB r=true){u:bK}(Z:TapeOk u):∃e H,BF l u=some (e,H)/\Adv u H:=by
 unfold BF;obtain⟨v1,u1,e1,U,_⟩:=qU (m:=8) Om Om Z;obtain⟨v2,u2,e2,Y,_⟩:=qU (m:=5) Om Om U.ok;rw[e1,eF,e2,eF];have M:∀(t:bK) (r:bO),Adv u t->∃e H,D1 l (t,r)=some (e,H)/\Adv u H:=λ t r K=>by unfold D1;obtain⟨e,u3,B,F⟩:=cNi l L O V K.ok;rw[B];exact⟨_,_,rfl,K.trans F⟩
 split
 .obtain⟨v3,u3,B,F,_⟩:=qU (m:=20) Om Om Y.ok;rw[B,eF];exact M _ _ ((U.trans Y).trans F)
 .exact M _ _ (U.trans Y)
def cNk(l:List aI)(K:1<=l.length)(B:l.length<=10)(L:∀r∈l,oB r=true){u:bK}(F:TapeOk u):∃e M,Em l u=some (e,M)/\Adv (oK u) M:=by
 unfold Em;rw[Cp 16 u F Om Om,eF];have V:=LO F;obtain⟨v2,u2,Z,Y,_⟩:=qU (m:=6) Om Om V.ok;rw[Z,eF,OQ,eF];have nx:∀(m:Int),1<=m->m<=1000000->∃v U,nQ m u2=some (v,U)/\Adv (oK u) U/\0<=v/\v<m:=λ m h1 h2=>by obtain⟨v,U,H,O,r⟩:=qU h1 h2 Y.ok;exact⟨v,U,H,Y.trans O,r⟩
 split
 .obtain⟨v,U,H,O,_⟩:=nx 9 Om Om;rw[H];exact⟨_,_,rfl,O⟩
 split
 .obtain⟨e,U,H,O⟩:=cNj l K B L Y.ok;rw[H];exact⟨_,_,rfl,Y.trans O⟩
 split
 .exact⟨_,_,rfl,Y⟩
 split
 .obtain⟨v,U,H,O,r1,r2⟩:=nx (l.length:Int) om om;rw[H,eF,gdp ⟨r1,r2⟩];exact⟨_,_,rfl,O⟩
 split
 .obtain⟨v,U,H,O,_⟩:=nx 4 Om Om;rw[H];exact⟨_,_,rfl,O⟩
 split
 .obtain⟨v,U,H,O,_⟩:=nx 5 Om Om;rw[H];exact⟨_,_,rfl,O⟩
 split
 .exact⟨_,_,rfl,Y⟩
 split
 .exact⟨_,_,rfl,Y⟩
 .obtain⟨v,U,H,O,_⟩:=nx 12 Om Om;rw[H];exact⟨_,_,rfl,O⟩
def WH:∀(n:Nat) {u:bK},TapeOk u->Adv u (uQ n u)
 |0,u,h=>Adv.refl h
 |n+1,u,h=>by have:=WH n (l9 h);exact(LO h).trans this
def WI{l:List Int}(hl:l.length<=300):∃r k,i5 l=some (r,k)/\k.length<=1000/\r.length=6/\∀x∈r,oB x=true:=by
 unfold i5;have B:TapeOk {bK.zero with l:=l}:=⟨by simp only;omega,by show 0<=(0:Int)/\(0:Int)<=l.length;omega⟩;rw[cE5 _ B,eF];have H:=WH 8 B;have O:=cE6 {bK.zero with l:=l};obtain⟨x,F,K⟩:=nV (body:=Kw) (λ g=>∃k:Nat,g.1=k/\k<=4/\Adv {bK.zero with l:=l} g.2.1/\g.2.2.length<=k) (λ g=>4-g.1.toNat) (λ x=>Adv {bK.zero with l:=l} x.1/\x.2.length<=4)
  (λ g ⟨k,V,Z,H,L⟩=>by
   obtain⟨g1,t,s⟩:=g;simp only at V H L;subst V;unfold Kw
   by_cases ck:k<4
   .left;rw[cB (by simp;omega),OQ,eF];obtain⟨v,u,e,a,_⟩:=qU (m:=9) Om Om H.ok;simp only[e,qm];rw[gdp om,mF k om];exact⟨_,rfl,⟨k+1,rfl,by omega,H.trans a,by simp only[cA,Km];omega⟩,by simp only[Qm];omega⟩
   .right;rw[bX (by simp;omega)];exact⟨_,rfl,H,by simp only;omega⟩) (0,uQ 8 {bK.zero with l:=l},[]) ⟨0,rfl,by omega,H,by simp⟩
 rw[F,eF];unfold Kv;obtain⟨M,s0⟩:=x;simp only at K;obtain⟨y,m1,m2⟩:=nV (body:=Ku (catL {bK.zero with l:=l},uQ 8 {bK.zero with l:=l})) (λ g=>Adv {bK.zero with l:=l} g.1/\(g.2.length:Int)<=4+g.1.at_) (λ g=>l.length-g.1.at_.toNat) (λ y=>y.length<=1000)
  (λ g ⟨H,hg⟩=>by
   obtain⟨t,s⟩:=g;simp only at H hg;have Y:t.l.length=l.length:=by rw[H.l]
   have x0:=H.ok.at_;unfold Ku F2;rw[eF]
   by_cases c:t.at_<(t.l.length:Int)
   .left;rw[cB (by simpa using c)];obtain⟨e,u,e1,U⟩:=cNk (catL {bK.zero with l:=l}) (by unfold catL;simp) (by unfold catL;simp) O H.ok;simp only[e1,qm];rw[gdp om];have hn:(oK t).at_=t.at_+1:=by unfold oK;rw[bX om]
    have:=U.at_;rw[hn]at this;have hul:=U.ok.at_;have:u.l.length=l.length:=by rw[U.l,Vs,Y]
    exact⟨_,rfl,⟨(H.trans (LO H.ok)).trans U,by simp only[cA,Km];omega⟩,by simp only;omega⟩
   .right;rw[bX (by simpa using c)];exact⟨_,rfl,by simp only;omega⟩) (M,s0) ⟨K.1,by have:=K.2;have:=K.1.ok.at_;simp only;omega⟩
 rw[m1,eF];exact⟨_,_,rfl,m2,by unfold catL;simp,O⟩
def WJ{l:List Int}(K:l.length<=300):∃c,EU l=some c/\c.aD.length<=100:=by
 unfold EU;obtain⟨r,k,H,M,_,_⟩:=WI K;rw[H,eF];have O:∃v,G6 r=some v/\v.1.aD=[]:=by unfold G6;rw[cJp,eF];split<;>exact⟨_,rfl,rfl⟩
 obtain⟨v,U,Y⟩:=O;simp only[U,qm];obtain⟨c,B,F⟩:=cNe v.1 k om (by rw[Y];simp);rw[B];exact⟨_,rfl,F⟩
def qV(x:aG):Option bQ:=if x.bI=true then some ⟨x.aM,x.bJ.bU,x.gen⟩else none
def Pr{x:aG}{n:bQ}(h:qV x=some n):x.bI=true/\n=⟨x.aM,x.bJ.bU,x.gen⟩:=by
 unfold qV at h;split at h
 .rename_i c;cases h;exact⟨c,rfl⟩
 .cases h
def cNq{p q:aK}(h:ltP p q):cmpP p q<0:=by rw[K3,cB h];decide
def cNr:nZ aH.zero=true:=by decide
def cNs{c:bD}(h:CenP c):nZ ⟨c.aF,c.aD.filterMap qV⟩=true:=by
 have B:=gQ qV c.aD;have hl:=h.len;have K:∀n∈c.aD.filterMap qV,∃x∈c.aD,x.bI=true/\n=⟨x.aM,x.bJ.bU,x.gen⟩:=λ n H=>by obtain⟨x,L,e⟩:=fZ.1 H;exact⟨x,L,Pr e⟩
 have U:(c.aD.filterMap qV).Pairwise λ a b=>ltP a.aM b.aM:=by rw[List.pairwise_filterMap];refine h.asc.imp λ{a b} Z n H m hm=>?_;rw[(Pr H).2,(Pr hm).2];exact Z
 unfold nZ;simp only[bY,cC];refine⟨⟨⟨(uR _).2 ⟨h.t.len,h.t.each,h.t.asc⟩,by omega⟩,?_⟩,?_⟩
 .unfold m8;rw[dQ];intro i V;rw[eH]at V;have gg:∀k,(Y:k<(c.aD.filterMap qV).length)->(c.aD.filterMap qV).getD k bQ.zero=(c.aD.filterMap qV)[k]:=λ k Y=>by rw[cD,cE Y];rfl
  obtain⟨x,L,hw,e⟩:=K _ (mS (z:=bQ.zero) V);have hp:=h.each x L;unfold Ff;have O:(decide (i=0)||decide (cmpP ((c.aD.filterMap qV).getD (i-1) bQ.zero).aM ((c.aD.filterMap qV).getD i bQ.zero).aM<0))=true:=by
   by_cases F:i=0
   .simp[F]
   .have:=fK.1 U (i-1) i om V om;rw[gg _ om,gg _ V,cQ (cNq this),jO]
  rw[O,e];simp only[hp.pv,(hp.wait hw).1,cN,fI,cC,bY];exact hp.gen
 .unfold pL;refine dI (eP (HV (HU _)) (l₂:=c.aD.map (·.aM)) λ p hp=>?_) (by simpa using hl);rw[Fd,cY]at hp;rcases hp with hp|hp
  .obtain⟨x,L,e⟩:=h.aD p hp;exact cS.2 ⟨x,L,e⟩
  .obtain⟨n,H,e⟩:=cS.1 hp;obtain⟨x,L,_,M⟩:=K n H;exact cS.2 ⟨x,L,by rw[<-e,M]⟩
def Ps(c:bD):∃s,j8 c=some s/\nZ s=true:=by
 unfold j8;obtain⟨b,B,F⟩:=Wr c;rw[B,eF];cases b with
 |false=>exact⟨_,rfl,cNr⟩
 |true=>
 have h:=F rfl;have hl:=h.len;have M:=h.t.len;rw[bX Om,gdp om];obtain⟨x,L,V⟩:=nV (body:=KU c) (λ g=>∃k:Nat,g.1=k/\k<=c.aD.length/\g.2=⟨c.aF,(c.aD.take k).filterMap qV⟩) (λ g=>c.aD.length-g.1.toNat) (λ x=>x=⟨c.aF,c.aD.filterMap qV⟩)
  (λ g ⟨k,K,Z,hg⟩=>by
   obtain⟨g1,s⟩:=g;simp only at K hg;subst K;subst hg;unfold KU
   by_cases H:k<c.aD.length
   .left;have U:0<=(k:Int)/\(k:Int)<(c.aD.length:Int):=om
    have O:=gQ qV (c.aD.take k);rw[dE]at O;simp only[U.1,U.2,cX,mL,cF,cH,Qm,mF k (show k<4611686018427387904 by omega)];have Y:∀x:aG,(c.aD.take k++[x]).filterMap qV=(c.aD.take k).filterMap qV++(match qV x with|some n=>[n]|none=>[]):=λ x=>by rw[List.filterMap_append];simp only[List.filterMap_cons,List.filterMap_nil];cases qV x<;>rfl
    rcases hb (c.aD.getD k aG.zero).bI with hw|hw
    .rw[cB hw,gdp om];refine⟨_,rfl,⟨k+1,rfl,H,?_⟩,by simp only[Qm];omega⟩;rw[vV aG.zero H,Y];unfold qV;rw[cB hw]
    .rw[bX (by rw[hw];decide)];refine⟨_,rfl,⟨k+1,rfl,H,?_⟩,by simp only[Qm];omega⟩;rw[vV aG.zero H,Y];have:qV (c.aD.getD k aG.zero)=none:=by unfold qV;rw[bX (by rw[hw];decide)]
     rw[this,eE]
   .right;have e:k=c.aD.length:=om
    simp only[show¬(k:Int)<(c.aD.length:Int)by omega,cP,bZ,cI];exact⟨_,rfl,by rw[e,eV]⟩) (0,⟨c.aF,[]⟩) ⟨0,rfl,by omega,rfl⟩
 rw[L,eF];exact⟨x,rfl,by rw[V];exact cNs h⟩
def cNu{l:List Int}(K:l.length<=300):∃s,HG l=some s/\nZ s=true:=by unfold HG;obtain⟨c,H,_⟩:=WJ K;rw[H,eF];obtain⟨s,O,U⟩:=Ps c;rw[O];exact⟨s,rfl,U⟩
def WK:∀{x y:List UInt8},x≠y->Op.bytesLess x y=true\/Op.bytesLess y x=true
 |[],[],h=>absurd rfl h
 |[],b::y,_=>.inl rfl
 |a::x,[],_=>.inr rfl
 |a::x,b::y,h=>by
  simp only[Op.bytesLess,dS,cC,bY,dN]
  by_cases e:a=b
  .subst e;rcases WK (x:=x) (y:=y) (λ k=>h (by rw[k]))with k|k
   .exact .inl (.inr ⟨rfl,k⟩)
   .exact .inr (.inr ⟨rfl,k⟩)
  .rcases kD a.toNat b.toNat with k|k
   .exact .inl (.inl (UInt8.lt_iff_toNat_lt.2 k))
   .refine .inr (.inl (UInt8.lt_iff_toNat_lt.2 ?_));have:a.toNat≠b.toNat:=λ k=>e (UInt8.toNat_inj.1 k);omega
def cNw{α X:Type}(l:List α)(z:α)(p:α->Bool)(f:α->X){body:Int->Option (Int⊕(Unit⊕X))}
  (hb:∀i:Nat,i<l.length->body (i:Int)=some (if p (l.getD i z)=true then .inr (.inr (f (l.getD i z)))else .inl ((i+1:Nat):Int)))
  (B:body (l.length:Int)=some (.inr (.inl ()))):lY body 0=some (match l.find? p with|some a=>.inr (f a)|none=>.inl ()):=by
 have O:=wP (body:=body) l z (λ i (_:Unit)=>(i:Int)) (λ i a _=>some (if p a=true then .inr (Sum.inr (α:=Unit) (f a))else .inl ())) (λ _=>Sum.inl (β:=X) ())
  (λ i s K=>by rw[hb i K,lL];split<;>rfl) (λ s=>B) ()
 have H:∀(l:List α) (i:Nat),walk (λ i a (_:Unit)=>some (if p a=true then .inr (Sum.inr (α:=Unit) (f a))else .inl ())) (λ _=>Sum.inl (β:=X) ()) l i ()=some (match l.find? p with|some a=>.inr (f a)|none=>.inl ()):=by
  intro l;induction l with
  |nil=>intro i;rfl
  |cons a l F=>
   intro i;simp only[walk,List.find?_cons]
   by_cases Y:p a=true
   .simp[Y]
   .have U:p a=false:=by simpa using Y
    simp only[U,bZ,cI];rw[F (i+1)]
 rw[show(0:Int)=(λ(i:Nat) (_:Unit)=>(i:Int)) 0 ()from rfl,O];exact H l 0
def vX{body:Int->Option (Int⊕(Unit⊕Bool))}(n:Nat)(p:Nat->Bool)(hb:∀i:Nat,i<n->body (i:Int)=some (if p i=true then .inl ((i:Int)+1)else .inr (.inr false)))
  (O:body (n:Int)=some (.inr (.inl ()))):lY body 0=some (if(List.range n).all p=true then .inl ()else .inr false):=by
 have H:lY body 0=some ((qA (λ i=>if p i=true then none else some (Sum.inr (α:=Unit) false)) n 0).getD (Sum.inl ())):=
  tP n _ (Sum.inl ()) (λ i K=>by rw[hb i K];cases p i<;>rfl) O
 rw[H,uP,<-eZ];cases(List.range n).all p<;>rfl
def Il{S X:Type}{body:Int×S->Option ((Int×S)⊕X)}(n:Nat)(H:Nat->S->Prop)(Post:X->Prop)
  (h:∀(i:Nat) s,i<n->H i s->(∃O,body ((i:Int),s)=some (.inl (((i+1:Nat):Int),O))/\H (i+1) O)\/∃x,body ((i:Int),s)=some (.inr x)/\Post x)
  (Y:∀s,H n s->∃x,body ((n:Int),s)=some (.inr x)/\Post x) (s0:S) (B:H 0 s0):∃x,lY body (0,s0)=some x/\Post x:=
 nV (body:=body) (λ g=>∃k:Nat,g.1=(k:Int)/\k<=n/\H k g.2) (λ g=>n-g.1.toNat) Post
  (λ g ⟨k,V,Z,K⟩=>by
   obtain⟨F,s⟩:=g;simp only at V K;subst V
   by_cases c:k<n
   .rcases h k s c K with⟨O,e,U⟩|⟨x,e,L⟩
    .exact .inl ⟨_,e,⟨k+1,rfl,c,U⟩,by simp only[Qm];omega⟩
    .exact .inr ⟨x,e,L⟩
   .have:k=n:=om
    subst this;obtain⟨x,e,L⟩:=Y s K;exact .inr ⟨x,e,L⟩) (0,s0) ⟨0,rfl,by omega,B⟩
def Pt{S X:Type}{body:Int×S->Option ((Int×S)⊕X)}(n:Nat)(st:Nat->S)(x:X)
  (h:∀i:Nat,i<n->body ((i:Int),st i)=some (.inl (((i+1:Nat):Int),st (i+1)))) (O:body ((n:Int),st n)=some (.inr x)):lY body (0,st 0)=some x:=by
 have H:∀k i,i+k=n->lY body ((i:Int),st i)=some x:=by
  intro k;induction k with
  |zero=>intro i K;rw[mJ,show i=n by omega,O]
  |succ k U=>intro i K;rw[mJ,h i om];exact U (i+1) om
 exact H n 0 om
def Im{s:aH}(h:nZ s=true):qB s.aF=true/\s.aY.length<=8/\m8 s.aY=true/\(pL s).length<=8:=by unfold nZ at h;simp only[bY,cC]at h;exact⟨h.1.1.1,h.1.1.2,h.1.2,h.2⟩
def Pu{t:List aA}(h:qB t=true):t.length<=8/\Lens t:=⟨((uR t).1 h).1,λ q H=>by
 have:=AB (((uR t).1 h).2.1 q H);omega⟩
def Pv{s:aH}(h:∀q∈s.aF,mR q=true){p:aK}:p∈pL s↔(∃q∈s.aF,hasQ q p=true)\/∃n∈s.aY,n.aM=p:=by unfold pL;rw[Fd,cY,Fk h,cS]
def cO3{s:aH}(h:qB s.aF=true)(Y:s.aY.length<=8):(pL s).length<=1000:=by have H:=(uR _).1 h;have B:=Fe s.aF H.2.1;have O:=HW (s.aF.flatMap rT);have U:=HW (oH s.aF++s.aY.map (·.aM));unfold pL;rw[cA,dM]at U;have F:(oH s.aF).length<=(s.aF.flatMap rT).length:=O;omega
def WL(s:aH)(p:aK)(O:s.aY.length<=1000):∃v,zP s p=some v/\(v.2=true->v.1∈s.aY):=by
 unfold zP;rw[cNw s.aY bQ.zero (λ n=>decide (n.aM=p)) (λ n=>(n,true)) (λ i L=>by
  unfold Jg;have H:0<=(i:Int)/\(i:Int)<(s.aY.length:Int):=om
  simp only[H.1,H.2,cX,mL,cF,cH,lF,mF i (show i<4611686018427387904 by omega)];split<;>rfl) (by unfold Jg;simp),eF]
 cases K:s.aY.find? (λ n=>decide (n.aM=p))with
 |some a=>exact⟨_,rfl,λ _=>kH K⟩
 |none=>exact⟨_,rfl,λ h=>by cases h⟩
def cO5{t:List aA}(h:qB t=true)(l:List bQ)(p:aK)(nm:ByteArray):∃b,DM ⟨t,l⟩ p nm=some b:=by
 obtain⟨O,H⟩:=Pu h;unfold DM;rw[m4 _ _ (by simp only;omega),eF]
 by_cases c:nK t nm<0
 .rw[cB (cQ c)];exact⟨_,rfl⟩
 .have U:=Ig c;have Y:=H _ (mS (z:=aA.zero) (show(nK t nm).toNat<t.length by omega));rw[bX (by simpa using c),gdp (by simp only;omega),Ay _ _ (by simp only;omega) (by simp only;omega)];exact⟨_,rfl⟩
def cO6{s:aH}(K:nZ s=true)(p:aK):∃U,B7 s p=some U:=by
 obtain⟨Y,h8,_,_⟩:=Im K;unfold B7;obtain⟨v,B,e2⟩:=WL s p om;rw[B,eF];have F:(if v.2=true then vL s else some false)=some v.2:=by
  rcases hb v.2 with c|c
  .rw[cB c,H9,K,c]
  .rw[bX (by rw[c];decide),c]
 rw[F,eF];rcases hb v.2 with c|c
 .rw[bX (by rw[c];decide)];obtain⟨L,M,e5,_⟩:=CE v.1.bU;rw[M,eF,gdp om];obtain⟨x,V,_⟩:=Il (body:=Hn s p L) L.length (λ _ b=>b.length=L.length) (λ _=>True) (λ i b hi H=>by
   left;unfold Hn;have O:0<=(i:Int)/\(i:Int)<(L.length:Int):=om
   obtain⟨w,Z⟩:=cO5 Y s.aY p (L.getD i aO.zero).name;simp only[O.1,O.2,cX,mL,cF,cH,Qm,mF i (show i<4611686018427387904 by omega),Z,qm];rw[gdp ⟨trivial,by omega⟩];exact⟨_,rfl,by simp only[dW];exact H⟩) (λ b H=>by unfold Hn;simp) (List.replicate ((L.length:Int).toNat) false) (by simp)
  rw[V];exact⟨_,rfl⟩
 .rw[cB (by rw[c];rfl)];exact⟨_,rfl⟩
def cO7{s:aH}(K:nZ s=true)(p:aK):∃b,Hy s p=some b:=by
 obtain⟨_,M,H,_⟩:=Im K;unfold Hy;obtain⟨v,O,U⟩:=WL s p om;obtain⟨Y,B⟩:=cO6 K p;rw[O,eF];rcases hb v.2 with c|c
 .rw[cB c,B,eF,cB c];obtain⟨b,F,_⟩:=Pk (Pb H (U c)).2.1 Y;rw[F];exact⟨_,rfl⟩
 .rw[bX (by rw[c];decide),eF,bX (by rw[c];decide)];exact⟨_,rfl⟩
def WM(s:aH):∃l,Ca s=some l/\∀x∈l,x∈pL s:=by
 unfold Ca;rw[H9,eF];rcases hb (nZ s)with hv|hv
 .obtain⟨O,U,_,B⟩:=Im hv;rw[bX (by rw[hv];decide),O4 s O U,eF];obtain⟨x,e,hx⟩:=Il (body:=Hz s (pL s)) (pL s).length (λ i l=>l.length<=i/\∀x∈l,x∈pL s) (λ l=>∀x∈l,x∈pL s) (λ i l L ⟨K,hm⟩=>by
   left;unfold Hz;have H:0<=(i:Int)/\(i:Int)<((pL s).length:Int):=om
   obtain⟨b,Y⟩:=cO7 hv ((pL s).getD i aK.zero);simp only[H.1,H.2,cX,mL,cF,cH,Qm,mF i (show i<4611686018427387904 by omega),Y,qm];cases b with
   |true=>
    rw[cB rfl,gdp om];refine⟨_,rfl,by simp only[cA,Km];omega,λ x hx=>?_⟩;rcases cY.1 hx with hx|hx
    .exact hm x hx
    .rw[dP.1 hx];exact mS L
   |false=>rw[bX Om];exact⟨_,rfl,by omega,hm⟩) (λ l K=>by unfold Hz;simp only[iL,cP,bZ,cI];exact⟨_,rfl,K.2⟩) [] ⟨by simp,λ x hx=>nomatch hx⟩
  rw[e];exact⟨_,rfl,hx⟩
 .rw[cB (by rw[hv];rfl)];exact⟨_,rfl,λ x hx=>nomatch hx⟩
def wq(p:aK)(q:aA):aA:=if hasQ q p=true then{(pK q p).1 with gen:=q.gen}else q
def wZ(s:aH)(p:aK):aH:=⟨s.aF.map (wq p),s.aY.filter λ n=>!decide (n.aM=p)⟩
def cOa(s:aH)(p:aK)(M:s.aF.length<=1000)(O:Lens s.aF)(L:s.aY.length<=1000):Ap s p=some (wZ s p):=by
 unfold Ap;have U:lY (EE s p) (0,(⟨[],[]⟩:aH))=some ⟨s.aF.map (wq p),[]⟩:=
  Pt (body:=EE s p) s.aF.length (λ k=>⟨(s.aF.take k).map (wq p),[]⟩) _ (λ i K=>by
   unfold EE;have H:0<=(i:Int)/\(i:Int)<(s.aF.length:Int):=om
   have V:=O _ (mS (z:=aA.zero) K);have Y:((s.aF.take i).map (wq p)).length+1<=4294967296:=by rw[dM,dE];omega
   simp only[H.1,H.2,cX,mL,cF,cH,Qm,mF i (show i<4611686018427387904 by omega),OO (s.aF.getD i aA.zero) p om om om,Vl,qm,Y];rw[vV aA.zero K,fL]
   by_cases c:hasQ (s.aF.getD i aA.zero) p=true
   .rw[cB c,show wq p=λ q=>wq p q from rfl];simp only[dO,iQ];rw[show wq p (s.aF.getD i aA.zero)={(pK (s.aF.getD i aA.zero) p).1 with gen:=(s.aF.getD i aA.zero).gen}from cB c]
   .rw[bX c];simp only[dO,iQ];rw[show wq p (s.aF.getD i aA.zero)=s.aF.getD i aA.zero from bX c]) (by
   unfold EE;simp)
 have B:lY (ED s p) (0,(⟨s.aF.map (wq p),[]⟩:aH))=some (wZ s p):=
  Pt (body:=ED s p) s.aY.length (λ k=>⟨s.aF.map (wq p),(s.aY.take k).filter λ n=>!decide (n.aM=p)⟩) _ (λ i K=>by
   unfold ED;have H:0<=(i:Int)/\(i:Int)<(s.aY.length:Int):=om
   have F:=iV (λ n:bQ=>!decide (n.aM=p)) (s.aY.take i);rw[dE]at F;simp only[H.1,H.2,cX,mL,cF,cH,Qm,mF i (show i<4611686018427387904 by omega)];rw[vV bQ.zero K,List.filter_append]
   by_cases c:(!decide ((s.aY.getD i bQ.zero).aM=p))=true
   .rw[cB c,gdp om];simp only[jV,List.filter_nil,c,cH]
   .rw[bX c];simp only[jV,List.filter_nil,c,bZ,cI,eE]) (by
   unfold ED wZ;simp)
 rw[U,eF];unfold KN;rw[B];rfl
def cOb{q:aA}(h:mR q=true)(p x:aK):hasQ (wq p q) x=true↔hasQ q x=true/\x≠p:=by
 unfold wq;split
 .rename_i c;rw[OF,(Lo h c).2];exact Vg h p x
 .rename_i c;exact⟨λ k=>⟨k,λ e=>c (e▸k)⟩,λ k=>k.1⟩
def cOc{q:aA}(h:mR q=true)(p:aK):mR (wq p q)=true:=by
 unfold wq;split
 .rename_i c;rw[(Lo h c).2];have H:=(qK _).1 (Ve h p);have O:=((qK _).1 h).1.gen;exact(qK _).2 ⟨⟨H.1.res,H.1.hv,H.1.cl,H.1.cn,H.1.cg,H.1.wv,H.1.wl,H.1.wg,O⟩,H.2⟩
 .exact h
def WN{q:aA}(h:mR q=true)(p:aK):(wq p q).aB=q.aB:=by
 unfold wq;split
 .rename_i c;rw[(Lo h c).2];exact LE h p
 .rfl
def WO{s:aH}(h:qB s.aF=true)(O:s.aY.length<=8)(p:aK):qB (wZ s p).aF=true/\(wZ s p).aY.length<=8:=by
 have H:=(uR _).1 h;refine⟨(uR _).2 ⟨by unfold wZ;simp only[dM];exact H.1,λ q U=>?_,?_⟩,dI (iV _ _) O⟩
 .obtain⟨x,L,rfl⟩:=cS.1 U;exact cOc (H.2.1 x L) p
 .have Y:=H.2.2;unfold AscN at*;unfold wZ;rw[kP];exact Y.imp_of_mem λ{a b} V hb K=>by rw[WN (H.2.1 a V),WN (H.2.1 b hb)];exact K
def cOf{s:aH}(h:qB s.aF=true)(U:s.aY.length<=8){p:aK}(Y:p∈pL s):(pL (wZ s p)).length<(pL s).length:=by
 have H:=((uR _).1 h).2.1;have B:=((uR _).1 (WO h U p).1).2.1;have hm:∀x∈pL (wZ s p),x∈pL s/\x≠p:=λ x hx=>by
  rw[Pv B]at hx;rcases hx with⟨q,F,hx⟩|⟨n,O,hx⟩
  .obtain⟨y,K,rfl⟩:=cS.1 F;have:=(cOb (H y K) p x).1 hx;exact⟨(Pv H).2 (.inl ⟨y,K,this.1⟩),this.2⟩
  .have:=gV.1 O;refine⟨(Pv H).2 (.inr ⟨n,this.1,hx⟩),λ e=>?_⟩;have k:=this.2;rw[hx,e]at k;simp at k
 have nd:(p::pL (wZ s p)).Nodup:=iS.2 ⟨λ k=>(hm p k).2 rfl,HV (HU _)⟩;have:=eP nd (l₂:=pL s) λ x hx=>by
  rcases cL.1 hx with rfl|hx
  .exact Y
  .exact(hm x hx).1
 rw[lH]at this;omega
def cOg(s:aH):∃r,EV s=some r/\r.2.length<=1000:=by
 unfold EV;rw[H9,eF];rcases hb (nZ s)with hv|hv
 .obtain⟨H,O,_,h9⟩:=Im hv;obtain⟨l,U,hl⟩:=WM s;rw[bX (by rw[hv];decide),U,eF];obtain⟨x,Y,L⟩:=nV (body:=K0) (λ g=>(qB g.2.1.aF=true/\g.2.1.aY.length<=8)/\(∀x∈g.1,x∈pL g.2.1)/\g.2.2.length+(pL g.2.1).length<=1000) (λ g=>(pL g.2.1).length) (λ x=>qB x.1.aF=true/\x.1.aY.length<=8) (λ g ⟨⟨K,V⟩,k3,k4⟩=>by
   obtain⟨l,s,o⟩:=g;simp only at K V k3 k4;unfold K0;simp only;cases l with
   |nil=>right;rw[bX (by simp)];exact⟨_,rfl,K,V⟩
   |cons a l=>
    left;have B:=k3 a (.head _);have Z:=cOf K V B;obtain⟨p1,F⟩:=Pu K;obtain⟨l',M,hl'⟩:=WM (wZ s a);rw[cB (by simp<;>omega),gdp (by simp<;>omega),gdp om,gdp (by simp<;>omega),show((a::l).getD 0 aK.zero)=a from rfl,cOa s a om F om,eF,M,eF];exact⟨_,rfl,⟨WO K V a,hl',by simp only[cA,Km];omega⟩,Z⟩) (l,s,[]) ⟨⟨H,O⟩,hl,by simp;omega⟩
  rw[Y,eF];unfold N5;rw[O4 _ L.1 L.2];exact⟨_,rfl,cO3 L.1 L.2⟩
 .rw[cB (by rw[hv];rfl)];exact⟨_,rfl,by simp⟩
def nums:List (Int×bM):=[(71,⟨64,0,1073741824,0⟩),(82,⟨65,0,1073741824,0⟩),(69,⟨66,0,1073741824,0⟩),(89,⟨67,0,7,0⟩),(83,⟨68,0,3,0⟩),(73,⟨69,1,99,0⟩),(66,⟨70,-1,99,1⟩)]
def CG:zV=some nums:=rfl
def In(m:aL):Bool:=nums.all λ e=>decide (nI m ((oM e.2.of).getD 0)=0)
def Pw(m:aL):In m=true↔m.gen=0/\m.round=0/\m.epoch=0/\m.bC=0/\m.site=0/\m.inc=0/\m.label=0:=by unfold In nums;simp only[List.all_cons,List.all_nil,fI,bY,cC];rfl
def CH(s:aH):Bool:=decide (s.aF.length=0)&&decide (s.aY.length=0)
def cOl(s:aH):CH s=true↔s=aH.zero:=by obtain⟨q,n⟩:=s;unfold CH aH.zero;simp
def Fq(m:aL):Bool:=In m&&(CH m.state&&(decide (m.options.length=0)&&(decide (m.kind=0)&&(decide (m.aM=aK.zero)&&(decide (m.aZ=aO.zero)&&!m.done)))))
def cOn(m:aL):DC m=some (Fq m):=by
 unfold DC;rw[CG,eF];refine RM λ q B=>?_;have O:∀l:List (Int×bM),(∀e∈l,(oM e.2.of).isSome=true)->
   vB (JO m) (λ g1:Unit=>(Sum.inl ():Unit⊕Bool)) l ()=some (if l.all (λ e=>decide (nI m ((oM e.2.of).getD 0)=0))=true then .inl ()else .inr false):=by
  intro l;induction l with
  |nil=>intro _;rfl
  |cons e l F=>
   intro h;simp only[vB,JO];obtain⟨k,U⟩:=iK.1 (h e (.head _));rw[U,eF]
   by_cases H:nI m k=0
   .rw[bX (by simp[H])];simp only[F λ x L=>h x (.tail _ L),List.all_cons,U,Xm,H,cF,cN]
   .rw[cB (by simp[H])];simp[U,H]
 have hm:∀i,i∈q↔i<7:=λ i=>by rw[B.mem_iff,eH];rfl
 rw[O _ (λ e Y=>by
  obtain⟨i,K,rfl⟩:=cS.1 Y;have:=(hm i).1 K
  match i,this with
  |0,_=>rfl
  |1,_=>rfl
  |2,_=>rfl
  |3,_=>rfl
  |4,_=>rfl
  |5,_=>rfl
  |6,_=>rfl),eF]
 have M:((q.map (nums.getD · (0,bM.zero))).all λ e=>decide (nI m ((oM e.2.of).getD 0)=0))=In m:=by
  rw[dR,Pw,dQ];constructor
  .intro h;have g:∀i,i<7->nI m ((oM (nums.getD i (0,bM.zero)).2.of).getD 0)=0:=λ i K=>gH (h _ (cS.2 ⟨i,(hm i).2 K,rfl⟩));exact⟨g 0 om,g 1 om,g 2 om,g 3 om,g 4 om,g 5 om,g 6 om⟩
  .rintro⟨H,V,Z,h3,h4,h5,h6⟩ e Y;obtain⟨i,K,rfl⟩:=cS.1 Y;have:=(hm i).1 K;rw[cC]
   match i,this with
   |0,_=>exact H
   |1,_=>exact V
   |2,_=>exact Z
   |3,_=>exact h3
   |4,_=>exact h4
   |5,_=>exact h5
   |6,_=>exact h6
 rw[M];unfold Fq;cases In m with
 |false=>rfl
 |true=>
  simp only[cH,cN];unfold JN CH
  by_cases a:m.state.aF.length=0<;>by_cases b:m.state.aY.length=0<;>by_cases c:m.options.length=0<;>simp[a,b,c,hJ]
abbrev room(l e:List Int):Prop:=l.length+e.length<=4294960000
def room.left{l a b:List Int}(h:room l (a++b)):room l a:=by unfold room at*;rw[cA]at h;omega
def room.right{l a b:List Int}(h:room l (a++b)):room (l++a) b:=by unfold room at*;rw[cA]at h⊢;omega
def yX{l:List Int}{x:Int}(h:okI x)(O:room l (encI x)):uF l (IntKind.u64.wrap x)=some (l++encI x)/\sZ l (IntKind.u64.wrap x)=some (l++encI x):=by unfold room at O;obtain⟨H,U⟩:=h;rw[yU x H om];have:x=((x.toNat:Nat):Int):=(iN H).symm;unfold encI;rw[this,lF];exact⟨V2 om om,O6 om om⟩
def sK{l:List Int}{x:Int}(h:okI x)(H:room l (encI x)):qO l x=some (l++encI x):=by unfold qO;rw[(yX h H).2];rfl
def LP:∀(xs:List Int) (l:List Int),(∀x∈xs,okI x)->xs.length<=1000->room l (xs.flatMap encI)->rC l xs=some (l++xs.flatMap encI):=by
 intro xs l V L B;unfold rC;have U:∀k i (H:List Int),i+k=xs.length->room H ((xs.drop i).flatMap encI)->lY (DD xs) (H,(i:Int))=some (H++(xs.drop i).flatMap encI):=by
  intro k;induction k with
  |zero=>
   intro i H Z _;have:i=xs.length:=om
   subst this;rw[mJ,iO];unfold DD;rw[bX (by simp)];simp
  |succ k F=>
   intro i H Z O;have K:i<xs.length:=om
   rw[l5 xs i 0 K]at O⊢;rw[eQ]at O⊢;have Y:=V _ (mS (z:=0) K);rw[mJ];unfold DD;simp only;rw[cB (by simpa using K),gdp om];simp only[Qm];rw[(yX Y O.left).1,eF,mF i om];simp only;have:=F (i+1) (H++encI (xs.getD i 0)) om O.right;unfold DD at this;rw[this,cG]
 have:=U xs.length 0 l om B;rw[show((l,0):List Int×Int)=(l,((0:Nat):Int))from rfl,this];rfl
def LQ{l:List Int}{s:ByteArray}(h:s.size<=1024)(O:room l (encT s)):Bh l s=some (l++encT s)/\Bg l s=some (l++encT s):=by have H:=O;unfold room at H;unfold Bh Bg;unfold encT at O H⊢;rw[cA,dM,yV]at H;rw[yU (s.size:Int) om om,V3 om om,V1 om om,eF,gdp (by rw[cA,yV];omega),cG];exact⟨rfl,rfl⟩
def AI{l:List Int}{p:aK}(h:mP p=true)(O:room l (encP p)):wK l p=some (l++encP p)/\a7 l p=some (l++encP p):=by
 obtain⟨Y,B,F⟩:=Ib h;unfold encP at O⊢;have M:=O.left.left;have V:=O.left.right;have U:=O.right;rw[<-cG]at U;constructor
 .unfold wK;have Z:∀H:List Int,room H (encI p.site)->xX p (H,0)=some (.inl (H++encI p.site,1)):=λ H K=>by
   unfold xX;rw[cB (by simp),gdp (by simp)];show((uF H (IntKind.u64.wrap p.site)).bind λ v1=>some (Sum.inl (v1,IntKind.i64.wrap (0+1))))=_;rw[(yX Y K).1];rfl
  have t2:∀H:List Int,room H (encI p.inc)->xX p (H,1)=some (.inl (H++encI p.inc,2)):=λ H K=>by unfold xX;rw[cB (by simp),gdp (by simp)];show((uF H (IntKind.u64.wrap p.inc)).bind λ v1=>some (Sum.inl (v1,IntKind.i64.wrap (1+1))))=_;rw[(yX B K).1];rfl
  have t3:∀H:List Int,room H (encI p.num)->xX p (H,2)=some (.inl (H++encI p.num,3)):=λ H K=>by unfold xX;rw[cB (by simp),gdp (by simp)];show((uF H (IntKind.u64.wrap p.num)).bind λ v1=>some (Sum.inl (v1,IntKind.i64.wrap (2+1))))=_;rw[(yX F K).1];rfl
  have t4:∀H:List Int,xX p (H,3)=some (.inr H):=λ H=>by unfold xX;rw[bX (by simp)]
  have L:l.length<=4294967296:=by unfold room at O;omega
  rw[gdp L,bX (by simp[h]),mJ,Z l M];simp only;rw[mJ,t2 _ V];simp only;rw[mJ,t3 _ U];simp only;rw[mJ,t4];simp only[cG];rfl
 .unfold a7;rw[wQ,bX (by simp[h]),(yX Y M).2,eF,(yX B V).2,eF,(yX F U).2];simp only[cG];rfl
def LR{l:List Int}{a:aC}(h:okA a)(H:room l (encA a)):b6 l a=some (l++encA a):=by unfold b6;unfold encA at H⊢;rw[sK h.1 H.left,eF,sK h.2 H.right,cG];rfl
def Px{l:List Int}{a:aC}(h:okA a)(H:room l (encA a)):rC l [a.mode,a.aU]=some (l++encA a):=by
 have:[a.mode,a.aU].flatMap encI=encA a:=by simp[encA]
 rw[LP _ l (λ x K=>by
  simp only[cL,eX,iI]at K;rcases K with rfl|rfl
  .exact h.1
  .exact h.2) (by simp) (by rw[this];exact H),this]
def AJ{l:List Int}{x:Int}(h:okI x)(H:room l (encI x)):rC l [x]=some (l++encI x):=by
 have:[x].flatMap encI=encI x:=by simp
 rw[LP _ l (λ y K=>by rw[dP.1 K];exact h) (by simp) (by rw[this];exact H),this]
def vY{α:Type}{body:List Int×Int->Option ((List Int×Int)⊕List Int)}{enc:α->List Int}{ok:α->Prop}(l:List α)(z:α)(L:l.length<=1000)
  (Y:∀(i:Nat) acc,i<l.length->ok (l.getD i z)->room acc (enc (l.getD i z))->body (acc,(i:Int))=some (.inl (acc++enc (l.getD i z),((i+1:Nat):Int))))
  (B:∀acc,body (acc,(l.length:Int))=some (.inr acc)) (O:∀x∈l,ok x) (acc:List Int) (F:room acc (l.flatMap enc)):lY body (acc,0)=some (acc++l.flatMap enc):=by
 have U:∀k i (acc:List Int),i+k=l.length->room acc ((l.drop i).flatMap enc)->lY body (acc,(i:Int))=some (acc++(l.drop i).flatMap enc):=by
  intro k;induction k with
  |zero=>
   intro i acc V _;have:i=l.length:=om
   subst this;rw[mJ,iO,B];simp
  |succ k M=>
   intro i acc V H;have K:i<l.length:=om
   rw[l5 l i z K]at H⊢;rw[eQ]at H⊢;rw[mJ,Y i acc K (O _ (mS (z:=z) K)) H.left];simp only;rw[M (i+1) _ om H.right,cG]
 exact U l.length 0 acc om F
def LT:∀(n:Nat) (e:aS),_root_.SizeOf.sizeOf e<n->okE e=true->mQ e<=24->∀l,room l (encE e)->DJ n l e=some (l++encE e)/\DT n l e=some (l++encE e)
 |0,_,h,_,_,_,_=>om
 |n+1,e,h,V,hn,l,K=>by
  show DI (DJ n) l e=_/\DS (DT n) l e=_;unfold DI DS;have hl:=tC e.bG;have h0:=uS e;rw[Lw]at K|-
  by_cases c:e.bG.length=0
  .obtain⟨Y,M,B⟩:=(H6 c).1 V;have U:okI e.k:=by rw[Y];unfold okI;omega
   rw[AJ U K.left,sK U K.left,eF,eF];have H:=K.right;rw[cB Y]at H⊢;have ht:=LQ (by have:=wX M;omega) H.left;rw[cB (by simpa using Y),cB (by simpa using Y),ht.1,ht.2,eF,eF,Px (yW B) H.right,LR (yW B) H.right];simp only[cG];exact⟨rfl,rfl⟩
  .obtain⟨⟨Y,M,B⟩,k3⟩:=(H7 c).1 V;have U:okI e.k:=by unfold okI;omega
   have F:¬e.k=0:=om
   rw[AJ U K.left,sK U K.left,eF,eF];have H:=K.right;rw[bX F]at H⊢;have hc:okI (e.bG.length:Int):=by unfold okI;omega
   rw[bX (by simpa using F),bX (by simpa using F),AJ hc H.left,sK hc H.left,eF,eF];have hF:∀k∈e.bG,okE k=true/\mQ k<=24/\_root_.SizeOf.sizeOf k<n:=λ k U=>⟨Ic k3 U,by have:=H5 U;omega,yS h U⟩;have w1:=vY (body:=Gs (DJ n) e) (enc:=encE) (ok:=λ k=>okE k=true/\mQ k<=24/\_root_.SizeOf.sizeOf k<n) e.bG aS.zero om (λ i O Z L ha=>by
    unfold Gs;simp only;rw[cB (by simpa using Z),gdp om];simp only[Qm];rw[(LT n _ L.2.2 L.1 L.2.1 O ha).1,eF,mF i om]) (λ O=>by unfold Gs;simp) hF _ H.right
   have w2:=vY (body:=GC (DT n) e) (enc:=encE) (ok:=λ k=>okE k=true/\mQ k<=24/\_root_.SizeOf.sizeOf k<n) e.bG aS.zero om (λ i O Z L ha=>by
    unfold GC;simp only;rw[cB (by simpa using Z),gdp om];simp only[Qm];rw[(LT n _ L.2.2 L.1 L.2.1 O ha).2,eF,mF i om]) (λ O=>by unfold GC;simp) hF _ H.right
   rw[w1,w2];simp only[cG];exact⟨rfl,rfl⟩
def cOy{q:aA}(h:OkQ q){l:List Int}(H:room l (encQ q)):BD l q=some (l++encQ q):=by
 have lh:=h.lh;have lc:=h.lc;have lw:=h.lw;have M:okI (q.aT.length:Int):=by unfold okI;omega
 have o2:okI (q.aN.length:Int):=by unfold okI;omega
 have o3:okI (q.aW.length:Int):=by unfold okI;omega
 unfold BD;unfold encQ at H⊢;rw[(LQ h.name H.left).1,eF]
 replace H:=H.right
 have B:[q.aB.kind,q.aB.aU,q.aB.home,q.gen,(q.aT.length:Int)].flatMap encI=encI q.aB.kind++(encI q.aB.aU++(encI q.aB.home++(encI q.gen++encI (q.aT.length:Int)))):=by simp
 have Y:room (l++encT q.aB.name) ([q.aB.kind,q.aB.aU,q.aB.home,q.gen,(q.aT.length:Int)].flatMap encI):=by rw[B];unfold room at H⊢;simp only[cA]at H⊢;omega
 rw[LP _ _ (λ x K=>by
  simp only[cL,eX,iI]at K;rcases K with rfl|rfl|rfl|rfl|rfl
  .exact h.kind
  .exact h.aU
  .exact h.home
  .exact h.gen
  .exact M) (by simp) Y,eF,B]
 replace H:=H.right.right.right.right.right
 have U:l++encT q.aB.name++encI q.aB.kind++encI q.aB.aU++encI q.aB.home++encI q.gen++encI (q.aT.length:Int)=l++encT q.aB.name++(encI q.aB.kind++(encI q.aB.aU++(encI q.aB.home++(encI q.gen++encI (q.aT.length:Int))))):=by simp only[cG]
 rw[U]at H;have w3:=vY (body:=GJ q) (enc:=encH) (ok:=λ x=>mP x.aM=true/\okA x.aJ) q.aT aX.zero om (λ i O V K L=>by
  unfold encH at L⊢;unfold GJ;simp only;rw[cB (by simpa using V),gdp om];simp only[Qm];rw[(AI K.1 L.left).1,eF,Px K.2 L.right,eF,mF i om,cG]) (λ O=>by unfold GJ;simp) h.h _ H.left
 rw[w3,eF]
 replace H:=H.right
 unfold Ki;rw[AJ o2 H.left,eF]
 replace H:=H.right
 have w2:=vY (body:=GI q) (enc:=encC) (ok:=λ x=>mP x.aM=true/\okA x.aJ/\x.bC=0/\x.bS=0) q.aN aV.zero om (λ i O V K L=>by
  unfold encC at L⊢;unfold GI;simp only;rw[cB (by simpa using V),gdp om];simp only[Qm];rw[(AI K.1 L.left).1,eF,Px K.2.1 L.right,eF,mF i om,cG]) (λ O=>by unfold GI;simp) h.c _ H.left
 rw[w2,eF]
 replace H:=H.right
 unfold Kh;rw[AJ o3 H.left,eF]
 replace H:=H.right
 have w1:=vY (body:=GH q) (enc:=encW) (ok:=λ x=>mP x.aM=true/\okA x.aJ/\okI x.bC/\okI x.bS) q.aW aV.zero om (λ i O V K L=>by
  have F:∀w:aV,[w.aJ.mode,w.aJ.aU,w.bC,w.bS].flatMap encI=encA w.aJ++(encI w.bC++encI w.bS):=λ w=>by simp[encA]
  unfold encW at L⊢;rw[cG,cG]at L⊢;unfold GH;simp only;rw[cB (by simpa using V),gdp om];simp only[Qm];rw[(AI K.1 L.left).1,eF,LP _ _ (λ y Z=>by
   simp only[cL,eX,iI]at Z;rcases Z with rfl|rfl|rfl|rfl
   .exact K.2.1.1
   .exact K.2.1.2
   .exact K.2.2.1
   .exact K.2.2.2) (by simp) (by rw[F];exact L.right),eF,mF i om,F]
  simp only[cG]) (λ O=>by unfold GH;simp) h.w _ H
 rw[w1,eF];unfold NC;simp only[cG]
def cOz(s:aH):BZ s=some (if nZ s=true then(encS s,0)else([],2)):=by
 unfold BZ;rw[Lv,eF];cases hv:nZ s with
 |false=>rfl
 |true=>
  have h:=(AE hv).1;have F:=h.lq;have M:=h.ln;have Z:=Cw h;have H:room [] (encS s):=by unfold room;simp;omega
  simp only[cR,bZ,cI,cH];unfold encS at H⊢;rw[AJ (by unfold okI;omega) H.left,eF]
  replace H:=H.right
  have Y:=vY (body:=Hb s) (enc:=encQ) (ok:=OkQ) s.aF aA.zero om (λ i O V K L=>by
   unfold Hb;simp only;rw[cB (by simpa using V),gdp om];simp only[Qm];rw[cOy K L,eF,mF i om]) (λ O=>by unfold Hb;simp) h.q _ H.left
  rw[Y,eF]
  replace H:=H.right
  unfold KF;rw[AJ (by unfold okI;omega) H.left,eF]
  replace H:=H.right
  have B:=vY (body:=Ha s) (enc:=encN) (ok:=λ n=>mP n.aM=true/\okI n.gen/\okE n.bU=true/\fitE n.bU=true) s.aY bQ.zero om (λ i O V K L=>by
   have U:=K.2.2.2;unfold fitE at U;simp only[bY,cC]at U;unfold encN at L⊢;unfold Ha;simp only;rw[cB (by simpa using V),gdp om];simp only[Qm];rw[(AI K.1 L.left).1,eF,AJ K.2.1 L.right.left,eF];unfold JU;rw[(LT _ _ (eT _) K.2.2.1 U.2 _ L.right.right).1,eF,mF i om];simp only[cG]) (λ O=>by unfold Ha;simp) h.n _ H
  rw[B,eF];unfold NU;simp only[cG,jm]
def cP0(s:aH):B9 s=some (if nZ s=true then(encS s,0)else([],2)):=by
 unfold B9;rw[H9,eF];cases hv:nZ s with
 |false=>rfl
 |true=>
  have h:=(AE hv).1;have M:=h.lq;have ln:=h.ln;have hlen:=Cw h;have O:room [] (encS s):=by unfold room;simp;omega
  simp only[cR,bZ,cI,cH];unfold encS at O⊢;rw[sK (by unfold okI;omega) O.left,eF]
  replace O:=O.right
  have B:=vY (body:=EI s) (enc:=encQ) (ok:=OkQ) s.aF aA.zero om (λ i acc Z L K=>by
   unfold EI;simp only;rw[cB (by simpa using Z),gdp om];simp only[Qm];have lh:=L.lh;have lc:=L.lc;have lw:=L.lw;unfold encQ at K⊢;rw[(LQ L.name K.left).2,eF]
   replace K:=K.right
   rw[sK L.kind K.left,eF]
   replace K:=K.right
   rw[sK L.aU K.left,eF]
   replace K:=K.right
   rw[sK L.home K.left,eF]
   replace K:=K.right
   rw[sK L.gen K.left,eF]
   replace K:=K.right
   rw[sK (by unfold okI;omega) K.left,eF]
   replace K:=K.right
   have v5:=vY (acc:=acc++encT (s.aF.getD i aA.zero).aB.name++encI (s.aF.getD i aA.zero).aB.kind++encI (s.aF.getD i aA.zero).aB.aU++encI (s.aF.getD i aA.zero).aB.home++encI (s.aF.getD i aA.zero).gen++encI ((s.aF.getD i aA.zero).aT.length:Int)) (body:=Hv s (acc,(i:Int))) (enc:=encH) (ok:=λ x=>mP x.aM=true/\okA x.aJ) (s.aF.getD i aA.zero).aT aX.zero om (λ j H U V hb=>by
    unfold encH at hb⊢;unfold Hv;simp only[Qm];rw[cB (by simpa using U),gdp om,(AI V.1 hb.left).2,eF,gdp om,LR V.2 hb.right,eF,mF j om,cG]) (λ H=>by unfold Hv;simp) L.h K.left
   rw[v5,eF]
   replace K:=K.right
   unfold KS;simp only[Qm];rw[sK (by unfold okI;omega) K.left,eF]
   replace K:=K.right
   have v4:=vY (body:=Hu s (acc,(i:Int))) (enc:=encC) (ok:=λ x=>mP x.aM=true/\okA x.aJ/\x.bC=0/\x.bS=0) (s.aF.getD i aA.zero).aN aV.zero om (λ j H U V hb=>by
    unfold encC at hb⊢;unfold Hu;simp only[Qm];rw[cB (by simpa using U),gdp om,(AI V.1 hb.left).2,eF,gdp om,LR V.2.1 hb.right,eF,mF j om,cG]) (λ H=>by unfold Hu;simp) L.c _ K.left
   rw[v4,eF]
   replace K:=K.right
   unfold KR;simp only[Qm];rw[sK (by unfold okI;omega) K.left,eF]
   replace K:=K.right
   have v3:=vY (body:=Ht s (acc,(i:Int))) (enc:=encW) (ok:=λ x=>mP x.aM=true/\okA x.aJ/\okI x.bC/\okI x.bS) (s.aF.getD i aA.zero).aW aV.zero om (λ j H U V hb=>by
    unfold encW at hb⊢;rw[cG,cG]at hb⊢;unfold Ht;simp only[Qm];rw[cB (by simpa using U),gdp om,(AI V.1 hb.left).2,eF,LR V.2.1 hb.right.left,eF,sK V.2.2.1 hb.right.right.left,eF,sK V.2.2.2 hb.right.right.right,eF,mF j om];simp only[cG]) (λ H=>by unfold Ht;simp) L.w _ K
   rw[v3,eF];unfold NZ;simp only[mF i (show i<4611686018427387904 by omega),cG]) (λ acc=>by unfold EI;simp) h.q _ O.left
  rw[B,eF]
  replace O:=O.right
  unfold KQ;rw[sK (by unfold okI;omega) O.left,eF]
  replace O:=O.right
  have F:=vY (body:=Hs s) (enc:=encN) (ok:=λ n=>mP n.aM=true/\okI n.gen/\okE n.bU=true/\fitE n.bU=true) s.aY bQ.zero om (λ i acc Z L K=>by
   have Y:=L.2.2.2;unfold fitE at Y;simp only[bY,cC]at Y;unfold encN at K⊢;unfold Hs;simp only;rw[cB (by simpa using Z),gdp om];simp only[Qm];rw[(AI L.1 K.left).2,eF,gdp om,sK L.2.1 K.right.left,eF,gdp om];unfold Kc;rw[(LT _ _ (eT _) L.2.2.1 Y.2 _ K.right.right).2,eF,mF i om];simp only[cG]) (λ acc=>by unfold Hs;simp) h.n _ O
  rw[F,eF];unfold NY;simp only[cG,jm]
end Ab
end Go.Proofs.YtfmnjkfhahfhgaaGreatDoor
