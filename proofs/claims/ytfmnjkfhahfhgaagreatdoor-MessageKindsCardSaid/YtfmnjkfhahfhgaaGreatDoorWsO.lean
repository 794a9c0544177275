import Derived.Test.YtfmnjkfhahfhgaaGreatDoorDoH
import Derived.Test.YtfmnjkfhahfhgaaGreatDoorTabB
import Derived.Test.YtfmnjkfhahfhgaaGreatDoorTabF
namespace Go.Proofs.YtfmnjkfhahfhgaaGreatDoor
namespace Ab
set_option linter.defProp false
set_option linter.unusedVariables false
set_option linter.unusedSimpArgs false
def VE(a:aC):pH a=true↔(1<=a.mode/\a.mode<=5/\a.aT=0)\/(a.mode=0/\1<=a.aT/\a.aT<=8):=by unfold pH rX;simp only[dV,bX,cD];omega
def cM1{r:aH}{F a b:aC}(hg:yV a b=true)(Y:covA r F b=true):covA r F a=true:=by
 have V:nQ r=true:=by
  rcases(perm_iff r b).1 ((sT _ _ _).1 Y).2.1 with h|h
  .exact h.1
  .exact Tz h
 unfold yV at hg
 by_cases U:pH b=true/\a≠b
 .rw[bZ (by simp[U.1,U.2])]at hg
  by_cases B:a=aC.zero
  .rw[B];exact NB ((sT _ _ _).1 Y).1 V
  .have M:¬a=({aC.zero with}:aC):=B;rw[bZ (by simpa using M)]at hg
   by_cases K:pH a=true
   .rw[bZ (by simp[K])]at hg;have H:b≠aC.zero:=λ e=>by rw[e]at U;exact absurd U.1 Om
    have O:mE r b=true:=by
     rcases(perm_iff r b).1 ((sT _ _ _).1 Y).2.1 with h|h
     .exact absurd h.2 H
     .exact h
    have ub:=(VE b).1 U.1;have ua:=(VE a).1 K;have Z:covA r b a=true:=by
     rw[sT];rw[rC]at O
     by_cases hm:a.mode=0
     .rw[bZ (by simp[hm])]at hg;have hg:=gD hg;have fa:mE r a=true:=(rC r a).2 om;exact⟨qT ((rC r b).2 O),qT fa,.inr ⟨H,B,.inr ⟨by omega,by omega⟩⟩⟩
     .rw[cA (by simp[hm])]at hg;have x0:=(Ei b.mode a.mode).1 hg;have fa:mE r a=true:=(rC r a).2 om;exact⟨qT ((rC r b).2 O),qT fa,.inr ⟨H,B,.inl ⟨by omega,hg⟩⟩⟩
    exact Kl Y Z
   .rw[cA (by simp[K])]at hg;cases hg
 .rw[cA (by
   by_cases L:pH b=true
   .have:a=b:=Decidable.byContradiction λ h=>U ⟨L,h⟩;simp[this]
   .simp[L])]at hg
  cases hg
def VF{l:aZ}(h:LedgerP l){r:aH}{n:ByteArray}(O:mE r (mS l.aP n)=true):∀d k,k+d=l.aP.length->covA r (mS l.aP n) (mS (l.aP.take k) n)=true
 |0,k,e=>by rw[show k=l.aP.length by omega,eT];exact zT (qT O)
 |d+1,k,e=>by
  have H:=VF h O d (k+1) om;have U:k<l.aP.length:=om
  rw[vU bM.zero U,Oh]at H;have hg:=h.grow k U
  by_cases c:(l.aP.getD k bM.zero).name=n
  .rw[cA c]at H;rw[c]at hg;rw[<-hg.1];exact cM1 hg.2 H
  .rw[bZ c]at H;exact H
def cM3{l:aZ}(h:LedgerP l){e:bM}(O:e∈l.aP):mS l.aP e.name≠aC.zero:=by
 have H:∀d k,k+d=l.aP.length->(∃x∈l.aP.take k,x.name=e.name)->mS (l.aP.take k) e.name≠aC.zero:=by
  have U:∀k,k<=l.aP.length->(∃x∈l.aP.take k,x.name=e.name)->mS (l.aP.take k) e.name≠aC.zero:=by
   intro k;induction k with
   |zero=>intro _ ⟨x,hx,_⟩;cases hx
   |succ k Y=>
    intro F ⟨x,hx,K⟩;rw[vU bM.zero om,Oh]
    by_cases c:(l.aP.getD k bM.zero).name=e.name
    .rw[cA c];have hg:=(h.grow k om).2;intro B;rw[B]at hg;unfold yV at hg;rw[cA (by simp[show pH aC.zero=false by decide])]at hg;cases hg
    .rw[bZ c];refine Y om ?_;rw[vU bM.zero om]at hx;rcases cX.1 hx with hx|hx
     .exact⟨x,hx,K⟩
     .rw[dO]at hx;subst hx;exact absurd K c
  exactλ d k e=>U k om
 have:=H 0 l.aP.length om ⟨e,by rw[eT];exact O,rfl⟩;rwa [eT]at this
def cM4{t:List aA}(K:ValidT t){x:aG}(V:ProcC t x){L:List aO}(Y:∀a∈L,∃q∈t,q.aB.name=a.name/\mE q.aB a.aJ=true){q:aA}(U:q∈t)(B:Hi q x L):
  covA q.aB (getH q.aS x.aL) (mS x.bF.aP q.aB.name)=true:=by
 have Z:=((qA _).1 (K.each _ U)).1.hv;have O:=w6 Z x.aL;have H:getH q.aS x.aL=mS x.bF.aP q.aB.name->covA q.aB (getH q.aS x.aL) (mS x.bF.aP q.aB.name)=true:=λ e=>by rw[<-e];exact zT O
 rcases B with⟨a,ha,F,M,h⟩|⟨h,_⟩
 .rcases h with⟨_,h⟩|h
  .by_cases z:mS x.bF.aP q.aB.name=aC.zero
   .rw[z];exact NB O (cE3 (K.each _ U))
   .obtain⟨q1,m1,n1,f1⟩:=V.held _ z;have e1:=K.inj m1 U n1;subst e1;obtain⟨q2,m2,n2,f2⟩:=Y a ha;have e2:=K.inj m2 U (n2.trans F);subst e2;rw[h];exact(Ug f1 f2 M).2.1
  .exact H h
 .exact H h
def Ot{t:List aA}{n:ByteArray}(h:∃q∈t,q.aB.name=n):∃i,i<t.length/\(t.getD i aA.zero).aB.name=n:=by obtain⟨q,H,e⟩:=h;obtain⟨i,K,rfl⟩:=vV (z:=aA.zero) H;exact⟨i,K,e⟩
def CenP.good{c:bC}(h:CenP c)(ev:List bL):Good ⟨c,ev⟩:=by
 refine⟨h.t,h.len,?_,λ y Z hw=>?_⟩
 .have:=h.asc;rw[List.Nodup,kJ];exact this.imp λ K e=>by rw[e]at K;exact Ee _ K
 .have H:=h.each y Z;obtain⟨U,O⟩:=H.wait hw;refine⟨U,by have:=H.led.le;omega,λ L b Y a ha=>?_,λ i V=>?_⟩
  .obtain⟨q,B,e,_⟩:=(O L b Y).1 a ha;exact Ot ⟨q,B,e⟩
  .obtain⟨v,F,h4⟩:=KI y.bJ.bU;obtain⟨M,h6⟩:=O v.1 v.2 F;exact cM4 h.t H M (mN V) (h6 _ (mN V))
def Ou(p:aK):aK:={p with site:=p.site+1}
def cM7(p:aK):p≠Ou p:=λ e=>by have:=eA aK.site e;unfold Ou at this;simp only at this;omega
def cM8{w:bB}{i:Nat}(hi:i<w.c.aD.length)(r:bO){L:List aO}(M:L.length<=8)(g:Good w)(hb:bud w<=400000):
  ∃w',lS (GG (i:Int) r L) (0,w)=some w'/\w'.c.aD=w.c.aD/\w'.ev.length<=w.ev.length+160/\(Good w'\/w'.c.aF=[]):=by
 have Y:w.ev.length<=400000:=by unfold bud at hb;omega
 obtain⟨x,B,F⟩:=nM (body:=GG (i:Int) r L) (λ z=>(∃k:Nat,z.1=k/\k<=L.length/\z.2.ev.length<=w.ev.length+20*k)/\z.2.c.aD=w.c.aD/\(Good z.2\/z.2.c.aF=[])) (λ z=>L.length-z.1.toNat)
  (λ x=>x.c.aD=w.c.aD/\x.ev.length<=w.ev.length+160/\(Good x\/x.c.aF=[]))
  (λ z ⟨⟨k,V,Z,he⟩,K,hg⟩=>by
   obtain⟨z1,H⟩:=z;simp only at V he K hg;subst V;unfold GG
   by_cases c:k<L.length
   .left;have U:0<=(k:Int)/\(k:Int)<(L.length:Int):=om
    simp only[U.1,U.2,cW,mD,cF,cG,Qm,lY k (show k<4611686018427387904 by omega)];rw[gdp (by rw[K];omega),cIm,eF];rcases hg with hg|hg
    .obtain⟨c1,c2⟩:=cLy hg.v (H.c.aD.getD i aG.zero).aL (L.getD k aO.zero) r.bD;rw[BQ _ _ _ om,eF];refine⟨_,rfl,⟨⟨k+1,rfl,c,by simp only[cC];omega⟩,K,?_⟩,by simp only[Qm];omega⟩;rcases c2 with c2|c2
     .exact .inr c2
     .exact .inl ⟨(c2 aK.zero).v,hg.len,hg.nd,λ y hy hw=>(hg.ok y hy hw).kept (c2 (Ou y.aL)) (cM7 _)⟩
    .have O:tT H.c.aF (H.c.aD.getD i aG.zero).aL (L.getD k aO.zero) r.bD=errT 10:=by
      rw[hg];rfl
     rw[O,BQ _ _ _ (by simp[errT];omega),eF];exact⟨_,rfl,⟨⟨k+1,rfl,c,by simp only[errT,eO];omega⟩,K,.inr rfl⟩,by simp only[Qm];omega⟩
   .right;simp only[show¬(k:Int)<(L.length:Int)by omega,cO,bY,cH];exact⟨_,rfl,K,by omega,hg⟩) (0,w) ⟨⟨0,rfl,by omega,by simp⟩,rfl,.inl g⟩
 exact⟨x,B,F⟩
def Ov{w:bB}(h:Good w/\bud w<=500000\/w.c.aF=[]/\w.c.aD.length<=8/\∀y∈w.c.aD,y.bI=true->vE y.bJ.bU=true):∃w',rO w=some w'/\w'.c.aD.length<=100:=by
 rcases h with⟨h,hb⟩|⟨H,O,U⟩
 .obtain⟨w',H,Y⟩:=KN h hb;exact⟨w',H,dF Y.good.len Om⟩
 .exact⟨w,cLo H O U,by omega⟩
def EE{w:bB}(H:w.c.aD.length<=8):bud w<=w.ev.length+16000:=by have:=cLa w.c.aD;unfold bud;omega
def cMb{i:Nat}{c:bC}(h:CenP c)(hi:i<c.aD.length)(r:bO):∃x,DZ (i:Int) r ⟨c,[]⟩=some x/\x.2.c.aD.length<=100:=by
 have g:=h.good [];have B:=h.each _ (mN (z:=aG.zero) hi);unfold DZ;show∃x,gd (0<=(i:Int)/\(i:Int)<((c.aD.length:Nat):Int)) (if(c.aD.getD (i:Int).toNat aG.zero).bI=true then _ else _)=some x/\_;rw[gdp om];simp only[Qm];cases hw:(c.aD.getD i aG.zero).bI with
 |true=>rw[cA rfl];exact⟨_,rfl,dF h.len Om⟩
 |false=>
 rw[bZ Om];have M:∃b,uL r=some b/\(b=true->vE r.bU=true):=by unfold uL;rw[G9,eF];refine⟨_,rfl,λ h=>?_⟩;simp only[bX]at h;exact h.1.1.1.1
 obtain⟨b7,v1,v2⟩:=M;rw[v1,eF];cases b7 with
 |false=>exact⟨_,rfl,dF h.len Om⟩
 |true=>
 have O:=v2 rfl;obtain⟨Z,hs⟩:=h.t.lens';obtain⟨v9,r1,r2⟩:=Vp (c.aF.map (·.aB)) r.bU (by simpa using Z);simp only[cR,bY,cH,Vo _ Z,qm,r1]
 by_cases U:v9=0
 .simp only[U,cF,cR,bY,cH];have Y:0<=(i:Int)/\(i:Int)<((c.aD.length:Nat):Int):=om
  rw[gdp Y,gdp Y,gdp Y];simp only[gN,rK _ _ _ _ hi];have hn:=λ(y:aG)=>ED (i:=i) (w:=⟨⟨c.now,c.aF,c.aD.set i y⟩,[]⟩) (by show i<(c.aD.set i y).length;rw[dS];exact hi);obtain⟨L,a1,a2,a3⟩:=BP r.bU;rw[hn,eF,a1,eF];simp only[rK _ _ _ _ hi,gN];have H:Good ⟨⟨c.now,c.aF,c.aD.set i {{{{c.aD.getD i aG.zero with bI:=true}with bJ:=r}with since:=c.now}with gen:=oO (c.aD.getD i aG.zero).gen}⟩,[]⟩:=
   g.upd (w:=⟨c,[]⟩) hi (EC h.t) (y:={{{{c.aD.getD i aG.zero with bI:=true}with bJ:=r}with since:=c.now}with gen:=oO (c.aD.getD i aG.zero).gen}) rfl (λ _=>⟨O,by have:=B.led.le;show(c.aD.getD i aG.zero).bF.aP.length<=_;omega,λ L' b hL a ha=>by
    obtain⟨h0,hr,e1,_⟩:=r2 U L' b hL a ha;obtain⟨q,hq,rfl⟩:=cQ.1 hr;exact Ot ⟨q,hq,e1⟩,λ j F=>by
    have:=(B.run hw _ (mN (z:=aA.zero) (show j<c.aF.length from F))).1;show covA (c.aF.getD j aA.zero).aB (getH (c.aF.getD j aA.zero).aS (c.aD.getD i aG.zero).aL) (mS (c.aD.getD i aG.zero).bF.aP (c.aF.getD j aA.zero).aB.name)=true;rw[<-this];exact zT (w6 ((qA _).1 (h.t.each _ (mN (z:=aA.zero) F))).1.hv _)⟩) _ _
  obtain⟨w',l1,l2,l3,l4⟩:=cM8 (i:=i) (by show i<(c.aD.set i _).length;rw[dS];exact hi) r a2 H (dF (EE H.len) (by simp));rw[l1,eF];unfold M9;have K:w'.c.aD.length<=8:=by rw[l2];exact H.len
  obtain⟨w2,s1,s9⟩:=Ov (w:=w') (by
   rcases l4 with l4|l4
   .exact .inl ⟨l4,dF (EE K) (by simp only[Ym]at l3;omega)⟩
   .exact .inr ⟨l4,K,λ y hy V=>by rw[l2]at hy;exact(H.ok y hy V).e⟩)
  rw[s1];exact⟨_,rfl,s9⟩
 .simp only[U,cO,dK,cG];exact⟨_,rfl,dF h.len Om⟩
def cMc(l:aZ)(n:ByteArray):∃r,p8 l n=some r:=by
 unfold p8;obtain⟨b,Y,B⟩:=BO l;rw[Y,eF];cases b with
 |false=>exact⟨_,rfl⟩
 |true=>
 have U:=B rfl;have F:=U.le;have M:=U.ls;simp only[cR,bY,cH];rw[gdp om];have H:∀(v:Int×aZ) (x:aZ),x.bH.length=l.bH.length->∃y,lS (F8 l v) (0,x)=some y/\y.aP=x.aP/\y.bH.length=l.bH.length:=λ v x hx=>
  nM (body:=F8 l v) (λ g=>∃k:Nat,g.1=k/\k<=l.bH.length/\g.2.aP=x.aP/\g.2.bH.length=l.bH.length) (λ g=>l.bH.length-g.1.toNat) (λ y=>y.aP=x.aP/\y.bH.length=l.bH.length)
   (λ g ⟨k,V,Z,L,K⟩=>by
    obtain⟨g1,y⟩:=g;simp only at V L K;subst V;unfold F8
    by_cases c:k<l.bH.length
    .left;have O:0<=(k:Int)/\(k:Int)<(l.bH.length:Int):=om
     simp only[K,O.1,O.2,cW,mD,cF,cG,Qm,lY k (show k<4611686018427387904 by omega)];split
     .exact⟨_,rfl,⟨k+1,rfl,c,L,by simp only[dS];exact K⟩,by simp only[Qm];omega⟩
     .exact⟨_,rfl,⟨k+1,rfl,c,L,K⟩,by simp only[Qm];omega⟩
    .right;simp only[K,show¬(k:Int)<(l.bH.length:Int)by omega,cO,bY,cH];exact⟨_,rfl,L,K⟩) (0,x) ⟨0,rfl,by omega,rfl,hx⟩
 obtain⟨x,O,_⟩:=nM (body:=Dp l n) (λ g=>∃k:Nat,g.1=k/\k<=l.aP.length/\g.2.aP.length<=k/\g.2.bH.length=l.bH.length) (λ g=>l.aP.length-g.1.toNat) (λ _=>True)
  (λ g ⟨k,V,Z,L,K⟩=>by
   obtain⟨g1,y⟩:=g;simp only at V L K;subst V;unfold Dp
   by_cases c:k<l.aP.length
   .left;have O:0<=(k:Int)/\(k:Int)<(l.aP.length:Int):=om
    have h5:y.aP.length+1<=4294967296:=om
    simp only[O.1,O.2,h5,cW,mD,cF,cG,Qm,lY k (show k<4611686018427387904 by omega)];split
    .exact⟨_,rfl,⟨k+1,rfl,c,by simp only[cC,Km];omega,K⟩,by simp only[Qm];omega⟩
    .obtain⟨z,e1,e2,e3⟩:=H ((k:Int),y) y K;rw[e1,eF];unfold MQ;exact⟨_,by rw[lY k om],⟨k+1,rfl,c,by simp only[e2];omega,e3⟩,by simp only[Qm];omega⟩
   .right;simp only[show¬(k:Int)<(l.aP.length:Int)by omega,cO,bY,cH];exact⟨_,rfl,trivial⟩) (0,⟨[],l.bH⟩) ⟨0,rfl,by omega,by simp,rfl⟩
 rw[O,eF];unfold MP;split<;>exact⟨_,rfl⟩
def cMd{i:Nat}{c:bC}(h:CenP c)(hi:i<c.aD.length)(nm:ByteArray):∃x,GH (i:Int) nm ⟨c,[]⟩=some x/\x.2.c.aD.length<=100:=by
 have g:=h.good [];have O:=h.each _ (mN (z:=aG.zero) hi);unfold GH;show∃x,gd (0<=(i:Int)/\(i:Int)<((c.aD.length:Nat):Int)) (if(c.aD.getD (i:Int).toNat aG.zero).bI=true then _ else _)=some x/\_;have H:0<=(i:Int)/\(i:Int)<((c.aD.length:Nat):Int):=om
 rw[gdp H];simp only[Qm];cases Z:(c.aD.getD i aG.zero).bI with
 |true=>rw[cA rfl];exact⟨_,rfl,dF h.len Om⟩
 |false=>
 rw[bZ Om,gdp H,x9 _ _ (by have:=O.led.le;omega),eF];split
 .exact⟨_,rfl,dF h.len Om⟩
 obtain⟨M,c2⟩:=cLz h.t (c.aD.getD i aG.zero).aL (⟨nm,aO.zero.aJ⟩:aO);rw[gdp H,Oe,eF,BQ _ _ _ (by simp only[lH];omega),eF];obtain⟨r,U⟩:=cMc (c.aD.getD i aG.zero).bF nm;simp only;rw[gdp H,U,eF,gdp H];have Y:=λ(t:List aA) (ev:List bL) (y:aG)=>ED (i:=i) (w:=⟨⟨c.now,t,c.aD.set i y⟩,ev⟩) (by show i<(c.aD.set i y).length;rw[dS];exact hi);rw[Y,eF];simp only[rK _ _ _ _ hi,gN];obtain⟨w',B,F⟩:=Ov (w:=⟨⟨c.now,(qI c.aF (c.aD.getD i aG.zero).aL (⟨nm,aO.zero.aJ⟩:aO)).1,c.aD.set i {{c.aD.getD i aG.zero with bF:=r.1}with gen:=oO (c.aD.getD i aG.zero).gen}⟩,[]++(qI c.aF (c.aD.getD i aG.zero).aL (⟨nm,aO.zero.aJ⟩:aO)).2.1⟩) (by
  have L:(c.aD.set i {{c.aD.getD i aG.zero with bF:=r.1}with gen:=oO (c.aD.getD i aG.zero).gen}).length<=8:=by rw[dS];exact h.len
  rcases c2 with c2|c2
  .refine .inr ⟨c2,L,λ y V K=>?_⟩;rcases iY V with V|rfl
   .exact(g.ok y V K).e
   .have:(c.aD.getD i aG.zero).bI=true:=K;rw[Z]at this;cases this
  .refine .inl ⟨g.upd (w:=⟨c,[]⟩) hi c2 (y:={{c.aD.getD i aG.zero with bF:=r.1}with gen:=oO (c.aD.getD i aG.zero).gen}) rfl (λ K=>?_) _ _,dF (EE L) (by simp only[cC,Ym];omega)⟩;have:(c.aD.getD i aG.zero).bI=true:=K;rw[Z]at this;cases this)
 rw[B];exact⟨_,rfl,F⟩
def VG{l:aZ}(K:LedgerP l)(label:Int):∃r,zD l label=some r/\(r.2.2=0->∃k:Nat,k<=l.aP.length/\∀a∈r.2.1,(∃e∈l.aP,e.name=a.name)/\a.aJ=mS (l.aP.take k) a.name)/\r.2.1.length<=72/\r.1.aP.length<=l.aP.length:=by
 have h0:=K.le;have x0:=K.ls;have M:∀(H:Nat) (U:Nat),H<=l.aP.length->U<=l.bH.length->∃r,Dq l ((H:Int),(U:Int))=some r/\(r.2.2=0->∃k:Nat,k<=l.aP.length/\∀a∈r.2.1,(∃e∈l.aP,e.name=a.name)/\a.aJ=mS (l.aP.take k) a.name)/\r.2.1.length<=72/\r.1.aP.length<=l.aP.length:=by
  intro H U V Z;unfold Dq;simp only[Qm];rw[gdp om,gdp (by simp only[dC];omega),gdp om,gdp (by simp only[dC];omega),gdp om];obtain⟨O,n1,n2,n3⟩:=Oi (l.aP.drop H) (by simp only[eH];omega);rw[n1,eF];have y0:O.length<=72:=by rw[eH]at n2;omega
  have Y:=KK O (⟨#[]⟩:ByteArray) (λ n=>some (⟨n,mS (l.aP.take H) n⟩:aO)) (body:=F9 l ((H:Int),(U:Int)) O) om (λ i s hi hs'=>by
   unfold F9;have L:0<=(i:Int)/\(i:Int)<(O.length:Int):=om
   have h5:s.length+1<=4294967296:=om
   simp only[L.1,L.2,h5,cW,mD,cF,cG,Qm,lY i (show i<4611686018427387904 by omega)];rw[x9 _ _ (by simp only[dC];omega)];rfl) (λ s=>by unfold F9;simp)
  rw[Y,eF];refine⟨_,rfl,λ _=>⟨H,V,λ a hm=>?_⟩,?_,?_⟩
  .obtain⟨n,hn,e⟩:=fU.1 (show a∈O.filterMap _ from hm);cases e;obtain⟨en,he,B⟩:=(n3 n).1 hn;exact⟨⟨en,iU he,B⟩,rfl⟩
  .have:=gL (λ n=>some (⟨n,mS (l.aP.take H) n⟩:aO)) O;show(O.filterMap _).length<=72;omega
  .show(l.aP.take H).length<=_;rw[dC];omega
 unfold zD;obtain⟨b,h1,_⟩:=BO l;rw[h1,eF];cases b with
 |false=>exact⟨_,rfl,(λ h=>nomatch h),by simp,fO _⟩
 |true=>
 simp only[cR,bY,cH]
 by_cases c:label=0
 .rw[bZ (by simp[c])];exact M 0 0 om om
 .rw[cA (by simp[c])];obtain⟨v,f1,F⟩:=Oj l.bH label om;rw[f1,eF];rcases F with rfl|⟨F,f3⟩
  .exact⟨_,rfl,(λ h=>nomatch h),by simp,fO _⟩
  .rw[bZ (by simp;omega),gdp ⟨F,f3⟩];have Z:=K.at_ _ (mN (z:=bV.zero) (show v.toNat<l.bH.length by omega));have e1:(l.bH.getD v.toNat bV.zero).at_=(((l.bH.getD v.toNat bV.zero).at_.toNat:Nat):Int):=om
   have e2:IntKind.i64.wrap (v+1)=((v.toNat+1:Nat):Int):=by rw[mB om om];omega
   rw[e2,e1];exact M _ _ om om
def Back(x:aG)(t H:List aA)(k:Nat):Prop:=∀j,j<t.length->(nA (H.getD j aA.zero) x.aL).2=false/\
 (getH (H.getD j aA.zero).aS x.aL=mS x.bF.aP (t.getD j aA.zero).aB.name\/getH (H.getD j aA.zero).aS x.aL=mS (x.bF.aP.take k) (t.getD j aA.zero).aB.name)
def cMf{c:bC}(h:CenP c){i:Nat}(hi:i<c.aD.length){v:aZ×List aO×Int}(hv:v.2.1.length<=72){k:Nat}(hk:k<=(c.aD.getD i aG.zero).bF.aP.length)
  (ha:∀a∈v.2.1,(∃e∈(c.aD.getD i aG.zero).bF.aP,e.name=a.name)/\a.aJ=mS ((c.aD.getD i aG.zero).bF.aP.take k) a.name)
  {j1:bB} (hj:(j1.c.aD.getD i aG.zero).aL=(c.aD.getD i aG.zero).aL) (e0:j1.c.aD.length=c.aD.length) {w:bB} (hK:Kept (c.aD.getD i aG.zero).aL c.aF w.c.aF) (hB:Back (c.aD.getD i aG.zero) c.aF w.c.aF k) (f0:w.ev.length<=1000):
  ∃w',lS (GI (i:Int) v j1) (0,w)=some w'/\Kept (c.aD.getD i aG.zero).aL c.aF w'.c.aF/\w'.c.aD=w.c.aD/\w'.ev.length<=w.ev.length+1440:=by
 have hp:=h.each _ (mN (z:=aG.zero) hi);obtain⟨x,h1,h2⟩:=nM (body:=GI (i:Int) v j1) (λ z=>(∃m:Nat,z.1=m/\m<=v.2.1.length/\z.2.ev.length<=w.ev.length+20*m)/\z.2.c.aD=w.c.aD/\Kept (c.aD.getD i aG.zero).aL c.aF z.2.c.aF/\Back (c.aD.getD i aG.zero) c.aF z.2.c.aF k) (λ z=>v.2.1.length-z.1.toNat)
  (λ x=>Kept (c.aD.getD i aG.zero).aL c.aF x.c.aF/\x.c.aD=w.c.aD/\x.ev.length<=w.ev.length+1440)
  (λ z ⟨⟨m,hm,hml,he⟩,L,K,V⟩=>by
   obtain⟨z1,B⟩:=z;simp only at hm he L K V;subst hm;unfold GI
   by_cases cm:m<v.2.1.length
   .left;have h3:0<=(m:Int)/\(m:Int)<(v.2.1.length:Int):=om
    have g0:=K.v.lens'.1;simp only[h3.1,h3.2,cW,mD,cF,cG,Qm,lY m (show m<4611686018427387904 by omega)];obtain⟨⟨en,p0,q0⟩,O⟩:=ha _ (mN (z:=aO.zero) cm);have M:=cM3 hp.led p0;rw[q0]at M;obtain⟨q,hq,y0,r0⟩:=hp.held _ M;obtain⟨j,U,H⟩:=Ot ⟨q,hq,y0⟩;have s0:c.aF.getD j aA.zero=q:=h.t.inj (mN U) hq (H.trans y0.symm);have h0:j<B.c.aF.length:=by rw[K.len];exact U
    have z0:=K.find h.t U;rw[H]at z0;have h6:=y3 K.v.lens h0;rw[zW _ _ om,eF,z0,gdp om];simp only[Qm,hj];rw[vP _ _ om,eF];split
    .rename_i t0;have u0:¬getH (B.c.aF.getD j aA.zero).aS (c.aD.getD i aG.zero).aL=(v.2.1.getD m aO.zero).aJ:=by simpa [-List.getD_eq_getElem?_getD]using t0
     have v0:=V j U;have F:=K.res j U;have Y:getH (B.c.aF.getD j aA.zero).aS (c.aD.getD i aG.zero).aL=mS (c.aD.getD i aG.zero).bF.aP (v.2.1.getD m aO.zero).name:=by
      rcases v0.2 with e|e
      .rw[e,H]
      .rw[H,<-O]at e;exact absurd e u0
     have c0:covA (B.c.aF.getD j aA.zero).aB (getH (B.c.aF.getD j aA.zero).aS (c.aD.getD i aG.zero).aL) (v.2.1.getD m aO.zero).aJ=true:=by rw[Y,O,F,s0];exact VF hp.led r0 ((c.aD.getD i aG.zero).bF.aP.length-k) k om
     obtain⟨Z,ev,r1,r2,r3,r4,r5,r6⟩:=Vt K.v h0 (p:=(c.aD.getD i aG.zero).aL) (a:=(v.2.1.getD m aO.zero).aJ) (by rw[Y];exact M) v0.1 c0;have x0:(⟨(B.c.aF.getD j aA.zero).aB.name,(v.2.1.getD m aO.zero).aJ⟩:aO)=v.2.1.getD m aO.zero:=by rw[F,H]
     rw[x0]at r1;rw[Oe,eF,r1,BQ _ _ _ (by simp only;omega),eF];refine⟨_,rfl,⟨⟨m+1,rfl,cm,by simp only[cC];omega⟩,L,K.trans r3,λ j2 d0=>?_⟩,by simp only[Qm];omega⟩
     by_cases e:j=j2
     .subst e;show(nA ((B.c.aF.set j Z).getD j aA.zero) _).2=false/\_;rw[rK _ _ _ _ h0];exact⟨r5,.inr (by rw[r4,O,H])⟩
     .show(nA ((B.c.aF.set j Z).getD j2 aA.zero) _).2=false/\(getH ((B.c.aF.set j Z).getD j2 aA.zero).aS _=_\/getH ((B.c.aF.set j Z).getD j2 aA.zero).aS _=_);rw[KL _ _ _ _ _ e];exact V j2 d0
    .exact⟨_,rfl,⟨⟨m+1,rfl,cm,by simp only;omega⟩,L,K,V⟩,by simp only[Qm];omega⟩
   .right;simp only[show¬(m:Int)<(v.2.1.length:Int)by omega,cO,bY,cH];exact⟨_,rfl,K,L,by omega⟩) (0,w) ⟨⟨0,rfl,by omega,by simp⟩,rfl,hK,hB⟩
 exact⟨x,h1,h2⟩
def cMg{i:Nat}{c:bC}(h:CenP c)(hi:i<c.aD.length)(label:Int):∃x,D1 (i:Int) label ⟨c,[]⟩=some x/\x.2.c.aD.length<=100:=by
 have g:=h.good [];have Z:=h.each _ (mN (z:=aG.zero) hi);have h3:0<=(i:Int)/\(i:Int)<((c.aD.length:Nat):Int):=om
 unfold D1;show∃x,gd (0<=(i:Int)/\(i:Int)<((c.aD.length:Nat):Int)) ((zD (c.aD.getD (i:Int).toNat aG.zero).bF label).bind _)=some x/\_;rw[gdp h3];simp only[Qm];obtain⟨v,u1,u2,u3,_⟩:=VG Z.led label;rw[u1,eF]
 by_cases c0:v.2.2=0
 .rw[bZ (by simp[c0]),gdp h3];obtain⟨k,hk,h0⟩:=u2 c0;have O:∀(j1:bB),j1.c.aD.length=c.aD.length->(j1.c.aD.getD i aG.zero).aL=(c.aD.getD i aG.zero).aL->(j1.c.aD.getD i aG.zero).bI=false->j1.ev.length<=320->Kept (c.aD.getD i aG.zero).aL c.aF j1.c.aF->Back (c.aD.getD i aG.zero) c.aF j1.c.aF k->
    (∀H (y:aG) (ev:List bL),Kept (c.aD.getD i aG.zero).aL c.aF H->y.aL=(c.aD.getD i aG.zero).aL->y.bI=false->Good ⟨⟨j1.c.now,H,j1.c.aD.set i y⟩,ev⟩)->∃x,D0 (i:Int) v j1=some x/\x.2.c.aD.length<=100:=by
   intro j1 x0 K hw1 v0 hK hB hG;unfold D0;have V:i<j1.c.aD.length:=om
   rw[gdp om,gdp om];simp only[Qm];obtain⟨w',l1,l2,l3,l4⟩:=cMf h hi u3 hk h0 K x0 (w:=⟨⟨j1.c.now,j1.c.aF,j1.c.aD.set i {j1.c.aD.getD i aG.zero with bF:=v.1}⟩,j1.ev⟩) hK hB (by simp only;omega);rw[l1,eF];unfold J0;have y0:i<w'.c.aD.length:=by rw[l3,dS];exact V
   rw[ED y0,eF];obtain⟨w2,s1,s9⟩:=Ov (w:=⟨⟨w'.c.now,w'.c.aF,w'.c.aD.set i {w'.c.aD.getD i aG.zero with gen:=oO (w'.c.aD.getD i aG.zero).gen}⟩,w'.ev⟩) (.inl (by
    have e:w'.c.aD.set i {w'.c.aD.getD i aG.zero with gen:=oO (w'.c.aD.getD i aG.zero).gen}=j1.c.aD.set i {{j1.c.aD.getD i aG.zero with bF:=v.1}with gen:=oO (j1.c.aD.getD i aG.zero).gen}:=by rw[l3];simp only[rK _ _ _ _ V,gN]
    rw[e];have gg:=hG w'.c.aF {{j1.c.aD.getD i aG.zero with bF:=v.1}with gen:=oO (j1.c.aD.getD i aG.zero).gen} w'.ev l2 K hw1;refine⟨⟨gg.v,gg.len,gg.nd,gg.ok⟩,dF (EE gg.len) ?_⟩;simp only at l4⊢;omega))
   rw[s1];exact⟨_,rfl,s9⟩
  show∃x,(if(c.aD.getD i aG.zero).bI=true then _ else _)=some x/\_;rcases hb (c.aD.getD i aG.zero).bI with hw|hw
  case inr=>rw[bZ (by rw[hw];decide)];refine O ⟨c,[]⟩ rfl rfl hw (by simp) (EC h.t) (λ j F=>?_) (λ H y ev k1 k2 k3=>g.upd (w:=⟨c,[]⟩) hi k1 k2 (λ U=>by rw[k3]at U;cases U) _ _);have:=Z.run hw _ (mN (z:=aA.zero) (show j<c.aF.length from F));exact⟨this.2,.inl this.1⟩
  case inl=>
   rw[cA hw];obtain⟨H,ev,L,w1,w2,w3,w4,w5⟩:=Vy (w:=⟨c,[]⟩) g hi hw (dF (EE g.len) (by simp));rw[w1,eF];have Y:(c.aD.set i (oP (c.aD.getD i aG.zero))).getD i aG.zero=oP (c.aD.getD i aG.zero):=rK _ _ _ _ hi;refine O _ (by simp) (by show((c.aD.set i _).getD i aG.zero).aL=_;rw[Y];rfl) (by show((c.aD.set i _).getD i aG.zero).bI=false;rw[Y];rfl) (by simp only[jm];exact w2) w3 (λ j F=>?_) (λ t2 y B k1 k2 k3=>?_)
   .rcases w5 j F with M|⟨M,h6⟩
    .exact⟨M.2,.inl M.1⟩
    .obtain⟨_,z0⟩:=Z.wait hw;have u0:=(z0 L true w4).2 _ (mN (z:=aA.zero) (show j<c.aF.length from F));rcases u0 with⟨a,ha,hn,_⟩|⟨h7,h8⟩
     .exact absurd hn (h6 a ha)
     .show(nA (H.getD j aA.zero) _).2=false/\(getH (H.getD j aA.zero).aS _=_\/_);rw[show H.getD j aA.zero=c.aF.getD j aA.zero from M];exact⟨h8,.inl h7⟩
   .have:=g.upd (w:=⟨c,[]⟩) hi k1 k2 (λ U=>by rw[k3]at U;cases U) c.now B;show Good ⟨⟨c.now,t2,(c.aD.set i _).set i y⟩,B⟩;rw[gN];exact this
 .rw[cA (by simp[c0])];exact⟨_,rfl,dF h.len Om⟩
def cMh(l:aZ)(n:Int)(K:l.bH.length<=1000)(U:l.aP.length<=1000):∃r,Dh l n=some r:=by
 unfold Dh;obtain⟨b,H,_⟩:=BO l;rw[H,eF];split
 .exact⟨_,rfl⟩
 split
 .exact⟨_,rfl⟩
 obtain⟨v,O,_⟩:=Oj l.bH n om;rw[O,eF];split
 .exact⟨_,rfl⟩
 split
 .exact⟨_,rfl⟩
 rw[gdp om,gdp om,gdp om];exact⟨_,rfl⟩
def cMi{c:bC}(h:CenP c)(k:bP):∃x,D3 k ⟨c,[]⟩=some x/\x.2.c.aD.length<=100:=by
 have g:=h.good [];have H:bud ⟨c,[]⟩<=400000:=dF (EE g.len) (by simp);have O:∀{o:Option (Int×bB)},(∃x,o=some x/\x.2.c.aD.length<=100)->∃x:Int×bB,(o.bind λ v=>some (v.1,v.2))=some x/\x.2.c.aD.length<=100:=λ{o} ⟨x,L,V⟩=>⟨x,by rw[L];rfl,V⟩;have B:∀{o:Option bB},(∃x,o=some x/\x.c.aD.length<=100)->∃x:Int×bB,(o.bind λ v=>some (0,v))=some x/\x.2.c.aD.length<=100:=λ{o} ⟨x,L,V⟩=>⟨(0,x),by rw[L];rfl,V⟩;unfold D3
 by_cases F:((decide (k.kind<1))||(decide (9<k.kind)))=true
 .rw[cA F];exact⟨_,rfl,dF h.len Om⟩
 rw[bZ F]
 by_cases M:k.kind=1
 .rw[cA (cP M)];exact O (cLs _ _ g.len)
 rw[bZ (by simpa using M)]
 by_cases Z:k.kind=9
 .rw[cA (cP Z)];exact O (cLr _ g H)
 rw[bZ (by simpa using Z)];obtain⟨v,i1,i2⟩:=On c.aD k.aL (by have:=h.len;omega);show∃x,(wO c.aD k.aL).bind _=some x/\_;rw[i1,eF];rcases i2 with⟨rfl,_⟩|⟨i,rfl,K,_⟩
 .exact⟨_,rfl,dF h.len Om⟩
 have hp:=h.each _ (mN (z:=aG.zero) K);have U:0<=(i:Int)/\(i:Int)<((c.aD.length:Nat):Int):=om
 rw[bZ (by simp)];show∃x,gd (0<=(i:Int)/\(i:Int)<((c.aD.length:Nat):Int)) _=some x/\_;rw[gdp U];simp only[Qm]
 by_cases k2:k.kind=2
 .rw[cA (cP k2)];exact O (cMb h K _)
 rw[bZ (by simpa using k2)]
 by_cases k3:k.kind=3
 .rw[cA (cP k3)];rcases hb (c.aD.getD i aG.zero).bI with hw|hw
  case inr=>rw[cA (by show(!(c.aD.getD i aG.zero).bI)=true;rw[hw];rfl)];exact⟨_,rfl,dF h.len Om⟩
  case inl=>rw[bZ (by show¬(!(c.aD.getD i aG.zero).bI)=true;rw[hw];decide)];obtain⟨w1,w2,r1,r2,r3,_,_,r6⟩:=VA (w:=⟨c,[]⟩) g K hw om;rw[r1,eF,r2,eF];obtain⟨w3,Y,s9⟩:=KN r3 om;show∃x,(rO w2).bind _=some x/\_;rw[Y];exact⟨_,rfl,dF s9.good.len Om⟩
 rw[bZ (by simpa using k3)]
 by_cases k4:k.kind=4
 .rw[cA (cP k4)];exact O (cMd h K _)
 rw[bZ (by simpa using k4)]
 by_cases k5:k.kind=5
 .rw[cA (cP k5)];rcases hb (c.aD.getD i aG.zero).bI with hw|hw
  case inl=>rw[cA (by exact hw)];exact⟨_,rfl,dF h.len Om⟩
  case inr=>
   rw[bZ (by show¬(c.aD.getD i aG.zero).bI=true;rw[hw];decide),gdp U];obtain⟨r,Y⟩:=cMh (c.aD.getD i aG.zero).bF k.n (by have:=hp.led.ls;omega) (by have:=hp.led.le;omega);rw[Y,eF];split
   .exact⟨_,rfl,dF h.len Om⟩
   .rw[gdp U];have hn:=λ(y:aG)=>ED (i:=i) (w:=⟨⟨c.now,c.aF,c.aD.set i y⟩,[]⟩) (by show i<(c.aD.set i y).length;rw[dS];exact K);rw[hn];exact⟨_,rfl,by simp only[dS];exact dF h.len Om⟩
 rw[bZ (by simpa using k5)]
 by_cases k6:k.kind=6
 .rw[cA (cP k6)];exact O (cMg h K _)
 rw[bZ (by simpa using k6)]
 by_cases k8:k.kind=8
 .rw[cA (cP k8)];rcases hb (c.aD.getD i aG.zero).bI with hw|hw
  case inl=>rw[cA (by exact hw)];exact⟨_,rfl,dF h.len Om⟩
  case inr=>rw[bZ (by show¬(c.aD.getD i aG.zero).bI=true;rw[hw];decide)];exact B (VB g K H)
 rw[bZ (by simpa using k8)]
 by_cases k7:k.kind=7
 .rw[cA (cP k7)];exact B (VB g K H)
 .rw[bZ (by simpa using k7)];exact⟨_,rfl,dF h.len Om⟩
def cMj(c:bC)(k:bP):∃x,D4 c k=some x/\x.1.aD.length<=100:=by
 unfold D4;obtain⟨b,H,O⟩:=Vr c;rw[H,eF];cases b with
 |false=>exact⟨_,rfl,by simp[bC.zero]⟩
 |true=>
  have h:=O rfl;rw[bZ Om];unfold Fh;rw[gdp (by have:=h.t.len;omega),gdp (by have:=h.len;omega),eF];obtain⟨x,e,U⟩:=cMi h k;show∃x,(D3 k ⟨c,[]⟩).bind _=some x/\_;rw[e,eF];split
  .exact⟨_,rfl,by simp[bC.zero]⟩
  .exact⟨_,rfl,U⟩
def cMk(c:bC)(l:List bP)(V:l.length<=100000)(O:c.aD.length<=100):∃x,D5 c l=some x/\x.aD.length<=100:=by
 unfold D5;obtain⟨x,U,Y⟩:=nM (body:=J1 l) (λ g=>∃k:Nat,g.1=k/\k<=l.length/\g.2.aD.length<=100) (λ g=>l.length-g.1.toNat) (λ x=>x.aD.length<=100)
  (λ g ⟨k,K,L,hg⟩=>by
   obtain⟨F,y⟩:=g;simp only at K hg;subst K;unfold J1
   by_cases c:k<l.length
   .left;have H:0<=(k:Int)/\(k:Int)<(l.length:Int):=om
    obtain⟨x,e,B⟩:=cMj y (l.getD k bP.zero);simp only[H.1,H.2,cW,mD,cF,cG,Qm,lY k (show k<4611686018427387904 by omega),e,qm];split
    .exact⟨_,rfl,⟨k+1,rfl,c,B⟩,by simp only[Qm];omega⟩
    .exact⟨_,rfl,⟨k+1,rfl,c,hg⟩,by simp only[Qm];omega⟩
   .right;simp only[show¬(k:Int)<(l.length:Int)by omega,cO,bY,cH];exact⟨_,rfl,hg⟩) (0,c) ⟨0,rfl,by omega,O⟩
 rw[U];exact⟨_,rfl,Y⟩
structure Adv (u u':bK):Prop where
 ok:TapeOk u'
 l:u'.l=u.l
 at_:u.at_<=u'.at_
def Adv.trans{a b c:bK}(h:Adv a b)(k:Adv b c):Adv a c:=⟨k.ok,k.l.trans h.l,Int.le_trans h.at_ k.at_⟩
def Adv.refl{a:bK}(h:TapeOk a):Adv a a:=⟨h,rfl,kH _⟩
def KO{u:bK}(h:TapeOk u):Adv u (oA u):=⟨zU h,Uy u,by
 unfold oA;split
 .exact kH _
 .show u.at_<=u.at_+1;omega⟩
def qJ{m:Int}(H:1<=m)(U:m<=1000000){u:bK}(h:TapeOk u):∃v O,nI m u=some (v,O)/\Adv u O/\0<=v/\v<m:=by have:=G4 m u H;exact⟨_,_,BD m u h H U,KO h,this.1,this.2⟩
def cMm{m:Int}(Y:1<=m)(B:m<=1048576){u:bK}(h:TapeOk u):∃v H,nI m u=some (v,H)/\Adv u H:=by
 unfold nI;have K:=h.len;have V:=h.at_
 by_cases c:(u.l.length:Int)<=u.at_
 .rw[cA (by simpa using c)];exact⟨_,_,rfl,Adv.refl h⟩
 .rw[bZ (by simpa using c)];have O:IntKind.i64.wrap (u.at_+1)=u.at_+1:=mB om om;have U:IntKind.i64.wrap (u.at_+1-1)=u.at_:=by rw[mB om om];omega
  simp only[O,U];rw[gdp om];have hm:∃v,uD (u.l.getD u.at_.toNat 0) m=some v:=by unfold uD;rw[bZ (by simp;omega),gdp om];split<;>exact⟨_,rfl⟩
  obtain⟨v,L⟩:=hm;rw[L];exact⟨_,_,rfl,⟨K,by simp only;omega⟩,rfl,by simp only;omega⟩
def VH(H:List aO)(ha:1<=H.length)(hb:H.length<=1000):∀(n:Nat) (d:Int),0<=d->d.toNat<n->d<=10->∀u,TapeOk u->∃e Y,AK n H d u=some (e,Y)/\Adv u Y
 |0,_,_,h,_,_,_=>om
 |n+1,d,h0,hd,h10,u,L=>by
  show∃e Y,FF (AK n) H d u=some (e,Y)/\_;unfold FF;have first:∃v U,(if(!decide (d=0))=true then nI 4 u else some (0,u))=some (v,U)/\Adv u U:=by
   split
   .obtain⟨v,U,h1,h2,_⟩:=qJ (m:=4) Om Om L;exact⟨v,U,h1,h2⟩
   .exact⟨0,u,rfl,Adv.refl L⟩
  obtain⟨v,U,e1,B⟩:=first
  rw[e1,eF]
  by_cases c:((decide (d=0))||(decide (v=0)))=true
  .rw[cA c];obtain⟨v2,u2,e2,a2,F,M⟩:=qJ (m:=(H.length:Int)) om om B.ok;rw[e2,eF,gdp ⟨F,M⟩];exact⟨_,_,rfl,B.trans a2⟩
  .rw[bZ c];have x0:1<=d:=by
    simp only[dV,cD,kZ]at c;omega
   obtain⟨v3,u3,e3,V,F,M⟩:=qJ (m:=3) Om Om B.ok;rw[e3,eF];have Z:IntKind.i64.wrap (1+v3)=1+v3:=mB om om;simp only[Z];obtain⟨v4,u4,e4,a4,r3,r4⟩:=qJ (m:=1+v3) om om V.ok;rw[e4,eF];have O:=(B.trans V).trans a4;obtain⟨x,l1,l2⟩:=nM (body:=IU (AK n) H d (v3,u3)) (λ g=>∃k:Nat,g.1=k/\k<=4/\Adv u g.2.1/\g.2.2.bG.length<=k) (λ g=>4-g.1.toNat) (λ x=>Adv u x.1)
    (λ g ⟨k,hk,hk4,O,K⟩=>by
     obtain⟨g1,t,e⟩:=g;simp only at hk O K;subst hk;unfold IU;simp only[Z]
     by_cases ck:(k:Int)<1+v3
     .left;rw[cA (by simpa using ck)];have wd:IntKind.i64.wrap (d-1)=d-1:=mB om om;obtain⟨e5,u5,e6,a6⟩:=VH H ha hb n (d-1) om om om t O.ok;rw[wd,e6,eF,gdp om,lY k om];exact⟨_,rfl,⟨k+1,rfl,by omega,O.trans a6,by simp only[cC,Km];omega⟩,by simp only[Qm];omega⟩
     .right;rw[bZ (by simpa using ck)];exact⟨_,rfl,O⟩) (0,u4,(⟨(IntKind.i64.wrap (1+v4)),(⟨aO.zero.name,(⟨aO.zero.aJ.mode,aO.zero.aJ.aT⟩:aC)⟩:aO),[]⟩:aR)) ⟨0,rfl,by omega,O,by simp⟩
   rw[l1,eF];exact⟨_,_,rfl,l2⟩
def cMo(l:List aH)(hl:1<=l.length)(B:l.length<=10)(F:∀r∈l,nQ r=true){u:bK}(M:TapeOk u):∃e H,AS l u=some (e,H)/\Adv u H:=by
 unfold AS;obtain⟨v1,O,L,U⟩:=cMm (m:=1048576) Om Om M;rw[L,eF];obtain⟨x,V,l2⟩:=nM (body:=I6 l (v1,O)) (λ g=>∃k:Nat,g.1=k/\k<=l.length/\g.2.length=k) (λ g=>l.length-g.1.toNat) (λ x=>x.length=l.length)
  (λ g ⟨k,K,Z,hg⟩=>by
   obtain⟨g1,s⟩:=g;simp only at K hg;subst K;unfold I6
   by_cases c:k<l.length
   .left;have Y:0<=(k:Int)/\(k:Int)<(l.length:Int):=om
    have w1:IntKind.i64.wrap (3*(k:Int))=3*(k:Int):=mB om om;have w2:0<=IntKind.u64.wrap (3*(k:Int)):=by unfold IntKind.wrap;simp only[IntKind.signed,eQ,bY,cH];exact jB _ Om
    simp only[Y.1,Y.2,cW,mD,cF,cG,Qm,lY k (show k<4611686018427387904 by omega),w1];rw[gdp w2,NR _ _ (F _ (mN c)),eF,gdp om];exact⟨_,rfl,⟨k+1,rfl,c,by simp only[cC,Km];omega⟩,by simp only[Qm];omega⟩
   .right;simp only[show¬(k:Int)<(l.length:Int)by omega,cO,bY,cH];exact⟨_,rfl,by omega⟩) (0,[]) ⟨0,rfl,by omega,rfl⟩
 rw[V,eF];unfold Mv IV;obtain⟨e,u2,e2,a2⟩:=VH x om om ((2:Int).toNat+1) 2 Om Om Om O U.ok;rw[e2];exact⟨_,_,rfl,U.trans a2⟩
def cMp(l:List aH)(L:1<=l.length)(O:l.length<=10)(V:∀r∈l,nQ r=true){u:bK}(Z:TapeOk u):∃e H,AY l u=some (e,H)/\Adv u H:=by
 unfold AY;obtain⟨v1,u1,e1,U,_⟩:=qJ (m:=8) Om Om Z;obtain⟨v2,u2,e2,Y,_⟩:=qJ (m:=5) Om Om U.ok;rw[e1,eF,e2,eF];have M:∀(t:bK) (r:bO),Adv u t->∃e H,Dd l (t,r)=some (e,H)/\Adv u H:=λ t r K=>by unfold Dd;obtain⟨e,u3,B,F⟩:=cMo l L O V K.ok;rw[B];exact⟨_,_,rfl,K.trans F⟩
 split
 .obtain⟨v3,u3,B,F,_⟩:=qJ (m:=20) Om Om Y.ok;rw[B,eF];exact M _ _ ((U.trans Y).trans F)
 .exact M _ _ (U.trans Y)
def cMq(l:List aH)(K:1<=l.length)(B:l.length<=10)(L:∀r∈l,nQ r=true){u:bK}(F:TapeOk u):∃e M,Dy l u=some (e,M)/\Adv (oA u) M:=by
 unfold Dy;rw[BD 16 u F Om Om,eF];have V:=KO F;obtain⟨v2,u2,Z,Y,_⟩:=qJ (m:=6) Om Om V.ok;rw[Z,eF,NQ,eF];have nx:∀(m:Int),1<=m->m<=1000000->∃v U,nI m u2=some (v,U)/\Adv (oA u) U/\0<=v/\v<m:=λ m h1 h2=>by obtain⟨v,U,H,O,r⟩:=qJ h1 h2 Y.ok;exact⟨v,U,H,Y.trans O,r⟩
 split
 .obtain⟨v,U,H,O,_⟩:=nx 9 Om Om;rw[H];exact⟨_,_,rfl,O⟩
 split
 .obtain⟨e,U,H,O⟩:=cMp l K B L Y.ok;rw[H];exact⟨_,_,rfl,Y.trans O⟩
 split
 .exact⟨_,_,rfl,Y⟩
 split
 .obtain⟨v,U,H,O,r1,r2⟩:=nx (l.length:Int) om om;rw[H,eF,gdp ⟨r1,r2⟩];exact⟨_,_,rfl,O⟩
 split
 .obtain⟨v,U,H,O,_⟩:=nx 4 Om Om;rw[H];exact⟨_,_,rfl,O⟩
 split
 .obtain⟨v,U,H,O,_⟩:=nx 5 Om Om;rw[H];exact⟨_,_,rfl,O⟩
 split
 .exact⟨_,_,rfl,Y⟩
 split
 .exact⟨_,_,rfl,Y⟩
 .obtain⟨v,U,H,O,_⟩:=nx 12 Om Om;rw[H];exact⟨_,_,rfl,O⟩
def VI:∀(n:Nat) {u:bK},TapeOk u->Adv u (tR n u)
 |0,u,h=>Adv.refl h
 |n+1,u,h=>by have:=VI n (zU h);exact(KO h).trans this
def VJ{l:List Int}(hl:l.length<=300):∃r k,zF l=some (r,k)/\k.length<=1000/\r.length=6/\∀x∈r,nQ x=true:=by
 unfold zF;have B:TapeOk {bK.zero with l:=l}:=⟨by simp only;omega,by show 0<=(0:Int)/\(0:Int)<=l.length;omega⟩;rw[cDz _ B,eF];have H:=VI 8 B;have O:=cE0 {bK.zero with l:=l};obtain⟨x,F,K⟩:=nM (body:=Jt) (λ g=>∃k:Nat,g.1=k/\k<=4/\Adv {bK.zero with l:=l} g.2.1/\g.2.2.length<=k) (λ g=>4-g.1.toNat) (λ x=>Adv {bK.zero with l:=l} x.1/\x.2.length<=4)
  (λ g ⟨k,V,Z,H,L⟩=>by
   obtain⟨g1,t,s⟩:=g;simp only at V H L;subst V;unfold Jt
   by_cases ck:k<4
   .left;rw[cA (by simp;omega),NQ,eF];obtain⟨v,u,e,a,_⟩:=qJ (m:=9) Om Om H.ok;simp only[e,qm];rw[gdp om,lY k om];exact⟨_,rfl,⟨k+1,rfl,by omega,H.trans a,by simp only[cC,Km];omega⟩,by simp only[Qm];omega⟩
   .right;rw[bZ (by simp;omega)];exact⟨_,rfl,H,by simp only;omega⟩) (0,tR 8 {bK.zero with l:=l},[]) ⟨0,rfl,by omega,H,by simp⟩
 rw[F,eF];unfold Js;obtain⟨M,s0⟩:=x;simp only at K;obtain⟨y,m1,m2⟩:=nM (body:=Jr (catL {bK.zero with l:=l},tR 8 {bK.zero with l:=l})) (λ g=>Adv {bK.zero with l:=l} g.1/\(g.2.length:Int)<=4+g.1.at_) (λ g=>l.length-g.1.at_.toNat) (λ y=>y.length<=1000)
  (λ g ⟨H,hg⟩=>by
   obtain⟨t,s⟩:=g;simp only at H hg;have Y:t.l.length=l.length:=by rw[H.l]
   have x0:=H.ok.at_;unfold Jr Fe;rw[eF]
   by_cases c:t.at_<(t.l.length:Int)
   .left;rw[cA (by simpa using c)];obtain⟨e,u,e1,U⟩:=cMq (catL {bK.zero with l:=l}) (by unfold catL;simp) (by unfold catL;simp) O H.ok;simp only[e1,qm];rw[gdp om];have hn:(oA t).at_=t.at_+1:=by unfold oA;rw[bZ om]
    have:=U.at_;rw[hn]at this;have hul:=U.ok.at_;have:u.l.length=l.length:=by rw[U.l,Uy,Y]
    exact⟨_,rfl,⟨(H.trans (KO H.ok)).trans U,by simp only[cC,Km];omega⟩,by simp only;omega⟩
   .right;rw[bZ (by simpa using c)];exact⟨_,rfl,by simp only;omega⟩) (M,s0) ⟨K.1,by have:=K.2;have:=K.1.ok.at_;simp only;omega⟩
 rw[m1,eF];exact⟨_,_,rfl,m2,by unfold catL;simp,O⟩
def VK{l:List Int}(K:l.length<=300):∃c,D6 l=some c/\c.aD.length<=100:=by
 unfold D6;obtain⟨r,k,H,M,_,_⟩:=VJ K;rw[H,eF];have O:∃v,Ga r=some v/\v.1.aD=[]:=by unfold Ga;rw[cIu,eF];split<;>exact⟨_,rfl,rfl⟩
 obtain⟨v,U,Y⟩:=O;simp only[U,qm];obtain⟨c,B,F⟩:=cMk v.1 k om (by rw[Y];simp);rw[B];exact⟨_,rfl,F⟩
def qK(x:aG):Option bQ:=if x.bI=true then some ⟨x.aL,x.bJ.bU,x.gen⟩else none
def Ow{x:aG}{n:bQ}(h:qK x=some n):x.bI=true/\n=⟨x.aL,x.bJ.bU,x.gen⟩:=by
 unfold qK at h;split at h
 .rename_i c;cases h;exact⟨c,rfl⟩
 .cases h
def cMw{p q:aK}(h:ltP p q):cmpP p q<0:=by rw[J6,cA h];decide
def cMx:oD aI.zero=true:=by decide
def cMy{c:bC}(h:CenP c):oD ⟨c.aF,c.aD.filterMap qK⟩=true:=by
 have B:=gL qK c.aD;have hl:=h.len;have K:∀n∈c.aD.filterMap qK,∃x∈c.aD,x.bI=true/\n=⟨x.aL,x.bJ.bU,x.gen⟩:=λ n H=>by obtain⟨x,L,e⟩:=fU.1 H;exact⟨x,L,Ow e⟩
 have U:(c.aD.filterMap qK).Pairwise λ a b=>ltP a.aL b.aL:=by rw[List.pairwise_filterMap];refine h.asc.imp λ{a b} Z n H m hm=>?_;rw[(Ow H).2,(Ow hm).2];exact Z
 unfold oD;simp only[bX,cD];refine⟨⟨⟨(tS _).2 ⟨h.t.len,h.t.each,h.t.asc⟩,by omega⟩,?_⟩,?_⟩
 .unfold zZ;rw[dT];intro i V;rw[eD]at V;have gg:∀k,(Y:k<(c.aD.filterMap qK).length)->(c.aD.filterMap qK).getD k bQ.zero=(c.aD.filterMap qK)[k]:=λ k Y=>by rw[cB,cE Y];rfl
  obtain⟨x,L,hw,e⟩:=K _ (mN (z:=bQ.zero) V);have hp:=h.each x L;unfold Eu;have O:(decide (i=0)||decide (cmpP ((c.aD.filterMap qK).getD (i-1) bQ.zero).aL ((c.aD.filterMap qK).getD i bQ.zero).aL<0))=true:=by
   by_cases F:i=0
   .simp[F]
   .have:=fE.1 U (i-1) i om V om;rw[gg _ om,gg _ V,cP (cMw this),jJ]
  rw[O,e];simp only[hp.pv,(hp.wait hw).1,cL,fB,cD,bX];exact hp.gen
 .unfold pB;refine dF (eJ (GZ (GY _)) (l₂:=c.aD.map (·.aL)) λ p hp=>?_) (by simpa using hl);rw[Es,cX]at hp;rcases hp with hp|hp
  .obtain⟨x,L,e⟩:=h.aD p hp;exact cQ.2 ⟨x,L,e⟩
  .obtain⟨n,H,e⟩:=cQ.1 hp;obtain⟨x,L,_,M⟩:=K n H;exact cQ.2 ⟨x,L,by rw[<-e,M]⟩
def Ox(c:bC):∃s,zN c=some s/\oD s=true:=by
 unfold zN;obtain⟨b,B,F⟩:=Vr c;rw[B,eF];cases b with
 |false=>exact⟨_,rfl,cMx⟩
 |true=>
 have h:=F rfl;have hl:=h.len;have M:=h.t.len;rw[bZ Om,gdp om];obtain⟨x,L,V⟩:=nM (body:=JQ c) (λ g=>∃k:Nat,g.1=k/\k<=c.aD.length/\g.2=⟨c.aF,(c.aD.take k).filterMap qK⟩) (λ g=>c.aD.length-g.1.toNat) (λ x=>x=⟨c.aF,c.aD.filterMap qK⟩)
  (λ g ⟨k,K,Z,hg⟩=>by
   obtain⟨g1,s⟩:=g;simp only at K hg;subst K;subst hg;unfold JQ
   by_cases H:k<c.aD.length
   .left;have U:0<=(k:Int)/\(k:Int)<(c.aD.length:Int):=om
    have O:=gL qK (c.aD.take k);rw[dC]at O;simp only[U.1,U.2,cW,mD,cF,cG,Qm,lY k (show k<4611686018427387904 by omega)];have Y:∀x:aG,(c.aD.take k++[x]).filterMap qK=(c.aD.take k).filterMap qK++(match qK x with|some n=>[n]|none=>[]):=λ x=>by rw[List.filterMap_append];simp only[List.filterMap_cons,List.filterMap_nil];cases qK x<;>rfl
    rcases hb (c.aD.getD k aG.zero).bI with hw|hw
    .rw[cA hw,gdp om];refine⟨_,rfl,⟨k+1,rfl,H,?_⟩,by simp only[Qm];omega⟩;rw[vU aG.zero H,Y];unfold qK;rw[cA hw]
    .rw[bZ (by rw[hw];decide)];refine⟨_,rfl,⟨k+1,rfl,H,?_⟩,by simp only[Qm];omega⟩;rw[vU aG.zero H,Y];have:qK (c.aD.getD k aG.zero)=none:=by unfold qK;rw[bZ (by rw[hw];decide)]
     rw[this,eO]
   .right;have e:k=c.aD.length:=om
    simp only[show¬(k:Int)<(c.aD.length:Int)by omega,cO,bY,cH];exact⟨_,rfl,by rw[e,eT]⟩) (0,⟨c.aF,[]⟩) ⟨0,rfl,by omega,rfl⟩
 rw[L,eF];exact⟨x,rfl,by rw[V];exact cMy h⟩
def cN0{l:List Int}(K:l.length<=300):∃s,GL l=some s/\oD s=true:=by unfold GL;obtain⟨c,H,_⟩:=VK K;rw[H,eF];obtain⟨s,O,U⟩:=Ox c;rw[O];exact⟨s,rfl,U⟩
def VL:∀{x y:List UInt8},x≠y->Op.bytesLess x y=true\/Op.bytesLess y x=true
 |[],[],h=>absurd rfl h
 |[],b::y,_=>.inl rfl
 |a::x,[],_=>.inr rfl
 |a::x,b::y,h=>by
  simp only[Op.bytesLess,dV,cD,bX,dI]
  by_cases e:a=b
  .subst e;rcases VL (x:=x) (y:=y) (λ k=>h (by rw[k]))with k|k
   .exact .inl (.inr ⟨rfl,k⟩)
   .exact .inr (.inr ⟨rfl,k⟩)
  .rcases jX a.toNat b.toNat with k|k
   .exact .inl (.inl (UInt8.lt_iff_toNat_lt.2 k))
   .refine .inr (.inl (UInt8.lt_iff_toNat_lt.2 ?_));have:a.toNat≠b.toNat:=λ k=>e (UInt8.toNat_inj.1 k);omega
def cN2{α X:Type}(l:List α)(z:α)(p:α->Bool)(f:α->X){body:Int->Option (Int⊕(Unit⊕X))}
  (hb:∀i:Nat,i<l.length->body (i:Int)=some (if p (l.getD i z)=true then .inr (.inr (f (l.getD i z)))else .inl ((i+1:Nat):Int)))
  (B:body (l.length:Int)=some (.inr (.inl ()))):lS body 0=some (match l.find? p with|some a=>.inr (f a)|none=>.inl ()):=by
 have O:=vM (body:=body) l z (λ i (_:Unit)=>(i:Int)) (λ i a _=>some (if p a=true then .inr (Sum.inr (α:=Unit) (f a))else .inl ())) (λ _=>Sum.inl (β:=X) ())
  (λ i s K=>by rw[hb i K,lG];split<;>rfl) (λ s=>B) ()
 have H:∀(l:List α) (i:Nat),walk (λ i a (_:Unit)=>some (if p a=true then .inr (Sum.inr (α:=Unit) (f a))else .inl ())) (λ _=>Sum.inl (β:=X) ()) l i ()=some (match l.find? p with|some a=>.inr (f a)|none=>.inl ()):=by
  intro l;induction l with
  |nil=>intro i;rfl
  |cons a l F=>
   intro i;simp only[walk,List.find?_cons]
   by_cases Y:p a=true
   .simp[Y]
   .have U:p a=false:=by simpa using Y
    simp only[U,bY,cH];rw[F (i+1)]
 rw[show(0:Int)=(λ(i:Nat) (_:Unit)=>(i:Int)) 0 ()from rfl,O];exact H l 0
def vW{body:Int->Option (Int⊕(Unit⊕Bool))}(n:Nat)(p:Nat->Bool)(hb:∀i:Nat,i<n->body (i:Int)=some (if p i=true then .inl ((i:Int)+1)else .inr (.inr false)))
  (O:body (n:Int)=some (.inr (.inl ()))):lS body 0=some (if(List.range n).all p=true then .inl ()else .inr false):=by
 have H:lS body 0=some ((pP (λ i=>if p i=true then none else some (Sum.inr (α:=Unit) false)) n 0).getD (Sum.inl ())):=
  sQ n _ (Sum.inl ()) (λ i K=>by rw[hb i K];cases p i<;>rfl) O
 rw[H,tQ,<-eP];cases(List.range n).all p<;>rfl
def Hj{S X:Type}{body:Int×S->Option ((Int×S)⊕X)}(n:Nat)(H:Nat->S->Prop)(Post:X->Prop)
  (h:∀(i:Nat) s,i<n->H i s->(∃O,body ((i:Int),s)=some (.inl (((i+1:Nat):Int),O))/\H (i+1) O)\/∃x,body ((i:Int),s)=some (.inr x)/\Post x)
  (Y:∀s,H n s->∃x,body ((n:Int),s)=some (.inr x)/\Post x) (s0:S) (B:H 0 s0):∃x,lS body (0,s0)=some x/\Post x:=
 nM (body:=body) (λ g=>∃k:Nat,g.1=(k:Int)/\k<=n/\H k g.2) (λ g=>n-g.1.toNat) Post
  (λ g ⟨k,V,Z,K⟩=>by
   obtain⟨F,s⟩:=g;simp only at V K;subst V
   by_cases c:k<n
   .rcases h k s c K with⟨O,e,U⟩|⟨x,e,L⟩
    .exact .inl ⟨_,e,⟨k+1,rfl,c,U⟩,by simp only[Qm];omega⟩
    .exact .inr ⟨x,e,L⟩
   .have:k=n:=om
    subst this;obtain⟨x,e,L⟩:=Y s K;exact .inr ⟨x,e,L⟩) (0,s0) ⟨0,rfl,by omega,B⟩
def VM{S X:Type}{body:Int×S->Option ((Int×S)⊕X)}(n:Nat)(st:Nat->S)(x:X)
  (h:∀i:Nat,i<n->body ((i:Int),st i)=some (.inl (((i+1:Nat):Int),st (i+1)))) (O:body ((n:Int),st n)=some (.inr x)):lS body (0,st 0)=some x:=by
 have H:∀k i,i+k=n->lS body ((i:Int),st i)=some x:=by
  intro k;induction k with
  |zero=>intro i K;rw[mF,show i=n by omega,O]
  |succ k U=>intro i K;rw[mF,h i om];exact U (i+1) om
 exact H n 0 om
def Hk{s:aI}(h:oD s=true):pQ s.aF=true/\s.aY.length<=8/\zZ s.aY=true/\(pB s).length<=8:=by unfold oD at h;simp only[bX,cD]at h;exact⟨h.1.1.1,h.1.1.2,h.1.2,h.2⟩
def Oy{t:List aA}(h:pQ t=true):t.length<=8/\Lens t:=⟨((tS t).1 h).1,λ q H=>by
 have:=w9 (((tS t).1 h).2.1 q H);omega⟩
def Oz{s:aI}(h:∀q∈s.aF,mK q=true){p:aK}:p∈pB s↔(∃q∈s.aF,hasQ q p=true)\/∃n∈s.aY,n.aL=p:=by unfold pB;rw[Es,cX,Ez h,cQ]
def cN9{s:aI}(h:pQ s.aF=true)(Y:s.aY.length<=8):(pB s).length<=1000:=by have H:=(tS _).1 h;have B:=Et s.aF H.2.1;have O:=G0 (s.aF.flatMap rE);have U:=G0 (nW s.aF++s.aY.map (·.aL));unfold pB;rw[cC,dN]at U;have F:(nW s.aF).length<=(s.aF.flatMap rE).length:=O;omega
def VN(s:aI)(p:aK)(O:s.aY.length<=1000):∃v,yD s p=some v/\(v.2=true->v.1∈s.aY):=by
 unfold yD;rw[cN2 s.aY bQ.zero (λ n=>decide (n.aL=p)) (λ n=>(n,true)) (λ i L=>by
  unfold Ib;have H:0<=(i:Int)/\(i:Int)<(s.aY.length:Int):=om
  simp only[H.1,H.2,cW,mD,cF,cG,lA,lY i (show i<4611686018427387904 by omega)];split<;>rfl) (by unfold Ib;simp),eF]
 cases K:s.aY.find? (λ n=>decide (n.aL=p))with
 |some a=>exact⟨_,rfl,λ _=>kB K⟩
 |none=>exact⟨_,rfl,λ h=>by cases h⟩
def cNb{t:List aA}(h:pQ t=true)(l:List bQ)(p:aK)(nm:ByteArray):∃b,CY ⟨t,l⟩ p nm=some b:=by
 obtain⟨O,H⟩:=Oy h;unfold CY;rw[zW _ _ (by simp only;omega),eF]
 by_cases c:nD t nm<0
 .rw[cA (cP c)];exact⟨_,rfl⟩
 .have U:=He c;have Y:=H _ (mN (z:=aA.zero) (show(nD t nm).toNat<t.length by omega));rw[bZ (by simpa using c),gdp (by simp only;omega),u7 _ _ (by simp only;omega) (by simp only;omega)];exact⟨_,rfl⟩
def cNc{s:aI}(K:oD s=true)(p:aK):∃U,Bp s p=some U:=by
 obtain⟨Y,h8,_,_⟩:=Hk K;unfold Bp;obtain⟨v,B,e2⟩:=VN s p om;rw[B,eF];have F:(if v.2=true then uM s else some false)=some v.2:=by
  rcases hb v.2 with c|c
  .rw[cA c,Ha,K,c]
  .rw[bZ (by rw[c];decide),c]
 rw[F,eF];rcases hb v.2 with c|c
 .rw[bZ (by rw[c];decide)];obtain⟨L,M,e5,_⟩:=BP v.1.bU;rw[M,eF,gdp om];obtain⟨x,V,_⟩:=Hj (body:=Gs s p L) L.length (λ _ b=>b.length=L.length) (λ _=>True) (λ i b hi H=>by
   left;unfold Gs;have O:0<=(i:Int)/\(i:Int)<(L.length:Int):=om
   obtain⟨w,Z⟩:=cNb Y s.aY p (L.getD i aO.zero).name;simp only[O.1,O.2,cW,mD,cF,cG,Qm,lY i (show i<4611686018427387904 by omega),Z,qm];rw[gdp ⟨trivial,by omega⟩];exact⟨_,rfl,by simp only[dS];exact H⟩) (λ b H=>by unfold Gs;simp) (List.replicate ((L.length:Int).toNat) false) (by simp)
  rw[V];exact⟨_,rfl⟩
 .rw[cA (by rw[c];rfl)];exact⟨_,rfl⟩
def cNd{s:aI}(K:oD s=true)(p:aK):∃b,GD s p=some b:=by
 obtain⟨_,M,H,_⟩:=Hk K;unfold GD;obtain⟨v,O,U⟩:=VN s p om;obtain⟨Y,B⟩:=cNc K p;rw[O,eF];rcases hb v.2 with c|c
 .rw[cA c,B,eF,cA c];obtain⟨b,F,_⟩:=Ol (Ob H (U c)).2.1 Y;rw[F];exact⟨_,rfl⟩
 .rw[bZ (by rw[c];decide),eF,bZ (by rw[c];decide)];exact⟨_,rfl⟩
def VO(s:aI):∃l,Bs s=some l/\∀x∈l,x∈pB s:=by
 unfold Bs;rw[Ha,eF];rcases hb (oD s)with hv|hv
 .obtain⟨O,U,_,B⟩:=Hk hv;rw[bZ (by rw[hv];decide),N5 s O U,eF];obtain⟨x,e,hx⟩:=Hj (body:=GE s (pB s)) (pB s).length (λ i l=>l.length<=i/\∀x∈l,x∈pB s) (λ l=>∀x∈l,x∈pB s) (λ i l L ⟨K,hm⟩=>by
   left;unfold GE;have H:0<=(i:Int)/\(i:Int)<((pB s).length:Int):=om
   obtain⟨b,Y⟩:=cNd hv ((pB s).getD i aK.zero);simp only[H.1,H.2,cW,mD,cF,cG,Qm,lY i (show i<4611686018427387904 by omega),Y,qm];cases b with
   |true=>
    rw[cA rfl,gdp om];refine⟨_,rfl,by simp only[cC,Km];omega,λ x hx=>?_⟩;rcases cX.1 hx with hx|hx
    .exact hm x hx
    .rw[dO.1 hx];exact mN L
   |false=>rw[bZ Om];exact⟨_,rfl,by omega,hm⟩) (λ l K=>by unfold GE;simp only[iG,cO,bY,cH];exact⟨_,rfl,K.2⟩) [] ⟨by simp,λ x hx=>nomatch hx⟩
  rw[e];exact⟨_,rfl,hx⟩
 .rw[cA (by rw[hv];rfl)];exact⟨_,rfl,λ x hx=>nomatch hx⟩
def wq(p:aK)(q:aA):aA:=if hasQ q p=true then{(pA q p).1 with gen:=q.gen}else q
def vX(s:aI)(p:aK):aI:=⟨s.aF.map (wq p),s.aY.filter λ n=>!decide (n.aL=p)⟩
def cNg(s:aI)(p:aK)(M:s.aF.length<=1000)(O:Lens s.aF)(L:s.aY.length<=1000):r9 s p=some (vX s p):=by
 unfold r9;have U:lS (DO s p) (0,(⟨[],[]⟩:aI))=some ⟨s.aF.map (wq p),[]⟩:=
  VM (body:=DO s p) s.aF.length (λ k=>⟨(s.aF.take k).map (wq p),[]⟩) _ (λ i K=>by
   unfold DO;have H:0<=(i:Int)/\(i:Int)<(s.aF.length:Int):=om
   have V:=O _ (mN (z:=aA.zero) K);have Y:((s.aF.take i).map (wq p)).length+1<=4294967296:=by rw[dN,dC];omega
   simp only[H.1,H.2,cW,mD,cF,cG,Qm,lY i (show i<4611686018427387904 by omega),NO (s.aF.getD i aA.zero) p om om om,Ur,qm,Y];rw[vU aA.zero K,fG]
   by_cases c:hasQ (s.aF.getD i aA.zero) p=true
   .rw[cA c,show wq p=λ q=>wq p q from rfl];simp only[dJ,iL];rw[show wq p (s.aF.getD i aA.zero)={(pA (s.aF.getD i aA.zero) p).1 with gen:=(s.aF.getD i aA.zero).gen}from cA c]
   .rw[bZ c];simp only[dJ,iL];rw[show wq p (s.aF.getD i aA.zero)=s.aF.getD i aA.zero from bZ c]) (by
   unfold DO;simp)
 have B:lS (DN s p) (0,(⟨s.aF.map (wq p),[]⟩:aI))=some (vX s p):=
  VM (body:=DN s p) s.aY.length (λ k=>⟨s.aF.map (wq p),(s.aY.take k).filter λ n=>!decide (n.aL=p)⟩) _ (λ i K=>by
   unfold DN;have H:0<=(i:Int)/\(i:Int)<(s.aY.length:Int):=om
   have F:=iQ (λ n:bQ=>!decide (n.aL=p)) (s.aY.take i);rw[dC]at F;simp only[H.1,H.2,cW,mD,cF,cG,Qm,lY i (show i<4611686018427387904 by omega)];rw[vU bQ.zero K,List.filter_append]
   by_cases c:(!decide ((s.aY.getD i bQ.zero).aL=p))=true
   .rw[cA c,gdp om];simp only[jP,List.filter_nil,c,cG]
   .rw[bZ c];simp only[jP,List.filter_nil,c,bY,cH,eO]) (by
   unfold DN vX;simp)
 rw[U,eF];unfold JJ;rw[B];rfl
def cNh{q:aA}(h:mK q=true)(p x:aK):hasQ (wq p q) x=true↔hasQ q x=true/\x≠p:=by
 unfold wq;split
 .rename_i c;rw[NF,(Kq h c).2];exact Um h p x
 .rename_i c;exact⟨λ k=>⟨k,λ e=>c (e▸k)⟩,λ k=>k.1⟩
def cNi{q:aA}(h:mK q=true)(p:aK):mK (wq p q)=true:=by
 unfold wq;split
 .rename_i c;rw[(Kq h c).2];have H:=(qA _).1 (Uk h p);have O:=((qA _).1 h).1.gen;exact(qA _).2 ⟨⟨H.1.res,H.1.hv,H.1.cl,H.1.cn,H.1.cg,H.1.wv,H.1.wl,H.1.wg,O⟩,H.2⟩
 .exact h
def VP{q:aA}(h:mK q=true)(p:aK):(wq p q).aB=q.aB:=by
 unfold wq;split
 .rename_i c;rw[(Kq h c).2];exact KF h p
 .rfl
def VQ{s:aI}(h:pQ s.aF=true)(O:s.aY.length<=8)(p:aK):pQ (vX s p).aF=true/\(vX s p).aY.length<=8:=by
 have H:=(tS _).1 h;refine⟨(tS _).2 ⟨by unfold vX;simp only[dN];exact H.1,λ q U=>?_,?_⟩,dF (iQ _ _) O⟩
 .obtain⟨x,L,rfl⟩:=cQ.1 U;exact cNi (H.2.1 x L) p
 .have Y:=H.2.2;unfold AscN at*;unfold vX;rw[kJ];exact Y.imp_of_mem λ{a b} V hb K=>by rw[VP (H.2.1 a V),VP (H.2.1 b hb)];exact K
def cNl{s:aI}(h:pQ s.aF=true)(U:s.aY.length<=8){p:aK}(Y:p∈pB s):(pB (vX s p)).length<(pB s).length:=by
 have H:=((tS _).1 h).2.1;have B:=((tS _).1 (VQ h U p).1).2.1;have hm:∀x∈pB (vX s p),x∈pB s/\x≠p:=λ x hx=>by
  rw[Oz B]at hx;rcases hx with⟨q,F,hx⟩|⟨n,O,hx⟩
  .obtain⟨y,K,rfl⟩:=cQ.1 F;have:=(cNh (H y K) p x).1 hx;exact⟨(Oz H).2 (.inl ⟨y,K,this.1⟩),this.2⟩
  .have:=gR.1 O;refine⟨(Oz H).2 (.inr ⟨n,this.1,hx⟩),λ e=>?_⟩;have k:=this.2;rw[hx,e]at k;simp at k
 have nd:(p::pB (vX s p)).Nodup:=iN.2 ⟨λ k=>(hm p k).2 rfl,GZ (GY _)⟩;have:=eJ nd (l₂:=pB s) λ x hx=>by
  rcases cK.1 hx with rfl|hx
  .exact Y
  .exact(hm x hx).1
 rw[lE]at this;omega
def cNm(s:aI):∃r,D7 s=some r/\r.2.length<=1000:=by
 unfold D7;rw[Ha,eF];rcases hb (oD s)with hv|hv
 .obtain⟨H,O,_,h9⟩:=Hk hv;obtain⟨l,U,hl⟩:=VO s;rw[bZ (by rw[hv];decide),U,eF];obtain⟨x,Y,L⟩:=nM (body:=J2) (λ g=>(pQ g.2.1.aF=true/\g.2.1.aY.length<=8)/\(∀x∈g.1,x∈pB g.2.1)/\g.2.2.length+(pB g.2.1).length<=1000) (λ g=>(pB g.2.1).length) (λ x=>pQ x.1.aF=true/\x.1.aY.length<=8) (λ g ⟨⟨K,V⟩,k3,k4⟩=>by
   obtain⟨l,s,o⟩:=g;simp only at K V k3 k4;unfold J2;simp only;cases l with
   |nil=>right;rw[bZ (by simp)];exact⟨_,rfl,K,V⟩
   |cons a l=>
    left;have B:=k3 a (.head _);have Z:=cNl K V B;obtain⟨p1,F⟩:=Oy K;obtain⟨l',M,hl'⟩:=VO (vX s a);rw[cA (by simp<;>omega),gdp (by simp<;>omega),gdp om,gdp (by simp<;>omega),show((a::l).getD 0 aK.zero)=a from rfl,cNg s a om F om,eF,M,eF];exact⟨_,rfl,⟨VQ K V a,hl',by simp only[cC,Km];omega⟩,Z⟩) (l,s,[]) ⟨⟨H,O⟩,hl,by simp;omega⟩
  rw[Y,eF];unfold Na;rw[N5 _ L.1 L.2];exact⟨_,rfl,cN9 L.1 L.2⟩
 .rw[cA (by rw[hv];rfl)];exact⟨_,rfl,by simp⟩
def nums:List (Int×bN):=[(71,⟨64,0,1073741824,0⟩),(82,⟨65,0,1073741824,0⟩),(69,⟨66,0,1073741824,0⟩),(89,⟨67,0,7,0⟩),(83,⟨68,0,3,0⟩),(73,⟨69,1,99,0⟩),(66,⟨70,-1,99,1⟩)]
def Hl:yJ=some nums:=rfl
def Hm(m:aM):Bool:=nums.all λ e=>decide (nB m ((oF e.2.of).getD 0)=0)
def OA(m:aM):Hm m=true↔m.gen=0/\m.round=0/\m.epoch=0/\m.bD=0/\m.site=0/\m.inc=0/\m.label=0:=by unfold Hm nums;simp only[List.all_cons,List.all_nil,fB,bX,cD];rfl
def Hn(s:aI):Bool:=decide (s.aF.length=0)&&decide (s.aY.length=0)
def EF(m:aM):Bool:=Hm m&&(Hn m.state&&(decide (m.options.length=0)&&(decide (m.kind=0)&&(decide (m.aL=aK.zero)&&(decide (m.bA=aO.zero)&&!m.done)))))
def cNs(m:aM):CN m=some (EF m):=by
 unfold CN;rw[Hl,eF];refine QG λ q B=>?_;have O:∀l:List (Int×bN),(∀e∈l,(oF e.2.of).isSome=true)->
   uB (IK m) (λ g1:Unit=>(Sum.inl ():Unit⊕Bool)) l ()=some (if l.all (λ e=>decide (nB m ((oF e.2.of).getD 0)=0))=true then .inl ()else .inr false):=by
  intro l;induction l with
  |nil=>intro _;rfl
  |cons e l F=>
   intro h;simp only[uB,IK];obtain⟨k,U⟩:=iF.1 (h e (.head _));rw[U,eF]
   by_cases H:nB m k=0
   .rw[bZ (by simp[H])];simp only[F λ x L=>h x (.tail _ L),List.all_cons,U,Xm,H,cF,cL]
   .rw[cA (by simp[H])];simp[U,H]
 have hm:∀i,i∈q↔i<7:=λ i=>by rw[B.mem_iff,eD];rfl
 rw[O _ (λ e Y=>by
  obtain⟨i,K,rfl⟩:=cQ.1 Y;have:=(hm i).1 K
  match i,this with
  |0,_=>rfl
  |1,_=>rfl
  |2,_=>rfl
  |3,_=>rfl
  |4,_=>rfl
  |5,_=>rfl
  |6,_=>rfl),eF]
 have M:((q.map (nums.getD · (0,bN.zero))).all λ e=>decide (nB m ((oF e.2.of).getD 0)=0))=Hm m:=by
  rw[dM,OA,dT];constructor
  .intro h;have g:∀i,i<7->nB m ((oF (nums.getD i (0,bN.zero)).2.of).getD 0)=0:=λ i K=>gD (h _ (cQ.2 ⟨i,(hm i).2 K,rfl⟩));exact⟨g 0 om,g 1 om,g 2 om,g 3 om,g 4 om,g 5 om,g 6 om⟩
  .rintro⟨H,V,Z,h3,h4,h5,h6⟩ e Y;obtain⟨i,K,rfl⟩:=cQ.1 Y;have:=(hm i).1 K;rw[cD]
   match i,this with
   |0,_=>exact H
   |1,_=>exact V
   |2,_=>exact Z
   |3,_=>exact h3
   |4,_=>exact h4
   |5,_=>exact h5
   |6,_=>exact h6
 rw[M];unfold EF;cases Hm m with
 |false=>rfl
 |true=>
  simp only[cG,cL];unfold IJ Hn
  by_cases a:m.state.aF.length=0<;>by_cases b:m.state.aY.length=0<;>by_cases c:m.options.length=0<;>simp[a,b,c,gW]
abbrev room(l e:List Int):Prop:=l.length+e.length<=4294960000
def room.left{l a b:List Int}(h:room l (a++b)):room l a:=by unfold room at*;rw[cC]at h;omega
def room.right{l a b:List Int}(h:room l (a++b)):room (l++a) b:=by unfold room at*;rw[cC]at h⊢;omega
def xM{l:List Int}{x:Int}(h:okI x)(O:room l (encI x)):tG l (IntKind.u64.wrap x)=some (l++encI x)/\sF l (IntKind.u64.wrap x)=some (l++encI x):=by unfold room at O;obtain⟨H,U⟩:=h;rw[x7 x H om];have:x=((x.toNat:Nat):Int):=(iI H).symm;unfold encI;rw[this,lA];exact⟨U8 om om,N8 om om⟩
def rS{l:List Int}{x:Int}(h:okI x)(H:room l (encI x)):qE l x=some (l++encI x):=by unfold qE;rw[(xM h H).2];rfl
def KP:∀(xs:List Int) (l:List Int),(∀x∈xs,okI x)->xs.length<=1000->room l (xs.flatMap encI)->qR l xs=some (l++xs.flatMap encI):=by
 intro xs l V L B;unfold qR;have U:∀k i (H:List Int),i+k=xs.length->room H ((xs.drop i).flatMap encI)->lS (CO xs) (H,(i:Int))=some (H++(xs.drop i).flatMap encI):=by
  intro k;induction k with
  |zero=>
   intro i H Z _;have:i=xs.length:=om
   subst this;rw[mF,iX];unfold CO;rw[bZ (by simp)];simp
  |succ k F=>
   intro i H Z O;have K:i<xs.length:=om
   rw[s7 xs i 0 K]at O⊢;rw[fN]at O⊢;have Y:=V _ (mN (z:=0) K);rw[mF];unfold CO;simp only;rw[cA (by simpa using K),gdp om];simp only[Qm];rw[(xM Y O.left).1,eF,lY i om];simp only;have:=F (i+1) (H++encI (xs.getD i 0)) om O.right;unfold CO at this;rw[this,cJ]
 have:=U xs.length 0 l om B;rw[show((l,0):List Int×Int)=(l,((0:Nat):Int))from rfl,this];rfl
def KQ{l:List Int}{s:ByteArray}(h:s.size<=1024)(O:room l (encT s)):Az l s=some (l++encT s)/\Ay l s=some (l++encT s):=by have H:=O;unfold room at H;unfold Az Ay;unfold encT at O H⊢;rw[cC,dN,BH]at H;rw[x7 (s.size:Int) om om,U9 om om,U7 om om,eF,gdp (by rw[cC,BH];omega),cJ];exact⟨rfl,rfl⟩
def y4{l:List Int}{p:aK}(h:mL p=true)(O:room l (encP p)):vH l p=some (l++encP p)/\yO l p=some (l++encP p):=by
 obtain⟨Y,B,F⟩:=N9 h;unfold encP at O⊢;have M:=O.left.left;have V:=O.left.right;have U:=O.right;rw[<-cJ]at U;constructor
 .unfold vH;have Z:∀H:List Int,room H (encI p.site)->wU p (H,0)=some (.inl (H++encI p.site,1)):=λ H K=>by
   unfold wU;rw[cA (by simp),gdp (by simp)];show((tG H (IntKind.u64.wrap p.site)).bind λ v1=>some (Sum.inl (v1,IntKind.i64.wrap (0+1))))=_;rw[(xM Y K).1];rfl
  have t2:∀H:List Int,room H (encI p.inc)->wU p (H,1)=some (.inl (H++encI p.inc,2)):=λ H K=>by unfold wU;rw[cA (by simp),gdp (by simp)];show((tG H (IntKind.u64.wrap p.inc)).bind λ v1=>some (Sum.inl (v1,IntKind.i64.wrap (1+1))))=_;rw[(xM B K).1];rfl
  have t3:∀H:List Int,room H (encI p.num)->wU p (H,2)=some (.inl (H++encI p.num,3)):=λ H K=>by unfold wU;rw[cA (by simp),gdp (by simp)];show((tG H (IntKind.u64.wrap p.num)).bind λ v1=>some (Sum.inl (v1,IntKind.i64.wrap (2+1))))=_;rw[(xM F K).1];rfl
  have t4:∀H:List Int,wU p (H,3)=some (.inr H):=λ H=>by unfold wU;rw[bZ (by simp)]
  have L:l.length<=4294967296:=by unfold room at O;omega
  rw[gdp L,bZ (by simp[h]),mF,Z l M];simp only;rw[mF,t2 _ V];simp only;rw[mF,t3 _ U];simp only;rw[mF,t4];simp only[cJ];rfl
 .unfold yO;rw[vN,bZ (by simp[h]),(xM Y M).2,eF,(xM B V).2,eF,(xM F U).2];simp only[cJ];rfl
def KR{l:List Int}{a:aC}(h:okA a)(H:room l (encA a)):yU l a=some (l++encA a):=by unfold yU;unfold encA at H⊢;rw[rS h.1 H.left,eF,rS h.2 H.right,cJ];rfl
def OB{l:List Int}{a:aC}(h:okA a)(H:room l (encA a)):qR l [a.mode,a.aT]=some (l++encA a):=by
 have:[a.mode,a.aT].flatMap encI=encA a:=by simp[encA]
 rw[KP _ l (λ x K=>by
  simp only[cK,eU,iJ]at K;rcases K with rfl|rfl
  .exact h.1
  .exact h.2) (by simp) (by rw[this];exact H),this]
def y5{l:List Int}{x:Int}(h:okI x)(H:room l (encI x)):qR l [x]=some (l++encI x):=by
 have:[x].flatMap encI=encI x:=by simp
 rw[KP _ l (λ y K=>by rw[dO.1 K];exact h) (by simp) (by rw[this];exact H),this]
def uW{α:Type}{body:List Int×Int->Option ((List Int×Int)⊕List Int)}{enc:α->List Int}{ok:α->Prop}(l:List α)(z:α)(L:l.length<=1000)
  (Y:∀(i:Nat) acc,i<l.length->ok (l.getD i z)->room acc (enc (l.getD i z))->body (acc,(i:Int))=some (.inl (acc++enc (l.getD i z),((i+1:Nat):Int))))
  (B:∀acc,body (acc,(l.length:Int))=some (.inr acc)) (O:∀x∈l,ok x) (acc:List Int) (F:room acc (l.flatMap enc)):lS body (acc,0)=some (acc++l.flatMap enc):=by
 have U:∀k i (acc:List Int),i+k=l.length->room acc ((l.drop i).flatMap enc)->lS body (acc,(i:Int))=some (acc++(l.drop i).flatMap enc):=by
  intro k;induction k with
  |zero=>
   intro i acc V _;have:i=l.length:=om
   subst this;rw[mF,iX,B];simp
  |succ k M=>
   intro i acc V H;have K:i<l.length:=om
   rw[s7 l i z K]at H⊢;rw[fN]at H⊢;rw[mF,Y i acc K (O _ (mN (z:=z) K)) H.left];simp only;rw[M (i+1) _ om H.right,cJ]
 exact U l.length 0 acc om F
def KS:∀(n:Nat) (e:aR),_root_.SizeOf.sizeOf e<n->okE e=true->mJ e<=24->∀l,room l (encE e)->CV n l e=some (l++encE e)/\C5 n l e=some (l++encE e)
 |0,_,h,_,_,_,_=>om
 |n+1,e,h,V,hn,l,K=>by
  show CU (CV n) l e=_/\C4 (C5 n) l e=_;unfold CU C4;have hl:=sU e.bG;have h0:=uT e;rw[Va]at K|-
  by_cases c:e.bG.length=0
  .obtain⟨Y,M,B⟩:=(Ky c).1 V;have U:okI e.k:=by rw[Y];unfold okI;omega
   rw[y5 U K.left,rS U K.left,eF,eF];have H:=K.right;rw[cA Y]at H⊢;have ht:=KQ (by have:=a8 M;omega) H.left;rw[cA (by simpa using Y),cA (by simpa using Y),ht.1,ht.2,eF,eF,OB (x8 B) H.right,KR (x8 B) H.right];simp only[cJ];exact⟨rfl,rfl⟩
  .obtain⟨⟨Y,M,B⟩,k3⟩:=(Kz c).1 V;have U:okI e.k:=by unfold okI;omega
   have F:¬e.k=0:=om
   rw[y5 U K.left,rS U K.left,eF,eF];have H:=K.right;rw[bZ F]at H⊢;have hc:okI (e.bG.length:Int):=by unfold okI;omega
   rw[bZ (by simpa using F),bZ (by simpa using F),y5 hc H.left,rS hc H.left,eF,eF];have hF:∀k∈e.bG,okE k=true/\mJ k<=24/\_root_.SizeOf.sizeOf k<n:=λ k U=>⟨KA k3 U,by have:=Kx U;omega,zX h U⟩;have w1:=uW (body:=FC (CV n) e) (enc:=encE) (ok:=λ k=>okE k=true/\mJ k<=24/\_root_.SizeOf.sizeOf k<n) e.bG aR.zero om (λ i O Z L ha=>by
    unfold FC;simp only;rw[cA (by simpa using Z),gdp om];simp only[Qm];rw[(KS n _ L.2.2 L.1 L.2.1 O ha).1,eF,lY i om]) (λ O=>by unfold FC;simp) hF _ H.right
   have w2:=uW (body:=FN (C5 n) e) (enc:=encE) (ok:=λ k=>okE k=true/\mJ k<=24/\_root_.SizeOf.sizeOf k<n) e.bG aR.zero om (λ i O Z L ha=>by
    unfold FN;simp only;rw[cA (by simpa using Z),gdp om];simp only[Qm];rw[(KS n _ L.2.2 L.1 L.2.1 O ha).2,eF,lY i om]) (λ O=>by unfold FN;simp) hF _ H.right
   rw[w1,w2];simp only[cJ];exact⟨rfl,rfl⟩
def cO2{q:aA}(h:OkQ q){l:List Int}(H:room l (encQ q)):AV l q=some (l++encQ q):=by
 have lh:=h.lh;have lc:=h.lc;have lw:=h.lw;have M:okI (q.aS.length:Int):=by unfold okI;omega
 have o2:okI (q.aN.length:Int):=by unfold okI;omega
 have o3:okI (q.aW.length:Int):=by unfold okI;omega
 unfold AV;unfold encQ at H⊢;rw[(KQ h.name H.left).1,eF]
 replace H:=H.right
 have B:[q.aB.kind,q.aB.aT,q.aB.home,q.gen,(q.aS.length:Int)].flatMap encI=encI q.aB.kind++(encI q.aB.aT++(encI q.aB.home++(encI q.gen++encI (q.aS.length:Int)))):=by simp
 have Y:room (l++encT q.aB.name) ([q.aB.kind,q.aB.aT,q.aB.home,q.gen,(q.aS.length:Int)].flatMap encI):=by rw[B];unfold room at H⊢;simp only[cC]at H⊢;omega
 rw[KP _ _ (λ x K=>by
  simp only[cK,eU,iJ]at K;rcases K with rfl|rfl|rfl|rfl|rfl
  .exact h.kind
  .exact h.aT
  .exact h.home
  .exact h.gen
  .exact M) (by simp) Y,eF,B]
 replace H:=H.right.right.right.right.right
 have U:l++encT q.aB.name++encI q.aB.kind++encI q.aB.aT++encI q.aB.home++encI q.gen++encI (q.aS.length:Int)=l++encT q.aB.name++(encI q.aB.kind++(encI q.aB.aT++(encI q.aB.home++(encI q.gen++encI (q.aS.length:Int))))):=by simp only[cJ]
 rw[U]at H;have w3:=uW (body:=FU q) (enc:=encH) (ok:=λ x=>mL x.aL=true/\okA x.aJ) q.aS aX.zero om (λ i O V K L=>by
  unfold encH at L⊢;unfold FU;simp only;rw[cA (by simpa using V),gdp om];simp only[Qm];rw[(y4 K.1 L.left).1,eF,OB K.2 L.right,eF,lY i om,cJ]) (λ O=>by unfold FU;simp) h.h _ H.left
 rw[w3,eF]
 replace H:=H.right
 unfold Je;rw[y5 o2 H.left,eF]
 replace H:=H.right
 have w2:=uW (body:=FT q) (enc:=encC) (ok:=λ x=>mL x.aL=true/\okA x.aJ/\x.bD=0/\x.bS=0) q.aN aV.zero om (λ i O V K L=>by
  unfold encC at L⊢;unfold FT;simp only;rw[cA (by simpa using V),gdp om];simp only[Qm];rw[(y4 K.1 L.left).1,eF,OB K.2.1 L.right,eF,lY i om,cJ]) (λ O=>by unfold FT;simp) h.c _ H.left
 rw[w2,eF]
 replace H:=H.right
 unfold Jd;rw[y5 o3 H.left,eF]
 replace H:=H.right
 have w1:=uW (body:=FS q) (enc:=encW) (ok:=λ x=>mL x.aL=true/\okA x.aJ/\okI x.bD/\okI x.bS) q.aW aV.zero om (λ i O V K L=>by
  have F:∀w:aV,[w.aJ.mode,w.aJ.aT,w.bD,w.bS].flatMap encI=encA w.aJ++(encI w.bD++encI w.bS):=λ w=>by simp[encA]
  unfold encW at L⊢;rw[cJ,cJ]at L⊢;unfold FS;simp only;rw[cA (by simpa using V),gdp om];simp only[Qm];rw[(y4 K.1 L.left).1,eF,KP _ _ (λ y Z=>by
   simp only[cK,eU,iJ]at Z;rcases Z with rfl|rfl|rfl|rfl
   .exact K.2.1.1
   .exact K.2.1.2
   .exact K.2.2.1
   .exact K.2.2.2) (by simp) (by rw[F];exact L.right),eF,lY i om,F]
  simp only[cJ]) (λ O=>by unfold FS;simp) h.w _ H
 rw[w1,eF];unfold Mx;simp only[cJ]
def cO3(s:aI):Bi s=some (if oD s=true then(encS s,0)else([],2)):=by
 unfold Bi;rw[N6,eF];cases hv:oD s with
 |false=>rfl
 |true=>
  have h:=(Ew hv).1;have F:=h.lq;have M:=h.ln;have Z:=Ex h;have H:room [] (encS s):=by unfold room;simp;omega
  simp only[cR,bY,cH,cG];unfold encS at H⊢;rw[y5 (by unfold okI;omega) H.left,eF]
  replace H:=H.right
  have Y:=uW (body:=Gf s) (enc:=encQ) (ok:=OkQ) s.aF aA.zero om (λ i O V K L=>by
   unfold Gf;simp only;rw[cA (by simpa using V),gdp om];simp only[Qm];rw[cO2 K L,eF,lY i om]) (λ O=>by unfold Gf;simp) h.q _ H.left
  rw[Y,eF]
  replace H:=H.right
  unfold JC;rw[y5 (by unfold okI;omega) H.left,eF]
  replace H:=H.right
  have B:=uW (body:=Ge s) (enc:=encN) (ok:=λ n=>mL n.aL=true/\okI n.gen/\okE n.bU=true/\fitE n.bU=true) s.aY bQ.zero om (λ i O V K L=>by
   have U:=K.2.2.2;unfold fitE at U;simp only[bX,cD]at U;unfold encN at L⊢;unfold Ge;simp only;rw[cA (by simpa using V),gdp om];simp only[Qm];rw[(y4 K.1 L.left).1,eF,y5 K.2.1 L.right.left,eF];unfold IQ;rw[(KS _ _ (eN _) K.2.2.1 U.2 _ L.right.right).1,eF,lY i om];simp only[cJ]) (λ O=>by unfold Ge;simp) h.n _ H
  rw[B,eF];unfold MX;simp only[cJ,jm]
def cO4(s:aI):Br s=some (if oD s=true then(encS s,0)else([],2)):=by
 unfold Br;rw[Ha,eF];cases hv:oD s with
 |false=>rfl
 |true=>
  have h:=(Ew hv).1;have M:=h.lq;have ln:=h.ln;have hlen:=Ex h;have O:room [] (encS s):=by unfold room;simp;omega
  simp only[cR,bY,cH,cG];unfold encS at O⊢;rw[rS (by unfold okI;omega) O.left,eF]
  replace O:=O.right
  have B:=uW (body:=DS s) (enc:=encQ) (ok:=OkQ) s.aF aA.zero om (λ i acc Z L K=>by
   unfold DS;simp only;rw[cA (by simpa using Z),gdp om];simp only[Qm];have lh:=L.lh;have lc:=L.lc;have lw:=L.lw;unfold encQ at K⊢;rw[(KQ L.name K.left).2,eF]
   replace K:=K.right
   rw[rS L.kind K.left,eF]
   replace K:=K.right
   rw[rS L.aT K.left,eF]
   replace K:=K.right
   rw[rS L.home K.left,eF]
   replace K:=K.right
   rw[rS L.gen K.left,eF]
   replace K:=K.right
   rw[rS (by unfold okI;omega) K.left,eF]
   replace K:=K.right
   have v5:=uW (acc:=acc++encT (s.aF.getD i aA.zero).aB.name++encI (s.aF.getD i aA.zero).aB.kind++encI (s.aF.getD i aA.zero).aB.aT++encI (s.aF.getD i aA.zero).aB.home++encI (s.aF.getD i aA.zero).gen++encI ((s.aF.getD i aA.zero).aS.length:Int)) (body:=GA s (acc,(i:Int))) (enc:=encH) (ok:=λ x=>mL x.aL=true/\okA x.aJ) (s.aF.getD i aA.zero).aS aX.zero om (λ j H U V hb=>by
    unfold encH at hb⊢;unfold GA;simp only[Qm];rw[cA (by simpa using U),gdp om,(y4 V.1 hb.left).2,eF,gdp om,KR V.2 hb.right,eF,lY j om,cJ]) (λ H=>by unfold GA;simp) L.h K.left
   rw[v5,eF]
   replace K:=K.right
   unfold JO;simp only[Qm];rw[rS (by unfold okI;omega) K.left,eF]
   replace K:=K.right
   have v4:=uW (body:=Gz s (acc,(i:Int))) (enc:=encC) (ok:=λ x=>mL x.aL=true/\okA x.aJ/\x.bD=0/\x.bS=0) (s.aF.getD i aA.zero).aN aV.zero om (λ j H U V hb=>by
    unfold encC at hb⊢;unfold Gz;simp only[Qm];rw[cA (by simpa using U),gdp om,(y4 V.1 hb.left).2,eF,gdp om,KR V.2.1 hb.right,eF,lY j om,cJ]) (λ H=>by unfold Gz;simp) L.c _ K.left
   rw[v4,eF]
   replace K:=K.right
   unfold JN;simp only[Qm];rw[rS (by unfold okI;omega) K.left,eF]
   replace K:=K.right
   have v3:=uW (body:=Gy s (acc,(i:Int))) (enc:=encW) (ok:=λ x=>mL x.aL=true/\okA x.aJ/\okI x.bD/\okI x.bS) (s.aF.getD i aA.zero).aW aV.zero om (λ j H U V hb=>by
    unfold encW at hb⊢;rw[cJ,cJ]at hb⊢;unfold Gy;simp only[Qm];rw[cA (by simpa using U),gdp om,(y4 V.1 hb.left).2,eF,KR V.2.1 hb.right.left,eF,rS V.2.2.1 hb.right.right.left,eF,rS V.2.2.2 hb.right.right.right,eF,lY j om];simp only[cJ]) (λ H=>by unfold Gy;simp) L.w _ K
   rw[v3,eF];unfold M2;simp only[lY i (show i<4611686018427387904 by omega),cJ]) (λ acc=>by unfold DS;simp) h.q _ O.left
  rw[B,eF]
  replace O:=O.right
  unfold JM;rw[rS (by unfold okI;omega) O.left,eF]
  replace O:=O.right
  have F:=uW (body:=Gx s) (enc:=encN) (ok:=λ n=>mL n.aL=true/\okI n.gen/\okE n.bU=true/\fitE n.bU=true) s.aY bQ.zero om (λ i acc Z L K=>by
   have Y:=L.2.2.2;unfold fitE at Y;simp only[bX,cD]at Y;unfold encN at K⊢;unfold Gx;simp only;rw[cA (by simpa using Z),gdp om];simp only[Qm];rw[(y4 L.1 K.left).2,eF,gdp om,rS L.2.1 K.right.left,eF,gdp om];unfold I8;rw[(KS _ _ (eN _) L.2.2.1 Y.2 _ K.right.right).2,eF,lY i om];simp only[cJ]) (λ acc=>by unfold Gx;simp) h.n _ O
  rw[F,eF];unfold M1;simp only[cJ,jm]
end Ab
end Go.Proofs.YtfmnjkfhahfhgaaGreatDoor
