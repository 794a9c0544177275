import Derived.Test.YtdlfhmkmnjbihaaGreatDoorQueF
namespace Go.Proofs.YtdlfhmkmnjbihaaGreatDoor
namespace Ab
set_option linter.unusedVariables false
set_option linter.unusedSimpArgs false
def optI(o:Option Nat):Int:=match o with
 |some i=>(i:Int)
 |none=>-1
theorem zcO8(l:List aM)(p:aF):zM0 l p=optI (zae0 p l 0):=rfl
theorem zde0(o:Option Nat):optI (o.map (·+1))=if 0<=optI o then optI o+1 else-1:=by
 cases o with
 |none=>rfl
 |some n=>have h:(0:Int)<=optI (some n):=Int.natCast_nonneg n;rw[bM h];exact Int.natCast_succ n
theorem zbn0{l:List aM}:(∀i,i<l.length->zM0 l (l.getD i aM.zero).aI=i)↔(l.map (·.aI)).Nodup:=by
 induction l with
 |nil=>simp
 |cons w l ih=>
  rw[cN,gH];have shift:∀p i,zae0 p l (i+1)=(zae0 p l i).map (·+1):=by
   intro p
   clear ih
   induction l with
   |nil=>intro i;rfl
   |cons x l ih=>intro i;simp only[zae0];split<;>simp[ih]
  have hcons:∀i,zM0 (w::l) (l.getD i aM.zero).aI=if w.aI=(l.getD i aM.zero).aI then 0 else if 0<=zM0 l (l.getD i aM.zero).aI then zM0 l (l.getD i aM.zero).aI+1 else-1:=λ i=>by
   simp only[zcO8,zae0,shift]
   by_cases h:w.aI=(l.getD i aM.zero).aI
   .simp[h,optI]
   .simp only[h,bU];exact zde0 _
  constructor
  .intro h;have h1:∀i,i<l.length->w.aI≠(l.getD i aM.zero).aI/\zM0 l (l.getD i aM.zero).aI=i:=λ i hi=>by
    have:=h (i+1) (by simpa using hi);rw[gQ,hcons]at this;split at this
    .omega
    .rename_i hne;split at this
     .exact⟨hne,by omega⟩
     .omega
   refine⟨λ hm=>?_,ih.1 λ i hi=>(h1 i hi).2⟩;obtain⟨x,hx,he⟩:=bW.1 hm;obtain⟨i,hi,rfl⟩:=gN.1 hx;have:=(h1 i hi).1;rw[bO,bR hi]at this;exact this he.symm
  .rintro⟨h1,h2⟩ i hi;have h3:=ih.2 h2;cases i with
   |zero=>simp[zM0,zae0]
   |succ i=>
    have hi':i<l.length:=by simpa using hi
    have hne:w.aI≠(l.getD i aM.zero).aI:=λ e=>h1 (bW.2 ⟨l.getD i aM.zero,by
     rw[bO,bR hi'];exact gT hi',e.symm⟩)
    rw[gQ,hcons,bL hne,h3 i hi',bM (by omega)];omega
theorem zaF5(l:List aM):zR6 l=true↔l.length<=8/\(∀w∈l,zg1 w=true)/\(l.map (·.aI)).Nodup:=by
 unfold zR6;simp only[bK,bQ,dB,dN];constructor
 .rintro⟨h1,h2⟩;refine⟨h1,λ w hw=>?_,zbn0.1 λ i hi=>(h2 i hi).2⟩;obtain⟨i,hi,rfl⟩:=gN.1 hw;have:=(h2 i hi).1;rwa [bO,bR hi]at this
 .rintro⟨h1,h2,h3⟩;refine⟨h1,λ i hi=>⟨h2 _ ?_,zbn0.2 h3 i hi⟩⟩;rw[bO,bR hi];exact gT hi
theorem zcc9{l:List aM}(p:aF)(h:zR6 l=true):zR6 (rmL l p)=true:=by rw[zaF5]at h⊢;refine⟨eV (zdo7 l p) h.1,λ w hw=>h.2.1 w ((cV.1 hw).1),?_⟩;exact(h.2.2).sublist ((eQ).map _)
theorem zbC4(l:List aM)(w:aM):∀k i,zC3 l w k<=i->i<k->over w (l.getD i aM.zero)=true
 |k+1,i,h1,h2=>by
  unfold zC3 at h1;split at h1
  .rename_i ho
   by_cases hi:i=k
   .subst hi;exact ho
   .exact zbC4 l w k i h1 (by omega)
  .omega
theorem zcO9{l:List aM}{w e:aM}(h:e∈l.drop (zC3 l w l.length)):over w e=true:=by obtain⟨i,hi,rfl⟩:=gN.1 h;have:=zbC4 l w l.length (zC3 l w l.length+i) (by omega) (by simp at hi;omega);rw[List.getElem_drop];rwa [bO,bR (by simp at hi;omega)]at this
theorem zbQ2{w e:aM}(h:zg1 e=true)(ho:over w e=true):zg1 (bump e)=true/\(bump e).bE=e.bE+1:=by
 have h1:=zbw5 h;have h2:e.bE<3:=by unfold over at ho;simp at ho;exact ho.2
 have h3:(bump e).bE=e.bE+1:=by unfold bump;simp only;rw[zj5 (by omega) (by omega)]
 refine⟨?_,h3⟩;unfold zg1 at h⊢;simp only[bK,bQ]at h⊢;rw[h3];exact⟨⟨h.1.1,by omega⟩,by omega⟩
theorem zcj1(l:List aM)(w:aM)(n:Nat):(zaA3 l w n).map (·.aI)=(l.take n).map (·.aI)++w.aI::(l.drop n).map (·.aI):=by unfold zaA3;rw[dX,cN,jF];rfl
theorem zcB8{l:List aM}{w:aM}(h:zR6 l=true)(hw:zg1 w=true)(hne:∀e∈l,e.aI≠w.aI)(hl:l.length<8):zR6 (zaA3 l w (zC3 l w l.length))=true:=by
 rw[zaF5]at h⊢;have hn:=zaO6 l w l.length;have ho:=λ e=>zcO9 (l:=l) (w:=w) (e:=e);generalize zC3 l w l.length=n at hn ho;refine⟨by simp[zaA3];omega,λ e he=>?_,?_⟩
 .simp only[zaA3,cF,bY,bW]at he;rcases he with he|rfl|⟨x,hx,rfl⟩
  .exact h.2.1 e (iY he)
  .exact hw
  .exact(zbQ2 (h.2.1 x (iZ hx)) (ho x hx)).1
 .rw[zcj1];have h3:=h.2.2;rw[<-dV n l,dX]at h3;have hin:w.aI∉(l.take n).map (·.aI)++(l.drop n).map (·.aI):=by
   rw[<-dX,dV];intro hm;obtain⟨x,hx,he⟩:=bW.1 hm;exact hne x hx he
  exact(List.perm_middle.nodup_iff).2 (gH.2 ⟨hin,h3⟩)
theorem zbQ3{p:aF}{l:List aO}{h:aO}:h∈zs3 p l↔h∈l/\h.aI≠p:=by unfold zs3;simp
theorem zde1{l m:List aC}(h:l.Sublist m)(hn:∀a∈m,0<=a.aU):sumU l<=sumU m:=by
 induction h with
 |slnil=>exact kE _
 |cons a h ih=>have:=ih λ b hb=>hn b (.tail _ hb);have:=hn a (.head _);simp only[sumU];omega
 |cons_cons a h ih=>have:=ih λ b hb=>hn b (.tail _ hb);simp only[sumU];omega
theorem CompP.sub{r:aD}{l m:List aC}(h:CompP r m)(hs:l.Sublist m):CompP r l where
 perm:=λ a ha=>h.perm a (hs.subset ha)
 sum:=Int.le_trans (zde1 hs λ a ha=>(zX6 (h.perm a ha)).1) h.sum
 pair:=h.pair.sublist hs
theorem GoodP.sub{r:aD}{l m:List aO}(h:GoodP r m)(hs:l.Sublist m):GoodP r l:=⟨λ x hx=>h.each x (hs.subset hx),h.asc.sublist hs⟩
theorem zV4(r:aD)(l:List aO):zE5 r l=true↔zd3 r=true/\l.length<=8/\GoodP r l/\CompP r (l.map (·.aK)):=by unfold zE5;simp
theorem zbn1{r:aD}{l m:List aO}(h:zE5 r m=true)(hs:l.Sublist m):zE5 r l=true:=by rw[zV4]at h⊢;exact⟨h.1,eV hs.length_le h.2.1,h.2.2.1.sub hs,h.2.2.2.sub (hs.map _)⟩
theorem zbn2(p:aF)(l:List aO):(zs3 p l).Sublist l:=eQ
theorem zcB9{r:aD}(hr:zd3 r=true):zE5 r []=true:=by
 rw[zV4];have:1<=r.aU:=by rw[zG2]at hr;omega
 exact⟨hr,by simp,⟨by simp,.nil⟩,⟨by simp,by simp[sumU];omega,.nil⟩⟩
theorem zbw9(p:aF)(a:aC)(l:List aO):(insP p a l).Perm (⟨p,a⟩::l):=by
 induction l with
 |nil=>exact iL _
 |cons h t ih=>
  simp only[insP];split
  .exact iL _
  .exact(List.Perm.cons h ih).trans (List.Perm.swap _ _ _)
theorem zcr2{p:aF}{a:aC}:∀{l:List aO},l.Pairwise (λ a b=>ltP a.aI b.aI)->(∀h∈l,h.aI≠p)->(insP p a l).Pairwise λ a b=>ltP a.aI b.aI
 |[],_,_=>by simp[insP]
 |h::t,hp,hn=>by
  rw[cG]at hp;simp only[insP];split
  .rename_i hlt;rw[cG];refine⟨λ x hx=>?_,cG.2 hp⟩;rcases bY.1 hx with rfl|hx
   .exact hlt
   .exact zat5 hlt (hp.1 x hx)
  .rename_i hlt;rw[cG];refine⟨λ x hx=>?_,zcr2 hp.2 λ x hx=>hn x (.tail _ hx)⟩;rcases bY.1 ((zbw9 p a t).mem_iff.1 hx)with rfl|hx
   .rcases zaa0 (hn h (.head _))with h1|h1
    .exact h1
    .exact absurd h1 hlt
   .exact hp.1 x hx
theorem zbx0{l m:List aC}(h:l.Perm m):sumU l=sumU m:=by
 induction h with
 |nil=>rfl
 |cons a _ ih=>simp only[sumU,ih]
 |swap a b l=>simp only[sumU];omega
 |trans _ _ ih1 ih2=>exact ih1.trans ih2
theorem zaS3{a b:aC}(h:¬zaj5 a b):¬zaj5 b a:=λ⟨h1,h2,h3⟩=>h ⟨h2,h1,by rw[zbH5];exact h3⟩
theorem CompP.perm_iff{r:aD}{l m:List aC}(h:l.Perm m):CompP r l↔CompP r m:=by
 constructor
 .intro k;exact⟨λ a ha=>k.perm a (h.mem_iff.2 ha),by rw[<-zbx0 h];exact k.sum,(h.pairwise_iff (λ h=>zaS3 h)).1 k.pair⟩
 .intro k;exact⟨λ a ha=>k.perm a (h.mem_iff.1 ha),by rw[zbx0 h];exact k.sum,(h.pairwise_iff (λ h=>zaS3 h)).2 k.pair⟩
theorem zcr3{r:aD}{l:List aO}{p:aF}{a:aC}(hv:zE5 r l=true)(hp:zb6 p=true)(ha:zb0 r a=true)(hlen:(zs3 p l).length+1<=8):
  zay4 r l p a=true↔(∀h∈zs3 p l,¬zaj5 h.aK a)/\a.aU+sumU ((zs3 p l).map (·.aK))<=r.aU:=by
 have hv':=(zV4 r l).1 hv;have hz:=zR3 ha;have ho:=zbn1 hv (zbn2 p l);have ho':=(zV4 r _).1 ho;have hpr:zab9 r l p a=true:=by unfold zab9;simp[hv,hp,ha]
 have hpm:((insP p a (zs3 p l)).map (·.aK)).Perm (a::(zs3 p l).map (·.aK)):=(zbw9 p a (zs3 p l)).map _;unfold zay4;rw[hpr,cA,zV4];unfold setL;rw[bL hz,CompP.perm_iff hpm];constructor
 .rintro⟨_,_,_,h4⟩;refine⟨λ h hh=>?_,h4.sum⟩;have:=(cG.1 h4.pair).1 h.aK (bW.2 ⟨h,hh,rfl⟩);exact zaS3 this
 .rintro⟨h1,h2⟩;refine⟨hv'.1,by rw[zbr0];exact hlen,⟨λ x hx=>?_,zcr2 ho'.2.2.1.asc λ h hh=>(zbQ3.1 hh).2⟩,⟨λ b hb=>?_,h2,?_⟩⟩
  .rcases bY.1 ((zbw9 p a _).mem_iff.1 hx)with rfl|hx
   .exact⟨hp,ha⟩
   .exact ho'.2.2.1.each x hx
  .rcases bY.1 hb with rfl|hb
   .exact zG8 ha
   .exact ho'.2.2.2.perm b hb
  .rw[cG];refine⟨λ b hb=>?_,ho'.2.2.2.pair⟩;obtain⟨h,hh,rfl⟩:=bW.1 hb;exact zaS3 (h1 h hh)
theorem zbn3{α S X:Type}(f:S->α->S)(fin:S->X):∀(l:List α) (i:Nat) (s:S),walk (λ _ a s=>some (.inl (f s a))) fin l i s=some (fin (l.foldl f s))
 |[],_,_=>rfl
 |a::l,i,s=>by simp only[walk,List.foldl_cons];exact zbn3 f fin l (i+1) _
theorem zde2(l:List aO)(hl:l.length<=1000000):zh3 l=some (l.map (·.aI)):=by
 unfold zh3;have key:=zv6 (body:=zP4 l) l aO.zero (λ i (s:List aF)=>((i:Int),s)) (λ i h s=>some (.inl (zaO2 s (some h.aI)))) (λ s=>s) (λ i s=>s.length<=i)
  (λ i s hi hs=>by
   refine⟨?_,λ s' h=>?_⟩
   .unfold zP4;have h1:s.length+1<=4294967296:=by omega
    have h3:0<=(i:Int)/\(i:Int)<(l.length:Int):=by omega
    simp only[h1,h3.1,h3.2,cP,zk1,bV,bS,Int.toNat_natCast,zd0 i (by omega),Option.map_some,wmap,zaO2]
   .simp only[cJ,dQ]at h;subst h;simp[zaO2];omega)
  (λ s hs=>by unfold zP4;simp) [] (by simp)
 rw[show((0,[]):Int×List aF)=(λ(i:Nat) (s:List aF)=>((i:Int),s)) 0 []from rfl,key,zaO3 (λ h:aO=>some h.aI)];simp[zam1]
theorem zcI1{α:Type}{P:α->Prop}{l:List α}{z:α}:(∀i,i<l.length->P (l.getD i z))↔∀w∈l,P w:=by
 constructor
 .intro h w hw;obtain⟨i,hi,rfl⟩:=gN.1 hw;have:=h i hi;rwa [bO,bR hi]at this
 .intro h i hi;refine h _ ?_;rw[bO,bR hi];exact gT hi
theorem zdF0(p:aF):getH [] p=aC.zero:=rfl
theorem zS5(h:aO)(t:List aO)(p:aF):getH (h::t) p=if h.aI=p then h.aK else getH t p:=by
 unfold getH;rw[List.find?_cons]
 by_cases e:h.aI=p<;>simp[e]
theorem zaP0(p:aF)(l:List aO):getH (zs3 p l) p=aC.zero:=by
 induction l with
 |nil=>rfl
 |cons h t ih=>
  rw[zay3]
  by_cases e:h.aI=p
  .simp only[e,bS];exact ih
  .simp only[e,bU,zS5];exact ih
theorem zW9{p q:aF}(hq:q≠p)(l:List aO):getH (zs3 p l) q=getH l q:=by
 induction l with
 |nil=>rfl
 |cons h t ih=>
  rw[zay3]
  by_cases e:h.aI=p
  .simp only[e,bS,zS5];rw[bL (λ e2=>hq e2.symm)];exact ih
  .simp only[e,bU,zS5];split
   .rfl
   .exact ih
theorem zba6(p:aF)(a:aC):∀l:List aO,(∀h∈l,h.aI≠p)->getH (insP p a l) p=a
 |[],_=>by simp[insP,zS5]
 |h::t,hh=>by
  simp only[insP];split
  .simp[zS5]
  .simp only[zS5,hh h (.head _),bU];exact zba6 p a t λ x hx=>hh x (.tail _ hx)
theorem zbr6{p q:aF}(a:aC)(hq:q≠p):∀l:List aO,getH (insP p a l) q=getH l q
 |[]=>by simp only[insP,zS5];rw[bL (λ e:p=q=>hq e.symm)]
 |h::t=>by
  simp only[insP];split
  .simp only[zS5];rw[bL (λ e:p=q=>hq e.symm)]
  .simp only[zS5];split
   .rfl
   .exact zbr6 a hq t
theorem zaq2(l:List aO)(p:aF)(a:aC):getH (setL l p a) p=a:=by
 unfold setL;split
 .rename_i h;rw[zaP0,h]
 .exact zba6 p a _ λ h hh=>(zbQ3.1 hh).2
theorem zD0{p q:aF}(hq:q≠p)(l:List aO)(a:aC):getH (setL l p a) q=getH l q:=by
 unfold setL;split
 .exact zW9 hq l
 .rw[zbr6 a hq];exact zW9 hq l
theorem zaP1{l:List aO}{p:aF}(h:getH l p≠aC.zero):(⟨p,getH l p⟩:aO)∈l:=by
 induction l with
 |nil=>exact absurd rfl h
 |cons x t ih=>
  rw[zS5]at h|-
  by_cases e:x.aI=p
  .rw[bM e];subst e;exact .head _
  .rw[bL e]at h⊢;exact .tail _ (ih h)
theorem zbC5{l:List aO}{p:aF}(h:∀x∈l,x.aI≠p):zs3 p l=l:=iB.2 λ x hx=>by simpa using h x hx
def Asc(l:List aO):Prop:=l.Pairwise λ a b=>ltP a.aI b.aI
theorem zbx1{r:aD}{l:List aO}(h:zE5 r l=true):Asc l:=((zV4 r l).1 h).2.2.1.asc
theorem zde3{h:aO}{t:List aO}(k:Asc (h::t)):∀x∈t,x.aI≠h.aI:=λ x hx e=>by have:=(cG.1 k).1 x hx;rw[e]at this;exact zQ1 _ this
theorem zcr4{l:List aO}(h:Asc l){p:aF}(hp:getH l p≠aC.zero):l.Perm (⟨p,getH l p⟩::zs3 p l):=by
 induction l with
 |nil=>exact absurd rfl hp
 |cons x t ih=>
  rw[zS5]at hp⊢;rw[zay3]
  by_cases e:x.aI=p
  .rw[bM e,bM e,zbC5 (by rw[<-e];exact zde3 h)];subst e;exact iL _
  .rw[bL e]at hp;rw[bL e,bL e];exact((ih (cG.1 h).2 hp).cons x).trans (List.Perm.swap _ _ _)
theorem zcd0{l:List aO}(h:Asc l){p:aF}(hp:getH l p≠aC.zero):(zs3 p l).length+1=l.length:=by
 have:=(zcr4 h hp).length_eq
 simpa using this.symm
theorem zcr5{l:List aO}(ha:Asc l){x:aO}(hx:x∈l):getH l x.aI=x.aK:=by
 induction l with
 |nil=>cases hx
 |cons y t ih=>
  rw[zS5];rcases bY.1 hx with rfl|hx
  .rw[bM rfl]
  .rw[bL (λ e:y.aI=x.aI=>zde3 ha x hx e.symm)];exact ih (cG.1 ha).2 hx
theorem zaP2{r:aD}{l:List aO}(h:zE5 r l=true)(p:aF):zb2 r (getH l p)=true:=by
 have hv:=(zV4 r l).1 h
 by_cases e:getH l p=aC.zero
 .rw[e,perm_iff];exact .inl ⟨hv.1,rfl⟩
 .exact zG8 (hv.2.2.1.each _ (zaP1 e)).2
theorem zX0(a:aC):zf8 a=true↔a=aC.zero:=by unfold zf8;simp
theorem zae4(a:aC):zf8 a=false↔a≠aC.zero:=by rw[<-fR,zX0]
structure SoundP (q:aA):Prop where
 res:resV q.aB=true
 hv:zE5 q.aB q.aL=true
 cl:q.aH.length<=8
 cn:(q.aH.map (·.aI)).Nodup
 cg:∀w∈q.aH,getH q.aL w.aI≠aC.zero/\zb0 q.aB w.aK=true/\covA q.aB w.aK (getH q.aL w.aI)=true/\w.aK≠getH q.aL w.aI/\w.aV=0/\w.bE=0
 wv:zR6 q.aT=true
 wl:q.aL.length+q.aT.length<=8
 wg:∀w∈q.aT,zb0 q.aB w.aK=true/\getH q.aL w.aI=aC.zero
 gen:0<=q.gen/\q.gen<=1073741824
theorem zbn4(q:aA):zaK3 q=true↔SoundP q:=by
 have hc:cvOk q=true↔q.aH.length<=8/\(q.aH.map (·.aI)).Nodup/\∀w∈q.aH,getH q.aL w.aI≠aC.zero/\zb0 q.aB w.aK=true/\covA q.aB w.aK (getH q.aL w.aI)=true/\w.aK≠getH q.aL w.aI/\w.aV=0/\w.bE=0:=by
  unfold cvOk;rw[<-zbn0,<-zcI1 (z:=aM.zero)];simp only[bK,bQ,dB,dN,cvI,cK,zae4,cS];constructor
  .rintro⟨h1,h2⟩;exact⟨h1,λ i hi=>(h2 i hi).1,λ i hi=>(h2 i hi).2⟩
  .rintro⟨h1,h2,h3⟩;exact⟨h1,λ i hi=>⟨h2 i hi,h3 i hi⟩⟩
 have hw:wtOk q=true↔zR6 q.aT=true/\q.aL.length+q.aT.length<=8/\∀w∈q.aT,zb0 q.aB w.aK=true/\getH q.aL w.aI=aC.zero:=by unfold wtOk;rw[<-zcI1 (z:=aM.zero)];simp only[bK,bQ,dB,dN,wtI,zX0]
 unfold zaK3;simp only[bK,hc,hw,bQ];constructor
 .rintro⟨h1,h2,⟨h3,h4,h5⟩,⟨h6,h7,h8⟩,h9⟩;exact⟨h1,h2,h3,h4,h5,h6,h7,h8,h9⟩
 .rintro⟨h1,h2,h3,h4,h5,h6,h7,h8,h9⟩;exact⟨h1,h2,⟨h3,h4,h5⟩,⟨h6,h7,h8⟩,h9⟩
theorem SoundP.apart{q:aA}(h:SoundP q){c w:aM}(hc:c∈q.aH)(hw:w∈q.aT):c.aI≠w.aI:=λ e=>
 (h.cg c hc).1 (by rw[e];exact(h.wg w hw).2)
theorem SoundP.nodup{q:aA}(h:SoundP q):((q.aH++q.aT).map (·.aI)).Nodup:=by rw[dX,gL];refine⟨h.cn,((zaF5 _).1 h.wv).2.2,λ a ha b hb=>?_⟩;obtain⟨c,hc,rfl⟩:=bW.1 ha;obtain⟨w,hw,rfl⟩:=bW.1 hb;exact h.apart hc hw
inductive Pop (q:aA):Prop where
 |con (w:aM) (cs:List aM) (h:q.aH=w::cs) (hd:(zB2 q).1=w) (hr:zay4 q.aB q.aL w.aI w.aK=true) (hp:popQ q={q with aL:=setL q.aL w.aI w.aK,aH:=cs})
 |wait (w:aM) (ws:List aM) (hc:q.aH=[]) (h:q.aT=w::ws) (hd:(zB2 q).1=w) (hr:zay4 q.aB q.aL w.aI w.aK=true) (hp:popQ q={q with aL:=setL q.aL w.aI w.aK,aT:=ws})
theorem zcC0{q:aA}(h:canQ q=true):Pop q:=by
 unfold canQ at h;rw[bK]at h;obtain⟨h1,h2⟩:=h;cases hc:q.aH with
 |cons w cs=>
  have hd:(zB2 q).1=w:=by unfold zB2;rw[hc];rfl
  exact .con w cs hc hd (by rw[<-hd];exact h2) (by unfold popQ;rw[hd];simp[hc])
 |nil=>
  cases hw:q.aT with
  |cons w ws=>
   have hd:(zB2 q).1=w:=by unfold zB2;rw[hc,hw];rfl
   exact .wait w ws hc hw hd (by rw[<-hd];exact h2) (by unfold popQ;rw[hd];simp[hc,hw])
  |nil=>unfold zB2 at h1;rw[hc,hw]at h1;exact absurd h1 (by decide)
theorem zau0{r:aD}{l:List aO}{p:aF}{a:aC}(h:zay4 r l p a=true):zE5 r l=true/\zb6 p=true/\zb0 r a=true/\zE5 r (setL l p a)=true:=by unfold zay4 zab9 at h;simp only[bK]at h;exact⟨h.1.1,h.1.2.1,h.1.2.2,h.2⟩
theorem zcd1{r:aD}{l:List aO}{p:aF}(a:aC)(h:zE5 r l=true)(hp:getH l p≠aC.zero):(setL l p a).length<=l.length:=by
 have:=zcd0 (zbx1 h) hp;unfold setL;split
 .omega
 .rw[zbr0];omega
theorem zcr6{w:aM}{l:List aM}(h:zR6 (w::l)=true):zR6 l=true:=by rw[zaF5]at h⊢;obtain⟨h1,h2,h3⟩:=h;rw[cN,gH]at h3;exact⟨by simp at h1;omega,λ x hx=>h2 x (.tail _ hx),h3.2⟩
theorem SoundP.pop{q:aA}(h:SoundP q)(hc:canQ q=true):SoundP (popQ q):=by
 cases zcC0 hc with
 |con w cs he hd hr hp=>
  rw[hp];obtain⟨_,_,_,hv⟩:=zau0 hr;have hn:w.aI∉cs.map (·.aI)/\(cs.map (·.aI)).Nodup:=by have:=h.cn;rw[he,cN,gH]at this;exact this
  have hw:=h.cg w (by rw[he];exact .head _);have hl:=zcd1 w.aK h.hv hw.1;have h8:=h.cl;rw[he,List.length_cons]at h8;refine⟨h.res,hv,by simp only;omega,hn.2,λ c hcc=>?_,h.wv,?_,λ x hx=>?_,h.gen⟩
  .have hne:c.aI≠w.aI:=λ e=>hn.1 (bW.2 ⟨c,hcc,e⟩);simp only[zD0 hne];exact h.cg c (by rw[he];exact .tail _ hcc)
  .have:=h.wl;simp only;omega
  .have hne:x.aI≠w.aI:=λ e=>h.apart (c:=w) (by rw[he];exact .head _) hx e.symm;simp only[zD0 hne];exact h.wg x hx
 |wait w ws hcn he hd hr hp=>
  rw[hp];obtain⟨_,_,_,hv⟩:=zau0 hr;have hl:=zdd8 q.aL w.aI w.aK;have h8:=h.wl;have hwv:=h.wv;rw[he]at h8 hwv;have hn:w.aI∉ws.map (·.aI):=by have:=((zaF5 _).1 hwv).2.2;rw[cN,gH]at this;exact this.1
  rw[List.length_cons]at h8;refine⟨h.res,hv,h.cl,h.cn,λ c hcc=>?_,zcr6 hwv,by simp only;omega,λ x hx=>?_,h.gen⟩
  .rw[hcn]at hcc;cases hcc
  .have hne:x.aI≠w.aI:=λ e=>hn (bW.2 ⟨x,hx,e⟩);simp only[zD0 hne];exact h.wg x (by rw[he];exact .tail _ hx)
theorem zba7:∀(n:Nat) (q:aA) (l:List aO),advN n (q,l)=((advN n (q,[])).1,l++(advN n (q,[])).2)
 |0,q,l=>by simp[advN]
 |n+1,q,l=>by
  simp only[advN];split
  .unfold zaO8;simp only[List.nil_append];rw[zba7 n (popQ q) (l++_),zba7 n (popQ q) [_],dE]
  .simp
def advS(q:aA):aA:=(advQ q).1
def advG(q:aA):List aO:=(advQ q).2
theorem zbe8(q:aA):advQ q=if canQ q=true then((advQ (popQ q)).1,⟨(zB2 q).1.aI,(zB2 q).1.aK⟩::(advQ (popQ q)).2)else(q,[]):=by
 unfold advQ;rw[zaO9 (q,[])];show(if canQ q=true then advN (zL5 (popQ q)) (popQ q,[]++[_])else(q,[]))=_;split
 .rw[zba7];rfl
 .rfl
theorem zaF6{q:aA}(h:canQ q=true):advS q=advS (popQ q):=by unfold advS;rw[zbe8 q,bM h]
theorem zbr7{q:aA}(h:canQ q=true):advG q=⟨(zB2 q).1.aI,(zB2 q).1.aK⟩::advG (popQ q):=by unfold advG;rw[zbe8 q,bM h]
theorem zba8{q:aA}(h:canQ q=false):advS q=q:=by unfold advS;rw[zbe8 q,h];rfl
theorem zbr8{q:aA}(h:canQ q=false):advG q=[]:=by unfold advG;rw[zbe8 q,h];rfl
theorem zbr9{P:aA->Prop}(h:∀q,canQ q=true->P q->P (popQ q)):∀q,P q->P (advS q):=by
 have key:∀n q,zL5 q=n->P q->P (advS q):=by
  intro n;induction n using Nat.strongRecOn with
  |_ n ih=>
   intro q hn hq;cases hc:canQ q with
   |false=>rw[zba8 hc];exact hq
   |true=>rw[zaF6 hc];have:=(zah7 hc).2.1;exact ih (zL5 (popQ q)) (by omega) _ rfl (h q hc hq)
 exactλ q hq=>key _ q rfl hq
theorem zbs0{P:aA->Prop}(h0:∀q,canQ q=false->P q)(h:∀q,canQ q=true->P (popQ q)->P q):∀q,P q:=by
 have key:∀n q,zL5 q=n->P q:=by
  intro n;induction n using Nat.strongRecOn with
  |_ n ih=>
   intro q hn;cases hc:canQ q with
   |false=>exact h0 q hc
   |true=>have:=(zah7 hc).2.1;exact h q hc (ih (zL5 (popQ q)) (by omega) _ rfl)
 exactλ q=>key _ q rfl
theorem zde4:∀q,canQ (advS q)=false:=by refine zbs0 (λ q h=>by rw[zba8 h];exact h) λ q h ih=>by rw[zaF6 h];exact ih
theorem SoundP.adv{q:aA}(h:SoundP q):SoundP (advS q):=zbr9 (P:=SoundP) (λ _ hc h=>h.pop hc) q h
theorem zp4(q:aA):ze7 q=true↔SoundP q/\canQ q=false:=by unfold ze7;rw[bK,zbn4];show SoundP q/\(!canQ q)=true↔_;rw[cK]
theorem zde5:∀q,(advG q).length+zL5 (advS q)=zL5 q:=by
 refine zbs0 (λ q h=>by rw[zba8 h,zbr8 h];simp) λ q h ih=>by rw[zaF6 h,zbr7 h,List.length_cons];have:=(zah7 h).2.1;omega
theorem zdo9(r:aD)(a b:aC):covA r a b=(!(!zb2 r a||!zb2 r b)&&(zf8 b||(!zf8 a&&(if r.kind=1 then covM a.mode b.mode else decide (b.aU<=a.aU))))):=by
 have e1:=zbe6 r a;have e2:=zbe6 r b;have e3:=zaB4 a;have e4:=zaB4 b;have h:covA r a b=(!(!zr6 r a||!zr6 r b)&&(zd6 b||(!zd6 a&&(if r.kind=1 then covM a.mode b.mode else decide (b.aU<=a.aU))))):=by
  unfold covA zk3;generalize(!zr6 r a||!zr6 r b)=x;generalize zd6 b=y;generalize zd6 a=z
  by_cases hk:r.kind=1<;>cases x<;>cases y<;>cases z<;>simp[hk]
 rw[h,e1,e2,e3,e4]
theorem zX1(r:aD)(a b:aC):covA r a b=true↔zb2 r a=true/\zb2 r b=true/\(b=aC.zero\/a≠aC.zero/\b≠aC.zero/\((r.kind=1/\covM a.mode b.mode=true)\/(r.kind≠1/\b.aU<=a.aU))):=by
 rw[zdo9];have za:=zX0 a;have zb:=zX0 b;simp only[bK,dT,cK,iX,Bool.not_eq_false',zb,zae4]
 by_cases e:b=aC.zero
 .simp[e,fH]
 .by_cases hk:r.kind=1<;>simp[e,hk,fH]
theorem zbe9{r:aD}{a:aC}(h:zb2 r a=true):covA r a a=true:=by
 rw[zX1];refine⟨h,h,?_⟩
 by_cases e:a=aC.zero
 .exact .inl e
 .refine .inr ⟨e,e,?_⟩
  by_cases hk:r.kind=1
  .left;refine⟨hk,?_⟩;have:=zat7 h hk;have hm:a.mode≠0:=λ hm=>e (by obtain⟨m,u⟩:=a;simp only at*;unfold aC.zero;congr;omega);rw[zba4];omega
  .exact .inr ⟨hk,kE _⟩
theorem zcd2{r:aD}{a:aC}(h:zb2 r a=true)(hs:zd3 r=true):covA r a aC.zero=true:=by rw[zX1];exact⟨h,(perm_iff r _).2 (.inl ⟨hs,rfl⟩),.inl rfl⟩
theorem zbQ4{r:aD}{a b c:aC}(h1:covA r a b=true)(h2:covA r b c=true):covA r a c=true:=by
 rw[zX1]at h1 h2⊢;refine⟨h1.1,h2.2.1,?_⟩;rcases h2.2.2 with e|⟨hb0,hc0,h3⟩
 .exact .inl e
 .rcases h1.2.2 with e|⟨ha0,_,h4⟩
  .exact absurd e hb0
  .refine .inr ⟨ha0,hc0,?_⟩;rcases h3 with⟨k,h3⟩|⟨k,h3⟩
   .rcases h4 with⟨_,h4⟩|⟨k',_⟩
    .left;refine⟨k,?_⟩;rw[zba4]at h3 h4⊢;omega
    .exact absurd k k'
   .rcases h4 with⟨k',_⟩|⟨_,h4⟩
    .exact absurd k' k
    .exact .inr ⟨k,by omega⟩
def low(a b:aC):Prop:=a.aU<=b.aU/\∀c,¬zaj5 b c->¬zaj5 a c
theorem zdz2{r:aD}{a b:aC}(h:covA r b a=true):low a b:=by
 rw[zX1]at h;obtain⟨h1,h2,h3⟩:=h;have hb1:=zX6 h1;rcases h3 with e|⟨hb0,ha0,h3⟩
 .subst e;refine⟨hb1.1,λ c _ hc=>?_⟩;exact hc.1 rfl
 .rcases h3 with⟨k,h3⟩|⟨k,h3⟩
  .have p1:=zat7 h1 k;have p2:=zat7 h2 k;refine⟨by omega,λ c hc hc'=>hc ⟨?_,hc'.2.1,?_⟩⟩
   .rw[zba4]at h3;omega
   .have h4:=hc'.2.2;rw[<-fR]at h4⊢;intro h5;apply h4;rw[zci4]at h5⊢;rw[zba4]at h3;omega
  .have hk:r.kind=2:=by
    have:=(perm_iff r a).1 h2;rw[zG2,zW7]at this;omega
   have p2:=zbe7 h2 hk;exact⟨h3,λ c _ hc=>hc.1 p2.1⟩
theorem zcP0{r:aD}{l:List aO}{p:aF}{a:aC}:zay4 r l p a=true↔zE5 r l=true/\zb6 p=true/\zb0 r a=true/\(zs3 p l).length+1<=8/\(∀h∈zs3 p l,¬zaj5 h.aK a)/\a.aU+sumU ((zs3 p l).map (·.aK))<=r.aU:=by
 constructor
 .intro h;obtain⟨h1,h2,h3,h4⟩:=zau0 h;have hl:(zs3 p l).length+1<=8:=by
   have:=zad9 h4;unfold setL at this;rw[bL (zR3 h3),zbr0]at this;exact this
  exact⟨h1,h2,h3,hl,(zcr3 h1 h2 h3 hl).1 h⟩
 .rintro⟨h1,h2,h3,h4,h5⟩;exact(zcr3 h1 h2 h3 h4).2 h5
theorem zcr7{r:aD}{l:List aO}{p:aF}{a:aC}(hv:zE5 r l=true)(hp:getH l p≠aC.zero)(hc:covA r (getH l p) a=true):zE5 r (setL l p a)=true:=by
 have hasc:=zbx1 hv;have hv':=(zV4 r l).1 hv
 by_cases hz:a=aC.zero
 .unfold setL;rw[bM hz];exact zbn1 hv (zbn2 p l)
 .have hfit:zb0 r a=true:=by
   rcases(perm_iff r a).1 ((zX1 _ _ _).1 hc).2.1 with h|h
   .exact absurd h.2 hz
   .exact h
  have hlow:=zdz2 hc;have hm:=zaP1 hp;have hlt:=zcd0 hasc hp;have hpm:=zcr4 hasc hp;have hroom:zay4 r l p a=true:=by
   rw[zcP0];refine⟨hv,(hv'.2.2.1.each _ hm).1,hfit,by have:=hv'.2.1;omega,λ x hx hcl=>?_,?_⟩
   .have hpr:=(CompP.perm_iff (hpm.map (·.aK))).1 hv'.2.2.2;have:=(cG.1 hpr.pair).1 x.aK (bW.2 ⟨x,hx,rfl⟩);exact hlow.2 _ this (by
     obtain⟨c1,c2,c3⟩:=hcl;exact⟨c2,c1,by rw[zbH5];exact c3⟩)
   .have h1:=zbx0 (hpm.map (·.aK));have h2:=hv'.2.2.2.sum;rw[h1]at h2;simp only[cN,sumU]at h2;have:=hlow.1;omega
  exact(zau0 hroom).2.2.2
def del(q:aA)(p:aF):aA:={q with aL:=zs3 p q.aL,aH:=rmL q.aH p,aT:=rmL q.aT p}
theorem zaB5{w:aM}{l:List aM}{p:aF}:w∈rmL l p↔w∈l/\w.aI≠p:=by unfold rmL notP;simp
theorem zbf0(l:List aM)(p:aF):(rmL l p).Sublist l:=eQ
theorem SoundP.del{q:aA}(h:SoundP q)(p:aF):SoundP (del q p):=by
 have h1:=(zbf0 q.aH p).length_le;have h2:=(zbf0 q.aT p).length_le;have h3:=zaR8 p q.aL;have h4:=h.cl;have h5:=h.wl;refine⟨h.res,zbn1 h.hv (zbn2 p _),by simp only[Ab.del];omega,h.cn.sublist ((zbf0 _ _).map _),λ w hw=>?_,zcc9 p h.wv,by simp only[Ab.del];omega,λ w hw=>?_,h.gen⟩
 .obtain⟨a1,a2⟩:=zaB5.1 hw;simp only[Ab.del,zW9 a2];exact h.cg w a1
 .obtain⟨a1,a2⟩:=zaB5.1 hw;simp only[Ab.del,zW9 a2];exact h.wg w a1
theorem zdF1(q:aA)(g:Int):canQ {q with gen:=g}=canQ q:=rfl
theorem zcj2(q:aA):(popQ q).gen=q.gen/\(popQ q).aB=q.aB:=by unfold popQ;split<;>exact⟨rfl,rfl⟩
theorem zaS4(q:aA):(advS q).gen=q.gen/\(advS q).aB=q.aB:=
 zbr9 (P:=λ x=>x.gen=q.gen/\x.aB=q.aB) (λ x _ h=>by rw[(zcj2 x).1,(zcj2 x).2];exact h) q ⟨rfl,rfl⟩
theorem zbQ5(g:Int):0<=zt3 g/\zt3 g<=1073741824:=by
  unfold zt3
  by_cases h:g<0\/1073741824<=g
  .rw[bM (by simpa using h)];decide
  .rw[bL (by simpa using h),zj5 (by omega) (by omega)];omega
def zt2(q:aA):aA×List aO×Int:=({advS q with gen:=zt3 q.gen},advG q,0)
theorem SoundP.gen'{q:aA}(h:SoundP q)(g:Int)(h1:0<=g)(h2:g<=1073741824):SoundP {q with gen:=g}:=⟨h.res,h.hv,h.cl,h.cn,h.cg,h.wv,h.wl,h.wg,h1,h2⟩
theorem zS6{q:aA}(h:SoundP q):ze7 (zt2 q).1=true:=by rw[zp4];exact⟨h.adv.gen' _ (zbQ5 _).1 (zbQ5 _).2,by show canQ (advS q)=false;exact zde4 q⟩
theorem zbs1(q:aA)(p:aF):(zt0 q p).2=true↔∃w∈q.aH++q.aT,w.aI=p:=by
  unfold zt0 zbr5;cases h:(q.aH++q.aT).find? λ w=>decide (w.aI=p)with
  |none=>
    rw[List.find?_eq_none]at h;simp only[bQ]at h;constructor
    .intro h2;cases h2
    .rintro⟨w,hw,e⟩;exact absurd e (h w hw)
  |some w=>have h1:=hJ h;have h2:=jZ h;exact⟨λ _=>⟨w,h1,by simpa using h2⟩,λ _=>rfl⟩
theorem zaq3{q:aA}{p:aF}:(zt0 q p).2=false↔∀w∈q.aH++q.aT,w.aI≠p:=by
  rw[<-fR,zbs1];constructor
  .exactλ h w hw e=>h ⟨w,hw,e⟩
  .rintro h ⟨w,hw,e⟩;exact h w hw e
theorem zcP1:∀a∈[(1:Int),2,3,4,5],∀b∈[(1:Int),2,3,4,5],supM a b∈[(1:Int),2,3,4,5]/\covM (supM a b) a=true/\covM (supM a b) b=true:=by decide
theorem zcP2{r:aD}{a b:aC}(ha:zb0 r a=true)(hb:zb0 r b=true)(hk:r.kind=1):zae3 r a b=⟨supM a.mode b.mode,0⟩:=by unfold zae3;rw[zG8 ha,zG8 hb,(zae4 a).2 (zR3 ha),(zae4 b).2 (zR3 hb)];simp[hk,aC.zero]
theorem zcP3{r:aD}{a b:aC}(ha:zb0 r a=true)(hb:zb0 r b=true)(hk:r.kind≠1):zae3 r a b=⟨0,if a.aU<b.aU then b.aU else a.aU⟩:=by unfold zae3;rw[zG8 ha,zG8 hb,(zae4 a).2 (zR3 ha),(zae4 b).2 (zR3 hb)];simp[hk,aC.zero]
theorem zbQ6{r:aD}{h a:aC}(hh:zb0 r h=true)(ha:zb0 r a=true)(hc:covA r h a=false):
    zb0 r (zae3 r h a)=true/\covA r (zae3 r h a) h=true/\covA r (zae3 r h a) a=true/\zae3 r h a≠h:=by
  have hf:zb0 r (zae3 r h a)=true/\covA r (zae3 r h a) h=true/\covA r (zae3 r h a) a=true:=by
    have fh:=(zW7 r h).1 hh;have fa:=(zW7 r a).1 ha
    by_cases hk:r.kind=1
    · have m1:h.mode∈[(1:Int),2,3,4,5]:=by simp;omega
      have m2:a.mode∈[(1:Int),2,3,4,5]:=by simp;omega
      obtain⟨s1,s2,s3⟩:=zcP1 _ m1 _ m2;rw[zcP2 hh ha hk];have hfit:zb0 r ⟨supM h.mode a.mode,0⟩=true:=by rw[zW7];left;simp at s1;exact⟨hk,by omega,by simp only;omega,by simp only;omega,rfl⟩
      refine⟨hfit,?_,?_⟩
      .rw[zX1];exact⟨zG8 hfit,zG8 hh,.inr ⟨zR3 hfit,zR3 hh,.inl ⟨hk,s2⟩⟩⟩
      .rw[zX1];exact⟨zG8 hfit,zG8 ha,.inr ⟨zR3 hfit,zR3 ha,.inl ⟨hk,s3⟩⟩⟩
    · rw[zcP3 hh ha hk]
      have hfit:zb0 r ⟨0,if h.aU<a.aU then a.aU else h.aU⟩=true:=by rw[zW7];right;refine⟨by omega,by omega,by omega,rfl,?_,?_⟩<;>simp only<;>split<;>omega
      refine⟨hfit,?_,?_⟩
      · rw[zX1];refine⟨zG8 hfit,zG8 hh,.inr ⟨zR3 hfit,zR3 hh,.inr ⟨hk,?_⟩⟩⟩
        simp only;split<;>omega
      · rw[zX1];refine⟨zG8 hfit,zG8 ha,.inr ⟨zR3 hfit,zR3 ha,.inr ⟨hk,?_⟩⟩⟩
        simp only;split<;>omega
  refine⟨hf.1,hf.2.1,hf.2.2,λ e=>?_⟩;have:=hf.2.2;rw[e,hc]at this;cases this
def claimC(q:aA)(p:aF)(a:aC):aA:={q with aH:=q.aH++[⟨p,zae3 q.aB (getH q.aL p) a,0,0⟩]}
def claimW(q:aA)(p:aF)(a:aC)(pr:Int):aA:={q with aT:=zaA3 q.aT ⟨p,a,pr,0⟩ (zC3 q.aT ⟨p,a,pr,0⟩ q.aT.length)}
def zM1(q:aA)(p:aF):aA:={q with aH:=rmL q.aH p,aT:=rmL q.aT p}
def zaa7(q:aA)(p:aF)(a:aC):aA:={q with aL:=setL q.aL p a}
def hasQ(q:aA)(p:aF):Bool:=(zt0 q p).2||!zf8 (getH q.aL p)
def errQ(e:Int):aA×List aO×Int:=(aA.zero,[],e)
def zba9(p:aF)(pr:Int):Bool:=zb6 p&&(decide (0<=pr)&&decide (pr<=7))
def zy0(q:aA)(p:aF)(a:aC)(pr:Int):aA×List aO×Int:=
  if ze7 q=false then errQ 2 else if zba9 p pr=false then errQ 1 else if zb0 q.aB a=false then errQ 12 else if(zt0 q p).2=true then errQ 14
  else if covA q.aB (getH q.aL p) a=true then(q,[],0)else if getH q.aL p≠aC.zero then zt2 (claimC q p a)
  else if 8<=q.aL.length+q.aT.length then errQ 4 else zt2 (claimW q p a pr)
def zw7(q:aA)(p:aF):aA×List aO×Int:=
  if ze7 q=false then errQ 2 else if(zt0 q p).2=false then errQ 10 else zt2 (zM1 q p)
def zv0(q:aA)(p:aF)(a:aC):aA×List aO×Int:=
  if ze7 q=false then errQ 2 else if getH q.aL p=aC.zero then errQ 10 else if(zt0 q p).2=true then errQ 14
  else if covA q.aB (getH q.aL p) a=false then errQ 12 else if getH q.aL p=a then(q,[],0)else zt2 (zaa7 q p a)
def zw1(q:aA)(p:aF):aA×List aO×Int:=
  if ze7 q=false then errQ 2 else if hasQ q p=false then errQ 10 else zt2 (del q p)
theorem SoundP.cancel{q:aA}(h:SoundP q)(p:aF):SoundP (zM1 q p):=by have h1:=(zbf0 q.aH p).length_le;have h2:=(zbf0 q.aT p).length_le;have h4:=h.cl;have h5:=h.wl;exact⟨h.res,h.hv,by simp only[zM1];omega,h.cn.sublist ((zbf0 _ _).map _),λ w hw=>h.cg w (zaB5.1 hw).1,zcc9 p h.wv,by simp only[zM1];omega,λ w hw=>h.wg w (zaB5.1 hw).1,h.gen⟩
theorem SoundP.claimC{q:aA}(h:SoundP q){p:aF}{a:aC}(ha:zb0 q.aB a=true)(hw:(zt0 q p).2=false)(hc:covA q.aB (getH q.aL p) a=false)(hz:getH q.aL p≠aC.zero):SoundP (claimC q p a):=by
  have hv:=(zV4 _ _).1 h.hv;have hfit:zb0 q.aB (getH q.aL p)=true:=(hv.2.2.1.each _ (zaP1 hz)).2;obtain⟨j1,j2,j3,j4⟩:=zbQ6 hfit ha hc;rw[zaq3]at hw;refine⟨h.res,h.hv,?_,?_,λ w hww=>?_,h.wv,h.wl,h.wg,h.gen⟩
  ·
    have hn:((q.aH++[(⟨p,zae3 q.aB (getH q.aL p) a,0,0⟩:aM)]).map (·.aI)).Nodup:=by rw[dX,gL];refine⟨h.cn,by simp,λ x hx y hy=>?_⟩;simp only[cN,iK,dK]at hy;obtain⟨c,hcc,rfl⟩:=bW.1 hx;rw[hy];exact hw c (cO _ hcc)
    have hs:∀x∈(q.aH++[(⟨p,zae3 q.aB (getH q.aL p) a,0,0⟩:aM)]).map (·.aI),x∈q.aL.map (·.aI):=by
      intro x hx;simp only[dX,cF,cN,iK,dK]at hx;rcases hx with hx|rfl
      · obtain⟨c,hcc,rfl⟩:=bW.1 hx
        exact bW.2 ⟨_,zaP1 (h.cg c hcc).1,rfl⟩
      .exact bW.2 ⟨_,zaP1 hz,rfl⟩
    have:=dH hn hs;have h8:=zad9 h.hv;rw[cH,cH]at this;show(q.aH++[(⟨p,zae3 q.aB (getH q.aL p) a,0,0⟩:aM)]).length<=8;omega
  · show((q.aH++[(⟨p,zae3 q.aB (getH q.aL p) a,0,0⟩:aM)]).map (·.aI)).Nodup
    rw[dX,gL];refine⟨h.cn,by simp,λ x hx y hy=>?_⟩;simp only[cN,iK,dK]at hy;obtain⟨c,hcc,rfl⟩:=bW.1 hx;rw[hy];exact hw c (cO _ hcc)
  · rcases cF.1 hww with hww|hww
    .exact h.cg w hww
    · rw[dK]at hww;subst hww
      exact⟨hz,j1,j2,j4,rfl,rfl⟩
theorem zcd3{r:aD}{p:aF}{a:aC}{pr:Int}(ha:zb0 r a=true)(hp:zba9 p pr=true):zg1 ⟨p,a,pr,0⟩=true:=by rw[zW7]at ha;unfold zba9 at hp;simp only[bK,bQ]at hp;rw[<-zaR9];unfold zy1;rw[zaO5,hp.1];unfold zK6 zv7;simp;omega
theorem zcI2{q:aA}(h:SoundP q){p:aF}{a:aC}{pr:Int}(ha:zb0 q.aB a=true)(hp:zba9 p pr=true)(hw:(zt0 q p).2=false)(hl:q.aT.length<8):
    insS q.aT ⟨p,a,pr,0⟩=((claimW q p a pr).aT,(zC3 q.aT ⟨p,a,pr,0⟩ q.aT.length:Int),0):=by
  unfold insS;rw[bL (by rw[h.wv];decide),bL (by rw[zcd3 ha hp];simp),bL ?_,bL (by omega)]
  .rfl
  · rw[zaq3]at hw
    exact zbw4.2 λ w hww=>hw w (cC _ hww)
theorem SoundP.claimW{q:aA}(h:SoundP q){p:aF}{a:aC}{pr:Int}(ha:zb0 q.aB a=true)(hp:zba9 p pr=true)(hw:(zt0 q p).2=false)(hz:getH q.aL p=aC.zero)(hl:q.aL.length+q.aT.length<8):SoundP (claimW q p a pr):=by
  rw[zaq3]at hw;have hne:∀e∈q.aT,e.aI≠p:=λ e he=>hw e (cC _ he);have hv:=zcB8 (w:=⟨p,a,pr,0⟩) h.wv (zcd3 ha hp) hne (by omega);refine⟨h.res,h.hv,h.cl,h.cn,h.cg,hv,?_,λ w hww=>?_,h.gen⟩
  · have hn:=zaO6 q.aT ⟨p,a,pr,0⟩ q.aT.length
    simp only[Ab.claimW,zaA3,bP,List.length_cons,cH,dM,eO];omega
  · simp only[Ab.claimW,zaA3,cF,bY,bW]at hww
    rcases hww with hww|rfl|⟨x,hx,rfl⟩
    .exact h.wg w (iY hww)
    .exact⟨ha,hz⟩
    .exact h.wg x (iZ hx)
theorem SoundP.lower{q:aA}(h:SoundP q){p:aF}{a:aC}(hw:(zt0 q p).2=false)(hz:getH q.aL p≠aC.zero)(hc:covA q.aB (getH q.aL p) a=true):SoundP (zaa7 q p a):=by
  rw[zaq3]at hw;have hl:=zcd1 a h.hv hz;have h5:=h.wl;refine⟨h.res,zcr7 h.hv hz hc,h.cl,h.cn,λ w hww=>?_,h.wv,by simp only[zaa7];omega,λ w hww=>?_,h.gen⟩
  · simp only[zaa7,zD0 (hw w (cO _ hww))]
    exact h.cg w hww
  · simp only[zaa7,zD0 (hw w (cC _ hww))]
    exact h.wg w hww
theorem zau1{q:aA}{p:aF}{a:aC}{pr:Int}(h:(zy0 q p a pr).2.2=0):SoundP q/\canQ q=false/\zba9 p pr=true/\zb0 q.aB a=true/\(zt0 q p).2=false/\
    ((covA q.aB (getH q.aL p) a=true/\zy0 q p a pr=(q,[],0))\/
     (covA q.aB (getH q.aL p) a=false/\getH q.aL p≠aC.zero/\zy0 q p a pr=zt2 (claimC q p a)/\SoundP (claimC q p a))\/
     (covA q.aB (getH q.aL p) a=false/\getH q.aL p=aC.zero/\q.aL.length+q.aT.length<8/\zy0 q p a pr=zt2 (claimW q p a pr)/\SoundP (claimW q p a pr))):=by
  unfold zy0 at h|-
  by_cases h1:ze7 q=false
  .rw[bM h1]at h;exact absurd h (by decide)
  rw[bL h1]at h|-
  by_cases h2:zba9 p pr=false
  .rw[bM h2]at h;exact absurd h (by decide)
  rw[bL h2]at h|-
  by_cases h3:zb0 q.aB a=false
  .rw[bM h3]at h;exact absurd h (by decide)
  rw[bL h3]at h|-
  by_cases h4:(zt0 q p).2=true
  .rw[bM h4]at h;exact absurd h (by decide)
  rw[bL h4]at h⊢;rw[fG]at h1 h2 h3;rw[fR]at h4;obtain⟨hs,hcn⟩:=(zp4 q).1 h1;refine⟨hs,hcn,h2,h3,h4,?_⟩
  by_cases h5:covA q.aB (getH q.aL p) a=true
  .rw[bM h5];exact .inl ⟨h5,rfl⟩
  rw[bL h5]at h⊢;rw[fR]at h5
  by_cases h6:getH q.aL p≠aC.zero
  .rw[bM h6];exact .inr (.inl ⟨h5,h6,rfl,hs.claimC h3 h4 h5 h6⟩)
  rw[bL h6]at h|-
  by_cases h7:8<=q.aL.length+q.aT.length
  .rw[bM h7]at h;exact absurd h (by decide)
  rw[bL h7];have h6:=Decidable.not_not.1 h6;exact .inr (.inr ⟨h5,h6,by omega,rfl,hs.claimW h3 h2 h4 h6 (by omega)⟩)
theorem zZ1{q:aA}{p:aF}(h:(zw7 q p).2.2=0):SoundP q/\canQ q=false/\(zt0 q p).2=true/\zw7 q p=zt2 (zM1 q p)/\SoundP (zM1 q p):=by
  unfold zw7 at h|-
  by_cases h1:ze7 q=false
  .rw[bM h1]at h;exact absurd h (by decide)
  rw[bL h1]at h|-
  by_cases h2:(zt0 q p).2=false
  .rw[bM h2]at h;exact absurd h (by decide)
  rw[bL h2];rw[fG]at h1 h2;obtain⟨hs,hcn⟩:=(zp4 q).1 h1;exact⟨hs,hcn,h2,rfl,hs.cancel p⟩
theorem zaa1{q:aA}{p:aF}{a:aC}(h:(zv0 q p a).2.2=0):SoundP q/\canQ q=false/\getH q.aL p≠aC.zero/\(zt0 q p).2=false/\covA q.aB (getH q.aL p) a=true/\
    ((getH q.aL p=a/\zv0 q p a=(q,[],0))\/(getH q.aL p≠a/\zv0 q p a=zt2 (zaa7 q p a)/\SoundP (zaa7 q p a))):=by
  unfold zv0 at h|-
  by_cases h1:ze7 q=false
  .rw[bM h1]at h;exact absurd h (by decide)
  rw[bL h1]at h|-
  by_cases h2:getH q.aL p=aC.zero
  .rw[bM h2]at h;exact absurd h (by decide)
  rw[bL h2]at h|-
  by_cases h3:(zt0 q p).2=true
  .rw[bM h3]at h;exact absurd h (by decide)
  rw[bL h3]at h|-
  by_cases h4:covA q.aB (getH q.aL p) a=false
  .rw[bM h4]at h;exact absurd h (by decide)
  rw[bL h4]at h⊢;rw[fG]at h1 h4;rw[fR]at h3;obtain⟨hs,hcn⟩:=(zp4 q).1 h1;refine⟨hs,hcn,h2,h3,h4,?_⟩
  by_cases h5:getH q.aL p=a
  .rw[bM h5];exact .inl ⟨h5,rfl⟩
  .rw[bL h5];exact .inr ⟨h5,rfl,hs.lower h3 h2 h4⟩
theorem zaS5{q:aA}{p:aF}(h:(zw1 q p).2.2=0):SoundP q/\canQ q=false/\hasQ q p=true/\zw1 q p=zt2 (del q p)/\SoundP (del q p):=by
  unfold zw1 at h|-
  by_cases h1:ze7 q=false
  .rw[bM h1]at h;exact absurd h (by decide)
  rw[bL h1]at h|-
  by_cases h2:hasQ q p=false
  .rw[bM h2]at h;exact absurd h (by decide)
  rw[bL h2];rw[fG]at h1 h2;obtain⟨hs,hcn⟩:=(zp4 q).1 h1;exact⟨hs,hcn,h2,rfl,hs.del p⟩
def ordQ(q:aA):List aM:=q.aH++q.aT
def zbQ7(w:aM):aO:=⟨w.aI,w.aK⟩
theorem zbf1{q:aA}(h:canQ q=true):ordQ q=(zB2 q).1::ordQ (popQ q)/\(popQ q).aL=setL q.aL (zB2 q).1.aI (zB2 q).1.aK:=by
 cases zcC0 h with
 |con w cs he hd hr hp=>rw[hp,hd];unfold ordQ;rw[he];exact⟨rfl,rfl⟩
 |wait w ws hc he hd hr hp=>rw[hp,hd];unfold ordQ;rw[hc,he];exact⟨rfl,rfl⟩
theorem zde6{q:aA}(h:canQ q=true):zay4 q.aB q.aL (zB2 q).1.aI (zB2 q).1.aK=true:=by unfold canQ at h;rw[bK]at h;exact h.2
theorem zcP4{q:aA}{p:aF}(h:∀w∈ordQ q,w.aI≠p):getH (advS q).aL p=getH q.aL p/\∀w∈ordQ (advS q),w.aI≠p:=by
 have:=zbr9 (P:=λ x=>getH x.aL p=getH q.aL p/\∀w∈ordQ x,w.aI≠p) (λ x hc hx=>by
  obtain⟨h1,h2⟩:=zbf1 hc;obtain⟨h3,h4⟩:=hx;rw[h1]at h4;refine⟨?_,λ w hw=>h4 w (.tail _ hw)⟩;rw[h2,zD0 (jX (h4 _ (.head _)))];exact h3) q ⟨rfl,h⟩
 exact this
theorem SoundP.nd{q:aA}(h:SoundP q):((ordQ q).map (·.aI)).Nodup:=h.nodup
theorem zdp0{w:aM}{l:List aM}(h:((w::l).map (·.aI)).Nodup):∀x∈l,x.aI≠w.aI:=λ x hx e=>by rw[cN,gH]at h;exact h.1 (bW.2 ⟨x,hx,e⟩)
theorem zcP5{q:aA}(hs:SoundP q)(hc:canQ q=true):getH (advS q).aL (zB2 q).1.aI=(zB2 q).1.aK/\∀w∈ordQ (advS q),w.aI≠(zB2 q).1.aI:=by obtain⟨h1,h2⟩:=zbf1 hc;have hn:=hs.nd;rw[h1]at hn;have:=zcP4 (q:=popQ q) (zdp0 hn);rw[zaF6 hc,this.1,h2,zaq2];exact⟨rfl,this.2⟩
theorem zcC1:∀q,SoundP q->∀g∈advG q,getH (advS q).aL g.aI=g.aK/\∀w∈ordQ (advS q),w.aI≠g.aI:=by
 refine zbs0 (λ q h hs g hg=>by rw[zbr8 h]at hg;cases hg) λ q hc ih hs g hg=>?_;rw[zbr7 hc]at hg;rcases bY.1 hg with rfl|hg
 .exact zcP5 hs hc
 .rw[zaF6 hc];exact ih (hs.pop hc) g hg
theorem zcC2{q:aA}(hs:SoundP q)(p:aF):covA q.aB (getH (advS q).aL p) (getH q.aL p)=true:=by
 have:=zbr9 (P:=λ x=>SoundP x/\x.aB=q.aB/\covA q.aB (getH x.aL p) (getH q.aL p)=true) (λ x hc ⟨h1,h2,h3⟩=>by
  refine⟨h1.pop hc,by rw[(zcj2 x).2];exact h2,?_⟩;obtain⟨e1,e2⟩:=zbf1 hc;rw[e2]
  by_cases hp:p=(zB2 x).1.aI
  .subst hp;rw[zaq2];refine zbQ4 ?_ h3;cases zcC0 hc with
   |con w cs he hd hr hp=>rw[hd,<-h2];exact(h1.cg w (by rw[he];exact .head _)).2.2.1
   |wait w ws hcc he hd hr hp=>rw[hd,(h1.wg w (by rw[he];exact .head _)).2,<-h2];have hf:=(zau0 hr).2.2.1;exact zcd2 (zG8 hf) (zcq5 hf)
  .rw[zD0 hp];exact h3) q ⟨hs,rfl,zbe9 (zaP2 hs.hv p)⟩
 exact this.2.2
theorem zaP3:∀q,∃ws,ordQ q=ws++ordQ (advS q)/\advG q=ws.map zbQ7:=by refine zbs0 (λ q h=>⟨[],by rw[zba8 h,zbr8 h];exact⟨rfl,rfl⟩⟩) λ q hc ⟨ws,h1,h2⟩=>⟨(zB2 q).1::ws,?_⟩;rw[(zbf1 hc).1,zaF6 hc,zbr7 hc,h1,h2];exact⟨rfl,rfl⟩
theorem zcr8{r:aD}{l:List aO}(h:zE5 r l=true)(p:aF):getH l p≠aC.zero↔p∈l.map (·.aI):=by
 constructor
 .intro hp;exact bW.2 ⟨_,zaP1 hp,rfl⟩
 .intro hp;obtain⟨x,hx,rfl⟩:=bW.1 hp;rw[zcr5 (zbx1 h) hx];exact zR3 (((zV4 _ _).1 h).2.2.1.each x hx).2
theorem zp5(q:aA)(p:aF):hasQ q p=true↔(∃w∈ordQ q,w.aI=p)\/getH q.aL p≠aC.zero:=by unfold hasQ;rw[dT,zbs1,cK,zae4];rfl
theorem zdp1{q:aA}(h:SoundP q)(p:aF):hasQ q p=true↔p∈(ordQ q).map (·.aI)\/p∈q.aL.map (·.aI):=by simp only[zp5,zcr8 h.hv,bW]
theorem zdp2{q:aA}(hc:canQ q=true)(p:aF):hasQ (popQ q) p=hasQ q p:=by
 rw[cI,zp5,zp5];obtain⟨h1,h2⟩:=zbf1 hc;rw[h1,h2];have hz:=zR3 (zau0 (zde6 hc)).2.2.1
 by_cases hp:p=(zB2 q).1.aI
 .subst hp;rw[zaq2];exact⟨λ _=>.inl ⟨_,.head _,rfl⟩,λ _=>.inr hz⟩
 .rw[zD0 hp];constructor
  .rintro(⟨w,hw,e⟩|h)
   .exact .inl ⟨w,.tail _ hw,e⟩
   .exact .inr h
  .rintro(⟨w,hw,e⟩|h)
   .rcases bY.1 hw with rfl|hw
    .exact absurd e.symm hp
    .exact .inl ⟨w,hw,e⟩
   .exact .inr h
theorem zcI3(q:aA)(p:aF):hasQ (advS q) p=hasQ q p:=zbr9 (P:=λ x=>hasQ x p=hasQ q p) (λ x hc h=>by rw[zdp2 hc];exact h) q rfl
theorem zcI4(q:aA)(g:Int)(p:aF):hasQ {q with gen:=g} p=hasQ q p:=rfl
theorem zbb0{q:aA}{p:aF}{w:aM}:w∈ordQ (del q p)↔w∈ordQ q/\w.aI≠p:=by
 unfold ordQ del;simp only[cF,zaB5];constructor
 .rintro(⟨a,b⟩|⟨a,b⟩)
  .exact⟨.inl a,b⟩
  .exact⟨.inr a,b⟩
 .rintro⟨a|a,b⟩
  .exact .inl ⟨a,b⟩
  .exact .inr ⟨a,b⟩
theorem zcI5(q:aA)(p x:aF):hasQ (del q p) x=true↔hasQ q x=true/\x≠p:=by
 rw[zp5,zp5]
 by_cases hx:x=p
 .subst hx;constructor
  .rintro(⟨w,hw,e⟩|h)
   .exact absurd e (zbb0.1 hw).2
   .exact absurd (zaP0 _ _) h
  .rintro⟨_,h⟩;exact absurd rfl h
 .have e1:getH (del q p).aL x=getH q.aL x:=zW9 hx _;rw[e1];constructor
  .rintro(⟨w,hw,e⟩|h)
   .exact⟨.inl ⟨w,(zbb0.1 hw).1,e⟩,hx⟩
   .exact⟨.inr h,hx⟩
  .rintro⟨⟨w,hw,e⟩|h,_⟩
   .exact .inl ⟨w,zbb0.2 ⟨hw,by rw[e];exact hx⟩,e⟩
   .exact .inr h
def remN(q:aA)(p:aF):aA:=if(zw1 q p).2.2=0 then(zw1 q p).1 else q
theorem zaB6(q:aA):(zt2 q).1={advS q with gen:=zt3 q.gen}:=rfl
theorem zaS6{q:aA}(h:ze7 q=true){p:aF}(hp:hasQ q p=true):zw1 q p=zt2 (del q p):=by unfold zw1;rw[bL (by rw[h];decide),bL (by rw[hp];decide)]
theorem zav8{q:aA}(h:ze7 q=true){p:aF}(hp:hasQ q p=false):zw1 q p=errQ 10:=by unfold zw1;rw[bL (by rw[h];decide),bM hp]
theorem zaq4{q:aA}(h:ze7 q=true)(p:aF):ze7 (remN q p)=true:=by
 unfold remN;split
 .rename_i h0;obtain⟨_,_,_,e,hs⟩:=zaS5 h0;rw[e];exact zS6 hs
 .exact h
def remS(q:aA)(ps:List aF):aA:=ps.foldl remN q
theorem zbs2:∀(ps:List aF) {q:aA},ze7 q=true->ze7 (remS q ps)=true
 |[],_,h=>h
 |p::ps,_,h=>zbs2 ps (zaq4 h p)
theorem zbC6{q:aA}(h:ze7 q=true){p x:aF}(hx:x≠p):covA q.aB (getH (remN q p).aL x) (getH q.aL x)=true/\(remN q p).aB=q.aB:=by
 obtain⟨hs,hc⟩:=(zp4 q).1 h;unfold remN;cases hp:hasQ q p with
 |true=>rw[zaS6 h hp,bM (show(zt2 (del q p)).2.2=0 from rfl),zaB6];have h1:=zcC2 (hs.del p) x;have h2:getH (del q p).aL x=getH q.aL x:=zW9 hx _;rw[h2]at h1;exact⟨h1,(zaS4 (del q p)).2⟩
 |false=>rw[zav8 h hp,bL (by decide)];exact⟨zbe9 (zaP2 hs.hv x),rfl⟩
theorem zbC7:∀(ps:List aF) {q:aA} {x:aF},ze7 q=true->x∉ps->covA q.aB (getH (remS q ps).aL x) (getH q.aL x)=true/\(remS q ps).aB=q.aB
 |[],q,x,h,_=>⟨zbe9 (zaP2 ((zp4 q).1 h).1.hv x),rfl⟩
 |p::ps,q,x,h,hx=>by have h1:=zbC6 h (p:=p) (x:=x) λ e=>hx (by rw[e];exact .head _);have h2:=zbC7 ps (zaq4 h p) (x:=x) λ hm=>hx (.tail _ hm);rw[h1.2]at h2;exact⟨zbQ4 h2.1 h1.1,h2.2⟩
theorem zbQ8{q:aA}(h:ze7 q=true)(p x:aF):hasQ (remN q p) x=true↔hasQ q x=true/\x≠p:=by
 unfold remN;cases hp:hasQ q p with
 |true=>rw[zaS6 h hp,bM (show(zt2 (del q p)).2.2=0 from rfl),zaB6,zcI4,zcI3,zcI5]
 |false=>
  rw[zav8 h hp,bL (by decide)];constructor
  .intro hx;exact⟨hx,λ e=>by rw[e,hp]at hx;cases hx⟩
  .exact And.left
theorem zaP4:∀(ps:List aF) {q:aA},ze7 q=true->∀x,hasQ (remS q ps) x=true↔hasQ q x=true/\x∉ps
 |[],q,h,x=>by simp[remS]
 |p::ps,q,h,x=>by show hasQ (remS (remN q p) ps) x=true↔_;rw[zaP4 ps (zaq4 h p),zbQ8 h];simp only[bY,not_or];exact⟨λ⟨⟨a,b⟩,c⟩=>⟨a,b,c⟩,λ⟨a,b,c⟩=>⟨⟨a,b⟩,c⟩⟩
theorem zau2:∀{a b:List aF},a.Pairwise ltP->b.Pairwise ltP->(∀x,x∈a↔x∈b)->a=b
 |[],b,_,_,h=>by
  cases b with
  |nil=>rfl
  |cons y b=>exact absurd ((h y).2 (.head _)) (by simp)
 |x::a,[],_,_,h=>absurd ((h x).1 (.head _)) (by simp)
 |x::a,y::b,ha,hb,h=>by
  rw[cG]at ha hb;have hxy:x=y:=by
   rcases bY.1 ((h x).1 (.head _))with e|hx
   .exact e
   .rcases bY.1 ((h y).2 (.head _))with e|hy
    .exact e.symm
    .exact absurd (zat5 (ha.1 y hy) (hb.1 x hx)) (zQ1 x)
  subst hxy;congr 1;refine zau2 ha.2 hb.2 λ z=>?_;have hz:=h z;constructor
  .intro hm;rcases bY.1 (hz.1 (.tail _ hm))with e|hm'
   .subst e;exact absurd (ha.1 z hm) (zQ1 z)
   .exact hm'
  .intro hm;rcases bY.1 (hz.2 (.tail _ hm))with e|hm'
   .subst e;exact absurd (hb.1 z hm) (zQ1 z)
   .exact hm'
def zay5(p:aF):List aF->List aF
 |[]=>[p]
 |x::t=>if p=x then x::t else if ltP p x then p::x::t else x::zay5 p t
theorem zau3{p x:aF}:∀{l:List aF},x∈zay5 p l↔x=p\/x∈l
 |[]=>by simp[zay5]
 |y::t=>by
  simp only[zay5];split
  .rename_i h;subst h;simp only[bY];constructor
   .intro h;exact .inr h
   .rintro(rfl|h)
    .exact .inl rfl
    .exact h
  .split
   .simp only[bY]
   .simp only[bY,zau3 (l:=t)];constructor
    .rintro(h|h|h)
     .exact .inr (.inl h)
     .exact .inl h
     .exact .inr (.inr h)
    .rintro(h|h|h)
     .exact .inr (.inl h)
     .exact .inl h
     .exact .inr (.inr h)
theorem zau4{p:aF}:∀{l:List aF},l.Pairwise ltP->(zay5 p l).Pairwise ltP
 |[],_=>by simp[zay5]
 |y::t,h=>by
  simp only[zay5];split
  .exact h
  .rename_i hne;rw[cG]at h;split
   .rename_i hlt;rw[cG];refine⟨λ x hx=>?_,cG.2 h⟩;rcases bY.1 hx with rfl|hx
    .exact hlt
    .exact zat5 hlt (h.1 x hx)
   .rename_i hlt;rw[cG];refine⟨λ x hx=>?_,zau4 h.2⟩;rcases zau3.1 hx with rfl|hx
    .rcases zaa0 hne with h1|h1
     .exact absurd h1 hlt
     .exact h1
    .exact h.1 x hx
theorem zcC3{p:aF}:∀{l:List aF},l.Pairwise ltP->p∈l->zay5 p l=l:=λ hl hp=>
 zau2 (zau4 hl) hl λ x=>by
  rw[zau3];constructor
  .rintro(rfl|h)
   .exact hp
   .exact h
  .exact .inr
def zbk2(l:List aF):List aF:=l.foldl (λ s p=>zay5 p s) []
theorem zbb1:∀(l s:List aF),s.Pairwise ltP->(l.foldl (λ s p=>zay5 p s) s).Pairwise ltP/\∀x,x∈l.foldl (λ s p=>zay5 p s) s↔x∈s\/x∈l
 |[],s,h=>⟨h,λ x=>by simp⟩
 |p::l,s,h=>by
  obtain⟨h1,h2⟩:=zbb1 l (zay5 p s) (zau4 h);refine⟨h1,λ x=>?_⟩;rw[List.foldl_cons,h2,zau3,bY];constructor
  .rintro((h|h)|h)
   .exact .inr (.inl h)
   .exact .inl h
   .exact .inr (.inr h)
  .rintro(h|h|h)
   .exact .inl (.inr h)
   .exact .inl (.inl h)
   .exact .inr h
theorem zaC7(l:List aF):(zbk2 l).Pairwise ltP:=(zbb1 l [] .nil).1
theorem zbf2{l:List aF}{x:aF}:x∈zbk2 l↔x∈l:=by
 have:=(zbb1 l [] .nil).2 x;unfold zbk2
 simpa using this
theorem zcj3{l s:List aF}(h:s.Pairwise ltP)(hm:∀x,x∈s↔x∈l):s=zbk2 l:=zau2 h (zaC7 l) λ x=>by rw[hm,zbf2]
theorem zbf3{l:List aF}(h:l.Pairwise ltP):l.Nodup:=h.imp λ hab e=>by subst e;exact zQ1 _ hab
theorem zcd4(l:List aF):(zbk2 l).length<=l.length:=dH (zbf3 (zaC7 l)) λ x hx=>zbf2.1 hx
def dst:List aF->List aF
 |[]=>[]
 |[x]=>[x]
 |x::y::t=>if x=y then dst (y::t)else x::dst (y::t)
theorem zbH6:∀{l:List aF} {x:aF},x∈dst l↔x∈l
 |[],x=>by simp[dst]
 |[y],x=>by simp[dst]
 |y::z::t,x=>by
  simp only[dst];split
  .rename_i h;subst h;rw[zbH6 (l:=y::t)];simp
  .rw[bY,zbH6 (l:=z::t),bY (b:=y)]
theorem zcj4:∀{l:List aF},l.Pairwise (λ x y=>¬ltP y x)->(dst l).Pairwise ltP
 |[],_=>by simp[dst]
 |[x],_=>by simp[dst]
 |x::y::t,h=>by
  simp only[dst];rw[cG]at h;split
  .exact zcj4 h.2
  .rename_i hne;rw[cG];refine⟨λ z hz=>?_,zcj4 h.2⟩;have hz:=zbH6.1 hz
   by_cases e:x=z
   .subst e;rcases bY.1 hz with e|hz'
    .exact absurd e hne
    .have h2:=(cG.1 h.2).1 x hz';rcases zaa0 hne with h3|h3
     .exact absurd h3 h2
     .exact absurd h3 (h.1 y (.head _))
   .rcases zaa0 e with h1|h1
    .exact h1
    .exact absurd h1 (h.1 z hz)
theorem zcP6{l s:List aF}(h:s.Pairwise λ x y=>¬ltP y x)(hm:∀x,x∈s↔x∈l):dst s=zbk2 l:=zcj3 (zcj4 h) λ x=>by rw[zbH6,hm]
theorem zcr9:∀(l:List aF) (x y:aF),dst (l++[x,y])=if x=y then dst (l++[x])else dst (l++[x])++[y]
 |[],x,y=>by
  by_cases h:x=y<;>simp[dst,h]
 |[a],x,y=>by
  by_cases h:x=y
  .subst h;by_cases h2:a=x<;>simp[dst,h2]
  .by_cases h2:a=x
   .subst h2;simp[dst,h]
   .simp[dst,h,h2]
 |a::b::l,x,y=>by
  have ih:=zcr9 (b::l) x y;simp only[List.cons_append,dst]at ih⊢;rw[ih]
  by_cases h:x=y<;>by_cases h2:a=b<;>simp[h,h2]
theorem zcC4(x y:aF):¬ltP y x\/¬ltP x y:=by
 by_cases h:ltP y x
 .exact .inr (zbv9 h)
 .exact .inl h
theorem zcj5(l:List aF):(l.mergeSort λ x y=>!decide (ltP y x)).Pairwise λ x y=>¬ltP y x:=by
 have:=List.pairwise_mergeSort (le:=λ x y=>!decide (ltP y x)) (λ a b c h1 h2=>by
  simp only[cK,cS]at h1 h2⊢;intro h3
  by_cases e:b=a
  .subst e;exact h2 h3
  .rcases zaa0 e with h4|h4
   .exact h1 h4
   .by_cases e2:b=c
    .subst e2;exact h1 h3
    .rcases zaa0 e2 with h5|h5
     .exact zbv9 (zat5 h3 h4) h5
     .exact h2 h5) (λ a b=>by
  rcases zcC4 a b with h|h
  .simp[h]
  .simp[h]) l
 exact this.imp λ h=>by simpa using h
theorem ifNT{α:Type}(x y:α):(if(!true)=true then x else y)=y:=rfl
theorem ifTF{α:Type}(x y:α):(if true=false then x else y)=y:=rfl
theorem ifFT{α:Type}(x y:α):(if false=true then x else y)=y:=rfl
theorem zcs0(l:List aF)(hl:l.length<=4294967296):zb5 l=some (l.mergeSort λ x y=>!decide (ltP y x)):=by unfold zb5;rw[za6 hl];congr 2
theorem zde7{l:List aF}{i:Nat}(h:i+1<l.length):l.take (i+2)=l.take i++[l.getD i aF.zero,l.getD (i+1) aF.zero]:=by rw[eX (by omega),eX (by omega),dE];congr 1;rw[bO,bR (by omega),bO,bR h];rfl
theorem zbQ9{l:List aF}{i:Nat}(h:i<l.length):l.take (i+1)=l.take i++[l.getD i aF.zero]:=by rw[eX h];congr 1;rw[bO,bR h];rfl
theorem zbR0{l:List aF}{i:Nat}(h:i+1<l.length):dst (l.take (i+2))=if l.getD i aF.zero=l.getD (i+1) aF.zero then dst (l.take (i+1))else dst (l.take (i+1))++[l.getD (i+1) aF.zero]:=by rw[zde7 h,zcr9,<-zbQ9 (by omega)]
theorem zbs3{l m:List aF}{i j:Nat}(h:l.drop i=m.drop i)(hij:i<=j):l.getD j aF.zero=m.getD j aF.zero:=by
 have e:∀x:List aF,x.getD j aF.zero=(x.drop i).getD (j-i) aF.zero:=λ x=>by rw[bO,bO,dJ,show i+(j-i)=j by omega]
 rw[e l,e m,h]
theorem zbY1(a:List aF)(g:Nat)(hg:1<=g)(hgl:g<a.length)(hl:a.length<=1000000)(he:a.getD g aF.zero=a.getD (g-1) aF.zero)(hd:dst (a.take g)=a.take g):
  ∃x,zc0 (zt8 a g) ((g:Int),1,a)=some x/\∃k:Nat,x.1=(k:Int)/\x.2.length=a.length/\k<=a.length/\x.2.take k=dst a:=by
 refine zap9 (λ s=>∃k k2:Nat,s.1=(k:Int)/\s.2.1=(k2:Int)/\s.2.2.length=a.length/\1<=k2/\g+k2<=a.length/\k+1<=g+k2/\s.2.2.take k=dst (a.take (g+k2))/\s.2.2.drop (g+k2-1)=a.drop (g+k2-1)) (λ s=>(a.length-s.2.1.toNat)) _ ?_ _ ?_
 .rintro⟨k,k2,s⟩ ⟨kn,k2n,h1,h2,h3,h4,h5,h6,h7,h8⟩;simp only at h1 h2 h3 h7 h8;subst h1;subst h2;unfold zt8
  by_cases hlt:g+k2n<a.length
  .left;have w:IntKind.i64.wrap ((k2n:Int)-1)=((k2n-1:Nat):Int):=by rw[zj5 (by omega) (by omega)];omega
   have w2:IntKind.i64.wrap ((k2n:Int)+1)=((k2n+1:Nat):Int):=by rw[zj5 (by omega) (by omega)];omega
   have w3:IntKind.i64.wrap ((kn:Int)+1)=((kn+1:Nat):Int):=by rw[zj5 (by omega) (by omega)];omega
   have r1:s.getD (g+k2n) aF.zero=a.getD (g+k2n) aF.zero:=zbs3 h8 (by omega);have r2:s.getD (g+(k2n-1)) aF.zero=a.getD (g+(k2n-1)) aF.zero:=zbs3 h8 (by omega);have hdt:=zbR0 (l:=a) (i:=g+(k2n-1)) (by omega);rw[show g+(k2n-1)+2=g+(k2n+1)by omega,show g+(k2n-1)+1=g+k2n by omega]at hdt;simp only[Int.toNat_natCast,w,w2,w3];rw[bM (by simp;omega),za6 (by omega),za6 (by omega),r1,r2]
   by_cases hne:a.getD (g+k2n) aF.zero=a.getD (g+(k2n-1)) aF.zero
   .refine⟨((kn:Int),((k2n+1:Nat):Int),s),by rw[bL (by simp only[hne,bV,cW,bN,fS])],⟨kn,k2n+1,rfl,rfl,h3,by omega,by omega,by omega,?_,?_⟩,by simp only[Int.toNat_natCast];omega⟩
    .simp only;rw[h7,hdt,bM hne.symm]
    .simp only;rw[show g+(k2n+1)-1=(g+k2n-1)+1 by omega,<-eN,<-eN,h8]
   .rw[bM (by simpa using hne),za6 (by omega),za6 (by omega)];refine⟨(((kn+1:Nat):Int),((k2n+1:Nat):Int),s.set kn (a.getD (g+k2n) aF.zero)),rfl,⟨kn+1,k2n+1,rfl,rfl,by simp[h3],by omega,by omega,by omega,?_,?_⟩,by simp only[Int.toNat_natCast];omega⟩
    .simp only;rw[hdt,bL (λ e=>hne e.symm),<-h7,zbQ9 (by rw[dP];omega),iA (by omega),zav7 _ _ _ _ (by omega)]
    .simp only;rw[jD (by omega),show g+(k2n+1)-1=(g+k2n-1)+1 by omega,<-eN,<-eN,h8]
  .right;refine⟨((kn:Int),s),by simp only[Int.toNat_natCast];rw[bL (by simp;omega)],kn,rfl,h3,by omega,?_⟩;simp only;rw[h7,dG (by omega)]
 .refine⟨g,1,rfl,rfl,rfl,by omega,by omega,by omega,?_,rfl⟩;simp only;have hdt:=zbR0 (l:=a) (i:=g-1) (by omega);rw[show g-1+2=g+1 by omega,show g-1+1=g by omega,bM he.symm,hd]at hdt;exact hdt.symm
theorem zcC5(a:List aF)(hl:a.length<=1000000):∃r,za2 a=some (dst a,r):=by
 unfold za2
 by_cases h2:a.length<2
 .rw[bM (by simp;omega)];refine⟨a,?_⟩;have:dst a=a:=by
   match a,h2 with
   |[],_=>rfl
   |[x],_=>rfl
   |x::y::t,h=>simp at h;omega
  rw[this]
 .rw[bL (by simp;omega)];obtain⟨x,hx,hp⟩:=zap9 (body:=zq7 a) (λ g=>∃n:Nat,g=(n:Int)/\1<=n/\n<=a.length/\dst (a.take n)=a.take n) (λ g=>a.length-g.toNat)
   (λ x=>match x with|.inl _=>dst a=a|.inr z=>z.1=dst a) (by
    rintro g ⟨n,rfl,h1,h3,h4⟩;unfold zq7
    by_cases hlt:n<a.length
    .have w:IntKind.i64.wrap ((n:Int)-1)=((n-1:Nat):Int):=by rw[zj5 (by omega) (by omega)];omega
     have w2:IntKind.i64.wrap ((n:Int)+1)=((n+1:Nat):Int):=by rw[zj5 (by omega) (by omega)];omega
     rw[bM (by simp;omega),za6 (by omega),w,w2,za6 (by omega)];simp only[Int.toNat_natCast]
     by_cases he:a.getD n aF.zero=a.getD (n-1) aF.zero
     .right;obtain⟨x,hx,k,hk1,hk2,hk3,hk4⟩:=zbY1 a n h1 hlt hl he h4;rw[bM (bZ he),za6 (by omega),hx];obtain⟨x1,x2⟩:=x;simp only at hk1 hk2 hk4;subst hk1;rw[Option.bind_some];unfold zy3;simp only[Int.toNat_natCast];rw[za6 (by omega),za6 (by omega)];refine⟨_,rfl,?_⟩;simp only;rw[eZ,dE,eH (by simp;omega),iJ,Nat.min_self,hk4]
     .left;refine⟨((n+1:Nat):Int),by rw[bL (by simpa using he)],⟨n+1,rfl,by omega,by omega,?_⟩,by simp only[Int.toNat_natCast];omega⟩;have hdt:=zbR0 (l:=a) (i:=n-1) (by omega);rw[show n-1+2=n+1 by omega,show n-1+1=n by omega,bL (λ e=>he e.symm),h4,<-zbQ9 hlt]at hdt;exact hdt
    .right;refine⟨.inl (),by rw[bL (by simp;omega)],?_⟩;simp only;rw[dG (by omega)]at h4;exact h4) 1 ⟨1,rfl,by omega,by omega,by
      match a,h2 with
      |x::t,_=>simp[dst]⟩
  rw[hx];cases x with
  |inl u=>simp only at hp;refine⟨a,?_⟩;rw[hp];rfl
  |inr z=>simp only at hp;refine⟨z.2,?_⟩;rw[<-hp];rfl
theorem zaF7(l:List aF)(hl:l.length<=1000000):zq5 l=some (zbk2 l):=by unfold zq5;rw[za6 (by omega),zcs0 l (by omega),Option.bind_some];obtain⟨r,h⟩:=zcC5 (l.mergeSort λ x y=>!decide (ltP y x)) (by rw[List.length_mergeSort];exact hl);rw[h];simp only[Option.bind_some];rw[zcP6 (zcj5 l) λ x=>List.mem_mergeSort]
theorem zde8(l:List aF)(p:aF)(hl:l.length<=1000000):za8 l p=some (decide (p∈l)):=by
 unfold za8 za4;have key:zc0 (zs5 l p) 0=some ((zC2 (λ i=>if p=l.getD i aF.zero then some (Sum.inr (i:Int))else none) l.length 0).getD (Sum.inl ())):=by
  refine zD5 l.length _ (Sum.inl ()) (λ i hi=>?_) ?_
  .unfold zs5;rw[bM (by simpa using hi),za6 (by omega),zj5 (by omega) (by omega)];simp only[Int.toNat_natCast,bQ];split<;>rfl
  .unfold zs5;rw[bL (by simp)]
 rw[key];have fr:∀k i,i+k=l.length->(p∈l.drop i->∃j:Nat,zC2 (λ i=>if p=l.getD i aF.zero then some (Sum.inr (α:=Unit) (i:Int))else none) k i=some (.inr (j:Int)))/\(p∉l.drop i->zC2 (λ i=>if p=l.getD i aF.zero then some (Sum.inr (α:=Unit) (i:Int))else none) k i=none):=by
  intro k;induction k with
  |zero=>intro i hi;rw[fD (by omega)];simp[zC2]
  |succ k ih=>
   intro i hi;obtain⟨h1,h2⟩:=ih (i+1) (by omega);rw[zan2 l i aF.zero (by omega)];simp only[zC2]
   by_cases hp:p=l.getD i aF.zero
   .rw[<-hp];simp only[bS,bY,true_or,forall_const,not_true,iG,gV];exact⟨i,rfl⟩
   .simp only[hp,bU,bY,iF];exact⟨h1,h2⟩
 obtain⟨h1,h2⟩:=fr l.length 0 (by omega);rw[eZ]at h1 h2
 by_cases hp:p∈l
 .obtain⟨j,hj⟩:=h1 hp;rw[hj];simp only[Option.getD_some,Option.bind_some,hp,bV,cJ,bQ];omega
 .rw[h2 hp];simp only[Option.getD_none,Option.bind_some,hp,dL];rfl
theorem zah8(l:List aF)(p:aF)(hl:l.length<=1000000):zi9 l p=some (decide (p∈l)):=by unfold zi9;rw[zde8 l p hl];rfl
theorem zaP5(l:List aF)(p:aF)(hl:l.length<=1000000):ze1 l p=some (decide (p∈l)):=by
 unfold ze1;have key:=zad7 (body:=zP5 l p) l aF.zero (λ i (_:Unit)=>(i:Int)) (λ _ x _=>some (if x=p then .inr (Sum.inr true)else .inl ())) (λ _=>Sum.inl (β:=Bool) ())
  (λ i s hi=>by
   unfold zP5;have h3:0<=(i:Int)/\(i:Int)<(l.length:Int):=by omega
   simp only[h3.1,h3.2,cP,zk1,bV,bS,Int.toNat_natCast,zd0 i (by omega),Option.map_some,bQ];split<;>rfl)
  (λ s=>by unfold zP5;simp) ()
 rw[show(0:Int)=(λ(i:Nat) (_:Unit)=>(i:Int)) 0 ()from rfl,key];have fold:∀(l:List aF) (i:Nat),walk (λ _ x (_:Unit)=>some (if x=p then .inr (Sum.inr true)else .inl ())) (λ _=>Sum.inl (β:=Bool) ()) l i ()=some (if p∈l then .inr true else .inl ()):=by
  intro l;induction l with
  |nil=>intro i;simp[walk]
  |cons x t ih=>
   intro i;simp only[walk]
   by_cases e:x=p
   .subst e;simp
   .simp only[e,bU,bY,λ h:p=x=>e h.symm,iF];rw[ih];have:¬p=x:=λ h=>e h.symm;simp[this]
 rw[fold]
 by_cases hp:p∈l<;>simp[hp,zam2]
theorem zbR1(q:aA)(h1:q.aH.length<=1000)(h2:q.aT.length<=1000):zt6 q=some ((ordQ q).map (·.aI)):=by
 unfold zt6;rw[zba5 q (by omega) (by omega),Option.bind_some];have hl:(q.aH++q.aT).length<=2000:=by rw[bP];omega
 show _=some ((q.aH++q.aT).map (·.aI));generalize q.aH++q.aT=l at hl;have key:=zv6 (body:=zW2 l) l aM.zero (λ i (s:List aF)=>((i:Int),s)) (λ i h s=>some (.inl (zaO2 s (some h.aI)))) (λ s=>s) (λ i s=>s.length<=i)
  (λ i s hi hs=>by
   refine⟨?_,λ s' h=>?_⟩
   .unfold zW2;have h1:s.length+1<=4294967296:=by omega
    have h3:0<=(i:Int)/\(i:Int)<(l.length:Int):=by omega
    simp only[h1,h3.1,h3.2,cP,zk1,bV,bS,Int.toNat_natCast,zd0 i (by omega),Option.map_some,wmap,zaO2]
   .simp only[cJ,dQ]at h;subst h;simp[zaO2];omega)
  (λ s hs=>by unfold zW2;simp) [] (by simp)
 rw[show((0,[]):Int×List aF)=(λ(i:Nat) (s:List aF)=>((i:Int),s)) 0 []from rfl,key,zaO3 (λ h:aM=>some h.aI)];simp[zas8]
theorem zbn5(l:List aO)(hl:l.length<=1000000):zd1 l=some (l.map (·.aI)):=by have e:zd1 l=zh3 l:=rfl;rw[e];exact zde2 l hl
def zu6(q:aA):List aF:=zbk2 (q.aL.map (·.aI)++(ordQ q).map (·.aI))
theorem zaq5(q:aA)(h0:q.aL.length<=1000)(h1:q.aH.length<=1000)(h2:q.aT.length<=1000):zz1 q=some (zu6 q):=by
 unfold zz1 zu6;have hl:(ordQ q).length<=2000:=by unfold ordQ;rw[bP];omega
 rw[zbn5 _ (by omega),Option.bind_some,zbR1 q h1 h2,Option.bind_some,za6 (by simp;omega),zaF7 _ (by simp;omega)];rfl
theorem zae5{q:aA}(h:SoundP q){p:aF}:p∈zu6 q↔hasQ q p=true:=by unfold zu6;rw[zbf2,cF,zdp1 h,or_comm]
theorem SoundP.lens{q:aA}(h:SoundP q):q.aL.length<=8/\q.aH.length<=8/\q.aT.length<=8/\zL5 q<=16:=by have:=h.cl;have:=h.wl;have:=zad9 h.hv;unfold zL5;omega
theorem zbY2{q:aA}(h:SoundP q):ze7 q=!canQ q:=by unfold ze7;rw[(zbn4 q).2 h,cA];rfl
theorem zbx2(g:aA×List aO)(hs:SoundP g.1)(hg:g.2.length<=1000000):zI7 g=some (if canQ g.1=true then .inl (zaO8 g)else .inr g):=by
 unfold zI7;rw[zaO7,Option.bind_some,zbY2 hs];cases hc:canQ g.1 with
 |false=>simp
 |true=>
  obtain⟨h1,_,hl⟩:=zah7 hc;rw[bM (by simp),zbk1,Option.bind_some,bM rfl];unfold zaO8 popQ
  by_cases h0:0<g.1.aH.length
  .rw[bM (by simpa using h0),za6 (by omega),bM h0];unfold zP9;rw[zaq0 _ _ _ (by simp only;omega),Option.bind_some,za6 (by omega)]
  .rw[bL (by simpa using h0),bL h0];have hw:0<g.1.aT.length:=by unfold zL5 at h1;omega
   rw[za6 (by omega)];unfold zP9;rw[zaq0 _ _ _ (by simp only;omega),Option.bind_some,za6 (by omega)]
theorem zbx3{q:aA}(h:SoundP q):zC9 q=some (advS q,advG q):=by
 unfold zC9;have hl:=h.lens;rw[zaF3,Option.bind_some,(zbn4 q).2 h,bL (by decide),zaj7 q (by omega) (by omega) (by omega),Option.bind_some];have key:=zbP0 (body:=zI7) (λ g=>SoundP g.1/\zL5 g.1+g.2.length<=1000) (λ g=>zL5 g.1) (λ g=>advN (zL5 g.1) g) (λ g hg=>by
  rw[zbx2 g hg.1 (by omega)];cases hc:canQ g.1 with
  |false=>right;rw[bL (by decide),zaO9,bL (by rw[hc];decide)]
  |true=>
   left;obtain⟨h1,h2,_⟩:=zah7 hc;refine⟨zaO8 g,by rw[bM rfl],⟨hg.1.pop hc,?_⟩,?_,?_⟩
   .unfold zaO8;simp only[bP,List.length_cons,List.length_nil];omega
   .show zL5 (popQ g.1)<zL5 g.1;omega
   .rw[zaO9 g,bM hc]) (q,[]) ⟨h,by simp only[List.length_nil];omega⟩
 rw[key];rfl
theorem zX2{q:aA}(h:SoundP q):zv4 q=some (zt2 q):=by unfold zv4;rw[zbx3 h,Option.bind_some,zdo8];rfl
theorem zcs1(p:aF)(pr:Int):(((!(zb6 p))||(decide (pr<0)))||(decide (7<pr)))=!zba9 p pr:=by
 unfold zba9;generalize zb6 p=b;rw[cI];cases b
 .simp
 .simp
theorem zaj8(q:aA)(h:zL5 q<=1000):zr7 q=some (advG q,advS q):=zbw8 q h
theorem zbR2(q:aA)(p:aF)(a:aC)(pr:Int):zJ3 q p a pr=some (zy0 q p a pr):=by
 unfold zJ3 zy0;rw[zae1,Option.bind_some];cases h1:ze7 q with
 |false=>rfl
 |true=>
  obtain⟨hs,hcan⟩:=(zp4 q).1 h1;have hl:=hs.lens;rw[ifNT,ifTF,zcs1];cases h2:zba9 p pr with
  |false=>rfl
  |true=>
   rw[ifNT,ifTF];cases h3:zb0 q.aB a with
   |false=>rfl
   |true=>
    rw[ifNT,ifTF,zal5 q p (by omega) (by omega),Option.bind_some];cases h4:(zt0 q p).2 with
    |true=>rfl
    |false=>
     rw[ifFT,ifFT,zbw7 q (by omega) (by omega) (by omega),Option.bind_some,zJ8 q p (by omega),Option.bind_some,zat9,Option.bind_some];cases h5:covA q.aB (getH q.aL p) a with
     |true=>rfl
     |false=>
      rw[ifFT,ifFT]
      by_cases h6:getH q.aL p=aC.zero
      .rw[bL (by rw[(zX0 _).2 h6];decide),bL (show¬getH q.aL p≠aC.zero fromλ k=>k h6),zj5 (by omega) (by omega)]
       by_cases h7:8<=q.aL.length+q.aT.length
       .rw[bM (by simp;omega),bM h7];rfl
       .rw[bL (by simp;omega),bL h7,zbP4,Option.bind_some];have hi:=zcI2 hs h3 h2 h4 (p:=p) (a:=a) (pr:=pr) (by omega);have e:({aM.zero with aI:=p,aK:=a,aV:=pr}:aM)=⟨p,a,pr,0⟩:=rfl;rw[e,hi,bL (by simp)];have hsc:=hs.claimW h3 h2 h4 h6 (by omega) (p:=p) (a:=a) (pr:=pr);have hl2:=hsc.lens;unfold zF4 zd7 zT5;rw[za6 (by decide),Option.bind_some];have hq:(⟨(⟨q.aB.name,q.aB.kind,q.aB.aU,q.aB.home⟩:aD),q.aL,q.aH,(claimW q p a pr).aT,q.gen⟩:aA)=claimW q p a pr:=rfl;simp only[hq];rw[zaj8 _ (by omega)];simp only[Option.bind_some];unfold zt2;rw[(zaS4 (claimW q p a pr)).1]
        try rfl
      .rw[bM (by rw[(zae4 _).2 h6];rfl),bM h6];have hsc:=hs.claimC h3 h4 h5 h6;have hl2:=hsc.lens;unfold zI6 zv8 zV8;rw[za6 (by decide),zbQ0,Option.bind_some,za6 (by omega),Option.bind_some];have hq:(⟨(⟨q.aB.name,q.aB.kind,q.aB.aU,q.aB.home⟩:aD),q.aL,q.aH++[{aM.zero with aI:=p,aK:=zae3 q.aB (getH q.aL p) a}],q.aT,q.gen⟩:aA)=claimC q p a:=rfl;simp only[hq];rw[zaj8 _ (by omega)];simp only[Option.bind_some];unfold zt2;rw[(zaS4 (claimC q p a)).1]
       try rfl
theorem zbR3(q:aA)(p:aF)(a:aC)(pr:Int):zC1 q p a pr=some (zy0 q p a pr):=by
 unfold zC1 zy0;rw[zae2,Option.bind_some];cases h1:ze7 q with
 |false=>rfl
 |true=>
  obtain⟨hs,hcan⟩:=(zp4 q).1 h1;have hl:=hs.lens;rw[ifNT,ifTF,zaO5,zcs1];cases h2:zba9 p pr with
  |false=>rfl
  |true=>
   rw[ifNT,ifTF,zbe5];cases h3:zb0 q.aB a with
   |false=>rfl
   |true=>
    rw[ifNT,ifTF,zS4 q p (by omega) (by omega),Option.bind_some];cases h4:(zt0 q p).2 with
    |true=>rfl
    |false=>
     rw[ifFT,ifFT,zbE7 q (by omega) (by omega) (by omega),Option.bind_some,zx5 q p (by omega),Option.bind_some];have hcv:zk3 q.aB (getH q.aL p) a=covA q.aB (getH q.aL p) a:=rfl;rw[hcv];cases h5:covA q.aB (getH q.aL p) a with
     |true=>rfl
     |false=>
      rw[ifFT,ifFT,zaB4]
      by_cases h6:getH q.aL p=aC.zero
      .rw[bL (by rw[(zX0 _).2 h6];decide),bL (show¬getH q.aL p≠aC.zero fromλ k=>k h6),zj5 (by omega) (by omega)]
       by_cases h7:8<=q.aL.length+q.aT.length
       .rw[bM (by simp;omega),bM h7];rfl
       .rw[bL (by simp;omega),bL h7,zbE5,Option.bind_some];have hi:=zcI2 hs h3 h2 h4 (p:=p) (a:=a) (pr:=pr) (by omega);have e:({aM.zero with aI:=p,aK:=a,aV:=pr}:aM)=⟨p,a,pr,0⟩:=rfl;rw[e,hi,bL (by simp)];have hsc:=hs.claimW h3 h2 h4 h6 (by omega) (p:=p) (a:=a) (pr:=pr);have hq:(⟨(⟨q.aB.name,q.aB.kind,q.aB.aU,q.aB.home⟩:aD),q.aL,q.aH,(claimW q p a pr).aT,q.gen⟩:aA)=claimW q p a pr:=rfl;simp only[hq];rw[zX2 hsc];rfl
      .rw[bM (by rw[(zae4 _).2 h6];rfl),bM h6];have hsc:=hs.claimC h3 h4 h5 h6;rw[zbY0,Option.bind_some,za6 (by omega)];have hq:(⟨(⟨q.aB.name,q.aB.kind,q.aB.aU,q.aB.home⟩:aD),q.aL,q.aH++[{aM.zero with aI:=p,aK:=zae3 q.aB (getH q.aL p) a}],q.aT,q.gen⟩:aA)=claimC q p a:=rfl;rw[hq,zX2 hsc];rfl
theorem zbE8(q:aA)(p:aF):zF6 q p=some (zw7 q p):=by
 unfold zF6 zw7;rw[zae1,Option.bind_some];cases h1:ze7 q with
 |false=>rfl
 |true=>
  obtain⟨hs,hcan⟩:=(zp4 q).1 h1;have hl:=hs.lens;rw[ifNT,ifTF,zal5 q p (by omega) (by omega),Option.bind_some];cases h4:(zt0 q p).2 with
  |false=>rfl
  |true=>
   rw[ifNT,ifTF,zaF4 q (by omega) (by omega) (by omega),Option.bind_some];have hsc:=hs.cancel p;have hl2:=hsc.lens;unfold zF5 zf3 zg8 zT6;rw[za6 (by decide),zaq1 _ _ (by omega),Option.bind_some,Option.bind_some,za6 (by decide),zaq1 _ _ (by simp only;omega),Option.bind_some,Option.bind_some];have hq:({{q with aH:=rmL q.aH p}with aT:=rmL q.aT p}:aA)=zM1 q p:=rfl;simp only[hq];rw[zaj8 _ (by omega)];simp only[Option.bind_some];unfold zt2;rw[(zaS4 (zM1 q p)).1]
   try rfl
theorem zbE9(q:aA)(p:aF):zL2 q p=some (zw7 q p):=by
 unfold zL2 zw7;rw[zae2,Option.bind_some];cases h1:ze7 q with
 |false=>rfl
 |true=>
  obtain⟨hs,hcan⟩:=(zp4 q).1 h1;have hl:=hs.lens;rw[ifNT,ifTF,zS4 q p (by omega) (by omega),Option.bind_some];cases h4:(zt0 q p).2 with
  |false=>rfl
  |true=>rw[ifNT,ifTF,zaj7 q (by omega) (by omega) (by omega),Option.bind_some,zal4 _ _ (by omega),Option.bind_some,zal4 _ _ (by simp only;omega),Option.bind_some];have hq:({{q with aH:=rmL q.aH p}with aT:=rmL q.aT p}:aA)=zM1 q p:=rfl;simp only[hq];rw[zX2 (hs.cancel p)];rfl
theorem zcP7{q:aA}(hs:SoundP q){p:aF}(hz:getH q.aL p≠aC.zero):decide (0<=zM0 q.aH p)=(zt0 q p).2:=by
 rw[cI,zbs1,bQ];constructor
 .intro h;refine eK λ hno=>?_;have:∀w∈q.aH,w.aI≠p:=λ w hw e=>hno ⟨w,cO _ hw,e⟩;exact zbw4.2 this h
 .rintro⟨w,hw,e⟩;rcases cF.1 hw with hw|hw
  .refine eK λ hno=>?_;exact zbw4.1 hno w hw e
  .exact absurd (by rw[<-e];exact(hs.wg w hw).2) hz
theorem zbR4(q:aA)(p:aF)(a:aC):zJ4 q p a=some (zv0 q p a):=by
 unfold zJ4 zv0;rw[zae1,Option.bind_some];cases h1:ze7 q with
 |false=>rfl
 |true=>
  obtain⟨hs,hcan⟩:=(zp4 q).1 h1;have hl:=hs.lens;rw[ifNT,ifTF,zJ8 q p (by omega),Option.bind_some]
  by_cases h6:getH q.aL p=aC.zero
  .rw[bM ((zX0 _).2 h6),bM h6];rfl
  .rw[bL (by rw[(zae4 _).2 h6];decide),bL h6,zah6 _ _ (by omega),Option.bind_some,zcP7 hs h6];cases h4:(zt0 q p).2 with
   |true=>rfl
   |false=>
    rw[ifFT,ifFT,zat9,Option.bind_some];cases h5:covA q.aB (getH q.aL p) a with
    |false=>rfl
    |true=>
     rw[ifNT,ifTF,zaF4 q (by omega) (by omega) (by omega),Option.bind_some]
     by_cases h7:getH q.aL p=a
     .rw[bM (by simp[h7]),bM h7]
     .rw[bL (by simpa usingλ e=>h7 e.symm),bL h7];have hsc:=hs.lower h4 h6 h5;have hl2:=hsc.lens;unfold zF7 zq4 zT7;rw[za6 (by decide),zad8 _ _ _ (by omega),Option.bind_some,Option.bind_some];have hq:({q with aL:=setL q.aL p a}:aA)=zaa7 q p a:=rfl;simp only[hq];rw[zaj8 _ (by omega)];simp only[Option.bind_some];unfold zt2;rw[(zaS4 (zaa7 q p a)).1]
      try rfl
theorem zbR5(q:aA)(p:aF)(a:aC):zO3 q p a=some (zv0 q p a):=by
 unfold zO3 zv0;rw[zae2,Option.bind_some];cases h1:ze7 q with
 |false=>rfl
 |true=>
  obtain⟨hs,hcan⟩:=(zp4 q).1 h1;have hl:=hs.lens;rw[ifNT,ifTF,zx5 q p (by omega),Option.bind_some,zaB4]
  by_cases h6:getH q.aL p=aC.zero
  .rw[bM ((zX0 _).2 h6),bM h6];rfl
  .rw[bL (by rw[(zae4 _).2 h6];decide),bL h6,zS4 q p (by omega) (by omega),Option.bind_some];cases h4:(zt0 q p).2 with
   |true=>rfl
   |false=>
    have hcv:zk3 q.aB (getH q.aL p) a=covA q.aB (getH q.aL p) a:=rfl;rw[ifFT,ifFT,hcv];cases h5:covA q.aB (getH q.aL p) a with
    |false=>rfl
    |true=>
     rw[ifNT,ifTF,zaj7 q (by omega) (by omega) (by omega),Option.bind_some]
     by_cases h7:getH q.aL p=a
     .rw[bM (by simp[h7]),bM h7]
     .rw[bL (by simpa using h7),bL h7,zaq0 _ _ _ (by omega),Option.bind_some];have hq:({q with aL:=setL q.aL p a}:aA)=zaa7 q p a:=rfl;simp only[hq];rw[zX2 (hs.lower h4 h6 h5)];rfl
theorem zbF0(q:aA)(p:aF):zF9 q p=some (zw1 q p):=by
 unfold zF9 zw1;rw[zae1,Option.bind_some];cases h1:ze7 q with
 |false=>rfl
 |true=>
  obtain⟨hs,hcan⟩:=(zp4 q).1 h1;have hl:=hs.lens;have hpl:(zu6 q).length<=1000000:=by have:=zcd4 (q.aL.map (·.aI)++(ordQ q).map (·.aI));unfold zu6;unfold ordQ at*;simp only[bP,cH]at this;omega
  rw[ifNT,ifTF,zaq5 q (by omega) (by omega) (by omega),Option.bind_some,zah8 _ _ hpl,Option.bind_some];have he:decide (p∈zu6 q)=hasQ q p:=by rw[cI,bQ,zae5 hs]
  rw[he];cases h4:hasQ q p with
  |false=>rfl
  |true=>
   rw[ifNT,ifTF,zaF4 q (by omega) (by omega) (by omega),Option.bind_some];have hsc:=hs.del p;have hl2:=hsc.lens;unfold zF8 zn2 zf5 zf4 zT8;rw[za6 (by decide),zad8 _ _ _ (by omega),Option.bind_some,Option.bind_some,za6 (by decide),zaq1 _ _ (by simp only;omega),Option.bind_some,Option.bind_some,za6 (by decide),zaq1 _ _ (by simp only;omega),Option.bind_some,Option.bind_some];have hz:setL q.aL p ({aC.zero with})=zs3 p q.aL:=bM rfl;have hq:({{{q with aL:=zs3 p q.aL}with aH:=rmL q.aH p}with aT:=rmL q.aT p}:aA)=del q p:=rfl;simp only[hz,hq];rw[zaj8 _ (by omega)];simp only[Option.bind_some];unfold zt2;rw[(zaS4 (del q p)).1]
   try rfl
theorem zaq6(q:aA)(p:aF)(h0:q.aL.length<=1000000)(h1:q.aH.length<=1000000)(h2:q.aT.length<=1000000):zq3 q p=some (hasQ q p):=by unfold zq3 hasQ;rw[zS4 q p h1 h2,Option.bind_some,zx5 q p (by omega)];cases h:(zt0 q p).2<;>simp[zaB4]
theorem zbF1(q:aA)(p:aF):zL4 q p=some (zw1 q p):=by
 unfold zL4 zw1;rw[zae2,Option.bind_some];cases h1:ze7 q with
 |false=>rfl
 |true=>
  obtain⟨hs,hcan⟩:=(zp4 q).1 h1;have hl:=hs.lens;rw[ifNT,ifTF,zaq6 q p (by omega) (by omega) (by omega),Option.bind_some];cases h4:hasQ q p with
  |false=>rfl
  |true=>rw[ifNT,ifTF,zaj7 q (by omega) (by omega) (by omega),Option.bind_some,zaq0 _ _ _ (by omega),Option.bind_some,zal4 _ _ (by simp only;omega),Option.bind_some,zal4 _ _ (by simp only;omega),Option.bind_some];have hz:setL q.aL p ({aC.zero with})=zs3 p q.aL:=bM rfl;have hq:({{{q with aL:=zs3 p q.aL}with aH:=rmL q.aH p}with aT:=rmL q.aT p}:aA)=del q p:=rfl;simp only[hz,hq];rw[zX2 (hs.del p)];rfl
def zaK5(x:aA×List aO×Int):Prop:=x.1.aL.length<=8/\x.1.aH.length<=8/\x.1.aT.length<=8/\x.2.1.length<=16
theorem zbf4(e:Int):zaK5 (errQ e):=by unfold zaK5 errQ aA.zero;simp
theorem zaj9{q:aA}(h:SoundP q):zaK5 (zt2 q):=by have h1:=(h.adv).lens;have h2:=zde5 q;have h3:=h.lens;exact⟨h1.1,h1.2.1,h1.2.2.1,by show(advG q).length<=16;omega⟩
theorem zbR6{q:aA}(h:SoundP q):zaK5 (q,[],0):=by have h1:=h.lens;exact⟨h1.1,h1.2.1,h1.2.2.1,by simp⟩
theorem zcC6{q:aA}{p:aF}{a:aC}{pr:Int}(h:(zy0 q p a pr).2.2≠0):∃e,zy0 q p a pr=errQ e:=by
 unfold zy0 at h⊢;split;· exact⟨_,rfl⟩
 split;· exact⟨_,rfl⟩
 split;· exact⟨_,rfl⟩
 split;· exact⟨_,rfl⟩
 rename_i h1 h2 h3 h4;rw[bL h1,bL h2,bL h3,bL h4]at h;split
 .rename_i h5;rw[bM h5]at h;exact absurd rfl h
 rename_i h5;rw[bL h5]at h;split
 .rename_i h6;rw[bM h6]at h;exact absurd rfl h
 rename_i h6;rw[bL h6]at h;split
 .exact⟨_,rfl⟩
 .rename_i h7;rw[bL h7]at h;exact absurd rfl h
theorem zcs2{q:aA}{p:aF}(h:(zw7 q p).2.2≠0):∃e,zw7 q p=errQ e:=by
 unfold zw7 at h⊢;split;· exact⟨_,rfl⟩
 split;· exact⟨_,rfl⟩
 rename_i h1 h2;rw[bL h1,bL h2]at h;exact absurd rfl h
theorem zcs3{q:aA}{p:aF}(h:(zw1 q p).2.2≠0):∃e,zw1 q p=errQ e:=by
 unfold zw1 at h⊢;split;· exact⟨_,rfl⟩
 split;· exact⟨_,rfl⟩
 rename_i h1 h2;rw[bL h1,bL h2]at h;exact absurd rfl h
theorem zcC7{q:aA}{p:aF}{a:aC}(h:(zv0 q p a).2.2≠0):∃e,zv0 q p a=errQ e:=by
 unfold zv0 at h⊢;split;· exact⟨_,rfl⟩
 split;· exact⟨_,rfl⟩
 split;· exact⟨_,rfl⟩
 split;· exact⟨_,rfl⟩
 rename_i h1 h2 h3 h4;rw[bL h1,bL h2,bL h3,bL h4]at h;split
 .rename_i h5;rw[bM h5]at h;exact absurd rfl h
 .rename_i h5;rw[bL h5]at h;exact absurd rfl h
theorem zaS7(q:aA)(p:aF)(a:aC)(pr:Int):zaK5 (zy0 q p a pr):=by
 by_cases h:(zy0 q p a pr).2.2=0
 .obtain⟨hs,_,_,_,_,hh⟩:=zau1 h;rcases hh with⟨_,e⟩|⟨_,_,e,hc⟩|⟨_,_,_,e,hc⟩
  .rw[e];exact zbR6 hs
  .rw[e];exact zaj9 hc
  .rw[e];exact zaj9 hc
 .obtain⟨e,he⟩:=zcC6 h;rw[he];exact zbf4 e
theorem zaK6(q:aA)(p:aF):zaK5 (zw7 q p):=by
 by_cases h:(zw7 q p).2.2=0
 .obtain⟨_,_,_,e,hc⟩:=zZ1 h;rw[e];exact zaj9 hc
 .obtain⟨e,he⟩:=zcs2 h;rw[he];exact zbf4 e
theorem zaK7(q:aA)(p:aF):zaK5 (zw1 q p):=by
 by_cases h:(zw1 q p).2.2=0
 .obtain⟨_,_,_,e,hc⟩:=zaS5 h;rw[e];exact zaj9 hc
 .obtain⟨e,he⟩:=zcs3 h;rw[he];exact zbf4 e
theorem zaS8(q:aA)(p:aF)(a:aC):zaK5 (zv0 q p a):=by
 by_cases h:(zv0 q p a).2.2=0
 .obtain⟨hs,_,_,_,_,hh⟩:=zaa1 h;rcases hh with⟨_,e⟩|⟨_,e,hc⟩
  .rw[e];exact zbR6 hs
  .rw[e];exact zaj9 hc
 .obtain⟨e,he⟩:=zcC7 h;rw[he];exact zbf4 e
theorem zcC8(n m:Int)(h1:1<=m)(h2:m<=1000000):zo2 n m=some (n% m):=by
  unfold zo2;rw[bL (by simp;omega),gdp (by omega)];have hlt:n.tmod m<m:=Int.tmod_lt_of_pos n (by omega);have hgt:-m<n.tmod m:=by have:=Int.lt_tmod_of_pos n (show 0<m by omega);omega
  have e:n% m=if n.tmod m<0 then n.tmod m+m else n.tmod m:=by
    rw[Int.emod_eq_tmod]
    by_cases h3:0<=n\/m∣n
    · rw[bM h3]
      have:0<=n.tmod m:=by
        rcases h3 with h|h
        .exact Int.tmod_nonneg m h
        .rw[Int.tmod_eq_zero_of_dvd h];omega
      rw[bL (by omega)];omega
    · rw[bL h3]
      simp only[not_or]at h3;have h5:0<=(-n).tmod m:=Int.tmod_nonneg m (by omega);rw[Int.neg_tmod]at h5;have h6:n.tmod m≠0:=λ h=>h3.2 (Int.dvd_of_tmod_eq_zero h);rw[bM (by omega)];omega
  rw[e]
  by_cases hc:n.tmod m<0
  .rw[bM (by simpa using hc),bM hc,zj5 (by omega) (by omega)]
  .rw[bL (by simpa using hc),bL hc]
def zdr5(n:Int):Int:=zR7.getD (n% 8).toNat 0
def amtM(r:aD)(n:Int):aC:=if r.kind=1 then⟨zdr5 n,0⟩else⟨0,1+n% r.aU⟩
theorem zcj6(n:Int):zp2 n=some (zdr5 n):=by unfold zp2;have hl:(zR7.length:Int)=8:=rfl;have h1:0<=n% 8:=kA _ (by decide);have h2:n% 8<8:=jI _ (by decide);rw[hl,zcC8 n 8 (by decide) (by decide),Option.bind_some,gdp ⟨h1,h2⟩];rfl
theorem zaq7(r:aD)(n:Int)(hr:zd3 r=true):zo8 r n=some (amtM r n):=by
  rw[zG2]at hr;unfold zo8 amtM
  by_cases hk:r.kind=1
  .simp only[hk,bV,bS,zcj6,Option.bind_some];rfl
  · simp only[hk,dL,bN,bU]
    rw[zcC8 n r.aU (by omega) (by omega),Option.bind_some];have h1:0<=n% r.aU:=kA _ (by omega);have h2:n% r.aU<r.aU:=jI _ (by omega);rw[zj5 (by omega) (by omega)];rfl
structure TapeOk (t:bB):Prop where
  len:t.l.length<=1000000
  at_:0<=t.at_/\t.at_<=t.l.length
def zX7(m:Int)(t:bB):Int:=if(t.l.length:Int)<=t.at_ then 0 else(t.l.getD t.at_.toNat 0)% m
def zO5(t:bB):bB:=if(t.l.length:Int)<=t.at_ then t else{t with at_:=t.at_+1}
theorem zA2(m:Int)(t:bB)(ht:TapeOk t)(h1:1<=m)(h2:m<=1000000):zb4 m t=some (zX7 m t,zO5 t):=by
  unfold zb4 zX7 zO5;have hl:=ht.len;have ha:=ht.at_
  by_cases h:(t.l.length:Int)<=t.at_
  .simp only[h,bV,bS]
  · simp only[h,dL,bN,bU]
    have w1:IntKind.i64.wrap (t.at_+1)=t.at_+1:=zj5 (by omega) (by omega);have w2:IntKind.i64.wrap (t.at_+1-1)=t.at_:=by rw[zj5 (by omega) (by omega)];omega
    simp only[w1,w2];rw[gdp (by omega),zcC8 _ m h1 h2];rfl
theorem zy2{t:bB}(h:TapeOk t):TapeOk (zO5 t):=by
  unfold zO5;split
  .exact h
  .have:=h.at_;exact⟨h.len,by simp only;omega⟩
theorem zdp3(t:bB):(zO5 t).l=t.l:=by unfold zO5;split<;>rfl
theorem zU5(m:Int)(t:bB)(h1:1<=m):0<=zX7 m t/\zX7 m t<m:=by
  unfold zX7;split
  .omega
  .exact⟨kA _ (by omega),jI _ (by omega)⟩
def zH2:Nat->bB->bB
  |0,t=>t
  |n+1,t=>zH2 n (zO5 t)
theorem zak0:∀(n:Nat) {t:bB},TapeOk t->TapeOk (zH2 n t)
  |0,_,h=>h
  |n+1,_,h=>zak0 n (zy2 h)
def catL(t:bB):List aD:=
  [⟨⟨#[97]⟩,1,1,zX7 4 t⟩,⟨⟨#[98]⟩,1,1,zX7 4 (zO5 t)⟩,⟨⟨#[99]⟩,1,1,zX7 4 (zH2 2 t)⟩,⟨⟨#[100]⟩,1,1,zX7 4 (zH2 3 t)⟩,
   ⟨⟨#[112]⟩,2,1+zX7 8 (zH2 4 t),zX7 4 (zH2 5 t)⟩,⟨⟨#[113]⟩,2,1+zX7 3 (zH2 6 t),zX7 4 (zH2 7 t)⟩]
theorem zcC9(t:bB)(ht:TapeOk t):zj7 t=some (zH2 8 t,catL t):=by
  unfold zj7;have hlit:(zp3.length:Int)=4:=rfl;have step:∀(i:Nat) (u:bB) (l:List aD),i<4->TapeOk u->l.length<=10->zG6 ((i:Int),u,l)=some (.inl ((i:Int)+1,zO5 u,l++[⟨zp3.getD i (⟨#[]⟩),1,1,zX7 4 u⟩])):=by
    intro i u l hi hu hl;unfold zG6;have h1:(i:Int)<4:=by omega
    have h0:0<=(i:Int):=by omega
    simp only[hlit,h1,h0,cP,zk1,bV,bS];rw[zA2 4 u hu (by decide) (by decide),Option.bind_some,gdp (by omega),zj5 (by omega) (by omega)];simp only[Int.toNat_natCast]
  have s0:=step 0 t [] (by decide) ht (by simp);have o1:=zy2 ht;have s1:=step 1 (zO5 t) [⟨zp3.getD 0 (⟨#[]⟩),1,1,zX7 4 t⟩] (by decide) o1 (by simp);have o2:=zy2 o1;have s2:=step 2 (zO5 (zO5 t)) ([⟨zp3.getD 0 (⟨#[]⟩),1,1,zX7 4 t⟩]++[⟨zp3.getD 1 (⟨#[]⟩),1,1,zX7 4 (zO5 t)⟩]) (by decide) o2 (by simp);have o3:=zy2 o2;have s3:=step 3 (zO5 (zO5 (zO5 t))) ([⟨zp3.getD 0 (⟨#[]⟩),1,1,zX7 4 t⟩]++[⟨zp3.getD 1 (⟨#[]⟩),1,1,zX7 4 (zO5 t)⟩]++[⟨zp3.getD 2 (⟨#[]⟩),1,1,zX7 4 (zO5 (zO5 t))⟩]) (by decide) o3 (by simp);have o4:=zy2 o3;have s4:∀u l,zG6 ((4:Int),u,l)=some (.inr (u,l)):=λ u l=>by unfold zG6;simp[hlit]
  rw[zg9,show((0:Int),t,([]:List aD))=(((0:Nat):Int),t,[])from rfl,s0];simp only[List.nil_append];rw[zg9,show((0:Nat):Int)+1=((1:Nat):Int)from rfl,s1];simp only;rw[zg9,show((1:Nat):Int)+1=((2:Nat):Int)from rfl,s2];simp only;rw[zg9,show((2:Nat):Int)+1=((3:Nat):Int)from rfl,s3];simp only;rw[zg9,show((3:Nat):Int)+1=(4:Int)from rfl,s4];simp only[Option.bind_some];unfold zai6;have o5:=zy2 o4;have o6:=zy2 o5;have o7:=zy2 o6;have w8:=zU5 8 (zO5 (zO5 (zO5 (zO5 t)))) (by decide);have w3:=zU5 3 (zO5 (zO5 (zO5 (zO5 (zO5 (zO5 t)))))) (by decide);simp only;rw[zA2 8 _ o4 (by decide) (by decide),Option.bind_some];simp only;rw[zA2 4 _ o5 (by decide) (by decide),Option.bind_some,gdp (by simp)];simp only;rw[zA2 3 _ o6 (by decide) (by decide),Option.bind_some];simp only;rw[zA2 4 _ o7 (by decide) (by decide),Option.bind_some,gdp (by simp)];simp only;rw[zj5 (x:=1+zX7 8 _) (by omega) (by omega),zj5 (x:=1+zX7 3 _) (by omega) (by omega)];rfl
theorem zbC8(t:bB):∀r∈catL t,zd3 r=true:=by
  intro r hr;have w8:=zU5 8 (zH2 4 t) (by decide);have w3:=zU5 3 (zH2 6 t) (by decide);unfold catL at hr;simp only[bY,eE,iD]at hr;rw[zG2];rcases hr with rfl|rfl|rfl|rfl|rfl|rfl
  .exact .inl ⟨rfl,rfl⟩
  .exact .inl ⟨rfl,rfl⟩
  .exact .inl ⟨rfl,rfl⟩
  .exact .inl ⟨rfl,rfl⟩
  .exact .inr ⟨rfl,by simp only;omega,by simp only;omega⟩
  .exact .inr ⟨rfl,by simp only;omega,by simp only;omega⟩
theorem zcD0(t:bB):∀r∈catL t,resV r=true:=by
 intro r hr;have w8:=zU5 8 (zH2 4 t) (by decide);have w3:=zU5 3 (zH2 6 t) (by decide);have hs:=zbC8 t r hr;unfold resV;rw[hs,cA];have hm:∀u:bB,(decide (0<=zX7 4 u)&&decide (zX7 4 u<4))=true:=λ u=>by have:=zU5 4 u (by decide);simp;exact this
 unfold catL at hr;simp only[bY,eE,iD]at hr;have n1:zW8 ⟨#[97]⟩=true:=by decide+kernel
 have n2:zW8 ⟨#[98]⟩=true:=by decide+kernel
 have n3:zW8 ⟨#[99]⟩=true:=by decide+kernel
 have n4:zW8 ⟨#[100]⟩=true:=by decide+kernel
 have n5:zW8 ⟨#[112]⟩=true:=by decide+kernel
 have n6:zW8 ⟨#[113]⟩=true:=by decide+kernel
 rcases hr with rfl|rfl|rfl|rfl|rfl|rfl<;>simp only[n1,n2,n3,n4,n5,n6,hm,iH]
def zV5(r:aD):aA:={aA.zero with aB:=r}
theorem zbR7{r:aD}(h:resV r=true):zd3 r=true:=by unfold resV at h;simp only[bK]at h;exact h.2.1
theorem zcs4{r:aD}(h:resV r=true):SoundP (zV5 r):=
 ⟨h,zcB9 (zbR7 h),by simp[zV5,aA.zero],.nil,by simp[zV5,aA.zero],by show zR6 []=true;decide,by simp[zV5,aA.zero],by simp[zV5,aA.zero],by simp[zV5,aA.zero]⟩
theorem zbY3{r:aD}(h:resV r=true):ze7 (zV5 r)=true:=by rw[zp4];exact⟨zcs4 h,rfl⟩
theorem zbR8{q:aA}(h:ze7 q=true):zd3 q.aB=true:=zbR7 ((zp4 q).1 h).1.res
theorem zaC8{α:Type}{l:List α}{i:Nat}{z:α}(h:i<l.length):l.take (i+1)=l.take i++[l.getD i z]:=by rw[eX h,bO,bR h];rfl
theorem zo6{q:aA}(h:ze7 q=true):q.aL.length<=8/\q.aH.length<=8/\q.aT.length<=8/\zL5 q<=16:=((zp4 q).1 h).1.lens
theorem zcP8(q:aA)(l:List aF)(p:aF):remS q (l++[p])=remN (remS q l) p:=by unfold remS;rw[iN];rfl
theorem zcs5{q:aA}(h:ze7 q=true){p:aF}(hp:hasQ q p=true):(zw1 q p).2.2=0/\(zw1 q p).1=remN q p:=by
 have e:=zaS6 h hp;have h0:(zw1 q p).2.2=0:=by rw[e];rfl
 refine⟨h0,?_⟩;unfold remN;rw[bM h0]
theorem zbx4:∀x:List UInt8,Op.bytesLess x x=false
 |[]=>rfl
 |a::x=>by simp[Op.bytesLess,zbx4 x]
theorem zcs6:∀{x y z:List UInt8},Op.bytesLess x y=true->Op.bytesLess y z=true->Op.bytesLess x z=true
 |x,[],z,h1,_=>by cases x<;>simp[Op.bytesLess]at h1
 |x,b::y,[],_,h2=>by simp[Op.bytesLess]at h2
 |[],b::y,c::z,_,_=>by simp[Op.bytesLess]
 |a::x,b::y,c::z,h1,h2=>by
  simp only[Op.bytesLess,dT,bK,bQ,dA]at h1 h2⊢;rcases h1 with h1|⟨rfl,h1⟩
  .rcases h2 with h2|⟨rfl,h2⟩
   .exact .inl (UInt8.lt_trans h1 h2)
   .exact .inl h1
  .rcases h2 with h2|⟨rfl,h2⟩
   .exact .inl h2
   .exact .inr ⟨rfl,zcs6 h1 h2⟩
def ltN(a b:ByteArray):Prop:=Op.bytesLess a.toList b.toList=true
instance(a b:ByteArray):Decidable (ltN a b):=by unfold ltN;infer_instance
theorem zbx5{a b:ByteArray}(h:ltN a b):a≠b:=λ e=>by unfold ltN at h;rw[e,zbx4]at h;cases h
theorem zbx6{a b c:ByteArray}(h:ltN a b)(k:ltN b c):ltN a c:=zcs6 h k
def AscN(t:List aA):Prop:=t.Pairwise λ a b=>ltN a.aB.name b.aB.name
def ascW:List aA->Option ByteArray->Bool
 |[],_=>true
 |q::t,pv=>ze7 q&&((match pv with|none=>true|some n=>decide (ltN n q.aB.name))&&ascW t (some q.aB.name))
theorem zbR9:∀(t:List aA) (pv:Option ByteArray),ascW t pv=true↔(∀q∈t,ze7 q=true)/\AscN t/\∀n,pv=some n->∀q∈t,ltN n q.aB.name
 |[],pv=>by simp only[ascW,eE,iG,fI,gV,fX,kG];exact .nil
 |q::t,pv=>by
  simp only[ascW,bK];rw[zbR9 t (some q.aB.name)];constructor
  .rintro⟨h1,h2,h3,h4,h5⟩;refine⟨λ x hx=>?_,cG.2 ⟨λ x hx=>h5 _ rfl x hx,h4⟩,λ n hn x hx=>?_⟩
   .rcases bY.1 hx with rfl|hx
    .exact h1
    .exact h3 x hx
   .subst hn;simp only[bQ]at h2;rcases bY.1 hx with rfl|hx
    .exact h2
    .exact zbx6 h2 (h5 _ rfl x hx)
  .rintro⟨h1,h2,h3⟩;have h2':=cG.1 h2;refine⟨h1 q (.head _),?_,λ x hx=>h1 x (.tail _ hx),h2'.2,λ n hn x hx=>by cases hn;exact h2'.1 x hx⟩;cases pv with
   |none=>rfl
   |some n=>exact bZ (h3 n rfl q (.head _))
def zbn6(t:List aA):Bool:=decide (t.length<=8)&&ascW t none
def zl7(t:List aA):List aF:=zbk2 (t.flatMap zu6)
def zH4(t:List aA):Bool:=zbn6 t&&decide ((zl7 t).length<=8)
structure ValidT (t:List aA):Prop where
 len:t.length<=8
 each:∀q∈t,ze7 q=true
 asc:AscN t
 bJ:(zl7 t).length<=8
theorem zbS0(t:List aA):zbn6 t=true↔t.length<=8/\(∀q∈t,ze7 q=true)/\AscN t:=by unfold zbn6;rw[bK,bQ,zbR9];simp
theorem zs4(t:List aA):zH4 t=true↔ValidT t:=by unfold zH4;rw[bK,bQ,zbS0];exact⟨λ⟨⟨h1,h2,h3⟩,h4⟩=>⟨h1,h2,h3,h4⟩,λ⟨h1,h2,h3,h4⟩=>⟨⟨h1,h2,h3⟩,h4⟩⟩
theorem zcd5{α:Type}(prev t:List α)(z:α)(h:prev≠[]):(prev++t).getD (prev.length-1) z=prev.getLast h:=by have hp:0<prev.length:=gP.2 h;rw[bO,cY (by omega),bR (by omega),List.getLast_eq_getElem];rfl
theorem zcD1(t0:List aA):∀(t prev:List aA),t0=prev++t->
  walk (λ i q (_:Unit)=>some (if ze7 q=true/\(i=0\/ltN (t0.getD (i-1) aA.zero).aB.name q.aB.name)then Sum.inl ()else Sum.inr (Sum.inr (α:=Unit) false))) (λ _=>Sum.inl (β:=Bool) ()) t prev.length ()=
   some (if ascW t (prev.getLast?.map (·.aB.name))=true then .inl ()else .inr false):=by
 intro t;induction t with
 |nil=>intro prev _;simp[walk,ascW]
 |cons q t ih=>
  intro prev ht;simp only[walk];have hq:(prev.length=0\/ltN (t0.getD (prev.length-1) aA.zero).aB.name q.aB.name)↔(match prev.getLast?.map (·.aB.name)with|none=>true|some n=>decide (ltN n q.aB.name))=true:=by
   by_cases hp:prev=[]
   .subst hp;simp
   .have h1:=zcd5 prev (q::t) aA.zero hp;rw[ht,h1,jA hp];have:prev.length≠0:=λ e=>hp (cL e);simp[this]
  by_cases e:ze7 q=true/\(prev.length=0\/ltN (t0.getD (prev.length-1) aA.zero).aB.name q.aB.name)
  .rw[bM e];have:=ih (prev++[q]) (by rw[ht];simp);rw[show(prev++[q]).length=prev.length+1 by simp]at this;simp only;have h2:ascW (q::t) (prev.getLast?.map (·.aB.name))=ascW t (some q.aB.name):=by simp only[ascW,e.1,hq.1 e.2,cA]
   rw[this,h2];simp
  .rw[bL e];rw[hq]at e;have hf:ascW (q::t) (prev.getLast?.map (·.aB.name))=false:=by
    rw[dO];intro hh;simp only[ascW,bK]at hh;exact e ⟨hh.1,hh.2.1⟩
   rw[hf];rfl
theorem zbS1{body:Int->Option (Int⊕(Unit⊕Bool))}(t:List aA)(hl:t.length<=8)
  (hb:∀i:Nat,i<t.length->body (i:Int)=some (if ze7 (t.getD i aA.zero)=true/\(i=0\/ltN (t.getD (i-1) aA.zero).aB.name (t.getD i aA.zero).aB.name)then .inl ((i+1:Nat):Int)else .inr (.inr false)))
  (he:body (t.length:Int)=some (.inr (.inl ()))):zc0 body 0=some (if ascW t none=true then .inl ()else .inr false):=by
 have key:=zad7 (body:=body) t aA.zero (λ i (_:Unit)=>(i:Int)) (λ i q _=>some (if ze7 q=true/\(i=0\/ltN (t.getD (i-1) aA.zero).aB.name q.aB.name)then Sum.inl ()else Sum.inr (Sum.inr (α:=Unit) false))) (λ _=>Sum.inl (β:=Bool) ())
  (λ i s hi=>by
   rw[hb i hi,Option.map_some];split<;>rfl) (λ s=>he) ()
 have:=zcD1 t t [] rfl;rw[show(0:Int)=(λ(i:Nat) (_:Unit)=>(i:Int)) 0 ()from rfl,key];exact this
theorem zbH7(t:List aA)(h:∀q∈t,ze7 q=true):(t.flatMap zu6).length<=24*t.length:=by
 induction t with
 |nil=>simp
 |cons q t ih=>
  have h1:=zo6 (h q (.head _));have h2:=zcd4 (q.aL.map (·.aI)++(ordQ q).map (·.aI));have h3:=ih λ x hx=>h x (.tail _ hx);have h4:(zu6 q).length<=24:=by unfold zu6;unfold ordQ at*;simp only[bP,cH]at h2;omega
  rw[eG,bP,List.length_cons];omega
theorem zbS2{α β X:Type}(f:α->List β)(fin:List β->X):∀(l:List α) (i:Nat) (s:List β),walk (λ _ a s=>some (.inl (s++f a))) fin l i s=some (fin (s++l.flatMap f))
 |[],i,s=>by simp[walk]
 |a::l,i,s=>by simp only[walk,eG];rw[zbS2 f fin l (i+1),dE]
theorem zh4{α:Type}{l:List α}{i:Nat}{z:α}(h:i<l.length):l.getD i z∈l:=by rw[bO,bR h];exact gT h
theorem zau5{q:aA}(h:ze7 q=true):(zu6 q).length<=24:=by
 have:=zbH7 [q] λ x hx=>by rw[dK]at hx;rw[hx];exact h
 simpa using this
theorem zaq8{t:List aA}(hl:t.length<=8)(h:∀q∈t,ze7 q=true):zx3 t=some (zl7 t):=by
 unfold zx3;have key:=zv6 (body:=zW5 t) t aA.zero (λ i (s:List aF)=>((i:Int),s)) (λ _ q s=>some (.inl (s++zu6 q))) (λ s=>s) (λ i s=>s.length<=24*i)
  (λ i s hi hs=>by
   have hq:=h _ (zh4 (z:=aA.zero) hi);have hql:=zo6 hq;have hpl:=zau5 hq;refine⟨?_,λ s' h=>?_⟩
   .unfold zW5;have h3:0<=(i:Int)/\(i:Int)<(t.length:Int):=by omega
    simp only[h3.1,h3.2,cP,zk1,bV,bS,Int.toNat_natCast];rw[zaq5 _ (by omega) (by omega) (by omega),Option.bind_some,za6 (by omega),zd0 i (by omega)];rfl
   .simp only[cJ,dQ]at h;subst h;rw[bP];omega)
  (λ s hs=>by unfold zW5;simp) [] (by simp)
 rw[show((0,[]):Int×List aF)=(λ(i:Nat) (s:List aF)=>((i:Int),s)) 0 []from rfl,key,zbS2 zu6,List.nil_append,Option.bind_some];unfold zat2;have:=zbH7 t h;rw[zaF7 _ (by omega)];rfl
theorem zaq9(t:List aA):zz3 t=some (zH4 t):=by
 unfold zz3 zH4 zbn6
 by_cases h8:8<t.length
 .have:¬t.length<=8:=by omega
  rw[bM (by simp;omega)];simp[this]
 .have hl:t.length<=8:=by omega
  rw[bL (by simp;omega),zbS1 t hl (λ i hi=>by
   unfold zag8;have h3:0<=(i:Int)/\(i:Int)<(t.length:Int):=by omega
   simp only[h3.1,h3.2,cP,zk1,bV,bS,Int.toNat_natCast,zae1,Option.bind_some,zd0 i (by omega)]
   by_cases e0:i=0
   .subst e0;rw[za6 (by simp)];cases ze7 (t.getD 0 aA.zero)<;>simp
   .rw[zan3 i (by omega) (by omega),za6 (by intro _;omega)];simp only[Int.toNat_natCast,show(0:Int)<(i:Int)by omega,bV,cA,e0,iF];unfold ltN;rcases hb (ze7 (t.getD i aA.zero))with b1|b1<;>rcases hb (Op.bytesLess (t.getD (i-1) aA.zero).aB.name.toList (t.getD i aA.zero).aB.name.toList)with b2|b2<;>simp[b1,b2,-List.getD_eq_getElem?_getD]) (by unfold zag8;simp)]
  simp only[hl,bV,cA];cases hw:ascW t none with
  |false=>rfl
  |true=>simp only[bS,Option.bind_some,cA];unfold zat4;rw[zaq8 hl ((zbR9 t none).1 hw).1,Option.bind_some];congr 1;rw[cI];simp;omega
theorem zcd6{α:Type}(l:List α)(z:α)(p:α->Bool){body:Int->Option (Int⊕(Unit⊕Int))}(hb:∀i:Nat,i<l.length->body (i:Int)=some (if p (l.getD i z)=true then .inr (.inr (i:Int))else .inl ((i+1:Nat):Int)))
  (he:body (l.length:Int)=some (.inr (.inl ()))):zc0 body 0=some (match l.findIdx? p with|some i=>.inr (i:Int)|none=>.inl ()):=by
 have key:=zad7 (body:=body) l z (λ i (_:Unit)=>(i:Int)) (λ i a _=>some (if p a=true then .inr (Sum.inr (α:=Unit) (i:Int))else .inl ())) (λ _=>Sum.inl (β:=Int) ())
  (λ i s hi=>by rw[hb i hi,Option.map_some];split<;>rfl) (λ s=>he) ()
 have fold:∀(l:List α) (i:Nat),walk (λ i a (_:Unit)=>some (if p a=true then .inr (Sum.inr (α:=Unit) (i:Int))else .inl ())) (λ _=>Sum.inl (β:=Int) ()) l i ()=some (match l.findIdx? p with|some j=>.inr ((i+j:Nat):Int)|none=>.inl ()):=by
  intro l;induction l with
  |nil=>intro i;rfl
  |cons a l ih=>
   intro i;simp only[walk,List.findIdx?_cons]
   by_cases hp:p a=true
   .simp[hp]
   .simp only[hp,bN,bU];rw[ih (i+1)];cases l.findIdx? p with
    |none=>rfl
    |some j=>simp only[Option.map_some];rw[show i+1+j=i+(j+1)by omega]
 have:=fold l 0;simp only[dC]at this;rw[show(0:Int)=(λ(i:Nat) (_:Unit)=>(i:Int)) 0 ()from rfl,key];exact this
def isN(nm:ByteArray)(q:aA):Bool:=q.aB.name.toList==nm.toList
theorem zcI6{nm:ByteArray}{q:aA}:isN nm q=true↔q.aB.name=nm:=by unfold isN;rw[dA];exact zL9
def zm5(t:List aA)(nm:ByteArray):Int:=match t.findIdx? (isN nm)with
 |some i=>i
 |none=>-1
theorem zaK8(t:List aA)(nm:ByteArray)(hl:t.length<=1000000):zj3 t nm=some (zm5 t nm):=by
 unfold zj3;rw[zcd6 t aA.zero (isN nm) (λ i hi=>by
  unfold zak7 isN;have h3:0<=(i:Int)/\(i:Int)<(t.length:Int):=by omega
  simp only[h3.1,h3.2,cP,zk1,bV,bS,Int.toNat_natCast,zd0 i (by omega)];split<;>rfl) (by unfold zak7;simp)]
 unfold zm5;cases t.findIdx? (isN nm)<;>rfl
theorem zak1{t:List aA}{nm:ByteArray}:zm5 t nm=-1\/∃i:Nat,zm5 t nm=i/\i<t.length/\(t.getD i aA.zero).aB.name=nm:=by
 unfold zm5;cases h:t.findIdx? (isN nm)with
 |none=>exact .inl rfl
 |some i=>right;obtain⟨h1,h2,_⟩:=List.findIdx?_eq_some_iff_getElem.1 h;refine⟨i,rfl,h1,?_⟩;rw[bO,bR h1];exact zcI6.1 h2
theorem zbH8{t:List aA}(h:AscN t){i j:Nat}(hi:i<t.length)(hj:j<t.length)(e:(t.getD i aA.zero).aB.name=(t.getD j aA.zero).aB.name):i=j:=by
 have hp:=fP.1 h;have g:∀k,(hk:k<t.length)->t.getD k aA.zero=t[k]:=λ k hk=>by rw[bO,bR hk];rfl
 rw[g i hi,g j hj]at e;rcases Nat.lt_trichotomy i j with h1|h1|h1
 .exact absurd e (zbx5 (hp i j hi hj h1))
 .exact h1
 .exact absurd e.symm (zbx5 (hp j i hj hi h1))
theorem zar0{t:List aA}(h:AscN t){i:Nat}(hi:i<t.length):zm5 t (t.getD i aA.zero).aB.name=i:=by
 rcases zak1 (t:=t) (nm:=(t.getD i aA.zero).aB.name)with h1|⟨j,h1,h2,h3⟩
 .unfold zm5 at h1;cases hf:t.findIdx? (isN (t.getD i aA.zero).aB.name)with
  |some k=>rw[hf]at h1;simp only at h1;omega
  |none=>have:=List.findIdx?_eq_none_iff.1 hf (t.getD i aA.zero) (zh4 hi);rw[dO]at this;exact absurd (zcI6.2 rfl) this
 .rw[h1,zbH8 h h2 hi h3]
end Ab
end Go.Proofs.YtdlfhmkmnjbihaaGreatDoor
