import Derived.Test.YtdlfhmkmnjbihaaGreatDoorQueF
import Derived.Test.YtdlfhmkmnjbihaaGreatDoorHm32
namespace Go.Proofs.YtdlfhmkmnjbihaaGreatDoor
namespace Ab
set_option linter.unusedVariables false
set_option linter.unusedSimpArgs false
def optI(o:Option Nat):Int:=match o with
 |some i=>(i:Int)
 |none=>-1
theorem zdk5(l:List aM)(p:aF):zQ7 l p=optI (zao5 p l 0):=rfl
theorem zdB4(o:Option Nat):optI (o.map (·+1))=if 0<=optI o then optI o+1 else-1:=by
 cases o with
 |none=>rfl
 |some n=>have h:(0:Int)<=optI (some n):=Int.natCast_nonneg n;rw[bO h];exact Int.natCast_succ n
theorem zbA8{l:List aM}:(∀i,i<l.length->zQ7 l (l.getD i aM.zero).aI=i)↔(l.map (·.aI)).Nodup:=by
 induction l with
 |nil=>simp
 |cons w l ih=>
  rw[cX,gS];have shift:∀p i,zao5 p l (i+1)=(zao5 p l i).map (·+1):=by
   intro p
   clear ih
   induction l with
   |nil=>intro i;rfl
   |cons x l ih=>intro i;simp only[zao5];split<;>simp[ih]
  have hcons:∀i,zQ7 (w::l) (l.getD i aM.zero).aI=if w.aI=(l.getD i aM.zero).aI then 0 else if 0<=zQ7 l (l.getD i aM.zero).aI then zQ7 l (l.getD i aM.zero).aI+1 else-1:=λ i=>by
   simp only[zdk5,zao5,shift]
   by_cases h:w.aI=(l.getD i aM.zero).aI
   .simp[h,optI]
   .simp only[h,bV];exact zdB4 _
  constructor
  .intro h;have h1:∀i,i<l.length->w.aI≠(l.getD i aM.zero).aI/\zQ7 l (l.getD i aM.zero).aI=i:=λ i hi=>by
    have:=h (i+1) (by simpa using hi);rw[hB,hcons]at this;split at this
    .omega
    .rename_i hne;split at this
     .exact⟨hne,by omega⟩
     .omega
   refine⟨λ hm=>?_,ih.1 λ i hi=>(h1 i hi).2⟩;obtain⟨x,hx,he⟩:=cD.1 hm;obtain⟨i,hi,rfl⟩:=gV.1 hx;have:=(h1 i hi).1;rw[bS,bW hi]at this;exact this he.symm
  .rintro⟨h1,h2⟩ i hi;have h3:=ih.2 h2;cases i with
   |zero=>simp[zQ7,zao5]
   |succ i=>
    have hi':i<l.length:=by simpa using hi
    have hne:w.aI≠(l.getD i aM.zero).aI:=λ e=>h1 (cD.2 ⟨l.getD i aM.zero,by
     rw[bS,bW hi'];exact hX hi',e.symm⟩)
    rw[hB,hcons,bN hne,h3 i hi',bO (by omega)];omega
theorem zaG4(l:List aM):zS4 l=true↔l.length<=8/\(∀w∈l,zi4 w=true)/\(l.map (·.aI)).Nodup:=by
 unfold zS4;simp only[bM,bQ,cS,dH];constructor
 .rintro⟨h1,h2⟩;refine⟨h1,λ w hw=>?_,zbA8.1 λ i hi=>(h2 i hi).2⟩;obtain⟨i,hi,rfl⟩:=gV.1 hw;have:=(h2 i hi).1;rwa [bS,bW hi]at this
 .rintro⟨h1,h2,h3⟩;refine⟨h1,λ i hi=>⟨h2 _ ?_,zbA8.2 h3 i hi⟩⟩;rw[bS,bW hi];exact hX hi
theorem zct0{l:List aM}(p:aF)(h:zS4 l=true):zS4 (rmL l p)=true:=by rw[zaG4]at h⊢;refine⟨fG (zdO0 l p) h.1,λ w hw=>h.2.1 w ((dM.1 hw).1),?_⟩;exact(h.2.2).sublist ((eX).map _)
theorem zbR9(l:List aM)(w:aM):∀k i,zG6 l w k<=i->i<k->over w (l.getD i aM.zero)=true
 |k+1,i,h1,h2=>by
  unfold zG6 at h1;split at h1
  .rename_i ho
   by_cases hi:i=k
   .subst hi;exact ho
   .exact zbR9 l w k i h1 (by omega)
  .omega
theorem zdk6{l:List aM}{w e:aM}(h:e∈l.drop (zG6 l w l.length)):over w e=true:=by obtain⟨i,hi,rfl⟩:=gV.1 h;have:=zbR9 l w l.length (zG6 l w l.length+i) (by omega) (by simp at hi;omega);rw[List.getElem_drop];rwa [bS,bW (by simp at hi;omega)]at this
theorem zcf6{w e:aM}(h:zi4 e=true)(ho:over w e=true):zi4 (bump e)=true/\(bump e).bG=e.bG+1:=by
 have h1:=zbM6 h;have h2:e.bG<3:=by unfold over at ho;simp at ho;exact ho.2
 have h3:(bump e).bG=e.bG+1:=by unfold bump;simp only;rw[zk8 (by omega) (by omega)]
 refine⟨?_,h3⟩;unfold zi4 at h⊢;simp only[bM,bQ]at h⊢;rw[h3];exact⟨⟨h.1.1,by omega⟩,by omega⟩
theorem zcz4(l:List aM)(w:aM)(n:Nat):(zaM7 l w n).map (·.aI)=(l.take n).map (·.aI)++w.aI::(l.drop n).map (·.aI):=by unfold zaM7;rw[eE,cX,jJ];rfl
theorem zcV0{l:List aM}{w:aM}(h:zS4 l=true)(hw:zi4 w=true)(hne:∀e∈l,e.aI≠w.aI)(hl:l.length<8):zS4 (zaM7 l w (zG6 l w l.length))=true:=by
 rw[zaG4]at h⊢;have hn:=zbb6 l w l.length;have ho:=λ e=>zdk6 (l:=l) (w:=w) (e:=e);generalize zG6 l w l.length=n at hn ho;refine⟨by simp[zaM7];omega,λ e he=>?_,?_⟩
 .simp only[zaM7,cP,bX,cD]at he;rcases he with he|rfl|⟨x,hx,rfl⟩
  .exact h.2.1 e (jD he)
  .exact hw
  .exact(zcf6 (h.2.1 x (jE hx)) (ho x hx)).1
 .rw[zcz4];have h3:=h.2.2;rw[<-eC n l,eE]at h3;have hin:w.aI∉(l.take n).map (·.aI)++(l.drop n).map (·.aI):=by
   rw[<-eE,eC];intro hm;obtain⟨x,hx,he⟩:=cD.1 hm;exact hne x hx he
  exact(List.perm_middle.nodup_iff).2 (gS.2 ⟨hin,h3⟩)
theorem zcf7{p:aF}{l:List aT}{h:aT}:h∈zw0 p l↔h∈l/\h.aI≠p:=by unfold zw0;simp
theorem zdB5{l m:List aC}(h:l.Sublist m)(hn:∀a∈m,0<=a.aV):sumU l<=sumU m:=by
 induction h with
 |slnil=>exact kF _
 |cons a h ih=>have:=ih λ b hb=>hn b (.tail _ hb);have:=hn a (.head _);simp only[sumU];omega
 |cons_cons a h ih=>have:=ih λ b hb=>hn b (.tail _ hb);simp only[sumU];omega
theorem CompP.sub{r:aD}{l m:List aC}(h:CompP r m)(hs:l.Sublist m):CompP r l where
 perm:=λ a ha=>h.perm a (hs.subset ha)
 sum:=Int.le_trans (zdB5 hs λ a ha=>(zaf7 (h.perm a ha)).1) h.sum
 pair:=h.pair.sublist hs
theorem GoodP.sub{r:aD}{l m:List aT}(h:GoodP r m)(hs:l.Sublist m):GoodP r l:=⟨λ x hx=>h.each x (hs.subset hx),h.asc.sublist hs⟩
theorem zR3(r:aD)(l:List aT):zI5 r l=true↔zh1 r=true/\l.length<=8/\GoodP r l/\CompP r (l.map (·.aJ)):=by unfold zI5;simp
theorem zbA9{r:aD}{l m:List aT}(h:zI5 r m=true)(hs:l.Sublist m):zI5 r l=true:=by rw[zR3]at h⊢;exact⟨h.1,fG hs.length_le h.2.1,h.2.2.1.sub hs,h.2.2.2.sub (hs.map _)⟩
theorem zbB0(p:aF)(l:List aT):(zw0 p l).Sublist l:=eX
theorem zcV1{r:aD}(hr:zh1 r=true):zI5 r []=true:=by
 rw[zR3];have:1<=r.aV:=by rw[zH0]at hr;omega
 exact⟨hr,by simp,⟨by simp,.nil⟩,⟨by simp,by simp[sumU];omega,.nil⟩⟩
theorem zbN0(p:aF)(a:aC)(l:List aT):(insP p a l).Perm (⟨p,a⟩::l):=by
 induction l with
 |nil=>exact iT _
 |cons h t ih=>
  simp only[insP];split
  .exact iT _
  .exact(List.Perm.cons h ih).trans (List.Perm.swap _ _ _)
theorem zcJ2{p:aF}{a:aC}:∀{l:List aT},l.Pairwise (λ a b=>ltP a.aI b.aI)->(∀h∈l,h.aI≠p)->(insP p a l).Pairwise λ a b=>ltP a.aI b.aI
 |[],_,_=>by simp[insP]
 |h::t,hp,hn=>by
  rw[cL]at hp;simp only[insP];split
  .rename_i hlt;rw[cL];refine⟨λ x hx=>?_,cL.2 hp⟩;rcases bX.1 hx with rfl|hx
   .exact hlt
   .exact zaG0 hlt (hp.1 x hx)
  .rename_i hlt;rw[cL];refine⟨λ x hx=>?_,zcJ2 hp.2 λ x hx=>hn x (.tail _ hx)⟩;rcases bX.1 ((zbN0 p a t).mem_iff.1 hx)with rfl|hx
   .rcases zaj6 (hn h (.head _))with h1|h1
    .exact h1
    .exact absurd h1 hlt
   .exact hp.1 x hx
theorem zbN1{l m:List aC}(h:l.Perm m):sumU l=sumU m:=by
 induction h with
 |nil=>rfl
 |cons a _ ih=>simp only[sumU,ih]
 |swap a b l=>simp only[sumU];omega
 |trans _ _ ih1 ih2=>exact ih1.trans ih2
theorem zbe8{a b:aC}(h:¬zau4 a b):¬zau4 b a:=λ⟨h1,h2,h3⟩=>h ⟨h2,h1,by rw[zbX0];exact h3⟩
theorem CompP.perm_iff{r:aD}{l m:List aC}(h:l.Perm m):CompP r l↔CompP r m:=by
 constructor
 .intro k;exact⟨λ a ha=>k.perm a (h.mem_iff.2 ha),by rw[<-zbN1 h];exact k.sum,(h.pairwise_iff (λ h=>zbe8 h)).1 k.pair⟩
 .intro k;exact⟨λ a ha=>k.perm a (h.mem_iff.1 ha),by rw[zbN1 h];exact k.sum,(h.pairwise_iff (λ h=>zbe8 h)).2 k.pair⟩
theorem zcJ3{r:aD}{l:List aT}{p:aF}{a:aC}(hv:zI5 r l=true)(hp:za3 p=true)(ha:zb4 r a=true)(hlen:(zw0 p l).length+1<=8):
  zaL1 r l p a=true↔(∀h∈zw0 p l,¬zau4 h.aJ a)/\a.aV+sumU ((zw0 p l).map (·.aJ))<=r.aV:=by
 have hv':=(zR3 r l).1 hv;have hz:=zW1 ha;have ho:=zbA9 hv (zbB0 p l);have ho':=(zR3 r _).1 ho;have hpr:zam0 r l p a=true:=by unfold zam0;simp[hv,hp,ha]
 have hpm:((insP p a (zw0 p l)).map (·.aJ)).Perm (a::(zw0 p l).map (·.aJ)):=(zbN0 p a (zw0 p l)).map _;unfold zaL1;rw[hpr,cA,zR3];unfold setL;rw[bN hz,CompP.perm_iff hpm];constructor
 .rintro⟨_,_,_,h4⟩;refine⟨λ h hh=>?_,h4.sum⟩;have:=(cL.1 h4.pair).1 h.aJ (cD.2 ⟨h,hh,rfl⟩);exact zbe8 this
 .rintro⟨h1,h2⟩;refine⟨hv'.1,by rw[zbG1];exact hlen,⟨λ x hx=>?_,zcJ2 ho'.2.2.1.asc λ h hh=>(zcf7.1 hh).2⟩,⟨λ b hb=>?_,h2,?_⟩⟩
  .rcases bX.1 ((zbN0 p a _).mem_iff.1 hx)with rfl|hx
   .exact⟨hp,ha⟩
   .exact ho'.2.2.1.each x hx
  .rcases bX.1 hb with rfl|hb
   .exact zK1 ha
   .exact ho'.2.2.2.perm b hb
  .rw[cL];refine⟨λ b hb=>?_,ho'.2.2.2.pair⟩;obtain⟨h,hh,rfl⟩:=cD.1 hb;exact zbe8 (h1 h hh)
theorem zbB1{α S X:Type}(f:S->α->S)(fin:S->X):∀(l:List α) (i:Nat) (s:S),walk (λ _ a s=>some (.inl (f s a))) fin l i s=some (fin (l.foldl f s))
 |[],_,_=>rfl
 |a::l,i,s=>by simp only[walk,List.foldl_cons];exact zbB1 f fin l (i+1) _
theorem zdB6(l:List aT)(hl:l.length<=1000000):zh0 l=some (l.map (·.aI)):=by
 unfold zh0;have key:=zv8 (body:=zU8 l) l aT.zero (λ i (s:List aF)=>((i:Int),s)) (λ i h s=>some (.inl (zbb3 s (some h.aI)))) (λ s=>s) (λ i s=>s.length<=i)
  (λ i s hi hs=>by
   refine⟨?_,λ s' h=>?_⟩
   .unfold zU8;have h1:s.length+1<=4294967296:=by omega
    have h3:0<=(i:Int)/\(i:Int)<(l.length:Int):=by omega
    simp only[h1,h3.1,h3.2,cN,zl3,bU,bT,Int.toNat_natCast,zc2 i (by omega),Option.map_some,wmap,zbb3]
   .simp only[cK,dW]at h;subst h;simp[zbb3];omega)
  (λ s hs=>by unfold zU8;simp) [] (by simp)
 rw[show((0,[]):Int×List aF)=(λ(i:Nat) (s:List aF)=>((i:Int),s)) 0 []from rfl,key,zbb4 (λ h:aT=>some h.aI)];simp[zax0]
theorem zdd0{α:Type}{P:α->Prop}{l:List α}{z:α}:(∀i,i<l.length->P (l.getD i z))↔∀w∈l,P w:=by
 constructor
 .intro h w hw;obtain⟨i,hi,rfl⟩:=gV.1 hw;have:=h i hi;rwa [bS,bW hi]at this
 .intro h i hi;refine h _ ?_;rw[bS,bW hi];exact hX hi
theorem zef1(p:aF):getH [] p=aC.zero:=rfl
theorem zX9(h:aT)(t:List aT)(p:aF):getH (h::t) p=if h.aI=p then h.aJ else getH t p:=by
 unfold getH;rw[List.find?_cons]
 by_cases e:h.aI=p<;>simp[e]
theorem zbc0(p:aF)(l:List aT):getH (zw0 p l) p=aC.zero:=by
 induction l with
 |nil=>rfl
 |cons h t ih=>
  rw[zaL0]
  by_cases e:h.aI=p
  .simp only[e,bT];exact ih
  .simp only[e,bV,zX9];exact ih
theorem zae8{p q:aF}(hq:q≠p)(l:List aT):getH (zw0 p l) q=getH l q:=by
 induction l with
 |nil=>rfl
 |cons h t ih=>
  rw[zaL0]
  by_cases e:h.aI=p
  .simp only[e,bT,zX9];rw[bN (λ e2=>hq e2.symm)];exact ih
  .simp only[e,bV,zX9];split
   .rfl
   .exact ih
theorem zbo4(p:aF)(a:aC):∀l:List aT,(∀h∈l,h.aI≠p)->getH (insP p a l) p=a
 |[],_=>by simp[insP,zX9]
 |h::t,hh=>by
  simp only[insP];split
  .simp[zX9]
  .simp only[zX9,hh h (.head _),bV];exact zbo4 p a t λ x hx=>hh x (.tail _ hx)
theorem zbG7{p q:aF}(a:aC)(hq:q≠p):∀l:List aT,getH (insP p a l) q=getH l q
 |[]=>by simp only[insP,zX9];rw[bN (λ e:p=q=>hq e.symm)]
 |h::t=>by
  simp only[insP];split
  .simp only[zX9];rw[bN (λ e:p=q=>hq e.symm)]
  .simp only[zX9];split
   .rfl
   .exact zbG7 a hq t
theorem zaR8(l:List aT)(p:aF)(a:aC):getH (setL l p a) p=a:=by
 unfold setL;split
 .rename_i h;rw[zbc0,h]
 .exact zbo4 p a _ λ h hh=>(zcf7.1 hh).2
theorem zJ7{p q:aF}(hq:q≠p)(l:List aT)(a:aC):getH (setL l p a) q=getH l q:=by
 unfold setL;split
 .exact zae8 hq l
 .rw[zbG7 a hq];exact zae8 hq l
theorem zaR9{l:List aT}{p:aF}(h:getH l p≠aC.zero):(⟨p,getH l p⟩:aT)∈l:=by
 induction l with
 |nil=>exact absurd rfl h
 |cons x t ih=>
  rw[zX9]at h|-
  by_cases e:x.aI=p
  .rw[bO e];subst e;exact .head _
  .rw[bN e]at h⊢;exact .tail _ (ih h)
theorem zcJ4{l:List aT}{p:aF}(h:∀x∈l,x.aI≠p):zw0 p l=l:=iO.2 λ x hx=>by simpa using h x hx
def Asc(l:List aT):Prop:=l.Pairwise λ a b=>ltP a.aI b.aI
theorem zbs7{r:aD}{l:List aT}(h:zI5 r l=true):Asc l:=((zR3 r l).1 h).2.2.1.asc
theorem zdB7{h:aT}{t:List aT}(k:Asc (h::t)):∀x∈t,x.aI≠h.aI:=λ x hx e=>by have:=(cL.1 k).1 x hx;rw[e]at this;exact zV8 _ this
theorem zcJ5{l:List aT}(h:Asc l){p:aF}(hp:getH l p≠aC.zero):l.Perm (⟨p,getH l p⟩::zw0 p l):=by
 induction l with
 |nil=>exact absurd rfl hp
 |cons x t ih=>
  rw[zX9]at hp⊢;rw[zaL0]
  by_cases e:x.aI=p
  .rw[bO e,bO e,zcJ4 (by rw[<-e];exact zdB7 h)];subst e;exact iT _
  .rw[bN e]at hp;rw[bN e,bN e];exact((ih (cL.1 h).2 hp).cons x).trans (List.Perm.swap _ _ _)
theorem zbN2{l:List aT}(h:Asc l){p:aF}(hp:getH l p≠aC.zero):(zw0 p l).length+1=l.length:=by
 have:=(zcJ5 h hp).length_eq
 simpa using this.symm
theorem zcJ6{l:List aT}(ha:Asc l){x:aT}(hx:x∈l):getH l x.aI=x.aJ:=by
 induction l with
 |nil=>cases hx
 |cons y t ih=>
  rw[zX9];rcases bX.1 hx with rfl|hx
  .rw[bO rfl]
  .rw[bN (λ e:y.aI=x.aI=>zdB7 ha x hx e.symm)];exact ih (cL.1 ha).2 hx
theorem zbs8{r:aD}{l:List aT}(h:zI5 r l=true)(p:aF):zc0 r (getH l p)=true:=by
 have hv:=(zR3 r l).1 h
 by_cases e:getH l p=aC.zero
 .rw[e,perm_iff];exact .inl ⟨hv.1,rfl⟩
 .exact zK1 (hv.2.2.1.each _ (zaR9 e)).2
theorem zae9(a:aC):zk5 a=true↔a=aC.zero:=by unfold zk5;simp
theorem zao8(a:aC):zk5 a=false↔a≠aC.zero:=by rw[<-gB,zae9]
structure SoundP (q:aA):Prop where
 res:resV q.aB=true
 hv:zI5 q.aB q.aL=true
 cl:q.aH.length<=8
 cn:(q.aH.map (·.aI)).Nodup
 cg:∀w∈q.aH,getH q.aL w.aI≠aC.zero/\zb4 q.aB w.aJ=true/\covA q.aB w.aJ (getH q.aL w.aI)=true/\w.aJ≠getH q.aL w.aI/\w.aX=0/\w.bG=0
 wv:zS4 q.aU=true
 wl:q.aL.length+q.aU.length<=8
 wg:∀w∈q.aU,zb4 q.aB w.aJ=true/\getH q.aL w.aI=aC.zero
 gen:0<=q.gen/\q.gen<=1073741824
theorem zbB2(q:aA):zaX6 q=true↔SoundP q:=by
 have hc:cvOk q=true↔q.aH.length<=8/\(q.aH.map (·.aI)).Nodup/\∀w∈q.aH,getH q.aL w.aI≠aC.zero/\zb4 q.aB w.aJ=true/\covA q.aB w.aJ (getH q.aL w.aI)=true/\w.aJ≠getH q.aL w.aI/\w.aX=0/\w.bG=0:=by
  unfold cvOk;rw[<-zbA8,<-zdd0 (z:=aM.zero)];simp only[bM,bQ,cS,dH,cvI,cQ,zao8,dA];constructor
  .rintro⟨h1,h2⟩;exact⟨h1,λ i hi=>(h2 i hi).1,λ i hi=>(h2 i hi).2⟩
  .rintro⟨h1,h2,h3⟩;exact⟨h1,λ i hi=>⟨h2 i hi,h3 i hi⟩⟩
 have hw:wtOk q=true↔zS4 q.aU=true/\q.aL.length+q.aU.length<=8/\∀w∈q.aU,zb4 q.aB w.aJ=true/\getH q.aL w.aI=aC.zero:=by unfold wtOk;rw[<-zdd0 (z:=aM.zero)];simp only[bM,bQ,cS,dH,wtI,zae9]
 unfold zaX6;simp only[bM,hc,hw,bQ];constructor
 .rintro⟨h1,h2,⟨h3,h4,h5⟩,⟨h6,h7,h8⟩,h9⟩;exact⟨h1,h2,h3,h4,h5,h6,h7,h8,h9⟩
 .rintro⟨h1,h2,h3,h4,h5,h6,h7,h8,h9⟩;exact⟨h1,h2,⟨h3,h4,h5⟩,⟨h6,h7,h8⟩,h9⟩
theorem SoundP.apart{q:aA}(h:SoundP q){c w:aM}(hc:c∈q.aH)(hw:w∈q.aU):c.aI≠w.aI:=λ e=>
 (h.cg c hc).1 (by rw[e];exact(h.wg w hw).2)
theorem SoundP.nodup{q:aA}(h:SoundP q):((q.aH++q.aU).map (·.aI)).Nodup:=by rw[eE,gU];refine⟨h.cn,((zaG4 _).1 h.wv).2.2,λ a ha b hb=>?_⟩;obtain⟨c,hc,rfl⟩:=cD.1 ha;obtain⟨w,hw,rfl⟩:=cD.1 hb;exact h.apart hc hw
inductive Pop (q:aA):Prop where
 |con (w:aM) (cs:List aM) (h:q.aH=w::cs) (hd:(zF6 q).1=w) (hr:zaL1 q.aB q.aL w.aI w.aJ=true) (hp:popQ q={q with aL:=setL q.aL w.aI w.aJ,aH:=cs})
 |wait (w:aM) (ws:List aM) (hc:q.aH=[]) (h:q.aU=w::ws) (hd:(zF6 q).1=w) (hr:zaL1 q.aB q.aL w.aI w.aJ=true) (hp:popQ q={q with aL:=setL q.aL w.aI w.aJ,aU:=ws})
theorem zcV2{q:aA}(h:canQ q=true):Pop q:=by
 unfold canQ at h;rw[bM]at h;obtain⟨h1,h2⟩:=h;cases hc:q.aH with
 |cons w cs=>
  have hd:(zF6 q).1=w:=by unfold zF6;rw[hc];rfl
  exact .con w cs hc hd (by rw[<-hd];exact h2) (by unfold popQ;rw[hd];simp[hc])
 |nil=>
  cases hw:q.aU with
  |cons w ws=>
   have hd:(zF6 q).1=w:=by unfold zF6;rw[hc,hw];rfl
   exact .wait w ws hc hw hd (by rw[<-hd];exact h2) (by unfold popQ;rw[hd];simp[hc,hw])
  |nil=>unfold zF6 at h1;rw[hc,hw]at h1;exact absurd h1 (by decide)
theorem zaG5{r:aD}{l:List aT}{p:aF}{a:aC}(h:zaL1 r l p a=true):zI5 r l=true/\za3 p=true/\zb4 r a=true/\zI5 r (setL l p a)=true:=by unfold zaL1 zam0 at h;simp only[bM]at h;exact⟨h.1.1,h.1.2.1,h.1.2.2,h.2⟩
theorem zct1{r:aD}{l:List aT}{p:aF}(a:aC)(h:zI5 r l=true)(hp:getH l p≠aC.zero):(setL l p a).length<=l.length:=by
 have:=zbN2 (zbs7 h) hp;unfold setL;split
 .omega
 .rw[zbG1];omega
theorem zcJ7{w:aM}{l:List aM}(h:zS4 (w::l)=true):zS4 l=true:=by rw[zaG4]at h⊢;obtain⟨h1,h2,h3⟩:=h;rw[cX,gS]at h3;exact⟨by simp at h1;omega,λ x hx=>h2 x (.tail _ hx),h3.2⟩
theorem SoundP.pop{q:aA}(h:SoundP q)(hc:canQ q=true):SoundP (popQ q):=by
 cases zcV2 hc with
 |con w cs he hd hr hp=>
  rw[hp];obtain⟨_,_,_,hv⟩:=zaG5 hr;have hn:w.aI∉cs.map (·.aI)/\(cs.map (·.aI)).Nodup:=by have:=h.cn;rw[he,cX,gS]at this;exact this
  have hw:=h.cg w (by rw[he];exact .head _);have hl:=zct1 w.aJ h.hv hw.1;have h8:=h.cl;rw[he,List.length_cons]at h8;refine⟨h.res,hv,by simp only;omega,hn.2,λ c hcc=>?_,h.wv,?_,λ x hx=>?_,h.gen⟩
  .have hne:c.aI≠w.aI:=λ e=>hn.1 (cD.2 ⟨c,hcc,e⟩);simp only[zJ7 hne];exact h.cg c (by rw[he];exact .tail _ hcc)
  .have:=h.wl;simp only;omega
  .have hne:x.aI≠w.aI:=λ e=>h.apart (c:=w) (by rw[he];exact .head _) hx e.symm;simp only[zJ7 hne];exact h.wg x hx
 |wait w ws hcn he hd hr hp=>
  rw[hp];obtain⟨_,_,_,hv⟩:=zaG5 hr;have hl:=zdB2 q.aL w.aI w.aJ;have h8:=h.wl;have hwv:=h.wv;rw[he]at h8 hwv;have hn:w.aI∉ws.map (·.aI):=by have:=((zaG4 _).1 hwv).2.2;rw[cX,gS]at this;exact this.1
  rw[List.length_cons]at h8;refine⟨h.res,hv,h.cl,h.cn,λ c hcc=>?_,zcJ7 hwv,by simp only;omega,λ x hx=>?_,h.gen⟩
  .rw[hcn]at hcc;cases hcc
  .have hne:x.aI≠w.aI:=λ e=>hn (cD.2 ⟨x,hx,e⟩);simp only[zJ7 hne];exact h.wg x (by rw[he];exact .tail _ hx)
theorem zbo5:∀(n:Nat) (q:aA) (l:List aT),advN n (q,l)=((advN n (q,[])).1,l++(advN n (q,[])).2)
 |0,q,l=>by simp[advN]
 |n+1,q,l=>by
  simp only[advN];split
  .unfold zbb8;simp only[List.nil_append];rw[zbo5 n (popQ q) (l++_),zbo5 n (popQ q) [_],bZ]
  .simp
def advS(q:aA):aA:=(advQ q).1
def advG(q:aA):List aT:=(advQ q).2
theorem zbs9(q:aA):advQ q=if canQ q=true then((advQ (popQ q)).1,⟨(zF6 q).1.aI,(zF6 q).1.aJ⟩::(advQ (popQ q)).2)else(q,[]):=by
 unfold advQ;rw[zbb9 (q,[])];show(if canQ q=true then advN (zP4 (popQ q)) (popQ q,[]++[_])else(q,[]))=_;split
 .rw[zbo5];rfl
 .rfl
theorem zaS0{q:aA}(h:canQ q=true):advS q=advS (popQ q):=by unfold advS;rw[zbs9 q,bO h]
theorem zbG8{q:aA}(h:canQ q=true):advG q=⟨(zF6 q).1.aI,(zF6 q).1.aJ⟩::advG (popQ q):=by unfold advG;rw[zbs9 q,bO h]
theorem zbo6{q:aA}(h:canQ q=false):advS q=q:=by unfold advS;rw[zbs9 q,h];rfl
theorem zbG9{q:aA}(h:canQ q=false):advG q=[]:=by unfold advG;rw[zbs9 q,h];rfl
theorem zbH0{P:aA->Prop}(h:∀q,canQ q=true->P q->P (popQ q)):∀q,P q->P (advS q):=by
 have key:∀n q,zP4 q=n->P q->P (advS q):=by
  intro n;induction n using Nat.strongRecOn with
  |_ n ih=>
   intro q hn hq;cases hc:canQ q with
   |false=>rw[zbo6 hc];exact hq
   |true=>rw[zaS0 hc];have:=(zas8 hc).2.1;exact ih (zP4 (popQ q)) (by omega) _ rfl (h q hc hq)
 exactλ q hq=>key _ q rfl hq
theorem zbH1{P:aA->Prop}(h0:∀q,canQ q=false->P q)(h:∀q,canQ q=true->P (popQ q)->P q):∀q,P q:=by
 have key:∀n q,zP4 q=n->P q:=by
  intro n;induction n using Nat.strongRecOn with
  |_ n ih=>
   intro q hn;cases hc:canQ q with
   |false=>exact h0 q hc
   |true=>have:=(zas8 hc).2.1;exact h q hc (ih (zP4 (popQ q)) (by omega) _ rfl)
 exactλ q=>key _ q rfl
theorem zdB8:∀q,canQ (advS q)=false:=by refine zbH1 (λ q h=>by rw[zbo6 h];exact h) λ q h ih=>by rw[zaS0 h];exact ih
theorem SoundP.adv{q:aA}(h:SoundP q):SoundP (advS q):=zbH0 (P:=SoundP) (λ _ hc h=>h.pop hc) q h
theorem zt4(q:aA):zi0 q=true↔SoundP q/\canQ q=false:=by unfold zi0;rw[bM,zbB2];show SoundP q/\(!canQ q)=true↔_;rw[cQ]
theorem zdB9:∀q,(advG q).length+zP4 (advS q)=zP4 q:=by
 refine zbH1 (λ q h=>by rw[zbo6 h,zbG9 h];simp) λ q h ih=>by rw[zaS0 h,zbG8 h,List.length_cons];have:=(zas8 h).2.1;omega
theorem zdO2(r:aD)(a b:aC):covA r a b=(!(!zc0 r a||!zc0 r b)&&(zk5 b||(!zk5 a&&(if r.kind=1 then covM a.mode b.mode else decide (b.aV<=a.aV))))):=by
 have e1:=zbs5 r a;have e2:=zbs5 r b;have e3:=zaN8 a;have e4:=zaN8 b;have h:covA r a b=(!(!zv3 r a||!zv3 r b)&&(zh5 b||(!zh5 a&&(if r.kind=1 then covM a.mode b.mode else decide (b.aV<=a.aV))))):=by
  unfold covA zq1;generalize(!zv3 r a||!zv3 r b)=x;generalize zh5 b=y;generalize zh5 a=z
  by_cases hk:r.kind=1<;>cases x<;>cases y<;>cases z<;>simp[hk]
 rw[h,e1,e2,e3,e4]
theorem zai8(r:aD)(a b:aC):covA r a b=true↔zc0 r a=true/\zc0 r b=true/\(b=aC.zero\/a≠aC.zero/\b≠aC.zero/\((r.kind=1/\covM a.mode b.mode=true)\/(r.kind≠1/\b.aV<=a.aV))):=by
 rw[zdO2];have za:=zae9 a;have zb:=zae9 b;simp only[bM,dE,cQ,jC,Bool.not_eq_false',zb,zao8]
 by_cases e:b=aC.zero
 .simp[e,eV]
 .by_cases hk:r.kind=1<;>simp[e,hk,eV]
theorem zbN3{r:aD}{a:aC}(h:zc0 r a=true):covA r a a=true:=by
 rw[zai8];refine⟨h,h,?_⟩
 by_cases e:a=aC.zero
 .exact .inl e
 .refine .inr ⟨e,e,?_⟩
  by_cases hk:r.kind=1
  .left;refine⟨hk,?_⟩;have:=zaG1 h hk;have hm:a.mode≠0:=λ hm=>e (by obtain⟨m,u⟩:=a;simp only at*;unfold aC.zero;congr;omega);rw[zbo2];omega
  .exact .inr ⟨hk,kF _⟩
theorem zct2{r:aD}{a:aC}(h:zc0 r a=true)(hs:zh1 r=true):covA r a aC.zero=true:=by rw[zai8];exact⟨h,(perm_iff r _).2 (.inl ⟨hs,rfl⟩),.inl rfl⟩
theorem zcV3{r:aD}{a b c:aC}(h1:covA r a b=true)(h2:covA r b c=true):covA r a c=true:=by
 rw[zai8]at h1 h2⊢;refine⟨h1.1,h2.2.1,?_⟩;rcases h2.2.2 with e|⟨hb0,hc0,h3⟩
 .exact .inl e
 .rcases h1.2.2 with e|⟨ha0,_,h4⟩
  .exact absurd e hb0
  .refine .inr ⟨ha0,hc0,?_⟩;rcases h3 with⟨k,h3⟩|⟨k,h3⟩
   .rcases h4 with⟨_,h4⟩|⟨k',_⟩
    .left;refine⟨k,?_⟩;rw[zbo2]at h3 h4⊢;omega
    .exact absurd k k'
   .rcases h4 with⟨k',_⟩|⟨_,h4⟩
    .exact absurd k' k
    .exact .inr ⟨k,by omega⟩
def low(a b:aC):Prop:=a.aV<=b.aV/\∀c,¬zau4 b c->¬zau4 a c
theorem zdZ4{r:aD}{a b:aC}(h:covA r b a=true):low a b:=by
 rw[zai8]at h;obtain⟨h1,h2,h3⟩:=h;have hb1:=zaf7 h1;rcases h3 with e|⟨hb0,ha0,h3⟩
 .subst e;refine⟨hb1.1,λ c _ hc=>?_⟩;exact hc.1 rfl
 .rcases h3 with⟨k,h3⟩|⟨k,h3⟩
  .have p1:=zaG1 h1 k;have p2:=zaG1 h2 k;refine⟨by omega,λ c hc hc'=>hc ⟨?_,hc'.2.1,?_⟩⟩
   .rw[zbo2]at h3;omega
   .have h4:=hc'.2.2;rw[<-gB]at h4⊢;intro h5;apply h4;rw[zcy7]at h5⊢;rw[zbo2]at h3;omega
  .have hk:r.kind=2:=by
    have:=(perm_iff r a).1 h2;rw[zH0,zaa9]at this;omega
   have p2:=zbs6 h2 hk;exact⟨h3,λ c _ hc=>hc.1 p2.1⟩
theorem zdk7{r:aD}{l:List aT}{p:aF}{a:aC}:zaL1 r l p a=true↔zI5 r l=true/\za3 p=true/\zb4 r a=true/\(zw0 p l).length+1<=8/\(∀h∈zw0 p l,¬zau4 h.aJ a)/\a.aV+sumU ((zw0 p l).map (·.aJ))<=r.aV:=by
 constructor
 .intro h;obtain⟨h1,h2,h3,h4⟩:=zaG5 h;have hl:(zw0 p l).length+1<=8:=by
   have:=zao4 h4;unfold setL at this;rw[bN (zW1 h3),zbG1]at this;exact this
  exact⟨h1,h2,h3,hl,(zcJ3 h1 h2 h3 hl).1 h⟩
 .rintro⟨h1,h2,h3,h4,h5⟩;exact(zcJ3 h1 h2 h3 h4).2 h5
theorem zcJ8{r:aD}{l:List aT}{p:aF}{a:aC}(hv:zI5 r l=true)(hp:getH l p≠aC.zero)(hc:covA r (getH l p) a=true):zI5 r (setL l p a)=true:=by
 have hasc:=zbs7 hv;have hv':=(zR3 r l).1 hv
 by_cases hz:a=aC.zero
 .unfold setL;rw[bO hz];exact zbA9 hv (zbB0 p l)
 .have hfit:zb4 r a=true:=by
   rcases(perm_iff r a).1 ((zai8 _ _ _).1 hc).2.1 with h|h
   .exact absurd h.2 hz
   .exact h
  have hlow:=zdZ4 hc;have hm:=zaR9 hp;have hlt:=zbN2 hasc hp;have hpm:=zcJ5 hasc hp;have hroom:zaL1 r l p a=true:=by
   rw[zdk7];refine⟨hv,(hv'.2.2.1.each _ hm).1,hfit,by have:=hv'.2.1;omega,λ x hx hcl=>?_,?_⟩
   .have hpr:=(CompP.perm_iff (hpm.map (·.aJ))).1 hv'.2.2.2;have:=(cL.1 hpr.pair).1 x.aJ (cD.2 ⟨x,hx,rfl⟩);exact hlow.2 _ this (by
     obtain⟨c1,c2,c3⟩:=hcl;exact⟨c2,c1,by rw[zbX0];exact c3⟩)
   .have h1:=zbN1 (hpm.map (·.aJ));have h2:=hv'.2.2.2.sum;rw[h1]at h2;simp only[cX,sumU]at h2;have:=hlow.1;omega
  exact(zaG5 hroom).2.2.2
def del(q:aA)(p:aF):aA:={q with aL:=zw0 p q.aL,aH:=rmL q.aH p,aU:=rmL q.aU p}
theorem zaV6{w:aM}{l:List aM}{p:aF}:w∈rmL l p↔w∈l/\w.aI≠p:=by unfold rmL notP;simp
theorem zbt0(l:List aM)(p:aF):(rmL l p).Sublist l:=eX
theorem SoundP.del{q:aA}(h:SoundP q)(p:aF):SoundP (del q p):=by
 have h1:=(zbt0 q.aH p).length_le;have h2:=(zbt0 q.aU p).length_le;have h3:=zaR2 p q.aL;have h4:=h.cl;have h5:=h.wl;refine⟨h.res,zbA9 h.hv (zbB0 p _),by simp only[Ab.del];omega,h.cn.sublist ((zbt0 _ _).map _),λ w hw=>?_,zct0 p h.wv,by simp only[Ab.del];omega,λ w hw=>?_,h.gen⟩
 .obtain⟨a1,a2⟩:=zaV6.1 hw;simp only[Ab.del,zae8 a2];exact h.cg w a1
 .obtain⟨a1,a2⟩:=zaV6.1 hw;simp only[Ab.del,zae8 a2];exact h.wg w a1
theorem zef2(q:aA)(g:Int):canQ {q with gen:=g}=canQ q:=rfl
theorem zcz5(q:aA):(popQ q).gen=q.gen/\(popQ q).aB=q.aB:=by unfold popQ;split<;>exact⟨rfl,rfl⟩
theorem zbe9(q:aA):(advS q).gen=q.gen/\(advS q).aB=q.aB:=
 zbH0 (P:=λ x=>x.gen=q.gen/\x.aB=q.aB) (λ x _ h=>by rw[(zcz5 x).1,(zcz5 x).2];exact h) q ⟨rfl,rfl⟩
theorem zcf8(g:Int):0<=zw6 g/\zw6 g<=1073741824:=by
  unfold zw6
  by_cases h:g<0\/1073741824<=g
  .rw[bO (by simpa using h)];decide
  .rw[bN (by simpa using h),zk8 (by omega) (by omega)];omega
def zw5(q:aA):aA×List aT×Int:=({advS q with gen:=zw6 q.gen},advG q,0)
theorem SoundP.gen'{q:aA}(h:SoundP q)(g:Int)(h1:0<=g)(h2:g<=1073741824):SoundP {q with gen:=g}:=⟨h.res,h.hv,h.cl,h.cn,h.cg,h.wv,h.wl,h.wg,h1,h2⟩
theorem zY0{q:aA}(h:SoundP q):zi0 (zw5 q).1=true:=by rw[zt4];exact⟨h.adv.gen' _ (zcf8 _).1 (zcf8 _).2,by show canQ (advS q)=false;exact zdB8 q⟩
theorem zbH2(q:aA)(p:aF):(zB2 q p).2=true↔∃w∈q.aH++q.aU,w.aI=p:=by
  unfold zB2 zbG6;cases h:(q.aH++q.aU).find? λ w=>decide (w.aI=p)with
  |none=>
    rw[List.find?_eq_none]at h;simp only[bQ]at h;constructor
    .intro h2;cases h2
    .rintro⟨w,hw,e⟩;exact absurd e (h w hw)
  |some w=>have h1:=jP h;have h2:=List.find?_some h;exact⟨λ _=>⟨w,h1,by simpa using h2⟩,λ _=>rfl⟩
theorem zbc1{q:aA}{p:aF}:(zB2 q p).2=false↔∀w∈q.aH++q.aU,w.aI≠p:=by
  rw[<-gB,zbH2];constructor
  .exactλ h w hw e=>h ⟨w,hw,e⟩
  .rintro h ⟨w,hw,e⟩;exact h w hw e
theorem zdk8:∀a∈[(1:Int),2,3,4,5],∀b∈[(1:Int),2,3,4,5],supM a b∈[(1:Int),2,3,4,5]/\covM (supM a b) a=true/\covM (supM a b) b=true:=by decide
theorem zdk9{r:aD}{a b:aC}(ha:zb4 r a=true)(hb:zb4 r b=true)(hk:r.kind=1):zao7 r a b=⟨supM a.mode b.mode,0⟩:=by unfold zao7;rw[zK1 ha,zK1 hb,(zao8 a).2 (zW1 ha),(zao8 b).2 (zW1 hb)];simp[hk,aC.zero]
theorem zdl0{r:aD}{a b:aC}(ha:zb4 r a=true)(hb:zb4 r b=true)(hk:r.kind≠1):zao7 r a b=⟨0,if a.aV<b.aV then b.aV else a.aV⟩:=by unfold zao7;rw[zK1 ha,zK1 hb,(zao8 a).2 (zW1 ha),(zao8 b).2 (zW1 hb)];simp[hk,aC.zero]
theorem zcf9{r:aD}{h a:aC}(hh:zb4 r h=true)(ha:zb4 r a=true)(hc:covA r h a=false):
    zb4 r (zao7 r h a)=true/\covA r (zao7 r h a) h=true/\covA r (zao7 r h a) a=true/\zao7 r h a≠h:=by
  have hf:zb4 r (zao7 r h a)=true/\covA r (zao7 r h a) h=true/\covA r (zao7 r h a) a=true:=by
    have fh:=(zaa9 r h).1 hh;have fa:=(zaa9 r a).1 ha
    by_cases hk:r.kind=1
    · have m1:h.mode∈[(1:Int),2,3,4,5]:=by simp;omega
      have m2:a.mode∈[(1:Int),2,3,4,5]:=by simp;omega
      obtain⟨s1,s2,s3⟩:=zdk8 _ m1 _ m2;rw[zdk9 hh ha hk];have hfit:zb4 r ⟨supM h.mode a.mode,0⟩=true:=by rw[zaa9];left;simp at s1;exact⟨hk,by omega,by simp only;omega,by simp only;omega,rfl⟩
      refine⟨hfit,?_,?_⟩
      .rw[zai8];exact⟨zK1 hfit,zK1 hh,.inr ⟨zW1 hfit,zW1 hh,.inl ⟨hk,s2⟩⟩⟩
      .rw[zai8];exact⟨zK1 hfit,zK1 ha,.inr ⟨zW1 hfit,zW1 ha,.inl ⟨hk,s3⟩⟩⟩
    · rw[zdl0 hh ha hk]
      have hfit:zb4 r ⟨0,if h.aV<a.aV then a.aV else h.aV⟩=true:=by rw[zaa9];right;refine⟨by omega,by omega,by omega,rfl,?_,?_⟩<;>simp only<;>split<;>omega
      refine⟨hfit,?_,?_⟩
      · rw[zai8];refine⟨zK1 hfit,zK1 hh,.inr ⟨zW1 hfit,zW1 hh,.inr ⟨hk,?_⟩⟩⟩
        simp only;split<;>omega
      · rw[zai8];refine⟨zK1 hfit,zK1 ha,.inr ⟨zW1 hfit,zW1 ha,.inr ⟨hk,?_⟩⟩⟩
        simp only;split<;>omega
  refine⟨hf.1,hf.2.1,hf.2.2,λ e=>?_⟩;have:=hf.2.2;rw[e,hc]at this;cases this
def claimC(q:aA)(p:aF)(a:aC):aA:={q with aH:=q.aH++[⟨p,zao7 q.aB (getH q.aL p) a,0,0⟩]}
def claimW(q:aA)(p:aF)(a:aC)(pr:Int):aA:={q with aU:=zaM7 q.aU ⟨p,a,pr,0⟩ (zG6 q.aU ⟨p,a,pr,0⟩ q.aU.length)}
def zah6(q:aA)(p:aF):aA:={q with aH:=rmL q.aH p,aU:=rmL q.aU p}
def zaC4(q:aA)(p:aF)(a:aC):aA:={q with aL:=setL q.aL p a}
def hasQ(q:aA)(p:aF):Bool:=(zB2 q p).2||!zk5 (getH q.aL p)
def errQ(e:Int):aA×List aT×Int:=(aA.zero,[],e)
def zbo7(p:aF)(pr:Int):Bool:=za3 p&&(decide (0<=pr)&&decide (pr<=7))
def zI6(q:aA)(p:aF)(a:aC)(pr:Int):aA×List aT×Int:=
  if zi0 q=false then errQ 2 else if zbo7 p pr=false then errQ 1 else if zb4 q.aB a=false then errQ 12 else if(zB2 q p).2=true then errQ 14
  else if covA q.aB (getH q.aL p) a=true then(q,[],0)else if getH q.aL p≠aC.zero then zw5 (claimC q p a)
  else if 8<=q.aL.length+q.aU.length then errQ 4 else zw5 (claimW q p a pr)
def zI3(q:aA)(p:aF):aA×List aT×Int:=
  if zi0 q=false then errQ 2 else if(zB2 q p).2=false then errQ 10 else zw5 (zah6 q p)
def zE2(q:aA)(p:aF)(a:aC):aA×List aT×Int:=
  if zi0 q=false then errQ 2 else if getH q.aL p=aC.zero then errQ 10 else if(zB2 q p).2=true then errQ 14
  else if covA q.aB (getH q.aL p) a=false then errQ 12 else if getH q.aL p=a then(q,[],0)else zw5 (zaC4 q p a)
def zC4(q:aA)(p:aF):aA×List aT×Int:=
  if zi0 q=false then errQ 2 else if hasQ q p=false then errQ 10 else zw5 (del q p)
theorem SoundP.cancel{q:aA}(h:SoundP q)(p:aF):SoundP (zah6 q p):=by have h1:=(zbt0 q.aH p).length_le;have h2:=(zbt0 q.aU p).length_le;have h4:=h.cl;have h5:=h.wl;exact⟨h.res,h.hv,by simp only[zah6];omega,h.cn.sublist ((zbt0 _ _).map _),λ w hw=>h.cg w (zaV6.1 hw).1,zct0 p h.wv,by simp only[zah6];omega,λ w hw=>h.wg w (zaV6.1 hw).1,h.gen⟩
theorem SoundP.claimC{q:aA}(h:SoundP q){p:aF}{a:aC}(ha:zb4 q.aB a=true)(hw:(zB2 q p).2=false)(hc:covA q.aB (getH q.aL p) a=false)(hz:getH q.aL p≠aC.zero):SoundP (claimC q p a):=by
  have hv:=(zR3 _ _).1 h.hv;have hfit:zb4 q.aB (getH q.aL p)=true:=(hv.2.2.1.each _ (zaR9 hz)).2;obtain⟨j1,j2,j3,j4⟩:=zcf9 hfit ha hc;rw[zbc1]at hw;refine⟨h.res,h.hv,?_,?_,λ w hww=>?_,h.wv,h.wl,h.wg,h.gen⟩
  ·
    have hn:((q.aH++[(⟨p,zao7 q.aB (getH q.aL p) a,0,0⟩:aM)]).map (·.aI)).Nodup:=by rw[eE,gU];refine⟨h.cn,by simp,λ x hx y hy=>?_⟩;simp only[cX,iS,dS]at hy;obtain⟨c,hcc,rfl⟩:=cD.1 hx;rw[hy];exact hw c (cW _ hcc)
    have hs:∀x∈(q.aH++[(⟨p,zao7 q.aB (getH q.aL p) a,0,0⟩:aM)]).map (·.aI),x∈q.aL.map (·.aI):=by
      intro x hx;simp only[eE,cP,cX,iS,dS]at hx;rcases hx with hx|rfl
      · obtain⟨c,hcc,rfl⟩:=cD.1 hx
        exact cD.2 ⟨_,zaR9 (h.cg c hcc).1,rfl⟩
      .exact cD.2 ⟨_,zaR9 hz,rfl⟩
    have:=dO hn hs;have h8:=zao4 h.hv;rw[cO,cO]at this;show(q.aH++[(⟨p,zao7 q.aB (getH q.aL p) a,0,0⟩:aM)]).length<=8;omega
  · show((q.aH++[(⟨p,zao7 q.aB (getH q.aL p) a,0,0⟩:aM)]).map (·.aI)).Nodup
    rw[eE,gU];refine⟨h.cn,by simp,λ x hx y hy=>?_⟩;simp only[cX,iS,dS]at hy;obtain⟨c,hcc,rfl⟩:=cD.1 hx;rw[hy];exact hw c (cW _ hcc)
  · rcases cP.1 hww with hww|hww
    .exact h.cg w hww
    · rw[dS]at hww;subst hww
      exact⟨hz,j1,j2,j4,rfl,rfl⟩
theorem zct3{r:aD}{p:aF}{a:aC}{pr:Int}(ha:zb4 r a=true)(hp:zbo7 p pr=true):zi4 ⟨p,a,pr,0⟩=true:=by rw[zaa9]at ha;unfold zbo7 at hp;simp only[bM,bQ]at hp;rw[<-zaN7];unfold zz6;rw[zao3,hp.1];unfold zu4 zy3;simp;omega
theorem zdd1{q:aA}(h:SoundP q){p:aF}{a:aC}{pr:Int}(ha:zb4 q.aB a=true)(hp:zbo7 p pr=true)(hw:(zB2 q p).2=false)(hl:q.aU.length<8):
    insS q.aU ⟨p,a,pr,0⟩=((claimW q p a pr).aU,(zG6 q.aU ⟨p,a,pr,0⟩ q.aU.length:Int),0):=by
  unfold insS;rw[bN (by rw[h.wv];decide),bN (by rw[zct3 ha hp];simp),bN ?_,bN (by omega)]
  .rfl
  · rw[zbc1]at hw
    exact zbM5.2 λ w hww=>hw w (cG _ hww)
theorem SoundP.claimW{q:aA}(h:SoundP q){p:aF}{a:aC}{pr:Int}(ha:zb4 q.aB a=true)(hp:zbo7 p pr=true)(hw:(zB2 q p).2=false)(hz:getH q.aL p=aC.zero)(hl:q.aL.length+q.aU.length<8):SoundP (claimW q p a pr):=by
  rw[zbc1]at hw;have hne:∀e∈q.aU,e.aI≠p:=λ e he=>hw e (cG _ he);have hv:=zcV0 (w:=⟨p,a,pr,0⟩) h.wv (zct3 ha hp) hne (by omega);refine⟨h.res,h.hv,h.cl,h.cn,h.cg,hv,?_,λ w hww=>?_,h.gen⟩
  · have hn:=zbb6 q.aU ⟨p,a,pr,0⟩ q.aU.length
    simp only[Ab.claimW,zaM7,bR,List.length_cons,cO,dT,eU];omega
  · simp only[Ab.claimW,zaM7,cP,bX,cD]at hww
    rcases hww with hww|rfl|⟨x,hx,rfl⟩
    .exact h.wg w (jD hww)
    .exact⟨ha,hz⟩
    .exact h.wg x (jE hx)
theorem SoundP.lower{q:aA}(h:SoundP q){p:aF}{a:aC}(hw:(zB2 q p).2=false)(hz:getH q.aL p≠aC.zero)(hc:covA q.aB (getH q.aL p) a=true):SoundP (zaC4 q p a):=by
  rw[zbc1]at hw;have hl:=zct1 a h.hv hz;have h5:=h.wl;refine⟨h.res,zcJ8 h.hv hz hc,h.cl,h.cn,λ w hww=>?_,h.wv,by simp only[zaC4];omega,λ w hww=>?_,h.gen⟩
  · simp only[zaC4,zJ7 (hw w (cW _ hww))]
    exact h.cg w hww
  · simp only[zaC4,zJ7 (hw w (cG _ hww))]
    exact h.wg w hww
theorem zbc2{q:aA}{p:aF}{a:aC}{pr:Int}(h:(zI6 q p a pr).2.2=0):SoundP q/\canQ q=false/\zbo7 p pr=true/\zb4 q.aB a=true/\(zB2 q p).2=false/\
    ((covA q.aB (getH q.aL p) a=true/\zI6 q p a pr=(q,[],0))\/
     (covA q.aB (getH q.aL p) a=false/\getH q.aL p≠aC.zero/\zI6 q p a pr=zw5 (claimC q p a)/\SoundP (claimC q p a))\/
     (covA q.aB (getH q.aL p) a=false/\getH q.aL p=aC.zero/\q.aL.length+q.aU.length<8/\zI6 q p a pr=zw5 (claimW q p a pr)/\SoundP (claimW q p a pr))):=by
  unfold zI6 at h|-
  by_cases h1:zi0 q=false
  .rw[bO h1]at h;exact absurd h (by decide)
  rw[bN h1]at h|-
  by_cases h2:zbo7 p pr=false
  .rw[bO h2]at h;exact absurd h (by decide)
  rw[bN h2]at h|-
  by_cases h3:zb4 q.aB a=false
  .rw[bO h3]at h;exact absurd h (by decide)
  rw[bN h3]at h|-
  by_cases h4:(zB2 q p).2=true
  .rw[bO h4]at h;exact absurd h (by decide)
  rw[bN h4]at h⊢;rw[fO]at h1 h2 h3;rw[gB]at h4;obtain⟨hs,hcn⟩:=(zt4 q).1 h1;refine⟨hs,hcn,h2,h3,h4,?_⟩
  by_cases h5:covA q.aB (getH q.aL p) a=true
  .rw[bO h5];exact .inl ⟨h5,rfl⟩
  rw[bN h5]at h⊢;rw[gB]at h5
  by_cases h6:getH q.aL p≠aC.zero
  .rw[bO h6];exact .inr (.inl ⟨h5,h6,rfl,hs.claimC h3 h4 h5 h6⟩)
  rw[bN h6]at h|-
  by_cases h7:8<=q.aL.length+q.aU.length
  .rw[bO h7]at h;exact absurd h (by decide)
  rw[bN h7];have h6:=Decidable.not_not.1 h6;exact .inr (.inr ⟨h5,h6,by omega,rfl,hs.claimW h3 h2 h4 h6 (by omega)⟩)
theorem zaG6{q:aA}{p:aF}(h:(zI3 q p).2.2=0):SoundP q/\canQ q=false/\(zB2 q p).2=true/\zI3 q p=zw5 (zah6 q p)/\SoundP (zah6 q p):=by
  unfold zI3 at h|-
  by_cases h1:zi0 q=false
  .rw[bO h1]at h;exact absurd h (by decide)
  rw[bN h1]at h|-
  by_cases h2:(zB2 q p).2=false
  .rw[bO h2]at h;exact absurd h (by decide)
  rw[bN h2];rw[fO]at h1 h2;obtain⟨hs,hcn⟩:=(zt4 q).1 h1;exact⟨hs,hcn,h2,rfl,hs.cancel p⟩
theorem zaG7{q:aA}{p:aF}{a:aC}(h:(zE2 q p a).2.2=0):SoundP q/\canQ q=false/\getH q.aL p≠aC.zero/\(zB2 q p).2=false/\covA q.aB (getH q.aL p) a=true/\
    ((getH q.aL p=a/\zE2 q p a=(q,[],0))\/(getH q.aL p≠a/\zE2 q p a=zw5 (zaC4 q p a)/\SoundP (zaC4 q p a))):=by
  unfold zE2 at h|-
  by_cases h1:zi0 q=false
  .rw[bO h1]at h;exact absurd h (by decide)
  rw[bN h1]at h|-
  by_cases h2:getH q.aL p=aC.zero
  .rw[bO h2]at h;exact absurd h (by decide)
  rw[bN h2]at h|-
  by_cases h3:(zB2 q p).2=true
  .rw[bO h3]at h;exact absurd h (by decide)
  rw[bN h3]at h|-
  by_cases h4:covA q.aB (getH q.aL p) a=false
  .rw[bO h4]at h;exact absurd h (by decide)
  rw[bN h4]at h⊢;rw[fO]at h1 h4;rw[gB]at h3;obtain⟨hs,hcn⟩:=(zt4 q).1 h1;refine⟨hs,hcn,h2,h3,h4,?_⟩
  by_cases h5:getH q.aL p=a
  .rw[bO h5];exact .inl ⟨h5,rfl⟩
  .rw[bN h5];exact .inr ⟨h5,rfl,hs.lower h3 h2 h4⟩
theorem zbB3{q:aA}{p:aF}(h:(zC4 q p).2.2=0):SoundP q/\canQ q=false/\hasQ q p=true/\zC4 q p=zw5 (del q p)/\SoundP (del q p):=by
  unfold zC4 at h|-
  by_cases h1:zi0 q=false
  .rw[bO h1]at h;exact absurd h (by decide)
  rw[bN h1]at h|-
  by_cases h2:hasQ q p=false
  .rw[bO h2]at h;exact absurd h (by decide)
  rw[bN h2];rw[fO]at h1 h2;obtain⟨hs,hcn⟩:=(zt4 q).1 h1;exact⟨hs,hcn,h2,rfl,hs.del p⟩
def ordQ(q:aA):List aM:=q.aH++q.aU
def zcg0(w:aM):aT:=⟨w.aI,w.aJ⟩
theorem zbt1{q:aA}(h:canQ q=true):ordQ q=(zF6 q).1::ordQ (popQ q)/\(popQ q).aL=setL q.aL (zF6 q).1.aI (zF6 q).1.aJ:=by
 cases zcV2 h with
 |con w cs he hd hr hp=>rw[hp,hd];unfold ordQ;rw[he];exact⟨rfl,rfl⟩
 |wait w ws hc he hd hr hp=>rw[hp,hd];unfold ordQ;rw[hc,he];exact⟨rfl,rfl⟩
theorem zdC0{q:aA}(h:canQ q=true):zaL1 q.aB q.aL (zF6 q).1.aI (zF6 q).1.aJ=true:=by unfold canQ at h;rw[bM]at h;exact h.2
theorem zdl1{q:aA}{p:aF}(h:∀w∈ordQ q,w.aI≠p):getH (advS q).aL p=getH q.aL p/\∀w∈ordQ (advS q),w.aI≠p:=by
 have:=zbH0 (P:=λ x=>getH x.aL p=getH q.aL p/\∀w∈ordQ x,w.aI≠p) (λ x hc hx=>by
  obtain⟨h1,h2⟩:=zbt1 hc;obtain⟨h3,h4⟩:=hx;rw[h1]at h4;refine⟨?_,λ w hw=>h4 w (.tail _ hw)⟩;rw[h2,zJ7 (kB (h4 _ (.head _)))];exact h3) q ⟨rfl,h⟩
 exact this
theorem SoundP.nd{q:aA}(h:SoundP q):((ordQ q).map (·.aI)).Nodup:=h.nodup
theorem zdO3{w:aM}{l:List aM}(h:((w::l).map (·.aI)).Nodup):∀x∈l,x.aI≠w.aI:=λ x hx e=>by rw[cX,gS]at h;exact h.1 (cD.2 ⟨x,hx,e⟩)
theorem zdl2{q:aA}(hs:SoundP q)(hc:canQ q=true):getH (advS q).aL (zF6 q).1.aI=(zF6 q).1.aJ/\∀w∈ordQ (advS q),w.aI≠(zF6 q).1.aI:=by obtain⟨h1,h2⟩:=zbt1 hc;have hn:=hs.nd;rw[h1]at hn;have:=zdl1 (q:=popQ q) (zdO3 hn);rw[zaS0 hc,this.1,h2,zaR8];exact⟨rfl,this.2⟩
theorem zcV4:∀q,SoundP q->∀g∈advG q,getH (advS q).aL g.aI=g.aJ/\∀w∈ordQ (advS q),w.aI≠g.aI:=by
 refine zbH1 (λ q h hs g hg=>by rw[zbG9 h]at hg;cases hg) λ q hc ih hs g hg=>?_;rw[zbG8 hc]at hg;rcases bX.1 hg with rfl|hg
 .exact zdl2 hs hc
 .rw[zaS0 hc];exact ih (hs.pop hc) g hg
theorem zcV5{q:aA}(hs:SoundP q)(p:aF):covA q.aB (getH (advS q).aL p) (getH q.aL p)=true:=by
 have:=zbH0 (P:=λ x=>SoundP x/\x.aB=q.aB/\covA q.aB (getH x.aL p) (getH q.aL p)=true) (λ x hc ⟨h1,h2,h3⟩=>by
  refine⟨h1.pop hc,by rw[(zcz5 x).2];exact h2,?_⟩;obtain⟨e1,e2⟩:=zbt1 hc;rw[e2]
  by_cases hp:p=(zF6 x).1.aI
  .subst hp;rw[zaR8];refine zcV3 ?_ h3;cases zcV2 hc with
   |con w cs he hd hr hp=>rw[hd,<-h2];exact(h1.cg w (by rw[he];exact .head _)).2.2.1
   |wait w ws hcc he hd hr hp=>rw[hd,(h1.wg w (by rw[he];exact .head _)).2,<-h2];have hf:=(zaG5 hr).2.2.1;exact zct2 (zK1 hf) (zcI5 hf)
  .rw[zJ7 hp];exact h3) q ⟨hs,rfl,zbN3 (zbs8 hs.hv p)⟩
 exact this.2.2
theorem zct4:∀q,∃ws,ordQ q=ws++ordQ (advS q)/\advG q=ws.map zcg0:=by refine zbH1 (λ q h=>⟨[],by rw[zbo6 h,zbG9 h];exact⟨rfl,rfl⟩⟩) λ q hc ⟨ws,h1,h2⟩=>⟨(zF6 q).1::ws,?_⟩;rw[(zbt1 hc).1,zaS0 hc,zbG8 hc,h1,h2];exact⟨rfl,rfl⟩
theorem zdC1{r:aD}{l:List aT}(h:zI5 r l=true)(p:aF):getH l p≠aC.zero↔p∈l.map (·.aI):=by
 constructor
 .intro hp;exact cD.2 ⟨_,zaR9 hp,rfl⟩
 .intro hp;obtain⟨x,hx,rfl⟩:=cD.1 hp;rw[zcJ6 (zbs7 h) hx];exact zW1 (((zR3 _ _).1 h).2.2.1.each x hx).2
theorem zt2(q:aA)(p:aF):hasQ q p=true↔(∃w∈ordQ q,w.aI=p)\/getH q.aL p≠aC.zero:=by unfold hasQ;rw[dE,zbH2,cQ,zao8];rfl
theorem zdO4{q:aA}(h:SoundP q)(p:aF):hasQ q p=true↔p∈(ordQ q).map (·.aI)\/p∈q.aL.map (·.aI):=by simp only[zt2,zdC1 h.hv,cD]
theorem zdO5{q:aA}(hc:canQ q=true)(p:aF):hasQ (popQ q) p=hasQ q p:=by
 rw[cJ,zt2,zt2];obtain⟨h1,h2⟩:=zbt1 hc;rw[h1,h2];have hz:=zW1 (zaG5 (zdC0 hc)).2.2.1
 by_cases hp:p=(zF6 q).1.aI
 .subst hp;rw[zaR8];exact⟨λ _=>.inl ⟨_,.head _,rfl⟩,λ _=>.inr hz⟩
 .rw[zJ7 hp];constructor
  .rintro(⟨w,hw,e⟩|h)
   .exact .inl ⟨w,.tail _ hw,e⟩
   .exact .inr h
  .rintro(⟨w,hw,e⟩|h)
   .rcases bX.1 hw with rfl|hw
    .exact absurd e.symm hp
    .exact .inl ⟨w,hw,e⟩
   .exact .inr h
theorem zdd2(q:aA)(p:aF):hasQ (advS q) p=hasQ q p:=zbH0 (P:=λ x=>hasQ x p=hasQ q p) (λ x hc h=>by rw[zdO5 hc];exact h) q rfl
theorem zdd3(q:aA)(g:Int)(p:aF):hasQ {q with gen:=g} p=hasQ q p:=rfl
theorem zbo8{q:aA}{p:aF}{w:aM}:w∈ordQ (del q p)↔w∈ordQ q/\w.aI≠p:=by
 unfold ordQ del;simp only[cP,zaV6];constructor
 .rintro(⟨a,b⟩|⟨a,b⟩)
  .exact⟨.inl a,b⟩
  .exact⟨.inr a,b⟩
 .rintro⟨a|a,b⟩
  .exact .inl ⟨a,b⟩
  .exact .inr ⟨a,b⟩
theorem zdO6(q:aA)(p x:aF):hasQ (del q p) x=true↔hasQ q x=true/\x≠p:=by
 rw[zt2,zt2]
 by_cases hx:x=p
 .subst hx;constructor
  .rintro(⟨w,hw,e⟩|h)
   .exact absurd e (zbo8.1 hw).2
   .exact absurd (zbc0 _ _) h
  .rintro⟨_,h⟩;exact absurd rfl h
 .have e1:getH (del q p).aL x=getH q.aL x:=zae8 hx _;rw[e1];constructor
  .rintro(⟨w,hw,e⟩|h)
   .exact⟨.inl ⟨w,(zbo8.1 hw).1,e⟩,hx⟩
   .exact⟨.inr h,hx⟩
  .rintro⟨⟨w,hw,e⟩|h,_⟩
   .exact .inl ⟨w,zbo8.2 ⟨hw,by rw[e];exact hx⟩,e⟩
   .exact .inr h
def remN(q:aA)(p:aF):aA:=if(zC4 q p).2.2=0 then(zC4 q p).1 else q
theorem zbf0(q:aA):(zw5 q).1={advS q with gen:=zw6 q.gen}:=rfl
theorem zbB4{q:aA}(h:zi0 q=true){p:aF}(hp:hasQ q p=true):zC4 q p=zw5 (del q p):=by unfold zC4;rw[bN (by rw[h];decide),bN (by rw[hp];decide)]
theorem zaX8{q:aA}(h:zi0 q=true){p:aF}(hp:hasQ q p=false):zC4 q p=errQ 10:=by unfold zC4;rw[bN (by rw[h];decide),bO hp]
theorem zaN9{q:aA}(h:zi0 q=true)(p:aF):zi0 (remN q p)=true:=by
 unfold remN;split
 .rename_i h0;obtain⟨_,_,_,e,hs⟩:=zbB3 h0;rw[e];exact zY0 hs
 .exact h
def remS(q:aA)(ps:List aF):aA:=ps.foldl remN q
theorem zbH3:∀(ps:List aF) {q:aA},zi0 q=true->zi0 (remS q ps)=true
 |[],_,h=>h
 |p::ps,_,h=>zbH3 ps (zaN9 h p)
theorem zcJ9{q:aA}(h:zi0 q=true){p x:aF}(hx:x≠p):covA q.aB (getH (remN q p).aL x) (getH q.aL x)=true/\(remN q p).aB=q.aB:=by
 obtain⟨hs,hc⟩:=(zt4 q).1 h;unfold remN;cases hp:hasQ q p with
 |true=>rw[zbB4 h hp,bO (show(zw5 (del q p)).2.2=0 from rfl),zbf0];have h1:=zcV5 (hs.del p) x;have h2:getH (del q p).aL x=getH q.aL x:=zae8 hx _;rw[h2]at h1;exact⟨h1,(zbe9 (del q p)).2⟩
 |false=>rw[zaX8 h hp,bN (by decide)];exact⟨zbN3 (zbs8 hs.hv x),rfl⟩
theorem zcK0{q:aA}(h:zi0 q=true)(p x:aF):hasQ (remN q p) x=true↔hasQ q x=true/\x≠p:=by
 unfold remN;cases hp:hasQ q p with
 |true=>rw[zbB4 h hp,bO (show(zw5 (del q p)).2.2=0 from rfl),zbf0,zdd3,zdd2,zdO6]
 |false=>
  rw[zaX8 h hp,bN (by decide)];constructor
  .intro hx;exact⟨hx,λ e=>by rw[e,hp]at hx;cases hx⟩
  .exact And.left
theorem zbc3:∀(ps:List aF) {q:aA},zi0 q=true->∀x,hasQ (remS q ps) x=true↔hasQ q x=true/\x∉ps
 |[],q,h,x=>by simp[remS]
 |p::ps,q,h,x=>by show hasQ (remS (remN q p) ps) x=true↔_;rw[zbc3 ps (zaN9 h p),zcK0 h];simp only[bX,not_or];exact⟨λ⟨⟨a,b⟩,c⟩=>⟨a,b,c⟩,λ⟨a,b,c⟩=>⟨⟨a,b⟩,c⟩⟩
theorem zaG8:∀{a b:List aF},a.Pairwise ltP->b.Pairwise ltP->(∀x,x∈a↔x∈b)->a=b
 |[],b,_,_,h=>by
  cases b with
  |nil=>rfl
  |cons y b=>exact absurd ((h y).2 (.head _)) (by simp)
 |x::a,[],_,_,h=>absurd ((h x).1 (.head _)) (by simp)
 |x::a,y::b,ha,hb,h=>by
  rw[cL]at ha hb;have hxy:x=y:=by
   rcases bX.1 ((h x).1 (.head _))with e|hx
   .exact e
   .rcases bX.1 ((h y).2 (.head _))with e|hy
    .exact e.symm
    .exact absurd (zaG0 (ha.1 y hy) (hb.1 x hx)) (zV8 x)
  subst hxy;congr 1;refine zaG8 ha.2 hb.2 λ z=>?_;have hz:=h z;constructor
  .intro hm;rcases bX.1 (hz.1 (.tail _ hm))with e|hm'
   .subst e;exact absurd (ha.1 z hm) (zV8 z)
   .exact hm'
  .intro hm;rcases bX.1 (hz.2 (.tail _ hm))with e|hm'
   .subst e;exact absurd (hb.1 z hm) (zV8 z)
   .exact hm'
def zaL2(p:aF):List aF->List aF
 |[]=>[p]
 |x::t=>if p=x then x::t else if ltP p x then p::x::t else x::zaL2 p t
theorem zaG9{p x:aF}:∀{l:List aF},x∈zaL2 p l↔x=p\/x∈l
 |[]=>by simp[zaL2]
 |y::t=>by
  simp only[zaL2];split
  .rename_i h;subst h;simp only[bX];constructor
   .intro h;exact .inr h
   .rintro(rfl|h)
    .exact .inl rfl
    .exact h
  .split
   .simp only[bX]
   .simp only[bX,zaG9 (l:=t)];constructor
    .rintro(h|h|h)
     .exact .inr (.inl h)
     .exact .inl h
     .exact .inr (.inr h)
    .rintro(h|h|h)
     .exact .inr (.inl h)
     .exact .inl h
     .exact .inr (.inr h)
theorem zaH0{p:aF}:∀{l:List aF},l.Pairwise ltP->(zaL2 p l).Pairwise ltP
 |[],_=>by simp[zaL2]
 |y::t,h=>by
  simp only[zaL2];split
  .exact h
  .rename_i hne;rw[cL]at h;split
   .rename_i hlt;rw[cL];refine⟨λ x hx=>?_,cL.2 h⟩;rcases bX.1 hx with rfl|hx
    .exact hlt
    .exact zaG0 hlt (h.1 x hx)
   .rename_i hlt;rw[cL];refine⟨λ x hx=>?_,zaH0 h.2⟩;rcases zaG9.1 hx with rfl|hx
    .rcases zaj6 hne with h1|h1
     .exact absurd h1 hlt
     .exact h1
    .exact h.1 x hx
theorem zcV6{p:aF}:∀{l:List aF},l.Pairwise ltP->p∈l->zaL2 p l=l:=λ hl hp=>
 zaG8 (zaH0 hl) hl λ x=>by
  rw[zaG9];constructor
  .rintro(rfl|h)
   .exact hp
   .exact h
  .exact .inr
def zbo9(l:List aF):List aF:=l.foldl (λ s p=>zaL2 p s) []
theorem zbp0:∀(l s:List aF),s.Pairwise ltP->(l.foldl (λ s p=>zaL2 p s) s).Pairwise ltP/\∀x,x∈l.foldl (λ s p=>zaL2 p s) s↔x∈s\/x∈l
 |[],s,h=>⟨h,λ x=>by simp⟩
 |p::l,s,h=>by
  obtain⟨h1,h2⟩:=zbp0 l (zaL2 p s) (zaH0 h);refine⟨h1,λ x=>?_⟩;rw[List.foldl_cons,h2,zaG9,bX];constructor
  .rintro((h|h)|h)
   .exact .inr (.inl h)
   .exact .inl h
   .exact .inr (.inr h)
  .rintro(h|h|h)
   .exact .inl (.inr h)
   .exact .inl (.inl h)
   .exact .inr h
theorem zaO7(l:List aF):(zbo9 l).Pairwise ltP:=(zbp0 l [] .nil).1
theorem zbt2{l:List aF}{x:aF}:x∈zbo9 l↔x∈l:=by
 have:=(zbp0 l [] .nil).2 x;unfold zbo9
 simpa using this
theorem zcz6{l s:List aF}(h:s.Pairwise ltP)(hm:∀x,x∈s↔x∈l):s=zbo9 l:=zaG8 h (zaO7 l) λ x=>by rw[hm,zbt2]
theorem zbt3{l:List aF}(h:l.Pairwise ltP):l.Nodup:=h.imp λ hab e=>by subst e;exact zV8 _ hab
theorem zbt4(l:List aF):(zbo9 l).length<=l.length:=dO (zbt3 (zaO7 l)) λ x hx=>zbt2.1 hx
def dst:List aF->List aF
 |[]=>[]
 |[x]=>[x]
 |x::y::t=>if x=y then dst (y::t)else x::dst (y::t)
theorem zbX1:∀{l:List aF} {x:aF},x∈dst l↔x∈l
 |[],x=>by simp[dst]
 |[y],x=>by simp[dst]
 |y::z::t,x=>by
  simp only[dst];split
  .rename_i h;subst h;rw[zbX1 (l:=y::t)];simp
  .rw[bX,zbX1 (l:=z::t),bX (b:=y)]
theorem zcz7:∀{l:List aF},l.Pairwise (λ x y=>¬ltP y x)->(dst l).Pairwise ltP
 |[],_=>by simp[dst]
 |[x],_=>by simp[dst]
 |x::y::t,h=>by
  simp only[dst];rw[cL]at h;split
  .exact zcz7 h.2
  .rename_i hne;rw[cL];refine⟨λ z hz=>?_,zcz7 h.2⟩;have hz:=zbX1.1 hz
   by_cases e:x=z
   .subst e;rcases bX.1 hz with e|hz'
    .exact absurd e hne
    .have h2:=(cL.1 h.2).1 x hz';rcases zaj6 hne with h3|h3
     .exact absurd h3 h2
     .exact absurd h3 (h.1 y (.head _))
   .rcases zaj6 e with h1|h1
    .exact h1
    .exact absurd h1 (h.1 z hz)
theorem zdl3{l s:List aF}(h:s.Pairwise λ x y=>¬ltP y x)(hm:∀x,x∈s↔x∈l):dst s=zbo9 l:=zcz6 (zcz7 h) λ x=>by rw[zbX1,hm]
theorem zcK1:∀(l:List aF) (x y:aF),dst (l++[x,y])=if x=y then dst (l++[x])else dst (l++[x])++[y]
 |[],x,y=>by
  by_cases h:x=y<;>simp[dst,h]
 |[a],x,y=>by
  by_cases h:x=y
  .subst h;by_cases h2:a=x<;>simp[dst,h2]
  .by_cases h2:a=x
   .subst h2;simp[dst,h]
   .simp[dst,h,h2]
 |a::b::l,x,y=>by
  have ih:=zcK1 (b::l) x y;simp only[List.cons_append,dst]at ih⊢;rw[ih]
  by_cases h:x=y<;>by_cases h2:a=b<;>simp[h,h2]
theorem zcV7(x y:aF):¬ltP y x\/¬ltP x y:=by
 by_cases h:ltP y x
 .exact .inr (zbM0 h)
 .exact .inl h
theorem zcz8(l:List aF):(l.mergeSort λ x y=>!decide (ltP y x)).Pairwise λ x y=>¬ltP y x:=by
 have:=List.pairwise_mergeSort (le:=λ x y=>!decide (ltP y x)) (λ a b c h1 h2=>by
  simp only[cQ,dA]at h1 h2⊢;intro h3
  by_cases e:b=a
  .subst e;exact h2 h3
  .rcases zaj6 e with h4|h4
   .exact h1 h4
   .by_cases e2:b=c
    .subst e2;exact h1 h3
    .rcases zaj6 e2 with h5|h5
     .exact zbM0 (zaG0 h3 h4) h5
     .exact h2 h5) (λ a b=>by
  rcases zcV7 a b with h|h
  .simp[h]
  .simp[h]) l
 exact this.imp λ h=>by simpa using h
theorem ifNT{α:Type}(x y:α):(if(!true)=true then x else y)=y:=rfl
theorem ifTF{α:Type}(x y:α):(if true=false then x else y)=y:=rfl
theorem ifFT{α:Type}(x y:α):(if false=true then x else y)=y:=rfl
theorem zcK2(l:List aF)(hl:l.length<=4294967296):zb5 l=some (l.mergeSort λ x y=>!decide (ltP y x)):=by unfold zb5;rw[zb0 hl];congr 2
theorem zdC2{l:List aF}{i:Nat}(h:i+1<l.length):l.take (i+2)=l.take i++[l.getD i aF.zero,l.getD (i+1) aF.zero]:=by rw[fC (by omega),fC (by omega),bZ];congr 1;rw[bS,bW (by omega),bS,bW h];rfl
theorem zcg1{l:List aF}{i:Nat}(h:i<l.length):l.take (i+1)=l.take i++[l.getD i aF.zero]:=by rw[fC h];congr 1;rw[bS,bW h];rfl
theorem zcg2{l:List aF}{i:Nat}(h:i+1<l.length):dst (l.take (i+2))=if l.getD i aF.zero=l.getD (i+1) aF.zero then dst (l.take (i+1))else dst (l.take (i+1))++[l.getD (i+1) aF.zero]:=by rw[zdC2 h,zcK1,<-zcg1 (by omega)]
theorem zbH4{l m:List aF}{i j:Nat}(h:l.drop i=m.drop i)(hij:i<=j):l.getD j aF.zero=m.getD j aF.zero:=by
 have e:∀x:List aF,x.getD j aF.zero=(x.drop i).getD (j-i) aF.zero:=λ x=>by rw[bS,bS,dR,show i+(j-i)=j by omega]
 rw[e l,e m,h]
theorem zco7(a:List aF)(g:Nat)(hg:1<=g)(hgl:g<a.length)(hl:a.length<=1000000)(he:a.getD g aF.zero=a.getD (g-1) aF.zero)(hd:dst (a.take g)=a.take g):
  ∃x,zc1 (zx1 a g) ((g:Int),1,a)=some x/\∃k:Nat,x.1=(k:Int)/\x.2.length=a.length/\k<=a.length/\x.2.take k=dst a:=by
 refine zaR1 (λ s=>∃k k2:Nat,s.1=(k:Int)/\s.2.1=(k2:Int)/\s.2.2.length=a.length/\1<=k2/\g+k2<=a.length/\k+1<=g+k2/\s.2.2.take k=dst (a.take (g+k2))/\s.2.2.drop (g+k2-1)=a.drop (g+k2-1)) (λ s=>(a.length-s.2.1.toNat)) _ ?_ _ ?_
 .rintro⟨k,k2,s⟩ ⟨kn,k2n,h1,h2,h3,h4,h5,h6,h7,h8⟩;simp only at h1 h2 h3 h7 h8;subst h1;subst h2;unfold zx1
  by_cases hlt:g+k2n<a.length
  .left;have w:IntKind.i64.wrap ((k2n:Int)-1)=((k2n-1:Nat):Int):=by rw[zk8 (by omega) (by omega)];omega
   have w2:IntKind.i64.wrap ((k2n:Int)+1)=((k2n+1:Nat):Int):=by rw[zk8 (by omega) (by omega)];omega
   have w3:IntKind.i64.wrap ((kn:Int)+1)=((kn+1:Nat):Int):=by rw[zk8 (by omega) (by omega)];omega
   have r1:s.getD (g+k2n) aF.zero=a.getD (g+k2n) aF.zero:=zbH4 h8 (by omega);have r2:s.getD (g+(k2n-1)) aF.zero=a.getD (g+(k2n-1)) aF.zero:=zbH4 h8 (by omega);have hdt:=zcg2 (l:=a) (i:=g+(k2n-1)) (by omega);rw[show g+(k2n-1)+2=g+(k2n+1)by omega,show g+(k2n-1)+1=g+k2n by omega]at hdt;simp only[Int.toNat_natCast,w,w2,w3];rw[bO (by simp;omega),zb0 (by omega),zb0 (by omega),r1,r2]
   by_cases hne:a.getD (g+k2n) aF.zero=a.getD (g+(k2n-1)) aF.zero
   .refine⟨((kn:Int),((k2n+1:Nat):Int),s),by rw[bN (by simp only[hne,bU,cI,bP,gD])],⟨kn,k2n+1,rfl,rfl,h3,by omega,by omega,by omega,?_,?_⟩,by simp only[Int.toNat_natCast];omega⟩
    .simp only;rw[h7,hdt,bO hne.symm]
    .simp only;rw[show g+(k2n+1)-1=(g+k2n-1)+1 by omega,<-eQ,<-eQ,h8]
   .rw[bO (by simpa using hne),zb0 (by omega),zb0 (by omega)];refine⟨(((kn+1:Nat):Int),((k2n+1:Nat):Int),s.set kn (a.getD (g+k2n) aF.zero)),rfl,⟨kn+1,k2n+1,rfl,rfl,by simp[h3],by omega,by omega,by omega,?_,?_⟩,by simp only[Int.toNat_natCast];omega⟩
    .simp only;rw[hdt,bN (λ e=>hne e.symm),<-h7,zcg1 (by rw[eA];omega),iN (by omega),zaI1 _ _ _ _ (by omega)]
    .simp only;rw[jH (by omega),show g+(k2n+1)-1=(g+k2n-1)+1 by omega,<-eQ,<-eQ,h8]
  .right;refine⟨((kn:Int),s),by simp only[Int.toNat_natCast];rw[bN (by simp;omega)],kn,rfl,h3,by omega,?_⟩;simp only;rw[h7,dN (by omega)]
 .refine⟨g,1,rfl,rfl,rfl,by omega,by omega,by omega,?_,rfl⟩;simp only;have hdt:=zcg2 (l:=a) (i:=g-1) (by omega);rw[show g-1+2=g+1 by omega,show g-1+1=g by omega,bO he.symm,hd]at hdt;exact hdt.symm
theorem zcV8(a:List aF)(hl:a.length<=1000000):∃r,za2 a=some (dst a,r):=by
 unfold za2
 by_cases h2:a.length<2
 .rw[bO (by simp;omega)];refine⟨a,?_⟩;have:dst a=a:=by
   match a,h2 with
   |[],_=>rfl
   |[x],_=>rfl
   |x::y::t,h=>simp at h;omega
  rw[this]
 .rw[bN (by simp;omega)];obtain⟨x,hx,hp⟩:=zaR1 (body:=zu5 a) (λ g=>∃n:Nat,g=(n:Int)/\1<=n/\n<=a.length/\dst (a.take n)=a.take n) (λ g=>a.length-g.toNat)
   (λ x=>match x with|.inl _=>dst a=a|.inr z=>z.1=dst a) (by
    rintro g ⟨n,rfl,h1,h3,h4⟩;unfold zu5
    by_cases hlt:n<a.length
    .have w:IntKind.i64.wrap ((n:Int)-1)=((n-1:Nat):Int):=by rw[zk8 (by omega) (by omega)];omega
     have w2:IntKind.i64.wrap ((n:Int)+1)=((n+1:Nat):Int):=by rw[zk8 (by omega) (by omega)];omega
     rw[bO (by simp;omega),zb0 (by omega),w,w2,zb0 (by omega)];simp only[Int.toNat_natCast]
     by_cases he:a.getD n aF.zero=a.getD (n-1) aF.zero
     .right;obtain⟨x,hx,k,hk1,hk2,hk3,hk4⟩:=zco7 a n h1 hlt hl he h4;rw[bO (cB he),zb0 (by omega),hx];obtain⟨x1,x2⟩:=x;simp only at hk1 hk2 hk4;subst hk1;rw[Option.bind_some];unfold zC2;simp only[Int.toNat_natCast];rw[zb0 (by omega),zb0 (by omega)];refine⟨_,rfl,?_⟩;simp only;rw[fD,bZ,eN (by simp;omega),iR,Nat.min_self,hk4]
     .left;refine⟨((n+1:Nat):Int),by rw[bN (by simpa using he)],⟨n+1,rfl,by omega,by omega,?_⟩,by simp only[Int.toNat_natCast];omega⟩;have hdt:=zcg2 (l:=a) (i:=n-1) (by omega);rw[show n-1+2=n+1 by omega,show n-1+1=n by omega,bN (λ e=>he e.symm),h4,<-zcg1 hlt]at hdt;exact hdt
    .right;refine⟨.inl (),by rw[bN (by simp;omega)],?_⟩;simp only;rw[dN (by omega)]at h4;exact h4) 1 ⟨1,rfl,by omega,by omega,by
      match a,h2 with
      |x::t,_=>simp[dst]⟩
  rw[hx];cases x with
  |inl u=>simp only at hp;refine⟨a,?_⟩;rw[hp];rfl
  |inr z=>simp only at hp;refine⟨z.2,?_⟩;rw[<-hp];rfl
theorem zax5(l:List aF)(hl:l.length<=1000000):zo0 l=some (zbo9 l):=by unfold zo0;rw[zb0 (by omega),zcK2 l (by omega),Option.bind_some];obtain⟨r,h⟩:=zcV8 (l.mergeSort λ x y=>!decide (ltP y x)) (by rw[List.length_mergeSort];exact hl);rw[h];simp only[Option.bind_some];rw[zdl3 (zcz8 l) λ x=>List.mem_mergeSort]
theorem zdC3(l:List aF)(p:aF)(hl:l.length<=1000000):za7 l p=some (decide (p∈l)):=by
 unfold za7 za6;have key:zc1 (zw1 l p) 0=some ((zG5 (λ i=>if p=l.getD i aF.zero then some (Sum.inr (i:Int))else none) l.length 0).getD (Sum.inl ())):=by
  refine zE8 l.length _ (Sum.inl ()) (λ i hi=>?_) ?_
  .unfold zw1;rw[bO (by simpa using hi),zb0 (by omega),zk8 (by omega) (by omega)];simp only[Int.toNat_natCast,bQ];split<;>rfl
  .unfold zw1;rw[bN (by simp)]
 rw[key];have fr:∀k i,i+k=l.length->(p∈l.drop i->∃j:Nat,zG5 (λ i=>if p=l.getD i aF.zero then some (Sum.inr (α:=Unit) (i:Int))else none) k i=some (.inr (j:Int)))/\(p∉l.drop i->zG5 (λ i=>if p=l.getD i aF.zero then some (Sum.inr (α:=Unit) (i:Int))else none) k i=none):=by
  intro k;induction k with
  |zero=>intro i hi;rw[fJ (by omega)];simp[zG5]
  |succ k ih=>
   intro i hi;obtain⟨h1,h2⟩:=ih (i+1) (by omega);rw[zae5 l i aF.zero (by omega)];simp only[zG5]
   by_cases hp:p=l.getD i aF.zero
   .rw[<-hp];simp only[bT,bX,true_or,forall_const,not_true,iD,iA];exact⟨i,rfl⟩
   .simp only[hp,bV,bX,iB];exact⟨h1,h2⟩
 obtain⟨h1,h2⟩:=fr l.length 0 (by omega);rw[fD]at h1 h2
 by_cases hp:p∈l
 .obtain⟨j,hj⟩:=h1 hp;rw[hj];simp only[Option.getD_some,Option.bind_some,hp,bU,cK,bQ];omega
 .rw[h2 hp];simp only[Option.getD_none,Option.bind_some,hp,cV];rfl
theorem zas9(l:List aF)(p:aF)(hl:l.length<=1000000):zk2 l p=some (decide (p∈l)):=by unfold zk2;rw[zdC3 l p hl];rfl
theorem zbc4(l:List aF)(p:aF)(hl:l.length<=1000000):ze4 l p=some (decide (p∈l)):=by
 unfold ze4;have key:=zV7 (body:=zU6 l p) l aF.zero (λ i (_:Unit)=>(i:Int)) (λ _ x _=>some (if x=p then .inr (Sum.inr true)else .inl ())) (λ _=>Sum.inl (β:=Bool) ())
  (λ i s hi=>by
   unfold zU6;have h3:0<=(i:Int)/\(i:Int)<(l.length:Int):=by omega
   simp only[h3.1,h3.2,cN,zl3,bU,bT,Int.toNat_natCast,zc2 i (by omega),Option.map_some,bQ];split<;>rfl)
  (λ s=>by unfold zU6;simp) ()
 rw[show(0:Int)=(λ(i:Nat) (_:Unit)=>(i:Int)) 0 ()from rfl,key];have fold:∀(l:List aF) (i:Nat),walk (λ _ x (_:Unit)=>some (if x=p then .inr (Sum.inr true)else .inl ())) (λ _=>Sum.inl (β:=Bool) ()) l i ()=some (if p∈l then .inr true else .inl ()):=by
  intro l;induction l with
  |nil=>intro i;simp[walk]
  |cons x t ih=>
   intro i;simp only[walk]
   by_cases e:x=p
   .subst e;simp
   .simp only[e,bV,bX,λ h:p=x=>e h.symm,iB];rw[ih];have:¬p=x:=λ h=>e h.symm;simp[this]
 rw[fold]
 by_cases hp:p∈l<;>simp[hp,zaw9]
theorem zcg3(q:aA)(h1:q.aH.length<=1000)(h2:q.aU.length<=1000):zs3 q=some ((ordQ q).map (·.aI)):=by
 unfold zs3;rw[zbo3 q (by omega) (by omega),Option.bind_some];have hl:(q.aH++q.aU).length<=2000:=by rw[bR];omega
 show _=some ((q.aH++q.aU).map (·.aI));generalize q.aH++q.aU=l at hl;have key:=zv8 (body:=zad3 l) l aM.zero (λ i (s:List aF)=>((i:Int),s)) (λ i h s=>some (.inl (zbb3 s (some h.aI)))) (λ s=>s) (λ i s=>s.length<=i)
  (λ i s hi hs=>by
   refine⟨?_,λ s' h=>?_⟩
   .unfold zad3;have h1:s.length+1<=4294967296:=by omega
    have h3:0<=(i:Int)/\(i:Int)<(l.length:Int):=by omega
    simp only[h1,h3.1,h3.2,cN,zl3,bU,bT,Int.toNat_natCast,zc2 i (by omega),Option.map_some,wmap,zbb3]
   .simp only[cK,dW]at h;subst h;simp[zbb3];omega)
  (λ s hs=>by unfold zad3;simp) [] (by simp)
 rw[show((0,[]):Int×List aF)=(λ(i:Nat) (s:List aF)=>((i:Int),s)) 0 []from rfl,key,zbb4 (λ h:aM=>some h.aI)];simp[zaE7]
theorem zbB5(l:List aT)(hl:l.length<=1000000):zd8 l=some (l.map (·.aI)):=by have e:zd8 l=zh0 l:=rfl;rw[e];exact zdB6 l hl
def zA0(q:aA):List aF:=zbo9 (q.aL.map (·.aI)++(ordQ q).map (·.aI))
theorem zaC5(q:aA)(h0:q.aL.length<=1000)(h1:q.aH.length<=1000)(h2:q.aU.length<=1000):zy6 q=some (zA0 q):=by
 unfold zy6 zA0;have hl:(ordQ q).length<=2000:=by unfold ordQ;rw[bR];omega
 rw[zbB5 _ (by omega),Option.bind_some,zcg3 q h1 h2,Option.bind_some,zb0 (by simp;omega),zax5 _ (by simp;omega)];rfl
theorem zao9{q:aA}(h:SoundP q){p:aF}:p∈zA0 q↔hasQ q p=true:=by unfold zA0;rw[zbt2,cP,zdO4 h,or_comm]
theorem SoundP.lens{q:aA}(h:SoundP q):q.aL.length<=8/\q.aH.length<=8/\q.aU.length<=8/\zP4 q<=16:=by have:=h.cl;have:=h.wl;have:=zao4 h.hv;unfold zP4;omega
theorem zco8{q:aA}(h:SoundP q):zi0 q=!canQ q:=by unfold zi0;rw[(zbB2 q).2 h,cA];rfl
theorem zbN4(g:aA×List aT)(hs:SoundP g.1)(hg:g.2.length<=1000000):zM0 g=some (if canQ g.1=true then .inl (zbb8 g)else .inr g):=by
 unfold zM0;rw[zbb7,Option.bind_some,zco8 hs];cases hc:canQ g.1 with
 |false=>simp
 |true=>
  obtain⟨h1,_,hl⟩:=zas8 hc;rw[bO (by simp),zbx4,Option.bind_some,bO rfl];unfold zbb8 popQ
  by_cases h0:0<g.1.aH.length
  .rw[bO (by simpa using h0),zb0 (by omega),bO h0];unfold zV2;rw[zaC2 _ _ _ (by simp only;omega),Option.bind_some,zb0 (by omega)]
  .rw[bN (by simpa using h0),bN h0];have hw:0<g.1.aU.length:=by unfold zP4 at h1;omega
   rw[zb0 (by omega)];unfold zV2;rw[zaC2 _ _ _ (by simp only;omega),Option.bind_some,zb0 (by omega)]
theorem zbN5{q:aA}(h:SoundP q):zD1 q=some (advS q,advG q):=by
 unfold zD1;have hl:=h.lens;rw[zaR6,Option.bind_some,(zbB2 q).2 h,bN (by decide),zau7 q (by omega) (by omega) (by omega),Option.bind_some];have key:=zce4 (body:=zM0) (λ g=>SoundP g.1/\zP4 g.1+g.2.length<=1000) (λ g=>zP4 g.1) (λ g=>advN (zP4 g.1) g) (λ g hg=>by
  rw[zbN4 g hg.1 (by omega)];cases hc:canQ g.1 with
  |false=>right;rw[bN (by decide),zbb9,bN (by rw[hc];decide)]
  |true=>
   left;obtain⟨h1,h2,_⟩:=zas8 hc;refine⟨zbb8 g,by rw[bO rfl],⟨hg.1.pop hc,?_⟩,?_,?_⟩
   .unfold zbb8;simp only[bR,List.length_cons,List.length_nil];omega
   .show zP4 (popQ g.1)<zP4 g.1;omega
   .rw[zbb9 g,bO hc]) (q,[]) ⟨h,by simp only[List.length_nil];omega⟩
 rw[key];rfl
theorem zaf0{q:aA}(h:SoundP q):zx4 q=some (zw5 q):=by unfold zx4;rw[zbN5 h,Option.bind_some,zdO1];rfl
theorem zcK3(p:aF)(pr:Int):(((!(za3 p))||(decide (pr<0)))||(decide (7<pr)))=!zbo7 p pr:=by
 unfold zbo7;generalize za3 p=b;rw[cJ];cases b
 .simp
 .simp
theorem zau8(q:aA)(h:zP4 q<=1000):zt6 q=some (advG q,advS q):=zbM9 q h
theorem zcg4(q:aA)(p:aF)(a:aC)(pr:Int):zT1 q p a pr=some (zI6 q p a pr):=by
 unfold zT1 zI6;rw[zae7,Option.bind_some];cases h1:zi0 q with
 |false=>rfl
 |true=>
  obtain⟨hs,hcan⟩:=(zt4 q).1 h1;have hl:=hs.lens;rw[ifNT,ifTF,zcK3];cases h2:zbo7 p pr with
  |false=>rfl
  |true=>
   rw[ifNT,ifTF];cases h3:zb4 q.aB a with
   |false=>rfl
   |true=>
    rw[ifNT,ifTF,zaw4 q p (by omega) (by omega),Option.bind_some];cases h4:(zB2 q p).2 with
    |true=>rfl
    |false=>
     rw[ifFT,ifFT,zbM8 q (by omega) (by omega) (by omega),Option.bind_some,zN4 q p (by omega),Option.bind_some,zaG3,Option.bind_some];cases h5:covA q.aB (getH q.aL p) a with
     |true=>rfl
     |false=>
      rw[ifFT,ifFT]
      by_cases h6:getH q.aL p=aC.zero
      .rw[bN (by rw[(zae9 _).2 h6];decide),bN (show¬getH q.aL p≠aC.zero fromλ k=>k h6),zk8 (by omega) (by omega)]
       by_cases h7:8<=q.aL.length+q.aU.length
       .rw[bO (by simp;omega),bO h7];rfl
       .rw[bN (by simp;omega),bN h7,zce8,Option.bind_some];have hi:=zdd1 hs h3 h2 h4 (p:=p) (a:=a) (pr:=pr) (by omega);have e:({aM.zero with aI:=p,aJ:=a,aX:=pr}:aM)=⟨p,a,pr,0⟩:=rfl;rw[e,hi,bN (by simp)];have hsc:=hs.claimW h3 h2 h4 h6 (by omega) (p:=p) (a:=a) (pr:=pr);have hl2:=hsc.lens;unfold zB8 ze0 zZ5;rw[zb0 (by decide),Option.bind_some];have hq:(⟨(⟨q.aB.name,q.aB.kind,q.aB.aV,q.aB.home⟩:aD),q.aL,q.aH,(claimW q p a pr).aU,q.gen⟩:aA)=claimW q p a pr:=rfl;simp only[hq];rw[zau8 _ (by omega)];simp only[Option.bind_some];unfold zw5;rw[(zbe9 (claimW q p a pr)).1]
        try rfl
      .rw[bO (by rw[(zao8 _).2 h6];rfl),bO h6];have hsc:=hs.claimC h3 h4 h5 h6;have hl2:=hsc.lens;unfold zE1 zs1 zac7;rw[zb0 (by decide),zcf4,Option.bind_some,zb0 (by omega),Option.bind_some];have hq:(⟨(⟨q.aB.name,q.aB.kind,q.aB.aV,q.aB.home⟩:aD),q.aL,q.aH++[{aM.zero with aI:=p,aJ:=zao7 q.aB (getH q.aL p) a}],q.aU,q.gen⟩:aA)=claimC q p a:=rfl;simp only[hq];rw[zau8 _ (by omega)];simp only[Option.bind_some];unfold zw5;rw[(zbe9 (claimC q p a)).1]
       try rfl
theorem zcg5(q:aA)(p:aF)(a:aC)(pr:Int):zI7 q p a pr=some (zI6 q p a pr):=by
 unfold zI7 zI6;rw[zao6,Option.bind_some];cases h1:zi0 q with
 |false=>rfl
 |true=>
  obtain⟨hs,hcan⟩:=(zt4 q).1 h1;have hl:=hs.lens;rw[ifNT,ifTF,zao3,zcK3];cases h2:zbo7 p pr with
  |false=>rfl
  |true=>
   rw[ifNT,ifTF,zbs4];cases h3:zb4 q.aB a with
   |false=>rfl
   |true=>
    rw[ifNT,ifTF,zai7 q p (by omega) (by omega),Option.bind_some];cases h4:(zB2 q p).2 with
    |true=>rfl
    |false=>
     rw[ifFT,ifFT,zbU6 q (by omega) (by omega) (by omega),Option.bind_some,zT2 q p (by omega),Option.bind_some];have hcv:zq1 q.aB (getH q.aL p) a=covA q.aB (getH q.aL p) a:=rfl;rw[hcv];cases h5:covA q.aB (getH q.aL p) a with
     |true=>rfl
     |false=>
      rw[ifFT,ifFT,zaN8]
      by_cases h6:getH q.aL p=aC.zero
      .rw[bN (by rw[(zae9 _).2 h6];decide),bN (show¬getH q.aL p≠aC.zero fromλ k=>k h6),zk8 (by omega) (by omega)]
       by_cases h7:8<=q.aL.length+q.aU.length
       .rw[bO (by simp;omega),bO h7];rfl
       .rw[bN (by simp;omega),bN h7,zbU4,Option.bind_some];have hi:=zdd1 hs h3 h2 h4 (p:=p) (a:=a) (pr:=pr) (by omega);have e:({aM.zero with aI:=p,aJ:=a,aX:=pr}:aM)=⟨p,a,pr,0⟩:=rfl;rw[e,hi,bN (by simp)];have hsc:=hs.claimW h3 h2 h4 h6 (by omega) (p:=p) (a:=a) (pr:=pr);have hq:(⟨(⟨q.aB.name,q.aB.kind,q.aB.aV,q.aB.home⟩:aD),q.aL,q.aH,(claimW q p a pr).aU,q.gen⟩:aA)=claimW q p a pr:=rfl;simp only[hq];rw[zaf0 hsc];rfl
      .rw[bO (by rw[(zao8 _).2 h6];rfl),bO h6];have hsc:=hs.claimC h3 h4 h5 h6;rw[zco6,Option.bind_some,zb0 (by omega)];have hq:(⟨(⟨q.aB.name,q.aB.kind,q.aB.aV,q.aB.home⟩:aD),q.aL,q.aH++[{aM.zero with aI:=p,aJ:=zao7 q.aB (getH q.aL p) a}],q.aU,q.gen⟩:aA)=claimC q p a:=rfl;rw[hq,zaf0 hsc];rfl
theorem zbU7(q:aA)(p:aF):zO7 q p=some (zI3 q p):=by
 unfold zO7 zI3;rw[zae7,Option.bind_some];cases h1:zi0 q with
 |false=>rfl
 |true=>
  obtain⟨hs,hcan⟩:=(zt4 q).1 h1;have hl:=hs.lens;rw[ifNT,ifTF,zaw4 q p (by omega) (by omega),Option.bind_some];cases h4:(zB2 q p).2 with
  |false=>rfl
  |true=>
   rw[ifNT,ifTF,zaR7 q (by omega) (by omega) (by omega),Option.bind_some];have hsc:=hs.cancel p;have hl2:=hsc.lens;unfold zB9 ze7 ze9 zZ6;rw[zb0 (by decide),zaC3 _ _ (by omega),Option.bind_some,Option.bind_some,zb0 (by decide),zaC3 _ _ (by simp only;omega),Option.bind_some,Option.bind_some];have hq:({{q with aH:=rmL q.aH p}with aU:=rmL q.aU p}:aA)=zah6 q p:=rfl;simp only[hq];rw[zau8 _ (by omega)];simp only[Option.bind_some];unfold zw5;rw[(zbe9 (zah6 q p)).1]
   try rfl
theorem zbU8(q:aA)(p:aF):zV3 q p=some (zI3 q p):=by
 unfold zV3 zI3;rw[zao6,Option.bind_some];cases h1:zi0 q with
 |false=>rfl
 |true=>
  obtain⟨hs,hcan⟩:=(zt4 q).1 h1;have hl:=hs.lens;rw[ifNT,ifTF,zai7 q p (by omega) (by omega),Option.bind_some];cases h4:(zB2 q p).2 with
  |false=>rfl
  |true=>rw[ifNT,ifTF,zau7 q (by omega) (by omega) (by omega),Option.bind_some,zaw3 _ _ (by omega),Option.bind_some,zaw3 _ _ (by simp only;omega),Option.bind_some];have hq:({{q with aH:=rmL q.aH p}with aU:=rmL q.aU p}:aA)=zah6 q p:=rfl;simp only[hq];rw[zaf0 (hs.cancel p)];rfl
theorem zdl4{q:aA}(hs:SoundP q){p:aF}(hz:getH q.aL p≠aC.zero):decide (0<=zQ7 q.aH p)=(zB2 q p).2:=by
 rw[cJ,zbH2,bQ];constructor
 .intro h;refine eP λ hno=>?_;have:∀w∈q.aH,w.aI≠p:=λ w hw e=>hno ⟨w,cW _ hw,e⟩;exact zbM5.2 this h
 .rintro⟨w,hw,e⟩;rcases cP.1 hw with hw|hw
  .refine eP λ hno=>?_;exact zbM5.1 hno w hw e
  .exact absurd (by rw[<-e];exact(hs.wg w hw).2) hz
theorem zcg6(q:aA)(p:aF)(a:aC):zT0 q p a=some (zE2 q p a):=by
 unfold zT0 zE2;rw[zae7,Option.bind_some];cases h1:zi0 q with
 |false=>rfl
 |true=>
  obtain⟨hs,hcan⟩:=(zt4 q).1 h1;have hl:=hs.lens;rw[ifNT,ifTF,zN4 q p (by omega),Option.bind_some]
  by_cases h6:getH q.aL p=aC.zero
  .rw[bO ((zae9 _).2 h6),bO h6];rfl
  .rw[bN (by rw[(zao8 _).2 h6];decide),bN h6,zas7 _ _ (by omega),Option.bind_some,zdl4 hs h6];cases h4:(zB2 q p).2 with
   |true=>rfl
   |false=>
    rw[ifFT,ifFT,zaG3,Option.bind_some];cases h5:covA q.aB (getH q.aL p) a with
    |false=>rfl
    |true=>
     rw[ifNT,ifTF,zaR7 q (by omega) (by omega) (by omega),Option.bind_some]
     by_cases h7:getH q.aL p=a
     .rw[bO (by simp[h7]),bO h7]
     .rw[bN (by simpa usingλ e=>h7 e.symm),bN h7];have hsc:=hs.lower h4 h6 h5;have hl2:=hsc.lens;unfold zC0 zn9 zZ7;rw[zb0 (by decide),zao2 _ _ _ (by omega),Option.bind_some,Option.bind_some];have hq:({q with aL:=setL q.aL p a}:aA)=zaC4 q p a:=rfl;simp only[hq];rw[zau8 _ (by omega)];simp only[Option.bind_some];unfold zw5;rw[(zbe9 (zaC4 q p a)).1]
      try rfl
theorem zcg7(q:aA)(p:aF)(a:aC):zab5 q p a=some (zE2 q p a):=by
 unfold zab5 zE2;rw[zao6,Option.bind_some];cases h1:zi0 q with
 |false=>rfl
 |true=>
  obtain⟨hs,hcan⟩:=(zt4 q).1 h1;have hl:=hs.lens;rw[ifNT,ifTF,zT2 q p (by omega),Option.bind_some,zaN8]
  by_cases h6:getH q.aL p=aC.zero
  .rw[bO ((zae9 _).2 h6),bO h6];rfl
  .rw[bN (by rw[(zao8 _).2 h6];decide),bN h6,zai7 q p (by omega) (by omega),Option.bind_some];cases h4:(zB2 q p).2 with
   |true=>rfl
   |false=>
    have hcv:zq1 q.aB (getH q.aL p) a=covA q.aB (getH q.aL p) a:=rfl;rw[ifFT,ifFT,hcv];cases h5:covA q.aB (getH q.aL p) a with
    |false=>rfl
    |true=>
     rw[ifNT,ifTF,zau7 q (by omega) (by omega) (by omega),Option.bind_some]
     by_cases h7:getH q.aL p=a
     .rw[bO (by simp[h7]),bO h7]
     .rw[bN (by simpa using h7),bN h7,zaC2 _ _ _ (by omega),Option.bind_some];have hq:({q with aL:=setL q.aL p a}:aA)=zaC4 q p a:=rfl;simp only[hq];rw[zaf0 (hs.lower h4 h6 h5)];rfl
theorem zbU9(q:aA)(p:aF):zO8 q p=some (zC4 q p):=by
 unfold zO8 zC4;rw[zae7,Option.bind_some];cases h1:zi0 q with
 |false=>rfl
 |true=>
  obtain⟨hs,hcan⟩:=(zt4 q).1 h1;have hl:=hs.lens;have hpl:(zA0 q).length<=1000000:=by have:=zbt4 (q.aL.map (·.aI)++(ordQ q).map (·.aI));unfold zA0;unfold ordQ at*;simp only[bR,cO]at this;omega
  rw[ifNT,ifTF,zaC5 q (by omega) (by omega) (by omega),Option.bind_some,zas9 _ _ hpl,Option.bind_some];have he:decide (p∈zA0 q)=hasQ q p:=by rw[cJ,bQ,zao9 hs]
  rw[he];cases h4:hasQ q p with
  |false=>rfl
  |true=>
   rw[ifNT,ifTF,zaR7 q (by omega) (by omega) (by omega),Option.bind_some];have hsc:=hs.del p;have hl2:=hsc.lens;unfold zC1 zm5 zf0 ze8 zZ8;rw[zb0 (by decide),zao2 _ _ _ (by omega),Option.bind_some,Option.bind_some,zb0 (by decide),zaC3 _ _ (by simp only;omega),Option.bind_some,Option.bind_some,zb0 (by decide),zaC3 _ _ (by simp only;omega),Option.bind_some,Option.bind_some];have hz:setL q.aL p ({aC.zero with})=zw0 p q.aL:=bO rfl;have hq:({{{q with aL:=zw0 p q.aL}with aH:=rmL q.aH p}with aU:=rmL q.aU p}:aA)=del q p:=rfl;simp only[hz,hq];rw[zau8 _ (by omega)];simp only[Option.bind_some];unfold zw5;rw[(zbe9 (del q p)).1]
   try rfl
theorem zaC6(q:aA)(p:aF)(h0:q.aL.length<=1000000)(h1:q.aH.length<=1000000)(h2:q.aU.length<=1000000):zr2 q p=some (hasQ q p):=by unfold zr2 hasQ;rw[zai7 q p h1 h2,Option.bind_some,zT2 q p (by omega)];cases h:(zB2 q p).2<;>simp[zaN8]
theorem zbV0(q:aA)(p:aF):zV5 q p=some (zC4 q p):=by
 unfold zV5 zC4;rw[zao6,Option.bind_some];cases h1:zi0 q with
 |false=>rfl
 |true=>
  obtain⟨hs,hcan⟩:=(zt4 q).1 h1;have hl:=hs.lens;rw[ifNT,ifTF,zaC6 q p (by omega) (by omega) (by omega),Option.bind_some];cases h4:hasQ q p with
  |false=>rfl
  |true=>rw[ifNT,ifTF,zau7 q (by omega) (by omega) (by omega),Option.bind_some,zaC2 _ _ _ (by omega),Option.bind_some,zaw3 _ _ (by simp only;omega),Option.bind_some,zaw3 _ _ (by simp only;omega),Option.bind_some];have hz:setL q.aL p ({aC.zero with})=zw0 p q.aL:=bO rfl;have hq:({{{q with aL:=zw0 p q.aL}with aH:=rmL q.aH p}with aU:=rmL q.aU p}:aA)=del q p:=rfl;simp only[hz,hq];rw[zaf0 (hs.del p)];rfl
def zaX9(x:aA×List aT×Int):Prop:=x.1.aL.length<=8/\x.1.aH.length<=8/\x.1.aU.length<=8/\x.2.1.length<=16
theorem zbt5(e:Int):zaX9 (errQ e):=by unfold zaX9 errQ aA.zero;simp
theorem zau9{q:aA}(h:SoundP q):zaX9 (zw5 q):=by have h1:=(h.adv).lens;have h2:=zdB9 q;have h3:=h.lens;exact⟨h1.1,h1.2.1,h1.2.2.1,by show(advG q).length<=16;omega⟩
theorem zcg8{q:aA}(h:SoundP q):zaX9 (q,[],0):=by have h1:=h.lens;exact⟨h1.1,h1.2.1,h1.2.2.1,by simp⟩
theorem zcV9{q:aA}{p:aF}{a:aC}{pr:Int}(h:(zI6 q p a pr).2.2≠0):∃e,zI6 q p a pr=errQ e:=by
 unfold zI6 at h⊢;split;· exact⟨_,rfl⟩
 split;· exact⟨_,rfl⟩
 split;· exact⟨_,rfl⟩
 split;· exact⟨_,rfl⟩
 rename_i h1 h2 h3 h4;rw[bN h1,bN h2,bN h3,bN h4]at h;split
 .rename_i h5;rw[bO h5]at h;exact absurd rfl h
 rename_i h5;rw[bN h5]at h;split
 .rename_i h6;rw[bO h6]at h;exact absurd rfl h
 rename_i h6;rw[bN h6]at h;split
 .exact⟨_,rfl⟩
 .rename_i h7;rw[bN h7]at h;exact absurd rfl h
theorem zcK4{q:aA}{p:aF}(h:(zI3 q p).2.2≠0):∃e,zI3 q p=errQ e:=by
 unfold zI3 at h⊢;split;· exact⟨_,rfl⟩
 split;· exact⟨_,rfl⟩
 rename_i h1 h2;rw[bN h1,bN h2]at h;exact absurd rfl h
theorem zcK5{q:aA}{p:aF}(h:(zC4 q p).2.2≠0):∃e,zC4 q p=errQ e:=by
 unfold zC4 at h⊢;split;· exact⟨_,rfl⟩
 split;· exact⟨_,rfl⟩
 rename_i h1 h2;rw[bN h1,bN h2]at h;exact absurd rfl h
theorem zcW0{q:aA}{p:aF}{a:aC}(h:(zE2 q p a).2.2≠0):∃e,zE2 q p a=errQ e:=by
 unfold zE2 at h⊢;split;· exact⟨_,rfl⟩
 split;· exact⟨_,rfl⟩
 split;· exact⟨_,rfl⟩
 split;· exact⟨_,rfl⟩
 rename_i h1 h2 h3 h4;rw[bN h1,bN h2,bN h3,bN h4]at h;split
 .rename_i h5;rw[bO h5]at h;exact absurd rfl h
 .rename_i h5;rw[bN h5]at h;exact absurd rfl h
theorem zbf1(q:aA)(p:aF)(a:aC)(pr:Int):zaX9 (zI6 q p a pr):=by
 by_cases h:(zI6 q p a pr).2.2=0
 .obtain⟨hs,_,_,_,_,hh⟩:=zbc2 h;rcases hh with⟨_,e⟩|⟨_,_,e,hc⟩|⟨_,_,_,e,hc⟩
  .rw[e];exact zcg8 hs
  .rw[e];exact zau9 hc
  .rw[e];exact zau9 hc
 .obtain⟨e,he⟩:=zcV9 h;rw[he];exact zbt5 e
theorem zaY0(q:aA)(p:aF):zaX9 (zI3 q p):=by
 by_cases h:(zI3 q p).2.2=0
 .obtain⟨_,_,_,e,hc⟩:=zaG6 h;rw[e];exact zau9 hc
 .obtain⟨e,he⟩:=zcK4 h;rw[he];exact zbt5 e
theorem zaY1(q:aA)(p:aF):zaX9 (zC4 q p):=by
 by_cases h:(zC4 q p).2.2=0
 .obtain⟨_,_,_,e,hc⟩:=zbB3 h;rw[e];exact zau9 hc
 .obtain⟨e,he⟩:=zcK5 h;rw[he];exact zbt5 e
theorem zbf2(q:aA)(p:aF)(a:aC):zaX9 (zE2 q p a):=by
 by_cases h:(zE2 q p a).2.2=0
 .obtain⟨hs,_,_,_,_,hh⟩:=zaG7 h;rcases hh with⟨_,e⟩|⟨_,e,hc⟩
  .rw[e];exact zcg8 hs
  .rw[e];exact zau9 hc
 .obtain⟨e,he⟩:=zcW0 h;rw[he];exact zbt5 e
theorem zcW1(n m:Int)(h1:1<=m)(h2:m<=1000000):zp8 n m=some (n% m):=by
  unfold zp8;rw[bN (by simp;omega),gdp (by omega)];have hlt:n.tmod m<m:=Int.tmod_lt_of_pos n (by omega);have hgt:-m<n.tmod m:=by have:=Int.lt_tmod_of_pos n (show 0<m by omega);omega
  have e:n% m=if n.tmod m<0 then n.tmod m+m else n.tmod m:=by
    rw[Int.emod_eq_tmod]
    by_cases h3:0<=n\/m∣n
    · rw[bO h3]
      have:0<=n.tmod m:=by
        rcases h3 with h|h
        .exact Int.tmod_nonneg m h
        .rw[Int.tmod_eq_zero_of_dvd h];omega
      rw[bN (by omega)];omega
    · rw[bN h3]
      simp only[not_or]at h3;have h5:0<=(-n).tmod m:=Int.tmod_nonneg m (by omega);rw[Int.neg_tmod]at h5;have h6:n.tmod m≠0:=λ h=>h3.2 (Int.dvd_of_tmod_eq_zero h);rw[bO (by omega)];omega
  rw[e]
  by_cases hc:n.tmod m<0
  .rw[bO (by simpa using hc),bO hc,zk8 (by omega) (by omega)]
  .rw[bN (by simpa using hc),bN hc]
def zdR8(n:Int):Int:=zW8.getD (n% 8).toNat 0
def amtM(r:aD)(n:Int):aC:=if r.kind=1 then⟨zdR8 n,0⟩else⟨0,1+n% r.aV⟩
theorem zcz9(n:Int):zq4 n=some (zdR8 n):=by unfold zq4;have hl:(zW8.length:Int)=8:=rfl;have h1:0<=n% 8:=kC _ (by decide);have h2:n% 8<8:=jM _ (by decide);rw[hl,zcW1 n 8 (by decide) (by decide),Option.bind_some,gdp ⟨h1,h2⟩];rfl
theorem zbp1(r:aD)(n:Int)(hr:zh1 r=true):zp4 r n=some (amtM r n):=by
  rw[zH0]at hr;unfold zp4 amtM
  by_cases hk:r.kind=1
  .simp only[hk,bU,bT,zcz9,Option.bind_some];rfl
  · simp only[hk,cV,bP,bV]
    rw[zcW1 n r.aV (by omega) (by omega),Option.bind_some];have h1:0<=n% r.aV:=kC _ (by omega);have h2:n% r.aV<r.aV:=jM _ (by omega);rw[zk8 (by omega) (by omega)];rfl
structure TapeOk (t:bJ):Prop where
  len:t.l.length<=1000000
  at_:0<=t.at_/\t.at_<=t.l.length
def zai9(m:Int)(t:bJ):Int:=if(t.l.length:Int)<=t.at_ then 0 else(t.l.getD t.at_.toNat 0)% m
def zT3(t:bJ):bJ:=if(t.l.length:Int)<=t.at_ then t else{t with at_:=t.at_+1}
theorem zac9(m:Int)(t:bJ)(ht:TapeOk t)(h1:1<=m)(h2:m<=1000000):zb7 m t=some (zai9 m t,zT3 t):=by
  unfold zb7 zai9 zT3;have hl:=ht.len;have ha:=ht.at_
  by_cases h:(t.l.length:Int)<=t.at_
  .simp only[h,bU,bT]
  · simp only[h,cV,bP,bV]
    have w1:IntKind.i64.wrap (t.at_+1)=t.at_+1:=zk8 (by omega) (by omega);have w2:IntKind.i64.wrap (t.at_+1-1)=t.at_:=by rw[zk8 (by omega) (by omega)];omega
    simp only[w1,w2];rw[gdp (by omega),zcW1 _ m h1 h2];rfl
theorem zP5{t:bJ}(h:TapeOk t):TapeOk (zT3 t):=by
  unfold zT3;split
  .exact h
  .have:=h.at_;exact⟨h.len,by simp only;omega⟩
theorem zdO7(t:bJ):(zT3 t).l=t.l:=by unfold zT3;split<;>rfl
theorem zaf8(m:Int)(t:bJ)(h1:1<=m):0<=zai9 m t/\zai9 m t<m:=by
  unfold zai9;split
  .omega
  .exact⟨kC _ (by omega),jM _ (by omega)⟩
def zab0:Nat->bJ->bJ
  |0,t=>t
  |n+1,t=>zab0 n (zT3 t)
theorem zbH5:∀(n:Nat) {t:bJ},TapeOk t->TapeOk (zab0 n t)
  |0,_,h=>h
  |n+1,_,h=>zbH5 n (zP5 h)
def catL(t:bJ):List aD:=
  [⟨⟨#[97]⟩,1,1,zai9 4 t⟩,⟨⟨#[98]⟩,1,1,zai9 4 (zT3 t)⟩,⟨⟨#[99]⟩,1,1,zai9 4 (zab0 2 t)⟩,⟨⟨#[100]⟩,1,1,zai9 4 (zab0 3 t)⟩,
   ⟨⟨#[112]⟩,2,1+zai9 8 (zab0 4 t),zai9 4 (zab0 5 t)⟩,⟨⟨#[113]⟩,2,1+zai9 3 (zab0 6 t),zai9 4 (zab0 7 t)⟩]
theorem zcW2(t:bJ)(ht:TapeOk t):zj7 t=some (zab0 8 t,catL t):=by
  unfold zj7;have hlit:(zt1.length:Int)=4:=rfl;have step:∀(i:Nat) (u:bJ) (l:List aD),i<4->TapeOk u->l.length<=10->zJ9 ((i:Int),u,l)=some (.inl ((i:Int)+1,zT3 u,l++[⟨zt1.getD i (⟨#[]⟩),1,1,zai9 4 u⟩])):=by
    intro i u l hi hu hl;unfold zJ9;have h1:(i:Int)<4:=by omega
    have h0:0<=(i:Int):=by omega
    simp only[hlit,h1,h0,cN,zl3,bU,bT];rw[zac9 4 u hu (by decide) (by decide),Option.bind_some,gdp (by omega),zk8 (by omega) (by omega)];simp only[Int.toNat_natCast]
  have s0:=step 0 t [] (by decide) ht (by simp);have o1:=zP5 ht;have s1:=step 1 (zT3 t) [⟨zt1.getD 0 (⟨#[]⟩),1,1,zai9 4 t⟩] (by decide) o1 (by simp);have o2:=zP5 o1;have s2:=step 2 (zT3 (zT3 t)) ([⟨zt1.getD 0 (⟨#[]⟩),1,1,zai9 4 t⟩]++[⟨zt1.getD 1 (⟨#[]⟩),1,1,zai9 4 (zT3 t)⟩]) (by decide) o2 (by simp);have o3:=zP5 o2;have s3:=step 3 (zT3 (zT3 (zT3 t))) ([⟨zt1.getD 0 (⟨#[]⟩),1,1,zai9 4 t⟩]++[⟨zt1.getD 1 (⟨#[]⟩),1,1,zai9 4 (zT3 t)⟩]++[⟨zt1.getD 2 (⟨#[]⟩),1,1,zai9 4 (zT3 (zT3 t))⟩]) (by decide) o3 (by simp);have o4:=zP5 o3;have s4:∀u l,zJ9 ((4:Int),u,l)=some (.inr (u,l)):=λ u l=>by unfold zJ9;simp[hlit]
  rw[zh3,show((0:Int),t,([]:List aD))=(((0:Nat):Int),t,[])from rfl,s0];simp only[List.nil_append];rw[zh3,show((0:Nat):Int)+1=((1:Nat):Int)from rfl,s1];simp only;rw[zh3,show((1:Nat):Int)+1=((2:Nat):Int)from rfl,s2];simp only;rw[zh3,show((2:Nat):Int)+1=((3:Nat):Int)from rfl,s3];simp only;rw[zh3,show((3:Nat):Int)+1=(4:Int)from rfl,s4];simp only[Option.bind_some];unfold zat7;have o5:=zP5 o4;have o6:=zP5 o5;have o7:=zP5 o6;have w8:=zaf8 8 (zT3 (zT3 (zT3 (zT3 t)))) (by decide);have w3:=zaf8 3 (zT3 (zT3 (zT3 (zT3 (zT3 (zT3 t)))))) (by decide);simp only;rw[zac9 8 _ o4 (by decide) (by decide),Option.bind_some];simp only;rw[zac9 4 _ o5 (by decide) (by decide),Option.bind_some,gdp (by simp)];simp only;rw[zac9 3 _ o6 (by decide) (by decide),Option.bind_some];simp only;rw[zac9 4 _ o7 (by decide) (by decide),Option.bind_some,gdp (by simp)];simp only;rw[zk8 (x:=1+zai9 8 _) (by omega) (by omega),zk8 (x:=1+zai9 3 _) (by omega) (by omega)];rfl
theorem zbS0(t:bJ):∀r∈catL t,zh1 r=true:=by
  intro r hr;have w8:=zaf8 8 (zab0 4 t) (by decide);have w3:=zaf8 3 (zab0 6 t) (by decide);unfold catL at hr;simp only[bX,dX,gF]at hr;rw[zH0];rcases hr with rfl|rfl|rfl|rfl|rfl|rfl
  .exact .inl ⟨rfl,rfl⟩
  .exact .inl ⟨rfl,rfl⟩
  .exact .inl ⟨rfl,rfl⟩
  .exact .inl ⟨rfl,rfl⟩
  .exact .inr ⟨rfl,by simp only;omega,by simp only;omega⟩
  .exact .inr ⟨rfl,by simp only;omega,by simp only;omega⟩
theorem zcW3(t:bJ):∀r∈catL t,resV r=true:=by
 intro r hr;have w8:=zaf8 8 (zab0 4 t) (by decide);have w3:=zaf8 3 (zab0 6 t) (by decide);have hs:=zbS0 t r hr;unfold resV;rw[hs,cA];have hm:∀u:bJ,(decide (0<=zai9 4 u)&&decide (zai9 4 u<4))=true:=λ u=>by have:=zaf8 4 u (by decide);simp;exact this
 unfold catL at hr;simp only[bX,dX,gF]at hr;have n1:zy8 ⟨#[97]⟩=true:=by decide+kernel
 have n2:zy8 ⟨#[98]⟩=true:=by decide+kernel
 have n3:zy8 ⟨#[99]⟩=true:=by decide+kernel
 have n4:zy8 ⟨#[100]⟩=true:=by decide+kernel
 have n5:zy8 ⟨#[112]⟩=true:=by decide+kernel
 have n6:zy8 ⟨#[113]⟩=true:=by decide+kernel
 rcases hr with rfl|rfl|rfl|rfl|rfl|rfl<;>simp only[n1,n2,n3,n4,n5,n6,hm,fT]
def zak3(r:aD):aA:={aA.zero with aB:=r}
theorem zcg9{r:aD}(h:resV r=true):zh1 r=true:=by unfold resV at h;simp only[bM]at h;exact h.2.1
theorem zcK6{r:aD}(h:resV r=true):SoundP (zak3 r):=
 ⟨h,zcV1 (zcg9 h),by simp[zak3,aA.zero],.nil,by simp[zak3,aA.zero],by show zS4 []=true;decide,by simp[zak3,aA.zero],by simp[zak3,aA.zero],by simp[zak3,aA.zero]⟩
theorem zco9{r:aD}(h:resV r=true):zi0 (zak3 r)=true:=by rw[zt4];exact⟨zcK6 h,rfl⟩
theorem zch0{q:aA}(h:zi0 q=true):zh1 q.aB=true:=zcg9 ((zt4 q).1 h).1.res
theorem zaO8{α:Type}{l:List α}{i:Nat}{z:α}(h:i<l.length):l.take (i+1)=l.take i++[l.getD i z]:=by rw[fC h,bS,bW h];rfl
theorem zu8{q:aA}(h:zi0 q=true):q.aL.length<=8/\q.aH.length<=8/\q.aU.length<=8/\zP4 q<=16:=((zt4 q).1 h).1.lens
theorem zdl5(q:aA)(l:List aF)(p:aF):remS q (l++[p])=remN (remS q l) p:=by unfold remS;rw[List.foldl_append];rfl
theorem zcK7{q:aA}(h:zi0 q=true){p:aF}(hp:hasQ q p=true):(zC4 q p).2.2=0/\(zC4 q p).1=remN q p:=by
 have e:=zbB4 h hp;have h0:(zC4 q p).2.2=0:=by rw[e];rfl
 refine⟨h0,?_⟩;unfold remN;rw[bO h0]
theorem zbc5:∀x:List UInt8,Op.bytesLess x x=false
 |[]=>rfl
 |a::x=>by simp[Op.bytesLess,zbc5 x]
theorem zch1:∀{x y z:List UInt8},Op.bytesLess x y=true->Op.bytesLess y z=true->Op.bytesLess x z=true
 |x,[],z,h1,_=>by cases x<;>simp[Op.bytesLess]at h1
 |x,b::y,[],_,h2=>by simp[Op.bytesLess]at h2
 |[],b::y,c::z,_,_=>by simp[Op.bytesLess]
 |a::x,b::y,c::z,h1,h2=>by
  simp only[Op.bytesLess,dE,bM,bQ,dB]at h1 h2⊢;rcases h1 with h1|⟨rfl,h1⟩
  .rcases h2 with h2|⟨rfl,h2⟩
   .exact .inl (UInt8.lt_trans h1 h2)
   .exact .inl h1
  .rcases h2 with h2|⟨rfl,h2⟩
   .exact .inl h2
   .exact .inr ⟨rfl,zch1 h1 h2⟩
def ltN(a b:ByteArray):Prop:=Op.bytesLess a.toList b.toList=true
instance(a b:ByteArray):Decidable (ltN a b):=by unfold ltN;infer_instance
theorem zcA0{a b:ByteArray}(h:ltN a b):a≠b:=λ e=>by unfold ltN at h;rw[e,zbc5]at h;cases h
theorem zbN6{a b c:ByteArray}(h:ltN a b)(k:ltN b c):ltN a c:=zch1 h k
def AscN(t:List aA):Prop:=t.Pairwise λ a b=>ltN a.aB.name b.aB.name
def ascW:List aA->Option ByteArray->Bool
 |[],_=>true
 |q::t,pv=>zi0 q&&((match pv with|none=>true|some n=>decide (ltN n q.aB.name))&&ascW t (some q.aB.name))
theorem zch2:∀(t:List aA) (pv:Option ByteArray),ascW t pv=true↔(∀q∈t,zi0 q=true)/\AscN t/\∀n,pv=some n->∀q∈t,ltN n q.aB.name
 |[],pv=>by simp only[ascW,dX,iD,fK,iA,fU,kI];exact .nil
 |q::t,pv=>by
  simp only[ascW,bM];rw[zch2 t (some q.aB.name)];constructor
  .rintro⟨h1,h2,h3,h4,h5⟩;refine⟨λ x hx=>?_,cL.2 ⟨λ x hx=>h5 _ rfl x hx,h4⟩,λ n hn x hx=>?_⟩
   .rcases bX.1 hx with rfl|hx
    .exact h1
    .exact h3 x hx
   .subst hn;simp only[bQ]at h2;rcases bX.1 hx with rfl|hx
    .exact h2
    .exact zbN6 h2 (h5 _ rfl x hx)
  .rintro⟨h1,h2,h3⟩;have h2':=cL.1 h2;refine⟨h1 q (.head _),?_,λ x hx=>h1 x (.tail _ hx),h2'.2,λ n hn x hx=>by cases hn;exact h2'.1 x hx⟩;cases pv with
   |none=>rfl
   |some n=>exact cB (h3 n rfl q (.head _))
def zat9(t:List aA):Bool:=decide (t.length<=8)&&ascW t none
def zq7(t:List aA):List aF:=zbo9 (t.flatMap zA0)
def zK4(t:List aA):Bool:=zat9 t&&decide ((zq7 t).length<=8)
structure ValidT (t:List aA):Prop where
 len:t.length<=8
 each:∀q∈t,zi0 q=true
 asc:AscN t
 bL:(zq7 t).length<=8
theorem zaS1(t:List aA):zat9 t=true↔t.length<=8/\(∀q∈t,zi0 q=true)/\AscN t:=by unfold zat9;rw[bM,bQ,zch2];simp
theorem zx3(t:List aA):zK4 t=true↔ValidT t:=by unfold zK4;rw[bM,bQ,zaS1];exact⟨λ⟨⟨h1,h2,h3⟩,h4⟩=>⟨h1,h2,h3,h4⟩,λ⟨h1,h2,h3,h4⟩=>⟨⟨h1,h2,h3⟩,h4⟩⟩
theorem zct5{α:Type}(prev t:List α)(z:α)(h:prev≠[]):(prev++t).getD (prev.length-1) z=prev.getLast h:=by have hp:0<prev.length:=gX.2 h;rw[bS,dF (by omega),bW (by omega),List.getLast_eq_getElem];rfl
theorem zcW4(t0:List aA):∀(t prev:List aA),t0=prev++t->
  walk (λ i q (_:Unit)=>some (if zi0 q=true/\(i=0\/ltN (t0.getD (i-1) aA.zero).aB.name q.aB.name)then Sum.inl ()else Sum.inr (Sum.inr (α:=Unit) false))) (λ _=>Sum.inl (β:=Bool) ()) t prev.length ()=
   some (if ascW t (prev.getLast?.map (·.aB.name))=true then .inl ()else .inr false):=by
 intro t;induction t with
 |nil=>intro prev _;simp[walk,ascW]
 |cons q t ih=>
  intro prev ht;simp only[walk];have hq:(prev.length=0\/ltN (t0.getD (prev.length-1) aA.zero).aB.name q.aB.name)↔(match prev.getLast?.map (·.aB.name)with|none=>true|some n=>decide (ltN n q.aB.name))=true:=by
   by_cases hp:prev=[]
   .subst hp;simp
   .have h1:=zct5 prev (q::t) aA.zero hp;rw[ht,h1,jF hp];have:prev.length≠0:=λ e=>hp (cR e);simp[this]
  by_cases e:zi0 q=true/\(prev.length=0\/ltN (t0.getD (prev.length-1) aA.zero).aB.name q.aB.name)
  .rw[bO e];have:=ih (prev++[q]) (by rw[ht];simp);rw[show(prev++[q]).length=prev.length+1 by simp]at this;simp only;have h2:ascW (q::t) (prev.getLast?.map (·.aB.name))=ascW t (some q.aB.name):=by simp only[ascW,e.1,hq.1 e.2,cA]
   rw[this,h2];simp
  .rw[bN e];rw[hq]at e;have hf:ascW (q::t) (prev.getLast?.map (·.aB.name))=false:=by
    rw[cY];intro hh;simp only[ascW,bM]at hh;exact e ⟨hh.1,hh.2.1⟩
   rw[hf];rfl
theorem zbB6{body:Int->Option (Int⊕(Unit⊕Bool))}(t:List aA)(hl:t.length<=8)
  (hb:∀i:Nat,i<t.length->body (i:Int)=some (if zi0 (t.getD i aA.zero)=true/\(i=0\/ltN (t.getD (i-1) aA.zero).aB.name (t.getD i aA.zero).aB.name)then .inl ((i+1:Nat):Int)else .inr (.inr false)))
  (he:body (t.length:Int)=some (.inr (.inl ()))):zc1 body 0=some (if ascW t none=true then .inl ()else .inr false):=by
 have key:=zV7 (body:=body) t aA.zero (λ i (_:Unit)=>(i:Int)) (λ i q _=>some (if zi0 q=true/\(i=0\/ltN (t.getD (i-1) aA.zero).aB.name q.aB.name)then Sum.inl ()else Sum.inr (Sum.inr (α:=Unit) false))) (λ _=>Sum.inl (β:=Bool) ())
  (λ i s hi=>by
   rw[hb i hi,Option.map_some];split<;>rfl) (λ s=>he) ()
 have:=zcW4 t t [] rfl;rw[show(0:Int)=(λ(i:Nat) (_:Unit)=>(i:Int)) 0 ()from rfl,key];exact this
theorem zbt6(t:List aA)(h:∀q∈t,zi0 q=true):(t.flatMap zA0).length<=24*t.length:=by
 induction t with
 |nil=>simp
 |cons q t ih=>
  have h1:=zu8 (h q (.head _));have h2:=zbt4 (q.aL.map (·.aI)++(ordQ q).map (·.aI));have h3:=ih λ x hx=>h x (.tail _ hx);have h4:(zA0 q).length<=24:=by unfold zA0;unfold ordQ at*;simp only[bR,cO]at h2;omega
  rw[dV,bR,List.length_cons];omega
theorem zch3{α β X:Type}(f:α->List β)(fin:List β->X):∀(l:List α) (i:Nat) (s:List β),walk (λ _ a s=>some (.inl (s++f a))) fin l i s=some (fin (s++l.flatMap f))
 |[],i,s=>by simp[walk]
 |a::l,i,s=>by simp only[walk,dV];rw[zch3 f fin l (i+1),bZ]
theorem zm9{α:Type}{l:List α}{i:Nat}{z:α}(h:i<l.length):l.getD i z∈l:=by rw[bS,bW h];exact hX h
theorem zbc6{q:aA}(h:zi0 q=true):(zA0 q).length<=24:=by
 have:=zbt6 [q] λ x hx=>by rw[dS]at hx;rw[hx];exact h
 simpa using this
theorem zap0{t:List aA}(hl:t.length<=8)(h:∀q∈t,zi0 q=true):zz7 t=some (zq7 t):=by
 unfold zz7;have key:=zv8 (body:=zae3 t) t aA.zero (λ i (s:List aF)=>((i:Int),s)) (λ _ q s=>some (.inl (s++zA0 q))) (λ s=>s) (λ i s=>s.length<=24*i)
  (λ i s hi hs=>by
   have hq:=h _ (zm9 (z:=aA.zero) hi);have hql:=zu8 hq;have hpl:=zbc6 hq;refine⟨?_,λ s' h=>?_⟩
   .unfold zae3;have h3:0<=(i:Int)/\(i:Int)<(t.length:Int):=by omega
    simp only[h3.1,h3.2,cN,zl3,bU,bT,Int.toNat_natCast];rw[zaC5 _ (by omega) (by omega) (by omega),Option.bind_some,zb0 (by omega),zc2 i (by omega)];rfl
   .simp only[cK,dW]at h;subst h;rw[bR];omega)
  (λ s hs=>by unfold zae3;simp) [] (by simp)
 rw[show((0,[]):Int×List aF)=(λ(i:Nat) (s:List aF)=>((i:Int),s)) 0 []from rfl,key,zch3 zA0,List.nil_append,Option.bind_some];unfold zaF6;have:=zbt6 t h;rw[zax5 _ (by omega)];rfl
theorem zaC7(t:List aA):zG3 t=some (zK4 t):=by
 unfold zG3 zK4 zat9
 by_cases h8:8<t.length
 .have:¬t.length<=8:=by omega
  rw[bO (by simp;omega)];simp[this]
 .have hl:t.length<=8:=by omega
  rw[bN (by simp;omega),zbB6 t hl (λ i hi=>by
   unfold zas1;have h3:0<=(i:Int)/\(i:Int)<(t.length:Int):=by omega
   simp only[h3.1,h3.2,cN,zl3,bU,bT,Int.toNat_natCast,zae7,Option.bind_some,zc2 i (by omega)]
   by_cases e0:i=0
   .subst e0;rw[zb0 (by simp)];cases zi0 (t.getD 0 aA.zero)<;>simp
   .rw[zX8 i (by omega) (by omega),zb0 (by intro _;omega)];simp only[Int.toNat_natCast,show(0:Int)<(i:Int)by omega,bU,cA,e0,iB];unfold ltN;rcases hb (zi0 (t.getD i aA.zero))with b1|b1<;>rcases hb (Op.bytesLess (t.getD (i-1) aA.zero).aB.name.toList (t.getD i aA.zero).aB.name.toList)with b2|b2<;>simp[b1,b2,-List.getD_eq_getElem?_getD]) (by unfold zas1;simp)]
  simp only[hl,bU,cA];cases hw:ascW t none with
  |false=>rfl
  |true=>simp only[bT,Option.bind_some,cA];unfold zaF7;rw[zap0 hl ((zch2 t none).1 hw).1,Option.bind_some];congr 1;rw[cJ];simp;omega
theorem zct6{α:Type}(l:List α)(z:α)(p:α->Bool){body:Int->Option (Int⊕(Unit⊕Int))}(hb:∀i:Nat,i<l.length->body (i:Int)=some (if p (l.getD i z)=true then .inr (.inr (i:Int))else .inl ((i+1:Nat):Int)))
  (he:body (l.length:Int)=some (.inr (.inl ()))):zc1 body 0=some (match l.findIdx? p with|some i=>.inr (i:Int)|none=>.inl ()):=by
 have key:=zV7 (body:=body) l z (λ i (_:Unit)=>(i:Int)) (λ i a _=>some (if p a=true then .inr (Sum.inr (α:=Unit) (i:Int))else .inl ())) (λ _=>Sum.inl (β:=Int) ())
  (λ i s hi=>by rw[hb i hi,Option.map_some];split<;>rfl) (λ s=>he) ()
 have fold:∀(l:List α) (i:Nat),walk (λ i a (_:Unit)=>some (if p a=true then .inr (Sum.inr (α:=Unit) (i:Int))else .inl ())) (λ _=>Sum.inl (β:=Int) ()) l i ()=some (match l.findIdx? p with|some j=>.inr ((i+j:Nat):Int)|none=>.inl ()):=by
  intro l;induction l with
  |nil=>intro i;rfl
  |cons a l ih=>
   intro i;simp only[walk,List.findIdx?_cons]
   by_cases hp:p a=true
   .simp[hp]
   .simp only[hp,bP,bV];rw[ih (i+1)];cases l.findIdx? p with
    |none=>rfl
    |some j=>simp only[Option.map_some];rw[show i+1+j=i+(j+1)by omega]
 have:=fold l 0;simp only[dG]at this;rw[show(0:Int)=(λ(i:Nat) (_:Unit)=>(i:Int)) 0 ()from rfl,key];exact this
def isN(nm:ByteArray)(q:aA):Bool:=q.aB.name.toList==nm.toList
theorem zdd4{nm:ByteArray}{q:aA}:isN nm q=true↔q.aB.name=nm:=by unfold isN;rw[dB];exact zQ2
def zr8(t:List aA)(nm:ByteArray):Int:=match t.findIdx? (isN nm)with
 |some i=>i
 |none=>-1
theorem zaY2(t:List aA)(nm:ByteArray)(hl:t.length<=1000000):zk9 t nm=some (zr8 t nm):=by
 unfold zk9;rw[zct6 t aA.zero (isN nm) (λ i hi=>by
  unfold zav7 isN;have h3:0<=(i:Int)/\(i:Int)<(t.length:Int):=by omega
  simp only[h3.1,h3.2,cN,zl3,bU,bT,Int.toNat_natCast,zc2 i (by omega)];split<;>rfl) (by unfold zav7;simp)]
 unfold zr8;cases t.findIdx? (isN nm)<;>rfl
theorem zav0{t:List aA}{nm:ByteArray}:zr8 t nm=-1\/∃i:Nat,zr8 t nm=i/\i<t.length/\(t.getD i aA.zero).aB.name=nm:=by
 unfold zr8;cases h:t.findIdx? (isN nm)with
 |none=>exact .inl rfl
 |some i=>right;obtain⟨h1,h2,_⟩:=List.findIdx?_eq_some_iff_getElem.1 h;refine⟨i,rfl,h1,?_⟩;rw[bS,bW h1];exact zdd4.1 h2
theorem zdd5{t:List aA}(h:AscN t){i j:Nat}(hi:i<t.length)(hj:j<t.length)(e:(t.getD i aA.zero).aB.name=(t.getD j aA.zero).aB.name):i=j:=by
 have hp:=fY.1 h;have g:∀k,(hk:k<t.length)->t.getD k aA.zero=t[k]:=λ k hk=>by rw[bS,bW hk];rfl
 rw[g i hi,g j hj]at e;rcases Nat.lt_trichotomy i j with h1|h1|h1
 .exact absurd e (zcA0 (hp i j hi hj h1))
 .exact h1
 .exact absurd e.symm (zcA0 (hp j i hj hi h1))
theorem zbc7{t:List aA}(h:AscN t){i:Nat}(hi:i<t.length):zr8 t (t.getD i aA.zero).aB.name=i:=by
 rcases zav0 (t:=t) (nm:=(t.getD i aA.zero).aB.name)with h1|⟨j,h1,h2,h3⟩
 .unfold zr8 at h1;cases hf:t.findIdx? (isN (t.getD i aA.zero).aB.name)with
  |some k=>rw[hf]at h1;simp only at h1;omega
  |none=>have:=List.findIdx?_eq_none_iff.1 hf (t.getD i aA.zero) (zm9 hi);rw[cY]at this;exact absurd (zdd4.2 rfl) this
 .rw[h1,zdd5 h h2 hi h3]
end Ab
end Go.Proofs.YtdlfhmkmnjbihaaGreatDoor
