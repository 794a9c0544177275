import Derived.Test.YtenebhlnfjcffaaGreatDoorLinB
namespace Go.Proofs.YtenebhlnfjcffaaGreatDoor
namespace Ab
set_option linter.unusedVariables false
set_option linter.unusedSimpArgs false
theorem zbY5{p:aL}{l:List bA}{h:bA}:h∈zx2 p l↔h∈l/\h.aK≠p:=by unfold zx2;simp
theorem zdt4{l m:List aC}(h:l.Sublist m)(hn:∀a∈m,0<=a.aS):sumU l<=sumU m:=by
 induction h with
 |slnil=>exact iO _
 |cons a h ih=>have:=ih λ b hb=>hn b (.tail _ hb);have:=hn a (.head _);simp only[sumU];omega
 |cons_cons a h ih=>have:=ih λ b hb=>hn b (.tail _ hb);simp only[sumU];omega
theorem CompP.sub{r:aH}{l m:List aC}(h:CompP r m)(hs:l.Sublist m):CompP r l where
 perm:=λ a ha=>h.perm a (hs.subset ha)
 sum:=Int.le_trans (zdt4 hs λ a ha=>(zai7 (h.perm a ha)).1) h.sum
 pair:=h.pair.sublist hs
theorem GoodP.sub{r:aH}{l m:List bA}(h:GoodP r m)(hs:l.Sublist m):GoodP r l:=⟨λ x hx=>h.each x (hs.subset hx),h.asc.sublist hs⟩
theorem zU8(r:aH)(l:List bA):zL5 r l=true↔zg4 r=true/\l.length<=8/\GoodP r l/\CompP r (l.map (·.aM)):=by unfold zL5;simp
theorem zbx8{r:aH}{l m:List bA}(h:zL5 r m=true)(hs:l.Sublist m):zL5 r l=true:=by rw[zU8]at h⊢;exact⟨h.1,eC hs.length_le h.2.1,h.2.2.1.sub hs,h.2.2.2.sub (hs.map _)⟩
theorem zbx9(p:aL)(l:List bA):(zx2 p l).Sublist l:=iK
theorem zcM7{r:aH}(hr:zg4 r=true):zL5 r []=true:=by
 rw[zU8];have:1<=r.aS:=by rw[zK2]at hr;omega
 exact⟨hr,by simp,⟨by simp,.nil⟩,⟨by simp,by simp[sumU];omega,.nil⟩⟩
theorem zbH0(p:aL)(a:aC)(l:List bA):(insP p a l).Perm (⟨p,a⟩::l):=by
 induction l with
 |nil=>exact jR _
 |cons h t ih=>
  simp only[insP];split
  .exact jR _
  .exact(List.Perm.cons h ih).trans (List.Perm.swap _ _ _)
theorem zcC4{p:aL}{a:aC}:∀{l:List bA},l.Pairwise (λ a b=>ltP a.aK b.aK)->(∀h∈l,h.aK≠p)->(insP p a l).Pairwise λ a b=>ltP a.aK b.aK
 |[],_,_=>by simp[insP]
 |h::t,hp,hn=>by
  rw[cX]at hp;simp only[insP];split
  .rename_i hlt;rw[cX];refine⟨λ x hx=>?_,cX.2 hp⟩;rcases cF.1 hx with rfl|hx
   .exact hlt
   .exact zat0 hlt (hp.1 x hx)
  .rename_i hlt;rw[cX];refine⟨λ x hx=>?_,zcC4 hp.2 λ x hx=>hn x (.tail _ hx)⟩;rcases cF.1 ((zbH0 p a t).mem_iff.1 hx)with rfl|hx
   .rcases zat1 (hn h (.head _))with h1|h1
    .exact h1
    .exact absurd h1 hlt
   .exact hp.1 x hx
theorem zbH1{l m:List aC}(h:l.Perm m):sumU l=sumU m:=by
 induction h with
 |nil=>rfl
 |cons a _ ih=>simp only[sumU,ih]
 |swap a b l=>simp only[sumU];omega
 |trans _ _ ih1 ih2=>exact ih1.trans ih2
theorem zbf7{a b:aC}(h:¬zav4 a b):¬zav4 b a:=λ⟨h1,h2,h3⟩=>h ⟨h2,h1,by rw[zbQ9];exact h3⟩
theorem CompP.perm_iff{r:aH}{l m:List aC}(h:l.Perm m):CompP r l↔CompP r m:=by
 constructor
 .intro k;exact⟨λ a ha=>k.perm a (h.mem_iff.2 ha),by rw[<-zbH1 h];exact k.sum,(h.pairwise_iff (λ h=>zbf7 h)).1 k.pair⟩
 .intro k;exact⟨λ a ha=>k.perm a (h.mem_iff.1 ha),by rw[zbH1 h];exact k.sum,(h.pairwise_iff (λ h=>zbf7 h)).2 k.pair⟩
theorem zcC5{r:aH}{l:List bA}{p:aL}{a:aC}(hv:zL5 r l=true)(hp:zd2 p=true)(ha:za2 r a=true)(hlen:(zx2 p l).length+1<=8):
  zaO3 r l p a=true↔(∀h∈zx2 p l,¬zav4 h.aM a)/\a.aS+sumU ((zx2 p l).map (·.aM))<=r.aS:=by
 have hv':=(zU8 r l).1 hv;have hz:=zW1 ha;have ho:=zbx8 hv (zbx9 p l);have ho':=(zU8 r _).1 ho;have hpr:zan3 r l p a=true:=by unfold zan3;simp[hv,hp,ha]
 have hpm:((insP p a (zx2 p l)).map (·.aM)).Perm (a::(zx2 p l).map (·.aM)):=(zbH0 p a (zx2 p l)).map _;unfold zaO3;rw[hpr,cK,zU8];unfold setL;rw[bV hz,CompP.perm_iff hpm];constructor
 .rintro⟨_,_,_,h4⟩;refine⟨λ h hh=>?_,h4.sum⟩;have:=(cX.1 h4.pair).1 h.aM (cI.2 ⟨h,hh,rfl⟩);exact zbf7 this
 .rintro⟨h1,h2⟩;refine⟨hv'.1,by rw[zbB9];exact hlen,⟨λ x hx=>?_,zcC4 ho'.2.2.1.asc λ h hh=>(zbY5.1 hh).2⟩,⟨λ b hb=>?_,h2,?_⟩⟩
  .rcases cF.1 ((zbH0 p a _).mem_iff.1 hx)with rfl|hx
   .exact⟨hp,ha⟩
   .exact ho'.2.2.1.each x hx
  .rcases cF.1 hb with rfl|hb
   .exact zC7 ha
   .exact ho'.2.2.2.perm b hb
  .rw[cX];refine⟨λ b hb=>?_,ho'.2.2.2.pair⟩;obtain⟨h,hh,rfl⟩:=cI.1 hb;exact zbf7 (h1 h hh)
theorem zbY6{α S X:Type}(f:S->α->S)(fin:S->X):∀(l:List α) (i:Nat) (s:S),walk (λ _ a s=>some (.inl (f s a))) fin l i s=some (fin (l.foldl f s))
 |[],_,_=>rfl
 |a::l,i,s=>by simp only[walk,List.foldl_cons];exact zbY6 f fin l (i+1) _
theorem zdt5(l:List bA)(hl:l.length<=1000000):zaN0 l=some (l.map (·.aK)):=by
 unfold zaN0;have key:=zE7 (body:=zak2 l) l bA.zero (λ i (s:List aL)=>((i:Int),s)) (λ i h s=>some (.inl (zaL6 s (some h.aK)))) (λ s=>s) (λ i s=>s.length<=i)
  (λ i s hi hs=>by
   refine⟨?_,λ s' h=>?_⟩
   .unfold zak2;have h1:s.length+1<=4294967296:=by omega
    have h3:0<=(i:Int)/\(i:Int)<(l.length:Int):=by omega
    simp only[h1,h3.1,h3.2,cS,zg9,cA,cC,Int.toNat_natCast,zc4 i (by omega),Option.map_some,wmap,zaL6]
   .simp only[dE,fN]at h;subst h;simp[zaL6];omega)
  (λ s hs=>by unfold zak2;simp) [] (by simp)
 rw[show((0,[]):Int×List aL)=(λ(i:Nat) (s:List aL)=>((i:Int),s)) 0 []from rfl,key,zaP8 (λ h:bA=>some h.aK)];simp[zaS3]
theorem zad0{α:Type}{P:α->Prop}{l:List α}{z:α}:(∀i,i<l.length->P (l.getD i z))↔∀w∈l,P w:=by
 constructor
 .intro h w hw;obtain⟨i,hi,rfl⟩:=eY.1 hw;have:=h i hi;rwa [bW,bZ hi]at this
 .intro h i hi;refine h _ ?_;rw[bW,bZ hi];exact iN hi
theorem zdT7(p:aL):getH [] p=aC.zero:=rfl
theorem zab0(h:bA)(t:List bA)(p:aL):getH (h::t) p=if h.aK=p then h.aM else getH t p:=by
 unfold getH;rw[List.find?_cons]
 by_cases e:h.aK=p<;>simp[e]
theorem zbc4(p:aL)(l:List bA):getH (zx2 p l) p=aC.zero:=by
 induction l with
 |nil=>rfl
 |cons h t ih=>
  rw[zaL7]
  by_cases e:h.aK=p
  .simp only[e,cC];exact ih
  .simp only[e,cB,zab0];exact ih
theorem zZ4{p q:aL}(hq:q≠p)(l:List bA):getH (zx2 p l) q=getH l q:=by
 induction l with
 |nil=>rfl
 |cons h t ih=>
  rw[zaL7]
  by_cases e:h.aK=p
  .simp only[e,cC,zab0];rw[bV (λ e2=>hq e2.symm)];exact ih
  .simp only[e,cB,zab0];split
   .rfl
   .exact ih
theorem zbn9(p:aL)(a:aC):∀l:List bA,(∀h∈l,h.aK≠p)->getH (insP p a l) p=a
 |[],_=>by simp[insP,zab0]
 |h::t,hh=>by
  simp only[insP];split
  .simp[zab0]
  .simp only[zab0,hh h (.head _),cB];exact zbn9 p a t λ x hx=>hh x (.tail _ hx)
theorem zbC4{p q:aL}(a:aC)(hq:q≠p):∀l:List bA,getH (insP p a l) q=getH l q
 |[]=>by simp only[insP,zab0];rw[bV (λ e:p=q=>hq e.symm)]
 |h::t=>by
  simp only[insP];split
  .simp only[zab0];rw[bV (λ e:p=q=>hq e.symm)]
  .simp only[zab0];split
   .rfl
   .exact zbC4 a hq t
theorem zaD9(l:List bA)(p:aL)(a:aC):getH (setL l p a) p=a:=by
 unfold setL;split
 .rename_i h;rw[zbc4,h]
 .exact zbn9 p a _ λ h hh=>(zbY5.1 hh).2
theorem zJ1{p q:aL}(hq:q≠p)(l:List bA)(a:aC):getH (setL l p a) q=getH l q:=by
 unfold setL;split
 .exact zZ4 hq l
 .rw[zbC4 a hq];exact zZ4 hq l
theorem zaS8{l:List bA}{p:aL}(h:getH l p≠aC.zero):(⟨p,getH l p⟩:bA)∈l:=by
 induction l with
 |nil=>exact absurd rfl h
 |cons x t ih=>
  rw[zab0]at h|-
  by_cases e:x.aK=p
  .rw[bX e];subst e;exact .head _
  .rw[bV e]at h⊢;exact .tail _ (ih h)
theorem zcC6{l:List bA}{p:aL}(h:∀x∈l,x.aK≠p):zx2 p l=l:=List.filter_eq_self.2 λ x hx=>by simpa using h x hx
def Asc(l:List bA):Prop:=l.Pairwise λ a b=>ltP a.aK b.aK
theorem zbc5{r:aH}{l:List bA}(h:zL5 r l=true):Asc l:=((zU8 r l).1 h).2.2.1.asc
theorem zdt6{h:bA}{t:List bA}(k:Asc (h::t)):∀x∈t,x.aK≠h.aK:=λ x hx e=>by have:=(cX.1 k).1 x hx;rw[e]at this;exact zR1 _ this
theorem zcC7{l:List bA}(h:Asc l){p:aL}(hp:getH l p≠aC.zero):l.Perm (⟨p,getH l p⟩::zx2 p l):=by
 induction l with
 |nil=>exact absurd rfl hp
 |cons x t ih=>
  rw[zab0]at hp⊢;rw[zaL7]
  by_cases e:x.aK=p
  .rw[bX e,bX e,zcC6 (by rw[<-e];exact zdt6 h)];subst e;exact jR _
  .rw[bV e]at hp;rw[bV e,bV e];exact((ih (cX.1 h).2 hp).cons x).trans (List.Perm.swap _ _ _)
theorem zbH2{l:List bA}(h:Asc l){p:aL}(hp:getH l p≠aC.zero):(zx2 p l).length+1=l.length:=by
 have:=(zcC7 h hp).length_eq
 simpa using this.symm
theorem zcC8{l:List bA}(ha:Asc l){x:bA}(hx:x∈l):getH l x.aK=x.aM:=by
 induction l with
 |nil=>cases hx
 |cons y t ih=>
  rw[zab0];rcases cF.1 hx with rfl|hx
  .rw[bX rfl]
  .rw[bV (λ e:y.aK=x.aK=>zdt6 ha x hx e.symm)];exact ih (cX.1 ha).2 hx
theorem zaz8{r:aH}{l:List bA}(h:zL5 r l=true)(p:aL):zc9 r (getH l p)=true:=by
 have hv:=(zU8 r l).1 h
 by_cases e:getH l p=aC.zero
 .rw[e,perm_iff];exact .inl ⟨hv.1,rfl⟩
 .exact zC7 (hv.2.2.1.each _ (zaS8 e)).2
theorem zak8(a:aC):zk8 a=true↔a=aC.zero:=by unfold zk8;simp
theorem zav6(a:aC):zk8 a=false↔a≠aC.zero:=by rw[<-gT,zak8]
structure SoundP (q:aB):Prop where
 res:resV q.aA=true
 hv:zL5 q.aA q.aP=true
 cl:q.aN.length<=8
 cn:(q.aN.map (·.aK)).Nodup
 cg:∀w∈q.aN,getH q.aP w.aK≠aC.zero/\za2 q.aA w.aM=true/\covA q.aA w.aM (getH q.aP w.aK)=true/\w.aM≠getH q.aP w.aK/\w.aZ=0/\w.bR=0
 wv:zZ3 q.aT=true
 wl:q.aP.length+q.aT.length<=8
 wg:∀w∈q.aT,za2 q.aA w.aM=true/\getH q.aP w.aK=aC.zero
 gen:0<=q.gen/\q.gen<=1073741824
theorem zby0(q:aB):zaY8 q=true↔SoundP q:=by
 have hc:cvOk q=true↔q.aN.length<=8/\(q.aN.map (·.aK)).Nodup/\∀w∈q.aN,getH q.aP w.aK≠aC.zero/\za2 q.aA w.aM=true/\covA q.aA w.aM (getH q.aP w.aK)=true/\w.aM≠getH q.aP w.aK/\w.aZ=0/\w.bR=0:=by
  unfold cvOk;rw[<-zbx7,<-zad0 (z:=aU.zero)];simp only[bU,bY,fH,eX,cvI,cP,zav6,cL];constructor
  .rintro⟨h1,h2⟩;exact⟨h1,λ i hi=>(h2 i hi).1,λ i hi=>(h2 i hi).2⟩
  .rintro⟨h1,h2,h3⟩;exact⟨h1,λ i hi=>⟨h2 i hi,h3 i hi⟩⟩
 have hw:wtOk q=true↔zZ3 q.aT=true/\q.aP.length+q.aT.length<=8/\∀w∈q.aT,za2 q.aA w.aM=true/\getH q.aP w.aK=aC.zero:=by unfold wtOk;rw[<-zad0 (z:=aU.zero)];simp only[bU,bY,fH,eX,wtI,zak8]
 unfold zaY8;simp only[bU,hc,hw,bY];constructor
 .rintro⟨h1,h2,⟨h3,h4,h5⟩,⟨h6,h7,h8⟩,h9⟩;exact⟨h1,h2,h3,h4,h5,h6,h7,h8,h9⟩
 .rintro⟨h1,h2,h3,h4,h5,h6,h7,h8,h9⟩;exact⟨h1,h2,⟨h3,h4,h5⟩,⟨h6,h7,h8⟩,h9⟩
theorem SoundP.apart{q:aB}(h:SoundP q){c w:aU}(hc:c∈q.aN)(hw:w∈q.aT):c.aK≠w.aK:=λ e=>
 (h.cg c hc).1 (by rw[e];exact(h.wg w hw).2)
theorem SoundP.nodup{q:aB}(h:SoundP q):((q.aN++q.aT).map (·.aK)).Nodup:=by rw[fA,iH];refine⟨h.cn,((zay0 _).1 h.wv).2.2,λ a ha b hb=>?_⟩;obtain⟨c,hc,rfl⟩:=cI.1 ha;obtain⟨w,hw,rfl⟩:=cI.1 hb;exact h.apart hc hw
inductive Pop (q:aB):Prop where
 |con (w:aU) (cs:List aU) (h:q.aN=w::cs) (hd:(zO3 q).1=w) (hr:zaO3 q.aA q.aP w.aK w.aM=true) (hp:popQ q={q with aP:=setL q.aP w.aK w.aM,aN:=cs})
 |wait (w:aU) (ws:List aU) (hc:q.aN=[]) (h:q.aT=w::ws) (hd:(zO3 q).1=w) (hr:zaO3 q.aA q.aP w.aK w.aM=true) (hp:popQ q={q with aP:=setL q.aP w.aK w.aM,aT:=ws})
theorem zcr9{q:aB}(h:canQ q=true):Pop q:=by
 unfold canQ at h;rw[bU]at h;obtain⟨h1,h2⟩:=h;cases hc:q.aN with
 |cons w cs=>
  have hd:(zO3 q).1=w:=by unfold zO3;rw[hc];rfl
  exact .con w cs hc hd (by rw[<-hd];exact h2) (by unfold popQ;rw[hd];simp[hc])
 |nil=>
  cases hw:q.aT with
  |cons w ws=>
   have hd:(zO3 q).1=w:=by unfold zO3;rw[hc,hw];rfl
   exact .wait w ws hc hw hd (by rw[<-hd];exact h2) (by unfold popQ;rw[hd];simp[hc,hw])
  |nil=>unfold zO3 at h1;rw[hc,hw]at h1;exact absurd h1 (by decide)
theorem zaH9{r:aH}{l:List bA}{p:aL}{a:aC}(h:zaO3 r l p a=true):zL5 r l=true/\zd2 p=true/\za2 r a=true/\zL5 r (setL l p a)=true:=by unfold zaO3 zan3 at h;simp only[bU]at h;exact⟨h.1.1,h.1.2.1,h.1.2.2,h.2⟩
theorem zcl1{r:aH}{l:List bA}{p:aL}(a:aC)(h:zL5 r l=true)(hp:getH l p≠aC.zero):(setL l p a).length<=l.length:=by
 have:=zbH2 (zbc5 h) hp;unfold setL;split
 .omega
 .rw[zbB9];omega
theorem zcC9{w:aU}{l:List aU}(h:zZ3 (w::l)=true):zZ3 l=true:=by rw[zay0]at h⊢;obtain⟨h1,h2,h3⟩:=h;rw[dF,fL]at h3;exact⟨by simp at h1;omega,λ x hx=>h2 x (.tail _ hx),h3.2⟩
theorem SoundP.pop{q:aB}(h:SoundP q)(hc:canQ q=true):SoundP (popQ q):=by
 cases zcr9 hc with
 |con w cs he hd hr hp=>
  rw[hp];obtain⟨_,_,_,hv⟩:=zaH9 hr;have hn:w.aK∉cs.map (·.aK)/\(cs.map (·.aK)).Nodup:=by have:=h.cn;rw[he,dF,fL]at this;exact this
  have hw:=h.cg w (by rw[he];exact .head _);have hl:=zcl1 w.aM h.hv hw.1;have h8:=h.cl;rw[he,List.length_cons]at h8;refine⟨h.res,hv,by simp only;omega,hn.2,λ c hcc=>?_,h.wv,?_,λ x hx=>?_,h.gen⟩
  .have hne:c.aK≠w.aK:=λ e=>hn.1 (cI.2 ⟨c,hcc,e⟩);simp only[zJ1 hne];exact h.cg c (by rw[he];exact .tail _ hcc)
  .have:=h.wl;simp only;omega
  .have hne:x.aK≠w.aK:=λ e=>h.apart (c:=w) (by rw[he];exact .head _) hx e.symm;simp only[zJ1 hne];exact h.wg x hx
 |wait w ws hcn he hd hr hp=>
  rw[hp];obtain⟨_,_,_,hv⟩:=zaH9 hr;have hl:=zdt1 q.aP w.aK w.aM;have h8:=h.wl;have hwv:=h.wv;rw[he]at h8 hwv;have hn:w.aK∉ws.map (·.aK):=by have:=((zay0 _).1 hwv).2.2;rw[dF,fL]at this;exact this.1
  rw[List.length_cons]at h8;refine⟨h.res,hv,h.cl,h.cn,λ c hcc=>?_,zcC9 hwv,by simp only;omega,λ x hx=>?_,h.gen⟩
  .rw[hcn]at hcc;cases hcc
  .have hne:x.aK≠w.aK:=λ e=>hn (cI.2 ⟨x,hx,e⟩);simp only[zJ1 hne];exact h.wg x (by rw[he];exact .tail _ hx)
theorem zbo0:∀(n:Nat) (q:aB) (l:List bA),advN n (q,l)=((advN n (q,[])).1,l++(advN n (q,[])).2)
 |0,q,l=>by simp[advN]
 |n+1,q,l=>by
  simp only[advN];split
  .unfold zbC3;simp only[List.nil_append];rw[zbo0 n (popQ q) (l++_),zbo0 n (popQ q) [_],dD]
  .simp
def advS(q:aB):aB:=(advQ q).1
def advG(q:aB):List bA:=(advQ q).2
theorem zbr0(q:aB):advQ q=if canQ q=true then((advQ (popQ q)).1,⟨(zO3 q).1.aK,(zO3 q).1.aM⟩::(advQ (popQ q)).2)else(q,[]):=by
 unfold advQ;rw[zbG9 (q,[])];show(if canQ q=true then advN (zah9 (popQ q)) (popQ q,[]++[_])else(q,[]))=_;split
 .rw[zbo0];rfl
 .rfl
theorem zbY7{q:aB}(h:canQ q=true):advS q=advS (popQ q):=by unfold advS;rw[zbr0 q,bX h]
theorem zdt7{q:aB}(h:canQ q=true):advG q=⟨(zO3 q).1.aK,(zO3 q).1.aM⟩::advG (popQ q):=by unfold advG;rw[zbr0 q,bX h]
theorem zbY8{q:aB}(h:canQ q=false):advS q=q:=by unfold advS;rw[zbr0 q,h];rfl
theorem zdt8{q:aB}(h:canQ q=false):advG q=[]:=by unfold advG;rw[zbr0 q,h];rfl
theorem zbr1{P:aB->Prop}(h:∀q,canQ q=true->P q->P (popQ q)):∀q,P q->P (advS q):=by
 have key:∀n q,zah9 q=n->P q->P (advS q):=by
  intro n;induction n using Nat.strongRecOn with
  |_ n ih=>
   intro q hn hq;cases hc:canQ q with
   |false=>rw[zbY8 hc];exact hq
   |true=>rw[zbY7 hc];have:=(zaP9 hc).2.1;exact ih (zah9 (popQ q)) (by omega) _ rfl (h q hc hq)
 exactλ q hq=>key _ q rfl hq
theorem zcV6{P:aB->Prop}(h0:∀q,canQ q=false->P q)(h:∀q,canQ q=true->P (popQ q)->P q):∀q,P q:=by
 have key:∀n q,zah9 q=n->P q:=by
  intro n;induction n using Nat.strongRecOn with
  |_ n ih=>
   intro q hn;cases hc:canQ q with
   |false=>exact h0 q hc
   |true=>have:=(zaP9 hc).2.1;exact h q hc (ih (zah9 (popQ q)) (by omega) _ rfl)
 exactλ q=>key _ q rfl
theorem zdt9:∀q,canQ (advS q)=false:=by refine zcV6 (λ q h=>by rw[zbY8 h];exact h) λ q h ih=>by rw[zbY7 h];exact ih
theorem SoundP.adv{q:aB}(h:SoundP q):SoundP (advS q):=zbr1 (P:=SoundP) (λ _ hc h=>h.pop hc) q h
theorem zw3(q:aB):zj6 q=true↔SoundP q/\canQ q=false:=by unfold zj6;rw[bU,zby0];show SoundP q/\(!canQ q)=true↔_;rw[cP]
theorem zdu0:∀q,(advG q).length+zah9 (advS q)=zah9 q:=by
 refine zcV6 (λ q h=>by rw[zbY8 h,zdt8 h];simp) λ q h ih=>by rw[zbY7 h,zdt7 h,List.length_cons];have:=(zaP9 h).2.1;omega
theorem zdE8(r:aH)(a b:aC):covA r a b=(!(!zc9 r a||!zc9 r b)&&(zk8 b||(!zk8 a&&(if r.kind=1 then covM a.mode b.mode else decide (b.aS<=a.aS))))):=by
 have e1:=zbq7 r a;have e2:=zbq7 r b;have e3:=zaJ4 a;have e4:=zaJ4 b;have h:covA r a b=(!(!zw6 r a||!zw6 r b)&&(zn2 b||(!zn2 a&&(if r.kind=1 then covM a.mode b.mode else decide (b.aS<=a.aS))))):=by
  unfold covA zu4;generalize(!zw6 r a||!zw6 r b)=x;generalize zn2 b=y;generalize zn2 a=z
  by_cases hk:r.kind=1<;>cases x<;>cases y<;>cases z<;>simp[hk]
 rw[h,e1,e2,e3,e4]
theorem zV4(r:aH)(a b:aC):covA r a b=true↔zc9 r a=true/\zc9 r b=true/\(b=aC.zero\/a≠aC.zero/\b≠aC.zero/\((r.kind=1/\covM a.mode b.mode=true)\/(r.kind≠1/\b.aS<=a.aS))):=by
 rw[zdE8];have za:=zak8 a;have zb:=zak8 b;simp only[bU,dI,cP,fU,kH,zb,zav6]
 by_cases e:b=aC.zero
 .simp[e,fW]
 .by_cases hk:r.kind=1<;>simp[e,hk,fW]
theorem zat2{r:aH}{a:aC}(h:zc9 r a=true):covA r a a=true:=by
 rw[zV4];refine⟨h,h,?_⟩
 by_cases e:a=aC.zero
 .exact .inl e
 .refine .inr ⟨e,e,?_⟩
  by_cases hk:r.kind=1
  .left;refine⟨hk,?_⟩;have:=zaH6 h hk;have hm:a.mode≠0:=λ hm=>e (by obtain⟨m,u⟩:=a;simp only at*;unfold aC.zero;congr;omega);rw[zaL8];omega
  .exact .inr ⟨hk,iO _⟩
theorem zbr2{r:aH}{a:aC}(h:zc9 r a=true)(hs:zg4 r=true):covA r a aC.zero=true:=by rw[zV4];exact⟨h,(perm_iff r _).2 (.inl ⟨hs,rfl⟩),.inl rfl⟩
theorem zby1{r:aH}{a b c:aC}(h1:covA r a b=true)(h2:covA r b c=true):covA r a c=true:=by
 rw[zV4]at h1 h2⊢;refine⟨h1.1,h2.2.1,?_⟩;rcases h2.2.2 with e|⟨hb0,hc0,h3⟩
 .exact .inl e
 .rcases h1.2.2 with e|⟨ha0,_,h4⟩
  .exact absurd e hb0
  .refine .inr ⟨ha0,hc0,?_⟩;rcases h3 with⟨k,h3⟩|⟨k,h3⟩
   .rcases h4 with⟨_,h4⟩|⟨k',_⟩
    .left;refine⟨k,?_⟩;rw[zaL8]at h3 h4⊢;omega
    .exact absurd k k'
   .rcases h4 with⟨k',_⟩|⟨_,h4⟩
    .exact absurd k' k
    .exact .inr ⟨k,by omega⟩
def low(a b:aC):Prop:=a.aS<=b.aS/\∀c,¬zav4 b c->¬zav4 a c
theorem zdO4{r:aH}{a b:aC}(h:covA r b a=true):low a b:=by
 rw[zV4]at h;obtain⟨h1,h2,h3⟩:=h;have hb1:=zai7 h1;rcases h3 with e|⟨hb0,ha0,h3⟩
 .subst e;refine⟨hb1.1,λ c _ hc=>?_⟩;exact hc.1 rfl
 .rcases h3 with⟨k,h3⟩|⟨k,h3⟩
  .have p1:=zaH6 h1 k;have p2:=zaH6 h2 k;refine⟨by omega,λ c hc hc'=>hc ⟨?_,hc'.2.1,?_⟩⟩
   .rw[zaL8]at h3;omega
   .have h4:=hc'.2.2;rw[<-gT]at h4⊢;intro h5;apply h4;rw[zcr3]at h5⊢;rw[zaL8]at h3;omega
  .have hk:r.kind=2:=by
    have:=(perm_iff r a).1 h2;rw[zK2,zF1]at this;omega
   have p2:=zbq8 h2 hk;exact⟨h3,λ c _ hc=>hc.1 p2.1⟩
theorem zdd9{r:aH}{l:List bA}{p:aL}{a:aC}:zaO3 r l p a=true↔zL5 r l=true/\zd2 p=true/\za2 r a=true/\(zx2 p l).length+1<=8/\(∀h∈zx2 p l,¬zav4 h.aM a)/\a.aS+sumU ((zx2 p l).map (·.aM))<=r.aS:=by
 constructor
 .intro h;obtain⟨h1,h2,h3,h4⟩:=zaH9 h;have hl:(zx2 p l).length+1<=8:=by
   have:=zap4 h4;unfold setL at this;rw[bV (zW1 h3),zbB9]at this;exact this
  exact⟨h1,h2,h3,hl,(zcC5 h1 h2 h3 hl).1 h⟩
 .rintro⟨h1,h2,h3,h4,h5⟩;exact(zcC5 h1 h2 h3 h4).2 h5
theorem zcD0{r:aH}{l:List bA}{p:aL}{a:aC}(hv:zL5 r l=true)(hp:getH l p≠aC.zero)(hc:covA r (getH l p) a=true):zL5 r (setL l p a)=true:=by
 have hasc:=zbc5 hv;have hv':=(zU8 r l).1 hv
 by_cases hz:a=aC.zero
 .unfold setL;rw[bX hz];exact zbx8 hv (zbx9 p l)
 .have hfit:za2 r a=true:=by
   rcases(perm_iff r a).1 ((zV4 _ _ _).1 hc).2.1 with h|h
   .exact absurd h.2 hz
   .exact h
  have hlow:=zdO4 hc;have hm:=zaS8 hp;have hlt:=zbH2 hasc hp;have hpm:=zcC7 hasc hp;have hroom:zaO3 r l p a=true:=by
   rw[zdd9];refine⟨hv,(hv'.2.2.1.each _ hm).1,hfit,by have:=hv'.2.1;omega,λ x hx hcl=>?_,?_⟩
   .have hpr:=(CompP.perm_iff (hpm.map (·.aM))).1 hv'.2.2.2;have:=(cX.1 hpr.pair).1 x.aM (cI.2 ⟨x,hx,rfl⟩);exact hlow.2 _ this (by
     obtain⟨c1,c2,c3⟩:=hcl;exact⟨c2,c1,by rw[zbQ9];exact c3⟩)
   .have h1:=zbH1 (hpm.map (·.aM));have h2:=hv'.2.2.2.sum;rw[h1]at h2;simp only[dF,sumU]at h2;have:=hlow.1;omega
  exact(zaH9 hroom).2.2.2
def del(q:aB)(p:aL):aB:={q with aP:=zx2 p q.aP,aN:=rmL q.aN p,aT:=rmL q.aT p}
theorem zdu1(w:aU)(l:List aU)(p:aL):rmL (w::l) p=if w.aK=p then rmL l p else w::rmL l p:=by unfold rmL notP;rw[jC];by_cases e:w.aK=p<;>simp[e]
theorem zaP0{w:aU}{l:List aU}{p:aL}:w∈rmL l p↔w∈l/\w.aK≠p:=by unfold rmL notP;simp
theorem zbr3(l:List aU)(p:aL):(rmL l p).Sublist l:=iK
theorem SoundP.del{q:aB}(h:SoundP q)(p:aL):SoundP (del q p):=by
 have h1:=(zbr3 q.aN p).length_le;have h2:=(zbr3 q.aT p).length_le;have h3:=zaS4 p q.aP;have h4:=h.cl;have h5:=h.wl;refine⟨h.res,zbx8 h.hv (zbx9 p _),by simp only[Ab.del];omega,h.cn.sublist ((zbr3 _ _).map _),λ w hw=>?_,zcl0 p h.wv,by simp only[Ab.del];omega,λ w hw=>?_,h.gen⟩
 .obtain⟨a1,a2⟩:=zaP0.1 hw;simp only[Ab.del,zZ4 a2];exact h.cg w a1
 .obtain⟨a1,a2⟩:=zaP0.1 hw;simp only[Ab.del,zZ4 a2];exact h.wg w a1
theorem zdT8(q:aB)(g:Int):canQ {q with gen:=g}=canQ q:=rfl
theorem zcs0(q:aB):(popQ q).gen=q.gen/\(popQ q).aA=q.aA:=by unfold popQ;split<;>exact⟨rfl,rfl⟩
theorem zcV7(q:aB):(advS q).gen=q.gen/\(advS q).aA=q.aA:=
 zbr1 (P:=λ x=>x.gen=q.gen/\x.aA=q.aA) (λ x _ h=>by rw[(zcs0 x).1,(zcs0 x).2];exact h) q ⟨rfl,rfl⟩
theorem zap8(g:Int):0<=zp8 g/\zp8 g<=1073741824:=by
  unfold zp8
  by_cases h:g<0\/1073741824<=g
  .rw[bX (by simpa using h)];decide
  .rw[bV (by simpa using h),zj1 (by omega) (by omega)];omega
def zI4(q:aB):aB×List bA×Int:=({advS q with gen:=zp8 q.gen},advG q,0)
theorem SoundP.gen'{q:aB}(h:SoundP q)(g:Int)(h1:0<=g)(h2:g<=1073741824):SoundP {q with gen:=g}:=⟨h.res,h.hv,h.cl,h.cn,h.cg,h.wv,h.wl,h.wg,h1,h2⟩
theorem zab1{q:aB}(h:SoundP q):zj6 (zI4 q).1=true:=by rw[zw3];exact⟨h.adv.gen' _ (zap8 _).1 (zap8 _).2,by show canQ (advS q)=false;exact zdt9 q⟩
theorem zbY9(q:aB)(p:aL):(zr8 q p).2=true↔∃w∈q.aN++q.aT,w.aK=p:=by
  unfold zr8 zaz7;cases h:(q.aN++q.aT).find? λ w=>decide (w.aK=p)with
  |none=>
    rw[List.find?_eq_none]at h;simp only[bY]at h;constructor
    .intro h2;cases h2
    .rintro⟨w,hw,e⟩;exact absurd e (h w hw)
  |some w=>have h1:=List.mem_of_find?_eq_some h;have h2:=List.find?_some h;exact⟨λ _=>⟨w,h1,by simpa using h2⟩,λ _=>rfl⟩
theorem zav7{q:aB}{p:aL}:(zr8 q p).2=false↔∀w∈q.aN++q.aT,w.aK≠p:=by
  rw[<-gT,zbY9];constructor
  .exactλ h w hw e=>h ⟨w,hw,e⟩
  .rintro h ⟨w,hw,e⟩;exact h w hw e
theorem zbM0{q:aB}(hn:((q.aN++q.aT).map (·.aK)).Nodup){w:aU}(hw:w∈q.aN++q.aT):zr8 q w.aK=(w.aM,true):=by
  unfold zr8 zaz7;generalize q.aN++q.aT=l at hn hw;induction l with
  |nil=>cases hw
  |cons x t ih=>
    rw[dF,fL]at hn;rw[List.find?_cons];rcases cF.1 hw with rfl|hw
    .simp
    · have:x.aK≠w.aK:=λ e=>hn.1 (cI.2 ⟨w,hw,e.symm⟩)
      simp only[this,cJ];exact ih hn.2 hw
theorem zde0:∀a∈[(1:Int),2,3,4,5],∀b∈[(1:Int),2,3,4,5],supM a b∈[(1:Int),2,3,4,5]/\covM (supM a b) a=true/\covM (supM a b) b=true:=by decide
theorem zde1{r:aH}{a b:aC}(ha:za2 r a=true)(hb:za2 r b=true)(hk:r.kind=1):zJ6 r a b=⟨supM a.mode b.mode,0⟩:=by unfold zJ6;rw[zC7 ha,zC7 hb,(zav6 a).2 (zW1 ha),(zav6 b).2 (zW1 hb)];simp[hk,aC.zero]
theorem zde2{r:aH}{a b:aC}(ha:za2 r a=true)(hb:za2 r b=true)(hk:r.kind≠1):zJ6 r a b=⟨0,if a.aS<b.aS then b.aS else a.aS⟩:=by unfold zJ6;rw[zC7 ha,zC7 hb,(zav6 a).2 (zW1 ha),(zav6 b).2 (zW1 hb)];simp[hk,aC.zero]
theorem zbf8{r:aH}{h a:aC}(hh:za2 r h=true)(ha:za2 r a=true)(hc:covA r h a=false):
    za2 r (zJ6 r h a)=true/\covA r (zJ6 r h a) h=true/\covA r (zJ6 r h a) a=true/\zJ6 r h a≠h:=by
  have hf:za2 r (zJ6 r h a)=true/\covA r (zJ6 r h a) h=true/\covA r (zJ6 r h a) a=true:=by
    have fh:=(zF1 r h).1 hh;have fa:=(zF1 r a).1 ha
    by_cases hk:r.kind=1
    · have m1:h.mode∈[(1:Int),2,3,4,5]:=by simp;omega
      have m2:a.mode∈[(1:Int),2,3,4,5]:=by simp;omega
      obtain⟨s1,s2,s3⟩:=zde0 _ m1 _ m2;rw[zde1 hh ha hk];have hfit:za2 r ⟨supM h.mode a.mode,0⟩=true:=by rw[zF1];left;simp at s1;exact⟨hk,by omega,by simp only;omega,by simp only;omega,rfl⟩
      refine⟨hfit,?_,?_⟩
      .rw[zV4];exact⟨zC7 hfit,zC7 hh,.inr ⟨zW1 hfit,zW1 hh,.inl ⟨hk,s2⟩⟩⟩
      .rw[zV4];exact⟨zC7 hfit,zC7 ha,.inr ⟨zW1 hfit,zW1 ha,.inl ⟨hk,s3⟩⟩⟩
    · rw[zde2 hh ha hk]
      have hfit:za2 r ⟨0,if h.aS<a.aS then a.aS else h.aS⟩=true:=by rw[zF1];right;refine⟨by omega,by omega,by omega,rfl,?_,?_⟩<;>simp only<;>split<;>omega
      refine⟨hfit,?_,?_⟩
      · rw[zV4];refine⟨zC7 hfit,zC7 hh,.inr ⟨zW1 hfit,zW1 hh,.inr ⟨hk,?_⟩⟩⟩
        simp only;split<;>omega
      · rw[zV4];refine⟨zC7 hfit,zC7 ha,.inr ⟨zW1 hfit,zW1 ha,.inr ⟨hk,?_⟩⟩⟩
        simp only;split<;>omega
  refine⟨hf.1,hf.2.1,hf.2.2,λ e=>?_⟩;have:=hf.2.2;rw[e,hc]at this;cases this
def claimC(q:aB)(p:aL)(a:aC):aB:={q with aN:=q.aN++[⟨p,zJ6 q.aA (getH q.aP p) a,0,0⟩]}
def claimW(q:aB)(p:aL)(a:aC)(pr:Int):aB:={q with aT:=zbc2 q.aT ⟨p,a,pr,0⟩ (zap6 q.aT ⟨p,a,pr,0⟩ q.aT.length)}
def zaE0(q:aB)(p:aL):aB:={q with aN:=rmL q.aN p,aT:=rmL q.aT p}
def zaI0(q:aB)(p:aL)(a:aC):aB:={q with aP:=setL q.aP p a}
def hasQ(q:aB)(p:aL):Bool:=(zr8 q p).2||!zk8 (getH q.aP p)
def errQ(e:Int):aB×List bA×Int:=(aB.zero,[],e)
def zbc6(p:aL)(pr:Int):Bool:=zd2 p&&(decide (0<=pr)&&decide (pr<=7))
def zA2(q:aB)(p:aL)(a:aC)(pr:Int):aB×List bA×Int:=
  if zj6 q=false then errQ 2 else if zbc6 p pr=false then errQ 1 else if za2 q.aA a=false then errQ 12 else if(zr8 q p).2=true then errQ 14
  else if covA q.aA (getH q.aP p) a=true then(q,[],0)else if getH q.aP p≠aC.zero then zI4 (claimC q p a)
  else if 8<=q.aP.length+q.aT.length then errQ 4 else zI4 (claimW q p a pr)
def zH1(q:aB)(p:aL):aB×List bA×Int:=
  if zj6 q=false then errQ 2 else if(zr8 q p).2=false then errQ 10 else zI4 (zaE0 q p)
def zI5(q:aB)(p:aL)(a:aC):aB×List bA×Int:=
  if zj6 q=false then errQ 2 else if getH q.aP p=aC.zero then errQ 10 else if(zr8 q p).2=true then errQ 14
  else if covA q.aA (getH q.aP p) a=false then errQ 12 else if getH q.aP p=a then(q,[],0)else zI4 (zaI0 q p a)
def zJ2(q:aB)(p:aL):aB×List bA×Int:=
  if zj6 q=false then errQ 2 else if hasQ q p=false then errQ 10 else zI4 (del q p)
theorem SoundP.cancel{q:aB}(h:SoundP q)(p:aL):SoundP (zaE0 q p):=by have h1:=(zbr3 q.aN p).length_le;have h2:=(zbr3 q.aT p).length_le;have h4:=h.cl;have h5:=h.wl;exact⟨h.res,h.hv,by simp only[zaE0];omega,h.cn.sublist ((zbr3 _ _).map _),λ w hw=>h.cg w (zaP0.1 hw).1,zcl0 p h.wv,by simp only[zaE0];omega,λ w hw=>h.wg w (zaP0.1 hw).1,h.gen⟩
theorem SoundP.claimC{q:aB}(h:SoundP q){p:aL}{a:aC}(ha:za2 q.aA a=true)(hw:(zr8 q p).2=false)(hc:covA q.aA (getH q.aP p) a=false)(hz:getH q.aP p≠aC.zero):SoundP (claimC q p a):=by
  have hv:=(zU8 _ _).1 h.hv;have hfit:za2 q.aA (getH q.aP p)=true:=(hv.2.2.1.each _ (zaS8 hz)).2;obtain⟨j1,j2,j3,j4⟩:=zbf8 hfit ha hc;rw[zav7]at hw;refine⟨h.res,h.hv,?_,?_,λ w hww=>?_,h.wv,h.wl,h.wg,h.gen⟩
  ·
    have hn:((q.aN++[(⟨p,zJ6 q.aA (getH q.aP p) a,0,0⟩:aU)]).map (·.aK)).Nodup:=by rw[fA,iH];refine⟨h.cn,by simp,λ x hx y hy=>?_⟩;simp only[dF,iZ,dN]at hy;obtain⟨c,hcc,rfl⟩:=cI.1 hx;rw[hy];exact hw c (dJ _ hcc)
    have hs:∀x∈(q.aN++[(⟨p,zJ6 q.aA (getH q.aP p) a,0,0⟩:aU)]).map (·.aK),x∈q.aP.map (·.aK):=by
      intro x hx;simp only[fA,cR,dF,iZ,dN]at hx;rcases hx with hx|rfl
      · obtain⟨c,hcc,rfl⟩:=cI.1 hx
        exact cI.2 ⟨_,zaS8 (h.cg c hcc).1,rfl⟩
      .exact cI.2 ⟨_,zaS8 hz,rfl⟩
    have:=dL hn hs;have h8:=zap4 h.hv;rw[dB,dB]at this;show(q.aN++[(⟨p,zJ6 q.aA (getH q.aP p) a,0,0⟩:aU)]).length<=8;omega
  · show((q.aN++[(⟨p,zJ6 q.aA (getH q.aP p) a,0,0⟩:aU)]).map (·.aK)).Nodup
    rw[fA,iH];refine⟨h.cn,by simp,λ x hx y hy=>?_⟩;simp only[dF,iZ,dN]at hy;obtain⟨c,hcc,rfl⟩:=cI.1 hx;rw[hy];exact hw c (dJ _ hcc)
  · rcases cR.1 hww with hww|hww
    .exact h.cg w hww
    · rw[dN]at hww;subst hww
      exact⟨hz,j1,j2,j4,rfl,rfl⟩
theorem zcl2{r:aH}{p:aL}{a:aC}{pr:Int}(ha:za2 r a=true)(hp:zbc6 p pr=true):zm9 ⟨p,a,pr,0⟩=true:=by rw[zF1]at ha;unfold zbc6 at hp;simp only[bU,bY]at hp;rw[<-zaO9];unfold zC0;rw[zaS5,hp.1];unfold zn0 zB9;simp;omega
theorem zdE9{q:aB}(h:SoundP q){p:aL}{a:aC}{pr:Int}(ha:za2 q.aA a=true)(hp:zbc6 p pr=true)(hw:(zr8 q p).2=false)(hl:q.aT.length<8):
    insS q.aT ⟨p,a,pr,0⟩=((claimW q p a pr).aT,(zap6 q.aT ⟨p,a,pr,0⟩ q.aT.length:Int),0):=by
  unfold insS;rw[bV (by rw[h.wv];decide),bV (by rw[zcl2 ha hp];simp),bV ?_,bV (by omega)]
  .rfl
  · rw[zav7]at hw
    exact zdd5.2 λ w hww=>hw w (cY _ hww)
theorem SoundP.claimW{q:aB}(h:SoundP q){p:aL}{a:aC}{pr:Int}(ha:za2 q.aA a=true)(hp:zbc6 p pr=true)(hw:(zr8 q p).2=false)(hz:getH q.aP p=aC.zero)(hl:q.aP.length+q.aT.length<8):SoundP (claimW q p a pr):=by
  rw[zav7]at hw;have hne:∀e∈q.aT,e.aK≠p:=λ e he=>hw e (cY _ he);have hv:=zcM6 (w:=⟨p,a,pr,0⟩) h.wv (zcl2 ha hp) hne (by omega);refine⟨h.res,h.hv,h.cl,h.cn,h.cg,hv,?_,λ w hww=>?_,h.gen⟩
  · have hn:=zbq9 q.aT ⟨p,a,pr,0⟩ q.aT.length
    simp only[Ab.claimW,zbc2,cD,List.length_cons,dB,cU,eK];omega
  · simp only[Ab.claimW,zbc2,cR,cF,cI]at hww
    rcases hww with hww|rfl|⟨x,hx,rfl⟩
    .exact h.wg w (fV hww)
    .exact⟨ha,hz⟩
    .exact h.wg x (gX hx)
theorem SoundP.lower{q:aB}(h:SoundP q){p:aL}{a:aC}(hw:(zr8 q p).2=false)(hz:getH q.aP p≠aC.zero)(hc:covA q.aA (getH q.aP p) a=true):SoundP (zaI0 q p a):=by
  rw[zav7]at hw;have hl:=zcl1 a h.hv hz;have h5:=h.wl;refine⟨h.res,zcD0 h.hv hz hc,h.cl,h.cn,λ w hww=>?_,h.wv,by simp only[zaI0];omega,λ w hww=>?_,h.gen⟩
  · simp only[zaI0,zJ1 (hw w (dJ _ hww))]
    exact h.cg w hww
  · simp only[zaI0,zJ1 (hw w (cY _ hww))]
    exact h.wg w hww
theorem zbc7{q:aB}{p:aL}{a:aC}{pr:Int}(h:(zA2 q p a pr).2.2=0):SoundP q/\canQ q=false/\zbc6 p pr=true/\za2 q.aA a=true/\(zr8 q p).2=false/\
    ((covA q.aA (getH q.aP p) a=true/\zA2 q p a pr=(q,[],0))\/
     (covA q.aA (getH q.aP p) a=false/\getH q.aP p≠aC.zero/\zA2 q p a pr=zI4 (claimC q p a)/\SoundP (claimC q p a))\/
     (covA q.aA (getH q.aP p) a=false/\getH q.aP p=aC.zero/\q.aP.length+q.aT.length<8/\zA2 q p a pr=zI4 (claimW q p a pr)/\SoundP (claimW q p a pr))):=by
  unfold zA2 at h|-
  by_cases h1:zj6 q=false
  .rw[bX h1]at h;exact absurd h (by decide)
  rw[bV h1]at h|-
  by_cases h2:zbc6 p pr=false
  .rw[bX h2]at h;exact absurd h (by decide)
  rw[bV h2]at h|-
  by_cases h3:za2 q.aA a=false
  .rw[bX h3]at h;exact absurd h (by decide)
  rw[bV h3]at h|-
  by_cases h4:(zr8 q p).2=true
  .rw[bX h4]at h;exact absurd h (by decide)
  rw[bV h4]at h⊢;rw[fB]at h1 h2 h3;rw[gT]at h4;obtain⟨hs,hcn⟩:=(zw3 q).1 h1;refine⟨hs,hcn,h2,h3,h4,?_⟩
  by_cases h5:covA q.aA (getH q.aP p) a=true
  .rw[bX h5];exact .inl ⟨h5,rfl⟩
  rw[bV h5]at h⊢;rw[gT]at h5
  by_cases h6:getH q.aP p≠aC.zero
  .rw[bX h6];exact .inr (.inl ⟨h5,h6,rfl,hs.claimC h3 h4 h5 h6⟩)
  rw[bV h6]at h|-
  by_cases h7:8<=q.aP.length+q.aT.length
  .rw[bX h7]at h;exact absurd h (by decide)
  rw[bV h7];have h6:=jU.1 h6;exact .inr (.inr ⟨h5,h6,by omega,rfl,hs.claimW h3 h2 h4 h6 (by omega)⟩)
theorem zaI1{q:aB}{p:aL}(h:(zH1 q p).2.2=0):SoundP q/\canQ q=false/\(zr8 q p).2=true/\zH1 q p=zI4 (zaE0 q p)/\SoundP (zaE0 q p):=by
  unfold zH1 at h|-
  by_cases h1:zj6 q=false
  .rw[bX h1]at h;exact absurd h (by decide)
  rw[bV h1]at h|-
  by_cases h2:(zr8 q p).2=false
  .rw[bX h2]at h;exact absurd h (by decide)
  rw[bV h2];rw[fB]at h1 h2;obtain⟨hs,hcn⟩:=(zw3 q).1 h1;exact⟨hs,hcn,h2,rfl,hs.cancel p⟩
theorem zaQ0{q:aB}{p:aL}{a:aC}(h:(zI5 q p a).2.2=0):SoundP q/\canQ q=false/\getH q.aP p≠aC.zero/\(zr8 q p).2=false/\covA q.aA (getH q.aP p) a=true/\
    ((getH q.aP p=a/\zI5 q p a=(q,[],0))\/(getH q.aP p≠a/\zI5 q p a=zI4 (zaI0 q p a)/\SoundP (zaI0 q p a))):=by
  unfold zI5 at h|-
  by_cases h1:zj6 q=false
  .rw[bX h1]at h;exact absurd h (by decide)
  rw[bV h1]at h|-
  by_cases h2:getH q.aP p=aC.zero
  .rw[bX h2]at h;exact absurd h (by decide)
  rw[bV h2]at h|-
  by_cases h3:(zr8 q p).2=true
  .rw[bX h3]at h;exact absurd h (by decide)
  rw[bV h3]at h|-
  by_cases h4:covA q.aA (getH q.aP p) a=false
  .rw[bX h4]at h;exact absurd h (by decide)
  rw[bV h4]at h⊢;rw[fB]at h1 h4;rw[gT]at h3;obtain⟨hs,hcn⟩:=(zw3 q).1 h1;refine⟨hs,hcn,h2,h3,h4,?_⟩
  by_cases h5:getH q.aP p=a
  .rw[bX h5];exact .inl ⟨h5,rfl⟩
  .rw[bV h5];exact .inr ⟨h5,rfl,hs.lower h3 h2 h4⟩
theorem zbf9{q:aB}{p:aL}(h:(zJ2 q p).2.2=0):SoundP q/\canQ q=false/\hasQ q p=true/\zJ2 q p=zI4 (del q p)/\SoundP (del q p):=by
  unfold zJ2 at h|-
  by_cases h1:zj6 q=false
  .rw[bX h1]at h;exact absurd h (by decide)
  rw[bV h1]at h|-
  by_cases h2:hasQ q p=false
  .rw[bX h2]at h;exact absurd h (by decide)
  rw[bV h2];rw[fB]at h1 h2;obtain⟨hs,hcn⟩:=(zw3 q).1 h1;exact⟨hs,hcn,h2,rfl,hs.del p⟩
def ordQ(q:aB):List aU:=q.aN++q.aT
theorem zbR0{q:aB}(h:canQ q=true):ordQ q=(zO3 q).1::ordQ (popQ q)/\(popQ q).aP=setL q.aP (zO3 q).1.aK (zO3 q).1.aM:=by
 cases zcr9 h with
 |con w cs he hd hr hp=>rw[hp,hd];unfold ordQ;rw[he];exact⟨rfl,rfl⟩
 |wait w ws hc he hd hr hp=>rw[hp,hd];unfold ordQ;rw[hc,he];exact⟨rfl,rfl⟩
theorem zdu2{q:aB}(h:canQ q=true):zaO3 q.aA q.aP (zO3 q).1.aK (zO3 q).1.aM=true:=by unfold canQ at h;rw[bU]at h;exact h.2
theorem zcl3{q:aB}{p:aL}(h:∀w∈ordQ q,w.aK≠p):getH (advS q).aP p=getH q.aP p/\∀w∈ordQ (advS q),w.aK≠p:=by
 have:=zbr1 (P:=λ x=>getH x.aP p=getH q.aP p/\∀w∈ordQ x,w.aK≠p) (λ x hc hx=>by
  obtain⟨h1,h2⟩:=zbR0 hc;obtain⟨h3,h4⟩:=hx;rw[h1]at h4;refine⟨?_,λ w hw=>h4 w (.tail _ hw)⟩;rw[h2,zJ1 (lA (h4 _ (.head _)))];exact h3) q ⟨rfl,h⟩
 exact this
theorem SoundP.nd{q:aB}(h:SoundP q):((ordQ q).map (·.aK)).Nodup:=h.nodup
theorem zdF0{w:aU}{l:List aU}(h:((w::l).map (·.aK)).Nodup):∀x∈l,x.aK≠w.aK:=λ x hx e=>by rw[dF,fL]at h;exact h.1 (cI.2 ⟨x,hx,e⟩)
theorem zaS9{q:aB}(hs:SoundP q)(p:aL):covA q.aA (getH (advS q).aP p) (getH q.aP p)=true:=by
 have:=zbr1 (P:=λ x=>SoundP x/\x.aA=q.aA/\covA q.aA (getH x.aP p) (getH q.aP p)=true) (λ x hc ⟨h1,h2,h3⟩=>by
  refine⟨h1.pop hc,by rw[(zcs0 x).2];exact h2,?_⟩;obtain⟨e1,e2⟩:=zbR0 hc;rw[e2]
  by_cases hp:p=(zO3 x).1.aK
  .subst hp;rw[zaD9];refine zby1 ?_ h3;cases zcr9 hc with
   |con w cs he hd hr hp=>rw[hd,<-h2];exact(h1.cg w (by rw[he];exact .head _)).2.2.1
   |wait w ws hcc he hd hr hp=>rw[hd,(h1.wg w (by rw[he];exact .head _)).2,<-h2];have hf:=(zaH9 hr).2.2.1;exact zbr2 (zC7 hf) (zbn3 hf)
  .rw[zJ1 hp];exact h3) q ⟨hs,rfl,zat2 (zaz8 hs.hv p)⟩
 exact this.2.2
theorem zbZ0{r:aH}{l:List bA}(h:zL5 r l=true)(p:aL):getH l p≠aC.zero↔p∈l.map (·.aK):=by
 constructor
 .intro hp;exact cI.2 ⟨_,zaS8 hp,rfl⟩
 .intro hp;obtain⟨x,hx,rfl⟩:=cI.1 hp;rw[zcC8 (zbc5 h) hx];exact zW1 (((zU8 _ _).1 h).2.2.1.each x hx).2
theorem zD5(q:aB)(p:aL):hasQ q p=true↔(∃w∈ordQ q,w.aK=p)\/getH q.aP p≠aC.zero:=by unfold hasQ;rw[dI,zbY9,cP,zav6];rfl
theorem zcV8{q:aB}(h:SoundP q)(p:aL):hasQ q p=true↔p∈(ordQ q).map (·.aK)\/p∈q.aP.map (·.aK):=by simp only[zD5,zbZ0 h.hv,cI]
theorem zdF1{q:aB}(hc:canQ q=true)(p:aL):hasQ (popQ q) p=hasQ q p:=by
 rw[dW,zD5,zD5];obtain⟨h1,h2⟩:=zbR0 hc;rw[h1,h2];have hz:=zW1 (zaH9 (zdu2 hc)).2.2.1
 by_cases hp:p=(zO3 q).1.aK
 .subst hp;rw[zaD9];exact⟨λ _=>.inl ⟨_,.head _,rfl⟩,λ _=>.inr hz⟩
 .rw[zJ1 hp];constructor
  .rintro(⟨w,hw,e⟩|h)
   .exact .inl ⟨w,.tail _ hw,e⟩
   .exact .inr h
  .rintro(⟨w,hw,e⟩|h)
   .rcases cF.1 hw with rfl|hw
    .exact absurd e.symm hp
    .exact .inl ⟨w,hw,e⟩
   .exact .inr h
theorem zcV9(q:aB)(p:aL):hasQ (advS q) p=hasQ q p:=zbr1 (P:=λ x=>hasQ x p=hasQ q p) (λ x hc h=>by rw[zdF1 hc];exact h) q rfl
theorem zcW0(q:aB)(g:Int)(p:aL):hasQ {q with gen:=g} p=hasQ q p:=rfl
theorem zbo1{q:aB}{p:aL}{w:aU}:w∈ordQ (del q p)↔w∈ordQ q/\w.aK≠p:=by
 unfold ordQ del;simp only[cR,zaP0];constructor
 .rintro(⟨a,b⟩|⟨a,b⟩)
  .exact⟨.inl a,b⟩
  .exact⟨.inr a,b⟩
 .rintro⟨a|a,b⟩
  .exact .inl ⟨a,b⟩
  .exact .inr ⟨a,b⟩
theorem zdF2(q:aB)(p x:aL):hasQ (del q p) x=true↔hasQ q x=true/\x≠p:=by
 rw[zD5,zD5]
 by_cases hx:x=p
 .subst hx;constructor
  .rintro(⟨w,hw,e⟩|h)
   .exact absurd e (zbo1.1 hw).2
   .exact absurd (zbc4 _ _) h
  .rintro⟨_,h⟩;exact absurd rfl h
 .have e1:getH (del q p).aP x=getH q.aP x:=zZ4 hx _;rw[e1];constructor
  .rintro(⟨w,hw,e⟩|h)
   .exact⟨.inl ⟨w,(zbo1.1 hw).1,e⟩,hx⟩
   .exact⟨.inr h,hx⟩
  .rintro⟨⟨w,hw,e⟩|h,_⟩
   .exact .inl ⟨w,zbo1.2 ⟨hw,by rw[e];exact hx⟩,e⟩
   .exact .inr h
def remN(q:aB)(p:aL):aB:=if(zJ2 q p).2.2=0 then(zJ2 q p).1 else q
theorem zJ3(q:aB):(zI4 q).1={advS q with gen:=zp8 q.gen}:=rfl
theorem zby2{q:aB}(h:zj6 q=true){p:aL}(hp:hasQ q p=true):zJ2 q p=zI4 (del q p):=by unfold zJ2;rw[bV (by rw[h];decide),bV (by rw[hp];decide)]
theorem zaY9{q:aB}(h:zj6 q=true){p:aL}(hp:hasQ q p=false):zJ2 q p=errQ 10:=by unfold zJ2;rw[bV (by rw[h];decide),bX hp]
theorem zcs1{q:aB}(h:zj6 q=true)(p:aL):zj6 (remN q p)=true:=by
 unfold remN;split
 .rename_i h0;obtain⟨_,_,_,e,hs⟩:=zbf9 h0;rw[e];exact zab1 hs
 .exact h
theorem zbM1{q:aB}(h:zj6 q=true){p x:aL}(hx:x≠p):covA q.aA (getH (remN q p).aP x) (getH q.aP x)=true/\(remN q p).aA=q.aA:=by
 obtain⟨hs,hc⟩:=(zw3 q).1 h;unfold remN;cases hp:hasQ q p with
 |true=>rw[zby2 h hp,bX (show(zI4 (del q p)).2.2=0 from rfl),zJ3];have h1:=zaS9 (hs.del p) x;have h2:getH (del q p).aP x=getH q.aP x:=zZ4 hx _;rw[h2]at h1;exact⟨h1,(zcV7 (del q p)).2⟩
 |false=>rw[zaY9 h hp,bV (by decide)];exact⟨zat2 (zaz8 hs.hv x),rfl⟩
theorem zcD1{q:aB}(h:zj6 q=true)(p x:aL):hasQ (remN q p) x=true↔hasQ q x=true/\x≠p:=by
 unfold remN;cases hp:hasQ q p with
 |true=>rw[zby2 h hp,bX (show(zI4 (del q p)).2.2=0 from rfl),zJ3,zcW0,zcV9,zdF2]
 |false=>
  rw[zaY9 h hp,bV (by decide)];constructor
  .intro hx;exact⟨hx,λ e=>by rw[e,hp]at hx;cases hx⟩
  .exact And.left
theorem zaT0:∀{a b:List aL},a.Pairwise ltP->b.Pairwise ltP->(∀x,x∈a↔x∈b)->a=b
 |[],b,_,_,h=>by
  cases b with
  |nil=>rfl
  |cons y b=>exact absurd ((h y).2 (.head _)) (by simp)
 |x::a,[],_,_,h=>absurd ((h x).1 (.head _)) (by simp)
 |x::a,y::b,ha,hb,h=>by
  rw[cX]at ha hb;have hxy:x=y:=by
   rcases cF.1 ((h x).1 (.head _))with e|hx
   .exact e
   .rcases cF.1 ((h y).2 (.head _))with e|hy
    .exact e.symm
    .exact absurd (zat0 (ha.1 y hy) (hb.1 x hx)) (zR1 x)
  subst hxy;congr 1;refine zaT0 ha.2 hb.2 λ z=>?_;have hz:=h z;constructor
  .intro hm;rcases cF.1 (hz.1 (.tail _ hm))with e|hm'
   .subst e;exact absurd (ha.1 z hm) (zR1 z)
   .exact hm'
  .intro hm;rcases cF.1 (hz.2 (.tail _ hm))with e|hm'
   .subst e;exact absurd (hb.1 z hm) (zR1 z)
   .exact hm'
def zaL9(p:aL):List aL->List aL
 |[]=>[p]
 |x::t=>if p=x then x::t else if ltP p x then p::x::t else x::zaL9 p t
theorem zaI2{p x:aL}:∀{l:List aL},x∈zaL9 p l↔x=p\/x∈l
 |[]=>by simp[zaL9]
 |y::t=>by
  simp only[zaL9];split
  .rename_i h;subst h;simp only[cF];constructor
   .intro h;exact .inr h
   .rintro(rfl|h)
    .exact .inl rfl
    .exact h
  .split
   .simp only[cF]
   .simp only[cF,zaI2 (l:=t)];constructor
    .rintro(h|h|h)
     .exact .inr (.inl h)
     .exact .inl h
     .exact .inr (.inr h)
    .rintro(h|h|h)
     .exact .inr (.inl h)
     .exact .inl h
     .exact .inr (.inr h)
theorem zaI3{p:aL}:∀{l:List aL},l.Pairwise ltP->(zaL9 p l).Pairwise ltP
 |[],_=>by simp[zaL9]
 |y::t,h=>by
  simp only[zaL9];split
  .exact h
  .rename_i hne;rw[cX]at h;split
   .rename_i hlt;rw[cX];refine⟨λ x hx=>?_,cX.2 h⟩;rcases cF.1 hx with rfl|hx
    .exact hlt
    .exact zat0 hlt (h.1 x hx)
   .rename_i hlt;rw[cX];refine⟨λ x hx=>?_,zaI3 h.2⟩;rcases zaI2.1 hx with rfl|hx
    .rcases zat1 hne with h1|h1
     .exact absurd h1 hlt
     .exact h1
    .exact h.1 x hx
theorem zcM8{p:aL}:∀{l:List aL},l.Pairwise ltP->p∈l->zaL9 p l=l:=λ hl hp=>
 zaT0 (zaI3 hl) hl λ x=>by
  rw[zaI2];constructor
  .rintro(rfl|h)
   .exact hp
   .exact h
  .exact .inr
def zbo2(l:List aL):List aL:=l.foldl (λ s p=>zaL9 p s) []
theorem zbo3:∀(l s:List aL),s.Pairwise ltP->(l.foldl (λ s p=>zaL9 p s) s).Pairwise ltP/\∀x,x∈l.foldl (λ s p=>zaL9 p s) s↔x∈s\/x∈l
 |[],s,h=>⟨h,λ x=>by simp⟩
 |p::l,s,h=>by
  obtain⟨h1,h2⟩:=zbo3 l (zaL9 p s) (zaI3 h);refine⟨h1,λ x=>?_⟩;rw[List.foldl_cons,h2,zaI2,cF];constructor
  .rintro((h|h)|h)
   .exact .inr (.inl h)
   .exact .inl h
   .exact .inr (.inr h)
  .rintro(h|h|h)
   .exact .inl (.inr h)
   .exact .inl (.inl h)
   .exact .inr h
theorem zbr4(l:List aL):(zbo2 l).Pairwise ltP:=(zbo3 l [] .nil).1
theorem zbc8{l:List aL}{x:aL}:x∈zbo2 l↔x∈l:=by
 have:=(zbo3 l [] .nil).2 x;unfold zbo2
 simpa using this
theorem zcs2{l s:List aL}(h:s.Pairwise ltP)(hm:∀x,x∈s↔x∈l):s=zbo2 l:=zaT0 h (zbr4 l) λ x=>by rw[hm,zbc8]
theorem zbr5{l:List aL}(h:l.Pairwise ltP):l.Nodup:=h.imp λ hab e=>by subst e;exact zR1 _ hab
theorem zcl4(l:List aL):(zbo2 l).length<=l.length:=dL (zbr5 (zbr4 l)) λ x hx=>zbc8.1 hx
def dst:List aL->List aL
 |[]=>[]
 |[x]=>[x]
 |x::y::t=>if x=y then dst (y::t)else x::dst (y::t)
theorem zbR1:∀{l:List aL} {x:aL},x∈dst l↔x∈l
 |[],x=>by simp[dst]
 |[y],x=>by simp[dst]
 |y::z::t,x=>by
  simp only[dst];split
  .rename_i h;subst h;rw[zbR1 (l:=y::t)];simp
  .rw[cF,zbR1 (l:=z::t),cF (b:=y)]
theorem zcs3:∀{l:List aL},l.Pairwise (λ x y=>¬ltP y x)->(dst l).Pairwise ltP
 |[],_=>by simp[dst]
 |[x],_=>by simp[dst]
 |x::y::t,h=>by
  simp only[dst];rw[cX]at h;split
  .exact zcs3 h.2
  .rename_i hne;rw[cX];refine⟨λ z hz=>?_,zcs3 h.2⟩;have hz:=zbR1.1 hz
   by_cases e:x=z
   .subst e;rcases cF.1 hz with e|hz'
    .exact absurd e hne
    .have h2:=(cX.1 h.2).1 x hz';rcases zat1 hne with h3|h3
     .exact absurd h3 h2
     .exact absurd h3 (h.1 y (.head _))
   .rcases zat1 e with h1|h1
    .exact h1
    .exact absurd h1 (h.1 z hz)
theorem zde3{l s:List aL}(h:s.Pairwise λ x y=>¬ltP y x)(hm:∀x,x∈s↔x∈l):dst s=zbo2 l:=zcs2 (zcs3 h) λ x=>by rw[zbR1,hm]
theorem zcD2:∀(l:List aL) (x y:aL),dst (l++[x,y])=if x=y then dst (l++[x])else dst (l++[x])++[y]
 |[],x,y=>by
  by_cases h:x=y<;>simp[dst,h]
 |[a],x,y=>by
  by_cases h:x=y
  .subst h;by_cases h2:a=x<;>simp[dst,h2]
  .by_cases h2:a=x
   .subst h2;simp[dst,h]
   .simp[dst,h,h2]
 |a::b::l,x,y=>by
  have ih:=zcD2 (b::l) x y;simp only[List.cons_append,dst]at ih⊢;rw[ih]
  by_cases h:x=y<;>by_cases h2:a=b<;>simp[h,h2]
theorem zcM9(x y:aL):¬ltP y x\/¬ltP x y:=by
 by_cases h:ltP y x
 .exact .inr (zbc0 h)
 .exact .inl h
theorem zcs4(l:List aL):(l.mergeSort λ x y=>!decide (ltP y x)).Pairwise λ x y=>¬ltP y x:=by
 have:=jN (le:=λ x y=>!decide (ltP y x)) (λ a b c h1 h2=>by
  simp only[cP,cL]at h1 h2⊢;intro h3
  by_cases e:b=a
  .subst e;exact h2 h3
  .rcases zat1 e with h4|h4
   .exact h1 h4
   .by_cases e2:b=c
    .subst e2;exact h1 h3
    .rcases zat1 e2 with h5|h5
     .exact zbc0 (zat0 h3 h4) h5
     .exact h2 h5) (λ a b=>by
  rcases zcM9 a b with h|h
  .simp[h]
  .simp[h]) l
 exact this.imp λ h=>by simpa using h
theorem ifNT{α:Type}(x y:α):(if(!true)=true then x else y)=y:=rfl
theorem ifTF{α:Type}(x y:α):(if true=false then x else y)=y:=rfl
theorem ifFT{α:Type}(x y:α):(if false=true then x else y)=y:=rfl
theorem zcD3(l:List aL)(hl:l.length<=4294967296):zc3 l=some (l.mergeSort λ x y=>!decide (ltP y x)):=by unfold zc3;rw[zh3 hl];congr 2
theorem zdu3{l:List aL}{i:Nat}(h:i+1<l.length):l.take (i+2)=l.take i++[l.getD i aL.zero,l.getD (i+1) aL.zero]:=by rw[fR (by omega),fR (by omega),dD];congr 1;rw[bW,bZ (by omega),bW,bZ h];rfl
theorem zbZ1{l:List aL}{i:Nat}(h:i<l.length):l.take (i+1)=l.take i++[l.getD i aL.zero]:=by rw[fR h];congr 1;rw[bW,bZ h];rfl
theorem zbZ2{l:List aL}{i:Nat}(h:i+1<l.length):dst (l.take (i+2))=if l.getD i aL.zero=l.getD (i+1) aL.zero then dst (l.take (i+1))else dst (l.take (i+1))++[l.getD (i+1) aL.zero]:=by rw[zdu3 h,zcD2,<-zbZ1 (by omega)]
theorem zbC5{l m:List aL}{i j:Nat}(h:l.drop i=m.drop i)(hij:i<=j):l.getD j aL.zero=m.getD j aL.zero:=by
 have e:∀x:List aL,x.getD j aL.zero=(x.drop i).getD (j-i) aL.zero:=λ x=>by rw[bW,bW,dZ,show i+(j-i)=j by omega]
 rw[e l,e m,h]
theorem zcg6(a:List aL)(g:Nat)(hg:1<=g)(hgl:g<a.length)(hl:a.length<=1000000)(he:a.getD g aL.zero=a.getD (g-1) aL.zero)(hd:dst (a.take g)=a.take g):
  ∃x,zc2 (zz2 a g) ((g:Int),1,a)=some x/\∃k:Nat,x.1=(k:Int)/\x.2.length=a.length/\k<=a.length/\x.2.take k=dst a:=by
 refine zq9 (λ s=>∃k k2:Nat,s.1=(k:Int)/\s.2.1=(k2:Int)/\s.2.2.length=a.length/\1<=k2/\g+k2<=a.length/\k+1<=g+k2/\s.2.2.take k=dst (a.take (g+k2))/\s.2.2.drop (g+k2-1)=a.drop (g+k2-1)) (λ s=>(a.length-s.2.1.toNat)) _ ?_ _ ?_
 .rintro⟨k,k2,s⟩ ⟨kn,k2n,h1,h2,h3,h4,h5,h6,h7,h8⟩;simp only at h1 h2 h3 h7 h8;subst h1;subst h2;unfold zz2
  by_cases hlt:g+k2n<a.length
  .left;have w:IntKind.i64.wrap ((k2n:Int)-1)=((k2n-1:Nat):Int):=by rw[zj1 (by omega) (by omega)];omega
   have w2:IntKind.i64.wrap ((k2n:Int)+1)=((k2n+1:Nat):Int):=by rw[zj1 (by omega) (by omega)];omega
   have w3:IntKind.i64.wrap ((kn:Int)+1)=((kn+1:Nat):Int):=by rw[zj1 (by omega) (by omega)];omega
   have r1:s.getD (g+k2n) aL.zero=a.getD (g+k2n) aL.zero:=zbC5 h8 (by omega);have r2:s.getD (g+(k2n-1)) aL.zero=a.getD (g+(k2n-1)) aL.zero:=zbC5 h8 (by omega);have hdt:=zbZ2 (l:=a) (i:=g+(k2n-1)) (by omega);rw[show g+(k2n-1)+2=g+(k2n+1)by omega,show g+(k2n-1)+1=g+k2n by omega]at hdt;simp only[Int.toNat_natCast,w,w2,w3];rw[bX (by simp;omega),zh3 (by omega),zh3 (by omega),r1,r2]
   by_cases hne:a.getD (g+k2n) aL.zero=a.getD (g+(k2n-1)) aL.zero
   .refine⟨((kn:Int),((k2n+1:Nat):Int),s),by rw[bV (by simp only[hne,cA,cO,bT,iU])],⟨kn,k2n+1,rfl,rfl,h3,by omega,by omega,by omega,?_,?_⟩,by simp only[Int.toNat_natCast];omega⟩
    .simp only;rw[h7,hdt,bX hne.symm]
    .simp only;rw[show g+(k2n+1)-1=(g+k2n-1)+1 by omega,<-fT,<-fT,h8]
   .rw[bX (by simpa using hne),zh3 (by omega),zh3 (by omega)];refine⟨(((kn+1:Nat):Int),((k2n+1:Nat):Int),s.set kn (a.getD (g+k2n) aL.zero)),rfl,⟨kn+1,k2n+1,rfl,rfl,by simp[h3],by omega,by omega,by omega,?_,?_⟩,by simp only[Int.toNat_natCast];omega⟩
    .simp only;rw[hdt,bV (λ e=>hne e.symm),<-h7,zbZ1 (by rw[eA];omega),List.take_set_of_le (by omega),zp9 _ _ _ _ (by omega)]
    .simp only;rw[List.drop_set_of_lt (by omega),show g+(k2n+1)-1=(g+k2n-1)+1 by omega,<-fT,<-fT,h8]
  .right;refine⟨((kn:Int),s),by simp only[Int.toNat_natCast];rw[bV (by simp;omega)],kn,rfl,h3,by omega,?_⟩;simp only;rw[h7,dO (by omega)]
 .refine⟨g,1,rfl,rfl,rfl,by omega,by omega,by omega,?_,rfl⟩;simp only;have hdt:=zbZ2 (l:=a) (i:=g-1) (by omega);rw[show g-1+2=g+1 by omega,show g-1+1=g by omega,bX he.symm,hd]at hdt;exact hdt.symm
theorem zcN0(a:List aL)(hl:a.length<=1000000):∃r,za4 a=some (dst a,r):=by
 unfold za4
 by_cases h2:a.length<2
 .rw[bX (by simp;omega)];refine⟨a,?_⟩;have:dst a=a:=by
   match a,h2 with
   |[],_=>rfl
   |[x],_=>rfl
   |x::y::t,h=>simp at h;omega
  rw[this]
 .rw[bV (by simp;omega)];obtain⟨x,hx,hp⟩:=zq9 (body:=zv3 a) (λ g=>∃n:Nat,g=(n:Int)/\1<=n/\n<=a.length/\dst (a.take n)=a.take n) (λ g=>a.length-g.toNat)
   (λ x=>match x with|.inl _=>dst a=a|.inr z=>z.1=dst a) (by
    rintro g ⟨n,rfl,h1,h3,h4⟩;unfold zv3
    by_cases hlt:n<a.length
    .have w:IntKind.i64.wrap ((n:Int)-1)=((n-1:Nat):Int):=by rw[zj1 (by omega) (by omega)];omega
     have w2:IntKind.i64.wrap ((n:Int)+1)=((n+1:Nat):Int):=by rw[zj1 (by omega) (by omega)];omega
     rw[bX (by simp;omega),zh3 (by omega),w,w2,zh3 (by omega)];simp only[Int.toNat_natCast]
     by_cases he:a.getD n aL.zero=a.getD (n-1) aL.zero
     .right;obtain⟨x,hx,k,hk1,hk2,hk3,hk4⟩:=zcg6 a n h1 hlt hl he h4;rw[bX (cG he),zh3 (by omega),hx];obtain⟨x1,x2⟩:=x;simp only at hk1 hk2 hk4;subst hk1;rw[Option.bind_some];unfold zE4;simp only[Int.toNat_natCast];rw[zh3 (by omega),zh3 (by omega)];refine⟨_,rfl,?_⟩;simp only;rw[gW,dD,eP (by simp;omega),gH,Nat.min_self,hk4]
     .left;refine⟨((n+1:Nat):Int),by rw[bV (by simpa using he)],⟨n+1,rfl,by omega,by omega,?_⟩,by simp only[Int.toNat_natCast];omega⟩;have hdt:=zbZ2 (l:=a) (i:=n-1) (by omega);rw[show n-1+2=n+1 by omega,show n-1+1=n by omega,bV (λ e=>he e.symm),h4,<-zbZ1 hlt]at hdt;exact hdt
    .right;refine⟨.inl (),by rw[bV (by simp;omega)],?_⟩;simp only;rw[dO (by omega)]at h4;exact h4) 1 ⟨1,rfl,by omega,by omega,by
      match a,h2 with
      |x::t,_=>simp[dst]⟩
  rw[hx];cases x with
  |inl u=>simp only at hp;refine⟨a,?_⟩;rw[hp];rfl
  |inr z=>simp only at hp;refine⟨z.2,?_⟩;rw[<-hp];rfl
theorem zay1(l:List aL)(hl:l.length<=1000000):zp0 l=some (zbo2 l):=by unfold zp0;rw[zh3 (by omega),zcD3 l (by omega),Option.bind_some];obtain⟨r,h⟩:=zcN0 (l.mergeSort λ x y=>!decide (ltP y x)) (by rw[jX];exact hl);rw[h];simp only[Option.bind_some];rw[zde3 (zcs4 l) λ x=>List.mem_mergeSort]
theorem zbc9(l:List aL)(p:aL)(hl:l.length<=1000000):zh1 l p=some (decide (p∈l)):=by
 unfold zh1;have key:=zap3 (body:=zY3 l p) l aL.zero (λ i (_:Unit)=>(i:Int)) (λ _ x _=>some (if x=p then .inr (Sum.inr true)else .inl ())) (λ _=>Sum.inl (β:=Bool) ())
  (λ i s hi=>by
   unfold zY3;have h3:0<=(i:Int)/\(i:Int)<(l.length:Int):=by omega
   simp only[h3.1,h3.2,cS,zg9,cA,cC,Int.toNat_natCast,zc4 i (by omega),Option.map_some,bY];split<;>rfl)
  (λ s=>by unfold zY3;simp) ()
 rw[show(0:Int)=(λ(i:Nat) (_:Unit)=>(i:Int)) 0 ()from rfl,key];have fold:∀(l:List aL) (i:Nat),walk (λ _ x (_:Unit)=>some (if x=p then .inr (Sum.inr true)else .inl ())) (λ _=>Sum.inl (β:=Bool) ()) l i ()=some (if p∈l then .inr true else .inl ()):=by
  intro l;induction l with
  |nil=>intro i;simp[walk]
  |cons x t ih=>
   intro i;simp only[walk]
   by_cases e:x=p
   .subst e;simp
   .simp only[e,cB,cF,λ h:p=x=>e h.symm,iP];rw[ih];have:¬p=x:=λ h=>e h.symm;simp[this]
 rw[fold]
 by_cases hp:p∈l<;>simp[hp,zax4]
theorem zbZ3(q:aB)(h1:q.aN.length<=1000)(h2:q.aT.length<=1000):zt4 q=some ((ordQ q).map (·.aK)):=by
 unfold zt4;rw[zbn8 q (by omega) (by omega),Option.bind_some];have hl:(q.aN++q.aT).length<=2000:=by rw[cD];omega
 show _=some ((q.aN++q.aT).map (·.aK));generalize q.aN++q.aT=l at hl;have key:=zE7 (body:=zaf8 l) l aU.zero (λ i (s:List aL)=>((i:Int),s)) (λ i h s=>some (.inl (zaL6 s (some h.aK)))) (λ s=>s) (λ i s=>s.length<=i)
  (λ i s hi hs=>by
   refine⟨?_,λ s' h=>?_⟩
   .unfold zaf8;have h1:s.length+1<=4294967296:=by omega
    have h3:0<=(i:Int)/\(i:Int)<(l.length:Int):=by omega
    simp only[h1,h3.1,h3.2,cS,zg9,cA,cC,Int.toNat_natCast,zc4 i (by omega),Option.map_some,wmap,zaL6]
   .simp only[dE,fN]at h;subst h;simp[zaL6];omega)
  (λ s hs=>by unfold zaf8;simp) [] (by simp)
 rw[show((0,[]):Int×List aL)=(λ(i:Nat) (s:List aL)=>((i:Int),s)) 0 []from rfl,key,zaP8 (λ h:aU=>some h.aK)];simp[zaG5]
theorem zby3(l:List bA)(hl:l.length<=1000000):zf5 l=some (l.map (·.aK)):=by have e:zf5 l=zaN0 l:=rfl;rw[e];exact zdt5 l hl
def zau7(q:aB):List aL:=zbo2 (q.aP.map (·.aK)++(ordQ q).map (·.aK))
theorem zbZ4(q:aB)(h0:q.aP.length<=1000)(h1:q.aN.length<=1000)(h2:q.aT.length<=1000):zF2 q=some (zau7 q):=by
 unfold zF2 zau7;have hl:(ordQ q).length<=2000:=by unfold ordQ;rw[cD];omega
 rw[zby3 _ (by omega),Option.bind_some,zbZ3 q h1 h2,Option.bind_some,zh3 (by simp;omega),zay1 _ (by simp;omega)];rfl
theorem zbZ5{q:aB}(h:SoundP q){p:aL}:p∈zau7 q↔hasQ q p=true:=by unfold zau7;rw[zbc8,cR,zcV8 h,or_comm]
theorem SoundP.lens{q:aB}(h:SoundP q):q.aP.length<=8/\q.aN.length<=8/\q.aT.length<=8/\zah9 q<=16:=by have:=h.cl;have:=h.wl;have:=zap4 h.hv;unfold zah9;omega
theorem zcg7{q:aB}(h:SoundP q):zj6 q=!canQ q:=by unfold zj6;rw[(zby0 q).2 h,cK];rfl
theorem zbH3(g:aB×List bA)(hs:SoundP g.1)(hg:g.2.length<=1000000):zQ7 g=some (if canQ g.1=true then .inl (zbC3 g)else .inr g):=by
 unfold zQ7;rw[zbc3,Option.bind_some,zcg7 hs];cases hc:canQ g.1 with
 |false=>simp
 |true=>
  obtain⟨h1,_,hl⟩:=zaP9 hc;rw[bX (by simp),zbu2,Option.bind_some,bX rfl];unfold zbC3 popQ
  by_cases h0:0<g.1.aN.length
  .rw[bX (by simpa using h0),zh3 (by omega),bX h0];unfold zY6;rw[zaD7 _ _ _ (by simp only;omega),Option.bind_some,zh3 (by omega)]
  .rw[bV (by simpa using h0),bV h0];have hw:0<g.1.aT.length:=by unfold zah9 at h1;omega
   rw[zh3 (by omega)];unfold zY6;rw[zaD7 _ _ _ (by simp only;omega),Option.bind_some,zh3 (by omega)]
theorem zbH4{q:aB}(h:SoundP q):zO1 q=some (advS q,advG q):=by
 unfold zO1;have hl:=h.lens;rw[zaS7,Option.bind_some,(zby0 q).2 h,bV (by decide),zaJ5 q (by omega) (by omega) (by omega),Option.bind_some];have key:=zcB3 (body:=zQ7) (λ g=>SoundP g.1/\zah9 g.1+g.2.length<=1000) (λ g=>zah9 g.1) (λ g=>advN (zah9 g.1) g) (λ g hg=>by
  rw[zbH3 g hg.1 (by omega)];cases hc:canQ g.1 with
  |false=>right;rw[bV (by decide),zbG9,bV (by rw[hc];decide)]
  |true=>
   left;obtain⟨h1,h2,_⟩:=zaP9 hc;refine⟨zbC3 g,by rw[bX rfl],⟨hg.1.pop hc,?_⟩,?_,?_⟩
   .unfold zbC3;simp only[cD,List.length_cons,List.length_nil];omega
   .show zah9 (popQ g.1)<zah9 g.1;omega
   .rw[zbG9 g,bX hc]) (q,[]) ⟨h,by simp only[List.length_nil];omega⟩
 rw[key];rfl
theorem zai0{q:aB}(h:SoundP q):zD4 q=some (zI4 q):=by unfold zD4;rw[zbH4 h,Option.bind_some,zdE7];rfl
theorem zdu4(p:aL)(pr:Int):(((!(zd2 p))||(decide (pr<0)))||(decide (7<pr)))=!zbc6 p pr:=by
 unfold zbc6;generalize zd2 p=b;rw[dW];cases b
 .simp
 .simp
theorem zbZ6(q:aB)(p:aL)(a:aC)(pr:Int):zL9 q p a pr=some (zA2 q p a pr):=by
 unfold zL9 zA2;rw[zap7,Option.bind_some];cases h1:zj6 q with
 |false=>rfl
 |true=>
  obtain⟨hs,hcan⟩:=(zw3 q).1 h1;have hl:=hs.lens;rw[ifNT,ifTF,zaS5,zdu4];cases h2:zbc6 p pr with
  |false=>rfl
  |true=>
   rw[ifNT,ifTF,zaJ2];cases h3:za2 q.aA a with
   |false=>rfl
   |true=>
    rw[ifNT,ifTF,zU7 q p (by omega) (by omega),Option.bind_some];cases h4:(zr8 q p).2 with
    |true=>rfl
    |false=>
     rw[ifFT,ifFT,zbO2 q (by omega) (by omega) (by omega),Option.bind_some,zI3 q p (by omega),Option.bind_some];have hcv:zu4 q.aA (getH q.aP p) a=covA q.aA (getH q.aP p) a:=rfl;rw[hcv];cases h5:covA q.aA (getH q.aP p) a with
     |true=>rfl
     |false=>
      rw[ifFT,ifFT,zaJ4]
      by_cases h6:getH q.aP p=aC.zero
      .rw[bV (by rw[(zak8 _).2 h6];decide),bV (show¬getH q.aP p≠aC.zero fromλ k=>k h6),zj1 (by omega) (by omega)]
       by_cases h7:8<=q.aP.length+q.aT.length
       .rw[bX (by simp;omega),bX h7];rfl
       .rw[bV (by simp;omega),bV h7,zbO0,Option.bind_some];have hi:=zdE9 hs h3 h2 h4 (p:=p) (a:=a) (pr:=pr) (by omega);have e:({aU.zero with aK:=p,aM:=a,aZ:=pr}:aU)=⟨p,a,pr,0⟩:=rfl;rw[e,hi,bV (by simp)];have hsc:=hs.claimW h3 h2 h4 h6 (by omega) (p:=p) (a:=a) (pr:=pr);have hq:(⟨(⟨q.aA.name,q.aA.kind,q.aA.aS,q.aA.home⟩:aH),q.aP,q.aN,(claimW q p a pr).aT,q.gen⟩:aB)=claimW q p a pr:=rfl;simp only[hq];rw[zai0 hsc];rfl
      .rw[bX (by rw[(zav6 _).2 h6];rfl),bX h6];have hsc:=hs.claimC h3 h4 h5 h6;rw[zbu3,Option.bind_some,zh3 (by omega)];have hq:(⟨(⟨q.aA.name,q.aA.kind,q.aA.aS,q.aA.home⟩:aH),q.aP,q.aN++[{aU.zero with aK:=p,aM:=zJ6 q.aA (getH q.aP p) a}],q.aT,q.gen⟩:aB)=claimC q p a:=rfl;rw[hq,zai0 hsc];rfl
theorem zbO3(q:aB)(p:aL):zY7 q p=some (zH1 q p):=by
 unfold zY7 zH1;rw[zap7,Option.bind_some];cases h1:zj6 q with
 |false=>rfl
 |true=>
  obtain⟨hs,hcan⟩:=(zw3 q).1 h1;have hl:=hs.lens;rw[ifNT,ifTF,zU7 q p (by omega) (by omega),Option.bind_some];cases h4:(zr8 q p).2 with
  |false=>rfl
  |true=>rw[ifNT,ifTF,zaJ5 q (by omega) (by omega) (by omega),Option.bind_some,zax0 _ _ (by omega),Option.bind_some,zax0 _ _ (by simp only;omega),Option.bind_some];have hq:({{q with aN:=rmL q.aN p}with aT:=rmL q.aT p}:aB)=zaE0 q p:=rfl;simp only[hq];rw[zai0 (hs.cancel p)];rfl
theorem zbZ7(q:aB)(p:aL)(a:aC):zad3 q p a=some (zI5 q p a):=by
 unfold zad3 zI5;rw[zap7,Option.bind_some];cases h1:zj6 q with
 |false=>rfl
 |true=>
  obtain⟨hs,hcan⟩:=(zw3 q).1 h1;have hl:=hs.lens;rw[ifNT,ifTF,zI3 q p (by omega),Option.bind_some,zaJ4]
  by_cases h6:getH q.aP p=aC.zero
  .rw[bX ((zak8 _).2 h6),bX h6];rfl
  .rw[bV (by rw[(zav6 _).2 h6];decide),bV h6,zU7 q p (by omega) (by omega),Option.bind_some];cases h4:(zr8 q p).2 with
   |true=>rfl
   |false=>
    have hcv:zu4 q.aA (getH q.aP p) a=covA q.aA (getH q.aP p) a:=rfl;rw[ifFT,ifFT,hcv];cases h5:covA q.aA (getH q.aP p) a with
    |false=>rfl
    |true=>
     rw[ifNT,ifTF,zaJ5 q (by omega) (by omega) (by omega),Option.bind_some]
     by_cases h7:getH q.aP p=a
     .rw[bX (by simp[h7]),bX h7]
     .rw[bV (by simpa using h7),bV h7,zaD7 _ _ _ (by omega),Option.bind_some];have hq:({q with aP:=setL q.aP p a}:aB)=zaI0 q p a:=rfl;simp only[hq];rw[zai0 (hs.lower h4 h6 h5)];rfl
theorem zbC6(q:aB)(p:aL)(h0:q.aP.length<=1000000)(h1:q.aN.length<=1000000)(h2:q.aT.length<=1000000):zt7 q p=some (hasQ q p):=by unfold zt7 hasQ;rw[zU7 q p h1 h2,Option.bind_some,zI3 q p (by omega)];cases h:(zr8 q p).2<;>simp[zaJ4]
theorem zbO4(q:aB)(p:aL):zY9 q p=some (zJ2 q p):=by
 unfold zY9 zJ2;rw[zap7,Option.bind_some];cases h1:zj6 q with
 |false=>rfl
 |true=>
  obtain⟨hs,hcan⟩:=(zw3 q).1 h1;have hl:=hs.lens;rw[ifNT,ifTF,zbC6 q p (by omega) (by omega) (by omega),Option.bind_some];cases h4:hasQ q p with
  |false=>rfl
  |true=>rw[ifNT,ifTF,zaJ5 q (by omega) (by omega) (by omega),Option.bind_some,zaD7 _ _ _ (by omega),Option.bind_some,zax0 _ _ (by simp only;omega),Option.bind_some,zax0 _ _ (by simp only;omega),Option.bind_some];have hz:setL q.aP p ({aC.zero with})=zx2 p q.aP:=bX rfl;have hq:({{{q with aP:=zx2 p q.aP}with aN:=rmL q.aN p}with aT:=rmL q.aT p}:aB)=del q p:=rfl;simp only[hz,hq];rw[zai0 (hs.del p)];rfl
def zbo4(x:aB×List bA×Int):Prop:=x.1.aP.length<=8/\x.1.aN.length<=8/\x.1.aT.length<=8/\x.2.1.length<=16
theorem zbr6(e:Int):zbo4 (errQ e):=by unfold zbo4 errQ aB.zero;simp
theorem zav8{q:aB}(h:SoundP q):zbo4 (zI4 q):=by have h1:=(h.adv).lens;have h2:=zdu0 q;have h3:=h.lens;exact⟨h1.1,h1.2.1,h1.2.2.1,by show(advG q).length<=16;omega⟩
theorem zbZ8{q:aB}(h:SoundP q):zbo4 (q,[],0):=by have h1:=h.lens;exact⟨h1.1,h1.2.1,h1.2.2.1,by simp⟩
theorem zcN1{q:aB}{p:aL}{a:aC}{pr:Int}(h:(zA2 q p a pr).2.2≠0):∃e,zA2 q p a pr=errQ e:=by
 unfold zA2 at h⊢;split;· exact⟨_,rfl⟩
 split;· exact⟨_,rfl⟩
 split;· exact⟨_,rfl⟩
 split;· exact⟨_,rfl⟩
 rename_i h1 h2 h3 h4;rw[bV h1,bV h2,bV h3,bV h4]at h;split
 .rename_i h5;rw[bX h5]at h;exact absurd rfl h
 rename_i h5;rw[bV h5]at h;split
 .rename_i h6;rw[bX h6]at h;exact absurd rfl h
 rename_i h6;rw[bV h6]at h;split
 .exact⟨_,rfl⟩
 .rename_i h7;rw[bV h7]at h;exact absurd rfl h
theorem zcD4{q:aB}{p:aL}(h:(zH1 q p).2.2≠0):∃e,zH1 q p=errQ e:=by
 unfold zH1 at h⊢;split;· exact⟨_,rfl⟩
 split;· exact⟨_,rfl⟩
 rename_i h1 h2;rw[bV h1,bV h2]at h;exact absurd rfl h
theorem zcD5{q:aB}{p:aL}(h:(zJ2 q p).2.2≠0):∃e,zJ2 q p=errQ e:=by
 unfold zJ2 at h⊢;split;· exact⟨_,rfl⟩
 split;· exact⟨_,rfl⟩
 rename_i h1 h2;rw[bV h1,bV h2]at h;exact absurd rfl h
theorem zcN2{q:aB}{p:aL}{a:aC}(h:(zI5 q p a).2.2≠0):∃e,zI5 q p a=errQ e:=by
 unfold zI5 at h⊢;split;· exact⟨_,rfl⟩
 split;· exact⟨_,rfl⟩
 split;· exact⟨_,rfl⟩
 split;· exact⟨_,rfl⟩
 rename_i h1 h2 h3 h4;rw[bV h1,bV h2,bV h3,bV h4]at h;split
 .rename_i h5;rw[bX h5]at h;exact absurd rfl h
 .rename_i h5;rw[bV h5]at h;exact absurd rfl h
theorem zbC7(q:aB)(p:aL)(a:aC)(pr:Int):zbo4 (zA2 q p a pr):=by
 by_cases h:(zA2 q p a pr).2.2=0
 .obtain⟨hs,_,_,_,_,hh⟩:=zbc7 h;rcases hh with⟨_,e⟩|⟨_,_,e,hc⟩|⟨_,_,_,e,hc⟩
  .rw[e];exact zbZ8 hs
  .rw[e];exact zav8 hc
  .rw[e];exact zav8 hc
 .obtain⟨e,he⟩:=zcN1 h;rw[he];exact zbr6 e
theorem zbu4(q:aB)(p:aL):zbo4 (zH1 q p):=by
 by_cases h:(zH1 q p).2.2=0
 .obtain⟨_,_,_,e,hc⟩:=zaI1 h;rw[e];exact zav8 hc
 .obtain⟨e,he⟩:=zcD4 h;rw[he];exact zbr6 e
theorem zbu5(q:aB)(p:aL):zbo4 (zJ2 q p):=by
 by_cases h:(zJ2 q p).2.2=0
 .obtain⟨_,_,_,e,hc⟩:=zbf9 h;rw[e];exact zav8 hc
 .obtain⟨e,he⟩:=zcD5 h;rw[he];exact zbr6 e
theorem zbC8(q:aB)(p:aL)(a:aC):zbo4 (zI5 q p a):=by
 by_cases h:(zI5 q p a).2.2=0
 .obtain⟨hs,_,_,_,_,hh⟩:=zaQ0 h;rcases hh with⟨_,e⟩|⟨_,e,hc⟩
  .rw[e];exact zbZ8 hs
  .rw[e];exact zav8 hc
 .obtain⟨e,he⟩:=zcN2 h;rw[he];exact zbr6 e
theorem zcs5(n m:Int)(h1:1<=m)(h2:m<=1000000):zp2 n m=some (n% m):=by
  unfold zp2;rw[bV (by simp;omega),gdp (by omega)];have hlt:n.tmod m<m:=Int.tmod_lt_of_pos n (by omega);have hgt:-m<n.tmod m:=by have:=Int.lt_tmod_of_pos n (show 0<m by omega);omega
  have e:n% m=if n.tmod m<0 then n.tmod m+m else n.tmod m:=by
    rw[Int.emod_eq_tmod]
    by_cases h3:0<=n\/m∣n
    · rw[bX h3]
      have:0<=n.tmod m:=by
        rcases h3 with h|h
        .exact Int.tmod_nonneg m h
        .rw[Int.tmod_eq_zero_of_dvd h];omega
      rw[bV (by omega)];omega
    · rw[bV h3]
      simp only[kD]at h3;have h5:0<=(-n).tmod m:=Int.tmod_nonneg m (by omega);rw[Int.neg_tmod]at h5;have h6:n.tmod m≠0:=λ h=>h3.2 (Int.dvd_of_tmod_eq_zero h);rw[bX (by omega)];omega
  rw[e]
  by_cases hc:n.tmod m<0
  .rw[bX (by simpa using hc),bX hc,zj1 (by omega) (by omega)]
  .rw[bV (by simpa using hc),bV hc]
def zdH8(n:Int):aL:=⟨(n% 8)% 4,1,1+(n% 8)/4⟩
theorem zbC9(n:Int):zr0 n=some (zdH8 n):=by unfold zr0 zdH8;rw[zcs5 n 8 (by decide) (by decide),Option.bind_some];have h1:0<=n% 8:=jI _ (by decide);have h2:n% 8<8:=jJ _ (by decide);rw[Int.tmod_eq_emod_of_nonneg h1,Int.tdiv_eq_ediv_of_nonneg h1,zj1 (x:=n% 8/4) (by omega) (by omega),zj1 (by omega) (by omega)]
def zdH9(n:Int):Int:=zaa2.getD (n% 8).toNat 0
def amtM(r:aH)(n:Int):aC:=if r.kind=1 then⟨zdH9 n,0⟩else⟨0,1+n% r.aS⟩
theorem zcs6(n:Int):zs1 n=some (zdH9 n):=by unfold zs1;have hl:(zaa2.length:Int)=8:=rfl;have h1:0<=n% 8:=jI _ (by decide);have h2:n% 8<8:=jJ _ (by decide);rw[hl,zcs5 n 8 (by decide) (by decide),Option.bind_some,gdp ⟨h1,h2⟩];rfl
theorem zbZ9(r:aH)(n:Int)(hr:zg4 r=true):zs4 r n=some (amtM r n):=by
  rw[zK2]at hr;unfold zs4 amtM
  by_cases hk:r.kind=1
  .simp only[hk,cA,cC,zcs6,Option.bind_some];rfl
  · simp only[hk,cJ,bT,cB]
    rw[zcs5 n r.aS (by omega) (by omega),Option.bind_some];have h1:0<=n% r.aS:=jI _ (by omega);have h2:n% r.aS<r.aS:=jJ _ (by omega);rw[zj1 (by omega) (by omega)];rfl
structure TapeOk (t:bL):Prop where
  len:t.l.length<=1000000
  at_:0<=t.at_/\t.at_<=t.l.length
def zan4(m:Int)(t:bL):Int:=if(t.l.length:Int)<=t.at_ then 0 else(t.l.getD t.at_.toNat 0)% m
def zT5(t:bL):bL:=if(t.l.length:Int)<=t.at_ then t else{t with at_:=t.at_+1}
theorem zbg0(m:Int)(t:bL)(ht:TapeOk t)(h1:1<=m)(h2:m<=1000000):zb9 m t=some (zan4 m t,zT5 t):=by
  unfold zb9 zan4 zT5;have hl:=ht.len;have ha:=ht.at_
  by_cases h:(t.l.length:Int)<=t.at_
  .simp only[h,cA,cC]
  · simp only[h,cJ,bT,cB]
    have w1:IntKind.i64.wrap (t.at_+1)=t.at_+1:=zj1 (by omega) (by omega);have w2:IntKind.i64.wrap (t.at_+1-1)=t.at_:=by rw[zj1 (by omega) (by omega)];omega
    simp only[w1,w2];rw[gdp (by omega),zcs5 _ m h1 h2];rfl
theorem zaE1{t:bL}(h:TapeOk t):TapeOk (zT5 t):=by
  unfold zT5;split
  .exact h
  .have:=h.at_;exact⟨h.len,by simp only;omega⟩
theorem zcW1(t:bL):(zT5 t).l=t.l:=by unfold zT5;split<;>rfl
theorem zai8(m:Int)(t:bL)(h1:1<=m):0<=zan4 m t/\zan4 m t<m:=by
  unfold zan4;split
  .omega
  .exact⟨jI _ (by omega),jJ _ (by omega)⟩
def zaT1:Nat->bL->bL
  |0,t=>t
  |n+1,t=>zaT1 n (zT5 t)
def catL(t:bL):List aH:=
  [⟨⟨#[97]⟩,1,1,zan4 4 t⟩,⟨⟨#[98]⟩,1,1,zan4 4 (zT5 t)⟩,⟨⟨#[99]⟩,1,1,zan4 4 (zaT1 2 t)⟩,⟨⟨#[100]⟩,1,1,zan4 4 (zaT1 3 t)⟩,
   ⟨⟨#[112]⟩,2,1+zan4 8 (zaT1 4 t),zan4 4 (zaT1 5 t)⟩,⟨⟨#[113]⟩,2,1+zan4 3 (zaT1 6 t),zan4 4 (zaT1 7 t)⟩]
theorem zcN3(t:bL)(ht:TapeOk t):zl2 t=some (catL t,zaT1 8 t):=by
  unfold zl2;have hlit:(zt5.length:Int)=4:=rfl;have step:∀(i:Nat) (u:bL) (l:List aH),i<4->TapeOk u->l.length<=10->zN6 ((i:Int),u,l)=some (.inl ((i:Int)+1,zT5 u,l++[⟨zt5.getD i (⟨#[]⟩),1,1,zan4 4 u⟩])):=by
    intro i u l hi hu hl;unfold zN6;have h1:(i:Int)<4:=by omega
    have h0:0<=(i:Int):=by omega
    simp only[hlit,h1,h0,cS,zg9,cA,cC];rw[zbg0 4 u hu (by decide) (by decide),Option.bind_some,gdp (by omega),zj1 (by omega) (by omega)];simp only[Int.toNat_natCast]
  have s0:=step 0 t [] (by decide) ht (by simp);have o1:=zaE1 ht;have s1:=step 1 (zT5 t) [⟨zt5.getD 0 (⟨#[]⟩),1,1,zan4 4 t⟩] (by decide) o1 (by simp);have o2:=zaE1 o1;have s2:=step 2 (zT5 (zT5 t)) ([⟨zt5.getD 0 (⟨#[]⟩),1,1,zan4 4 t⟩]++[⟨zt5.getD 1 (⟨#[]⟩),1,1,zan4 4 (zT5 t)⟩]) (by decide) o2 (by simp);have o3:=zaE1 o2;have s3:=step 3 (zT5 (zT5 (zT5 t))) ([⟨zt5.getD 0 (⟨#[]⟩),1,1,zan4 4 t⟩]++[⟨zt5.getD 1 (⟨#[]⟩),1,1,zan4 4 (zT5 t)⟩]++[⟨zt5.getD 2 (⟨#[]⟩),1,1,zan4 4 (zT5 (zT5 t))⟩]) (by decide) o3 (by simp);have o4:=zaE1 o3;have s4:∀u l,zN6 ((4:Int),u,l)=some (.inr (u,l)):=λ u l=>by unfold zN6;simp[hlit]
  rw[zq3,show((0:Int),t,([]:List aH))=(((0:Nat):Int),t,[])from rfl,s0];simp only[List.nil_append];rw[zq3,show((0:Nat):Int)+1=((1:Nat):Int)from rfl,s1];simp only;rw[zq3,show((1:Nat):Int)+1=((2:Nat):Int)from rfl,s2];simp only;rw[zq3,show((2:Nat):Int)+1=((3:Nat):Int)from rfl,s3];simp only;rw[zq3,show((3:Nat):Int)+1=(4:Int)from rfl,s4];simp only[Option.bind_some];unfold zau6;have o5:=zaE1 o4;have o6:=zaE1 o5;have o7:=zaE1 o6;have w8:=zai8 8 (zT5 (zT5 (zT5 (zT5 t)))) (by decide);have w3:=zai8 3 (zT5 (zT5 (zT5 (zT5 (zT5 (zT5 t)))))) (by decide);simp only;rw[zbg0 8 _ o4 (by decide) (by decide),Option.bind_some];simp only;rw[zbg0 4 _ o5 (by decide) (by decide),Option.bind_some,gdp (by simp)];simp only;rw[zbg0 3 _ o6 (by decide) (by decide),Option.bind_some];simp only;rw[zbg0 4 _ o7 (by decide) (by decide),Option.bind_some,gdp (by simp)];simp only;rw[zj1 (x:=1+zan4 8 _) (by omega) (by omega),zj1 (x:=1+zan4 3 _) (by omega) (by omega)];rfl
theorem zbM2(t:bL):∀r∈catL t,zg4 r=true:=by
  intro r hr;have w8:=zai8 8 (zaT1 4 t) (by decide);have w3:=zai8 3 (zaT1 6 t) (by decide);unfold catL at hr;simp only[cF,hY,kG]at hr;rw[zK2];rcases hr with rfl|rfl|rfl|rfl|rfl|rfl
  .exact .inl ⟨rfl,rfl⟩
  .exact .inl ⟨rfl,rfl⟩
  .exact .inl ⟨rfl,rfl⟩
  .exact .inl ⟨rfl,rfl⟩
  .exact .inr ⟨rfl,by simp only;omega,by simp only;omega⟩
  .exact .inr ⟨rfl,by simp only;omega,by simp only;omega⟩
theorem zde4{l:List Int}(h:zar5 l=true):l.length<=300:=by unfold zar5 at h;simp at h;omega
theorem zcN4(t:bL):∀r∈catL t,resV r=true:=by
 intro r hr;have w8:=zai8 8 (zaT1 4 t) (by decide);have w3:=zai8 3 (zaT1 6 t) (by decide);have hs:=zbM2 t r hr;unfold resV;rw[hs,cK];have hm:∀u:bL,(decide (0<=zan4 4 u)&&decide (zan4 4 u<4))=true:=λ u=>by have:=zai8 4 u (by decide);simp;exact this
 unfold catL at hr;simp only[cF,hY,kG]at hr;have n1:zE5 ⟨#[97]⟩=true:=by decide+kernel
 have n2:zE5 ⟨#[98]⟩=true:=by decide+kernel
 have n3:zE5 ⟨#[99]⟩=true:=by decide+kernel
 have n4:zE5 ⟨#[100]⟩=true:=by decide+kernel
 have n5:zE5 ⟨#[112]⟩=true:=by decide+kernel
 have n6:zE5 ⟨#[113]⟩=true:=by decide+kernel
 rcases hr with rfl|rfl|rfl|rfl|rfl|rfl<;>simp only[n1,n2,n3,n4,n5,n6,hm,gF]
def zau8(r:aH):aB:={aB.zero with aA:=r}
theorem zca0{r:aH}(h:resV r=true):zg4 r=true:=by unfold resV at h;simp only[bU]at h;exact h.2.1
theorem zcD6{r:aH}(h:resV r=true):SoundP (zau8 r):=
 ⟨h,zcM7 (zca0 h),by simp[zau8,aB.zero],.nil,by simp[zau8,aB.zero],by show zZ3 []=true;decide,by simp[zau8,aB.zero],by simp[zau8,aB.zero],by simp[zau8,aB.zero]⟩
theorem zcg8{r:aH}(h:resV r=true):zj6 (zau8 r)=true:=by rw[zw3];exact⟨zcD6 h,rfl⟩
theorem zbo5{q:aB}(h:zj6 q=true):zg4 q.aA=true:=zca0 ((zw3 q).1 h).1.res
theorem zcl5{α:Type}{l:List α}{i:Nat}{z:α}(h:i<l.length):l.take (i+1)=l.take i++[l.getD i z]:=by rw[fR h,bW,bZ h];rfl
theorem zak3{q:aB}(h:zj6 q=true):q.aP.length<=8/\q.aN.length<=8/\q.aT.length<=8/\zah9 q<=16:=((zw3 q).1 h).1.lens
theorem zcD7{q:aB}(h:zj6 q=true){p:aL}(hp:hasQ q p=true):(zJ2 q p).2.2=0/\(zJ2 q p).1=remN q p:=by
 have e:=zby2 h hp;have h0:(zJ2 q p).2.2=0:=by rw[e];rfl
 refine⟨h0,?_⟩;unfold remN;rw[bX h0]
theorem zcl6:∀x:List UInt8,Op.bytesLess x x=false
 |[]=>rfl
 |a::x=>by simp[Op.bytesLess,zcl6 x]
theorem zcD8:∀{x y z:List UInt8},Op.bytesLess x y=true->Op.bytesLess y z=true->Op.bytesLess x z=true
 |x,[],z,h1,_=>by cases x<;>simp[Op.bytesLess]at h1
 |x,b::y,[],_,h2=>by simp[Op.bytesLess]at h2
 |[],b::y,c::z,_,_=>by simp[Op.bytesLess]
 |a::x,b::y,c::z,h1,h2=>by
  simp only[Op.bytesLess,dI,bU,bY,dK]at h1 h2⊢;rcases h1 with h1|⟨rfl,h1⟩
  .rcases h2 with h2|⟨rfl,h2⟩
   .exact .inl (UInt8.lt_trans h1 h2)
   .exact .inl h1
  .rcases h2 with h2|⟨rfl,h2⟩
   .exact .inl h2
   .exact .inr ⟨rfl,zcD8 h1 h2⟩
def ltN(a b:ByteArray):Prop:=Op.bytesLess a.toList b.toList=true
instance(a b:ByteArray):Decidable (ltN a b):=by unfold ltN;infer_instance
theorem zaZ0{a b:ByteArray}(h:ltN a b):a≠b:=λ e=>by unfold ltN at h;rw[e,zcl6]at h;cases h
theorem zaQ1{a b c:ByteArray}(h:ltN a b)(k:ltN b c):ltN a c:=zcD8 h k
def AscN(t:List aB):Prop:=t.Pairwise λ a b=>ltN a.aA.name b.aA.name
def ascW:List aB->Option ByteArray->Bool
 |[],_=>true
 |q::t,pv=>zj6 q&&((match pv with|none=>true|some n=>decide (ltN n q.aA.name))&&ascW t (some q.aA.name))
theorem zca1:∀(t:List aB) (pv:Option ByteArray),ascW t pv=true↔(∀q∈t,zj6 q=true)/\AscN t/\∀n,pv=some n->∀q∈t,ltN n q.aA.name
 |[],pv=>by simp only[ascW,hY,hJ,eD,iW,fK,true_iff];exact .nil
 |q::t,pv=>by
  simp only[ascW,bU];rw[zca1 t (some q.aA.name)];constructor
  .rintro⟨h1,h2,h3,h4,h5⟩;refine⟨λ x hx=>?_,cX.2 ⟨λ x hx=>h5 _ rfl x hx,h4⟩,λ n hn x hx=>?_⟩
   .rcases cF.1 hx with rfl|hx
    .exact h1
    .exact h3 x hx
   .subst hn;simp only[bY]at h2;rcases cF.1 hx with rfl|hx
    .exact h2
    .exact zaQ1 h2 (h5 _ rfl x hx)
  .rintro⟨h1,h2,h3⟩;have h2':=cX.1 h2;refine⟨h1 q (.head _),?_,λ x hx=>h1 x (.tail _ hx),h2'.2,λ n hn x hx=>by cases hn;exact h2'.1 x hx⟩;cases pv with
   |none=>rfl
   |some n=>exact cG (h3 n rfl q (.head _))
def zaE2(t:List aB):Bool:=decide (t.length<=8)&&ascW t none
def zB8(t:List aB):List aL:=zbo2 (t.flatMap zau7)
def zay2(t:List aB):Bool:=zaE2 t&&decide ((zB8 t).length<=8)
structure ValidT (t:List aB):Prop where
 len:t.length<=8
 each:∀q∈t,zj6 q=true
 asc:AscN t
 aG:(zB8 t).length<=8
theorem zbg1(t:List aB):zaE2 t=true↔t.length<=8/\(∀q∈t,zj6 q=true)/\AscN t:=by unfold zaE2;rw[bU,bY,zca1];simp
theorem zR3(t:List aB):zay2 t=true↔ValidT t:=by unfold zay2;rw[bU,bY,zbg1];exact⟨λ⟨⟨h1,h2,h3⟩,h4⟩=>⟨h1,h2,h3,h4⟩,λ⟨h1,h2,h3,h4⟩=>⟨⟨h1,h2,h3⟩,h4⟩⟩
theorem zcl7{α:Type}(prev t:List α)(z:α)(h:prev≠[]):(prev++t).getD (prev.length-1) z=prev.getLast h:=by have hp:0<prev.length:=gL.2 h;rw[bW,dR (by omega),bZ (by omega),List.getLast_eq_getElem];rfl
theorem zcN5(t0:List aB):∀(t prev:List aB),t0=prev++t->
  walk (λ i q (_:Unit)=>some (if zj6 q=true/\(i=0\/ltN (t0.getD (i-1) aB.zero).aA.name q.aA.name)then Sum.inl ()else Sum.inr (Sum.inr (α:=Unit) false))) (λ _=>Sum.inl (β:=Bool) ()) t prev.length ()=
   some (if ascW t (prev.getLast?.map (·.aA.name))=true then .inl ()else .inr false):=by
 intro t;induction t with
 |nil=>intro prev _;simp[walk,ascW]
 |cons q t ih=>
  intro prev ht;simp only[walk];have hq:(prev.length=0\/ltN (t0.getD (prev.length-1) aB.zero).aA.name q.aA.name)↔(match prev.getLast?.map (·.aA.name)with|none=>true|some n=>decide (ltN n q.aA.name))=true:=by
   by_cases hp:prev=[]
   .subst hp;simp
   .have h1:=zcl7 prev (q::t) aB.zero hp;rw[ht,h1,kC hp];have:prev.length≠0:=λ e=>hp (cW e);simp[this]
  by_cases e:zj6 q=true/\(prev.length=0\/ltN (t0.getD (prev.length-1) aB.zero).aA.name q.aA.name)
  .rw[bX e];have:=ih (prev++[q]) (by rw[ht];simp);rw[show(prev++[q]).length=prev.length+1 by simp]at this;simp only;have h2:ascW (q::t) (prev.getLast?.map (·.aA.name))=ascW t (some q.aA.name):=by simp only[ascW,e.1,hq.1 e.2,cK]
   rw[this,h2];simp
  .rw[bV e];rw[hq]at e;have hf:ascW (q::t) (prev.getLast?.map (·.aA.name))=false:=by
    rw[dP];intro hh;simp only[ascW,bU]at hh;exact e ⟨hh.1,hh.2.1⟩
   rw[hf];rfl
theorem zby4{body:Int->Option (Int⊕(Unit⊕Bool))}(t:List aB)(hl:t.length<=8)
  (hb:∀i:Nat,i<t.length->body (i:Int)=some (if zj6 (t.getD i aB.zero)=true/\(i=0\/ltN (t.getD (i-1) aB.zero).aA.name (t.getD i aB.zero).aA.name)then .inl ((i+1:Nat):Int)else .inr (.inr false)))
  (he:body (t.length:Int)=some (.inr (.inl ()))):zc2 body 0=some (if ascW t none=true then .inl ()else .inr false):=by
 have key:=zap3 (body:=body) t aB.zero (λ i (_:Unit)=>(i:Int)) (λ i q _=>some (if zj6 q=true/\(i=0\/ltN (t.getD (i-1) aB.zero).aA.name q.aA.name)then Sum.inl ()else Sum.inr (Sum.inr (α:=Unit) false))) (λ _=>Sum.inl (β:=Bool) ())
  (λ i s hi=>by
   rw[hb i hi,Option.map_some];split<;>rfl) (λ s=>he) ()
 have:=zcN5 t t [] rfl;rw[show(0:Int)=(λ(i:Nat) (_:Unit)=>(i:Int)) 0 ()from rfl,key];exact this
theorem zbR2(t:List aB)(h:∀q∈t,zj6 q=true):(t.flatMap zau7).length<=24*t.length:=by
 induction t with
 |nil=>simp
 |cons q t ih=>
  have h1:=zak3 (h q (.head _));have h2:=zcl4 (q.aP.map (·.aK)++(ordQ q).map (·.aK));have h3:=ih λ x hx=>h x (.tail _ hx);have h4:(zau7 q).length<=24:=by unfold zau7;unfold ordQ at*;simp only[cD,dB]at h2;omega
  rw[jV,cD,List.length_cons];omega
theorem zca2{α β X:Type}(f:α->List β)(fin:List β->X):∀(l:List α) (i:Nat) (s:List β),walk (λ _ a s=>some (.inl (s++f a))) fin l i s=some (fin (s++l.flatMap f))
 |[],i,s=>by simp[walk]
 |a::l,i,s=>by simp only[walk,jV];rw[zca2 f fin l (i+1),dD]
theorem zd5{α:Type}{l:List α}{i:Nat}{z:α}(h:i<l.length):l.getD i z∈l:=by rw[bW,bZ h];exact iN h
theorem zcl8{q:aB}(h:zj6 q=true):(zau7 q).length<=24:=by
 have:=zbR2 [q] λ x hx=>by rw[dN]at hx;rw[hx];exact h
 simpa using this
theorem zaT2{t:List aB}(hl:t.length<=8)(h:∀q∈t,zj6 q=true):zF4 t=some (zB8 t):=by
 unfold zF4;have key:=zE7 (body:=zah5 t) t aB.zero (λ i (s:List aL)=>((i:Int),s)) (λ _ q s=>some (.inl (s++zau7 q))) (λ s=>s) (λ i s=>s.length<=24*i)
  (λ i s hi hs=>by
   have hq:=h _ (zd5 (z:=aB.zero) hi);have hql:=zak3 hq;have hpl:=zcl8 hq;refine⟨?_,λ s' h=>?_⟩
   .unfold zah5;have h3:0<=(i:Int)/\(i:Int)<(t.length:Int):=by omega
    simp only[h3.1,h3.2,cS,zg9,cA,cC,Int.toNat_natCast];rw[zbZ4 _ (by omega) (by omega) (by omega),Option.bind_some,zh3 (by omega),zc4 i (by omega)];rfl
   .simp only[dE,fN]at h;subst h;rw[cD];omega)
  (λ s hs=>by unfold zah5;simp) [] (by simp)
 rw[show((0,[]):Int×List aL)=(λ(i:Nat) (s:List aL)=>((i:Int),s)) 0 []from rfl,key,zca2 zau7,List.nil_append,Option.bind_some];unfold zaH1;have:=zbR2 t h;rw[zay1 _ (by omega)];rfl
theorem zca3(t:List aB):zW8 t=some (zay2 t):=by
 unfold zW8 zay2 zaE2
 by_cases h8:8<t.length
 .have:¬t.length<=8:=by omega
  rw[bX (by simp;omega)];simp[this]
 .have hl:t.length<=8:=by omega
  rw[bV (by simp;omega),zby4 t hl (λ i hi=>by
   unfold zas9;have h3:0<=(i:Int)/\(i:Int)<(t.length:Int):=by omega
   simp only[h3.1,h3.2,cS,zg9,cA,cC,Int.toNat_natCast,zbn7,Option.bind_some,zc4 i (by omega)]
   by_cases e0:i=0
   .subst e0;rw[zh3 (by simp)];cases zj6 (t.getD 0 aB.zero)<;>simp
   .rw[zah8 i (by omega) (by omega),zh3 (by intro _;omega)];simp only[Int.toNat_natCast,show(0:Int)<(i:Int)by omega,cA,cK,e0,iP];unfold ltN;rcases hb (zj6 (t.getD i aB.zero))with b1|b1<;>rcases hb (Op.bytesLess (t.getD (i-1) aB.zero).aA.name.toList (t.getD i aB.zero).aA.name.toList)with b2|b2<;>simp[b1,b2,-List.getD_eq_getElem?_getD]) (by unfold zas9;simp)]
  simp only[hl,cA,cK];cases hw:ascW t none with
  |false=>rfl
  |true=>simp only[cC,Option.bind_some,cK];unfold zaH2;rw[zaT2 hl ((zca1 t none).1 hw).1,Option.bind_some];congr 1;rw[dW];simp;omega
theorem zaQ2{α:Type}(l:List α)(z:α)(p:α->Bool){body:Int->Option (Int⊕(Unit⊕Int))}(hb:∀i:Nat,i<l.length->body (i:Int)=some (if p (l.getD i z)=true then .inr (.inr (i:Int))else .inl ((i+1:Nat):Int)))
  (he:body (l.length:Int)=some (.inr (.inl ()))):zc2 body 0=some (match l.findIdx? p with|some i=>.inr (i:Int)|none=>.inl ()):=by
 have key:=zap3 (body:=body) l z (λ i (_:Unit)=>(i:Int)) (λ i a _=>some (if p a=true then .inr (Sum.inr (α:=Unit) (i:Int))else .inl ())) (λ _=>Sum.inl (β:=Int) ())
  (λ i s hi=>by rw[hb i hi,Option.map_some];split<;>rfl) (λ s=>he) ()
 have fold:∀(l:List α) (i:Nat),walk (λ i a (_:Unit)=>some (if p a=true then .inr (Sum.inr (α:=Unit) (i:Int))else .inl ())) (λ _=>Sum.inl (β:=Int) ()) l i ()=some (match l.findIdx? p with|some j=>.inr ((i+j:Nat):Int)|none=>.inl ()):=by
  intro l;induction l with
  |nil=>intro i;rfl
  |cons a l ih=>
   intro i;simp only[walk,List.findIdx?_cons]
   by_cases hp:p a=true
   .simp[hp]
   .simp only[hp,bT,cB];rw[ih (i+1)];cases l.findIdx? p with
    |none=>rfl
    |some j=>simp only[Option.map_some];rw[show i+1+j=i+(j+1)by omega]
 have:=fold l 0;simp only[dV]at this;rw[show(0:Int)=(λ(i:Nat) (_:Unit)=>(i:Int)) 0 ()from rfl,key];exact this
def isN(nm:ByteArray)(q:aB):Bool:=q.aA.name.toList==nm.toList
theorem zcW2{nm:ByteArray}{q:aB}:isN nm q=true↔q.aA.name=nm:=by unfold isN;rw[dK];exact zaq7
def zA5(t:List aB)(nm:ByteArray):Int:=match t.findIdx? (isN nm)with
 |some i=>i
 |none=>-1
theorem zaZ1(t:List aB)(nm:ByteArray)(hl:t.length<=1000000):zm5 t nm=some (zA5 t nm):=by
 unfold zm5;rw[zaQ2 t aB.zero (isN nm) (λ i hi=>by
  unfold zaw4 isN;have h3:0<=(i:Int)/\(i:Int)<(t.length:Int):=by omega
  simp only[h3.1,h3.2,cS,zg9,cA,cC,Int.toNat_natCast,zc4 i (by omega)];split<;>rfl) (by unfold zaw4;simp)]
 unfold zA5;cases t.findIdx? (isN nm)<;>rfl
theorem zaT3{t:List aB}{nm:ByteArray}:zA5 t nm=-1\/∃i:Nat,zA5 t nm=i/\i<t.length/\(t.getD i aB.zero).aA.name=nm:=by
 unfold zA5;cases h:t.findIdx? (isN nm)with
 |none=>exact .inl rfl
 |some i=>right;obtain⟨h1,h2,_⟩:=eT.1 h;refine⟨i,rfl,h1,?_⟩;rw[bW,bZ h1];exact zcW2.1 h2
theorem zaJ6{t:List aB}(h:AscN t){i j:Nat}(hi:i<t.length)(hj:j<t.length)(e:(t.getD i aB.zero).aA.name=(t.getD j aB.zero).aA.name):i=j:=by
 have hp:=dU.1 h;have g:∀k,(hk:k<t.length)->t.getD k aB.zero=t[k]:=λ k hk=>by rw[bW,bZ hk];rfl
 rw[g i hi,g j hj]at e;rcases gZ i j with h1|h1|h1
 .exact absurd e (zaZ0 (hp i j hi hj h1))
 .exact h1
 .exact absurd e.symm (zaZ0 (hp j i hj hi h1))
theorem zaE3{t:List aB}(h:AscN t){i:Nat}(hi:i<t.length):zA5 t (t.getD i aB.zero).aA.name=i:=by
 rcases zaT3 (t:=t) (nm:=(t.getD i aB.zero).aA.name)with h1|⟨j,h1,h2,h3⟩
 .unfold zA5 at h1;cases hf:t.findIdx? (isN (t.getD i aB.zero).aA.name)with
  |some k=>rw[hf]at h1;simp only at h1;omega
  |none=>have:=fJ.1 hf (t.getD i aB.zero) (zd5 hi);rw[dP]at this;exact absurd (zcW2.2 rfl) this
 .rw[h1,zaJ6 h h2 hi h3]
theorem zbH5(x:aL)(s:List aL)(hs:s.Pairwise ltP)(hx:x∉s)(hl:s.length<=1000000):zc2 (zS7) ((s.length:Int),s++[x])=some (zaL9 x s):=by
 obtain⟨r,h1,h2⟩:=zq9 (body:=zS7) (λ g=>∃pre post:List aL,g=((pre.length:Int),pre++x::post)/\pre++post=s/\∀y∈post,ltP x y) (λ g=>g.1.toNat) (λ r=>r=zaL9 x s) (by
  rintro g ⟨pre,post,rfl,hp,hpost⟩;have hpl:pre.length+post.length=s.length:=by rw[<-hp,cD]
  unfold zS7;simp only[cD,List.length_cons]
  by_cases h0:pre=[]
  .right;subst h0;refine⟨_,by rw[zh3 (by simp),zh3 (by simp),bV (by simp)],?_⟩;simp only[List.nil_append]at hp⊢;subst hp;refine zaT0 (cX.2 ⟨hpost,hs⟩) (zaI3 hs) λ y=>?_;rw[zaI2,cF]
  .obtain⟨pre',y,rfl⟩:∃p' y,pre=p'++[y]:=⟨pre.dropLast,pre.getLast h0,(List.dropLast_concat_getLast h0).symm⟩;have hk:(pre'++[y]).length=pre'.length+1:=by simp
   rw[hk]at hpl⊢;have w:IntKind.i64.wrap (((pre'.length+1:Nat):Int)-1)=(pre'.length:Int):=by rw[zj1 (by omega) (by omega)];omega
   have e1:(pre'++[y]++x::post).getD pre'.length aL.zero=y:=by simp[bW]
   have e2:(pre'++[y]++x::post).getD (pre'.length+1) aL.zero=x:=by simp[bW]
   have g1:0<=(pre'.length:Int)/\(pre'.length:Int)<((pre'.length+1+(post.length+1):Nat):Int):=by omega
   have g2:0<=((pre'.length+1:Nat):Int)/\((pre'.length+1:Nat):Int)<((pre'.length+1+(post.length+1):Nat):Int):=by omega
   have hpos:decide (0<((pre'.length+1:Nat):Int))=true:=cG (by omega);simp only[w,Int.toNat_natCast,e1,e2,hpos,cK];rw[zh3 (λ _=>g1),zh3 (λ _=>g2)];have hlt:decide (0<zv4 y x)=decide (ltP x y):=by rw[jB];exact zbX5 y x
   rw[hlt]
   by_cases hxy:ltP x y
   .left;rw[bX (cG hxy),zh3 g1,zh3 g2,zh3 g1,zh3 g2];refine⟨((pre'.length:Int),pre'++x::(y::post)),?_,⟨pre',y::post,rfl,by rw[<-hp];simp,λ z hz=>?_⟩,by simp only[Int.toNat_natCast];omega⟩
    .congr 3;rw[dD,gR _ _ (dA _),gG,gR _ _ (by omega),show pre'.length+1-pre'.length=1 by omega];rfl
    .rcases cF.1 hz with rfl|hz
     .exact hxy
     .exact hpost z hz
   .right;refine⟨_,by rw[bV (by simpa using hxy)],?_⟩;have hyx:ltP y x:=by
     rcases zat1 (p:=x) (q:=y) (λ e=>hx (by rw[<-hp,e];simp))with h|h
     .exact absurd h hxy
     .exact h
    rw[<-hp]at hs;obtain⟨a1,a2,a3⟩:=eO.1 hs;obtain⟨b1,b2,b3⟩:=eO.1 a1;have hpre:∀z∈pre'++[y],ltP z x:=λ z hz=>by
     rcases cR.1 hz with hz|hz
     .exact zat0 (b3 z hz y (by simp)) hyx
     .rw[dN]at hz;rw[hz];exact hyx
    rw[<-hp];refine zaT0 (eO.2 ⟨a1,cX.2 ⟨hpost,a2⟩,λ z hz u hu=>?_⟩) (zaI3 hs) λ z=>?_
    .rcases cF.1 hu with rfl|hu
     .exact hpre z hz
     .exact a3 z hz u hu
    .rw[zaI2];simp only[cR,cF,dN];constructor
     .rintro((h|h)|h|h)
      .exact .inr (.inl (.inl h))
      .exact .inr (.inl (.inr h))
      .exact .inl h
      .exact .inr (.inr h)
     .rintro(h|(h|h)|h)
      .exact .inr (.inl h)
      .exact .inl (.inl h)
      .exact .inl (.inr h)
      .exact .inr (.inr h)) ((s.length:Int),s++[x]) ⟨s,[],by simp,by simp,by simp⟩
 rw[h1,h2]
theorem zaT4(l:List aL)(hl:l.length<=1000000):zk1 l=some (zbo2 l):=by
 unfold zk1;have key:=zE7 (body:=zE9 l) l aL.zero (λ i (s:List aL)=>((i:Int),s)) (λ _ p s=>some (.inl (zaL9 p s))) (λ s=>s) (λ i s=>s.Pairwise ltP/\s.length<=i)
  (λ i s hi hs=>by
   have hlen:∀p,(zaL9 p s).length<=s.length+1:=λ p=>by
    have:=dL (zbr5 (zaI3 (p:=p) hs.1)) (l₂:=p::s) λ z hz=>by
     rcases zaI2.1 hz with rfl|h
     .exact .head _
     .exact .tail _ h
    simpa using this
   refine⟨?_,λ s' h=>?_⟩
   .unfold zE9;have h3:0<=(i:Int)/\(i:Int)<(l.length:Int):=by omega
    simp only[h3.1,h3.2,cS,zg9,cA,cC,Int.toNat_natCast];rw[zbc9 _ _ (by omega),Option.bind_some,zc4 i (by omega)]
    by_cases hm:l.getD i aL.zero∈s
    .rw[bX (cG hm),Option.map_some,zcM8 hs.1 hm];rfl
    .rw[bV (by rw[bY];exact hm),zh3 (by omega),zbH5 _ _ hs.1 hm (by omega),Option.bind_some];unfold zao8;simp only[zc4 i (show i<4611686018427387904 by omega),Option.map_some,wmap]
   .simp only[dE,fN]at h;subst h;exact⟨zaI3 hs.1,by have:=hlen (l.getD i aL.zero);omega⟩)
  (λ s hs=>by unfold zE9;simp) [] ⟨.nil,by simp⟩
 rw[show((0,[]):Int×List aL)=(λ(i:Nat) (s:List aL)=>((i:Int),s)) 0 []from rfl,key,zbY6 (λ s p=>zaL9 p s)];rfl
theorem zap9{α β:Type}(l:List α)(z:α)(f:α->β)(s0:List β){body:Int×List β->Option ((Int×List β)⊕List β)}(hl:l.length<=1000000)(h0:s0.length<=1000000)
  (hb:∀(i:Nat) (s:List β),i<l.length->s.length<=3000000->body ((i:Int),s)=some (.inl (((i+1:Nat):Int),s++[f (l.getD i z)]))) (he:∀s,body ((l.length:Int),s)=some (.inr s)):zc2 body (0,s0)=some (s0++l.map f):=by
 have key:=zE7 (body:=body) l z (λ i (s:List β)=>((i:Int),s)) (λ i a s=>some (.inl (zaL6 s (some (f a))))) (λ s=>s) (λ i s=>s.length<=1000000+i)
  (λ i s hi hs=>⟨by rw[hb i s hi (by omega)];rfl,λ s' h=>by simp only[dE,fN]at h;subst h;simp[zaL6];omega⟩) (λ s hs=>he s) s0 (by omega)
 rw[show((0,s0):Int×List β)=(λ(i:Nat) (s:List β)=>((i:Int),s)) 0 s0 from rfl,key,zaP8 (λ a=>some (f a))];simp
theorem zbH6(l:List bA)(hl:l.length<=1000000):zi2 l=some (l.map (·.aK)):=by
 unfold zi2;rw[zap9 l bA.zero (·.aK) [] hl (by simp) (λ i s hi hs=>by
  unfold zaj1;have h3:0<=(i:Int)/\(i:Int)<(l.length:Int):=by omega
  have h1:s.length+1<=4294967296:=by omega
  simp only[h1,h3.1,h3.2,cS,zg9,cA,cC,Int.toNat_natCast,zc4 i (show i<4611686018427387904 by omega)]) (λ s=>by unfold zaj1;simp)]
 rfl
theorem zca4(q:aB)(h1:q.aN.length<=1000)(h2:q.aT.length<=1000):zl5 q=some ((ordQ q).map (·.aK)):=by
 unfold zl5;rw[zap9 q.aN aU.zero (·.aK) [] (by omega) (by simp) (λ i s hi hs=>by
  unfold zar2;have h3:0<=(i:Int)/\(i:Int)<(q.aN.length:Int):=by omega
  have h1:s.length+1<=4294967296:=by omega
  simp only[h1,h3.1,h3.2,cS,zg9,cA,cC,Int.toNat_natCast,zc4 i (show i<4611686018427387904 by omega)]) (λ s=>by unfold zar2;simp),Option.bind_some]
 unfold zar1;rw[zap9 q.aT aU.zero (·.aK) _ (by omega) (by simp;omega) (λ i s hi hs=>by
  unfold zar0;have h3:0<=(i:Int)/\(i:Int)<(q.aT.length:Int):=by omega
  have h1:s.length+1<=4294967296:=by omega
  simp only[h1,h3.1,h3.2,cS,zg9,cA,cC,Int.toNat_natCast,zc4 i (show i<4611686018427387904 by omega)]) (λ s=>by unfold zar0;simp),Option.bind_some]
 unfold zaG2 ordQ;rw[fA,List.nil_append]
theorem zca5(q:aB)(h0:q.aP.length<=1000)(h1:q.aN.length<=1000)(h2:q.aT.length<=1000):zt9 q=some (zau7 q):=by
 unfold zt9 zau7;have hl:(ordQ q).length<=2000:=by unfold ordQ;rw[cD];omega
 rw[zbH6 _ (by omega),Option.bind_some,zca4 q h1 h2,Option.bind_some,zh3 (by simp;omega),zaT4 _ (by simp;omega)];rfl
theorem zaT5{t:List aB}(hl:t.length<=8)(h:∀q∈t,zj6 q=true):zv8 t=some (zB8 t):=by
 unfold zv8;have key:=zE7 (body:=zag4 t) t aB.zero (λ i (s:List aL)=>((i:Int),s)) (λ _ q s=>some (.inl (s++zau7 q))) (λ s=>s) (λ i s=>s.length<=24*i)
  (λ i s hi hs=>by
   have hq:=h _ (zd5 (z:=aB.zero) hi);have hql:=zak3 hq;have hpl:=zcl8 hq;refine⟨?_,λ s' h=>?_⟩
   .unfold zag4;have h3:0<=(i:Int)/\(i:Int)<(t.length:Int):=by omega
    simp only[h3.1,h3.2,cS,zg9,cA,cC,Int.toNat_natCast];rw[zca5 _ (by omega) (by omega) (by omega),Option.bind_some,zh3 (by omega),zc4 i (by omega)];rfl
   .simp only[dE,fN]at h;subst h;rw[cD];omega)
  (λ s hs=>by unfold zag4;simp) [] (by simp)
 rw[show((0,[]):Int×List aL)=(λ(i:Nat) (s:List aL)=>((i:Int),s)) 0 []from rfl,key,zca2 zau7,List.nil_append,Option.bind_some];unfold zaG8;have:=zbR2 t h;rw[zaT4 _ (by omega)];rfl
theorem zca6(t:List aB):zW6 t=some (zaE2 t):=by
 unfold zW6 zaE2
 by_cases h8:8<t.length
 .have:¬t.length<=8:=by omega
  rw[bX (by simp;omega)];simp[this]
 .have hl:t.length<=8:=by omega
  rw[bV (by simp;omega),zby4 t hl (λ i hi=>by
   unfold zas5;have h3:0<=(i:Int)/\(i:Int)<(t.length:Int):=by omega
   simp only[h3.1,h3.2,cS,eD,zg9,cA,cC,Int.toNat_natCast,zap7,Option.bind_some,zc4 i (by omega)]
   by_cases e0:i=0
   .subst e0;rw[zh3 (by simp)];cases zj6 (t.getD 0 aB.zero)<;>simp
   .rw[zah8 i (by omega) (by omega),zh3 (by intro _;omega)];simp only[Int.toNat_natCast,show(0:Int)<(i:Int)by omega,cA,cK,e0,iP];unfold ltN;rcases hb (zj6 (t.getD i aB.zero))with b1|b1<;>rcases hb (Op.bytesLess (t.getD (i-1) aB.zero).aA.name.toList (t.getD i aB.zero).aA.name.toList)with b2|b2<;>simp[b1,b2,-List.getD_eq_getElem?_getD]) (by unfold zas5;simp)]
  simp only[hl,cA,cK];cases hw:ascW t none<;>rfl
theorem zaq0(t:List aB):zI1 t=some (zay2 t):=by
 unfold zI1 zay2;rw[zca6,Option.bind_some];cases hp:zaE2 t with
 |false=>rfl
 |true=>obtain⟨h1,h2,_⟩:=(zbg1 t).1 hp;rw[bX rfl,zaT5 h1 h2,Option.bind_some,cK];congr 1;rw[dW];simp;omega
theorem zX0(t:List aB)(nm:ByteArray)(hl:t.length<=1000000):zi8 t nm=some (zA5 t nm):=by
 unfold zi8;rw[zaQ2 t aB.zero (isN nm) (λ i hi=>by
  unfold zaw7 isN;have h3:0<=(i:Int)/\(i:Int)<(t.length:Int):=by omega
  simp only[h3.1,h3.2,cS,zg9,cA,cC,Int.toNat_natCast,zc4 i (by omega)];split<;>rfl) (by unfold zaw7;simp)]
 unfold zA5;cases t.findIdx? (isN nm)<;>rfl
end Ab
end Go.Proofs.YtenebhlnfjcffaaGreatDoor
