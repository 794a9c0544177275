import Derived.Test.YtfmnjkfhahfhgaaGreatDoorLinB
namespace Go.Proofs.YtfmnjkfhahfhgaaGreatDoor
namespace Ab
set_option linter.defProp false
set_option linter.unusedVariables false
set_option linter.unusedSimpArgs false
def UV{p:aK}{l:List aX}{h:aX}:h∈nJ p l↔h∈l/\h.aM≠p:=by unfold nJ;simp
def bZt{l m:List aC}(h:l.Sublist m)(H:∀a∈m,0<=a.aU):sumU l<=sumU m:=by
 induction h with
 |slnil=>exact kN _
 |cons a h O=>have:=O λ b hb=>H b (.tail _ hb);have:=H a (.head _);simp only[sumU];omega
 |cons_cons a h O=>have:=O λ b hb=>H b (.tail _ hb);simp only[sumU];omega
def CompP.sub{r:aI}{l m:List aC}(h:CompP r m)(H:l.Sublist m):CompP r l where
 perm:=λ a K=>h.perm a (H.subset K)
 sum:=Int.le_trans (bZt H λ a K=>(Au (h.perm a K)).1) h.sum
 pair:=h.pair.sublist H
def GoodP.sub{r:aI}{l m:List aX}(h:GoodP r m)(H:l.Sublist m):GoodP r l:=⟨λ x K=>h.each x (H.subset K),h.asc.sublist H⟩
def wT(r:aI)(l:List aX):pA r l=true↔oB r=true/\l.length<=8/\GoodP r l/\CompP r (l.map (·.aJ)):=by unfold pA;simp
def On{r:aI}{l m:List aX}(h:pA r m=true)(H:l.Sublist m):pA r l=true:=by rw[wT]at h⊢;exact⟨h.1,dI H.length_le h.2.1,h.2.2.1.sub H,h.2.2.2.sub (H.map _)⟩
def Oo(p:aK)(l:List aX):(nJ p l).Sublist l:=jD
def Oq(p:aK)(a:aC)(l:List aX):(insP p a l).Perm (⟨p,a⟩::l):=by
 induction l with
 |nil=>exact iY _
 |cons h t H=>
  simp only[insP];split
  .exact iY _
  .exact(List.Perm.cons h H).trans (List.Perm.swap _ _ _)
def UW{p:aK}{a:aC}:∀{l:List aX},l.Pairwise (λ a b=>ltP a.aM b.aM)->(∀h∈l,h.aM≠p)->(insP p a l).Pairwise λ a b=>ltP a.aM b.aM
 |[],_,_=>by simp[insP]
 |h::t,K,L=>by
  rw[dD]at K;simp only[insP];split
  .rename_i H;rw[dD];refine⟨λ x hx=>?_,dD.2 K⟩;rcases cL.1 hx with rfl|hx
   .exact H
   .exact Cg H (K.1 x hx)
  .rename_i H;rw[dD];refine⟨λ x hx=>?_,UW K.2 λ x hx=>L x (.tail _ hx)⟩;rcases cL.1 ((Oq p a t).mem_iff.1 hx)with rfl|hx
   .rcases Ch (L h (.head _))with h1|h1
    .exact h1
    .exact absurd h1 H
   .exact K.1 x hx
def Ot{l m:List aC}(h:l.Perm m):sumU l=sumU m:=by
 induction h with
 |nil=>rfl
 |cons a _ U=>simp only[sumU,U]
 |swap a b l=>simp only[sumU];omega
 |trans _ _ H O=>exact H.trans O
def Lg{a b:aC}(h:¬qS a b):¬qS b a:=λ⟨H,O,U⟩=>h ⟨O,H,by rw[K8];exact U⟩
def CompP.perm_iff{r:aI}{l m:List aC}(h:l.Perm m):CompP r l↔CompP r m:=by
 constructor
 .intro k;exact⟨λ a H=>k.perm a (h.mem_iff.2 H),by rw[<-Ot h];exact k.sum,(h.pairwise_iff (λ h=>Lg h)).1 k.pair⟩
 .intro k;exact⟨λ a H=>k.perm a (h.mem_iff.1 H),by rw[Ot h];exact k.sum,(h.pairwise_iff (λ h=>Lg h)).2 k.pair⟩
def UX{r:aI}{l:List aX}{p:aK}{a:aC}(V:pA r l=true)(B:mP p=true)(L:mM r a=true)(K:(nJ p l).length+1<=8):
  sU r l p a=true↔(∀h∈nJ p l,¬qS h.aJ a)/\a.aU+sumU ((nJ p l).map (·.aJ))<=r.aU:=by
 have U:=(wT r l).1 V;have M:=sT L;have ho:=On V (Oo p l);have H:=(wT r _).1 ho;have Z:tR r l p a=true:=by unfold tR;simp[V,B,L]
 have Y:((insP p a (nJ p l)).map (·.aJ)).Perm (a::(nJ p l).map (·.aJ)):=(Oq p a (nJ p l)).map _;unfold sU;rw[Z,cN,wT];unfold setL;rw[bX M,CompP.perm_iff Y];constructor
 .rintro⟨_,_,_,F⟩;refine⟨λ h O=>?_,F.sum⟩;have:=(dD.1 F.pair).1 h.aJ (cS.2 ⟨h,O,rfl⟩);exact Lg this
 .rintro⟨h1,h2⟩;refine⟨U.1,by rw[K9];exact K,⟨λ x hx=>?_,UW H.2.2.1.asc λ h O=>(UV.1 O).2⟩,⟨λ b hb=>?_,h2,?_⟩⟩
  .rcases cL.1 ((Oq p a _).mem_iff.1 hx)with rfl|hx
   .exact⟨B,L⟩
   .exact H.2.2.1.each x hx
  .rcases cL.1 hb with rfl|hb
   .exact rE L
   .exact H.2.2.2.perm b hb
  .rw[dD];refine⟨λ b hb=>?_,H.2.2.2.pair⟩;obtain⟨h,O,rfl⟩:=cS.1 hb;exact Lg (h1 h O)
def UY{α S X:Type}(f:S->α->S)(H:S->X):∀(l:List α) (i:Nat) (s:S),walk (λ _ a s=>some (.inl (f s a))) H l i s=some (H (l.foldl f s))
 |[],_,_=>rfl
 |a::l,i,s=>by simp only[walk,List.foldl_cons];exact UY f H l (i+1) _
def cA3(l:List aX)(K:l.length<=1000000):Gd l=some (l.map (·.aM)):=by
 unfold Gd;have H:=rD (body:=Gc l) l aX.zero (λ i (s:List aK)=>((i:Int),s)) (λ i h s=>some (.inl (sH s (some h.aM)))) (λ s=>s) (λ i s=>s.length<=i)
  (λ i s L U=>by
   refine⟨?_,λ B h=>?_⟩
   .unfold Gc;have Y:s.length+1<=4294967296:=om
    have O:0<=(i:Int)/\(i:Int)<(l.length:Int):=om
    simp only[Y,O.1,O.2,cX,mL,cF,cH,Qm,mF i om,xm,wmap,sH]
   .simp only[cJ,fN]at h;subst h;simp[sH];omega)
  (λ s U=>by unfold Gc;simp) [] (by simp)
 rw[show((0,[]):Int×List aK)=(λ(i:Nat) (s:List aK)=>((i:Int),s)) 0 []from rfl,H,E2 (λ h:aX=>some h.aM)];simp[Nj]
def UZ{α:Type}{P:α->Prop}{l:List α}{z:α}:(∀i,i<l.length->P (l.getD i z))↔∀w∈l,P w:=by
 constructor
 .intro h w K;obtain⟨i,H,rfl⟩:=gD.1 K;have:=h i H;rwa [cD,cE H]at this
 .intro h i H;refine h _ ?_;rw[cD,cE H];exact iP H
def cA5(p:aK):getH [] p=aC.zero:=rfl
def vP(h:aX)(t:List aX)(p:aK):getH (h::t) p=if h.aM=p then h.aJ else getH t p:=by
 unfold getH;rw[List.find?_cons]
 by_cases e:h.aM=p<;>simp[e]
def U0(p:aK)(l:List aX):getH (nJ p l) p=aC.zero:=by
 induction l with
 |nil=>rfl
 |cons h t H=>
  rw[HI]
  by_cases e:h.aM=p
  .simp only[e,cH];exact H
  .simp only[e,cI,vP];exact H
def E8{p q:aK}(O:q≠p)(l:List aX):getH (nJ p l) q=getH l q:=by
 induction l with
 |nil=>rfl
 |cons h t H=>
  rw[HI]
  by_cases e:h.aM=p
  .simp only[e,cH,vP];rw[bX (λ U=>O U.symm)];exact H
  .simp only[e,cI,vP];split
   .rfl
   .exact H
def U1(p:aK)(a:aC):∀l:List aX,(∀h∈l,h.aM≠p)->getH (insP p a l) p=a
 |[],_=>by simp[insP,vP]
 |h::t,H=>by
  simp only[insP];split
  .simp[vP]
  .simp only[vP,H h (.head _),cI];exact U1 p a t λ x K=>H x (.tail _ K)
def U2{p q:aK}(a:aC)(H:q≠p):∀l:List aX,getH (insP p a l) q=getH l q
 |[]=>by simp only[insP,vP];rw[bX (λ e:p=q=>H e.symm)]
 |h::t=>by
  simp only[insP];split
  .simp only[vP];rw[bX (λ e:p=q=>H e.symm)]
  .simp only[vP];split
   .rfl
   .exact U2 a H t
def Ou(l:List aX)(p:aK)(a:aC):getH (setL l p a) p=a:=by
 unfold setL;split
 .rename_i h;rw[U0,h]
 .exact U1 p a _ λ h H=>(UV.1 H).2
def yN{p q:aK}(H:q≠p)(l:List aX)(a:aC):getH (setL l p a) q=getH l q:=by
 unfold setL;split
 .exact E8 H l
 .rw[U2 a H];exact E8 H l
def Ck{l:List aX}{p:aK}(h:getH l p≠aC.zero):(⟨p,getH l p⟩:aX)∈l:=by
 induction l with
 |nil=>exact absurd rfl h
 |cons x t H=>
  rw[vP]at h|-
  by_cases e:x.aM=p
  .rw[cB e];subst e;exact .head _
  .rw[bX e]at h⊢;exact .tail _ (H h)
def cAd{l:List aX}{p:aK}(h:∀x∈l,x.aM≠p):nJ p l=l:=List.filter_eq_self.2 λ x H=>by simpa using h x H
def Asc(l:List aX):Prop:=l.Pairwise λ a b=>ltP a.aM b.aM
def Lh{r:aI}{l:List aX}(h:pA r l=true):Asc l:=((wT r l).1 h).2.2.1.asc
def U3{h:aX}{t:List aX}(k:Asc (h::t)):∀x∈t,x.aM≠h.aM:=λ x H e=>by have:=(dD.1 k).1 x H;rw[e]at this;exact E3 _ this
def U4{l:List aX}(h:Asc l){p:aK}(H:getH l p≠aC.zero):l.Perm (⟨p,getH l p⟩::nJ p l):=by
 induction l with
 |nil=>exact absurd rfl H
 |cons x t O=>
  rw[vP]at H⊢;rw[HI]
  by_cases e:x.aM=p
  .rw[cB e,cB e,cAd (by rw[<-e];exact U3 h)];subst e;exact iY _
  .rw[bX e]at H;rw[bX e,bX e];exact((O (dD.1 h).2 H).cons x).trans (List.Perm.swap _ _ _)
def Ov{l:List aX}(h:Asc l){p:aK}(H:getH l p≠aC.zero):(nJ p l).length+1=l.length:=by
 have:=(U4 h H).length_eq
 simpa using this.symm
def cAi{l:List aX}(K:Asc l){x:aX}(hx:x∈l):getH l x.aM=x.aJ:=by
 induction l with
 |nil=>cases hx
 |cons y t H=>
  rw[vP];rcases cL.1 hx with rfl|hx
  .rw[cB rfl]
  .rw[bX (λ e:y.aM=x.aM=>U3 K x hx e.symm)];exact H (dD.1 K).2 hx
def Az{r:aI}{l:List aX}(h:pA r l=true)(p:aK):nS r (getH l p)=true:=by
 have H:=(wT r l).1 h
 by_cases e:getH l p=aC.zero
 .rw[e,perm_iff];exact .inl ⟨H.1,rfl⟩
 .exact rE (H.2.2.1.each _ (Ck e)).2
def vO(a:aC):oQ a=true↔a=aC.zero:=by unfold oQ;simp
def yO(a:aC):oQ a=false↔a≠aC.zero:=by rw[<-gO,vO]
structure SoundP (q:aA):Prop where
 res:resV q.aB=true
 hv:pA q.aB q.aT=true
 cl:q.aN.length<=8
 cn:(q.aN.map (·.aM)).Nodup
 cg:∀w∈q.aN,getH q.aT w.aM≠aC.zero/\mM q.aB w.aJ=true/\covA q.aB w.aJ (getH q.aT w.aM)=true/\w.aJ≠getH q.aT w.aM/\w.bC=0/\w.bS=0
 wv:qJ q.aW=true
 wl:q.aT.length+q.aW.length<=8
 wg:∀w∈q.aW,mM q.aB w.aJ=true/\getH q.aT w.aM=aC.zero
 gen:0<=q.gen/\q.gen<=1073741824
def Ow(q:aA):yM q=true↔SoundP q:=by
 have Z:cvOk q=true↔q.aN.length<=8/\(q.aN.map (·.aM)).Nodup/\∀w∈q.aN,getH q.aT w.aM≠aC.zero/\mM q.aB w.aJ=true/\covA q.aB w.aJ (getH q.aT w.aM)=true/\w.aJ≠getH q.aT w.aM/\w.bC=0/\w.bS=0:=by
  unfold cvOk;rw[<-Ol,<-UZ (z:=aV.zero)];simp only[bY,cC,dQ,eH,cvI,dA,yO,dF];constructor
  .rintro⟨O,H⟩;exact⟨O,λ i K=>(H i K).1,λ i K=>(H i K).2⟩
  .rintro⟨O,H,U⟩;exact⟨O,λ i K=>⟨H i K,U i K⟩⟩
 have hw:wtOk q=true↔qJ q.aW=true/\q.aT.length+q.aW.length<=8/\∀w∈q.aW,mM q.aB w.aJ=true/\getH q.aT w.aM=aC.zero:=by unfold wtOk;rw[<-UZ (z:=aV.zero)];simp only[bY,cC,dQ,eH,wtI,vO]
 unfold yM;simp only[bY,Z,hw,cC];constructor
 .rintro⟨O,H,⟨U,Y,B⟩,⟨F,M,L⟩,V⟩;exact⟨O,H,U,Y,B,F,M,L,V⟩
 .rintro⟨O,H,U,Y,B,F,M,L,V⟩;exact⟨O,H,⟨U,Y,B⟩,⟨F,M,L⟩,V⟩
def SoundP.apart{q:aA}(h:SoundP q){c w:aV}(H:c∈q.aN)(K:w∈q.aW):c.aM≠w.aM:=λ e=>
 (h.cg c H).1 (by rw[e];exact(h.wg w K).2)
inductive Pop (q:aA):Prop where
 |con (w:aV) (cs:List aV) (h:q.aN=w::cs) (hd:(oC q).1=w) (hr:sU q.aB q.aT w.aM w.aJ=true) (hp:popQ q={q with aT:=setL q.aT w.aM w.aJ,aN:=cs})
 |wait (w:aV) (ws:List aV) (hc:q.aN=[]) (h:q.aW=w::ws) (hd:(oC q).1=w) (hr:sU q.aB q.aT w.aM w.aJ=true) (hp:popQ q={q with aT:=setL q.aT w.aM w.aJ,aW:=ws})
def Ox{q:aA}(h:canQ q=true):Pop q:=by
 unfold canQ at h;rw[bY]at h;obtain⟨O,U⟩:=h;cases K:q.aN with
 |cons w Y=>
  have H:(oC q).1=w:=by unfold oC;rw[K];rfl
  exact .con w Y K H (by rw[<-H];exact U) (by unfold popQ;rw[H];simp[K])
 |nil=>
  cases L:q.aW with
  |cons w B=>
   have H:(oC q).1=w:=by unfold oC;rw[K,L];rfl
   exact .wait w B K L H (by rw[<-H];exact U) (by unfold popQ;rw[H];simp[K,L])
  |nil=>unfold oC at O;rw[K,L]at O;exact absurd O Om
def E9{r:aI}{l:List aX}{p:aK}{a:aC}(h:sU r l p a=true):pA r l=true/\mP p=true/\mM r a=true/\pA r (setL l p a)=true:=by unfold sU tR at h;simp only[bY]at h;exact⟨h.1.1,h.1.2.1,h.1.2.2,h.2⟩
def U5{r:aI}{l:List aX}{p:aK}(a:aC)(h:pA r l=true)(H:getH l p≠aC.zero):(setL l p a).length<=l.length:=by
 have:=Ov (Lh h) H;unfold setL;split
 .omega
 .rw[K9];omega
def cAp{w:aV}{l:List aV}(h:qJ (w::l)=true):qJ l=true:=by rw[HP]at h⊢;obtain⟨O,U,H⟩:=h;rw[dO,iS]at H;exact⟨by simp at O;omega,λ x K=>U x (.tail _ K),H.2⟩
def SoundP.pop{q:aA}(h:SoundP q)(Z:canQ q=true):SoundP (popQ q):=by
 cases Ox Z with
 |con w cs U hd M L=>
  rw[L];obtain⟨_,_,_,V⟩:=E9 M;have B:w.aM∉cs.map (·.aM)/\(cs.map (·.aM)).Nodup:=by have:=h.cn;rw[U,dO,iS]at this;exact this
  have hw:=h.cg w (by rw[U];exact .head _);have hl:=U5 w.aJ h.hv hw.1;have F:=h.cl;rw[U,lH]at F;refine⟨h.res,V,by simp only;omega,B.2,λ c H=>?_,h.wv,?_,λ x K=>?_,h.gen⟩
  .have O:c.aM≠w.aM:=λ e=>B.1 (cS.2 ⟨c,H,e⟩);simp only[yN O];exact h.cg c (by rw[U];exact .tail _ H)
  .have:=h.wl;simp only;omega
  .have O:x.aM≠w.aM:=λ e=>h.apart (c:=w) (by rw[U];exact .head _) K e.symm;simp only[yN O];exact h.wg x K
 |wait w ws h0 U hd M L=>
  rw[L];obtain⟨_,_,_,V⟩:=E9 M;have hl:=bX9 q.aT w.aM w.aJ;have F:=h.wl;have Y:=h.wv;rw[U]at F Y;have B:w.aM∉ws.map (·.aM):=by have:=((HP _).1 Y).2.2;rw[dO,iS]at this;exact this.1
  rw[lH]at F;refine⟨h.res,V,h.cl,h.cn,λ c H=>?_,cAp Y,by simp only;omega,λ x K=>?_,h.gen⟩
  .rw[h0]at H;cases H
  .have O:x.aM≠w.aM:=λ e=>B (cS.2 ⟨x,K,e⟩);simp only[yN O];exact h.wg x (by rw[U];exact .tail _ K)
def Oy:∀(n:Nat) (q:aA) (l:List aX),advN n (q,l)=((advN n (q,[])).1,l++(advN n (q,[])).2)
 |0,q,l=>by simp[advN]
 |n+1,q,l=>by
  simp only[advN];split
  .unfold l7;simp only[jm];rw[Oy n (popQ q) (l++_),Oy n (popQ q) [_],cG]
  .simp
def advS(q:aA):aA:=(advQ q).1
def advG(q:aA):List aX:=(advQ q).2
def Li(q:aA):advQ q=if canQ q=true then((advQ (popQ q)).1,⟨(oC q).1.aM,(oC q).1.aJ⟩::(advQ (popQ q)).2)else(q,[]):=by
 unfold advQ;rw[Oj (q,[])];show(if canQ q=true then advN (pJ (popQ q)) (popQ q,[]++[_])else(q,[]))=_;split
 .rw[Oy];rfl
 .rfl
def Oz{q:aA}(h:canQ q=true):advS q=advS (popQ q):=by unfold advS;rw[Li q,cB h]
def cAt{q:aA}(h:canQ q=true):advG q=⟨(oC q).1.aM,(oC q).1.aJ⟩::advG (popQ q):=by unfold advG;rw[Li q,cB h]
def OA{q:aA}(h:canQ q=false):advS q=q:=by unfold advS;rw[Li q,h];rfl
def cAv{q:aA}(h:canQ q=false):advG q=[]:=by unfold advG;rw[Li q,h];rfl
def HQ{P:aA->Prop}(h:∀q,canQ q=true->P q->P (popQ q)):∀q,P q->P (advS q):=by
 have O:∀n q,pJ q=n->P q->P (advS q):=by
  intro n;induction n using Nat.strongRecOn with
  |_ n U=>
   intro q Y H;cases K:canQ q with
   |false=>rw[OA K];exact H
   |true=>rw[Oz K];have:=(E7 K).2.1;exact U (pJ (popQ q)) om _ rfl (h q K H)
 exactλ q H=>O _ q rfl H
def U6{P:aA->Prop}(O:∀q,canQ q=false->P q)(h:∀q,canQ q=true->P (popQ q)->P q):∀q,P q:=by
 have H:∀n q,pJ q=n->P q:=by
  intro n;induction n using Nat.strongRecOn with
  |_ n U=>
   intro q Y;cases K:canQ q with
   |false=>exact O q K
   |true=>have:=(E7 K).2.1;exact h q K (U (pJ (popQ q)) om _ rfl)
 exactλ q=>H _ q rfl
def cAy:∀q,canQ (advS q)=false:=by refine U6 (λ q h=>by rw[OA h];exact h) λ q h H=>by rw[Oz h];exact H
def SoundP.adv{q:aA}(h:SoundP q):SoundP (advS q):=HQ (P:=SoundP) (λ _ H h=>h.pop H) q h
def qK(q:aA):mR q=true↔SoundP q/\canQ q=false:=by unfold mR;rw[bY,Ow];show SoundP q/\(!canQ q)=true↔_;rw[dA]
def cAz:∀q,(advG q).length+pJ (advS q)=pJ q:=by
 refine U6 (λ q h=>by rw[OA h,cAv h];simp) λ q h H=>by rw[Oz h,cAt h,lH];have:=(E7 h).2.1;omega
def cB0(r:aI)(a b:aC):covA r a b=(!(!nS r a||!nS r b)&&(oQ b||(!oQ a&&(if r.kind=1 then covM a.mode b.mode else decide (b.aU<=a.aU))))):=by
 have H:=E4 r a;have O:=E4 r b;have U:=yL a;have Y:=yL b;have h:covA r a b=(!(!uL r a||!uL r b)&&(nX b||(!nX a&&(if r.kind=1 then covM a.mode b.mode else decide (b.aU<=a.aU))))):=by
  unfold covA rZ;generalize(!uL r a||!uL r b)=x;generalize nX b=y;generalize nX a=z
  by_cases B:r.kind=1<;>cases x<;>cases y<;>cases z<;>simp[B]
 rw[h,H,O,U,Y]
def tS(r:aI)(a b:aC):covA r a b=true↔nS r a=true/\nS r b=true/\(b=aC.zero\/a≠aC.zero/\b≠aC.zero/\((r.kind=1/\covM a.mode b.mode=true)\/(r.kind≠1/\b.aU<=a.aU))):=by
 rw[cB0];have U:=vO a;have H:=vO b;simp only[bY,dS,dA,iX,Bool.not_eq_false',H,yO]
 by_cases e:b=aC.zero
 .simp[e,fV]
 .by_cases O:r.kind=1<;>simp[e,O,fV]
def l8{r:aI}{a:aC}(h:nS r a=true):covA r a a=true:=by
 rw[tS];refine⟨h,h,?_⟩
 by_cases e:a=aC.zero
 .exact .inl e
 .refine .inr ⟨e,e,?_⟩
  by_cases H:r.kind=1
  .left;refine⟨H,?_⟩;have:=Ci h H;have hm:a.mode≠0:=λ hm=>e (by obtain⟨m,u⟩:=a;simp only at*;unfold aC.zero;congr;omega);rw[E6];omega
  .exact .inr ⟨H,kN _⟩
def OB{r:aI}{a:aC}(h:nS r a=true)(H:oB r=true):covA r a aC.zero=true:=by rw[tS];exact⟨h,(perm_iff r _).2 (.inl ⟨H,rfl⟩),.inl rfl⟩
def Lj{r:aI}{a b c:aC}(U:covA r a b=true)(Y:covA r b c=true):covA r a c=true:=by
 rw[tS]at U Y⊢;refine⟨U.1,Y.2.1,?_⟩;rcases Y.2.2 with e|⟨B,F,O⟩
 .exact .inl e
 .rcases U.2.2 with e|⟨M,_,H⟩
  .exact absurd e B
  .refine .inr ⟨M,F,?_⟩;rcases O with⟨k,O⟩|⟨k,O⟩
   .rcases H with⟨_,H⟩|⟨k',_⟩
    .left;refine⟨k,?_⟩;rw[E6]at O H⊢;omega
    .exact absurd k k'
   .rcases H with⟨k',_⟩|⟨_,H⟩
    .exact absurd k' k
    .exact .inr ⟨k,by omega⟩
def low(a b:aC):Prop:=a.aU<=b.aU/\∀c,¬qS b c->¬qS a c
def cB5{r:aI}{a b:aC}(h:covA r b a=true):low a b:=by
 rw[tS]at h;obtain⟨F,Y,H⟩:=h;have B:=Au F;rcases H with e|⟨Z,x0,H⟩
 .subst e;refine⟨B.1,λ c _ O=>?_⟩;exact O.1 rfl
 .rcases H with⟨k,H⟩|⟨k,H⟩
  .have p1:=Ci F k;have M:=Ci Y k;refine⟨by omega,λ c O U=>O ⟨?_,U.2.1,?_⟩⟩
   .rw[E6]at H;omega
   .have K:=U.2.2;rw[<-gO]at K⊢;intro L;apply K;rw[K7]at L⊢;rw[E6]at H;omega
  .have V:r.kind=2:=by
    have:=(perm_iff r a).1 Y;rw[tQ,rR]at this;omega
   have M:=K6 Y V;exact⟨H,λ c _ O=>O.1 M.1⟩
def cB6{r:aI}{l:List aX}{p:aK}{a:aC}:sU r l p a=true↔pA r l=true/\mP p=true/\mM r a=true/\(nJ p l).length+1<=8/\(∀h∈nJ p l,¬qS h.aJ a)/\a.aU+sumU ((nJ p l).map (·.aJ))<=r.aU:=by
 constructor
 .intro h;obtain⟨O,U,H,Y⟩:=E9 h;have K:(nJ p l).length+1<=8:=by
   have:=Aw Y;unfold setL at this;rw[bX (sT H),K9]at this;exact this
  exact⟨O,U,H,K,(UX O U H K).1 h⟩
 .rintro⟨O,U,H,Y,B⟩;exact(UX O U H Y).2 B
def cB7{r:aI}{l:List aX}{p:aK}{a:aC}(K:pA r l=true)(M:getH l p≠aC.zero)(V:covA r (getH l p) a=true):pA r (setL l p a)=true:=by
 have O:=Lh K;have H:=(wT r l).1 K
 by_cases Z:a=aC.zero
 .unfold setL;rw[cB Z];exact On K (Oo p l)
 .have B:mM r a=true:=by
   rcases(perm_iff r a).1 ((tS _ _ _).1 V).2.1 with h|h
   .exact absurd h.2 Z
   .exact h
  have U:=cB5 V;have hm:=Ck M;have hlt:=Ov O M;have F:=U4 O M;have Y:sU r l p a=true:=by
   rw[cB6];refine⟨K,(H.2.2.1.each _ hm).1,B,by have:=H.2.1;omega,λ x hx h0=>?_,?_⟩
   .have L:=(CompP.perm_iff (F.map (·.aJ))).1 H.2.2.2;have:=(dD.1 L.pair).1 x.aJ (cS.2 ⟨x,hx,rfl⟩);exact U.2 _ this (by
     obtain⟨c1,c2,c3⟩:=h0;exact⟨c2,c1,by rw[K8];exact c3⟩)
   .have h1:=Ot (F.map (·.aJ));have h2:=H.2.2.2.sum;rw[h1]at h2;simp only[dO,sumU]at h2;have:=U.1;omega
  exact(E9 Y).2.2.2
def del(q:aA)(p:aK):aA:={q with aT:=nJ p q.aT,aN:=rmL q.aN p,aW:=rmL q.aW p}
def Cl{w:aV}{l:List aV}{p:aK}:w∈rmL l p↔w∈l/\w.aM≠p:=by unfold rmL notP;simp
def Fa(l:List aV)(p:aK):(rmL l p).Sublist l:=jD
def SoundP.del{q:aA}(h:SoundP q)(p:aK):SoundP (del q p):=by
 have U:=(Fa q.aN p).length_le;have Y:=(Fa q.aW p).length_le;have B:=HJ p q.aT;have F:=h.cl;have M:=h.wl;refine⟨h.res,On h.hv (Oo p _),by simp only[Ab.del];omega,h.cn.sublist ((Fa _ _).map _),λ w K=>?_,UT p h.wv,by simp only[Ab.del];omega,λ w K=>?_,h.gen⟩
 .obtain⟨H,O⟩:=Cl.1 K;simp only[Ab.del,E8 O];exact h.cg w H
 .obtain⟨H,O⟩:=Cl.1 K;simp only[Ab.del,E8 O];exact h.wg w H
def cBa(q:aA)(g:Int):canQ {q with gen:=g}=canQ q:=rfl
def OC(q:aA):(popQ q).gen=q.gen/\(popQ q).aB=q.aB:=by unfold popQ;split<;>exact⟨rfl,rfl⟩
def U7(q:aA):(advS q).gen=q.gen/\(advS q).aB=q.aB:=
 HQ (P:=λ x=>x.gen=q.gen/\x.aB=q.aB) (λ x _ h=>by rw[(OC x).1,(OC x).2];exact h) q ⟨rfl,rfl⟩
def U8(g:Int):0<=oW g/\oW g<=1073741824:=by
  unfold oW
  by_cases h:g<0\/1073741824<=g
  .rw[cB (by simpa using h)];decide
  .rw[bX (by simpa using h),mB om om];omega
def rS(q:aA):aA×List aX×Int:=({advS q with gen:=oW q.gen},advG q,0)
def SoundP.gen'{q:aA}(h:SoundP q)(g:Int)(H:0<=g)(O:g<=1073741824):SoundP {q with gen:=g}:=⟨h.res,h.hv,h.cl,h.cn,h.cg,h.wv,h.wl,h.wg,H,O⟩
def Fb{q:aA}(h:SoundP q):mR (rS q).1=true:=by rw[qK];exact⟨h.adv.gen' _ (U8 _).1 (U8 _).2,by show canQ (advS q)=false;exact cAy q⟩
def U9(q:aA)(p:aK):(nH q p).2=true↔∃w∈q.aN++q.aW,w.aM=p:=by
  unfold nH Ax;cases h:(q.aN++q.aW).find? λ w=>decide (w.aM=p)with
  |none=>
    rw[List.find?_eq_none]at h;simp only[cC]at h;constructor
    .intro H;cases H
    .rintro⟨w,K,e⟩;exact absurd e (h w K)
  |some w=>have O:=kH h;have H:=List.find?_some h;exact⟨λ _=>⟨w,O,by simpa using H⟩,λ _=>rfl⟩
def Cm{q:aA}{p:aK}:(nH q p).2=false↔∀w∈q.aN++q.aW,w.aM≠p:=by
  rw[<-gO,U9];constructor
  .exactλ h w H e=>h ⟨w,H,e⟩
  .rintro h ⟨w,H,e⟩;exact h w H e
def cBh:∀a∈[(1:Int),2,3,4,5],∀b∈[(1:Int),2,3,4,5],supM a b∈[(1:Int),2,3,4,5]/\covM (supM a b) a=true/\covM (supM a b) b=true:=by decide
def cBi{r:aI}{a b:aC}(K:mM r a=true)(hb:mM r b=true)(H:r.kind=1):rG r a b=⟨supM a.mode b.mode,0⟩:=by unfold rG;rw[rE K,rE hb,(yO a).2 (sT K),(yO b).2 (sT hb)];simp[H,aC.zero]
def cBj{r:aI}{a b:aC}(K:mM r a=true)(hb:mM r b=true)(H:r.kind≠1):rG r a b=⟨0,if a.aU<b.aU then b.aU else a.aU⟩:=by unfold rG;rw[rE K,rE hb,(yO a).2 (sT K),(yO b).2 (sT hb)];simp[H,aC.zero]
def Va{r:aI}{h a:aC}(O:mM r h=true)(K:mM r a=true)(B:covA r h a=false):
    mM r (rG r h a)=true/\covA r (rG r h a) h=true/\covA r (rG r h a) a=true/\rG r h a≠h:=by
  have Y:mM r (rG r h a)=true/\covA r (rG r h a) h=true/\covA r (rG r h a) a=true:=by
    have fh:=(rR r h).1 O;have fa:=(rR r a).1 K
    by_cases U:r.kind=1
    · have F:h.mode∈[(1:Int),2,3,4,5]:=by simp;omega
      have M:a.mode∈[(1:Int),2,3,4,5]:=by simp;omega
      obtain⟨L,V,Z⟩:=cBh _ F _ M;rw[cBi O K U];have H:mM r ⟨supM h.mode a.mode,0⟩=true:=by rw[rR];left;simp at L;exact⟨U,by omega,by simp only;omega,by simp only;omega,rfl⟩
      refine⟨H,?_,?_⟩
      .rw[tS];exact⟨rE H,rE O,.inr ⟨sT H,sT O,.inl ⟨U,V⟩⟩⟩
      .rw[tS];exact⟨rE H,rE K,.inr ⟨sT H,sT K,.inl ⟨U,Z⟩⟩⟩
    · rw[cBj O K U]
      have H:mM r ⟨0,if h.aU<a.aU then a.aU else h.aU⟩=true:=by rw[rR];right;refine⟨by omega,by omega,by omega,rfl,?_,?_⟩<;>simp only<;>split<;>omega
      refine⟨H,?_,?_⟩
      · rw[tS];refine⟨rE H,rE O,.inr ⟨sT H,sT O,.inr ⟨U,?_⟩⟩⟩
        simp only;split<;>omega
      · rw[tS];refine⟨rE H,rE K,.inr ⟨sT H,sT K,.inr ⟨U,?_⟩⟩⟩
        simp only;split<;>omega
  refine⟨Y.1,Y.2.1,Y.2.2,λ e=>?_⟩;have:=Y.2.2;rw[e,B]at this;cases this
def claimC(q:aA)(p:aK)(a:aC):aA:={q with aN:=q.aN++[⟨p,rG q.aB (getH q.aT p) a,0,0⟩]}
def claimW(q:aA)(p:aK)(a:aC)(pr:Int):aA:={q with aW:=wR q.aW ⟨p,a,pr,0⟩ (sI q.aW ⟨p,a,pr,0⟩ q.aW.length)}
def yP(q:aA)(p:aK):aA:={q with aN:=rmL q.aN p,aW:=rmL q.aW p}
def vQ(q:aA)(p:aK)(a:aC):aA:={q with aT:=setL q.aT p a}
def hasQ(q:aA)(p:aK):Bool:=(nH q p).2||!oQ (getH q.aT p)
def errQ(e:Int):aA×List aX×Int:=(aA.zero,[],e)
def yQ(p:aK)(pr:Int):Bool:=mP p&&(decide (0<=pr)&&decide (pr<=7))
def qF(q:aA)(p:aK)(a:aC)(pr:Int):aA×List aX×Int:=
  if mR q=false then errQ 2 else if yQ p pr=false then errQ 1 else if mM q.aB a=false then errQ 12 else if(nH q p).2=true then errQ 14
  else if covA q.aB (getH q.aT p) a=true then(q,[],0)else if getH q.aT p≠aC.zero then rS (claimC q p a)
  else if 8<=q.aT.length+q.aW.length then errQ 4 else rS (claimW q p a pr)
def pS(q:aA)(p:aK):aA×List aX×Int:=
  if mR q=false then errQ 2 else if(nH q p).2=false then errQ 10 else rS (yP q p)
def oJ(q:aA)(p:aK)(a:aC):aA×List aX×Int:=
  if mR q=false then errQ 2 else if getH q.aT p=aC.zero then errQ 10 else if(nH q p).2=true then errQ 14
  else if covA q.aB (getH q.aT p) a=false then errQ 12 else if getH q.aT p=a then(q,[],0)else rS (vQ q p a)
def pK(q:aA)(p:aK):aA×List aX×Int:=
  if mR q=false then errQ 2 else if hasQ q p=false then errQ 10 else rS (del q p)
def SoundP.cancel{q:aA}(h:SoundP q)(p:aK):SoundP (yP q p):=by have H:=(Fa q.aN p).length_le;have O:=(Fa q.aW p).length_le;have U:=h.cl;have Y:=h.wl;exact⟨h.res,h.hv,by simp only[yP];omega,h.cn.sublist ((Fa _ _).map _),λ w K=>h.cg w (Cl.1 K).1,UT p h.wv,by simp only[yP];omega,λ w K=>h.wg w (Cl.1 K).1,h.gen⟩
def SoundP.claimC{q:aA}(h:SoundP q){p:aK}{a:aC}(Z:mM q.aB a=true)(V:(nH q p).2=false)(Y:covA q.aB (getH q.aT p) a=false)(U:getH q.aT p≠aC.zero):SoundP (claimC q p a):=by
  have hv:=(wT _ _).1 h.hv;have O:mM q.aB (getH q.aT p)=true:=(hv.2.2.1.each _ (Ck U)).2;obtain⟨j1,B,j3,F⟩:=Va O Z Y;rw[Cm]at V;refine⟨h.res,h.hv,?_,?_,λ w hww=>?_,h.wv,h.wl,h.wg,h.gen⟩
  ·
    have M:((q.aN++[(⟨p,rG q.aB (getH q.aT p) a,0,0⟩:aV)]).map (·.aM)).Nodup:=by rw[fL,jM];refine⟨h.cn,by simp,λ x K y L=>?_⟩;simp only[dO,iQ,dP]at L;obtain⟨c,H,rfl⟩:=cS.1 K;rw[L];exact V c (dV _ H)
    have hs:∀x∈(q.aN++[(⟨p,rG q.aB (getH q.aT p) a,0,0⟩:aV)]).map (·.aM),x∈q.aT.map (·.aM):=by
      intro x K;simp only[fL,cY,dO,iQ,dP]at K;rcases K with K|rfl
      · obtain⟨c,H,rfl⟩:=cS.1 K
        exact cS.2 ⟨_,Ck (h.cg c H).1,rfl⟩
      .exact cS.2 ⟨_,Ck U,rfl⟩
    have:=eP M hs;have h8:=Aw h.hv;rw[dM,dM]at this;show(q.aN++[(⟨p,rG q.aB (getH q.aT p) a,0,0⟩:aV)]).length<=8;omega
  · show((q.aN++[(⟨p,rG q.aB (getH q.aT p) a,0,0⟩:aV)]).map (·.aM)).Nodup
    rw[fL,jM];refine⟨h.cn,by simp,λ x K y L=>?_⟩;simp only[dO,iQ,dP]at L;obtain⟨c,H,rfl⟩:=cS.1 K;rw[L];exact V c (dV _ H)
  · rcases cY.1 hww with hww|hww
    .exact h.cg w hww
    · rw[dP]at hww;subst hww
      exact⟨U,j1,B,F,rfl,rfl⟩
def Vb{r:aI}{p:aK}{a:aC}{pr:Int}(K:mM r a=true)(H:yQ p pr=true):pI ⟨p,a,pr,0⟩=true:=by rw[rR]at K;unfold yQ at H;simp only[bY,cC]at H;rw[<-Lb];unfold xV;rw[wQ,H.1];unfold pR sQ;simp;omega
def cBq{q:aA}(h:SoundP q){p:aK}{a:aC}{pr:Int}(L:mM q.aB a=true)(O:yQ p pr=true)(K:(nH q p).2=false)(U:q.aW.length<8):
    insS q.aW ⟨p,a,pr,0⟩=((claimW q p a pr).aW,(sI q.aW ⟨p,a,pr,0⟩ q.aW.length:Int),0):=by
  unfold insS;rw[bX (by rw[h.wv];decide),bX (by rw[Vb L O];simp),bX ?_,bX om]
  .rfl
  · rw[Cm]at K
    exact bY0.2 λ w H=>K w (dK _ H)
def SoundP.claimW{q:aA}(h:SoundP q){p:aK}{a:aC}{pr:Int}(K:mM q.aB a=true)(U:yQ p pr=true)(L:(nH q p).2=false)(Y:getH q.aT p=aC.zero)(hl:q.aT.length+q.aW.length<8):SoundP (claimW q p a pr):=by
  rw[Cm]at L;have O:∀e∈q.aW,e.aM≠p:=λ e B=>L e (dK _ B);have V:=bZr (w:=⟨p,a,pr,0⟩) h.wv (Vb K U) O om;refine⟨h.res,h.hv,h.cl,h.cn,h.cg,V,?_,λ w H=>?_,h.gen⟩
  · have F:=Lc q.aW ⟨p,a,pr,0⟩ q.aW.length
    simp only[Ab.claimW,wR,cA,ym,dM,dE,dC];omega
  · simp only[Ab.claimW,wR,cY,cL,cS]at H
    rcases H with H|rfl|⟨x,Z,rfl⟩
    .exact h.wg w (iJ H)
    .exact⟨K,Y⟩
    .exact h.wg x (iZ Z)
def SoundP.lower{q:aA}(h:SoundP q){p:aK}{a:aC}(K:(nH q p).2=false)(O:getH q.aT p≠aC.zero)(U:covA q.aB (getH q.aT p) a=true):SoundP (vQ q p a):=by
  rw[Cm]at K;have L:=U5 a h.hv O;have Y:=h.wl;refine⟨h.res,cB7 h.hv O U,h.cl,h.cn,λ w H=>?_,h.wv,by simp only[vQ];omega,λ w H=>?_,h.gen⟩
  · simp only[vQ,yN (K w (dV _ H))]
    exact h.cg w H
  · simp only[vQ,yN (K w (dK _ H))]
    exact h.wg w H
def Lk{q:aA}{p:aK}{a:aC}{pr:Int}(h:(qF q p a pr).2.2=0):SoundP q/\canQ q=false/\yQ p pr=true/\mM q.aB a=true/\(nH q p).2=false/\
    ((covA q.aB (getH q.aT p) a=true/\qF q p a pr=(q,[],0))\/
     (covA q.aB (getH q.aT p) a=false/\getH q.aT p≠aC.zero/\qF q p a pr=rS (claimC q p a)/\SoundP (claimC q p a))\/
     (covA q.aB (getH q.aT p) a=false/\getH q.aT p=aC.zero/\q.aT.length+q.aW.length<8/\qF q p a pr=rS (claimW q p a pr)/\SoundP (claimW q p a pr))):=by
  unfold qF at h|-
  by_cases F:mR q=false
  .rw[cB F]at h;exact absurd h Om
  rw[bX F]at h|-
  by_cases B:yQ p pr=false
  .rw[cB B]at h;exact absurd h Om
  rw[bX B]at h|-
  by_cases U:mM q.aB a=false
  .rw[cB U]at h;exact absurd h Om
  rw[bX U]at h|-
  by_cases Y:(nH q p).2=true
  .rw[cB Y]at h;exact absurd h Om
  rw[bX Y]at h⊢;rw[fX]at F B U;rw[gO]at Y;obtain⟨M,L⟩:=(qK q).1 F;refine⟨M,L,B,U,Y,?_⟩
  by_cases O:covA q.aB (getH q.aT p) a=true
  .rw[cB O];exact .inl ⟨O,rfl⟩
  rw[bX O]at h⊢;rw[gO]at O
  by_cases H:getH q.aT p≠aC.zero
  .rw[cB H];exact .inr (.inl ⟨O,H,rfl,M.claimC U Y O H⟩)
  rw[bX H]at h|-
  by_cases K:8<=q.aT.length+q.aW.length
  .rw[cB K]at h;exact absurd h Om
  rw[bX K];have H:=kO.1 H;exact .inr (.inr ⟨O,H,by omega,rfl,M.claimW U B Y H om⟩)
def HR{q:aA}{p:aK}(h:(pS q p).2.2=0):SoundP q/\canQ q=false/\(nH q p).2=true/\pS q p=rS (yP q p)/\SoundP (yP q p):=by
  unfold pS at h|-
  by_cases H:mR q=false
  .rw[cB H]at h;exact absurd h Om
  rw[bX H]at h|-
  by_cases O:(nH q p).2=false
  .rw[cB O]at h;exact absurd h Om
  rw[bX O];rw[fX]at H O;obtain⟨Y,U⟩:=(qK q).1 H;exact⟨Y,U,O,rfl,Y.cancel p⟩
def Fc{q:aA}{p:aK}{a:aC}(h:(oJ q p a).2.2=0):SoundP q/\canQ q=false/\getH q.aT p≠aC.zero/\(nH q p).2=false/\covA q.aB (getH q.aT p) a=true/\
    ((getH q.aT p=a/\oJ q p a=(q,[],0))\/(getH q.aT p≠a/\oJ q p a=rS (vQ q p a)/\SoundP (vQ q p a))):=by
  unfold oJ at h|-
  by_cases U:mR q=false
  .rw[cB U]at h;exact absurd h Om
  rw[bX U]at h|-
  by_cases Y:getH q.aT p=aC.zero
  .rw[cB Y]at h;exact absurd h Om
  rw[bX Y]at h|-
  by_cases H:(nH q p).2=true
  .rw[cB H]at h;exact absurd h Om
  rw[bX H]at h|-
  by_cases O:covA q.aB (getH q.aT p) a=false
  .rw[cB O]at h;exact absurd h Om
  rw[bX O]at h⊢;rw[fX]at U O;rw[gO]at H;obtain⟨M,F⟩:=(qK q).1 U;refine⟨M,F,Y,H,O,?_⟩
  by_cases B:getH q.aT p=a
  .rw[cB B];exact .inl ⟨B,rfl⟩
  .rw[bX B];exact .inr ⟨B,rfl,M.lower H Y O⟩
def OD{q:aA}{p:aK}(h:(pK q p).2.2=0):SoundP q/\canQ q=false/\hasQ q p=true/\pK q p=rS (del q p)/\SoundP (del q p):=by
  unfold pK at h|-
  by_cases H:mR q=false
  .rw[cB H]at h;exact absurd h Om
  rw[bX H]at h|-
  by_cases O:hasQ q p=false
  .rw[cB O]at h;exact absurd h Om
  rw[bX O];rw[fX]at H O;obtain⟨Y,U⟩:=(qK q).1 H;exact⟨Y,U,O,rfl,Y.del p⟩
def ordQ(q:aA):List aV:=q.aN++q.aW
def OE{q:aA}(h:canQ q=true):ordQ q=(oC q).1::ordQ (popQ q)/\(popQ q).aT=setL q.aT (oC q).1.aM (oC q).1.aJ:=by
 cases Ox h with
 |con w F H O Y U=>rw[U,O];unfold ordQ;rw[H];exact⟨rfl,rfl⟩
 |wait w M B H O Y U=>rw[U,O];unfold ordQ;rw[B,H];exact⟨rfl,rfl⟩
def cBw{q:aA}(h:canQ q=true):sU q.aB q.aT (oC q).1.aM (oC q).1.aJ=true:=by unfold canQ at h;rw[bY]at h;exact h.2
def Vc{q:aA}{p:aK}(h:∀w∈ordQ q,w.aM≠p):getH (advS q).aT p=getH q.aT p/\∀w∈ordQ (advS q),w.aM≠p:=by
 have:=HQ (P:=λ x=>getH x.aT p=getH q.aT p/\∀w∈ordQ x,w.aM≠p) (λ x O K=>by
  obtain⟨U,Y⟩:=OE O;obtain⟨B,H⟩:=K;rw[U]at H;refine⟨?_,λ w L=>H w (.tail _ L)⟩;rw[Y,yN (kY (H _ (.head _)))];exact B) q ⟨rfl,h⟩
 exact this
def HS{q:aA}(B:SoundP q)(p:aK):covA q.aB (getH (advS q).aT p) (getH q.aT p)=true:=by
 have:=HQ (P:=λ x=>SoundP x/\x.aB=q.aB/\covA q.aB (getH x.aT p) (getH q.aT p)=true) (λ x O ⟨K,L,V⟩=>by
  refine⟨K.pop O,by rw[(OC x).2];exact L,?_⟩;obtain⟨e1,Z⟩:=OE O;rw[Z]
  by_cases H:p=(oC x).1.aM
  .subst H;rw[Ou];refine Lj ?_ V;cases Ox O with
   |con w cs U Y F H=>rw[Y,<-L];exact(K.cg w (by rw[U];exact .head _)).2.2.1
   |wait w ws h0 U Y F H=>rw[Y,(K.wg w (by rw[U];exact .head _)).2,<-L];have M:=(E9 F).2.2.1;exact OB (rE M) (UC M)
  .rw[yN H];exact V) q ⟨B,rfl,l8 (Az B.hv p)⟩
 exact this.2.2
def cBz{r:aI}{l:List aX}(h:pA r l=true)(p:aK):getH l p≠aC.zero↔p∈l.map (·.aM):=by
 constructor
 .intro H;exact cS.2 ⟨_,Ck H,rfl⟩
 .intro H;obtain⟨x,K,rfl⟩:=cS.1 H;rw[cAi (Lh h) K];exact sT (((wT _ _).1 h).2.2.1.each x K).2
def qL(q:aA)(p:aK):hasQ q p=true↔(∃w∈ordQ q,w.aM=p)\/getH q.aT p≠aC.zero:=by unfold hasQ;rw[dS,U9,dA,yO];rfl
def cC0{q:aA}(h:SoundP q)(p:aK):hasQ q p=true↔p∈(ordQ q).map (·.aM)\/p∈q.aT.map (·.aM):=by simp only[qL,cBz h.hv,cS]
def cC1{q:aA}(O:canQ q=true)(p:aK):hasQ (popQ q) p=hasQ q p:=by
 rw[dR,qL,qL];obtain⟨U,Y⟩:=OE O;rw[U,Y];have B:=sT (E9 (cBw O)).2.2.1
 by_cases H:p=(oC q).1.aM
 .subst H;rw[Ou];exact⟨λ _=>.inl ⟨_,.head _,rfl⟩,λ _=>.inr B⟩
 .rw[yN H];constructor
  .rintro(⟨w,hw,e⟩|h)
   .exact .inl ⟨w,.tail _ hw,e⟩
   .exact .inr h
  .rintro(⟨w,hw,e⟩|h)
   .rcases cL.1 hw with rfl|hw
    .exact absurd e.symm H
    .exact .inl ⟨w,hw,e⟩
   .exact .inr h
def Vd(q:aA)(p:aK):hasQ (advS q) p=hasQ q p:=HQ (P:=λ x=>hasQ x p=hasQ q p) (λ x H h=>by rw[cC1 H];exact h) q rfl
def OF(q:aA)(g:Int)(p:aK):hasQ {q with gen:=g} p=hasQ q p:=rfl
def OG{q:aA}{p:aK}{w:aV}:w∈ordQ (del q p)↔w∈ordQ q/\w.aM≠p:=by
 unfold ordQ del;simp only[cY,Cl];constructor
 .rintro(⟨a,b⟩|⟨a,b⟩)
  .exact⟨.inl a,b⟩
  .exact⟨.inr a,b⟩
 .rintro⟨a|a,b⟩
  .exact .inl ⟨a,b⟩
  .exact .inr ⟨a,b⟩
def cC5(q:aA)(p x:aK):hasQ (del q p) x=true↔hasQ q x=true/\x≠p:=by
 rw[qL,qL]
 by_cases K:x=p
 .subst K;constructor
  .rintro(⟨w,L,e⟩|h)
   .exact absurd e (OG.1 L).2
   .exact absurd (U0 _ _) h
  .rintro⟨_,h⟩;exact absurd rfl h
 .have H:getH (del q p).aT x=getH q.aT x:=E8 K _;rw[H];constructor
  .rintro(⟨w,L,e⟩|h)
   .exact⟨.inl ⟨w,(OG.1 L).1,e⟩,K⟩
   .exact⟨.inr h,K⟩
  .rintro⟨⟨w,L,e⟩|h,_⟩
   .exact .inl ⟨w,OG.2 ⟨L,by rw[e];exact K⟩,e⟩
   .exact .inr h
def remN(q:aA)(p:aK):aA:=if(pK q p).2.2=0 then(pK q p).1 else q
def wU(q:aA):(rS q).1={advS q with gen:=oW q.gen}:=rfl
def OH{q:aA}(h:mR q=true){p:aK}(H:hasQ q p=true):pK q p=rS (del q p):=by unfold pK;rw[bX (by rw[h];decide),bX (by rw[H];decide)]
def OI{q:aA}(h:mR q=true){p:aK}(H:hasQ q p=false):pK q p=errQ 10:=by unfold pK;rw[bX (by rw[h];decide),cB H]
def Ve{q:aA}(h:mR q=true)(p:aK):mR (remN q p)=true:=by
 unfold remN;split
 .rename_i H;obtain⟨_,_,_,e,O⟩:=OD H;rw[e];exact Fb O
 .exact h
def Vf{q:aA}(h:mR q=true){p x:aK}(L:x≠p):covA q.aB (getH (remN q p).aT x) (getH q.aT x)=true/\(remN q p).aB=q.aB:=by
 obtain⟨H,Y⟩:=(qK q).1 h;unfold remN;cases K:hasQ q p with
 |true=>rw[OH h K,cB (show(rS (del q p)).2.2=0 from rfl),wU];have O:=HS (H.del p) x;have U:getH (del q p).aT x=getH q.aT x:=E8 L _;rw[U]at O;exact⟨O,(U7 (del q p)).2⟩
 |false=>rw[OI h K,bX Om];exact⟨l8 (Az H.hv x),rfl⟩
def Vg{q:aA}(h:mR q=true)(p x:aK):hasQ (remN q p) x=true↔hasQ q x=true/\x≠p:=by
 unfold remN;cases H:hasQ q p with
 |true=>rw[OH h H,cB (show(rS (del q p)).2.2=0 from rfl),wU,OF,Vd,cC5]
 |false=>
  rw[OI h H,bX Om];constructor
  .intro K;exact⟨K,λ e=>by rw[e,H]at K;cases K⟩
  .exact And.left
def HT:∀{a b:List aK},a.Pairwise ltP->b.Pairwise ltP->(∀x,x∈a↔x∈b)->a=b
 |[],b,_,_,h=>by
  cases b with
  |nil=>rfl
  |cons y b=>exact absurd ((h y).2 (.head _)) (by simp)
 |x::a,[],_,_,h=>absurd ((h x).1 (.head _)) (by simp)
 |x::a,y::b,K,hb,h=>by
  rw[dD]at K hb;have H:x=y:=by
   rcases cL.1 ((h x).1 (.head _))with e|hx
   .exact e
   .rcases cL.1 ((h y).2 (.head _))with e|hy
    .exact e.symm
    .exact absurd (Cg (K.1 y hy) (hb.1 x hx)) (E3 x)
  subst H;congr 1;refine HT K.2 hb.2 λ z=>?_;have O:=h z;constructor
  .intro hm;rcases cL.1 (O.1 (.tail _ hm))with e|hm'
   .subst e;exact absurd (K.1 z hm) (E3 z)
   .exact hm'
  .intro hm;rcases cL.1 (O.2 (.tail _ hm))with e|hm'
   .subst e;exact absurd (hb.1 z hm) (E3 z)
   .exact hm'
def sJ(p:aK):List aK->List aK
 |[]=>[p]
 |x::t=>if p=x then x::t else if ltP p x then p::x::t else x::sJ p t
def Cn{p x:aK}:∀{l:List aK},x∈sJ p l↔x=p\/x∈l
 |[]=>by simp[sJ]
 |y::t=>by
  simp only[sJ];split
  .rename_i h;subst h;simp only[cL];constructor
   .intro h;exact .inr h
   .rintro(rfl|h)
    .exact .inl rfl
    .exact h
  .split
   .simp only[cL]
   .simp only[cL,Cn (l:=t)];constructor
    .rintro(h|h|h)
     .exact .inr (.inl h)
     .exact .inl h
     .exact .inr (.inr h)
    .rintro(h|h|h)
     .exact .inr (.inl h)
     .exact .inl h
     .exact .inr (.inr h)
def Co{p:aK}:∀{l:List aK},l.Pairwise ltP->(sJ p l).Pairwise ltP
 |[],_=>by simp[sJ]
 |y::t,h=>by
  simp only[sJ];split
  .exact h
  .rename_i H;rw[dD]at h;split
   .rename_i K;rw[dD];refine⟨λ x hx=>?_,dD.2 h⟩;rcases cL.1 hx with rfl|hx
    .exact K
    .exact Cg K (h.1 x hx)
   .rename_i K;rw[dD];refine⟨λ x hx=>?_,Co h.2⟩;rcases Cn.1 hx with rfl|hx
    .rcases Ch H with h1|h1
     .exact absurd h1 K
     .exact h1
    .exact h.1 x hx
def cCf{p:aK}:∀{l:List aK},l.Pairwise ltP->p∈l->sJ p l=l:=λ K H=>
 HT (Co K) K λ x=>by
  rw[Cn];constructor
  .rintro(rfl|h)
   .exact H
   .exact h
  .exact .inr
def wV(l:List aK):List aK:=l.foldl (λ s p=>sJ p s) []
def OJ:∀(l s:List aK),s.Pairwise ltP->(l.foldl (λ s p=>sJ p s) s).Pairwise ltP/\∀x,x∈l.foldl (λ s p=>sJ p s) s↔x∈s\/x∈l
 |[],s,h=>⟨h,λ x=>by simp⟩
 |p::l,s,h=>by
  obtain⟨H,O⟩:=OJ l (sJ p s) (Co h);refine⟨H,λ x=>?_⟩;rw[lP,O,Cn,cL];constructor
  .rintro((h|h)|h)
   .exact .inr (.inl h)
   .exact .inl h
   .exact .inr (.inr h)
  .rintro(h|h|h)
   .exact .inl (.inr h)
   .exact .inl (.inl h)
   .exact .inr h
def HU(l:List aK):(wV l).Pairwise ltP:=(OJ l [] .nil).1
def Fd{l:List aK}{x:aK}:x∈wV l↔x∈l:=by
 have:=(OJ l [] .nil).2 x;unfold wV
 simpa using this
def cCk{l s:List aK}(h:s.Pairwise ltP)(hm:∀x,x∈s↔x∈l):s=wV l:=HT h (HU l) λ x=>by rw[hm,Fd]
def HV{l:List aK}(h:l.Pairwise ltP):l.Nodup:=h.imp λ H e=>by subst e;exact E3 _ H
def HW(l:List aK):(wV l).length<=l.length:=eP (HV (HU l)) λ x H=>Fd.1 H
def dst:List aK->List aK
 |[]=>[]
 |[x]=>[x]
 |x::y::t=>if x=y then dst (y::t)else x::dst (y::t)
def Ll:∀{l:List aK} {x:aK},x∈dst l↔x∈l
 |[],x=>by simp[dst]
 |[y],x=>by simp[dst]
 |y::z::t,x=>by
  simp only[dst];split
  .rename_i h;subst h;rw[Ll (l:=y::t)];simp
  .rw[cL,Ll (l:=z::t),cL (b:=y)]
def OK:∀{l:List aK},l.Pairwise (λ x y=>¬ltP y x)->(dst l).Pairwise ltP
 |[],_=>by simp[dst]
 |[x],_=>by simp[dst]
 |x::y::t,h=>by
  simp only[dst];rw[dD]at h;split
  .exact OK h.2
  .rename_i H;rw[dD];refine⟨λ z O=>?_,OK h.2⟩;have O:=Ll.1 O
   by_cases e:x=z
   .subst e;rcases cL.1 O with e|hz'
    .exact absurd e H
    .have U:=(dD.1 h.2).1 x hz';rcases Ch H with h3|h3
     .exact absurd h3 U
     .exact absurd h3 (h.1 y (.head _))
   .rcases Ch e with h1|h1
    .exact h1
    .exact absurd h1 (h.1 z O)
def cCp{l s:List aK}(h:s.Pairwise λ x y=>¬ltP y x)(hm:∀x,x∈s↔x∈l):dst s=wV l:=cCk (OK h) λ x=>by rw[Ll,hm]
def Vh:∀(l:List aK) (x y:aK),dst (l++[x,y])=if x=y then dst (l++[x])else dst (l++[x])++[y]
 |[],x,y=>by
  by_cases h:x=y<;>simp[dst,h]
 |[a],x,y=>by
  by_cases h:x=y
  .subst h;by_cases H:a=x<;>simp[dst,H]
  .by_cases H:a=x
   .subst H;simp[dst,h]
   .simp[dst,h,H]
 |a::b::l,x,y=>by
  have O:=Vh (b::l) x y;simp only[Jm,dst]at O⊢;rw[O]
  by_cases h:x=y<;>by_cases H:a=b<;>simp[h,H]
def cCr(x y:aK):¬ltP y x\/¬ltP x y:=by
 by_cases h:ltP y x
 .exact .inr (N8 h)
 .exact .inl h
def cCs(l:List aK):(l.mergeSort λ x y=>!decide (ltP y x)).Pairwise λ x y=>¬ltP y x:=by
 have:=List.pairwise_mergeSort (le:=λ x y=>!decide (ltP y x)) (λ a b c H O=>by
  simp only[dA,dF]at H O⊢;intro U
  by_cases e:b=a
  .subst e;exact O U
  .rcases Ch e with h4|h4
   .exact H h4
   .by_cases Y:b=c
    .subst Y;exact H U
    .rcases Ch Y with h5|h5
     .exact N8 (Cg U h4) h5
     .exact O h5) (λ a b=>by
  rcases cCr a b with h|h
  .simp[h]
  .simp[h]) l
 exact this.imp λ h=>by simpa using h
def ifNT{α:Type}(x y:α):(if(!true)=true then x else y)=y:=rfl
def ifTF{α:Type}(x y:α):(if true=false then x else y)=y:=rfl
def ifFT{α:Type}(x y:α):(if false=true then x else y)=y:=rfl
def cCt(l:List aK)(H:l.length<=4294967296):DY l=some (l.mergeSort λ x y=>!decide (ltP y x)):=by unfold DY;rw[mD H];congr 2
def cCu{l:List aK}{i:Nat}(h:i+1<l.length):l.take (i+2)=l.take i++[l.getD i aK.zero,l.getD (i+1) aK.zero]:=by rw[fR om,fR om,cG];congr 1;rw[cD,cE om,cD,cE h];rfl
def OL{l:List aK}{i:Nat}(h:i<l.length):l.take (i+1)=l.take i++[l.getD i aK.zero]:=by rw[fR h];congr 1;rw[cD,cE h];rfl
def OM{l:List aK}{i:Nat}(h:i+1<l.length):dst (l.take (i+2))=if l.getD i aK.zero=l.getD (i+1) aK.zero then dst (l.take (i+1))else dst (l.take (i+1))++[l.getD (i+1) aK.zero]:=by rw[cCu h,Vh,<-OL om]
def Vi{l m:List aK}{i j:Nat}(h:l.drop i=m.drop i)(H:i<=j):l.getD j aK.zero=m.getD j aK.zero:=by
 have e:∀x:List aK,x.getD j aK.zero=(x.drop i).getD (j-i) aK.zero:=λ x=>by rw[cD,cD,eG,show i+(j-i)=j by omega]
 rw[e l,e m,h]
def cCy(a:List aK)(g:Nat)(hg:1<=g)(hgl:g<a.length)(hl:a.length<=1000000)(F:a.getD g aK.zero=a.getD (g-1) aK.zero)(M:dst (a.take g)=a.take g):
  ∃x,lY (Jh a g) ((g:Int),1,a)=some x/\∃k:Nat,x.1=(k:Int)/\x.2.length=a.length/\k<=a.length/\x.2.take k=dst a:=by
 refine nV (λ s=>∃k B:Nat,s.1=(k:Int)/\s.2.1=(B:Int)/\s.2.2.length=a.length/\1<=B/\g+B<=a.length/\k+1<=g+B/\s.2.2.take k=dst (a.take (g+B))/\s.2.2.drop (g+B-1)=a.drop (g+B-1)) (λ s=>(a.length-s.2.1.toNat)) _ ?_ _ ?_
 .rintro⟨k,B,s⟩ ⟨U,H,Z,h2,L,h4,h5,h6,V,K⟩;simp only at Z h2 L V K;subst Z;subst h2;unfold Jh
  by_cases hlt:g+H<a.length
  .left;have w:IntKind.i64.wrap ((H:Int)-1)=((H-1:Nat):Int):=by rw[mB om om];omega
   have w2:IntKind.i64.wrap ((H:Int)+1)=((H+1:Nat):Int):=by rw[mB om om];omega
   have w3:IntKind.i64.wrap ((U:Int)+1)=((U+1:Nat):Int):=by rw[mB om om];omega
   have r1:s.getD (g+H) aK.zero=a.getD (g+H) aK.zero:=Vi K om;have r2:s.getD (g+(H-1)) aK.zero=a.getD (g+(H-1)) aK.zero:=Vi K om;have O:=OM (l:=a) (i:=g+(H-1)) om;rw[show g+(H-1)+2=g+(H+1)by omega,show g+(H-1)+1=g+H by omega]at O;simp only[Qm,w,w2,w3];rw[cB (by simp;omega),mD om,mD om,r1,r2]
   by_cases Y:a.getD (g+H) aK.zero=a.getD (g+(H-1)) aK.zero
   .refine⟨((U:Int),((H+1:Nat):Int),s),by rw[bX (by simp only[Y,cF,cR,bZ,iH])],⟨U,H+1,rfl,rfl,L,by omega,by omega,by omega,?_,?_⟩,by simp only[Qm];omega⟩
    .simp only;rw[V,O,cB Y.symm]
    .simp only;rw[show g+(H+1)-1=(g+H-1)+1 by omega,<-fB,<-fB,K]
   .rw[cB (by simpa using Y),mD om,mD om];refine⟨(((U+1:Nat):Int),((H+1:Nat):Int),s.set U (a.getD (g+H) aK.zero)),rfl,⟨U+1,H+1,rfl,rfl,by simp[L],by omega,by omega,by omega,?_,?_⟩,by simp only[Qm];omega⟩
    .simp only;rw[O,bX (λ e=>Y e.symm),<-V,OL (by rw[dW];omega),List.take_set_of_le om,sA _ _ _ _ om]
    .simp only;rw[List.drop_set_of_lt om,show g+(H+1)-1=(g+H-1)+1 by omega,<-fB,<-fB,K]
  .right;refine⟨((U:Int),s),by simp only[Qm];rw[bX (by simp;omega)],U,rfl,L,by omega,?_⟩;simp only;rw[V,eJ om]
 .refine⟨g,1,rfl,rfl,rfl,by omega,by omega,by omega,?_,rfl⟩;simp only;have O:=OM (l:=a) (i:=g-1) om;rw[show g-1+2=g+1 by omega,show g-1+1=g by omega,cB F.symm,M]at O;exact O.symm
def cCz(a:List aK)(Z:a.length<=1000000):∃r,t6 a=some (dst a,r):=by
 unfold t6
 by_cases M:a.length<2
 .rw[cB (by simp;omega)];refine⟨a,?_⟩;have:dst a=a:=by
   match a,M with
   |[],_=>rfl
   |[x],_=>rfl
   |x::y::t,h=>simp at h;omega
  rw[this]
 .rw[bX (by simp;omega)];obtain⟨x,V,Y⟩:=nV (body:=F1 a) (λ g=>∃n:Nat,g=(n:Int)/\1<=n/\n<=a.length/\dst (a.take n)=a.take n) (λ g=>a.length-g.toNat)
   (λ x=>match x with|.inl _=>dst a=a|.inr z=>z.1=dst a) (by
    rintro g ⟨n,rfl,h1,h3,L⟩;unfold F1
    by_cases K:n<a.length
    .have w:IntKind.i64.wrap ((n:Int)-1)=((n-1:Nat):Int):=by rw[mB om om];omega
     have w2:IntKind.i64.wrap ((n:Int)+1)=((n+1:Nat):Int):=by rw[mB om om];omega
     rw[cB (by simp;omega),mD om,w,w2,mD om];simp only[Qm]
     by_cases B:a.getD n aK.zero=a.getD (n-1) aK.zero
     .right;obtain⟨x,V,k,H,F,h0,O⟩:=cCy a n h1 K Z B L;rw[cB (cQ B),mD om,V];obtain⟨x1,x2⟩:=x;simp only at H F O;subst H;rw[eF];unfold Nc;simp only[Qm];rw[mD om,mD om];refine⟨_,rfl,?_⟩;simp only;rw[fT,cG,eY (by simp;omega),lB,Nat.min_self,O]
     .left;refine⟨((n+1:Nat):Int),by rw[bX (by simpa using B)],⟨n+1,rfl,by omega,by omega,?_⟩,by simp only[Qm];omega⟩;have U:=OM (l:=a) (i:=n-1) om;rw[show n-1+2=n+1 by omega,show n-1+1=n by omega,bX (λ e=>B e.symm),L,<-OL K]at U;exact U
    .right;refine⟨.inl (),by rw[bX (by simp;omega)],?_⟩;simp only;rw[eJ om]at L;exact L) 1 ⟨1,rfl,by omega,by omega,by
      match a,M with
      |x::t,_=>simp[dst]⟩
  rw[V];cases x with
  |inl u=>simp only at Y;refine⟨a,?_⟩;rw[Y];rfl
  |inr z=>simp only at Y;refine⟨z.2,?_⟩;rw[<-Y];rfl
def ON(l:List aK)(H:l.length<=1000000):f5 l=some (wV l):=by unfold f5;rw[mD om,cCt l om,eF];obtain⟨r,h⟩:=cCz (l.mergeSort λ x y=>!decide (ltP y x)) (by rw[List.length_mergeSort];exact H);rw[h];simp only[qm];rw[cCp (cCs l) λ x=>List.mem_mergeSort]
def Vj(l:List aK)(p:aK)(K:l.length<=1000000):zW l p=some (decide (p∈l)):=by
 unfold zW;have O:=wP (body:=Gf l p) l aK.zero (λ i (_:Unit)=>(i:Int)) (λ _ x _=>some (if x=p then .inr (Sum.inr true)else .inl ())) (λ _=>Sum.inl (β:=Bool) ())
  (λ i s L=>by
   unfold Gf;have U:0<=(i:Int)/\(i:Int)<(l.length:Int):=om
   simp only[U.1,U.2,cX,mL,cF,cH,Qm,mF i om,xm,cC];split<;>rfl)
  (λ s=>by unfold Gf;simp) ()
 rw[show(0:Int)=(λ(i:Nat) (_:Unit)=>(i:Int)) 0 ()from rfl,O];have H:∀(l:List aK) (i:Nat),walk (λ _ x (_:Unit)=>some (if x=p then .inr (Sum.inr true)else .inl ())) (λ _=>Sum.inl (β:=Bool) ()) l i ()=some (if p∈l then .inr true else .inl ()):=by
  intro l;induction l with
  |nil=>intro i;simp[walk]
  |cons x t Y=>
   intro i;simp only[walk]
   by_cases e:x=p
   .subst e;simp
   .simp only[e,cI,cL,λ h:p=x=>e h.symm,jL];rw[Y];have:¬p=x:=λ h=>e h.symm;simp[this]
 rw[H]
 by_cases B:p∈l<;>simp[B,Nl]
def cD2(q:aA)(O:q.aN.length<=1000)(B:q.aW.length<=1000):BH q=some ((ordQ q).map (·.aM)):=by
 unfold BH;rw[bZ0 q om om,eF];have K:(q.aN++q.aW).length<=2000:=by rw[cA];omega
 show _=some ((q.aN++q.aW).map (·.aM));generalize q.aN++q.aW=l at K;have H:=rD (body:=GO l) l aV.zero (λ i (s:List aK)=>((i:Int),s)) (λ i h s=>some (.inl (sH s (some h.aM)))) (λ s=>s) (λ i s=>s.length<=i)
  (λ i s L Y=>by
   refine⟨?_,λ F h=>?_⟩
   .unfold GO;have O:s.length+1<=4294967296:=om
    have U:0<=(i:Int)/\(i:Int)<(l.length:Int):=om
    simp only[O,U.1,U.2,cX,mL,cF,cH,Qm,mF i om,xm,wmap,sH]
   .simp only[cJ,fN]at h;subst h;simp[sH];omega)
  (λ s Y=>by unfold GO;simp) [] (by simp)
 rw[show((0,[]):Int×List aK)=(λ(i:Nat) (s:List aK)=>((i:Int),s)) 0 []from rfl,H,E2 (λ h:aV=>some h.aM)];simp[NE]
def cD3(l:List aX)(H:l.length<=1000000):A2 l=some (l.map (·.aM)):=by have e:A2 l=Gd l:=rfl;rw[e];exact cA3 l H
def rT(q:aA):List aK:=wV (q.aT.map (·.aM)++(ordQ q).map (·.aM))
def cD5(q:aA)(U:q.aT.length<=1000)(H:q.aN.length<=1000)(O:q.aW.length<=1000):Ek q=some (rT q):=by
 unfold Ek rT;have K:(ordQ q).length<=2000:=by unfold ordQ;rw[cA];omega
 rw[cD3 _ om,eF,cD2 q H O,eF,mD (by simp;omega),ON _ (by simp;omega)];rfl
def Vk{q:aA}(h:SoundP q){p:aK}:p∈rT q↔hasQ q p=true:=by unfold rT;rw[Fd,cY,cC0 h,or_comm]
def SoundP.lens{q:aA}(h:SoundP q):q.aT.length<=8/\q.aN.length<=8/\q.aW.length<=8/\pJ q<=16:=by have:=h.cl;have:=h.wl;have:=Aw h.hv;unfold pJ;omega
def cD7{q:aA}(h:SoundP q):mR q=!canQ q:=by unfold mR;rw[(Ow q).2 h,cN];rfl
def cD8(g:aA×List aX)(O:SoundP g.1)(hg:g.2.length<=1000000):Ex g=some (if canQ g.1=true then .inl (l7 g)else .inr g):=by
 unfold Ex;rw[UQ,eF,cD7 O];cases K:canQ g.1 with
 |false=>simp
 |true=>
  obtain⟨U,_,L⟩:=E7 K;rw[cB (by simp),UP,eF,cB rfl];unfold l7 popQ
  by_cases H:0<g.1.aN.length
  .rw[cB (by simpa using H),mD om,cB H];unfold Hk;rw[HK _ _ _ (by simp only;omega),eF,mD om]
  .rw[bX (by simpa using H),bX H];have V:0<g.1.aW.length:=by unfold pJ at U;omega
   rw[mD om];unfold Hk;rw[HK _ _ _ (by simp only;omega),eF,mD om]
def cD9{q:aA}(h:SoundP q):B4 q=some (advS q,advG q):=by
 unfold B4;have L:=h.lens;rw[Oi,eF,(Ow q).2 h,bX Om,Lf q om om om,eF];have H:=Ut (body:=Ex) (λ g=>SoundP g.1/\pJ g.1+g.2.length<=1000) (λ g=>pJ g.1) (λ g=>advN (pJ g.1) g) (λ g hg=>by
  rw[cD8 g hg.1 om];cases K:canQ g.1 with
  |false=>right;rw[bX Om,Oj,bX (by rw[K];decide)]
  |true=>
   left;obtain⟨O,U,_⟩:=E7 K;refine⟨l7 g,by rw[cB rfl],⟨hg.1.pop K,?_⟩,?_,?_⟩
   .unfold l7;simp only[cA,ym,Ym];omega
   .show pJ (popQ g.1)<pJ g.1;omega
   .rw[Oj g,cB K]) (q,[]) ⟨h,by simp only[Ym];omega⟩
 rw[H];rfl
def HX{q:aA}(h:SoundP q):yG q=some (rS q):=by unfold yG;rw[cD9 h,eF,bZ8];rfl
def cDb(p:aK)(pr:Int):(((!(mP p))||(decide (pr<0)))||(decide (7<pr)))=!yQ p pr:=by
 unfold yQ;generalize mP p=b;rw[dR];cases b
 .simp
 .simp
def cDc(q:aA)(p:aK)(a:aC)(pr:Int):j6 q p a pr=some (qF q p a pr):=by
 unfold j6 qF;rw[HO,eF];cases Z:mR q with
 |false=>rfl
 |true=>
  obtain⟨U,F⟩:=(qK q).1 Z;have hl:=U.lens;rw[ifNT,ifTF,wQ,cDb];cases V:yQ p pr with
  |false=>rfl
  |true=>
   rw[ifNT,ifTF,At];cases K:mM q.aB a with
   |false=>rfl
   |true=>
    rw[ifNT,ifTF,Ay q p om om,eF];cases L:(nH q p).2 with
    |true=>rfl
    |false=>
     rw[ifFT,ifFT,bZa q om om om,eF,wS q p om,eF];have Y:rZ q.aB (getH q.aT p) a=covA q.aB (getH q.aT p) a:=rfl;rw[Y];cases h5:covA q.aB (getH q.aT p) a with
     |true=>rfl
     |false=>
      rw[ifFT,ifFT,yL]
      by_cases O:getH q.aT p=aC.zero
      .rw[bX (by rw[(vO _).2 O];decide),bX (show¬getH q.aT p≠aC.zero fromλ k=>k O),mB om om]
       by_cases M:8<=q.aT.length+q.aW.length
       .rw[cB (by simp;omega),cB M];rfl
       .rw[bX (by simp;omega),bX M,bXv,eF];have hi:=cBq U K V L (p:=p) (a:=a) (pr:=pr) om;have e:({aV.zero with aM:=p,aJ:=a,bC:=pr}:aV)=⟨p,a,pr,0⟩:=rfl;rw[e,hi,bX (by simp)];have H:=U.claimW K V L O om (p:=p) (a:=a) (pr:=pr);have B:(⟨(⟨q.aB.name,q.aB.kind,q.aB.aU,q.aB.home⟩:aI),q.aT,q.aN,(claimW q p a pr).aW,q.gen⟩:aA)=claimW q p a pr:=rfl;simp only[B];rw[HX H];rfl
      .rw[cB (by rw[(yO _).2 O];rfl),cB O];have H:=U.claimC K L h5 O;rw[UR,eF,mD om];have B:(⟨(⟨q.aB.name,q.aB.kind,q.aB.aU,q.aB.home⟩:aI),q.aT,q.aN++[{aV.zero with aM:=p,aJ:=rG q.aB (getH q.aT p) a}],q.aW,q.gen⟩:aA)=claimC q p a:=rfl;rw[B,HX H];rfl
def cDd(q:aA)(p:aK):Ey q p=some (pS q p):=by
 unfold Ey pS;rw[HO,eF];cases K:mR q with
 |false=>rfl
 |true=>
  obtain⟨H,O⟩:=(qK q).1 K;have L:=H.lens;rw[ifNT,ifTF,Ay q p om om,eF];cases V:(nH q p).2 with
  |false=>rfl
  |true=>rw[ifNT,ifTF,Lf q om om om,eF,Ld _ _ om,eF,Ld _ _ (by simp only;omega),eF];have U:({{q with aN:=rmL q.aN p}with aW:=rmL q.aW p}:aA)=yP q p:=rfl;simp only[U];rw[HX (H.cancel p)];rfl
def cDe(q:aA)(p:aK)(a:aC):EA q p a=some (oJ q p a):=by
 unfold EA oJ;rw[HO,eF];cases K:mR q with
 |false=>rfl
 |true=>
  obtain⟨Y,B⟩:=(qK q).1 K;have Z:=Y.lens;rw[ifNT,ifTF,wS q p om,eF,yL]
  by_cases H:getH q.aT p=aC.zero
  .rw[cB ((vO _).2 H),cB H];rfl
  .rw[bX (by rw[(yO _).2 H];decide),bX H,Ay q p om om,eF];cases L:(nH q p).2 with
   |true=>rfl
   |false=>
    have U:rZ q.aB (getH q.aT p) a=covA q.aB (getH q.aT p) a:=rfl;rw[ifFT,ifFT,U];cases V:covA q.aB (getH q.aT p) a with
    |false=>rfl
    |true=>
     rw[ifNT,ifTF,Lf q om om om,eF]
     by_cases O:getH q.aT p=a
     .rw[cB (by simp[O]),cB O]
     .rw[bX (by simpa using O),bX O,HK _ _ _ om,eF];have F:({q with aT:=setL q.aT p a}:aA)=vQ q p a:=rfl;simp only[F];rw[HX (Y.lower L H V)];rfl
def OO(q:aA)(p:aK)(U:q.aT.length<=1000000)(H:q.aN.length<=1000000)(O:q.aW.length<=1000000):y7 q p=some (hasQ q p):=by unfold y7 hasQ;rw[Ay q p H O,eF,wS q p om];cases h:(nH q p).2<;>simp[yL]
def Vl(q:aA)(p:aK):B5 q p=some (pK q p):=by
 unfold B5 pK;rw[HO,eF];cases K:mR q with
 |false=>rfl
 |true=>
  obtain⟨H,O⟩:=(qK q).1 K;have L:=H.lens;rw[ifNT,ifTF,OO q p om om om,eF];cases V:hasQ q p with
  |false=>rfl
  |true=>rw[ifNT,ifTF,Lf q om om om,eF,HK _ _ _ om,eF,Ld _ _ (by simp only;omega),eF,Ld _ _ (by simp only;omega),eF];have U:setL q.aT p ({aC.zero with})=nJ p q.aT:=cB rfl;have Y:({{{q with aT:=nJ p q.aT}with aN:=rmL q.aN p}with aW:=rmL q.aW p}:aA)=del q p:=rfl;simp only[U,Y];rw[HX (H.del p)];rfl
def AA(x:aA×List aX×Int):Prop:=x.1.aT.length<=8/\x.1.aN.length<=8/\x.1.aW.length<=8/\x.2.1.length<=16
def Lm(e:Int):AA (errQ e):=by unfold AA errQ aA.zero;simp
def HY{q:aA}(h:SoundP q):AA (rS q):=by have H:=(h.adv).lens;have O:=cAz q;have U:=h.lens;exact⟨H.1,H.2.1,H.2.2.1,by show(advG q).length<=16;omega⟩
def Vm{q:aA}(h:SoundP q):AA (q,[],0):=by have H:=h.lens;exact⟨H.1,H.2.1,H.2.2.1,by simp⟩
def cDl{q:aA}{p:aK}{a:aC}{pr:Int}(h:(qF q p a pr).2.2≠0):∃e,qF q p a pr=errQ e:=by
 unfold qF at h⊢;split;· exact⟨_,rfl⟩
 split;· exact⟨_,rfl⟩
 split;· exact⟨_,rfl⟩
 split;· exact⟨_,rfl⟩
 rename_i U Y B F;rw[bX U,bX Y,bX B,bX F]at h;split
 .rename_i H;rw[cB H]at h;exact absurd rfl h
 rename_i H;rw[bX H]at h;split
 .rename_i O;rw[cB O]at h;exact absurd rfl h
 rename_i O;rw[bX O]at h;split
 .exact⟨_,rfl⟩
 .rename_i M;rw[bX M]at h;exact absurd rfl h
def cDm{q:aA}{p:aK}(h:(pS q p).2.2≠0):∃e,pS q p=errQ e:=by
 unfold pS at h⊢;split;· exact⟨_,rfl⟩
 split;· exact⟨_,rfl⟩
 rename_i H O;rw[bX H,bX O]at h;exact absurd rfl h
def cDn{q:aA}{p:aK}(h:(pK q p).2.2≠0):∃e,pK q p=errQ e:=by
 unfold pK at h⊢;split;· exact⟨_,rfl⟩
 split;· exact⟨_,rfl⟩
 rename_i H O;rw[bX H,bX O]at h;exact absurd rfl h
def cDo{q:aA}{p:aK}{a:aC}(h:(oJ q p a).2.2≠0):∃e,oJ q p a=errQ e:=by
 unfold oJ at h⊢;split;· exact⟨_,rfl⟩
 split;· exact⟨_,rfl⟩
 split;· exact⟨_,rfl⟩
 split;· exact⟨_,rfl⟩
 rename_i O U Y B;rw[bX O,bX U,bX Y,bX B]at h;split
 .rename_i H;rw[cB H]at h;exact absurd rfl h
 .rename_i H;rw[bX H]at h;exact absurd rfl h
def Vn(q:aA)(p:aK)(a:aC)(pr:Int):AA (qF q p a pr):=by
 by_cases h:(qF q p a pr).2.2=0
 .obtain⟨O,_,_,_,_,U⟩:=Lk h;rcases U with⟨_,e⟩|⟨_,_,e,H⟩|⟨_,_,_,e,H⟩
  .rw[e];exact Vm O
  .rw[e];exact HY H
  .rw[e];exact HY H
 .obtain⟨e,Y⟩:=cDl h;rw[Y];exact Lm e
def Vo(q:aA)(p:aK):AA (pS q p):=by
 by_cases h:(pS q p).2.2=0
 .obtain⟨_,_,_,e,H⟩:=HR h;rw[e];exact HY H
 .obtain⟨e,O⟩:=cDm h;rw[O];exact Lm e
def Vp(q:aA)(p:aK):AA (pK q p):=by
 by_cases h:(pK q p).2.2=0
 .obtain⟨_,_,_,e,H⟩:=OD h;rw[e];exact HY H
 .obtain⟨e,O⟩:=cDn h;rw[O];exact Lm e
def OP(q:aA)(p:aK)(a:aC):AA (oJ q p a):=by
 by_cases h:(oJ q p a).2.2=0
 .obtain⟨H,_,_,_,_,O⟩:=Fc h;rcases O with⟨_,e⟩|⟨_,e,U⟩
  .rw[e];exact Vm H
  .rw[e];exact HY U
 .obtain⟨e,Y⟩:=cDo h;rw[Y];exact Lm e
def Ln(n m:Int)(B:1<=m)(F:m<=1000000):wF n m=some (n% m):=by
  unfold wF;rw[bX (by simp;omega),gdp om];have K:n.tmod m<m:=Int.tmod_lt_of_pos n om;have U:-m<n.tmod m:=by have:=Int.lt_tmod_of_pos n (show 0<m by omega);omega
  have e:n% m=if n.tmod m<0 then n.tmod m+m else n.tmod m:=by
    rw[Int.emod_eq_tmod]
    by_cases H:0<=n\/m∣n
    · rw[cB H]
      have:0<=n.tmod m:=by
        rcases H with h|h
        .exact Int.tmod_nonneg m h
        .rw[Int.tmod_eq_zero_of_dvd h];omega
      rw[bX om];omega
    · rw[bX H]
      simp only[lE]at H;have Y:0<=(-n).tmod m:=Int.tmod_nonneg m om;rw[Int.neg_tmod]at Y;have M:n.tmod m≠0:=λ h=>H.2 (Int.dvd_of_tmod_eq_zero h);rw[cB om];omega
  rw[e]
  by_cases O:n.tmod m<0
  .rw[cB (by simpa using O),cB O,mB om om]
  .rw[bX (by simpa using O),bX O]
def Vq(n:Int):aK:=⟨(n% 8)% 4,1,1+(n% 8)/4⟩
def OQ(n:Int):y3 n=some (Vq n):=by unfold y3 Vq;rw[Ln n 8 Om Om,eF];have H:0<=n% 8:=jH _ Om;have O:n% 8<8:=jI _ Om;rw[Int.tmod_eq_emod_of_nonneg H,Int.tdiv_eq_ediv_of_nonneg H,mB (x:=n% 8/4) om om,mB om om]
def Vr(n:Int):Int:=DE.getD (n% 8).toNat 0
def amtM(r:aI)(n:Int):aC:=if r.kind=1 then⟨Vr n,0⟩else⟨0,1+n% r.aU⟩
def cDx(n:Int):Bk n=some (Vr n):=by unfold Bk;have K:(DE.length:Int)=8:=rfl;have H:0<=n% 8:=jH _ Om;have O:n% 8<8:=jI _ Om;rw[K,Ln n 8 Om Om,eF,gdp ⟨H,O⟩];rfl
def OR(r:aI)(n:Int)(O:oB r=true):b9 r n=some (amtM r n):=by
  rw[tQ]at O;unfold b9 amtM
  by_cases H:r.kind=1
  .simp only[H,cF,cH,cDx,qm];rfl
  · simp only[H,cP,bZ,cI]
    rw[Ln n r.aU om om,eF];have U:0<=n% r.aU:=jH _ om;have Y:n% r.aU<r.aU:=jI _ om;rw[mB om om];rfl
structure TapeOk (t:bK):Prop where
  len:t.l.length<=1000000
  at_:0<=t.at_/\t.at_<=t.l.length
def qM(m:Int)(t:bK):Int:=if(t.l.length:Int)<=t.at_ then 0 else(t.l.getD t.at_.toNat 0)% m
def oK(t:bK):bK:=if(t.l.length:Int)<=t.at_ then t else{t with at_:=t.at_+1}
def Cp(m:Int)(t:bK)(K:TapeOk t)(H:1<=m)(O:m<=1000000):nQ m t=some (qM m t,oK t):=by
  unfold nQ qM oK;have L:=K.len;have V:=K.at_
  by_cases h:(t.l.length:Int)<=t.at_
  .simp only[h,cF,cH]
  · simp only[h,cP,bZ,cI]
    have U:IntKind.i64.wrap (t.at_+1)=t.at_+1:=mB om om;have Y:IntKind.i64.wrap (t.at_+1-1)=t.at_:=by rw[mB om om];omega
    simp only[U,Y];rw[gdp om,Ln _ m H O];rfl
def l9{t:bK}(h:TapeOk t):TapeOk (oK t):=by
  unfold oK;split
  .exact h
  .have:=h.at_;exact⟨h.len,by simp only;omega⟩
def Vs(t:bK):(oK t).l=t.l:=by unfold oK;split<;>rfl
def HZ(m:Int)(t:bK)(H:1<=m):0<=qM m t/\qM m t<m:=by
  unfold qM;split
  .omega
  .exact⟨jH _ om,jI _ om⟩
def uQ:Nat->bK->bK
  |0,t=>t
  |n+1,t=>uQ n (oK t)
def catL(t:bK):List aI:=
  [⟨⟨#[97]⟩,1,1,qM 4 t⟩,⟨⟨#[98]⟩,1,1,qM 4 (oK t)⟩,⟨⟨#[99]⟩,1,1,qM 4 (uQ 2 t)⟩,⟨⟨#[100]⟩,1,1,qM 4 (uQ 3 t)⟩,
   ⟨⟨#[112]⟩,2,1+qM 8 (uQ 4 t),qM 4 (uQ 5 t)⟩,⟨⟨#[113]⟩,2,1+qM 3 (uQ 6 t),qM 4 (uQ 7 t)⟩]
def cE5(t:bK)(K:TapeOk t):y8 t=some (catL t,uQ 8 t):=by
  unfold y8;have O:(uM.length:Int)=4:=rfl;have H:∀(i:Nat) (u:bK) (l:List aI),i<4->TapeOk u->l.length<=10->DP ((i:Int),u,l)=some (.inl ((i:Int)+1,oK u,l++[⟨uM.getD i (⟨#[]⟩),1,1,qM 4 u⟩])):=by
    intro i u l hi L hl;unfold DP;have V:(i:Int)<4:=om
    have Z:0<=(i:Int):=om
    simp only[O,V,Z,cX,mL,cF,cH];rw[Cp 4 u L Om Om,eF,gdp om,mB om om];simp only[Qm]
  have s0:=H 0 t [] Om K (by simp);have U:=l9 K;have s1:=H 1 (oK t) [⟨uM.getD 0 (⟨#[]⟩),1,1,qM 4 t⟩] Om U (by simp);have Y:=l9 U;have s2:=H 2 (oK (oK t)) ([⟨uM.getD 0 (⟨#[]⟩),1,1,qM 4 t⟩]++[⟨uM.getD 1 (⟨#[]⟩),1,1,qM 4 (oK t)⟩]) Om Y (by simp);have B:=l9 Y;have s3:=H 3 (oK (oK (oK t))) ([⟨uM.getD 0 (⟨#[]⟩),1,1,qM 4 t⟩]++[⟨uM.getD 1 (⟨#[]⟩),1,1,qM 4 (oK t)⟩]++[⟨uM.getD 2 (⟨#[]⟩),1,1,qM 4 (oK (oK t))⟩]) Om B (by simp);have F:=l9 B;have s4:∀u l,DP ((4:Int),u,l)=some (.inr (u,l)):=λ u l=>by unfold DP;simp[O]
  rw[mJ,show((0:Int),t,([]:List aI))=(((0:Nat):Int),t,[])from rfl,s0];simp only[jm];rw[mJ,show((0:Nat):Int)+1=((1:Nat):Int)from rfl,s1];simp only;rw[mJ,show((1:Nat):Int)+1=((2:Nat):Int)from rfl,s2];simp only;rw[mJ,show((2:Nat):Int)+1=((3:Nat):Int)from rfl,s3];simp only;rw[mJ,show((3:Nat):Int)+1=(4:Int)from rfl,s4];simp only[qm];unfold Nw;have M:=l9 F;have o6:=l9 M;have o7:=l9 o6;have w8:=HZ 8 (oK (oK (oK (oK t)))) Om;have w3:=HZ 3 (oK (oK (oK (oK (oK (oK t)))))) Om;simp only;rw[Cp 8 _ F Om Om,eF];simp only;rw[Cp 4 _ M Om Om,eF,gdp (by simp)];simp only;rw[Cp 3 _ o6 Om Om,eF];simp only;rw[Cp 4 _ o7 Om Om,eF,gdp (by simp)];simp only;rw[mB (x:=1+qM 8 _) om om,mB (x:=1+qM 3 _) om om];rfl
def cE6(t:bK):∀r∈catL t,oB r=true:=by
  intro r H;have O:=HZ 8 (uQ 4 t) Om;have U:=HZ 3 (uQ 6 t) Om;unfold catL at H;simp only[cL,eX,iI]at H;rw[tQ];rcases H with rfl|rfl|rfl|rfl|rfl|rfl
  .exact .inl ⟨rfl,rfl⟩
  .exact .inl ⟨rfl,rfl⟩
  .exact .inl ⟨rfl,rfl⟩
  .exact .inl ⟨rfl,rfl⟩
  .exact .inr ⟨rfl,by simp only;omega,by simp only;omega⟩
  .exact .inr ⟨rfl,by simp only;omega,by simp only;omega⟩
def Vt(r:aI):aA:={aA.zero with aB:=r}
def cE8{r:aI}(h:resV r=true):oB r=true:=by unfold resV at h;simp only[bY]at h;exact h.2.1
def cE9{q:aA}(h:mR q=true):oB q.aB=true:=cE8 ((qK q).1 h).1.res
def Vu{α:Type}{l:List α}{i:Nat}{z:α}(h:i<l.length):l.take (i+1)=l.take i++[l.getD i z]:=by rw[fR h,cD,cE h];rfl
def AB{q:aA}(h:mR q=true):q.aT.length<=8/\q.aN.length<=8/\q.aW.length<=8/\pJ q<=16:=((qK q).1 h).1.lens
def Lo{q:aA}(h:mR q=true){p:aK}(O:hasQ q p=true):(pK q p).2.2=0/\(pK q p).1=remN q p:=by
 have e:=OH h O;have H:(pK q p).2.2=0:=by rw[e];rfl
 refine⟨H,?_⟩;unfold remN;rw[cB H]
def Lp:∀x:List UInt8,Op.bytesLess x x=false
 |[]=>rfl
 |a::x=>by simp[Op.bytesLess,Lp x]
def OS:∀{x y z:List UInt8},Op.bytesLess x y=true->Op.bytesLess y z=true->Op.bytesLess x z=true
 |x,[],z,O,_=>by cases x<;>simp[Op.bytesLess]at O
 |x,b::y,[],_,H=>by simp[Op.bytesLess]at H
 |[],b::y,c::z,_,_=>by simp[Op.bytesLess]
 |a::x,b::y,c::z,O,H=>by
  simp only[Op.bytesLess,dS,bY,cC,dN]at O H⊢;rcases O with O|⟨rfl,O⟩
  .rcases H with H|⟨rfl,H⟩
   .exact .inl (UInt8.lt_trans O H)
   .exact .inl O
  .rcases H with H|⟨rfl,H⟩
   .exact .inl H
   .exact .inr ⟨rfl,OS O H⟩
def ltN(a b:ByteArray):Prop:=Op.bytesLess a.toList b.toList=true
instance(a b:ByteArray):Decidable (ltN a b):=by unfold ltN;infer_instance
def Vv{a b:ByteArray}(h:ltN a b):a≠b:=λ e=>by unfold ltN at h;rw[e,Lp]at h;cases h
def Vw{a b c:ByteArray}(h:ltN a b)(k:ltN b c):ltN a c:=OS h k
def AscN(t:List aA):Prop:=t.Pairwise λ a b=>ltN a.aB.name b.aB.name
def ascW:List aA->Option ByteArray->Bool
 |[],_=>true
 |q::t,pv=>mR q&&((match pv with|none=>true|some n=>decide (ltN n q.aB.name))&&ascW t (some q.aB.name))
def Vx:∀(t:List aA) (H:Option ByteArray),ascW t H=true↔(∀q∈t,mR q=true)/\AscN t/\∀n,H=some n->∀q∈t,ltN n q.aB.name
 |[],H=>by simp only[ascW,eX,jX,fD,jF,gG,true_iff];exact .nil
 |q::t,H=>by
  simp only[ascW,bY];rw[Vx t (some q.aB.name)];constructor
  .rintro⟨Y,O,B,K,M⟩;refine⟨λ x hx=>?_,dD.2 ⟨λ x hx=>M _ rfl x hx,K⟩,λ n F x hx=>?_⟩
   .rcases cL.1 hx with rfl|hx
    .exact Y
    .exact B x hx
   .subst F;simp only[cC]at O;rcases cL.1 hx with rfl|hx
    .exact O
    .exact Vw O (M _ rfl x hx)
  .rintro⟨Y,O,B⟩;have U:=dD.1 O;refine⟨Y q (.head _),?_,λ x hx=>Y x (.tail _ hx),U.2,λ n F x hx=>by cases F;exact U.1 x hx⟩;cases H with
   |none=>rfl
   |some n=>exact cQ (B n rfl q (.head _))
def qB(t:List aA):Bool:=decide (t.length<=8)&&ascW t none
def oH(t:List aA):List aK:=wV (t.flatMap rT)
def vR(t:List aA):Bool:=qB t&&decide ((oH t).length<=8)
structure ValidT (t:List aA):Prop where
 len:t.length<=8
 each:∀q∈t,mR q=true
 asc:AscN t
 aD:(oH t).length<=8
def uR(t:List aA):qB t=true↔t.length<=8/\(∀q∈t,mR q=true)/\AscN t:=by unfold qB;rw[bY,cC,Vx];simp
def m3(t:List aA):vR t=true↔ValidT t:=by unfold vR;rw[bY,cC,uR];exact⟨λ⟨⟨H,O,U⟩,Y⟩=>⟨H,O,U,Y⟩,λ⟨H,O,U,Y⟩=>⟨⟨H,O,U⟩,Y⟩⟩
def Vy{α:Type}(H t:List α)(z:α)(h:H≠[]):(H++t).getD (H.length-1) z=H.getLast h:=by have O:0<H.length:=gW.2 h;rw[cD,dX om,cE om,List.getLast_eq_getElem];rfl
def cEm(O:List aA):∀(t H:List aA),O=H++t->
  walk (λ i q (_:Unit)=>some (if mR q=true/\(i=0\/ltN (O.getD (i-1) aA.zero).aB.name q.aB.name)then Sum.inl ()else Sum.inr (Sum.inr (α:=Unit) false))) (λ _=>Sum.inl (β:=Bool) ()) t H.length ()=
   some (if ascW t (H.getLast?.map (·.aB.name))=true then .inl ()else .inr false):=by
 intro t;induction t with
 |nil=>intro H _;simp[walk,ascW]
 |cons q t F=>
  intro H K;simp only[walk];have B:(H.length=0\/ltN (O.getD (H.length-1) aA.zero).aB.name q.aB.name)↔(match H.getLast?.map (·.aB.name)with|none=>true|some n=>decide (ltN n q.aB.name))=true:=by
   by_cases U:H=[]
   .subst U;simp
   .have M:=Vy H (q::t) aA.zero U;rw[K,M,jZ U];have:H.length≠0:=λ e=>U (dB e);simp[this]
  by_cases e:mR q=true/\(H.length=0\/ltN (O.getD (H.length-1) aA.zero).aB.name q.aB.name)
  .rw[cB e];have:=F (H++[q]) (by rw[K];simp);rw[show(H++[q]).length=H.length+1 by simp]at this;simp only;have L:ascW (q::t) (H.getLast?.map (·.aB.name))=ascW t (some q.aB.name):=by simp only[ascW,e.1,B.1 e.2,cN]
   rw[this,L];simp
  .rw[bX e];rw[B]at e;have V:ascW (q::t) (H.getLast?.map (·.aB.name))=false:=by
    rw[dJ];intro Y;simp only[ascW,bY]at Y;exact e ⟨Y.1,Y.2.1⟩
   rw[V];rfl
def Vz{body:Int->Option (Int⊕(Unit⊕Bool))}(t:List aA)(L:t.length<=8)
  (hb:∀i:Nat,i<t.length->body (i:Int)=some (if mR (t.getD i aA.zero)=true/\(i=0\/ltN (t.getD (i-1) aA.zero).aB.name (t.getD i aA.zero).aB.name)then .inl ((i+1:Nat):Int)else .inr (.inr false)))
  (O:body (t.length:Int)=some (.inr (.inl ()))):lY body 0=some (if ascW t none=true then .inl ()else .inr false):=by
 have H:=wP (body:=body) t aA.zero (λ i (_:Unit)=>(i:Int)) (λ i q _=>some (if mR q=true/\(i=0\/ltN (t.getD (i-1) aA.zero).aB.name q.aB.name)then Sum.inl ()else Sum.inr (Sum.inr (α:=Unit) false))) (λ _=>Sum.inl (β:=Bool) ())
  (λ i s K=>by
   rw[hb i K,lL];split<;>rfl) (λ s=>O) ()
 have:=cEm t t [] rfl;rw[show(0:Int)=(λ(i:Nat) (_:Unit)=>(i:Int)) 0 ()from rfl,H];exact this
def Fe(t:List aA)(h:∀q∈t,mR q=true):(t.flatMap rT).length<=24*t.length:=by
 induction t with
 |nil=>simp
 |cons q t H=>
  have U:=AB (h q (.head _));have O:=HW (q.aT.map (·.aM)++(ordQ q).map (·.aM));have Y:=H λ x K=>h x (.tail _ K);have B:(rT q).length<=24:=by unfold rT;unfold ordQ at*;simp only[cA,dM]at O;omega
  rw[eQ,cA,lH];omega
def OT{α β X:Type}(f:α->List β)(H:List β->X):∀(l:List α) (i:Nat) (s:List β),walk (λ _ a s=>some (.inl (s++f a))) H l i s=some (H (s++l.flatMap f))
 |[],i,s=>by simp[walk]
 |a::l,i,s=>by simp only[walk,eQ];rw[OT f H l (i+1),cG]
def mS{α:Type}{l:List α}{i:Nat}{z:α}(h:i<l.length):l.getD i z∈l:=by rw[cD,cE h];exact iP h
def VA{q:aA}(h:mR q=true):(rT q).length<=24:=by
 have:=Fe [q] λ x H=>by rw[dP]at H;rw[H];exact h
 simpa using this
def cEr{t:List aA}(L:t.length<=8)(h:∀q∈t,mR q=true):BX t=some (oH t):=by
 unfold BX;have H:=rD (body:=G7 t) t aA.zero (λ i (s:List aK)=>((i:Int),s)) (λ _ q s=>some (.inl (s++rT q))) (λ s=>s) (λ i s=>s.length<=24*i)
  (λ i s K Y=>by
   have O:=h _ (mS (z:=aA.zero) K);have B:=AB O;have F:=VA O;refine⟨?_,λ M h=>?_⟩
   .unfold G7;have U:0<=(i:Int)/\(i:Int)<(t.length:Int):=om
    simp only[U.1,U.2,cX,mL,cF,cH,Qm];rw[cD5 _ om om om,eF,mD om,mF i om];rfl
   .simp only[cJ,fN]at h;subst h;rw[cA];omega)
  (λ s Y=>by unfold G7;simp) [] (by simp)
 rw[show((0,[]):Int×List aK)=(λ(i:Nat) (s:List aK)=>((i:Int),s)) 0 []from rfl,H,OT rT,lJ,eF];unfold NR;have:=Fe t h;rw[ON _ om];rfl
def OU{α:Type}(l:List α)(z:α)(p:α->Bool){body:Int->Option (Int⊕(Unit⊕Int))}(hb:∀i:Nat,i<l.length->body (i:Int)=some (if p (l.getD i z)=true then .inr (.inr (i:Int))else .inl ((i+1:Nat):Int)))
  (Y:body (l.length:Int)=some (.inr (.inl ()))):lY body 0=some (match l.findIdx? p with|some i=>.inr (i:Int)|none=>.inl ()):=by
 have O:=wP (body:=body) l z (λ i (_:Unit)=>(i:Int)) (λ i a _=>some (if p a=true then .inr (Sum.inr (α:=Unit) (i:Int))else .inl ())) (λ _=>Sum.inl (β:=Int) ())
  (λ i s K=>by rw[hb i K,lL];split<;>rfl) (λ s=>Y) ()
 have H:∀(l:List α) (i:Nat),walk (λ i a (_:Unit)=>some (if p a=true then .inr (Sum.inr (α:=Unit) (i:Int))else .inl ())) (λ _=>Sum.inl (β:=Int) ()) l i ()=some (match l.findIdx? p with|some j=>.inr ((i+j:Nat):Int)|none=>.inl ()):=by
  intro l;induction l with
  |nil=>intro i;rfl
  |cons a l B=>
   intro i;simp only[walk,List.findIdx?_cons]
   by_cases U:p a=true
   .simp[U]
   .simp only[U,bZ,cI];rw[B (i+1)];cases l.findIdx? p with
    |none=>rfl
    |some j=>simp only[xm];rw[show i+1+j=i+(j+1)by omega]
 have:=H l 0;simp only[eC]at this;rw[show(0:Int)=(λ(i:Nat) (_:Unit)=>(i:Int)) 0 ()from rfl,O];exact this
def isN(nm:ByteArray)(q:aA):Bool:=q.aB.name.toList==nm.toList
def VB{nm:ByteArray}{q:aA}:isN nm q=true↔q.aB.name=nm:=by unfold isN;rw[dN];exact zL
def nK(t:List aA)(nm:ByteArray):Int:=match t.findIdx? (isN nm)with
 |some i=>i
 |none=>-1
def H0{t:List aA}{nm:ByteArray}:nK t nm=-1\/∃i:Nat,nK t nm=i/\i<t.length/\(t.getD i aA.zero).aB.name=nm:=by
 unfold nK;cases h:t.findIdx? (isN nm)with
 |none=>exact .inl rfl
 |some i=>right;obtain⟨H,O,_⟩:=iD.1 h;refine⟨i,rfl,H,?_⟩;rw[cD,cE H];exact VB.1 O
def OV{t:List aA}(h:AscN t){i j:Nat}(hi:i<t.length)(H:j<t.length)(e:(t.getD i aA.zero).aB.name=(t.getD j aA.zero).aB.name):i=j:=by
 have O:=fK.1 h;have g:∀k,(U:k<t.length)->t.getD k aA.zero=t[k]:=λ k U=>by rw[cD,cE U];rfl
 rw[g i hi,g j H]at e;rcases Nat.lt_trichotomy i j with h1|h1|h1
 .exact absurd e (Vv (O i j hi H h1))
 .exact h1
 .exact absurd e.symm (Vv (O j i H hi h1))
def Lq{t:List aA}(h:AscN t){i:Nat}(hi:i<t.length):nK t (t.getD i aA.zero).aB.name=i:=by
 rcases H0 (t:=t) (nm:=(t.getD i aA.zero).aB.name)with H|⟨j,H,O,U⟩
 .unfold nK at H;cases K:t.findIdx? (isN (t.getD i aA.zero).aB.name)with
  |some k=>rw[K]at H;simp only at H;omega
  |none=>have:=kI.1 K (t.getD i aA.zero) (mS hi);rw[dJ]at this;exact absurd (VB.2 rfl) this
 .rw[H,OV h O hi U]
def cEx(x:aK)(s:List aK)(B:s.Pairwise ltP)(hx:x∉s)(hl:s.length<=1000000):lY (Gw) ((s.length:Int),s++[x])=some (sJ x s):=by
 obtain⟨r,h1,h2⟩:=nV (body:=Gw) (λ g=>∃U O:List aK,g=((U.length:Int),U++x::O)/\U++O=s/\∀y∈O,ltP x y) (λ g=>g.1.toNat) (λ r=>r=sJ x s) (by
  rintro g ⟨U,O,rfl,K,hpost⟩;have y0:U.length+O.length=s.length:=by rw[<-K,cA]
  unfold Gw;simp only[cA,ym]
  by_cases L:U=[]
  .right;subst L;refine⟨_,by rw[mD (by simp),mD (by simp),bX (by simp)],?_⟩;simp only[jm]at K⊢;subst K;refine HT (dD.2 ⟨hpost,B⟩) (Co B) λ y=>?_;rw[Cn,cL]
  .obtain⟨H,y,rfl⟩:∃p' y,U=p'++[y]:=⟨U.dropLast,U.getLast L,(List.dropLast_concat_getLast L).symm⟩;have hk:(H++[y]).length=H.length+1:=by simp
   rw[hk]at y0⊢;have w:IntKind.i64.wrap (((H.length+1:Nat):Int)-1)=(H.length:Int):=by rw[mB om om];omega
   have e1:(H++[y]++x::O).getD H.length aK.zero=y:=by simp[cD]
   have e2:(H++[y]++x::O).getD (H.length+1) aK.zero=x:=by simp[cD]
   have V:0<=(H.length:Int)/\(H.length:Int)<((H.length+1+(O.length+1):Nat):Int):=om
   have Z:0<=((H.length+1:Nat):Int)/\((H.length+1:Nat):Int)<((H.length+1+(O.length+1):Nat):Int):=om
   have F:decide (0<((H.length+1:Nat):Int))=true:=cQ om;simp only[w,Qm,e1,e2,F,cN];rw[mD (λ _=>V),mD (λ _=>Z)];have hlt:decide (0<vG y x)=decide (ltP x y):=by rw[jB];exact N9 y x
   rw[hlt]
   by_cases Y:ltP x y
   .left;rw[cB (cQ Y),mD V,mD Z,mD V,mD Z];refine⟨((H.length:Int),H++x::(y::O)),?_,⟨H,y::O,rfl,by rw[<-K];simp,λ z hz=>?_⟩,by simp only[Qm];omega⟩
    .congr 3;rw[cG,iC _ _ (dG _),gY,iC _ _ om,show H.length+1-H.length=1 by omega];rfl
    .rcases cL.1 hz with rfl|hz
     .exact Y
     .exact hpost z hz
   .right;refine⟨_,by rw[bX (by simpa using Y)],?_⟩;have M:ltP y x:=by
     rcases Ch (p:=x) (q:=y) (λ e=>hx (by rw[<-K,e];simp))with h|h
     .exact absurd h Y
     .exact h
    rw[<-K]at B;obtain⟨a1,a2,a3⟩:=fU.1 B;obtain⟨b1,b2,b3⟩:=fU.1 a1;have x0:∀z∈H++[y],ltP z x:=λ z hz=>by
     rcases cY.1 hz with hz|hz
     .exact Cg (b3 z hz y (by simp)) M
     .rw[dP]at hz;rw[hz];exact M
    rw[<-K];refine HT (fU.2 ⟨a1,dD.2 ⟨hpost,a2⟩,λ z hz u hu=>?_⟩) (Co B) λ z=>?_
    .rcases cL.1 hu with rfl|hu
     .exact x0 z hz
     .exact a3 z hz u hu
    .rw[Cn];simp only[cY,cL,dP];constructor
     .rintro((h|h)|h|h)
      .exact .inr (.inl (.inl h))
      .exact .inr (.inl (.inr h))
      .exact .inl h
      .exact .inr (.inr h)
     .rintro(h|(h|h)|h)
      .exact .inr (.inl h)
      .exact .inl (.inl h)
      .exact .inl (.inr h)
      .exact .inr (.inr h)) ((s.length:Int),s++[x]) ⟨s,[],by simp,by simp,by simp⟩
 rw[h1,h2]
def OW(l:List aK)(L:l.length<=1000000):b5 l=some (wV l):=by
 unfold b5;have O:=rD (body:=Bu l) l aK.zero (λ i (s:List aK)=>((i:Int),s)) (λ _ p s=>some (.inl (sJ p s))) (λ s=>s) (λ i s=>s.Pairwise ltP/\s.length<=i)
  (λ i s V H=>by
   have K:∀p,(sJ p s).length<=s.length+1:=λ p=>by
    have:=eP (HV (Co (p:=p) H.1)) (l₂:=p::s) λ z Y=>by
     rcases Cn.1 Y with rfl|h
     .exact .head _
     .exact .tail _ h
    simpa using this
   refine⟨?_,λ B h=>?_⟩
   .unfold Bu;have U:0<=(i:Int)/\(i:Int)<(l.length:Int):=om
    simp only[U.1,U.2,cX,mL,cF,cH,Qm];rw[Vj _ _ om,eF,mF i om]
    by_cases hm:l.getD i aK.zero∈s
    .rw[cB (cQ hm),lL,cCf H.1 hm];rfl
    .rw[bX (by rw[cC];exact hm),mD om,cEx _ _ H.1 hm om,eF];unfold Nu;simp only[mF i (show i<4611686018427387904 by omega),xm,wmap]
   .simp only[cJ,fN]at h;subst h;exact⟨Co H.1,by have:=K (l.getD i aK.zero);omega⟩)
  (λ s H=>by unfold Bu;simp) [] ⟨.nil,by simp⟩
 rw[show((0,[]):Int×List aK)=(λ(i:Nat) (s:List aK)=>((i:Int),s)) 0 []from rfl,O,UY (λ s p=>sJ p s)];rfl
def AC{α β:Type}(l:List α)(z:α)(f:α->β)(s0:List β){body:Int×List β->Option ((Int×List β)⊕List β)}(L:l.length<=1000000)(Y:s0.length<=1000000)
  (hb:∀(i:Nat) (s:List β),i<l.length->s.length<=3000000->body ((i:Int),s)=some (.inl (((i+1:Nat):Int),s++[f (l.getD i z)]))) (O:∀s,body ((l.length:Int),s)=some (.inr s)):lY body (0,s0)=some (s0++l.map f):=by
 have H:=rD (body:=body) l z (λ i (s:List β)=>((i:Int),s)) (λ i a s=>some (.inl (sH s (some (f a))))) (λ s=>s) (λ i s=>s.length<=1000000+i)
  (λ i s K U=>⟨by rw[hb i s K om];rfl,λ B h=>by simp only[cJ,fN]at h;subst h;simp[sH];omega⟩) (λ s U=>O s) s0 om
 rw[show((0,s0):Int×List β)=(λ(i:Nat) (s:List β)=>((i:Int),s)) 0 s0 from rfl,H,E2 (λ a=>some (f a))];simp
def cF0(l:List aX)(K:l.length<=1000000):A6 l=some (l.map (·.aM)):=by
 unfold A6;rw[AC l aX.zero (·.aM) [] K (by simp) (λ i s L U=>by
  unfold Jl;have H:0<=(i:Int)/\(i:Int)<(l.length:Int):=om
  have O:s.length+1<=4294967296:=om
  simp only[O,H.1,H.2,cX,mL,cF,cH,lF,mF i (show i<4611686018427387904 by omega)]) (λ s=>by unfold Jl;simp)]
 rfl
def cF1(q:aA)(O:q.aN.length<=1000)(Y:q.aW.length<=1000):Ba q=some ((ordQ q).map (·.aM)):=by
 unfold Ba;rw[AC q.aN aV.zero (·.aM) [] om (by simp) (λ i s K U=>by
  unfold Jx;have H:0<=(i:Int)/\(i:Int)<(q.aN.length:Int):=om
  have O:s.length+1<=4294967296:=om
  simp only[O,H.1,H.2,cX,mL,cF,cH,lF,mF i (show i<4611686018427387904 by omega)]) (λ s=>by unfold Jx;simp),eF]
 unfold Jw;rw[AC q.aW aV.zero (·.aM) _ om (by simp;omega) (λ i s K U=>by
  unfold Jv;have H:0<=(i:Int)/\(i:Int)<(q.aW.length:Int):=om
  have O:s.length+1<=4294967296:=om
  simp only[O,H.1,H.2,cX,mL,cF,cH,lF,mF i (show i<4611686018427387904 by omega)]) (λ s=>by unfold Jv;simp),eF]
 unfold Ni ordQ;rw[fL,lJ]
def cF2(q:aA)(U:q.aT.length<=1000)(H:q.aN.length<=1000)(O:q.aW.length<=1000):BB q=some (rT q):=by
 unfold BB rT;have K:(ordQ q).length<=2000:=by unfold ordQ;rw[cA];omega
 rw[cF0 _ om,eF,cF1 q H O,eF,mD (by simp;omega),OW _ (by simp;omega)];rfl
def Lr{t:List aA}(L:t.length<=8)(h:∀q∈t,mR q=true):e8 t=some (oH t):=by
 unfold e8;have H:=rD (body:=GZ t) t aA.zero (λ i (s:List aK)=>((i:Int),s)) (λ _ q s=>some (.inl (s++rT q))) (λ s=>s) (λ i s=>s.length<=24*i)
  (λ i s K Y=>by
   have O:=h _ (mS (z:=aA.zero) K);have B:=AB O;have F:=VA O;refine⟨?_,λ M h=>?_⟩
   .unfold GZ;have U:0<=(i:Int)/\(i:Int)<(t.length:Int):=om
    simp only[U.1,U.2,cX,mL,cF,cH,Qm];rw[cF2 _ om om om,eF,mD om,mF i om];rfl
   .simp only[cJ,fN]at h;subst h;rw[cA];omega)
  (λ s Y=>by unfold GZ;simp) [] (by simp)
 rw[show((0,[]):Int×List aK)=(λ(i:Nat) (s:List aK)=>((i:Int),s)) 0 []from rfl,H,OT rT,lJ,eF];unfold NJ;have:=Fe t h;rw[OW _ om];rfl
def VC(t:List aA):Am t=some (qB t):=by
 unfold Am qB
 by_cases U:8<t.length
 .have:¬t.length<=8:=om
  rw[cB (by simp;omega)];simp[this]
 .have K:t.length<=8:=om
  rw[bX (by simp;omega),Vz t K (λ i L=>by
   unfold KJ;have H:0<=(i:Int)/\(i:Int)<(t.length:Int):=om
   simp only[H.1,H.2,cX,fD,mL,cF,cH,lF,HO,eF,mF i om]
   by_cases O:i=0
   .subst O;rw[mD (by simp)];cases mR (t.getD 0 aA.zero)<;>simp
   .rw[l6 i om om,mD (by intro _;omega)];simp only[lF,show(0:Int)<(i:Int)by omega,cF,cN,O,jL];unfold ltN;rcases hb (mR (t.getD i aA.zero))with b1|b1<;>rcases hb (Op.bytesLess (t.getD (i-1) aA.zero).aB.name.toList (t.getD i aA.zero).aB.name.toList)with b2|b2<;>simp[b1,b2,-List.getD_eq_getElem?_getD]) (by unfold KJ;simp)]
  simp only[K,cF,cN];cases V:ascW t none<;>rfl
def H1(t:List aA):yF t=some (vR t):=by
 unfold yF vR;rw[VC,eF];cases K:qB t with
 |false=>rfl
 |true=>obtain⟨H,O,_⟩:=(uR t).1 K;rw[cB rfl,Lr H O,eF,cN];congr 1;rw[dR];simp;omega
def m4(t:List aA)(nm:ByteArray)(K:t.length<=1000000):sR t nm=some (nK t nm):=by
 unfold sR;rw[OU t aA.zero (isN nm) (λ i L=>by
  unfold Jd isN;have H:0<=(i:Int)/\(i:Int)<(t.length:Int):=om
  simp only[H.1,H.2,cX,mL,cF,cH,lF,mF i om];split<;>rfl) (by unfold Jd;simp)]
 unfold nK;cases t.findIdx? (isN nm)<;>rfl
def cF6(a b:List aA)(h:a.length=b.length)(V:a.length<=1000000)(O:∀q∈a,q.aT.length<=1000/\q.aN.length<=1000/\q.aW.length<=1000):
  lY (DK a b) 0=some (if a=b then .inl ()else .inr false):=by
 have H:lY (DK a b) 0=some ((qA (λ i=>if decide (a.getD i aA.zero=b.getD i aA.zero)=true then none else some (Sum.inr false)) a.length 0).getD (Sum.inl ())):=by
  refine tP a.length _ (Sum.inl ()) (λ i K=>?_) ?_
  .have U:=O _ (mS (z:=aA.zero) K);unfold DK;rw[cB (by simpa using K),mD om,mD om,mB om om];simp only[Qm];rw[bYy _ _ om om om,eF]
   by_cases L:a.getD i aA.zero=b.getD i aA.zero
   .simp only[L,cF,cR,bZ,cI,cH]
   .simp only[L,cP,dL,cH,bZ,cI]
  .unfold DK;rw[bX (by simp)]
 rw[H,uP,<-eZ,Uu a b aA.zero h]
 by_cases e:a=b<;>simp[e]
def VD(a b:List aA)(K:a.length<=1000000)(H:∀q∈a,q.aT.length<=1000/\q.aN.length<=1000/\q.aW.length<=1000):Br a b=some (decide (a=b)):=by
 unfold Br
 by_cases h:a.length=b.length
 .rw[bX (by simp[h]),cF6 a b h K H]
  by_cases e:a=b<;>simp[e,Ns]
 .have:¬a=b:=λ e=>h (by rw[e]);rw[cB (by simp;omega),fC this]
end Ab
end Go.Proofs.YtfmnjkfhahfhgaaGreatDoor
