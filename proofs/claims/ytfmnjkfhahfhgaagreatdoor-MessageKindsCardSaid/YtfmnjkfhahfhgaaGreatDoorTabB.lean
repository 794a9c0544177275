import Derived.Test.YtfmnjkfhahfhgaaGreatDoorLinB
namespace Go.Proofs.YtfmnjkfhahfhgaaGreatDoor
namespace Ab
set_option linter.defProp false
set_option linter.unusedVariables false
set_option linter.unusedSimpArgs false
def TV{p:aK}{l:List aX}{h:aX}:h∈nC p l↔h∈l/\h.aL≠p:=by unfold nC;simp
def bZn{l m:List aC}(h:l.Sublist m)(H:∀a∈m,0<=a.aT):sumU l<=sumU m:=by
 induction h with
 |slnil=>exact kH _
 |cons a h O=>have:=O λ b hb=>H b (.tail _ hb);have:=H a (.head _);simp only[sumU];omega
 |cons_cons a h O=>have:=O λ b hb=>H b (.tail _ hb);simp only[sumU];omega
def CompP.sub{r:aH}{l m:List aC}(h:CompP r m)(H:l.Sublist m):CompP r l where
 perm:=λ a K=>h.perm a (H.subset K)
 sum:=Int.le_trans (bZn H λ a K=>(t6 (h.perm a K)).1) h.sum
 pair:=h.pair.sublist H
def GoodP.sub{r:aH}{l m:List aX}(h:GoodP r m)(H:l.Sublist m):GoodP r l:=⟨λ x K=>h.each x (H.subset K),h.asc.sublist H⟩
def vQ(r:aH)(l:List aX):oS r l=true↔nQ r=true/\l.length<=8/\GoodP r l/\CompP r (l.map (·.aJ)):=by unfold oS;simp
def Nq{r:aH}{l m:List aX}(h:oS r m=true)(H:l.Sublist m):oS r l=true:=by rw[vQ]at h⊢;exact⟨h.1,dF H.length_le h.2.1,h.2.2.1.sub H,h.2.2.2.sub (H.map _)⟩
def Nr(p:aK)(l:List aX):(nC p l).Sublist l:=iZ
def Ns(p:aK)(a:aC)(l:List aX):(insP p a l).Perm (⟨p,a⟩::l):=by
 induction l with
 |nil=>exact iT _
 |cons h t H=>
  simp only[insP];split
  .exact iT _
  .exact(List.Perm.cons h H).trans (List.Perm.swap _ _ _)
def TW{p:aK}{a:aC}:∀{l:List aX},l.Pairwise (λ a b=>ltP a.aL b.aL)->(∀h∈l,h.aL≠p)->(insP p a l).Pairwise λ a b=>ltP a.aL b.aL
 |[],_,_=>by simp[insP]
 |h::t,K,L=>by
  rw[dB]at K;simp only[insP];split
  .rename_i H;rw[dB];refine⟨λ x hx=>?_,dB.2 K⟩;rcases cK.1 hx with rfl|hx
   .exact H
   .exact Bu H (K.1 x hx)
  .rename_i H;rw[dB];refine⟨λ x hx=>?_,TW K.2 λ x hx=>L x (.tail _ hx)⟩;rcases cK.1 ((Ns p a t).mem_iff.1 hx)with rfl|hx
   .rcases Bv (L h (.head _))with h1|h1
    .exact h1
    .exact absurd h1 H
   .exact K.1 x hx
def Nt{l m:List aC}(h:l.Perm m):sumU l=sumU m:=by
 induction h with
 |nil=>rfl
 |cons a _ U=>simp only[sumU,U]
 |swap a b l=>simp only[sumU];omega
 |trans _ _ H O=>exact H.trans O
def Ki{a b:aC}(h:¬qH a b):¬qH b a:=λ⟨H,O,U⟩=>h ⟨O,H,by rw[Kb];exact U⟩
def CompP.perm_iff{r:aH}{l m:List aC}(h:l.Perm m):CompP r l↔CompP r m:=by
 constructor
 .intro k;exact⟨λ a H=>k.perm a (h.mem_iff.2 H),by rw[<-Nt h];exact k.sum,(h.pairwise_iff (λ h=>Ki h)).1 k.pair⟩
 .intro k;exact⟨λ a H=>k.perm a (h.mem_iff.1 H),by rw[Nt h];exact k.sum,(h.pairwise_iff (λ h=>Ki h)).2 k.pair⟩
def TX{r:aH}{l:List aX}{p:aK}{a:aC}(V:oS r l=true)(B:mL p=true)(L:mE r a=true)(K:(nC p l).length+1<=8):
  sA r l p a=true↔(∀h∈nC p l,¬qH h.aJ a)/\a.aT+sumU ((nC p l).map (·.aJ))<=r.aT:=by
 have U:=(vQ r l).1 V;have M:=rZ L;have ho:=Nq V (Nr p l);have H:=(vQ r _).1 ho;have Z:sS r l p a=true:=by unfold sS;simp[V,B,L]
 have Y:((insP p a (nC p l)).map (·.aJ)).Perm (a::(nC p l).map (·.aJ)):=(Ns p a (nC p l)).map _;unfold sA;rw[Z,cL,vQ];unfold setL;rw[bZ M,CompP.perm_iff Y];constructor
 .rintro⟨_,_,_,F⟩;refine⟨λ h O=>?_,F.sum⟩;have:=(dB.1 F.pair).1 h.aJ (cQ.2 ⟨h,O,rfl⟩);exact Ki this
 .rintro⟨h1,h2⟩;refine⟨U.1,by rw[Kc];exact K,⟨λ x hx=>?_,TW H.2.2.1.asc λ h O=>(TV.1 O).2⟩,⟨λ b hb=>?_,h2,?_⟩⟩
  .rcases cK.1 ((Ns p a _).mem_iff.1 hx)with rfl|hx
   .exact⟨B,L⟩
   .exact H.2.2.1.each x hx
  .rcases cK.1 hb with rfl|hb
   .exact qT L
   .exact H.2.2.2.perm b hb
  .rw[dB];refine⟨λ b hb=>?_,H.2.2.2.pair⟩;obtain⟨h,O,rfl⟩:=cQ.1 hb;exact Ki (h1 h O)
def TY{α S X:Type}(f:S->α->S)(H:S->X):∀(l:List α) (i:Nat) (s:S),walk (λ _ a s=>some (.inl (f s a))) H l i s=some (H (l.foldl f s))
 |[],_,_=>rfl
 |a::l,i,s=>by simp only[walk,List.foldl_cons];exact TY f H l (i+1) _
def bZx(l:List aX)(K:l.length<=1000000):Fp l=some (l.map (·.aL)):=by
 unfold Fp;have H:=qS (body:=Fo l) l aX.zero (λ i (s:List aK)=>((i:Int),s)) (λ i h s=>some (.inl (rP s (some h.aL)))) (λ s=>s) (λ i s=>s.length<=i)
  (λ i s L U=>by
   refine⟨?_,λ B h=>?_⟩
   .unfold Fo;have Y:s.length+1<=4294967296:=om
    have O:0<=(i:Int)/\(i:Int)<(l.length:Int):=om
    simp only[Y,O.1,O.2,cW,mD,cF,cG,Qm,lY i om,xm,wmap,rP]
   .simp only[dD,fI]at h;subst h;simp[rP];omega)
  (λ s U=>by unfold Fo;simp) [] (by simp)
 rw[show((0,[]):Int×List aK)=(λ(i:Nat) (s:List aK)=>((i:Int),s)) 0 []from rfl,H,Ed (λ h:aX=>some h.aL)];simp[Ma]
def TZ{α:Type}{P:α->Prop}{l:List α}{z:α}:(∀i,i<l.length->P (l.getD i z))↔∀w∈l,P w:=by
 constructor
 .intro h w K;obtain⟨i,H,rfl⟩:=fY.1 K;have:=h i H;rwa [cB,cE H]at this
 .intro h i H;refine h _ ?_;rw[cB,cE H];exact iK H
def bZz(p:aK):getH [] p=aC.zero:=rfl
def uP(h:aX)(t:List aX)(p:aK):getH (h::t) p=if h.aL=p then h.aJ else getH t p:=by
 unfold getH;rw[List.find?_cons]
 by_cases e:h.aL=p<;>simp[e]
def T0(p:aK)(l:List aX):getH (nC p l) p=aC.zero:=by
 induction l with
 |nil=>rfl
 |cons h t H=>
  rw[GM]
  by_cases e:h.aL=p
  .simp only[e,cG];exact H
  .simp only[e,cH,uP];exact H
def Ek{p q:aK}(O:q≠p)(l:List aX):getH (nC p l) q=getH l q:=by
 induction l with
 |nil=>rfl
 |cons h t H=>
  rw[GM]
  by_cases e:h.aL=p
  .simp only[e,cG,uP];rw[bZ (λ U=>O U.symm)];exact H
  .simp only[e,cH,uP];split
   .rfl
   .exact H
def T7(p:aK)(a:aC):∀l:List aX,(∀h∈l,h.aL≠p)->getH (insP p a l) p=a
 |[],_=>by simp[insP,uP]
 |h::t,H=>by
  simp only[insP];split
  .simp[uP]
  .simp only[uP,H h (.head _),cH];exact T7 p a t λ x K=>H x (.tail _ K)
def T8{p q:aK}(a:aC)(H:q≠p):∀l:List aX,getH (insP p a l) q=getH l q
 |[]=>by simp only[insP,uP];rw[bZ (λ e:p=q=>H e.symm)]
 |h::t=>by
  simp only[insP];split
  .simp only[uP];rw[bZ (λ e:p=q=>H e.symm)]
  .simp only[uP];split
   .rfl
   .exact T8 a H t
def Nu(l:List aX)(p:aK)(a:aC):getH (setL l p a) p=a:=by
 unfold setL;split
 .rename_i h;rw[T0,h]
 .exact T7 p a _ λ h H=>(TV.1 H).2
def xG{p q:aK}(H:q≠p)(l:List aX)(a:aC):getH (setL l p a) q=getH l q:=by
 unfold setL;split
 .exact Ek H l
 .rw[T8 a H];exact Ek H l
def By{l:List aX}{p:aK}(h:getH l p≠aC.zero):(⟨p,getH l p⟩:aX)∈l:=by
 induction l with
 |nil=>exact absurd rfl h
 |cons x t H=>
  rw[uP]at h|-
  by_cases e:x.aL=p
  .rw[cA e];subst e;exact .head _
  .rw[bZ e]at h⊢;exact .tail _ (H h)
def cA7{l:List aX}{p:aK}(h:∀x∈l,x.aL≠p):nC p l=l:=List.filter_eq_self.2 λ x H=>by simpa using h x H
def Asc(l:List aX):Prop:=l.Pairwise λ a b=>ltP a.aL b.aL
def Kj{r:aH}{l:List aX}(h:oS r l=true):Asc l:=((vQ r l).1 h).2.2.1.asc
def T9{h:aX}{t:List aX}(k:Asc (h::t)):∀x∈t,x.aL≠h.aL:=λ x H e=>by have:=(dB.1 k).1 x H;rw[e]at this;exact Ee _ this
def Ua{l:List aX}(h:Asc l){p:aK}(H:getH l p≠aC.zero):l.Perm (⟨p,getH l p⟩::nC p l):=by
 induction l with
 |nil=>exact absurd rfl H
 |cons x t O=>
  rw[uP]at H⊢;rw[GM]
  by_cases e:x.aL=p
  .rw[cA e,cA e,cA7 (by rw[<-e];exact T9 h)];subst e;exact iT _
  .rw[bZ e]at H;rw[bZ e,bZ e];exact((O (dB.1 h).2 H).cons x).trans (List.Perm.swap _ _ _)
def Nv{l:List aX}(h:Asc l){p:aK}(H:getH l p≠aC.zero):(nC p l).length+1=l.length:=by
 have:=(Ua h H).length_eq
 simpa using this.symm
def cAc{l:List aX}(K:Asc l){x:aX}(hx:x∈l):getH l x.aL=x.aJ:=by
 induction l with
 |nil=>cases hx
 |cons y t H=>
  rw[uP];rcases cK.1 hx with rfl|hx
  .rw[cA rfl]
  .rw[bZ (λ e:y.aL=x.aL=>T9 K x hx e.symm)];exact H (dB.1 K).2 hx
def w6{r:aH}{l:List aX}(h:oS r l=true)(p:aK):nK r (getH l p)=true:=by
 have H:=(vQ r l).1 h
 by_cases e:getH l p=aC.zero
 .rw[e,perm_iff];exact .inl ⟨H.1,rfl⟩
 .exact qT (H.2.2.1.each _ (By e)).2
def uO(a:aC):oG a=true↔a=aC.zero:=by unfold oG;simp
def xH(a:aC):oG a=false↔a≠aC.zero:=by rw[<-gJ,uO]
structure SoundP (q:aA):Prop where
 res:resV q.aB=true
 hv:oS q.aB q.aS=true
 cl:q.aN.length<=8
 cn:(q.aN.map (·.aL)).Nodup
 cg:∀w∈q.aN,getH q.aS w.aL≠aC.zero/\mE q.aB w.aJ=true/\covA q.aB w.aJ (getH q.aS w.aL)=true/\w.aJ≠getH q.aS w.aL/\w.bD=0/\w.bS=0
 wv:pZ q.aW=true
 wl:q.aS.length+q.aW.length<=8
 wg:∀w∈q.aW,mE q.aB w.aJ=true/\getH q.aS w.aL=aC.zero
 gen:0<=q.gen/\q.gen<=1073741824
def Nw(q:aA):xF q=true↔SoundP q:=by
 have Z:cvOk q=true↔q.aN.length<=8/\(q.aN.map (·.aL)).Nodup/\∀w∈q.aN,getH q.aS w.aL≠aC.zero/\mE q.aB w.aJ=true/\covA q.aB w.aJ (getH q.aS w.aL)=true/\w.aJ≠getH q.aS w.aL/\w.bD=0/\w.bS=0:=by
  unfold cvOk;rw[<-Np,<-TZ (z:=aV.zero)];simp only[bX,cD,dT,eD,cvI,dA,xH,dL];constructor
  .rintro⟨O,H⟩;exact⟨O,λ i K=>(H i K).1,λ i K=>(H i K).2⟩
  .rintro⟨O,H,U⟩;exact⟨O,λ i K=>⟨H i K,U i K⟩⟩
 have hw:wtOk q=true↔pZ q.aW=true/\q.aS.length+q.aW.length<=8/\∀w∈q.aW,mE q.aB w.aJ=true/\getH q.aS w.aL=aC.zero:=by unfold wtOk;rw[<-TZ (z:=aV.zero)];simp only[bX,cD,dT,eD,wtI,uO]
 unfold xF;simp only[bX,Z,hw,cD];constructor
 .rintro⟨O,H,⟨U,Y,B⟩,⟨F,M,L⟩,V⟩;exact⟨O,H,U,Y,B,F,M,L,V⟩
 .rintro⟨O,H,U,Y,B,F,M,L,V⟩;exact⟨O,H,⟨U,Y,B⟩,⟨F,M,L⟩,V⟩
def SoundP.apart{q:aA}(h:SoundP q){c w:aV}(H:c∈q.aN)(K:w∈q.aW):c.aL≠w.aL:=λ e=>
 (h.cg c H).1 (by rw[e];exact(h.wg w K).2)
inductive Pop (q:aA):Prop where
 |con (w:aV) (cs:List aV) (h:q.aN=w::cs) (hd:(nR q).1=w) (hr:sA q.aB q.aS w.aL w.aJ=true) (hp:popQ q={q with aS:=setL q.aS w.aL w.aJ,aN:=cs})
 |wait (w:aV) (ws:List aV) (hc:q.aN=[]) (h:q.aW=w::ws) (hd:(nR q).1=w) (hr:sA q.aB q.aS w.aL w.aJ=true) (hp:popQ q={q with aS:=setL q.aS w.aL w.aJ,aW:=ws})
def Nx{q:aA}(h:canQ q=true):Pop q:=by
 unfold canQ at h;rw[bX]at h;obtain⟨O,U⟩:=h;cases K:q.aN with
 |cons w Y=>
  have H:(nR q).1=w:=by unfold nR;rw[K];rfl
  exact .con w Y K H (by rw[<-H];exact U) (by unfold popQ;rw[H];simp[K])
 |nil=>
  cases L:q.aW with
  |cons w B=>
   have H:(nR q).1=w:=by unfold nR;rw[K,L];rfl
   exact .wait w B K L H (by rw[<-H];exact U) (by unfold popQ;rw[H];simp[K,L])
  |nil=>unfold nR at O;rw[K,L]at O;exact absurd O Om
def Em{r:aH}{l:List aX}{p:aK}{a:aC}(h:sA r l p a=true):oS r l=true/\mL p=true/\mE r a=true/\oS r (setL l p a)=true:=by unfold sA sS at h;simp only[bX]at h;exact⟨h.1.1,h.1.2.1,h.1.2.2,h.2⟩
def Ub{r:aH}{l:List aX}{p:aK}(a:aC)(h:oS r l=true)(H:getH l p≠aC.zero):(setL l p a).length<=l.length:=by
 have:=Nv (Kj h) H;unfold setL;split
 .omega
 .rw[Kc];omega
def cAj{w:aV}{l:List aV}(h:pZ (w::l)=true):pZ l=true:=by rw[GT]at h⊢;obtain⟨O,U,H⟩:=h;rw[dJ,iN]at H;exact⟨by simp at O;omega,λ x K=>U x (.tail _ K),H.2⟩
def SoundP.pop{q:aA}(h:SoundP q)(Z:canQ q=true):SoundP (popQ q):=by
 cases Nx Z with
 |con w cs U hd M L=>
  rw[L];obtain⟨_,_,_,V⟩:=Em M;have B:w.aL∉cs.map (·.aL)/\(cs.map (·.aL)).Nodup:=by have:=h.cn;rw[U,dJ,iN]at this;exact this
  have hw:=h.cg w (by rw[U];exact .head _);have hl:=Ub w.aJ h.hv hw.1;have F:=h.cl;rw[U,lE]at F;refine⟨h.res,V,by simp only;omega,B.2,λ c H=>?_,h.wv,?_,λ x K=>?_,h.gen⟩
  .have O:c.aL≠w.aL:=λ e=>B.1 (cQ.2 ⟨c,H,e⟩);simp only[xG O];exact h.cg c (by rw[U];exact .tail _ H)
  .have:=h.wl;simp only;omega
  .have O:x.aL≠w.aL:=λ e=>h.apart (c:=w) (by rw[U];exact .head _) K e.symm;simp only[xG O];exact h.wg x K
 |wait w ws h0 U hd M L=>
  rw[L];obtain⟨_,_,_,V⟩:=Em M;have hl:=bX3 q.aS w.aL w.aJ;have F:=h.wl;have Y:=h.wv;rw[U]at F Y;have B:w.aL∉ws.map (·.aL):=by have:=((GT _).1 Y).2.2;rw[dJ,iN]at this;exact this.1
  rw[lE]at F;refine⟨h.res,V,h.cl,h.cn,λ c H=>?_,cAj Y,by simp only;omega,λ x K=>?_,h.gen⟩
  .rw[h0]at H;cases H
  .have O:x.aL≠w.aL:=λ e=>B (cQ.2 ⟨x,K,e⟩);simp only[xG O];exact h.wg x (by rw[U];exact .tail _ K)
def Ny:∀(n:Nat) (q:aA) (l:List aX),advN n (q,l)=((advN n (q,[])).1,l++(advN n (q,[])).2)
 |0,q,l=>by simp[advN]
 |n+1,q,l=>by
  simp only[advN];split
  .unfold zS;simp only[jm];rw[Ny n (popQ q) (l++_),Ny n (popQ q) [_],cJ]
  .simp
def advS(q:aA):aA:=(advQ q).1
def advG(q:aA):List aX:=(advQ q).2
def Kk(q:aA):advQ q=if canQ q=true then((advQ (popQ q)).1,⟨(nR q).1.aL,(nR q).1.aJ⟩::(advQ (popQ q)).2)else(q,[]):=by
 unfold advQ;rw[Nn (q,[])];show(if canQ q=true then advN (oZ (popQ q)) (popQ q,[]++[_])else(q,[]))=_;split
 .rw[Ny];rfl
 .rfl
def Nz{q:aA}(h:canQ q=true):advS q=advS (popQ q):=by unfold advS;rw[Kk q,cA h]
def cAn{q:aA}(h:canQ q=true):advG q=⟨(nR q).1.aL,(nR q).1.aJ⟩::advG (popQ q):=by unfold advG;rw[Kk q,cA h]
def NA{q:aA}(h:canQ q=false):advS q=q:=by unfold advS;rw[Kk q,h];rfl
def cAp{q:aA}(h:canQ q=false):advG q=[]:=by unfold advG;rw[Kk q,h];rfl
def GU{P:aA->Prop}(h:∀q,canQ q=true->P q->P (popQ q)):∀q,P q->P (advS q):=by
 have O:∀n q,oZ q=n->P q->P (advS q):=by
  intro n;induction n using Nat.strongRecOn with
  |_ n U=>
   intro q Y H;cases K:canQ q with
   |false=>rw[NA K];exact H
   |true=>rw[Nz K];have:=(Ej K).2.1;exact U (oZ (popQ q)) om _ rfl (h q K H)
 exactλ q H=>O _ q rfl H
def Uc{P:aA->Prop}(O:∀q,canQ q=false->P q)(h:∀q,canQ q=true->P (popQ q)->P q):∀q,P q:=by
 have H:∀n q,oZ q=n->P q:=by
  intro n;induction n using Nat.strongRecOn with
  |_ n U=>
   intro q Y;cases K:canQ q with
   |false=>exact O q K
   |true=>have:=(Ej K).2.1;exact h q K (U (oZ (popQ q)) om _ rfl)
 exactλ q=>H _ q rfl
def cAs:∀q,canQ (advS q)=false:=by refine Uc (λ q h=>by rw[NA h];exact h) λ q h H=>by rw[Nz h];exact H
def SoundP.adv{q:aA}(h:SoundP q):SoundP (advS q):=GU (P:=SoundP) (λ _ H h=>h.pop H) q h
def qA(q:aA):mK q=true↔SoundP q/\canQ q=false:=by unfold mK;rw[bX,Nw];show SoundP q/\(!canQ q)=true↔_;rw[dA]
def cAt:∀q,(advG q).length+oZ (advS q)=oZ q:=by
 refine Uc (λ q h=>by rw[NA h,cAp h];simp) λ q h H=>by rw[Nz h,cAn h,lE];have:=(Ej h).2.1;omega
def cAu(r:aH)(a b:aC):covA r a b=(!(!nK r a||!nK r b)&&(oG b||(!oG a&&(if r.kind=1 then covM a.mode b.mode else decide (b.aT<=a.aT))))):=by
 have H:=Eg r a;have O:=Eg r b;have U:=xE a;have Y:=xE b;have h:covA r a b=(!(!tM r a||!tM r b)&&(nP b||(!nP a&&(if r.kind=1 then covM a.mode b.mode else decide (b.aT<=a.aT))))):=by
  unfold covA rJ;generalize(!tM r a||!tM r b)=x;generalize nP b=y;generalize nP a=z
  by_cases B:r.kind=1<;>cases x<;>cases y<;>cases z<;>simp[B]
 rw[h,H,O,U,Y]
def sT(r:aH)(a b:aC):covA r a b=true↔nK r a=true/\nK r b=true/\(b=aC.zero\/a≠aC.zero/\b≠aC.zero/\((r.kind=1/\covM a.mode b.mode=true)\/(r.kind≠1/\b.aT<=a.aT))):=by
 rw[cAu];have U:=uO a;have H:=uO b;simp only[bX,dV,dA,iS,Bool.not_eq_false',H,xH]
 by_cases e:b=aC.zero
 .simp[e,fQ]
 .by_cases O:r.kind=1<;>simp[e,O,fQ]
def zT{r:aH}{a:aC}(h:nK r a=true):covA r a a=true:=by
 rw[sT];refine⟨h,h,?_⟩
 by_cases e:a=aC.zero
 .exact .inl e
 .refine .inr ⟨e,e,?_⟩
  by_cases H:r.kind=1
  .left;refine⟨H,?_⟩;have:=Bw h H;have hm:a.mode≠0:=λ hm=>e (by obtain⟨m,u⟩:=a;simp only at*;unfold aC.zero;congr;omega);rw[Ei];omega
  .exact .inr ⟨H,kH _⟩
def NB{r:aH}{a:aC}(h:nK r a=true)(H:nQ r=true):covA r a aC.zero=true:=by rw[sT];exact⟨h,(perm_iff r _).2 (.inl ⟨H,rfl⟩),.inl rfl⟩
def Kl{r:aH}{a b c:aC}(U:covA r a b=true)(Y:covA r b c=true):covA r a c=true:=by
 rw[sT]at U Y⊢;refine⟨U.1,Y.2.1,?_⟩;rcases Y.2.2 with e|⟨B,F,O⟩
 .exact .inl e
 .rcases U.2.2 with e|⟨M,_,H⟩
  .exact absurd e B
  .refine .inr ⟨M,F,?_⟩;rcases O with⟨k,O⟩|⟨k,O⟩
   .rcases H with⟨_,H⟩|⟨k',_⟩
    .left;refine⟨k,?_⟩;rw[Ei]at O H⊢;omega
    .exact absurd k k'
   .rcases H with⟨k',_⟩|⟨_,H⟩
    .exact absurd k' k
    .exact .inr ⟨k,by omega⟩
def low(a b:aC):Prop:=a.aT<=b.aT/\∀c,¬qH b c->¬qH a c
def cAz{r:aH}{a b:aC}(h:covA r b a=true):low a b:=by
 rw[sT]at h;obtain⟨F,Y,H⟩:=h;have B:=t6 F;rcases H with e|⟨Z,x0,H⟩
 .subst e;refine⟨B.1,λ c _ O=>?_⟩;exact O.1 rfl
 .rcases H with⟨k,H⟩|⟨k,H⟩
  .have p1:=Bw F k;have M:=Bw Y k;refine⟨by omega,λ c O U=>O ⟨?_,U.2.1,?_⟩⟩
   .rw[Ei]at H;omega
   .have K:=U.2.2;rw[<-gJ]at K⊢;intro L;apply K;rw[Ka]at L⊢;rw[Ei]at H;omega
  .have V:r.kind=2:=by
    have:=(perm_iff r a).1 Y;rw[sR,rC]at this;omega
   have M:=J9 Y V;exact⟨H,λ c _ O=>O.1 M.1⟩
def cB0{r:aH}{l:List aX}{p:aK}{a:aC}:sA r l p a=true↔oS r l=true/\mL p=true/\mE r a=true/\(nC p l).length+1<=8/\(∀h∈nC p l,¬qH h.aJ a)/\a.aT+sumU ((nC p l).map (·.aJ))<=r.aT:=by
 constructor
 .intro h;obtain⟨O,U,H,Y⟩:=Em h;have K:(nC p l).length+1<=8:=by
   have:=t8 Y;unfold setL at this;rw[bZ (rZ H),Kc]at this;exact this
  exact⟨O,U,H,K,(TX O U H K).1 h⟩
 .rintro⟨O,U,H,Y,B⟩;exact(TX O U H Y).2 B
def cB1{r:aH}{l:List aX}{p:aK}{a:aC}(K:oS r l=true)(M:getH l p≠aC.zero)(V:covA r (getH l p) a=true):oS r (setL l p a)=true:=by
 have O:=Kj K;have H:=(vQ r l).1 K
 by_cases Z:a=aC.zero
 .unfold setL;rw[cA Z];exact Nq K (Nr p l)
 .have B:mE r a=true:=by
   rcases(perm_iff r a).1 ((sT _ _ _).1 V).2.1 with h|h
   .exact absurd h.2 Z
   .exact h
  have U:=cAz V;have hm:=By M;have hlt:=Nv O M;have F:=Ua O M;have Y:sA r l p a=true:=by
   rw[cB0];refine⟨K,(H.2.2.1.each _ hm).1,B,by have:=H.2.1;omega,λ x hx h0=>?_,?_⟩
   .have L:=(CompP.perm_iff (F.map (·.aJ))).1 H.2.2.2;have:=(dB.1 L.pair).1 x.aJ (cQ.2 ⟨x,hx,rfl⟩);exact U.2 _ this (by
     obtain⟨c1,c2,c3⟩:=h0;exact⟨c2,c1,by rw[Kb];exact c3⟩)
   .have h1:=Nt (F.map (·.aJ));have h2:=H.2.2.2.sum;rw[h1]at h2;simp only[dJ,sumU]at h2;have:=U.1;omega
  exact(Em Y).2.2.2
def del(q:aA)(p:aK):aA:={q with aS:=nC p q.aS,aN:=rmL q.aN p,aW:=rmL q.aW p}
def Bz{w:aV}{l:List aV}{p:aK}:w∈rmL l p↔w∈l/\w.aL≠p:=by unfold rmL notP;simp
def Eo(l:List aV)(p:aK):(rmL l p).Sublist l:=iZ
def SoundP.del{q:aA}(h:SoundP q)(p:aK):SoundP (del q p):=by
 have U:=(Eo q.aN p).length_le;have Y:=(Eo q.aW p).length_le;have B:=GN p q.aS;have F:=h.cl;have M:=h.wl;refine⟨h.res,Nq h.hv (Nr p _),by simp only[Ab.del];omega,h.cn.sublist ((Eo _ _).map _),λ w K=>?_,TT p h.wv,by simp only[Ab.del];omega,λ w K=>?_,h.gen⟩
 .obtain⟨H,O⟩:=Bz.1 K;simp only[Ab.del,Ek O];exact h.cg w H
 .obtain⟨H,O⟩:=Bz.1 K;simp only[Ab.del,Ek O];exact h.wg w H
def cB4(q:aA)(g:Int):canQ {q with gen:=g}=canQ q:=rfl
def NC(q:aA):(popQ q).gen=q.gen/\(popQ q).aB=q.aB:=by unfold popQ;split<;>exact⟨rfl,rfl⟩
def Ud(q:aA):(advS q).gen=q.gen/\(advS q).aB=q.aB:=
 GU (P:=λ x=>x.gen=q.gen/\x.aB=q.aB) (λ x _ h=>by rw[(NC x).1,(NC x).2];exact h) q ⟨rfl,rfl⟩
def Ue(g:Int):0<=oO g/\oO g<=1073741824:=by
  unfold oO
  by_cases h:g<0\/1073741824<=g
  .rw[cA (by simpa using h)];decide
  .rw[bZ (by simpa using h),mB om om];omega
def rD(q:aA):aA×List aX×Int:=({advS q with gen:=oO q.gen},advG q,0)
def SoundP.gen'{q:aA}(h:SoundP q)(g:Int)(H:0<=g)(O:g<=1073741824):SoundP {q with gen:=g}:=⟨h.res,h.hv,h.cl,h.cn,h.cg,h.wv,h.wl,h.wg,H,O⟩
def Ep{q:aA}(h:SoundP q):mK (rD q).1=true:=by rw[qA];exact⟨h.adv.gen' _ (Ue _).1 (Ue _).2,by show canQ (advS q)=false;exact cAs q⟩
def Uf(q:aA)(p:aK):(nA q p).2=true↔∃w∈q.aN++q.aW,w.aL=p:=by
  unfold nA u6;cases h:(q.aN++q.aW).find? λ w=>decide (w.aL=p)with
  |none=>
    rw[List.find?_eq_none]at h;simp only[cD]at h;constructor
    .intro H;cases H
    .rintro⟨w,K,e⟩;exact absurd e (h w K)
  |some w=>have O:=kB h;have H:=List.find?_some h;exact⟨λ _=>⟨w,O,by simpa using H⟩,λ _=>rfl⟩
def BA{q:aA}{p:aK}:(nA q p).2=false↔∀w∈q.aN++q.aW,w.aL≠p:=by
  rw[<-gJ,Uf];constructor
  .exactλ h w H e=>h ⟨w,H,e⟩
  .rintro h ⟨w,H,e⟩;exact h w H e
def cBb:∀a∈[(1:Int),2,3,4,5],∀b∈[(1:Int),2,3,4,5],supM a b∈[(1:Int),2,3,4,5]/\covM (supM a b) a=true/\covM (supM a b) b=true:=by decide
def cBc{r:aH}{a b:aC}(K:mE r a=true)(hb:mE r b=true)(H:r.kind=1):qV r a b=⟨supM a.mode b.mode,0⟩:=by unfold qV;rw[qT K,qT hb,(xH a).2 (rZ K),(xH b).2 (rZ hb)];simp[H,aC.zero]
def cBd{r:aH}{a b:aC}(K:mE r a=true)(hb:mE r b=true)(H:r.kind≠1):qV r a b=⟨0,if a.aT<b.aT then b.aT else a.aT⟩:=by unfold qV;rw[qT K,qT hb,(xH a).2 (rZ K),(xH b).2 (rZ hb)];simp[H,aC.zero]
def Ug{r:aH}{h a:aC}(O:mE r h=true)(K:mE r a=true)(B:covA r h a=false):
    mE r (qV r h a)=true/\covA r (qV r h a) h=true/\covA r (qV r h a) a=true/\qV r h a≠h:=by
  have Y:mE r (qV r h a)=true/\covA r (qV r h a) h=true/\covA r (qV r h a) a=true:=by
    have fh:=(rC r h).1 O;have fa:=(rC r a).1 K
    by_cases U:r.kind=1
    · have F:h.mode∈[(1:Int),2,3,4,5]:=by simp;omega
      have M:a.mode∈[(1:Int),2,3,4,5]:=by simp;omega
      obtain⟨L,V,Z⟩:=cBb _ F _ M;rw[cBc O K U];have H:mE r ⟨supM h.mode a.mode,0⟩=true:=by rw[rC];left;simp at L;exact⟨U,by omega,by simp only;omega,by simp only;omega,rfl⟩
      refine⟨H,?_,?_⟩
      .rw[sT];exact⟨qT H,qT O,.inr ⟨rZ H,rZ O,.inl ⟨U,V⟩⟩⟩
      .rw[sT];exact⟨qT H,qT K,.inr ⟨rZ H,rZ K,.inl ⟨U,Z⟩⟩⟩
    · rw[cBd O K U]
      have H:mE r ⟨0,if h.aT<a.aT then a.aT else h.aT⟩=true:=by rw[rC];right;refine⟨by omega,by omega,by omega,rfl,?_,?_⟩<;>simp only<;>split<;>omega
      refine⟨H,?_,?_⟩
      · rw[sT];refine⟨qT H,qT O,.inr ⟨rZ H,rZ O,.inr ⟨U,?_⟩⟩⟩
        simp only;split<;>omega
      · rw[sT];refine⟨qT H,qT K,.inr ⟨rZ H,rZ K,.inr ⟨U,?_⟩⟩⟩
        simp only;split<;>omega
  refine⟨Y.1,Y.2.1,Y.2.2,λ e=>?_⟩;have:=Y.2.2;rw[e,B]at this;cases this
def claimC(q:aA)(p:aK)(a:aC):aA:={q with aN:=q.aN++[⟨p,qV q.aB (getH q.aS p) a,0,0⟩]}
def claimW(q:aA)(p:aK)(a:aC)(pr:Int):aA:={q with aW:=vO q.aW ⟨p,a,pr,0⟩ (rQ q.aW ⟨p,a,pr,0⟩ q.aW.length)}
def xI(q:aA)(p:aK):aA:={q with aN:=rmL q.aN p,aW:=rmL q.aW p}
def uQ(q:aA)(p:aK)(a:aC):aA:={q with aS:=setL q.aS p a}
def hasQ(q:aA)(p:aK):Bool:=(nA q p).2||!oG (getH q.aS p)
def errQ(e:Int):aA×List aX×Int:=(aA.zero,[],e)
def xJ(p:aK)(pr:Int):Bool:=mL p&&(decide (0<=pr)&&decide (pr<=7))
def pV(q:aA)(p:aK)(a:aC)(pr:Int):aA×List aX×Int:=
  if mK q=false then errQ 2 else if xJ p pr=false then errQ 1 else if mE q.aB a=false then errQ 12 else if(nA q p).2=true then errQ 14
  else if covA q.aB (getH q.aS p) a=true then(q,[],0)else if getH q.aS p≠aC.zero then rD (claimC q p a)
  else if 8<=q.aS.length+q.aW.length then errQ 4 else rD (claimW q p a pr)
def pI(q:aA)(p:aK):aA×List aX×Int:=
  if mK q=false then errQ 2 else if(nA q p).2=false then errQ 10 else rD (xI q p)
def nZ(q:aA)(p:aK)(a:aC):aA×List aX×Int:=
  if mK q=false then errQ 2 else if getH q.aS p=aC.zero then errQ 10 else if(nA q p).2=true then errQ 14
  else if covA q.aB (getH q.aS p) a=false then errQ 12 else if getH q.aS p=a then(q,[],0)else rD (uQ q p a)
def pA(q:aA)(p:aK):aA×List aX×Int:=
  if mK q=false then errQ 2 else if hasQ q p=false then errQ 10 else rD (del q p)
def SoundP.cancel{q:aA}(h:SoundP q)(p:aK):SoundP (xI q p):=by have H:=(Eo q.aN p).length_le;have O:=(Eo q.aW p).length_le;have U:=h.cl;have Y:=h.wl;exact⟨h.res,h.hv,by simp only[xI];omega,h.cn.sublist ((Eo _ _).map _),λ w K=>h.cg w (Bz.1 K).1,TT p h.wv,by simp only[xI];omega,λ w K=>h.wg w (Bz.1 K).1,h.gen⟩
def SoundP.claimC{q:aA}(h:SoundP q){p:aK}{a:aC}(Z:mE q.aB a=true)(V:(nA q p).2=false)(Y:covA q.aB (getH q.aS p) a=false)(U:getH q.aS p≠aC.zero):SoundP (claimC q p a):=by
  have hv:=(vQ _ _).1 h.hv;have O:mE q.aB (getH q.aS p)=true:=(hv.2.2.1.each _ (By U)).2;obtain⟨j1,B,j3,F⟩:=Ug O Z Y;rw[BA]at V;refine⟨h.res,h.hv,?_,?_,λ w hww=>?_,h.wv,h.wl,h.wg,h.gen⟩
  ·
    have M:((q.aN++[(⟨p,qV q.aB (getH q.aS p) a,0,0⟩:aV)]).map (·.aL)).Nodup:=by rw[fG,jH];refine⟨h.cn,by simp,λ x K y L=>?_⟩;simp only[dJ,iL,dO]at L;obtain⟨c,H,rfl⟩:=cQ.1 K;rw[L];exact V c (dR _ H)
    have hs:∀x∈(q.aN++[(⟨p,qV q.aB (getH q.aS p) a,0,0⟩:aV)]).map (·.aL),x∈q.aS.map (·.aL):=by
      intro x K;simp only[fG,cX,dJ,iL,dO]at K;rcases K with K|rfl
      · obtain⟨c,H,rfl⟩:=cQ.1 K
        exact cQ.2 ⟨_,By (h.cg c H).1,rfl⟩
      .exact cQ.2 ⟨_,By U,rfl⟩
    have:=eJ M hs;have h8:=t8 h.hv;rw[dN,dN]at this;show(q.aN++[(⟨p,qV q.aB (getH q.aS p) a,0,0⟩:aV)]).length<=8;omega
  · show((q.aN++[(⟨p,qV q.aB (getH q.aS p) a,0,0⟩:aV)]).map (·.aL)).Nodup
    rw[fG,jH];refine⟨h.cn,by simp,λ x K y L=>?_⟩;simp only[dJ,iL,dO]at L;obtain⟨c,H,rfl⟩:=cQ.1 K;rw[L];exact V c (dR _ H)
  · rcases cX.1 hww with hww|hww
    .exact h.cg w hww
    · rw[dO]at hww;subst hww
      exact⟨U,j1,B,F,rfl,rfl⟩
def Uh{r:aH}{p:aK}{a:aC}{pr:Int}(K:mE r a=true)(H:xJ p pr=true):oY ⟨p,a,pr,0⟩=true:=by rw[rC]at K;unfold xJ at H;simp only[bX,cD]at H;rw[<-Ke];unfold wS;rw[vN,H.1];unfold pH rX;simp;omega
def cBk{q:aA}(h:SoundP q){p:aK}{a:aC}{pr:Int}(L:mE q.aB a=true)(O:xJ p pr=true)(K:(nA q p).2=false)(U:q.aW.length<8):
    insS q.aW ⟨p,a,pr,0⟩=((claimW q p a pr).aW,(rQ q.aW ⟨p,a,pr,0⟩ q.aW.length:Int),0):=by
  unfold insS;rw[bZ (by rw[h.wv];decide),bZ (by rw[Uh L O];simp),bZ ?_,bZ om]
  .rfl
  · rw[BA]at K
    exact bXu.2 λ w H=>K w (dH _ H)
def SoundP.claimW{q:aA}(h:SoundP q){p:aK}{a:aC}{pr:Int}(K:mE q.aB a=true)(U:xJ p pr=true)(L:(nA q p).2=false)(Y:getH q.aS p=aC.zero)(hl:q.aS.length+q.aW.length<8):SoundP (claimW q p a pr):=by
  rw[BA]at L;have O:∀e∈q.aW,e.aL≠p:=λ e B=>L e (dH _ B);have V:=bZl (w:=⟨p,a,pr,0⟩) h.wv (Uh K U) O om;refine⟨h.res,h.hv,h.cl,h.cn,h.cg,V,?_,λ w H=>?_,h.gen⟩
  · have F:=Kf q.aW ⟨p,a,pr,0⟩ q.aW.length
    simp only[Ab.claimW,vO,cC,ym,dN,dC,eH];omega
  · simp only[Ab.claimW,vO,cX,cK,cQ]at H
    rcases H with H|rfl|⟨x,Z,rfl⟩
    .exact h.wg w (iD H)
    .exact⟨K,Y⟩
    .exact h.wg x (iU Z)
def SoundP.lower{q:aA}(h:SoundP q){p:aK}{a:aC}(K:(nA q p).2=false)(O:getH q.aS p≠aC.zero)(U:covA q.aB (getH q.aS p) a=true):SoundP (uQ q p a):=by
  rw[BA]at K;have L:=Ub a h.hv O;have Y:=h.wl;refine⟨h.res,cB1 h.hv O U,h.cl,h.cn,λ w H=>?_,h.wv,by simp only[uQ];omega,λ w H=>?_,h.gen⟩
  · simp only[uQ,xG (K w (dR _ H))]
    exact h.cg w H
  · simp only[uQ,xG (K w (dH _ H))]
    exact h.wg w H
def Kn{q:aA}{p:aK}{a:aC}{pr:Int}(h:(pV q p a pr).2.2=0):SoundP q/\canQ q=false/\xJ p pr=true/\mE q.aB a=true/\(nA q p).2=false/\
    ((covA q.aB (getH q.aS p) a=true/\pV q p a pr=(q,[],0))\/
     (covA q.aB (getH q.aS p) a=false/\getH q.aS p≠aC.zero/\pV q p a pr=rD (claimC q p a)/\SoundP (claimC q p a))\/
     (covA q.aB (getH q.aS p) a=false/\getH q.aS p=aC.zero/\q.aS.length+q.aW.length<8/\pV q p a pr=rD (claimW q p a pr)/\SoundP (claimW q p a pr))):=by
  unfold pV at h|-
  by_cases F:mK q=false
  .rw[cA F]at h;exact absurd h Om
  rw[bZ F]at h|-
  by_cases B:xJ p pr=false
  .rw[cA B]at h;exact absurd h Om
  rw[bZ B]at h|-
  by_cases U:mE q.aB a=false
  .rw[cA U]at h;exact absurd h Om
  rw[bZ U]at h|-
  by_cases Y:(nA q p).2=true
  .rw[cA Y]at h;exact absurd h Om
  rw[bZ Y]at h⊢;rw[fS]at F B U;rw[gJ]at Y;obtain⟨M,L⟩:=(qA q).1 F;refine⟨M,L,B,U,Y,?_⟩
  by_cases O:covA q.aB (getH q.aS p) a=true
  .rw[cA O];exact .inl ⟨O,rfl⟩
  rw[bZ O]at h⊢;rw[gJ]at O
  by_cases H:getH q.aS p≠aC.zero
  .rw[cA H];exact .inr (.inl ⟨O,H,rfl,M.claimC U Y O H⟩)
  rw[bZ H]at h|-
  by_cases K:8<=q.aS.length+q.aW.length
  .rw[cA K]at h;exact absurd h Om
  rw[bZ K];have H:=kI.1 H;exact .inr (.inr ⟨O,H,by omega,rfl,M.claimW U B Y H om⟩)
def GV{q:aA}{p:aK}(h:(pI q p).2.2=0):SoundP q/\canQ q=false/\(nA q p).2=true/\pI q p=rD (xI q p)/\SoundP (xI q p):=by
  unfold pI at h|-
  by_cases H:mK q=false
  .rw[cA H]at h;exact absurd h Om
  rw[bZ H]at h|-
  by_cases O:(nA q p).2=false
  .rw[cA O]at h;exact absurd h Om
  rw[bZ O];rw[fS]at H O;obtain⟨Y,U⟩:=(qA q).1 H;exact⟨Y,U,O,rfl,Y.cancel p⟩
def Er{q:aA}{p:aK}{a:aC}(h:(nZ q p a).2.2=0):SoundP q/\canQ q=false/\getH q.aS p≠aC.zero/\(nA q p).2=false/\covA q.aB (getH q.aS p) a=true/\
    ((getH q.aS p=a/\nZ q p a=(q,[],0))\/(getH q.aS p≠a/\nZ q p a=rD (uQ q p a)/\SoundP (uQ q p a))):=by
  unfold nZ at h|-
  by_cases U:mK q=false
  .rw[cA U]at h;exact absurd h Om
  rw[bZ U]at h|-
  by_cases Y:getH q.aS p=aC.zero
  .rw[cA Y]at h;exact absurd h Om
  rw[bZ Y]at h|-
  by_cases H:(nA q p).2=true
  .rw[cA H]at h;exact absurd h Om
  rw[bZ H]at h|-
  by_cases O:covA q.aB (getH q.aS p) a=false
  .rw[cA O]at h;exact absurd h Om
  rw[bZ O]at h⊢;rw[fS]at U O;rw[gJ]at H;obtain⟨M,F⟩:=(qA q).1 U;refine⟨M,F,Y,H,O,?_⟩
  by_cases B:getH q.aS p=a
  .rw[cA B];exact .inl ⟨B,rfl⟩
  .rw[bZ B];exact .inr ⟨B,rfl,M.lower H Y O⟩
def ND{q:aA}{p:aK}(h:(pA q p).2.2=0):SoundP q/\canQ q=false/\hasQ q p=true/\pA q p=rD (del q p)/\SoundP (del q p):=by
  unfold pA at h|-
  by_cases H:mK q=false
  .rw[cA H]at h;exact absurd h Om
  rw[bZ H]at h|-
  by_cases O:hasQ q p=false
  .rw[cA O]at h;exact absurd h Om
  rw[bZ O];rw[fS]at H O;obtain⟨Y,U⟩:=(qA q).1 H;exact⟨Y,U,O,rfl,Y.del p⟩
def ordQ(q:aA):List aV:=q.aN++q.aW
def NE{q:aA}(h:canQ q=true):ordQ q=(nR q).1::ordQ (popQ q)/\(popQ q).aS=setL q.aS (nR q).1.aL (nR q).1.aJ:=by
 cases Nx h with
 |con w F H O Y U=>rw[U,O];unfold ordQ;rw[H];exact⟨rfl,rfl⟩
 |wait w M B H O Y U=>rw[U,O];unfold ordQ;rw[B,H];exact⟨rfl,rfl⟩
def cBq{q:aA}(h:canQ q=true):sA q.aB q.aS (nR q).1.aL (nR q).1.aJ=true:=by unfold canQ at h;rw[bX]at h;exact h.2
def Ui{q:aA}{p:aK}(h:∀w∈ordQ q,w.aL≠p):getH (advS q).aS p=getH q.aS p/\∀w∈ordQ (advS q),w.aL≠p:=by
 have:=GU (P:=λ x=>getH x.aS p=getH q.aS p/\∀w∈ordQ x,w.aL≠p) (λ x O K=>by
  obtain⟨U,Y⟩:=NE O;obtain⟨B,H⟩:=K;rw[U]at H;refine⟨?_,λ w L=>H w (.tail _ L)⟩;rw[Y,xG (kS (H _ (.head _)))];exact B) q ⟨rfl,h⟩
 exact this
def GW{q:aA}(B:SoundP q)(p:aK):covA q.aB (getH (advS q).aS p) (getH q.aS p)=true:=by
 have:=GU (P:=λ x=>SoundP x/\x.aB=q.aB/\covA q.aB (getH x.aS p) (getH q.aS p)=true) (λ x O ⟨K,L,V⟩=>by
  refine⟨K.pop O,by rw[(NC x).2];exact L,?_⟩;obtain⟨e1,Z⟩:=NE O;rw[Z]
  by_cases H:p=(nR x).1.aL
  .subst H;rw[Nu];refine Kl ?_ V;cases Nx O with
   |con w cs U Y F H=>rw[Y,<-L];exact(K.cg w (by rw[U];exact .head _)).2.2.1
   |wait w ws h0 U Y F H=>rw[Y,(K.wg w (by rw[U];exact .head _)).2,<-L];have M:=(Em F).2.2.1;exact NB (qT M) (Tz M)
  .rw[xG H];exact V) q ⟨B,rfl,zT (w6 B.hv p)⟩
 exact this.2.2
def cBt{r:aH}{l:List aX}(h:oS r l=true)(p:aK):getH l p≠aC.zero↔p∈l.map (·.aL):=by
 constructor
 .intro H;exact cQ.2 ⟨_,By H,rfl⟩
 .intro H;obtain⟨x,K,rfl⟩:=cQ.1 H;rw[cAc (Kj h) K];exact rZ (((vQ _ _).1 h).2.2.1.each x K).2
def qB(q:aA)(p:aK):hasQ q p=true↔(∃w∈ordQ q,w.aL=p)\/getH q.aS p≠aC.zero:=by unfold hasQ;rw[dV,Uf,dA,xH];rfl
def cBu{q:aA}(h:SoundP q)(p:aK):hasQ q p=true↔p∈(ordQ q).map (·.aL)\/p∈q.aS.map (·.aL):=by simp only[qB,cBt h.hv,cQ]
def cBv{q:aA}(O:canQ q=true)(p:aK):hasQ (popQ q) p=hasQ q p:=by
 rw[dM,qB,qB];obtain⟨U,Y⟩:=NE O;rw[U,Y];have B:=rZ (Em (cBq O)).2.2.1
 by_cases H:p=(nR q).1.aL
 .subst H;rw[Nu];exact⟨λ _=>.inl ⟨_,.head _,rfl⟩,λ _=>.inr B⟩
 .rw[xG H];constructor
  .rintro(⟨w,hw,e⟩|h)
   .exact .inl ⟨w,.tail _ hw,e⟩
   .exact .inr h
  .rintro(⟨w,hw,e⟩|h)
   .rcases cK.1 hw with rfl|hw
    .exact absurd e.symm H
    .exact .inl ⟨w,hw,e⟩
   .exact .inr h
def Uj(q:aA)(p:aK):hasQ (advS q) p=hasQ q p:=GU (P:=λ x=>hasQ x p=hasQ q p) (λ x H h=>by rw[cBv H];exact h) q rfl
def NF(q:aA)(g:Int)(p:aK):hasQ {q with gen:=g} p=hasQ q p:=rfl
def NG{q:aA}{p:aK}{w:aV}:w∈ordQ (del q p)↔w∈ordQ q/\w.aL≠p:=by
 unfold ordQ del;simp only[cX,Bz];constructor
 .rintro(⟨a,b⟩|⟨a,b⟩)
  .exact⟨.inl a,b⟩
  .exact⟨.inr a,b⟩
 .rintro⟨a|a,b⟩
  .exact .inl ⟨a,b⟩
  .exact .inr ⟨a,b⟩
def cBz(q:aA)(p x:aK):hasQ (del q p) x=true↔hasQ q x=true/\x≠p:=by
 rw[qB,qB]
 by_cases K:x=p
 .subst K;constructor
  .rintro(⟨w,L,e⟩|h)
   .exact absurd e (NG.1 L).2
   .exact absurd (T0 _ _) h
  .rintro⟨_,h⟩;exact absurd rfl h
 .have H:getH (del q p).aS x=getH q.aS x:=Ek K _;rw[H];constructor
  .rintro(⟨w,L,e⟩|h)
   .exact⟨.inl ⟨w,(NG.1 L).1,e⟩,K⟩
   .exact⟨.inr h,K⟩
  .rintro⟨⟨w,L,e⟩|h,_⟩
   .exact .inl ⟨w,NG.2 ⟨L,by rw[e];exact K⟩,e⟩
   .exact .inr h
def remN(q:aA)(p:aK):aA:=if(pA q p).2.2=0 then(pA q p).1 else q
def vR(q:aA):(rD q).1={advS q with gen:=oO q.gen}:=rfl
def NH{q:aA}(h:mK q=true){p:aK}(H:hasQ q p=true):pA q p=rD (del q p):=by unfold pA;rw[bZ (by rw[h];decide),bZ (by rw[H];decide)]
def NI{q:aA}(h:mK q=true){p:aK}(H:hasQ q p=false):pA q p=errQ 10:=by unfold pA;rw[bZ (by rw[h];decide),cA H]
def Uk{q:aA}(h:mK q=true)(p:aK):mK (remN q p)=true:=by
 unfold remN;split
 .rename_i H;obtain⟨_,_,_,e,O⟩:=ND H;rw[e];exact Ep O
 .exact h
def Ul{q:aA}(h:mK q=true){p x:aK}(L:x≠p):covA q.aB (getH (remN q p).aS x) (getH q.aS x)=true/\(remN q p).aB=q.aB:=by
 obtain⟨H,Y⟩:=(qA q).1 h;unfold remN;cases K:hasQ q p with
 |true=>rw[NH h K,cA (show(rD (del q p)).2.2=0 from rfl),vR];have O:=GW (H.del p) x;have U:getH (del q p).aS x=getH q.aS x:=Ek L _;rw[U]at O;exact⟨O,(Ud (del q p)).2⟩
 |false=>rw[NI h K,bZ Om];exact⟨zT (w6 H.hv x),rfl⟩
def Um{q:aA}(h:mK q=true)(p x:aK):hasQ (remN q p) x=true↔hasQ q x=true/\x≠p:=by
 unfold remN;cases H:hasQ q p with
 |true=>rw[NH h H,cA (show(rD (del q p)).2.2=0 from rfl),vR,NF,Uj,cBz]
 |false=>
  rw[NI h H,bZ Om];constructor
  .intro K;exact⟨K,λ e=>by rw[e,H]at K;cases K⟩
  .exact And.left
def GX:∀{a b:List aK},a.Pairwise ltP->b.Pairwise ltP->(∀x,x∈a↔x∈b)->a=b
 |[],b,_,_,h=>by
  cases b with
  |nil=>rfl
  |cons y b=>exact absurd ((h y).2 (.head _)) (by simp)
 |x::a,[],_,_,h=>absurd ((h x).1 (.head _)) (by simp)
 |x::a,y::b,K,hb,h=>by
  rw[dB]at K hb;have H:x=y:=by
   rcases cK.1 ((h x).1 (.head _))with e|hx
   .exact e
   .rcases cK.1 ((h y).2 (.head _))with e|hy
    .exact e.symm
    .exact absurd (Bu (K.1 y hy) (hb.1 x hx)) (Ee x)
  subst H;congr 1;refine GX K.2 hb.2 λ z=>?_;have O:=h z;constructor
  .intro hm;rcases cK.1 (O.1 (.tail _ hm))with e|hm'
   .subst e;exact absurd (K.1 z hm) (Ee z)
   .exact hm'
  .intro hm;rcases cK.1 (O.2 (.tail _ hm))with e|hm'
   .subst e;exact absurd (hb.1 z hm) (Ee z)
   .exact hm'
def rR(p:aK):List aK->List aK
 |[]=>[p]
 |x::t=>if p=x then x::t else if ltP p x then p::x::t else x::rR p t
def BB{p x:aK}:∀{l:List aK},x∈rR p l↔x=p\/x∈l
 |[]=>by simp[rR]
 |y::t=>by
  simp only[rR];split
  .rename_i h;subst h;simp only[cK];constructor
   .intro h;exact .inr h
   .rintro(rfl|h)
    .exact .inl rfl
    .exact h
  .split
   .simp only[cK]
   .simp only[cK,BB (l:=t)];constructor
    .rintro(h|h|h)
     .exact .inr (.inl h)
     .exact .inl h
     .exact .inr (.inr h)
    .rintro(h|h|h)
     .exact .inr (.inl h)
     .exact .inl h
     .exact .inr (.inr h)
def BC{p:aK}:∀{l:List aK},l.Pairwise ltP->(rR p l).Pairwise ltP
 |[],_=>by simp[rR]
 |y::t,h=>by
  simp only[rR];split
  .exact h
  .rename_i H;rw[dB]at h;split
   .rename_i K;rw[dB];refine⟨λ x hx=>?_,dB.2 h⟩;rcases cK.1 hx with rfl|hx
    .exact K
    .exact Bu K (h.1 x hx)
   .rename_i K;rw[dB];refine⟨λ x hx=>?_,BC h.2⟩;rcases BB.1 hx with rfl|hx
    .rcases Bv H with h1|h1
     .exact absurd h1 K
     .exact h1
    .exact h.1 x hx
def cC9{p:aK}:∀{l:List aK},l.Pairwise ltP->p∈l->rR p l=l:=λ K H=>
 GX (BC K) K λ x=>by
  rw[BB];constructor
  .rintro(rfl|h)
   .exact H
   .exact h
  .exact .inr
def vS(l:List aK):List aK:=l.foldl (λ s p=>rR p s) []
def NJ:∀(l s:List aK),s.Pairwise ltP->(l.foldl (λ s p=>rR p s) s).Pairwise ltP/\∀x,x∈l.foldl (λ s p=>rR p s) s↔x∈s\/x∈l
 |[],s,h=>⟨h,λ x=>by simp⟩
 |p::l,s,h=>by
  obtain⟨H,O⟩:=NJ l (rR p s) (BC h);refine⟨H,λ x=>?_⟩;rw[lJ,O,BB,cK];constructor
  .rintro((h|h)|h)
   .exact .inr (.inl h)
   .exact .inl h
   .exact .inr (.inr h)
  .rintro(h|h|h)
   .exact .inl (.inr h)
   .exact .inl (.inl h)
   .exact .inr h
def GY(l:List aK):(vS l).Pairwise ltP:=(NJ l [] .nil).1
def Es{l:List aK}{x:aK}:x∈vS l↔x∈l:=by
 have:=(NJ l [] .nil).2 x;unfold vS
 simpa using this
def cCe{l s:List aK}(h:s.Pairwise ltP)(hm:∀x,x∈s↔x∈l):s=vS l:=GX h (GY l) λ x=>by rw[hm,Es]
def GZ{l:List aK}(h:l.Pairwise ltP):l.Nodup:=h.imp λ H e=>by subst e;exact Ee _ H
def G0(l:List aK):(vS l).length<=l.length:=eJ (GZ (GY l)) λ x H=>Es.1 H
def dst:List aK->List aK
 |[]=>[]
 |[x]=>[x]
 |x::y::t=>if x=y then dst (y::t)else x::dst (y::t)
def Ko:∀{l:List aK} {x:aK},x∈dst l↔x∈l
 |[],x=>by simp[dst]
 |[y],x=>by simp[dst]
 |y::z::t,x=>by
  simp only[dst];split
  .rename_i h;subst h;rw[Ko (l:=y::t)];simp
  .rw[cK,Ko (l:=z::t),cK (b:=y)]
def NK:∀{l:List aK},l.Pairwise (λ x y=>¬ltP y x)->(dst l).Pairwise ltP
 |[],_=>by simp[dst]
 |[x],_=>by simp[dst]
 |x::y::t,h=>by
  simp only[dst];rw[dB]at h;split
  .exact NK h.2
  .rename_i H;rw[dB];refine⟨λ z O=>?_,NK h.2⟩;have O:=Ko.1 O
   by_cases e:x=z
   .subst e;rcases cK.1 O with e|hz'
    .exact absurd e H
    .have U:=(dB.1 h.2).1 x hz';rcases Bv H with h3|h3
     .exact absurd h3 U
     .exact absurd h3 (h.1 y (.head _))
   .rcases Bv e with h1|h1
    .exact h1
    .exact absurd h1 (h.1 z O)
def cCj{l s:List aK}(h:s.Pairwise λ x y=>¬ltP y x)(hm:∀x,x∈s↔x∈l):dst s=vS l:=cCe (NK h) λ x=>by rw[Ko,hm]
def Un:∀(l:List aK) (x y:aK),dst (l++[x,y])=if x=y then dst (l++[x])else dst (l++[x])++[y]
 |[],x,y=>by
  by_cases h:x=y<;>simp[dst,h]
 |[a],x,y=>by
  by_cases h:x=y
  .subst h;by_cases H:a=x<;>simp[dst,H]
  .by_cases H:a=x
   .subst H;simp[dst,h]
   .simp[dst,h,H]
 |a::b::l,x,y=>by
  have O:=Un (b::l) x y;simp only[Jm,dst]at O⊢;rw[O]
  by_cases h:x=y<;>by_cases H:a=b<;>simp[h,H]
def cCl(x y:aK):¬ltP y x\/¬ltP x y:=by
 by_cases h:ltP y x
 .exact .inr (Nc h)
 .exact .inl h
def cCm(l:List aK):(l.mergeSort λ x y=>!decide (ltP y x)).Pairwise λ x y=>¬ltP y x:=by
 have:=List.pairwise_mergeSort (le:=λ x y=>!decide (ltP y x)) (λ a b c H O=>by
  simp only[dA,dL]at H O⊢;intro U
  by_cases e:b=a
  .subst e;exact O U
  .rcases Bv e with h4|h4
   .exact H h4
   .by_cases Y:b=c
    .subst Y;exact H U
    .rcases Bv Y with h5|h5
     .exact Nc (Bu U h4) h5
     .exact O h5) (λ a b=>by
  rcases cCl a b with h|h
  .simp[h]
  .simp[h]) l
 exact this.imp λ h=>by simpa using h
def ifNT{α:Type}(x y:α):(if(!true)=true then x else y)=y:=rfl
def ifTF{α:Type}(x y:α):(if true=false then x else y)=y:=rfl
def ifFT{α:Type}(x y:α):(if false=true then x else y)=y:=rfl
def cCn(l:List aK)(H:l.length<=4294967296):Da l=some (l.mergeSort λ x y=>!decide (ltP y x)):=by unfold Da;rw[lV H];congr 2
def cCo{l:List aK}{i:Nat}(h:i+1<l.length):l.take (i+2)=l.take i++[l.getD i aK.zero,l.getD (i+1) aK.zero]:=by rw[fM om,fM om,cJ];congr 1;rw[cB,cE om,cB,cE h];rfl
def NL{l:List aK}{i:Nat}(h:i<l.length):l.take (i+1)=l.take i++[l.getD i aK.zero]:=by rw[fM h];congr 1;rw[cB,cE h];rfl
def NM{l:List aK}{i:Nat}(h:i+1<l.length):dst (l.take (i+2))=if l.getD i aK.zero=l.getD (i+1) aK.zero then dst (l.take (i+1))else dst (l.take (i+1))++[l.getD (i+1) aK.zero]:=by rw[cCo h,Un,<-NL om]
def Uo{l m:List aK}{i j:Nat}(h:l.drop i=m.drop i)(H:i<=j):l.getD j aK.zero=m.getD j aK.zero:=by
 have e:∀x:List aK,x.getD j aK.zero=(x.drop i).getD (j-i) aK.zero:=λ x=>by rw[cB,cB,eC,show i+(j-i)=j by omega]
 rw[e l,e m,h]
def cCs(a:List aK)(g:Nat)(hg:1<=g)(hgl:g<a.length)(hl:a.length<=1000000)(F:a.getD g aK.zero=a.getD (g-1) aK.zero)(M:dst (a.take g)=a.take g):
  ∃x,lS (Ic a g) ((g:Int),1,a)=some x/\∃k:Nat,x.1=(k:Int)/\x.2.length=a.length/\k<=a.length/\x.2.take k=dst a:=by
 refine nM (λ s=>∃k B:Nat,s.1=(k:Int)/\s.2.1=(B:Int)/\s.2.2.length=a.length/\1<=B/\g+B<=a.length/\k+1<=g+B/\s.2.2.take k=dst (a.take (g+B))/\s.2.2.drop (g+B-1)=a.drop (g+B-1)) (λ s=>(a.length-s.2.1.toNat)) _ ?_ _ ?_
 .rintro⟨k,B,s⟩ ⟨U,H,Z,h2,L,h4,h5,h6,V,K⟩;simp only at Z h2 L V K;subst Z;subst h2;unfold Ic
  by_cases hlt:g+H<a.length
  .left;have w:IntKind.i64.wrap ((H:Int)-1)=((H-1:Nat):Int):=by rw[mB om om];omega
   have w2:IntKind.i64.wrap ((H:Int)+1)=((H+1:Nat):Int):=by rw[mB om om];omega
   have w3:IntKind.i64.wrap ((U:Int)+1)=((U+1:Nat):Int):=by rw[mB om om];omega
   have r1:s.getD (g+H) aK.zero=a.getD (g+H) aK.zero:=Uo K om;have r2:s.getD (g+(H-1)) aK.zero=a.getD (g+(H-1)) aK.zero:=Uo K om;have O:=NM (l:=a) (i:=g+(H-1)) om;rw[show g+(H-1)+2=g+(H+1)by omega,show g+(H-1)+1=g+H by omega]at O;simp only[Qm,w,w2,w3];rw[cA (by simp;omega),lV om,lV om,r1,r2]
   by_cases Y:a.getD (g+H) aK.zero=a.getD (g+(H-1)) aK.zero
   .refine⟨((U:Int),((H+1:Nat):Int),s),by rw[bZ (by simp only[Y,cF,cR,bY,iC])],⟨U,H+1,rfl,rfl,L,by omega,by omega,by omega,?_,?_⟩,by simp only[Qm];omega⟩
    .simp only;rw[V,O,cA Y.symm]
    .simp only;rw[show g+(H+1)-1=(g+H-1)+1 by omega,<-fF,<-fF,K]
   .rw[cA (by simpa using Y),lV om,lV om];refine⟨(((U+1:Nat):Int),((H+1:Nat):Int),s.set U (a.getD (g+H) aK.zero)),rfl,⟨U+1,H+1,rfl,rfl,by simp[L],by omega,by omega,by omega,?_,?_⟩,by simp only[Qm];omega⟩
    .simp only;rw[O,bZ (λ e=>Y e.symm),<-V,NL (by rw[dS];omega),List.take_set_of_le om,rK _ _ _ _ om]
    .simp only;rw[List.drop_set_of_lt om,show g+(H+1)-1=(g+H-1)+1 by omega,<-fF,<-fF,K]
  .right;refine⟨((U:Int),s),by simp only[Qm];rw[bZ (by simp;omega)],U,rfl,L,by omega,?_⟩;simp only;rw[V,eK om]
 .refine⟨g,1,rfl,rfl,rfl,by omega,by omega,by omega,?_,rfl⟩;simp only;have O:=NM (l:=a) (i:=g-1) om;rw[show g-1+2=g+1 by omega,show g-1+1=g by omega,cA F.symm,M]at O;exact O.symm
def cCt(a:List aK)(Z:a.length<=1000000):∃r,j9 a=some (dst a,r):=by
 unfold j9
 by_cases M:a.length<2
 .rw[cA (by simp;omega)];refine⟨a,?_⟩;have:dst a=a:=by
   match a,M with
   |[],_=>rfl
   |[x],_=>rfl
   |x::y::t,h=>simp at h;omega
  rw[this]
 .rw[bZ (by simp;omega)];obtain⟨x,V,Y⟩:=nM (body:=Fd a) (λ g=>∃n:Nat,g=(n:Int)/\1<=n/\n<=a.length/\dst (a.take n)=a.take n) (λ g=>a.length-g.toNat)
   (λ x=>match x with|.inl _=>dst a=a|.inr z=>z.1=dst a) (by
    rintro g ⟨n,rfl,h1,h3,L⟩;unfold Fd
    by_cases K:n<a.length
    .have w:IntKind.i64.wrap ((n:Int)-1)=((n-1:Nat):Int):=by rw[mB om om];omega
     have w2:IntKind.i64.wrap ((n:Int)+1)=((n+1:Nat):Int):=by rw[mB om om];omega
     rw[cA (by simp;omega),lV om,w,w2,lV om];simp only[Qm]
     by_cases B:a.getD n aK.zero=a.getD (n-1) aK.zero
     .right;obtain⟨x,V,k,H,F,h0,O⟩:=cCs a n h1 K Z B L;rw[cA (cP B),lV om,V];obtain⟨x1,x2⟩:=x;simp only at H F O;subst H;rw[eF];unfold L5;simp only[Qm];rw[lV om,lV om];refine⟨_,rfl,?_⟩;simp only;rw[gO,cJ,fC (by simp;omega),kW,Nat.min_self,O]
     .left;refine⟨((n+1:Nat):Int),by rw[bZ (by simpa using B)],⟨n+1,rfl,by omega,by omega,?_⟩,by simp only[Qm];omega⟩;have U:=NM (l:=a) (i:=n-1) om;rw[show n-1+2=n+1 by omega,show n-1+1=n by omega,bZ (λ e=>B e.symm),L,<-NL K]at U;exact U
    .right;refine⟨.inl (),by rw[bZ (by simp;omega)],?_⟩;simp only;rw[eK om]at L;exact L) 1 ⟨1,rfl,by omega,by omega,by
      match a,M with
      |x::t,_=>simp[dst]⟩
  rw[V];cases x with
  |inl u=>simp only at Y;refine⟨a,?_⟩;rw[Y];rfl
  |inr z=>simp only at Y;refine⟨z.2,?_⟩;rw[<-Y];rfl
def NN(l:List aK)(H:l.length<=1000000):zB l=some (vS l):=by unfold zB;rw[lV om,cCn l om,eF];obtain⟨r,h⟩:=cCt (l.mergeSort λ x y=>!decide (ltP y x)) (by rw[List.length_mergeSort];exact H);rw[h];simp only[qm];rw[cCj (cCm l) λ x=>List.mem_mergeSort]
def Up(l:List aK)(p:aK)(K:l.length<=1000000):yK l p=some (decide (p∈l)):=by
 unfold yK;have O:=vM (body:=Fr l p) l aK.zero (λ i (_:Unit)=>(i:Int)) (λ _ x _=>some (if x=p then .inr (Sum.inr true)else .inl ())) (λ _=>Sum.inl (β:=Bool) ())
  (λ i s L=>by
   unfold Fr;have U:0<=(i:Int)/\(i:Int)<(l.length:Int):=om
   simp only[U.1,U.2,cW,mD,cF,cG,Qm,lY i om,xm,cD];split<;>rfl)
  (λ s=>by unfold Fr;simp) ()
 rw[show(0:Int)=(λ(i:Nat) (_:Unit)=>(i:Int)) 0 ()from rfl,O];have H:∀(l:List aK) (i:Nat),walk (λ _ x (_:Unit)=>some (if x=p then .inr (Sum.inr true)else .inl ())) (λ _=>Sum.inl (β:=Bool) ()) l i ()=some (if p∈l then .inr true else .inl ()):=by
  intro l;induction l with
  |nil=>intro i;simp[walk]
  |cons x t Y=>
   intro i;simp only[walk]
   by_cases e:x=p
   .subst e;simp
   .simp only[e,cH,cK,λ h:p=x=>e h.symm,jG];rw[Y];have:¬p=x:=λ h=>e h.symm;simp[this]
 rw[H]
 by_cases B:p∈l<;>simp[B,Md]
def cCw(q:aA)(O:q.aN.length<=1000)(B:q.aW.length<=1000):A0 q=some ((ordQ q).map (·.aL)):=by
 unfold A0;rw[bYu q om om,eF];have K:(q.aN++q.aW).length<=2000:=by rw[cC];omega
 show _=some ((q.aN++q.aW).map (·.aL));generalize q.aN++q.aW=l at K;have H:=qS (body:=FZ l) l aV.zero (λ i (s:List aK)=>((i:Int),s)) (λ i h s=>some (.inl (rP s (some h.aL)))) (λ s=>s) (λ i s=>s.length<=i)
  (λ i s L Y=>by
   refine⟨?_,λ F h=>?_⟩
   .unfold FZ;have O:s.length+1<=4294967296:=om
    have U:0<=(i:Int)/\(i:Int)<(l.length:Int):=om
    simp only[O,U.1,U.2,cW,mD,cF,cG,Qm,lY i om,xm,wmap,rP]
   .simp only[dD,fI]at h;subst h;simp[rP];omega)
  (λ s Y=>by unfold FZ;simp) [] (by simp)
 rw[show((0,[]):Int×List aK)=(λ(i:Nat) (s:List aK)=>((i:Int),s)) 0 []from rfl,H,Ed (λ h:aV=>some h.aL)];simp[Mz]
def cCx(l:List aX)(H:l.length<=1000000):Ak l=some (l.map (·.aL)):=by have e:Ak l=Fp l:=rfl;rw[e];exact bZx l H
def rE(q:aA):List aK:=vS (q.aS.map (·.aL)++(ordQ q).map (·.aL))
def cCz(q:aA)(U:q.aS.length<=1000)(H:q.aN.length<=1000)(O:q.aW.length<=1000):Dw q=some (rE q):=by
 unfold Dw rE;have K:(ordQ q).length<=2000:=by unfold ordQ;rw[cC];omega
 rw[cCx _ om,eF,cCw q H O,eF,lV (by simp;omega),NN _ (by simp;omega)];rfl
def Uq{q:aA}(h:SoundP q){p:aK}:p∈rE q↔hasQ q p=true:=by unfold rE;rw[Es,cX,cBu h,or_comm]
def SoundP.lens{q:aA}(h:SoundP q):q.aS.length<=8/\q.aN.length<=8/\q.aW.length<=8/\oZ q<=16:=by have:=h.cl;have:=h.wl;have:=t8 h.hv;unfold oZ;omega
def cD1{q:aA}(h:SoundP q):mK q=!canQ q:=by unfold mK;rw[(Nw q).2 h,cL];rfl
def cD2(g:aA×List aX)(O:SoundP g.1)(hg:g.2.length<=1000000):DH g=some (if canQ g.1=true then .inl (zS g)else .inr g):=by
 unfold DH;rw[TQ,eF,cD1 O];cases K:canQ g.1 with
 |false=>simp
 |true=>
  obtain⟨U,_,L⟩:=Ej K;rw[cA (by simp),TP,eF,cA rfl];unfold zS popQ
  by_cases H:0<g.1.aN.length
  .rw[cA (by simpa using H),lV om,cA H];unfold Gp;rw[GO _ _ _ (by simp only;omega),eF,lV om]
  .rw[bZ (by simpa using H),bZ H];have V:0<g.1.aW.length:=by unfold oZ at U;omega
   rw[lV om];unfold Gp;rw[GO _ _ _ (by simp only;omega),eF,lV om]
def cD3{q:aA}(h:SoundP q):Bm q=some (advS q,advG q):=by
 unfold Bm;have L:=h.lens;rw[Nm,eF,(Nw q).2 h,bZ Om,Kh q om om om,eF];have H:=Tr (body:=DH) (λ g=>SoundP g.1/\oZ g.1+g.2.length<=1000) (λ g=>oZ g.1) (λ g=>advN (oZ g.1) g) (λ g hg=>by
  rw[cD2 g hg.1 om];cases K:canQ g.1 with
  |false=>right;rw[bZ Om,Nn,bZ (by rw[K];decide)]
  |true=>
   left;obtain⟨O,U,_⟩:=Ej K;refine⟨zS g,by rw[cA rfl],⟨hg.1.pop K,?_⟩,?_,?_⟩
   .unfold zS;simp only[cC,ym,Ym];omega
   .show oZ (popQ g.1)<oZ g.1;omega
   .rw[Nn g,cA K]) (q,[]) ⟨h,by simp only[Ym];omega⟩
 rw[H];rfl
def G1{q:aA}(h:SoundP q):xA q=some (rD q):=by unfold xA;rw[cD3 h,eF,bZ2];rfl
def cD5(p:aK)(pr:Int):(((!(mL p))||(decide (pr<0)))||(decide (7<pr)))=!xJ p pr:=by
 unfold xJ;generalize mL p=b;rw[dM];cases b
 .simp
 .simp
def cD6(q:aA)(p:aK)(a:aC)(pr:Int):zL q p a pr=some (pV q p a pr):=by
 unfold zL pV;rw[GS,eF];cases Z:mK q with
 |false=>rfl
 |true=>
  obtain⟨U,F⟩:=(qA q).1 Z;have hl:=U.lens;rw[ifNT,ifTF,vN,cD5];cases V:xJ p pr with
  |false=>rfl
  |true=>
   rw[ifNT,ifTF,s8];cases K:mE q.aB a with
   |false=>rfl
   |true=>
    rw[ifNT,ifTF,u7 q p om om,eF];cases L:(nA q p).2 with
    |true=>rfl
    |false=>
     rw[ifFT,ifFT,bZ4 q om om om,eF,vP q p om,eF];have Y:rJ q.aB (getH q.aS p) a=covA q.aB (getH q.aS p) a:=rfl;rw[Y];cases h5:covA q.aB (getH q.aS p) a with
     |true=>rfl
     |false=>
      rw[ifFT,ifFT,xE]
      by_cases O:getH q.aS p=aC.zero
      .rw[bZ (by rw[(uO _).2 O];decide),bZ (show¬getH q.aS p≠aC.zero fromλ k=>k O),mB om om]
       by_cases M:8<=q.aS.length+q.aW.length
       .rw[cA (by simp;omega),cA M];rfl
       .rw[bZ (by simp;omega),bZ M,bXp,eF];have hi:=cBk U K V L (p:=p) (a:=a) (pr:=pr) om;have e:({aV.zero with aL:=p,aJ:=a,bD:=pr}:aV)=⟨p,a,pr,0⟩:=rfl;rw[e,hi,bZ (by simp)];have H:=U.claimW K V L O om (p:=p) (a:=a) (pr:=pr);have B:(⟨(⟨q.aB.name,q.aB.kind,q.aB.aT,q.aB.home⟩:aH),q.aS,q.aN,(claimW q p a pr).aW,q.gen⟩:aA)=claimW q p a pr:=rfl;simp only[B];rw[G1 H];rfl
      .rw[cA (by rw[(xH _).2 O];rfl),cA O];have H:=U.claimC K L h5 O;rw[TR,eF,lV om];have B:(⟨(⟨q.aB.name,q.aB.kind,q.aB.aT,q.aB.home⟩:aH),q.aS,q.aN++[{aV.zero with aL:=p,aJ:=qV q.aB (getH q.aS p) a}],q.aW,q.gen⟩:aA)=claimC q p a:=rfl;rw[B,G1 H];rfl
def cD7(q:aA)(p:aK):DI q p=some (pI q p):=by
 unfold DI pI;rw[GS,eF];cases K:mK q with
 |false=>rfl
 |true=>
  obtain⟨H,O⟩:=(qA q).1 K;have L:=H.lens;rw[ifNT,ifTF,u7 q p om om,eF];cases V:(nA q p).2 with
  |false=>rfl
  |true=>rw[ifNT,ifTF,Kh q om om om,eF,Kg _ _ om,eF,Kg _ _ (by simp only;omega),eF];have U:({{q with aN:=rmL q.aN p}with aW:=rmL q.aW p}:aA)=xI q p:=rfl;simp only[U];rw[G1 (H.cancel p)];rfl
def cD8(q:aA)(p:aK)(a:aC):DK q p a=some (nZ q p a):=by
 unfold DK nZ;rw[GS,eF];cases K:mK q with
 |false=>rfl
 |true=>
  obtain⟨Y,B⟩:=(qA q).1 K;have Z:=Y.lens;rw[ifNT,ifTF,vP q p om,eF,xE]
  by_cases H:getH q.aS p=aC.zero
  .rw[cA ((uO _).2 H),cA H];rfl
  .rw[bZ (by rw[(xH _).2 H];decide),bZ H,u7 q p om om,eF];cases L:(nA q p).2 with
   |true=>rfl
   |false=>
    have U:rJ q.aB (getH q.aS p) a=covA q.aB (getH q.aS p) a:=rfl;rw[ifFT,ifFT,U];cases V:covA q.aB (getH q.aS p) a with
    |false=>rfl
    |true=>
     rw[ifNT,ifTF,Kh q om om om,eF]
     by_cases O:getH q.aS p=a
     .rw[cA (by simp[O]),cA O]
     .rw[bZ (by simpa using O),bZ O,GO _ _ _ om,eF];have F:({q with aS:=setL q.aS p a}:aA)=uQ q p a:=rfl;simp only[F];rw[G1 (Y.lower L H V)];rfl
def NO(q:aA)(p:aK)(U:q.aS.length<=1000000)(H:q.aN.length<=1000000)(O:q.aW.length<=1000000):n9 q p=some (hasQ q p):=by unfold n9 hasQ;rw[u7 q p H O,eF,vP q p om];cases h:(nA q p).2<;>simp[xE]
def Ur(q:aA)(p:aK):Bn q p=some (pA q p):=by
 unfold Bn pA;rw[GS,eF];cases K:mK q with
 |false=>rfl
 |true=>
  obtain⟨H,O⟩:=(qA q).1 K;have L:=H.lens;rw[ifNT,ifTF,NO q p om om om,eF];cases V:hasQ q p with
  |false=>rfl
  |true=>rw[ifNT,ifTF,Kh q om om om,eF,GO _ _ _ om,eF,Kg _ _ (by simp only;omega),eF,Kg _ _ (by simp only;omega),eF];have U:setL q.aS p ({aC.zero with})=nC p q.aS:=cA rfl;have Y:({{{q with aS:=nC p q.aS}with aN:=rmL q.aN p}with aW:=rmL q.aW p}:aA)=del q p:=rfl;simp only[U,Y];rw[G1 (H.del p)];rfl
def w7(x:aA×List aX×Int):Prop:=x.1.aS.length<=8/\x.1.aN.length<=8/\x.1.aW.length<=8/\x.2.1.length<=16
def Kp(e:Int):w7 (errQ e):=by unfold w7 errQ aA.zero;simp
def G2{q:aA}(h:SoundP q):w7 (rD q):=by have H:=(h.adv).lens;have O:=cAt q;have U:=h.lens;exact⟨H.1,H.2.1,H.2.2.1,by show(advG q).length<=16;omega⟩
def Us{q:aA}(h:SoundP q):w7 (q,[],0):=by have H:=h.lens;exact⟨H.1,H.2.1,H.2.2.1,by simp⟩
def cDf{q:aA}{p:aK}{a:aC}{pr:Int}(h:(pV q p a pr).2.2≠0):∃e,pV q p a pr=errQ e:=by
 unfold pV at h⊢;split;· exact⟨_,rfl⟩
 split;· exact⟨_,rfl⟩
 split;· exact⟨_,rfl⟩
 split;· exact⟨_,rfl⟩
 rename_i U Y B F;rw[bZ U,bZ Y,bZ B,bZ F]at h;split
 .rename_i H;rw[cA H]at h;exact absurd rfl h
 rename_i H;rw[bZ H]at h;split
 .rename_i O;rw[cA O]at h;exact absurd rfl h
 rename_i O;rw[bZ O]at h;split
 .exact⟨_,rfl⟩
 .rename_i M;rw[bZ M]at h;exact absurd rfl h
def cDg{q:aA}{p:aK}(h:(pI q p).2.2≠0):∃e,pI q p=errQ e:=by
 unfold pI at h⊢;split;· exact⟨_,rfl⟩
 split;· exact⟨_,rfl⟩
 rename_i H O;rw[bZ H,bZ O]at h;exact absurd rfl h
def cDh{q:aA}{p:aK}(h:(pA q p).2.2≠0):∃e,pA q p=errQ e:=by
 unfold pA at h⊢;split;· exact⟨_,rfl⟩
 split;· exact⟨_,rfl⟩
 rename_i H O;rw[bZ H,bZ O]at h;exact absurd rfl h
def cDi{q:aA}{p:aK}{a:aC}(h:(nZ q p a).2.2≠0):∃e,nZ q p a=errQ e:=by
 unfold nZ at h⊢;split;· exact⟨_,rfl⟩
 split;· exact⟨_,rfl⟩
 split;· exact⟨_,rfl⟩
 split;· exact⟨_,rfl⟩
 rename_i O U Y B;rw[bZ O,bZ U,bZ Y,bZ B]at h;split
 .rename_i H;rw[cA H]at h;exact absurd rfl h
 .rename_i H;rw[bZ H]at h;exact absurd rfl h
def Ut(q:aA)(p:aK)(a:aC)(pr:Int):w7 (pV q p a pr):=by
 by_cases h:(pV q p a pr).2.2=0
 .obtain⟨O,_,_,_,_,U⟩:=Kn h;rcases U with⟨_,e⟩|⟨_,_,e,H⟩|⟨_,_,_,e,H⟩
  .rw[e];exact Us O
  .rw[e];exact G2 H
  .rw[e];exact G2 H
 .obtain⟨e,Y⟩:=cDf h;rw[Y];exact Kp e
def Uu(q:aA)(p:aK):w7 (pI q p):=by
 by_cases h:(pI q p).2.2=0
 .obtain⟨_,_,_,e,H⟩:=GV h;rw[e];exact G2 H
 .obtain⟨e,O⟩:=cDg h;rw[O];exact Kp e
def Uv(q:aA)(p:aK):w7 (pA q p):=by
 by_cases h:(pA q p).2.2=0
 .obtain⟨_,_,_,e,H⟩:=ND h;rw[e];exact G2 H
 .obtain⟨e,O⟩:=cDh h;rw[O];exact Kp e
def NP(q:aA)(p:aK)(a:aC):w7 (nZ q p a):=by
 by_cases h:(nZ q p a).2.2=0
 .obtain⟨H,_,_,_,_,O⟩:=Er h;rcases O with⟨_,e⟩|⟨_,e,U⟩
  .rw[e];exact Us H
  .rw[e];exact G2 U
 .obtain⟨e,Y⟩:=cDi h;rw[Y];exact Kp e
def G3(n m:Int)(B:1<=m)(F:m<=1000000):uD n m=some (n% m):=by
  unfold uD;rw[bZ (by simp;omega),gdp om];have K:n.tmod m<m:=Int.tmod_lt_of_pos n om;have U:-m<n.tmod m:=by have:=Int.lt_tmod_of_pos n (show 0<m by omega);omega
  have e:n% m=if n.tmod m<0 then n.tmod m+m else n.tmod m:=by
    rw[Int.emod_eq_tmod]
    by_cases H:0<=n\/m∣n
    · rw[cA H]
      have:0<=n.tmod m:=by
        rcases H with h|h
        .exact Int.tmod_nonneg m h
        .rw[Int.tmod_eq_zero_of_dvd h];omega
      rw[bZ om];omega
    · rw[bZ H]
      simp only[kZ]at H;have Y:0<=(-n).tmod m:=Int.tmod_nonneg m om;rw[Int.neg_tmod]at Y;have M:n.tmod m≠0:=λ h=>H.2 (Int.dvd_of_tmod_eq_zero h);rw[cA om];omega
  rw[e]
  by_cases O:n.tmod m<0
  .rw[cA (by simpa using O),cA O,mB om om]
  .rw[bZ (by simpa using O),bZ O]
def Uw(n:Int):aK:=⟨(n% 8)% 4,1,1+(n% 8)/4⟩
def NQ(n:Int):m9 n=some (Uw n):=by unfold m9 Uw;rw[G3 n 8 Om Om,eF];have H:0<=n% 8:=jB _ Om;have O:n% 8<8:=jC _ Om;rw[Int.tmod_eq_emod_of_nonneg H,Int.tdiv_eq_ediv_of_nonneg H,mB (x:=n% 8/4) om om,mB om om]
def Ux(n:Int):Int:=CP.getD (n% 8).toNat 0
def amtM(r:aH)(n:Int):aC:=if r.kind=1 then⟨Ux n,0⟩else⟨0,1+n% r.aT⟩
def cDr(n:Int):AC n=some (Ux n):=by unfold AC;have K:(CP.length:Int)=8:=rfl;have H:0<=n% 8:=jB _ Om;have O:n% 8<8:=jC _ Om;rw[K,G3 n 8 Om Om,eF,gdp ⟨H,O⟩];rfl
def NR(r:aH)(n:Int)(O:nQ r=true):yW r n=some (amtM r n):=by
  rw[sR]at O;unfold yW amtM
  by_cases H:r.kind=1
  .simp only[H,cF,cG,cDr,qm];rfl
  · simp only[H,cO,bY,cH]
    rw[G3 n r.aT om om,eF];have U:0<=n% r.aT:=jB _ om;have Y:n% r.aT<r.aT:=jC _ om;rw[mB om om];rfl
structure TapeOk (t:bK):Prop where
  len:t.l.length<=1000000
  at_:0<=t.at_/\t.at_<=t.l.length
def qC(m:Int)(t:bK):Int:=if(t.l.length:Int)<=t.at_ then 0 else(t.l.getD t.at_.toNat 0)% m
def oA(t:bK):bK:=if(t.l.length:Int)<=t.at_ then t else{t with at_:=t.at_+1}
def BD(m:Int)(t:bK)(K:TapeOk t)(H:1<=m)(O:m<=1000000):nI m t=some (qC m t,oA t):=by
  unfold nI qC oA;have L:=K.len;have V:=K.at_
  by_cases h:(t.l.length:Int)<=t.at_
  .simp only[h,cF,cG]
  · simp only[h,cO,bY,cH]
    have U:IntKind.i64.wrap (t.at_+1)=t.at_+1:=mB om om;have Y:IntKind.i64.wrap (t.at_+1-1)=t.at_:=by rw[mB om om];omega
    simp only[U,Y];rw[gdp om,G3 _ m H O];rfl
def zU{t:bK}(h:TapeOk t):TapeOk (oA t):=by
  unfold oA;split
  .exact h
  .have:=h.at_;exact⟨h.len,by simp only;omega⟩
def Uy(t:bK):(oA t).l=t.l:=by unfold oA;split<;>rfl
def G4(m:Int)(t:bK)(H:1<=m):0<=qC m t/\qC m t<m:=by
  unfold qC;split
  .omega
  .exact⟨jB _ om,jC _ om⟩
def tR:Nat->bK->bK
  |0,t=>t
  |n+1,t=>tR n (oA t)
def catL(t:bK):List aH:=
  [⟨⟨#[97]⟩,1,1,qC 4 t⟩,⟨⟨#[98]⟩,1,1,qC 4 (oA t)⟩,⟨⟨#[99]⟩,1,1,qC 4 (tR 2 t)⟩,⟨⟨#[100]⟩,1,1,qC 4 (tR 3 t)⟩,
   ⟨⟨#[112]⟩,2,1+qC 8 (tR 4 t),qC 4 (tR 5 t)⟩,⟨⟨#[113]⟩,2,1+qC 3 (tR 6 t),qC 4 (tR 7 t)⟩]
def cDz(t:bK)(K:TapeOk t):o4 t=some (catL t,tR 8 t):=by
  unfold o4;have O:(tN.length:Int)=4:=rfl;have H:∀(i:Nat) (u:bK) (l:List aH),i<4->TapeOk u->l.length<=10->C1 ((i:Int),u,l)=some (.inl ((i:Int)+1,oA u,l++[⟨tN.getD i (⟨#[]⟩),1,1,qC 4 u⟩])):=by
    intro i u l hi L hl;unfold C1;have V:(i:Int)<4:=om
    have Z:0<=(i:Int):=om
    simp only[O,V,Z,cW,mD,cF,cG];rw[BD 4 u L Om Om,eF,gdp om,mB om om];simp only[Qm]
  have s0:=H 0 t [] Om K (by simp);have U:=zU K;have s1:=H 1 (oA t) [⟨tN.getD 0 (⟨#[]⟩),1,1,qC 4 t⟩] Om U (by simp);have Y:=zU U;have s2:=H 2 (oA (oA t)) ([⟨tN.getD 0 (⟨#[]⟩),1,1,qC 4 t⟩]++[⟨tN.getD 1 (⟨#[]⟩),1,1,qC 4 (oA t)⟩]) Om Y (by simp);have B:=zU Y;have s3:=H 3 (oA (oA (oA t))) ([⟨tN.getD 0 (⟨#[]⟩),1,1,qC 4 t⟩]++[⟨tN.getD 1 (⟨#[]⟩),1,1,qC 4 (oA t)⟩]++[⟨tN.getD 2 (⟨#[]⟩),1,1,qC 4 (oA (oA t))⟩]) Om B (by simp);have F:=zU B;have s4:∀u l,C1 ((4:Int),u,l)=some (.inr (u,l)):=λ u l=>by unfold C1;simp[O]
  rw[mF,show((0:Int),t,([]:List aH))=(((0:Nat):Int),t,[])from rfl,s0];simp only[jm];rw[mF,show((0:Nat):Int)+1=((1:Nat):Int)from rfl,s1];simp only;rw[mF,show((1:Nat):Int)+1=((2:Nat):Int)from rfl,s2];simp only;rw[mF,show((2:Nat):Int)+1=((3:Nat):Int)from rfl,s3];simp only;rw[mF,show((3:Nat):Int)+1=(4:Int)from rfl,s4];simp only[qm];unfold Mr;have M:=zU F;have o6:=zU M;have o7:=zU o6;have w8:=G4 8 (oA (oA (oA (oA t)))) Om;have w3:=G4 3 (oA (oA (oA (oA (oA (oA t)))))) Om;simp only;rw[BD 8 _ F Om Om,eF];simp only;rw[BD 4 _ M Om Om,eF,gdp (by simp)];simp only;rw[BD 3 _ o6 Om Om,eF];simp only;rw[BD 4 _ o7 Om Om,eF,gdp (by simp)];simp only;rw[mB (x:=1+qC 8 _) om om,mB (x:=1+qC 3 _) om om];rfl
def cE0(t:bK):∀r∈catL t,nQ r=true:=by
  intro r H;have O:=G4 8 (tR 4 t) Om;have U:=G4 3 (tR 6 t) Om;unfold catL at H;simp only[cK,eU,iJ]at H;rw[sR];rcases H with rfl|rfl|rfl|rfl|rfl|rfl
  .exact .inl ⟨rfl,rfl⟩
  .exact .inl ⟨rfl,rfl⟩
  .exact .inl ⟨rfl,rfl⟩
  .exact .inl ⟨rfl,rfl⟩
  .exact .inr ⟨rfl,by simp only;omega,by simp only;omega⟩
  .exact .inr ⟨rfl,by simp only;omega,by simp only;omega⟩
def Uz(r:aH):aA:={aA.zero with aB:=r}
def cE2{r:aH}(h:resV r=true):nQ r=true:=by unfold resV at h;simp only[bX]at h;exact h.2.1
def cE3{q:aA}(h:mK q=true):nQ q.aB=true:=cE2 ((qA q).1 h).1.res
def UA{α:Type}{l:List α}{i:Nat}{z:α}(h:i<l.length):l.take (i+1)=l.take i++[l.getD i z]:=by rw[fM h,cB,cE h];rfl
def w9{q:aA}(h:mK q=true):q.aS.length<=8/\q.aN.length<=8/\q.aW.length<=8/\oZ q<=16:=((qA q).1 h).1.lens
def Kq{q:aA}(h:mK q=true){p:aK}(O:hasQ q p=true):(pA q p).2.2=0/\(pA q p).1=remN q p:=by
 have e:=NH h O;have H:(pA q p).2.2=0:=by rw[e];rfl
 refine⟨H,?_⟩;unfold remN;rw[cA H]
def Kr:∀x:List UInt8,Op.bytesLess x x=false
 |[]=>rfl
 |a::x=>by simp[Op.bytesLess,Kr x]
def NS:∀{x y z:List UInt8},Op.bytesLess x y=true->Op.bytesLess y z=true->Op.bytesLess x z=true
 |x,[],z,O,_=>by cases x<;>simp[Op.bytesLess]at O
 |x,b::y,[],_,H=>by simp[Op.bytesLess]at H
 |[],b::y,c::z,_,_=>by simp[Op.bytesLess]
 |a::x,b::y,c::z,O,H=>by
  simp only[Op.bytesLess,dV,bX,cD,dI]at O H⊢;rcases O with O|⟨rfl,O⟩
  .rcases H with H|⟨rfl,H⟩
   .exact .inl (UInt8.lt_trans O H)
   .exact .inl O
  .rcases H with H|⟨rfl,H⟩
   .exact .inl H
   .exact .inr ⟨rfl,NS O H⟩
def ltN(a b:ByteArray):Prop:=Op.bytesLess a.toList b.toList=true
instance(a b:ByteArray):Decidable (ltN a b):=by unfold ltN;infer_instance
def UB{a b:ByteArray}(h:ltN a b):a≠b:=λ e=>by unfold ltN at h;rw[e,Kr]at h;cases h
def UC{a b c:ByteArray}(h:ltN a b)(k:ltN b c):ltN a c:=NS h k
def AscN(t:List aA):Prop:=t.Pairwise λ a b=>ltN a.aB.name b.aB.name
def ascW:List aA->Option ByteArray->Bool
 |[],_=>true
 |q::t,pv=>mK q&&((match pv with|none=>true|some n=>decide (ltN n q.aB.name))&&ascW t (some q.aB.name))
def UD:∀(t:List aA) (H:Option ByteArray),ascW t H=true↔(∀q∈t,mK q=true)/\AscN t/\∀n,H=some n->∀q∈t,ltN n q.aB.name
 |[],H=>by simp only[ascW,eU,jR,eZ,jA,gC,true_iff];exact .nil
 |q::t,H=>by
  simp only[ascW,bX];rw[UD t (some q.aB.name)];constructor
  .rintro⟨Y,O,B,K,M⟩;refine⟨λ x hx=>?_,dB.2 ⟨λ x hx=>M _ rfl x hx,K⟩,λ n F x hx=>?_⟩
   .rcases cK.1 hx with rfl|hx
    .exact Y
    .exact B x hx
   .subst F;simp only[cD]at O;rcases cK.1 hx with rfl|hx
    .exact O
    .exact UC O (M _ rfl x hx)
  .rintro⟨Y,O,B⟩;have U:=dB.1 O;refine⟨Y q (.head _),?_,λ x hx=>Y x (.tail _ hx),U.2,λ n F x hx=>by cases F;exact U.1 x hx⟩;cases H with
   |none=>rfl
   |some n=>exact cP (B n rfl q (.head _))
def pQ(t:List aA):Bool:=decide (t.length<=8)&&ascW t none
def nW(t:List aA):List aK:=vS (t.flatMap rE)
def uR(t:List aA):Bool:=pQ t&&decide ((nW t).length<=8)
structure ValidT (t:List aA):Prop where
 len:t.length<=8
 each:∀q∈t,mK q=true
 asc:AscN t
 aD:(nW t).length<=8
def tS(t:List aA):pQ t=true↔t.length<=8/\(∀q∈t,mK q=true)/\AscN t:=by unfold pQ;rw[bX,cD,UD];simp
def zV(t:List aA):uR t=true↔ValidT t:=by unfold uR;rw[bX,cD,tS];exact⟨λ⟨⟨H,O,U⟩,Y⟩=>⟨H,O,U,Y⟩,λ⟨H,O,U,Y⟩=>⟨⟨H,O,U⟩,Y⟩⟩
def UE{α:Type}(H t:List α)(z:α)(h:H≠[]):(H++t).getD (H.length-1) z=H.getLast h:=by have O:0<H.length:=gS.2 h;rw[cB,dU om,cE om,List.getLast_eq_getElem];rfl
def cEf(O:List aA):∀(t H:List aA),O=H++t->
  walk (λ i q (_:Unit)=>some (if mK q=true/\(i=0\/ltN (O.getD (i-1) aA.zero).aB.name q.aB.name)then Sum.inl ()else Sum.inr (Sum.inr (α:=Unit) false))) (λ _=>Sum.inl (β:=Bool) ()) t H.length ()=
   some (if ascW t (H.getLast?.map (·.aB.name))=true then .inl ()else .inr false):=by
 intro t;induction t with
 |nil=>intro H _;simp[walk,ascW]
 |cons q t F=>
  intro H K;simp only[walk];have B:(H.length=0\/ltN (O.getD (H.length-1) aA.zero).aB.name q.aB.name)↔(match H.getLast?.map (·.aB.name)with|none=>true|some n=>decide (ltN n q.aB.name))=true:=by
   by_cases U:H=[]
   .subst U;simp
   .have M:=UE H (q::t) aA.zero U;rw[K,M,jU U];have:H.length≠0:=λ e=>U (cY e);simp[this]
  by_cases e:mK q=true/\(H.length=0\/ltN (O.getD (H.length-1) aA.zero).aB.name q.aB.name)
  .rw[cA e];have:=F (H++[q]) (by rw[K];simp);rw[show(H++[q]).length=H.length+1 by simp]at this;simp only;have L:ascW (q::t) (H.getLast?.map (·.aB.name))=ascW t (some q.aB.name):=by simp only[ascW,e.1,B.1 e.2,cL]
   rw[this,L];simp
  .rw[bZ e];rw[B]at e;have V:ascW (q::t) (H.getLast?.map (·.aB.name))=false:=by
    rw[dG];intro Y;simp only[ascW,bX]at Y;exact e ⟨Y.1,Y.2.1⟩
   rw[V];rfl
def UF{body:Int->Option (Int⊕(Unit⊕Bool))}(t:List aA)(L:t.length<=8)
  (hb:∀i:Nat,i<t.length->body (i:Int)=some (if mK (t.getD i aA.zero)=true/\(i=0\/ltN (t.getD (i-1) aA.zero).aB.name (t.getD i aA.zero).aB.name)then .inl ((i+1:Nat):Int)else .inr (.inr false)))
  (O:body (t.length:Int)=some (.inr (.inl ()))):lS body 0=some (if ascW t none=true then .inl ()else .inr false):=by
 have H:=vM (body:=body) t aA.zero (λ i (_:Unit)=>(i:Int)) (λ i q _=>some (if mK q=true/\(i=0\/ltN (t.getD (i-1) aA.zero).aB.name q.aB.name)then Sum.inl ()else Sum.inr (Sum.inr (α:=Unit) false))) (λ _=>Sum.inl (β:=Bool) ())
  (λ i s K=>by
   rw[hb i K,lG];split<;>rfl) (λ s=>O) ()
 have:=cEf t t [] rfl;rw[show(0:Int)=(λ(i:Nat) (_:Unit)=>(i:Int)) 0 ()from rfl,H];exact this
def Et(t:List aA)(h:∀q∈t,mK q=true):(t.flatMap rE).length<=24*t.length:=by
 induction t with
 |nil=>simp
 |cons q t H=>
  have U:=w9 (h q (.head _));have O:=G0 (q.aS.map (·.aL)++(ordQ q).map (·.aL));have Y:=H λ x K=>h x (.tail _ K);have B:(rE q).length<=24:=by unfold rE;unfold ordQ at*;simp only[cC,dN]at O;omega
  rw[fN,cC,lE];omega
def NT{α β X:Type}(f:α->List β)(H:List β->X):∀(l:List α) (i:Nat) (s:List β),walk (λ _ a s=>some (.inl (s++f a))) H l i s=some (H (s++l.flatMap f))
 |[],i,s=>by simp[walk]
 |a::l,i,s=>by simp only[walk,fN];rw[NT f H l (i+1),cJ]
def mN{α:Type}{l:List α}{i:Nat}{z:α}(h:i<l.length):l.getD i z∈l:=by rw[cB,cE h];exact iK h
def UG{q:aA}(h:mK q=true):(rE q).length<=24:=by
 have:=Et [q] λ x H=>by rw[dO]at H;rw[H];exact h
 simpa using this
def cEk{t:List aA}(L:t.length<=8)(h:∀q∈t,mK q=true):Bg t=some (nW t):=by
 unfold Bg;have H:=qS (body:=Gb t) t aA.zero (λ i (s:List aK)=>((i:Int),s)) (λ _ q s=>some (.inl (s++rE q))) (λ s=>s) (λ i s=>s.length<=24*i)
  (λ i s K Y=>by
   have O:=h _ (mN (z:=aA.zero) K);have B:=w9 O;have F:=UG O;refine⟨?_,λ M h=>?_⟩
   .unfold Gb;have U:0<=(i:Int)/\(i:Int)<(t.length:Int):=om
    simp only[U.1,U.2,cW,mD,cF,cG,Qm];rw[cCz _ om om om,eF,lV om,lY i om];rfl
   .simp only[dD,fI]at h;subst h;rw[cC];omega)
  (λ s Y=>by unfold Gb;simp) [] (by simp)
 rw[show((0,[]):Int×List aK)=(λ(i:Nat) (s:List aK)=>((i:Int),s)) 0 []from rfl,H,NT rE,lD,eF];unfold MU;have:=Et t h;rw[NN _ om];rfl
def NU{α:Type}(l:List α)(z:α)(p:α->Bool){body:Int->Option (Int⊕(Unit⊕Int))}(hb:∀i:Nat,i<l.length->body (i:Int)=some (if p (l.getD i z)=true then .inr (.inr (i:Int))else .inl ((i+1:Nat):Int)))
  (Y:body (l.length:Int)=some (.inr (.inl ()))):lS body 0=some (match l.findIdx? p with|some i=>.inr (i:Int)|none=>.inl ()):=by
 have O:=vM (body:=body) l z (λ i (_:Unit)=>(i:Int)) (λ i a _=>some (if p a=true then .inr (Sum.inr (α:=Unit) (i:Int))else .inl ())) (λ _=>Sum.inl (β:=Int) ())
  (λ i s K=>by rw[hb i K,lG];split<;>rfl) (λ s=>Y) ()
 have H:∀(l:List α) (i:Nat),walk (λ i a (_:Unit)=>some (if p a=true then .inr (Sum.inr (α:=Unit) (i:Int))else .inl ())) (λ _=>Sum.inl (β:=Int) ()) l i ()=some (match l.findIdx? p with|some j=>.inr ((i+j:Nat):Int)|none=>.inl ()):=by
  intro l;induction l with
  |nil=>intro i;rfl
  |cons a l B=>
   intro i;simp only[walk,List.findIdx?_cons]
   by_cases U:p a=true
   .simp[U]
   .simp only[U,bY,cH];rw[B (i+1)];cases l.findIdx? p with
    |none=>rfl
    |some j=>simp only[xm];rw[show i+1+j=i+(j+1)by omega]
 have:=H l 0;simp only[dY]at this;rw[show(0:Int)=(λ(i:Nat) (_:Unit)=>(i:Int)) 0 ()from rfl,O];exact this
def isN(nm:ByteArray)(q:aA):Bool:=q.aB.name.toList==nm.toList
def UH{nm:ByteArray}{q:aA}:isN nm q=true↔q.aB.name=nm:=by unfold isN;rw[dI];exact xZ
def nD(t:List aA)(nm:ByteArray):Int:=match t.findIdx? (isN nm)with
 |some i=>i
 |none=>-1
def G5{t:List aA}{nm:ByteArray}:nD t nm=-1\/∃i:Nat,nD t nm=i/\i<t.length/\(t.getD i aA.zero).aB.name=nm:=by
 unfold nD;cases h:t.findIdx? (isN nm)with
 |none=>exact .inl rfl
 |some i=>right;obtain⟨H,O,_⟩:=hY.1 h;refine⟨i,rfl,H,?_⟩;rw[cB,cE H];exact UH.1 O
def NV{t:List aA}(h:AscN t){i j:Nat}(hi:i<t.length)(H:j<t.length)(e:(t.getD i aA.zero).aB.name=(t.getD j aA.zero).aB.name):i=j:=by
 have O:=fE.1 h;have g:∀k,(U:k<t.length)->t.getD k aA.zero=t[k]:=λ k U=>by rw[cB,cE U];rfl
 rw[g i hi,g j H]at e;rcases Nat.lt_trichotomy i j with h1|h1|h1
 .exact absurd e (UB (O i j hi H h1))
 .exact h1
 .exact absurd e.symm (UB (O j i H hi h1))
def Ks{t:List aA}(h:AscN t){i:Nat}(hi:i<t.length):nD t (t.getD i aA.zero).aB.name=i:=by
 rcases G5 (t:=t) (nm:=(t.getD i aA.zero).aB.name)with H|⟨j,H,O,U⟩
 .unfold nD at H;cases K:t.findIdx? (isN (t.getD i aA.zero).aB.name)with
  |some k=>rw[K]at H;simp only at H;omega
  |none=>have:=kC.1 K (t.getD i aA.zero) (mN hi);rw[dG]at this;exact absurd (UH.2 rfl) this
 .rw[H,NV h O hi U]
def cEq(x:aK)(s:List aK)(B:s.Pairwise ltP)(hx:x∉s)(hl:s.length<=1000000):lS (FG) ((s.length:Int),s++[x])=some (rR x s):=by
 obtain⟨r,h1,h2⟩:=nM (body:=FG) (λ g=>∃U O:List aK,g=((U.length:Int),U++x::O)/\U++O=s/\∀y∈O,ltP x y) (λ g=>g.1.toNat) (λ r=>r=rR x s) (by
  rintro g ⟨U,O,rfl,K,hpost⟩;have y0:U.length+O.length=s.length:=by rw[<-K,cC]
  unfold FG;simp only[cC,ym]
  by_cases L:U=[]
  .right;subst L;refine⟨_,by rw[lV (by simp),lV (by simp),bZ (by simp)],?_⟩;simp only[jm]at K⊢;subst K;refine GX (dB.2 ⟨hpost,B⟩) (BC B) λ y=>?_;rw[BB,cK]
  .obtain⟨H,y,rfl⟩:∃p' y,U=p'++[y]:=⟨U.dropLast,U.getLast L,(List.dropLast_concat_getLast L).symm⟩;have hk:(H++[y]).length=H.length+1:=by simp
   rw[hk]at y0⊢;have w:IntKind.i64.wrap (((H.length+1:Nat):Int)-1)=(H.length:Int):=by rw[mB om om];omega
   have e1:(H++[y]++x::O).getD H.length aK.zero=y:=by simp[cB]
   have e2:(H++[y]++x::O).getD (H.length+1) aK.zero=x:=by simp[cB]
   have V:0<=(H.length:Int)/\(H.length:Int)<((H.length+1+(O.length+1):Nat):Int):=om
   have Z:0<=((H.length+1:Nat):Int)/\((H.length+1:Nat):Int)<((H.length+1+(O.length+1):Nat):Int):=om
   have F:decide (0<((H.length+1:Nat):Int))=true:=cP om;simp only[w,Qm,e1,e2,F,cL];rw[lV (λ _=>V),lV (λ _=>Z)];have hlt:decide (0<uH y x)=decide (ltP x y):=by rw[iW];exact Nd y x
   rw[hlt]
   by_cases Y:ltP x y
   .left;rw[cA (cP Y),lV V,lV Z,lV V,lV Z];refine⟨((H.length:Int),H++x::(y::O)),?_,⟨H,y::O,rfl,by rw[<-K];simp,λ z hz=>?_⟩,by simp only[Qm];omega⟩
    .congr 3;rw[cJ,hX _ _ (dE _),iA,hX _ _ om,show H.length+1-H.length=1 by omega];rfl
    .rcases cK.1 hz with rfl|hz
     .exact Y
     .exact hpost z hz
   .right;refine⟨_,by rw[bZ (by simpa using Y)],?_⟩;have M:ltP y x:=by
     rcases Bv (p:=x) (q:=y) (λ e=>hx (by rw[<-K,e];simp))with h|h
     .exact absurd h Y
     .exact h
    rw[<-K]at B;obtain⟨a1,a2,a3⟩:=fP.1 B;obtain⟨b1,b2,b3⟩:=fP.1 a1;have x0:∀z∈H++[y],ltP z x:=λ z hz=>by
     rcases cX.1 hz with hz|hz
     .exact Bu (b3 z hz y (by simp)) M
     .rw[dO]at hz;rw[hz];exact M
    rw[<-K];refine GX (fP.2 ⟨a1,dB.2 ⟨hpost,a2⟩,λ z hz u hu=>?_⟩) (BC B) λ z=>?_
    .rcases cK.1 hu with rfl|hu
     .exact x0 z hz
     .exact a3 z hz u hu
    .rw[BB];simp only[cX,cK,dO];constructor
     .rintro((h|h)|h|h)
      .exact .inr (.inl (.inl h))
      .exact .inr (.inl (.inr h))
      .exact .inl h
      .exact .inr (.inr h)
     .rintro(h|(h|h)|h)
      .exact .inr (.inl h)
      .exact .inl (.inl h)
      .exact .inl (.inr h)
      .exact .inr (.inr h)) ((s.length:Int),s++[x]) ⟨s,[],by simp,by simp,by simp⟩
 rw[h1,h2]
def NW(l:List aK)(L:l.length<=1000000):yT l=some (vS l):=by
 unfold yT;have O:=qS (body:=AL l) l aK.zero (λ i (s:List aK)=>((i:Int),s)) (λ _ p s=>some (.inl (rR p s))) (λ s=>s) (λ i s=>s.Pairwise ltP/\s.length<=i)
  (λ i s V H=>by
   have K:∀p,(rR p s).length<=s.length+1:=λ p=>by
    have:=eJ (GZ (BC (p:=p) H.1)) (l₂:=p::s) λ z Y=>by
     rcases BB.1 Y with rfl|h
     .exact .head _
     .exact .tail _ h
    simpa using this
   refine⟨?_,λ B h=>?_⟩
   .unfold AL;have U:0<=(i:Int)/\(i:Int)<(l.length:Int):=om
    simp only[U.1,U.2,cW,mD,cF,cG,Qm];rw[Up _ _ om,eF,lY i om]
    by_cases hm:l.getD i aK.zero∈s
    .rw[cA (cP hm),lG,cC9 H.1 hm];rfl
    .rw[bZ (by rw[cD];exact hm),lV om,cEq _ _ H.1 hm om,eF];unfold Mp;simp only[lY i (show i<4611686018427387904 by omega),xm,wmap]
   .simp only[dD,fI]at h;subst h;exact⟨BC H.1,by have:=K (l.getD i aK.zero);omega⟩)
  (λ s H=>by unfold AL;simp) [] ⟨.nil,by simp⟩
 rw[show((0,[]):Int×List aK)=(λ(i:Nat) (s:List aK)=>((i:Int),s)) 0 []from rfl,O,TY (λ s p=>rR p s)];rfl
def x3{α β:Type}(l:List α)(z:α)(f:α->β)(s0:List β){body:Int×List β->Option ((Int×List β)⊕List β)}(L:l.length<=1000000)(Y:s0.length<=1000000)
  (hb:∀(i:Nat) (s:List β),i<l.length->s.length<=3000000->body ((i:Int),s)=some (.inl (((i+1:Nat):Int),s++[f (l.getD i z)]))) (O:∀s,body ((l.length:Int),s)=some (.inr s)):lS body (0,s0)=some (s0++l.map f):=by
 have H:=qS (body:=body) l z (λ i (s:List β)=>((i:Int),s)) (λ i a s=>some (.inl (rP s (some (f a))))) (λ s=>s) (λ i s=>s.length<=1000000+i)
  (λ i s K U=>⟨by rw[hb i s K om];rfl,λ B h=>by simp only[dD,fI]at h;subst h;simp[rP];omega⟩) (λ s U=>O s) s0 om
 rw[show((0,s0):Int×List β)=(λ(i:Nat) (s:List β)=>((i:Int),s)) 0 s0 from rfl,H,Ed (λ a=>some (f a))];simp
def cEt(l:List aX)(K:l.length<=1000000):Ao l=some (l.map (·.aL)):=by
 unfold Ao;rw[x3 l aX.zero (·.aL) [] K (by simp) (λ i s L U=>by
  unfold Ii;have H:0<=(i:Int)/\(i:Int)<(l.length:Int):=om
  have O:s.length+1<=4294967296:=om
  simp only[O,H.1,H.2,cW,mD,cF,cG,lA,lY i (show i<4611686018427387904 by omega)]) (λ s=>by unfold Ii;simp)]
 rfl
def cEu(q:aA)(O:q.aN.length<=1000)(Y:q.aW.length<=1000):As q=some ((ordQ q).map (·.aL)):=by
 unfold As;rw[x3 q.aN aV.zero (·.aL) [] om (by simp) (λ i s K U=>by
  unfold Iu;have H:0<=(i:Int)/\(i:Int)<(q.aN.length:Int):=om
  have O:s.length+1<=4294967296:=om
  simp only[O,H.1,H.2,cW,mD,cF,cG,lA,lY i (show i<4611686018427387904 by omega)]) (λ s=>by unfold Iu;simp),eF]
 unfold It;rw[x3 q.aW aV.zero (·.aL) _ om (by simp;omega) (λ i s K U=>by
  unfold Is;have H:0<=(i:Int)/\(i:Int)<(q.aW.length:Int):=om
  have O:s.length+1<=4294967296:=om
  simp only[O,H.1,H.2,cW,mD,cF,cG,lA,lY i (show i<4611686018427387904 by omega)]) (λ s=>by unfold Is;simp),eF]
 unfold L9 ordQ;rw[fG,lD]
def cEv(q:aA)(U:q.aS.length<=1000)(H:q.aN.length<=1000)(O:q.aW.length<=1000):AT q=some (rE q):=by
 unfold AT rE;have K:(ordQ q).length<=2000:=by unfold ordQ;rw[cC];omega
 rw[cEt _ om,eF,cEu q H O,eF,lV (by simp;omega),NW _ (by simp;omega)];rfl
def Kt{t:List aA}(L:t.length<=8)(h:∀q∈t,mK q=true):zA t=some (nW t):=by
 unfold zA;have H:=qS (body:=F3 t) t aA.zero (λ i (s:List aK)=>((i:Int),s)) (λ _ q s=>some (.inl (s++rE q))) (λ s=>s) (λ i s=>s.length<=24*i)
  (λ i s K Y=>by
   have O:=h _ (mN (z:=aA.zero) K);have B:=w9 O;have F:=UG O;refine⟨?_,λ M h=>?_⟩
   .unfold F3;have U:0<=(i:Int)/\(i:Int)<(t.length:Int):=om
    simp only[U.1,U.2,cW,mD,cF,cG,Qm];rw[cEv _ om om om,eF,lV om,lY i om];rfl
   .simp only[dD,fI]at h;subst h;rw[cC];omega)
  (λ s Y=>by unfold F3;simp) [] (by simp)
 rw[show((0,[]):Int×List aK)=(λ(i:Nat) (s:List aK)=>((i:Int),s)) 0 []from rfl,H,NT rE,lD,eF];unfold ML;have:=Et t h;rw[NW _ om];rfl
def UI(t:List aA):q9 t=some (pQ t):=by
 unfold q9 pQ
 by_cases U:8<t.length
 .have:¬t.length<=8:=om
  rw[cA (by simp;omega)];simp[this]
 .have K:t.length<=8:=om
  rw[bZ (by simp;omega),UF t K (λ i L=>by
   unfold JF;have H:0<=(i:Int)/\(i:Int)<(t.length:Int):=om
   simp only[H.1,H.2,cW,eZ,mD,cF,cG,lA,GS,eF,lY i om]
   by_cases O:i=0
   .subst O;rw[lV (by simp)];cases mK (t.getD 0 aA.zero)<;>simp
   .rw[zR i om om,lV (by intro _;omega)];simp only[lA,show(0:Int)<(i:Int)by omega,cF,cL,O,jG];unfold ltN;rcases hb (mK (t.getD i aA.zero))with b1|b1<;>rcases hb (Op.bytesLess (t.getD (i-1) aA.zero).aB.name.toList (t.getD i aA.zero).aB.name.toList)with b2|b2<;>simp[b1,b2,-List.getD_eq_getElem?_getD]) (by unfold JF;simp)]
  simp only[K,cF,cL];cases V:ascW t none<;>rfl
def G6(t:List aA):wZ t=some (uR t):=by
 unfold wZ uR;rw[UI,eF];cases K:pQ t with
 |false=>rfl
 |true=>obtain⟨H,O,_⟩:=(tS t).1 K;rw[cA rfl,Kt H O,eF,cL];congr 1;rw[dM];simp;omega
def zW(t:List aA)(nm:ByteArray)(K:t.length<=1000000):rY t nm=some (nD t nm):=by
 unfold rY;rw[NU t aA.zero (isN nm) (λ i L=>by
  unfold H8 isN;have H:0<=(i:Int)/\(i:Int)<(t.length:Int):=om
  simp only[H.1,H.2,cW,mD,cF,cG,lA,lY i om];split<;>rfl) (by unfold H8;simp)]
 unfold nD;cases t.findIdx? (isN nm)<;>rfl
def cEz(a b:List aA)(h:a.length=b.length)(V:a.length<=1000000)(O:∀q∈a,q.aS.length<=1000/\q.aN.length<=1000/\q.aW.length<=1000):
  lS (CW a b) 0=some (if a=b then .inl ()else .inr false):=by
 have H:lS (CW a b) 0=some ((pP (λ i=>if decide (a.getD i aA.zero=b.getD i aA.zero)=true then none else some (Sum.inr false)) a.length 0).getD (Sum.inl ())):=by
  refine sQ a.length _ (Sum.inl ()) (λ i K=>?_) ?_
  .have U:=O _ (mN (z:=aA.zero) K);unfold CW;rw[cA (by simpa using K),lV om,lV om,mB om om];simp only[Qm];rw[bYs _ _ om om om,eF]
   by_cases L:a.getD i aA.zero=b.getD i aA.zero
   .simp only[L,cF,cR,bY,cH,cG]
   .simp only[L,cO,dK,cG,bY,cH]
  .unfold CW;rw[bZ (by simp)]
 rw[H,tQ,<-eP,Ts a b aA.zero h]
 by_cases e:a=b<;>simp[e]
def UJ(a b:List aA)(K:a.length<=1000000)(H:∀q∈a,q.aS.length<=1000/\q.aN.length<=1000/\q.aW.length<=1000):AI a b=some (decide (a=b)):=by
 unfold AI
 by_cases h:a.length=b.length
 .rw[bZ (by simp[h]),cEz a b h K H]
  by_cases e:a=b<;>simp[e,Mn]
 .have:¬a=b:=λ e=>h (by rw[e]);rw[cA (by simp;omega),fH this]
end Ab
end Go.Proofs.YtfmnjkfhahfhgaaGreatDoor
