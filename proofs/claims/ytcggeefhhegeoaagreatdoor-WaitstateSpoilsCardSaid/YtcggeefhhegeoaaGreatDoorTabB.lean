import Derived.Test.YtcggeefhhegeoaaGreatDoorLinB
namespace Go.Proofs.YtcggeefhhegeoaaGreatDoor
namespace Ab
set_option linter.unusedVariables false
set_option linter.unusedSimpArgs false
theorem zbT8 {p:aJ} {l:List aY} {h:aY}:h ∈ zx6 p l ↔ h ∈ l∧h.aP≠p:=by unfold zx6; simp
theorem zdi1 {l m:List aC} (h:l.Sublist m) (hn:∀ a ∈ m,0≤a.aT):sumU l≤sumU m:=by
 induction h with
 | slnil=>exact eH _
 | cons a h ih =>
  have:=ih fun b hb=>hn b (.tail _ hb)
  have:=hn a (.head _)
  simp only [sumU]; omega
 | cons_cons a h ih =>
  have:=ih fun b hb=>hn b (.tail _ hb)
  simp only [sumU]; omega
theorem CompP.sub {r:aH} {l m:List aC} (h:CompP r m) (hs:l.Sublist m):CompP r l where
 perm:=fun a ha=>h.perm a (hs.subset ha)
 sum:=Int.le_trans (zdi1 hs fun a ha=>(zai0 (h.perm a ha)).1) h.sum
 pair:=h.pair.sublist hs
theorem GoodP.sub {r:aH} {l m:List aY} (h:GoodP r m) (hs:l.Sublist m):GoodP r l:=⟨fun x hx=>h.each x (hs.subset hx),h.asc.sublist hs⟩
theorem zZ0 (r:aH) (l:List aY):zM6 r l=true ↔ zh0 r=true∧l.length≤8∧GoodP r l∧CompP r (l.map (·.aK)):=by
 unfold zM6; simp
theorem zbs8 {r:aH} {l m:List aY} (h:zM6 r m=true) (hs:l.Sublist m):zM6 r l=true:=by
 rw [zZ0] at h ⊢
 exact ⟨h.1,eJ hs.length_le h.2.1,h.2.2.1.sub hs,h.2.2.2.sub (hs.map _)⟩
theorem zbs9 (p:aJ) (l:List aY):(zx6 p l).Sublist l:=iW
theorem zbD0 (p:aJ) (a:aC) (l:List aY):(insP p a l).Perm (⟨p,a⟩ :: l):=by
 induction l with
 | nil=>exact iZ _
 | cons h t ih =>
  simp only [insP]
  split
  ·exact iZ _
  ·exact (List.Perm.cons h ih).trans (List.Perm.swap _ _ _)
theorem zcu7 {p:aJ} {a:aC}:∀ {l:List aY},l.Pairwise (fun a b=>ltP a.aP b.aP)→(∀ h ∈ l,h.aP≠p)→(insP p a l).Pairwise fun a b=>ltP a.aP b.aP
 | [],_,_=>by simp [insP]
 | h :: t,hp,hn=>by
  rw [cX] at hp
  simp only [insP]
  split
  ·rename_i hlt
   rw [cX]
   refine ⟨fun x hx=>?_,cX.2 hp⟩
   rcases cJ.1 hx with rfl|hx
   ·exact hlt
   ·exact zaD2 hlt (hp.1 x hx)
  ·rename_i hlt
   rw [cX]
   refine ⟨fun x hx=>?_,zcu7 hp.2 fun x hx=>hn x (.tail _ hx)⟩
   rcases cJ.1 ((zbD0 p a t).mem_iff.1 hx) with rfl|hx
   ·rcases zaD3 (hn h (.head _)) with h1|h1
    ·exact h1
    ·exact absurd h1 hlt
   ·exact hp.1 x hx
theorem zbD1 {l m:List aC} (h:l.Perm m):sumU l=sumU m:=by
 induction h with
 | nil=>rfl
 | cons a _ ih=>simp only [sumU,ih]
 | swap a b l=>simp only [sumU]; omega
 | trans _ _ ih1 ih2=>exact ih1.trans ih2
theorem zba1 {a b:aC} (h:¬ zas8 a b):¬ zas8 b a:=fun ⟨h1,h2,h3⟩=>h ⟨h2,h1,by rw [zbM2]; exact h3⟩
theorem CompP.perm_iff {r:aH} {l m:List aC} (h:l.Perm m):CompP r l ↔ CompP r m:=by
 constructor
 ·intro k
  exact ⟨fun a ha=>k.perm a (h.mem_iff.2 ha),by rw [← zbD1 h]; exact k.sum,(h.pairwise_iff (fun h=>zba1 h)).1 k.pair⟩
 ·intro k
  exact ⟨fun a ha=>k.perm a (h.mem_iff.1 ha),by rw [zbD1 h]; exact k.sum,(h.pairwise_iff (fun h=>zba1 h)).2 k.pair⟩
theorem zcu8 {r:aH} {l:List aY} {p:aJ} {a:aC} (hv:zM6 r l=true) (hp:zb2 p=true) (ha:zb4 r a=true) (hlen:(zx6 p l).length+1≤8) :
  zaJ9 r l p a=true ↔ (∀ h ∈ zx6 p l,¬ zas8 h.aK a)∧a.aT+sumU ((zx6 p l).map (·.aK))≤r.aT:=by
 have hv':=(zZ0 r l).1 hv
 have hz:=zae8 ha
 have ho:=zbs8 hv (zbs9 p l)
 have ho':=(zZ0 r _).1 ho
 have hpr:zal8 r l p a=true:=by unfold zal8; simp [hv,hp,ha]
 have hpm:((insP p a (zx6 p l)).map (·.aK)).Perm (a :: (zx6 p l).map (·.aK)):=(zbD0 p a (zx6 p l)).map _
 unfold zaJ9
 rw [hpr,cN,zZ0]
 unfold setL
 rw [bW hz,CompP.perm_iff hpm]
 constructor
 ·rintro ⟨_,_,_,h4⟩
  refine ⟨fun h hh=>?_,h4.sum⟩
  have:=(cX.1 h4.pair).1 h.aK (cR.2 ⟨h,hh,rfl⟩)
  exact zba1 this
 ·rintro ⟨h1,h2⟩
  refine ⟨hv'.1,by rw [zbw6]; exact hlen,⟨fun x hx=>?_,zcu7 ho'.2.2.1.asc fun h hh=>(zbT8.1 hh).2⟩,⟨fun b hb=>?_,h2,?_⟩⟩
  ·rcases cJ.1 ((zbD0 p a _).mem_iff.1 hx) with rfl|hx
   ·exact ⟨hp,ha⟩
   ·exact ho'.2.2.1.each x hx
  ·rcases cJ.1 hb with rfl|hb
   ·exact zE7 ha
   ·exact ho'.2.2.2.perm b hb
  ·rw [cX]
   refine ⟨fun b hb=>?_,ho'.2.2.2.pair⟩
   obtain ⟨h,hh,rfl⟩:=cR.1 hb
   exact zba1 (h1 h hh)
theorem zbT9 {α S X:Type} (f:S→α→S) (fin:S→X):∀ (l:List α) (i:Nat) (s:S),walk (fun _ a s=>some (.inl (f s a))) fin l i s=some (fin (l.foldl f s))
 | [],_,_=>rfl
 | a :: l,i,s=>by simp only [walk,List.foldl_cons]; exact zbT9 f fin l (i+1) _
theorem zdi2 (l:List aY) (hl:l.length≤1000000):zi3 l=some (l.map (·.aP)):=by
 unfold zi3
 have key:=zE6 (body:=zX9 l) l aY.zero (fun i (s:List aJ)=>((i:Int),s)) (fun i h s=>some (.inl (zaH6 s (some h.aP)))) (fun s=>s) (fun i s=>s.length≤i)
  (fun i s hi hs=>by
   refine ⟨?_,fun s' h=>?_⟩
   ·unfold zX9
    have h1:s.length+1≤4294967296:=by omega
    have h3:0≤(i:Int)∧(i:Int) < (l.length:Int):=by omega
    simp only [h1,h3.1,h3.2,cW,zo2,cF,cE,Int.toNat_natCast,zd0 i (by omega),Option.map_some,wmap,zaH6]
   ·simp only [cV,eW] at h; subst h; simp [zaH6]; omega)
  (fun s hs=>by unfold zX9; simp) [] (by simp)
 rw [show ((0,[]):Int×List aJ)=(fun (i:Nat) (s:List aJ)=>((i:Int),s)) 0 [] from rfl,key,zaL2 (fun h:aY=>some h.aP)]
 simp [zau6]
theorem zcL8 {α:Type} {P:α→Prop} {l:List α} {z:α}:(∀ i,i < l.length→P (l.getD i z)) ↔ ∀ w ∈ l,P w:=by
 constructor
 ·intro h w hw
  obtain ⟨i,hi,rfl⟩:=fN.1 hw
  have:=h i hi
  rwa [bZ,cC hi] at this
 ·intro h i hi
  refine h _ ?_
  rw [bZ,cC hi]
  exact gL hi
theorem zdG5 (p:aJ):getH [] p=aC.zero:=rfl
theorem zab0 (h:aY) (t:List aY) (p:aJ):getH (h :: t) p=if h.aP=p then h.aK else getH t p:=by
 unfold getH
 rw [List.find?_cons]
 by_cases e:h.aP=p <;> simp [e]
theorem zaW9 (p:aJ) (l:List aY):getH (zx6 p l) p=aC.zero:=by
 induction l with
 | nil=>rfl
 | cons h t ih =>
  rw [zaH7]
  by_cases e:h.aP=p
  ·simp only [e,cE]; exact ih
  ·simp only [e,cD,zab0]; exact ih
theorem zah4 {p q:aJ} (hq:q≠p) (l:List aY):getH (zx6 p l) q=getH l q:=by
 induction l with
 | nil=>rfl
 | cons h t ih =>
  rw [zaH7]
  by_cases e:h.aP=p
  ·simp only [e,cE,zab0]
   rw [bW (fun e2=>hq e2.symm)]; exact ih
  ·simp only [e,cD,zab0]
   split
   ·rfl
   ·exact ih
theorem zbi8 (p:aJ) (a:aC):∀ l:List aY,(∀ h ∈ l,h.aP≠p)→getH (insP p a l) p=a
 | [],_=>by simp [insP,zab0]
 | h :: t,hh=>by
  simp only [insP]
  split
  ·simp [zab0]
  ·simp only [zab0,hh h (.head _),cD]
   exact zbi8 p a t fun x hx=>hh x (.tail _ hx)
theorem zbx2 {p q:aJ} (a:aC) (hq:q≠p):∀ l:List aY,getH (insP p a l) q=getH l q
 | []=>by simp only [insP,zab0]; rw [bW (fun e:p=q=>hq e.symm)]
 | h :: t=>by
  simp only [insP]
  split
  ·simp only [zab0]; rw [bW (fun e:p=q=>hq e.symm)]
  ·simp only [zab0]
   split
   ·rfl
   ·exact zbx2 a hq t
theorem zaO0 (l:List aY) (p:aJ) (a:aC):getH (setL l p a) p=a:=by
 unfold setL
 split
 ·rename_i h; rw [zaW9,h]
 ·exact zbi8 p a _ fun h hh=>(zbT8.1 hh).2
theorem zR4 {p q:aJ} (hq:q≠p) (l:List aY) (a:aC):getH (setL l p a) q=getH l q:=by
 unfold setL
 split
 ·exact zah4 hq l
 ·rw [zbx2 a hq]; exact zah4 hq l
theorem zaO1 {l:List aY} {p:aJ} (h:getH l p≠aC.zero):(⟨p,getH l p⟩:aY) ∈ l:=by
 induction l with
 | nil=>exact absurd rfl h
 | cons x t ih =>
  rw [zab0] at h ⊢
  by_cases e:x.aP=p
  ·rw [bY e]; subst e; exact .head _
  ·rw [bW e] at h ⊢; exact .tail _ (ih h)
theorem zcu9 {l:List aY} {p:aJ} (h:∀ x ∈ l,x.aP≠p):zx6 p l=l:=List.filter_eq_self.2 fun x hx=>by simpa using h x hx
def Asc (l:List aY):Prop:=l.Pairwise fun a b=>ltP a.aP b.aP
theorem zbl8 {r:aH} {l:List aY} (h:zM6 r l=true):Asc l:=((zZ0 r l).1 h).2.2.1.asc
theorem zdi3 {h:aY} {t:List aY} (k:Asc (h :: t)):∀ x ∈ t,x.aP≠h.aP:=fun x hx e=>by
 have:=(cX.1 k).1 x hx
 rw [e] at this; exact zaD1 _ this
theorem zcv0 {l:List aY} (h:Asc l) {p:aJ} (hp:getH l p≠aC.zero):l.Perm (⟨p,getH l p⟩ :: zx6 p l):=by
 induction l with
 | nil=>exact absurd rfl hp
 | cons x t ih =>
  rw [zab0] at hp ⊢
  rw [zaH7]
  by_cases e:x.aP=p
  ·rw [bY e,bY e,zcu9 (by rw [← e]; exact zdi3 h)]
   subst e; exact iZ _
  ·rw [bW e] at hp
   rw [bW e,bW e]
   exact ((ih (cX.1 h).2 hp).cons x).trans (List.Perm.swap _ _ _)
theorem zbD2 {l:List aY} (h:Asc l) {p:aJ} (hp:getH l p≠aC.zero):(zx6 p l).length+1=l.length:=by
 have:=(zcv0 h hp).length_eq
 simpa using this.symm
theorem zcv1 {l:List aY} (ha:Asc l) {x:aY} (hx:x ∈ l):getH l x.aP=x.aK:=by
 induction l with
 | nil=>cases hx
 | cons y t ih =>
  rw [zab0]
  rcases cJ.1 hx with rfl|hx
  ·rw [bY rfl]
  ·rw [bW (fun e:y.aP=x.aP=>zdi3 ha x hx e.symm)]
   exact ih (cX.1 ha).2 hx
theorem zaw8 {r:aH} {l:List aY} (h:zM6 r l=true) (p:aJ):zc9 r (getH l p)=true:=by
 have hv:=(zZ0 r l).1 h
 by_cases e:getH l p=aC.zero
 ·rw [e,perm_iff]; exact .inl ⟨hv.1,rfl⟩
 ·exact zE7 (hv.2.2.1.each _ (zaO1 e)).2
theorem zak0 (a:aC):zm1 a=true ↔ a=aC.zero:=by unfold zm1; simp
theorem zat0 (a:aC):zm1 a=false ↔ a≠aC.zero:=by rw [← fX,zak0]
structure SoundP (q:aB):Prop where
 res:resV q.aA=true
 hv:zM6 q.aA q.aS=true
 cl:q.aI.length≤8
 cn:(q.aI.map (·.aP)).Nodup
 cg:∀ w ∈ q.aI,getH q.aS w.aP≠aC.zero∧zb4 q.aA w.aK=true∧covA q.aA w.aK (getH q.aS w.aP)=true∧w.aK≠getH q.aS w.aP∧w.bH=0∧w.bR=0
 wv:zZ9 q.aV=true
 wl:q.aS.length+q.aV.length≤8
 wg:∀ w ∈ q.aV,zb4 q.aA w.aK=true∧getH q.aS w.aP=aC.zero
 gen:0≤q.gen∧q.gen≤1073741824
theorem zbt0 (q:aB):zaT2 q=true ↔ SoundP q:=by
 have hc:cvOk q=true ↔ q.aI.length≤8∧(q.aI.map (·.aP)).Nodup∧∀ w ∈ q.aI,getH q.aS w.aP≠aC.zero∧zb4 q.aA w.aK=true∧covA q.aA w.aK (getH q.aS w.aP)=true∧w.aK≠getH q.aS w.aP∧w.bH=0∧w.bR=0:=by
  unfold cvOk
  rw [← zbs7,← zcL8 (z:=aX.zero)]
  simp only [bX,cB,eO,eR,cvI,dB,zat0,dD]
  constructor
  ·rintro ⟨h1,h2⟩; exact ⟨h1,fun i hi=>(h2 i hi).1,fun i hi=>(h2 i hi).2⟩
  ·rintro ⟨h1,h2,h3⟩; exact ⟨h1,fun i hi=>⟨h2 i hi,h3 i hi⟩⟩
 have hw:wtOk q=true ↔ zZ9 q.aV=true∧q.aS.length+q.aV.length≤8∧∀ w ∈ q.aV,zb4 q.aA w.aK=true∧getH q.aS w.aP=aC.zero:=by
  unfold wtOk
  rw [← zcL8 (z:=aX.zero)]
  simp only [bX,cB,eO,eR,wtI,zak0]
 unfold zaT2
 simp only [bX,hc,hw,cB]
 constructor
 ·rintro ⟨h1,h2,⟨h3,h4,h5⟩,⟨h6,h7,h8⟩,h9⟩; exact ⟨h1,h2,h3,h4,h5,h6,h7,h8,h9⟩
 ·rintro ⟨h1,h2,h3,h4,h5,h6,h7,h8,h9⟩; exact ⟨h1,h2,⟨h3,h4,h5⟩,⟨h6,h7,h8⟩,h9⟩
theorem SoundP.apart {q:aB} (h:SoundP q) {c w:aX} (hc:c ∈ q.aI) (hw:w ∈ q.aV):c.aP≠w.aP:=fun e =>
 (h.cg c hc).1 (by rw [e]; exact (h.wg w hw).2)
inductive Pop (q:aB):Prop where
 | con (w:aX) (cs:List aX) (h:q.aI=w :: cs) (hd:(zO7 q).1=w) (hr:zaJ9 q.aA q.aS w.aP w.aK=true) (hp:popQ q={ q with aS:=setL q.aS w.aP w.aK,aI:=cs })
 | wait (w:aX) (ws:List aX) (hc:q.aI=[]) (h:q.aV=w :: ws) (hd:(zO7 q).1=w) (hr:zaJ9 q.aA q.aS w.aP w.aK=true) (hp:popQ q={ q with aS:=setL q.aS w.aP w.aK,aV:=ws })
theorem zcE1 {q:aB} (h:canQ q=true):Pop q:=by
 unfold canQ at h
 rw [bX] at h
 obtain ⟨h1,h2⟩:=h
 cases hc:q.aI with
 | cons w cs =>
  have hd:(zO7 q).1=w:=by unfold zO7; rw [hc]; rfl
  exact .con w cs hc hd (by rw [← hd]; exact h2) (by unfold popQ; rw [hd]; simp [hc])
 | nil =>
  cases hw:q.aV with
  | cons w ws =>
   have hd:(zO7 q).1=w:=by unfold zO7; rw [hc,hw]; rfl
   exact .wait w ws hc hw hd (by rw [← hd]; exact h2) (by unfold popQ; rw [hd]; simp [hc,hw])
  | nil=>unfold zO7 at h1; rw [hc,hw] at h1; exact absurd h1 (by decide)
theorem zaD6 {r:aH} {l:List aY} {p:aJ} {a:aC} (h:zaJ9 r l p a=true):zM6 r l=true∧zb2 p=true∧zb4 r a=true∧zM6 r (setL l p a)=true:=by
 unfold zaJ9 zal8 at h
 simp only [bX] at h
 exact ⟨h.1.1,h.1.2.1,h.1.2.2,h.2⟩
theorem zcf4 {r:aH} {l:List aY} {p:aJ} (a:aC) (h:zM6 r l=true) (hp:getH l p≠aC.zero):(setL l p a).length≤l.length:=by
 have:=zbD2 (zbl8 h) hp
 unfold setL
 split
 ·omega
 ·rw [zbw6]; omega
theorem zcv2 {w:aX} {l:List aX} (h:zZ9 (w :: l)=true):zZ9 l=true:=by
 rw [zaN9] at h ⊢
 obtain ⟨h1,h2,h3⟩:=h
 rw [eD,iD] at h3
 exact ⟨by simp at h1; omega,fun x hx=>h2 x (.tail _ hx),h3.2⟩
theorem SoundP.pop {q:aB} (h:SoundP q) (hc:canQ q=true):SoundP (popQ q):=by
 cases zcE1 hc with
 | con w cs he hd hr hp =>
  rw [hp]
  obtain ⟨_,_,_,hv⟩:=zaD6 hr
  have hn:w.aP ∉ cs.map (·.aP)∧(cs.map (·.aP)).Nodup:=by have:=h.cn; rw [he,eD,iD] at this; exact this
  have hw:=h.cg w (by rw [he]; exact .head _)
  have hl:=zcf4 w.aK h.hv hw.1
  have h8:=h.cl
  rw [he,List.length_cons] at h8
  refine ⟨h.res,hv,by simp only; omega,hn.2,fun c hcc=>?_,h.wv,?_,fun x hx=>?_,h.gen⟩
  ·have hne:c.aP≠w.aP:=fun e=>hn.1 (cR.2 ⟨c,hcc,e⟩)
   simp only [zR4 hne]
   exact h.cg c (by rw [he]; exact .tail _ hcc)
  ·have:=h.wl; simp only; omega
  ·have hne:x.aP≠w.aP:=fun e=>h.apart (c:=w) (by rw [he]; exact .head _) hx e.symm
   simp only [zR4 hne]
   exact h.wg x hx
 | wait w ws hcn he hd hr hp =>
  rw [hp]
  obtain ⟨_,_,_,hv⟩:=zaD6 hr
  have hl:=zdh7 q.aS w.aP w.aK
  have h8:=h.wl
  have hwv:=h.wv
  rw [he] at h8 hwv
  have hn:w.aP ∉ ws.map (·.aP):=by have:=((zaN9 _).1 hwv).2.2; rw [eD,iD] at this; exact this.1
  rw [List.length_cons] at h8
  refine ⟨h.res,hv,h.cl,h.cn,fun c hcc=>?_,zcv2 hwv,by simp only; omega,fun x hx=>?_,h.gen⟩
  ·rw [hcn] at hcc; cases hcc
  ·have hne:x.aP≠w.aP:=fun e=>hn (cR.2 ⟨x,hx,e⟩)
   simp only [zR4 hne]
   exact h.wg x (by rw [he]; exact .tail _ hx)
theorem zbi9:∀ (n:Nat) (q:aB) (l:List aY),advN n (q,l)=((advN n (q,[])).1,l++(advN n (q,[])).2)
 | 0,q,l=>by simp [advN]
 | n+1,q,l=>by
  simp only [advN]
  split
  ·unfold zbx1
   simp only [List.nil_append]
   rw [zbi9 n (popQ q) (l++_),zbi9 n (popQ q) [_],cG]
  ·simp
def advS (q:aB):aB:=(advQ q).1
def advG (q:aB):List aY:=(advQ q).2
theorem zbl9 (q:aB):advQ q=if canQ q=true then ((advQ (popQ q)).1,⟨(zO7 q).1.aP,(zO7 q).1.aK⟩ :: (advQ (popQ q)).2) else (q,[]):=by
 unfold advQ
 rw [zbC9 (q,[])]
 show (if canQ q=true then advN (zah3 (popQ q)) (popQ q,[]++[_]) else (q,[]))=_
 split
 ·rw [zbi9]; rfl
 ·rfl
theorem zbU0 {q:aB} (h:canQ q=true):advS q=advS (popQ q):=by unfold advS; rw [zbl9 q,bY h]
theorem zdi4 {q:aB} (h:canQ q=true):advG q=⟨(zO7 q).1.aP,(zO7 q).1.aK⟩ :: advG (popQ q):=by unfold advG; rw [zbl9 q,bY h]
theorem zbU1 {q:aB} (h:canQ q=false):advS q=q:=by unfold advS; rw [zbl9 q,h]; rfl
theorem zdi5 {q:aB} (h:canQ q=false):advG q=[]:=by unfold advG; rw [zbl9 q,h]; rfl
theorem zbx3 {P:aB→Prop} (h:∀ q,canQ q=true→P q→P (popQ q)):∀ q,P q→P (advS q):=by
 have key:∀ n q,zah3 q=n→P q→P (advS q):=by
  intro n
  induction n using Nat.strongRecOn with
  | _ n ih =>
   intro q hn hq
   cases hc:canQ q with
   | false=>rw [zbU1 hc]; exact hq
   | true =>
    rw [zbU0 hc]
    have:=(zaL3 hc).2.1
    exact ih (zah3 (popQ q)) (by omega) _ rfl (h q hc hq)
 exact fun q hq=>key _ q rfl hq
theorem zcL9 {P:aB→Prop} (h0:∀ q,canQ q=false→P q) (h:∀ q,canQ q=true→P (popQ q)→P q):∀ q,P q:=by
 have key:∀ n q,zah3 q=n→P q:=by
  intro n
  induction n using Nat.strongRecOn with
  | _ n ih =>
   intro q hn
   cases hc:canQ q with
   | false=>exact h0 q hc
   | true =>
    have:=(zaL3 hc).2.1
    exact h q hc (ih (zah3 (popQ q)) (by omega) _ rfl)
 exact fun q=>key _ q rfl
theorem zdi6:∀ q,canQ (advS q)=false:=by
 refine zcL9 (fun q h=>by rw [zbU1 h]; exact h) fun q h ih=>by rw [zbU0 h]; exact ih
theorem SoundP.adv {q:aB} (h:SoundP q):SoundP (advS q):=zbx3 (P:=SoundP) (fun _ hc h=>h.pop hc) q h
theorem zz4 (q:aB):zl4 q=true ↔ SoundP q∧canQ q=false:=by
 unfold zl4
 rw [bX,zbt0]
 show SoundP q∧(!canQ q)=true ↔ _
 rw [dB]
theorem zdi7:∀ q,(advG q).length+zah3 (advS q)=zah3 q:=by
 refine zcL9 (fun q h=>by rw [zbU1 h,zdi5 h]; simp) fun q h ih=>by
  rw [zbU0 h,zdi4 h,List.length_cons]
  have:=(zaL3 h).2.1
  omega
theorem zdu0 (r:aH) (a b:aC):covA r a b=(!(!zc9 r a||!zc9 r b)&&(zm1 b||(!zm1 a&&(if r.kind=1 then covM a.mode b.mode else decide (b.aT≤a.aT))))):=by
 have e1:=zbl5 r a
 have e2:=zbl5 r b
 have e3:=zaF0 a
 have e4:=zaF0 b
 have h:covA r a b=(!(!zw1 r a||!zw1 r b)&&(zn2 b||(!zn2 a&&(if r.kind=1 then covM a.mode b.mode else decide (b.aT≤a.aT))))):=by
  unfold covA zu6
  generalize (!zw1 r a||!zw1 r b)=x
  generalize zn2 b=y
  generalize zn2 a=z
  by_cases hk:r.kind=1 <;> cases x <;> cases y <;> cases z <;> simp [hk]
 rw [h,e1,e2,e3,e4]
theorem zac9 (r:aH) (a b:aC):covA r a b=true ↔ zc9 r a=true∧zc9 r b=true∧(b=aC.zero∨a≠aC.zero∧b≠aC.zero∧((r.kind=1∧covM a.mode b.mode=true)∨(r.kind≠1∧b.aT≤a.aT))):=by
 rw [zdu0]
 have za:=zak0 a
 have zb:=zak0 b
 simp only [bX,dY,dB,hZ,Bool.not_eq_false',zb,zat0]
 by_cases e:b=aC.zero
 ·simp [e,fR]
 ·by_cases hk:r.kind=1 <;> simp [e,hk,fR]
theorem zar1 {r:aH} {a:aC} (h:zc9 r a=true):covA r a a=true:=by
 rw [zac9]
 refine ⟨h,h,?_⟩
 by_cases e:a=aC.zero
 ·exact .inl e
 ·refine .inr ⟨e,e,?_⟩
  by_cases hk:r.kind=1
  ·left
   refine ⟨hk,?_⟩
   have:=zaD4 h hk
   have hm:a.mode≠0:=fun hm=>e (by obtain ⟨m,u⟩:=a; simp only at *; unfold aC.zero; congr; omega)
   rw [zaW7]; omega
  ·exact .inr ⟨hk,eH _⟩
theorem zbD3 {r:aH} {a:aC} (h:zc9 r a=true) (hs:zh0 r=true):covA r a aC.zero=true:=by
 rw [zac9]; exact ⟨h,(perm_iff r _).2 (.inl ⟨hs,rfl⟩),.inl rfl⟩
theorem zba2 {r:aH} {a b c:aC} (h1:covA r a b=true) (h2:covA r b c=true):covA r a c=true:=by
 rw [zac9] at h1 h2 ⊢
 refine ⟨h1.1,h2.2.1,?_⟩
 rcases h2.2.2 with e|⟨hb0,hc0,h3⟩
 ·exact .inl e
 ·rcases h1.2.2 with e|⟨ha0,_,h4⟩
  ·exact absurd e hb0
  ·refine .inr ⟨ha0,hc0,?_⟩
   rcases h3 with ⟨k,h3⟩|⟨k,h3⟩
   ·rcases h4 with ⟨_,h4⟩|⟨k',_⟩
    ·left; refine ⟨k,?_⟩
     rw [zaW7] at h3 h4 ⊢; omega
    ·exact absurd k k'
   ·rcases h4 with ⟨k',_⟩|⟨_,h4⟩
    ·exact absurd k' k
    ·exact .inr ⟨k,by omega⟩
def low (a b:aC):Prop:=a.aT≤b.aT∧∀ c,¬ zas8 b c→¬ zas8 a c
theorem zdC1 {r:aH} {a b:aC} (h:covA r b a=true):low a b:=by
 rw [zac9] at h
 obtain ⟨h1,h2,h3⟩:=h
 have hb1:=zai0 h1
 rcases h3 with e|⟨hb0,ha0,h3⟩
 ·subst e
  refine ⟨hb1.1,fun c _ hc=>?_⟩
  exact hc.1 rfl
 ·rcases h3 with ⟨k,h3⟩|⟨k,h3⟩
  ·have p1:=zaD4 h1 k
   have p2:=zaD4 h2 k
   refine ⟨by omega,fun c hc hc'=>hc ⟨?_,hc'.2.1,?_⟩⟩
   ·rw [zaW7] at h3; omega
   ·have h4:=hc'.2.2
    rw [← fX] at h4 ⊢
    intro h5; apply h4
    rw [zcl6] at h5 ⊢
    rw [zaW7] at h3
    omega
  ·have hk:r.kind=2:=by
    have:=(perm_iff r a).1 h2
    rw [zM4,zM5] at this
    omega
   have p2:=zbl6 h2 hk
   exact ⟨h3,fun c _ hc=>hc.1 p2.1⟩
theorem zcS9 {r:aH} {l:List aY} {p:aJ} {a:aC}:zaJ9 r l p a=true ↔ zM6 r l=true∧zb2 p=true∧zb4 r a=true∧(zx6 p l).length+1≤8∧(∀ h ∈ zx6 p l,¬ zas8 h.aK a)∧a.aT+sumU ((zx6 p l).map (·.aK))≤r.aT:=by
 constructor
 ·intro h
  obtain ⟨h1,h2,h3,h4⟩:=zaD6 h
  have hl:(zx6 p l).length+1≤8:=by
   have:=zan7 h4
   unfold setL at this
   rw [bW (zae8 h3),zbw6] at this
   exact this
  exact ⟨h1,h2,h3,hl,(zcu8 h1 h2 h3 hl).1 h⟩
 ·rintro ⟨h1,h2,h3,h4,h5⟩
  exact (zcu8 h1 h2 h3 h4).2 h5
theorem zcv3 {r:aH} {l:List aY} {p:aJ} {a:aC} (hv:zM6 r l=true) (hp:getH l p≠aC.zero) (hc:covA r (getH l p) a=true):zM6 r (setL l p a)=true:=by
 have hasc:=zbl8 hv
 have hv':=(zZ0 r l).1 hv
 by_cases hz:a=aC.zero
 ·unfold setL; rw [bY hz]; exact zbs8 hv (zbs9 p l)
 ·have hfit:zb4 r a=true:=by
   rcases (perm_iff r a).1 ((zac9 _ _ _).1 hc).2.1 with h|h
   ·exact absurd h.2 hz
   ·exact h
  have hlow:=zdC1 hc
  have hm:=zaO1 hp
  have hlt:=zbD2 hasc hp
  have hpm:=zcv0 hasc hp
  have hroom:zaJ9 r l p a=true:=by
   rw [zcS9]
   refine ⟨hv,(hv'.2.2.1.each _ hm).1,hfit,by have:=hv'.2.1; omega,fun x hx hcl=>?_,?_⟩
   ·have hpr:=(CompP.perm_iff (hpm.map (·.aK))).1 hv'.2.2.2
    have:=(cX.1 hpr.pair).1 x.aK (cR.2 ⟨x,hx,rfl⟩)
    exact hlow.2 _ this (by
     obtain ⟨c1,c2,c3⟩:=hcl
     exact ⟨c2,c1,by rw [zbM2]; exact c3⟩)
   ·have h1:=zbD1 (hpm.map (·.aK))
    have h2:=hv'.2.2.2.sum
    rw [h1] at h2
    simp only [eD,sumU] at h2
    have:=hlow.1
    omega
  exact (zaD6 hroom).2.2.2
def del (q:aB) (p:aJ):aB:={ q with aS:=zx6 p q.aS,aI:=rmL q.aI p,aV:=rmL q.aV p }
theorem zba3 {w:aX} {l:List aX} {p:aJ}:w ∈ rmL l p ↔ w ∈ l∧w.aP≠p:=by unfold rmL notP; simp
theorem zbm0 (l:List aX) (p:aJ):(rmL l p).Sublist l:=iW
theorem SoundP.del {q:aB} (h:SoundP q) (p:aJ):SoundP (del q p):=by
 have h1:=(zbm0 q.aI p).length_le
 have h2:=(zbm0 q.aV p).length_le
 have h3:=zaN6 p q.aS
 have h4:=h.cl; have h5:=h.wl
 refine ⟨h.res,zbs8 h.hv (zbs9 p _),by simp only [Ab.del]; omega,h.cn.sublist ((zbm0 _ _).map _),fun w hw=>?_,zcf3 p h.wv,by simp only [Ab.del]; omega,fun w hw=>?_,h.gen⟩
 ·obtain ⟨a1,a2⟩:=zba3.1 hw
  simp only [Ab.del,zah4 a2]
  exact h.cg w a1
 ·obtain ⟨a1,a2⟩:=zba3.1 hw
  simp only [Ab.del,zah4 a2]
  exact h.wg w a1
theorem zdG6 (q:aB) (g:Int):canQ { q with gen:=g }=canQ q:=rfl
theorem zcm1 (q:aB):(popQ q).gen=q.gen∧(popQ q).aA=q.aA:=by unfold popQ; split <;> exact ⟨rfl,rfl⟩
theorem zcM0 (q:aB):(advS q).gen=q.gen∧(advS q).aA=q.aA :=
 zbx3 (P:=fun x=>x.gen=q.gen∧x.aA=q.aA) (fun x _ h=>by rw [(zcm1 x).1,(zcm1 x).2]; exact h) q ⟨rfl,rfl⟩
theorem zbU2 (g:Int):0≤zo7 g∧zo7 g≤1073741824:=by
  unfold zo7
  by_cases h:g < 0∨1073741824≤g
  · rw [bY (by simpa using h)]; decide
  · rw [bW (by simpa using h),zd2 (by omega) (by omega)]; omega
def zM7 (q:aB):aB×List aY×Int:=({ advS q with gen:=zo7 q.gen },advG q,0)
theorem SoundP.gen' {q:aB} (h:SoundP q) (g:Int) (h1:0≤g) (h2:g≤1073741824):SoundP { q with gen:=g }:=⟨h.res,h.hv,h.cl,h.cn,h.cg,h.wv,h.wl,h.wg,h1,h2⟩
theorem zab1 {q:aB} (h:SoundP q):zl4 (zM7 q).1=true:=by
  rw [zz4]
  exact ⟨h.adv.gen' _ (zbU2 _).1 (zbU2 _).2,by show canQ (advS q)=false; exact zdi6 q⟩
theorem zcv4 (q:aB) (p:aJ):(zE3 q p).2=true ↔ ∃ w ∈ q.aI++q.aV,w.aP=p:=by
  unfold zE3 zbH9
  cases h:(q.aI++q.aV).find? fun w=>decide (w.aP=p) with
  | none =>
    rw [List.find?_eq_none] at h
    simp only [cB] at h
    constructor
    · intro h2; cases h2
    · rintro ⟨w,hw,e⟩; exact absurd e (h w hw)
  | some w =>
    have h1:=List.mem_of_find?_eq_some h
    have h2:=List.find?_some h
    exact ⟨fun _=>⟨w,h1,by simpa using h2⟩,fun _=>rfl⟩
theorem zaO2 {q:aB} {p:aJ}:(zE3 q p).2=false ↔ ∀ w ∈ q.aI++q.aV,w.aP≠p:=by
  rw [← fX,zcv4]
  constructor
  · exact fun h w hw e=>h ⟨w,hw,e⟩
  · rintro h ⟨w,hw,e⟩; exact h w hw e
theorem zcT0:∀ a ∈ [(1:Int),2,3,4,5],∀ b ∈ [(1:Int),2,3,4,5],supM a b ∈ [(1:Int),2,3,4,5]∧covM (supM a b) a=true∧covM (supM a b) b=true:=by decide
theorem zcT1 {r:aH} {a b:aC} (ha:zb4 r a=true) (hb:zb4 r b=true) (hk:r.kind=1):zaw7 r a b=⟨supM a.mode b.mode,0⟩:=by
  unfold zaw7
  rw [zE7 ha,zE7 hb,(zat0 a).2 (zae8 ha),(zat0 b).2 (zae8 hb)]
  simp [hk,aC.zero]
theorem zcT2 {r:aH} {a b:aC} (ha:zb4 r a=true) (hb:zb4 r b=true) (hk:r.kind≠1):zaw7 r a b=⟨0,if a.aT < b.aT then b.aT else a.aT⟩:=by
  unfold zaw7
  rw [zE7 ha,zE7 hb,(zat0 a).2 (zae8 ha),(zat0 b).2 (zae8 hb)]
  simp [hk,aC.zero]
theorem zbU3 {r:aH} {h a:aC} (hh:zb4 r h=true) (ha:zb4 r a=true) (hc:covA r h a=false) :
    zb4 r (zaw7 r h a)=true∧covA r (zaw7 r h a) h=true∧covA r (zaw7 r h a) a=true∧zaw7 r h a≠h:=by
  have hf:zb4 r (zaw7 r h a)=true∧covA r (zaw7 r h a) h=true∧covA r (zaw7 r h a) a=true:=by
    have fh:=(zM5 r h).1 hh
    have fa:=(zM5 r a).1 ha
    by_cases hk:r.kind=1
    · have m1:h.mode ∈ [(1:Int),2,3,4,5]:=by simp; omega
      have m2:a.mode ∈ [(1:Int),2,3,4,5]:=by simp; omega
      obtain ⟨s1,s2,s3⟩:=zcT0 _ m1 _ m2
      rw [zcT1 hh ha hk]
      have hfit:zb4 r ⟨supM h.mode a.mode,0⟩=true:=by
        rw [zM5]; left
        simp at s1
        exact ⟨hk,by omega,by simp only; omega,by simp only; omega,rfl⟩
      refine ⟨hfit,?_,?_⟩
      · rw [zac9]; exact ⟨zE7 hfit,zE7 hh,.inr ⟨zae8 hfit,zae8 hh,.inl ⟨hk,s2⟩⟩⟩
      · rw [zac9]; exact ⟨zE7 hfit,zE7 ha,.inr ⟨zae8 hfit,zae8 ha,.inl ⟨hk,s3⟩⟩⟩
    · rw [zcT2 hh ha hk]
      have hfit:zb4 r ⟨0,if h.aT < a.aT then a.aT else h.aT⟩=true:=by
        rw [zM5]; right
        refine ⟨by omega,by omega,by omega,rfl,?_,?_⟩ <;> simp only <;> split <;> omega
      refine ⟨hfit,?_,?_⟩
      · rw [zac9]; refine ⟨zE7 hfit,zE7 hh,.inr ⟨zae8 hfit,zae8 hh,.inr ⟨hk,?_⟩⟩⟩
        simp only; split <;> omega
      · rw [zac9]; refine ⟨zE7 hfit,zE7 ha,.inr ⟨zae8 hfit,zae8 ha,.inr ⟨hk,?_⟩⟩⟩
        simp only; split <;> omega
  refine ⟨hf.1,hf.2.1,hf.2.2,fun e=>?_⟩
  have:=hf.2.2
  rw [e,hc] at this; cases this
def claimC (q:aB) (p:aJ) (a:aC):aB:={ q with aI:=q.aI++[⟨p,zaw7 q.aA (getH q.aS p) a,0,0⟩] }
def claimW (q:aB) (p:aJ) (a:aC) (pr:Int):aB:={ q with aV:=zbi6 q.aV ⟨p,a,pr,0⟩ (zan9 q.aV ⟨p,a,pr,0⟩ q.aV.length) }
def zaF2 (q:aB) (p:aJ):aB:={ q with aI:=rmL q.aI p,aV:=rmL q.aV p }
def zaJ2 (q:aB) (p:aJ) (a:aC):aB:={ q with aS:=setL q.aS p a }
def hasQ (q:aB) (p:aJ):Bool:=(zE3 q p).2||!zm1 (getH q.aS p)
def errQ (e:Int):aB×List aY×Int:=(aB.zero,[],e)
def zbq0 (p:aJ) (pr:Int):Bool:=zb2 p&&(decide (0≤pr)&&decide (pr≤7))
def zZ1 (q:aB) (p:aJ) (a:aC) (pr:Int):aB×List aY×Int :=
  if zl4 q=false then errQ 2 else if zbq0 p pr=false then errQ 1 else if zb4 q.aA a=false then errQ 12 else if (zE3 q p).2=true then errQ 14
  else if covA q.aA (getH q.aS p) a=true then (q,[],0) else if getH q.aS p≠aC.zero then zM7 (claimC q p a)
  else if 8≤q.aS.length+q.aV.length then errQ 4 else zM7 (claimW q p a pr)
def zH4 (q:aB) (p:aJ):aB×List aY×Int :=
  if zl4 q=false then errQ 2 else if (zE3 q p).2=false then errQ 10 else zM7 (zaF2 q p)
def zF2 (q:aB) (p:aJ) (a:aC):aB×List aY×Int :=
  if zl4 q=false then errQ 2 else if getH q.aS p=aC.zero then errQ 10 else if (zE3 q p).2=true then errQ 14
  else if covA q.aA (getH q.aS p) a=false then errQ 12 else if getH q.aS p=a then (q,[],0) else zM7 (zaJ2 q p a)
def zI9 (q:aB) (p:aJ):aB×List aY×Int :=
  if zl4 q=false then errQ 2 else if hasQ q p=false then errQ 10 else zM7 (del q p)
theorem SoundP.cancel {q:aB} (h:SoundP q) (p:aJ):SoundP (zaF2 q p):=by
  have h1:=(zbm0 q.aI p).length_le
  have h2:=(zbm0 q.aV p).length_le
  have h4:=h.cl; have h5:=h.wl
  exact ⟨h.res,h.hv,by simp only [zaF2]; omega,h.cn.sublist ((zbm0 _ _).map _),fun w hw=>h.cg w (zba3.1 hw).1,zcf3 p h.wv,by simp only [zaF2]; omega,fun w hw=>h.wg w (zba3.1 hw).1,h.gen⟩
theorem SoundP.claimC {q:aB} (h:SoundP q) {p:aJ} {a:aC} (ha:zb4 q.aA a=true) (hw:(zE3 q p).2=false) (hc:covA q.aA (getH q.aS p) a=false) (hz:getH q.aS p≠aC.zero):SoundP (claimC q p a):=by
  have hv:=(zZ0 _ _).1 h.hv
  have hfit:zb4 q.aA (getH q.aS p)=true:=(hv.2.2.1.each _ (zaO1 hz)).2
  obtain ⟨j1,j2,j3,j4⟩:=zbU3 hfit ha hc
  rw [zaO2] at hw
  refine ⟨h.res,h.hv,?_,?_,fun w hww=>?_,h.wv,h.wl,h.wg,h.gen⟩
  ·
    have hn:((q.aI++[(⟨p,zaw7 q.aA (getH q.aS p) a,0,0⟩:aX)]).map (·.aP)).Nodup:=by
      rw [fG,List.nodup_append]
      refine ⟨h.cn,by simp,fun x hx y hy=>?_⟩
      simp only [eD,jO,dQ] at hy
      obtain ⟨c,hcc,rfl⟩:=cR.1 hx
      rw [hy]; exact hw c (dI _ hcc)
    have hs:∀ x ∈ (q.aI++[(⟨p,zaw7 q.aA (getH q.aS p) a,0,0⟩:aX)]).map (·.aP),x ∈ q.aS.map (·.aP):=by
      intro x hx
      simp only [fG,cU,eD,jO,dQ] at hx
      rcases hx with hx|rfl
      · obtain ⟨c,hcc,rfl⟩:=cR.1 hx
        exact cR.2 ⟨_,zaO1 (h.cg c hcc).1,rfl⟩
      · exact cR.2 ⟨_,zaO1 hz,rfl⟩
    have:=eP hn hs
    have h8:=zan7 h.hv
    rw [dW,dW] at this
    show (q.aI++[(⟨p,zaw7 q.aA (getH q.aS p) a,0,0⟩:aX)]).length≤8
    omega
  · show ((q.aI++[(⟨p,zaw7 q.aA (getH q.aS p) a,0,0⟩:aX)]).map (·.aP)).Nodup
    rw [fG,List.nodup_append]
    refine ⟨h.cn,by simp,fun x hx y hy=>?_⟩
    simp only [eD,jO,dQ] at hy
    obtain ⟨c,hcc,rfl⟩:=cR.1 hx
    rw [hy]; exact hw c (dI _ hcc)
  · rcases cU.1 hww with hww|hww
    · exact h.cg w hww
    · rw [dQ] at hww; subst hww
      exact ⟨hz,j1,j2,j4,rfl,rfl⟩
theorem zcf5 {r:aH} {p:aJ} {a:aC} {pr:Int} (ha:zb4 r a=true) (hp:zbq0 p pr=true):zm8 ⟨p,a,pr,0⟩=true:=by
  rw [zM5] at ha
  unfold zbq0 at hp
  simp only [bX,cB] at hp
  rw [← zaK7]
  unfold zB7
  rw [zaA6,hp.1]
  unfold zs7 zz5
  simp
  omega
theorem zdu1 {q:aB} (h:SoundP q) {p:aJ} {a:aC} {pr:Int} (ha:zb4 q.aA a=true) (hp:zbq0 p pr=true) (hw:(zE3 q p).2=false) (hl:q.aV.length < 8) :
    insS q.aV ⟨p,a,pr,0⟩=((claimW q p a pr).aV,(zan9 q.aV ⟨p,a,pr,0⟩ q.aV.length:Int),0):=by
  unfold insS
  rw [bW (by rw [h.wv]; decide),bW (by rw [zcf5 ha hp]; simp),bW ?_,bW (by omega)]
  · rfl
  · rw [zaO2] at hw
    exact zcS5.2 fun w hww=>hw w (dA _ hww)
theorem SoundP.claimW {q:aB} (h:SoundP q) {p:aJ} {a:aC} {pr:Int} (ha:zb4 q.aA a=true) (hp:zbq0 p pr=true) (hw:(zE3 q p).2=false) (hz:getH q.aS p=aC.zero) (hl:q.aS.length+q.aV.length < 8):SoundP (claimW q p a pr):=by
  rw [zaO2] at hw
  have hne:∀ e ∈ q.aV,e.aP≠p:=fun e he=>hw e (dA _ he)
  have hv:=zcE0 (w:=⟨p,a,pr,0⟩) h.wv (zcf5 ha hp) hne (by omega)
  refine ⟨h.res,h.hv,h.cl,h.cn,h.cg,hv,?_,fun w hww=>?_,h.gen⟩
  · have hn:=zbl7 q.aV ⟨p,a,pr,0⟩ q.aV.length
    simp only [Ab.claimW,zbi6,cA,List.length_cons,dW,dG,dS]
    omega
  · simp only [Ab.claimW,zbi6,cU,cJ,cR] at hww
    rcases hww with hww|rfl|⟨x,hx,rfl⟩
    · exact h.wg w (gC hww)
    · exact ⟨ha,hz⟩
    · exact h.wg x (gD hx)
theorem SoundP.lower {q:aB} (h:SoundP q) {p:aJ} {a:aC} (hw:(zE3 q p).2=false) (hz:getH q.aS p≠aC.zero) (hc:covA q.aA (getH q.aS p) a=true):SoundP (zaJ2 q p a):=by
  rw [zaO2] at hw
  have hl:=zcf4 a h.hv hz
  have h5:=h.wl
  refine ⟨h.res,zcv3 h.hv hz hc,h.cl,h.cn,fun w hww=>?_,h.wv,by simp only [zaJ2]; omega,fun w hww=>?_,h.gen⟩
  · simp only [zaJ2,zR4 (hw w (dI _ hww))]
    exact h.cg w hww
  · simp only [zaJ2,zR4 (hw w (dA _ hww))]
    exact h.wg w hww
theorem zbm1 {q:aB} {p:aJ} {a:aC} {pr:Int} (h:(zZ1 q p a pr).2.2=0):SoundP q∧canQ q=false∧zbq0 p pr=true∧zb4 q.aA a=true∧(zE3 q p).2=false ∧
    ((covA q.aA (getH q.aS p) a=true∧zZ1 q p a pr=(q,[],0)) ∨
     (covA q.aA (getH q.aS p) a=false∧getH q.aS p≠aC.zero∧zZ1 q p a pr=zM7 (claimC q p a)∧SoundP (claimC q p a)) ∨
     (covA q.aA (getH q.aS p) a=false∧getH q.aS p=aC.zero∧q.aS.length+q.aV.length < 8∧zZ1 q p a pr=zM7 (claimW q p a pr)∧SoundP (claimW q p a pr))):=by
  unfold zZ1 at h ⊢
  by_cases h1:zl4 q=false
  · rw [bY h1] at h; exact absurd h (by decide)
  rw [bW h1] at h ⊢
  by_cases h2:zbq0 p pr=false
  · rw [bY h2] at h; exact absurd h (by decide)
  rw [bW h2] at h ⊢
  by_cases h3:zb4 q.aA a=false
  · rw [bY h3] at h; exact absurd h (by decide)
  rw [bW h3] at h ⊢
  by_cases h4:(zE3 q p).2=true
  · rw [bY h4] at h; exact absurd h (by decide)
  rw [bW h4] at h ⊢
  rw [fC] at h1 h2 h3
  rw [fX] at h4
  obtain ⟨hs,hcn⟩:=(zz4 q).1 h1
  refine ⟨hs,hcn,h2,h3,h4,?_⟩
  by_cases h5:covA q.aA (getH q.aS p) a=true
  · rw [bY h5]; exact .inl ⟨h5,rfl⟩
  rw [bW h5] at h ⊢
  rw [fX] at h5
  by_cases h6:getH q.aS p≠aC.zero
  · rw [bY h6]; exact .inr (.inl ⟨h5,h6,rfl,hs.claimC h3 h4 h5 h6⟩)
  rw [bW h6] at h ⊢
  by_cases h7:8≤q.aS.length+q.aV.length
  · rw [bY h7] at h; exact absurd h (by decide)
  rw [bW h7]
  have h6:=jE.1 h6
  exact .inr (.inr ⟨h5,h6,by omega,rfl,hs.claimW h3 h2 h4 h6 (by omega)⟩)
theorem zaO3 {q:aB} {p:aJ} (h:(zH4 q p).2.2=0):SoundP q∧canQ q=false∧(zE3 q p).2=true∧zH4 q p=zM7 (zaF2 q p)∧SoundP (zaF2 q p):=by
  unfold zH4 at h ⊢
  by_cases h1:zl4 q=false
  · rw [bY h1] at h; exact absurd h (by decide)
  rw [bW h1] at h ⊢
  by_cases h2:(zE3 q p).2=false
  · rw [bY h2] at h; exact absurd h (by decide)
  rw [bW h2]
  rw [fC] at h1 h2
  obtain ⟨hs,hcn⟩:=(zz4 q).1 h1
  exact ⟨hs,hcn,h2,rfl,hs.cancel p⟩
theorem zaL4 {q:aB} {p:aJ} {a:aC} (h:(zF2 q p a).2.2=0):SoundP q∧canQ q=false∧getH q.aS p≠aC.zero∧(zE3 q p).2=false∧covA q.aA (getH q.aS p) a=true ∧
    ((getH q.aS p=a∧zF2 q p a=(q,[],0))∨(getH q.aS p≠a∧zF2 q p a=zM7 (zaJ2 q p a)∧SoundP (zaJ2 q p a))):=by
  unfold zF2 at h ⊢
  by_cases h1:zl4 q=false
  · rw [bY h1] at h; exact absurd h (by decide)
  rw [bW h1] at h ⊢
  by_cases h2:getH q.aS p=aC.zero
  · rw [bY h2] at h; exact absurd h (by decide)
  rw [bW h2] at h ⊢
  by_cases h3:(zE3 q p).2=true
  · rw [bY h3] at h; exact absurd h (by decide)
  rw [bW h3] at h ⊢
  by_cases h4:covA q.aA (getH q.aS p) a=false
  · rw [bY h4] at h; exact absurd h (by decide)
  rw [bW h4] at h ⊢
  rw [fC] at h1 h4
  rw [fX] at h3
  obtain ⟨hs,hcn⟩:=(zz4 q).1 h1
  refine ⟨hs,hcn,h2,h3,h4,?_⟩
  by_cases h5:getH q.aS p=a
  · rw [bY h5]; exact .inl ⟨h5,rfl⟩
  · rw [bW h5]; exact .inr ⟨h5,rfl,hs.lower h3 h2 h4⟩
theorem zbt1 {q:aB} {p:aJ} (h:(zI9 q p).2.2=0):SoundP q∧canQ q=false∧hasQ q p=true∧zI9 q p=zM7 (del q p)∧SoundP (del q p):=by
  unfold zI9 at h ⊢
  by_cases h1:zl4 q=false
  · rw [bY h1] at h; exact absurd h (by decide)
  rw [bW h1] at h ⊢
  by_cases h2:hasQ q p=false
  · rw [bY h2] at h; exact absurd h (by decide)
  rw [bW h2]
  rw [fC] at h1 h2
  obtain ⟨hs,hcn⟩:=(zz4 q).1 h1
  exact ⟨hs,hcn,h2,rfl,hs.del p⟩
def ordQ (q:aB):List aX:=q.aI++q.aV
theorem zcm2 {q:aB} (h:canQ q=true):ordQ q=(zO7 q).1 :: ordQ (popQ q)∧(popQ q).aS=setL q.aS (zO7 q).1.aP (zO7 q).1.aK:=by
 cases zcE1 h with
 | con w cs he hd hr hp=>rw [hp,hd]; unfold ordQ; rw [he]; exact ⟨rfl,rfl⟩
 | wait w ws hc he hd hr hp=>rw [hp,hd]; unfold ordQ; rw [hc,he]; exact ⟨rfl,rfl⟩
theorem zdi8 {q:aB} (h:canQ q=true):zaJ9 q.aA q.aS (zO7 q).1.aP (zO7 q).1.aK=true:=by
 unfold canQ at h; rw [bX] at h; exact h.2
theorem zcf6 {q:aB} {p:aJ} (h:∀ w ∈ ordQ q,w.aP≠p):getH (advS q).aS p=getH q.aS p∧∀ w ∈ ordQ (advS q),w.aP≠p:=by
 have:=zbx3 (P:=fun x=>getH x.aS p=getH q.aS p∧∀ w ∈ ordQ x,w.aP≠p) (fun x hc hx=>by
  obtain ⟨h1,h2⟩:=zcm2 hc
  obtain ⟨h3,h4⟩:=hx
  rw [h1] at h4
  refine ⟨?_,fun w hw=>h4 w (.tail _ hw)⟩
  rw [h2,zR4 (Ne.symm (h4 _ (.head _)))]; exact h3) q ⟨rfl,h⟩
 exact this
theorem zaO4 {q:aB} (hs:SoundP q) (p:aJ):covA q.aA (getH (advS q).aS p) (getH q.aS p)=true:=by
 have:=zbx3 (P:=fun x=>SoundP x∧x.aA=q.aA∧covA q.aA (getH x.aS p) (getH q.aS p)=true) (fun x hc ⟨h1,h2,h3⟩=>by
  refine ⟨h1.pop hc,by rw [(zcm1 x).2]; exact h2,?_⟩
  obtain ⟨e1,e2⟩:=zcm2 hc
  rw [e2]
  by_cases hp:p=(zO7 x).1.aP
  ·subst hp
   rw [zaO0]
   refine zba2 ?_ h3
   cases zcE1 hc with
   | con w cs he hd hr hp=>rw [hd,← h2]; exact (h1.cg w (by rw [he]; exact .head _)).2.2.1
   | wait w ws hcc he hd hr hp =>
    rw [hd,(h1.wg w (by rw [he]; exact .head _)).2,← h2]
    have hf:=(zaD6 hr).2.2.1
    exact zbD3 (zE7 hf) (zbH7 hf)
  ·rw [zR4 hp]; exact h3) q ⟨hs,rfl,zar1 (zaw8 hs.hv p)⟩
 exact this.2.2
theorem zdi9 {r:aH} {l:List aY} (h:zM6 r l=true) (p:aJ):getH l p≠aC.zero ↔ p ∈ l.map (·.aP):=by
 constructor
 ·intro hp; exact cR.2 ⟨_,zaO1 hp,rfl⟩
 ·intro hp
  obtain ⟨x,hx,rfl⟩:=cR.1 hp
  rw [zcv1 (zbl8 h) hx]
  exact zae8 (((zZ0 _ _).1 h).2.2.1.each x hx).2
theorem zG5 (q:aB) (p:aJ):hasQ q p=true ↔ (∃ w ∈ ordQ q,w.aP=p)∨getH q.aS p≠aC.zero:=by
 unfold hasQ
 rw [dY,zcv4,dB,zat0]
 rfl
theorem zdu2 {q:aB} (h:SoundP q) (p:aJ):hasQ q p=true ↔ p ∈ (ordQ q).map (·.aP)∨p ∈ q.aS.map (·.aP):=by
 simp only [zG5,zdi9 h.hv,cR]
theorem zdu3 {q:aB} (hc:canQ q=true) (p:aJ):hasQ (popQ q) p=hasQ q p:=by
 rw [dL,zG5,zG5]
 obtain ⟨h1,h2⟩:=zcm2 hc
 rw [h1,h2]
 have hz:=zae8 (zaD6 (zdi8 hc)).2.2.1
 by_cases hp:p=(zO7 q).1.aP
 ·subst hp
  rw [zaO0]
  exact ⟨fun _=>.inl ⟨_,.head _,rfl⟩,fun _=>.inr hz⟩
 ·rw [zR4 hp]
  constructor
  ·rintro (⟨w,hw,e⟩|h)
   ·exact .inl ⟨w,.tail _ hw,e⟩
   ·exact .inr h
  ·rintro (⟨w,hw,e⟩|h)
   ·rcases cJ.1 hw with rfl|hw
    ·exact absurd e.symm hp
    ·exact .inl ⟨w,hw,e⟩
   ·exact .inr h
theorem zcM1 (q:aB) (p:aJ):hasQ (advS q) p=hasQ q p:=zbx3 (P:=fun x=>hasQ x p=hasQ q p) (fun x hc h=>by rw [zdu3 hc]; exact h) q rfl
theorem zcM2 (q:aB) (g:Int) (p:aJ):hasQ { q with gen:=g } p=hasQ q p:=rfl
theorem zbj0 {q:aB} {p:aJ} {w:aX}:w ∈ ordQ (del q p) ↔ w ∈ ordQ q∧w.aP≠p:=by
 unfold ordQ del
 simp only [cU,zba3]
 constructor
 ·rintro (⟨a,b⟩|⟨a,b⟩)
  ·exact ⟨.inl a,b⟩
  ·exact ⟨.inr a,b⟩
 ·rintro ⟨a|a,b⟩
  ·exact .inl ⟨a,b⟩
  ·exact .inr ⟨a,b⟩
theorem zdu4 (q:aB) (p x:aJ):hasQ (del q p) x=true ↔ hasQ q x=true∧x≠p:=by
 rw [zG5,zG5]
 by_cases hx:x=p
 ·subst hx
  constructor
  ·rintro (⟨w,hw,e⟩|h)
   ·exact absurd e (zbj0.1 hw).2
   ·exact absurd (zaW9 _ _) h
  ·rintro ⟨_,h⟩; exact absurd rfl h
 ·have e1:getH (del q p).aS x=getH q.aS x:=zah4 hx _
  rw [e1]
  constructor
  ·rintro (⟨w,hw,e⟩|h)
   ·exact ⟨.inl ⟨w,(zbj0.1 hw).1,e⟩,hx⟩
   ·exact ⟨.inr h,hx⟩
  ·rintro ⟨⟨w,hw,e⟩|h,_⟩
   ·exact .inl ⟨w,zbj0.2 ⟨hw,by rw [e]; exact hx⟩,e⟩
   ·exact .inr h
def remN (q:aB) (p:aJ):aB:=if (zI9 q p).2.2=0 then (zI9 q p).1 else q
theorem zM8 (q:aB):(zM7 q).1={ advS q with gen:=zo7 q.gen }:=rfl
theorem zbt2 {q:aB} (h:zl4 q=true) {p:aJ} (hp:hasQ q p=true):zI9 q p=zM7 (del q p):=by
 unfold zI9; rw [bW (by rw [h]; decide),bW (by rw [hp]; decide)]
theorem zaT3 {q:aB} (h:zl4 q=true) {p:aJ} (hp:hasQ q p=false):zI9 q p=errQ 10:=by
 unfold zI9; rw [bW (by rw [h]; decide),bY hp]
theorem zcm3 {q:aB} (h:zl4 q=true) (p:aJ):zl4 (remN q p)=true:=by
 unfold remN
 split
 ·rename_i h0
  obtain ⟨_,_,_,e,hs⟩:=zbt1 h0
  rw [e]; exact zab1 hs
 ·exact h
theorem zbI1 {q:aB} (h:zl4 q=true) {p x:aJ} (hx:x≠p):covA q.aA (getH (remN q p).aS x) (getH q.aS x)=true∧(remN q p).aA=q.aA:=by
 obtain ⟨hs,hc⟩:=(zz4 q).1 h
 unfold remN
 cases hp:hasQ q p with
 | true =>
  rw [zbt2 h hp,bY (show (zM7 (del q p)).2.2=0 from rfl),zM8]
  have h1:=zaO4 (hs.del p) x
  have h2:getH (del q p).aS x=getH q.aS x:=zah4 hx _
  rw [h2] at h1
  exact ⟨h1,(zcM0 (del q p)).2⟩
 | false =>
  rw [zaT3 h hp,bW (by decide)]
  exact ⟨zar1 (zaw8 hs.hv x),rfl⟩
theorem zdj0 {q:aB} (h:zl4 q=true) (p x:aJ):hasQ (remN q p) x=true ↔ hasQ q x=true∧x≠p:=by
 unfold remN
 cases hp:hasQ q p with
 | true =>
  rw [zbt2 h hp,bY (show (zM7 (del q p)).2.2=0 from rfl),zM8,zcM2,zcM1,zdu4]
 | false =>
  rw [zaT3 h hp,bW (by decide)]
  constructor
  ·intro hx; exact ⟨hx,fun e=>by rw [e,hp] at hx; cases hx⟩
  ·exact And.left
theorem zaO5:∀ {a b:List aJ},a.Pairwise ltP→b.Pairwise ltP→(∀ x,x ∈ a ↔ x ∈ b)→a=b
 | [],b,_,_,h=>by
  cases b with
  | nil=>rfl
  | cons y b=>exact absurd ((h y).2 (.head _)) (by simp)
 | x :: a,[],_,_,h=>absurd ((h x).1 (.head _)) (by simp)
 | x :: a,y :: b,ha,hb,h=>by
  rw [cX] at ha hb
  have hxy:x=y:=by
   rcases cJ.1 ((h x).1 (.head _)) with e|hx
   ·exact e
   ·rcases cJ.1 ((h y).2 (.head _)) with e|hy
    ·exact e.symm
    ·exact absurd (zaD2 (ha.1 y hy) (hb.1 x hx)) (zaD1 x)
  subst hxy
  congr 1
  refine zaO5 ha.2 hb.2 fun z=>?_
  have hz:=h z
  constructor
  ·intro hm
   rcases cJ.1 (hz.1 (.tail _ hm)) with e|hm'
   ·subst e; exact absurd (ha.1 z hm) (zaD1 z)
   ·exact hm'
  ·intro hm
   rcases cJ.1 (hz.2 (.tail _ hm)) with e|hm'
   ·subst e; exact absurd (hb.1 z hm) (zaD1 z)
   ·exact hm'
def zaH8 (p:aJ):List aJ→List aJ
 | []=>[p]
 | x :: t=>if p=x then x :: t else if ltP p x then p :: x :: t else x :: zaH8 p t
theorem zaD7 {p x:aJ}:∀ {l:List aJ},x ∈ zaH8 p l ↔ x=p∨x ∈ l
 | []=>by simp [zaH8]
 | y :: t=>by
  simp only [zaH8]
  split
  ·rename_i h; subst h
   simp only [cJ]
   constructor
   ·intro h; exact .inr h
   ·rintro (rfl|h)
    ·exact .inl rfl
    ·exact h
  ·split
   ·simp only [cJ]
   ·simp only [cJ,zaD7 (l:=t)]
    constructor
    ·rintro (h|h|h)
     ·exact .inr (.inl h)
     ·exact .inl h
     ·exact .inr (.inr h)
    ·rintro (h|h|h)
     ·exact .inr (.inl h)
     ·exact .inl h
     ·exact .inr (.inr h)
theorem zaD8 {p:aJ}:∀ {l:List aJ},l.Pairwise ltP→(zaH8 p l).Pairwise ltP
 | [],_=>by simp [zaH8]
 | y :: t,h=>by
  simp only [zaH8]
  split
  ·exact h
  ·rename_i hne
   rw [cX] at h
   split
   ·rename_i hlt
    rw [cX]
    refine ⟨fun x hx=>?_,cX.2 h⟩
    rcases cJ.1 hx with rfl|hx
    ·exact hlt
    ·exact zaD2 hlt (h.1 x hx)
   ·rename_i hlt
    rw [cX]
    refine ⟨fun x hx=>?_,zaD8 h.2⟩
    rcases zaD7.1 hx with rfl|hx
    ·rcases zaD3 hne with h1|h1
     ·exact absurd h1 hlt
     ·exact h1
    ·exact h.1 x hx
theorem zcE2 {p:aJ}:∀ {l:List aJ},l.Pairwise ltP→p ∈ l→zaH8 p l=l:=fun hl hp =>
 zaO5 (zaD8 hl) hl fun x=>by
  rw [zaD7]
  constructor
  ·rintro (rfl|h)
   ·exact hp
   ·exact h
  ·exact .inr
def zbj1 (l:List aJ):List aJ:=l.foldl (fun s p=>zaH8 p s) []
theorem zbj2:∀ (l s:List aJ),s.Pairwise ltP→(l.foldl (fun s p=>zaH8 p s) s).Pairwise ltP∧∀ x,x ∈ l.foldl (fun s p=>zaH8 p s) s ↔ x ∈ s∨x ∈ l
 | [],s,h=>⟨h,fun x=>by simp⟩
 | p :: l,s,h=>by
  obtain ⟨h1,h2⟩:=zbj2 l (zaH8 p s) (zaD8 h)
  refine ⟨h1,fun x=>?_⟩
  rw [List.foldl_cons,h2,zaD7,cJ]
  constructor
  ·rintro ((h|h)|h)
   ·exact .inr (.inl h)
   ·exact .inl h
   ·exact .inr (.inr h)
  ·rintro (h|h|h)
   ·exact .inl (.inr h)
   ·exact .inl (.inl h)
   ·exact .inr h
theorem zbm2 (l:List aJ):(zbj1 l).Pairwise ltP:=(zbj2 l [] .nil).1
theorem zaX0 {l:List aJ} {x:aJ}:x ∈ zbj1 l ↔ x ∈ l:=by
 have:=(zbj2 l [] .nil).2 x
 unfold zbj1
 simpa using this
theorem zcm4 {l s:List aJ} (h:s.Pairwise ltP) (hm:∀ x,x ∈ s ↔ x ∈ l):s=zbj1 l:=zaO5 h (zbm2 l) fun x=>by rw [hm,zaX0]
theorem zbm3 {l:List aJ} (h:l.Pairwise ltP):l.Nodup:=h.imp fun hab e=>by subst e; exact zaD1 _ hab
theorem zbm4 (l:List aJ):(zbj1 l).length≤l.length:=eP (zbm3 (zbm2 l)) fun x hx=>zaX0.1 hx
def dst:List aJ→List aJ
 | []=>[]
 | [x]=>[x]
 | x :: y :: t=>if x=y then dst (y :: t) else x :: dst (y :: t)
theorem zbM3:∀ {l:List aJ} {x:aJ},x ∈ dst l ↔ x ∈ l
 | [],x=>by simp [dst]
 | [y],x=>by simp [dst]
 | y :: z :: t,x=>by
  simp only [dst]
  split
  ·rename_i h; subst h
   rw [zbM3 (l:=y :: t)]
   simp
  ·rw [cJ,zbM3 (l:=z :: t),cJ (b:=y)]
theorem zcm5:∀ {l:List aJ},l.Pairwise (fun x y=>¬ ltP y x)→(dst l).Pairwise ltP
 | [],_=>by simp [dst]
 | [x],_=>by simp [dst]
 | x :: y :: t,h=>by
  simp only [dst]
  rw [cX] at h
  split
  ·exact zcm5 h.2
  ·rename_i hne
   rw [cX]
   refine ⟨fun z hz=>?_,zcm5 h.2⟩
   have hz:=zbM3.1 hz
   by_cases e:x=z
   ·subst e
    rcases cJ.1 hz with e|hz'
    ·exact absurd e hne
    ·have h2:=(cX.1 h.2).1 x hz'
     rcases zaD3 hne with h3|h3
     ·exact absurd h3 h2
     ·exact absurd h3 (h.1 y (.head _))
   ·rcases zaD3 e with h1|h1
    ·exact h1
    ·exact absurd h1 (h.1 z hz)
theorem zcT3 {l s:List aJ} (h:s.Pairwise fun x y=>¬ ltP y x) (hm:∀ x,x ∈ s ↔ x ∈ l):dst s=zbj1 l:=zcm4 (zcm5 h) fun x=>by rw [zbM3,hm]
theorem zcv5:∀ (l:List aJ) (x y:aJ),dst (l++[x,y])=if x=y then dst (l++[x]) else dst (l++[x])++[y]
 | [],x,y=>by
  by_cases h:x=y <;> simp [dst,h]
 | [a],x,y=>by
  by_cases h:x=y
  ·subst h; by_cases h2:a=x <;> simp [dst,h2]
  ·by_cases h2:a=x
   ·subst h2; simp [dst,h]
   ·simp [dst,h,h2]
 | a :: b :: l,x,y=>by
  have ih:=zcv5 (b :: l) x y
  simp only [List.cons_append,dst] at ih ⊢
  rw [ih]
  by_cases h:x=y <;> by_cases h2:a=b <;> simp [h,h2]
theorem zcE3 (x y:aJ):¬ ltP y x∨¬ ltP x y:=by
 by_cases h:ltP y x
 ·exact .inr (zbC1 h)
 ·exact .inl h
theorem zcm6 (l:List aJ):(l.mergeSort fun x y=>!decide (ltP y x)).Pairwise fun x y=>¬ ltP y x:=by
 have:=List.pairwise_mergeSort (le:=fun x y=>!decide (ltP y x)) (fun a b c h1 h2=>by
  simp only [dB,dD] at h1 h2 ⊢
  intro h3
  by_cases e:b=a
  ·subst e; exact h2 h3
  ·rcases zaD3 e with h4|h4
   ·exact h1 h4
   ·by_cases e2:b=c
    ·subst e2; exact h1 h3
    ·rcases zaD3 e2 with h5|h5
     ·exact zbC1 (zaD2 h3 h4) h5
     ·exact h2 h5) (fun a b=>by
  rcases zcE3 a b with h|h
  ·simp [h]
  ·simp [h]) l
 exact this.imp fun h=>by simpa using h
theorem ifNT {α:Type} (x y:α):(if (!true)=true then x else y)=y:=rfl
theorem ifTF {α:Type} (x y:α):(if true=false then x else y)=y:=rfl
theorem ifFT {α:Type} (x y:α):(if false=true then x else y)=y:=rfl
theorem zcv6 (l:List aJ) (hl:l.length≤4294967296):zb6 l=some (l.mergeSort fun x y=>!decide (ltP y x)):=by
 unfold zb6
 rw [zh6 hl]
 congr 2
theorem zdj1 {l:List aJ} {i:Nat} (h:i+1 < l.length):l.take (i+2)=l.take i++[l.getD i aJ.zero,l.getD (i+1) aJ.zero]:=by
 rw [fB (by omega),fB (by omega),cG]
 congr 1
 rw [bZ,cC (by omega),bZ,cC h]
 rfl
theorem zbU4 {l:List aJ} {i:Nat} (h:i < l.length):l.take (i+1)=l.take i++[l.getD i aJ.zero]:=by
 rw [fB h]
 congr 1
 rw [bZ,cC h]
 rfl
theorem zbU5 {l:List aJ} {i:Nat} (h:i+1 < l.length):dst (l.take (i+2))=if l.getD i aJ.zero=l.getD (i+1) aJ.zero then dst (l.take (i+1)) else dst (l.take (i+1))++[l.getD (i+1) aJ.zero]:=by
 rw [zdj1 h,zcv5,← zbU4 (by omega)]
theorem zbx4 {l m:List aJ} {i j:Nat} (h:l.drop i=m.drop i) (hij:i≤j):l.getD j aJ.zero=m.getD j aJ.zero:=by
 have e:∀ x:List aJ,x.getD j aJ.zero=(x.drop i).getD (j - i) aJ.zero:=fun x=>by
  rw [bZ,bZ,dT,show i+(j - i)=j by omega]
 rw [e l,e m,h]
theorem zcb1 (a:List aJ) (g:Nat) (hg:1≤g) (hgl:g < a.length) (hl:a.length≤1000000) (he:a.getD g aJ.zero=a.getD (g - 1) aJ.zero) (hd:dst (a.take g)=a.take g) :
  ∃ x,zc0 (zy3 a g) ((g:Int),1,a)=some x∧∃ k:Nat,x.1=(k:Int)∧x.2.length=a.length∧k≤a.length∧x.2.take k=dst a:=by
 refine zw0 (fun s=>∃ k k2:Nat,s.1=(k:Int)∧s.2.1=(k2:Int)∧s.2.2.length=a.length∧1≤k2∧g+k2≤a.length∧k+1≤g+k2∧s.2.2.take k=dst (a.take (g+k2))∧s.2.2.drop (g+k2 - 1)=a.drop (g+k2 - 1)) (fun s=>(a.length - s.2.1.toNat)) _ ?_ _ ?_
 ·rintro ⟨k,k2,s⟩ ⟨kn,k2n,h1,h2,h3,h4,h5,h6,h7,h8⟩
  simp only at h1 h2 h3 h7 h8
  subst h1; subst h2
  unfold zy3
  by_cases hlt:g+k2n < a.length
  ·left
   have w:IntKind.i64.wrap ((k2n:Int) - 1)=((k2n - 1:Nat):Int):=by rw [zd2 (by omega) (by omega)]; omega
   have w2:IntKind.i64.wrap ((k2n:Int)+1)=((k2n+1:Nat):Int):=by rw [zd2 (by omega) (by omega)]; omega
   have w3:IntKind.i64.wrap ((kn:Int)+1)=((kn+1:Nat):Int):=by rw [zd2 (by omega) (by omega)]; omega
   have r1:s.getD (g+k2n) aJ.zero=a.getD (g+k2n) aJ.zero:=zbx4 h8 (by omega)
   have r2:s.getD (g+(k2n - 1)) aJ.zero=a.getD (g+(k2n - 1)) aJ.zero:=zbx4 h8 (by omega)
   have hdt:=zbU5 (l:=a) (i:=g+(k2n - 1)) (by omega)
   rw [show g+(k2n - 1)+2=g+(k2n+1) by omega,show g+(k2n - 1)+1=g+k2n by omega] at hdt
   simp only [Int.toNat_natCast,w,w2,w3]
   rw [bY (by simp; omega),zh6 (by omega),zh6 (by omega),r1,r2]
   by_cases hne:a.getD (g+k2n) aJ.zero=a.getD (g+(k2n - 1)) aJ.zero
   ·refine ⟨((kn:Int),((k2n+1:Nat):Int),s),by rw [bW (by simp only [hne,cF,cL,bV,hJ])],⟨kn,k2n+1,rfl,rfl,h3,by omega,by omega,by omega,?_,?_⟩,by simp only [Int.toNat_natCast]; omega⟩
    ·simp only
     rw [h7,hdt,bY hne.symm]
    ·simp only
     rw [show g+(k2n+1) - 1=(g+k2n - 1)+1 by omega,← eQ,← eQ,h8]
   ·rw [bY (by simpa using hne),zh6 (by omega),zh6 (by omega)]
    refine ⟨(((kn+1:Nat):Int),((k2n+1:Nat):Int),s.set kn (a.getD (g+k2n) aJ.zero)),rfl,⟨kn+1,k2n+1,rfl,rfl,by simp [h3],by omega,by omega,by omega,?_,?_⟩,by simp only [Int.toNat_natCast]; omega⟩
    ·simp only
     rw [hdt,bW (fun e=>hne e.symm),← h7,zbU4 (by rw [dJ]; omega),List.take_set_of_le (by omega),zw3 _ _ _ _ (by omega)]
    ·simp only
     rw [List.drop_set_of_lt (by omega),show g+(k2n+1) - 1=(g+k2n - 1)+1 by omega,← eQ,← eQ,h8]
  ·right
   refine ⟨((kn:Int),s),by simp only [Int.toNat_natCast]; rw [bW (by simp; omega)],kn,rfl,h3,by omega,?_⟩
   simp only
   rw [h7,dV (by omega)]
 ·refine ⟨g,1,rfl,rfl,rfl,by omega,by omega,by omega,?_,rfl⟩
  simp only
  have hdt:=zbU5 (l:=a) (i:=g - 1) (by omega)
  rw [show g - 1+2=g+1 by omega,show g - 1+1=g by omega,bY he.symm,hd] at hdt
  exact hdt.symm
theorem zcE4 (a:List aJ) (hl:a.length≤1000000):∃ r,za4 a=some (dst a,r):=by
 unfold za4
 by_cases h2:a.length < 2
 ·rw [bY (by simp; omega)]
  refine ⟨a,?_⟩
  have:dst a=a:=by
   match a,h2 with
   | [],_=>rfl
   | [x],_=>rfl
   | x :: y :: t,h=>simp at h; omega
  rw [this]
 ·rw [bW (by simp; omega)]
  obtain ⟨x,hx,hp⟩:=zw0 (body:=zv0 a) (fun g=>∃ n:Nat,g=(n:Int)∧1≤n∧n≤a.length∧dst (a.take n)=a.take n) (fun g=>a.length - g.toNat)
   (fun x=>match x with|.inl _=>dst a=a|.inr z=>z.1=dst a) (by
    rintro g ⟨n,rfl,h1,h3,h4⟩
    unfold zv0
    by_cases hlt:n < a.length
    ·have w:IntKind.i64.wrap ((n:Int) - 1)=((n - 1:Nat):Int):=by rw [zd2 (by omega) (by omega)]; omega
     have w2:IntKind.i64.wrap ((n:Int)+1)=((n+1:Nat):Int):=by rw [zd2 (by omega) (by omega)]; omega
     rw [bY (by simp; omega),zh6 (by omega),w,w2,zh6 (by omega)]
     simp only [Int.toNat_natCast]
     by_cases he:a.getD n aJ.zero=a.getD (n - 1) aJ.zero
     ·right
      obtain ⟨x,hx,k,hk1,hk2,hk3,hk4⟩:=zcb1 a n h1 hlt hl he h4
      rw [bY (cS he),zh6 (by omega),hx]
      obtain ⟨x1,x2⟩:=x
      simp only at hk1 hk2 hk4
      subst hk1
      rw [Option.bind_some]
      unfold zE4
      simp only [Int.toNat_natCast]
      rw [zh6 (by omega),zh6 (by omega)]
      refine ⟨_,rfl,?_⟩
      simp only
      rw [fP,cG,eX (by simp; omega),jT,Nat.min_self,hk4]
     ·left
      refine ⟨((n+1:Nat):Int),by rw [bW (by simpa using he)],⟨n+1,rfl,by omega,by omega,?_⟩,by simp only [Int.toNat_natCast]; omega⟩
      have hdt:=zbU5 (l:=a) (i:=n - 1) (by omega)
      rw [show n - 1+2=n+1 by omega,show n - 1+1=n by omega,bW (fun e=>he e.symm),h4,← zbU4 hlt] at hdt
      exact hdt
    ·right
     refine ⟨.inl (),by rw [bW (by simp; omega)],?_⟩
     simp only
     rw [dV (by omega)] at h4
     exact h4) 1 ⟨1,rfl,by omega,by omega,by
      match a,h2 with
      | x :: t,_=>simp [dst]⟩
  rw [hx]
  cases x with
  | inl u =>
   simp only at hp
   refine ⟨a,?_⟩
   rw [hp]; rfl
  | inr z =>
   simp only at hp
   refine ⟨z.2,?_⟩
   rw [← hp]; rfl
theorem zav3 (l:List aJ) (hl:l.length≤1000000):zm5 l=some (zbj1 l):=by
 unfold zm5
 rw [zh6 (by omega),zcv6 l (by omega),Option.bind_some]
 obtain ⟨r,h⟩:=zcE4 (l.mergeSort fun x y=>!decide (ltP y x)) (by rw [iN]; exact hl)
 rw [h]
 simp only [Option.bind_some]
 rw [zcT3 (zcm6 l) fun x=>List.mem_mergeSort]
theorem zaX1 (l:List aJ) (p:aJ) (hl:l.length≤1000000):zg5 l p=some (decide (p ∈ l)):=by
 unfold zg5
 have key:=zan6 (body:=zX8 l p) l aJ.zero (fun i (_:Unit)=>(i:Int)) (fun _ x _=>some (if x=p then .inr (Sum.inr true) else .inl ())) (fun _=>Sum.inl (β:=Bool) ())
  (fun i s hi=>by
   unfold zX8
   have h3:0≤(i:Int)∧(i:Int) < (l.length:Int):=by omega
   simp only [h3.1,h3.2,cW,zo2,cF,cE,Int.toNat_natCast,zd0 i (by omega),Option.map_some,cB]
   split <;> rfl)
  (fun s=>by unfold zX8; simp) ()
 rw [show (0:Int)=(fun (i:Nat) (_:Unit)=>(i:Int)) 0 () from rfl,key]
 have fold:∀ (l:List aJ) (i:Nat),walk (fun _ x (_:Unit)=>some (if x=p then .inr (Sum.inr true) else .inl ())) (fun _=>Sum.inl (β:=Bool) ()) l i ()=some (if p ∈ l then .inr true else .inl ()):=by
  intro l
  induction l with
  | nil=>intro i; simp [walk]
  | cons x t ih =>
   intro i
   simp only [walk]
   by_cases e:x=p
   ·subst e; simp
   ·simp only [e,cD,cJ,fun h:p=x=>e h.symm,iK]
    rw [ih]
    have:¬ p=x:=fun h=>e h.symm
    simp [this]
 rw [fold]
 by_cases hp:p ∈ l <;> simp [hp,zau5]
theorem zbU6 (q:aB) (h1:q.aI.length≤1000) (h2:q.aV.length≤1000):zt5 q=some ((ordQ q).map (·.aP)):=by
 unfold zt5
 rw [zbT5 q (by omega) (by omega),Option.bind_some]
 have hl:(q.aI++q.aV).length≤2000:=by rw [cA]; omega
 show _=some ((q.aI++q.aV).map (·.aP))
 generalize q.aI++q.aV=l at hl
 have key:=zE6 (body:=zaf7 l) l aX.zero (fun i (s:List aJ)=>((i:Int),s)) (fun i h s=>some (.inl (zaH6 s (some h.aP)))) (fun s=>s) (fun i s=>s.length≤i)
  (fun i s hi hs=>by
   refine ⟨?_,fun s' h=>?_⟩
   ·unfold zaf7
    have h1:s.length+1≤4294967296:=by omega
    have h3:0≤(i:Int)∧(i:Int) < (l.length:Int):=by omega
    simp only [h1,h3.1,h3.2,cW,zo2,cF,cE,Int.toNat_natCast,zd0 i (by omega),Option.map_some,wmap,zaH6]
   ·simp only [cV,eW] at h; subst h; simp [zaH6]; omega)
  (fun s hs=>by unfold zaf7; simp) [] (by simp)
 rw [show ((0,[]):Int×List aJ)=(fun (i:Nat) (s:List aJ)=>((i:Int),s)) 0 [] from rfl,key,zaL2 (fun h:aX=>some h.aP)]
 simp [zaC1]
theorem zbt3 (l:List aY) (hl:l.length≤1000000):zf1 l=some (l.map (·.aP)):=by
 have e:zf1 l=zi3 l:=rfl
 rw [e]; exact zdi2 l hl
def zao1 (q:aB):List aJ:=zbj1 (q.aS.map (·.aP)++(ordQ q).map (·.aP))
theorem zbU7 (q:aB) (h0:q.aS.length≤1000) (h1:q.aI.length≤1000) (h2:q.aV.length≤1000):zy1 q=some (zao1 q):=by
 unfold zy1 zao1
 have hl:(ordQ q).length≤2000:=by unfold ordQ; rw [cA]; omega
 rw [zbt3 _ (by omega),Option.bind_some,zbU6 q h1 h2,Option.bind_some,zh6 (by simp; omega),zav3 _ (by simp; omega)]
 rfl
theorem zbU8 {q:aB} (h:SoundP q) {p:aJ}:p ∈ zao1 q ↔ hasQ q p=true:=by
 unfold zao1
 rw [zaX0,cU,zdu2 h,or_comm]
theorem SoundP.lens {q:aB} (h:SoundP q):q.aS.length≤8∧q.aI.length≤8∧q.aV.length≤8∧zah3 q≤16:=by
 have:=h.cl; have:=h.wl; have:=zan7 h.hv
 unfold zah3; omega
theorem zcb2 {q:aB} (h:SoundP q):zl4 q=!canQ q:=by
 unfold zl4
 rw [(zbt0 q).2 h,cN]; rfl
theorem zbD4 (g:aB×List aY) (hs:SoundP g.1) (hg:g.2.length≤1000000):zQ1 g=some (if canQ g.1=true then .inl (zbx1 g) else .inr g):=by
 unfold zQ1
 rw [zaW8,Option.bind_some,zcb2 hs]
 cases hc:canQ g.1 with
 | false=>simp
 | true =>
  obtain ⟨h1,_,hl⟩:=zaL3 hc
  rw [bY (by simp),zbp8,Option.bind_some,bY rfl]
  unfold zbx1 popQ
  by_cases h0:0 < g.1.aI.length
  ·rw [bY (by simpa using h0),zh6 (by omega),bY h0]
   unfold zY4
   rw [zaA5 _ _ _ (by simp only; omega),Option.bind_some,zh6 (by omega)]
  ·rw [bW (by simpa using h0),bW h0]
   have hw:0 < g.1.aV.length:=by unfold zah3 at h1; omega
   rw [zh6 (by omega)]
   unfold zY4
   rw [zaA5 _ _ _ (by simp only; omega),Option.bind_some,zh6 (by omega)]
theorem zbD5 {q:aB} (h:SoundP q):zN4 q=some (advS q,advG q):=by
 unfold zN4
 have hl:=h.lens
 rw [zaN8,Option.bind_some,(zbt0 q).2 h,bW (by decide),zaF1 q (by omega) (by omega) (by omega),Option.bind_some]
 have key:=zct8 (body:=zQ1) (fun g=>SoundP g.1∧zah3 g.1+g.2.length≤1000) (fun g=>zah3 g.1) (fun g=>advN (zah3 g.1) g) (fun g hg=>by
  rw [zbD4 g hg.1 (by omega)]
  cases hc:canQ g.1 with
  | false=>right; rw [bW (by decide),zbC9,bW (by rw [hc]; decide)]
  | true =>
   left
   obtain ⟨h1,h2,_⟩:=zaL3 hc
   refine ⟨zbx1 g,by rw [bY rfl],⟨hg.1.pop hc,?_⟩,?_,?_⟩
   ·unfold zbx1; simp only [cA,List.length_cons,List.length_nil]; omega
   ·show zah3 (popQ g.1) < zah3 g.1; omega
   ·rw [zbC9 g,bY hc]) (q,[]) ⟨h,by simp only [List.length_nil]; omega⟩
 rw [key]
 rfl
theorem zah5 {q:aB} (h:SoundP q):zC7 q=some (zM7 q):=by
 unfold zC7; rw [zbD5 h,Option.bind_some,zdt9]; rfl
theorem zdj2 (p:aJ) (pr:Int):(((!(zb2 p))||(decide (pr < 0)))||(decide (7 < pr)))=!zbq0 p pr:=by
 unfold zbq0
 generalize zb2 p=b
 rw [dL]
 cases b
 ·simp
 ·simp
theorem zbU9 (q:aB) (p:aJ) (a:aC) (pr:Int):zK6 q p a pr=some (zZ1 q p a pr):=by
 unfold zK6 zZ1
 rw [zao0,Option.bind_some]
 cases h1:zl4 q with
 | false=>rfl
 | true =>
  obtain ⟨hs,hcan⟩:=(zz4 q).1 h1
  have hl:=hs.lens
  rw [ifNT,ifTF,zaA6,zdj2]
  cases h2:zbq0 p pr with
  | false=>rfl
  | true =>
   rw [ifNT,ifTF,zaR7]
   cases h3:zb4 q.aA a with
   | false=>rfl
   | true =>
    rw [ifNT,ifTF,zU7 q p (by omega) (by omega),Option.bind_some]
    cases h4:(zE3 q p).2 with
    | true=>rfl
    | false =>
     rw [ifFT,ifFT,zbK2 q (by omega) (by omega) (by omega),Option.bind_some,zI5 q p (by omega),Option.bind_some]
     have hcv:zu6 q.aA (getH q.aS p) a=covA q.aA (getH q.aS p) a:=rfl
     rw [hcv]
     cases h5:covA q.aA (getH q.aS p) a with
     | true=>rfl
     | false =>
      rw [ifFT,ifFT,zaF0]
      by_cases h6:getH q.aS p=aC.zero
      ·rw [bW (by rw [(zak0 _).2 h6]; decide),bW (show ¬ getH q.aS p≠aC.zero from fun k=>k h6),zd2 (by omega) (by omega)]
       by_cases h7:8≤q.aS.length+q.aV.length
       ·rw [bY (by simp; omega),bY h7]; rfl
       ·rw [bW (by simp; omega),bW h7,zbK0,Option.bind_some]
        have hi:=zdu1 hs h3 h2 h4 (p:=p) (a:=a) (pr:=pr) (by omega)
        have e:({ aX.zero with aP:=p,aK:=a,bH:=pr }:aX)=⟨p,a,pr,0⟩:=rfl
        rw [e,hi,bW (by simp)]
        have hsc:=hs.claimW h3 h2 h4 h6 (by omega) (p:=p) (a:=a) (pr:=pr)
        have hq:(⟨(⟨q.aA.name,q.aA.kind,q.aA.aT,q.aA.home⟩:aH),q.aS,q.aI,(claimW q p a pr).aV,q.gen⟩:aB)=claimW q p a pr:=rfl
        simp only [hq]
        rw [zah5 hsc]; rfl
      ·rw [bY (by rw [(zat0 _).2 h6]; rfl),bY h6]
       have hsc:=hs.claimC h3 h4 h5 h6
       rw [zbp9,Option.bind_some,zh6 (by omega)]
       have hq:(⟨(⟨q.aA.name,q.aA.kind,q.aA.aT,q.aA.home⟩:aH),q.aS,q.aI++[{ aX.zero with aP:=p,aK:=zaw7 q.aA (getH q.aS p) a }],q.aV,q.gen⟩:aB)=claimC q p a:=rfl
       rw [hq,zah5 hsc]; rfl
theorem zbK3 (q:aB) (p:aJ):zY5 q p=some (zH4 q p):=by
 unfold zY5 zH4
 rw [zao0,Option.bind_some]
 cases h1:zl4 q with
 | false=>rfl
 | true =>
  obtain ⟨hs,hcan⟩:=(zz4 q).1 h1
  have hl:=hs.lens
  rw [ifNT,ifTF,zU7 q p (by omega) (by omega),Option.bind_some]
  cases h4:(zE3 q p).2 with
  | false=>rfl
  | true =>
   rw [ifNT,ifTF,zaF1 q (by omega) (by omega) (by omega),Option.bind_some,zau1 _ _ (by omega),Option.bind_some,zau1 _ _ (by simp only; omega),Option.bind_some]
   have hq:({ { q with aI:=rmL q.aI p } with aV:=rmL q.aV p }:aB)=zaF2 q p:=rfl
   simp only [hq]
   rw [zah5 (hs.cancel p)]; rfl
theorem zbV0 (q:aB) (p:aJ) (a:aC):zad3 q p a=some (zF2 q p a):=by
 unfold zad3 zF2
 rw [zao0,Option.bind_some]
 cases h1:zl4 q with
 | false=>rfl
 | true =>
  obtain ⟨hs,hcan⟩:=(zz4 q).1 h1
  have hl:=hs.lens
  rw [ifNT,ifTF,zI5 q p (by omega),Option.bind_some,zaF0]
  by_cases h6:getH q.aS p=aC.zero
  ·rw [bY ((zak0 _).2 h6),bY h6]; rfl
  ·rw [bW (by rw [(zat0 _).2 h6]; decide),bW h6,zU7 q p (by omega) (by omega),Option.bind_some]
   cases h4:(zE3 q p).2 with
   | true=>rfl
   | false =>
    have hcv:zu6 q.aA (getH q.aS p) a=covA q.aA (getH q.aS p) a:=rfl
    rw [ifFT,ifFT,hcv]
    cases h5:covA q.aA (getH q.aS p) a with
    | false=>rfl
    | true =>
     rw [ifNT,ifTF,zaF1 q (by omega) (by omega) (by omega),Option.bind_some]
     by_cases h7:getH q.aS p=a
     ·rw [bY (by simp [h7]),bY h7]
     ·rw [bW (by simpa using h7),bW h7,zaA5 _ _ _ (by omega),Option.bind_some]
      have hq:({ q with aS:=setL q.aS p a }:aB)=zaJ2 q p a:=rfl
      simp only [hq]
      rw [zah5 (hs.lower h4 h6 h5)]; rfl
theorem zbx5 (q:aB) (p:aJ) (h0:q.aS.length≤1000000) (h1:q.aI.length≤1000000) (h2:q.aV.length≤1000000):zu4 q p=some (hasQ q p):=by
 unfold zu4 hasQ
 rw [zU7 q p h1 h2,Option.bind_some,zI5 q p (by omega)]
 cases h:(zE3 q p).2 <;> simp [zaF0]
theorem zbK4 (q:aB) (p:aJ):zY7 q p=some (zI9 q p):=by
 unfold zY7 zI9
 rw [zao0,Option.bind_some]
 cases h1:zl4 q with
 | false=>rfl
 | true =>
  obtain ⟨hs,hcan⟩:=(zz4 q).1 h1
  have hl:=hs.lens
  rw [ifNT,ifTF,zbx5 q p (by omega) (by omega) (by omega),Option.bind_some]
  cases h4:hasQ q p with
  | false=>rfl
  | true =>
   rw [ifNT,ifTF,zaF1 q (by omega) (by omega) (by omega),Option.bind_some,zaA5 _ _ _ (by omega),Option.bind_some,zau1 _ _ (by simp only; omega),Option.bind_some,zau1 _ _ (by simp only; omega),Option.bind_some]
   have hz:setL q.aS p ({ aC.zero with })=zx6 p q.aS:=bY rfl
   have hq:({ { { q with aS:=zx6 p q.aS } with aI:=rmL q.aI p } with aV:=rmL q.aV p }:aB)=del q p:=rfl
   simp only [hz,hq]
   rw [zah5 (hs.del p)]; rfl
def zbj3 (x:aB×List aY×Int):Prop:=x.1.aS.length≤8∧x.1.aI.length≤8∧x.1.aV.length≤8∧x.2.1.length≤16
theorem zbm5 (e:Int):zbj3 (errQ e):=by unfold zbj3 errQ aB.zero; simp
theorem zat1 {q:aB} (h:SoundP q):zbj3 (zM7 q):=by
 have h1:=(h.adv).lens
 have h2:=zdi7 q
 have h3:=h.lens
 exact ⟨h1.1,h1.2.1,h1.2.2.1,by show (advG q).length≤16; omega⟩
theorem zbV1 {q:aB} (h:SoundP q):zbj3 (q,[],0):=by
 have h1:=h.lens
 exact ⟨h1.1,h1.2.1,h1.2.2.1,by simp⟩
theorem zcE5 {q:aB} {p:aJ} {a:aC} {pr:Int} (h:(zZ1 q p a pr).2.2≠0):∃ e,zZ1 q p a pr=errQ e:=by
 unfold zZ1 at h ⊢
 split; · exact ⟨_,rfl⟩
 split; · exact ⟨_,rfl⟩
 split; · exact ⟨_,rfl⟩
 split; · exact ⟨_,rfl⟩
 rename_i h1 h2 h3 h4
 rw [bW h1,bW h2,bW h3,bW h4] at h
 split
 ·rename_i h5; rw [bY h5] at h; exact absurd rfl h
 rename_i h5; rw [bW h5] at h
 split
 ·rename_i h6; rw [bY h6] at h; exact absurd rfl h
 rename_i h6; rw [bW h6] at h
 split
 ·exact ⟨_,rfl⟩
 ·rename_i h7; rw [bW h7] at h; exact absurd rfl h
theorem zcv7 {q:aB} {p:aJ} (h:(zH4 q p).2.2≠0):∃ e,zH4 q p=errQ e:=by
 unfold zH4 at h ⊢
 split; · exact ⟨_,rfl⟩
 split; · exact ⟨_,rfl⟩
 rename_i h1 h2
 rw [bW h1,bW h2] at h
 exact absurd rfl h
theorem zcv8 {q:aB} {p:aJ} (h:(zI9 q p).2.2≠0):∃ e,zI9 q p=errQ e:=by
 unfold zI9 at h ⊢
 split; · exact ⟨_,rfl⟩
 split; · exact ⟨_,rfl⟩
 rename_i h1 h2
 rw [bW h1,bW h2] at h
 exact absurd rfl h
theorem zcE6 {q:aB} {p:aJ} {a:aC} (h:(zF2 q p a).2.2≠0):∃ e,zF2 q p a=errQ e:=by
 unfold zF2 at h ⊢
 split; · exact ⟨_,rfl⟩
 split; · exact ⟨_,rfl⟩
 split; · exact ⟨_,rfl⟩
 split; · exact ⟨_,rfl⟩
 rename_i h1 h2 h3 h4
 rw [bW h1,bW h2,bW h3,bW h4] at h
 split
 ·rename_i h5; rw [bY h5] at h; exact absurd rfl h
 ·rename_i h5; rw [bW h5] at h; exact absurd rfl h
theorem zbx6 (q:aB) (p:aJ) (a:aC) (pr:Int):zbj3 (zZ1 q p a pr):=by
 by_cases h:(zZ1 q p a pr).2.2=0
 ·obtain ⟨hs,_,_,_,_,hh⟩:=zbm1 h
  rcases hh with ⟨_,e⟩|⟨_,_,e,hc⟩|⟨_,_,_,e,hc⟩
  ·rw [e]; exact zbV1 hs
  ·rw [e]; exact zat1 hc
  ·rw [e]; exact zat1 hc
 ·obtain ⟨e,he⟩:=zcE5 h; rw [he]; exact zbm5 e
theorem zbq1 (q:aB) (p:aJ):zbj3 (zH4 q p):=by
 by_cases h:(zH4 q p).2.2=0
 ·obtain ⟨_,_,_,e,hc⟩:=zaO3 h; rw [e]; exact zat1 hc
 ·obtain ⟨e,he⟩:=zcv7 h; rw [he]; exact zbm5 e
theorem zbq2 (q:aB) (p:aJ):zbj3 (zI9 q p):=by
 by_cases h:(zI9 q p).2.2=0
 ·obtain ⟨_,_,_,e,hc⟩:=zbt1 h; rw [e]; exact zat1 hc
 ·obtain ⟨e,he⟩:=zcv8 h; rw [he]; exact zbm5 e
theorem zba4 (q:aB) (p:aJ) (a:aC):zbj3 (zF2 q p a):=by
 by_cases h:(zF2 q p a).2.2=0
 ·obtain ⟨hs,_,_,_,_,hh⟩:=zaL4 h
  rcases hh with ⟨_,e⟩|⟨_,e,hc⟩
  ·rw [e]; exact zbV1 hs
  ·rw [e]; exact zat1 hc
 ·obtain ⟨e,he⟩:=zcE6 h; rw [he]; exact zbm5 e
theorem zbV2 (n m:Int) (h1:1≤m) (h2:m≤1000000):zn7 n m=some (n % m):=by
  unfold zn7
  rw [bW (by simp; omega),gdp (by omega)]
  have hlt:n.tmod m < m:=Int.tmod_lt_of_pos n (by omega)
  have hgt:-m < n.tmod m:=by have:=Int.lt_tmod_of_pos n (show 0 < m by omega); omega
  have e:n % m=if n.tmod m < 0 then n.tmod m+m else n.tmod m:=by
    rw [Int.emod_eq_tmod]
    by_cases h3:0≤n∨m ∣ n
    · rw [bY h3]
      have:0≤n.tmod m:=by
        rcases h3 with h|h
        · exact Int.tmod_nonneg m h
        · rw [Int.tmod_eq_zero_of_dvd h]; omega
      rw [bW (by omega)]; omega
    · rw [bW h3]
      simp only [jQ] at h3
      have h5:0≤(-n).tmod m:=Int.tmod_nonneg m (by omega)
      rw [Int.neg_tmod] at h5
      have h6:n.tmod m≠0:=fun h=>h3.2 (Int.dvd_of_tmod_eq_zero h)
      rw [bY (by omega)]; omega
  rw [e]
  by_cases hc:n.tmod m < 0
  · rw [bY (by simpa using hc),bY hc,zd2 (by omega) (by omega)]
  · rw [bW (by simpa using hc),bW hc]
def zdw7 (n:Int):aJ:=⟨(n % 8) % 4,1,1+(n % 8) / 4⟩
theorem zba5 (n:Int):zq4 n=some (zdw7 n):=by
  unfold zq4 zdw7
  rw [zbV2 n 8 (by decide) (by decide),Option.bind_some]
  have h1:0≤n % 8:=gZ _ (by decide)
  have h2:n % 8 < 8:=gX _ (by decide)
  rw [Int.tmod_eq_emod_of_nonneg h1,Int.tdiv_eq_ediv_of_nonneg h1,zd2 (x:=n % 8 / 4) (by omega) (by omega),zd2 (by omega) (by omega)]
def zdw8 (n:Int):Int:=zaa1.getD (n % 8).toNat 0
def amtM (r:aH) (n:Int):aC:=if r.kind=1 then ⟨zdw8 n,0⟩ else ⟨0,1+n % r.aT⟩
theorem zcm7 (n:Int):zr5 n=some (zdw8 n):=by
  unfold zr5
  have hl:(zaa1.length:Int)=8:=rfl
  have h1:0≤n % 8:=gZ _ (by decide)
  have h2:n % 8 < 8:=gX _ (by decide)
  rw [hl,zbV2 n 8 (by decide) (by decide),Option.bind_some,gdp ⟨h1,h2⟩]
  rfl
theorem zbV3 (r:aH) (n:Int) (hr:zh0 r=true):zr7 r n=some (amtM r n):=by
  rw [zM4] at hr
  unfold zr7 amtM
  by_cases hk:r.kind=1
  · simp only [hk,cF,cE,zcm7,Option.bind_some]; rfl
  · simp only [hk,cK,bV,cD]
    rw [zbV2 n r.aT (by omega) (by omega),Option.bind_some]
    have h1:0≤n % r.aT:=gZ _ (by omega)
    have h2:n % r.aT < r.aT:=gX _ (by omega)
    rw [zd2 (by omega) (by omega)]; rfl
structure TapeOk (t:bP):Prop where
  len:t.l.length≤1000000
  at_:0≤t.at_∧t.at_≤t.l.length
def zar4 (m:Int) (t:bP):Int:=if (t.l.length:Int)≤t.at_ then 0 else (t.l.getD t.at_.toNat 0) % m
def zS5 (t:bP):bP:=if (t.l.length:Int)≤t.at_ then t else { t with at_:=t.at_+1 }
theorem zba6 (m:Int) (t:bP) (ht:TapeOk t) (h1:1≤m) (h2:m≤1000000):zb8 m t=some (zar4 m t,zS5 t):=by
  unfold zb8 zar4 zS5
  have hl:=ht.len; have ha:=ht.at_
  by_cases h:(t.l.length:Int)≤t.at_
  · simp only [h,cF,cE]
  · simp only [h,cK,bV,cD]
    have w1:IntKind.i64.wrap (t.at_+1)=t.at_+1:=zd2 (by omega) (by omega)
    have w2:IntKind.i64.wrap (t.at_+1 - 1)=t.at_:=by rw [zd2 (by omega) (by omega)]; omega
    simp only [w1,w2]
    rw [gdp (by omega),zbV2 _ m h1 h2]
    rfl
theorem zaA7 {t:bP} (h:TapeOk t):TapeOk (zS5 t):=by
  unfold zS5
  split
  · exact h
  · have:=h.at_; exact ⟨h.len,by simp only; omega⟩
theorem zcM3 (t:bP):(zS5 t).l=t.l:=by unfold zS5; split <;> rfl
theorem zaH9 (m:Int) (t:bP) (h1:1≤m):0≤zar4 m t∧zar4 m t < m:=by
  unfold zar4
  split
  · omega
  · exact ⟨gZ _ (by omega),gX _ (by omega)⟩
def zaX2:Nat→bP→bP
  | 0,t=>t
  | n+1,t=>zaX2 n (zS5 t)
def catL (t:bP):List aH :=
  [⟨⟨#[97]⟩,1,1,zar4 4 t⟩,⟨⟨#[98]⟩,1,1,zar4 4 (zS5 t)⟩,⟨⟨#[99]⟩,1,1,zar4 4 (zaX2 2 t)⟩,⟨⟨#[100]⟩,1,1,zar4 4 (zaX2 3 t)⟩,
   ⟨⟨#[112]⟩,2,1+zar4 8 (zaX2 4 t),zar4 4 (zaX2 5 t)⟩,⟨⟨#[113]⟩,2,1+zar4 3 (zaX2 6 t),zar4 4 (zaX2 7 t)⟩]
theorem zcE7 (t:bP) (ht:TapeOk t):zl2 t=some (catL t,zaX2 8 t):=by
  unfold zl2
  have hlit:(zt8.length:Int)=4:=rfl
  have step:∀ (i:Nat) (u:bP) (l:List aH),i < 4→TapeOk u→l.length≤10→zM9 ((i:Int),u,l)=some (.inl ((i:Int)+1,zS5 u,l++[⟨zt8.getD i (⟨#[]⟩),1,1,zar4 4 u⟩])):=by
    intro i u l hi hu hl
    unfold zM9
    have h1:(i:Int) < 4:=by omega
    have h0:0≤(i:Int):=by omega
    simp only [hlit,h1,h0,cW,zo2,cF,cE]
    rw [zba6 4 u hu (by decide) (by decide),Option.bind_some,gdp (by omega),zd2 (by omega) (by omega)]
    simp only [Int.toNat_natCast]
  have s0:=step 0 t [] (by decide) ht (by simp)
  have o1:=zaA7 ht
  have s1:=step 1 (zS5 t) [⟨zt8.getD 0 (⟨#[]⟩),1,1,zar4 4 t⟩] (by decide) o1 (by simp)
  have o2:=zaA7 o1
  have s2:=step 2 (zS5 (zS5 t)) ([⟨zt8.getD 0 (⟨#[]⟩),1,1,zar4 4 t⟩]++[⟨zt8.getD 1 (⟨#[]⟩),1,1,zar4 4 (zS5 t)⟩]) (by decide) o2 (by simp)
  have o3:=zaA7 o2
  have s3:=step 3 (zS5 (zS5 (zS5 t))) ([⟨zt8.getD 0 (⟨#[]⟩),1,1,zar4 4 t⟩]++[⟨zt8.getD 1 (⟨#[]⟩),1,1,zar4 4 (zS5 t)⟩]++[⟨zt8.getD 2 (⟨#[]⟩),1,1,zar4 4 (zS5 (zS5 t))⟩]) (by decide) o3 (by simp)
  have o4:=zaA7 o3
  have s4:∀ u l,zM9 ((4:Int),u,l)=some (.inr (u,l)):=fun u l=>by unfold zM9; simp [hlit]
  rw [ze0,show ((0:Int),t,([]:List aH))=(((0:Nat):Int),t,[]) from rfl,s0]
  simp only [List.nil_append]
  rw [ze0,show ((0:Nat):Int)+1=((1:Nat):Int) from rfl,s1]
  simp only
  rw [ze0,show ((1:Nat):Int)+1=((2:Nat):Int) from rfl,s2]
  simp only
  rw [ze0,show ((2:Nat):Int)+1=((3:Nat):Int) from rfl,s3]
  simp only
  rw [ze0,show ((3:Nat):Int)+1=(4:Int) from rfl,s4]
  simp only [Option.bind_some]
  unfold zar8
  have o5:=zaA7 o4; have o6:=zaA7 o5; have o7:=zaA7 o6
  have w8:=zaH9 8 (zS5 (zS5 (zS5 (zS5 t)))) (by decide)
  have w3:=zaH9 3 (zS5 (zS5 (zS5 (zS5 (zS5 (zS5 t)))))) (by decide)
  simp only
  rw [zba6 8 _ o4 (by decide) (by decide),Option.bind_some]
  simp only
  rw [zba6 4 _ o5 (by decide) (by decide),Option.bind_some,gdp (by simp)]
  simp only
  rw [zba6 3 _ o6 (by decide) (by decide),Option.bind_some]
  simp only
  rw [zba6 4 _ o7 (by decide) (by decide),Option.bind_some,gdp (by simp)]
  simp only
  rw [zd2 (x:=1+zar4 8 _) (by omega) (by omega),zd2 (x:=1+zar4 3 _) (by omega) (by omega)]
  rfl
theorem zcv9 (t:bP):∀ r ∈ catL t,zh0 r=true:=by
  intro r hr
  have w8:=zaH9 8 (zaX2 4 t) (by decide)
  have w3:=zaH9 3 (zaX2 6 t) (by decide)
  unfold catL at hr
  simp only [cJ,fW,jH] at hr
  rw [zM4]
  rcases hr with rfl|rfl|rfl|rfl|rfl|rfl
  · exact .inl ⟨rfl,rfl⟩
  · exact .inl ⟨rfl,rfl⟩
  · exact .inl ⟨rfl,rfl⟩
  · exact .inl ⟨rfl,rfl⟩
  · exact .inr ⟨rfl,by simp only; omega,by simp only; omega⟩
  · exact .inr ⟨rfl,by simp only; omega,by simp only; omega⟩
def zdj3 (r:aH):aB:={ aB.zero with aA:=r }
theorem zcE8 {r:aH} (h:resV r=true):zh0 r=true:=by
 unfold resV at h; simp only [bX] at h; exact h.2.1
theorem zbV4 {q:aB} (h:zl4 q=true):zh0 q.aA=true:=zcE8 ((zz4 q).1 h).1.res
theorem zcf7 {α:Type} {l:List α} {i:Nat} {z:α} (h:i < l.length):l.take (i+1)=l.take i++[l.getD i z]:=by
 rw [fB h,bZ,cC h]; rfl
theorem zai9 {q:aB} (h:zl4 q=true):q.aS.length≤8∧q.aI.length≤8∧q.aV.length≤8∧zah3 q≤16:=((zz4 q).1 h).1.lens
theorem zcw0 {q:aB} (h:zl4 q=true) {p:aJ} (hp:hasQ q p=true):(zI9 q p).2.2=0∧(zI9 q p).1=remN q p:=by
 have e:=zbt2 h hp
 have h0:(zI9 q p).2.2=0:=by rw [e]; rfl
 refine ⟨h0,?_⟩
 unfold remN; rw [bY h0]
theorem zcf8:∀ x:List UInt8,Op.bytesLess x x=false
 | []=>rfl
 | a :: x=>by simp [Op.bytesLess,zcf8 x]
theorem zcw1:∀ {x y z:List UInt8},Op.bytesLess x y=true→Op.bytesLess y z=true→Op.bytesLess x z=true
 | x,[],z,h1,_=>by cases x <;> simp [Op.bytesLess] at h1
 | x,b :: y,[],_,h2=>by simp [Op.bytesLess] at h2
 | [],b :: y,c :: z,_,_=>by simp [Op.bytesLess]
 | a :: x,b :: y,c :: z,h1,h2=>by
  simp only [Op.bytesLess,dY,bX,cB,dH] at h1 h2 ⊢
  rcases h1 with h1|⟨rfl,h1⟩
  ·rcases h2 with h2|⟨rfl,h2⟩
   ·exact .inl (UInt8.lt_trans h1 h2)
   ·exact .inl h1
  ·rcases h2 with h2|⟨rfl,h2⟩
   ·exact .inl h2
   ·exact .inr ⟨rfl,zcw1 h1 h2⟩
def ltN (a b:ByteArray):Prop:=Op.bytesLess a.toList b.toList=true
instance (a b:ByteArray):Decidable (ltN a b):=by unfold ltN; infer_instance
theorem zdj4 {a b:ByteArray} (h:ltN a b):a≠b:=fun e=>by
 unfold ltN at h; rw [e,zcf8] at h; cases h
theorem zcf9 {a b c:ByteArray} (h:ltN a b) (k:ltN b c):ltN a c:=zcw1 h k
def AscN (t:List aB):Prop:=t.Pairwise fun a b=>ltN a.aA.name b.aA.name
def ascW:List aB→Option ByteArray→Bool
 | [],_=>true
 | q :: t,pv=>zl4 q&&((match pv with|none=>true|some n=>decide (ltN n q.aA.name))&&ascW t (some q.aA.name))
theorem zcw2:∀ (t:List aB) (pv:Option ByteArray),ascW t pv=true ↔ (∀ q ∈ t,zl4 q=true)∧AscN t∧∀ n,pv=some n→∀ q ∈ t,ltN n q.aA.name
 | [],pv=>by
  simp only [ascW,fW,iS,eU,jW,gH,true_iff]
  exact .nil
 | q :: t,pv=>by
  simp only [ascW,bX]
  rw [zcw2 t (some q.aA.name)]
  constructor
  ·rintro ⟨h1,h2,h3,h4,h5⟩
   refine ⟨fun x hx=>?_,cX.2 ⟨fun x hx=>h5 _ rfl x hx,h4⟩,fun n hn x hx=>?_⟩
   ·rcases cJ.1 hx with rfl|hx
    ·exact h1
    ·exact h3 x hx
   ·subst hn
    simp only [cB] at h2
    rcases cJ.1 hx with rfl|hx
    ·exact h2
    ·exact zcf9 h2 (h5 _ rfl x hx)
  ·rintro ⟨h1,h2,h3⟩
   have h2':=cX.1 h2
   refine ⟨h1 q (.head _),?_,fun x hx=>h1 x (.tail _ hx),h2'.2,fun n hn x hx=>by cases hn; exact h2'.1 x hx⟩
   cases pv with
   | none=>rfl
   | some n=>exact cS (h3 n rfl q (.head _))
def zar9 (t:List aB):Bool:=decide (t.length≤8)&&ascW t none
def zE5 (t:List aB):List aJ:=zbj1 (t.flatMap zao1)
def zaJ3 (t:List aB):Bool:=zar9 t&&decide ((zE5 t).length≤8)
structure ValidT (t:List aB):Prop where
 len:t.length≤8
 each:∀ q ∈ t,zl4 q=true
 asc:AscN t
 aD:(zE5 t).length≤8
theorem zaD9 (t:List aB):zar9 t=true ↔ t.length≤8∧(∀ q ∈ t,zl4 q=true)∧AscN t:=by
 unfold zar9
 rw [bX,cB,zcw2]
 simp
theorem zaj0 (t:List aB):zaJ3 t=true ↔ ValidT t:=by
 unfold zaJ3
 rw [bX,cB,zaD9]
 exact ⟨fun ⟨⟨h1,h2,h3⟩,h4⟩=>⟨h1,h2,h3,h4⟩,fun ⟨h1,h2,h3,h4⟩=>⟨⟨h1,h2,h3⟩,h4⟩⟩
theorem zcg0 {α:Type} (prev t:List α) (z:α) (h:prev≠[]):(prev++t).getD (prev.length - 1) z=prev.getLast h:=by
 have hp:0 < prev.length:=gG.2 h
 rw [bZ,dM (by omega),cC (by omega),List.getLast_eq_getElem]; rfl
theorem zcE9 (t0:List aB):∀ (t prev:List aB),t0=prev++t →
  walk (fun i q (_:Unit)=>some (if zl4 q=true∧(i=0∨ltN (t0.getD (i - 1) aB.zero).aA.name q.aA.name) then Sum.inl () else Sum.inr (Sum.inr (α:=Unit) false))) (fun _=>Sum.inl (β:=Bool) ()) t prev.length () =
   some (if ascW t (prev.getLast?.map (·.aA.name))=true then .inl () else .inr false):=by
 intro t
 induction t with
 | nil=>intro prev _; simp [walk,ascW]
 | cons q t ih =>
  intro prev ht
  simp only [walk]
  have hq:(prev.length=0∨ltN (t0.getD (prev.length - 1) aB.zero).aA.name q.aA.name) ↔ (match prev.getLast?.map (·.aA.name) with|none=>true|some n=>decide (ltN n q.aA.name))=true:=by
   by_cases hp:prev=[]
   ·subst hp; simp
   ·have h1:=zcg0 prev (q :: t) aB.zero hp
    rw [ht,h1,iU hp]
    have:prev.length≠0:=fun e=>hp (cQ e)
    simp [this]
  by_cases e:zl4 q=true∧(prev.length=0∨ltN (t0.getD (prev.length - 1) aB.zero).aA.name q.aA.name)
  ·rw [bY e]
   have:=ih (prev++[q]) (by rw [ht]; simp)
   rw [show (prev++[q]).length=prev.length+1 by simp] at this
   simp only
   have h2:ascW (q :: t) (prev.getLast?.map (·.aA.name))=ascW t (some q.aA.name):=by simp only [ascW,e.1,hq.1 e.2,cN]
   rw [this,h2]
   simp
  ·rw [bW e]
   rw [hq] at e
   have hf:ascW (q :: t) (prev.getLast?.map (·.aA.name))=false:=by
    rw [eA]
    intro hh
    simp only [ascW,bX] at hh
    exact e ⟨hh.1,hh.2.1⟩
   rw [hf]; rfl
theorem zbV5 {body:Int→Option (Int⊕(Unit⊕Bool))} (t:List aB) (hl:t.length≤8)
  (hb:∀ i:Nat,i < t.length→body (i:Int)=some (if zl4 (t.getD i aB.zero)=true∧(i=0∨ltN (t.getD (i - 1) aB.zero).aA.name (t.getD i aB.zero).aA.name) then .inl ((i+1:Nat):Int) else .inr (.inr false)))
  (he:body (t.length:Int)=some (.inr (.inl ()))):zc0 body 0=some (if ascW t none=true then .inl () else .inr false):=by
 have key:=zan6 (body:=body) t aB.zero (fun i (_:Unit)=>(i:Int)) (fun i q _=>some (if zl4 q=true∧(i=0∨ltN (t.getD (i - 1) aB.zero).aA.name q.aA.name) then Sum.inl () else Sum.inr (Sum.inr (α:=Unit) false))) (fun _=>Sum.inl (β:=Bool) ())
  (fun i s hi=>by
   rw [hb i hi,Option.map_some]
   split <;> rfl) (fun s=>he) ()
 have:=zcE9 t t [] rfl
 rw [show (0:Int)=(fun (i:Nat) (_:Unit)=>(i:Int)) 0 () from rfl,key]
 exact this
theorem zbx7 (t:List aB) (h:∀ q ∈ t,zl4 q=true):(t.flatMap zao1).length≤24 * t.length:=by
 induction t with
 | nil=>simp
 | cons q t ih =>
  have h1:=zai9 (h q (.head _))
  have h2:=zbm4 (q.aS.map (·.aP)++(ordQ q).map (·.aP))
  have h3:=ih fun x hx=>h x (.tail _ hx)
  have h4:(zao1 q).length≤24:=by
   unfold zao1
   unfold ordQ at *
   simp only [cA,dW] at h2
   omega
  rw [fD,cA,List.length_cons]; omega
theorem zbV6 {α β X:Type} (f:α→List β) (fin:List β→X):∀ (l:List α) (i:Nat) (s:List β),walk (fun _ a s=>some (.inl (s++f a))) fin l i s=some (fin (s++l.flatMap f))
 | [],i,s=>by simp [walk]
 | a :: l,i,s=>by
  simp only [walk,fD]
  rw [zbV6 f fin l (i+1),cG]
theorem zn0 {α:Type} {l:List α} {i:Nat} {z:α} (h:i < l.length):l.getD i z ∈ l:=by
 rw [bZ,cC h]; exact gL h
theorem zcg1 {q:aB} (h:zl4 q=true):(zao1 q).length≤24:=by
 have:=zbx7 [q] fun x hx=>by rw [dQ] at hx; rw [hx]; exact h
 simpa using this
theorem zbV7 {t:List aB} (hl:t.length≤8) (h:∀ q ∈ t,zl4 q=true):zD1 t=some (zE5 t):=by
 unfold zD1
 have key:=zE6 (body:=zag7 t) t aB.zero (fun i (s:List aJ)=>((i:Int),s)) (fun _ q s=>some (.inl (s++zao1 q))) (fun s=>s) (fun i s=>s.length≤24 * i)
  (fun i s hi hs=>by
   have hq:=h _ (zn0 (z:=aB.zero) hi)
   have hql:=zai9 hq
   have hpl:=zcg1 hq
   refine ⟨?_,fun s' h=>?_⟩
   ·unfold zag7
    have h3:0≤(i:Int)∧(i:Int) < (t.length:Int):=by omega
    simp only [h3.1,h3.2,cW,zo2,cF,cE,Int.toNat_natCast]
    rw [zbU7 _ (by omega) (by omega) (by omega),Option.bind_some,zh6 (by omega),zd0 i (by omega)]
    rfl
   ·simp only [cV,eW] at h; subst h; rw [cA]; omega)
  (fun s hs=>by unfold zag7; simp) [] (by simp)
 rw [show ((0,[]):Int×List aJ)=(fun (i:Nat) (s:List aJ)=>((i:Int),s)) 0 [] from rfl,key,zbV6 zao1,List.nil_append,Option.bind_some]
 unfold zaC6
 have:=zbx7 t h
 rw [zav3 _ (by omega)]; rfl
theorem zbD6 {α:Type} (l:List α) (z:α) (p:α→Bool) {body:Int→Option (Int⊕(Unit⊕Int))} (hb:∀ i:Nat,i < l.length→body (i:Int)=some (if p (l.getD i z)=true then .inr (.inr (i:Int)) else .inl ((i+1:Nat):Int)))
  (he:body (l.length:Int)=some (.inr (.inl ()))):zc0 body 0=some (match l.findIdx? p with|some i=>.inr (i:Int)|none=>.inl ()):=by
 have key:=zan6 (body:=body) l z (fun i (_:Unit)=>(i:Int)) (fun i a _=>some (if p a=true then .inr (Sum.inr (α:=Unit) (i:Int)) else .inl ())) (fun _=>Sum.inl (β:=Int) ())
  (fun i s hi=>by rw [hb i hi,Option.map_some]; split <;> rfl) (fun s=>he) ()
 have fold:∀ (l:List α) (i:Nat),walk (fun i a (_:Unit)=>some (if p a=true then .inr (Sum.inr (α:=Unit) (i:Int)) else .inl ())) (fun _=>Sum.inl (β:=Int) ()) l i ()=some (match l.findIdx? p with|some j=>.inr ((i+j:Nat):Int)|none=>.inl ()):=by
  intro l
  induction l with
  | nil=>intro i; rfl
  | cons a l ih =>
   intro i
   simp only [walk,List.findIdx?_cons]
   by_cases hp:p a=true
   ·simp [hp]
   ·simp only [hp,bV,cD]
    rw [ih (i+1)]
    cases l.findIdx? p with
    | none=>rfl
    | some j=>simp only [Option.map_some]; rw [show i+1+j=i+(j+1) by omega]
 have:=fold l 0
 simp only [dU] at this
 rw [show (0:Int)=(fun (i:Nat) (_:Unit)=>(i:Int)) 0 () from rfl,key]
 exact this
def isN (nm:ByteArray) (q:aB):Bool:=q.aA.name.toList == nm.toList
theorem zcM4 {nm:ByteArray} {q:aB}:isN nm q=true ↔ q.aA.name=nm:=by
 unfold isN; rw [dH]; exact zaw1
def zG6 (t:List aB) (nm:ByteArray):Int:=match t.findIdx? (isN nm) with
 | some i=>i
 | none=>-1
theorem zbj4 {t:List aB} {nm:ByteArray}:zG6 t nm=-1∨∃ i:Nat,zG6 t nm=i∧i < t.length∧(t.getD i aB.zero).aA.name=nm:=by
 unfold zG6
 cases h:t.findIdx? (isN nm) with
 | none=>exact .inl rfl
 | some i =>
  right
  obtain ⟨h1,h2,_⟩:=gR.1 h
  refine ⟨i,rfl,h1,?_⟩
  rw [bZ,cC h1]
  exact zcM4.1 h2
theorem zcm8 {t:List aB} (h:AscN t) {i j:Nat} (hi:i < t.length) (hj:j < t.length) (e:(t.getD i aB.zero).aA.name=(t.getD j aB.zero).aA.name):i=j:=by
 have hp:=fH.1 h
 have g:∀ k,(hk:k < t.length)→t.getD k aB.zero=t[k]:=fun k hk=>by rw [bZ,cC hk]; rfl
 rw [g i hi,g j hj] at e
 rcases Nat.lt_trichotomy i j with h1|h1|h1
 ·exact absurd e (zdj4 (hp i j hi hj h1))
 ·exact h1
 ·exact absurd e.symm (zdj4 (hp j i hj hi h1))
theorem zbx8 {t:List aB} (h:AscN t) {i:Nat} (hi:i < t.length):zG6 t (t.getD i aB.zero).aA.name=i:=by
 rcases zbj4 (t:=t) (nm:=(t.getD i aB.zero).aA.name) with h1|⟨j,h1,h2,h3⟩
 ·unfold zG6 at h1
  cases hf:t.findIdx? (isN (t.getD i aB.zero).aA.name) with
  | some k=>rw [hf] at h1; simp only at h1; omega
  | none =>
   have:=jB.1 hf (t.getD i aB.zero) (zn0 hi)
   rw [eA] at this
   exact absurd (zcM4.2 rfl) this
 ·rw [h1,zcm8 h h2 hi h3]
theorem zbD7 (x:aJ) (s:List aJ) (hs:s.Pairwise ltP) (hx:x ∉ s) (hl:s.length≤1000000):zc0 (zS1) ((s.length:Int),s++[x])=some (zaH8 x s):=by
 obtain ⟨r,h1,h2⟩:=zw0 (body:=zS1) (fun g=>∃ pre post:List aJ,g=((pre.length:Int),pre++x :: post)∧pre++post=s∧∀ y ∈ post,ltP x y) (fun g=>g.1.toNat) (fun r=>r=zaH8 x s) (by
  rintro g ⟨pre,post,rfl,hp,hpost⟩
  have hpl:pre.length+post.length=s.length:=by rw [← hp,cA]
  unfold zS1
  simp only [cA,List.length_cons]
  by_cases h0:pre=[]
  ·right
   subst h0
   refine ⟨_,by rw [zh6 (by simp),zh6 (by simp),bW (by simp)],?_⟩
   simp only [List.nil_append] at hp ⊢
   subst hp
   refine zaO5 (cX.2 ⟨hpost,hs⟩) (zaD8 hs) fun y=>?_
   rw [zaD7,cJ]
  ·obtain ⟨pre',y,rfl⟩:∃ p' y,pre=p'++[y]:=⟨pre.dropLast,pre.getLast h0,(List.dropLast_concat_getLast h0).symm⟩
   have hk:(pre'++[y]).length=pre'.length+1:=by simp
   rw [hk] at hpl ⊢
   have w:IntKind.i64.wrap (((pre'.length+1:Nat):Int) - 1)=(pre'.length:Int):=by rw [zd2 (by omega) (by omega)]; omega
   have e1:(pre'++[y]++x :: post).getD pre'.length aJ.zero=y:=by simp [bZ]
   have e2:(pre'++[y]++x :: post).getD (pre'.length+1) aJ.zero=x:=by simp [bZ]
   have g1:0≤(pre'.length:Int)∧(pre'.length:Int) < ((pre'.length+1+(post.length+1):Nat):Int):=by omega
   have g2:0≤((pre'.length+1:Nat):Int)∧((pre'.length+1:Nat):Int) < ((pre'.length+1+(post.length+1):Nat):Int):=by omega
   have hpos:decide (0 < ((pre'.length+1:Nat):Int))=true:=cS (by omega)
   simp only [w,Int.toNat_natCast,e1,e2,hpos,cN]
   rw [zh6 (fun _=>g1),zh6 (fun _=>g2)]
   have hlt:decide (0 < zv1 y x)=decide (ltP x y):=by rw [iA]; exact zbS5 y x
   rw [hlt]
   by_cases hxy:ltP x y
   ·left
    rw [bY (cS hxy),zh6 g1,zh6 g2,zh6 g1,zh6 g2]
    refine ⟨((pre'.length:Int),pre'++x :: (y :: post)),?_,⟨pre',y :: post,rfl,by rw [← hp]; simp,fun z hz=>?_⟩,by simp only [Int.toNat_natCast]; omega⟩
    ·congr 3
     rw [cG,gQ _ _ (dC _),gT,gQ _ _ (by omega),show pre'.length+1 - pre'.length=1 by omega]
     rfl
    ·rcases cJ.1 hz with rfl|hz
     ·exact hxy
     ·exact hpost z hz
   ·right
    refine ⟨_,by rw [bW (by simpa using hxy)],?_⟩
    have hyx:ltP y x:=by
     rcases zaD3 (p:=x) (q:=y) (fun e=>hx (by rw [← hp,e]; simp)) with h|h
     ·exact absurd h hxy
     ·exact h
    rw [← hp] at hs
    obtain ⟨a1,a2,a3⟩:=fF.1 hs
    obtain ⟨b1,b2,b3⟩:=fF.1 a1
    have hpre:∀ z ∈ pre'++[y],ltP z x:=fun z hz=>by
     rcases cU.1 hz with hz|hz
     ·exact zaD2 (b3 z hz y (by simp)) hyx
     ·rw [dQ] at hz; rw [hz]; exact hyx
    rw [← hp]
    refine zaO5 (fF.2 ⟨a1,cX.2 ⟨hpost,a2⟩,fun z hz u hu=>?_⟩) (zaD8 hs) fun z=>?_
    ·rcases cJ.1 hu with rfl|hu
     ·exact hpre z hz
     ·exact a3 z hz u hu
    ·rw [zaD7]
     simp only [cU,cJ,dQ]
     constructor
     ·rintro ((h|h)|h|h)
      ·exact .inr (.inl (.inl h))
      ·exact .inr (.inl (.inr h))
      ·exact .inl h
      ·exact .inr (.inr h)
     ·rintro (h|(h|h)|h)
      ·exact .inr (.inl h)
      ·exact .inl (.inl h)
      ·exact .inl (.inr h)
      ·exact .inr (.inr h)) ((s.length:Int),s++[x]) ⟨s,[],by simp,by simp,by simp⟩
 rw [h1,h2]
theorem zav4 (l:List aJ) (hl:l.length≤1000000):zh9 l=some (zbj1 l):=by
 unfold zh9
 have key:=zE6 (body:=zE9 l) l aJ.zero (fun i (s:List aJ)=>((i:Int),s)) (fun _ p s=>some (.inl (zaH8 p s))) (fun s=>s) (fun i s=>s.Pairwise ltP∧s.length≤i)
  (fun i s hi hs=>by
   have hlen:∀ p,(zaH8 p s).length≤s.length+1:=fun p=>by
    have:=eP (zbm3 (zaD8 (p:=p) hs.1)) (l₂:=p :: s) fun z hz=>by
     rcases zaD7.1 hz with rfl|h
     ·exact .head _
     ·exact .tail _ h
    simpa using this
   refine ⟨?_,fun s' h=>?_⟩
   ·unfold zE9
    have h3:0≤(i:Int)∧(i:Int) < (l.length:Int):=by omega
    simp only [h3.1,h3.2,cW,zo2,cF,cE,Int.toNat_natCast]
    rw [zaX1 _ _ (by omega),Option.bind_some,zd0 i (by omega)]
    by_cases hm:l.getD i aJ.zero ∈ s
    ·rw [bY (cS hm),Option.map_some,zcE2 hs.1 hm]; rfl
    ·rw [bW (by rw [cB]; exact hm),zh6 (by omega),zbD7 _ _ hs.1 hm (by omega),Option.bind_some]
     unfold zam9
     simp only [zd0 i (show i < 4611686018427387904 by omega),Option.map_some,wmap]
   ·simp only [cV,eW] at h; subst h
    exact ⟨zaD8 hs.1,by have:=hlen (l.getD i aJ.zero); omega⟩)
  (fun s hs=>by unfold zE9; simp) [] ⟨.nil,by simp⟩
 rw [show ((0,[]):Int×List aJ)=(fun (i:Nat) (s:List aJ)=>((i:Int),s)) 0 [] from rfl,key,zbT9 (fun s p=>zaH8 p s)]
 rfl
theorem zaI0 {α β:Type} (l:List α) (z:α) (f:α→β) (s0:List β) {body:Int×List β→Option ((Int×List β)⊕List β)} (hl:l.length≤1000000) (h0:s0.length≤1000000)
  (hb:∀ (i:Nat) (s:List β),i < l.length→s.length≤3000000→body ((i:Int),s)=some (.inl (((i+1:Nat):Int),s++[f (l.getD i z)]))) (he:∀ s,body ((l.length:Int),s)=some (.inr s)):zc0 body (0,s0)=some (s0++l.map f):=by
 have key:=zE6 (body:=body) l z (fun i (s:List β)=>((i:Int),s)) (fun i a s=>some (.inl (zaH6 s (some (f a))))) (fun s=>s) (fun i s=>s.length≤1000000+i)
  (fun i s hi hs=>⟨by rw [hb i s hi (by omega)]; rfl,fun s' h=>by simp only [cV,eW] at h; subst h; simp [zaH6]; omega⟩) (fun s hs=>he s) s0 (by omega)
 rw [show ((0,s0):Int×List β)=(fun (i:Nat) (s:List β)=>((i:Int),s)) 0 s0 from rfl,key,zaL2 (fun a=>some (f a))]
 simp
theorem zbD8 (l:List aY) (hl:l.length≤1000000):zh5 l=some (l.map (·.aP)):=by
 unfold zh5
 rw [zaI0 l aY.zero (·.aP) [] hl (by simp) (fun i s hi hs=>by
  unfold zai5
  have h3:0≤(i:Int)∧(i:Int) < (l.length:Int):=by omega
  have h1:s.length+1≤4294967296:=by omega
  simp only [h1,h3.1,h3.2,cW,zo2,cF,cE,Int.toNat_natCast,zd0 i (show i < 4611686018427387904 by omega)]) (fun s=>by unfold zai5; simp)]
 rfl
theorem zbV8 (q:aB) (h1:q.aI.length≤1000) (h2:q.aV.length≤1000):zl1 q=some ((ordQ q).map (·.aP)):=by
 unfold zl1
 rw [zaI0 q.aI aX.zero (·.aP) [] (by omega) (by simp) (fun i s hi hs=>by
  unfold zap4
  have h3:0≤(i:Int)∧(i:Int) < (q.aI.length:Int):=by omega
  have h1:s.length+1≤4294967296:=by omega
  simp only [h1,h3.1,h3.2,cW,zo2,cF,cE,Int.toNat_natCast,zd0 i (show i < 4611686018427387904 by omega)]) (fun s=>by unfold zap4; simp),Option.bind_some]
 unfold zap3
 rw [zaI0 q.aV aX.zero (·.aP) _ (by omega) (by simp; omega) (fun i s hi hs=>by
  unfold zap2
  have h3:0≤(i:Int)∧(i:Int) < (q.aV.length:Int):=by omega
  have h1:s.length+1≤4294967296:=by omega
  simp only [h1,h3.1,h3.2,cW,zo2,cF,cE,Int.toNat_natCast,zd0 i (show i < 4611686018427387904 by omega)]) (fun s=>by unfold zap2; simp),Option.bind_some]
 unfold zaC0 ordQ
 rw [fG,List.nil_append]
theorem zbV9 (q:aB) (h0:q.aS.length≤1000) (h1:q.aI.length≤1000) (h2:q.aV.length≤1000):zt6 q=some (zao1 q):=by
 unfold zt6 zao1
 have hl:(ordQ q).length≤2000:=by unfold ordQ; rw [cA]; omega
 rw [zbD8 _ (by omega),Option.bind_some,zbV8 q h1 h2,Option.bind_some,zh6 (by simp; omega),zav4 _ (by simp; omega)]
 rfl
theorem zaA8 {t:List aB} (hl:t.length≤8) (h:∀ q ∈ t,zl4 q=true):zw7 t=some (zE5 t):=by
 unfold zw7
 have key:=zE6 (body:=zag5 t) t aB.zero (fun i (s:List aJ)=>((i:Int),s)) (fun _ q s=>some (.inl (s++zao1 q))) (fun s=>s) (fun i s=>s.length≤24 * i)
  (fun i s hi hs=>by
   have hq:=h _ (zn0 (z:=aB.zero) hi)
   have hql:=zai9 hq
   have hpl:=zcg1 hq
   refine ⟨?_,fun s' h=>?_⟩
   ·unfold zag5
    have h3:0≤(i:Int)∧(i:Int) < (t.length:Int):=by omega
    simp only [h3.1,h3.2,cW,zo2,cF,cE,Int.toNat_natCast]
    rw [zbV9 _ (by omega) (by omega) (by omega),Option.bind_some,zh6 (by omega),zd0 i (by omega)]
    rfl
   ·simp only [cV,eW] at h; subst h; rw [cA]; omega)
  (fun s hs=>by unfold zag5; simp) [] (by simp)
 rw [show ((0,[]):Int×List aJ)=(fun (i:Nat) (s:List aJ)=>((i:Int),s)) 0 [] from rfl,key,zbV6 zao1,List.nil_append,Option.bind_some]
 unfold zaC4
 have:=zbx7 t h
 rw [zav4 _ (by omega)]; rfl
theorem zbj5 (t:List aB):zR2 t=some (zar9 t):=by
 unfold zR2 zar9
 by_cases h8:8 < t.length
 ·have:¬ t.length≤8:=by omega
  rw [bY (by simp; omega)]
  simp [this]
 ·have hl:t.length≤8:=by omega
  rw [bW (by simp; omega),zbV5 t hl (fun i hi=>by
   unfold zaq7
   have h3:0≤(i:Int)∧(i:Int) < (t.length:Int):=by omega
   simp only [h3.1,h3.2,cW,eU,zo2,cF,cE,Int.toNat_natCast,zao0,Option.bind_some,zd0 i (by omega)]
   by_cases e0:i=0
   ·subst e0
    rw [zh6 (by simp)]
    cases zl4 (t.getD 0 aB.zero) <;> simp
   ·rw [zaD0 i (by omega) (by omega),zh6 (by intro _; omega)]
    simp only [Int.toNat_natCast,show (0:Int) < (i:Int) by omega,cF,cN,e0,iK]
    unfold ltN
    rcases hb (zl4 (t.getD i aB.zero)) with b1|b1 <;> rcases hb (Op.bytesLess (t.getD (i - 1) aB.zero).aA.name.toList (t.getD i aB.zero).aA.name.toList) with b2|b2 <;> simp [b1,b2,-List.getD_eq_getElem?_getD]) (by unfold zaq7; simp)]
  simp only [hl,cF,cN]
  cases hw:ascW t none <;> rfl
theorem zao2 (t:List aB):zI3 t=some (zaJ3 t):=by
 unfold zI3 zaJ3
 rw [zbj5,Option.bind_some]
 cases hp:zar9 t with
 | false=>rfl
 | true =>
  obtain ⟨h1,h2,_⟩:=(zaD9 t).1 hp
  rw [bY rfl,zaA8 h1 h2,Option.bind_some,cN]
  congr 1
  rw [dL]; simp; omega
theorem zW5 (t:List aB) (nm:ByteArray) (hl:t.length≤1000000):zi2 t nm=some (zG6 t nm):=by
 unfold zi2
 rw [zbD6 t aB.zero (isN nm) (fun i hi=>by
  unfold zat7 isN
  have h3:0≤(i:Int)∧(i:Int) < (t.length:Int):=by omega
  simp only [h3.1,h3.2,cW,zo2,cF,cE,Int.toNat_natCast,zd0 i (by omega)]
  split <;> rfl) (by unfold zat7; simp)]
 unfold zG6
 cases t.findIdx? (isN nm) <;> rfl
theorem zcF0 (a b:List aB) (h:a.length=b.length) (hl:a.length≤1000000) (hs:∀ q ∈ a,q.aS.length≤1000∧q.aI.length≤1000∧q.aV.length≤1000) :
  zc0 (zaa2 a b) 0=some (if a=b then .inl () else .inr false):=by
 have key:zc0 (zaa2 a b) 0=some ((zU5 (fun i=>if decide (a.getD i aB.zero=b.getD i aB.zero)=true then none else some (Sum.inr false)) a.length 0).getD (Sum.inl ())):=by
  refine zM3 a.length _ (Sum.inl ()) (fun i hi=>?_) ?_
  ·have hq:=hs _ (zn0 (z:=aB.zero) hi)
   unfold zaa2
   rw [bY (by simpa using hi),zh6 (by omega),zh6 (by omega),zd2 (by omega) (by omega)]
   simp only [Int.toNat_natCast]
   rw [zcb0 _ _ (by omega) (by omega) (by omega),Option.bind_some]
   by_cases hx:a.getD i aB.zero=b.getD i aB.zero
   ·simp only [hx,cF,cL,bV,cD,cE]
   ·simp only [hx,cK,cY,cE,bV,cD]
  ·unfold zaa2
   rw [bW (by simp)]
 rw [key,zU6,← eN,zdh4 a b aB.zero h]
 by_cases e:a=b <;> simp [e]
theorem zcb3 (a b:List aB) (hl:a.length≤1000000) (hs:∀ q ∈ a,q.aS.length≤1000∧q.aI.length≤1000∧q.aV.length≤1000):zt1 a b=some (decide (a=b)):=by
 unfold zt1
 by_cases h:a.length=b.length
 ·rw [bW (by simp [h]),zcF0 a b h hl hs]
  by_cases e:a=b <;> simp [e,zaI7]
 ·have:¬ a=b:=fun e=>h (by rw [e])
  rw [bY (by simp; omega),gF this]
end Ab
end Go.Proofs.YtcggeefhhegeoaaGreatDoor
