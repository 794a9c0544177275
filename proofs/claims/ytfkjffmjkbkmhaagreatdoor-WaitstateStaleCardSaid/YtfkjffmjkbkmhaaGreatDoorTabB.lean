import Derived.Test.YtfkjffmjkbkmhaaGreatDoorLinB
namespace Go.Proofs.YtfkjffmjkbkmhaaGreatDoor
namespace Ab
set_option linter.unusedVariables false
set_option linter.unusedSimpArgs false
theorem zbM9 {p:aK} {l:List aV} {h:aV}:h ∈ zu0 p l ↔ h ∈ l∧h.aJ≠p:=by unfold zu0; simp
theorem zda1 {l m:List aD} (h:l.Sublist m) (hn:∀ a ∈ m,0≤a.aR):sumU l≤sumU m:=by
 induction h with
 | slnil=>exact iM _
 | cons a h ih =>
  have:=ih fun b hb=>hn b (.tail _ hb)
  have:=hn a (.head _)
  simp only [sumU]; omega
 | cons_cons a h ih =>
  have:=ih fun b hb=>hn b (.tail _ hb)
  simp only [sumU]; omega
theorem CompP.sub {r:aI} {l m:List aD} (h:CompP r m) (hs:l.Sublist m):CompP r l where
 perm:=fun a ha=>h.perm a (hs.subset ha)
 sum:=Int.le_trans (zda1 hs fun a ha=>(zac3 (h.perm a ha)).1) h.sum
 pair:=h.pair.sublist hs
theorem GoodP.sub {r:aI} {l m:List aV} (h:GoodP r m) (hs:l.Sublist m):GoodP r l:=⟨fun x hx=>h.each x (hs.subset hx),h.asc.sublist hs⟩
theorem zQ0 (r:aI) (l:List aV):zF7 r l=true ↔ ze9 r=true∧l.length≤8∧GoodP r l∧CompP r (l.map (·.aN)):=by
 unfold zF7; simp
theorem zbo9 {r:aI} {l m:List aV} (h:zF7 r m=true) (hs:l.Sublist m):zF7 r l=true:=by
 rw [zQ0] at h ⊢
 exact ⟨h.1,dX hs.length_le h.2.1,h.2.2.1.sub hs,h.2.2.2.sub (hs.map _)⟩
theorem zbp0 (p:aK) (l:List aV):(zu0 p l).Sublist l:=gQ
theorem zcx4 {r:aI} (hr:ze9 r=true):zF7 r []=true:=by
 rw [zQ0]
 have:1≤r.aR:=by rw [zE8] at hr; omega
 exact ⟨hr,by simp,⟨by simp,.nil⟩,⟨by simp,by simp [sumU]; omega,.nil⟩⟩
theorem zbx6 (p:aK) (a:aD) (l:List aV):(insP p a l).Perm (⟨p,a⟩ :: l):=by
 induction l with
 | nil=>exact kP _
 | cons h t ih =>
  simp only [insP]
  split
  ·exact kP _
  ·exact (List.Perm.cons h ih).trans (List.Perm.swap _ _ _)
theorem zcn8 {p:aK} {a:aD}:∀ {l:List aV},l.Pairwise (fun a b=>ltP a.aJ b.aJ)→(∀ h ∈ l,h.aJ≠p)→(insP p a l).Pairwise fun a b=>ltP a.aJ b.aJ
 | [],_,_=>by simp [insP]
 | h :: t,hp,hn=>by
  rw [cP] at hp
  simp only [insP]
  split
  ·rename_i hlt
   rw [cP]
   refine ⟨fun x hx=>?_,cP.2 hp⟩
   rcases cE.1 hx with rfl|hx
   ·exact hlt
   ·exact zae7 hlt (hp.1 x hx)
  ·rename_i hlt
   rw [cP]
   refine ⟨fun x hx=>?_,zcn8 hp.2 fun x hx=>hn x (.tail _ hx)⟩
   rcases cE.1 ((zbx6 p a t).mem_iff.1 hx) with rfl|hx
   ·rcases zal8 (hn h (.head _)) with h1|h1
    ·exact h1
    ·exact absurd h1 hlt
   ·exact hp.1 x hx
theorem zbx7 {l m:List aD} (h:l.Perm m):sumU l=sumU m:=by
 induction h with
 | nil=>rfl
 | cons a _ ih=>simp only [sumU,ih]
 | swap a b l=>simp only [sumU]; omega
 | trans _ _ ih1 ih2=>exact ih1.trans ih2
theorem zaX0 {a b:aD} (h:¬ zan7 a b):¬ zan7 b a:=fun ⟨h1,h2,h3⟩=>h ⟨h2,h1,by rw [zbF6]; exact h3⟩
theorem CompP.perm_iff {r:aI} {l m:List aD} (h:l.Perm m):CompP r l ↔ CompP r m:=by
 constructor
 ·intro k
  exact ⟨fun a ha=>k.perm a (h.mem_iff.2 ha),by rw [← zbx7 h]; exact k.sum,(h.pairwise_iff (fun h=>zaX0 h)).1 k.pair⟩
 ·intro k
  exact ⟨fun a ha=>k.perm a (h.mem_iff.1 ha),by rw [zbx7 h]; exact k.sum,(h.pairwise_iff (fun h=>zaX0 h)).2 k.pair⟩
theorem zcn9 {r:aI} {l:List aV} {p:aK} {a:aD} (hv:zF7 r l=true) (hp:zc5 p=true) (ha:za4 r a=true) (hlen:(zu0 p l).length+1≤8) :
  zaG2 r l p a=true ↔ (∀ h ∈ zu0 p l,¬ zan7 h.aN a)∧a.aR+sumU ((zu0 p l).map (·.aN))≤r.aR:=by
 have hv':=(zQ0 r l).1 hv
 have hz:=zR2 ha
 have ho:=zbo9 hv (zbp0 p l)
 have ho':=(zQ0 r _).1 ho
 have hpr:zag3 r l p a=true:=by unfold zag3; simp [hv,hp,ha]
 have hpm:((insP p a (zu0 p l)).map (·.aN)).Perm (a :: (zu0 p l).map (·.aN)):=(zbx6 p a (zu0 p l)).map _
 unfold zaG2
 rw [hpr,cJ,zQ0]
 unfold setL
 rw [bT hz,CompP.perm_iff hpm]
 constructor
 ·rintro ⟨_,_,_,h4⟩
  refine ⟨fun h hh=>?_,h4.sum⟩
  have:=(cP.1 h4.pair).1 h.aN (cH.2 ⟨h,hh,rfl⟩)
  exact zaX0 this
 ·rintro ⟨h1,h2⟩
  refine ⟨hv'.1,by rw [zbs4]; exact hlen,⟨fun x hx=>?_,zcn8 ho'.2.2.1.asc fun h hh=>(zbM9.1 hh).2⟩,⟨fun b hb=>?_,h2,?_⟩⟩
  ·rcases cE.1 ((zbx6 p a _).mem_iff.1 hx) with rfl|hx
   ·exact ⟨hp,ha⟩
   ·exact ho'.2.2.1.each x hx
  ·rcases cE.1 hb with rfl|hb
   ·exact zz5 ha
   ·exact ho'.2.2.2.perm b hb
  ·rw [cP]
   refine ⟨fun b hb=>?_,ho'.2.2.2.pair⟩
   obtain ⟨h,hh,rfl⟩:=cH.1 hb
   exact zaX0 (h1 h hh)
theorem zbN0 {α S X:Type} (f:S→α→S) (fin:S→X):∀ (l:List α) (i:Nat) (s:S),walk (fun _ a s=>some (.inl (f s a))) fin l i s=some (fin (l.foldl f s))
 | [],_,_=>rfl
 | a :: l,i,s=>by simp only [walk,List.foldl_cons]; exact zbN0 f fin l (i+1) _
theorem zda2 (l:List aV) (hl:l.length≤1000000):zaF2 l=some (l.map (·.aJ)):=by
 unfold zaF2
 have key:=zA2 (body:=zad5 l) l aV.zero (fun i (s:List aK)=>((i:Int),s)) (fun i h s=>some (.inl (zaD7 s (some h.aJ)))) (fun s=>s) (fun i s=>s.length≤i)
  (fun i s hi hs=>by
   refine ⟨?_,fun s' h=>?_⟩
   ·unfold zad5
    have h1:s.length+1≤4294967296:=by omega
    have h3:0≤(i:Int)∧(i:Int) < (l.length:Int):=by omega
    simp only [h1,h3.1,h3.2,cX,zk6,cC,cB,Int.toNat_natCast,zc6 i (by omega),Option.map_some,wmap,zaD7]
   ·simp only [dC,fF] at h; subst h; simp [zaD7]; omega)
  (fun s hs=>by unfold zad5; simp) [] (by simp)
 rw [show ((0,[]):Int×List aK)=(fun (i:Nat) (s:List aK)=>((i:Int),s)) 0 [] from rfl,key,zaH6 (fun h:aV=>some h.aJ)]
 simp [zaJ8]
theorem zaw2 {α:Type} {P:α→Prop} {l:List α} {z:α}:(∀ i,i < l.length→P (l.getD i z)) ↔ ∀ w ∈ l,P w:=by
 constructor
 ·intro h w hw
  obtain ⟨i,hi,rfl⟩:=eR.1 hw
  have:=h i hi
  rwa [bV,bY hi] at this
 ·intro h i hi
  refine h _ ?_
  rw [bV,bY hi]
  exact iP hi
theorem zdz6 (p:aK):getH [] p=aD.zero:=rfl
theorem zV7 (h:aV) (t:List aV) (p:aK):getH (h :: t) p=if h.aJ=p then h.aN else getH t p:=by
 unfold getH
 rw [List.find?_cons]
 by_cases e:h.aJ=p <;> simp [e]
theorem zaT4 (p:aK) (l:List aV):getH (zu0 p l) p=aD.zero:=by
 induction l with
 | nil=>rfl
 | cons h t ih =>
  rw [zaD9]
  by_cases e:h.aJ=p
  ·simp only [e,cB]; exact ih
  ·simp only [e,cA,zV7]; exact ih
theorem zU3 {p q:aK} (hq:q≠p) (l:List aV):getH (zu0 p l) q=getH l q:=by
 induction l with
 | nil=>rfl
 | cons h t ih =>
  rw [zaD9]
  by_cases e:h.aJ=p
  ·simp only [e,cB,zV7]
   rw [bT (fun e2=>hq e2.symm)]; exact ih
  ·simp only [e,cA,zV7]
   split
   ·rfl
   ·exact ih
theorem zbe6 (p:aK) (a:aD):∀ l:List aV,(∀ h ∈ l,h.aJ≠p)→getH (insP p a l) p=a
 | [],_=>by simp [insP,zV7]
 | h :: t,hh=>by
  simp only [insP]
  split
  ·simp [zV7]
  ·simp only [zV7,hh h (.head _),cA]
   exact zbe6 p a t fun x hx=>hh x (.tail _ hx)
theorem zbs9 {p q:aK} (a:aD) (hq:q≠p):∀ l:List aV,getH (insP p a l) q=getH l q
 | []=>by simp only [insP,zV7]; rw [bT (fun e:p=q=>hq e.symm)]
 | h :: t=>by
  simp only [insP]
  split
  ·simp only [zV7]; rw [bT (fun e:p=q=>hq e.symm)]
  ·simp only [zV7]
   split
   ·rfl
   ·exact zbs9 a hq t
theorem zaw3 (l:List aV) (p:aK) (a:aD):getH (setL l p a) p=a:=by
 unfold setL
 split
 ·rename_i h; rw [zaT4,h]
 ·exact zbe6 p a _ fun h hh=>(zbM9.1 hh).2
theorem zE3 {p q:aK} (hq:q≠p) (l:List aV) (a:aD):getH (setL l p a) q=getH l q:=by
 unfold setL
 split
 ·exact zU3 hq l
 ·rw [zbs9 a hq]; exact zU3 hq l
theorem zaK4 {l:List aV} {p:aK} (h:getH l p≠aD.zero):(⟨p,getH l p⟩:aV) ∈ l:=by
 induction l with
 | nil=>exact absurd rfl h
 | cons x t ih =>
  rw [zV7] at h ⊢
  by_cases e:x.aJ=p
  ·rw [bW e]; subst e; exact .head _
  ·rw [bT e] at h ⊢; exact .tail _ (ih h)
theorem zco0 {l:List aV} {p:aK} (h:∀ x ∈ l,x.aJ≠p):zu0 p l=l:=List.filter_eq_self.2 fun x hx=>by simpa using h x hx
def Asc (l:List aV):Prop:=l.Pairwise fun a b=>ltP a.aJ b.aJ
theorem zaT5 {r:aI} {l:List aV} (h:zF7 r l=true):Asc l:=((zQ0 r l).1 h).2.2.1.asc
theorem zda3 {h:aV} {t:List aV} (k:Asc (h :: t)):∀ x ∈ t,x.aJ≠h.aJ:=fun x hx e=>by
 have:=(cP.1 k).1 x hx
 rw [e] at this; exact zP8 _ this
theorem zco1 {l:List aV} (h:Asc l) {p:aK} (hp:getH l p≠aD.zero):l.Perm (⟨p,getH l p⟩ :: zu0 p l):=by
 induction l with
 | nil=>exact absurd rfl hp
 | cons x t ih =>
  rw [zV7] at hp ⊢
  rw [zaD9]
  by_cases e:x.aJ=p
  ·rw [bW e,bW e,zco0 (by rw [← e]; exact zda3 h)]
   subst e; exact kP _
  ·rw [bT e] at hp
   rw [bT e,bT e]
   exact ((ih (cP.1 h).2 hp).cons x).trans (List.Perm.swap _ _ _)
theorem zbx8 {l:List aV} (h:Asc l) {p:aK} (hp:getH l p≠aD.zero):(zu0 p l).length+1=l.length:=by
 have:=(zco1 h hp).length_eq
 simpa using this.symm
theorem zco2 {l:List aV} (ha:Asc l) {x:aV} (hx:x ∈ l):getH l x.aJ=x.aN:=by
 induction l with
 | nil=>cases hx
 | cons y t ih =>
  rw [zV7]
  rcases cE.1 hx with rfl|hx
  ·rw [bW rfl]
  ·rw [bT (fun e:y.aJ=x.aJ=>zda3 ha x hx e.symm)]
   exact ih (cP.1 ha).2 hx
theorem zas4 {r:aI} {l:List aV} (h:zF7 r l=true) (p:aK):zc2 r (getH l p)=true:=by
 have hv:=(zQ0 r l).1 h
 by_cases e:getH l p=aD.zero
 ·rw [e,perm_iff]; exact .inl ⟨hv.1,rfl⟩
 ·exact zz5 (hv.2.2.1.each _ (zaK4 e)).2
theorem zae4 (a:aD):zj7 a=true ↔ a=aD.zero:=by unfold zj7; simp
theorem zan9 (a:aD):zj7 a=false ↔ a≠aD.zero:=by rw [← gG,zae4]
structure SoundP (q:aA):Prop where
 res:resV q.aB=true
 hv:zF7 q.aB q.aQ=true
 cl:q.aO.length≤8
 cn:(q.aO.map (·.aJ)).Nodup
 cg:∀ w ∈ q.aO,getH q.aQ w.aJ≠aD.zero∧za4 q.aB w.aN=true∧covA q.aB w.aN (getH q.aQ w.aJ)=true∧w.aN≠getH q.aQ w.aJ∧w.bC=0∧w.bR=0
 wv:zU2 q.aS=true
 wl:q.aQ.length+q.aS.length≤8
 wg:∀ w ∈ q.aS,za4 q.aB w.aN=true∧getH q.aQ w.aJ=aD.zero
 gen:0≤q.gen∧q.gen≤1073741824
theorem zbp1 (q:aA):zaP5 q=true ↔ SoundP q:=by
 have hc:cvOk q=true ↔ q.aO.length≤8∧(q.aO.map (·.aJ)).Nodup∧∀ w ∈ q.aO,getH q.aQ w.aJ≠aD.zero∧za4 q.aB w.aN=true∧covA q.aB w.aN (getH q.aQ w.aJ)=true∧w.aN≠getH q.aQ w.aJ∧w.bC=0∧w.bR=0:=by
  unfold cvOk
  rw [← zbo8,← zaw2 (z:=aT.zero)]
  simp only [bS,bX,eT,eO,cvI,cS,zan9,cR]
  constructor
  ·rintro ⟨h1,h2⟩; exact ⟨h1,fun i hi=>(h2 i hi).1,fun i hi=>(h2 i hi).2⟩
  ·rintro ⟨h1,h2,h3⟩; exact ⟨h1,fun i hi=>⟨h2 i hi,h3 i hi⟩⟩
 have hw:wtOk q=true ↔ zU2 q.aS=true∧q.aQ.length+q.aS.length≤8∧∀ w ∈ q.aS,za4 q.aB w.aN=true∧getH q.aQ w.aJ=aD.zero:=by
  unfold wtOk
  rw [← zaw2 (z:=aT.zero)]
  simp only [bS,bX,eT,eO,wtI,zae4]
 unfold zaP5
 simp only [bS,hc,hw,bX]
 constructor
 ·rintro ⟨h1,h2,⟨h3,h4,h5⟩,⟨h6,h7,h8⟩,h9⟩; exact ⟨h1,h2,h3,h4,h5,h6,h7,h8,h9⟩
 ·rintro ⟨h1,h2,h3,h4,h5,h6,h7,h8,h9⟩; exact ⟨h1,h2,⟨h3,h4,h5⟩,⟨h6,h7,h8⟩,h9⟩
theorem SoundP.apart {q:aA} (h:SoundP q) {c w:aT} (hc:c ∈ q.aO) (hw:w ∈ q.aS):c.aJ≠w.aJ:=fun e =>
 (h.cg c hc).1 (by rw [e]; exact (h.wg w hw).2)
theorem SoundP.nodup {q:aA} (h:SoundP q):((q.aO++q.aS).map (·.aJ)).Nodup:=by
 rw [eU,hJ]
 refine ⟨h.cn,((zaq5 _).1 h.wv).2.2,fun a ha b hb=>?_⟩
 obtain ⟨c,hc,rfl⟩:=cH.1 ha
 obtain ⟨w,hw,rfl⟩:=cH.1 hb
 exact h.apart hc hw
inductive Pop (q:aA):Prop where
 | con (w:aT) (cs:List aT) (h:q.aO=w :: cs) (hd:(zI8 q).1=w) (hr:zaG2 q.aB q.aQ w.aJ w.aN=true) (hp:popQ q={ q with aQ:=setL q.aQ w.aJ w.aN,aO:=cs })
 | wait (w:aT) (ws:List aT) (hc:q.aO=[]) (h:q.aS=w :: ws) (hd:(zI8 q).1=w) (hr:zaG2 q.aB q.aQ w.aJ w.aN=true) (hp:popQ q={ q with aQ:=setL q.aQ w.aJ w.aN,aS:=ws })
theorem zce5 {q:aA} (h:canQ q=true):Pop q:=by
 unfold canQ at h
 rw [bS] at h
 obtain ⟨h1,h2⟩:=h
 cases hc:q.aO with
 | cons w cs =>
  have hd:(zI8 q).1=w:=by unfold zI8; rw [hc]; rfl
  exact .con w cs hc hd (by rw [← hd]; exact h2) (by unfold popQ; rw [hd]; simp [hc])
 | nil =>
  cases hw:q.aS with
  | cons w ws =>
   have hd:(zI8 q).1=w:=by unfold zI8; rw [hc,hw]; rfl
   exact .wait w ws hc hw hd (by rw [← hd]; exact h2) (by unfold popQ; rw [hd]; simp [hc,hw])
  | nil=>unfold zI8 at h1; rw [hc,hw] at h1; exact absurd h1 (by decide)
theorem zaz5 {r:aI} {l:List aV} {p:aK} {a:aD} (h:zaG2 r l p a=true):zF7 r l=true∧zc5 p=true∧za4 r a=true∧zF7 r (setL l p a)=true:=by
 unfold zaG2 zag3 at h
 simp only [bS] at h
 exact ⟨h.1.1,h.1.2.1,h.1.2.2,h.2⟩
theorem zbX4 {r:aI} {l:List aV} {p:aK} (a:aD) (h:zF7 r l=true) (hp:getH l p≠aD.zero):(setL l p a).length≤l.length:=by
 have:=zbx8 (zaT5 h) hp
 unfold setL
 split
 ·omega
 ·rw [zbs4]; omega
theorem zco3 {w:aT} {l:List aT} (h:zU2 (w :: l)=true):zU2 l=true:=by
 rw [zaq5] at h ⊢
 obtain ⟨h1,h2,h3⟩:=h
 rw [eD,fZ] at h3
 exact ⟨by simp at h1; omega,fun x hx=>h2 x (.tail _ hx),h3.2⟩
theorem SoundP.pop {q:aA} (h:SoundP q) (hc:canQ q=true):SoundP (popQ q):=by
 cases zce5 hc with
 | con w cs he hd hr hp =>
  rw [hp]
  obtain ⟨_,_,_,hv⟩:=zaz5 hr
  have hn:w.aJ ∉ cs.map (·.aJ)∧(cs.map (·.aJ)).Nodup:=by have:=h.cn; rw [he,eD,fZ] at this; exact this
  have hw:=h.cg w (by rw [he]; exact .head _)
  have hl:=zbX4 w.aN h.hv hw.1
  have h8:=h.cl
  rw [he,List.length_cons] at h8
  refine ⟨h.res,hv,by simp only; omega,hn.2,fun c hcc=>?_,h.wv,?_,fun x hx=>?_,h.gen⟩
  ·have hne:c.aJ≠w.aJ:=fun e=>hn.1 (cH.2 ⟨c,hcc,e⟩)
   simp only [zE3 hne]
   exact h.cg c (by rw [he]; exact .tail _ hcc)
  ·have:=h.wl; simp only; omega
  ·have hne:x.aJ≠w.aJ:=fun e=>h.apart (c:=w) (by rw [he]; exact .head _) hx e.symm
   simp only [zE3 hne]
   exact h.wg x hx
 | wait w ws hcn he hd hr hp =>
  rw [hp]
  obtain ⟨_,_,_,hv⟩:=zaz5 hr
  have hl:=zcZ7 q.aQ w.aJ w.aN
  have h8:=h.wl
  have hwv:=h.wv
  rw [he] at h8 hwv
  have hn:w.aJ ∉ ws.map (·.aJ):=by have:=((zaq5 _).1 hwv).2.2; rw [eD,fZ] at this; exact this.1
  rw [List.length_cons] at h8
  refine ⟨h.res,hv,h.cl,h.cn,fun c hcc=>?_,zco3 hwv,by simp only; omega,fun x hx=>?_,h.gen⟩
  ·rw [hcn] at hcc; cases hcc
  ·have hne:x.aJ≠w.aJ:=fun e=>hn (cH.2 ⟨x,hx,e⟩)
   simp only [zE3 hne]
   exact h.wg x (by rw [he]; exact .tail _ hx)
theorem zbe7:∀ (n:Nat) (q:aA) (l:List aV),advN n (q,l)=((advN n (q,[])).1,l++(advN n (q,[])).2)
 | 0,q,l=>by simp [advN]
 | n+1,q,l=>by
  simp only [advN]
  split
  ·unfold zbs8
   simp only [List.nil_append]
   rw [zbe7 n (popQ q) (l++_),zbe7 n (popQ q) [_],dB]
  ·simp
def advS (q:aA):aA:=(advQ q).1
def advG (q:aA):List aV:=(advQ q).2
theorem zbi1 (q:aA):advQ q=if canQ q=true then ((advQ (popQ q)).1,⟨(zI8 q).1.aJ,(zI8 q).1.aN⟩ :: (advQ (popQ q)).2) else (q,[]):=by
 unfold advQ
 rw [zbx5 (q,[])]
 show (if canQ q=true then advN (zab6 (popQ q)) (popQ q,[]++[_]) else (q,[]))=_
 split
 ·rw [zbe7]; rfl
 ·rfl
theorem zbN1 {q:aA} (h:canQ q=true):advS q=advS (popQ q):=by unfold advS; rw [zbi1 q,bW h]
theorem zda4 {q:aA} (h:canQ q=true):advG q=⟨(zI8 q).1.aJ,(zI8 q).1.aN⟩ :: advG (popQ q):=by unfold advG; rw [zbi1 q,bW h]
theorem zbN2 {q:aA} (h:canQ q=false):advS q=q:=by unfold advS; rw [zbi1 q,h]; rfl
theorem zda5 {q:aA} (h:canQ q=false):advG q=[]:=by unfold advG; rw [zbi1 q,h]; rfl
theorem zbi2 {P:aA→Prop} (h:∀ q,canQ q=true→P q→P (popQ q)):∀ q,P q→P (advS q):=by
 have key:∀ n q,zab6 q=n→P q→P (advS q):=by
  intro n
  induction n using Nat.strongRecOn with
  | _ n ih =>
   intro q hn hq
   cases hc:canQ q with
   | false=>rw [zbN2 hc]; exact hq
   | true =>
    rw [zbN1 hc]
    have:=(zaH7 hc).2.1
    exact ih (zab6 (popQ q)) (by omega) _ rfl (h q hc hq)
 exact fun q hq=>key _ q rfl hq
theorem zcF1 {P:aA→Prop} (h0:∀ q,canQ q=false→P q) (h:∀ q,canQ q=true→P (popQ q)→P q):∀ q,P q:=by
 have key:∀ n q,zab6 q=n→P q:=by
  intro n
  induction n using Nat.strongRecOn with
  | _ n ih =>
   intro q hn
   cases hc:canQ q with
   | false=>exact h0 q hc
   | true =>
    have:=(zaH7 hc).2.1
    exact h q hc (ih (zab6 (popQ q)) (by omega) _ rfl)
 exact fun q=>key _ q rfl
theorem zda6:∀ q,canQ (advS q)=false:=by
 refine zcF1 (fun q h=>by rw [zbN2 h]; exact h) fun q h ih=>by rw [zbN1 h]; exact ih
theorem SoundP.adv {q:aA} (h:SoundP q):SoundP (advS q):=zbi2 (P:=SoundP) (fun _ hc h=>h.pop hc) q h
theorem zr8 (q:aA):zg7 q=true ↔ SoundP q∧canQ q=false:=by
 unfold zg7
 rw [bS,zbp1]
 show SoundP q∧(!canQ q)=true ↔ _
 rw [cS]
theorem zda7:∀ q,(advG q).length+zab6 (advS q)=zab6 q:=by
 refine zcF1 (fun q h=>by rw [zbN2 h,zda5 h]; simp) fun q h ih=>by
  rw [zbN1 h,zda4 h,List.length_cons]
  have:=(zaH7 h).2.1
  omega
theorem zdl9 (r:aI) (a b:aD):covA r a b=(!(!zc2 r a||!zc2 r b)&&(zj7 b||(!zj7 a&&(if r.kind=1 then covM a.mode b.mode else decide (b.aR≤a.aR))))):=by
 have e1:=zbh8 r a
 have e2:=zbh8 r b
 have e3:=zaB6 a
 have e4:=zaB6 b
 have h:covA r a b=(!(!zt5 r a||!zt5 r b)&&(zk7 b||(!zk7 a&&(if r.kind=1 then covM a.mode b.mode else decide (b.aR≤a.aR))))):=by
  unfold covA zq9
  generalize (!zt5 r a||!zt5 r b)=x
  generalize zk7 b=y
  generalize zk7 a=z
  by_cases hk:r.kind=1 <;> cases x <;> cases y <;> cases z <;> simp [hk]
 rw [h,e1,e2,e3,e4]
theorem zQ4 (r:aI) (a b:aD):covA r a b=true ↔ zc2 r a=true∧zc2 r b=true∧(b=aD.zero∨a≠aD.zero∧b≠aD.zero∧((r.kind=1∧covM a.mode b.mode=true)∨(r.kind≠1∧b.aR≤a.aR))):=by
 rw [zdl9]
 have za:=zae4 a
 have zb:=zae4 b
 simp only [bS,dG,cS,fT,Bool.not_eq_false',zb,zan9]
 by_cases e:b=aD.zero
 ·simp [e,fY]
 ·by_cases hk:r.kind=1 <;> simp [e,hk,fY]
theorem zas5 {r:aI} {a:aD} (h:zc2 r a=true):covA r a a=true:=by
 rw [zQ4]
 refine ⟨h,h,?_⟩
 by_cases e:a=aD.zero
 ·exact .inl e
 ·refine .inr ⟨e,e,?_⟩
  by_cases hk:r.kind=1
  ·left
   refine ⟨hk,?_⟩
   have:=zaz3 h hk
   have hm:a.mode≠0:=fun hm=>e (by obtain ⟨m,u⟩:=a; simp only at *; unfold aD.zero; congr; omega)
   rw [zaK2]; omega
  ·exact .inr ⟨hk,iM _⟩
theorem zbi3 {r:aI} {a:aD} (h:zc2 r a=true) (hs:ze9 r=true):covA r a aD.zero=true:=by
 rw [zQ4]; exact ⟨h,(perm_iff r _).2 (.inl ⟨hs,rfl⟩),.inl rfl⟩
theorem zbp2 {r:aI} {a b c:aD} (h1:covA r a b=true) (h2:covA r b c=true):covA r a c=true:=by
 rw [zQ4] at h1 h2 ⊢
 refine ⟨h1.1,h2.2.1,?_⟩
 rcases h2.2.2 with e|⟨hb0,hc0,h3⟩
 ·exact .inl e
 ·rcases h1.2.2 with e|⟨ha0,_,h4⟩
  ·exact absurd e hb0
  ·refine .inr ⟨ha0,hc0,?_⟩
   rcases h3 with ⟨k,h3⟩|⟨k,h3⟩
   ·rcases h4 with ⟨_,h4⟩|⟨k',_⟩
    ·left; refine ⟨k,?_⟩
     rw [zaK2] at h3 h4 ⊢; omega
    ·exact absurd k k'
   ·rcases h4 with ⟨k',_⟩|⟨_,h4⟩
    ·exact absurd k' k
    ·exact .inr ⟨k,by omega⟩
def low (a b:aD):Prop:=a.aR≤b.aR∧∀ c,¬ zan7 b c→¬ zan7 a c
theorem zdv3 {r:aI} {a b:aD} (h:covA r b a=true):low a b:=by
 rw [zQ4] at h
 obtain ⟨h1,h2,h3⟩:=h
 have hb1:=zac3 h1
 rcases h3 with e|⟨hb0,ha0,h3⟩
 ·subst e
  refine ⟨hb1.1,fun c _ hc=>?_⟩
  exact hc.1 rfl
 ·rcases h3 with ⟨k,h3⟩|⟨k,h3⟩
  ·have p1:=zaz3 h1 k
   have p2:=zaz3 h2 k
   refine ⟨by omega,fun c hc hc'=>hc ⟨?_,hc'.2.1,?_⟩⟩
   ·rw [zaK2] at h3; omega
   ·have h4:=hc'.2.2
    rw [← gG] at h4 ⊢
    intro h5; apply h4
    rw [zce0] at h5 ⊢
    rw [zaK2] at h3
    omega
  ·have hk:r.kind=2:=by
    have:=(perm_iff r a).1 h2
    rw [zE8,zA6] at this
    omega
   have p2:=zbh9 h2 hk
   exact ⟨h3,fun c _ hc=>hc.1 p2.1⟩
theorem zcL9 {r:aI} {l:List aV} {p:aK} {a:aD}:zaG2 r l p a=true ↔ zF7 r l=true∧zc5 p=true∧za4 r a=true∧(zu0 p l).length+1≤8∧(∀ h ∈ zu0 p l,¬ zan7 h.aN a)∧a.aR+sumU ((zu0 p l).map (·.aN))≤r.aR:=by
 constructor
 ·intro h
  obtain ⟨h1,h2,h3,h4⟩:=zaz5 h
  have hl:(zu0 p l).length+1≤8:=by
   have:=zai3 h4
   unfold setL at this
   rw [bT (zR2 h3),zbs4] at this
   exact this
  exact ⟨h1,h2,h3,hl,(zcn9 h1 h2 h3 hl).1 h⟩
 ·rintro ⟨h1,h2,h3,h4,h5⟩
  exact (zcn9 h1 h2 h3 h4).2 h5
theorem zco4 {r:aI} {l:List aV} {p:aK} {a:aD} (hv:zF7 r l=true) (hp:getH l p≠aD.zero) (hc:covA r (getH l p) a=true):zF7 r (setL l p a)=true:=by
 have hasc:=zaT5 hv
 have hv':=(zQ0 r l).1 hv
 by_cases hz:a=aD.zero
 ·unfold setL; rw [bW hz]; exact zbo9 hv (zbp0 p l)
 ·have hfit:za4 r a=true:=by
   rcases (perm_iff r a).1 ((zQ4 _ _ _).1 hc).2.1 with h|h
   ·exact absurd h.2 hz
   ·exact h
  have hlow:=zdv3 hc
  have hm:=zaK4 hp
  have hlt:=zbx8 hasc hp
  have hpm:=zco1 hasc hp
  have hroom:zaG2 r l p a=true:=by
   rw [zcL9]
   refine ⟨hv,(hv'.2.2.1.each _ hm).1,hfit,by have:=hv'.2.1; omega,fun x hx hcl=>?_,?_⟩
   ·have hpr:=(CompP.perm_iff (hpm.map (·.aN))).1 hv'.2.2.2
    have:=(cP.1 hpr.pair).1 x.aN (cH.2 ⟨x,hx,rfl⟩)
    exact hlow.2 _ this (by
     obtain ⟨c1,c2,c3⟩:=hcl
     exact ⟨c2,c1,by rw [zbF6]; exact c3⟩)
   ·have h1:=zbx7 (hpm.map (·.aN))
    have h2:=hv'.2.2.2.sum
    rw [h1] at h2
    simp only [eD,sumU] at h2
    have:=hlow.1
    omega
  exact (zaz5 hroom).2.2.2
def del (q:aA) (p:aK):aA:={ q with aQ:=zu0 p q.aQ,aO:=rmL q.aO p,aS:=rmL q.aS p }
theorem zda8 (w:aT) (l:List aT) (p:aK):rmL (w :: l) p=if w.aJ=p then rmL l p else w :: rmL l p:=by
 unfold rmL notP; rw [iE]; by_cases e:w.aJ=p <;> simp [e]
theorem zaG9 {w:aT} {l:List aT} {p:aK}:w ∈ rmL l p ↔ w ∈ l∧w.aJ≠p:=by unfold rmL notP; simp
theorem zbi4 (l:List aT) (p:aK):(rmL l p).Sublist l:=gQ
theorem SoundP.del {q:aA} (h:SoundP q) (p:aK):SoundP (del q p):=by
 have h1:=(zbi4 q.aO p).length_le
 have h2:=(zbi4 q.aS p).length_le
 have h3:=zaJ9 p q.aQ
 have h4:=h.cl; have h5:=h.wl
 refine ⟨h.res,zbo9 h.hv (zbp0 p _),by simp only [Ab.del]; omega,h.cn.sublist ((zbi4 _ _).map _),fun w hw=>?_,zbX3 p h.wv,by simp only [Ab.del]; omega,fun w hw=>?_,h.gen⟩
 ·obtain ⟨a1,a2⟩:=zaG9.1 hw
  simp only [Ab.del,zU3 a2]
  exact h.cg w a1
 ·obtain ⟨a1,a2⟩:=zaG9.1 hw
  simp only [Ab.del,zU3 a2]
  exact h.wg w a1
theorem zdz7 (q:aA) (g:Int):canQ { q with gen:=g }=canQ q:=rfl
theorem zce6 (q:aA):(popQ q).gen=q.gen∧(popQ q).aB=q.aB:=by unfold popQ; split <;> exact ⟨rfl,rfl⟩
theorem zcF2 (q:aA):(advS q).gen=q.gen∧(advS q).aB=q.aB :=
 zbi2 (P:=fun x=>x.gen=q.gen∧x.aB=q.aB) (fun x _ h=>by rw [(zce6 x).1,(zce6 x).2]; exact h) q ⟨rfl,rfl⟩
theorem zai7 (g:Int):0≤zm5 g∧zm5 g≤1073741824:=by
  unfold zm5
  by_cases h:g < 0∨1073741824≤g
  · rw [bW (by simpa using h)]; decide
  · rw [bT (by simpa using h),zi0 (by omega) (by omega)]; omega
def zD8 (q:aA):aA×List aV×Int:=({ advS q with gen:=zm5 q.gen },advG q,0)
theorem SoundP.gen' {q:aA} (h:SoundP q) (g:Int) (h1:0≤g) (h2:g≤1073741824):SoundP { q with gen:=g }:=⟨h.res,h.hv,h.cl,h.cn,h.cg,h.wv,h.wl,h.wg,h1,h2⟩
theorem zV8 {q:aA} (h:SoundP q):zg7 (zD8 q).1=true:=by
  rw [zr8]
  exact ⟨h.adv.gen' _ (zai7 _).1 (zai7 _).2,by show canQ (advS q)=false; exact zda6 q⟩
theorem zbN3 (q:aA) (p:aK):(zp7 q p).2=true ↔ ∃ w ∈ q.aO++q.aS,w.aJ=p:=by
  unfold zp7 zaw1
  cases h:(q.aO++q.aS).find? fun w=>decide (w.aJ=p) with
  | none =>
    rw [List.find?_eq_none] at h
    simp only [bX] at h
    constructor
    · intro h2; cases h2
    · rintro ⟨w,hw,e⟩; exact absurd e (h w hw)
  | some w =>
    have h1:=List.mem_of_find?_eq_some h
    have h2:=List.find?_some h
    exact ⟨fun _=>⟨w,h1,by simpa using h2⟩,fun _=>rfl⟩
theorem zao0 {q:aA} {p:aK}:(zp7 q p).2=false ↔ ∀ w ∈ q.aO++q.aS,w.aJ≠p:=by
  rw [← gG,zbN3]
  constructor
  · exact fun h w hw e=>h ⟨w,hw,e⟩
  · rintro h ⟨w,hw,e⟩; exact h w hw e
theorem zbB9 {q:aA} (hn:((q.aO++q.aS).map (·.aJ)).Nodup) {w:aT} (hw:w ∈ q.aO++q.aS):zp7 q w.aJ=(w.aN,true):=by
  unfold zp7 zaw1
  generalize q.aO++q.aS=l at hn hw
  induction l with
  | nil=>cases hw
  | cons x t ih =>
    rw [eD,fZ] at hn
    rw [List.find?_cons]
    rcases cE.1 hw with rfl|hw
    · simp
    · have:x.aJ≠w.aJ:=fun e=>hn.1 (cH.2 ⟨w,hw,e.symm⟩)
      simp only [this,cK]
      exact ih hn.2 hw
theorem zcM0:∀ a ∈ [(1:Int),2,3,4,5],∀ b ∈ [(1:Int),2,3,4,5],supM a b ∈ [(1:Int),2,3,4,5]∧covM (supM a b) a=true∧covM (supM a b) b=true:=by decide
theorem zcM1 {r:aI} {a b:aD} (ha:za4 r a=true) (hb:za4 r b=true) (hk:r.kind=1):zH8 r a b=⟨supM a.mode b.mode,0⟩:=by
  unfold zH8
  rw [zz5 ha,zz5 hb,(zan9 a).2 (zR2 ha),(zan9 b).2 (zR2 hb)]
  simp [hk,aD.zero]
theorem zcM2 {r:aI} {a b:aD} (ha:za4 r a=true) (hb:za4 r b=true) (hk:r.kind≠1):zH8 r a b=⟨0,if a.aR < b.aR then b.aR else a.aR⟩:=by
  unfold zH8
  rw [zz5 ha,zz5 hb,(zan9 a).2 (zR2 ha),(zan9 b).2 (zR2 hb)]
  simp [hk,aD.zero]
theorem zbp3 {r:aI} {h a:aD} (hh:za4 r h=true) (ha:za4 r a=true) (hc:covA r h a=false) :
    za4 r (zH8 r h a)=true∧covA r (zH8 r h a) h=true∧covA r (zH8 r h a) a=true∧zH8 r h a≠h:=by
  have hf:za4 r (zH8 r h a)=true∧covA r (zH8 r h a) h=true∧covA r (zH8 r h a) a=true:=by
    have fh:=(zA6 r h).1 hh
    have fa:=(zA6 r a).1 ha
    by_cases hk:r.kind=1
    · have m1:h.mode ∈ [(1:Int),2,3,4,5]:=by simp; omega
      have m2:a.mode ∈ [(1:Int),2,3,4,5]:=by simp; omega
      obtain ⟨s1,s2,s3⟩:=zcM0 _ m1 _ m2
      rw [zcM1 hh ha hk]
      have hfit:za4 r ⟨supM h.mode a.mode,0⟩=true:=by
        rw [zA6]; left
        simp at s1
        exact ⟨hk,by omega,by simp only; omega,by simp only; omega,rfl⟩
      refine ⟨hfit,?_,?_⟩
      · rw [zQ4]; exact ⟨zz5 hfit,zz5 hh,.inr ⟨zR2 hfit,zR2 hh,.inl ⟨hk,s2⟩⟩⟩
      · rw [zQ4]; exact ⟨zz5 hfit,zz5 ha,.inr ⟨zR2 hfit,zR2 ha,.inl ⟨hk,s3⟩⟩⟩
    · rw [zcM2 hh ha hk]
      have hfit:za4 r ⟨0,if h.aR < a.aR then a.aR else h.aR⟩=true:=by
        rw [zA6]; right
        refine ⟨by omega,by omega,by omega,rfl,?_,?_⟩ <;> simp only <;> split <;> omega
      refine ⟨hfit,?_,?_⟩
      · rw [zQ4]; refine ⟨zz5 hfit,zz5 hh,.inr ⟨zR2 hfit,zR2 hh,.inr ⟨hk,?_⟩⟩⟩
        simp only; split <;> omega
      · rw [zQ4]; refine ⟨zz5 hfit,zz5 ha,.inr ⟨zR2 hfit,zR2 ha,.inr ⟨hk,?_⟩⟩⟩
        simp only; split <;> omega
  refine ⟨hf.1,hf.2.1,hf.2.2,fun e=>?_⟩
  have:=hf.2.2
  rw [e,hc] at this; cases this
def claimC (q:aA) (p:aK) (a:aD):aA:={ q with aO:=q.aO++[⟨p,zH8 q.aB (getH q.aQ p) a,0,0⟩] }
def claimW (q:aA) (p:aK) (a:aD) (pr:Int):aA:={ q with aS:=zaT2 q.aS ⟨p,a,pr,0⟩ (zai5 q.aS ⟨p,a,pr,0⟩ q.aS.length) }
def zaw4 (q:aA) (p:aK):aA:={ q with aO:=rmL q.aO p,aS:=rmL q.aS p }
def zaz6 (q:aA) (p:aK) (a:aD):aA:={ q with aQ:=setL q.aQ p a }
def hasQ (q:aA) (p:aK):Bool:=(zp7 q p).2||!zj7 (getH q.aQ p)
def errQ (e:Int):aA×List aV×Int:=(aA.zero,[],e)
def zaT6 (p:aK) (pr:Int):Bool:=zc5 p&&(decide (0≤pr)&&decide (pr≤7))
def zw4 (q:aA) (p:aK) (a:aD) (pr:Int):aA×List aV×Int :=
  if zg7 q=false then errQ 2 else if zaT6 p pr=false then errQ 1 else if za4 q.aB a=false then errQ 12 else if (zp7 q p).2=true then errQ 14
  else if covA q.aB (getH q.aQ p) a=true then (q,[],0) else if getH q.aQ p≠aD.zero then zD8 (claimC q p a)
  else if 8≤q.aQ.length+q.aS.length then errQ 4 else zD8 (claimW q p a pr)
def zC6 (q:aA) (p:aK):aA×List aV×Int :=
  if zg7 q=false then errQ 2 else if (zp7 q p).2=false then errQ 10 else zD8 (zaw4 q p)
def zD9 (q:aA) (p:aK) (a:aD):aA×List aV×Int :=
  if zg7 q=false then errQ 2 else if getH q.aQ p=aD.zero then errQ 10 else if (zp7 q p).2=true then errQ 14
  else if covA q.aB (getH q.aQ p) a=false then errQ 12 else if getH q.aQ p=a then (q,[],0) else zD8 (zaz6 q p a)
def zE4 (q:aA) (p:aK):aA×List aV×Int :=
  if zg7 q=false then errQ 2 else if hasQ q p=false then errQ 10 else zD8 (del q p)
theorem SoundP.cancel {q:aA} (h:SoundP q) (p:aK):SoundP (zaw4 q p):=by
  have h1:=(zbi4 q.aO p).length_le
  have h2:=(zbi4 q.aS p).length_le
  have h4:=h.cl; have h5:=h.wl
  exact ⟨h.res,h.hv,by simp only [zaw4]; omega,h.cn.sublist ((zbi4 _ _).map _),fun w hw=>h.cg w (zaG9.1 hw).1,zbX3 p h.wv,by simp only [zaw4]; omega,fun w hw=>h.wg w (zaG9.1 hw).1,h.gen⟩
theorem SoundP.claimC {q:aA} (h:SoundP q) {p:aK} {a:aD} (ha:za4 q.aB a=true) (hw:(zp7 q p).2=false) (hc:covA q.aB (getH q.aQ p) a=false) (hz:getH q.aQ p≠aD.zero):SoundP (claimC q p a):=by
  have hv:=(zQ0 _ _).1 h.hv
  have hfit:za4 q.aB (getH q.aQ p)=true:=(hv.2.2.1.each _ (zaK4 hz)).2
  obtain ⟨j1,j2,j3,j4⟩:=zbp3 hfit ha hc
  rw [zao0] at hw
  refine ⟨h.res,h.hv,?_,?_,fun w hww=>?_,h.wv,h.wl,h.wg,h.gen⟩
  ·
    have hn:((q.aO++[(⟨p,zH8 q.aB (getH q.aQ p) a,0,0⟩:aT)]).map (·.aJ)).Nodup:=by
      rw [eU,hJ]
      refine ⟨h.cn,by simp,fun x hx y hy=>?_⟩
      simp only [eD,jO,dL] at hy
      obtain ⟨c,hcc,rfl⟩:=cH.1 hx
      rw [hy]; exact hw c (dE _ hcc)
    have hs:∀ x ∈ (q.aO++[(⟨p,zH8 q.aB (getH q.aQ p) a,0,0⟩:aT)]).map (·.aJ),x ∈ q.aQ.map (·.aJ):=by
      intro x hx
      simp only [eU,cI,eD,jO,dL] at hx
      rcases hx with hx|rfl
      · obtain ⟨c,hcc,rfl⟩:=cH.1 hx
        exact cH.2 ⟨_,zaK4 (h.cg c hcc).1,rfl⟩
      · exact cH.2 ⟨_,zaK4 hz,rfl⟩
    have:=dM hn hs
    have h8:=zai3 h.hv
    rw [dD,dD] at this
    show (q.aO++[(⟨p,zH8 q.aB (getH q.aQ p) a,0,0⟩:aT)]).length≤8
    omega
  · show ((q.aO++[(⟨p,zH8 q.aB (getH q.aQ p) a,0,0⟩:aT)]).map (·.aJ)).Nodup
    rw [eU,hJ]
    refine ⟨h.cn,by simp,fun x hx y hy=>?_⟩
    simp only [eD,jO,dL] at hy
    obtain ⟨c,hcc,rfl⟩:=cH.1 hx
    rw [hy]; exact hw c (dE _ hcc)
  · rcases cI.1 hww with hww|hww
    · exact h.cg w hww
    · rw [dL] at hww; subst hww
      exact ⟨hz,j1,j2,j4,rfl,rfl⟩
theorem zbX5 {r:aI} {p:aK} {a:aD} {pr:Int} (ha:za4 r a=true) (hp:zaT6 p pr=true):zk5 ⟨p,a,pr,0⟩=true:=by
  rw [zA6] at ha
  unfold zaT6 at hp
  simp only [bS,bX] at hp
  rw [← zaG8]
  unfold zy1
  rw [zaK0,hp.1]
  unfold zm4 zy0
  simp
  omega
theorem zdm0 {q:aA} (h:SoundP q) {p:aK} {a:aD} {pr:Int} (ha:za4 q.aB a=true) (hp:zaT6 p pr=true) (hw:(zp7 q p).2=false) (hl:q.aS.length < 8) :
    insS q.aS ⟨p,a,pr,0⟩=((claimW q p a pr).aS,(zai5 q.aS ⟨p,a,pr,0⟩ q.aS.length:Int),0):=by
  unfold insS
  rw [bT (by rw [h.wv]; decide),bT (by rw [zbX5 ha hp]; simp),bT ?_,bT (by omega)]
  · rfl
  · rw [zao0] at hw
    exact zcL5.2 fun w hww=>hw w (cV _ hww)
theorem SoundP.claimW {q:aA} (h:SoundP q) {p:aK} {a:aD} {pr:Int} (ha:za4 q.aB a=true) (hp:zaT6 p pr=true) (hw:(zp7 q p).2=false) (hz:getH q.aQ p=aD.zero) (hl:q.aQ.length+q.aS.length < 8):SoundP (claimW q p a pr):=by
  rw [zao0] at hw
  have hne:∀ e ∈ q.aS,e.aJ≠p:=fun e he=>hw e (cV _ he)
  have hv:=zcx3 (w:=⟨p,a,pr,0⟩) h.wv (zbX5 ha hp) hne (by omega)
  refine ⟨h.res,h.hv,h.cl,h.cn,h.cg,hv,?_,fun w hww=>?_,h.gen⟩
  · have hn:=zbi0 q.aS ⟨p,a,pr,0⟩ q.aS.length
    simp only [Ab.claimW,zaT2,bZ,List.length_cons,dD,cO,eE]
    omega
  · simp only [Ab.claimW,zaT2,cI,cE,cH] at hww
    rcases hww with hww|rfl|⟨x,hx,rfl⟩
    · exact h.wg w (fJ hww)
    · exact ⟨ha,hz⟩
    · exact h.wg x (gM hx)
theorem SoundP.lower {q:aA} (h:SoundP q) {p:aK} {a:aD} (hw:(zp7 q p).2=false) (hz:getH q.aQ p≠aD.zero) (hc:covA q.aB (getH q.aQ p) a=true):SoundP (zaz6 q p a):=by
  rw [zao0] at hw
  have hl:=zbX4 a h.hv hz
  have h5:=h.wl
  refine ⟨h.res,zco4 h.hv hz hc,h.cl,h.cn,fun w hww=>?_,h.wv,by simp only [zaz6]; omega,fun w hww=>?_,h.gen⟩
  · simp only [zaz6,zE3 (hw w (dE _ hww))]
    exact h.cg w hww
  · simp only [zaz6,zE3 (hw w (cV _ hww))]
    exact h.wg w hww
theorem zaT7 {q:aA} {p:aK} {a:aD} {pr:Int} (h:(zw4 q p a pr).2.2=0):SoundP q∧canQ q=false∧zaT6 p pr=true∧za4 q.aB a=true∧(zp7 q p).2=false ∧
    ((covA q.aB (getH q.aQ p) a=true∧zw4 q p a pr=(q,[],0)) ∨
     (covA q.aB (getH q.aQ p) a=false∧getH q.aQ p≠aD.zero∧zw4 q p a pr=zD8 (claimC q p a)∧SoundP (claimC q p a)) ∨
     (covA q.aB (getH q.aQ p) a=false∧getH q.aQ p=aD.zero∧q.aQ.length+q.aS.length < 8∧zw4 q p a pr=zD8 (claimW q p a pr)∧SoundP (claimW q p a pr))):=by
  unfold zw4 at h ⊢
  by_cases h1:zg7 q=false
  · rw [bW h1] at h; exact absurd h (by decide)
  rw [bT h1] at h ⊢
  by_cases h2:zaT6 p pr=false
  · rw [bW h2] at h; exact absurd h (by decide)
  rw [bT h2] at h ⊢
  by_cases h3:za4 q.aB a=false
  · rw [bW h3] at h; exact absurd h (by decide)
  rw [bT h3] at h ⊢
  by_cases h4:(zp7 q p).2=true
  · rw [bW h4] at h; exact absurd h (by decide)
  rw [bT h4] at h ⊢
  rw [eN] at h1 h2 h3
  rw [gG] at h4
  obtain ⟨hs,hcn⟩:=(zr8 q).1 h1
  refine ⟨hs,hcn,h2,h3,h4,?_⟩
  by_cases h5:covA q.aB (getH q.aQ p) a=true
  · rw [bW h5]; exact .inl ⟨h5,rfl⟩
  rw [bT h5] at h ⊢
  rw [gG] at h5
  by_cases h6:getH q.aQ p≠aD.zero
  · rw [bW h6]; exact .inr (.inl ⟨h5,h6,rfl,hs.claimC h3 h4 h5 h6⟩)
  rw [bT h6] at h ⊢
  by_cases h7:8≤q.aQ.length+q.aS.length
  · rw [bW h7] at h; exact absurd h (by decide)
  rw [bT h7]
  have h6:=jD.1 h6
  exact .inr (.inr ⟨h5,h6,by omega,rfl,hs.claimW h3 h2 h4 h6 (by omega)⟩)
theorem zaz7 {q:aA} {p:aK} (h:(zC6 q p).2.2=0):SoundP q∧canQ q=false∧(zp7 q p).2=true∧zC6 q p=zD8 (zaw4 q p)∧SoundP (zaw4 q p):=by
  unfold zC6 at h ⊢
  by_cases h1:zg7 q=false
  · rw [bW h1] at h; exact absurd h (by decide)
  rw [bT h1] at h ⊢
  by_cases h2:(zp7 q p).2=false
  · rw [bW h2] at h; exact absurd h (by decide)
  rw [bT h2]
  rw [eN] at h1 h2
  obtain ⟨hs,hcn⟩:=(zr8 q).1 h1
  exact ⟨hs,hcn,h2,rfl,hs.cancel p⟩
theorem zaH8 {q:aA} {p:aK} {a:aD} (h:(zD9 q p a).2.2=0):SoundP q∧canQ q=false∧getH q.aQ p≠aD.zero∧(zp7 q p).2=false∧covA q.aB (getH q.aQ p) a=true ∧
    ((getH q.aQ p=a∧zD9 q p a=(q,[],0))∨(getH q.aQ p≠a∧zD9 q p a=zD8 (zaz6 q p a)∧SoundP (zaz6 q p a))):=by
  unfold zD9 at h ⊢
  by_cases h1:zg7 q=false
  · rw [bW h1] at h; exact absurd h (by decide)
  rw [bT h1] at h ⊢
  by_cases h2:getH q.aQ p=aD.zero
  · rw [bW h2] at h; exact absurd h (by decide)
  rw [bT h2] at h ⊢
  by_cases h3:(zp7 q p).2=true
  · rw [bW h3] at h; exact absurd h (by decide)
  rw [bT h3] at h ⊢
  by_cases h4:covA q.aB (getH q.aQ p) a=false
  · rw [bW h4] at h; exact absurd h (by decide)
  rw [bT h4] at h ⊢
  rw [eN] at h1 h4
  rw [gG] at h3
  obtain ⟨hs,hcn⟩:=(zr8 q).1 h1
  refine ⟨hs,hcn,h2,h3,h4,?_⟩
  by_cases h5:getH q.aQ p=a
  · rw [bW h5]; exact .inl ⟨h5,rfl⟩
  · rw [bT h5]; exact .inr ⟨h5,rfl,hs.lower h3 h2 h4⟩
theorem zaX1 {q:aA} {p:aK} (h:(zE4 q p).2.2=0):SoundP q∧canQ q=false∧hasQ q p=true∧zE4 q p=zD8 (del q p)∧SoundP (del q p):=by
  unfold zE4 at h ⊢
  by_cases h1:zg7 q=false
  · rw [bW h1] at h; exact absurd h (by decide)
  rw [bT h1] at h ⊢
  by_cases h2:hasQ q p=false
  · rw [bW h2] at h; exact absurd h (by decide)
  rw [bT h2]
  rw [eN] at h1 h2
  obtain ⟨hs,hcn⟩:=(zr8 q).1 h1
  exact ⟨hs,hcn,h2,rfl,hs.del p⟩
def ordQ (q:aA):List aT:=q.aO++q.aS
theorem zbF7 {q:aA} (h:canQ q=true):ordQ q=(zI8 q).1 :: ordQ (popQ q)∧(popQ q).aQ=setL q.aQ (zI8 q).1.aJ (zI8 q).1.aN:=by
 cases zce5 h with
 | con w cs he hd hr hp=>rw [hp,hd]; unfold ordQ; rw [he]; exact ⟨rfl,rfl⟩
 | wait w ws hc he hd hr hp=>rw [hp,hd]; unfold ordQ; rw [hc,he]; exact ⟨rfl,rfl⟩
theorem zda9 {q:aA} (h:canQ q=true):zaG2 q.aB q.aQ (zI8 q).1.aJ (zI8 q).1.aN=true:=by
 unfold canQ at h; rw [bS] at h; exact h.2
theorem zbX6 {q:aA} {p:aK} (h:∀ w ∈ ordQ q,w.aJ≠p):getH (advS q).aQ p=getH q.aQ p∧∀ w ∈ ordQ (advS q),w.aJ≠p:=by
 have:=zbi2 (P:=fun x=>getH x.aQ p=getH q.aQ p∧∀ w ∈ ordQ x,w.aJ≠p) (fun x hc hx=>by
  obtain ⟨h1,h2⟩:=zbF7 hc
  obtain ⟨h3,h4⟩:=hx
  rw [h1] at h4
  refine ⟨?_,fun w hw=>h4 w (.tail _ hw)⟩
  rw [h2,zE3 (kQ (h4 _ (.head _)))]; exact h3) q ⟨rfl,h⟩
 exact this
theorem SoundP.nd {q:aA} (h:SoundP q):((ordQ q).map (·.aJ)).Nodup:=h.nodup
theorem zdm1 {w:aT} {l:List aT} (h:((w :: l).map (·.aJ)).Nodup):∀ x ∈ l,x.aJ≠w.aJ:=fun x hx e=>by
 rw [eD,fZ] at h
 exact h.1 (cH.2 ⟨x,hx,e⟩)
theorem zaK5 {q:aA} (hs:SoundP q) (p:aK):covA q.aB (getH (advS q).aQ p) (getH q.aQ p)=true:=by
 have:=zbi2 (P:=fun x=>SoundP x∧x.aB=q.aB∧covA q.aB (getH x.aQ p) (getH q.aQ p)=true) (fun x hc ⟨h1,h2,h3⟩=>by
  refine ⟨h1.pop hc,by rw [(zce6 x).2]; exact h2,?_⟩
  obtain ⟨e1,e2⟩:=zbF7 hc
  rw [e2]
  by_cases hp:p=(zI8 x).1.aJ
  ·subst hp
   rw [zaw3]
   refine zbp2 ?_ h3
   cases zce5 hc with
   | con w cs he hd hr hp=>rw [hd,← h2]; exact (h1.cg w (by rw [he]; exact .head _)).2.2.1
   | wait w ws hcc he hd hr hp =>
    rw [hd,(h1.wg w (by rw [he]; exact .head _)).2,← h2]
    have hf:=(zaz5 hr).2.2.1
    exact zbi3 (zz5 hf) (zbe3 hf)
  ·rw [zE3 hp]; exact h3) q ⟨hs,rfl,zas5 (zas4 hs.hv p)⟩
 exact this.2.2
theorem zbN4 {r:aI} {l:List aV} (h:zF7 r l=true) (p:aK):getH l p≠aD.zero ↔ p ∈ l.map (·.aJ):=by
 constructor
 ·intro hp; exact cH.2 ⟨_,zaK4 hp,rfl⟩
 ·intro hp
  obtain ⟨x,hx,rfl⟩:=cH.1 hp
  rw [zco2 (zaT5 h) hx]
  exact zR2 (((zQ0 _ _).1 h).2.2.1.each x hx).2
theorem zz0 (q:aA) (p:aK):hasQ q p=true ↔ (∃ w ∈ ordQ q,w.aJ=p)∨getH q.aQ p≠aD.zero:=by
 unfold hasQ
 rw [dG,zbN3,cS,zan9]
 rfl
theorem zcF3 {q:aA} (h:SoundP q) (p:aK):hasQ q p=true ↔ p ∈ (ordQ q).map (·.aJ)∨p ∈ q.aQ.map (·.aJ):=by
 simp only [zz0,zbN4 h.hv,cH]
theorem zdm2 {q:aA} (hc:canQ q=true) (p:aK):hasQ (popQ q) p=hasQ q p:=by
 rw [dW,zz0,zz0]
 obtain ⟨h1,h2⟩:=zbF7 hc
 rw [h1,h2]
 have hz:=zR2 (zaz5 (zda9 hc)).2.2.1
 by_cases hp:p=(zI8 q).1.aJ
 ·subst hp
  rw [zaw3]
  exact ⟨fun _=>.inl ⟨_,.head _,rfl⟩,fun _=>.inr hz⟩
 ·rw [zE3 hp]
  constructor
  ·rintro (⟨w,hw,e⟩|h)
   ·exact .inl ⟨w,.tail _ hw,e⟩
   ·exact .inr h
  ·rintro (⟨w,hw,e⟩|h)
   ·rcases cE.1 hw with rfl|hw
    ·exact absurd e.symm hp
    ·exact .inl ⟨w,hw,e⟩
   ·exact .inr h
theorem zcF4 (q:aA) (p:aK):hasQ (advS q) p=hasQ q p:=zbi2 (P:=fun x=>hasQ x p=hasQ q p) (fun x hc h=>by rw [zdm2 hc]; exact h) q rfl
theorem zcF5 (q:aA) (g:Int) (p:aK):hasQ { q with gen:=g } p=hasQ q p:=rfl
theorem zbe8 {q:aA} {p:aK} {w:aT}:w ∈ ordQ (del q p) ↔ w ∈ ordQ q∧w.aJ≠p:=by
 unfold ordQ del
 simp only [cI,zaG9]
 constructor
 ·rintro (⟨a,b⟩|⟨a,b⟩)
  ·exact ⟨.inl a,b⟩
  ·exact ⟨.inr a,b⟩
 ·rintro ⟨a|a,b⟩
  ·exact .inl ⟨a,b⟩
  ·exact .inr ⟨a,b⟩
theorem zdm3 (q:aA) (p x:aK):hasQ (del q p) x=true ↔ hasQ q x=true∧x≠p:=by
 rw [zz0,zz0]
 by_cases hx:x=p
 ·subst hx
  constructor
  ·rintro (⟨w,hw,e⟩|h)
   ·exact absurd e (zbe8.1 hw).2
   ·exact absurd (zaT4 _ _) h
  ·rintro ⟨_,h⟩; exact absurd rfl h
 ·have e1:getH (del q p).aQ x=getH q.aQ x:=zU3 hx _
  rw [e1]
  constructor
  ·rintro (⟨w,hw,e⟩|h)
   ·exact ⟨.inl ⟨w,(zbe8.1 hw).1,e⟩,hx⟩
   ·exact ⟨.inr h,hx⟩
  ·rintro ⟨⟨w,hw,e⟩|h,_⟩
   ·exact .inl ⟨w,zbe8.2 ⟨hw,by rw [e]; exact hx⟩,e⟩
   ·exact .inr h
def remN (q:aA) (p:aK):aA:=if (zE4 q p).2.2=0 then (zE4 q p).1 else q
theorem zE5 (q:aA):(zD8 q).1={ advS q with gen:=zm5 q.gen }:=rfl
theorem zbp4 {q:aA} (h:zg7 q=true) {p:aK} (hp:hasQ q p=true):zE4 q p=zD8 (del q p):=by
 unfold zE4; rw [bT (by rw [h]; decide),bT (by rw [hp]; decide)]
theorem zaP6 {q:aA} (h:zg7 q=true) {p:aK} (hp:hasQ q p=false):zE4 q p=errQ 10:=by
 unfold zE4; rw [bT (by rw [h]; decide),bW hp]
theorem zce7 {q:aA} (h:zg7 q=true) (p:aK):zg7 (remN q p)=true:=by
 unfold remN
 split
 ·rename_i h0
  obtain ⟨_,_,_,e,hs⟩:=zaX1 h0
  rw [e]; exact zV8 hs
 ·exact h
theorem zbC0 {q:aA} (h:zg7 q=true) {p x:aK} (hx:x≠p):covA q.aB (getH (remN q p).aQ x) (getH q.aQ x)=true∧(remN q p).aB=q.aB:=by
 obtain ⟨hs,hc⟩:=(zr8 q).1 h
 unfold remN
 cases hp:hasQ q p with
 | true =>
  rw [zbp4 h hp,bW (show (zD8 (del q p)).2.2=0 from rfl),zE5]
  have h1:=zaK5 (hs.del p) x
  have h2:getH (del q p).aQ x=getH q.aQ x:=zU3 hx _
  rw [h2] at h1
  exact ⟨h1,(zcF2 (del q p)).2⟩
 | false =>
  rw [zaP6 h hp,bT (by decide)]
  exact ⟨zas5 (zas4 hs.hv x),rfl⟩
theorem zco5 {q:aA} (h:zg7 q=true) (p x:aK):hasQ (remN q p) x=true ↔ hasQ q x=true∧x≠p:=by
 unfold remN
 cases hp:hasQ q p with
 | true =>
  rw [zbp4 h hp,bW (show (zD8 (del q p)).2.2=0 from rfl),zE5,zcF5,zcF4,zdm3]
 | false =>
  rw [zaP6 h hp,bT (by decide)]
  constructor
  ·intro hx; exact ⟨hx,fun e=>by rw [e,hp] at hx; cases hx⟩
  ·exact And.left
theorem zaz8:∀ {a b:List aK},a.Pairwise ltP→b.Pairwise ltP→(∀ x,x ∈ a ↔ x ∈ b)→a=b
 | [],b,_,_,h=>by
  cases b with
  | nil=>rfl
  | cons y b=>exact absurd ((h y).2 (.head _)) (by simp)
 | x :: a,[],_,_,h=>absurd ((h x).1 (.head _)) (by simp)
 | x :: a,y :: b,ha,hb,h=>by
  rw [cP] at ha hb
  have hxy:x=y:=by
   rcases cE.1 ((h x).1 (.head _)) with e|hx
   ·exact e
   ·rcases cE.1 ((h y).2 (.head _)) with e|hy
    ·exact e.symm
    ·exact absurd (zae7 (ha.1 y hy) (hb.1 x hx)) (zP8 x)
  subst hxy
  congr 1
  refine zaz8 ha.2 hb.2 fun z=>?_
  have hz:=h z
  constructor
  ·intro hm
   rcases cE.1 (hz.1 (.tail _ hm)) with e|hm'
   ·subst e; exact absurd (ha.1 z hm) (zP8 z)
   ·exact hm'
  ·intro hm
   rcases cE.1 (hz.2 (.tail _ hm)) with e|hm'
   ·subst e; exact absurd (hb.1 z hm) (zP8 z)
   ·exact hm'
def zaE0 (p:aK):List aK→List aK
 | []=>[p]
 | x :: t=>if p=x then x :: t else if ltP p x then p :: x :: t else x :: zaE0 p t
theorem zaz9 {p x:aK}:∀ {l:List aK},x ∈ zaE0 p l ↔ x=p∨x ∈ l
 | []=>by simp [zaE0]
 | y :: t=>by
  simp only [zaE0]
  split
  ·rename_i h; subst h
   simp only [cE]
   constructor
   ·intro h; exact .inr h
   ·rintro (rfl|h)
    ·exact .inl rfl
    ·exact h
  ·split
   ·simp only [cE]
   ·simp only [cE,zaz9 (l:=t)]
    constructor
    ·rintro (h|h|h)
     ·exact .inr (.inl h)
     ·exact .inl h
     ·exact .inr (.inr h)
    ·rintro (h|h|h)
     ·exact .inr (.inl h)
     ·exact .inl h
     ·exact .inr (.inr h)
theorem zaA0 {p:aK}:∀ {l:List aK},l.Pairwise ltP→(zaE0 p l).Pairwise ltP
 | [],_=>by simp [zaE0]
 | y :: t,h=>by
  simp only [zaE0]
  split
  ·exact h
  ·rename_i hne
   rw [cP] at h
   split
   ·rename_i hlt
    rw [cP]
    refine ⟨fun x hx=>?_,cP.2 h⟩
    rcases cE.1 hx with rfl|hx
    ·exact hlt
    ·exact zae7 hlt (h.1 x hx)
   ·rename_i hlt
    rw [cP]
    refine ⟨fun x hx=>?_,zaA0 h.2⟩
    rcases zaz9.1 hx with rfl|hx
    ·rcases zal8 hne with h1|h1
     ·exact absurd h1 hlt
     ·exact h1
    ·exact h.1 x hx
theorem zcx5 {p:aK}:∀ {l:List aK},l.Pairwise ltP→p ∈ l→zaE0 p l=l:=fun hl hp =>
 zaz8 (zaA0 hl) hl fun x=>by
  rw [zaz9]
  constructor
  ·rintro (rfl|h)
   ·exact hp
   ·exact h
  ·exact .inr
def zaT8 (l:List aK):List aK:=l.foldl (fun s p=>zaE0 p s) []
theorem zbe9:∀ (l s:List aK),s.Pairwise ltP→(l.foldl (fun s p=>zaE0 p s) s).Pairwise ltP∧∀ x,x ∈ l.foldl (fun s p=>zaE0 p s) s ↔ x ∈ s∨x ∈ l
 | [],s,h=>⟨h,fun x=>by simp⟩
 | p :: l,s,h=>by
  obtain ⟨h1,h2⟩:=zbe9 l (zaE0 p s) (zaA0 h)
  refine ⟨h1,fun x=>?_⟩
  rw [List.foldl_cons,h2,zaz9,cE]
  constructor
  ·rintro ((h|h)|h)
   ·exact .inr (.inl h)
   ·exact .inl h
   ·exact .inr (.inr h)
  ·rintro (h|h|h)
   ·exact .inl (.inr h)
   ·exact .inl (.inl h)
   ·exact .inr h
theorem zaA1 (l:List aK):(zaT8 l).Pairwise ltP:=(zbe9 l [] .nil).1
theorem zae8 {l:List aK} {x:aK}:x ∈ zaT8 l ↔ x ∈ l:=by
 have:=(zbe9 l [] .nil).2 x
 unfold zaT8
 simpa using this
theorem zce8 {l s:List aK} (h:s.Pairwise ltP) (hm:∀ x,x ∈ s ↔ x ∈ l):s=zaT8 l:=zaz8 h (zaA1 l) fun x=>by rw [hm,zae8]
theorem zco6 {a b:List aK} (h:∀ x,x ∈ a ↔ x ∈ b):zaT8 a=zaT8 b:=zaz8 (zaA1 a) (zaA1 b) fun x=>by rw [zae8,zae8,h]
theorem zaT9 {l:List aK} (h:l.Pairwise ltP):l.Nodup:=h.imp fun hab e=>by subst e; exact zP8 _ hab
theorem zbX7 (l:List aK):(zaT8 l).length≤l.length:=dM (zaT9 (zaA1 l)) fun x hx=>zae8.1 hx
def dst:List aK→List aK
 | []=>[]
 | [x]=>[x]
 | x :: y :: t=>if x=y then dst (y :: t) else x :: dst (y :: t)
theorem zbF8:∀ {l:List aK} {x:aK},x ∈ dst l ↔ x ∈ l
 | [],x=>by simp [dst]
 | [y],x=>by simp [dst]
 | y :: z :: t,x=>by
  simp only [dst]
  split
  ·rename_i h; subst h
   rw [zbF8 (l:=y :: t)]
   simp
  ·rw [cE,zbF8 (l:=z :: t),cE (b:=y)]
theorem zce9:∀ {l:List aK},l.Pairwise (fun x y=>¬ ltP y x)→(dst l).Pairwise ltP
 | [],_=>by simp [dst]
 | [x],_=>by simp [dst]
 | x :: y :: t,h=>by
  simp only [dst]
  rw [cP] at h
  split
  ·exact zce9 h.2
  ·rename_i hne
   rw [cP]
   refine ⟨fun z hz=>?_,zce9 h.2⟩
   have hz:=zbF8.1 hz
   by_cases e:x=z
   ·subst e
    rcases cE.1 hz with e|hz'
    ·exact absurd e hne
    ·have h2:=(cP.1 h.2).1 x hz'
     rcases zal8 hne with h3|h3
     ·exact absurd h3 h2
     ·exact absurd h3 (h.1 y (.head _))
   ·rcases zal8 e with h1|h1
    ·exact h1
    ·exact absurd h1 (h.1 z hz)
theorem zcM3 {l s:List aK} (h:s.Pairwise fun x y=>¬ ltP y x) (hm:∀ x,x ∈ s ↔ x ∈ l):dst s=zaT8 l:=zce8 (zce9 h) fun x=>by rw [zbF8,hm]
theorem zco7:∀ (l:List aK) (x y:aK),dst (l++[x,y])=if x=y then dst (l++[x]) else dst (l++[x])++[y]
 | [],x,y=>by
  by_cases h:x=y <;> simp [dst,h]
 | [a],x,y=>by
  by_cases h:x=y
  ·subst h; by_cases h2:a=x <;> simp [dst,h2]
  ·by_cases h2:a=x
   ·subst h2; simp [dst,h]
   ·simp [dst,h,h2]
 | a :: b :: l,x,y=>by
  have ih:=zco7 (b :: l) x y
  simp only [List.cons_append,dst] at ih ⊢
  rw [ih]
  by_cases h:x=y <;> by_cases h2:a=b <;> simp [h,h2]
theorem zcx6 (x y:aK):¬ ltP y x∨¬ ltP x y:=by
 by_cases h:ltP y x
 ·exact .inr (zaT0 h)
 ·exact .inl h
theorem zcf0 (l:List aK):(l.mergeSort fun x y=>!decide (ltP y x)).Pairwise fun x y=>¬ ltP y x:=by
 have:=iX (le:=fun x y=>!decide (ltP y x)) (fun a b c h1 h2=>by
  simp only [cS,cR] at h1 h2 ⊢
  intro h3
  by_cases e:b=a
  ·subst e; exact h2 h3
  ·rcases zal8 e with h4|h4
   ·exact h1 h4
   ·by_cases e2:b=c
    ·subst e2; exact h1 h3
    ·rcases zal8 e2 with h5|h5
     ·exact zaT0 (zae7 h3 h4) h5
     ·exact h2 h5) (fun a b=>by
  rcases zcx6 a b with h|h
  ·simp [h]
  ·simp [h]) l
 exact this.imp fun h=>by simpa using h
theorem ifNT {α:Type} (x y:α):(if (!true)=true then x else y)=y:=rfl
theorem ifTF {α:Type} (x y:α):(if true=false then x else y)=y:=rfl
theorem ifFT {α:Type} (x y:α):(if false=true then x else y)=y:=rfl
theorem zco8 (l:List aK) (hl:l.length≤4294967296):zc8 l=some (l.mergeSort fun x y=>!decide (ltP y x)):=by
 unfold zc8
 rw [zg0 hl]
 congr 2
theorem zdb0 {l:List aK} {i:Nat} (h:i+1 < l.length):l.take (i+2)=l.take i++[l.getD i aK.zero,l.getD (i+1) aK.zero]:=by
 rw [fH (by omega),fH (by omega),dB]
 congr 1
 rw [bV,bY (by omega),bV,bY h]
 rfl
theorem zbN5 {l:List aK} {i:Nat} (h:i < l.length):l.take (i+1)=l.take i++[l.getD i aK.zero]:=by
 rw [fH h]
 congr 1
 rw [bV,bY h]
 rfl
theorem zbN6 {l:List aK} {i:Nat} (h:i+1 < l.length):dst (l.take (i+2))=if l.getD i aK.zero=l.getD (i+1) aK.zero then dst (l.take (i+1)) else dst (l.take (i+1))++[l.getD (i+1) aK.zero]:=by
 rw [zdb0 h,zco7,← zbN5 (by omega)]
theorem zbt0 {l m:List aK} {i j:Nat} (h:l.drop i=m.drop i) (hij:i≤j):l.getD j aK.zero=m.getD j aK.zero:=by
 have e:∀ x:List aK,x.getD j aK.zero=(x.drop i).getD (j - i) aK.zero:=fun x=>by
  rw [bV,bV,dT,show i+(j - i)=j by omega]
 rw [e l,e m,h]
theorem zbT8 (a:List aK) (g:Nat) (hg:1≤g) (hgl:g < a.length) (hl:a.length≤1000000) (he:a.getD g aK.zero=a.getD (g - 1) aK.zero) (hd:dst (a.take g)=a.take g) :
  ∃ x,zb9 (zv4 a g) ((g:Int),1,a)=some x∧∃ k:Nat,x.1=(k:Int)∧x.2.length=a.length∧k≤a.length∧x.2.take k=dst a:=by
 refine zq4 (fun s=>∃ k k2:Nat,s.1=(k:Int)∧s.2.1=(k2:Int)∧s.2.2.length=a.length∧1≤k2∧g+k2≤a.length∧k+1≤g+k2∧s.2.2.take k=dst (a.take (g+k2))∧s.2.2.drop (g+k2 - 1)=a.drop (g+k2 - 1)) (fun s=>(a.length - s.2.1.toNat)) _ ?_ _ ?_
 ·rintro ⟨k,k2,s⟩ ⟨kn,k2n,h1,h2,h3,h4,h5,h6,h7,h8⟩
  simp only at h1 h2 h3 h7 h8
  subst h1; subst h2
  unfold zv4
  by_cases hlt:g+k2n < a.length
  ·left
   have w:IntKind.i64.wrap ((k2n:Int) - 1)=((k2n - 1:Nat):Int):=by rw [zi0 (by omega) (by omega)]; omega
   have w2:IntKind.i64.wrap ((k2n:Int)+1)=((k2n+1:Nat):Int):=by rw [zi0 (by omega) (by omega)]; omega
   have w3:IntKind.i64.wrap ((kn:Int)+1)=((kn+1:Nat):Int):=by rw [zi0 (by omega) (by omega)]; omega
   have r1:s.getD (g+k2n) aK.zero=a.getD (g+k2n) aK.zero:=zbt0 h8 (by omega)
   have r2:s.getD (g+(k2n - 1)) aK.zero=a.getD (g+(k2n - 1)) aK.zero:=zbt0 h8 (by omega)
   have hdt:=zbN6 (l:=a) (i:=g+(k2n - 1)) (by omega)
   rw [show g+(k2n - 1)+2=g+(k2n+1) by omega,show g+(k2n - 1)+1=g+k2n by omega] at hdt
   simp only [Int.toNat_natCast,w,w2,w3]
   rw [bW (by simp; omega),zg0 (by omega),zg0 (by omega),r1,r2]
   by_cases hne:a.getD (g+k2n) aK.zero=a.getD (g+(k2n - 1)) aK.zero
   ·refine ⟨((kn:Int),((k2n+1:Nat):Int),s),by rw [bT (by simp only [hne,cC,cU,bU,iJ])],⟨kn,k2n+1,rfl,rfl,h3,by omega,by omega,by omega,?_,?_⟩,by simp only [Int.toNat_natCast]; omega⟩
    ·simp only
     rw [h7,hdt,bW hne.symm]
    ·simp only
     rw [show g+(k2n+1) - 1=(g+k2n - 1)+1 by omega,← fI,← fI,h8]
   ·rw [bW (by simpa using hne),zg0 (by omega),zg0 (by omega)]
    refine ⟨(((kn+1:Nat):Int),((k2n+1:Nat):Int),s.set kn (a.getD (g+k2n) aK.zero)),rfl,⟨kn+1,k2n+1,rfl,rfl,by simp [h3],by omega,by omega,by omega,?_,?_⟩,by simp only [Int.toNat_natCast]; omega⟩
    ·simp only
     rw [hdt,bT (fun e=>hne e.symm),← h7,zbN5 (by rw [dQ]; omega),List.take_set_of_le (by omega),zm9 _ _ _ _ (by omega)]
    ·simp only
     rw [List.drop_set_of_lt (by omega),show g+(k2n+1) - 1=(g+k2n - 1)+1 by omega,← fI,← fI,h8]
  ·right
   refine ⟨((kn:Int),s),by simp only [Int.toNat_natCast]; rw [bT (by simp; omega)],kn,rfl,h3,by omega,?_⟩
   simp only
   rw [h7,dA (by omega)]
 ·refine ⟨g,1,rfl,rfl,rfl,by omega,by omega,by omega,?_,rfl⟩
  simp only
  have hdt:=zbN6 (l:=a) (i:=g - 1) (by omega)
  rw [show g - 1+2=g+1 by omega,show g - 1+1=g by omega,bW he.symm,hd] at hdt
  exact hdt.symm
theorem zcx7 (a:List aK) (hl:a.length≤1000000):∃ r,za3 a=some (dst a,r):=by
 unfold za3
 by_cases h2:a.length < 2
 ·rw [bW (by simp; omega)]
  refine ⟨a,?_⟩
  have:dst a=a:=by
   match a,h2 with
   | [],_=>rfl
   | [x],_=>rfl
   | x :: y :: t,h=>simp at h; omega
  rw [this]
 ·rw [bT (by simp; omega)]
  obtain ⟨x,hx,hp⟩:=zq4 (body:=zs0 a) (fun g=>∃ n:Nat,g=(n:Int)∧1≤n∧n≤a.length∧dst (a.take n)=a.take n) (fun g=>a.length - g.toNat)
   (fun x=>match x with|.inl _=>dst a=a|.inr z=>z.1=dst a) (by
    rintro g ⟨n,rfl,h1,h3,h4⟩
    unfold zs0
    by_cases hlt:n < a.length
    ·have w:IntKind.i64.wrap ((n:Int) - 1)=((n - 1:Nat):Int):=by rw [zi0 (by omega) (by omega)]; omega
     have w2:IntKind.i64.wrap ((n:Int)+1)=((n+1:Nat):Int):=by rw [zi0 (by omega) (by omega)]; omega
     rw [bW (by simp; omega),zg0 (by omega),w,w2,zg0 (by omega)]
     simp only [Int.toNat_natCast]
     by_cases he:a.getD n aK.zero=a.getD (n - 1) aK.zero
     ·right
      obtain ⟨x,hx,k,hk1,hk2,hk3,hk4⟩:=zbT8 a n h1 hlt hl he h4
      rw [bW (cF he),zg0 (by omega),hx]
      obtain ⟨x1,x2⟩:=x
      simp only at hk1 hk2 hk4
      subst hk1
      rw [Option.bind_some]
      unfold zA1
      simp only [Int.toNat_natCast]
      rw [zg0 (by omega),zg0 (by omega)]
      refine ⟨_,rfl,?_⟩
      simp only
      rw [gV,dB,eJ (by simp; omega),gL,Nat.min_self,hk4]
     ·left
      refine ⟨((n+1:Nat):Int),by rw [bT (by simpa using he)],⟨n+1,rfl,by omega,by omega,?_⟩,by simp only [Int.toNat_natCast]; omega⟩
      have hdt:=zbN6 (l:=a) (i:=n - 1) (by omega)
      rw [show n - 1+2=n+1 by omega,show n - 1+1=n by omega,bT (fun e=>he e.symm),h4,← zbN5 hlt] at hdt
      exact hdt
    ·right
     refine ⟨.inl (),by rw [bT (by simp; omega)],?_⟩
     simp only
     rw [dA (by omega)] at h4
     exact h4) 1 ⟨1,rfl,by omega,by omega,by
      match a,h2 with
      | x :: t,_=>simp [dst]⟩
  rw [hx]
  cases x with
  | inl u =>
   simp only at hp
   refine ⟨a,?_⟩
   rw [hp]; rfl
  | inr z =>
   simp only at hp
   refine ⟨z.2,?_⟩
   rw [← hp]; rfl
theorem zaq6 (l:List aK) (hl:l.length≤1000000):zl6 l=some (zaT8 l):=by
 unfold zl6
 rw [zg0 (by omega),zco8 l (by omega),Option.bind_some]
 obtain ⟨r,h⟩:=zcx7 (l.mergeSort fun x y=>!decide (ltP y x)) (by rw [iG]; exact hl)
 rw [h]
 simp only [Option.bind_some]
 rw [zcM3 (zcf0 l) fun x=>List.mem_mergeSort]
theorem zaU0 (l:List aK) (p:aK) (hl:l.length≤1000000):zg1 l p=some (decide (p ∈ l)):=by
 unfold zg1
 have key:=zai2 (body:=zS9 l p) l aK.zero (fun i (_:Unit)=>(i:Int)) (fun _ x _=>some (if x=p then .inr (Sum.inr true) else .inl ())) (fun _=>Sum.inl (β:=Bool) ())
  (fun i s hi=>by
   unfold zS9
   have h3:0≤(i:Int)∧(i:Int) < (l.length:Int):=by omega
   simp only [h3.1,h3.2,cX,zk6,cC,cB,Int.toNat_natCast,zc6 i (by omega),Option.map_some,bX]
   split <;> rfl)
  (fun s=>by unfold zS9; simp) ()
 rw [show (0:Int)=(fun (i:Nat) (_:Unit)=>(i:Int)) 0 () from rfl,key]
 have fold:∀ (l:List aK) (i:Nat),walk (fun _ x (_:Unit)=>some (if x=p then .inr (Sum.inr true) else .inl ())) (fun _=>Sum.inl (β:=Bool) ()) l i ()=some (if p ∈ l then .inr true else .inl ()):=by
  intro l
  induction l with
  | nil=>intro i; simp [walk]
  | cons x t ih =>
   intro i
   simp only [walk]
   by_cases e:x=p
   ·subst e; simp
   ·simp only [e,cA,cE,fun h:p=x=>e h.symm,jB]
    rw [ih]
    have:¬ p=x:=fun h=>e h.symm
    simp [this]
 rw [fold]
 by_cases hp:p ∈ l <;> simp [hp,zap7]
theorem zbN7 (q:aA) (h1:q.aO.length≤1000) (h2:q.aS.length≤1000):zs8 q=some ((ordQ q).map (·.aJ)):=by
 unfold zs8
 rw [zbM6 q (by omega) (by omega),Option.bind_some]
 have hl:(q.aO++q.aS).length≤2000:=by rw [bZ]; omega
 show _=some ((q.aO++q.aS).map (·.aJ))
 generalize q.aO++q.aS=l at hl
 have key:=zA2 (body:=zZ7 l) l aT.zero (fun i (s:List aK)=>((i:Int),s)) (fun i h s=>some (.inl (zaD7 s (some h.aJ)))) (fun s=>s) (fun i s=>s.length≤i)
  (fun i s hi hs=>by
   refine ⟨?_,fun s' h=>?_⟩
   ·unfold zZ7
    have h1:s.length+1≤4294967296:=by omega
    have h3:0≤(i:Int)∧(i:Int) < (l.length:Int):=by omega
    simp only [h1,h3.1,h3.2,cX,zk6,cC,cB,Int.toNat_natCast,zc6 i (by omega),Option.map_some,wmap,zaD7]
   ·simp only [dC,fF] at h; subst h; simp [zaD7]; omega)
  (fun s hs=>by unfold zZ7; simp) [] (by simp)
 rw [show ((0,[]):Int×List aK)=(fun (i:Nat) (s:List aK)=>((i:Int),s)) 0 [] from rfl,key,zaH6 (fun h:aT=>some h.aJ)]
 simp [zay5]
theorem zbp5 (l:List aV) (hl:l.length≤1000000):zf0 l=some (l.map (·.aJ)):=by
 have e:zf0 l=zaF2 l:=rfl
 rw [e]; exact zda2 l hl
def zai8 (q:aA):List aK:=zaT8 (q.aQ.map (·.aJ)++(ordQ q).map (·.aJ))
theorem zbN8 (q:aA) (h0:q.aQ.length≤1000) (h1:q.aO.length≤1000) (h2:q.aS.length≤1000):zD1 q=some (zai8 q):=by
 unfold zD1 zai8
 have hl:(ordQ q).length≤2000:=by unfold ordQ; rw [bZ]; omega
 rw [zbp5 _ (by omega),Option.bind_some,zbN7 q h1 h2,Option.bind_some,zg0 (by simp; omega),zaq6 _ (by simp; omega)]
 rfl
theorem zbN9 {q:aA} (h:SoundP q) {p:aK}:p ∈ zai8 q ↔ hasQ q p=true:=by
 unfold zai8
 rw [zae8,cI,zcF3 h,or_comm]
theorem SoundP.lens {q:aA} (h:SoundP q):q.aQ.length≤8∧q.aO.length≤8∧q.aS.length≤8∧zab6 q≤16:=by
 have:=h.cl; have:=h.wl; have:=zai3 h.hv
 unfold zab6; omega
theorem zbT9 {q:aA} (h:SoundP q):zg7 q=!canQ q:=by
 unfold zg7
 rw [(zbp1 q).2 h,cJ]; rfl
theorem zbx9 (g:aA×List aV) (hs:SoundP g.1) (hg:g.2.length≤1000000):zL3 g=some (if canQ g.1=true then .inl (zbs8 g) else .inr g):=by
 unfold zL3
 rw [zaT3,Option.bind_some,zbT9 hs]
 cases hc:canQ g.1 with
 | false=>simp
 | true =>
  obtain ⟨h1,_,hl⟩:=zaH7 hc
  rw [bW (by simp),zbl4,Option.bind_some,bW rfl]
  unfold zbs8 popQ
  by_cases h0:0 < g.1.aO.length
  ·rw [bW (by simpa using h0),zg0 (by omega),bW h0]
   unfold zT3
   rw [zaw0 _ _ _ (by simp only; omega),Option.bind_some,zg0 (by omega)]
  ·rw [bT (by simpa using h0),bT h0]
   have hw:0 < g.1.aS.length:=by unfold zab6 at h1; omega
   rw [zg0 (by omega)]
   unfold zT3
   rw [zaw0 _ _ _ (by simp only; omega),Option.bind_some,zg0 (by omega)]
theorem zby0 {q:aA} (h:SoundP q):zI7 q=some (advS q,advG q):=by
 unfold zI7
 have hl:=h.lens
 rw [zaK3,Option.bind_some,(zbp1 q).2 h,bT (by decide),zaB7 q (by omega) (by omega) (by omega),Option.bind_some]
 have key:=zcm9 (body:=zL3) (fun g=>SoundP g.1∧zab6 g.1+g.2.length≤1000) (fun g=>zab6 g.1) (fun g=>advN (zab6 g.1) g) (fun g hg=>by
  rw [zbx9 g hg.1 (by omega)]
  cases hc:canQ g.1 with
  | false=>right; rw [bT (by decide),zbx5,bT (by rw [hc]; decide)]
  | true =>
   left
   obtain ⟨h1,h2,_⟩:=zaH7 hc
   refine ⟨zbs8 g,by rw [bW rfl],⟨hg.1.pop hc,?_⟩,?_,?_⟩
   ·unfold zbs8; simp only [bZ,List.length_cons,List.length_nil]; omega
   ·show zab6 (popQ g.1) < zab6 g.1; omega
   ·rw [zbx5 g,bW hc]) (q,[]) ⟨h,by simp only [List.length_nil]; omega⟩
 rw [key]
 rfl
theorem zab7 {q:aA} (h:SoundP q):zy9 q=some (zD8 q):=by
 unfold zy9; rw [zby0 h,Option.bind_some,zdl8]; rfl
theorem zdb1 (p:aK) (pr:Int):(((!(zc5 p))||(decide (pr < 0)))||(decide (7 < pr)))=!zaT6 p pr:=by
 unfold zaT6
 generalize zc5 p=b
 rw [dW]
 cases b
 ·simp
 ·simp
theorem zbO0 (q:aA) (p:aK) (a:aD) (pr:Int):zG1 q p a pr=some (zw4 q p a pr):=by
 unfold zG1 zw4
 rw [zai6,Option.bind_some]
 cases h1:zg7 q with
 | false=>rfl
 | true =>
  obtain ⟨hs,hcan⟩:=(zr8 q).1 h1
  have hl:=hs.lens
  rw [ifNT,ifTF,zaK0,zdb1]
  cases h2:zaT6 p pr with
  | false=>rfl
  | true =>
   rw [ifNT,ifTF,zaB4]
   cases h3:za4 q.aB a with
   | false=>rfl
   | true =>
    rw [ifNT,ifTF,zP9 q p (by omega) (by omega),Option.bind_some]
    cases h4:(zp7 q p).2 with
    | true=>rfl
    | false =>
     rw [ifFT,ifFT,zbD8 q (by omega) (by omega) (by omega),Option.bind_some,zD7 q p (by omega),Option.bind_some]
     have hcv:zq9 q.aB (getH q.aQ p) a=covA q.aB (getH q.aQ p) a:=rfl
     rw [hcv]
     cases h5:covA q.aB (getH q.aQ p) a with
     | true=>rfl
     | false =>
      rw [ifFT,ifFT,zaB6]
      by_cases h6:getH q.aQ p=aD.zero
      ·rw [bT (by rw [(zae4 _).2 h6]; decide),bT (show ¬ getH q.aQ p≠aD.zero from fun k=>k h6),zi0 (by omega) (by omega)]
       by_cases h7:8≤q.aQ.length+q.aS.length
       ·rw [bW (by simp; omega),bW h7]; rfl
       ·rw [bT (by simp; omega),bT h7,zbD6,Option.bind_some]
        have hi:=zdm0 hs h3 h2 h4 (p:=p) (a:=a) (pr:=pr) (by omega)
        have e:({ aT.zero with aJ:=p,aN:=a,bC:=pr }:aT)=⟨p,a,pr,0⟩:=rfl
        rw [e,hi,bT (by simp)]
        have hsc:=hs.claimW h3 h2 h4 h6 (by omega) (p:=p) (a:=a) (pr:=pr)
        have hq:(⟨(⟨q.aB.name,q.aB.kind,q.aB.aR,q.aB.home⟩:aI),q.aQ,q.aO,(claimW q p a pr).aS,q.gen⟩:aA)=claimW q p a pr:=rfl
        simp only [hq]
        rw [zab7 hsc]; rfl
      ·rw [bW (by rw [(zan9 _).2 h6]; rfl),bW h6]
       have hsc:=hs.claimC h3 h4 h5 h6
       rw [zbl5,Option.bind_some,zg0 (by omega)]
       have hq:(⟨(⟨q.aB.name,q.aB.kind,q.aB.aR,q.aB.home⟩:aI),q.aQ,q.aO++[{ aT.zero with aJ:=p,aN:=zH8 q.aB (getH q.aQ p) a }],q.aS,q.gen⟩:aA)=claimC q p a:=rfl
       rw [hq,zab7 hsc]; rfl
theorem zbD9 (q:aA) (p:aK):zT4 q p=some (zC6 q p):=by
 unfold zT4 zC6
 rw [zai6,Option.bind_some]
 cases h1:zg7 q with
 | false=>rfl
 | true =>
  obtain ⟨hs,hcan⟩:=(zr8 q).1 h1
  have hl:=hs.lens
  rw [ifNT,ifTF,zP9 q p (by omega) (by omega),Option.bind_some]
  cases h4:(zp7 q p).2 with
  | false=>rfl
  | true =>
   rw [ifNT,ifTF,zaB7 q (by omega) (by omega) (by omega),Option.bind_some,zap2 _ _ (by omega),Option.bind_some,zap2 _ _ (by simp only; omega),Option.bind_some]
   have hq:({ { q with aO:=rmL q.aO p } with aS:=rmL q.aS p }:aA)=zaw4 q p:=rfl
   simp only [hq]
   rw [zab7 (hs.cancel p)]; rfl
theorem zbO1 (q:aA) (p:aK) (a:aD):zX2 q p a=some (zD9 q p a):=by
 unfold zX2 zD9
 rw [zai6,Option.bind_some]
 cases h1:zg7 q with
 | false=>rfl
 | true =>
  obtain ⟨hs,hcan⟩:=(zr8 q).1 h1
  have hl:=hs.lens
  rw [ifNT,ifTF,zD7 q p (by omega),Option.bind_some,zaB6]
  by_cases h6:getH q.aQ p=aD.zero
  ·rw [bW ((zae4 _).2 h6),bW h6]; rfl
  ·rw [bT (by rw [(zan9 _).2 h6]; decide),bT h6,zP9 q p (by omega) (by omega),Option.bind_some]
   cases h4:(zp7 q p).2 with
   | true=>rfl
   | false =>
    have hcv:zq9 q.aB (getH q.aQ p) a=covA q.aB (getH q.aQ p) a:=rfl
    rw [ifFT,ifFT,hcv]
    cases h5:covA q.aB (getH q.aQ p) a with
    | false=>rfl
    | true =>
     rw [ifNT,ifTF,zaB7 q (by omega) (by omega) (by omega),Option.bind_some]
     by_cases h7:getH q.aQ p=a
     ·rw [bW (by simp [h7]),bW h7]
     ·rw [bT (by simpa using h7),bT h7,zaw0 _ _ _ (by omega),Option.bind_some]
      have hq:({ q with aQ:=setL q.aQ p a }:aA)=zaz6 q p a:=rfl
      simp only [hq]
      rw [zab7 (hs.lower h4 h6 h5)]; rfl
theorem zbt1 (q:aA) (p:aK) (h0:q.aQ.length≤1000000) (h1:q.aO.length≤1000000) (h2:q.aS.length≤1000000):zt2 q p=some (hasQ q p):=by
 unfold zt2 hasQ
 rw [zP9 q p h1 h2,Option.bind_some,zD7 q p (by omega)]
 cases h:(zp7 q p).2 <;> simp [zaB6]
theorem zbE0 (q:aA) (p:aK):zT6 q p=some (zE4 q p):=by
 unfold zT6 zE4
 rw [zai6,Option.bind_some]
 cases h1:zg7 q with
 | false=>rfl
 | true =>
  obtain ⟨hs,hcan⟩:=(zr8 q).1 h1
  have hl:=hs.lens
  rw [ifNT,ifTF,zbt1 q p (by omega) (by omega) (by omega),Option.bind_some]
  cases h4:hasQ q p with
  | false=>rfl
  | true =>
   rw [ifNT,ifTF,zaB7 q (by omega) (by omega) (by omega),Option.bind_some,zaw0 _ _ _ (by omega),Option.bind_some,zap2 _ _ (by simp only; omega),Option.bind_some,zap2 _ _ (by simp only; omega),Option.bind_some]
   have hz:setL q.aQ p ({ aD.zero with })=zu0 p q.aQ:=bW rfl
   have hq:({ { { q with aQ:=zu0 p q.aQ } with aO:=rmL q.aO p } with aS:=rmL q.aS p }:aA)=del q p:=rfl
   simp only [hz,hq]
   rw [zab7 (hs.del p)]; rfl
def zbf0 (x:aA×List aV×Int):Prop:=x.1.aQ.length≤8∧x.1.aO.length≤8∧x.1.aS.length≤8∧x.2.1.length≤16
theorem zbi5 (e:Int):zbf0 (errQ e):=by unfold zbf0 errQ aA.zero; simp
theorem zao1 {q:aA} (h:SoundP q):zbf0 (zD8 q):=by
 have h1:=(h.adv).lens
 have h2:=zda7 q
 have h3:=h.lens
 exact ⟨h1.1,h1.2.1,h1.2.2.1,by show (advG q).length≤16; omega⟩
theorem zbO2 {q:aA} (h:SoundP q):zbf0 (q,[],0):=by
 have h1:=h.lens
 exact ⟨h1.1,h1.2.1,h1.2.2.1,by simp⟩
theorem zcx8 {q:aA} {p:aK} {a:aD} {pr:Int} (h:(zw4 q p a pr).2.2≠0):∃ e,zw4 q p a pr=errQ e:=by
 unfold zw4 at h ⊢
 split; · exact ⟨_,rfl⟩
 split; · exact ⟨_,rfl⟩
 split; · exact ⟨_,rfl⟩
 split; · exact ⟨_,rfl⟩
 rename_i h1 h2 h3 h4
 rw [bT h1,bT h2,bT h3,bT h4] at h
 split
 ·rename_i h5; rw [bW h5] at h; exact absurd rfl h
 rename_i h5; rw [bT h5] at h
 split
 ·rename_i h6; rw [bW h6] at h; exact absurd rfl h
 rename_i h6; rw [bT h6] at h
 split
 ·exact ⟨_,rfl⟩
 ·rename_i h7; rw [bT h7] at h; exact absurd rfl h
theorem zco9 {q:aA} {p:aK} (h:(zC6 q p).2.2≠0):∃ e,zC6 q p=errQ e:=by
 unfold zC6 at h ⊢
 split; · exact ⟨_,rfl⟩
 split; · exact ⟨_,rfl⟩
 rename_i h1 h2
 rw [bT h1,bT h2] at h
 exact absurd rfl h
theorem zcp0 {q:aA} {p:aK} (h:(zE4 q p).2.2≠0):∃ e,zE4 q p=errQ e:=by
 unfold zE4 at h ⊢
 split; · exact ⟨_,rfl⟩
 split; · exact ⟨_,rfl⟩
 rename_i h1 h2
 rw [bT h1,bT h2] at h
 exact absurd rfl h
theorem zcx9 {q:aA} {p:aK} {a:aD} (h:(zD9 q p a).2.2≠0):∃ e,zD9 q p a=errQ e:=by
 unfold zD9 at h ⊢
 split; · exact ⟨_,rfl⟩
 split; · exact ⟨_,rfl⟩
 split; · exact ⟨_,rfl⟩
 split; · exact ⟨_,rfl⟩
 rename_i h1 h2 h3 h4
 rw [bT h1,bT h2,bT h3,bT h4] at h
 split
 ·rename_i h5; rw [bW h5] at h; exact absurd rfl h
 ·rename_i h5; rw [bT h5] at h; exact absurd rfl h
theorem zbt2 (q:aA) (p:aK) (a:aD) (pr:Int):zbf0 (zw4 q p a pr):=by
 by_cases h:(zw4 q p a pr).2.2=0
 ·obtain ⟨hs,_,_,_,_,hh⟩:=zaT7 h
  rcases hh with ⟨_,e⟩|⟨_,_,e,hc⟩|⟨_,_,_,e,hc⟩
  ·rw [e]; exact zbO2 hs
  ·rw [e]; exact zao1 hc
  ·rw [e]; exact zao1 hc
 ·obtain ⟨e,he⟩:=zcx8 h; rw [he]; exact zbi5 e
theorem zbl6 (q:aA) (p:aK):zbf0 (zC6 q p):=by
 by_cases h:(zC6 q p).2.2=0
 ·obtain ⟨_,_,_,e,hc⟩:=zaz7 h; rw [e]; exact zao1 hc
 ·obtain ⟨e,he⟩:=zco9 h; rw [he]; exact zbi5 e
theorem zbl7 (q:aA) (p:aK):zbf0 (zE4 q p):=by
 by_cases h:(zE4 q p).2.2=0
 ·obtain ⟨_,_,_,e,hc⟩:=zaX1 h; rw [e]; exact zao1 hc
 ·obtain ⟨e,he⟩:=zcp0 h; rw [he]; exact zbi5 e
theorem zbt3 (q:aA) (p:aK) (a:aD):zbf0 (zD9 q p a):=by
 by_cases h:(zD9 q p a).2.2=0
 ·obtain ⟨hs,_,_,_,_,hh⟩:=zaH8 h
  rcases hh with ⟨_,e⟩|⟨_,e,hc⟩
  ·rw [e]; exact zbO2 hs
  ·rw [e]; exact zao1 hc
 ·obtain ⟨e,he⟩:=zcx9 h; rw [he]; exact zbi5 e
theorem zcf1 (n m:Int) (h1:1≤m) (h2:m≤1000000):zl7 n m=some (n % m):=by
  unfold zl7
  rw [bT (by simp; omega),gdp (by omega)]
  have hlt:n.tmod m < m:=Int.tmod_lt_of_pos n (by omega)
  have hgt:-m < n.tmod m:=by have:=Int.lt_tmod_of_pos n (show 0 < m by omega); omega
  have e:n % m=if n.tmod m < 0 then n.tmod m+m else n.tmod m:=by
    rw [Int.emod_eq_tmod]
    by_cases h3:0≤n∨m ∣ n
    · rw [bW h3]
      have:0≤n.tmod m:=by
        rcases h3 with h|h
        · exact Int.tmod_nonneg m h
        · rw [Int.tmod_eq_zero_of_dvd h]; omega
      rw [bT (by omega)]; omega
    · rw [bT h3]
      simp only [jQ] at h3
      have h5:0≤(-n).tmod m:=Int.tmod_nonneg m (by omega)
      rw [Int.neg_tmod] at h5
      have h6:n.tmod m≠0:=fun h=>h3.2 (Int.dvd_of_tmod_eq_zero h)
      rw [bW (by omega)]; omega
  rw [e]
  by_cases hc:n.tmod m < 0
  · rw [bW (by simpa using hc),bW hc,zi0 (by omega) (by omega)]
  · rw [bT (by simpa using hc),bT hc]
def zdp0 (n:Int):aK:=⟨(n % 8) % 4,1,1+(n % 8) / 4⟩
theorem zbt4 (n:Int):zo8 n=some (zdp0 n):=by
  unfold zo8 zdp0
  rw [zcf1 n 8 (by decide) (by decide),Option.bind_some]
  have h1:0≤n % 8:=fQ _ (by decide)
  have h2:n % 8 < 8:=fR _ (by decide)
  rw [Int.tmod_eq_emod_of_nonneg h1,Int.tdiv_eq_ediv_of_nonneg h1,zi0 (x:=n % 8 / 4) (by omega) (by omega),zi0 (by omega) (by omega)]
def zdp1 (n:Int):Int:=zV0.getD (n % 8).toNat 0
def amtM (r:aI) (n:Int):aD:=if r.kind=1 then ⟨zdp1 n,0⟩ else ⟨0,1+n % r.aR⟩
theorem zcf2 (n:Int):zp8 n=some (zdp1 n):=by
  unfold zp8
  have hl:(zV0.length:Int)=8:=rfl
  have h1:0≤n % 8:=fQ _ (by decide)
  have h2:n % 8 < 8:=fR _ (by decide)
  rw [hl,zcf1 n 8 (by decide) (by decide),Option.bind_some,gdp ⟨h1,h2⟩]
  rfl
theorem zbO3 (r:aI) (n:Int) (hr:ze9 r=true):zq0 r n=some (amtM r n):=by
  rw [zE8] at hr
  unfold zq0 amtM
  by_cases hk:r.kind=1
  · simp only [hk,cC,cB,zcf2,Option.bind_some]; rfl
  · simp only [hk,cK,bU,cA]
    rw [zcf1 n r.aR (by omega) (by omega),Option.bind_some]
    have h1:0≤n % r.aR:=fQ _ (by omega)
    have h2:n % r.aR < r.aR:=fR _ (by omega)
    rw [zi0 (by omega) (by omega)]; rfl
structure TapeOk (t:bL):Prop where
  len:t.l.length≤1000000
  at_:0≤t.at_∧t.at_≤t.l.length
def zag4 (m:Int) (t:bL):Int:=if (t.l.length:Int)≤t.at_ then 0 else (t.l.getD t.at_.toNat 0) % m
def zO1 (t:bL):bL:=if (t.l.length:Int)≤t.at_ then t else { t with at_:=t.at_+1 }
theorem zaX2 (m:Int) (t:bL) (ht:TapeOk t) (h1:1≤m) (h2:m≤1000000):zb7 m t=some (zag4 m t,zO1 t):=by
  unfold zb7 zag4 zO1
  have hl:=ht.len; have ha:=ht.at_
  by_cases h:(t.l.length:Int)≤t.at_
  · simp only [h,cC,cB]
  · simp only [h,cK,bU,cA]
    have w1:IntKind.i64.wrap (t.at_+1)=t.at_+1:=zi0 (by omega) (by omega)
    have w2:IntKind.i64.wrap (t.at_+1 - 1)=t.at_:=by rw [zi0 (by omega) (by omega)]; omega
    simp only [w1,w2]
    rw [gdp (by omega),zcf1 _ m h1 h2]
    rfl
theorem zaw5 {t:bL} (h:TapeOk t):TapeOk (zO1 t):=by
  unfold zO1
  split
  · exact h
  · have:=h.at_; exact ⟨h.len,by simp only; omega⟩
theorem zcF6 (t:bL):(zO1 t).l=t.l:=by unfold zO1; split <;> rfl
theorem zac4 (m:Int) (t:bL) (h1:1≤m):0≤zag4 m t∧zag4 m t < m:=by
  unfold zag4
  split
  · omega
  · exact ⟨fQ _ (by omega),fR _ (by omega)⟩
def zaK6:Nat→bL→bL
  | 0,t=>t
  | n+1,t=>zaK6 n (zO1 t)
def catL (t:bL):List aI :=
  [⟨⟨#[97]⟩,1,1,zag4 4 t⟩,⟨⟨#[98]⟩,1,1,zag4 4 (zO1 t)⟩,⟨⟨#[99]⟩,1,1,zag4 4 (zaK6 2 t)⟩,⟨⟨#[100]⟩,1,1,zag4 4 (zaK6 3 t)⟩,
   ⟨⟨#[112]⟩,2,1+zag4 8 (zaK6 4 t),zag4 4 (zaK6 5 t)⟩,⟨⟨#[113]⟩,2,1+zag4 3 (zaK6 6 t),zag4 4 (zaK6 7 t)⟩]
theorem zcy0 (t:bL) (ht:TapeOk t):zj5 t=some (catL t,zaK6 8 t):=by
  unfold zj5
  have hlit:(zq3.length:Int)=4:=rfl
  have step:∀ (i:Nat) (u:bL) (l:List aI),i < 4→TapeOk u→l.length≤10→zI0 ((i:Int),u,l)=some (.inl ((i:Int)+1,zO1 u,l++[⟨zq3.getD i (⟨#[]⟩),1,1,zag4 4 u⟩])):=by
    intro i u l hi hu hl
    unfold zI0
    have h1:(i:Int) < 4:=by omega
    have h0:0≤(i:Int):=by omega
    simp only [hlit,h1,h0,cX,zk6,cC,cB]
    rw [zaX2 4 u hu (by decide) (by decide),Option.bind_some,gdp (by omega),zi0 (by omega) (by omega)]
    simp only [Int.toNat_natCast]
  have s0:=step 0 t [] (by decide) ht (by simp)
  have o1:=zaw5 ht
  have s1:=step 1 (zO1 t) [⟨zq3.getD 0 (⟨#[]⟩),1,1,zag4 4 t⟩] (by decide) o1 (by simp)
  have o2:=zaw5 o1
  have s2:=step 2 (zO1 (zO1 t)) ([⟨zq3.getD 0 (⟨#[]⟩),1,1,zag4 4 t⟩]++[⟨zq3.getD 1 (⟨#[]⟩),1,1,zag4 4 (zO1 t)⟩]) (by decide) o2 (by simp)
  have o3:=zaw5 o2
  have s3:=step 3 (zO1 (zO1 (zO1 t))) ([⟨zq3.getD 0 (⟨#[]⟩),1,1,zag4 4 t⟩]++[⟨zq3.getD 1 (⟨#[]⟩),1,1,zag4 4 (zO1 t)⟩]++[⟨zq3.getD 2 (⟨#[]⟩),1,1,zag4 4 (zO1 (zO1 t))⟩]) (by decide) o3 (by simp)
  have o4:=zaw5 o3
  have s4:∀ u l,zI0 ((4:Int),u,l)=some (.inr (u,l)):=fun u l=>by unfold zI0; simp [hlit]
  rw [zn4,show ((0:Int),t,([]:List aI))=(((0:Nat):Int),t,[]) from rfl,s0]
  simp only [List.nil_append]
  rw [zn4,show ((0:Nat):Int)+1=((1:Nat):Int) from rfl,s1]
  simp only
  rw [zn4,show ((1:Nat):Int)+1=((2:Nat):Int) from rfl,s2]
  simp only
  rw [zn4,show ((2:Nat):Int)+1=((3:Nat):Int) from rfl,s3]
  simp only
  rw [zn4,show ((3:Nat):Int)+1=(4:Int) from rfl,s4]
  simp only [Option.bind_some]
  unfold zam9
  have o5:=zaw5 o4; have o6:=zaw5 o5; have o7:=zaw5 o6
  have w8:=zac4 8 (zO1 (zO1 (zO1 (zO1 t)))) (by decide)
  have w3:=zac4 3 (zO1 (zO1 (zO1 (zO1 (zO1 (zO1 t)))))) (by decide)
  simp only
  rw [zaX2 8 _ o4 (by decide) (by decide),Option.bind_some]
  simp only
  rw [zaX2 4 _ o5 (by decide) (by decide),Option.bind_some,gdp (by simp)]
  simp only
  rw [zaX2 3 _ o6 (by decide) (by decide),Option.bind_some]
  simp only
  rw [zaX2 4 _ o7 (by decide) (by decide),Option.bind_some,gdp (by simp)]
  simp only
  rw [zi0 (x:=1+zag4 8 _) (by omega) (by omega),zi0 (x:=1+zag4 3 _) (by omega) (by omega)]
  rfl
theorem zbC1 (t:bL):∀ r ∈ catL t,ze9 r=true:=by
  intro r hr
  have w8:=zac4 8 (zaK6 4 t) (by decide)
  have w3:=zac4 3 (zaK6 6 t) (by decide)
  unfold catL at hr
  simp only [cE,gS,kN] at hr
  rw [zE8]
  rcases hr with rfl|rfl|rfl|rfl|rfl|rfl
  · exact .inl ⟨rfl,rfl⟩
  · exact .inl ⟨rfl,rfl⟩
  · exact .inl ⟨rfl,rfl⟩
  · exact .inl ⟨rfl,rfl⟩
  · exact .inr ⟨rfl,by simp only; omega,by simp only; omega⟩
  · exact .inr ⟨rfl,by simp only; omega,by simp only; omega⟩
theorem zcM4 {l:List Int} (h:zak2 l=true):l.length≤300:=by unfold zak2 at h; simp at h; omega
theorem zcy1 (t:bL):∀ r ∈ catL t,resV r=true:=by
 intro r hr
 have w8:=zac4 8 (zaK6 4 t) (by decide)
 have w3:=zac4 3 (zaK6 6 t) (by decide)
 have hs:=zbC1 t r hr
 unfold resV
 rw [hs,cJ]
 have hm:∀ u:bL,(decide (0≤zag4 4 u)&&decide (zag4 4 u < 4))=true:=fun u=>by
  have:=zac4 4 u (by decide)
  simp; exact this
 unfold catL at hr
 simp only [cE,gS,kN] at hr
 have n1:zC1 ⟨#[97]⟩=true:=by decide +kernel
 have n2:zC1 ⟨#[98]⟩=true:=by decide +kernel
 have n3:zC1 ⟨#[99]⟩=true:=by decide +kernel
 have n4:zC1 ⟨#[100]⟩=true:=by decide +kernel
 have n5:zC1 ⟨#[112]⟩=true:=by decide +kernel
 have n6:zC1 ⟨#[113]⟩=true:=by decide +kernel
 rcases hr with rfl|rfl|rfl|rfl|rfl|rfl <;> simp only [n1,n2,n3,n4,n5,n6,hm,gJ]
def zan0 (r:aI):aA:={ aA.zero with aB:=r }
theorem zbO4 {r:aI} (h:resV r=true):ze9 r=true:=by
 unfold resV at h; simp only [bS] at h; exact h.2.1
theorem zcp1 {r:aI} (h:resV r=true):SoundP (zan0 r) :=
 ⟨h,zcx4 (zbO4 h),by simp [zan0,aA.zero],.nil,by simp [zan0,aA.zero],by show zU2 []=true; decide,by simp [zan0,aA.zero],by simp [zan0,aA.zero],by simp [zan0,aA.zero]⟩
theorem zbU0 {r:aI} (h:resV r=true):zg7 (zan0 r)=true:=by
 rw [zr8]; exact ⟨zcp1 h,rfl⟩
theorem zbf1 {q:aA} (h:zg7 q=true):ze9 q.aB=true:=zbO4 ((zr8 q).1 h).1.res
theorem zbX8 {α:Type} {l:List α} {i:Nat} {z:α} (h:i < l.length):l.take (i+1)=l.take i++[l.getD i z]:=by
 rw [fH h,bV,bY h]; rfl
theorem zad6 {q:aA} (h:zg7 q=true):q.aQ.length≤8∧q.aO.length≤8∧q.aS.length≤8∧zab6 q≤16:=((zr8 q).1 h).1.lens
theorem zcp2 {q:aA} (h:zg7 q=true) {p:aK} (hp:hasQ q p=true):(zE4 q p).2.2=0∧(zE4 q p).1=remN q p:=by
 have e:=zbp4 h hp
 have h0:(zE4 q p).2.2=0:=by rw [e]; rfl
 refine ⟨h0,?_⟩
 unfold remN; rw [bW h0]
theorem zbX9:∀ x:List UInt8,Op.bytesLess x x=false
 | []=>rfl
 | a :: x=>by simp [Op.bytesLess,zbX9 x]
theorem zcp3:∀ {x y z:List UInt8},Op.bytesLess x y=true→Op.bytesLess y z=true→Op.bytesLess x z=true
 | x,[],z,h1,_=>by cases x <;> simp [Op.bytesLess] at h1
 | x,b :: y,[],_,h2=>by simp [Op.bytesLess] at h2
 | [],b :: y,c :: z,_,_=>by simp [Op.bytesLess]
 | a :: x,b :: y,c :: z,h1,h2=>by
  simp only [Op.bytesLess,dG,bS,bX,dI] at h1 h2 ⊢
  rcases h1 with h1|⟨rfl,h1⟩
  ·rcases h2 with h2|⟨rfl,h2⟩
   ·exact .inl (UInt8.lt_trans h1 h2)
   ·exact .inl h1
  ·rcases h2 with h2|⟨rfl,h2⟩
   ·exact .inl h2
   ·exact .inr ⟨rfl,zcp3 h1 h2⟩
def ltN (a b:ByteArray):Prop:=Op.bytesLess a.toList b.toList=true
instance (a b:ByteArray):Decidable (ltN a b):=by unfold ltN; infer_instance
theorem zaX3 {a b:ByteArray} (h:ltN a b):a≠b:=fun e=>by
 unfold ltN at h; rw [e,zbX9] at h; cases h
theorem zaU1 {a b c:ByteArray} (h:ltN a b) (k:ltN b c):ltN a c:=zcp3 h k
def AscN (t:List aA):Prop:=t.Pairwise fun a b=>ltN a.aB.name b.aB.name
def ascW:List aA→Option ByteArray→Bool
 | [],_=>true
 | q :: t,pv=>zg7 q&&((match pv with|none=>true|some n=>decide (ltN n q.aB.name))&&ascW t (some q.aB.name))
theorem zcp4:∀ (t:List aA) (pv:Option ByteArray),ascW t pv=true ↔ (∀ q ∈ t,zg7 q=true)∧AscN t∧∀ n,pv=some n→∀ q ∈ t,ltN n q.aB.name
 | [],pv=>by
  simp only [ascW,gS,hY,eQ,jZ,gC,true_iff]
  exact .nil
 | q :: t,pv=>by
  simp only [ascW,bS]
  rw [zcp4 t (some q.aB.name)]
  constructor
  ·rintro ⟨h1,h2,h3,h4,h5⟩
   refine ⟨fun x hx=>?_,cP.2 ⟨fun x hx=>h5 _ rfl x hx,h4⟩,fun n hn x hx=>?_⟩
   ·rcases cE.1 hx with rfl|hx
    ·exact h1
    ·exact h3 x hx
   ·subst hn
    simp only [bX] at h2
    rcases cE.1 hx with rfl|hx
    ·exact h2
    ·exact zaU1 h2 (h5 _ rfl x hx)
  ·rintro ⟨h1,h2,h3⟩
   have h2':=cP.1 h2
   refine ⟨h1 q (.head _),?_,fun x hx=>h1 x (.tail _ hx),h2'.2,fun n hn x hx=>by cases hn; exact h2'.1 x hx⟩
   cases pv with
   | none=>rfl
   | some n=>exact cF (h3 n rfl q (.head _))
def zaA2 (t:List aA):Bool:=decide (t.length≤8)&&ascW t none
def zw6 (t:List aA):List aK:=zaT8 (t.flatMap zai8)
def zaF3 (t:List aA):Bool:=zaA2 t&&decide ((zw6 t).length≤8)
structure ValidT (t:List aA):Prop where
 len:t.length≤8
 each:∀ q ∈ t,zg7 q=true
 asc:AscN t
 aF:(zw6 t).length≤8
theorem zX7 (t:List aA):zaA2 t=true ↔ t.length≤8∧(∀ q ∈ t,zg7 q=true)∧AscN t:=by
 unfold zaA2
 rw [bS,bX,zcp4]
 simp
theorem zU4 (t:List aA):zaF3 t=true ↔ ValidT t:=by
 unfold zaF3
 rw [bS,bX,zX7]
 exact ⟨fun ⟨⟨h1,h2,h3⟩,h4⟩=>⟨h1,h2,h3,h4⟩,fun ⟨h1,h2,h3,h4⟩=>⟨⟨h1,h2,h3⟩,h4⟩⟩
theorem zbY0 {α:Type} (prev t:List α) (z:α) (h:prev≠[]):(prev++t).getD (prev.length - 1) z=prev.getLast h:=by
 have hp:0 < prev.length:=iA.2 h
 rw [bV,dN (by omega),bY (by omega),List.getLast_eq_getElem]; rfl
theorem zcy2 (t0:List aA):∀ (t prev:List aA),t0=prev++t →
  walk (fun i q (_:Unit)=>some (if zg7 q=true∧(i=0∨ltN (t0.getD (i - 1) aA.zero).aB.name q.aB.name) then Sum.inl () else Sum.inr (Sum.inr (α:=Unit) false))) (fun _=>Sum.inl (β:=Bool) ()) t prev.length () =
   some (if ascW t (prev.getLast?.map (·.aB.name))=true then .inl () else .inr false):=by
 intro t
 induction t with
 | nil=>intro prev _; simp [walk,ascW]
 | cons q t ih =>
  intro prev ht
  simp only [walk]
  have hq:(prev.length=0∨ltN (t0.getD (prev.length - 1) aA.zero).aB.name q.aB.name) ↔ (match prev.getLast?.map (·.aB.name) with|none=>true|some n=>decide (ltN n q.aB.name))=true:=by
   by_cases hp:prev=[]
   ·subst hp; simp
   ·have h1:=zbY0 prev (q :: t) aA.zero hp
    rw [ht,h1,jK hp]
    have:prev.length≠0:=fun e=>hp (cW e)
    simp [this]
  by_cases e:zg7 q=true∧(prev.length=0∨ltN (t0.getD (prev.length - 1) aA.zero).aB.name q.aB.name)
  ·rw [bW e]
   have:=ih (prev++[q]) (by rw [ht]; simp)
   rw [show (prev++[q]).length=prev.length+1 by simp] at this
   simp only
   have h2:ascW (q :: t) (prev.getLast?.map (·.aB.name))=ascW t (some q.aB.name):=by simp only [ascW,e.1,hq.1 e.2,cJ]
   rw [this,h2]
   simp
  ·rw [bT e]
   rw [hq] at e
   have hf:ascW (q :: t) (prev.getLast?.map (·.aB.name))=false:=by
    rw [dU]
    intro hh
    simp only [ascW,bS] at hh
    exact e ⟨hh.1,hh.2.1⟩
   rw [hf]; rfl
theorem zbO5 {body:Int→Option (Int⊕(Unit⊕Bool))} (t:List aA) (hl:t.length≤8)
  (hb:∀ i:Nat,i < t.length→body (i:Int)=some (if zg7 (t.getD i aA.zero)=true∧(i=0∨ltN (t.getD (i - 1) aA.zero).aB.name (t.getD i aA.zero).aB.name) then .inl ((i+1:Nat):Int) else .inr (.inr false)))
  (he:body (t.length:Int)=some (.inr (.inl ()))):zb9 body 0=some (if ascW t none=true then .inl () else .inr false):=by
 have key:=zai2 (body:=body) t aA.zero (fun i (_:Unit)=>(i:Int)) (fun i q _=>some (if zg7 q=true∧(i=0∨ltN (t.getD (i - 1) aA.zero).aB.name q.aB.name) then Sum.inl () else Sum.inr (Sum.inr (α:=Unit) false))) (fun _=>Sum.inl (β:=Bool) ())
  (fun i s hi=>by
   rw [hb i hi,Option.map_some]
   split <;> rfl) (fun s=>he) ()
 have:=zcy2 t t [] rfl
 rw [show (0:Int)=(fun (i:Nat) (_:Unit)=>(i:Int)) 0 () from rfl,key]
 exact this
theorem zbF9 (t:List aA) (h:∀ q ∈ t,zg7 q=true):(t.flatMap zai8).length≤24 * t.length:=by
 induction t with
 | nil=>simp
 | cons q t ih =>
  have h1:=zad6 (h q (.head _))
  have h2:=zbX7 (q.aQ.map (·.aJ)++(ordQ q).map (·.aJ))
  have h3:=ih fun x hx=>h x (.tail _ hx)
  have h4:(zai8 q).length≤24:=by
   unfold zai8
   unfold ordQ at *
   simp only [bZ,dD] at h2
   omega
  rw [jE,bZ,List.length_cons]; omega
theorem zbO6 {α β X:Type} (f:α→List β) (fin:List β→X):∀ (l:List α) (i:Nat) (s:List β),walk (fun _ a s=>some (.inl (s++f a))) fin l i s=some (fin (s++l.flatMap f))
 | [],i,s=>by simp [walk]
 | a :: l,i,s=>by
  simp only [walk,jE]
  rw [zbO6 f fin l (i+1),dB]
theorem zd1 {α:Type} {l:List α} {i:Nat} {z:α} (h:i < l.length):l.getD i z ∈ l:=by
 rw [bV,bY h]; exact iP h
theorem zbY1 {q:aA} (h:zg7 q=true):(zai8 q).length≤24:=by
 have:=zbF9 [q] fun x hx=>by rw [dL] at hx; rw [hx]; exact h
 simpa using this
theorem zbO7 {t:List aA} (hl:t.length≤8) (h:∀ q ∈ t,zg7 q=true):zG2 t=some (zw6 t):=by
 unfold zG2
 have key:=zA2 (body:=zL4 t) t aA.zero (fun i (s:List aK)=>((i:Int),s)) (fun _ q s=>some (.inl (s++zai8 q))) (fun s=>s) (fun i s=>s.length≤24 * i)
  (fun i s hi hs=>by
   have hq:=h _ (zd1 (z:=aA.zero) hi)
   have hql:=zad6 hq
   have hpl:=zbY1 hq
   refine ⟨?_,fun s' h=>?_⟩
   ·unfold zL4
    have h3:0≤(i:Int)∧(i:Int) < (t.length:Int):=by omega
    simp only [h3.1,h3.2,cX,zk6,cC,cB,Int.toNat_natCast]
    rw [zbN8 _ (by omega) (by omega) (by omega),Option.bind_some,zg0 (by omega),zc6 i (by omega)]
    rfl
   ·simp only [dC,fF] at h; subst h; rw [bZ]; omega)
  (fun s hs=>by unfold zL4; simp) [] (by simp)
 rw [show ((0,[]):Int×List aK)=(fun (i:Nat) (s:List aK)=>((i:Int),s)) 0 [] from rfl,key,zbO6 zai8,List.nil_append,Option.bind_some]
 unfold zab3
 have:=zbF9 t h
 rw [zaq6 _ (by omega)]; rfl
theorem zbi6 {α:Type} (l:List α) (z:α) (p:α→Bool) {body:Int→Option (Int⊕(Unit⊕Int))} (hb:∀ i:Nat,i < l.length→body (i:Int)=some (if p (l.getD i z)=true then .inr (.inr (i:Int)) else .inl ((i+1:Nat):Int)))
  (he:body (l.length:Int)=some (.inr (.inl ()))):zb9 body 0=some (match l.findIdx? p with|some i=>.inr (i:Int)|none=>.inl ()):=by
 have key:=zai2 (body:=body) l z (fun i (_:Unit)=>(i:Int)) (fun i a _=>some (if p a=true then .inr (Sum.inr (α:=Unit) (i:Int)) else .inl ())) (fun _=>Sum.inl (β:=Int) ())
  (fun i s hi=>by rw [hb i hi,Option.map_some]; split <;> rfl) (fun s=>he) ()
 have fold:∀ (l:List α) (i:Nat),walk (fun i a (_:Unit)=>some (if p a=true then .inr (Sum.inr (α:=Unit) (i:Int)) else .inl ())) (fun _=>Sum.inl (β:=Int) ()) l i ()=some (match l.findIdx? p with|some j=>.inr ((i+j:Nat):Int)|none=>.inl ()):=by
  intro l
  induction l with
  | nil=>intro i; rfl
  | cons a l ih =>
   intro i
   simp only [walk,List.findIdx?_cons]
   by_cases hp:p a=true
   ·simp [hp]
   ·simp only [hp,bU,cA]
    rw [ih (i+1)]
    cases l.findIdx? p with
    | none=>rfl
    | some j=>simp only [Option.map_some]; rw [show i+1+j=i+(j+1) by omega]
 have:=fold l 0
 simp only [dY] at this
 rw [show (0:Int)=(fun (i:Nat) (_:Unit)=>(i:Int)) 0 () from rfl,key]
 exact this
def isN (nm:ByteArray) (q:aA):Bool:=q.aB.name.toList == nm.toList
theorem zcf3 {nm:ByteArray} {q:aA}:isN nm q=true ↔ q.aB.name=nm:=by
 unfold isN; rw [dI]; exact zaj5
def zw2 (t:List aA) (nm:ByteArray):Int:=match t.findIdx? (isN nm) with
 | some i=>i
 | none=>-1
theorem zbl8 (t:List aA) (nm:ByteArray) (hl:t.length≤1000000):zl0 t nm=some (zw2 t nm):=by
 unfold zl0
 rw [zbi6 t aA.zero (isN nm) (fun i hi=>by
  unfold zap0 isN
  have h3:0≤(i:Int)∧(i:Int) < (t.length:Int):=by omega
  simp only [h3.1,h3.2,cX,zk6,cC,cB,Int.toNat_natCast,zc6 i (by omega)]
  split <;> rfl) (by unfold zap0; simp)]
 unfold zw2
 cases t.findIdx? (isN nm) <;> rfl
theorem zaE1 {t:List aA} {nm:ByteArray}:zw2 t nm=-1∨∃ i:Nat,zw2 t nm=i∧i < t.length∧(t.getD i aA.zero).aB.name=nm:=by
 unfold zw2
 cases h:t.findIdx? (isN nm) with
 | none=>exact .inl rfl
 | some i =>
  right
  obtain ⟨h1,h2,_⟩:=gY.1 h
  refine ⟨i,rfl,h1,?_⟩
  rw [bV,bY h1]
  exact zcf3.1 h2
theorem zaB8 {t:List aA} (h:AscN t) {i j:Nat} (hi:i < t.length) (hj:j < t.length) (e:(t.getD i aA.zero).aB.name=(t.getD j aA.zero).aB.name):i=j:=by
 have hp:=dO.1 h
 have g:∀ k,(hk:k < t.length)→t.getD k aA.zero=t[k]:=fun k hk=>by rw [bV,bY hk]; rfl
 rw [g i hi,g j hj] at e
 rcases iK i j with h1|h1|h1
 ·exact absurd e (zaX3 (hp i j hi hj h1))
 ·exact h1
 ·exact absurd e.symm (zaX3 (hp j i hj hi h1))
theorem zaK7 {t:List aA} (h:AscN t) {i:Nat} (hi:i < t.length):zw2 t (t.getD i aA.zero).aB.name=i:=by
 rcases zaE1 (t:=t) (nm:=(t.getD i aA.zero).aB.name) with h1|⟨j,h1,h2,h3⟩
 ·unfold zw2 at h1
  cases hf:t.findIdx? (isN (t.getD i aA.zero).aB.name) with
  | some k=>rw [hf] at h1; simp only at h1; omega
  | none =>
   have:=gZ.1 hf (t.getD i aA.zero) (zd1 hi)
   rw [dU] at this
   exact absurd (zcf3.2 rfl) this
 ·rw [h1,zaB8 h h2 hi h3]
theorem zby1 (x:aK) (s:List aK) (hs:s.Pairwise ltP) (hx:x ∉ s) (hl:s.length≤1000000):zb9 (zN2) ((s.length:Int),s++[x])=some (zaE0 x s):=by
 obtain ⟨r,h1,h2⟩:=zq4 (body:=zN2) (fun g=>∃ pre post:List aK,g=((pre.length:Int),pre++x :: post)∧pre++post=s∧∀ y ∈ post,ltP x y) (fun g=>g.1.toNat) (fun r=>r=zaE0 x s) (by
  rintro g ⟨pre,post,rfl,hp,hpost⟩
  have hpl:pre.length+post.length=s.length:=by rw [← hp,bZ]
  unfold zN2
  simp only [bZ,List.length_cons]
  by_cases h0:pre=[]
  ·right
   subst h0
   refine ⟨_,by rw [zg0 (by simp),zg0 (by simp),bT (by simp)],?_⟩
   simp only [List.nil_append] at hp ⊢
   subst hp
   refine zaz8 (cP.2 ⟨hpost,hs⟩) (zaA0 hs) fun y=>?_
   rw [zaz9,cE]
  ·obtain ⟨pre',y,rfl⟩:∃ p' y,pre=p'++[y]:=⟨pre.dropLast,pre.getLast h0,(List.dropLast_concat_getLast h0).symm⟩
   have hk:(pre'++[y]).length=pre'.length+1:=by simp
   rw [hk] at hpl ⊢
   have w:IntKind.i64.wrap (((pre'.length+1:Nat):Int) - 1)=(pre'.length:Int):=by rw [zi0 (by omega) (by omega)]; omega
   have e1:(pre'++[y]++x :: post).getD pre'.length aK.zero=y:=by simp [bV]
   have e2:(pre'++[y]++x :: post).getD (pre'.length+1) aK.zero=x:=by simp [bV]
   have g1:0≤(pre'.length:Int)∧(pre'.length:Int) < ((pre'.length+1+(post.length+1):Nat):Int):=by omega
   have g2:0≤((pre'.length+1:Nat):Int)∧((pre'.length+1:Nat):Int) < ((pre'.length+1+(post.length+1):Nat):Int):=by omega
   have hpos:decide (0 < ((pre'.length+1:Nat):Int))=true:=cF (by omega)
   simp only [w,Int.toNat_natCast,e1,e2,hpos,cJ]
   rw [zg0 (fun _=>g1),zg0 (fun _=>g2)]
   have hlt:decide (0 < zs1 y x)=decide (ltP x y):=by rw [iO]; exact zbL6 y x
   rw [hlt]
   by_cases hxy:ltP x y
   ·left
    rw [bW (cF hxy),zg0 g1,zg0 g2,zg0 g1,zg0 g2]
    refine ⟨((pre'.length:Int),pre'++x :: (y :: post)),?_,⟨pre',y :: post,rfl,by rw [← hp]; simp,fun z hz=>?_⟩,by simp only [Int.toNat_natCast]; omega⟩
    ·congr 3
     rw [dB,gE _ _ (cY _),gH,gE _ _ (by omega),show pre'.length+1 - pre'.length=1 by omega]
     rfl
    ·rcases cE.1 hz with rfl|hz
     ·exact hxy
     ·exact hpost z hz
   ·right
    refine ⟨_,by rw [bT (by simpa using hxy)],?_⟩
    have hyx:ltP y x:=by
     rcases zal8 (p:=x) (q:=y) (fun e=>hx (by rw [← hp,e]; simp)) with h|h
     ·exact absurd h hxy
     ·exact h
    rw [← hp] at hs
    obtain ⟨a1,a2,a3⟩:=eH.1 hs
    obtain ⟨b1,b2,b3⟩:=eH.1 a1
    have hpre:∀ z ∈ pre'++[y],ltP z x:=fun z hz=>by
     rcases cI.1 hz with hz|hz
     ·exact zae7 (b3 z hz y (by simp)) hyx
     ·rw [dL] at hz; rw [hz]; exact hyx
    rw [← hp]
    refine zaz8 (eH.2 ⟨a1,cP.2 ⟨hpost,a2⟩,fun z hz u hu=>?_⟩) (zaA0 hs) fun z=>?_
    ·rcases cE.1 hu with rfl|hu
     ·exact hpre z hz
     ·exact a3 z hz u hu
    ·rw [zaz9]
     simp only [cI,cE,dL]
     constructor
     ·rintro ((h|h)|h|h)
      ·exact .inr (.inl (.inl h))
      ·exact .inr (.inl (.inr h))
      ·exact .inl h
      ·exact .inr (.inr h)
     ·rintro (h|(h|h)|h)
      ·exact .inr (.inl h)
      ·exact .inl (.inl h)
      ·exact .inl (.inr h)
      ·exact .inr (.inr h)) ((s.length:Int),s++[x]) ⟨s,[],by simp,by simp,by simp⟩
 rw [h1,h2]
theorem zaK8 (l:List aK) (hl:l.length≤1000000):zj0 l=some (zaT8 l):=by
 unfold zj0
 have key:=zA2 (body:=zA3 l) l aK.zero (fun i (s:List aK)=>((i:Int),s)) (fun _ p s=>some (.inl (zaE0 p s))) (fun s=>s) (fun i s=>s.Pairwise ltP∧s.length≤i)
  (fun i s hi hs=>by
   have hlen:∀ p,(zaE0 p s).length≤s.length+1:=fun p=>by
    have:=dM (zaT9 (zaA0 (p:=p) hs.1)) (l₂:=p :: s) fun z hz=>by
     rcases zaz9.1 hz with rfl|h
     ·exact .head _
     ·exact .tail _ h
    simpa using this
   refine ⟨?_,fun s' h=>?_⟩
   ·unfold zA3
    have h3:0≤(i:Int)∧(i:Int) < (l.length:Int):=by omega
    simp only [h3.1,h3.2,cX,zk6,cC,cB,Int.toNat_natCast]
    rw [zaU0 _ _ (by omega),Option.bind_some,zc6 i (by omega)]
    by_cases hm:l.getD i aK.zero ∈ s
    ·rw [bW (cF hm),Option.map_some,zcx5 hs.1 hm]; rfl
    ·rw [bT (by rw [bX]; exact hm),zg0 (by omega),zby1 _ _ hs.1 hm (by omega),Option.bind_some]
     unfold zah3
     simp only [zc6 i (show i < 4611686018427387904 by omega),Option.map_some,wmap]
   ·simp only [dC,fF] at h; subst h
    exact ⟨zaA0 hs.1,by have:=hlen (l.getD i aK.zero); omega⟩)
  (fun s hs=>by unfold zA3; simp) [] ⟨.nil,by simp⟩
 rw [show ((0,[]):Int×List aK)=(fun (i:Nat) (s:List aK)=>((i:Int),s)) 0 [] from rfl,key,zbN0 (fun s p=>zaE0 p s)]
 rfl
theorem zaE2 {α β:Type} (l:List α) (z:α) (f:α→β) (s0:List β) {body:Int×List β→Option ((Int×List β)⊕List β)} (hl:l.length≤1000000) (h0:s0.length≤1000000)
  (hb:∀ (i:Nat) (s:List β),i < l.length→s.length≤3000000→body ((i:Int),s)=some (.inl (((i+1:Nat):Int),s++[f (l.getD i z)]))) (he:∀ s,body ((l.length:Int),s)=some (.inr s)):zb9 body (0,s0)=some (s0++l.map f):=by
 have key:=zA2 (body:=body) l z (fun i (s:List β)=>((i:Int),s)) (fun i a s=>some (.inl (zaD7 s (some (f a))))) (fun s=>s) (fun i s=>s.length≤1000000+i)
  (fun i s hi hs=>⟨by rw [hb i s hi (by omega)]; rfl,fun s' h=>by simp only [dC,fF] at h; subst h; simp [zaD7]; omega⟩) (fun s hs=>he s) s0 (by omega)
 rw [show ((0,s0):Int×List β)=(fun (i:Nat) (s:List β)=>((i:Int),s)) 0 s0 from rfl,key,zaH6 (fun a=>some (f a))]
 simp
theorem zby2 (l:List aV) (hl:l.length≤1000000):zh3 l=some (l.map (·.aJ)):=by
 unfold zh3
 rw [zaE2 l aV.zero (·.aJ) [] hl (by simp) (fun i s hi hs=>by
  unfold zac7
  have h3:0≤(i:Int)∧(i:Int) < (l.length:Int):=by omega
  have h1:s.length+1≤4294967296:=by omega
  simp only [h1,h3.1,h3.2,cX,zk6,cC,cB,Int.toNat_natCast,zc6 i (show i < 4611686018427387904 by omega)]) (fun s=>by unfold zac7; simp)]
 rfl
theorem zbO8 (q:aA) (h1:q.aO.length≤1000) (h2:q.aS.length≤1000):zj6 q=some ((ordQ q).map (·.aJ)):=by
 unfold zj6
 rw [zaE2 q.aO aT.zero (·.aJ) [] (by omega) (by simp) (fun i s hi hs=>by
  unfold zak0
  have h3:0≤(i:Int)∧(i:Int) < (q.aO.length:Int):=by omega
  have h1:s.length+1≤4294967296:=by omega
  simp only [h1,h3.1,h3.2,cX,zk6,cC,cB,Int.toNat_natCast,zc6 i (show i < 4611686018427387904 by omega)]) (fun s=>by unfold zak0; simp),Option.bind_some]
 unfold zaj9
 rw [zaE2 q.aS aT.zero (·.aJ) _ (by omega) (by simp; omega) (fun i s hi hs=>by
  unfold zaj8
  have h3:0≤(i:Int)∧(i:Int) < (q.aS.length:Int):=by omega
  have h1:s.length+1≤4294967296:=by omega
  simp only [h1,h3.1,h3.2,cX,zk6,cC,cB,Int.toNat_natCast,zc6 i (show i < 4611686018427387904 by omega)]) (fun s=>by unfold zaj8; simp),Option.bind_some]
 unfold zay2 ordQ
 rw [eU,List.nil_append]
theorem zbO9 (q:aA) (h0:q.aQ.length≤1000) (h1:q.aO.length≤1000) (h2:q.aS.length≤1000):zt7 q=some (zai8 q):=by
 unfold zt7 zai8
 have hl:(ordQ q).length≤2000:=by unfold ordQ; rw [bZ]; omega
 rw [zby2 _ (by omega),Option.bind_some,zbO8 q h1 h2,Option.bind_some,zg0 (by simp; omega),zaK8 _ (by simp; omega)]
 rfl
theorem zaK9 {t:List aA} (hl:t.length≤8) (h:∀ q ∈ t,zg7 q=true):zy2 t=some (zw6 t):=by
 unfold zy2
 have key:=zA2 (body:=zaa7 t) t aA.zero (fun i (s:List aK)=>((i:Int),s)) (fun _ q s=>some (.inl (s++zai8 q))) (fun s=>s) (fun i s=>s.length≤24 * i)
  (fun i s hi hs=>by
   have hq:=h _ (zd1 (z:=aA.zero) hi)
   have hql:=zad6 hq
   have hpl:=zbY1 hq
   refine ⟨?_,fun s' h=>?_⟩
   ·unfold zaa7
    have h3:0≤(i:Int)∧(i:Int) < (t.length:Int):=by omega
    simp only [h3.1,h3.2,cX,zk6,cC,cB,Int.toNat_natCast]
    rw [zbO9 _ (by omega) (by omega) (by omega),Option.bind_some,zg0 (by omega),zc6 i (by omega)]
    rfl
   ·simp only [dC,fF] at h; subst h; rw [bZ]; omega)
  (fun s hs=>by unfold zaa7; simp) [] (by simp)
 rw [show ((0,[]):Int×List aK)=(fun (i:Nat) (s:List aK)=>((i:Int),s)) 0 [] from rfl,key,zbO6 zai8,List.nil_append,Option.bind_some]
 unfold zay8
 have:=zbF9 t h
 rw [zaK8 _ (by omega)]; rfl
theorem zbP0 (t:List aA):zR7 t=some (zaA2 t):=by
 unfold zR7 zaA2
 by_cases h8:8 < t.length
 ·have:¬ t.length≤8:=by omega
  rw [bW (by simp; omega)]
  simp [this]
 ·have hl:t.length≤8:=by omega
  rw [bT (by simp; omega),zbO5 t hl (fun i hi=>by
   unfold zal2
   have h3:0≤(i:Int)∧(i:Int) < (t.length:Int):=by omega
   simp only [h3.1,h3.2,cX,eQ,zk6,cC,cB,Int.toNat_natCast,zai6,Option.bind_some,zc6 i (by omega)]
   by_cases e0:i=0
   ·subst e0
    rw [zg0 (by simp)]
    cases zg7 (t.getD 0 aA.zero) <;> simp
   ·rw [zas2 i (by omega) (by omega),zg0 (by intro _; omega)]
    simp only [Int.toNat_natCast,show (0:Int) < (i:Int) by omega,cC,cJ,e0,jB]
    unfold ltN
    rcases hb (zg7 (t.getD i aA.zero)) with b1|b1 <;> rcases hb (Op.bytesLess (t.getD (i - 1) aA.zero).aB.name.toList (t.getD i aA.zero).aB.name.toList) with b2|b2 <;> simp [b1,b2,-List.getD_eq_getElem?_getD]) (by unfold zal2; simp)]
  simp only [hl,cC,cJ]
  cases hw:ascW t none <;> rfl
theorem zai9 (t:List aA):zD4 t=some (zaF3 t):=by
 unfold zD4 zaF3
 rw [zbP0,Option.bind_some]
 cases hp:zaA2 t with
 | false=>rfl
 | true =>
  obtain ⟨h1,h2,_⟩:=(zX7 t).1 hp
  rw [bW rfl,zaK9 h1 h2,Option.bind_some,cJ]
  congr 1
  rw [dW]; simp; omega
theorem zS0 (t:List aA) (nm:ByteArray) (hl:t.length≤1000000):zh6 t nm=some (zw2 t nm):=by
 unfold zh6
 rw [zbi6 t aA.zero (isN nm) (fun i hi=>by
  unfold zao6 isN
  have h3:0≤(i:Int)∧(i:Int) < (t.length:Int):=by omega
  simp only [h3.1,h3.2,cX,zk6,cC,cB,Int.toNat_natCast,zc6 i (by omega)]
  split <;> rfl) (by unfold zao6; simp)]
 unfold zw2
 cases t.findIdx? (isN nm) <;> rfl
end Ab
end Go.Proofs.YtfkjffmjkbkmhaaGreatDoor
