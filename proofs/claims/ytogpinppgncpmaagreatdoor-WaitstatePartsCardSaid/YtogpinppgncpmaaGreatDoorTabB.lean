import Derived.Test.YtogpinppgncpmaaGreatDoorHoldG
namespace Go.Proofs.YtogpinppgncpmaaGreatDoor
namespace Ab
set_option linter.unusedVariables false
set_option linter.unusedSimpArgs false
theorem zcK0 {α:Type} {P:α→Prop} {l:List α} {z:α}:(∀ i,i < l.length→P (l.getD i z)) ↔ ∀ w ∈ l,P w:=by
 constructor
 ·intro h w hw
  obtain ⟨i,hi,rfl⟩:=fK.1 hw
  have:=h i hi
  rwa [bW,bZ hi] at this
 ·intro h i hi
  refine h _ ?_
  rw [bW,bZ hi]
  exact gS hi
theorem zdE2 (p:aJ):getH [] p=aC.zero:=rfl
theorem zZ8 (h:aU) (t:List aU) (p:aJ):getH (h :: t) p=if h.aN=p then h.aK else getH t p:=by
 unfold getH
 rw [List.find?_cons]
 by_cases e:h.aN=p <;> simp [e]
theorem zaV3 (p:aJ) (l:List aU):getH (zu9 p l) p=aC.zero:=by
 induction l with
 | nil=>rfl
 | cons h t ih =>
  rw [zaG0]
  by_cases e:h.aN=p
  ·simp only [e,cB]; exact ih
  ·simp only [e,cA,zZ8]; exact ih
theorem zaf8 {p q:aJ} (hq:q≠p) (l:List aU):getH (zu9 p l) q=getH l q:=by
 induction l with
 | nil=>rfl
 | cons h t ih =>
  rw [zaG0]
  by_cases e:h.aN=p
  ·simp only [e,cB,zZ8]
   rw [bU (fun e2=>hq e2.symm)]; exact ih
  ·simp only [e,cA,zZ8]
   split
   ·rfl
   ·exact ih
theorem zbh9 (p:aJ) (a:aC):∀ l:List aU,(∀ h ∈ l,h.aN≠p)→getH (insP p a l) p=a
 | [],_=>by simp [insP,zZ8]
 | h :: t,hh=>by
  simp only [insP]
  split
  ·simp [zZ8]
  ·simp only [zZ8,hh h (.head _),cA]
   exact zbh9 p a t fun x hx=>hh x (.tail _ hx)
theorem zbw2 {p q:aJ} (a:aC) (hq:q≠p):∀ l:List aU,getH (insP p a l) q=getH l q
 | []=>by simp only [insP,zZ8]; rw [bU (fun e:p=q=>hq e.symm)]
 | h :: t=>by
  simp only [insP]
  split
  ·simp only [zZ8]; rw [bU (fun e:p=q=>hq e.symm)]
  ·simp only [zZ8]
   split
   ·rfl
   ·exact zbw2 a hq t
theorem zaM2 (l:List aU) (p:aJ) (a:aC):getH (setL l p a) p=a:=by
 unfold setL
 split
 ·rename_i h; rw [zaV3,h]
 ·exact zbh9 p a _ fun h hh=>(zbR6.1 hh).2
theorem zP5 {p q:aJ} (hq:q≠p) (l:List aU) (a:aC):getH (setL l p a) q=getH l q:=by
 unfold setL
 split
 ·exact zaf8 hq l
 ·rw [zbw2 a hq]; exact zaf8 hq l
theorem zaM3 {l:List aU} {p:aJ} (h:getH l p≠aC.zero):(⟨p,getH l p⟩:aU) ∈ l:=by
 induction l with
 | nil=>exact absurd rfl h
 | cons x t ih =>
  rw [zZ8] at h ⊢
  by_cases e:x.aN=p
  ·rw [bV e]; subst e; exact .head _
  ·rw [bU e] at h ⊢; exact .tail _ (ih h)
theorem zcs0 {l:List aU} {p:aJ} (h:∀ x ∈ l,x.aN≠p):zu9 p l=l:=List.filter_eq_self.2 fun x hx=>by simpa using h x hx
def Asc (l:List aU):Prop:=l.Pairwise fun a b=>ltP a.aN b.aN
theorem zbk6 {r:aI} {l:List aU} (h:zK5 r l=true):Asc l:=((zX6 r l).1 h).2.2.1.asc
theorem zdf0 {h:aU} {t:List aU} (k:Asc (h :: t)):∀ x ∈ t,x.aN≠h.aN:=fun x hx e=>by
 have:=(cU.1 k).1 x hx
 rw [e] at this; exact zab9 _ this
theorem zcs1 {l:List aU} (h:Asc l) {p:aJ} (hp:getH l p≠aC.zero):l.Perm (⟨p,getH l p⟩ :: zu9 p l):=by
 induction l with
 | nil=>exact absurd rfl hp
 | cons x t ih =>
  rw [zZ8] at hp ⊢
  rw [zaG0]
  by_cases e:x.aN=p
  ·rw [bV e,bV e,zcs0 (by rw [← e]; exact zdf0 h)]
   subst e; exact jB _
  ·rw [bU e] at hp
   rw [bU e,bU e]
   exact ((ih (cU.1 h).2 hp).cons x).trans (List.Perm.swap _ _ _)
theorem zbC0 {l:List aU} (h:Asc l) {p:aJ} (hp:getH l p≠aC.zero):(zu9 p l).length+1=l.length:=by
 have:=(zcs1 h hp).length_eq
 simpa using this.symm
theorem zcs2 {l:List aU} (ha:Asc l) {x:aU} (hx:x ∈ l):getH l x.aN=x.aK:=by
 induction l with
 | nil=>cases hx
 | cons y t ih =>
  rw [zZ8]
  rcases cF.1 hx with rfl|hx
  ·rw [bV rfl]
  ·rw [bU (fun e:y.aN=x.aN=>zdf0 ha x hx e.symm)]
   exact ih (cU.1 ha).2 hx
theorem zav5 {r:aI} {l:List aU} (h:zK5 r l=true) (p:aJ):zc7 r (getH l p)=true:=by
 have hv:=(zX6 r l).1 h
 by_cases e:getH l p=aC.zero
 ·rw [e,perm_iff]; exact .inl ⟨hv.1,rfl⟩
 ·exact zB4 (hv.2.2.1.each _ (zaM3 e)).2
theorem zai6 (a:aC):zk5 a=true ↔ a=aC.zero:=by unfold zk5; simp
theorem zar2 (a:aC):zk5 a=false ↔ a≠aC.zero:=by rw [← fT,zai6]
structure SoundP (q:aA):Prop where
 res:resV q.aB=true
 hv:zK5 q.aB q.aR=true
 cl:q.aL.length≤8
 cn:(q.aL.map (·.aN)).Nodup
 cg:∀ w ∈ q.aL,getH q.aR w.aN≠aC.zero∧zb1 q.aB w.aK=true∧covA q.aB w.aK (getH q.aR w.aN)=true∧w.aK≠getH q.aR w.aN∧w.bG=0∧w.bQ=0
 wv:zY6 q.aV=true
 wl:q.aR.length+q.aV.length≤8
 wg:∀ w ∈ q.aV,zb1 q.aB w.aK=true∧getH q.aR w.aN=aC.zero
 gen:0≤q.gen∧q.gen≤1073741824
theorem zbs0 (q:aA):zaR8 q=true ↔ SoundP q:=by
 have hc:cvOk q=true ↔ q.aL.length≤8∧(q.aL.map (·.aN)).Nodup∧∀ w ∈ q.aL,getH q.aR w.aN≠aC.zero∧zb1 q.aB w.aK=true∧covA q.aB w.aK (getH q.aR w.aN)=true∧w.aK≠getH q.aR w.aN∧w.bG=0∧w.bQ=0:=by
  unfold cvOk
  rw [← zbr7,← zcK0 (z:=aT.zero)]
  simp only [bT,bY,eJ,eG,cvI,cS,zar2,cW]
  constructor
  ·rintro ⟨h1,h2⟩; exact ⟨h1,fun i hi=>(h2 i hi).1,fun i hi=>(h2 i hi).2⟩
  ·rintro ⟨h1,h2,h3⟩; exact ⟨h1,fun i hi=>⟨h2 i hi,h3 i hi⟩⟩
 have hw:wtOk q=true ↔ zY6 q.aV=true∧q.aR.length+q.aV.length≤8∧∀ w ∈ q.aV,zb1 q.aB w.aK=true∧getH q.aR w.aN=aC.zero:=by
  unfold wtOk
  rw [← zcK0 (z:=aT.zero)]
  simp only [bT,bY,eJ,eG,wtI,zai6]
 unfold zaR8
 simp only [bT,hc,hw,bY]
 constructor
 ·rintro ⟨h1,h2,⟨h3,h4,h5⟩,⟨h6,h7,h8⟩,h9⟩; exact ⟨h1,h2,h3,h4,h5,h6,h7,h8,h9⟩
 ·rintro ⟨h1,h2,h3,h4,h5,h6,h7,h8,h9⟩; exact ⟨h1,h2,⟨h3,h4,h5⟩,⟨h6,h7,h8⟩,h9⟩
theorem SoundP.apart {q:aA} (h:SoundP q) {c w:aT} (hc:c ∈ q.aL) (hw:w ∈ q.aV):c.aN≠w.aN:=fun e =>
 (h.cg c hc).1 (by rw [e]; exact (h.wg w hw).2)
inductive Pop (q:aA):Prop where
 | con (w:aT) (cs:List aT) (h:q.aL=w :: cs) (hd:(zM8 q).1=w) (hr:zaI3 q.aB q.aR w.aN w.aK=true) (hp:popQ q={ q with aR:=setL q.aR w.aN w.aK,aL:=cs })
 | wait (w:aT) (ws:List aT) (hc:q.aL=[]) (h:q.aV=w :: ws) (hd:(zM8 q).1=w) (hr:zaI3 q.aB q.aR w.aN w.aK=true) (hp:popQ q={ q with aR:=setL q.aR w.aN w.aK,aV:=ws })
theorem zcB7 {q:aA} (h:canQ q=true):Pop q:=by
 unfold canQ at h
 rw [bT] at h
 obtain ⟨h1,h2⟩:=h
 cases hc:q.aL with
 | cons w cs =>
  have hd:(zM8 q).1=w:=by unfold zM8; rw [hc]; rfl
  exact .con w cs hc hd (by rw [← hd]; exact h2) (by unfold popQ; rw [hd]; simp [hc])
 | nil =>
  cases hw:q.aV with
  | cons w ws =>
   have hd:(zM8 q).1=w:=by unfold zM8; rw [hc,hw]; rfl
   exact .wait w ws hc hw hd (by rw [← hd]; exact h2) (by unfold popQ; rw [hd]; simp [hc,hw])
  | nil=>unfold zM8 at h1; rw [hc,hw] at h1; exact absurd h1 (by decide)
theorem zaB6 {r:aI} {l:List aU} {p:aJ} {a:aC} (h:zaI3 r l p a=true):zK5 r l=true∧zb6 p=true∧zb1 r a=true∧zK5 r (setL l p a)=true:=by
 unfold zaI3 zak2 at h
 simp only [bT] at h
 exact ⟨h.1.1,h.1.2.1,h.1.2.2,h.2⟩
theorem zcc8 {r:aI} {l:List aU} {p:aJ} (a:aC) (h:zK5 r l=true) (hp:getH l p≠aC.zero):(setL l p a).length≤l.length:=by
 have:=zbC0 (zbk6 h) hp
 unfold setL
 split
 ·omega
 ·rw [zbv6]; omega
theorem zcs3 {w:aT} {l:List aT} (h:zY6 (w :: l)=true):zY6 l=true:=by
 rw [zaM1] at h ⊢
 obtain ⟨h1,h2,h3⟩:=h
 rw [dZ,iF] at h3
 exact ⟨by simp at h1; omega,fun x hx=>h2 x (.tail _ hx),h3.2⟩
theorem SoundP.pop {q:aA} (h:SoundP q) (hc:canQ q=true):SoundP (popQ q):=by
 cases zcB7 hc with
 | con w cs he hd hr hp =>
  rw [hp]
  obtain ⟨_,_,_,hv⟩:=zaB6 hr
  have hn:w.aN ∉ cs.map (·.aN)∧(cs.map (·.aN)).Nodup:=by have:=h.cn; rw [he,dZ,iF] at this; exact this
  have hw:=h.cg w (by rw [he]; exact .head _)
  have hl:=zcc8 w.aK h.hv hw.1
  have h8:=h.cl
  rw [he,List.length_cons] at h8
  refine ⟨h.res,hv,by simp only; omega,hn.2,fun c hcc=>?_,h.wv,?_,fun x hx=>?_,h.gen⟩
  ·have hne:c.aN≠w.aN:=fun e=>hn.1 (cQ.2 ⟨c,hcc,e⟩)
   simp only [zP5 hne]
   exact h.cg c (by rw [he]; exact .tail _ hcc)
  ·have:=h.wl; simp only; omega
  ·have hne:x.aN≠w.aN:=fun e=>h.apart (c:=w) (by rw [he]; exact .head _) hx e.symm
   simp only [zP5 hne]
   exact h.wg x hx
 | wait w ws hcn he hd hr hp =>
  rw [hp]
  obtain ⟨_,_,_,hv⟩:=zaB6 hr
  have hl:=zde4 q.aR w.aN w.aK
  have h8:=h.wl
  have hwv:=h.wv
  rw [he] at h8 hwv
  have hn:w.aN ∉ ws.map (·.aN):=by have:=((zaM1 _).1 hwv).2.2; rw [dZ,iF] at this; exact this.1
  rw [List.length_cons] at h8
  refine ⟨h.res,hv,h.cl,h.cn,fun c hcc=>?_,zcs3 hwv,by simp only; omega,fun x hx=>?_,h.gen⟩
  ·rw [hcn] at hcc; cases hcc
  ·have hne:x.aN≠w.aN:=fun e=>hn (cQ.2 ⟨x,hx,e⟩)
   simp only [zP5 hne]
   exact h.wg x (by rw [he]; exact .tail _ hx)
theorem zbi0:∀ (n:Nat) (q:aA) (l:List aU),advN n (q,l)=((advN n (q,[])).1,l++(advN n (q,[])).2)
 | 0,q,l=>by simp [advN]
 | n+1,q,l=>by
  simp only [advN]
  split
  ·unfold zbw1
   simp only [List.nil_append]
   rw [zbi0 n (popQ q) (l++_),zbi0 n (popQ q) [_],cE]
  ·simp
def advS (q:aA):aA:=(advQ q).1
def advG (q:aA):List aU:=(advQ q).2
theorem zbk7 (q:aA):advQ q=if canQ q=true then ((advQ (popQ q)).1,⟨(zM8 q).1.aN,(zM8 q).1.aK⟩ :: (advQ (popQ q)).2) else (q,[]):=by
 unfold advQ
 rw [zbB7 (q,[])]
 show (if canQ q=true then advN (zaf7 (popQ q)) (popQ q,[]++[_]) else (q,[]))=_
 split
 ·rw [zbi0]; rfl
 ·rfl
theorem zbR8 {q:aA} (h:canQ q=true):advS q=advS (popQ q):=by unfold advS; rw [zbk7 q,bV h]
theorem zdf1 {q:aA} (h:canQ q=true):advG q=⟨(zM8 q).1.aN,(zM8 q).1.aK⟩ :: advG (popQ q):=by unfold advG; rw [zbk7 q,bV h]
theorem zbR9 {q:aA} (h:canQ q=false):advS q=q:=by unfold advS; rw [zbk7 q,h]; rfl
theorem zdf2 {q:aA} (h:canQ q=false):advG q=[]:=by unfold advG; rw [zbk7 q,h]; rfl
theorem zbw3 {P:aA→Prop} (h:∀ q,canQ q=true→P q→P (popQ q)):∀ q,P q→P (advS q):=by
 have key:∀ n q,zaf7 q=n→P q→P (advS q):=by
  intro n
  induction n using Nat.strongRecOn with
  | _ n ih =>
   intro q hn hq
   cases hc:canQ q with
   | false=>rw [zbR9 hc]; exact hq
   | true =>
    rw [zbR8 hc]
    have:=(zaJ5 hc).2.1
    exact ih (zaf7 (popQ q)) (by omega) _ rfl (h q hc hq)
 exact fun q hq=>key _ q rfl hq
theorem zcK1 {P:aA→Prop} (h0:∀ q,canQ q=false→P q) (h:∀ q,canQ q=true→P (popQ q)→P q):∀ q,P q:=by
 have key:∀ n q,zaf7 q=n→P q:=by
  intro n
  induction n using Nat.strongRecOn with
  | _ n ih =>
   intro q hn
   cases hc:canQ q with
   | false=>exact h0 q hc
   | true =>
    have:=(zaJ5 hc).2.1
    exact h q hc (ih (zaf7 (popQ q)) (by omega) _ rfl)
 exact fun q=>key _ q rfl
theorem zdf3:∀ q,canQ (advS q)=false:=by
 refine zcK1 (fun q h=>by rw [zbR9 h]; exact h) fun q h ih=>by rw [zbR8 h]; exact ih
theorem SoundP.adv {q:aA} (h:SoundP q):SoundP (advS q):=zbw3 (P:=SoundP) (fun _ hc h=>h.pop hc) q h
theorem zv9 (q:aA):zj0 q=true ↔ SoundP q∧canQ q=false:=by
 unfold zj0
 rw [bT,zbs0]
 show SoundP q∧(!canQ q)=true ↔ _
 rw [cS]
theorem zdf4:∀ q,(advG q).length+zaf7 (advS q)=zaf7 q:=by
 refine zcK1 (fun q h=>by rw [zbR9 h,zdf2 h]; simp) fun q h ih=>by
  rw [zbR8 h,zdf1 h,List.length_cons]
  have:=(zaJ5 h).2.1
  omega
theorem zdp7 (r:aI) (a b:aC):covA r a b=(!(!zc7 r a||!zc7 r b)&&(zk5 b||(!zk5 a&&(if r.kind=1 then covM a.mode b.mode else decide (b.aS≤a.aS))))):=by
 have e1:=zbk3 r a
 have e2:=zbk3 r b
 have e3:=zaD4 a
 have e4:=zaD4 b
 have h:covA r a b=(!(!zt5 r a||!zt5 r b)&&(zl7 b||(!zl7 a&&(if r.kind=1 then covM a.mode b.mode else decide (b.aS≤a.aS))))):=by
  unfold covA zs4
  generalize (!zt5 r a||!zt5 r b)=x
  generalize zl7 b=y
  generalize zl7 a=z
  by_cases hk:r.kind=1 <;> cases x <;> cases y <;> cases z <;> simp [hk]
 rw [h,e1,e2,e3,e4]
theorem zab3 (r:aI) (a b:aC):covA r a b=true ↔ zc7 r a=true∧zc7 r b=true∧(b=aC.zero∨a≠aC.zero∧b≠aC.zero∧((r.kind=1∧covM a.mode b.mode=true)∨(r.kind≠1∧b.aS≤a.aS))):=by
 rw [zdp7]
 have za:=zai6 a
 have zb:=zai6 b
 simp only [bT,dQ,cS,gZ,Bool.not_eq_false',zb,zar2]
 by_cases e:b=aC.zero
 ·simp [e,fO]
 ·by_cases hk:r.kind=1 <;> simp [e,hk,fO]
theorem zap5 {r:aI} {a:aC} (h:zc7 r a=true):covA r a a=true:=by
 rw [zab3]
 refine ⟨h,h,?_⟩
 by_cases e:a=aC.zero
 ·exact .inl e
 ·refine .inr ⟨e,e,?_⟩
  by_cases hk:r.kind=1
  ·left
   refine ⟨hk,?_⟩
   have:=zaB4 h hk
   have hm:a.mode≠0:=fun hm=>e (by obtain ⟨m,u⟩:=a; simp only at *; unfold aC.zero; congr; omega)
   rw [zaV1]; omega
  ·exact .inr ⟨hk,jG _⟩
theorem zbC1 {r:aI} {a:aC} (h:zc7 r a=true) (hs:zf7 r=true):covA r a aC.zero=true:=by
 rw [zab3]; exact ⟨h,(perm_iff r _).2 (.inl ⟨hs,rfl⟩),.inl rfl⟩
theorem zaY8 {r:aI} {a b c:aC} (h1:covA r a b=true) (h2:covA r b c=true):covA r a c=true:=by
 rw [zab3] at h1 h2 ⊢
 refine ⟨h1.1,h2.2.1,?_⟩
 rcases h2.2.2 with e|⟨hb0,hc0,h3⟩
 ·exact .inl e
 ·rcases h1.2.2 with e|⟨ha0,_,h4⟩
  ·exact absurd e hb0
  ·refine .inr ⟨ha0,hc0,?_⟩
   rcases h3 with ⟨k,h3⟩|⟨k,h3⟩
   ·rcases h4 with ⟨_,h4⟩|⟨k',_⟩
    ·left; refine ⟨k,?_⟩
     rw [zaV1] at h3 h4 ⊢; omega
    ·exact absurd k k'
   ·rcases h4 with ⟨k',_⟩|⟨_,h4⟩
    ·exact absurd k' k
    ·exact .inr ⟨k,by omega⟩
def low (a b:aC):Prop:=a.aS≤b.aS∧∀ c,¬ zar0 b c→¬ zar0 a c
theorem zdz7 {r:aI} {a b:aC} (h:covA r b a=true):low a b:=by
 rw [zab3] at h
 obtain ⟨h1,h2,h3⟩:=h
 have hb1:=zag3 h1
 rcases h3 with e|⟨hb0,ha0,h3⟩
 ·subst e
  refine ⟨hb1.1,fun c _ hc=>?_⟩
  exact hc.1 rfl
 ·rcases h3 with ⟨k,h3⟩|⟨k,h3⟩
  ·have p1:=zaB4 h1 k
   have p2:=zaB4 h2 k
   refine ⟨by omega,fun c hc hc'=>hc ⟨?_,hc'.2.1,?_⟩⟩
   ·rw [zaV1] at h3; omega
   ·have h4:=hc'.2.2
    rw [← fT] at h4 ⊢
    intro h5; apply h4
    rw [zci9] at h5 ⊢
    rw [zaV1] at h3
    omega
  ·have hk:r.kind=2:=by
    have:=(perm_iff r a).1 h2
    rw [zK3,zK4] at this
    omega
   have p2:=zbk4 h2 hk
   exact ⟨h3,fun c _ hc=>hc.1 p2.1⟩
theorem zcR1 {r:aI} {l:List aU} {p:aJ} {a:aC}:zaI3 r l p a=true ↔ zK5 r l=true∧zb6 p=true∧zb1 r a=true∧(zu9 p l).length+1≤8∧(∀ h ∈ zu9 p l,¬ zar0 h.aK a)∧a.aS+sumU ((zu9 p l).map (·.aK))≤r.aS:=by
 constructor
 ·intro h
  obtain ⟨h1,h2,h3,h4⟩:=zaB6 h
  have hl:(zu9 p l).length+1≤8:=by
   have:=zam2 h4
   unfold setL at this
   rw [bU (zac9 h3),zbv6] at this
   exact this
  exact ⟨h1,h2,h3,hl,(zcr9 h1 h2 h3 hl).1 h⟩
 ·rintro ⟨h1,h2,h3,h4,h5⟩
  exact (zcr9 h1 h2 h3 h4).2 h5
theorem zcs4 {r:aI} {l:List aU} {p:aJ} {a:aC} (hv:zK5 r l=true) (hp:getH l p≠aC.zero) (hc:covA r (getH l p) a=true):zK5 r (setL l p a)=true:=by
 have hasc:=zbk6 hv
 have hv':=(zX6 r l).1 hv
 by_cases hz:a=aC.zero
 ·unfold setL; rw [bV hz]; exact zbr8 hv (zbr9 p l)
 ·have hfit:zb1 r a=true:=by
   rcases (perm_iff r a).1 ((zab3 _ _ _).1 hc).2.1 with h|h
   ·exact absurd h.2 hz
   ·exact h
  have hlow:=zdz7 hc
  have hm:=zaM3 hp
  have hlt:=zbC0 hasc hp
  have hpm:=zcs1 hasc hp
  have hroom:zaI3 r l p a=true:=by
   rw [zcR1]
   refine ⟨hv,(hv'.2.2.1.each _ hm).1,hfit,by have:=hv'.2.1; omega,fun x hx hcl=>?_,?_⟩
   ·have hpr:=(CompP.perm_iff (hpm.map (·.aK))).1 hv'.2.2.2
    have:=(cU.1 hpr.pair).1 x.aK (cQ.2 ⟨x,hx,rfl⟩)
    exact hlow.2 _ this (by
     obtain ⟨c1,c2,c3⟩:=hcl
     exact ⟨c2,c1,by rw [zbK1]; exact c3⟩)
   ·have h1:=zbB9 (hpm.map (·.aK))
    have h2:=hv'.2.2.2.sum
    rw [h1] at h2
    simp only [dZ,sumU] at h2
    have:=hlow.1
    omega
  exact (zaB6 hroom).2.2.2
def del (q:aA) (p:aJ):aA:={ q with aR:=zu9 p q.aR,aL:=rmL q.aL p,aV:=rmL q.aV p }
theorem zaY9 {w:aT} {l:List aT} {p:aJ}:w ∈ rmL l p ↔ w ∈ l∧w.aN≠p:=by unfold rmL notP; simp
theorem zbk8 (l:List aT) (p:aJ):(rmL l p).Sublist l:=gO
theorem SoundP.del {q:aA} (h:SoundP q) (p:aJ):SoundP (del q p):=by
 have h1:=(zbk8 q.aL p).length_le
 have h2:=(zbk8 q.aV p).length_le
 have h3:=zaL8 p q.aR
 have h4:=h.cl; have h5:=h.wl
 refine ⟨h.res,zbr8 h.hv (zbr9 p _),by simp only [Ab.del]; omega,h.cn.sublist ((zbk8 _ _).map _),fun w hw=>?_,zcc7 p h.wv,by simp only [Ab.del]; omega,fun w hw=>?_,h.gen⟩
 ·obtain ⟨a1,a2⟩:=zaY9.1 hw
  simp only [Ab.del,zaf8 a2]
  exact h.cg w a1
 ·obtain ⟨a1,a2⟩:=zaY9.1 hw
  simp only [Ab.del,zaf8 a2]
  exact h.wg w a1
theorem zdE3 (q:aA) (g:Int):canQ { q with gen:=g }=canQ q:=rfl
theorem zcj4 (q:aA):(popQ q).gen=q.gen∧(popQ q).aB=q.aB:=by unfold popQ; split <;> exact ⟨rfl,rfl⟩
theorem zcK2 (q:aA):(advS q).gen=q.gen∧(advS q).aB=q.aB :=
 zbw3 (P:=fun x=>x.gen=q.gen∧x.aB=q.aB) (fun x _ h=>by rw [(zcj4 x).1,(zcj4 x).2]; exact h) q ⟨rfl,rfl⟩
theorem zbS0 (g:Int):0≤zm8 g∧zm8 g≤1073741824:=by
  unfold zm8
  by_cases h:g < 0∨1073741824≤g
  · rw [bV (by simpa using h)]; decide
  · rw [bU (by simpa using h),zf5 (by omega) (by omega)]; omega
def zK6 (q:aA):aA×List aU×Int:=({ advS q with gen:=zm8 q.gen },advG q,0)
theorem SoundP.gen' {q:aA} (h:SoundP q) (g:Int) (h1:0≤g) (h2:g≤1073741824):SoundP { q with gen:=g }:=⟨h.res,h.hv,h.cl,h.cn,h.cg,h.wv,h.wl,h.wg,h1,h2⟩
theorem zZ9 {q:aA} (h:SoundP q):zj0 (zK6 q).1=true:=by
  rw [zv9]
  exact ⟨h.adv.gen' _ (zbS0 _).1 (zbS0 _).2,by show canQ (advS q)=false; exact zdf3 q⟩
theorem zcs5 (q:aA) (p:aJ):(zB1 q p).2=true ↔ ∃ w ∈ q.aL++q.aV,w.aN=p:=by
  unfold zB1 zbG1
  cases h:(q.aL++q.aV).find? fun w=>decide (w.aN=p) with
  | none =>
    rw [List.find?_eq_none] at h
    simp only [bY] at h
    constructor
    · intro h2; cases h2
    · rintro ⟨w,hw,e⟩; exact absurd e (h w hw)
  | some w =>
    have h1:=List.mem_of_find?_eq_some h
    have h2:=List.find?_some h
    exact ⟨fun _=>⟨w,h1,by simpa using h2⟩,fun _=>rfl⟩
theorem zaM4 {q:aA} {p:aJ}:(zB1 q p).2=false ↔ ∀ w ∈ q.aL++q.aV,w.aN≠p:=by
  rw [← fT,zcs5]
  constructor
  · exact fun h w hw e=>h ⟨w,hw,e⟩
  · rintro h ⟨w,hw,e⟩; exact h w hw e
theorem zcR2:∀ a ∈ [(1:Int),2,3,4,5],∀ b ∈ [(1:Int),2,3,4,5],supM a b ∈ [(1:Int),2,3,4,5]∧covM (supM a b) a=true∧covM (supM a b) b=true:=by decide
theorem zcR3 {r:aI} {a b:aC} (ha:zb1 r a=true) (hb:zb1 r b=true) (hk:r.kind=1):zav4 r a b=⟨supM a.mode b.mode,0⟩:=by
  unfold zav4
  rw [zB4 ha,zB4 hb,(zar2 a).2 (zac9 ha),(zar2 b).2 (zac9 hb)]
  simp [hk,aC.zero]
theorem zcR4 {r:aI} {a b:aC} (ha:zb1 r a=true) (hb:zb1 r b=true) (hk:r.kind≠1):zav4 r a b=⟨0,if a.aS < b.aS then b.aS else a.aS⟩:=by
  unfold zav4
  rw [zB4 ha,zB4 hb,(zar2 a).2 (zac9 ha),(zar2 b).2 (zac9 hb)]
  simp [hk,aC.zero]
theorem zbS1 {r:aI} {h a:aC} (hh:zb1 r h=true) (ha:zb1 r a=true) (hc:covA r h a=false) :
    zb1 r (zav4 r h a)=true∧covA r (zav4 r h a) h=true∧covA r (zav4 r h a) a=true∧zav4 r h a≠h:=by
  have hf:zb1 r (zav4 r h a)=true∧covA r (zav4 r h a) h=true∧covA r (zav4 r h a) a=true:=by
    have fh:=(zK4 r h).1 hh
    have fa:=(zK4 r a).1 ha
    by_cases hk:r.kind=1
    · have m1:h.mode ∈ [(1:Int),2,3,4,5]:=by simp; omega
      have m2:a.mode ∈ [(1:Int),2,3,4,5]:=by simp; omega
      obtain ⟨s1,s2,s3⟩:=zcR2 _ m1 _ m2
      rw [zcR3 hh ha hk]
      have hfit:zb1 r ⟨supM h.mode a.mode,0⟩=true:=by
        rw [zK4]; left
        simp at s1
        exact ⟨hk,by omega,by simp only; omega,by simp only; omega,rfl⟩
      refine ⟨hfit,?_,?_⟩
      · rw [zab3]; exact ⟨zB4 hfit,zB4 hh,.inr ⟨zac9 hfit,zac9 hh,.inl ⟨hk,s2⟩⟩⟩
      · rw [zab3]; exact ⟨zB4 hfit,zB4 ha,.inr ⟨zac9 hfit,zac9 ha,.inl ⟨hk,s3⟩⟩⟩
    · rw [zcR4 hh ha hk]
      have hfit:zb1 r ⟨0,if h.aS < a.aS then a.aS else h.aS⟩=true:=by
        rw [zK4]; right
        refine ⟨by omega,by omega,by omega,rfl,?_,?_⟩ <;> simp only <;> split <;> omega
      refine ⟨hfit,?_,?_⟩
      · rw [zab3]; refine ⟨zB4 hfit,zB4 hh,.inr ⟨zac9 hfit,zac9 hh,.inr ⟨hk,?_⟩⟩⟩
        simp only; split <;> omega
      · rw [zab3]; refine ⟨zB4 hfit,zB4 ha,.inr ⟨zac9 hfit,zac9 ha,.inr ⟨hk,?_⟩⟩⟩
        simp only; split <;> omega
  refine ⟨hf.1,hf.2.1,hf.2.2,fun e=>?_⟩
  have:=hf.2.2
  rw [e,hc] at this; cases this
def claimC (q:aA) (p:aJ) (a:aC):aA:={ q with aL:=q.aL++[⟨p,zav4 q.aB (getH q.aR p) a,0,0⟩] }
def claimW (q:aA) (p:aJ) (a:aC) (pr:Int):aA:={ q with aV:=zbh7 q.aV ⟨p,a,pr,0⟩ (zam4 q.aV ⟨p,a,pr,0⟩ q.aV.length) }
def zaD6 (q:aA) (p:aJ):aA:={ q with aL:=rmL q.aL p,aV:=rmL q.aV p }
def zaH3 (q:aA) (p:aJ) (a:aC):aA:={ q with aR:=setL q.aR p a }
def hasQ (q:aA) (p:aJ):Bool:=(zB1 q p).2||!zk5 (getH q.aR p)
def errQ (e:Int):aA×List aU×Int:=(aA.zero,[],e)
def zbo7 (p:aJ) (pr:Int):Bool:=zb6 p&&(decide (0≤pr)&&decide (pr≤7))
def zX7 (q:aA) (p:aJ) (a:aC) (pr:Int):aA×List aU×Int :=
  if zj0 q=false then errQ 2 else if zbo7 p pr=false then errQ 1 else if zb1 q.aB a=false then errQ 12 else if (zB1 q p).2=true then errQ 14
  else if covA q.aB (getH q.aR p) a=true then (q,[],0) else if getH q.aR p≠aC.zero then zK6 (claimC q p a)
  else if 8≤q.aR.length+q.aV.length then errQ 4 else zK6 (claimW q p a pr)
def zF4 (q:aA) (p:aJ):aA×List aU×Int :=
  if zj0 q=false then errQ 2 else if (zB1 q p).2=false then errQ 10 else zK6 (zaD6 q p)
def zC1 (q:aA) (p:aJ) (a:aC):aA×List aU×Int :=
  if zj0 q=false then errQ 2 else if getH q.aR p=aC.zero then errQ 10 else if (zB1 q p).2=true then errQ 14
  else if covA q.aB (getH q.aR p) a=false then errQ 12 else if getH q.aR p=a then (q,[],0) else zK6 (zaH3 q p a)
def zH2 (q:aA) (p:aJ):aA×List aU×Int :=
  if zj0 q=false then errQ 2 else if hasQ q p=false then errQ 10 else zK6 (del q p)
theorem SoundP.cancel {q:aA} (h:SoundP q) (p:aJ):SoundP (zaD6 q p):=by
  have h1:=(zbk8 q.aL p).length_le
  have h2:=(zbk8 q.aV p).length_le
  have h4:=h.cl; have h5:=h.wl
  exact ⟨h.res,h.hv,by simp only [zaD6]; omega,h.cn.sublist ((zbk8 _ _).map _),fun w hw=>h.cg w (zaY9.1 hw).1,zcc7 p h.wv,by simp only [zaD6]; omega,fun w hw=>h.wg w (zaY9.1 hw).1,h.gen⟩
theorem SoundP.claimC {q:aA} (h:SoundP q) {p:aJ} {a:aC} (ha:zb1 q.aB a=true) (hw:(zB1 q p).2=false) (hc:covA q.aB (getH q.aR p) a=false) (hz:getH q.aR p≠aC.zero):SoundP (claimC q p a):=by
  have hv:=(zX6 _ _).1 h.hv
  have hfit:zb1 q.aB (getH q.aR p)=true:=(hv.2.2.1.each _ (zaM3 hz)).2
  obtain ⟨j1,j2,j3,j4⟩:=zbS1 hfit ha hc
  rw [zaM4] at hw
  refine ⟨h.res,h.hv,?_,?_,fun w hww=>?_,h.wv,h.wl,h.wg,h.gen⟩
  ·
    have hn:((q.aL++[(⟨p,zav4 q.aB (getH q.aR p) a,0,0⟩:aT)]).map (·.aN)).Nodup:=by
      rw [fC,iQ]
      refine ⟨h.cn,by simp,fun x hx y hy=>?_⟩
      simp only [dZ,jV,dP] at hy
      obtain ⟨c,hcc,rfl⟩:=cQ.1 hx
      rw [hy]; exact hw c (dA _ hcc)
    have hs:∀ x ∈ (q.aL++[(⟨p,zav4 q.aB (getH q.aR p) a,0,0⟩:aT)]).map (·.aN),x ∈ q.aR.map (·.aN):=by
      intro x hx
      simp only [fC,cI,dZ,jV,dP] at hx
      rcases hx with hx|rfl
      · obtain ⟨c,hcc,rfl⟩:=cQ.1 hx
        exact cQ.2 ⟨_,zaM3 (h.cg c hcc).1,rfl⟩
      · exact cQ.2 ⟨_,zaM3 hz,rfl⟩
    have:=eD hn hs
    have h8:=zam2 h.hv
    rw [dS,dS] at this
    show (q.aL++[(⟨p,zav4 q.aB (getH q.aR p) a,0,0⟩:aT)]).length≤8
    omega
  · show ((q.aL++[(⟨p,zav4 q.aB (getH q.aR p) a,0,0⟩:aT)]).map (·.aN)).Nodup
    rw [fC,iQ]
    refine ⟨h.cn,by simp,fun x hx y hy=>?_⟩
    simp only [dZ,jV,dP] at hy
    obtain ⟨c,hcc,rfl⟩:=cQ.1 hx
    rw [hy]; exact hw c (dA _ hcc)
  · rcases cI.1 hww with hww|hww
    · exact h.cg w hww
    · rw [dP] at hww; subst hww
      exact ⟨hz,j1,j2,j4,rfl,rfl⟩
theorem zcc9 {r:aI} {p:aJ} {a:aC} {pr:Int} (ha:zb1 r a=true) (hp:zbo7 p pr=true):zl3 ⟨p,a,pr,0⟩=true:=by
  rw [zK4] at ha
  unfold zbo7 at hp
  simp only [bT,bY] at hp
  rw [← zaJ0]
  unfold zy2
  rw [zay9,hp.1]
  unfold zp6 zw0
  simp
  omega
theorem zdp8 {q:aA} (h:SoundP q) {p:aJ} {a:aC} {pr:Int} (ha:zb1 q.aB a=true) (hp:zbo7 p pr=true) (hw:(zB1 q p).2=false) (hl:q.aV.length < 8) :
    insS q.aV ⟨p,a,pr,0⟩=((claimW q p a pr).aV,(zam4 q.aV ⟨p,a,pr,0⟩ q.aV.length:Int),0):=by
  unfold insS
  rw [bU (by rw [h.wv]; decide),bU (by rw [zcc9 ha hp]; simp),bU ?_,bU (by omega)]
  · rfl
  · rw [zaM4] at hw
    exact zcQ7.2 fun w hww=>hw w (cY _ hww)
theorem SoundP.claimW {q:aA} (h:SoundP q) {p:aJ} {a:aC} {pr:Int} (ha:zb1 q.aB a=true) (hp:zbo7 p pr=true) (hw:(zB1 q p).2=false) (hz:getH q.aR p=aC.zero) (hl:q.aR.length+q.aV.length < 8):SoundP (claimW q p a pr):=by
  rw [zaM4] at hw
  have hne:∀ e ∈ q.aV,e.aN≠p:=fun e he=>hw e (cY _ he)
  have hv:=zcB6 (w:=⟨p,a,pr,0⟩) h.wv (zcc9 ha hp) hne (by omega)
  refine ⟨h.res,h.hv,h.cl,h.cn,h.cg,hv,?_,fun w hww=>?_,h.gen⟩
  · have hn:=zbk5 q.aV ⟨p,a,pr,0⟩ q.aV.length
    simp only [Ab.claimW,zbh7,bX,List.length_cons,dS,dB,eC]
    omega
  · simp only [Ab.claimW,zbh7,cI,cF,cQ] at hww
    rcases hww with hww|rfl|⟨x,hx,rfl⟩
    · exact h.wg w (hI hww)
    · exact ⟨ha,hz⟩
    · exact h.wg x (hJ hx)
theorem SoundP.lower {q:aA} (h:SoundP q) {p:aJ} {a:aC} (hw:(zB1 q p).2=false) (hz:getH q.aR p≠aC.zero) (hc:covA q.aB (getH q.aR p) a=true):SoundP (zaH3 q p a):=by
  rw [zaM4] at hw
  have hl:=zcc8 a h.hv hz
  have h5:=h.wl
  refine ⟨h.res,zcs4 h.hv hz hc,h.cl,h.cn,fun w hww=>?_,h.wv,by simp only [zaH3]; omega,fun w hww=>?_,h.gen⟩
  · simp only [zaH3,zP5 (hw w (dA _ hww))]
    exact h.cg w hww
  · simp only [zaH3,zP5 (hw w (cY _ hww))]
    exact h.wg w hww
theorem zbk9 {q:aA} {p:aJ} {a:aC} {pr:Int} (h:(zX7 q p a pr).2.2=0):SoundP q∧canQ q=false∧zbo7 p pr=true∧zb1 q.aB a=true∧(zB1 q p).2=false ∧
    ((covA q.aB (getH q.aR p) a=true∧zX7 q p a pr=(q,[],0)) ∨
     (covA q.aB (getH q.aR p) a=false∧getH q.aR p≠aC.zero∧zX7 q p a pr=zK6 (claimC q p a)∧SoundP (claimC q p a)) ∨
     (covA q.aB (getH q.aR p) a=false∧getH q.aR p=aC.zero∧q.aR.length+q.aV.length < 8∧zX7 q p a pr=zK6 (claimW q p a pr)∧SoundP (claimW q p a pr))):=by
  unfold zX7 at h ⊢
  by_cases h1:zj0 q=false
  · rw [bV h1] at h; exact absurd h (by decide)
  rw [bU h1] at h ⊢
  by_cases h2:zbo7 p pr=false
  · rw [bV h2] at h; exact absurd h (by decide)
  rw [bU h2] at h ⊢
  by_cases h3:zb1 q.aB a=false
  · rw [bV h3] at h; exact absurd h (by decide)
  rw [bU h3] at h ⊢
  by_cases h4:(zB1 q p).2=true
  · rw [bV h4] at h; exact absurd h (by decide)
  rw [bU h4] at h ⊢
  rw [eP] at h1 h2 h3
  rw [fT] at h4
  obtain ⟨hs,hcn⟩:=(zv9 q).1 h1
  refine ⟨hs,hcn,h2,h3,h4,?_⟩
  by_cases h5:covA q.aB (getH q.aR p) a=true
  · rw [bV h5]; exact .inl ⟨h5,rfl⟩
  rw [bU h5] at h ⊢
  rw [fT] at h5
  by_cases h6:getH q.aR p≠aC.zero
  · rw [bV h6]; exact .inr (.inl ⟨h5,h6,rfl,hs.claimC h3 h4 h5 h6⟩)
  rw [bU h6] at h ⊢
  by_cases h7:8≤q.aR.length+q.aV.length
  · rw [bV h7] at h; exact absurd h (by decide)
  rw [bU h7]
  have h6:=jH.1 h6
  exact .inr (.inr ⟨h5,h6,by omega,rfl,hs.claimW h3 h2 h4 h6 (by omega)⟩)
theorem zaM5 {q:aA} {p:aJ} (h:(zF4 q p).2.2=0):SoundP q∧canQ q=false∧(zB1 q p).2=true∧zF4 q p=zK6 (zaD6 q p)∧SoundP (zaD6 q p):=by
  unfold zF4 at h ⊢
  by_cases h1:zj0 q=false
  · rw [bV h1] at h; exact absurd h (by decide)
  rw [bU h1] at h ⊢
  by_cases h2:(zB1 q p).2=false
  · rw [bV h2] at h; exact absurd h (by decide)
  rw [bU h2]
  rw [eP] at h1 h2
  obtain ⟨hs,hcn⟩:=(zv9 q).1 h1
  exact ⟨hs,hcn,h2,rfl,hs.cancel p⟩
theorem zaJ6 {q:aA} {p:aJ} {a:aC} (h:(zC1 q p a).2.2=0):SoundP q∧canQ q=false∧getH q.aR p≠aC.zero∧(zB1 q p).2=false∧covA q.aB (getH q.aR p) a=true ∧
    ((getH q.aR p=a∧zC1 q p a=(q,[],0))∨(getH q.aR p≠a∧zC1 q p a=zK6 (zaH3 q p a)∧SoundP (zaH3 q p a))):=by
  unfold zC1 at h ⊢
  by_cases h1:zj0 q=false
  · rw [bV h1] at h; exact absurd h (by decide)
  rw [bU h1] at h ⊢
  by_cases h2:getH q.aR p=aC.zero
  · rw [bV h2] at h; exact absurd h (by decide)
  rw [bU h2] at h ⊢
  by_cases h3:(zB1 q p).2=true
  · rw [bV h3] at h; exact absurd h (by decide)
  rw [bU h3] at h ⊢
  by_cases h4:covA q.aB (getH q.aR p) a=false
  · rw [bV h4] at h; exact absurd h (by decide)
  rw [bU h4] at h ⊢
  rw [eP] at h1 h4
  rw [fT] at h3
  obtain ⟨hs,hcn⟩:=(zv9 q).1 h1
  refine ⟨hs,hcn,h2,h3,h4,?_⟩
  by_cases h5:getH q.aR p=a
  · rw [bV h5]; exact .inl ⟨h5,rfl⟩
  · rw [bU h5]; exact .inr ⟨h5,rfl,hs.lower h3 h2 h4⟩
theorem zbs1 {q:aA} {p:aJ} (h:(zH2 q p).2.2=0):SoundP q∧canQ q=false∧hasQ q p=true∧zH2 q p=zK6 (del q p)∧SoundP (del q p):=by
  unfold zH2 at h ⊢
  by_cases h1:zj0 q=false
  · rw [bV h1] at h; exact absurd h (by decide)
  rw [bU h1] at h ⊢
  by_cases h2:hasQ q p=false
  · rw [bV h2] at h; exact absurd h (by decide)
  rw [bU h2]
  rw [eP] at h1 h2
  obtain ⟨hs,hcn⟩:=(zv9 q).1 h1
  exact ⟨hs,hcn,h2,rfl,hs.del p⟩
def ordQ (q:aA):List aT:=q.aL++q.aV
theorem zcj5 {q:aA} (h:canQ q=true):ordQ q=(zM8 q).1 :: ordQ (popQ q)∧(popQ q).aR=setL q.aR (zM8 q).1.aN (zM8 q).1.aK:=by
 cases zcB7 h with
 | con w cs he hd hr hp=>rw [hp,hd]; unfold ordQ; rw [he]; exact ⟨rfl,rfl⟩
 | wait w ws hc he hd hr hp=>rw [hp,hd]; unfold ordQ; rw [hc,he]; exact ⟨rfl,rfl⟩
theorem zdf5 {q:aA} (h:canQ q=true):zaI3 q.aB q.aR (zM8 q).1.aN (zM8 q).1.aK=true:=by
 unfold canQ at h; rw [bT] at h; exact h.2
theorem zcd0 {q:aA} {p:aJ} (h:∀ w ∈ ordQ q,w.aN≠p):getH (advS q).aR p=getH q.aR p∧∀ w ∈ ordQ (advS q),w.aN≠p:=by
 have:=zbw3 (P:=fun x=>getH x.aR p=getH q.aR p∧∀ w ∈ ordQ x,w.aN≠p) (fun x hc hx=>by
  obtain ⟨h1,h2⟩:=zcj5 hc
  obtain ⟨h3,h4⟩:=hx
  rw [h1] at h4
  refine ⟨?_,fun w hw=>h4 w (.tail _ hw)⟩
  rw [h2,zP5 (Ne.symm (h4 _ (.head _)))]; exact h3) q ⟨rfl,h⟩
 exact this
theorem zaM6 {q:aA} (hs:SoundP q) (p:aJ):covA q.aB (getH (advS q).aR p) (getH q.aR p)=true:=by
 have:=zbw3 (P:=fun x=>SoundP x∧x.aB=q.aB∧covA q.aB (getH x.aR p) (getH q.aR p)=true) (fun x hc ⟨h1,h2,h3⟩=>by
  refine ⟨h1.pop hc,by rw [(zcj4 x).2]; exact h2,?_⟩
  obtain ⟨e1,e2⟩:=zcj5 hc
  rw [e2]
  by_cases hp:p=(zM8 x).1.aN
  ·subst hp
   rw [zaM2]
   refine zaY8 ?_ h3
   cases zcB7 hc with
   | con w cs he hd hr hp=>rw [hd,← h2]; exact (h1.cg w (by rw [he]; exact .head _)).2.2.1
   | wait w ws hcc he hd hr hp =>
    rw [hd,(h1.wg w (by rw [he]; exact .head _)).2,← h2]
    have hf:=(zaB6 hr).2.2.1
    exact zbC1 (zB4 hf) (zbF9 hf)
  ·rw [zP5 hp]; exact h3) q ⟨hs,rfl,zap5 (zav5 hs.hv p)⟩
 exact this.2.2
theorem zdf6 {r:aI} {l:List aU} (h:zK5 r l=true) (p:aJ):getH l p≠aC.zero ↔ p ∈ l.map (·.aN):=by
 constructor
 ·intro hp; exact cQ.2 ⟨_,zaM3 hp,rfl⟩
 ·intro hp
  obtain ⟨x,hx,rfl⟩:=cQ.1 hp
  rw [zcs2 (zbk6 h) hx]
  exact zac9 (((zX6 _ _).1 h).2.2.1.each x hx).2
theorem zE6 (q:aA) (p:aJ):hasQ q p=true ↔ (∃ w ∈ ordQ q,w.aN=p)∨getH q.aR p≠aC.zero:=by
 unfold hasQ
 rw [dQ,zcs5,cS,zar2]
 rfl
theorem zdp9 {q:aA} (h:SoundP q) (p:aJ):hasQ q p=true ↔ p ∈ (ordQ q).map (·.aN)∨p ∈ q.aR.map (·.aN):=by
 simp only [zE6,zdf6 h.hv,cQ]
theorem zdq0 {q:aA} (hc:canQ q=true) (p:aJ):hasQ (popQ q) p=hasQ q p:=by
 rw [dN,zE6,zE6]
 obtain ⟨h1,h2⟩:=zcj5 hc
 rw [h1,h2]
 have hz:=zac9 (zaB6 (zdf5 hc)).2.2.1
 by_cases hp:p=(zM8 q).1.aN
 ·subst hp
  rw [zaM2]
  exact ⟨fun _=>.inl ⟨_,.head _,rfl⟩,fun _=>.inr hz⟩
 ·rw [zP5 hp]
  constructor
  ·rintro (⟨w,hw,e⟩|h)
   ·exact .inl ⟨w,.tail _ hw,e⟩
   ·exact .inr h
  ·rintro (⟨w,hw,e⟩|h)
   ·rcases cF.1 hw with rfl|hw
    ·exact absurd e.symm hp
    ·exact .inl ⟨w,hw,e⟩
   ·exact .inr h
theorem zcK3 (q:aA) (p:aJ):hasQ (advS q) p=hasQ q p:=zbw3 (P:=fun x=>hasQ x p=hasQ q p) (fun x hc h=>by rw [zdq0 hc]; exact h) q rfl
theorem zcK4 (q:aA) (g:Int) (p:aJ):hasQ { q with gen:=g } p=hasQ q p:=rfl
theorem zbi1 {q:aA} {p:aJ} {w:aT}:w ∈ ordQ (del q p) ↔ w ∈ ordQ q∧w.aN≠p:=by
 unfold ordQ del
 simp only [cI,zaY9]
 constructor
 ·rintro (⟨a,b⟩|⟨a,b⟩)
  ·exact ⟨.inl a,b⟩
  ·exact ⟨.inr a,b⟩
 ·rintro ⟨a|a,b⟩
  ·exact .inl ⟨a,b⟩
  ·exact .inr ⟨a,b⟩
theorem zdq1 (q:aA) (p x:aJ):hasQ (del q p) x=true ↔ hasQ q x=true∧x≠p:=by
 rw [zE6,zE6]
 by_cases hx:x=p
 ·subst hx
  constructor
  ·rintro (⟨w,hw,e⟩|h)
   ·exact absurd e (zbi1.1 hw).2
   ·exact absurd (zaV3 _ _) h
  ·rintro ⟨_,h⟩; exact absurd rfl h
 ·have e1:getH (del q p).aR x=getH q.aR x:=zaf8 hx _
  rw [e1]
  constructor
  ·rintro (⟨w,hw,e⟩|h)
   ·exact ⟨.inl ⟨w,(zbi1.1 hw).1,e⟩,hx⟩
   ·exact ⟨.inr h,hx⟩
  ·rintro ⟨⟨w,hw,e⟩|h,_⟩
   ·exact .inl ⟨w,zbi1.2 ⟨hw,by rw [e]; exact hx⟩,e⟩
   ·exact .inr h
def remN (q:aA) (p:aJ):aA:=if (zH2 q p).2.2=0 then (zH2 q p).1 else q
theorem zK7 (q:aA):(zK6 q).1={ advS q with gen:=zm8 q.gen }:=rfl
theorem zbs2 {q:aA} (h:zj0 q=true) {p:aJ} (hp:hasQ q p=true):zH2 q p=zK6 (del q p):=by
 unfold zH2; rw [bU (by rw [h]; decide),bU (by rw [hp]; decide)]
theorem zaR9 {q:aA} (h:zj0 q=true) {p:aJ} (hp:hasQ q p=false):zH2 q p=errQ 10:=by
 unfold zH2; rw [bU (by rw [h]; decide),bV hp]
theorem zcj6 {q:aA} (h:zj0 q=true) (p:aJ):zj0 (remN q p)=true:=by
 unfold remN
 split
 ·rename_i h0
  obtain ⟨_,_,_,e,hs⟩:=zbs1 h0
  rw [e]; exact zZ9 hs
 ·exact h
theorem zbG3 {q:aA} (h:zj0 q=true) {p x:aJ} (hx:x≠p):covA q.aB (getH (remN q p).aR x) (getH q.aR x)=true∧(remN q p).aB=q.aB:=by
 obtain ⟨hs,hc⟩:=(zv9 q).1 h
 unfold remN
 cases hp:hasQ q p with
 | true =>
  rw [zbs2 h hp,bV (show (zK6 (del q p)).2.2=0 from rfl),zK7]
  have h1:=zaM6 (hs.del p) x
  have h2:getH (del q p).aR x=getH q.aR x:=zaf8 hx _
  rw [h2] at h1
  exact ⟨h1,(zcK2 (del q p)).2⟩
 | false =>
  rw [zaR9 h hp,bU (by decide)]
  exact ⟨zap5 (zav5 hs.hv x),rfl⟩
theorem zdf7 {q:aA} (h:zj0 q=true) (p x:aJ):hasQ (remN q p) x=true ↔ hasQ q x=true∧x≠p:=by
 unfold remN
 cases hp:hasQ q p with
 | true =>
  rw [zbs2 h hp,bV (show (zK6 (del q p)).2.2=0 from rfl),zK7,zcK4,zcK3,zdq1]
 | false =>
  rw [zaR9 h hp,bU (by decide)]
  constructor
  ·intro hx; exact ⟨hx,fun e=>by rw [e,hp] at hx; cases hx⟩
  ·exact And.left
theorem zaB7:∀ {a b:List aJ},a.Pairwise ltP→b.Pairwise ltP→(∀ x,x ∈ a ↔ x ∈ b)→a=b
 | [],b,_,_,h=>by
  cases b with
  | nil=>rfl
  | cons y b=>exact absurd ((h y).2 (.head _)) (by simp)
 | x :: a,[],_,_,h=>absurd ((h x).1 (.head _)) (by simp)
 | x :: a,y :: b,ha,hb,h=>by
  rw [cU] at ha hb
  have hxy:x=y:=by
   rcases cF.1 ((h x).1 (.head _)) with e|hx
   ·exact e
   ·rcases cF.1 ((h y).2 (.head _)) with e|hy
    ·exact e.symm
    ·exact absurd (zav1 (ha.1 y hy) (hb.1 x hx)) (zab9 x)
  subst hxy
  congr 1
  refine zaB7 ha.2 hb.2 fun z=>?_
  have hz:=h z
  constructor
  ·intro hm
   rcases cF.1 (hz.1 (.tail _ hm)) with e|hm'
   ·subst e; exact absurd (ha.1 z hm) (zab9 z)
   ·exact hm'
  ·intro hm
   rcases cF.1 (hz.2 (.tail _ hm)) with e|hm'
   ·subst e; exact absurd (hb.1 z hm) (zab9 z)
   ·exact hm'
def zaG1 (p:aJ):List aJ→List aJ
 | []=>[p]
 | x :: t=>if p=x then x :: t else if ltP p x then p :: x :: t else x :: zaG1 p t
theorem zaB8 {p x:aJ}:∀ {l:List aJ},x ∈ zaG1 p l ↔ x=p∨x ∈ l
 | []=>by simp [zaG1]
 | y :: t=>by
  simp only [zaG1]
  split
  ·rename_i h; subst h
   simp only [cF]
   constructor
   ·intro h; exact .inr h
   ·rintro (rfl|h)
    ·exact .inl rfl
    ·exact h
  ·split
   ·simp only [cF]
   ·simp only [cF,zaB8 (l:=t)]
    constructor
    ·rintro (h|h|h)
     ·exact .inr (.inl h)
     ·exact .inl h
     ·exact .inr (.inr h)
    ·rintro (h|h|h)
     ·exact .inr (.inl h)
     ·exact .inl h
     ·exact .inr (.inr h)
theorem zaB9 {p:aJ}:∀ {l:List aJ},l.Pairwise ltP→(zaG1 p l).Pairwise ltP
 | [],_=>by simp [zaG1]
 | y :: t,h=>by
  simp only [zaG1]
  split
  ·exact h
  ·rename_i hne
   rw [cU] at h
   split
   ·rename_i hlt
    rw [cU]
    refine ⟨fun x hx=>?_,cU.2 h⟩
    rcases cF.1 hx with rfl|hx
    ·exact hlt
    ·exact zav1 hlt (h.1 x hx)
   ·rename_i hlt
    rw [cU]
    refine ⟨fun x hx=>?_,zaB9 h.2⟩
    rcases zaB8.1 hx with rfl|hx
    ·rcases zav2 hne with h1|h1
     ·exact absurd h1 hlt
     ·exact h1
    ·exact h.1 x hx
theorem zcB8 {p:aJ}:∀ {l:List aJ},l.Pairwise ltP→p ∈ l→zaG1 p l=l:=fun hl hp =>
 zaB7 (zaB9 hl) hl fun x=>by
  rw [zaB8]
  constructor
  ·rintro (rfl|h)
   ·exact hp
   ·exact h
  ·exact .inr
def zaV4 (l:List aJ):List aJ:=l.foldl (fun s p=>zaG1 p s) []
theorem zbi2:∀ (l s:List aJ),s.Pairwise ltP→(l.foldl (fun s p=>zaG1 p s) s).Pairwise ltP∧∀ x,x ∈ l.foldl (fun s p=>zaG1 p s) s ↔ x ∈ s∨x ∈ l
 | [],s,h=>⟨h,fun x=>by simp⟩
 | p :: l,s,h=>by
  obtain ⟨h1,h2⟩:=zbi2 l (zaG1 p s) (zaB9 h)
  refine ⟨h1,fun x=>?_⟩
  rw [List.foldl_cons,h2,zaB8,cF]
  constructor
  ·rintro ((h|h)|h)
   ·exact .inr (.inl h)
   ·exact .inl h
   ·exact .inr (.inr h)
  ·rintro (h|h|h)
   ·exact .inl (.inr h)
   ·exact .inl (.inl h)
   ·exact .inr h
theorem zaC0 (l:List aJ):(zaV4 l).Pairwise ltP:=(zbi2 l [] .nil).1
theorem zai8 {l:List aJ} {x:aJ}:x ∈ zaV4 l ↔ x ∈ l:=by
 have:=(zbi2 l [] .nil).2 x
 unfold zaV4
 simpa using this
theorem zcj7 {l s:List aJ} (h:s.Pairwise ltP) (hm:∀ x,x ∈ s ↔ x ∈ l):s=zaV4 l:=zaB7 h (zaC0 l) fun x=>by rw [hm,zai8]
theorem zcs6 {a b:List aJ} (h:∀ x,x ∈ a ↔ x ∈ b):zaV4 a=zaV4 b:=zaB7 (zaC0 a) (zaC0 b) fun x=>by rw [zai8,zai8,h]
theorem zaV5 {l:List aJ} (h:l.Pairwise ltP):l.Nodup:=h.imp fun hab e=>by subst e; exact zab9 _ hab
theorem zbC2 (l:List aJ):(zaV4 l).length≤l.length:=eD (zaV5 (zaC0 l)) fun x hx=>zai8.1 hx
def dst:List aJ→List aJ
 | []=>[]
 | [x]=>[x]
 | x :: y :: t=>if x=y then dst (y :: t) else x :: dst (y :: t)
theorem zbK2:∀ {l:List aJ} {x:aJ},x ∈ dst l ↔ x ∈ l
 | [],x=>by simp [dst]
 | [y],x=>by simp [dst]
 | y :: z :: t,x=>by
  simp only [dst]
  split
  ·rename_i h; subst h
   rw [zbK2 (l:=y :: t)]
   simp
  ·rw [cF,zbK2 (l:=z :: t),cF (b:=y)]
theorem zcj8:∀ {l:List aJ},l.Pairwise (fun x y=>¬ ltP y x)→(dst l).Pairwise ltP
 | [],_=>by simp [dst]
 | [x],_=>by simp [dst]
 | x :: y :: t,h=>by
  simp only [dst]
  rw [cU] at h
  split
  ·exact zcj8 h.2
  ·rename_i hne
   rw [cU]
   refine ⟨fun z hz=>?_,zcj8 h.2⟩
   have hz:=zbK2.1 hz
   by_cases e:x=z
   ·subst e
    rcases cF.1 hz with e|hz'
    ·exact absurd e hne
    ·have h2:=(cU.1 h.2).1 x hz'
     rcases zav2 hne with h3|h3
     ·exact absurd h3 h2
     ·exact absurd h3 (h.1 y (.head _))
   ·rcases zav2 e with h1|h1
    ·exact h1
    ·exact absurd h1 (h.1 z hz)
theorem zcR5 {l s:List aJ} (h:s.Pairwise fun x y=>¬ ltP y x) (hm:∀ x,x ∈ s ↔ x ∈ l):dst s=zaV4 l:=zcj7 (zcj8 h) fun x=>by rw [zbK2,hm]
theorem zcs7:∀ (l:List aJ) (x y:aJ),dst (l++[x,y])=if x=y then dst (l++[x]) else dst (l++[x])++[y]
 | [],x,y=>by
  by_cases h:x=y <;> simp [dst,h]
 | [a],x,y=>by
  by_cases h:x=y
  ·subst h; by_cases h2:a=x <;> simp [dst,h2]
  ·by_cases h2:a=x
   ·subst h2; simp [dst,h]
   ·simp [dst,h,h2]
 | a :: b :: l,x,y=>by
  have ih:=zcs7 (b :: l) x y
  simp only [List.cons_append,dst] at ih ⊢
  rw [ih]
  by_cases h:x=y <;> by_cases h2:a=b <;> simp [h,h2]
theorem zcB9 (x y:aJ):¬ ltP y x∨¬ ltP x y:=by
 by_cases h:ltP y x
 ·exact .inr (zbk2 h)
 ·exact .inl h
theorem zcj9 (l:List aJ):(l.mergeSort fun x y=>!decide (ltP y x)).Pairwise fun x y=>¬ ltP y x:=by
 have:=iK (le:=fun x y=>!decide (ltP y x)) (fun a b c h1 h2=>by
  simp only [cS,cW] at h1 h2 ⊢
  intro h3
  by_cases e:b=a
  ·subst e; exact h2 h3
  ·rcases zav2 e with h4|h4
   ·exact h1 h4
   ·by_cases e2:b=c
    ·subst e2; exact h1 h3
    ·rcases zav2 e2 with h5|h5
     ·exact zbk2 (zav1 h3 h4) h5
     ·exact h2 h5) (fun a b=>by
  rcases zcB9 a b with h|h
  ·simp [h]
  ·simp [h]) l
 exact this.imp fun h=>by simpa using h
theorem ifNT {α:Type} (x y:α):(if (!true)=true then x else y)=y:=rfl
theorem ifTF {α:Type} (x y:α):(if true=false then x else y)=y:=rfl
theorem ifFT {α:Type} (x y:α):(if false=true then x else y)=y:=rfl
theorem zcs8 (l:List aJ) (hl:l.length≤4294967296):zc8 l=some (l.mergeSort fun x y=>!decide (ltP y x)):=by
 unfold zc8
 rw [zg6 hl]
 congr 2
theorem zdf8 {l:List aJ} {i:Nat} (h:i+1 < l.length):l.take (i+2)=l.take i++[l.getD i aJ.zero,l.getD (i+1) aJ.zero]:=by
 rw [eZ (by omega),eZ (by omega),cE]
 congr 1
 rw [bW,bZ (by omega),bW,bZ h]
 rfl
theorem zbS2 {l:List aJ} {i:Nat} (h:i < l.length):l.take (i+1)=l.take i++[l.getD i aJ.zero]:=by
 rw [eZ h]
 congr 1
 rw [bW,bZ h]
 rfl
theorem zbS3 {l:List aJ} {i:Nat} (h:i+1 < l.length):dst (l.take (i+2))=if l.getD i aJ.zero=l.getD (i+1) aJ.zero then dst (l.take (i+1)) else dst (l.take (i+1))++[l.getD (i+1) aJ.zero]:=by
 rw [zdf8 h,zcs7,← zbS2 (by omega)]
theorem zbw4 {l m:List aJ} {i j:Nat} (h:l.drop i=m.drop i) (hij:i≤j):l.getD j aJ.zero=m.getD j aJ.zero:=by
 have e:∀ x:List aJ,x.getD j aJ.zero=(x.drop i).getD (j - i) aJ.zero:=fun x=>by
  rw [bW,bW,dO,show i+(j - i)=j by omega]
 rw [e l,e m,h]
theorem zbY7 (a:List aJ) (g:Nat) (hg:1≤g) (hgl:g < a.length) (hl:a.length≤1000000) (he:a.getD g aJ.zero=a.getD (g - 1) aJ.zero) (hd:dst (a.take g)=a.take g) :
  ∃ x,zc0 (zv4 a g) ((g:Int),1,a)=some x∧∃ k:Nat,x.1=(k:Int)∧x.2.length=a.length∧k≤a.length∧x.2.take k=dst a:=by
 refine zq3 (fun s=>∃ k k2:Nat,s.1=(k:Int)∧s.2.1=(k2:Int)∧s.2.2.length=a.length∧1≤k2∧g+k2≤a.length∧k+1≤g+k2∧s.2.2.take k=dst (a.take (g+k2))∧s.2.2.drop (g+k2 - 1)=a.drop (g+k2 - 1)) (fun s=>(a.length - s.2.1.toNat)) _ ?_ _ ?_
 ·rintro ⟨k,k2,s⟩ ⟨kn,k2n,h1,h2,h3,h4,h5,h6,h7,h8⟩
  simp only at h1 h2 h3 h7 h8
  subst h1; subst h2
  unfold zv4
  by_cases hlt:g+k2n < a.length
  ·left
   have w:IntKind.i64.wrap ((k2n:Int) - 1)=((k2n - 1:Nat):Int):=by rw [zf5 (by omega) (by omega)]; omega
   have w2:IntKind.i64.wrap ((k2n:Int)+1)=((k2n+1:Nat):Int):=by rw [zf5 (by omega) (by omega)]; omega
   have w3:IntKind.i64.wrap ((kn:Int)+1)=((kn+1:Nat):Int):=by rw [zf5 (by omega) (by omega)]; omega
   have r1:s.getD (g+k2n) aJ.zero=a.getD (g+k2n) aJ.zero:=zbw4 h8 (by omega)
   have r2:s.getD (g+(k2n - 1)) aJ.zero=a.getD (g+(k2n - 1)) aJ.zero:=zbw4 h8 (by omega)
   have hdt:=zbS3 (l:=a) (i:=g+(k2n - 1)) (by omega)
   rw [show g+(k2n - 1)+2=g+(k2n+1) by omega,show g+(k2n - 1)+1=g+k2n by omega] at hdt
   simp only [Int.toNat_natCast,w,w2,w3]
   rw [bV (by simp; omega),zg6 (by omega),zg6 (by omega),r1,r2]
   by_cases hne:a.getD (g+k2n) aJ.zero=a.getD (g+(k2n - 1)) aJ.zero
   ·refine ⟨((kn:Int),((k2n+1:Nat):Int),s),by rw [bU (by simp only [hne,cC,cK,bS,gX])],⟨kn,k2n+1,rfl,rfl,h3,by omega,by omega,by omega,?_,?_⟩,by simp only [Int.toNat_natCast]; omega⟩
    ·simp only
     rw [h7,hdt,bV hne.symm]
    ·simp only
     rw [show g+(k2n+1) - 1=(g+k2n - 1)+1 by omega,← eT,← eT,h8]
   ·rw [bV (by simpa using hne),zg6 (by omega),zg6 (by omega)]
    refine ⟨(((kn+1:Nat):Int),((k2n+1:Nat):Int),s.set kn (a.getD (g+k2n) aJ.zero)),rfl,⟨kn+1,k2n+1,rfl,rfl,by simp [h3],by omega,by omega,by omega,?_,?_⟩,by simp only [Int.toNat_natCast]; omega⟩
    ·simp only
     rw [hdt,bU (fun e=>hne e.symm),← h7,zbS2 (by rw [dI]; omega),List.take_set_of_le (by omega),zt9 _ _ _ _ (by omega)]
    ·simp only
     rw [List.drop_set_of_lt (by omega),show g+(k2n+1) - 1=(g+k2n - 1)+1 by omega,← eT,← eT,h8]
  ·right
   refine ⟨((kn:Int),s),by simp only [Int.toNat_natCast]; rw [bU (by simp; omega)],kn,rfl,h3,by omega,?_⟩
   simp only
   rw [h7,cX (by omega)]
 ·refine ⟨g,1,rfl,rfl,rfl,by omega,by omega,by omega,?_,rfl⟩
  simp only
  have hdt:=zbS3 (l:=a) (i:=g - 1) (by omega)
  rw [show g - 1+2=g+1 by omega,show g - 1+1=g by omega,bV he.symm,hd] at hdt
  exact hdt.symm
theorem zcC0 (a:List aJ) (hl:a.length≤1000000):∃ r,za4 a=some (dst a,r):=by
 unfold za4
 by_cases h2:a.length < 2
 ·rw [bV (by simp; omega)]
  refine ⟨a,?_⟩
  have:dst a=a:=by
   match a,h2 with
   | [],_=>rfl
   | [x],_=>rfl
   | x :: y :: t,h=>simp at h; omega
  rw [this]
 ·rw [bU (by simp; omega)]
  obtain ⟨x,hx,hp⟩:=zq3 (body:=zs5 a) (fun g=>∃ n:Nat,g=(n:Int)∧1≤n∧n≤a.length∧dst (a.take n)=a.take n) (fun g=>a.length - g.toNat)
   (fun x=>match x with|.inl _=>dst a=a|.inr z=>z.1=dst a) (by
    rintro g ⟨n,rfl,h1,h3,h4⟩
    unfold zs5
    by_cases hlt:n < a.length
    ·have w:IntKind.i64.wrap ((n:Int) - 1)=((n - 1:Nat):Int):=by rw [zf5 (by omega) (by omega)]; omega
     have w2:IntKind.i64.wrap ((n:Int)+1)=((n+1:Nat):Int):=by rw [zf5 (by omega) (by omega)]; omega
     rw [bV (by simp; omega),zg6 (by omega),w,w2,zg6 (by omega)]
     simp only [Int.toNat_natCast]
     by_cases he:a.getD n aJ.zero=a.getD (n - 1) aJ.zero
     ·right
      obtain ⟨x,hx,k,hk1,hk2,hk3,hk4⟩:=zbY7 a n h1 hlt hl he h4
      rw [bV (cN he),zg6 (by omega),hx]
      obtain ⟨x1,x2⟩:=x
      simp only at hk1 hk2 hk4
      subst hk1
      rw [Option.bind_some]
      unfold zB2
      simp only [Int.toNat_natCast]
      rw [zg6 (by omega),zg6 (by omega)]
      refine ⟨_,rfl,?_⟩
      simp only
      rw [fY,cE,eW (by simp; omega),jY,Nat.min_self,hk4]
     ·left
      refine ⟨((n+1:Nat):Int),by rw [bU (by simpa using he)],⟨n+1,rfl,by omega,by omega,?_⟩,by simp only [Int.toNat_natCast]; omega⟩
      have hdt:=zbS3 (l:=a) (i:=n - 1) (by omega)
      rw [show n - 1+2=n+1 by omega,show n - 1+1=n by omega,bU (fun e=>he e.symm),h4,← zbS2 hlt] at hdt
      exact hdt
    ·right
     refine ⟨.inl (),by rw [bU (by simp; omega)],?_⟩
     simp only
     rw [cX (by omega)] at h4
     exact h4) 1 ⟨1,rfl,by omega,by omega,by
      match a,h2 with
      | x :: t,_=>simp [dst]⟩
  rw [hx]
  cases x with
  | inl u =>
   simp only at hp
   refine ⟨a,?_⟩
   rw [hp]; rfl
  | inr z =>
   simp only at hp
   refine ⟨z.2,?_⟩
   rw [← hp]; rfl
theorem zat7 (l:List aJ) (hl:l.length≤1000000):zm6 l=some (zaV4 l):=by
 unfold zm6
 rw [zg6 (by omega),zcs8 l (by omega),Option.bind_some]
 obtain ⟨r,h⟩:=zcC0 (l.mergeSort fun x y=>!decide (ltP y x)) (by rw [gU]; exact hl)
 rw [h]
 simp only [Option.bind_some]
 rw [zcR5 (zcj9 l) fun x=>List.mem_mergeSort]
theorem zaV6 (l:List aJ) (p:aJ) (hl:l.length≤1000000):zg8 l p=some (decide (p ∈ l)):=by
 unfold zg8
 have key:=zal0 (body:=zW4 l p) l aJ.zero (fun i (_:Unit)=>(i:Int)) (fun _ x _=>some (if x=p then .inr (Sum.inr true) else .inl ())) (fun _=>Sum.inl (β:=Bool) ())
  (fun i s hi=>by
   unfold zW4
   have h3:0≤(i:Int)∧(i:Int) < (l.length:Int):=by omega
   simp only [h3.1,h3.2,cV,zm1,cC,cB,Int.toNat_natCast,zc4 i (by omega),Option.map_some,bY]
   split <;> rfl)
  (fun s=>by unfold zW4; simp) ()
 rw [show (0:Int)=(fun (i:Nat) (_:Unit)=>(i:Int)) 0 () from rfl,key]
 have fold:∀ (l:List aJ) (i:Nat),walk (fun _ x (_:Unit)=>some (if x=p then .inr (Sum.inr true) else .inl ())) (fun _=>Sum.inl (β:=Bool) ()) l i ()=some (if p ∈ l then .inr true else .inl ()):=by
  intro l
  induction l with
  | nil=>intro i; simp [walk]
  | cons x t ih =>
   intro i
   simp only [walk]
   by_cases e:x=p
   ·subst e; simp
   ·simp only [e,cA,cF,fun h:p=x=>e h.symm,iO]
    rw [ih]
    have:¬ p=x:=fun h=>e h.symm
    simp [this]
 rw [fold]
 by_cases hp:p ∈ l <;> simp [hp,zat0]
theorem zbS4 (q:aA) (h1:q.aL.length≤1000) (h2:q.aV.length≤1000):zu1 q=some ((ordQ q).map (·.aN)):=by
 unfold zu1
 rw [zbR3 q (by omega) (by omega),Option.bind_some]
 have hl:(q.aL++q.aV).length≤2000:=by rw [bX]; omega
 show _=some ((q.aL++q.aV).map (·.aN))
 generalize q.aL++q.aV=l at hl
 have key:=zB3 (body:=zae2 l) l aT.zero (fun i (s:List aJ)=>((i:Int),s)) (fun i h s=>some (.inl (zaE6 s (some h.aN)))) (fun s=>s) (fun i s=>s.length≤i)
  (fun i s hi hs=>by
   refine ⟨?_,fun s' h=>?_⟩
   ·unfold zae2
    have h1:s.length+1≤4294967296:=by omega
    have h3:0≤(i:Int)∧(i:Int) < (l.length:Int):=by omega
    simp only [h1,h3.1,h3.2,cV,zm1,cC,cB,Int.toNat_natCast,zc4 i (by omega),Option.map_some,wmap,zaE6]
   ·simp only [dC,eX] at h; subst h; simp [zaE6]; omega)
  (fun s hs=>by unfold zae2; simp) [] (by simp)
 rw [show ((0,[]):Int×List aJ)=(fun (i:Nat) (s:List aJ)=>((i:Int),s)) 0 [] from rfl,key,zaJ4 (fun h:aT=>some h.aN)]
 simp [zaA8]
theorem zbs3 (l:List aU) (hl:l.length≤1000000):ze5 l=some (l.map (·.aN)):=by
 have e:ze5 l=zh8 l:=rfl
 rw [e]; exact zde9 l hl
def zaq3 (q:aA):List aJ:=zaV4 (q.aR.map (·.aN)++(ordQ q).map (·.aN))
theorem zbS5 (q:aA) (h0:q.aR.length≤1000) (h1:q.aL.length≤1000) (h2:q.aV.length≤1000):zG1 q=some (zaq3 q):=by
 unfold zG1 zaq3
 have hl:(ordQ q).length≤2000:=by unfold ordQ; rw [bX]; omega
 rw [zbs3 _ (by omega),Option.bind_some,zbS4 q h1 h2,Option.bind_some,zg6 (by simp; omega),zat7 _ (by simp; omega)]
 rfl
theorem zbS6 {q:aA} (h:SoundP q) {p:aJ}:p ∈ zaq3 q ↔ hasQ q p=true:=by
 unfold zaq3
 rw [zai8,cI,zdp9 h,or_comm]
theorem SoundP.lens {q:aA} (h:SoundP q):q.aR.length≤8∧q.aL.length≤8∧q.aV.length≤8∧zaf7 q≤16:=by
 have:=h.cl; have:=h.wl; have:=zam2 h.hv
 unfold zaf7; omega
theorem zbY8 {q:aA} (h:SoundP q):zj0 q=!canQ q:=by
 unfold zj0
 rw [(zbs0 q).2 h,cH]; rfl
theorem zbC3 (g:aA×List aU) (hs:SoundP g.1) (hg:g.2.length≤1000000):zO1 g=some (if canQ g.1=true then .inl (zbw1 g) else .inr g):=by
 unfold zO1
 rw [zaV2,Option.bind_some,zbY8 hs]
 cases hc:canQ g.1 with
 | false=>simp
 | true =>
  obtain ⟨h1,_,hl⟩:=zaJ5 hc
  rw [bV (by simp),zbo5,Option.bind_some,bV rfl]
  unfold zbw1 popQ
  by_cases h0:0 < g.1.aL.length
  ·rw [bV (by simpa using h0),zg6 (by omega),bV h0]
   unfold zW8
   rw [zay8 _ _ _ (by simp only; omega),Option.bind_some,zg6 (by omega)]
  ·rw [bU (by simpa using h0),bU h0]
   have hw:0 < g.1.aV.length:=by unfold zaf7 at h1; omega
   rw [zg6 (by omega)]
   unfold zW8
   rw [zay8 _ _ _ (by simp only; omega),Option.bind_some,zg6 (by omega)]
theorem zbC4 {q:aA} (h:SoundP q):zL6 q=some (advS q,advG q):=by
 unfold zL6
 have hl:=h.lens
 rw [zaM0,Option.bind_some,(zbs0 q).2 h,bU (by decide),zaD5 q (by omega) (by omega) (by omega),Option.bind_some]
 have key:=zcp8 (body:=zO1) (fun g=>SoundP g.1∧zaf7 g.1+g.2.length≤1000) (fun g=>zaf7 g.1) (fun g=>advN (zaf7 g.1) g) (fun g hg=>by
  rw [zbC3 g hg.1 (by omega)]
  cases hc:canQ g.1 with
  | false=>right; rw [bU (by decide),zbB7,bU (by rw [hc]; decide)]
  | true =>
   left
   obtain ⟨h1,h2,_⟩:=zaJ5 hc
   refine ⟨zbw1 g,by rw [bV rfl],⟨hg.1.pop hc,?_⟩,?_,?_⟩
   ·unfold zbw1; simp only [bX,List.length_cons,List.length_nil]; omega
   ·show zaf7 (popQ g.1) < zaf7 g.1; omega
   ·rw [zbB7 g,bV hc]) (q,[]) ⟨h,by simp only [List.length_nil]; omega⟩
 rw [key]
 rfl
theorem zaf9 {q:aA} (h:SoundP q):zz4 q=some (zK6 q):=by
 unfold zz4; rw [zbC4 h,Option.bind_some,zdp6]; rfl
theorem zdf9 (p:aJ) (pr:Int):(((!(zb6 p))||(decide (pr < 0)))||(decide (7 < pr)))=!zbo7 p pr:=by
 unfold zbo7
 generalize zb6 p=b
 rw [dN]
 cases b
 ·simp
 ·simp
theorem zbS7 (q:aA) (p:aJ) (a:aC) (pr:Int):zI6 q p a pr=some (zX7 q p a pr):=by
 unfold zI6 zX7
 rw [zam5,Option.bind_some]
 cases h1:zj0 q with
 | false=>rfl
 | true =>
  obtain ⟨hs,hcan⟩:=(zv9 q).1 h1
  have hl:=hs.lens
  rw [ifNT,ifTF,zay9,zdf9]
  cases h2:zbo7 p pr with
  | false=>rfl
  | true =>
   rw [ifNT,ifTF,zaQ1]
   cases h3:zb1 q.aB a with
   | false=>rfl
   | true =>
    rw [ifNT,ifTF,zT1 q p (by omega) (by omega),Option.bind_some]
    cases h4:(zB1 q p).2 with
    | true=>rfl
    | false =>
     rw [ifFT,ifFT,zbI3 q (by omega) (by omega) (by omega),Option.bind_some,zG7 q p (by omega),Option.bind_some]
     have hcv:zs4 q.aB (getH q.aR p) a=covA q.aB (getH q.aR p) a:=rfl
     rw [hcv]
     cases h5:covA q.aB (getH q.aR p) a with
     | true=>rfl
     | false =>
      rw [ifFT,ifFT,zaD4]
      by_cases h6:getH q.aR p=aC.zero
      ·rw [bU (by rw [(zai6 _).2 h6]; decide),bU (show ¬ getH q.aR p≠aC.zero from fun k=>k h6),zf5 (by omega) (by omega)]
       by_cases h7:8≤q.aR.length+q.aV.length
       ·rw [bV (by simp; omega),bV h7]; rfl
       ·rw [bU (by simp; omega),bU h7,zbI1,Option.bind_some]
        have hi:=zdp8 hs h3 h2 h4 (p:=p) (a:=a) (pr:=pr) (by omega)
        have e:({ aT.zero with aN:=p,aK:=a,bG:=pr }:aT)=⟨p,a,pr,0⟩:=rfl
        rw [e,hi,bU (by simp)]
        have hsc:=hs.claimW h3 h2 h4 h6 (by omega) (p:=p) (a:=a) (pr:=pr)
        have hq:(⟨(⟨q.aB.name,q.aB.kind,q.aB.aS,q.aB.home⟩:aI),q.aR,q.aL,(claimW q p a pr).aV,q.gen⟩:aA)=claimW q p a pr:=rfl
        simp only [hq]
        rw [zaf9 hsc]; rfl
      ·rw [bV (by rw [(zar2 _).2 h6]; rfl),bV h6]
       have hsc:=hs.claimC h3 h4 h5 h6
       rw [zbo6,Option.bind_some,zg6 (by omega)]
       have hq:(⟨(⟨q.aB.name,q.aB.kind,q.aB.aS,q.aB.home⟩:aI),q.aR,q.aL++[{ aT.zero with aN:=p,aK:=zav4 q.aB (getH q.aR p) a }],q.aV,q.gen⟩:aA)=claimC q p a:=rfl
       rw [hq,zaf9 hsc]; rfl
theorem zbI4 (q:aA) (p:aJ):zW9 q p=some (zF4 q p):=by
 unfold zW9 zF4
 rw [zam5,Option.bind_some]
 cases h1:zj0 q with
 | false=>rfl
 | true =>
  obtain ⟨hs,hcan⟩:=(zv9 q).1 h1
  have hl:=hs.lens
  rw [ifNT,ifTF,zT1 q p (by omega) (by omega),Option.bind_some]
  cases h4:(zB1 q p).2 with
  | false=>rfl
  | true =>
   rw [ifNT,ifTF,zaD5 q (by omega) (by omega) (by omega),Option.bind_some,zas4 _ _ (by omega),Option.bind_some,zas4 _ _ (by simp only; omega),Option.bind_some]
   have hq:({ { q with aL:=rmL q.aL p } with aV:=rmL q.aV p }:aA)=zaD6 q p:=rfl
   simp only [hq]
   rw [zaf9 (hs.cancel p)]; rfl
theorem zbS8 (q:aA) (p:aJ) (a:aC):zab5 q p a=some (zC1 q p a):=by
 unfold zab5 zC1
 rw [zam5,Option.bind_some]
 cases h1:zj0 q with
 | false=>rfl
 | true =>
  obtain ⟨hs,hcan⟩:=(zv9 q).1 h1
  have hl:=hs.lens
  rw [ifNT,ifTF,zG7 q p (by omega),Option.bind_some,zaD4]
  by_cases h6:getH q.aR p=aC.zero
  ·rw [bV ((zai6 _).2 h6),bV h6]; rfl
  ·rw [bU (by rw [(zar2 _).2 h6]; decide),bU h6,zT1 q p (by omega) (by omega),Option.bind_some]
   cases h4:(zB1 q p).2 with
   | true=>rfl
   | false =>
    have hcv:zs4 q.aB (getH q.aR p) a=covA q.aB (getH q.aR p) a:=rfl
    rw [ifFT,ifFT,hcv]
    cases h5:covA q.aB (getH q.aR p) a with
    | false=>rfl
    | true =>
     rw [ifNT,ifTF,zaD5 q (by omega) (by omega) (by omega),Option.bind_some]
     by_cases h7:getH q.aR p=a
     ·rw [bV (by simp [h7]),bV h7]
     ·rw [bU (by simpa using h7),bU h7,zay8 _ _ _ (by omega),Option.bind_some]
      have hq:({ q with aR:=setL q.aR p a }:aA)=zaH3 q p a:=rfl
      simp only [hq]
      rw [zaf9 (hs.lower h4 h6 h5)]; rfl
theorem zbw5 (q:aA) (p:aJ) (h0:q.aR.length≤1000000) (h1:q.aL.length≤1000000) (h2:q.aV.length≤1000000):zt3 q p=some (hasQ q p):=by
 unfold zt3 hasQ
 rw [zT1 q p h1 h2,Option.bind_some,zG7 q p (by omega)]
 cases h:(zB1 q p).2 <;> simp [zaD4]
theorem zbI5 (q:aA) (p:aJ):zX1 q p=some (zH2 q p):=by
 unfold zX1 zH2
 rw [zam5,Option.bind_some]
 cases h1:zj0 q with
 | false=>rfl
 | true =>
  obtain ⟨hs,hcan⟩:=(zv9 q).1 h1
  have hl:=hs.lens
  rw [ifNT,ifTF,zbw5 q p (by omega) (by omega) (by omega),Option.bind_some]
  cases h4:hasQ q p with
  | false=>rfl
  | true =>
   rw [ifNT,ifTF,zaD5 q (by omega) (by omega) (by omega),Option.bind_some,zay8 _ _ _ (by omega),Option.bind_some,zas4 _ _ (by simp only; omega),Option.bind_some,zas4 _ _ (by simp only; omega),Option.bind_some]
   have hz:setL q.aR p ({ aC.zero with })=zu9 p q.aR:=bV rfl
   have hq:({ { { q with aR:=zu9 p q.aR } with aL:=rmL q.aL p } with aV:=rmL q.aV p }:aA)=del q p:=rfl
   simp only [hz,hq]
   rw [zaf9 (hs.del p)]; rfl
def zbi3 (x:aA×List aU×Int):Prop:=x.1.aR.length≤8∧x.1.aL.length≤8∧x.1.aV.length≤8∧x.2.1.length≤16
theorem zbl0 (e:Int):zbi3 (errQ e):=by unfold zbi3 errQ aA.zero; simp
theorem zar3 {q:aA} (h:SoundP q):zbi3 (zK6 q):=by
 have h1:=(h.adv).lens
 have h2:=zdf4 q
 have h3:=h.lens
 exact ⟨h1.1,h1.2.1,h1.2.2.1,by show (advG q).length≤16; omega⟩
theorem zbS9 {q:aA} (h:SoundP q):zbi3 (q,[],0):=by
 have h1:=h.lens
 exact ⟨h1.1,h1.2.1,h1.2.2.1,by simp⟩
theorem zcC1 {q:aA} {p:aJ} {a:aC} {pr:Int} (h:(zX7 q p a pr).2.2≠0):∃ e,zX7 q p a pr=errQ e:=by
 unfold zX7 at h ⊢
 split; · exact ⟨_,rfl⟩
 split; · exact ⟨_,rfl⟩
 split; · exact ⟨_,rfl⟩
 split; · exact ⟨_,rfl⟩
 rename_i h1 h2 h3 h4
 rw [bU h1,bU h2,bU h3,bU h4] at h
 split
 ·rename_i h5; rw [bV h5] at h; exact absurd rfl h
 rename_i h5; rw [bU h5] at h
 split
 ·rename_i h6; rw [bV h6] at h; exact absurd rfl h
 rename_i h6; rw [bU h6] at h
 split
 ·exact ⟨_,rfl⟩
 ·rename_i h7; rw [bU h7] at h; exact absurd rfl h
theorem zcs9 {q:aA} {p:aJ} (h:(zF4 q p).2.2≠0):∃ e,zF4 q p=errQ e:=by
 unfold zF4 at h ⊢
 split; · exact ⟨_,rfl⟩
 split; · exact ⟨_,rfl⟩
 rename_i h1 h2
 rw [bU h1,bU h2] at h
 exact absurd rfl h
theorem zct0 {q:aA} {p:aJ} (h:(zH2 q p).2.2≠0):∃ e,zH2 q p=errQ e:=by
 unfold zH2 at h ⊢
 split; · exact ⟨_,rfl⟩
 split; · exact ⟨_,rfl⟩
 rename_i h1 h2
 rw [bU h1,bU h2] at h
 exact absurd rfl h
theorem zcC2 {q:aA} {p:aJ} {a:aC} (h:(zC1 q p a).2.2≠0):∃ e,zC1 q p a=errQ e:=by
 unfold zC1 at h ⊢
 split; · exact ⟨_,rfl⟩
 split; · exact ⟨_,rfl⟩
 split; · exact ⟨_,rfl⟩
 split; · exact ⟨_,rfl⟩
 rename_i h1 h2 h3 h4
 rw [bU h1,bU h2,bU h3,bU h4] at h
 split
 ·rename_i h5; rw [bV h5] at h; exact absurd rfl h
 ·rename_i h5; rw [bU h5] at h; exact absurd rfl h
theorem zbw6 (q:aA) (p:aJ) (a:aC) (pr:Int):zbi3 (zX7 q p a pr):=by
 by_cases h:(zX7 q p a pr).2.2=0
 ·obtain ⟨hs,_,_,_,_,hh⟩:=zbk9 h
  rcases hh with ⟨_,e⟩|⟨_,_,e,hc⟩|⟨_,_,_,e,hc⟩
  ·rw [e]; exact zbS9 hs
  ·rw [e]; exact zar3 hc
  ·rw [e]; exact zar3 hc
 ·obtain ⟨e,he⟩:=zcC1 h; rw [he]; exact zbl0 e
theorem zbo8 (q:aA) (p:aJ):zbi3 (zF4 q p):=by
 by_cases h:(zF4 q p).2.2=0
 ·obtain ⟨_,_,_,e,hc⟩:=zaM5 h; rw [e]; exact zar3 hc
 ·obtain ⟨e,he⟩:=zcs9 h; rw [he]; exact zbl0 e
theorem zbo9 (q:aA) (p:aJ):zbi3 (zH2 q p):=by
 by_cases h:(zH2 q p).2.2=0
 ·obtain ⟨_,_,_,e,hc⟩:=zbs1 h; rw [e]; exact zar3 hc
 ·obtain ⟨e,he⟩:=zct0 h; rw [he]; exact zbl0 e
theorem zaZ0 (q:aA) (p:aJ) (a:aC):zbi3 (zC1 q p a):=by
 by_cases h:(zC1 q p a).2.2=0
 ·obtain ⟨hs,_,_,_,_,hh⟩:=zaJ6 h
  rcases hh with ⟨_,e⟩|⟨_,e,hc⟩
  ·rw [e]; exact zbS9 hs
  ·rw [e]; exact zar3 hc
 ·obtain ⟨e,he⟩:=zcC2 h; rw [he]; exact zbl0 e
theorem zck0 (n m:Int) (h1:1≤m) (h2:m≤1000000):zn9 n m=some (n % m):=by
  unfold zn9
  rw [bU (by simp; omega),gdp (by omega)]
  have hlt:n.tmod m < m:=Int.tmod_lt_of_pos n (by omega)
  have hgt:-m < n.tmod m:=by have:=Int.lt_tmod_of_pos n (show 0 < m by omega); omega
  have e:n % m=if n.tmod m < 0 then n.tmod m+m else n.tmod m:=by
    rw [Int.emod_eq_tmod]
    by_cases h3:0≤n∨m ∣ n
    · rw [bV h3]
      have:0≤n.tmod m:=by
        rcases h3 with h|h
        · exact Int.tmod_nonneg m h
        · rw [Int.tmod_eq_zero_of_dvd h]; omega
      rw [bU (by omega)]; omega
    · rw [bU h3]
      simp only [kC] at h3
      have h5:0≤(-n).tmod m:=Int.tmod_nonneg m (by omega)
      rw [Int.neg_tmod] at h5
      have h6:n.tmod m≠0:=fun h=>h3.2 (Int.dvd_of_tmod_eq_zero h)
      rw [bV (by omega)]; omega
  rw [e]
  by_cases hc:n.tmod m < 0
  · rw [bV (by simpa using hc),bV hc,zf5 (by omega) (by omega)]
  · rw [bU (by simpa using hc),bU hc]
def zdt0 (n:Int):aJ:=⟨(n % 8) % 4,1,1+(n % 8) / 4⟩
theorem zaZ1 (n:Int):zp1 n=some (zdt0 n):=by
  unfold zp1 zdt0
  rw [zck0 n 8 (by decide) (by decide),Option.bind_some]
  have h1:0≤n % 8:=iG _ (by decide)
  have h2:n % 8 < 8:=iH _ (by decide)
  rw [Int.tmod_eq_emod_of_nonneg h1,Int.tdiv_eq_ediv_of_nonneg h1,zf5 (x:=n % 8 / 4) (by omega) (by omega),zf5 (by omega) (by omega)]
def zdt1 (n:Int):Int:=zY9.getD (n % 8).toNat 0
def amtM (r:aI) (n:Int):aC:=if r.kind=1 then ⟨zdt1 n,0⟩ else ⟨0,1+n % r.aS⟩
theorem zck1 (n:Int):zq1 n=some (zdt1 n):=by
  unfold zq1
  have hl:(zY9.length:Int)=8:=rfl
  have h1:0≤n % 8:=iG _ (by decide)
  have h2:n % 8 < 8:=iH _ (by decide)
  rw [hl,zck0 n 8 (by decide) (by decide),Option.bind_some,gdp ⟨h1,h2⟩]
  rfl
theorem zbT0 (r:aI) (n:Int) (hr:zf7 r=true):zp8 r n=some (amtM r n):=by
  rw [zK3] at hr
  unfold zp8 amtM
  by_cases hk:r.kind=1
  · simp only [hk,cC,cB,zck1,Option.bind_some]; rfl
  · simp only [hk,cJ,bS,cA]
    rw [zck0 n r.aS (by omega) (by omega),Option.bind_some]
    have h1:0≤n % r.aS:=iG _ (by omega)
    have h2:n % r.aS < r.aS:=iH _ (by omega)
    rw [zf5 (by omega) (by omega)]; rfl
structure TapeOk (t:bJ):Prop where
  len:t.l.length≤1000000
  at_:0≤t.at_∧t.at_≤t.l.length
def zap8 (m:Int) (t:bJ):Int:=if (t.l.length:Int)≤t.at_ then 0 else (t.l.getD t.at_.toNat 0) % m
def zR0 (t:bJ):bJ:=if (t.l.length:Int)≤t.at_ then t else { t with at_:=t.at_+1 }
theorem zaZ2 (m:Int) (t:bJ) (ht:TapeOk t) (h1:1≤m) (h2:m≤1000000):zb8 m t=some (zap8 m t,zR0 t):=by
  unfold zb8 zap8 zR0
  have hl:=ht.len; have ha:=ht.at_
  by_cases h:(t.l.length:Int)≤t.at_
  · simp only [h,cC,cB]
  · simp only [h,cJ,bS,cA]
    have w1:IntKind.i64.wrap (t.at_+1)=t.at_+1:=zf5 (by omega) (by omega)
    have w2:IntKind.i64.wrap (t.at_+1 - 1)=t.at_:=by rw [zf5 (by omega) (by omega)]; omega
    simp only [w1,w2]
    rw [gdp (by omega),zck0 _ m h1 h2]
    rfl
theorem zaz0 {t:bJ} (h:TapeOk t):TapeOk (zR0 t):=by
  unfold zR0
  split
  · exact h
  · have:=h.at_; exact ⟨h.len,by simp only; omega⟩
theorem zcK5 (t:bJ):(zR0 t).l=t.l:=by unfold zR0; split <;> rfl
theorem zaG2 (m:Int) (t:bJ) (h1:1≤m):0≤zap8 m t∧zap8 m t < m:=by
  unfold zap8
  split
  · omega
  · exact ⟨iG _ (by omega),iH _ (by omega)⟩
def zaV7:Nat→bJ→bJ
  | 0,t=>t
  | n+1,t=>zaV7 n (zR0 t)
def catL (t:bJ):List aI :=
  [⟨⟨#[97]⟩,1,1,zap8 4 t⟩,⟨⟨#[98]⟩,1,1,zap8 4 (zR0 t)⟩,⟨⟨#[99]⟩,1,1,zap8 4 (zaV7 2 t)⟩,⟨⟨#[100]⟩,1,1,zap8 4 (zaV7 3 t)⟩,
   ⟨⟨#[112]⟩,2,1+zap8 8 (zaV7 4 t),zap8 4 (zaV7 5 t)⟩,⟨⟨#[113]⟩,2,1+zap8 3 (zaV7 6 t),zap8 4 (zaV7 7 t)⟩]
theorem zcC3 (t:bJ) (ht:TapeOk t):zl4 t=some (catL t,zaV7 8 t):=by
  unfold zl4
  have hlit:(zr2.length:Int)=4:=rfl
  have step:∀ (i:Nat) (u:bJ) (l:List aI),i < 4→TapeOk u→l.length≤10→zK8 ((i:Int),u,l)=some (.inl ((i:Int)+1,zR0 u,l++[⟨zr2.getD i (⟨#[]⟩),1,1,zap8 4 u⟩])):=by
    intro i u l hi hu hl
    unfold zK8
    have h1:(i:Int) < 4:=by omega
    have h0:0≤(i:Int):=by omega
    simp only [hlit,h1,h0,cV,zm1,cC,cB]
    rw [zaZ2 4 u hu (by decide) (by decide),Option.bind_some,gdp (by omega),zf5 (by omega) (by omega)]
    simp only [Int.toNat_natCast]
  have s0:=step 0 t [] (by decide) ht (by simp)
  have o1:=zaz0 ht
  have s1:=step 1 (zR0 t) [⟨zr2.getD 0 (⟨#[]⟩),1,1,zap8 4 t⟩] (by decide) o1 (by simp)
  have o2:=zaz0 o1
  have s2:=step 2 (zR0 (zR0 t)) ([⟨zr2.getD 0 (⟨#[]⟩),1,1,zap8 4 t⟩]++[⟨zr2.getD 1 (⟨#[]⟩),1,1,zap8 4 (zR0 t)⟩]) (by decide) o2 (by simp)
  have o3:=zaz0 o2
  have s3:=step 3 (zR0 (zR0 (zR0 t))) ([⟨zr2.getD 0 (⟨#[]⟩),1,1,zap8 4 t⟩]++[⟨zr2.getD 1 (⟨#[]⟩),1,1,zap8 4 (zR0 t)⟩]++[⟨zr2.getD 2 (⟨#[]⟩),1,1,zap8 4 (zR0 (zR0 t))⟩]) (by decide) o3 (by simp)
  have o4:=zaz0 o3
  have s4:∀ u l,zK8 ((4:Int),u,l)=some (.inr (u,l)):=fun u l=>by unfold zK8; simp [hlit]
  rw [zf6,show ((0:Int),t,([]:List aI))=(((0:Nat):Int),t,[]) from rfl,s0]
  simp only [List.nil_append]
  rw [zf6,show ((0:Nat):Int)+1=((1:Nat):Int) from rfl,s1]
  simp only
  rw [zf6,show ((1:Nat):Int)+1=((2:Nat):Int) from rfl,s2]
  simp only
  rw [zf6,show ((2:Nat):Int)+1=((3:Nat):Int) from rfl,s3]
  simp only
  rw [zf6,show ((3:Nat):Int)+1=(4:Int) from rfl,s4]
  simp only [Option.bind_some]
  unfold zaq2
  have o5:=zaz0 o4; have o6:=zaz0 o5; have o7:=zaz0 o6
  have w8:=zaG2 8 (zR0 (zR0 (zR0 (zR0 t)))) (by decide)
  have w3:=zaG2 3 (zR0 (zR0 (zR0 (zR0 (zR0 (zR0 t)))))) (by decide)
  simp only
  rw [zaZ2 8 _ o4 (by decide) (by decide),Option.bind_some]
  simp only
  rw [zaZ2 4 _ o5 (by decide) (by decide),Option.bind_some,gdp (by simp)]
  simp only
  rw [zaZ2 3 _ o6 (by decide) (by decide),Option.bind_some]
  simp only
  rw [zaZ2 4 _ o7 (by decide) (by decide),Option.bind_some,gdp (by simp)]
  simp only
  rw [zf5 (x:=1+zap8 8 _) (by omega) (by omega),zf5 (x:=1+zap8 3 _) (by omega) (by omega)]
  rfl
theorem zct1 (t:bJ):∀ r ∈ catL t,zf7 r=true:=by
  intro r hr
  have w8:=zaG2 8 (zaV7 4 t) (by decide)
  have w3:=zaG2 3 (zaV7 6 t) (by decide)
  unfold catL at hr
  simp only [cF,fS,jM] at hr
  rw [zK3]
  rcases hr with rfl|rfl|rfl|rfl|rfl|rfl
  · exact .inl ⟨rfl,rfl⟩
  · exact .inl ⟨rfl,rfl⟩
  · exact .inl ⟨rfl,rfl⟩
  · exact .inl ⟨rfl,rfl⟩
  · exact .inr ⟨rfl,by simp only; omega,by simp only; omega⟩
  · exact .inr ⟨rfl,by simp only; omega,by simp only; omega⟩
theorem zcR6 {l:List Int} (h:zao0 l=true):l.length≤300:=by unfold zao0 at h; simp at h; omega
def zdg0 (r:aI):aA:={ aA.zero with aB:=r }
theorem zcC4 {r:aI} (h:resV r=true):zf7 r=true:=by
 unfold resV at h; simp only [bT] at h; exact h.2.1
theorem zbT1 {q:aA} (h:zj0 q=true):zf7 q.aB=true:=zcC4 ((zv9 q).1 h).1.res
theorem zcd1 {α:Type} {l:List α} {i:Nat} {z:α} (h:i < l.length):l.take (i+1)=l.take i++[l.getD i z]:=by
 rw [eZ h,bW,bZ h]; rfl
theorem zah5 {q:aA} (h:zj0 q=true):q.aR.length≤8∧q.aL.length≤8∧q.aV.length≤8∧zaf7 q≤16:=((zv9 q).1 h).1.lens
theorem zct2 {q:aA} (h:zj0 q=true) {p:aJ} (hp:hasQ q p=true):(zH2 q p).2.2=0∧(zH2 q p).1=remN q p:=by
 have e:=zbs2 h hp
 have h0:(zH2 q p).2.2=0:=by rw [e]; rfl
 refine ⟨h0,?_⟩
 unfold remN; rw [bV h0]
theorem zcd2:∀ x:List UInt8,Op.bytesLess x x=false
 | []=>rfl
 | a :: x=>by simp [Op.bytesLess,zcd2 x]
theorem zct3:∀ {x y z:List UInt8},Op.bytesLess x y=true→Op.bytesLess y z=true→Op.bytesLess x z=true
 | x,[],z,h1,_=>by cases x <;> simp [Op.bytesLess] at h1
 | x,b :: y,[],_,h2=>by simp [Op.bytesLess] at h2
 | [],b :: y,c :: z,_,_=>by simp [Op.bytesLess]
 | a :: x,b :: y,c :: z,h1,h2=>by
  simp only [Op.bytesLess,dQ,bT,bY,dG] at h1 h2 ⊢
  rcases h1 with h1|⟨rfl,h1⟩
  ·rcases h2 with h2|⟨rfl,h2⟩
   ·exact .inl (UInt8.lt_trans h1 h2)
   ·exact .inl h1
  ·rcases h2 with h2|⟨rfl,h2⟩
   ·exact .inl h2
   ·exact .inr ⟨rfl,zct3 h1 h2⟩
def ltN (a b:ByteArray):Prop:=Op.bytesLess a.toList b.toList=true
instance (a b:ByteArray):Decidable (ltN a b):=by unfold ltN; infer_instance
theorem zcC5 {a b:ByteArray} (h:ltN a b):a≠b:=fun e=>by
 unfold ltN at h; rw [e,zcd2] at h; cases h
theorem zcd3 {a b c:ByteArray} (h:ltN a b) (k:ltN b c):ltN a c:=zct3 h k
def AscN (t:List aA):Prop:=t.Pairwise fun a b=>ltN a.aB.name b.aB.name
def ascW:List aA→Option ByteArray→Bool
 | [],_=>true
 | q :: t,pv=>zj0 q&&((match pv with|none=>true|some n=>decide (ltN n q.aB.name))&&ascW t (some q.aB.name))
theorem zct4:∀ (t:List aA) (pv:Option ByteArray),ascW t pv=true ↔ (∀ q ∈ t,zj0 q=true)∧AscN t∧∀ n,pv=some n→∀ q ∈ t,ltN n q.aB.name
 | [],pv=>by
  simp only [ascW,fS,iW,eR,kB,gD,true_iff]
  exact .nil
 | q :: t,pv=>by
  simp only [ascW,bT]
  rw [zct4 t (some q.aB.name)]
  constructor
  ·rintro ⟨h1,h2,h3,h4,h5⟩
   refine ⟨fun x hx=>?_,cU.2 ⟨fun x hx=>h5 _ rfl x hx,h4⟩,fun n hn x hx=>?_⟩
   ·rcases cF.1 hx with rfl|hx
    ·exact h1
    ·exact h3 x hx
   ·subst hn
    simp only [bY] at h2
    rcases cF.1 hx with rfl|hx
    ·exact h2
    ·exact zcd3 h2 (h5 _ rfl x hx)
  ·rintro ⟨h1,h2,h3⟩
   have h2':=cU.1 h2
   refine ⟨h1 q (.head _),?_,fun x hx=>h1 x (.tail _ hx),h2'.2,fun n hn x hx=>by cases hn; exact h2'.1 x hx⟩
   cases pv with
   | none=>rfl
   | some n=>exact cN (h3 n rfl q (.head _))
def zaz1 (t:List aA):Bool:=decide (t.length≤8)&&ascW t none
def zE0 (t:List aA):List aJ:=zaV4 (t.flatMap zaq3)
def zaH4 (t:List aA):Bool:=zaz1 t&&decide ((zE0 t).length≤8)
structure ValidT (t:List aA):Prop where
 len:t.length≤8
 each:∀ q ∈ t,zj0 q=true
 asc:AscN t
 aG:(zE0 t).length≤8
theorem zam6 (t:List aA):zaz1 t=true ↔ t.length≤8∧(∀ q ∈ t,zj0 q=true)∧AscN t:=by
 unfold zaz1
 rw [bT,bY,zct4]
 simp
theorem zah6 (t:List aA):zaH4 t=true ↔ ValidT t:=by
 unfold zaH4
 rw [bT,bY,zam6]
 exact ⟨fun ⟨⟨h1,h2,h3⟩,h4⟩=>⟨h1,h2,h3,h4⟩,fun ⟨h1,h2,h3,h4⟩=>⟨⟨h1,h2,h3⟩,h4⟩⟩
theorem zcd4 {α:Type} (prev t:List α) (z:α) (h:prev≠[]):(prev++t).getD (prev.length - 1) z=prev.getLast h:=by
 have hp:0 < prev.length:=gC.2 h
 rw [bW,dJ (by omega),bZ (by omega),List.getLast_eq_getElem]; rfl
theorem zcC6 (t0:List aA):∀ (t prev:List aA),t0=prev++t →
  walk (fun i q (_:Unit)=>some (if zj0 q=true∧(i=0∨ltN (t0.getD (i - 1) aA.zero).aB.name q.aB.name) then Sum.inl () else Sum.inr (Sum.inr (α:=Unit) false))) (fun _=>Sum.inl (β:=Bool) ()) t prev.length () =
   some (if ascW t (prev.getLast?.map (·.aB.name))=true then .inl () else .inr false):=by
 intro t
 induction t with
 | nil=>intro prev _; simp [walk,ascW]
 | cons q t ih =>
  intro prev ht
  simp only [walk]
  have hq:(prev.length=0∨ltN (t0.getD (prev.length - 1) aA.zero).aB.name q.aB.name) ↔ (match prev.getLast?.map (·.aB.name) with|none=>true|some n=>decide (ltN n q.aB.name))=true:=by
   by_cases hp:prev=[]
   ·subst hp; simp
   ·have h1:=zcd4 prev (q :: t) aA.zero hp
    rw [ht,h1,iX hp]
    have:prev.length≠0:=fun e=>hp (cR e)
    simp [this]
  by_cases e:zj0 q=true∧(prev.length=0∨ltN (t0.getD (prev.length - 1) aA.zero).aB.name q.aB.name)
  ·rw [bV e]
   have:=ih (prev++[q]) (by rw [ht]; simp)
   rw [show (prev++[q]).length=prev.length+1 by simp] at this
   simp only
   have h2:ascW (q :: t) (prev.getLast?.map (·.aB.name))=ascW t (some q.aB.name):=by simp only [ascW,e.1,hq.1 e.2,cH]
   rw [this,h2]
   simp
  ·rw [bU e]
   rw [hq] at e
   have hf:ascW (q :: t) (prev.getLast?.map (·.aB.name))=false:=by
    rw [dY]
    intro hh
    simp only [ascW,bT] at hh
    exact e ⟨hh.1,hh.2.1⟩
   rw [hf]; rfl
theorem zbT2 {body:Int→Option (Int⊕(Unit⊕Bool))} (t:List aA) (hl:t.length≤8)
  (hb:∀ i:Nat,i < t.length→body (i:Int)=some (if zj0 (t.getD i aA.zero)=true∧(i=0∨ltN (t.getD (i - 1) aA.zero).aB.name (t.getD i aA.zero).aB.name) then .inl ((i+1:Nat):Int) else .inr (.inr false)))
  (he:body (t.length:Int)=some (.inr (.inl ()))):zc0 body 0=some (if ascW t none=true then .inl () else .inr false):=by
 have key:=zal0 (body:=body) t aA.zero (fun i (_:Unit)=>(i:Int)) (fun i q _=>some (if zj0 q=true∧(i=0∨ltN (t.getD (i - 1) aA.zero).aB.name q.aB.name) then Sum.inl () else Sum.inr (Sum.inr (α:=Unit) false))) (fun _=>Sum.inl (β:=Bool) ())
  (fun i s hi=>by
   rw [hb i hi,Option.map_some]
   split <;> rfl) (fun s=>he) ()
 have:=zcC6 t t [] rfl
 rw [show (0:Int)=(fun (i:Nat) (_:Unit)=>(i:Int)) 0 () from rfl,key]
 exact this
theorem zbK3 (t:List aA) (h:∀ q ∈ t,zj0 q=true):(t.flatMap zaq3).length≤24 * t.length:=by
 induction t with
 | nil=>simp
 | cons q t ih =>
  have h1:=zah5 (h q (.head _))
  have h2:=zbC2 (q.aR.map (·.aN)++(ordQ q).map (·.aN))
  have h3:=ih fun x hx=>h x (.tail _ hx)
  have h4:(zaq3 q).length≤24:=by
   unfold zaq3
   unfold ordQ at *
   simp only [bX,dS] at h2
   omega
  rw [fE,bX,List.length_cons]; omega
theorem zbT3 {α β X:Type} (f:α→List β) (fin:List β→X):∀ (l:List α) (i:Nat) (s:List β),walk (fun _ a s=>some (.inl (s++f a))) fin l i s=some (fin (s++l.flatMap f))
 | [],i,s=>by simp [walk]
 | a :: l,i,s=>by
  simp only [walk,fE]
  rw [zbT3 f fin l (i+1),cE]
theorem zh6 {α:Type} {l:List α} {i:Nat} {z:α} (h:i < l.length):l.getD i z ∈ l:=by
 rw [bW,bZ h]; exact gS h
theorem zcd5 {q:aA} (h:zj0 q=true):(zaq3 q).length≤24:=by
 have:=zbK3 [q] fun x hx=>by rw [dP] at hx; rw [hx]; exact h
 simpa using this
theorem zbT4 {t:List aA} (hl:t.length≤8) (h:∀ q ∈ t,zj0 q=true):zI7 t=some (zE0 t):=by
 unfold zI7
 have key:=zB3 (body:=zO2 t) t aA.zero (fun i (s:List aJ)=>((i:Int),s)) (fun _ q s=>some (.inl (s++zaq3 q))) (fun s=>s) (fun i s=>s.length≤24 * i)
  (fun i s hi hs=>by
   have hq:=h _ (zh6 (z:=aA.zero) hi)
   have hql:=zah5 hq
   have hpl:=zcd5 hq
   refine ⟨?_,fun s' h=>?_⟩
   ·unfold zO2
    have h3:0≤(i:Int)∧(i:Int) < (t.length:Int):=by omega
    simp only [h3.1,h3.2,cV,zm1,cC,cB,Int.toNat_natCast]
    rw [zbS5 _ (by omega) (by omega) (by omega),Option.bind_some,zg6 (by omega),zc4 i (by omega)]
    rfl
   ·simp only [dC,eX] at h; subst h; rw [bX]; omega)
  (fun s hs=>by unfold zO2; simp) [] (by simp)
 rw [show ((0,[]):Int×List aJ)=(fun (i:Nat) (s:List aJ)=>((i:Int),s)) 0 [] from rfl,key,zbT3 zaq3,List.nil_append,Option.bind_some]
 unfold zaf2
 have:=zbK3 t h
 rw [zat7 _ (by omega)]; rfl
theorem zbl1 {α:Type} (l:List α) (z:α) (p:α→Bool) {body:Int→Option (Int⊕(Unit⊕Int))} (hb:∀ i:Nat,i < l.length→body (i:Int)=some (if p (l.getD i z)=true then .inr (.inr (i:Int)) else .inl ((i+1:Nat):Int)))
  (he:body (l.length:Int)=some (.inr (.inl ()))):zc0 body 0=some (match l.findIdx? p with|some i=>.inr (i:Int)|none=>.inl ()):=by
 have key:=zal0 (body:=body) l z (fun i (_:Unit)=>(i:Int)) (fun i a _=>some (if p a=true then .inr (Sum.inr (α:=Unit) (i:Int)) else .inl ())) (fun _=>Sum.inl (β:=Int) ())
  (fun i s hi=>by rw [hb i hi,Option.map_some]; split <;> rfl) (fun s=>he) ()
 have fold:∀ (l:List α) (i:Nat),walk (fun i a (_:Unit)=>some (if p a=true then .inr (Sum.inr (α:=Unit) (i:Int)) else .inl ())) (fun _=>Sum.inl (β:=Int) ()) l i ()=some (match l.findIdx? p with|some j=>.inr ((i+j:Nat):Int)|none=>.inl ()):=by
  intro l
  induction l with
  | nil=>intro i; rfl
  | cons a l ih =>
   intro i
   simp only [walk,List.findIdx?_cons]
   by_cases hp:p a=true
   ·simp [hp]
   ·simp only [hp,bS,cA]
    rw [ih (i+1)]
    cases l.findIdx? p with
    | none=>rfl
    | some j=>simp only [Option.map_some]; rw [show i+1+j=i+(j+1) by omega]
 have:=fold l 0
 simp only [dR] at this
 rw [show (0:Int)=(fun (i:Nat) (_:Unit)=>(i:Int)) 0 () from rfl,key]
 exact this
def isN (nm:ByteArray) (q:aA):Bool:=q.aB.name.toList == nm.toList
theorem zck2 {nm:ByteArray} {q:aA}:isN nm q=true ↔ q.aB.name=nm:=by
 unfold isN; rw [dG]; exact zau5
def zz1 (t:List aA) (nm:ByteArray):Int:=match t.findIdx? (isN nm) with
 | some i=>i
 | none=>-1
theorem zbY9 (t:List aA) (nm:ByteArray) (hl:t.length≤1000000):zk0 t nm=some (zz1 t nm):=by
 unfold zk0
 rw [zbl1 t aA.zero (isN nm) (fun i hi=>by
  unfold zah9 isN
  have h3:0≤(i:Int)∧(i:Int) < (t.length:Int):=by omega
  simp only [h3.1,h3.2,cV,zm1,cC,cB,Int.toNat_natCast,zc4 i (by omega)]
  split <;> rfl) (by unfold zah9; simp)]
 unfold zz1
 cases t.findIdx? (isN nm) <;> rfl
theorem zaM7 {t:List aA} {nm:ByteArray}:zz1 t nm=-1∨∃ i:Nat,zz1 t nm=i∧i < t.length∧(t.getD i aA.zero).aB.name=nm:=by
 unfold zz1
 cases h:t.findIdx? (isN nm) with
 | none=>exact .inl rfl
 | some i =>
  right
  obtain ⟨h1,h2,_⟩:=gL.1 h
  refine ⟨i,rfl,h1,?_⟩
  rw [bW,bZ h1]
  exact zck2.1 h2
theorem zbK4 {t:List aA} (h:AscN t) {i j:Nat} (hi:i < t.length) (hj:j < t.length) (e:(t.getD i aA.zero).aB.name=(t.getD j aA.zero).aB.name):i=j:=by
 have hp:=dV.1 h
 have g:∀ k,(hk:k < t.length)→t.getD k aA.zero=t[k]:=fun k hk=>by rw [bW,bZ hk]; rfl
 rw [g i hi,g j hj] at e
 rcases jI i j with h1|h1|h1
 ·exact absurd e (zcC5 (hp i j hi hj h1))
 ·exact h1
 ·exact absurd e.symm (zcC5 (hp j i hj hi h1))
theorem zbw7 {t:List aA} (h:AscN t) {i:Nat} (hi:i < t.length):zz1 t (t.getD i aA.zero).aB.name=i:=by
 rcases zaM7 (t:=t) (nm:=(t.getD i aA.zero).aB.name) with h1|⟨j,h1,h2,h3⟩
 ·unfold zz1 at h1
  cases hf:t.findIdx? (isN (t.getD i aA.zero).aB.name) with
  | some k=>rw [hf] at h1; simp only at h1; omega
  | none =>
   have:=iA.1 hf (t.getD i aA.zero) (zh6 hi)
   rw [dY] at this
   exact absurd (zck2.2 rfl) this
 ·rw [h1,zbK4 h h2 hi h3]
theorem zbC5 (x:aJ) (s:List aJ) (hs:s.Pairwise ltP) (hx:x ∉ s) (hl:s.length≤1000000):zc0 (zQ1) ((s.length:Int),s++[x])=some (zaG1 x s):=by
 obtain ⟨r,h1,h2⟩:=zq3 (body:=zQ1) (fun g=>∃ pre post:List aJ,g=((pre.length:Int),pre++x :: post)∧pre++post=s∧∀ y ∈ post,ltP x y) (fun g=>g.1.toNat) (fun r=>r=zaG1 x s) (by
  rintro g ⟨pre,post,rfl,hp,hpost⟩
  have hpl:pre.length+post.length=s.length:=by rw [← hp,bX]
  unfold zQ1
  simp only [bX,List.length_cons]
  by_cases h0:pre=[]
  ·right
   subst h0
   refine ⟨_,by rw [zg6 (by simp),zg6 (by simp),bU (by simp)],?_⟩
   simp only [List.nil_append] at hp ⊢
   subst hp
   refine zaB7 (cU.2 ⟨hpost,hs⟩) (zaB9 hs) fun y=>?_
   rw [zaB8,cF]
  ·obtain ⟨pre',y,rfl⟩:∃ p' y,pre=p'++[y]:=⟨pre.dropLast,pre.getLast h0,(List.dropLast_concat_getLast h0).symm⟩
   have hk:(pre'++[y]).length=pre'.length+1:=by simp
   rw [hk] at hpl ⊢
   have w:IntKind.i64.wrap (((pre'.length+1:Nat):Int) - 1)=(pre'.length:Int):=by rw [zf5 (by omega) (by omega)]; omega
   have e1:(pre'++[y]++x :: post).getD pre'.length aJ.zero=y:=by simp [bW]
   have e2:(pre'++[y]++x :: post).getD (pre'.length+1) aJ.zero=x:=by simp [bW]
   have g1:0≤(pre'.length:Int)∧(pre'.length:Int) < ((pre'.length+1+(post.length+1):Nat):Int):=by omega
   have g2:0≤((pre'.length+1:Nat):Int)∧((pre'.length+1:Nat):Int) < ((pre'.length+1+(post.length+1):Nat):Int):=by omega
   have hpos:decide (0 < ((pre'.length+1:Nat):Int))=true:=cN (by omega)
   simp only [w,Int.toNat_natCast,e1,e2,hpos,cH]
   rw [zg6 (fun _=>g1),zg6 (fun _=>g2)]
   have hlt:decide (0 < zu4 y x)=decide (ltP x y):=by rw [hX]; exact zbQ3 y x
   rw [hlt]
   by_cases hxy:ltP x y
   ·left
    rw [bV (cN hxy),zg6 g1,zg6 g2,zg6 g1,zg6 g2]
    refine ⟨((pre'.length:Int),pre'++x :: (y :: post)),?_,⟨pre',y :: post,rfl,by rw [← hp]; simp,fun z hz=>?_⟩,by simp only [Int.toNat_natCast]; omega⟩
    ·congr 3
     rw [cE,gK _ _ (dD _),gM,gK _ _ (by omega),show pre'.length+1 - pre'.length=1 by omega]
     rfl
    ·rcases cF.1 hz with rfl|hz
     ·exact hxy
     ·exact hpost z hz
   ·right
    refine ⟨_,by rw [bU (by simpa using hxy)],?_⟩
    have hyx:ltP y x:=by
     rcases zav2 (p:=x) (q:=y) (fun e=>hx (by rw [← hp,e]; simp)) with h|h
     ·exact absurd h hxy
     ·exact h
    rw [← hp] at hs
    obtain ⟨a1,a2,a3⟩:=fB.1 hs
    obtain ⟨b1,b2,b3⟩:=fB.1 a1
    have hpre:∀ z ∈ pre'++[y],ltP z x:=fun z hz=>by
     rcases cI.1 hz with hz|hz
     ·exact zav1 (b3 z hz y (by simp)) hyx
     ·rw [dP] at hz; rw [hz]; exact hyx
    rw [← hp]
    refine zaB7 (fB.2 ⟨a1,cU.2 ⟨hpost,a2⟩,fun z hz u hu=>?_⟩) (zaB9 hs) fun z=>?_
    ·rcases cF.1 hu with rfl|hu
     ·exact hpre z hz
     ·exact a3 z hz u hu
    ·rw [zaB8]
     simp only [cI,cF,dP]
     constructor
     ·rintro ((h|h)|h|h)
      ·exact .inr (.inl (.inl h))
      ·exact .inr (.inl (.inr h))
      ·exact .inl h
      ·exact .inr (.inr h)
     ·rintro (h|(h|h)|h)
      ·exact .inr (.inl h)
      ·exact .inl (.inl h)
      ·exact .inl (.inr h)
      ·exact .inr (.inr h)) ((s.length:Int),s++[x]) ⟨s,[],by simp,by simp,by simp⟩
 rw [h1,h2]
theorem zaM8 (l:List aJ) (hl:l.length≤1000000):zj6 l=some (zaV4 l):=by
 unfold zj6
 have key:=zB3 (body:=zB8 l) l aJ.zero (fun i (s:List aJ)=>((i:Int),s)) (fun _ p s=>some (.inl (zaG1 p s))) (fun s=>s) (fun i s=>s.Pairwise ltP∧s.length≤i)
  (fun i s hi hs=>by
   have hlen:∀ p,(zaG1 p s).length≤s.length+1:=fun p=>by
    have:=eD (zaV5 (zaB9 (p:=p) hs.1)) (l₂:=p :: s) fun z hz=>by
     rcases zaB8.1 hz with rfl|h
     ·exact .head _
     ·exact .tail _ h
    simpa using this
   refine ⟨?_,fun s' h=>?_⟩
   ·unfold zB8
    have h3:0≤(i:Int)∧(i:Int) < (l.length:Int):=by omega
    simp only [h3.1,h3.2,cV,zm1,cC,cB,Int.toNat_natCast]
    rw [zaV6 _ _ (by omega),Option.bind_some,zc4 i (by omega)]
    by_cases hm:l.getD i aJ.zero ∈ s
    ·rw [bV (cN hm),Option.map_some,zcB8 hs.1 hm]; rfl
    ·rw [bU (by rw [bY]; exact hm),zg6 (by omega),zbC5 _ _ hs.1 hm (by omega),Option.bind_some]
     unfold zal4
     simp only [zc4 i (show i < 4611686018427387904 by omega),Option.map_some,wmap]
   ·simp only [dC,eX] at h; subst h
    exact ⟨zaB9 hs.1,by have:=hlen (l.getD i aJ.zero); omega⟩)
  (fun s hs=>by unfold zB8; simp) [] ⟨.nil,by simp⟩
 rw [show ((0,[]):Int×List aJ)=(fun (i:Nat) (s:List aJ)=>((i:Int),s)) 0 [] from rfl,key,zbR7 (fun s p=>zaG1 p s)]
 rfl
theorem zaM9 {α β:Type} (l:List α) (z:α) (f:α→β) (s0:List β) {body:Int×List β→Option ((Int×List β)⊕List β)} (hl:l.length≤1000000) (h0:s0.length≤1000000)
  (hb:∀ (i:Nat) (s:List β),i < l.length→s.length≤3000000→body ((i:Int),s)=some (.inl (((i+1:Nat):Int),s++[f (l.getD i z)]))) (he:∀ s,body ((l.length:Int),s)=some (.inr s)):zc0 body (0,s0)=some (s0++l.map f):=by
 have key:=zB3 (body:=body) l z (fun i (s:List β)=>((i:Int),s)) (fun i a s=>some (.inl (zaE6 s (some (f a))))) (fun s=>s) (fun i s=>s.length≤1000000+i)
  (fun i s hi hs=>⟨by rw [hb i s hi (by omega)]; rfl,fun s' h=>by simp only [dC,eX] at h; subst h; simp [zaE6]; omega⟩) (fun s hs=>he s) s0 (by omega)
 rw [show ((0,s0):Int×List β)=(fun (i:Nat) (s:List β)=>((i:Int),s)) 0 s0 from rfl,key,zaJ4 (fun a=>some (f a))]
 simp
theorem zbC6 (l:List aU) (hl:l.length≤1000000):zh2 l=some (l.map (·.aN)):=by
 unfold zh2
 rw [zaM9 l aU.zero (·.aN) [] hl (by simp) (fun i s hi hs=>by
  unfold zag4
  have h3:0≤(i:Int)∧(i:Int) < (l.length:Int):=by omega
  have h1:s.length+1≤4294967296:=by omega
  simp only [h1,h3.1,h3.2,cV,zm1,cC,cB,Int.toNat_natCast,zc4 i (show i < 4611686018427387904 by omega)]) (fun s=>by unfold zag4; simp)]
 rfl
theorem zbT5 (q:aA) (h1:q.aL.length≤1000) (h2:q.aV.length≤1000):zk4 q=some ((ordQ q).map (·.aN)):=by
 unfold zk4
 rw [zaM9 q.aL aT.zero (·.aN) [] (by omega) (by simp) (fun i s hi hs=>by
  unfold zan7
  have h3:0≤(i:Int)∧(i:Int) < (q.aL.length:Int):=by omega
  have h1:s.length+1≤4294967296:=by omega
  simp only [h1,h3.1,h3.2,cV,zm1,cC,cB,Int.toNat_natCast,zc4 i (show i < 4611686018427387904 by omega)]) (fun s=>by unfold zan7; simp),Option.bind_some]
 unfold zan6
 rw [zaM9 q.aV aT.zero (·.aN) _ (by omega) (by simp; omega) (fun i s hi hs=>by
  unfold zan5
  have h3:0≤(i:Int)∧(i:Int) < (q.aV.length:Int):=by omega
  have h1:s.length+1≤4294967296:=by omega
  simp only [h1,h3.1,h3.2,cV,zm1,cC,cB,Int.toNat_natCast,zc4 i (show i < 4611686018427387904 by omega)]) (fun s=>by unfold zan5; simp),Option.bind_some]
 unfold zaA4 ordQ
 rw [fC,List.nil_append]
theorem zbT6 (q:aA) (h0:q.aR.length≤1000) (h1:q.aL.length≤1000) (h2:q.aV.length≤1000):zv1 q=some (zaq3 q):=by
 unfold zv1 zaq3
 have hl:(ordQ q).length≤2000:=by unfold ordQ; rw [bX]; omega
 rw [zbC6 _ (by omega),Option.bind_some,zbT5 q h1 h2,Option.bind_some,zg6 (by simp; omega),zaM8 _ (by simp; omega)]
 rfl
theorem zaN0 {t:List aA} (hl:t.length≤8) (h:∀ q ∈ t,zj0 q=true):zy3 t=some (zE0 t):=by
 unfold zy3
 have key:=zB3 (body:=zae9 t) t aA.zero (fun i (s:List aJ)=>((i:Int),s)) (fun _ q s=>some (.inl (s++zaq3 q))) (fun s=>s) (fun i s=>s.length≤24 * i)
  (fun i s hi hs=>by
   have hq:=h _ (zh6 (z:=aA.zero) hi)
   have hql:=zah5 hq
   have hpl:=zcd5 hq
   refine ⟨?_,fun s' h=>?_⟩
   ·unfold zae9
    have h3:0≤(i:Int)∧(i:Int) < (t.length:Int):=by omega
    simp only [h3.1,h3.2,cV,zm1,cC,cB,Int.toNat_natCast]
    rw [zbT6 _ (by omega) (by omega) (by omega),Option.bind_some,zg6 (by omega),zc4 i (by omega)]
    rfl
   ·simp only [dC,eX] at h; subst h; rw [bX]; omega)
  (fun s hs=>by unfold zae9; simp) [] (by simp)
 rw [show ((0,[]):Int×List aJ)=(fun (i:Nat) (s:List aJ)=>((i:Int),s)) 0 [] from rfl,key,zbT3 zaq3,List.nil_append,Option.bind_some]
 unfold zaB2
 have:=zbK3 t h
 rw [zaM8 _ (by omega)]; rfl
theorem zbT7 (t:List aA):zU6 t=some (zaz1 t):=by
 unfold zU6 zaz1
 by_cases h8:8 < t.length
 ·have:¬ t.length≤8:=by omega
  rw [bV (by simp; omega)]
  simp [this]
 ·have hl:t.length≤8:=by omega
  rw [bU (by simp; omega),zbT2 t hl (fun i hi=>by
   unfold zao9
   have h3:0≤(i:Int)∧(i:Int) < (t.length:Int):=by omega
   simp only [h3.1,h3.2,cV,eR,zm1,cC,cB,Int.toNat_natCast,zam5,Option.bind_some,zc4 i (by omega)]
   by_cases e0:i=0
   ·subst e0
    rw [zg6 (by simp)]
    cases zj0 (t.getD 0 aA.zero) <;> simp
   ·rw [zaA3 i (by omega) (by omega),zg6 (by intro _; omega)]
    simp only [Int.toNat_natCast,show (0:Int) < (i:Int) by omega,cC,cH,e0,iO]
    unfold ltN
    rcases hb (zj0 (t.getD i aA.zero)) with b1|b1 <;> rcases hb (Op.bytesLess (t.getD (i - 1) aA.zero).aB.name.toList (t.getD i aA.zero).aB.name.toList) with b2|b2 <;> simp [b1,b2,-List.getD_eq_getElem?_getD]) (by unfold zao9; simp)]
  simp only [hl,cC,cH]
  cases hw:ascW t none <;> rfl
theorem zam7 (t:List aA):zG4 t=some (zaH4 t):=by
 unfold zG4 zaH4
 rw [zbT7,Option.bind_some]
 cases hp:zaz1 t with
 | false=>rfl
 | true =>
  obtain ⟨h1,h2,_⟩:=(zam6 t).1 hp
  rw [bV rfl,zaN0 h1 h2,Option.bind_some,cH]
  congr 1
  rw [dN]; simp; omega
theorem zV1 (t:List aA) (nm:ByteArray) (hl:t.length≤1000000):zh9 t nm=some (zz1 t nm):=by
 unfold zh9
 rw [zbl1 t aA.zero (isN nm) (fun i hi=>by
  unfold zas1 isN
  have h3:0≤(i:Int)∧(i:Int) < (t.length:Int):=by omega
  simp only [h3.1,h3.2,cV,zm1,cC,cB,Int.toNat_natCast,zc4 i (by omega)]
  split <;> rfl) (by unfold zas1; simp)]
 unfold zz1
 cases t.findIdx? (isN nm) <;> rfl
theorem zcC7 (a b:List aA) (h:a.length=b.length) (hl:a.length≤1000000) (hs:∀ q ∈ a,q.aR.length≤1000∧q.aL.length≤1000∧q.aV.length≤1000) :
  zc0 (zZ0 a b) 0=some (if a=b then .inl () else .inr false):=by
 have key:zc0 (zZ0 a b) 0=some ((zS5 (fun i=>if decide (a.getD i aA.zero=b.getD i aA.zero)=true then none else some (Sum.inr false)) a.length 0).getD (Sum.inl ())):=by
  refine zJ0 a.length _ (Sum.inl ()) (fun i hi=>?_) ?_
  ·have hq:=hs _ (zh6 (z:=aA.zero) hi)
   unfold zZ0
   rw [bV (by simpa using hi),zg6 (by omega),zg6 (by omega),zf5 (by omega) (by omega)]
   simp only [Int.toNat_natCast]
   rw [zbY6 _ _ (by omega) (by omega) (by omega),Option.bind_some]
   by_cases hx:a.getD i aA.zero=b.getD i aA.zero
   ·simp only [hx,cC,cK,bS,cA,cB]
   ·simp only [hx,cJ,dE,cB,bS,cA]
  ·unfold zZ0
   rw [bU (by simp)]
 rw [key,zS6,← eM,zcZ6 a b aA.zero h]
 by_cases e:a=b <;> simp [e]
theorem zbZ0 (a b:List aA) (hl:a.length≤1000000) (hs:∀ q ∈ a,q.aR.length≤1000∧q.aL.length≤1000∧q.aV.length≤1000):zr5 a b=some (decide (a=b)):=by
 unfold zr5
 by_cases h:a.length=b.length
 ·rw [bU (by simp [h]),zcC7 a b h hl hs]
  by_cases e:a=b <;> simp [e,zaG7]
 ·have:¬ a=b:=fun e=>h (by rw [e])
  rw [bV (by simp; omega),gB this]
end Ab
end Go.Proofs.YtogpinppgncpmaaGreatDoor
