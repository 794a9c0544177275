import Derived.Test.YtogpinppgncpmaaGreatDoorDoG
import Derived.Test.YtogpinppgncpmaaGreatDoorTabB
import Derived.Test.YtogpinppgncpmaaGreatDoorTabD
import Derived.Test.YtogpinppgncpmaaGreatDoorStr
namespace Go.Proofs.YtogpinppgncpmaaGreatDoor
namespace Ab
set_option linter.unusedVariables false
set_option linter.unusedSimpArgs false
theorem zdh6 (p:aJ) (cost:Int) {w:aW} (hl:w.c.aG.length≤8):∃ r,zh0 p cost w=some r:=by
 unfold zh0
 split
 ·exact ⟨_,rfl⟩
 obtain ⟨v,h1,_⟩:=zaN8 w.c.aG p (by omega)
 rw [h1,Option.bind_some]
 split
 ·exact ⟨_,rfl⟩
 split
 ·exact ⟨_,rfl⟩
 rw [gdp (by omega)]
 obtain ⟨x,h2,_⟩:=zq3 (body:=zT6) (fun g=>0≤g.1∧g.1 < (g.2.length:Int)∧g.2.length≤100) (fun g=>g.1.toNat) (fun _=>True) (fun g ⟨h0,h1,h2⟩=>by
  obtain ⟨i,l⟩:=g
  simp only at h0 h1 h2
  unfold zT6
  by_cases c:0 < i
  ·have e:IntKind.i64.wrap (i - 1)=i - 1:=zf5 (by omega) (by omega)
   simp only [c,cC,e,cH]
   rw [gdp (by intro; omega),gdp (by intro; omega)]
   split
   ·left
    rw [gdp ⟨h0,h1⟩,gdp (by omega),gdp ⟨h0,h1⟩,gdp (by omega)]
    exact ⟨_,rfl,⟨by simp only; omega,by simp only [dI]; omega,by simp only [dI]; exact h2⟩,by simp only; omega⟩
   ·exact .inr ⟨_,rfl,trivial⟩
  ·simp only [c,cJ,eK,bS,cA]
   rw [gdp (by intro h; cases h),gdp (by intro h; cases h)]
   exact .inr ⟨_,rfl,trivial⟩) (IntKind.i64.wrap (((w.c.aG.length+1:Nat):Int) - 1),w.c.aG++[{ aH.zero with aN:=p,cost:=cost }])
  ⟨by simp only; rw [zf5 (by omega) (by omega)]; omega,by simp only [bX,List.length_singleton]; rw [zf5 (by omega) (by omega)]; omega,by simp only [bX,List.length_singleton]; omega⟩
 rw [h2,Option.bind_some]
 exact ⟨_,rfl⟩
theorem Good.other {w:aW} (g:Good w) {i j:Nat} (hi:i < w.c.aG.length) (hj:j < w.c.aG.length) (h:i≠j):(w.c.aG.getD j aH.zero).aN≠(w.c.aG.getD i aH.zero).aN:=by
 intro e
 have hn:=dV.1 g.nd
 have gg:∀ k,(hk:k < w.c.aG.length)→(w.c.aG.map (·.aN))[k]'(by simpa using hk)=(w.c.aG.getD k aH.zero).aN:=fun k hk=>by
  rw [jP,bW,bZ hk]; rfl
 rcases jW i j with c|c
 ·exact hn i j (by simpa using hi) (by simpa using hj) c (by rw [gg i hi,gg j hj,e])
 ·exact hn j i (by simpa using hj) (by simpa using hi) (by omega) (by rw [gg i hi,gg j hj,e])
theorem zdh7 {t:List aA} (h:ValidT t) (p:aJ):Kept p t (remT t p).1:=by
 have hv:=zcE4 h p
 rw [zck9 h] at hv ⊢
 have gm:∀ i,i < t.length→(t.map (remN · p)).getD i aA.zero=remN (t.getD i aA.zero) p:=fun i hi=>by
  rw [bW,cO,bW,bZ hi]; rfl
 refine ⟨hv,by simp,fun i hi=>?_,fun i hi x hx=>?_⟩
 ·show ((t.map (remN · p)).getD i aA.zero).aB=_
  rw [gm i hi]; exact zbV1 (h.each _ (zh6 hi)) p
 ·show covA _ (getH ((t.map (remN · p)).getD i aA.zero).aR x) _=true
  rw [gm i hi]; exact (zbG3 (h.each _ (zh6 hi)) hx).1
theorem zcv6 {i:Nat} {w:aW} (g:Good w) (hi:i < w.c.aG.length) (hb:bud w≤400000):∃ r,zF0 (i:Int) w=some r:=by
 unfold zF0
 have hev:w.ev.length≤400000:=by unfold bud at hb; omega
 have hl:=g.len
 have hre:=zdq7 g.v (w.c.aG.getD i aH.zero).aN
 rw [gdp (by omega),zbI7,Option.bind_some]
 simp only [Int.toNat_natCast]
 rw [zba1 _ _ _ (by omega),Option.bind_some]
 have e1:IntKind.i64.wrap ((i:Int)+1)=((i+1:Nat):Int):=zc4 i (by omega)
 simp only [e1,Int.toNat_natCast]
 rw [gdp ⟨by omega,by omega,by omega,trivial⟩,gdp (by omega),gdp (by simp only [dB,eC]; omega)]
 rw [zba2 _ _ (by show (w.ev++_).length≤_; rw [bX]; omega),Option.bind_some]
 have hsub:(w.c.aG.take i++(w.c.aG.drop (i+1)).take (w.c.aG.length - (i+1))).Sublist w.c.aG:=by
  have e:w.c.aG=w.c.aG.take i++w.c.aG.drop i:=(eN _ _).symm
  conv=>rhs; rw [e]
  refine (List.Sublist.refl _).append ((List.take_sublist _ _).trans ?_)
  rw [show w.c.aG.drop (i+1)=(w.c.aG.drop i).drop 1 by rw [eT]]
  exact List.drop_sublist _ _
 have k:=zdh7 g.v (w.c.aG.getD i aH.zero).aN
 have hmem:∀ y ∈ w.c.aG.take i++(w.c.aG.drop (i+1)).take (w.c.aG.length - (i+1)),∃ j,j < w.c.aG.length∧i≠j∧w.c.aG.getD j aH.zero=y:=fun y hy=>by
  rcases cI.1 hy with hy|hy
  ·obtain ⟨j,hj,e⟩:=zR2 (z:=aH.zero) hy
   rw [dB] at hj
   refine ⟨j,by omega,by omega,?_⟩
   rw [← e,zcc4 _ _ _ _ (by omega)]
  ·obtain ⟨j,hj,e⟩:=zR2 (z:=aH.zero) (hI hy)
   rw [eC] at hj
   refine ⟨i+1+j,by omega,by omega,?_⟩
   rw [← e,bW,bW,dO]
 have g':Good ⟨⟨w.c.now,(remT w.c.aF (w.c.aG.getD i aH.zero).aN).1,w.c.aG.take i++(w.c.aG.drop (i+1)).take (w.c.aG.length - (i+1))⟩,(w.ev++(remT w.c.aF (w.c.aG.getD i aH.zero).aN).2)++[{ bI.zero with kind:=5,aN:=(w.c.aG.getD i aH.zero).aN }]⟩:=by
  refine ⟨k.v,eA hsub.length_le hl,g.nd.sublist (hsub.map _),fun y hy hw=>?_⟩
  obtain ⟨j,hj,hij,rfl⟩:=hmem y hy
  exact (g.ok _ (zh6 hj) hw).kept k (g.other hi hj hij)
 have hc:cntW (w.c.aG.take i++(w.c.aG.drop (i+1)).take (w.c.aG.length - (i+1)))≤cntW w.c.aG:=hsub.countP_le
 obtain ⟨w',h1,_⟩:=zba3 g' (by unfold bud at hb ⊢; simp only [bX,List.length_singleton]; omega)
 exact ⟨w',by show (zk6 _).bind _=_; rw [h1]; rfl⟩
theorem zcT2 {q:aA} {p:aJ} {a:aC} {pr:Int} (e0:(zX7 q p a pr).2.2=0) (x:aJ):covA q.aB (getH (zX7 q p a pr).1.aR x) (getH q.aR x)=true:=by
 obtain ⟨hs,_,_,_,_,h⟩:=zbk9 e0
 rcases h with ⟨_,e⟩|⟨_,_,e,h2⟩|⟨_,_,_,e,h2⟩
 ·rw [e]; exact zap5 (zav5 hs.hv x)
 ·rw [e,zK7]; exact zaM6 h2 x
 ·rw [e,zK7]; exact zaM6 h2 x
theorem zdh8 {t:List aA} {nm:ByteArray} {f:aA→ResT} (hf:∀ q,(f q).2.2≠0→(f q).1=[]∧(f q).2.1=[]) (h:(atT t nm f).2.2≠0):(atT t nm f).1=[]∧(atT t nm f).2.1=[]:=by
 unfold atT at h ⊢
 split
 ·exact ⟨rfl,rfl⟩
 ·rename_i c1
  rw [bU c1] at h
  split
  ·exact ⟨rfl,rfl⟩
  ·rename_i c2
   rw [bU c2] at h
   exact hf _ h
theorem zcL4 {t:List aA} {nm:ByteArray} {x:aA×List aU×Int} {ev:List bI} (h:(putT t nm x ev).2.2≠0):(putT t nm x ev).1=[]∧(putT t nm x ev).2.1=[]:=by
 unfold putT at h ⊢
 split
 ·rename_i c; rw [bV c] at h; exact absurd rfl h
 ·exact ⟨rfl,rfl⟩
theorem zcT3 {t:List aA} (h:ValidT t) (p:aJ) (a:aM) (pr:Int):(zaC5 t p a pr).2.1.length≤20∧((zaC5 t p a pr).1=[]∨∀ p',Kept p' t (zaC5 t p a pr).1):=by
 by_cases e:(zaC5 t p a pr).2.2=0
 ·obtain ⟨i,hi,h1,h2,h3,h4,h5,h6⟩:=zcS5 e
  have hq:=h.each _ (zh6 (z:=aA.zero) hi)
  have hs:=zah8 hq (.claim p a.aK pr h3)
  refine ⟨?_,.inr fun p'=>by rw [h4] at h6 ⊢; exact zbx6 h hi h6 hs.2 fun x _=>zcT2 h3 x⟩
  unfold zaC5 at e ⊢
  obtain ⟨_,i',_,_,_,e2⟩:=zcu8 e
  rw [e2] at e ⊢
  cases hfu:zbc6 t p with
  | true=>rw [hfu,bV rfl] at e; exact absurd e (by decide)
  | false =>
   rw [hfu,bU (by decide)] at e
   rw [bU (by decide),(zbV2 e).2]
   have:=(zbw6 (t.getD i' aA.zero) p a.aK pr).2.2.2
   show ([]++zak4 _ _).length≤20
   rw [List.nil_append,zav7]; omega
 ·have:=zdh8 (t:=t) (nm:=a.name) (f:=fun q=>if zbc6 t p=true then errT 4 else putT t a.name (zX7 q p a.aK pr) []) (fun q hq=>by
   cases hfu:zbc6 t p with
   | true=>exact ⟨rfl,rfl⟩
   | false=>rw [hfu,bU (by decide)] at hq; rw [bU (by decide)]; exact zcL4 hq) e
  exact ⟨by rw [show (zaC5 t p a pr).2.1=[] from this.2]; simp,.inl this.1⟩
theorem zcT4 {t:List aA} (h:ValidT t) (p:aJ) (a:aM):(zac1 t p a).2.1.length≤20∧((zac1 t p a).1=[]∨Kept p t (zac1 t p a).1):=by
 by_cases e:(zac1 t p a).2.2=0
 ·obtain ⟨e0,hev⟩:(∃ i:Nat,i < t.length∧(zC1 (t.getD i aA.zero) p a.aK).2.2=0∧(zac1 t p a).1=t.set i (zC1 (t.getD i aA.zero) p a.aK).1)∧(zac1 t p a).2.1.length≤20:=by
   unfold zac1 at e ⊢
   obtain ⟨_,i,h1,h2,h3,e2⟩:=zcu8 e
   rw [e2] at e ⊢
   obtain ⟨e3,e4⟩:=zbV2 e
   rw [e4,h1,zaW1]
   refine ⟨⟨i,h2,e3,rfl⟩,?_⟩
   have:=(zaZ0 (t.getD i aA.zero) p a.aK).2.2.2
   show ((if getH (t.getD i aA.zero).aR p=a.aK then ([]:List bI) else [zbU8 p a.name a.aK])++zak4 _ _).length≤20
   rw [bX,zav7]
   have:(if getH (t.getD i aA.zero).aR p=a.aK then ([]:List bI) else [zbU8 p a.name a.aK]).length≤1:=by split <;> simp
   omega
  obtain ⟨i,hi,h3,h4⟩:=e0
  obtain ⟨_,_,_,_,hv⟩:=zce4 e
  have hq:=h.each _ (zh6 (z:=aA.zero) hi)
  have hs:=zah8 hq (.lower p a.aK h3)
  obtain ⟨_,_,hz,hw,hc,_⟩:=zaJ6 h3
  have he:=zce6 hq hz hw hc
  exact ⟨hev,.inr (by rw [h4] at hv ⊢; exact zbx6 h hi hv hs.2 he.2.1)⟩
 ·have:=zdh8 (t:=t) (nm:=a.name) (f:=fun q=>putT t a.name (zC1 q p a.aK) (if getH q.aR p=a.aK then [] else [zbU8 p a.name a.aK])) (fun q hq=>zcL4 hq) e
  exact ⟨by rw [show (zac1 t p a).2.1=[] from this.2]; simp,.inl this.1⟩
theorem zbV7 (a:aC):zp6 a=true ↔ (1≤a.mode∧a.mode≤5∧a.aS=0)∨(a.mode=0∧1≤a.aS∧a.aS≤8):=by
 unfold zp6 zw0
 simp only [dQ,bT,bY]
 omega
theorem zcT5 {r:aI} {F a b:aC} (hg:zO9 a b=true) (hc:covA r F b=true):covA r F a=true:=by
 have hs:zf7 r=true:=by
  rcases (perm_iff r b).1 ((zab3 _ _ _).1 hc).2.1 with h|h
  ·exact h.1
  ·exact zbF9 h
 unfold zO9 at hg
 by_cases h1:zp6 b=true∧a≠b
 ·rw [bU (by simp [h1.1,h1.2])] at hg
  by_cases h2:a=aC.zero
  ·rw [h2]; exact zbC1 ((zab3 _ _ _).1 hc).1 hs
  ·have h2':¬ a=({ aC.zero with }:aC):=h2
   rw [bU (by simpa using h2')] at hg
   by_cases h3:zp6 a=true
   ·rw [bU (by simp [h3])] at hg
    have hb0:b≠aC.zero:=fun e=>by rw [e] at h1; exact absurd h1.1 (by decide)
    have hbf:zb1 r b=true:=by
     rcases (perm_iff r b).1 ((zab3 _ _ _).1 hc).2.1 with h|h
     ·exact absurd h.2 hb0
     ·exact h
    have ub:=(zbV7 b).1 h1.1
    have ua:=(zbV7 a).1 h3
    have hba:covA r b a=true:=by
     rw [zab3]
     rw [zK4] at hbf
     by_cases hm:a.mode=0
     ·rw [bU (by simp [hm])] at hg
      have hg:=gN hg
      have fa:zb1 r a=true:=(zK4 r a).2 (by omega)
      exact ⟨zB4 ((zK4 r b).2 hbf),zB4 fa,.inr ⟨hb0,h2,.inr ⟨by omega,by omega⟩⟩⟩
     ·rw [bV (by simp [hm])] at hg
      have hc2:=(zaV1 b.mode a.mode).1 hg
      have fa:zb1 r a=true:=(zK4 r a).2 (by omega)
      exact ⟨zB4 ((zK4 r b).2 hbf),zB4 fa,.inr ⟨hb0,h2,.inl ⟨by omega,hg⟩⟩⟩
    exact zaY8 hc hba
   ·rw [bV (by simp [h3])] at hg; cases hg
 ·rw [bV (by
   by_cases hu:zp6 b=true
   ·have:a=b:=Decidable.byContradiction fun h=>h1 ⟨hu,h⟩
    simp [this]
   ·simp [hu])] at hg
  cases hg
theorem zce8 {l:aX} (h:LedgerP l) {r:aI} {n:ByteArray} (hf:zb1 r (zv3 l.aP n)=true):∀ d k,k+d=l.aP.length→covA r (zv3 l.aP n) (zv3 (l.aP.take k) n)=true
 | 0,k,e=>by
  rw [show k=l.aP.length by omega,eH]
  exact zap5 (zB4 hf)
 | d+1,k,e=>by
  have ih:=zce8 h hf d (k+1) (by omega)
  have hk:k < l.aP.length:=by omega
  rw [zA7 bK.zero hk,zbs8] at ih
  have hg:=h.grow k hk
  by_cases c:(l.aP.getD k bK.zero).name=n
  ·rw [bV c] at ih
   rw [c] at hg
   rw [← hg.1]
   exact zcT5 hg.2 ih
  ·rw [bU c] at ih; exact ih
theorem zcF4 {l:aX} (h:LedgerP l) {e:bK} (he:e ∈ l.aP):zv3 l.aP e.name≠aC.zero:=by
 have key:∀ d k,k+d=l.aP.length→(∃ x ∈ l.aP.take k,x.name=e.name)→zv3 (l.aP.take k) e.name≠aC.zero:=by
  have up:∀ k,k≤l.aP.length→(∃ x ∈ l.aP.take k,x.name=e.name)→zv3 (l.aP.take k) e.name≠aC.zero:=by
   intro k
   induction k with
   | zero=>intro _ ⟨x,hx,_⟩; cases hx
   | succ k ih =>
    intro hk ⟨x,hx,hn⟩
    rw [zA7 bK.zero (by omega),zbs8]
    by_cases c:(l.aP.getD k bK.zero).name=e.name
    ·rw [bV c]
     have hg:=(h.grow k (by omega)).2
     intro hz
     rw [hz] at hg
     unfold zO9 at hg
     rw [bV (by simp [show zp6 aC.zero=false by decide])] at hg
     cases hg
    ·rw [bU c]
     refine ih (by omega) ?_
     rw [zA7 bK.zero (by omega)] at hx
     rcases cI.1 hx with hx|hx
     ·exact ⟨x,hx,hn⟩
     ·rw [dP] at hx; subst hx; exact absurd hn c
  exact fun d k e=>up k (by omega)
 have:=key 0 l.aP.length (by omega) ⟨e,by rw [eH]; exact he,rfl⟩
 rwa [eH] at this
theorem zdh9 {t:List aA} (ht:ValidT t) {x:aH} (hx:ProcC t x) {L:List aM} (hL:∀ a ∈ L,∃ q ∈ t,q.aB.name=a.name∧zb1 q.aB a.aK=true) {q:aA} (hq:q ∈ t) (hp:zcv0 q x L) :
  covA q.aB (getH q.aR x.aN) (zv3 x.bH.aP q.aB.name)=true:=by
 have hv:=((zv9 _).1 (ht.each _ hq)).1.hv
 have hpm:=zav5 hv x.aN
 have same:getH q.aR x.aN=zv3 x.bH.aP q.aB.name→covA q.aB (getH q.aR x.aN) (zv3 x.bH.aP q.aB.name)=true:=fun e=>by rw [← e]; exact zap5 hpm
 rcases hp with ⟨a,ha,hn,hc,h⟩|⟨h,_⟩
 ·rcases h with ⟨_,h⟩|h
  ·by_cases z:zv3 x.bH.aP q.aB.name=aC.zero
   ·rw [z]; exact zbC1 hpm (zbT1 (ht.each _ hq))
   ·obtain ⟨q1,m1,n1,f1⟩:=hx.held _ z
    have e1:=ht.inj m1 hq n1
    subst e1
    obtain ⟨q2,m2,n2,f2⟩:=hL a ha
    have e2:=ht.inj m2 hq (n2.trans hn)
    subst e2
    rw [h]
    exact (zbS1 f1 f2 hc).2.1
  ·exact same h
 ·exact same h
theorem zbV8 {t:List aA} {n:ByteArray} (h:∃ q ∈ t,q.aB.name=n):∃ i,i < t.length∧(t.getD i aA.zero).aB.name=n:=by
 obtain ⟨q,hq,e⟩:=h
 obtain ⟨i,hi,rfl⟩:=zR2 (z:=aA.zero) hq
 exact ⟨i,hi,e⟩
theorem CenP.good {c:aZ} (h:CenP c) (ev:List bI):Good ⟨c,ev⟩:=by
 refine ⟨h.t,h.len,?_,fun y hy hw=>?_⟩
 ·have:=h.asc
  rw [List.Nodup,List.pairwise_map]
  exact this.imp fun hlt e=>by rw [e] at hlt; exact zab9 _ hlt
 ·have hp:=h.each y hy
  obtain ⟨h1,h2⟩:=hp.wait hw
  refine ⟨h1,by have:=hp.led.le; omega,fun L b hL a ha=>?_,fun i hi=>?_⟩
  ·obtain ⟨q,hq,e,_⟩:=(h2 L b hL).1 a ha
   exact zbV8 ⟨q,hq,e⟩
  ·obtain ⟨v,h3,h4⟩:=zaz4 y.bF.bO
   obtain ⟨h5,h6⟩:=h2 v.1 v.2 h3
   exact zdh9 h.t hp h5 (zh6 hi) (h6 _ (zh6 hi))
def zcF5 (p:aJ):aJ:={ p with site:=p.site+1 }
theorem zdi0 (p:aJ):p≠zcF5 p:=fun e=>by have:=cP aJ.site e; unfold zcF5 at this; simp only at this; omega
theorem zcv7 {w:aW} {i:Nat} (hi:i < w.c.aG.length) (r:bL) {L:List aM} (hL:L.length≤8) (g:Good w) (hb:bud w≤400000) :
  ∃ w',zc0 (zE1 (i:Int) r L) (0,w)=some w'∧w'.c.aG=w.c.aG∧w'.ev.length≤w.ev.length+160∧(Good w'∨w'.c.aF=[]):=by
 have hev:w.ev.length≤400000:=by unfold bud at hb; omega
 obtain ⟨x,h1,h2⟩:=zq3 (body:=zE1 (i:Int) r L) (fun z=>(∃ k:Nat,z.1=k∧k≤L.length∧z.2.ev.length≤w.ev.length+20 * k)∧z.2.c.aG=w.c.aG∧(Good z.2∨z.2.c.aF=[])) (fun z=>L.length - z.1.toNat)
  (fun x=>x.c.aG=w.c.aG∧x.ev.length≤w.ev.length+160∧(Good x∨x.c.aF=[]))
  (fun z ⟨⟨k,hk,hkl,he⟩,hp,hg⟩=>by
   obtain ⟨z1,w1⟩:=z
   simp only at hk he hp hg
   subst hk
   unfold zE1
   by_cases c:k < L.length
   ·left
    have h3:0≤(k:Int)∧(k:Int) < (L.length:Int):=by omega
    simp only [h3.1,h3.2,cV,zm1,cC,cB,Int.toNat_natCast,zc4 k (show k < 4611686018427387904 by omega)]
    rw [gdp (by rw [hp]; omega),zbV0,Option.bind_some]
    rcases hg with hg|hg
    ·obtain ⟨c1,c2⟩:=zcT3 hg.v (w1.c.aG.getD i aH.zero).aN (L.getD k aM.zero) r.bG
     rw [zba1 _ _ _ (by omega),Option.bind_some]
     refine ⟨_,rfl,⟨⟨k+1,rfl,c,by simp only [bX]; omega⟩,hp,?_⟩,by simp only [Int.toNat_natCast]; omega⟩
     rcases c2 with c2|c2
     ·exact .inr c2
     ·exact .inl ⟨(c2 aJ.zero).v,hg.len,hg.nd,fun y hy hw=>(hg.ok y hy hw).kept (c2 (zcF5 y.aN)) (zdi0 _)⟩
    ·have hcl:zaC5 w1.c.aF (w1.c.aG.getD i aH.zero).aN (L.getD k aM.zero) r.bG=errT 10:=by
      rw [hg]; rfl
     rw [hcl,zba1 _ _ _ (by simp [errT]; omega),Option.bind_some]
     exact ⟨_,rfl,⟨⟨k+1,rfl,c,by simp only [errT,dT]; omega⟩,hp,.inr rfl⟩,by simp only [Int.toNat_natCast]; omega⟩
   ·right
    simp only [show ¬ (k:Int) < (L.length:Int) by omega,cJ,bS,cA]
    exact ⟨_,rfl,hp,by omega,hg⟩) (0,w) ⟨⟨0,rfl,by omega,by simp⟩,rfl,.inl g⟩
 exact ⟨x,h1,h2⟩
theorem zbt1 {w:aW} (h:Good w∧bud w≤500000∨w.c.aF=[]∧w.c.aG.length≤8∧∀ y ∈ w.c.aG,y.bE=true→vE y.bF.bO=true):∃ w',zk6 w=some w':=by
 rcases h with ⟨h,hb⟩|⟨h1,h2,h3⟩
 ·obtain ⟨w',h1,_⟩:=zba3 h hb; exact ⟨w',h1⟩
 ·exact ⟨w,zcv5 h1 h2 h3⟩
theorem zbD3 {w:aW} (hl:w.c.aG.length≤8):bud w≤w.ev.length+16000:=by
 have:=zdz8 w.c.aG; unfold bud; omega
theorem zcv8 {i:Nat} {c:aZ} (h:CenP c) (hi:i < c.aG.length) (r:bL):∃ x,zy9 (i:Int) r ⟨c,[]⟩=some x:=by
 have g:=h.good []
 have hp:=h.each _ (zh6 (z:=aH.zero) hi)
 unfold zy9
 show ∃ x,gd (0≤(i:Int)∧(i:Int) < ((c.aG.length:Nat):Int)) (if (c.aG.getD (i:Int).toNat aH.zero).bE=true then _ else _)=some x
 rw [gdp (by omega)]
 simp only [Int.toNat_natCast]
 cases hw:(c.aG.getD i aH.zero).bE with
 | true=>rw [bV rfl]; exact ⟨_,rfl⟩
 | false =>
 rw [bU (by decide)]
 have v7:∃ b,zI4 r=some b∧(b=true→vE r.bO=true):=by
  unfold zI4
  rw [zX8,Option.bind_some]
  refine ⟨_,rfl,fun h=>?_⟩
  simp only [bT] at h; exact h.1.1.1.1
 obtain ⟨b7,v1,v2⟩:=v7
 rw [v1,Option.bind_some]
 cases b7 with
 | false=>exact ⟨_,rfl⟩
 | true =>
 have hvE:=v2 rfl
 obtain ⟨hl,hs⟩:=h.t.lens'
 obtain ⟨v9,r1,r2⟩:=zaW3 (c.aF.map (·.aB)) r.bO (by simpa using hl)
 simp only [cK,bS,cA,zaW2 _ hl,Option.bind_some,r1]
 by_cases c9:v9=0
 ·simp only [c9,cC,cK,bS,cA]
  have h3:0≤(i:Int)∧(i:Int) < ((c.aG.length:Nat):Int):=by omega
  rw [gdp h3,gdp h3,gdp h3]
  simp only [fW,zt9 _ _ _ _ hi]
  have hn:=fun (y:aH)=>zap6 (i:=i) (w:=⟨⟨c.now,c.aF,c.aG.set i y⟩,[]⟩) (by show i < (c.aG.set i y).length; rw [dI]; exact hi)
  obtain ⟨L,a1,a2,a3⟩:=zam9 r.bO
  rw [hn,Option.bind_some,a1,Option.bind_some]
  simp only [zt9 _ _ _ _ hi,fW]
  have g1:Good ⟨⟨c.now,c.aF,c.aG.set i { { { { c.aG.getD i aH.zero with bE:=true } with bF:=r } with since:=c.now } with gen:=zm8 (c.aG.getD i aH.zero).gen }⟩,[]⟩ :=
   g.upd (w:=⟨c,[]⟩) hi (zaJ7 h.t) (y:={ { { { c.aG.getD i aH.zero with bE:=true } with bF:=r } with since:=c.now } with gen:=zm8 (c.aG.getD i aH.zero).gen }) rfl (fun _=>⟨hvE,by have:=hp.led.le; show (c.aG.getD i aH.zero).bH.aP.length≤_; omega,fun L' b hL a ha=>by
    obtain ⟨res,hr,e1,_⟩:=r2 c9 L' b hL a ha
    obtain ⟨q,hq,rfl⟩:=cQ.1 hr
    exact zbV8 ⟨q,hq,e1⟩,fun j hj=>by
    have:=(hp.run hw _ (zh6 (z:=aA.zero) (show j < c.aF.length from hj))).1
    show covA (c.aF.getD j aA.zero).aB (getH (c.aF.getD j aA.zero).aR (c.aG.getD i aH.zero).aN) (zv3 (c.aG.getD i aH.zero).bH.aP (c.aF.getD j aA.zero).aB.name)=true
    rw [← this]
    exact zap5 (zav5 ((zv9 _).1 (h.t.each _ (zh6 (z:=aA.zero) hj))).1.hv _)⟩) _ _
  obtain ⟨w',l1,l2,l3,l4⟩:=zcv7 (i:=i) (by show i < (c.aG.set i _).length; rw [dI]; exact hi) r a2 g1 (eA (zbD3 g1.len) (by simp))
  rw [l1,Option.bind_some]
  unfold zY5
  have hl':w'.c.aG.length≤8:=by rw [l2]; exact g1.len
  obtain ⟨w2,s1⟩:=zbt1 (w:=w') (by
   rcases l4 with l4|l4
   ·exact .inl ⟨l4,eA (zbD3 hl') (by simp only [List.length_nil] at l3; omega)⟩
   ·exact .inr ⟨l4,hl',fun y hy hwy=>by rw [l2] at hy; exact (g1.ok y hy hwy).e⟩)
  rw [s1]; exact ⟨_,rfl⟩
 ·simp only [c9,cJ,dE,cB]
  exact ⟨_,rfl⟩
theorem zbZ3 (l:aX) (n:ByteArray):∃ r,zy8 l n=some r:=by
 unfold zy8
 obtain ⟨b,h1,h2⟩:=zag0 l
 rw [h1,Option.bind_some]
 cases b with
 | false=>exact ⟨_,rfl⟩
 | true =>
 have hp:=h2 rfl
 have hle:=hp.le; have hls:=hp.ls
 simp only [cK,bS,cA]
 rw [gdp (by omega)]
 have inner:∀ (v:Int×aX) (x:aX),x.bD.length=l.bD.length→∃ y,zc0 (zai4 l v) (0,x)=some y∧y.aP=x.aP∧y.bD.length=l.bD.length:=fun v x hx =>
  zq3 (body:=zai4 l v) (fun g=>∃ k:Nat,g.1=k∧k≤l.bD.length∧g.2.aP=x.aP∧g.2.bD.length=l.bD.length) (fun g=>l.bD.length - g.1.toNat) (fun y=>y.aP=x.aP∧y.bD.length=l.bD.length)
   (fun g ⟨k,hk,hkl,he,hs⟩=>by
    obtain ⟨g1,y⟩:=g
    simp only at hk he hs
    subst hk
    unfold zai4
    by_cases c:k < l.bD.length
    ·left
     have h3:0≤(k:Int)∧(k:Int) < (l.bD.length:Int):=by omega
     simp only [hs,h3.1,h3.2,cV,zm1,cC,cB,Int.toNat_natCast,zc4 k (show k < 4611686018427387904 by omega)]
     split
     ·exact ⟨_,rfl,⟨k+1,rfl,c,he,by simp only [dI]; exact hs⟩,by simp only [Int.toNat_natCast]; omega⟩
     ·exact ⟨_,rfl,⟨k+1,rfl,c,he,hs⟩,by simp only [Int.toNat_natCast]; omega⟩
    ·right
     simp only [hs,show ¬ (k:Int) < (l.bD.length:Int) by omega,cJ,bS,cA]
     exact ⟨_,rfl,he,hs⟩) (0,x) ⟨0,rfl,by omega,rfl,hx⟩
 obtain ⟨x,h3,_⟩:=zq3 (body:=zZ4 l n) (fun g=>∃ k:Nat,g.1=k∧k≤l.aP.length∧g.2.aP.length≤k∧g.2.bD.length=l.bD.length) (fun g=>l.aP.length - g.1.toNat) (fun _=>True)
  (fun g ⟨k,hk,hkl,he,hs⟩=>by
   obtain ⟨g1,y⟩:=g
   simp only at hk he hs
   subst hk
   unfold zZ4
   by_cases c:k < l.aP.length
   ·left
    have h3:0≤(k:Int)∧(k:Int) < (l.aP.length:Int):=by omega
    have h5:y.aP.length+1≤4294967296:=by omega
    simp only [h3.1,h3.2,h5,cV,zm1,cC,cB,Int.toNat_natCast,zc4 k (show k < 4611686018427387904 by omega)]
    split
    ·exact ⟨_,rfl,⟨k+1,rfl,c,by simp only [bX,List.length_singleton]; omega,hs⟩,by simp only [Int.toNat_natCast]; omega⟩
    ·obtain ⟨z,e1,e2,e3⟩:=inner ((k:Int),y) y hs
     rw [e1,Option.bind_some]
     unfold zaH0
     exact ⟨_,by rw [zc4 k (by omega)],⟨k+1,rfl,c,by simp only [e2]; omega,e3⟩,by simp only [Int.toNat_natCast]; omega⟩
   ·right
    simp only [show ¬ (k:Int) < (l.aP.length:Int) by omega,cJ,bS,cA]
    exact ⟨_,rfl,trivial⟩) (0,⟨[],l.bD⟩) ⟨0,rfl,by omega,by simp,rfl⟩
 rw [h3,Option.bind_some]
 unfold zaG9
 split <;> exact ⟨_,rfl⟩
theorem zcv9 {i:Nat} {c:aZ} (h:CenP c) (hi:i < c.aG.length) (nm:ByteArray):∃ x,zD9 (i:Int) nm ⟨c,[]⟩=some x:=by
 have g:=h.good []
 have hp:=h.each _ (zh6 (z:=aH.zero) hi)
 unfold zD9
 show ∃ x,gd (0≤(i:Int)∧(i:Int) < ((c.aG.length:Nat):Int)) (if (c.aG.getD (i:Int).toNat aH.zero).bE=true then _ else _)=some x
 have h3:0≤(i:Int)∧(i:Int) < ((c.aG.length:Nat):Int):=by omega
 rw [gdp h3]
 simp only [Int.toNat_natCast]
 cases hw:(c.aG.getD i aH.zero).bE with
 | true=>rw [bV rfl]; exact ⟨_,rfl⟩
 | false =>
 rw [bU (by decide),gdp h3,zac2 _ _ (by have:=hp.led.le; omega),Option.bind_some]
 split
 ·exact ⟨_,rfl⟩
 obtain ⟨c1,c2⟩:=zcT4 h.t (c.aG.getD i aH.zero).aN (⟨nm,aM.zero.aK⟩:aM)
 rw [gdp h3,zaN5,Option.bind_some,zba1 _ _ _ (by simp only [List.length_nil]; omega),Option.bind_some]
 obtain ⟨r,d1⟩:=zbZ3 (c.aG.getD i aH.zero).bH nm
 simp only
 rw [gdp h3,d1,Option.bind_some,gdp h3]
 have hn:=fun (t:List aA) (ev:List bI) (y:aH)=>zap6 (i:=i) (w:=⟨⟨c.now,t,c.aG.set i y⟩,ev⟩) (by show i < (c.aG.set i y).length; rw [dI]; exact hi)
 rw [hn,Option.bind_some]
 simp only [zt9 _ _ _ _ hi,fW]
 obtain ⟨w',s1⟩:=zbt1 (w:=⟨⟨c.now,(zac1 c.aF (c.aG.getD i aH.zero).aN (⟨nm,aM.zero.aK⟩:aM)).1,c.aG.set i { { c.aG.getD i aH.zero with bH:=r.1 } with gen:=zm8 (c.aG.getD i aH.zero).gen }⟩,[]++(zac1 c.aF (c.aG.getD i aH.zero).aN (⟨nm,aM.zero.aK⟩:aM)).2.1⟩) (by
  have hl':(c.aG.set i { { c.aG.getD i aH.zero with bH:=r.1 } with gen:=zm8 (c.aG.getD i aH.zero).gen }).length≤8:=by rw [dI]; exact h.len
  rcases c2 with c2|c2
  ·refine .inr ⟨c2,hl',fun y hy hwy=>?_⟩
   rcases iB hy with hy|rfl
   ·exact (g.ok y hy hwy).e
   ·have:(c.aG.getD i aH.zero).bE=true:=hwy
    rw [hw] at this; cases this
  ·refine .inl ⟨g.upd (w:=⟨c,[]⟩) hi c2 (y:={ { c.aG.getD i aH.zero with bH:=r.1 } with gen:=zm8 (c.aG.getD i aH.zero).gen }) rfl (fun hwy=>?_) _ _,eA (zbD3 hl') (by simp only [bX,List.length_nil]; omega)⟩
   have:(c.aG.getD i aH.zero).bE=true:=hwy
   rw [hw] at this; cases this)
 rw [s1]; exact ⟨_,rfl⟩
theorem zbZ4 {l:aX} (hl:LedgerP l) (label:Int):∃ r,zA9 l label=some r∧(r.2.2=0→∃ k:Nat,k≤l.aP.length∧∀ a ∈ r.2.1,(∃ e ∈ l.aP,e.name=a.name)∧a.aK=zv3 (l.aP.take k) a.name)∧r.2.1.length≤72:=by
 have hle:=hl.le; have hls:=hl.ls
 have k1:∀ (at_:Nat) (sv:Nat),at_≤l.aP.length→sv≤l.bD.length→∃ r,zZ5 l ((at_:Int),(sv:Int))=some r∧(r.2.2=0→∃ k:Nat,k≤l.aP.length∧∀ a ∈ r.2.1,(∃ e ∈ l.aP,e.name=a.name)∧a.aK=zv3 (l.aP.take k) a.name)∧r.2.1.length≤72:=by
  intro at_ sv ha hs
  unfold zZ5
  simp only [Int.toNat_natCast]
  rw [gdp (by omega),gdp (by simp only [dB]; omega),gdp (by omega),gdp (by simp only [dB]; omega),gdp (by omega)]
  obtain ⟨ns,n1,n2,n3⟩:=zaN6 (l.aP.drop at_) (by simp only [eC]; omega)
  rw [n1,Option.bind_some]
  have hnl:ns.length≤72:=by rw [eC] at n2; omega
  have key:=zbl8 ns (⟨#[]⟩:ByteArray) (fun n=>some (⟨n,zv3 (l.aP.take at_) n⟩:aM)) (body:=zai5 l ((at_:Int),(sv:Int)) ns) (by omega) (fun i s hi hs'=>by
   unfold zai5
   have h3:0≤(i:Int)∧(i:Int) < (ns.length:Int):=by omega
   have h5:s.length+1≤4294967296:=by omega
   simp only [h3.1,h3.2,h5,cV,zm1,cC,cB,Int.toNat_natCast,zc4 i (show i < 4611686018427387904 by omega)]
   rw [zac2 _ _ (by simp only [dB]; omega)]
   rfl) (fun s=>by unfold zai5; simp)
  rw [key,Option.bind_some]
  refine ⟨_,rfl,fun _=>⟨at_,ha,fun a hm=>?_⟩,?_⟩
  ·obtain ⟨n,hn,e⟩:=fI.1 (show a ∈ ns.filterMap _ from hm)
   cases e
   obtain ⟨en,he,hen⟩:=(n3 n).1 hn
   exact ⟨⟨en,hJ he,hen⟩,rfl⟩
  ·have:=fV (fun n=>some (⟨n,zv3 (l.aP.take at_) n⟩:aM)) ns
   show (ns.filterMap _).length≤72
   omega
 unfold zA9
 obtain ⟨b,h1,_⟩:=zag0 l
 rw [h1,Option.bind_some]
 cases b with
 | false=>exact ⟨_,rfl,(fun h=>nomatch h),by simp⟩
 | true =>
 simp only [cK,bS,cA]
 by_cases c:label=0
 ·rw [bU (by simp [c])]
  exact k1 0 0 (by omega) (by omega)
 ·rw [bV (by simp [c])]
  obtain ⟨v,f1,f2⟩:=zbD0 l.bD label (by omega)
  rw [f1,Option.bind_some]
  rcases f2 with rfl|⟨f2,f3⟩
  ·exact ⟨_,rfl,(fun h=>nomatch h),by simp⟩
  ·rw [bU (by simp; omega),gdp ⟨f2,f3⟩]
   have hs:=hl.at_ _ (zh6 (z:=bR.zero) (show v.toNat < l.bD.length by omega))
   have e1:(l.bD.getD v.toNat bR.zero).at_=(((l.bD.getD v.toNat bR.zero).at_.toNat:Nat):Int):=by omega
   have e2:IntKind.i64.wrap (v+1)=((v.toNat+1:Nat):Int):=by rw [zf5 (by omega) (by omega)]; omega
   rw [e2,e1]
   exact k1 _ _ (by omega) (by omega)
def Back (x:aH) (t t':List aA) (k:Nat):Prop:=∀ j,j < t.length→(zB1 (t'.getD j aA.zero) x.aN).2=false ∧
 (getH (t'.getD j aA.zero).aR x.aN=zv3 x.bH.aP (t.getD j aA.zero).aB.name∨getH (t'.getD j aA.zero).aR x.aN=zv3 (x.bH.aP.take k) (t.getD j aA.zero).aB.name)
theorem zbZ5 {c:aZ} (h:CenP c) {i:Nat} (hi:i < c.aG.length) {v:aX×List aM×Int} (hv:v.2.1.length≤72) {k:Nat} (hk:k≤(c.aG.getD i aH.zero).bH.aP.length)
  (ha:∀ a ∈ v.2.1,(∃ e ∈ (c.aG.getD i aH.zero).bH.aP,e.name=a.name)∧a.aK=zv3 ((c.aG.getD i aH.zero).bH.aP.take k) a.name)
  {j1:aW} (hj:(j1.c.aG.getD i aH.zero).aN=(c.aG.getD i aH.zero).aN) (hl1:j1.c.aG.length=c.aG.length) {w:aW} (hK:Kept (c.aG.getD i aH.zero).aN c.aF w.c.aF) (hB:Back (c.aG.getD i aH.zero) c.aF w.c.aF k) (hev:w.ev.length≤1000) :
  ∃ w',zc0 (zC0 (i:Int) v j1) (0,w)=some w'∧Kept (c.aG.getD i aH.zero).aN c.aF w'.c.aF∧w'.c.aG=w.c.aG∧w'.ev.length≤w.ev.length+1440:=by
 have hp:=h.each _ (zh6 (z:=aH.zero) hi)
 obtain ⟨x,h1,h2⟩:=zq3 (body:=zC0 (i:Int) v j1) (fun z=>(∃ m:Nat,z.1=m∧m≤v.2.1.length∧z.2.ev.length≤w.ev.length+20 * m)∧z.2.c.aG=w.c.aG∧Kept (c.aG.getD i aH.zero).aN c.aF z.2.c.aF∧Back (c.aG.getD i aH.zero) c.aF z.2.c.aF k) (fun z=>v.2.1.length - z.1.toNat)
  (fun x=>Kept (c.aG.getD i aH.zero).aN c.aF x.c.aF∧x.c.aG=w.c.aG∧x.ev.length≤w.ev.length+1440)
  (fun z ⟨⟨m,hm,hml,he⟩,hpz,hKz,hBz⟩=>by
   obtain ⟨z1,w1⟩:=z
   simp only at hm he hpz hKz hBz
   subst hm
   unfold zC0
   by_cases cm:m < v.2.1.length
   ·left
    have h3:0≤(m:Int)∧(m:Int) < (v.2.1.length:Int):=by omega
    have hlq:=hKz.v.lens'.1
    simp only [h3.1,h3.2,cV,zm1,cC,cB,Int.toNat_natCast,zc4 m (show m < 4611686018427387904 by omega)]
    obtain ⟨⟨en,he1,he2⟩,hamt⟩:=ha _ (zh6 (z:=aM.zero) cm)
    have hnz:=zcF4 hp.led he1
    rw [he2] at hnz
    obtain ⟨q,hq,hqn,hqf⟩:=hp.held _ hnz
    obtain ⟨j,hj1,hj2⟩:=zbV8 ⟨q,hq,hqn⟩
    have hjq:c.aF.getD j aA.zero=q:=h.t.inj (zh6 hj1) hq (hj2.trans hqn.symm)
    have hj':j < w1.c.aF.length:=by rw [hKz.len]; exact hj1
    have hfd:=hKz.find h.t hj1
    rw [hj2] at hfd
    have h6:=zaQ5 hKz.v.lens hj'
    rw [zV1 _ _ (by omega),Option.bind_some,hfd,gdp (by omega)]
    simp only [Int.toNat_natCast,hj]
    rw [zG7 _ _ (by omega),Option.bind_some]
    split
    ·rename_i hne
     have hne':¬ getH (w1.c.aF.getD j aA.zero).aR (c.aG.getD i aH.zero).aN=(v.2.1.getD m aM.zero).aK:=by simpa [-List.getD_eq_getElem?_getD] using hne
     have hBj:=hBz j hj1
     have hres:=hKz.res j hj1
     have hfull:getH (w1.c.aF.getD j aA.zero).aR (c.aG.getD i aH.zero).aN=zv3 (c.aG.getD i aH.zero).bH.aP (v.2.1.getD m aM.zero).name:=by
      rcases hBj.2 with e|e
      ·rw [e,hj2]
      ·rw [hj2,← hamt] at e; exact absurd e hne'
     have hcv:covA (w1.c.aF.getD j aA.zero).aB (getH (w1.c.aF.getD j aA.zero).aR (c.aG.getD i aH.zero).aN) (v.2.1.getD m aM.zero).aK=true:=by
      rw [hfull,hamt,hres,hjq]
      exact zce8 hp.led hqf ((c.aG.getD i aH.zero).bH.aP.length - k) k (by omega)
     obtain ⟨q2,ev,r1,r2,r3,r4,r5,r6⟩:=zce7 hKz.v hj' (p:=(c.aG.getD i aH.zero).aN) (a:=(v.2.1.getD m aM.zero).aK) (by rw [hfull]; exact hnz) hBj.1 hcv
     have hatom:(⟨(w1.c.aF.getD j aA.zero).aB.name,(v.2.1.getD m aM.zero).aK⟩:aM)=v.2.1.getD m aM.zero:=by rw [hres,hj2]
     rw [hatom] at r1
     rw [zaN5,Option.bind_some,r1,zba1 _ _ _ (by simp only; omega),Option.bind_some]
     refine ⟨_,rfl,⟨⟨m+1,rfl,cm,by simp only [bX]; omega⟩,hpz,hKz.trans r3,fun j2 hj3=>?_⟩,by simp only [Int.toNat_natCast]; omega⟩
     by_cases e:j=j2
     ·subst e
      show (zB1 ((w1.c.aF.set j q2).getD j aA.zero) _).2=false∧_
      rw [zt9 _ _ _ _ hj']
      exact ⟨r5,.inr (by rw [r4,hamt,hj2])⟩
     ·show (zB1 ((w1.c.aF.set j q2).getD j2 aA.zero) _).2=false∧(getH ((w1.c.aF.set j q2).getD j2 aA.zero).aR _=_∨getH ((w1.c.aF.set j q2).getD j2 aA.zero).aR _=_)
      rw [zba0 _ _ _ _ _ e]
      exact hBz j2 hj3
    ·exact ⟨_,rfl,⟨⟨m+1,rfl,cm,by simp only; omega⟩,hpz,hKz,hBz⟩,by simp only [Int.toNat_natCast]; omega⟩
   ·right
    simp only [show ¬ (m:Int) < (v.2.1.length:Int) by omega,cJ,bS,cA]
    exact ⟨_,rfl,hKz,hpz,by omega⟩) (0,w) ⟨⟨0,rfl,by omega,by simp⟩,rfl,hK,hB⟩
 exact ⟨x,h1,h2⟩
theorem zcl1 {i:Nat} {c:aZ} (h:CenP c) (hi:i < c.aG.length) (label:Int):∃ x,zx9 (i:Int) label ⟨c,[]⟩=some x:=by
 have g:=h.good []
 have hp:=h.each _ (zh6 (z:=aH.zero) hi)
 have h3:0≤(i:Int)∧(i:Int) < ((c.aG.length:Nat):Int):=by omega
 unfold zx9
 show ∃ x,gd (0≤(i:Int)∧(i:Int) < ((c.aG.length:Nat):Int)) ((zA9 (c.aG.getD (i:Int).toNat aH.zero).bH label).bind _)=some x
 rw [gdp h3]
 simp only [Int.toNat_natCast]
 obtain ⟨v,u1,u2,u3⟩:=zbZ4 hp.led label
 rw [u1,Option.bind_some]
 by_cases c0:v.2.2=0
 ·rw [bU (by simp [c0]),gdp h3]
  obtain ⟨k,hk,hka⟩:=u2 c0
  have fin:∀ (j1:aW),j1.c.aG.length=c.aG.length→(j1.c.aG.getD i aH.zero).aN=(c.aG.getD i aH.zero).aN→(j1.c.aG.getD i aH.zero).bE=false→j1.ev.length≤320→Kept (c.aG.getD i aH.zero).aN c.aF j1.c.aF→Back (c.aG.getD i aH.zero) c.aF j1.c.aF k →
    (∀ t' (y:aH) (ev:List bI),Kept (c.aG.getD i aH.zero).aN c.aF t'→y.aN=(c.aG.getD i aH.zero).aN→y.bE=false→Good ⟨⟨j1.c.now,t',j1.c.aG.set i y⟩,ev⟩)→∃ x,zx8 (i:Int) v j1=some x:=by
   intro j1 hl1 hpr hw1 hev hK hB hG
   unfold zx8
   have hi1:i < j1.c.aG.length:=by omega
   rw [gdp (by omega),gdp (by omega)]
   simp only [Int.toNat_natCast]
   obtain ⟨w',l1,l2,l3,l4⟩:=zbZ5 h hi u3 hk hka hpr hl1 (w:=⟨⟨j1.c.now,j1.c.aF,j1.c.aG.set i { j1.c.aG.getD i aH.zero with bH:=v.1 }⟩,j1.ev⟩) hK hB (by simp only; omega)
   rw [l1,Option.bind_some]
   unfold zK0
   have hi2:i < w'.c.aG.length:=by rw [l3,dI]; exact hi1
   rw [zap6 hi2,Option.bind_some]
   obtain ⟨w2,s1⟩:=zbt1 (w:=⟨⟨w'.c.now,w'.c.aF,w'.c.aG.set i { w'.c.aG.getD i aH.zero with gen:=zm8 (w'.c.aG.getD i aH.zero).gen }⟩,w'.ev⟩) (.inl (by
    have e:w'.c.aG.set i { w'.c.aG.getD i aH.zero with gen:=zm8 (w'.c.aG.getD i aH.zero).gen }=j1.c.aG.set i { { j1.c.aG.getD i aH.zero with bH:=v.1 } with gen:=zm8 (j1.c.aG.getD i aH.zero).gen }:=by
     rw [l3]; simp only [zt9 _ _ _ _ hi1,fW]
    rw [e]
    have gg:=hG w'.c.aF { { j1.c.aG.getD i aH.zero with bH:=v.1 } with gen:=zm8 (j1.c.aG.getD i aH.zero).gen } w'.ev l2 hpr hw1
    refine ⟨⟨gg.v,gg.len,gg.nd,gg.ok⟩,eA (zbD3 gg.len) ?_⟩
    simp only at l4 ⊢
    omega))
   rw [s1]; exact ⟨_,rfl⟩
  show ∃ x,(if (c.aG.getD i aH.zero).bE=true then _ else _)=some x
  rcases hb (c.aG.getD i aH.zero).bE with hw|hw
  case inr =>
   rw [bU (by rw [hw]; decide)]
   refine fin ⟨c,[]⟩ rfl rfl hw (by simp) (zaJ7 h.t) (fun j hj=>?_) (fun t' y ev k1 k2 k3=>g.upd (w:=⟨c,[]⟩) hi k1 k2 (fun hh=>by rw [k3] at hh; cases hh) _ _)
   have:=hp.run hw _ (zh6 (z:=aA.zero) (show j < c.aF.length from hj))
   exact ⟨this.2,.inl this.1⟩
  case inl =>
   rw [bV hw]
   obtain ⟨t',ev,L,w1,w2,w3,w4,w5⟩:=zbx8 (w:=⟨c,[]⟩) g hi hw (eA (zbD3 g.len) (by simp))
   rw [w1,Option.bind_some]
   have hgi:(c.aG.set i (zY3 (c.aG.getD i aH.zero))).getD i aH.zero=zY3 (c.aG.getD i aH.zero):=zt9 _ _ _ _ hi
   refine fin _ (by simp) (by show ((c.aG.set i _).getD i aH.zero).aN=_; rw [hgi]; rfl) (by show ((c.aG.set i _).getD i aH.zero).bE=false; rw [hgi]; rfl) (by simp only [List.nil_append]; exact w2) w3 (fun j hj=>?_) (fun t2 y ev2 k1 k2 k3=>?_)
   ·rcases w5 j hj with h5|⟨h5,h6⟩
    ·exact ⟨h5.2,.inl h5.1⟩
    ·obtain ⟨_,hpp⟩:=hp.wait hw
     have hpq:=(hpp L true w4).2 _ (zh6 (z:=aA.zero) (show j < c.aF.length from hj))
     rcases hpq with ⟨a,ha,hn,_⟩|⟨h7,h8⟩
     ·exact absurd hn (h6 a ha)
     ·show (zB1 (t'.getD j aA.zero) _).2=false∧(getH (t'.getD j aA.zero).aR _=_∨_)
      rw [show t'.getD j aA.zero=c.aF.getD j aA.zero from h5]
      exact ⟨h8,.inl h7⟩
   ·have:=g.upd (w:=⟨c,[]⟩) hi k1 k2 (fun hh=>by rw [k3] at hh; cases hh) c.now ev2
    show Good ⟨⟨c.now,t2,(c.aG.set i _).set i y⟩,ev2⟩
    rw [fW]; exact this
 ·rw [bV (by simp [c0])]
  exact ⟨_,rfl⟩
theorem zbZ6 (l:aX) (n:Int) (hl:l.bD.length≤1000) (he:l.aP.length≤1000):∃ r,zD6 l n=some r:=by
 unfold zD6
 obtain ⟨b,h1,_⟩:=zag0 l
 rw [h1,Option.bind_some]
 split
 ·exact ⟨_,rfl⟩
 split
 ·exact ⟨_,rfl⟩
 obtain ⟨v,f1,_⟩:=zbD0 l.bD n (by omega)
 rw [f1,Option.bind_some]
 split
 ·exact ⟨_,rfl⟩
 split
 ·exact ⟨_,rfl⟩
 rw [gdp (by omega),gdp (by omega),gdp (by omega)]
 exact ⟨_,rfl⟩
theorem zdz9 {c:aZ} (h:CenP c) (k:bM):∃ x,zK1 k ⟨c,[]⟩=some x:=by
 have g:=h.good []
 have hbud:bud ⟨c,[]⟩≤400000:=eA (zbD3 g.len) (by simp)
 have b1:∀ {α β:Type} {o:Option α} {f:α→β},(∃ x,o=some x)→∃ x,(o.bind fun v=>some (f v))=some x:=fun {α β o f} ⟨x,hx⟩=>⟨f x,by rw [hx]; rfl⟩
 unfold zK1
 by_cases k0:((decide (k.kind < 1))||(decide (9 < k.kind)))=true
 ·rw [bV k0]; exact ⟨_,rfl⟩
 rw [bU k0]
 by_cases k1:k.kind=1
 ·rw [bV (cN k1)]; exact b1 (zdh6 _ _ g.len)
 rw [bU (by simpa using k1)]
 by_cases k9:k.kind=9
 ·rw [bV (cN k9)]; exact b1 (zdh5 _ g hbud)
 rw [bU (by simpa using k9)]
 obtain ⟨v,i1,i2⟩:=zaN8 c.aG k.aN (by have:=h.len; omega)
 show ∃ x,(zi2 c.aG k.aN).bind _=some x
 rw [i1,Option.bind_some]
 rcases i2 with ⟨rfl,_⟩|⟨i,rfl,hi,_⟩
 ·exact ⟨_,rfl⟩
 have hp:=h.each _ (zh6 (z:=aH.zero) hi)
 have h3:0≤(i:Int)∧(i:Int) < ((c.aG.length:Nat):Int):=by omega
 rw [bU (by simp)]
 show ∃ x,gd (0≤(i:Int)∧(i:Int) < ((c.aG.length:Nat):Int)) _=some x
 rw [gdp h3]
 simp only [Int.toNat_natCast]
 by_cases k2:k.kind=2
 ·rw [bV (cN k2)]
  exact b1 (zcv8 h hi _)
 rw [bU (by simpa using k2)]
 by_cases k3:k.kind=3
 ·rw [bV (cN k3)]
  rcases hb (c.aG.getD i aH.zero).bE with hw|hw
  case inr=>rw [bV (by show (!(c.aG.getD i aH.zero).bE)=true; rw [hw]; rfl)]; exact ⟨_,rfl⟩
  case inl =>
   rw [bU (by show ¬ (!(c.aG.getD i aH.zero).bE)=true; rw [hw]; decide)]
   obtain ⟨w1,w2,r1,r2,r3,_,_,r6⟩:=zbp0 (w:=⟨c,[]⟩) g hi hw (by omega)
   rw [r1,Option.bind_some,r2,Option.bind_some]
   obtain ⟨w3,s1,_⟩:=zba3 r3 (by omega)
   show ∃ x,(zk6 w2).bind _=some x
   rw [s1]; exact ⟨_,rfl⟩
 rw [bU (by simpa using k3)]
 by_cases k4:k.kind=4
 ·rw [bV (cN k4)]
  exact b1 (zcv9 h hi _)
 rw [bU (by simpa using k4)]
 by_cases k5:k.kind=5
 ·rw [bV (cN k5)]
  rcases hb (c.aG.getD i aH.zero).bE with hw|hw
  case inl=>rw [bV (by exact hw)]; exact ⟨_,rfl⟩
  case inr =>
   rw [bU (by show ¬ (c.aG.getD i aH.zero).bE=true; rw [hw]; decide),gdp h3]
   obtain ⟨r,s1⟩:=zbZ6 (c.aG.getD i aH.zero).bH k.n (by have:=hp.led.ls; omega) (by have:=hp.led.le; omega)
   rw [s1,Option.bind_some]
   split
   ·exact ⟨_,rfl⟩
   ·rw [gdp h3]
    have hn:=fun (y:aH)=>zap6 (i:=i) (w:=⟨⟨c.now,c.aF,c.aG.set i y⟩,[]⟩) (by show i < (c.aG.set i y).length; rw [dI]; exact hi)
    rw [hn]; exact ⟨_,rfl⟩
 rw [bU (by simpa using k5)]
 by_cases k6:k.kind=6
 ·rw [bV (cN k6)]
  exact b1 (zcl1 h hi _)
 rw [bU (by simpa using k6)]
 by_cases k8:k.kind=8
 ·rw [bV (cN k8)]
  rcases hb (c.aG.getD i aH.zero).bE with hw|hw
  case inl=>rw [bV (by exact hw)]; exact ⟨_,rfl⟩
  case inr =>
   rw [bU (by show ¬ (c.aG.getD i aH.zero).bE=true; rw [hw]; decide)]
   exact b1 (zcv6 g hi hbud)
 rw [bU (by simpa using k8)]
 by_cases k7:k.kind=7
 ·rw [bV (cN k7)]
  exact b1 (zcv6 g hi hbud)
 ·rw [bU (by simpa using k7)]; exact ⟨_,rfl⟩
theorem zcw0 (c:aZ) (k:bM):∃ x,zat5 c k=some x:=by
 unfold zat5
 obtain ⟨b,h1,h2⟩:=zbj2 c
 rw [h1,Option.bind_some]
 cases b with
 | false=>exact ⟨_,rfl⟩
 | true =>
  have h:=h2 rfl
  rw [bU (by decide)]
  unfold zj9
  rw [gdp (by have:=h.t.len; omega),gdp (by have:=h.len; omega),Option.bind_some]
  obtain ⟨x,e⟩:=zdz9 h k
  show ∃ x,(zK1 k ⟨c,[]⟩).bind _=some x
  rw [e,Option.bind_some]
  split <;> exact ⟨_,rfl⟩
theorem zcw1 (c:aZ) (l:List bM) (hl:l.length≤100000):∃ x,zat6 c l=some x:=by
 unfold zat6
 obtain ⟨x,h1,_⟩:=zq3 (body:=zaD0 l) (fun g=>∃ k:Nat,g.1=k∧k≤l.length) (fun g=>l.length - g.1.toNat) (fun _=>True)
  (fun g ⟨k,hk,hkl⟩=>by
   obtain ⟨g1,y⟩:=g
   simp only at hk
   subst hk
   unfold zaD0
   by_cases c:k < l.length
   ·left
    have h3:0≤(k:Int)∧(k:Int) < (l.length:Int):=by omega
    obtain ⟨x,e⟩:=zcw0 y (l.getD k bM.zero)
    simp only [h3.1,h3.2,cV,zm1,cC,cB,Int.toNat_natCast,zc4 k (show k < 4611686018427387904 by omega),e,Option.bind_some]
    split
    ·exact ⟨_,rfl,⟨k+1,rfl,c⟩,by simp only [Int.toNat_natCast]; omega⟩
    ·exact ⟨_,rfl,⟨k+1,rfl,c⟩,by simp only [Int.toNat_natCast]; omega⟩
   ·right
    simp only [show ¬ (k:Int) < (l.length:Int) by omega,cJ,bS,cA]
    exact ⟨_,rfl,trivial⟩) (0,c) ⟨0,rfl,by omega⟩
 rw [h1]; exact ⟨_,rfl⟩
structure Adv (u u':bJ):Prop where
 ok:TapeOk u'
 l:u'.l=u.l
 at_:u.at_≤u'.at_
theorem Adv.trans {a b c:bJ} (h:Adv a b) (k:Adv b c):Adv a c:=⟨k.ok,k.l.trans h.l,Int.le_trans h.at_ k.at_⟩
theorem Adv.refl {a:bJ} (h:TapeOk a):Adv a a:=⟨h,rfl,jG _⟩
theorem zbx9 {u:bJ} (h:TapeOk u):Adv u (zR0 u):=⟨zaz0 h,zcK5 u,by
 unfold zR0
 split
 ·exact jG _
 ·show u.at_≤u.at_+1
  omega⟩
theorem zar4 {m:Int} (h1:1≤m) (h2:m≤1000000) {u:bJ} (h:TapeOk u):∃ v u',zb8 m u=some (v,u')∧Adv u u'∧0≤v∧v < m:=by
 have:=zaG2 m u h1
 exact ⟨_,_,zaZ2 m u h h1 h2,zbx9 h,this.1,this.2⟩
theorem zbD4 {m:Int} (h1:1≤m) (h2:m≤1048576) {u:bJ} (h:TapeOk u):∃ v u',zb8 m u=some (v,u')∧Adv u u':=by
 unfold zb8
 have hl:=h.len; have ha:=h.at_
 by_cases c:(u.l.length:Int)≤u.at_
 ·rw [bV (by simpa using c)]; exact ⟨_,_,rfl,Adv.refl h⟩
 ·rw [bU (by simpa using c)]
  have w1:IntKind.i64.wrap (u.at_+1)=u.at_+1:=zf5 (by omega) (by omega)
  have w2:IntKind.i64.wrap (u.at_+1 - 1)=u.at_:=by rw [zf5 (by omega) (by omega)]; omega
  simp only [w1,w2]
  rw [gdp (by omega)]
  have hm:∃ v,zn9 (u.l.getD u.at_.toNat 0) m=some v:=by
   unfold zn9
   rw [bU (by simp; omega),gdp (by omega)]
   split <;> exact ⟨_,rfl⟩
  obtain ⟨v,hv⟩:=hm
  rw [hv]
  exact ⟨_,_,rfl,⟨hl,by simp only; omega⟩,rfl,by simp only; omega⟩
theorem zce9 (atoms:List aM) (ha:1≤atoms.length) (hb:atoms.length≤1000):∀ (n:Nat) (d:Int),0≤d→d.toNat < n→d≤10→∀ u,TapeOk u→∃ e u',zS8 n atoms d u=some (e,u')∧Adv u u'
 | 0,_,_,h,_,_,_=>by omega
 | n+1,d,h0,hd,h10,u,hu=>by
  show ∃ e u',zad9 (zS8 n) atoms d u=some (e,u')∧_
  unfold zad9
  have first:∃ v u1,(if (!decide (d=0))=true then zb8 4 u else some (0,u))=some (v,u1)∧Adv u u1:=by
   split
   ·obtain ⟨v,u1,h1,h2,_⟩:=zar4 (m:=4) (by decide) (by decide) hu
    exact ⟨v,u1,h1,h2⟩
   ·exact ⟨0,u,rfl,Adv.refl hu⟩
  obtain ⟨v,u1,e1,a1⟩:=first
  rw [e1,Option.bind_some]
  by_cases c:((decide (d=0))||(decide (v=0)))=true
  ·rw [bV c]
   obtain ⟨v2,u2,e2,a2,r1,r2⟩:=zar4 (m:=(atoms.length:Int)) (by omega) (by omega) a1.ok
   rw [e2,Option.bind_some,gdp ⟨r1,r2⟩]
   exact ⟨_,_,rfl,a1.trans a2⟩
  ·rw [bU c]
   have hd1:1≤d:=by
    simp only [dQ,bY,kC] at c; omega
   obtain ⟨v3,u3,e3,a3,r1,r2⟩:=zar4 (m:=3) (by decide) (by decide) a1.ok
   rw [e3,Option.bind_some]
   have w3:IntKind.i64.wrap (1+v3)=1+v3:=zf5 (by omega) (by omega)
   simp only [w3]
   obtain ⟨v4,u4,e4,a4,r3,r4⟩:=zar4 (m:=1+v3) (by omega) (by omega) a3.ok
   rw [e4,Option.bind_some]
   have hA:=(a1.trans a3).trans a4
   obtain ⟨x,l1,l2⟩:=zq3 (body:=zaj8 (zS8 n) atoms d (v3,u3)) (fun g=>∃ k:Nat,g.1=k∧k≤4∧Adv u g.2.1∧g.2.2.bA.length≤k) (fun g=>4 - g.1.toNat) (fun x=>Adv u x.1)
    (fun g ⟨k,hk,hk4,hA,hkl⟩=>by
     obtain ⟨g1,t,e⟩:=g
     simp only at hk hA hkl
     subst hk
     unfold zaj8
     simp only [w3]
     by_cases ck:(k:Int) < 1+v3
     ·left
      rw [bV (by simpa using ck)]
      have wd:IntKind.i64.wrap (d - 1)=d - 1:=zf5 (by omega) (by omega)
      obtain ⟨e5,u5,e6,a6⟩:=zce9 atoms ha hb n (d - 1) (by omega) (by omega) (by omega) t hA.ok
      rw [wd,e6,Option.bind_some,gdp (by omega),zc4 k (by omega)]
      exact ⟨_,rfl,⟨k+1,rfl,by omega,hA.trans a6,by simp only [bX,List.length_singleton]; omega⟩,by simp only [Int.toNat_natCast]; omega⟩
     ·right
      rw [bU (by simpa using ck)]
      exact ⟨_,rfl,hA⟩) (0,u4,(⟨(IntKind.i64.wrap (1+v4)),(⟨aM.zero.name,(⟨aM.zero.aK.mode,aM.zero.aK.aS⟩:aC)⟩:aM),[]⟩:aO)) ⟨0,rfl,by omega,hA,by simp⟩
   rw [l1,Option.bind_some]
   exact ⟨_,_,rfl,l2⟩
theorem zdi1 (l:List aI) (hl:1≤l.length) (hl2:l.length≤10) (hs:∀ r ∈ l,zf7 r=true) {u:bJ} (hu:TapeOk u):∃ e u',zu2 l u=some (e,u')∧Adv u u':=by
 unfold zu2
 obtain ⟨v1,u1,e1,a1⟩:=zbD4 (m:=1048576) (by decide) (by decide) hu
 rw [e1,Option.bind_some]
 obtain ⟨x,l1,l2⟩:=zq3 (body:=zao4 l (v1,u1)) (fun g=>∃ k:Nat,g.1=k∧k≤l.length∧g.2.length=k) (fun g=>l.length - g.1.toNat) (fun x=>x.length=l.length)
  (fun g ⟨k,hk,hkl,hg⟩=>by
   obtain ⟨g1,s⟩:=g
   simp only at hk hg
   subst hk
   unfold zao4
   by_cases c:k < l.length
   ·left
    have h3:0≤(k:Int)∧(k:Int) < (l.length:Int):=by omega
    have w1:IntKind.i64.wrap (3 * (k:Int))=3 * (k:Int):=zf5 (by omega) (by omega)
    have w2:0≤IntKind.u64.wrap (3 * (k:Int)):=by
     unfold IntKind.wrap
     simp only [IntKind.signed,eK,bS,cA]
     exact iG _ (by decide)
    simp only [h3.1,h3.2,cV,zm1,cC,cB,Int.toNat_natCast,zc4 k (show k < 4611686018427387904 by omega),w1]
    rw [gdp w2,zbT0 _ _ (hs _ (zh6 c)),Option.bind_some,gdp (by omega)]
    exact ⟨_,rfl,⟨k+1,rfl,c,by simp only [bX,List.length_singleton]; omega⟩,by simp only [Int.toNat_natCast]; omega⟩
   ·right
    simp only [show ¬ (k:Int) < (l.length:Int) by omega,cJ,bS,cA]
    exact ⟨_,rfl,by omega⟩) (0,[]) ⟨0,rfl,by omega,rfl⟩
 rw [l1,Option.bind_some]
 unfold zaB0 zr3
 obtain ⟨e,u2,e2,a2⟩:=zce9 x (by omega) (by omega) ((2:Int).toNat+1) 2 (by decide) (by decide) (by decide) u1 a1.ok
 rw [e2]
 exact ⟨_,_,rfl,a1.trans a2⟩
theorem zdi2 (l:List aI) (hl:1≤l.length) (hl2:l.length≤10) (hs:∀ r ∈ l,zf7 r=true) {u:bJ} (hu:TapeOk u):∃ e u',zv6 l u=some (e,u')∧Adv u u':=by
 unfold zv6
 obtain ⟨v1,u1,e1,a1,_⟩:=zar4 (m:=8) (by decide) (by decide) hu
 obtain ⟨v2,u2,e2,a2,_⟩:=zar4 (m:=5) (by decide) (by decide) a1.ok
 rw [e1,Option.bind_some,e2,Option.bind_some]
 have k1:∀ (t:bJ) (r:bL),Adv u t→∃ e u',zK9 l (t,r)=some (e,u')∧Adv u u':=fun t r ht=>by
  unfold zK9
  obtain ⟨e,u3,e3,a3⟩:=zdi1 l hl hl2 hs ht.ok
  rw [e3]; exact ⟨_,_,rfl,ht.trans a3⟩
 split
 ·obtain ⟨v3,u3,e3,a3,_⟩:=zar4 (m:=20) (by decide) (by decide) a2.ok
  rw [e3,Option.bind_some]
  exact k1 _ _ ((a1.trans a2).trans a3)
 ·exact k1 _ _ (a1.trans a2)
theorem zcw2 (l:List aI) (hl:1≤l.length) (hl2:l.length≤10) (hs:∀ r ∈ l,zf7 r=true) {u:bJ} (hu:TapeOk u):∃ e u',zD7 l u=some (e,u')∧Adv (zR0 u) u':=by
 unfold zD7
 rw [zaZ2 16 u hu (by decide) (by decide),Option.bind_some]
 have a1:=zbx9 hu
 obtain ⟨v2,u2,e2,a2,_⟩:=zar4 (m:=6) (by decide) (by decide) a1.ok
 rw [e2,Option.bind_some,zaZ1,Option.bind_some]
 have nx:∀ (m:Int),1≤m→m≤1000000→∃ v u3,zb8 m u2=some (v,u3)∧Adv (zR0 u) u3∧0≤v∧v < m:=fun m h1 h2=>by
  obtain ⟨v,u3,e3,a3,r⟩:=zar4 h1 h2 a2.ok
  exact ⟨v,u3,e3,a2.trans a3,r⟩
 split
 ·obtain ⟨v,u3,e3,a3,_⟩:=nx 9 (by decide) (by decide)
  rw [e3]; exact ⟨_,_,rfl,a3⟩
 split
 ·obtain ⟨e,u3,e3,a3⟩:=zdi2 l hl hl2 hs a2.ok
  rw [e3]; exact ⟨_,_,rfl,a2.trans a3⟩
 split
 ·exact ⟨_,_,rfl,a2⟩
 split
 ·obtain ⟨v,u3,e3,a3,r1,r2⟩:=nx (l.length:Int) (by omega) (by omega)
  rw [e3,Option.bind_some,gdp ⟨r1,r2⟩]; exact ⟨_,_,rfl,a3⟩
 split
 ·obtain ⟨v,u3,e3,a3,_⟩:=nx 4 (by decide) (by decide)
  rw [e3]; exact ⟨_,_,rfl,a3⟩
 split
 ·obtain ⟨v,u3,e3,a3,_⟩:=nx 5 (by decide) (by decide)
  rw [e3]; exact ⟨_,_,rfl,a3⟩
 split
 ·exact ⟨_,_,rfl,a2⟩
 split
 ·exact ⟨_,_,rfl,a2⟩
 ·obtain ⟨v,u3,e3,a3,_⟩:=nx 12 (by decide) (by decide)
  rw [e3]; exact ⟨_,_,rfl,a3⟩
theorem zcf0:∀ (n:Nat) {u:bJ},TapeOk u→Adv u (zaV7 n u)
 | 0,u,h=>Adv.refl h
 | n+1,u,h=>by
  have:=zcf0 n (zaz0 h)
  exact (zbx9 h).trans this
theorem zcF6 {l:List Int} (hl:l.length≤300):∃ r k,zP4 l=some (r,k)∧k.length≤1000:=by
 unfold zP4
 have h0:TapeOk { bJ.zero with l:=l }:=⟨by simp only; omega,by show 0≤(0:Int)∧(0:Int)≤l.length; omega⟩
 rw [zcC3 _ h0,Option.bind_some]
 have hA:=zcf0 8 h0
 have hsh:=zct1 { bJ.zero with l:=l }
 obtain ⟨x,l1,l2⟩:=zq3 (body:=zap3) (fun g=>∃ k:Nat,g.1=k∧k≤4∧Adv { bJ.zero with l:=l } g.2.1∧g.2.2.length≤k) (fun g=>4 - g.1.toNat) (fun x=>Adv { bJ.zero with l:=l } x.1∧x.2.length≤4)
  (fun g ⟨k,hk,hk4,hA,hkl⟩=>by
   obtain ⟨g1,t,s⟩:=g
   simp only at hk hA hkl
   subst hk
   unfold zap3
   by_cases ck:k < 4
   ·left
    rw [bV (by simp; omega),zaZ1,Option.bind_some]
    obtain ⟨v,u,e,a,_⟩:=zar4 (m:=9) (by decide) (by decide) hA.ok
    simp only [e,Option.bind_some]
    rw [gdp (by omega),zc4 k (by omega)]
    exact ⟨_,rfl,⟨k+1,rfl,by omega,hA.trans a,by simp only [bX,List.length_singleton]; omega⟩,by simp only [Int.toNat_natCast]; omega⟩
   ·right
    rw [bU (by simp; omega)]
    exact ⟨_,rfl,hA,by simp only; omega⟩) (0,zaV7 8 { bJ.zero with l:=l },[]) ⟨0,rfl,by omega,hA,by simp⟩
 rw [l1,Option.bind_some]
 unfold zap2
 obtain ⟨t0,s0⟩:=x
 simp only at l2
 obtain ⟨y,m1,m2⟩:=zq3 (body:=zap1 (catL { bJ.zero with l:=l },zaV7 8 { bJ.zero with l:=l })) (fun g=>Adv { bJ.zero with l:=l } g.1∧(g.2.length:Int)≤4+g.1.at_) (fun g=>l.length - g.1.at_.toNat) (fun y=>y.length≤1000)
  (fun g ⟨hA,hg⟩=>by
   obtain ⟨t,s⟩:=g
   simp only at hA hg
   have htl:t.l.length=l.length:=by rw [hA.l]
   have hta:=hA.ok.at_
   unfold zap1 zf2
   rw [Option.bind_some]
   by_cases c:t.at_ < (t.l.length:Int)
   ·left
    rw [bV (by simpa using c)]
    obtain ⟨e,u,e1,a1⟩:=zcw2 (catL { bJ.zero with l:=l }) (by unfold catL; simp) (by unfold catL; simp) hsh hA.ok
    simp only [e1,Option.bind_some]
    rw [gdp (by omega)]
    have hn:(zR0 t).at_=t.at_+1:=by unfold zR0; rw [bU (by omega)]
    have:=a1.at_
    rw [hn] at this
    have hul:=a1.ok.at_
    have:u.l.length=l.length:=by rw [a1.l,zcK5,htl]
    exact ⟨_,rfl,⟨(hA.trans (zbx9 hA.ok)).trans a1,by simp only [bX,List.length_singleton]; omega⟩,by simp only; omega⟩
   ·right
    rw [bU (by simpa using c)]
    exact ⟨_,rfl,by simp only; omega⟩) (t0,s0) ⟨l2.1,by have:=l2.2; have:=l2.1.ok.at_; simp only; omega⟩
 rw [m1,Option.bind_some]
 exact ⟨_,_,rfl,m2⟩
theorem zcw3 {l:List Int} (hl:l.length≤300):∃ c,zaf5 l=some c:=by
 unfold zaf5
 obtain ⟨r,k,h1,h2⟩:=zcF6 hl
 rw [h1,Option.bind_some]
 have hn:∃ v,zam0 r=some v:=by
  unfold zam0
  rw [zck8,Option.bind_some]
  split <;> exact ⟨_,rfl⟩
 obtain ⟨v,h3⟩:=hn
 simp only [h3,Option.bind_some]
 obtain ⟨c,h4⟩:=zcw1 v.1 k (by omega)
 rw [h4]; exact ⟨_,rfl⟩
def zar5 (x:aH):Option bC:=if x.bE=true then some ⟨x.aN,x.bF.bO,x.gen⟩ else none
theorem zbt2 {x:aH} {n:bC} (h:zar5 x=some n):x.bE=true∧n=⟨x.aN,x.bF.bO,x.gen⟩:=by
 unfold zar5 at h
 split at h
 ·rename_i c; cases h; exact ⟨c,rfl⟩
 ·cases h
theorem zdq9 {p q:aJ} (h:ltP p q):cmpP p q < 0:=by rw [zbv5,bV h]; decide
theorem zcF7:zX9 aD.zero=true:=by decide
theorem zdi3 {c:aZ} (h:CenP c):zX9 ⟨c.aF,c.aG.filterMap zar5⟩=true:=by
 have hfl:=fV zar5 c.aG
 have hl:=h.len
 have hmem:∀ n ∈ c.aG.filterMap zar5,∃ x ∈ c.aG,x.bE=true∧n=⟨x.aN,x.bF.bO,x.gen⟩:=fun n hn=>by
  obtain ⟨x,hx,e⟩:=fI.1 hn
  exact ⟨x,hx,zbt2 e⟩
 have hpw:(c.aG.filterMap zar5).Pairwise fun a b=>ltP a.aN b.aN:=by
  rw [List.pairwise_filterMap]
  refine h.asc.imp fun {a b} hab n hn m hm=>?_
  rw [(zbt2 hn).2,(zbt2 hm).2]
  exact hab
 unfold zX9
 simp only [bT,bY]
 refine ⟨⟨⟨(zam6 _).2 ⟨h.t.len,h.t.each,h.t.asc⟩,by omega⟩,?_⟩,?_⟩
 ·unfold zaH5
  rw [eJ]
  intro i hi
  rw [eG] at hi
  have gg:∀ k,(hk:k < (c.aG.filterMap zar5).length)→(c.aG.filterMap zar5).getD k bC.zero=(c.aG.filterMap zar5)[k]:=fun k hk=>by rw [bW,bZ hk]; rfl
  obtain ⟨x,hx,hw,e⟩:=hmem _ (zh6 (z:=bC.zero) hi)
  have hp:=h.each x hx
  unfold zaV9
  have hord:(decide (i=0)||decide (cmpP ((c.aG.filterMap zar5).getD (i - 1) bC.zero).aN ((c.aG.filterMap zar5).getD i bC.zero).aN < 0))=true:=by
   by_cases c0:i=0
   ·simp [c0]
   ·have:=dV.1 hpw (i - 1) i (by omega) hi (by omega)
    rw [gg _ (by omega),gg _ hi,cN (zdq9 this),hY]
  rw [hord,e]
  simp only [hp.pv,(hp.wait hw).1,cH,eV,bY,bT]
  exact hp.gen
 ·unfold zaH6
  refine eA (eD (zaV5 (zaC0 _)) (l₂:=c.aG.map (·.aN)) fun p hp=>?_) (by simpa using hl)
  rw [zai8,cI] at hp
  rcases hp with hp|hp
  ·obtain ⟨x,hx,e⟩:=h.aG p hp
   exact cQ.2 ⟨x,hx,e⟩
  ·obtain ⟨n,hn,e⟩:=cQ.1 hp
   obtain ⟨x,hx,_,e2⟩:=hmem n hn
   exact cQ.2 ⟨x,hx,by rw [← e,e2]⟩
theorem zcw4 (c:aZ):∃ s,zam1 c=some s∧zX9 s=true:=by
 unfold zam1
 obtain ⟨b,h1,h2⟩:=zbj2 c
 rw [h1,Option.bind_some]
 cases b with
 | false=>exact ⟨_,rfl,zcF7⟩
 | true =>
 have h:=h2 rfl
 have hl:=h.len; have hlq:=h.t.len
 rw [bU (by decide),gdp (by omega)]
 obtain ⟨x,l1,l2⟩:=zq3 (body:=zaD1 c) (fun g=>∃ k:Nat,g.1=k∧k≤c.aG.length∧g.2=⟨c.aF,(c.aG.take k).filterMap zar5⟩) (fun g=>c.aG.length - g.1.toNat) (fun x=>x=⟨c.aF,c.aG.filterMap zar5⟩)
  (fun g ⟨k,hk,hkl,hg⟩=>by
   obtain ⟨g1,s⟩:=g
   simp only at hk hg
   subst hk
   subst hg
   unfold zaD1
   by_cases cc:k < c.aG.length
   ·left
    have h3:0≤(k:Int)∧(k:Int) < (c.aG.length:Int):=by omega
    have hle:=fV zar5 (c.aG.take k)
    rw [dB] at hle
    simp only [h3.1,h3.2,cV,zm1,cC,cB,Int.toNat_natCast,zc4 k (show k < 4611686018427387904 by omega)]
    have e0:∀ x:aH,(c.aG.take k++[x]).filterMap zar5=(c.aG.take k).filterMap zar5++(match zar5 x with|some n=>[n]|none=>[]):=fun x=>by
     rw [List.filterMap_append]; simp only [List.filterMap_cons,List.filterMap_nil]; cases zar5 x <;> rfl
    rcases hb (c.aG.getD k aH.zero).bE with hw|hw
    ·rw [bV hw,gdp (by omega)]
     refine ⟨_,rfl,⟨k+1,rfl,cc,?_⟩,by simp only [Int.toNat_natCast]; omega⟩
     rw [zA7 aH.zero cc,e0]
     unfold zar5
     rw [bV hw]
    ·rw [bU (by rw [hw]; decide)]
     refine ⟨_,rfl,⟨k+1,rfl,cc,?_⟩,by simp only [Int.toNat_natCast]; omega⟩
     rw [zA7 aH.zero cc,e0]
     have:zar5 (c.aG.getD k aH.zero)=none:=by unfold zar5; rw [bU (by rw [hw]; decide)]
     rw [this,dT]
   ·right
    have e:k=c.aG.length:=by omega
    simp only [show ¬ (k:Int) < (c.aG.length:Int) by omega,cJ,bS,cA]
    exact ⟨_,rfl,by rw [e,eH]⟩) (0,⟨c.aF,[]⟩) ⟨0,rfl,by omega,rfl⟩
 rw [l1,Option.bind_some]
 exact ⟨x,rfl,by rw [l2]; exact zdi3 h⟩
theorem zcT6 {l:List Int} (hl:l.length≤300):∃ s,zap4 l=some s∧zX9 s=true:=by
 unfold zap4
 obtain ⟨c,h1⟩:=zcw3 hl
 rw [h1,Option.bind_some]
 obtain ⟨s,h2,h3⟩:=zcw4 c
 rw [h2]; exact ⟨s,rfl,h3⟩
abbrev room (l e:List Int):Prop:=l.length+e.length≤4294960000
theorem room.left {l a b:List Int} (h:room l (a++b)):room l a:=by unfold room at *; rw [bX] at h; omega
theorem room.right {l a b:List Int} (h:room l (a++b)):room (l++a) b:=by unfold room at *; rw [bX] at h ⊢; omega
theorem zaQ6 {l:List Int} {x:Int} (h:okI x) (hr:room l (encI x)):ze7 l (IntKind.u64.wrap x)=some (l++encI x)∧zH1 l (IntKind.u64.wrap x)=some (l++encI x):=by
 unfold room at hr
 obtain ⟨h0,h1⟩:=h
 rw [zav6 x h0 (by omega)]
 have:x=((x.toNat:Nat):Int):=(iC h0).symm
 unfold encI
 rw [this,Int.toNat_natCast]
 exact ⟨zce1 (by omega) (by omega),zbC9 (by omega) (by omega)⟩
theorem zby0 {l:List Int} {x:Int} (h:okI x) (hr:room l (encI x)):zav0 l x=some (l++encI x):=by
 unfold zav0
 rw [(zaQ6 h hr).2]; rfl
theorem zby1:∀ (xs:List Int) (l:List Int),(∀ x ∈ xs,okI x)→xs.length≤1000→room l (xs.flatMap encI)→zc3 l xs=some (l++xs.flatMap encI):=by
 intro xs l hx hlen hr
 unfold zc3
 have key:∀ k i (acc:List Int),i+k=xs.length→room acc ((xs.drop i).flatMap encI)→zc0 (zC8 xs) (acc,(i:Int))=some (acc++(xs.drop i).flatMap encI):=by
  intro k
  induction k with
  | zero =>
   intro i acc hi _
   have:i=xs.length:=by omega
   subst this
   rw [zf6,iV]
   unfold zC8
   rw [bU (by simp)]
   simp
  | succ k ih =>
   intro i acc hi hrm
   have hlt:i < xs.length:=by omega
   rw [zaA2 xs i 0 hlt] at hrm ⊢
   rw [fE] at hrm ⊢
   have hok:=hx _ (zh6 (z:=0) hlt)
   rw [zf6]
   unfold zC8
   simp only
   rw [bV (by simpa using hlt),gdp (by omega)]
   simp only [Int.toNat_natCast]
   rw [(zaQ6 hok hrm.left).1,Option.bind_some,zc4 i (by omega)]
   simp only
   have:=ih (i+1) (acc++encI (xs.getD i 0)) (by omega) hrm.right
   unfold zC8 at this
   rw [this,cE]
 have:=key xs.length 0 l (by omega) hr
 rw [show ((l,0):List Int×Int)=(l,((0:Nat):Int)) from rfl,this]
 rfl
theorem zcw5 {l:List Int} {s:ByteArray} (h:s.size≤1024) (hr:room l (encT s)):zj5 l s=some (l++encT s)∧zaH2 l s=some (l++encT s):=by
 have hr':=hr
 unfold room at hr'
 unfold zj5 zaH2
 unfold encT at hr hr' ⊢
 rw [bX,dS,zaZ6] at hr'
 rw [zav6 (s.size:Int) (by omega) (by omega),zcu1 (by omega) (by omega),zcu0 (by omega) (by omega),Option.bind_some,gdp (by rw [bX,zaZ6]; omega),cE]
 exact ⟨rfl,rfl⟩
theorem zby2 {l:List Int} {p:aJ} (h:zb6 p=true) (hr:room l (encP p)):zk3 l p=some (l++encP p)∧zbc4 l p=some (l++encP p):=by
 obtain ⟨k1,k2,k3⟩:=zaZ7 h
 unfold encP at hr ⊢
 have r1:=hr.left.left
 have r2:=hr.left.right
 have r3:=hr.right
 rw [← cE] at r3
 constructor
 ·unfold zk3
  have t1:∀ acc:List Int,room acc (encI p.site)→zw1 p (acc,0)=some (.inl (acc++encI p.site,1)):=fun acc ha=>by
   unfold zw1
   rw [bV (by simp),gdp (by simp)]
   show ((ze7 acc (IntKind.u64.wrap p.site)).bind fun v1=>some (Sum.inl (v1,IntKind.i64.wrap (0+1))))=_
   rw [(zaQ6 k1 ha).1]; rfl
  have t2:∀ acc:List Int,room acc (encI p.inc)→zw1 p (acc,1)=some (.inl (acc++encI p.inc,2)):=fun acc ha=>by
   unfold zw1
   rw [bV (by simp),gdp (by simp)]
   show ((ze7 acc (IntKind.u64.wrap p.inc)).bind fun v1=>some (Sum.inl (v1,IntKind.i64.wrap (1+1))))=_
   rw [(zaQ6 k2 ha).1]; rfl
  have t3:∀ acc:List Int,room acc (encI p.num)→zw1 p (acc,2)=some (.inl (acc++encI p.num,3)):=fun acc ha=>by
   unfold zw1
   rw [bV (by simp),gdp (by simp)]
   show ((ze7 acc (IntKind.u64.wrap p.num)).bind fun v1=>some (Sum.inl (v1,IntKind.i64.wrap (2+1))))=_
   rw [(zaQ6 k3 ha).1]; rfl
  have t4:∀ acc:List Int,zw1 p (acc,3)=some (.inr acc):=fun acc=>by
   unfold zw1
   rw [bU (by simp)]
  have hlen:l.length≤4294967296:=by unfold room at hr; omega
  rw [gdp hlen,bU (by simp [h]),zf6,t1 l r1]
  simp only
  rw [zf6,t2 _ r2]
  simp only
  rw [zf6,t3 _ r3]
  simp only
  rw [zf6,t4]
  simp only [cE]
  rfl
 ·unfold zbc4
  rw [zay9,bU (by simp [h]),(zaQ6 k1 r1).2,Option.bind_some,(zaQ6 k2 r2).2,Option.bind_some,(zaQ6 k3 r3).2]
  simp only [cE]
  rfl
theorem zcF8 {l:List Int} {a:aC} (h:okA a) (hr:room l (encA a)):zaL6 l a=some (l++encA a):=by
 unfold zaL6
 unfold encA at hr ⊢
 rw [zby0 h.1 hr.left,Option.bind_some,zby0 h.2 hr.right,cE]
 rfl
theorem zbt3 {l:List Int} {a:aC} (h:okA a) (hr:room l (encA a)):zc3 l [a.mode,a.aS]=some (l++encA a):=by
 have:[a.mode,a.aS].flatMap encI=encA a:=by simp [encA]
 rw [zby1 _ l (fun x hx=>by
  simp only [cF,fS,jM] at hx
  rcases hx with rfl|rfl
  ·exact h.1
  ·exact h.2) (by simp) (by rw [this]; exact hr),this]
theorem zaQ7 {l:List Int} {x:Int} (h:okI x) (hr:room l (encI x)):zc3 l [x]=some (l++encI x):=by
 have:[x].flatMap encI=encI x:=by simp
 rw [zby1 _ l (fun y hy=>by rw [dP.1 hy]; exact h) (by simp) (by rw [this]; exact hr),this]
theorem zau1 {α:Type} {body:List Int×Int→Option ((List Int×Int)⊕List Int)} {enc:α→List Int} {ok:α→Prop} (l:List α) (z:α) (hlen:l.length≤1000)
  (hs:∀ (i:Nat) acc,i < l.length→ok (l.getD i z)→room acc (enc (l.getD i z))→body (acc,(i:Int))=some (.inl (acc++enc (l.getD i z),((i+1:Nat):Int))))
  (he:∀ acc,body (acc,(l.length:Int))=some (.inr acc)) (hok:∀ x ∈ l,ok x) (acc:List Int) (hr:room acc (l.flatMap enc)):zc0 body (acc,0)=some (acc++l.flatMap enc):=by
 have key:∀ k i (acc:List Int),i+k=l.length→room acc ((l.drop i).flatMap enc)→zc0 body (acc,(i:Int))=some (acc++(l.drop i).flatMap enc):=by
  intro k
  induction k with
  | zero =>
   intro i acc hi _
   have:i=l.length:=by omega
   subst this
   rw [zf6,iV,he]
   simp
  | succ k ih =>
   intro i acc hi hrm
   have hlt:i < l.length:=by omega
   rw [zaA2 l i z hlt] at hrm ⊢
   rw [fE] at hrm ⊢
   rw [zf6,hs i acc hlt (hok _ (zh6 (z:=z) hlt)) hrm.left]
   simp only
   rw [ih (i+1) _ (by omega) hrm.right,cE]
 exact key l.length 0 acc (by omega) hr
theorem zbV9:∀ (n:Nat) (e:aO),_root_.SizeOf.sizeOf e < n→okE e=true→zn7 e≤24→∀ l,room l (encE e)→zH8 n l e=some (l++encE e)∧zaD2 n l e=some (l++encE e)
 | 0,_,h,_,_,_,_=>by omega
 | n+1,e,h,hok,hn,l,hr=>by
  show zF6 (zH8 n) l e=_∧zaL7 (zaD2 n) l e=_
  unfold zF6 zaL7
  have hl:=zC2 e.bA
  have hne:=zL0 e
  rw [zbK6] at hr ⊢
  by_cases c:e.bA.length=0
  ·obtain ⟨k0,k1,k2⟩:=(zbi5 c).1 hok
   have hk:okI e.k:=by rw [k0]; unfold okI; omega
   rw [zaQ7 hk hr.left,zby0 hk hr.left,Option.bind_some,Option.bind_some]
   have hr1:=hr.right
   rw [bV k0] at hr1 ⊢
   have ht:=zcw5 (by have:=zbl6 k1; omega) hr1.left
   rw [bV (by simpa using k0),bV (by simpa using k0),ht.1,ht.2,Option.bind_some,Option.bind_some,zbt3 (zbl5 k2) hr1.right,zcF8 (zbl5 k2) hr1.right]
   simp only [cE]
   exact ⟨rfl,rfl⟩
  ·obtain ⟨⟨k0,k1,k2⟩,k3⟩:=(zbi6 c).1 hok
   have hk:okI e.k:=by unfold okI; omega
   have kn:¬ e.k=0:=by omega
   rw [zaQ7 hk hr.left,zby0 hk hr.left,Option.bind_some,Option.bind_some]
   have hr1:=hr.right
   rw [bU kn] at hr1 ⊢
   have hc:okI (e.bA.length:Int):=by unfold okI; omega
   rw [bU (by simpa using kn),bU (by simpa using kn),zaQ7 hc hr1.left,zby0 hc hr1.left,Option.bind_some,Option.bind_some]
   have hF:∀ k ∈ e.bA,okE k=true∧zn7 k≤24∧_root_.SizeOf.sizeOf k < n:=fun k hk=>⟨zbx0 k3 hk,by have:=zaC1 hk; omega,zai7 h hk⟩
   have w1:=zau1 (body:=zJ3 (zH8 n) e) (enc:=encE) (ok:=fun k=>okE k=true∧zn7 k≤24∧_root_.SizeOf.sizeOf k < n) e.bA aO.zero (by omega) (fun i acc hi hx ha=>by
    unfold zJ3
    simp only
    rw [bV (by simpa using hi),gdp (by omega)]
    simp only [Int.toNat_natCast]
    rw [(zbV9 n _ hx.2.2 hx.1 hx.2.1 acc ha).1,Option.bind_some,zc4 i (by omega)]) (fun acc=>by unfold zJ3; simp) hF _ hr1.right
   have w2:=zau1 (body:=zas3 (zaD2 n) e) (enc:=encE) (ok:=fun k=>okE k=true∧zn7 k≤24∧_root_.SizeOf.sizeOf k < n) e.bA aO.zero (by omega) (fun i acc hi hx ha=>by
    unfold zas3
    simp only
    rw [bV (by simpa using hi),gdp (by omega)]
    simp only [Int.toNat_natCast]
    rw [(zbV9 n _ hx.2.2 hx.1 hx.2.1 acc ha).2,Option.bind_some,zc4 i (by omega)]) (fun acc=>by unfold zas3; simp) hF _ hr1.right
   rw [w1,w2]
   simp only [cE]
   exact ⟨rfl,rfl⟩
theorem zcT7 {q:aA} (h:OkQ q) {l:List Int} (hr:room l (encQ q)):zl6 l q=some (l++encQ q):=by
 have lh:=h.lh; have lc:=h.lc; have lw:=h.lw
 have o1:okI (q.aR.length:Int):=by unfold okI; omega
 have o2:okI (q.aL.length:Int):=by unfold okI; omega
 have o3:okI (q.aV.length:Int):=by unfold okI; omega
 unfold zl6
 unfold encQ at hr ⊢
 rw [(zcw5 h.name hr.left).1,Option.bind_some]
 replace hr:=hr.right
 have e5:[q.aB.kind,q.aB.aS,q.aB.home,q.gen,(q.aR.length:Int)].flatMap encI=encI q.aB.kind++(encI q.aB.aS++(encI q.aB.home++(encI q.gen++encI (q.aR.length:Int)))):=by simp
 have hr5:room (l++encT q.aB.name) ([q.aB.kind,q.aB.aS,q.aB.home,q.gen,(q.aR.length:Int)].flatMap encI):=by
  rw [e5]; unfold room at hr ⊢; simp only [bX] at hr ⊢; omega
 rw [zby1 _ _ (fun x hx=>by
  simp only [cF,fS,jM] at hx
  rcases hx with rfl|rfl|rfl|rfl|rfl
  ·exact h.kind
  ·exact h.aS
  ·exact h.home
  ·exact h.gen
  ·exact o1) (by simp) hr5,Option.bind_some,e5]
 replace hr:=hr.right.right.right.right.right
 have assoc:l++encT q.aB.name++encI q.aB.kind++encI q.aB.aS++encI q.aB.home++encI q.gen++encI (q.aR.length:Int)=l++encT q.aB.name++(encI q.aB.kind++(encI q.aB.aS++(encI q.aB.home++(encI q.gen++encI (q.aR.length:Int))))):=by simp only [cE]
 rw [assoc] at hr
 have w3:=zau1 (body:=zI2 q) (enc:=encH) (ok:=fun x=>zb6 x.aN=true∧okA x.aK) q.aR aU.zero (by omega) (fun i acc hi hx ha=>by
  unfold encH at ha ⊢
  unfold zI2
  simp only
  rw [bV (by simpa using hi),gdp (by omega)]
  simp only [Int.toNat_natCast]
  rw [(zby2 hx.1 ha.left).1,Option.bind_some,zbt3 hx.2 ha.right,Option.bind_some,zc4 i (by omega),cE]) (fun acc=>by unfold zI2; simp) h.h _ hr.left
 rw [w3,Option.bind_some]
 replace hr:=hr.right
 unfold zR9
 rw [zaQ7 o2 hr.left,Option.bind_some]
 replace hr:=hr.right
 have w2:=zau1 (body:=zI1 q) (enc:=encC) (ok:=fun x=>zb6 x.aN=true∧okA x.aK∧x.bG=0∧x.bQ=0) q.aL aT.zero (by omega) (fun i acc hi hx ha=>by
  unfold encC at ha ⊢
  unfold zI1
  simp only
  rw [bV (by simpa using hi),gdp (by omega)]
  simp only [Int.toNat_natCast]
  rw [(zby2 hx.1 ha.left).1,Option.bind_some,zbt3 hx.2.1 ha.right,Option.bind_some,zc4 i (by omega),cE]) (fun acc=>by unfold zI1; simp) h.c _ hr.left
 rw [w2,Option.bind_some]
 replace hr:=hr.right
 unfold zR8
 rw [zaQ7 o3 hr.left,Option.bind_some]
 replace hr:=hr.right
 have w1:=zau1 (body:=zI0 q) (enc:=encW) (ok:=fun x=>zb6 x.aN=true∧okA x.aK∧okI x.bG∧okI x.bQ) q.aV aT.zero (by omega) (fun i acc hi hx ha=>by
  have e4:∀ w:aT,[w.aK.mode,w.aK.aS,w.bG,w.bQ].flatMap encI=encA w.aK++(encI w.bG++encI w.bQ):=fun w=>by simp [encA]
  unfold encW at ha ⊢
  rw [cE,cE] at ha ⊢
  unfold zI0
  simp only
  rw [bV (by simpa using hi),gdp (by omega)]
  simp only [Int.toNat_natCast]
  rw [(zby2 hx.1 ha.left).1,Option.bind_some,zby1 _ _ (fun y hy=>by
   simp only [cF,fS,jM] at hy
   rcases hy with rfl|rfl|rfl|rfl
   ·exact hx.2.1.1
   ·exact hx.2.1.2
   ·exact hx.2.2.1
   ·exact hx.2.2.2) (by simp) (by rw [e4]; exact ha.right),Option.bind_some,zc4 i (by omega),e4]
  simp only [cE]) (fun acc=>by unfold zI0; simp) h.w _ hr
 rw [w1,Option.bind_some]
 unfold zae3
 simp only [cE]
theorem zbm7 (s:aD):zw4 s=some (if zX9 s=true then (encS s,0) else ([],2)):=by
 unfold zw4
 rw [zO3,Option.bind_some]
 cases hv:zX9 s with
 | false=>rfl
 | true =>
  have h:=(zaW0 hv).1
  have lq:=h.lq; have ln:=h.ln
  have hlen:=zcL0 h
  have hr:room [] (encS s):=by unfold room; simp; omega
  simp only [cK,bS,cA,cB]
  unfold encS at hr ⊢
  rw [zaQ7 (by unfold okI; omega) hr.left,Option.bind_some]
  replace hr:=hr.right
  have w2:=zau1 (body:=zM5 s) (enc:=encQ) (ok:=OkQ) s.aF aA.zero (by omega) (fun i acc hi hx ha=>by
   unfold zM5
   simp only
   rw [bV (by simpa using hi),gdp (by omega)]
   simp only [Int.toNat_natCast]
   rw [zcT7 hx ha,Option.bind_some,zc4 i (by omega)]) (fun acc=>by unfold zM5; simp) h.q _ hr.left
  rw [w2,Option.bind_some]
  replace hr:=hr.right
  unfold zY1
  rw [zaQ7 (by unfold okI; omega) hr.left,Option.bind_some]
  replace hr:=hr.right
  have w1:=zau1 (body:=zM4 s) (enc:=encN) (ok:=fun n=>zb6 n.aN=true∧okI n.gen∧okE n.bO=true∧fitE n.bO=true) s.aQ bC.zero (by omega) (fun i acc hi hx ha=>by
   have hf:=hx.2.2.2
   unfold fitE at hf
   simp only [bT,bY] at hf
   unfold encN at ha ⊢
   unfold zM4
   simp only
   rw [bV (by simpa using hi),gdp (by omega)]
   simp only [Int.toNat_natCast]
   rw [(zby2 hx.1 ha.left).1,Option.bind_some,zaQ7 hx.2.1 ha.right.left,Option.bind_some]
   unfold zj8
   rw [(zbV9 _ _ (dW _) hx.2.2.1 hf.2 _ ha.right.right).1,Option.bind_some,zc4 i (by omega)]
   simp only [cE]) (fun acc=>by unfold zM4; simp) h.n _ hr
  rw [w1,Option.bind_some]
  unfold zaj3
  simp only [cE,List.nil_append]
theorem zav8 {X:Type} {body:Int→Option (Int⊕(Unit⊕X))} (n:Nat) (h:∀ i:Nat,i < n→body (i:Int)=some (.inl ((i:Int)+1))) (he:body (n:Int)=some (.inr (.inl ()))):zc0 body 0=some (.inl ()):=by
 rw [zJ0 n (fun _=>none) (Sum.inl ()) (fun i hi=>h i hi) he]
 have:∀ k i,zS5 (fun _:Nat=>(none:Option (Unit⊕X))) k i=none:=by
  intro k
  induction k with
  | zero=>intro i; rfl
  | succ k ih=>intro i; simp only [zS5]; exact ih (i+1)
 rw [this]; rfl
theorem zbp1:∀ (n:Nat) (e:aO),_root_.SizeOf.sizeOf e < n→zn7 e≤24→zR7 n e e=some true
 | 0,_,h,_=>by omega
 | n+1,e,h,hn=>by
  show zB7 (zR7 n) e e=_
  have hl:=zC2 e.bA
  have hne:=zL0 e
  unfold zB7
  rw [bU (by simp),zav8 e.bA.length (fun i hi=>by
   unfold zT4
   have hk:=zh6 (z:=aO.zero) hi
   rw [bV (by simpa using hi),gdp (by omega),gdp (by omega)]
   simp only [Int.toNat_natCast]
   rw [zbp1 n _ (zai7 h hk) (by have:=zaC1 hk; omega),Option.bind_some,bU (by simp),zf5 (by omega) (by omega)]) (by unfold zT4; simp)]
  rfl
theorem zaN9:∀ (n:Nat) (e:aO),_root_.SizeOf.sizeOf e < n→zn7 e≤24→zA3 n e e=some true
 | 0,_,h,_=>by omega
 | n+1,e,h,hn=>by
  show zD0 (zA3 n) e e=_
  have hl:=zC2 e.bA
  have hne:=zL0 e
  unfold zD0
  rw [bV (by simp)]
  unfold za0
  rw [bU (by simp),zav8 e.bA.length (fun i hi=>by
   unfold zo4
   have hk:=zh6 (z:=aO.zero) hi
   rw [bV (by simpa using hi),gdp (by omega),gdp (by omega)]
   simp only [Int.toNat_natCast]
   rw [zaN9 n _ (zai7 h hk) (by have:=zaC1 hk; omega),Option.bind_some,bU (by simp),zf5 (by omega) (by omega)]) (by unfold zo4; simp)]
  show some ((decide (e.k=e.k)&&decide (e.bB=e.bB))&&true)=_
  simp
theorem zcT8 {s:aD} (h:OkS s):zt0 s s=some true:=by
 have lq:=h.lq; have ln:=h.ln
 unfold zt0
 rw [zbZ0 _ _ (by omega) (fun q hq=>by have:=h.q q hq; have:=this.lh; have:=(h.q q hq).lc; have:=(h.q q hq).lw; omega),Option.bind_some,bU (by simp)]
 rw [zav8 s.aQ.length (fun i hi=>by
  have hn:=h.n _ (zh6 (z:=bC.zero) hi)
  have hf:=hn.2.2.2
  unfold fitE at hf
  simp only [bT,bY] at hf
  unfold zas2
  rw [bV (by simpa using hi),gdp (by omega),gdp (by omega)]
  simp only [Int.toNat_natCast]
  have:zi5 (s.aQ.getD i bC.zero) (s.aQ.getD i bC.zero)=some true:=by
   unfold zi5
   rw [bV (by simp)]
   unfold zg1
   rw [zbp1 _ _ (dW _) hf.2,Option.bind_some]
   simp
  rw [this,Option.bind_some,bU (by simp),zf5 (by omega) (by omega)]) (by unfold zas2; simp)]
 rfl
def zbW0:aM:=⟨⟨#[97]⟩,{ aC.zero with mode:=5 }⟩
def zbc8:aO:={ aO.zero with bB:=zbW0 }
def zbp2:aJ:=⟨0,1,1⟩
def zaG4:bC:=⟨zbp2,zbc8,3⟩
def zH4:aD:=⟨[],[zaG4]⟩
theorem zdE4:zX5 zbc8.bB.name=true:=by kernel_rfl
theorem zcL5:zn7 zbc8=1:=by rw [zL0]; show 1+zw8 []=1; rw [zaZ3]; rfl
theorem zdr0:zq2 zbc8=1:=by rw [zaV8]; show 1+zt1 []=1; rw [zbs4]; rfl
theorem vE_A:vE zbc8=true:=by
 unfold vE fitE
 rw [zcL5,zdr0,(zcd9 zbc8).2 ⟨[zbW0],by rw [zbC8 rfl,bV ⟨rfl,zdE4,by decide⟩]; rfl,by decide,iL _ _⟩]
 rfl
theorem zby3:zX9 zH4=true:=by
 unfold zX9
 have h1:zaz1 zH4.aF=true:=by decide
 have h2:zaH5 zH4.aQ=true:=by
  unfold zaH5
  show (([0]:List Nat).all fun i=>zaV9 [zaG4] i ([zaG4].getD i bC.zero))=true
  simp only [List.all_cons,List.all_nil,eV]
  show zaV9 [zaG4] 0 zaG4=true
  unfold zaV9
  have:vE zaG4.bO=true:=vE_A
  rw [this]
  decide
 have h3:(zaH6 zH4).length≤8:=by
  have:=zbC2 (zE0 zH4.aF++zH4.aQ.map (·.aN))
  have h4:(zE0 zH4.aF++zH4.aQ.map (·.aN)).length=1:=rfl
  unfold zaH6
  omega
 rw [h1,h2]
 simp [h3]
 decide
theorem zcL6:zU8=some true:=by
 have hp:zp1 0=some zbp2:=by rw [zaZ1]; rfl
 have hE:zw4 zH4=some (encS zH4,0):=by rw [zbm7,zby3]; rfl
 have ok:=(zaW0 zby3).1
 have hD:zw5 (encS zH4)=some (zH4,0):=by
  rw [zcu4 ok (by have:=zcL0 ok; omega),zby3]; rfl
 have hpl:zp2 zH4.aQ zbp2=some 0:=by
  unfold zp2 zc2
  rw [zf6]
  have:zp0 zH4.aQ (0,zbp2)=some (.inr (.inr (0,zbp2))):=by
   unfold zp0
   rw [bV (by decide),gdp (by decide)]
   unfold zg5
   rw [zaf6]
   rfl
  rw [this]
  rfl
 have hN:zz8 zH4 zbp2=some (zaG4,true):=by
  unfold zz8
  rw [hpl,Option.bind_some,bV (by decide),gdp (by decide)]
  have:zd1 zaG4=some zaG4:=by
   unfold zd1 zd4
   show (zt4 _ zbc8).bind _=_
   unfold zt4
   rw [zf6]
   unfold zF9
   rfl
  show (zd1 zaG4).bind _=_
  rw [this]
  rfl
 have hG:zA1 zH4 zbp2=some [true]:=by
  unfold zA1
  rw [hpl,Option.bind_some,bV (by decide),zO3,zby3,Option.bind_some,bU (by decide),gdp (by decide)]
  have:zC4 zbc8=some [zbW0]:=by
   unfold zC4
   rw [zbU4,vE_A,Option.bind_some,bU (by decide)]
   unfold zq7
   show (zA5 _ zbc8).bind _=_
   unfold zA5
   rw [bV (by decide)]
   have:zb0 [] zbc8.bB=some false:=by
    unfold zb0 zb3
    rw [zf6]
    unfold zG0
    rfl
   rw [this]
   rfl
  show (zC4 zbc8).bind _=_
  rw [this,Option.bind_some,zf6]
  have hf:zk0 zH4.aF zbW0.name=some (-1):=by
   unfold zk0
   rw [zf6]
   unfold zah9
   rfl
  have h1:zD8 zH4 zbp2 [zbW0] (0,[])=some (.inl (1,[true])):=by
   unfold zD8
   rw [bV (by decide),gdp (by decide)]
   show (zk0 zH4.aF zbW0.name).bind _=_
   rw [hf]
   rfl
  have h2:zD8 zH4 zbp2 [zbW0] (1,[true])=some (.inr [true]):=by
   unfold zD8
   rfl
  rw [h1]
  simp only
  rw [zf6,h2]
  rfl
 have hS:zz6 zH4 zH4=some true:=by
  unfold zz6
  have q:zb7 zH4.aF zH4.aF=some true:=by
   unfold zb7
   rw [bU (by simp),zav8 0 (fun i hi=>by omega) (by unfold zr8; rfl)]
   rfl
  have n:za5 zH4.aQ zH4.aQ=some true:=by
   unfold za5
   have sn:zf0 zaG4 zaG4=some true:=by
    unfold zf0
    rw [bV (by simp)]
    unfold ze9
    have:zA3 (_root_.SizeOf.sizeOf zaG4.bO+1) zaG4.bO zaG4.bO=some true:=zaN9 _ _ (dW _) (by show zn7 zbc8≤24; rw [zcL5]; decide)
    rw [this,Option.bind_some]
    simp
   rw [bU (by simp),zav8 1 (fun i hi=>by
    have:i=0:=by omega
    subst this
    unfold zo6
    rw [bV (by decide),gdp (by decide),gdp (by decide)]
    show (zf0 zaG4 zaG4).bind _=_
    rw [sn]
    rfl) (by unfold zo6; rfl)]
   rfl
  rw [q,Option.bind_some,bV rfl,n]
  rfl
 have hP:zt7 zH4=some [zbp2]:=by
  rw [zaN4 zH4 (by decide) (by decide)]
  rfl
 unfold zU8
 rw [hp,Option.bind_some]
 show (zw4 zH4).bind _=_
 rw [hE,Option.bind_some]
 simp only [hD,Option.bind_some,hN,hG,cC,fU,cB]
 show (zz6 zH4 zH4).bind _=_
 rw [hS,Option.bind_some]
 simp only [fU,cB,zO3,zby3,Option.bind_some]
 rw [gdp (by simp)]
 simp [hP]
def zdt2 (l:List bC) (p:aJ) (i:Nat):Prop:=i < l.length∧(l.getD i bC.zero).aN=p∧∀ j,j < i→(l.getD j bC.zero).aN≠p
theorem zcf1 {p q:aJ}:cmpP p q=0 ↔ p=q:=by
 rw [zbv5]
 constructor
 ·intro h
  by_cases e:p=q
  ·exact e
  ·rcases zav2 e with c|c
   ·rw [bV c] at h; cases h
   ·rw [bU (zbk2 c),bV c] at h; cases h
 ·rintro rfl
  have:=zab9 p
  rw [bU this,bU this]
theorem zdi4 (l:List bC) (p:aJ) (hl:l.length≤1000):∃ v,zp2 l p=some v∧((v < 0∧∀ j,j < l.length→(l.getD j bC.zero).aN≠p)∨∃ i:Nat,v=i∧zdt2 l p i):=by
 unfold zp2 zc2
 obtain ⟨x,h1,h2⟩:=zq3 (body:=zp0 l) (fun g=>g.2=p∧∃ k:Nat,g.1=k∧k≤l.length∧∀ j,j < k→(l.getD j bC.zero).aN≠p) (fun g=>l.length - g.1.toNat)
  (fun x=>match x with|.inl _=>∀ j,j < l.length→(l.getD j bC.zero).aN≠p|.inr v=>∃ i:Nat,v.1=i∧zdt2 l p i) (fun g ⟨hp,k,hg,hk,hn⟩=>by
   obtain ⟨g1,g2⟩:=g
   simp only at hp hg
   subst hp; subst hg
   unfold zp0
   by_cases c:k < l.length
   ·rw [bV (by simpa using c),gdp (by simp only; omega)]
    unfold zg5
    rw [zaf6,Option.bind_some,Option.bind_some]
    simp only [Int.toNat_natCast]
    by_cases e:(l.getD k bC.zero).aN=g2
    ·rw [bV (by simpa using zcf1.2 e)]
     exact .inr ⟨_,rfl,k,rfl,c,e,hn⟩
    ·rw [bU (by simpa using fun h=>e (zcf1.1 h)),zc4 k (by omega)]
     exact .inl ⟨_,rfl,⟨rfl,k+1,rfl,c,fun j hj=>by
      by_cases h:j=k
      ·rw [h]; exact e
      ·exact hn j (by omega)⟩,by simp only [Int.toNat_natCast]; omega⟩
   ·rw [bU (by simpa using c)]
    exact .inr ⟨_,rfl,fun j hj=>hn j (by omega)⟩) (0,p) ⟨rfl,0,rfl,by omega,fun j hj=>by omega⟩
 rw [h1,Option.bind_some]
 cases x with
 | inl z=>exact ⟨-1,rfl,.inl ⟨by decide,h2⟩⟩
 | inr z =>
  obtain ⟨i,h3,h4⟩:=h2
  exact ⟨z.1,rfl,.inr ⟨i,h3,h4⟩⟩
theorem zcw6 (l:List aU) (h:l.length≤1000):za8 l l=some true:=by
 unfold za8
 rw [bU (by simp),zav8 l.length (fun i hi=>by
  unfold zy1
  rw [bV (by simpa using hi),gdp (by omega),gdp (by omega),bU (by simp),zf5 (by omega) (by omega)]) (by unfold zy1; simp)]
 rfl
theorem zbH0 (l:List aT) (h:l.length≤1000):za6 l l=some true:=by
 unfold za6
 rw [bU (by simp),zav8 l.length (fun i hi=>by
  unfold zy0
  rw [bV (by simpa using hi),gdp (by omega),gdp (by omega),bU (by simp),zf5 (by omega) (by omega)]) (by unfold zy0; simp)]
 rfl
theorem zcw7 (l:List aT) (h:l.length≤1000):za1 l l=some true:=by
 unfold za1
 rw [bU (by simp),zav8 l.length (fun i hi=>by
  unfold zo5
  rw [bV (by simpa using hi),gdp (by omega),gdp (by omega),bU (by unfold zO8; simp),zf5 (by omega) (by omega)]) (by unfold zo5; simp)]
 rfl
theorem zbW1 {q:aA} (h:OkQ q):zi1 q q=some true:=by
 have l1:=h.lh; have l2:=h.lc; have l3:=h.lw
 unfold zi1 zg2
 simp [zcw6 q.aR (by omega),zbH0 q.aL (by omega),zbH0 q.aV (by omega),zcw7 q.aV (by omega)]
theorem zba4 (l:List bC):zaH5 l=true ↔ (∀ n ∈ l,zb6 n.aN=true∧vE n.bO=true∧0≤n.gen∧n.gen≤1073741824)∧l.Pairwise fun a b=>ltP a.aN b.aN:=by
 have gg:∀ k,(hk:k < l.length)→l.getD k bC.zero=l[k]:=fun k hk=>by rw [bW,bZ hk]; rfl
 have hlt:∀ p q:aJ,cmpP p q < 0 ↔ ltP p q:=fun p q=>by
  have:=zaF9 p q
  constructor
  ·intro h; by_cases c:ltP p q
   ·exact c
   ·have:=this.2 c; omega
  ·intro h
   have:¬ 0≤cmpP p q:=fun c=>this.1 c h
   omega
 unfold zaH5
 rw [eJ]
 constructor
 ·intro h
  have hi:∀ i,i < l.length→zaV9 l i (l.getD i bC.zero)=true:=fun i hi=>h i (eG.2 hi)
  refine ⟨fun n hn=>?_,?_⟩
  ·obtain ⟨i,k,e⟩:=eO hn
   have:=hi i k
   rw [gg i k,e] at this
   unfold zaV9 at this
   simp only [bT,bY] at this
   exact ⟨this.1.1.1.1,this.1.1.1.2,this.1.1.2,this.1.2⟩
  ·have step:∀ i,(k:i+1 < l.length)→ltP l[i].aN l[i+1].aN:=fun i k=>by
    have:=hi (i+1) k
    unfold zaV9 at this
    simp only [bT,bY,dQ,Nat.add_sub_cancel] at this
    rw [gg (i+1) k,gg i (by omega)] at this
    rcases this.2 with c|c
    ·omega
    ·exact (hlt _ _).1 c
   have far:∀ d i,(k:i+d+1 < l.length)→ltP l[i].aN l[i+d+1].aN:=by
    intro d
    induction d with
    | zero=>intro i k; exact step i k
    | succ d ih=>intro i k; exact zav1 (ih i (by omega)) (step (i+d+1) k)
   rw [dV]
   intro i j h1 h2 h3
   have:=far (j - i - 1) i (by omega)
   have e:i+(j - i - 1)+1=j:=by omega
   simp only [e] at this
   exact this
 ·rintro ⟨h1,h2⟩ i hi
  rw [eG] at hi
  obtain ⟨a,b,c,d⟩:=h1 _ (zh6 (z:=bC.zero) hi)
  unfold zaV9
  have hord:(decide (i=0)||decide (cmpP (l.getD (i - 1) bC.zero).aN (l.getD i bC.zero).aN < 0))=true:=by
   by_cases c0:i=0
   ·simp [c0]
   ·have:=dV.1 h2 (i - 1) i (by omega) hi (by omega)
    rw [gg _ (by omega),gg _ hi,cN ((hlt _ _).2 this),hY]
  rw [hord,a,b,cN c,cN d]
  rfl
theorem zbW2 {s t:aD} (h:zX9 s=true) (hq:t.aF.Sublist s.aF) (hn:t.aQ.Sublist s.aQ):zX9 t=true:=by
 unfold zX9 at h ⊢
 simp only [bT,bY] at h ⊢
 obtain ⟨⟨⟨h1,h2⟩,h3⟩,h4⟩:=h
 obtain ⟨p1,p2,p3⟩:=(zam6 _).1 h1
 obtain ⟨n1,n2⟩:=(zba4 _).1 h3
 have lq:=hq.length_le; have ln:=hn.length_le
 have p2':∀ q ∈ t.aF,zj0 q=true:=fun q hm=>p2 q (hq.subset hm)
 refine ⟨⟨⟨(zam6 _).2 ⟨by omega,p2',p3.sublist hq⟩,by omega⟩,(zba4 _).2 ⟨fun n hm=>n1 n (hn.subset hm),n2.sublist hn⟩⟩,?_⟩
 refine eA (eD (zaV5 (zaC0 _)) (l₂:=zaH6 s) fun p hp=>?_) h4
 unfold zaH6 at hp ⊢
 rw [zai8,cI] at hp
 rw [zai8,cI]
 rcases hp with hp|hp
 ·obtain ⟨q,hm,hh⟩:=(zat9 p2').1 hp
  exact .inl ((zat9 p2).2 ⟨q,hq.subset hm,hh⟩)
 ·exact .inr ((hn.map _).subset hp)
open Go.Lib
theorem zby4:∀ (n:Nat) (e:aO),_root_.SizeOf.sizeOf e < n→zn7 e≤24→zC7 n e=some e
 | 0,_,h,_=>by omega
 | n+1,e,h,hn=>by
  show zt4 (zC7 n) e=_
  have hl:=zC2 e.bA
  have hne:=zL0 e
  unfold zt4
  obtain ⟨x,h1,h2⟩:=zq3 (body:=zF9 (zC7 n) e) (fun g=>∃ k:Nat,g.1=k∧k≤e.bA.length∧g.2=e.bA.take k) (fun g=>e.bA.length - g.1.toNat) (fun x=>x=e.bA)
   (fun g ⟨k,hg,hk,hs⟩=>by
    obtain ⟨g1,g2⟩:=g
    simp only at hg hs
    subst hg; subst hs
    unfold zF9
    simp only [Int.toNat_natCast]
    by_cases c:k < e.bA.length
    ·have hm:=zh6 (z:=aO.zero) c
     have hlt:=iY k e.bA
     rw [bV (by simpa using c),gdp (by omega),zby4 n _ (zai7 h hm) (by have:=zaC1 hm; omega),Option.bind_some,gdp (by omega),zc4 k (by omega),← zA7 aO.zero c]
     exact .inl ⟨_,rfl,⟨k+1,rfl,c,rfl⟩,by simp only [Int.toNat_natCast]; omega⟩
    ·rw [bU (by simpa using c)]
     exact .inr ⟨_,rfl,cX (by omega)⟩) (0,[]) ⟨0,rfl,by omega,rfl⟩
  rw [h1,Option.bind_some]
  unfold zab4
  rw [h2]
  exact cP some (by cases e; rfl)
theorem zby5 {n:bC} (h:vE n.bO=true):zd1 n=some n:=by
 have hf:=(zcu5 h).2
 unfold fitE at hf
 simp only [bT,bY] at hf
 unfold zd1 zd4
 rw [zby4 _ _ (dW _) hf.2]
 rfl
theorem zbp3 {q:aA} (h:OkQ q):zd6 q=some q:=by
 have l1:=h.lh; have l2:=h.lc; have l3:=h.lw
 unfold zd6 za9 za7
 rw [gdp (by omega),gdp (by omega),gdp (by omega)]
 rfl
theorem zcT9 {s:aD} (ok:OkS s) (hv:∀ n ∈ s.aQ,vE n.bO=true):zi9 s=some s:=by
 have lq:=ok.lq; have ln:=ok.ln
 unfold zi9
 obtain ⟨x,h1,h2⟩:=zq3 (body:=zU0 s) (fun g=>∃ k:Nat,g.1=k∧k≤s.aF.length∧g.2=⟨s.aF.take k,[]⟩) (fun g=>s.aF.length - g.1.toNat) (fun x=>x=⟨s.aF,[]⟩)
  (fun g ⟨k,hg,hk,hs⟩=>by
   obtain ⟨g1,g2⟩:=g
   simp only at hg hs
   subst hg; subst hs
   unfold zU0
   simp only [Int.toNat_natCast]
   by_cases c:k < s.aF.length
   ·have hlt:=iY k s.aF
    rw [bV (by simpa using c),gdp (by omega),zbp3 (ok.q _ (zh6 c)),Option.bind_some,gdp (by omega),zc4 k (by omega),← zA7 aA.zero c]
    exact .inl ⟨_,rfl,⟨k+1,rfl,c,rfl⟩,by simp only [Int.toNat_natCast]; omega⟩
   ·rw [bU (by simpa using c)]
    exact .inr ⟨_,rfl,by rw [cX (by omega)]⟩) (0,⟨[],[]⟩) ⟨0,rfl,by omega,rfl⟩
 rw [h1,Option.bind_some,h2]
 unfold zT9
 obtain ⟨y,k1,k2⟩:=zq3 (body:=zT8 s) (fun g=>∃ k:Nat,g.1=k∧k≤s.aQ.length∧g.2=⟨s.aF,s.aQ.take k⟩) (fun g=>s.aQ.length - g.1.toNat) (fun x=>x=s)
  (fun g ⟨k,hg,hk,hs⟩=>by
   obtain ⟨g1,g2⟩:=g
   simp only at hg hs
   subst hg; subst hs
   unfold zT8
   simp only [Int.toNat_natCast]
   by_cases c:k < s.aQ.length
   ·have hlt:=iY k s.aQ
    rw [bV (by simpa using c),gdp (by omega),zby5 (hv _ (zh6 c)),Option.bind_some,gdp (by omega),zc4 k (by omega),← zA7 bC.zero c]
    exact .inl ⟨_,rfl,⟨k+1,rfl,c,rfl⟩,by simp only [Int.toNat_natCast]; omega⟩
   ·rw [bU (by simpa using c)]
    exact .inr ⟨_,rfl,by rw [cX (by omega)]⟩) (0,⟨s.aF,[]⟩) ⟨0,rfl,by omega,rfl⟩
 rw [k1,Option.bind_some,k2]
 rfl
theorem zbt4 {s:aD} (h:zX9 s=true):s.aF.length≤8∧(∀ q ∈ s.aF,zj0 q=true)∧AscN s.aF∧s.aQ.length≤8∧zaH5 s.aQ=true∧(zaH6 s).length≤8:=by
 unfold zX9 at h
 simp only [bT,bY] at h
 obtain ⟨h1,h2,h3⟩:=(zam6 _).1 h.1.1.1
 exact ⟨h1,h2,h3,h.1.1.2,h.1.2,h.2⟩
theorem zcL7 {t:List aA} (h:AscN t) {x y:aA} (hx:x ∈ t) (hy:y ∈ t) (e:x.aB.name=y.aB.name):x=y:=by
 obtain ⟨i,hi,rfl⟩:=eO hx
 obtain ⟨j,hj,rfl⟩:=eO hy
 have g:∀ k,(hk:k < t.length)→t.getD k aA.zero=t[k]:=fun k hk=>by rw [bW,bZ hk]; rfl
 have:=zbK4 h hi hj (by rw [g i hi,g j hj]; exact e)
 subst this; rfl
theorem zcL8 {t:List bC} (h:t.Pairwise fun a b=>ltP a.aN b.aN) {x y:bC} (hx:x ∈ t) (hy:y ∈ t) (e:x.aN=y.aN):x=y:=by
 obtain ⟨i,hi,rfl⟩:=eO hx
 obtain ⟨j,hj,rfl⟩:=eO hy
 have hp:=dV.1 h
 rcases jI i j with h1|h1|h1
 ·have:=hp i j hi hj h1; rw [e] at this; exact absurd this (zab9 _)
 ·subst h1; rfl
 ·have:=hp j i hj hi h1; rw [e] at this; exact absurd this (zab9 _)
theorem zcF9 {t:List aA} {nm:ByteArray} (h:zz1 t nm < 0):∀ q ∈ t,q.aB.name≠nm:=by
 intro q hq e
 unfold zz1 at h
 cases hf:t.findIdx? (isN nm) with
 | some k=>rw [hf] at h; simp only at h; omega
 | none =>
  have:=iA.1 hf q hq
  rw [dY] at this
  exact this (zck2.2 e)
theorem zdt3:∀ {x y:List UInt8},Op.bytesLess x y=true→compareBytes x y < 0
 | [],[],h=>by simp [Op.bytesLess] at h
 | [],_ :: _,_=>by simp [compareBytes]
 | _ :: _,[],h=>by simp [Op.bytesLess] at h
 | a :: x,b :: y,h=>by
  simp only [Op.bytesLess,dQ,bT,bY,dG] at h
  unfold compareBytes
  rcases h with h|⟨h1,h2⟩
  ·rw [bV h]; decide
  ·subst h1
   rw [bU (UInt8.lt_irrefl a),bU (UInt8.lt_irrefl a)]
   exact zdt3 h2
theorem zcf2 {α:Type} {s l:List α} (cf:α→α→Int) (an:∀ x y,cf y x=- cf x y) (tr:∀ x y z,cf x y≤0→cf y z≤0→cf x z≤0) (hs:s.Pairwise fun x y=>cf x y < 0) (hp:l.Perm s) :
  (l.Pairwise fun x y=>cf x y < 0∨cf y x < 0)∧(l.mergeSort fun x y=>!decide (cf y x < 0))=s:=by
 have hsr:s.Pairwise fun x y=>cf x y < 0∨cf y x < 0:=hs.imp fun h=>.inl h
 refine ⟨(hp.pairwise_iff fun h=>h.symm).2 hsr,?_⟩
 have le:∀ x y,(!decide (cf y x < 0))=true ↔ cf x y≤0:=fun x y=>by
  have:=an x y
  simp only [cS,cW]; omega
 refine List.Perm.eq_of_pairwise (le:=fun x y=>(!decide (cf y x < 0))=true) ?_ ?_ ?_ ((iE _ _).trans hp)
 ·intro x y hx hy h1 h2
  rw [le] at h1 h2
  obtain ⟨i,hi,rfl⟩:=eO (hp.subset ((iE _ _).subset hx))
  obtain ⟨j,hj,rfl⟩:=eO hy
  have hq:=dV.1 hs
  have:=an s[i] s[j]
  rcases jI i j with h3|h3|h3
  ·have:=hq i j hi hj h3; omega
  ·subst h3; rfl
  ·have:=hq j i hj hi h3; omega
 ·exact iK (fun a b c h1 h2=>by rw [le] at *; exact tr _ _ _ h1 h2) (fun a b=>by
   have:=an a b
   simp only [dQ,le]; omega) _
 ·exact hs.imp fun h=>(le _ _).2 (by omega)
theorem zdi5 {s l:List aA} (h:AscN s) (hl:s.length≤8) (hp:l.Perm s):zb5 l=some s:=by
 have:=zcf2 zr1 (fun x y=>zaA5 _ _) (fun x y z h k=>zaY0 h k) (h.imp fun {x y} k=>by
  unfold ltN at k
  rw [ByteArray.toList_eq,ByteArray.toList_eq] at k
  exact zdt3 k) hp
 unfold zb5
 rw [gdp ⟨by rw [hp.length_eq]; omega,this.1⟩,this.2]
theorem zdi6 {s l:List bC} (h:s.Pairwise fun a b=>ltP a.aN b.aN) (hl:s.length≤8) (hp:l.Perm s):zd3 l=some s:=by
 have:=zcf2 zl9 (fun x y=>by
   unfold zl9 cmpS ltS
   repeat' split
   all_goals omega) (fun x y z h k=>by
   unfold zl9 cmpS ltS at *
   revert h k
   repeat' split
   all_goals omega) (h.imp fun {x y} k=>by
   unfold zl9 cmpS
   rw [bV (show ltS x.aN y.aN from k)]; decide) hp
 unfold zd3
 rw [gdp ⟨by rw [hp.length_eq]; omega,this.1⟩,this.2]
structure Cover (s a b:aD):Prop where
 qa:a.aF.Sublist s.aF
 qb:b.aF.Sublist s.aF
 na:a.aQ.Sublist s.aQ
 nb:b.aQ.Sublist s.aQ
 qc:∀ q ∈ s.aF,q ∈ a.aF∨q ∈ b.aF
 nc:∀ n ∈ s.aQ,n ∈ a.aQ∨n ∈ b.aQ
theorem Cover.symm {s a b:aD} (c:Cover s a b):Cover s b a:=⟨c.qb,c.qa,c.nb,c.na,fun q h=>(c.qc q h).symm,fun q h=>(c.nc q h).symm⟩
def zaC6 (t:List aA) (q:aA):Bool:=decide (zz1 t q.aB.name < 0)
def zaz5 (t:List bC) (n:bC):Bool:=!(t.any fun m=>decide (m.aN=n.aN))
theorem zaQ8 {α:Type} (p:α→Bool) (l:List α) (x:α):(l++[x]).filter p=if p x=true then l.filter p++[x] else l.filter p:=by
 rw [List.filter_append,jO]
 split
 ·rfl
 ·rw [List.filter_nil,dT]
theorem zbZ7 {n:bC} (h:fitE n.bO=true):zf0 n n=some true:=by
 unfold fitE at h
 simp only [bT,bY] at h
 unfold zf0 ze9
 rw [bV (by simp),zaN9 _ _ (dW _) h.2,Option.bind_some]
 simp
theorem zdr1 {s a b:aD} (h:zX9 s=true) (c:Cover s a b):zc0 (zQ9 a b) (0,a)=some (.inl ⟨a.aF++b.aF.filter (zaC6 a.aF),a.aQ⟩):=by
 obtain ⟨h1,h2,h3,h4,h5,h6⟩:=zbt4 h
 have ok:=(zaW0 h).1
 have la:=c.qa.length_le; have lb:=c.qb.length_le
 obtain ⟨x,k1,k2⟩:=zq3 (body:=zQ9 a b) (fun g=>∃ k:Nat,g.1=k∧k≤b.aF.length∧g.2=⟨a.aF++(b.aF.take k).filter (zaC6 a.aF),a.aQ⟩) (fun g=>b.aF.length - g.1.toNat) (fun x=>x=.inl ⟨a.aF++b.aF.filter (zaC6 a.aF),a.aQ⟩)
  (fun g ⟨k,hg,hk,hs⟩=>by
   obtain ⟨g1,g2⟩:=g
   simp only at hg hs
   subst hg; subst hs
   unfold zQ9
   simp only [Int.toNat_natCast]
   by_cases cc:k < b.aF.length
   ·have hm:=zh6 (z:=aA.zero) cc
    have hlt:=gV (zaC6 a.aF) (b.aF.take k)
    rw [dB] at hlt
    rw [bV (by simpa using cc),gdp (by omega),zbY9 _ _ (by omega),Option.bind_some]
    left
    by_cases e:zz1 a.aF (b.aF.getD k aA.zero).aB.name < 0
    ·rw [bV (by simpa using e),zbp3 (ok.q _ (c.qb.subset hm)),Option.bind_some,gdp (by simp only [bX]; omega),zc4 k (by omega)]
     refine ⟨_,rfl,⟨k+1,rfl,cc,?_⟩,by simp only [Int.toNat_natCast]; omega⟩
     rw [zA7 aA.zero cc,zaQ8,bV (by unfold zaC6; simpa using e),cE]
    ·rw [bU (by simpa using e)]
     rcases zaM7 (t:=a.aF) (nm:=(b.aF.getD k aA.zero).aB.name) with e1|⟨i,e1,e2,e3⟩
     ·omega
     ·have eq:a.aF.getD i aA.zero=b.aF.getD k aA.zero:=zcL7 h3 (c.qa.subset (zh6 e2)) (c.qb.subset hm) e3
      rw [e1,gdp (by omega)]
      simp only [Int.toNat_natCast]
      rw [eq,zbW1 (ok.q _ (c.qb.subset hm)),Option.bind_some,bU (by simp),zc4 k (by omega)]
      refine ⟨_,rfl,⟨k+1,rfl,cc,?_⟩,by simp only [Int.toNat_natCast]; omega⟩
      rw [zA7 aA.zero cc,zaQ8,bU (by unfold zaC6; simpa using e)]
   ·rw [bU (by simpa using cc)]
    exact .inr ⟨_,rfl,by rw [cX (by omega)]⟩) (0,a) ⟨0,rfl,by omega,by simp⟩
 rw [k1,k2]
theorem zdr2 {s a b:aD} (h:zX9 s=true) (c:Cover s a b) (Q:List aA):zc0 (zQ7 a b) (0,⟨Q,a.aQ⟩)=some (.inl ⟨Q,a.aQ++b.aQ.filter (zaz5 a.aQ)⟩):=by
 obtain ⟨h1,h2,h3,h4,h5,h6⟩:=zbt4 h
 have ok:=(zaW0 h).1
 obtain ⟨h7,h8⟩:=(zba4 _).1 h5
 have la:=c.na.length_le; have lb:=c.nb.length_le
 obtain ⟨x,k1,k2⟩:=zq3 (body:=zQ7 a b) (fun g=>∃ k:Nat,g.1=k∧k≤b.aQ.length∧g.2=⟨Q,a.aQ++(b.aQ.take k).filter (zaz5 a.aQ)⟩) (fun g=>b.aQ.length - g.1.toNat) (fun x=>x=.inl ⟨Q,a.aQ++b.aQ.filter (zaz5 a.aQ)⟩)
  (fun g ⟨k,hg,hk,hs⟩=>by
   obtain ⟨g1,g2⟩:=g
   simp only at hg hs
   subst hg; subst hs
   unfold zQ7
   simp only [Int.toNat_natCast]
   by_cases cc:k < b.aQ.length
   ·have hm:=zh6 (z:=bC.zero) cc
    have hlt:=gV (zaz5 a.aQ) (b.aQ.take k)
    rw [dB] at hlt
    obtain ⟨v,e0,e1⟩:=zdi4 a.aQ (b.aQ.getD k bC.zero).aN (by omega)
    rw [bV (by simpa using cc),gdp (by omega),e0,Option.bind_some]
    left
    rcases e1 with ⟨e1,e2⟩|⟨i,e1,e2,e3,_⟩
    ·have hn:zaz5 a.aQ (b.aQ.getD k bC.zero)=true:=by
      unfold zaz5
      rw [cS,List.any_eq_false]
      intro m hmm
      obtain ⟨j,hj,rfl⟩:=eO hmm
      have:=e2 j hj
      rw [bW,bZ hj] at this
      simpa using this
     rw [bV (by simpa using e1),zby5 (h7 _ (c.nb.subset hm)).2.1,Option.bind_some,gdp (by simp only [bX]; omega),zc4 k (by omega)]
     refine ⟨_,rfl,⟨k+1,rfl,cc,?_⟩,by simp only [Int.toNat_natCast]; omega⟩
     rw [zA7 bC.zero cc,zaQ8,bV hn,cE]
    ·have hn:¬ zaz5 a.aQ (b.aQ.getD k bC.zero)=true:=by
      unfold zaz5
      rw [cS,eP,hZ]
      exact ⟨_,zh6 e2,by simpa using e3⟩
     have eq:a.aQ.getD i bC.zero=b.aQ.getD k bC.zero:=zcL8 h8 (c.na.subset (zh6 e2)) (c.nb.subset hm) e3
     rw [e1,bU (by simp),gdp (by omega)]
     simp only [Int.toNat_natCast]
     rw [eq,zbZ7 (ok.n _ (c.nb.subset hm)).2.2.2,Option.bind_some,bU (by simp),zc4 k (by omega)]
     refine ⟨_,rfl,⟨k+1,rfl,cc,?_⟩,by simp only [Int.toNat_natCast]; omega⟩
     rw [zA7 bC.zero cc,zaQ8,bU hn]
   ·rw [bU (by simpa using cc)]
    exact .inr ⟨_,rfl,by rw [cX (by omega)]⟩) (0,⟨Q,a.aQ⟩) ⟨0,rfl,by omega,by simp⟩
 rw [k1,k2]
theorem zdr3 {s a b:aD} (h3:AscN s.aF) (c:Cover s a b):(a.aF++b.aF.filter (zaC6 a.aF)).Perm s.aF:=by
 have hnd:s.aF.Nodup:=by
  unfold AscN at h3
  exact h3.imp fun {x y} h (e:x=y)=>zcC5 h (cP (fun q=>q.aB.name) e)
 refine (jC ?_ hnd).2 fun q=>?_
 ·rw [iQ]
  refine ⟨c.qa.nodup hnd,(gO.trans c.qb).nodup hnd,fun x hx y hy e=>?_⟩
  subst e
  have:=(fH.1 hy).2
  unfold zaC6 at this
  exact zcF9 (gN this) x hx rfl
 ·rw [cI,fH]
  constructor
  ·rintro (hq|hq)
   ·exact c.qa.subset hq
   ·exact c.qb.subset hq.1
  ·intro hq
   by_cases e:zz1 a.aF q.aB.name < 0
   ·rcases c.qc q hq with k|k
    ·exact .inl k
    ·exact .inr ⟨k,by unfold zaC6; exact cN e⟩
   ·rcases zaM7 (t:=a.aF) (nm:=q.aB.name) with e1|⟨i,e1,e2,e3⟩
    ·omega
    ·left
     rw [← zcL7 h3 (c.qa.subset (zh6 e2)) hq e3]
     exact zh6 e2
theorem zdr4 {s a b:aD} (h8:s.aQ.Pairwise fun a b=>ltP a.aN b.aN) (c:Cover s a b):(a.aQ++b.aQ.filter (zaz5 a.aQ)).Perm s.aQ:=by
 have hnd:s.aQ.Nodup:=h8.imp fun {x y} h (e:x=y)=>by rw [e] at h; exact zab9 _ h
 refine (jC ?_ hnd).2 fun n=>?_
 ·rw [iQ]
  refine ⟨c.na.nodup hnd,(gO.trans c.nb).nodup hnd,fun x hx y hy e=>?_⟩
  subst e
  have:=(fH.1 hy).2
  unfold zaz5 at this
  rw [cS,List.any_eq_false] at this
  exact this x hx (by simp)
 ·rw [cI,fH]
  constructor
  ·rintro (hq|hq)
   ·exact c.na.subset hq
   ·exact c.nb.subset hq.1
  ·intro hq
   by_cases e:zaz5 a.aQ n=true
   ·rcases c.nc n hq with k|k
    ·exact .inl k
    ·exact .inr ⟨k,e⟩
   ·unfold zaz5 at e
    rw [cS,eP,hZ] at e
    obtain ⟨m,hm,e⟩:=e
    left
    rw [← zcL8 h8 (c.na.subset hm) hq (by simpa using e)]
    exact hm
theorem zdi7 (q:List aA):zC6 q=(zI7 q).map (fun l=>(l,q)):=by
 unfold zC6 zI7
 have e:zat4 q=zO2 q:=rfl
 rw [e]
 cases zc0 (zO2 q) (0,[]) with
 | none=>rfl
 | some z =>
  show zX3 q z=(zaf2 z).map _
  unfold zX3 zaf2
  cases zm6 z <;> rfl
theorem zdi8 {s:aD} {p:List aJ} (h:zt7 s=some p):zs7 s=some (p,s.aF,s.aQ):=by
 unfold zt7 at h
 unfold zs7
 rw [zdi7]
 obtain ⟨v1,e,h⟩:=zc9 h
 obtain ⟨c,h⟩:=zd5 h
 obtain ⟨z,e3,h⟩:=zc9 h
 rw [e]
 simp only [Option.bind_some,Option.map_some,c,zm1]
 have e2:zah3 s=zQ5 s:=rfl
 rw [e2,e3]
 show zJ7 s (v1,s.aF) z=_
 unfold zaa9 at h
 unfold zJ7
 obtain ⟨v,e4,h⟩:=zc9 h
 rw [e4]
 cases h
 rfl
theorem zcw8 {s a b:aD} (h:zX9 s=true) (c:Cover s a b):zF3 a b=some (s,0):=by
 obtain ⟨h1,h2,h3,h4,h5,h6⟩:=zbt4 h
 obtain ⟨h7,h8⟩:=(zba4 _).1 h5
 have va:=zbW2 h c.qa c.na
 have vb:=zbW2 h c.qb c.nb
 have pq:=zdr3 h3 c; have pn:=zdr4 h8 c
 have lq:=pq.length_eq; have ln:=pn.length_eq
 unfold zF3
 rw [zO3,va,Option.bind_some,bV rfl,zO3,vb,Option.bind_some,bU (by simp),zcT9 (zaW0 va).1 (fun n hn=>(h7 n (c.na.subset hn)).2.1),Option.bind_some,zdr1 h c,Option.bind_some]
 show zQ8 a b ⟨a.aF++b.aF.filter (zaC6 a.aF),a.aQ⟩=_
 unfold zQ8
 rw [zdr2 h c,Option.bind_some]
 show zQ6 ⟨a.aF++b.aF.filter (zaC6 a.aF),a.aQ++b.aQ.filter (zaz5 a.aQ)⟩=_
 unfold zQ6
 have hP:zaH6 ⟨a.aF++b.aF.filter (zaC6 a.aF),a.aQ++b.aQ.filter (zaz5 a.aQ)⟩=zaH6 s:=by
  unfold zaH6 zE0
  refine zcs6 fun x=>?_
  simp only [cI,zai8,eU,cQ]
  constructor
  ·rintro (⟨q,hq,e⟩|⟨n,hn,e⟩)
   ·exact .inl ⟨q,pq.subset (cI.2 hq),e⟩
   ·exact .inr ⟨n,pn.subset (cI.2 hn),e⟩
  ·rintro (⟨q,hq,e⟩|⟨n,hn,e⟩)
   ·exact .inl ⟨q,cI.1 (pq.symm.subset hq),e⟩
   ·exact .inr ⟨n,cI.1 (pn.symm.subset hn),e⟩
 have d1:decide ((8:Int) < ((((a.aF++b.aF.filter (zaC6 a.aF)).length:Nat)):Int))=false:=by
  rw [cW,lq]; omega
 simp only [d1,dE,cB]
 rw [zdi8 (zaI4 _ (by rw [lq]; exact h1) (fun q hq=>h2 q (pq.subset hq)) (by rw [ln]; exact h4)),Option.bind_some]
 dsimp only
 rw [hP,bU (by simp; omega),zdi5 h3 h1 pq,Option.bind_some,zdi6 h8 h4 pn]
 rfl
end Ab
end Go.Proofs.YtogpinppgncpmaaGreatDoor
