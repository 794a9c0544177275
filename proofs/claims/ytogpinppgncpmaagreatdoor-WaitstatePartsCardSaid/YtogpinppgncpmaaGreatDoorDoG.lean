import Derived.Test.YtogpinppgncpmaaGreatDoorTabD
import Derived.Test.YtogpinppgncpmaaGreatDoorTabB
import Derived.Test.YtogpinppgncpmaaGreatDoorHm29
namespace Go.Proofs.YtogpinppgncpmaaGreatDoor
namespace Ab
set_option linter.unusedVariables false
set_option linter.unusedSimpArgs false
theorem zaD9 {α:Type} (l:List α) (i:Nat) (z:α) (h:i < l.length):l.set i (l.getD i z)=l:=by
 rw [bW,bZ h,Option.getD_some,List.set_getElem_self]
theorem zdh1 {body:Int×List aA×List bI→Option ((Int×List aA×List bI)⊕(List aA×List bI))} (t:List aA) (f:aA→aA) (e:aA→List bI) (hl:t.length≤1000) (he:∀ q ∈ t,(e q).length≤100)
  (hb:∀ (i:Nat) (s:List aA) (ev:List bI),i < t.length→s.length=t.length→s.getD i aA.zero=t.getD i aA.zero→ev.length≤100000→body ((i:Int),s,ev)=some (.inl (((i+1:Nat):Int),s.set i (f (t.getD i aA.zero)),ev++e (t.getD i aA.zero))))
  (hend:∀ (s:List aA) (ev:List bI),s.length=t.length→body ((t.length:Int),s,ev)=some (.inr (s,ev))):zc0 body (0,t,[])=some (t.map f,t.flatMap e):=by
 have hev:∀ i,i≤t.length→((t.take i).flatMap e).length≤100 * i:=by
  intro i
  induction i with
  | zero=>intro _; simp
  | succ i ih =>
   intro hi
   rw [zcd1 (z:=aA.zero) (by omega),List.flatMap_append,bX]
   have:=ih (by omega)
   have h2:=he _ (zh6 (z:=aA.zero) (show i < t.length by omega))
   simp only [fE,List.flatMap_nil,dT]
   omega
 obtain ⟨x,hx,hp⟩:=zq3 (body:=body) (fun g=>∃ i:Nat,i≤t.length∧g=((i:Int),(t.take i).map f++t.drop i,(t.take i).flatMap e)) (fun g=>t.length - g.1.toNat) (fun x=>x=(t.map f,t.flatMap e)) (by
  rintro g ⟨i,hi,rfl⟩
  have hsl:((t.take i).map f++t.drop i).length=t.length:=by rw [bX,dS,dB,eC]; omega
  by_cases hlt:i < t.length
  ·left
   have hml:((t.take i).map f).length=i:=by rw [dS,dB]; omega
   have hd:t.drop i=t.getD i aA.zero :: t.drop (i+1):=by rw [fQ hlt,bW,bZ hlt]; rfl
   have hg:((t.take i).map f++t.drop i).getD i aA.zero=t.getD i aA.zero:=by
    rw [bW,fA (by omega),hml,gM,hd]; rfl
   refine ⟨_,hb i _ _ hlt hsl hg (by have:=hev i hi; omega),⟨i+1,by omega,?_⟩,by simp only [Int.toNat_natCast]; omega⟩
   rw [zcd1 (z:=aA.zero) hlt,fC,List.flatMap_append]
   congr 2
   ·rw [gK _ _ (by omega),hml,gM,hd]
    simp
   ·simp
  ·right
   have:i=t.length:=by omega
   subst this
   refine ⟨_,hend _ _ hsl,?_⟩
   simp) (0,t,[]) ⟨0,by omega,by simp⟩
 rw [hx,hp]
def remE (p:aJ) (q:aA):List bI:=if (zH2 q p).2.2=0 then (if getH q.aR p=aC.zero then [] else [zbU8 p q.aB.name aC.zero])++zak4 q.aB.name (zH2 q p).2.1 else []
def remT (t:List aA) (p:aJ):List aA×List bI:=if zaH4 t=true then (t.map (remN · p),t.flatMap (remE p)) else ([],[])
theorem zav7 (nm:ByteArray) (l:List aU):(zak4 nm l).length=l.length:=by unfold zak4; rw [dS]
theorem zcu7 (p:aJ) (q:aA):(remE p q).length≤17:=by
 unfold remE
 have:=(zbo9 q p).2.2.2
 split
 ·rw [bX,zav7]
  split <;> simp <;> omega
 ·simp
theorem zbV1 {q:aA} (h:zj0 q=true) (p:aJ):(remN q p).aB=q.aB :=
 (zbG3 h (p:=p) (x:={ p with num:=p.num+1 }) fun e=>by
  have h1:p.num+1=p.num:=cP aJ.num e
  omega).2
theorem zbI7 (t:List aA) (p:aJ):zQ4 t p=some (remT t p):=by
 unfold zQ4 remT
 rw [zam7,Option.bind_some]
 cases hv:zaH4 t with
 | false=>rfl
 | true =>
  have h:=(zah6 t).1 hv
  have hl:=h.len
  rw [ifNT,bV rfl,zg6 (by omega),zdh1 t (remN · p) (remE p) (by omega) (fun q _=>by have:=zcu7 p q; omega) (fun i s ev hi hs hg hev=>by
   have hq:=h.each _ (zh6 (z:=aA.zero) hi)
   have hql:=zah5 hq
   have hsh:=(zbo9 (t.getD i aA.zero) p).2.2.2
   have h4:0≤(i:Int)∧(i:Int) < ((s.length:Nat):Int):=by omega
   have hn:=zbV1 hq p
   unfold zaa8
   simp only [Int.toNat_natCast,hg]
   rw [bV (cN h4.2),zg6 h4,zbw5 _ _ (by omega) (by omega) (by omega),Option.bind_some]
   cases hp:hasQ (t.getD i aA.zero) p with
   | false =>
    have e:=zaR9 hq hp
    have e1:(zH2 (t.getD i aA.zero) p).2.2≠0:=by rw [e]; decide
    unfold remE remN
    rw [bU e1,bU e1,bV (show (!false)=true from rfl),zc4 i (by omega),dT,← hg,zaD9 _ _ _ (by omega)]
   | true =>
    have e:=zct2 hq hp
    rw [ifNT,zg6 h4,zG7 _ _ (by omega),Option.bind_some]
    have hz:zl7 (getH (t.getD i aA.zero).aR p)=decide (getH (t.getD i aA.zero).aR p=aC.zero):=rfl
    rw [hz]
    unfold remE
    rw [bV e.1]
    have k2:∀ ev':List bI,ev'.length≤1000000→zaa7 p ((i:Int),s,ev) ev'=some (.inl (((i+1:Nat):Int),s.set i (remN (t.getD i aA.zero) p),ev'++zak4 (t.getD i aA.zero).aB.name (zH2 (t.getD i aA.zero) p).2.1)):=fun ev' hev'=>by
     unfold zaa7
     simp only [Int.toNat_natCast,hg]
     rw [zg6 h4,zbI5,Option.bind_some,zg6 h4,e.2,hn,zaD8 _ _ (by omega),Option.bind_some,zg6 (by rw [zav7]; omega),zc4 i (by omega)]
    by_cases e2:getH (t.getD i aA.zero).aR p=aC.zero
    ·rw [bU (nd0 e2),bV e2,k2 _ (by omega),List.nil_append]
    ·rw [bV (nd1 e2),bU e2,zg6 h4,zg6 (by omega),k2 _ (by simp; omega),cE]
     rfl) (fun s ev hs=>by
   unfold zaa8
   simp only
   rw [bU (by rw [bY,hs]; omega)])]
  rfl
theorem zat9 {t:List aA} (h:∀ q ∈ t,zj0 q=true) {p:aJ}:p ∈ zE0 t ↔ ∃ q ∈ t,hasQ q p=true:=by
 unfold zE0
 rw [zai8,eU]
 constructor
 ·rintro ⟨q,hq,hp⟩; exact ⟨q,hq,(zbS6 ((zv9 q).1 (h q hq)).1).1 hp⟩
 ·rintro ⟨q,hq,hp⟩; exact ⟨q,hq,(zbS6 ((zv9 q).1 (h q hq)).1).2 hp⟩
theorem zaZ9 (t:List aA):(zE0 t).Nodup:=zaV5 (zaC0 _)
theorem ValidT.map {t:List aA} (h:ValidT t) (f:aA→aA) (h1:∀ q ∈ t,zj0 (f q)=true) (h2:∀ q ∈ t,(f q).aB=q.aB) (h3:∀ q ∈ t,∀ p,hasQ (f q) p=true→hasQ q p=true):ValidT (t.map f):=by
 have he:∀ q ∈ t.map f,zj0 q=true:=fun q hq=>by
  obtain ⟨x,hx,rfl⟩:=cQ.1 hq
  exact h1 x hx
 refine ⟨by rw [dS]; exact h.len,he,?_,?_⟩
 ·have:=h.asc
  unfold AscN at *
  rw [List.pairwise_map]
  exact this.imp_of_mem fun {a b} ha hb hab=>by rw [h2 a ha,h2 b hb]; exact hab
 ·refine eA (eD (zaZ9 _) fun x hx=>?_) h.aG
  obtain ⟨q,hq,hp⟩:=(zat9 he).1 hx
  obtain ⟨y,hy,rfl⟩:=cQ.1 hq
  exact (zat9 h.each).2 ⟨y,hy,h3 y hy x hp⟩
theorem zck9 {t:List aA} (h:ValidT t) (p:aJ):remT t p=(t.map (remN · p),t.flatMap (remE p)):=by
 unfold remT; rw [bV ((zah6 t).2 h)]
theorem zcE4 {t:List aA} (h:ValidT t) (p:aJ):ValidT (remT t p).1:=by
 rw [zck9 h]
 exact h.map _ (fun q hq=>zcj6 (h.each q hq) p) (fun q hq=>zbV1 (h.each q hq) p) fun q hq x hx=>((zdf7 (h.each q hq) p x).1 hx).1
theorem zdq7 {t:List aA} (h:ValidT t) (p:aJ):(remT t p).2.length≤136:=by
 rw [zck9 h]
 have:∀ l:List aA,(l.flatMap (remE p)).length≤17 * l.length:=by
  intro l
  induction l with
  | nil=>simp
  | cons q l ih=>rw [fE,bX,List.length_cons]; have:=zcu7 p q; omega
 have h1:=this t
 have h2:=h.len
 show (t.flatMap (remE p)).length≤136
 omega
inductive StepQ (q:aA):aA→Prop where
 | same:StepQ q q
 | claim (p:aJ) (a:aC) (pr:Int) (h:(zX7 q p a pr).2.2=0):StepQ q (zX7 q p a pr).1
 | cancel (p:aJ) (h:(zF4 q p).2.2=0):StepQ q (zF4 q p).1
 | lower (p:aJ) (a:aC) (h:(zC1 q p a).2.2=0):StepQ q (zC1 q p a).1
 | remove (p:aJ) (h:(zH2 q p).2.2=0):StepQ q (zH2 q p).1
theorem zah8 {q x:aA} (h:zj0 q=true) (hx:StepQ q x):zj0 x=true∧x.aB=q.aB:=by
 have hr:∀ y:aA,(zK6 y).1.aB=y.aB:=fun y=>(zcK2 y).2
 cases hx with
 | same=>exact ⟨h,rfl⟩
 | claim p a pr h0 =>
  obtain ⟨_,_,_,_,_,hh⟩:=zbk9 h0
  rcases hh with ⟨_,e⟩|⟨_,_,e,hs⟩|⟨_,_,_,e,hs⟩
  ·rw [e]; exact ⟨h,rfl⟩
  ·rw [e,hr]; exact ⟨zZ9 hs,rfl⟩
  ·rw [e,hr]; exact ⟨zZ9 hs,rfl⟩
 | cancel p h0=>obtain ⟨_,_,_,e,hs⟩:=zaM5 h0; rw [e,hr]; exact ⟨zZ9 hs,rfl⟩
 | lower p a h0 =>
  obtain ⟨_,_,_,_,_,hh⟩:=zaJ6 h0
  rcases hh with ⟨_,e⟩|⟨_,e,hs⟩
  ·rw [e]; exact ⟨h,rfl⟩
  ·rw [e,hr]; exact ⟨zZ9 hs,rfl⟩
 | remove p h0=>obtain ⟨_,_,_,e,hs⟩:=zbs1 h0; rw [e,hr]; exact ⟨zZ9 hs,rfl⟩
theorem zaQ4 (q:aA) (x:aJ):hasQ (zK6 q).1 x=hasQ q x:=by rw [zK7,zcK4,zcK3]
theorem zcS3 {q:aA} {p:aJ} {a:aC} {pr:Int} (h:(zX7 q p a pr).2.2=0) {x:aJ} (hx:hasQ (zX7 q p a pr).1 x=true):hasQ q x=true∨x=p:=by
 obtain ⟨_,_,_,_,_,hh⟩:=zbk9 h
 rcases hh with ⟨_,e⟩|⟨_,_,e,_⟩|⟨_,_,_,e,_⟩
 ·rw [e] at hx; exact .inl hx
 ·rw [e,zaQ4,zE6] at hx
  rcases hx with ⟨w,hw,ew⟩|hx
  ·unfold ordQ claimC at hw
   simp only [cI,dP] at hw
   rcases hw with (hw|hw)|hw
   ·exact .inl ((zE6 q x).2 (.inl ⟨w,dA _ hw,ew⟩))
   ·rw [hw] at ew; exact .inr ew.symm
   ·exact .inl ((zE6 q x).2 (.inl ⟨w,cY _ hw,ew⟩))
  ·exact .inl ((zE6 q x).2 (.inr hx))
 ·rw [e,zaQ4,zE6] at hx
  rcases hx with ⟨w,hw,ew⟩|hx
  ·unfold ordQ claimW zbh7 at hw
   simp only [cI,cF,cQ] at hw
   rcases hw with hw|hw|hw|⟨y,hy,rfl⟩
   ·exact .inl ((zE6 q x).2 (.inl ⟨w,dA _ hw,ew⟩))
   ·exact .inl ((zE6 q x).2 (.inl ⟨w,cY _ (hI hw),ew⟩))
   ·rw [hw] at ew; exact .inr ew.symm
   ·exact .inl ((zE6 q x).2 (.inl ⟨y,cY _ (hJ hy),ew⟩))
  ·exact .inl ((zE6 q x).2 (.inr hx))
theorem zcE5 {q:aA} {p:aJ} (h:(zF4 q p).2.2=0) {x:aJ} (hx:hasQ (zF4 q p).1 x=true):hasQ q x=true:=by
 obtain ⟨_,_,_,e,_⟩:=zaM5 h
 rw [e,zaQ4,zE6] at hx
 rcases hx with ⟨w,hw,ew⟩|hx
 ·unfold ordQ zaD6 at hw
  simp only [cI,zaY9] at hw
  rcases hw with hw|hw
  ·exact (zE6 q x).2 (.inl ⟨w,dA _ hw.1,ew⟩)
  ·exact (zE6 q x).2 (.inl ⟨w,cY _ hw.1,ew⟩)
 ·exact (zE6 q x).2 (.inr hx)
theorem zcS4 {q:aA} {p:aJ} {a:aC} (h:(zC1 q p a).2.2=0) {x:aJ} (hx:hasQ (zC1 q p a).1 x=true):hasQ q x=true:=by
 obtain ⟨_,_,hp,_,_,hh⟩:=zaJ6 h
 rcases hh with ⟨_,e⟩|⟨_,e,_⟩
 ·rw [e] at hx; exact hx
 ·rw [e,zaQ4,zE6] at hx
  rcases hx with hx|hx
  ·exact (zE6 q x).2 (.inl hx)
  ·refine (zE6 q x).2 (.inr ?_)
   by_cases e:x=p
   ·rw [e]; exact hp
   ·unfold zaH3 at hx
    rwa [zP5 e] at hx
theorem ValidT.set {t:List aA} (h:ValidT t) {i:Nat} (hi:i < t.length) {q:aA} (p:aJ) (h1:zj0 q=true) (h2:q.aB=(t.getD i aA.zero).aB) (h3:∀ x,hasQ q x=true→x ∈ zE0 t∨x=p)
  (h4:zbc6 t p=false):ValidT (t.set i q):=by
 have he:∀ y ∈ t.set i q,zj0 y=true:=fun y hy=>by
  rcases iB hy with hy|rfl
  ·exact h.each y hy
  ·exact h1
 refine ⟨by rw [dI]; exact h.len,he,?_,?_⟩
 ·have ha:=h.asc
  unfold AscN at *
  rw [dV] at ha ⊢
  have hr:∀ k (hk:k < (t.set i q).length),((t.set i q)[k]).aB=(t[k]'(by rw [dI] at hk; exact hk)).aB:=fun k hk=>by
   rw [List.getElem_set]
   split
   ·next e=>subst e; rw [h2,bW,bZ hi]; rfl
   ·rfl
  intro a b hla hlb hab
  rw [hr a hla,hr b hlb]
  exact ha a b _ _ hab
 ·have hsub:∀ x ∈ zE0 (t.set i q),x ∈ zE0 t∨x=p:=fun x hx=>by
   obtain ⟨y,hy,hp⟩:=(zat9 he).1 hx
   rcases iB hy with hy|rfl
   ·exact .inl ((zat9 h.each).2 ⟨y,hy,hp⟩)
   ·exact h3 x hp
  have hpl:=h.aG
  by_cases hp:p ∈ zE0 t
  ·refine eA (eD (zaZ9 _) (l₂:=zE0 t) fun x hx=>?_) hpl
   rcases hsub x hx with hx|rfl
   ·exact hx
   ·exact hp
  ·have h5:(zE0 t).length < 8:=by
    unfold zbc6 at h4
    simp only [hp,cJ,dE,eV,cW] at h4
    omega
   have:=eD (zaZ9 (t.set i q)) (l₂:=p :: zE0 t) fun x hx=>by
    rcases hsub x hx with hx|rfl
    ·exact .tail _ hx
    ·exact .head _
   rw [List.length_cons] at this
   omega
theorem zaz3 {t:List aA} (h:ValidT t) {i:Nat} (hi:i < t.length) {x:aJ} (hx:hasQ (t.getD i aA.zero) x=true):x ∈ zE0 t:=(zat9 h.each).2 ⟨_,zh6 hi,hx⟩
theorem zcL1 {t:List aA} {p:aJ} (h:p ∈ zE0 t):zbc6 t p=false:=by unfold zbc6; simp [h]
theorem zcu8 {t:List aA} {nm:ByteArray} {f:aA→ResT} (h:(atT t nm f).2.2=0):ValidT t∧∃ i:Nat,zz1 t nm=i∧i < t.length∧(t.getD i aA.zero).aB.name=nm∧atT t nm f=f (t.getD i aA.zero):=by
 unfold atT at h ⊢
 cases hv:zaH4 t with
 | false=>rw [hv,bV rfl] at h; exact absurd h (by decide)
 | true =>
  rw [hv,bU (by decide)] at h
  rw [bU (by decide)]
  by_cases hf:zz1 t nm < 0
  ·rw [bV hf] at h; exact absurd h (by decide)
  ·rw [bU hf]
   rcases zaM7 (t:=t) (nm:=nm) with h1|⟨i,h1,h2,h3⟩
   ·omega
   ·exact ⟨(zah6 t).1 hv,i,h1,h2,h3,by rw [h1]; rfl⟩
theorem zbV2 {t:List aA} {nm:ByteArray} {x:aA×List aU×Int} {ev:List bI} (h:(putT t nm x ev).2.2=0):x.2.2=0∧putT t nm x ev=(zbU9 t (zz1 t nm) x.1,ev++zak4 nm x.2.1,0):=by
 unfold putT at h ⊢
 by_cases e:x.2.2=0
 ·rw [bV e]; exact ⟨e,rfl⟩
 ·rw [bU e] at h; exact absurd h e
theorem zaW1 (t:List aA) (i:Nat) (q:aA):zbU9 t (i:Int) q=t.set i q:=by unfold zbU9; rw [bV (by omega)]; rfl
theorem zcS5 {t:List aA} {p:aJ} {a:aM} {pr:Int} (h:(zaC5 t p a pr).2.2=0):∃ i:Nat,i < t.length∧(t.getD i aA.zero).aB.name=a.name∧zz1 t a.name=i∧(zX7 (t.getD i aA.zero) p a.aK pr).2.2=0∧(zaC5 t p a pr).1=t.set i (zX7 (t.getD i aA.zero) p a.aK pr).1∧ValidT t∧ValidT (zaC5 t p a pr).1:=by
 unfold zaC5 at h ⊢
 obtain ⟨hv,i,h1,h2,h3,e⟩:=zcu8 h
 rw [e] at h ⊢
 cases hfu:zbc6 t p with
 | true=>rw [hfu,bV rfl] at h; exact absurd h (by decide)
 | false =>
  rw [hfu,bU (by decide)] at h
  rw [bU (by decide)]
  obtain ⟨e0,e1⟩:=zbV2 h
  rw [e1,h1,zaW1]
  have hq:=hv.each _ (zh6 (z:=aA.zero) h2)
  have hs:=zah8 hq (.claim p a.aK pr e0)
  refine ⟨i,h2,h3,rfl,e0,rfl,hv,hv.set h2 p hs.1 hs.2 (fun x hx=>?_) hfu⟩
  rcases zcS3 e0 hx with hx|hx
  ·exact .inl (zaz3 hv h2 hx)
  ·exact .inr hx
theorem zcE6 {t:List aA} {p:aJ} {nm:ByteArray} (h:(zaJ1 t p nm).2.2=0):∃ i:Nat,i < t.length∧(zaJ1 t p nm).1=t.set i (zF4 (t.getD i aA.zero) p).1∧ValidT t∧ValidT (zaJ1 t p nm).1:=by
 unfold zaJ1 at h ⊢
 obtain ⟨hv,i,h1,h2,h3,e⟩:=zcu8 h
 rw [e] at h ⊢
 obtain ⟨e0,e1⟩:=zbV2 h
 rw [e1,h1,zaW1]
 have hq:=hv.each _ (zh6 (z:=aA.zero) h2)
 have hs:=zah8 hq (.cancel p e0)
 obtain ⟨_,_,hw,_,_⟩:=zaM5 e0
 have hp:hasQ (t.getD i aA.zero) p=true:=by unfold hasQ; rw [hw]; rfl
 exact ⟨i,h2,rfl,hv,hv.set h2 p hs.1 hs.2 (fun x hx=>.inl (zaz3 hv h2 (zcE5 e0 hx))) (zcL1 (zaz3 hv h2 hp))⟩
theorem zce4 {t:List aA} {p:aJ} {a:aM} (h:(zac1 t p a).2.2=0):∃ i:Nat,i < t.length∧(zac1 t p a).1=t.set i (zC1 (t.getD i aA.zero) p a.aK).1∧ValidT t∧ValidT (zac1 t p a).1:=by
 unfold zac1 at h ⊢
 obtain ⟨hv,i,h1,h2,h3,e⟩:=zcu8 h
 rw [e] at h ⊢
 obtain ⟨e0,e1⟩:=zbV2 h
 rw [e1,h1,zaW1]
 have hq:=hv.each _ (zh6 (z:=aA.zero) h2)
 have hs:=zah8 hq (.lower p a.aK e0)
 obtain ⟨_,_,hp0,_,_,_⟩:=zaJ6 e0
 have hp:hasQ (t.getD i aA.zero) p=true:=(zE6 _ _).2 (.inr hp0)
 exact ⟨i,h2,rfl,hv,hv.set h2 p hs.1 hs.2 (fun x hx=>.inl (zaz3 hv h2 (zcS4 e0 hx))) (zcL1 (zaz3 hv h2 hp))⟩
def sayE (nm:ByteArray) (a:aC) (e:bK):aC:=if e.name=nm then e.after else a
def zv3 (l:List bK) (nm:ByteArray):aC:=l.foldl (sayE nm) aC.zero
theorem zA7 {α:Type} {l:List α} {i:Nat} (z:α) (h:i < l.length):l.take (i+1)=l.take i++[l.getD i z]:=by
 rw [List.take_add_one,bZ h,bW,bZ h]; rfl
theorem zbs8 (l:List bK) (e:bK) (nm:ByteArray):zv3 (l++[e]) nm=if e.name=nm then e.after else zv3 l nm:=by
 unfold zv3; rw [List.foldl_append]; rfl
theorem zbx1 (a b:ByteArray):(a.toList == b.toList)=decide (a=b):=by
 by_cases h:a=b
 ·simp [h]
 ·rw [gB h]
  cases hb:a.toList == b.toList with
  | false=>rfl
  | true=>exact absurd (zau5.1 (dG.1 hb)) h
theorem zac2 (l:List bK) (nm:ByteArray) (hl:l.length≤1000000):zj3 l nm=some (zv3 l nm):=by
 unfold zj3
 obtain ⟨x,h1,h2⟩:=zq3 (body:=zar9 l nm) (fun g=>∃ i:Nat,g.1=i∧i≤l.length∧g.2=zv3 (l.take i) nm) (fun g=>l.length - g.1.toNat) (fun x=>x=zv3 l nm)
  (fun g ⟨i,hi,hle,hg⟩=>by
   obtain ⟨g1,g2⟩:=g
   simp only at hi hg
   subst hi
   unfold zar9
   by_cases c:i < l.length
   ·left
    have h3:0≤(i:Int)∧(i:Int) < (l.length:Int):=by omega
    simp only [h3.1,h3.2,cV,zm1,cC,cB,Int.toNat_natCast,zbx1,bY,zc4 i (show i < 4611686018427387904 by omega)]
    refine ⟨((i+1:Nat),zv3 (l.take (i+1)) nm),?_,⟨i+1,rfl,c,rfl⟩,by simp only [Int.toNat_natCast]; omega⟩
    rw [zA7 bK.zero c,zbs8]
    by_cases e:(l.getD i bK.zero).name=nm
    ·rw [bV e,bV e]
    ·rw [bU e,bU e,hg]
   ·right
    have e:i=l.length:=by omega
    refine ⟨g2,?_,by rw [hg,e,eH]⟩
    simp only [show ¬ (i:Int) < (l.length:Int) by omega,cJ,bS,cA]) (0,aC.zero) ⟨0,rfl,by omega,rfl⟩
 rw [h1,Option.bind_some,h2]; rfl
theorem zcS6 {α:Type} (l:List α) (z:α) {i j:Nat} (hi:i < l.length) (hj:j < l.length):((l.set i (l.getD j z)).set j (l.getD i z)).Perm l:=by
 rw [bW,bW,bZ hi,bZ hj]
 exact List.set_set_perm hi hj
theorem zcS7 (l0:List ByteArray) (hl:l0.length≤1000000) (g:Int×List ByteArray) (h0:0≤g.1) (h1:g.1 < (g.2.length:Int)) (hp:g.2.Perm l0):∃ x,zc0 zad3 g=some x∧x.Perm l0:=by
 refine zq3 (body:=zad3) (fun g=>0≤g.1∧g.1 < (g.2.length:Int)∧g.2.Perm l0) (fun g=>g.1.toNat) (fun x=>x.Perm l0) ?_ g ⟨h0,h1,hp⟩
 rintro ⟨i,l⟩ ⟨h0,h1,hp⟩
 simp only at h0 h1 hp
 have hn:=hp.length_eq
 unfold zad3
 by_cases c:0 < i
 ·have e:IntKind.i64.wrap (i - 1)=i - 1:=zf5 (by omega) (by omega)
  simp only [c,cC,e,cH]
  rw [gdp (by intro; omega),gdp (by intro; omega)]
  cases hb:Op.bytesLess (l.getD i.toNat ⟨#[]⟩).toList (l.getD (i - 1).toNat ⟨#[]⟩).toList with
  | false=>exact .inr ⟨l,by simp,hp⟩
  | true =>
   left
   simp only [cB]
   rw [gdp ⟨h0,h1⟩,gdp (by omega),gdp ⟨h0,h1⟩,gdp (by omega)]
   exact ⟨_,rfl,⟨by simp only; omega,by simp only [dI]; omega,(zcS6 l _ (by omega) (by omega)).trans hp⟩,by simp only; omega⟩
 ·simp only [c,cJ,eK,bS,cA]
  rw [gdp (by intro h; cases h),gdp (by intro h; cases h)]
  exact .inr ⟨l,rfl,hp⟩
def zbV3 (nm:ByteArray) (s:List ByteArray):Bool:=s.any fun n=>decide (n=nm)
theorem zce5 {nm:ByteArray} {s:List ByteArray}:zbV3 nm s=true ↔ nm ∈ s:=by
 unfold zbV3; rw [hZ]
 exact ⟨fun ⟨n,h1,h2⟩=>gN h2 ▸ h1,fun h=>⟨nm,h,by simp⟩⟩
theorem zcS8 (l:List bK) (i:Nat) (hi:i < l.length) (s:List ByteArray) (hl:s.length≤1000000) (v:Int×List ByteArray) (hv:v=((i:Int),s)) :
  zc0 (zad5 l v) (false,0)=some (zbV3 (l.getD i bK.zero).name s):=by
 subst hv
 obtain ⟨x,h1,h2⟩:=zq3 (body:=zad5 l ((i:Int),s)) (fun g=>∃ k:Nat,g.2=k∧k≤s.length∧g.1=zbV3 (l.getD i bK.zero).name (s.take k)) (fun g=>s.length - g.2.toNat) (fun x=>x=zbV3 (l.getD i bK.zero).name s)
  (fun g ⟨k,hk,hle,hg⟩=>by
   obtain ⟨g1,g2⟩:=g
   simp only at hk hg
   subst hk
   unfold zad5
   by_cases c:k < s.length
   ·left
    have h3:0≤(k:Int)∧(k:Int) < (s.length:Int):=by omega
    have h4:0≤(i:Int)∧(i:Int) < (l.length:Int):=by omega
    simp only [h3.1,h3.2,h4.1,h4.2,cV,eR,zm1,cC,cB,Int.toNat_natCast,zbx1,zc4 k (show k < 4611686018427387904 by omega)]
    refine ⟨_,rfl,⟨k+1,rfl,c,?_⟩,by simp only [Int.toNat_natCast]; omega⟩
    rw [zA7 (⟨#[]⟩:ByteArray) c,hg]
    simp only [zbV3,List.any_append,List.any_cons,List.any_nil,jK]
   ·right
    have e:k=s.length:=by omega
    refine ⟨g1,?_,by rw [hg,e,eH]⟩
    simp only [show ¬ (k:Int) < (s.length:Int) by omega,cJ,bS,cA]) (false,0) ⟨0,rfl,by omega,by simp [zbV3]⟩
 rw [h1,h2]
theorem zaN6 (l:List bK) (hl:l.length≤1000000):∃ ns,zi3 l=some ns∧ns.length≤l.length∧∀ n,n ∈ ns ↔ ∃ e ∈ l,e.name=n:=by
 unfold zi3
 obtain ⟨x,h1,h2⟩:=zq3 (body:=zad6 l) (fun g=>∃ i:Nat,g.1=i∧i≤l.length∧g.2.length≤i∧∀ n,n ∈ g.2 ↔ ∃ e ∈ l.take i,e.name=n) (fun g=>l.length - g.1.toNat)
  (fun x=>x.length≤l.length∧∀ n,n ∈ x ↔ ∃ e ∈ l,e.name=n)
  (fun g ⟨i,hi,hle,hlen,hg⟩=>by
   obtain ⟨g1,g2⟩:=g
   simp only at hi hlen hg
   subst hi
   unfold zad6
   by_cases c:i < l.length
   ·left
    have h3:0≤(i:Int)∧(i:Int) < (l.length:Int):=by omega
    simp only [h3.2,cC,cB]
    rw [zcS8 l i c g2 (by omega) _ rfl,Option.bind_some]
    unfold zad4
    have hmem:∀ n,(∃ e ∈ l.take (i+1),e.name=n) ↔ n ∈ g2∨n=(l.getD i bK.zero).name:=fun n=>by
     rw [zA7 bK.zero c,hg]
     simp only [cI,dP,or_and_right,exists_or,exists_eq_left]
     exact or_congr jT ⟨Eq.symm,Eq.symm⟩
    by_cases hs:(l.getD i bK.zero).name ∈ g2
    ·rw [bV (zce5.2 hs)]
     refine ⟨_,by rw [zc4 i (by omega)],⟨i+1,rfl,c,by simp only; omega,fun n=>?_⟩,by simp only [Int.toNat_natCast]; omega⟩
     rw [hmem]
     exact ⟨Or.inl,fun h=>h.elim id fun h=>h ▸ hs⟩
    ·rw [bU (fun h=>hs (zce5.1 h)),gdp h3,gdp (by simp only; omega)]
     obtain ⟨y,e1,e2⟩:=zcS7 (g2++[(l.getD i bK.zero).name]) (by rw [bX,List.length_singleton]; omega) (IntKind.i64.wrap (((g2.length+1:Nat):Int) - 1),g2++[(l.getD (i:Int).toNat bK.zero).name])
      (by simp only; rw [zf5 (by omega) (by omega)]; omega) (by simp only [bX,List.length_singleton]; rw [zf5 (by omega) (by omega)]; omega) (by simp only [Int.toNat_natCast]; exact jB _)
     rw [e1,Option.bind_some]
     unfold zaA6
     refine ⟨_,by rw [zc4 i (by omega)],⟨i+1,rfl,c,by have:=e2.length_eq; simp only [bX,List.length_singleton] at this; simp only; omega,fun n=>?_⟩,by simp only [Int.toNat_natCast]; omega⟩
     rw [hmem,e2.mem_iff,cI,dP]
   ·right
    have e:i=l.length:=by omega
    refine ⟨g2,?_,by omega,fun n=>by rw [hg,e,eH]⟩
    simp only [show ¬ (i:Int) < (l.length:Int) by omega,cJ,bS,cA]) (0,[]) ⟨0,rfl,by omega,by simp,fun n=>by simp⟩
 exact ⟨x,by rw [h1,Option.bind_some]; rfl,h2⟩
theorem zbD0 (l:List bR) (x:Int) (hl:l.length≤1000000):∃ v,zl8 l x=some v∧(v=-1∨0≤v∧v < (l.length:Int)):=by
 unfold zl8
 rw [zbl1 l bR.zero (fun a=>decide (a.label=x)) (fun i hi=>by
  unfold zas0
  have h3:0≤(i:Int)∧(i:Int) < (l.length:Int):=by omega
  simp only [h3.1,h3.2,cV,zm1,cC,cB,Int.toNat_natCast,zc4 i (show i < 4611686018427387904 by omega)]
  split <;> rfl) (by unfold zas0; simp)]
 cases h:l.findIdx? fun a=>decide (a.label=x) with
 | none=>exact ⟨-1,rfl,.inl rfl⟩
 | some i =>
  obtain ⟨h1,_⟩:=gL.1 h
  exact ⟨i,rfl,.inr (by omega)⟩
structure LedgerP (l:aX):Prop where
 le:l.aP.length≤72
 ls:l.bD.length≤4
 grow:∀ i,i < l.aP.length→(l.aP.getD i bK.zero).before=zv3 (l.aP.take i) (l.aP.getD i bK.zero).name∧zO9 (l.aP.getD i bK.zero).before (l.aP.getD i bK.zero).after=true
 at_:∀ s ∈ l.bD,0≤s.at_∧s.at_≤(l.aP.length:Int)
theorem zaI5 (l:aX) (hl:l.bD.length≤4) (i:Nat):(i < l.bD.length→∃ b:Bool,zV3 l (i:Int)=some (if b=true then .inl ((i+1:Nat):Int) else .inr (.inr false)) ∧
  (b=true→0≤(l.bD.getD i bR.zero).at_∧(l.bD.getD i bR.zero).at_≤(l.aP.length:Int)))∧(i=l.bD.length→zV3 l (i:Int)=some (.inr (.inl ()))):=by
 refine ⟨fun c=>?_,fun c=>?_⟩
 ·unfold zV3
  have h3:0≤(i:Int)∧(i:Int) < (l.bD.length:Int):=by omega
  simp only [h3.1,h3.2,cV,zm1,cC,cB,Int.toNat_natCast]
  rw [gdp (by
   intro h
   simp only [bT,bY] at h
   have:=h.2
   rw [zf5 (by omega) (by omega)]; omega)]
  obtain ⟨v,hv,_⟩:=zbD0 l.bD ((l.bD.getD i bR.zero).label) (by omega)
  generalize hA:(!(((((decide ((l.bD.getD i bR.zero).label < 1))||(decide (99 < (l.bD.getD i bR.zero).label)))||(decide ((l.bD.getD i bR.zero).at_ < 0)))||(decide ((l.aP.length:Int) < (l.bD.getD i bR.zero).at_)))||((decide (0 < (i:Int)))&&(decide ((l.bD.getD i bR.zero).at_ < (l.bD.getD ((IntKind.i64.wrap ((i:Int) - 1)).toNat) bR.zero).at_)))))=A
  have hA':(((((decide ((l.bD.getD i bR.zero).label < 1))||(decide (99 < (l.bD.getD i bR.zero).label)))||(decide ((l.bD.getD i bR.zero).at_ < 0)))||(decide ((l.aP.length:Int) < (l.bD.getD i bR.zero).at_)))||((decide (0 < (i:Int)))&&(decide ((l.bD.getD i bR.zero).at_ < (l.bD.getD ((IntKind.i64.wrap ((i:Int) - 1)).toNat) bR.zero).at_))))=!A:=by rw [← hA,Bool.not_not]
  simp only [hA']
  cases A with
  | false=>exact ⟨false,by simp,by simp⟩
  | true =>
   simp only [cB,hv,Option.bind_some,cK,dL]
   have hat:0≤(l.bD.getD i bR.zero).at_∧(l.bD.getD i bR.zero).at_≤(l.aP.length:Int):=by
    simp only [cK,gZ,cW] at hA'
    omega
   by_cases e:v=(i:Int)
   ·exact ⟨true,by simp [e,zc4 i (show i < 4611686018427387904 by omega)],fun _=>hat⟩
   ·exact ⟨false,by simp [e],by simp⟩
 ·subst c; unfold zV3; simp
theorem zbm6 (l:aX) (hl:l.aP.length≤72) (i:Nat) (c:i < l.aP.length):∃ b:Bool,zae1 l (i:Int)=some (if b=true then .inl ((i+1:Nat):Int) else .inr (.inr false)) ∧
  (b=true→(l.aP.getD i bK.zero).before=zv3 (l.aP.take i) (l.aP.getD i bK.zero).name∧zO9 (l.aP.getD i bK.zero).before (l.aP.getD i bK.zero).after=true):=by
 unfold zae1
 have h3:0≤(i:Int)∧(i:Int) < (l.aP.length:Int):=by omega
 simp only [h3.1,h3.2,cV,zm1,cC,cB,Int.toNat_natCast]
 rw [zaD3,Option.bind_some,gdp (fun _=>by simp <;> omega),zac2 _ _ (by simp; omega)]
 cases hn:zX5 (l.aP.getD i bK.zero).name with
 | false=>exact ⟨false,by simp,by simp⟩
 | true =>
  simp only [cB,Option.bind_some,cK,dL]
  by_cases e1:(l.aP.getD i bK.zero).before=zv3 (l.aP.take i) (l.aP.getD i bK.zero).name
  ·have hd:decide ((l.aP.getD i bK.zero).before=zv3 (l.aP.take i) (l.aP.getD i bK.zero).name)=true:=cN e1
   cases e2:zO9 (l.aP.getD i bK.zero).before (l.aP.getD i bK.zero).after with
   | false=>exact ⟨false,by simp only [dE,hY,cB,bS,cA],fun h=>nomatch h⟩
   | true=>exact ⟨true,by simp only [hd,cK,eQ,bS,cA,cB,zc4 i (show i < 4611686018427387904 by omega)],fun _=>⟨e1,rfl⟩⟩
  ·have hd:decide ((l.aP.getD i bK.zero).before=zv3 (l.aP.take i) (l.aP.getD i bK.zero).name)=false:=gB e1
   exact ⟨false,by simp only [hd,dE,fN,cB,bS,cA],fun h=>nomatch h⟩
theorem zau0 {body:Int→Option (Int⊕(Unit⊕Bool))} (n:Nat) (P:Nat→Prop) (h:∀ i:Nat,i < n→∃ b:Bool,body (i:Int)=some (if b=true then .inl ((i+1:Nat):Int) else .inr (.inr false))∧(b=true→P i)) (he:body (n:Int)=some (.inr (.inl ()))) :
  zc0 body 0=some (.inr false)∨zc0 body 0=some (.inl ())∧∀ i,i < n→P i:=by
 obtain ⟨x,h1,h2⟩:=zq3 (body:=body) (fun g=>∃ i:Nat,g=i∧i≤n∧∀ k,k < i→P k) (fun g=>n - g.toNat) (fun x=>x=.inr false∨x=.inl ()∧∀ i,i < n→P i)
  (fun g ⟨i,hi,hle,hg⟩=>by
   subst hi
   by_cases c:i < n
   ·obtain ⟨b,hb,hp⟩:=h i c
    cases b with
    | false=>exact .inr ⟨_,hb,.inl rfl⟩
    | true=>exact .inl ⟨_,hb,⟨i+1,rfl,c,fun k hk=>by
      rcases jW k i with h5|h5
      ·exact hg k h5
      ·have:k=i:=by omega
       subst this; exact hp rfl⟩,by simp only [Int.toNat_natCast]; omega⟩
   ·have:i=n:=by omega
    subst this
    exact .inr ⟨_,he,.inr ⟨rfl,hg⟩⟩) 0 ⟨0,rfl,by omega,fun k hk=>by omega⟩
 rcases h2 with rfl|⟨rfl,h2⟩
 ·exact .inl h1
 ·exact .inr ⟨h1,h2⟩
theorem zR2 {α:Type} {l:List α} {z x:α} (h:x ∈ l):∃ i,i < l.length∧l.getD i z=x:=by
 obtain ⟨i,hi,e⟩:=fK.1 h
 exact ⟨i,hi,by rw [bW,bZ hi]; exact e⟩
theorem zag0 (l:aX):∃ b,zq8 l=some b∧(b=true→LedgerP l):=by
 unfold zq8
 by_cases c:l.aP.length≤72∧l.bD.length≤4
 ·rw [bU (by simp; omega)]
  rcases zau0 l.aP.length _ (fun i hi=>zbm6 l c.1 i hi) (by unfold zae1; simp) with h1|⟨h1,h2⟩
  ·exact ⟨false,by rw [h1]; rfl,by simp⟩
  ·rw [h1,Option.bind_some]
   show ∃ b,zae0 l ()=some b∧_
   unfold zae0
   obtain ⟨ns,e1,_⟩:=zaN6 l.aP (by omega)
   rw [e1,Option.bind_some]
   by_cases c8:(8:Int) < ns.length
   ·exact ⟨false,by rw [bV (by simpa using c8)],by simp⟩
   ·rw [bU (by simpa using c8)]
    rcases zau0 l.bD.length _ (fun i hi=>(zaI5 l c.2 i).1 hi) ((zaI5 l c.2 _).2 rfl) with h3|⟨h3,h4⟩
    ·exact ⟨false,by rw [h3]; rfl,by simp⟩
    ·refine ⟨true,by rw [h3]; rfl,fun _=>⟨c.1,c.2,h2,fun s hs=>?_⟩⟩
     obtain ⟨i,hi,rfl⟩:=zR2 (z:=bR.zero) hs
     exact h4 i hi
 ·exact ⟨false,by rw [bV (by simp; omega)],by simp⟩
theorem zbV4 {α β:Type} {o:Option α} {f:α→β} {b:β} (h:(o.bind fun v=>some (f v))=some b):∃ v,o=some v∧f v=b:=by
 cases o with
 | none=>cases h
 | some v=>exact ⟨v,rfl,dU h⟩
theorem zaz4 (e:aO):∃ v,zo3 e=some v∧v.2=vE e:=by
 have h:=zX8 e
 unfold zB0 at h
 exact zbV4 h
theorem zbx2 {e:aO} {v:List aM×Bool} (h:zo3 e=some v):v.1.length≤8:=by
 unfold zo3 at h
 obtain ⟨v1,h1,h⟩:=zc9 h
 by_cases c:v1=0
 ·rw [bV (by simpa using c)] at h; cases h; simp
 rw [bU (by simpa using c)] at h
 obtain ⟨v2,h2,h⟩:=zc9 h
 cases v2 with
 | inl v2=>cases h; simp
 | inr v2 =>
  simp only at h
  by_cases c2:((!v2.2)||(decide (8 < (v2.1.length:Int))))=true
  ·rw [bV c2] at h; cases h; simp
  ·rw [bU c2] at h
   have hl:v2.1.length≤8:=by
    simp only [dQ,bY,kC] at c2; omega
   have ho:=zbG7 v2 (by omega)
   by_cases d:dnN v2.1
   ·rw [ho.1 d] at h
    have:zaf0 v2 ()=some v:=h
    unfold zaf0 at this; cases this; exact hl
   ·rw [ho.2 d] at h; cases h; simp
theorem zcS9 (e:aO) (L:List aM) (S:List Bool) (hL:L.length≤1000):∃ b,((zc0 (zad8 e L S) 0).bind (fun|.inl z=>zaA7 z|.inr z=>some z))=some b∧((∀ i,S.getD i false=false)→b=false):=by
 obtain ⟨x,h1,h2⟩:=zq3 (body:=zad8 e L S) (fun g=>∃ i:Nat,g=i∧i≤L.length) (fun g=>L.length - g.toNat) (fun x=>∀ b,x=.inr b→(∀ i,S.getD i false=false)→b=false)
  (fun g ⟨i,hi,hle⟩=>by
   subst hi
   unfold zad8
   by_cases c:i < L.length
   ·have h3:0≤(i:Int)∧(i:Int) < (L.length:Int):=by omega
    simp only [h3.1,h3.2,cV,zm1,cC,cB,Int.toNat_natCast]
    by_cases d:L.getD i aM.zero=e.bB
    ·right
     rw [bV (by simpa using d),gdp (by intro h; simp only [bY] at h; simp; omega)]
     exact ⟨_,rfl,fun b hb hS=>by cases hb; rw [hS,gR]⟩
    ·left
     rw [bU (by simpa using d),zc4 i (by omega)]
     exact ⟨_,rfl,⟨i+1,rfl,c⟩,by simp only [Int.toNat_natCast]; omega⟩
   ·right
    simp only [show ¬ (i:Int) < (L.length:Int) by omega,cJ,bS,cA]
    exact ⟨_,rfl,fun b hb=>by cases hb⟩) 0 ⟨0,rfl,by omega⟩
 rw [h1]
 cases x with
 | inl x=>exact ⟨false,rfl,fun _=>rfl⟩
 | inr b=>exact ⟨b,rfl,h2 b rfl⟩
theorem zcu9:∀ (n:Nat) (e:aO),_root_.SizeOf.sizeOf e < n→zn7 e≤24→∀ (L:List aM) (S:List Bool),L.length≤1000→∃ b,fr_ref08_holds n e L S=some b∧(okE e=true→(∀ i,S.getD i false=false)→b=false)
 | 0,_,h,_,_,_,_=>by omega
 | n+1,e,h,hn,L,S,hL=>by
  show ∃ b,zS7 (fr_ref08_holds n) e L S=some b∧_
  unfold zS7
  have hl:=zC2 e.bA
  have hne:=zL0 e
  by_cases c:e.k=0
  ·rw [bV (by simpa using c)]
   obtain ⟨b,h1,h2⟩:=zcS9 e L S hL
   exact ⟨b,h1,fun _=>h2⟩
  ·rw [bU (by simpa using c)]
   obtain ⟨x,h1,h2⟩:=zq3 (body:=zao1 (fr_ref08_holds n) e L S) (fun g=>∃ i:Nat,g.2=i∧i≤e.bA.length∧0≤g.1∧g.1≤i∧(okL e.bA=true→(∀ i,S.getD i false=false)→g.1=0)) (fun g=>e.bA.length - g.2.toNat)
    (fun x=>okL e.bA=true→(∀ i,S.getD i false=false)→x=0)
    (fun g ⟨i,hi,hle,h0,h4,hg⟩=>by
     obtain ⟨m,g2⟩:=g
     simp only at hi h0 h4 hg
     subst hi
     unfold zao1
     by_cases c:i < e.bA.length
     ·left
      have h3:0≤(i:Int)∧(i:Int) < (e.bA.length:Int):=by omega
      simp only [h3.1,h3.2,cV,zm1,cC,cB,Int.toNat_natCast]
      have hk:=zh6 (z:=aO.zero) c
      obtain ⟨b,e1,e2⟩:=zcu9 n _ (zai7 h hk) (by have:=zaC1 hk; omega) L S hL
      rw [e1,Option.bind_some,zc4 i (by omega)]
      cases b with
      | true =>
       rw [bV rfl,zf5 (by omega) (by omega)]
       exact ⟨_,rfl,⟨i+1,rfl,c,by simp only; omega,by simp only; omega,fun ho hS=>by have:=e2 (zbx0 ho hk) hS; cases this⟩,by simp only [Int.toNat_natCast]; omega⟩
      | false =>
       rw [bU (by decide)]
       exact ⟨_,rfl,⟨i+1,rfl,c,h0,by simp only; omega,hg⟩,by simp only [Int.toNat_natCast]; omega⟩
     ·right
      simp only [show ¬ (i:Int) < (e.bA.length:Int) by omega,cJ,bS,cA]
      exact ⟨_,rfl,hg⟩) (0,0) ⟨0,rfl,by omega,by simp,by simp,fun _ _=>rfl⟩
   rw [h1,Option.bind_some]
   refine ⟨_,rfl,fun ho hS=>?_⟩
   by_cases ck:e.bA.length=0
   ·exact absurd ((zbi5 ck).1 ho).1 c
   ·have h5:=(zbi6 ck).1 ho
    rw [h2 h5.2 hS]
    exact gB (by omega)
theorem zdh2 {e:aO} (h:vE e=true):zn7 e≤24:=by
 have:=(zcu5 h).2
 unfold fitE at this
 simp only [bT,bY] at this
 omega
theorem zaN7 {e:aO} (h:vE e=true) {L:List aM} (hL:L.length≤1000) (S:List Bool):∃ b,f_ref08_holds e L S=some b∧((∀ i,S.getD i false=false)→b=false):=by
 unfold f_ref08_holds
 obtain ⟨b,h1,h2⟩:=zcu9 _ e (dW _) (zdh2 h) L S hL
 exact ⟨b,h1,h2 (zcu5 h).1⟩
theorem zbj1 {e:aO} (h:vE e=true) (S:List Bool):∃ b,zU7 e S=some b∧((∀ i,S.getD i false=false)→b=false):=by
 unfold zU7
 obtain ⟨v,h1,h2⟩:=zaz4 e
 rw [h1,Option.bind_some,h2,h]
 obtain ⟨b,h3,h4⟩:=zaN7 h (L:=v.1) (by have:=zbx2 h1; omega) S
 rw [bV rfl,h3]
 exact ⟨b,by simp,h4⟩
theorem zam9 (e:aO):∃ l,zG5 e=some l∧l.length≤8∧zo3 e=some (l,vE e):=by
 unfold zG5
 obtain ⟨v,h1,h2⟩:=zaz4 e
 exact ⟨v.1,by rw [h1]; rfl,zbx2 h1,by rw [h1,← h2]⟩
theorem zcE7 (S:List Bool) (v:List aM×Bool) (hv:v.1.length≤8) (s0:List Bool) (h0:s0.length=v.1.length):∃ x,zc0 (zaf4 S v) (0,s0)=some x∧x.length=v.1.length :=
 zq3 (body:=zaf4 S v) (fun g=>∃ i:Nat,g.1=i∧i≤v.1.length∧g.2.length=v.1.length) (fun g=>v.1.length - g.1.toNat) (fun x=>x.length=v.1.length)
  (fun g ⟨i,hi,hle,hg⟩=>by
   obtain ⟨g1,g2⟩:=g
   simp only at hi hg
   subst hi
   unfold zaf4
   by_cases c:i < v.1.length
   ·left
    have h3:0≤(i:Int)∧(i:Int) < (v.1.length:Int):=by omega
    simp only [h3.2,cC,cB,Int.toNat_natCast]
    rw [gdp (by intro h; simp only [bY] at h; omega),gdp (by omega),zc4 i (by omega)]
    exact ⟨_,rfl,⟨i+1,rfl,c,by simp only [dI]; exact hg⟩,by simp only [Int.toNat_natCast]; omega⟩
   ·right
    simp only [show ¬ (i:Int) < (v.1.length:Int) by omega,cJ,bS,cA]
    exact ⟨_,rfl,hg⟩) (0,s0) ⟨0,rfl,by omega,h0⟩
theorem zcE8 {e:aO} (h:vE e=true) (v:List aM×Bool) (hv:v.1.length≤8) (s0:List Bool) (h0:s0.length=v.1.length):∃ x,zc0 (zaf3 e v) (IntKind.i64.wrap ((v.1.length:Int) - 1),s0)=some x∧x.length=v.1.length :=
 zq3 (body:=zaf3 e v) (fun g=>-1≤g.1∧g.1 < (v.1.length:Int)∧g.2.length=v.1.length) (fun g=>(g.1+1).toNat) (fun x=>x.length=v.1.length)
  (fun g ⟨h1,h2,hg⟩=>by
   obtain ⟨i,s⟩:=g
   simp only at h1 h2 hg
   unfold zaf3
   by_cases c:0≤i
   ·left
    have e1:IntKind.i64.wrap (i - 1)=i - 1:=zf5 (by omega) (by omega)
    rw [bV (by simpa using c)]
    simp only [e1]
    rw [gdp (by omega)]
    by_cases d:s.getD i.toNat false=true
    ·rw [bV d,gdp (by omega)]
     obtain ⟨b,h3,_⟩:=zaN7 h (L:=v.1) (by omega) (s.set i.toNat false)
     rw [h3,Option.bind_some,gdp (by omega)]
     refine ⟨(i - 1,_),rfl,⟨by simp only; omega,by simp only; omega,?_⟩,by simp only; omega⟩
     simp only [dI]; exact hg
    ·rw [bU d]
     exact ⟨(i - 1,s),rfl,⟨by simp only; omega,by simp only; omega,hg⟩,by simp only; omega⟩
   ·right
    simp only [c,cJ,bS,cA]
    exact ⟨_,rfl,hg⟩) _ ⟨by simp only; rw [zf5 (by omega) (by omega)]; omega,by simp only; rw [zf5 (by omega) (by omega)]; omega,h0⟩
theorem zbV5 {e:aO} (h:vE e=true) (S:List Bool) {l:List aM} (ha:zo3 e=some (l,vE e)):∃ x,zP3 e S=some x∧x.length=l.length:=by
 unfold zP3
 have hl:=zbx2 ha
 simp only at hl
 rw [ha,Option.bind_some,gdp (by simp only; omega),h,bV rfl]
 obtain ⟨b,h3,_⟩:=zaN7 h (L:=l) (by omega) S
 simp only [h3,Option.bind_some]
 cases b with
 | false=>exact ⟨_,rfl,by simp⟩
 | true =>
  simp only [cK,eQ,bS,cA]
  obtain ⟨x,h4,h5⟩:=zcE7 S (l,true) (by simp only; omega) (List.replicate ((l.length:Int).toNat) false) (by simp)
  rw [h4,Option.bind_some]
  unfold zap0
  obtain ⟨y,h6,h7⟩:=zcE8 h (l,true) (by simp only; omega) x h5
  rw [h6]
  exact ⟨y,rfl,h7⟩
theorem zaN8 (l:List aH) (p:aJ) (hl:l.length≤1000):∃ v,zi2 l p=some v∧(v=-1∧(∀ x ∈ l,x.aN≠p)∨∃ i:Nat,v=i∧i < l.length∧(l.getD i aH.zero).aN=p):=by
 unfold zi2
 rw [zbl1 l aH.zero (fun a=>decide (a.aN=p)) (fun i hi=>by
  unfold zan8
  have h3:0≤(i:Int)∧(i:Int) < (l.length:Int):=by omega
  simp only [h3.1,h3.2,cV,zm1,cC,cB,Int.toNat_natCast,zc4 i (show i < 4611686018427387904 by omega)]
  split <;> rfl) (by unfold zan8; simp)]
 cases h:l.findIdx? fun a=>decide (a.aN=p) with
 | none =>
  refine ⟨-1,rfl,.inl ⟨rfl,fun x hx e=>?_⟩⟩
  have:=iA.1 h x hx
  simp [e] at this
 | some i =>
  obtain ⟨h1,h2,_⟩:=gL.1 h
  refine ⟨i,rfl,.inr ⟨i,rfl,h1,?_⟩⟩
  rw [bW,bZ h1]
  exact gN h2
theorem zaW2 (t:List aA) (hl:t.length≤1000):zg9 t=some (t.map (·.aB)):=by
 unfold zg9
 rw [zaM9 t aA.zero (·.aB) [] (by omega) (by simp) (fun i s hi hs=>by
  unfold zag6
  have h3:0≤(i:Int)∧(i:Int) < (t.length:Int):=by omega
  simp only [h3.1,h3.2,cV,zm1,cC,cB,Int.toNat_natCast,zc4 i (show i < 4611686018427387904 by omega)]
  rw [gdp (by omega)]) (fun s=>by unfold zag6; simp)]
 rfl
theorem zbl8 {α β:Type} (l:List α) (z:α) (f:α→Option β) {body:Int×List β→Option ((Int×List β)⊕List β)} (hl:l.length≤1000000)
  (hb:∀ (i:Nat) (s:List β),i < l.length→s.length≤1000000→body ((i:Int),s)=some (.inl (((i+1:Nat):Int),zaE6 s (f (l.getD i z))))) (he:∀ s,body ((l.length:Int),s)=some (.inr s)):zc0 body (0,[])=some (l.filterMap f):=by
 have key:=zB3 (body:=body) l z (fun i (s:List β)=>((i:Int),s)) (fun i a s=>some (.inl (zaE6 s (f a)))) (fun s=>s) (fun i s=>s.length≤i)
  (fun i s hi hs=>⟨by rw [hb i s hi (by omega)]; rfl,fun s' h=>by simp only [dC,eX] at h; subst h; have:=zcO6 s (f (l.getD i z)); omega⟩) (fun s hs=>he s) [] (by simp)
 rw [show ((0,[]):Int×List β)=(fun (i:Nat) (s:List β)=>((i:Int),s)) 0 [] from rfl,key,zaJ4 f]
 simp
def zbx3 (p:aJ) (q:aA):Option aM:=if getH q.aR p=aC.zero then none else some ⟨q.aB.name,getH q.aR p⟩
def zbD1 (p:aJ) (q:aA):Option aM:=if (zB1 q p).2=true then some ⟨q.aB.name,(zB1 q p).1⟩ else none
def sayF (l:List bK) (n:ByteArray):Option aM:=if zv3 l n=aC.zero then none else some ⟨n,zv3 l n⟩
theorem zaQ5 {t:List aA} (h:Lens t) {i:Nat} (hi:i < t.length):(t.getD i aA.zero).aR.length≤1000∧(t.getD i aA.zero).aL.length≤1000∧(t.getD i aA.zero).aV.length≤1000:=h _ (zh6 hi)
theorem zbx4 (t:List aA) (p:aJ) (hl:t.length≤1000) (hs:Lens t):zl2 t p=some (t.filterMap (zbx3 p)):=by
 unfold zl2
 rw [zbl8 t aA.zero (zbx3 p) (by omega) (fun i s hi hs'=>by
  unfold zac7
  have h3:0≤(i:Int)∧(i:Int) < (t.length:Int):=by omega
  have h4:=zaQ5 hs hi
  have h5:s.length+1≤4294967296:=by omega
  simp only [h3.1,h3.2,h5,cV,zm1,cC,cB,Int.toNat_natCast,zc4 i (show i < 4611686018427387904 by omega),zG7 (t.getD i aA.zero) p (by omega),Option.bind_some,zaD4]
  unfold zbx3
  by_cases c:getH (t.getD i aA.zero).aR p=aC.zero
  ·rw [bV c,bU (by rw [(zai6 _).2 c]; decide)]; rfl
  ·rw [bU c,bV (by rw [(zar2 _).2 c]; rfl)]; rfl) (fun s=>by unfold zac7; simp)]
 rfl
theorem zbI8 (t:List aA) (p:aJ) (hl:t.length≤1000) (hs:Lens t):zo2 t p=some (t.filterMap (zbD1 p)):=by
 unfold zo2
 rw [zbl8 t aA.zero (zbD1 p) (by omega) (fun i s hi hs'=>by
  unfold zaj7
  have h3:0≤(i:Int)∧(i:Int) < (t.length:Int):=by omega
  have h4:=zaQ5 hs hi
  have h5:s.length+1≤4294967296:=by omega
  simp only [h3.1,h3.2,h5,cV,zm1,cC,cB,Int.toNat_natCast,zc4 i (show i < 4611686018427387904 by omega),zT1 (t.getD i aA.zero) p (by omega) (by omega),Option.bind_some]
  unfold zbD1
  split <;> rfl) (fun s=>by unfold zaj7; simp)]
 rfl
theorem zbx5 (l:aX) (hl:l.aP.length≤1000):∃ ns:List ByteArray,zi3 l.aP=some ns∧(∀ n,n ∈ ns ↔ ∃ e ∈ l.aP,e.name=n)∧zi6 l=some (ns.filterMap (sayF l.aP))∧ns.length≤l.aP.length:=by
 obtain ⟨ns,h1,h2,h3⟩:=zaN6 l.aP (by omega)
 refine ⟨ns,h1,h3,?_,h2⟩
 unfold zi6
 rw [h1,Option.bind_some,zbl8 ns ⟨#[]⟩ (sayF l.aP) (by omega) (fun i s hi hs'=>by
  unfold zac5
  have h3:0≤(i:Int)∧(i:Int) < (ns.length:Int):=by omega
  have h5:s.length+1≤4294967296:=by omega
  simp only [h3.1,h3.2,h5,cV,zm1,cC,cB,Int.toNat_natCast,zc4 i (show i < 4611686018427387904 by omega),zac2 l.aP _ (by omega),Option.bind_some]
  unfold sayF
  by_cases c:zv3 l.aP (ns.getD i ⟨#[]⟩)=aC.zero
  ·rw [bV c,bU (by rw [c]; decide)]; rfl
  ·rw [bU c,bV (by rw [gB c]; rfl)]; rfl) (fun s=>by unfold zac5; simp)]
 rfl
theorem zbs9 (a b:List aM) (ha:a.length≤1000000):zf3 a b=some (decide (a=b)):=by
 unfold zf3
 by_cases h:a.length=b.length
 ·rw [bU (by simp [h])]
  exact zbz8 a b aM.zero (by omega) h (fun i=>rfl)
 ·have:¬ a=b:=fun e=>h (by rw [e])
  rw [bV (by simp; omega),gB this]
theorem zbt0 (t:List aA) (p:aJ) (e:aO) (hl:t.length≤1000) (hs:Lens t):∃ bs L,zC5 t p e=some bs∧zo3 e=some (L,vE e)∧bs.length=L.length∧(t=[]→∀ i,bs.getD i false=false):=by
 obtain ⟨L,h1,h2,h3⟩:=zam9 e
 unfold zC5
 rw [h1,Option.bind_some,gdp (by omega)]
 obtain ⟨x,h4,h5,h6⟩:=zq3 (body:=zah2 t p L) (fun g=>∃ i:Nat,g.1=i∧i≤L.length∧g.2.length=L.length∧(t=[]→∀ i,g.2.getD i false=false)) (fun g=>L.length - g.1.toNat) (fun x=>x.length=L.length∧(t=[]→∀ i,x.getD i false=false))
  (fun g ⟨i,hi,hle,hg,hz⟩=>by
   obtain ⟨g1,g2⟩:=g
   simp only at hi hg hz
   subst hi
   unfold zah2
   by_cases c:i < L.length
   ·left
    have h3:0≤(i:Int)∧(i:Int) < (L.length:Int):=by omega
    have h4:(i:Int) < (g2.length:Int):=by omega
    simp only [h3.1,h3.2,h4,cV,zm1,cC,cB,Int.toNat_natCast,zc4 i (show i < 4611686018427387904 by omega),zV1 t _ (show t.length≤1000000 by omega),Option.bind_some]
    rcases zaM7 (t:=t) (nm:=(L.getD i aM.zero).name) with e|⟨k,e,hk,_⟩
    ·rw [e,bU (by decide)]
     exact ⟨_,rfl,⟨i+1,rfl,c,hg,hz⟩,by simp only [Int.toNat_natCast]; omega⟩
    ·have h6:=zaQ5 hs hk
     rw [e,bV (by simp),gdp (by omega),gdp (by omega)]
     simp only [Int.toNat_natCast]
     rw [zG7 _ _ (by omega),Option.bind_some]
     exact ⟨_,rfl,⟨i+1,rfl,c,by simp only [dI]; exact hg,fun h=>by rw [h] at hk; cases hk⟩,by simp only [Int.toNat_natCast]; omega⟩
   ·right
    simp only [show ¬ (i:Int) < (L.length:Int) by omega,cJ,bS,cA]
    exact ⟨_,rfl,hg,hz⟩) (0,List.replicate ((L.length:Int).toNat) false) ⟨0,rfl,by omega,by simp,fun _ i=>by
     simp only [bW,iI]; split <;> rfl⟩
 exact ⟨x,L,by rw [h4]; rfl,h3,h5,h6⟩
def zcv0 (q:aA) (x:aH) (L:List aM):Prop :=
 (∃ a ∈ L,a.name=q.aB.name∧covA q.aB (zv3 x.bH.aP q.aB.name) a.aK=false ∧
  ((zB1 q x.aN).2=false∧getH q.aR x.aN=zav4 q.aB (zv3 x.bH.aP q.aB.name) a.aK∨getH q.aR x.aN=zv3 x.bH.aP q.aB.name)) ∨
 (getH q.aR x.aN=zv3 x.bH.aP q.aB.name∧(zB1 q x.aN).2=false)
theorem zcv1 (q:aA) (x:aH) (hl:q.aV.length≤1000):∃ r,zc0 (zZ6 q x) 0=some r∧(r=.inl ()∨r=.inr false):=by
 rcases zau0 (body:=zZ6 q x) q.aV.length (fun _=>True) (fun i hi=>by
  unfold zZ6
  have h3:0≤(i:Int)∧(i:Int) < (q.aV.length:Int):=by omega
  simp only [h3.1,h3.2,cV,eR,zm1,cC,cB,Int.toNat_natCast,zc4 i (show i < 4611686018427387904 by omega)]
  split
  ·exact ⟨false,rfl,trivial⟩
  ·exact ⟨true,rfl,trivial⟩) (by unfold zZ6; simp) with h|⟨h,_⟩
 ·exact ⟨_,h,.inr rfl⟩
 ·exact ⟨_,h,.inl rfl⟩
theorem zdq8 (q:aA) (x:aH) (L:List aM) (he:x.bH.aP.length≤1000) (h0:q.aR.length≤1000) (h1:q.aL.length≤1000) (h2:q.aV.length≤1000) (hL:L.length≤1000) :
  ∃ b,zJ6 q x L=some b∧(b=true→zcv0 q x L):=by
 unfold zJ6
 rw [zac2 _ _ (by omega),Option.bind_some,zG7 _ _ (by omega),Option.bind_some,zT1 _ _ (by omega) (by omega),Option.bind_some]
 obtain ⟨r,h3,h4⟩:=zq3 (body:=zZ7 q x L (zv3 x.bH.aP q.aB.name) (getH q.aR x.aN) (zB1 q x.aN)) (fun g=>∃ i:Nat,g=i∧i≤L.length) (fun g=>L.length - g.toNat)
  (fun r=>r=.inl ()∨∃ b,r=.inr b∧(b=true→zcv0 q x L))
  (fun g ⟨i,hi,hle⟩=>by
   subst hi
   unfold zZ7
   by_cases c:i < L.length
   ·have h3:0≤(i:Int)∧(i:Int) < (L.length:Int):=by omega
    simp only [h3.1,h3.2,cV,zm1,cC,cB,Int.toNat_natCast,zc4 i (show i < 4611686018427387904 by omega),zbx1]
    by_cases d:((!decide ((L.getD i aM.zero).name=q.aB.name))||(zs4 q.aB (zv3 x.bH.aP q.aB.name) ((L.getD i aM.zero).aK)))=true
    ·rw [bV d]
     exact .inl ⟨_,rfl,⟨i+1,rfl,c⟩,by simp only [Int.toNat_natCast]; omega⟩
    ·rw [bU d]
     right
     simp only [dQ,cS,cW,kC,jH,fT] at d
     obtain ⟨d1,d2⟩:=d
     have hm:=zh6 (z:=aM.zero) c
     rw [zbo6,Option.bind_some]
     cases hw:(zB1 q x.aN).2 with
     | false =>
      simp only [dE,cB]
      refine ⟨_,rfl,.inr ⟨_,rfl,fun hb=>.inl ⟨_,hm,d1,d2,.inl ⟨hw,gN hb⟩⟩⟩⟩
     | true =>
      simp only [cK,bS,cA]
      obtain ⟨r,e1,e2⟩:=zcv1 q x h2
      rw [e1]
      rcases e2 with rfl|rfl
      ·refine ⟨_,rfl,.inr ⟨_,rfl,fun hb=>.inl ⟨_,hm,d1,d2,.inr ?_⟩⟩⟩
       simp only [bT,bY] at hb; exact hb.1
      ·exact ⟨_,rfl,.inr ⟨false,rfl,fun h=>nomatch h⟩⟩
   ·right
    simp only [show ¬ (i:Int) < (L.length:Int) by omega,cJ,bS,cA]
    exact ⟨_,rfl,.inl rfl⟩) 0 ⟨0,rfl,by omega⟩
 rw [h3]
 rcases h4 with rfl|⟨b,rfl,hb⟩
 ·refine ⟨_,rfl,fun h=>.inr ?_⟩
  simp only [bT,bY,cS] at h
  exact h
 ·exact ⟨b,rfl,hb⟩
theorem zcT0 (e:aO):∃ b,zg1 e aO.zero=some b:=by
 unfold zg1
 show ∃ b,zB7 (zR7 _) e aO.zero=some b
 unfold zB7
 split
 ·exact ⟨_,rfl⟩
 ·rename_i h
  have:e.bA.length=0:=by
   simp only [dQ,kC,cS,cW,jH] at h
   have h2:=h.2
   simp only [aO.zero,List.length_nil] at h2; omega
  rw [zf6]
  unfold zT4
  simp only [this,Int.natCast_zero,show ¬ (0:Int) < 0 by omega,cJ,bS,cA]
  exact ⟨_,rfl⟩
theorem zbZ2 (l:List aI) (nm:ByteArray) (hl:l.length≤1000):∃ v,zm3 l nm=some v∧(v.2=true→v.1 ∈ l∧v.1.name=nm):=by
 unfold zm3
 obtain ⟨r,h3,h4⟩:=zq3 (body:=zar8 l nm) (fun g=>∃ i:Nat,g=i∧i≤l.length) (fun g=>l.length - g.toNat) (fun r=>r=.inl ()∨∃ x,r=.inr (x,true)∧x ∈ l∧x.name=nm)
  (fun g ⟨i,hi,hle⟩=>by
   subst hi
   unfold zar8
   by_cases c:i < l.length
   ·have h3:0≤(i:Int)∧(i:Int) < (l.length:Int):=by omega
    simp only [h3.1,h3.2,cV,zm1,cC,cB,Int.toNat_natCast,zc4 i (show i < 4611686018427387904 by omega),zbx1]
    by_cases d:(l.getD i aI.zero).name=nm
    ·rw [bV (cN d)]
     exact .inr ⟨_,rfl,.inr ⟨_,rfl,zh6 c,d⟩⟩
    ·rw [bU (by simpa using d)]
     exact .inl ⟨_,rfl,⟨i+1,rfl,c⟩,by simp only [Int.toNat_natCast]; omega⟩
   ·right
    simp only [show ¬ (i:Int) < (l.length:Int) by omega,cJ,bS,cA]
    exact ⟨_,rfl,.inl rfl⟩) 0 ⟨0,rfl,by omega⟩
 rw [h3]
 rcases h4 with rfl|⟨x,rfl,hx⟩
 ·exact ⟨_,rfl,fun h=>nomatch h⟩
 ·exact ⟨_,rfl,fun _=>hx⟩
theorem zbD2 (l:List aI) (a:aM) (hl:l.length≤1000):∃ v,zL4 l a=some v∧(v=0→∃ r ∈ l,r.name=a.name∧zb1 r a.aK=true):=by
 unfold zL4
 rw [zbj0,Option.bind_some]
 cases catV l with
 | false=>exact ⟨2,rfl,fun h=>nomatch h⟩
 | true =>
  obtain ⟨v,h1,h2⟩:=zbZ2 l a.name hl
  simp only [cK,bS,cA,h1,Option.bind_some]
  cases hv:v.2 with
  | false=>exact ⟨10,rfl,fun h=>nomatch h⟩
  | true =>
   simp only [cK,bS,cA]
   cases hf:zs9 v.1 a.aK with
   | false=>exact ⟨12,rfl,fun h=>nomatch h⟩
   | true=>exact ⟨0,rfl,fun _=>⟨v.1,(h2 hv).1,(h2 hv).2,by rw [← zaQ1]; exact hf⟩⟩
theorem zaW3 (l:List aI) (e:aO) (hl:l.length≤1000):∃ v,zG9 l e=some v∧(v=0→∀ L b,zo3 e=some (L,b)→∀ a ∈ L,∃ r ∈ l,r.name=a.name∧zb1 r a.aK=true):=by
 unfold zG9
 obtain ⟨w,h1,h2⟩:=zaz4 e
 have hw:=zbx2 h1
 rw [h1,Option.bind_some]
 cases h3:w.2 with
 | false=>exact ⟨1,rfl,fun h=>nomatch h⟩
 | true =>
  simp only [cK,bS,cA]
  obtain ⟨r,h4,h5⟩:=zq3 (body:=zah1 l w) (fun g=>∃ i:Nat,g=i∧i≤w.1.length∧∀ k,k < i→∃ r ∈ l,r.name=(w.1.getD k aM.zero).name∧zb1 r (w.1.getD k aM.zero).aK=true) (fun g=>w.1.length - g.toNat)
   (fun r=>(∃ v,r=.inr v∧v≠0)∨r=.inl ()∧∀ k,k < w.1.length→∃ r ∈ l,r.name=(w.1.getD k aM.zero).name∧zb1 r (w.1.getD k aM.zero).aK=true)
   (fun g ⟨i,hi,hle,hg⟩=>by
    subst hi
    unfold zah1
    by_cases c:i < w.1.length
    ·have h3:0≤(i:Int)∧(i:Int) < (w.1.length:Int):=by omega
     obtain ⟨v,e1,e2⟩:=zbD2 l (w.1.getD i aM.zero) hl
     simp only [h3.1,h3.2,cV,zm1,cC,cB,Int.toNat_natCast,zc4 i (show i < 4611686018427387904 by omega),e1,Option.bind_some]
     by_cases d:v=0
     ·rw [bU (by simp [d])]
      refine .inl ⟨_,rfl,⟨i+1,rfl,c,fun k hk=>?_⟩,by simp only [Int.toNat_natCast]; omega⟩
      rcases jW k i with h5|h5
      ·exact hg k h5
      ·have:k=i:=by omega
       subst this; exact e2 d
     ·rw [bV (by simp [d])]
      exact .inr ⟨_,rfl,.inl ⟨v,rfl,d⟩⟩
    ·have:i=w.1.length:=by omega
     subst this
     right
     simp only [show ¬ (w.1.length:Int) < (w.1.length:Int) by omega,cJ,bS,cA]
     exact ⟨_,rfl,.inr ⟨rfl,hg⟩⟩) 0 ⟨0,rfl,by omega,fun k hk=>by omega⟩
  rw [h4]
  rcases h5 with ⟨v,rfl,hv⟩|⟨rfl,hg⟩
  ·exact ⟨v,rfl,fun h=>absurd h hv⟩
  ·refine ⟨0,rfl,fun _ L b hL a ha=>?_⟩
   cases hL
   obtain ⟨k,hk,rfl⟩:=zR2 (z:=aM.zero) ha
   exact hg k hk
structure ProcC (t:List aA) (x:aH):Prop where
 pv:zb6 x.aN=true
 gen:0≤x.gen∧x.gen≤1073741824
 led:LedgerP x.bH
 held:∀ n,zv3 x.bH.aP n≠aC.zero→∃ q ∈ t,q.aB.name=n∧zb1 q.aB (zv3 x.bH.aP n)=true
 wait:x.bE=true→vE x.bF.bO=true∧∀ L b,zo3 x.bF.bO=some (L,b)→(∀ a ∈ L,∃ q ∈ t,q.aB.name=a.name∧zb1 q.aB a.aK=true)∧∀ q ∈ t,zcv0 q x L
 run:x.bE=false→∀ q ∈ t,getH q.aR x.aN=zv3 x.bH.aP q.aB.name∧(zB1 q x.aN).2=false
structure CenP (c:aZ):Prop where
 t:ValidT c.aF
 len:c.aG.length≤8
 each:∀ x ∈ c.aG,ProcC c.aF x
 asc:c.aG.Pairwise fun a b=>ltP a.aN b.aN
 aG:∀ p ∈ zE0 c.aF,∃ x ∈ c.aG,x.aN=p
theorem ValidT.inj {t:List aA} (h:ValidT t) {q q':aA} (h1:q ∈ t) (h2:q' ∈ t) (e:q.aB.name=q'.aB.name):q=q':=by
 obtain ⟨i,hi,rfl⟩:=zR2 (z:=aA.zero) h1
 obtain ⟨j,hj,rfl⟩:=zR2 (z:=aA.zero) h2
 rw [zbK4 h.asc hi hj e]
theorem ValidT.lens' {t:List aA} (h:ValidT t):t.length≤1000∧Lens t:=⟨by have:=h.len; omega,h.lens⟩
theorem zbG9 {l:List bK} {n:ByteArray} (h:zv3 l n≠aC.zero):∃ e ∈ l,e.name=n:=by
 have:∀ (l:List bK) (a:aC),(∀ e ∈ l,e.name≠n)→l.foldl (sayE n) a=a:=by
  intro l
  induction l with
  | nil=>intro a _; rfl
  | cons e l ih =>
   intro a hn
   rw [List.foldl_cons]
   have:sayE n a e=a:=by unfold sayE; rw [bU (hn e (.head _))]
   rw [this]; exact ih a fun x hx=>hn x (.tail _ hx)
 by_cases c:∃ e ∈ l,e.name=n
 ·exact c
 ·exact absurd (this l aC.zero fun e he hh=>c ⟨e,he,hh⟩) h
theorem zcE9 (c:aZ) (hl:c.aF.length≤1000) (v:List aM) (hv:v.length≤1000) :
  zc0 (zO0 c v) 0=some (.inr false)∨zc0 (zO0 c v) 0=some (.inl ())∧∀ i,i < v.length→∃ q ∈ c.aF,q.aB.name=(v.getD i aM.zero).name∧zb1 q.aB (v.getD i aM.zero).aK=true :=
 zau0 v.length _ (fun i hi=>by
  unfold zO0
  have h3:0≤(i:Int)∧(i:Int) < (v.length:Int):=by omega
  simp only [h3.1,h3.2,cV,eR,zm1,cC,cB,Int.toNat_natCast,zc4 i (show i < 4611686018427387904 by omega),zV1 c.aF _ (show c.aF.length≤1000000 by omega),Option.bind_some]
  rcases zaM7 (t:=c.aF) (nm:=(v.getD i aM.zero).name) with e|⟨k,e,hk,hn⟩
  ·refine ⟨false,?_,fun h=>nomatch h⟩
   rw [e,gdp (by intro h; exact absurd h (by decide))]; rfl
  ·rw [e,gdp (by intro _; omega)]
   simp only [Int.toNat_natCast,show ¬ (k:Int) < 0 by omega,cJ,dL]
   cases hf:zs9 (c.aF.getD k aA.zero).aB (v.getD i aM.zero).aK with
   | false=>exact ⟨false,rfl,fun h=>nomatch h⟩
   | true=>exact ⟨true,rfl,fun _=>⟨_,zh6 hk,hn,by rw [← zaQ1]; exact hf⟩⟩) (by unfold zO0; simp)
theorem zcv2 (c:aZ) (x:aH) (L:List aM) (hL:L.length≤8) (he:x.bH.aP.length≤1000) (hl:c.aF.length≤1000) (hs:Lens c.aF) :
  zc0 (zN9 c x L) 0=some (.inr false)∨zc0 (zN9 c x L) 0=some (.inl ())∧∀ i,i < c.aF.length→zcv0 (c.aF.getD i aA.zero) x L :=
 zau0 c.aF.length _ (fun i hi=>by
  unfold zN9
  have h3:0≤(i:Int)∧(i:Int) < (c.aF.length:Int):=by omega
  have h4:=zaQ5 hs hi
  obtain ⟨b,h1,h2⟩:=zdq8 (c.aF.getD i aA.zero) x L he (by omega) (by omega) (by omega) (by omega)
  simp only [h3.1,h3.2,cV,eR,zm1,cC,cB,Int.toNat_natCast,zc4 i (show i < 4611686018427387904 by omega),h1,Option.bind_some]
  cases b with
  | false=>exact ⟨false,rfl,fun h=>nomatch h⟩
  | true=>exact ⟨true,rfl,fun _=>h2 rfl⟩) (by unfold zN9; simp)
theorem zcF0 (c:aZ) (x:aH) (hv:ValidT c.aF):∃ b,zH0 c x=some b∧(b=true→ProcC c.aF x):=by
 obtain ⟨hl,hs⟩:=hv.lens'
 unfold zH0
 obtain ⟨bl,l1,l2⟩:=zag0 x.bH
 rw [l1,zay9]
 cases hp:zb6 x.aN with
 | false=>exact ⟨false,rfl,fun h=>nomatch h⟩
 | true =>
 by_cases cc:x.cost < 1∨1000 < x.cost
 ·refine ⟨false,?_,fun h=>nomatch h⟩
  rcases cc with h|h <;> simp [h]
 have c1:¬ x.cost < 1:=fun h=>cc (.inl h)
 have c2:¬ 1000 < x.cost:=fun h=>cc (.inr h)
 simp only [c1,c2,cJ,cK,eQ,dE,cB,Option.bind_some,dL]
 cases bl with
 | false=>exact ⟨false,rfl,fun h=>nomatch h⟩
 | true =>
 have led:=l2 rfl
 by_cases cg:x.gen < 0∨1073741824 < x.gen
 ·refine ⟨false,?_,fun h=>nomatch h⟩
  rcases cg with h|h <;> simp [h]
 have g1:¬ x.gen < 0:=fun h=>cg (.inl h)
 have g2:¬ 1073741824 < x.gen:=fun h=>cg (.inr h)
 simp only [g1,g2,cJ,cK,eQ,bS,cA]
 obtain ⟨ns,n1,n2,n3,n4⟩:=zbx5 x.bH (by have:=led.le; omega)
 have hle:=led.le
 have hv':(ns.filterMap (sayF x.bH.aP)).length≤1000:=by have:=fV (sayF x.bH.aP) ns; omega
 rw [n3,Option.bind_some]
 rcases zcE9 c hl _ hv' with h1|⟨h1,h2⟩
 ·exact ⟨false,by rw [h1]; rfl,fun h=>nomatch h⟩
 have hheld:∀ n,zv3 x.bH.aP n≠aC.zero→∃ q ∈ c.aF,q.aB.name=n∧zb1 q.aB (zv3 x.bH.aP n)=true:=fun n hn=>by
  have hm:(⟨n,zv3 x.bH.aP n⟩:aM) ∈ ns.filterMap (sayF x.bH.aP):=fI.2 ⟨n,(n2 n).2 (zbG9 hn),by unfold sayF; rw [bU hn]⟩
  obtain ⟨i,hi,e⟩:=zR2 (z:=aM.zero) hm
  have:=h2 i hi
  rw [e] at this; exact this
 rw [h1,Option.bind_some]
 show ∃ b,zW7 c x _ ()=some b∧_
 unfold zW7
 have hlen2:(c.aF.filterMap (zbx3 x.aN)).length≤1000:=by have:=fV (zbx3 x.aN) c.aF; omega
 cases hw:x.bE with
 | false =>
  simp only [dE,cB]
  obtain ⟨b1,s1⟩:=zcT0 x.bF.bO
  have sr:∃ b,zf4 x.bF { bL.zero with }=some b:=by
   unfold zf4
   rw [show ({ bL.zero with }:bL).bO=aO.zero from rfl,s1]; exact ⟨_,rfl⟩
  obtain ⟨b2,s2⟩:=sr
  rw [s2,Option.bind_some,zbx4 _ _ hl hs,zbI8 _ _ hl hs]
  by_cases c3:(b2&&decide (x.since=0))=true
  ·simp only [c3,cB,Option.bind_some,zbs9 _ _ (show (ns.filterMap (sayF x.bH.aP)).length≤1000000 by omega),cH]
   by_cases c4:ns.filterMap (sayF x.bH.aP)=c.aF.filterMap (zbx3 x.aN)
   ·simp only [c4,cC,cB,Option.bind_some,cH]
    refine ⟨_,rfl,fun hb=>⟨hp,by omega,led,hheld,fun h=>(by rw [hw] at h; cases h),fun _ q hq=>?_⟩⟩
    have hb:(c.aF.filterMap (zbD1 x.aN)).length=0:=by have:=gN hb; omega
    constructor
    ·by_cases z1:getH q.aR x.aN=aC.zero
     ·by_cases z2:zv3 x.bH.aP q.aB.name=aC.zero
      ·rw [z1,z2]
      ·have hm:(⟨q.aB.name,zv3 x.bH.aP q.aB.name⟩:aM) ∈ ns.filterMap (sayF x.bH.aP):=fI.2 ⟨_,(n2 _).2 (zbG9 z2),by unfold sayF; rw [bU z2]⟩
       rw [c4] at hm
       obtain ⟨q',hq',e⟩:=fI.1 hm
       unfold zbx3 at e
       by_cases z3:getH q'.aR x.aN=aC.zero
       ·rw [bV z3] at e; cases e
       ·rw [bU z3] at e
        simp only [dC,aM.mk.injEq] at e
        have:=hv.inj hq' hq e.1
        subst this
        exact absurd z1 z3
     ·have hm:(⟨q.aB.name,getH q.aR x.aN⟩:aM) ∈ c.aF.filterMap (zbx3 x.aN):=fI.2 ⟨q,hq,by unfold zbx3; rw [bU z1]⟩
      rw [← c4] at hm
      obtain ⟨n,hn,e⟩:=fI.1 hm
      unfold sayF at e
      by_cases z3:zv3 x.bH.aP n=aC.zero
      ·rw [bV z3] at e; cases e
      ·rw [bU z3] at e
       simp only [dC,aM.mk.injEq] at e
       rw [← e.1]; exact e.2.symm
    ·cases hq2:(zB1 q x.aN).2 with
     | false=>rfl
     | true =>
      have:(⟨q.aB.name,(zB1 q x.aN).1⟩:aM) ∈ c.aF.filterMap (zbD1 x.aN):=fI.2 ⟨q,hq,by unfold zbD1; rw [bV hq2]⟩
      rw [cR hb] at this; cases this
   ·simp only [c4,cJ,bS,cA,Option.bind_some,eK]
    exact ⟨false,rfl,fun h=>nomatch h⟩
  ·simp only [c3,cA,Option.bind_some,bS,eK]
   exact ⟨false,rfl,fun h=>nomatch h⟩
 | true =>
  simp only [cK,bS,cA]
  have v7:∃ b,zI4 x.bF=some b∧(b=true→vE x.bF.bO=true):=by
   unfold zI4
   rw [zX8,Option.bind_some]
   refine ⟨_,rfl,fun h=>?_⟩
   simp only [bT] at h; exact h.1.1.1.1
  obtain ⟨b7,v1,v2⟩:=v7
  rw [v1,Option.bind_some]
  cases b7 with
  | false=>exact ⟨false,rfl,fun h=>nomatch h⟩
  | true =>
  have hvE:=v2 rfl
  obtain ⟨v9,r1,r2⟩:=zaW3 (c.aF.map (·.aB)) x.bF.bO (by simpa using hl)
  simp only [cB,zaW2 _ hl,Option.bind_some,r1,cK,dL]
  by_cases c9:v9=0
  ·obtain ⟨bs,L,q1,q2,_⟩:=zbt0 c.aF x.aN x.bF.bO hl hs
   obtain ⟨b11,q3,_⟩:=zbj1 hvE bs
   rw [q1]
   generalize hB:((((!decide (v9=0))||(decide (x.since < 0)))||(decide (c.now < x.since)))||((!decide (x.bF.limit=0))&&(decide ((IntKind.i64.wrap (x.since+x.bF.limit))≤c.now))))=B
   cases B with
   | true=>exact ⟨false,rfl,fun h=>nomatch h⟩
   | false =>
    simp only [dE,cB,Option.bind_some,q3,dL]
    cases b11 with
    | true=>exact ⟨false,rfl,fun h=>nomatch h⟩
    | false =>
     simp only [bS,cA]
     obtain ⟨l',a1,a2,a3⟩:=zam9 x.bF.bO
     rw [a1,Option.bind_some]
     rcases zcv2 c x l' a2 (by omega) hl hs with h5|⟨h5,h6⟩
     ·exact ⟨false,by rw [h5]; rfl,fun h=>nomatch h⟩
     ·refine ⟨true,by rw [h5]; rfl,fun _=>⟨hp,by omega,led,hheld,fun _=>⟨hvE,fun L b hL=>?_⟩,fun h=>(by rw [hw] at h; cases h)⟩⟩
      rw [a3] at hL; cases hL
      refine ⟨fun a ha=>?_,fun q hq=>?_⟩
      ·obtain ⟨r,hr,e1,e2⟩:=r2 c9 _ _ a3 a ha
       obtain ⟨q,hq,rfl⟩:=cQ.1 hr
       exact ⟨q,hq,e1,e2⟩
      ·obtain ⟨i,hi,rfl⟩:=zR2 (z:=aA.zero) hq
       exact h6 i hi
  ·simp only [c9,cJ,dE,fN,cK,bS,cA,cB,Option.bind_some]
   exact ⟨false,rfl,fun h=>nomatch h⟩
theorem zcv3 (c:aZ) (hl:c.aG.length≤8) (v:List aJ) (hv:v.length≤1000) :
  zc0 (zV8 c v) 0=some (.inr false)∨zc0 (zV8 c v) 0=some (.inl ())∧∀ i,i < v.length→∃ x ∈ c.aG,x.aN=v.getD i aJ.zero :=
 zau0 v.length _ (fun i hi=>by
  unfold zV8
  have h3:0≤(i:Int)∧(i:Int) < (v.length:Int):=by omega
  obtain ⟨k,h1,h2⟩:=zaN8 c.aG (v.getD i aJ.zero) (by omega)
  simp only [h3.1,h3.2,cV,eR,zm1,cC,cB,Int.toNat_natCast,zc4 i (show i < 4611686018427387904 by omega),h1,Option.bind_some]
  rcases h2 with ⟨rfl,_⟩|⟨k,rfl,hk,e⟩
  ·exact ⟨false,rfl,fun h=>nomatch h⟩
  ·exact ⟨true,by rw [bU (by simp),bV rfl],fun _=>⟨_,zh6 hk,e⟩⟩) (by unfold zV8; simp)
theorem zcF1 (c:aZ) (hl:c.aG.length≤8) (ht:ValidT c.aF) :
  zc0 (zV7 c) 0=some (.inr false)∨zc0 (zV7 c) 0=some (.inl ())∧∀ i,i < c.aG.length→ProcC c.aF (c.aG.getD i aH.zero)∧(0 < i→ltP (c.aG.getD (i - 1) aH.zero).aN (c.aG.getD i aH.zero).aN) :=
 zau0 c.aG.length _ (fun i hi=>by
  unfold zV7
  have h3:0≤(i:Int)∧(i:Int) < (c.aG.length:Int):=by omega
  obtain ⟨b,h1,h2⟩:=zcF0 c (c.aG.getD i aH.zero) ht
  simp only [h3.1,h3.2,cV,eR,zm1,cC,cB,Int.toNat_natCast,zc4 i (show i < 4611686018427387904 by omega),h1,Option.bind_some]
  rw [gdp (by
   intro h
   simp only [bT,bY] at h
   rw [zf5 (by omega) (by omega)]; try omega)]
  cases b with
  | false=>exact ⟨false,rfl,fun h=>nomatch h⟩
  | true =>
   simp only [cK,dL]
   by_cases c0:i=0
   ·subst c0
    exact ⟨true,rfl,fun _=>⟨h2 rfl,fun h=>absurd h (by omega)⟩⟩
   ·rw [zaA3 i (by omega) (by omega)]
    simp only [show (0:Int) < (i:Int) by omega,cC,cH,Int.toNat_natCast]
    by_cases c1:ltP (c.aG.getD (i - 1) aH.zero).aN (c.aG.getD i aH.zero).aN
    ·refine ⟨true,?_,fun _=>⟨h2 rfl,fun _=>c1⟩⟩
     rw [bU (by simp only [bY]; exact fun h=>(zaF9 _ _).1 h c1),bV rfl]
    ·refine ⟨false,?_,fun h=>nomatch h⟩
     rw [bV (by simp only [bY]; exact (zaF9 _ _).2 c1)]; rfl) (by unfold zV7; simp)
theorem zcT1 {l:List aH} (h:∀ i,i < l.length→0 < i→ltP (l.getD (i - 1) aH.zero).aN (l.getD i aH.zero).aN):l.Pairwise fun a b=>ltP a.aN b.aN:=by
 rw [dV]
 have g:∀ k,(hk:k < l.length)→l.getD k aH.zero=l[k]:=fun k hk=>by rw [bW,bZ hk]; rfl
 have key:∀ d i,(hj:i+d+1 < l.length)→ltP (l.getD i aH.zero).aN (l.getD (i+d+1) aH.zero).aN:=by
  intro d
  induction d with
  | zero=>intro i hj; exact h (i+1) hj (by omega)
  | succ d ih =>
   intro i hj
   exact zav1 (ih i (by omega)) (h (i+(d+1)+1) hj (by omega))
 intro i j hi hj hij
 have:=key (j - i - 1) i (by omega)
 rw [show i+(j - i - 1)+1=j by omega,g i hi,g j hj] at this
 exact this
theorem zbj2 (c:aZ):∃ b,zP2 c=some b∧(b=true→CenP c):=by
 unfold zP2
 by_cases c0:c.now < 0∨1073741824 < c.now
 ·refine ⟨false,?_,fun h=>nomatch h⟩
  rcases c0 with h|h <;> simp [h]
 have c1:¬ c.now < 0:=fun h=>c0 (.inl h)
 have c2:¬ 1073741824 < c.now:=fun h=>c0 (.inr h)
 simp only [c1,c2,cJ,eQ,dE,cB,zam7,Option.bind_some,dL]
 cases hv:zaH4 c.aF with
 | false=>exact ⟨false,rfl,fun h=>nomatch h⟩
 | true =>
 have ht:=(zah6 _).1 hv
 by_cases c3:(8:Int) < (c.aG.length:Int)
 ·exact ⟨false,by simp [c3],fun h=>nomatch h⟩
 simp only [c3,cJ,cK,eQ,bS,cA]
 have hl:c.aG.length≤8:=by omega
 rw [zaN0 ht.len ht.each,Option.bind_some]
 rcases zcv3 c hl (zE0 c.aF) (by have:=ht.aG; omega) with h1|⟨h1,h2⟩
 ·exact ⟨false,by rw [h1]; rfl,fun h=>nomatch h⟩
 rw [h1,Option.bind_some]
 show ∃ b,zaf1 c ()=some b∧_
 unfold zaf1
 rcases zcF1 c hl ht with h3|⟨h3,h4⟩
 ·exact ⟨false,by rw [h3]; rfl,fun h=>nomatch h⟩
 refine ⟨true,by rw [h3]; rfl,fun _=>⟨ht,hl,fun x hx=>?_,zcT1 fun i hi h0=>(h4 i hi).2 h0,fun p hp=>?_⟩⟩
 ·obtain ⟨i,hi,rfl⟩:=zR2 (z:=aH.zero) hx
  exact (h4 i hi).1
 ·obtain ⟨i,hi,e⟩:=zR2 (z:=aJ.zero) hp
  obtain ⟨x,hx,e2⟩:=h2 i hi
  exact ⟨x,hx,e2.trans e⟩
theorem zcF2 {q:aA} {p:aJ} (h:zj0 q=true) (hw:(zB1 q p).2=true):(zF4 q p).2.2=0∧(∀ x,covA q.aB (getH (zF4 q p).1.aR x) (getH q.aR x)=true)∧getH (zF4 q p).1.aR p=getH q.aR p∧(zB1 (zF4 q p).1 p).2=false:=by
 have e0:(zF4 q p).2.2=0:=by unfold zF4; rw [bU (by rw [h]; decide),bU (by rw [hw]; decide)]; rfl
 obtain ⟨_,_,_,e1,e2⟩:=zaM5 e0
 have hn:∀ w ∈ ordQ (zaD6 q p),w.aN≠p:=fun w hw=>by
  unfold ordQ zaD6 at hw
  simp only [cI,zaY9] at hw
  rcases hw with hw|hw
  ·exact hw.2
  ·exact hw.2
 have hs:=zcd0 hn
 refine ⟨e0,fun x=>?_,?_,?_⟩
 ·rw [e1,zK7]; exact zaM6 e2 x
 ·rw [e1,zK7]; exact hs.1
 ·rw [e1,zK7]; exact zaM4.2 hs.2
theorem zce6 {q:aA} {p:aJ} {a:aC} (h:zj0 q=true) (hz:getH q.aR p≠aC.zero) (hw:(zB1 q p).2=false) (hc:covA q.aB (getH q.aR p) a=true) :
  (zC1 q p a).2.2=0∧(∀ x,x≠p→covA q.aB (getH (zC1 q p a).1.aR x) (getH q.aR x)=true)∧getH (zC1 q p a).1.aR p=a∧(zB1 (zC1 q p a).1 p).2=false:=by
 have e0:(zC1 q p a).2.2=0:=by
  unfold zC1
  rw [bU (by rw [h]; decide),bU hz,bU (by rw [hw]; decide),bU (by rw [hc]; decide)]
  split <;> rfl
 obtain ⟨hs,_,_,_,_,hh⟩:=zaJ6 e0
 rcases hh with ⟨e1,e2⟩|⟨e1,e2,e3⟩
 ·rw [e2]
  exact ⟨rfl,fun x _=>zap5 (zav5 hs.hv x),e1,hw⟩
 ·have hn:∀ w ∈ ordQ (zaH3 q p a),w.aN≠p:=zaM4.1 hw
  have hst:=zcd0 hn
  refine ⟨e0,fun x hx=>?_,?_,?_⟩
  ·rw [e2,zK7]
   have:=zaM6 e3 x
   unfold zaH3 at this
   rw [zP5 hx] at this
   exact this
  ·rw [e2,zK7]
   show getH (advS (zaH3 q p a)).aR p=a
   rw [hst.1]; exact zaM2 _ _ _
  ·rw [e2,zK7]; exact zaM4.2 hst.2
structure Kept (p:aJ) (t t':List aA):Prop where
 v:ValidT t'
 len:t'.length=t.length
 res:∀ i,i < t.length→(t'.getD i aA.zero).aB=(t.getD i aA.zero).aB
 cov:∀ i,i < t.length→∀ x,x≠p→covA (t.getD i aA.zero).aB (getH (t'.getD i aA.zero).aR x) (getH (t.getD i aA.zero).aR x)=true
theorem zba0 {α:Type} (l:List α) (i j:Nat) (x z:α) (h:i≠j):(l.set i x).getD j z=l.getD j z:=by
 rw [bW,bW,List.getElem?_set_ne h]
theorem zaJ7 {p:aJ} {t:List aA} (h:ValidT t):Kept p t t :=
 ⟨h,rfl,fun _ _=>rfl,fun i hi x _=>zap5 (zav5 ((zv9 _).1 (h.each _ (zh6 (z:=aA.zero) hi))).1.hv x)⟩
theorem zbx6 {p:aJ} {t:List aA} (h:ValidT t) {i:Nat} (hi:i < t.length) {q:aA} (hv:ValidT (t.set i q)) (hr:q.aB=(t.getD i aA.zero).aB)
  (hc:∀ x,x≠p→covA (t.getD i aA.zero).aB (getH q.aR x) (getH (t.getD i aA.zero).aR x)=true):Kept p t (t.set i q):=by
 have k:=zaJ7 (p:=p) h
 refine ⟨hv,dI,fun j hj=>?_,fun j hj x hx=>?_⟩
 ·by_cases e:i=j
  ·subst e; rw [zt9 t i q _ hi]; exact hr
  ·rw [zba0 t i j q _ e]
 ·by_cases e:i=j
  ·subst e; rw [zt9 t i q _ hi]; exact hc x hx
  ·rw [zba0 t i j q _ e]; exact k.cov j hj x hx
theorem Kept.trans {p:aJ} {a b c:List aA} (h:Kept p a b) (k:Kept p b c):Kept p a c :=
 ⟨k.v,k.len.trans h.len,fun i hi=>(k.res i (by rw [h.len]; exact hi)).trans (h.res i hi),fun i hi x hx=>by
  have h1:=k.cov i (by rw [h.len]; exact hi) x hx
  rw [h.res i hi] at h1
  exact zaY8 h1 (h.cov i hi x hx)⟩
theorem Kept.find {p:aJ} {t t':List aA} (h:ValidT t) (k:Kept p t t') {i:Nat} (hi:i < t.length):zz1 t' (t.getD i aA.zero).aB.name=i:=by
 have:=zbw7 k.v.asc (i:=i) (by rw [k.len]; exact hi)
 rwa [k.res i hi] at this
theorem zcF3 {t:List aA} (h:ValidT t) {i:Nat} (hi:i < t.length) {p:aJ} (hw:(zB1 (t.getD i aA.zero) p).2=true):∃ q ev,zaJ1 t p (t.getD i aA.zero).aB.name=(t.set i q,ev,0)∧ev.length≤20∧Kept p t (t.set i q) ∧
  getH q.aR p=getH (t.getD i aA.zero).aR p∧(zB1 q p).2=false∧q.aB=(t.getD i aA.zero).aB:=by
 have hq:=h.each _ (zh6 (z:=aA.zero) hi)
 obtain ⟨e0,e1,e2,e3⟩:=zcF2 hq hw
 have hf:=zbw7 h.asc hi
 have hs:=zah8 hq (.cancel p e0)
 have e:zaJ1 t p (t.getD i aA.zero).aB.name=(t.set i (zF4 (t.getD i aA.zero) p).1,[]++zak4 (t.getD i aA.zero).aB.name (zF4 (t.getD i aA.zero) p).2.1,0):=by
  unfold zaJ1 atT putT
  rw [bU (by rw [(zah6 t).2 h]; decide),hf,bU (by omega)]
  simp only [Int.toNat_natCast,e0,cB]
  rw [zaW1]
 have hv:ValidT (t.set i (zF4 (t.getD i aA.zero) p).1):=by
  have:=(zcE6 (t:=t) (p:=p) (nm:=(t.getD i aA.zero).aB.name) (by rw [e]))
  obtain ⟨_,_,_,_,hv⟩:=this
  rwa [e] at hv
 refine ⟨_,_,e,?_,zbx6 h hi hv hs.2 fun x _=>e1 x,e2,e3,hs.2⟩
 have:=(zbo8 (t.getD i aA.zero) p).2.2.2
 rw [List.nil_append,zav7]; omega
theorem zce7 {t:List aA} (h:ValidT t) {i:Nat} (hi:i < t.length) {p:aJ} {a:aC} (hz:getH (t.getD i aA.zero).aR p≠aC.zero) (hw:(zB1 (t.getD i aA.zero) p).2=false) (hc:covA (t.getD i aA.zero).aB (getH (t.getD i aA.zero).aR p) a=true) :
  ∃ q ev,zac1 t p ⟨(t.getD i aA.zero).aB.name,a⟩=(t.set i q,ev,0)∧ev.length≤20∧Kept p t (t.set i q)∧getH q.aR p=a∧(zB1 q p).2=false∧q.aB=(t.getD i aA.zero).aB:=by
 have hq:=h.each _ (zh6 (z:=aA.zero) hi)
 obtain ⟨e0,e1,e2,e3⟩:=zce6 hq hz hw hc
 have hf:=zbw7 h.asc hi
 have hs:=zah8 hq (.lower p a e0)
 have e:zac1 t p ⟨(t.getD i aA.zero).aB.name,a⟩=(t.set i (zC1 (t.getD i aA.zero) p a).1,(if getH (t.getD i aA.zero).aR p=a then [] else [zbU8 p (t.getD i aA.zero).aB.name a])++zak4 (t.getD i aA.zero).aB.name (zC1 (t.getD i aA.zero) p a).2.1,0):=by
  unfold zac1 atT putT
  rw [bU (by rw [(zah6 t).2 h]; decide)]
  simp only [hf,Int.toNat_natCast,e0,cB,show ¬ (i:Int) < 0 by omega,cA]
  rw [zaW1]
 have hv:ValidT (t.set i (zC1 (t.getD i aA.zero) p a).1):=by
  have:=(zce4 (t:=t) (p:=p) (a:=⟨(t.getD i aA.zero).aB.name,a⟩) (by rw [e]))
  obtain ⟨_,_,_,_,hv⟩:=this
  rwa [e] at hv
 refine ⟨_,_,e,?_,zbx6 h hi hv hs.2 e1,e2,e3,hs.2⟩
 have:=(zaZ0 (t.getD i aA.zero) p a).2.2.2
 rw [bX,zav7]
 have:(if getH (t.getD i aA.zero).aR p=a then ([]:List bI) else [zbU8 p (t.getD i aA.zero).aB.name a]).length≤1:=by split <;> simp
 omega
def zbc7 (w:aW) (t:List aA) (ev:List bI):aW:=⟨⟨w.c.now,t,w.c.aG⟩,ev⟩
theorem zba1 (t:List aA) (ev:List bI) (w:aW) (h:w.ev.length+ev.length≤4294967296):zd0 t ev w=some (w.c.now,t,w.c.aG,w.ev++ev):=by
 unfold zd0
 rw [gdp h]
theorem zdh3 (x:aH) {w:aW} (h:ValidT w.c.aF) {i:Nat} (hi:i < w.c.aF.length) (he:x.bH.aP.length≤1000) (hev:w.ev.length≤1000000)
  (hc:covA (w.c.aF.getD i aA.zero).aB (getH (w.c.aF.getD i aA.zero).aR x.aN) (zv3 x.bH.aP (w.c.aF.getD i aA.zero).aB.name)=true) :
  ∃ q ev,zx3 x (w.c.aF.getD i aA.zero).aB.name w=some (zbc7 w (w.c.aF.set i q) (w.ev++ev))∧ev.length≤40∧Kept x.aN w.c.aF (w.c.aF.set i q) ∧
   getH q.aR x.aN=zv3 x.bH.aP (w.c.aF.getD i aA.zero).aB.name∧(zB1 q x.aN).2=false∧q.aB=(w.c.aF.getD i aA.zero).aB:=by
 obtain ⟨hl,hs⟩:=h.lens'
 have h4:=zaQ5 hs hi
 have hf:=zbw7 h.asc hi
 have k1:∀ (t1:List aA) (ev1:List bI),Kept x.aN w.c.aF t1→ev1.length≤20→getH (t1.getD i aA.zero).aR x.aN=getH (w.c.aF.getD i aA.zero).aR x.aN→(zB1 (t1.getD i aA.zero) x.aN).2=false →
   (∃ q1,t1=w.c.aF.set i q1)→∃ q ev,zJ8 x (w.c.aF.getD i aA.zero).aB.name (i:Int) (zbc7 w t1 (w.ev++ev1))=some (zbc7 w (w.c.aF.set i q) (w.ev++ev))∧ev.length≤40∧Kept x.aN w.c.aF (w.c.aF.set i q) ∧
   getH q.aR x.aN=zv3 x.bH.aP (w.c.aF.getD i aA.zero).aB.name∧(zB1 q x.aN).2=false∧q.aB=(w.c.aF.getD i aA.zero).aB:=by
  intro t1 ev1 hk hev1 hh hw ⟨q1,hq1⟩
  have hi1:i < t1.length:=by rw [hk.len]; exact hi
  have h5:=zaQ5 hk.v.lens hi1
  have hr:=hk.res i hi
  have hg:t1.getD i aA.zero=q1:=by rw [hq1]; exact zt9 _ _ _ _ hi
  unfold zJ8
  rw [zac2 _ _ (by omega),Option.bind_some]
  show ∃ q ev,gd (0≤(i:Int)∧(i:Int) < (t1.length:Int)) ((zi0 (t1.getD (i:Int).toNat aA.zero) x.aN).bind _)=_∧_
  rw [gdp (by omega)]
  simp only [Int.toNat_natCast]
  rw [zG7 _ _ (by omega),Option.bind_some]
  by_cases e:getH (t1.getD i aA.zero).aR x.aN=zv3 x.bH.aP (w.c.aF.getD i aA.zero).aB.name
  ·rw [bU (by simp [e,-List.getD_eq_getElem?_getD])]
   refine ⟨q1,ev1,by rw [← hq1],by omega,hq1 ▸ hk,by rw [← hg]; exact e,by rw [← hg]; exact hw,by rw [← hg]; exact hr⟩
  ·rw [bV (by simp [e,-List.getD_eq_getElem?_getD])]
   have hz:getH (t1.getD i aA.zero).aR x.aN≠aC.zero:=fun z=>by
    rw [hh] at z e
    rw [z] at hc
    rcases ((zab3 _ _ _).1 hc).2.2 with h6|h6
    ·exact e (z.trans h6.symm)
    ·exact h6.1 rfl
   obtain ⟨q,ev,r1,r2,r3,r4,r5,r6⟩:=zce7 hk.v hi1 (p:=x.aN) (a:=zv3 x.bH.aP (w.c.aF.getD i aA.zero).aB.name) hz hw (by rw [hr,hh]; exact hc)
   rw [hr] at r1 r6
   rw [zaN5,Option.bind_some]
   show ∃ q ev,(zd0 (zac1 t1 x.aN ⟨_,_⟩).1 (zac1 t1 x.aN ⟨_,_⟩).2.1 (zbc7 w t1 (w.ev++ev1))).bind _=_∧_
   rw [r1,zba1 _ _ _ (by show (w.ev++ev1).length+ev.length≤_; rw [bX]; omega),Option.bind_some]
   have es:t1.set i q=w.c.aF.set i q:=by rw [hq1,fW]
   refine ⟨q,ev1++ev,?_,by rw [bX]; omega,es ▸ hk.trans r3,r4,r5,r6⟩
   show some (zbc7 w (t1.set i q) ((w.ev++ev1)++ev))=_
   rw [es,cE]
 unfold zx3
 rw [zV1 _ _ (by omega),Option.bind_some,hf,gdp (by omega)]
 simp only [Int.toNat_natCast]
 rw [zT1 _ _ (by omega) (by omega),Option.bind_some]
 cases hw:(zB1 (w.c.aF.getD i aA.zero) x.aN).2 with
 | true =>
  rw [bV rfl]
  obtain ⟨q,ev,r1,r2,r3,r4,r5,r6⟩:=zcF3 h hi hw
  rw [zbI6,Option.bind_some,r1,zba1 _ _ _ (by simp only; omega),Option.bind_some]
  have hg:(w.c.aF.set i q).getD i aA.zero=q:=zt9 _ _ _ _ hi
  exact k1 (w.c.aF.set i q) ev r3 r2 (by rw [hg]; exact r4) (by rw [hg]; exact r5) ⟨q,rfl⟩
 | false =>
  rw [bU (by decide)]
  have:=k1 w.c.aF [] (zaJ7 h) (by simp) rfl hw ⟨_,(zaD9 _ _ aA.zero hi).symm⟩
  rw [dT] at this
  exact this
structure OkW (t:List aA) (y:aH):Prop where
 e:vE y.bF.bO=true
 le:y.bH.aP.length≤1000
 at_:∀ L b,zo3 y.bF.bO=some (L,b)→∀ a ∈ L,∃ i,i < t.length∧(t.getD i aA.zero).aB.name=a.name
 cov:∀ i,i < t.length→covA (t.getD i aA.zero).aB (getH (t.getD i aA.zero).aR y.aN) (zv3 y.bH.aP (t.getD i aA.zero).aB.name)=true
theorem OkW.kept {p:aJ} {t t':List aA} {y:aH} (h:OkW t y) (k:Kept p t t') (hy:y.aN≠p):OkW t' y:=by
 refine ⟨h.e,h.le,fun L b hL a ha=>?_,fun i hi=>?_⟩
 ·obtain ⟨i,hi,e⟩:=h.at_ L b hL a ha
  exact ⟨i,by rw [k.len]; exact hi,by rw [k.res i hi]; exact e⟩
 ·rw [k.len] at hi
  rw [k.res i hi]
  exact zaY8 (k.cov i hi _ hy) (h.cov i hi)
structure Good (w:aW):Prop where
 v:ValidT w.c.aF
 len:w.c.aG.length≤8
 nd:(w.c.aG.map (·.aN)).Nodup
 ok:∀ y ∈ w.c.aG,y.bE=true→OkW w.c.aF y
def cntW (l:List aH):Nat:=l.countP (·.bE)
def bud (w:aW):Nat:=w.ev.length+2000 * cntW w.c.aG
theorem zdz8 (l:List aH):cntW l≤l.length:=List.countP_le_length
theorem zcL2 {l:List aH} {i:Nat} (h:i < l.length) (y:aH):cntW (l.set i y)+(if (l.getD i aH.zero).bE then 1 else 0)=cntW l+(if y.bE then 1 else 0):=by
 unfold cntW
 induction l generalizing i with
 | nil=>cases h
 | cons x l ih =>
  cases i with
  | zero=>simp only [List.set_cons_zero,List.countP_cons,List.getD_cons_zero]; omega
  | succ i =>
   simp only [List.set_cons_succ,List.countP_cons,gE]
   have:=ih (i:=i) (by simpa using h)
   omega
def zY3 (x:aH):aH:={ x with bE:=false,bF:=bL.zero,since:=0 }
theorem zcL3 {i:Nat} {w:aW} (hi:i < w.c.aG.length):zd9 (i:Int) w=some (w.c.now,w.c.aF,w.c.aG.set i (zY3 (w.c.aG.getD i aH.zero)),w.ev):=by
 unfold zd9
 rw [gdp (by omega),gdp (by omega),gdp (by omega)]
 simp only [Int.toNat_natCast,fW]
 rw [zt9 _ _ _ _ hi]
 rw [zt9 _ _ _ _ (by simpa using hi)]
 rfl
theorem zap6 {i:Nat} {w:aW} (hi:i < w.c.aG.length):zd2 (i:Int) w=some (w.c.now,w.c.aF,w.c.aG.set i { (w.c.aG.getD i aH.zero) with gen:=zm8 (w.c.aG.getD i aH.zero).gen },w.ev):=by
 unfold zd2
 rw [gdp (by omega),gdp (by omega)]
 simp only [Int.toNat_natCast]
theorem zba2 (k:Int) (p:aJ) {w:aW} (h:w.ev.length≤1000000):zd7 k p w=some (w.c.now,w.c.aF,w.c.aG,w.ev++[{ bI.zero with kind:=k,aN:=p }]):=by
 unfold zd7
 rw [gdp (by omega)]
theorem zbx7 {w:aW} (hl:w.c.aG.length≤8) (hq:w.c.aF.length≤1000) (hs:Lens w.c.aF) (hE:∀ y ∈ w.c.aG,y.bE=true→vE y.bF.bO=true) :
  ∃ v,zq0 w=some (v,w.c.now,w.c.aF,w.c.aG,w.ev)∧(v=-1∨∃ i:Nat,v=i∧i < w.c.aG.length∧(w.c.aG.getD i aH.zero).bE=true∧w.c.aF≠[]):=by
 unfold zq0
 obtain ⟨x,h1,h2⟩:=zq3 (body:=zI3 w) (fun g=>∃ i:Nat,g=i∧i≤w.c.aG.length) (fun g=>w.c.aG.length - g.toNat)
  (fun x=>x=.inl ()∨∃ i:Nat,x=.inr ((i:Int),w.c.now,w.c.aF,w.c.aG,w.ev)∧i < w.c.aG.length∧(w.c.aG.getD i aH.zero).bE=true∧w.c.aF≠[])
  (fun g ⟨i,hi,hle⟩=>by
   subst hi
   unfold zI3
   by_cases c:i < w.c.aG.length
   ·have h3:0≤(i:Int)∧(i:Int) < (w.c.aG.length:Int):=by omega
    simp only [h3.1,h3.2,cV,zm1,cC,cB,Int.toNat_natCast,zc4 i (show i < 4611686018427387904 by omega)]
    cases hw:(w.c.aG.getD i aH.zero).bE with
    | false =>
     simp only [bS,cA,Option.bind_some,eK]
     exact .inl ⟨_,rfl,⟨i+1,rfl,c⟩,by simp only [Int.toNat_natCast]; omega⟩
    | true =>
     simp only [cB,cH]
     obtain ⟨bs,L,q1,q2,q3,q4⟩:=zbt0 w.c.aF (w.c.aG.getD i aH.zero).aN (w.c.aG.getD i aH.zero).bF.bO hq hs
     obtain ⟨b,r1,r2⟩:=zbj1 (hE _ (zh6 c) hw) bs
     rw [q1,Option.bind_some,r1,Option.bind_some]
     cases b with
     | false =>
      rw [bU (by decide)]
      exact .inl ⟨_,rfl,⟨i+1,rfl,c⟩,by simp only [Int.toNat_natCast]; omega⟩
     | true =>
      rw [bV rfl]
      refine .inr ⟨_,rfl,.inr ⟨i,rfl,c,hw,fun hn=>?_⟩⟩
      have:=r2 (q4 hn); cases this
   ·right
    simp only [show ¬ (i:Int) < (w.c.aG.length:Int) by omega,cJ,bS,cA]
    exact ⟨_,rfl,.inl rfl⟩) 0 ⟨0,rfl,by omega⟩
 rw [h1]
 rcases h2 with rfl|⟨i,rfl,h3,h4,h5⟩
 ·exact ⟨-1,rfl,.inl rfl⟩
 ·exact ⟨i,rfl,.inr ⟨i,rfl,h3,h4,h5⟩⟩
theorem zbI9 (l:aX) (e:bK):∃ r,zB9 l e=some r∧r.1.aP.length≤100:=by
 unfold zB9
 obtain ⟨b,h1,h2⟩:=zag0 l
 rw [h1,Option.bind_some]
 cases b with
 | false=>exact ⟨_,rfl,by simp [aX.zero]⟩
 | true =>
  have hp:=h2 rfl
  have:=hp.le; have:=hp.ls
  simp only [cK,bS,cA]
  rw [gdp (by omega),gdp (by omega),gdp (by omega)]
  obtain ⟨b2,h3,_⟩:=zag0 ⟨l.aP++[e],l.bD⟩
  rw [h3,Option.bind_some]
  cases b2 with
  | false=>exact ⟨_,rfl,by simp [aX.zero]⟩
  | true=>exact ⟨_,rfl,by simp; omega⟩
def Left (x:aH) (t t':List aA) (ns:List aM):Prop:=∀ j,j < t.length →
 (getH (t'.getD j aA.zero).aR x.aN=zv3 x.bH.aP (t.getD j aA.zero).aB.name∧(zB1 (t'.getD j aA.zero) x.aN).2=false) ∨
 (t'.getD j aA.zero=t.getD j aA.zero∧∀ a ∈ ns,a.name≠(t.getD j aA.zero).aB.name)
theorem Left.cov {x:aH} {t t':List aA} {ns:List aM} (h:Left x t t' ns) (k:Kept x.aN t t') (hc:∀ i,i < t.length→covA (t.getD i aA.zero).aB (getH (t.getD i aA.zero).aR x.aN) (zv3 x.bH.aP (t.getD i aA.zero).aB.name)=true) :
  ∀ i,i < t.length→covA (t.getD i aA.zero).aB (getH (t'.getD i aA.zero).aR x.aN) (zv3 x.bH.aP (t.getD i aA.zero).aB.name)=true:=by
 intro i hi
 rcases h i hi with ⟨e,_⟩|⟨e,_⟩
 ·rw [← e,← k.res i hi]
  exact zap5 (zav5 ((zv9 _).1 (k.v.each _ (zh6 (z:=aA.zero) (by rw [k.len]; exact hi)))).1.hv x.aN)
 ·rw [e]; exact hc i hi
theorem drop_left {x:aH} {w:aW} {t:List aA} (h:ValidT t) (k:Kept x.aN t w.c.aF) {ns:List aM} (hL:Left x t w.c.aF ns) (hle:x.bH.aP.length≤1000) (hev:w.ev.length≤1000000)
  (hc:∀ i,i < t.length→covA (t.getD i aA.zero).aB (getH (t.getD i aA.zero).aR x.aN) (zv3 x.bH.aP (t.getD i aA.zero).aB.name)=true) {a:aM} (ha:∃ i,i < t.length∧(t.getD i aA.zero).aB.name=a.name) :
  ∃ t' ev,zx3 x a.name w=some (zbc7 w t' (w.ev++ev))∧ev.length≤40∧Kept x.aN t t'∧Left x t t' (ns++[a]):=by
 obtain ⟨i,hi,hn⟩:=ha
 have hi':i < w.c.aF.length:=by rw [k.len]; exact hi
 have hr:=k.res i hi
 obtain ⟨q,ev,h1,h2,h3,h4,h5,h6⟩:=zdh3 x k.v hi' hle hev (by rw [hr]; exact hL.cov k hc i hi)
 rw [hr] at h1 h4
 rw [hn] at h1
 refine ⟨_,ev,h1,h2,k.trans h3,fun j hj=>?_⟩
 by_cases e:i=j
 ·subst e
  left
  rw [zt9 _ _ _ _ hi']
  exact ⟨h4,h5⟩
 ·rw [zba0 _ _ _ _ _ e]
  rcases hL j hj with h7|⟨h7,h8⟩
  ·exact .inl h7
  ·refine .inr ⟨h7,fun b hb=>?_⟩
   rcases cI.1 hb with hb|hb
   ·exact h8 b hb
   ·rw [dP] at hb
    subst hb
    rw [← hn]
    exact fun he=>e (zbK4 h.asc hi hj he)
theorem zbx8 {i:Nat} {w:aW} (g:Good w) (hi:i < w.c.aG.length) (hw:(w.c.aG.getD i aH.zero).bE=true) (hb:bud w≤500000) :
  ∃ t' ev L,zs3 (i:Int) w=some ⟨⟨w.c.now,t',w.c.aG.set i (zY3 (w.c.aG.getD i aH.zero))⟩,w.ev++ev⟩∧ev.length≤320∧Kept (w.c.aG.getD i aH.zero).aN w.c.aF t' ∧
   zo3 (w.c.aG.getD i aH.zero).bF.bO=some (L,true)∧Left (w.c.aG.getD i aH.zero) w.c.aF t' L:=by
 have ok:=g.ok _ (zh6 hi) hw
 obtain ⟨L,a1,a2,a3⟩:=zam9 (w.c.aG.getD i aH.zero).bF.bO
 have hevb:w.ev.length≤500000:=by unfold bud at hb; omega
 unfold zs3
 rw [gdp (by omega)]
 simp only [Int.toNat_natCast]
 rw [a1,Option.bind_some]
 obtain ⟨x,h1,h2⟩:=zq3 (body:=zJ9 (i:Int) w L) (fun g=>∃ (k:Nat) (t':List aA) (ev:List bI),g=((k:Int),zbc7 w t' (w.ev++ev))∧k≤L.length∧ev.length≤40 * k∧Kept (w.c.aG.getD i aH.zero).aN w.c.aF t'∧Left (w.c.aG.getD i aH.zero) w.c.aF t' (L.take k))
  (fun g=>L.length - g.1.toNat) (fun x=>∃ (t':List aA) (ev:List bI),x=zbc7 w t' (w.ev++ev)∧ev.length≤320∧Kept (w.c.aG.getD i aH.zero).aN w.c.aF t'∧Left (w.c.aG.getD i aH.zero) w.c.aF t' L)
  (fun g ⟨k,t',ev,hg,hk,he,hK,hLf⟩=>by
   subst hg
   unfold zJ9
   by_cases c:k < L.length
   ·left
    have h3:0≤(k:Int)∧(k:Int) < (L.length:Int):=by omega
    simp only [h3.1,h3.2,cV,zm1,cC,cB,Int.toNat_natCast,zc4 k (show k < 4611686018427387904 by omega)]
    obtain ⟨t2,ev2,r1,r2,r3,r4⟩:=drop_left (w:=zbc7 w t' (w.ev++ev)) g.v hK hLf ok.le (by show (w.ev++ev).length≤_; rw [bX]; omega) ok.cov (ok.at_ L _ a3 _ (zh6 (z:=aM.zero) c))
    rw [r1,Option.bind_some]
    refine ⟨_,rfl,⟨k+1,t2,ev++ev2,?_,c,by rw [bX]; omega,r3,?_⟩,by simp only [Int.toNat_natCast]; omega⟩
    ·show (((k+1:Nat):Int),zbc7 (zbc7 w t' (w.ev++ev)) t2 ((w.ev++ev)++ev2))=_
     rw [cE]; rfl
    ·rw [zA7 aM.zero c]; exact r4
   ·right
    have e:k=L.length:=by omega
    simp only [show ¬ (k:Int) < (L.length:Int) by omega,cJ,bS,cA]
    exact ⟨_,rfl,t',ev,rfl,by omega,hK,by rw [e,eH] at hLf; exact hLf⟩) (0,w) ⟨0,w.c.aF,[],by rw [dT]; rfl,by omega,by simp,zaJ7 g.v,fun j hj=>.inr ⟨rfl,fun a ha=>by cases ha⟩⟩
 obtain ⟨t',ev,rfl,he,hK,hLf⟩:=h2
 rw [h1,Option.bind_some]
 unfold zX4
 rw [zcL3 (w:=zbc7 w t' (w.ev++ev)) hi,Option.bind_some]
 exact ⟨t',ev,L,rfl,he,hK,by rw [a3,ok.e],hLf⟩
theorem Good.upd {w:aW} (g:Good w) {i:Nat} (hi:i < w.c.aG.length) {t':List aA} (k:Kept (w.c.aG.getD i aH.zero).aN w.c.aF t') {y:aH} (hp:y.aN=(w.c.aG.getD i aH.zero).aN) (hy:y.bE=true→OkW t' y) (n:Int) (ev:List bI) :
  Good ⟨⟨n,t',w.c.aG.set i y⟩,ev⟩:=by
 have hmap:(w.c.aG.set i y).map (·.aN)=w.c.aG.map (·.aN):=by
  rw [jU,hp]
  have:(w.c.aG.map (·.aN)).getD i aJ.zero=(w.c.aG.getD i aH.zero).aN:=by
   rw [bW,cO,bW,bZ hi]; rfl
  rw [← this]
  exact zaD9 _ _ _ (by simpa using hi)
 refine ⟨k.v,by simpa using g.len,by show ((w.c.aG.set i y).map (·.aN)).Nodup; rw [hmap]; exact g.nd,fun z hz hwz=>?_⟩
 obtain ⟨j,hj,e⟩:=fK.1 (show z ∈ w.c.aG.set i y from hz)
 rw [dI] at hj
 by_cases c:i=j
 ·subst c
  rw [List.getElem_set_self] at e
  subst e
  exact hy hwz
 ·rw [List.getElem_set_ne c] at e
  have hm:z ∈ w.c.aG:=e ▸ gS hj
  refine (g.ok z hm hwz).kept k fun he=>?_
  have hn:=dV.1 g.nd
  have e1:(w.c.aG.map (·.aN))[i]'(by simpa using hi)=(w.c.aG.getD i aH.zero).aN:=by
   rw [jP,bW,bZ hi]; rfl
  have e2:(w.c.aG.map (·.aN))[j]'(by simpa using hj)=z.aN:=by rw [jP,e]
  rcases jW i j with h|h
  ·exact hn i j (by simpa using hi) (by simpa using hj) h (by rw [e1,e2,he])
  ·exact hn j i (by simpa using hj) (by simpa using hi) (by omega) (by rw [e1,e2,he])
theorem Good.lens {w:aW} (g:Good w):w.c.aF.length≤1000∧Lens w.c.aF:=g.v.lens'
theorem Good.sat {w:aW} (g:Good w):∃ v,zq0 w=some (v,w.c.now,w.c.aF,w.c.aG,w.ev)∧(v=-1∨∃ i:Nat,v=i∧i < w.c.aG.length∧(w.c.aG.getD i aH.zero).bE=true∧w.c.aF≠[]) :=
 zbx7 g.len g.lens.1 g.lens.2 fun y hy hw=>(g.ok y hy hw).e
def midW (w:aW) (i:Nat) (t:List aA) (y:aH) (ev:List bI):aW:=⟨⟨w.c.now,t,w.c.aG.set i y⟩,ev⟩
theorem zcl0 {i:Nat} {w:aW} (g:Good w) (hi:i < w.c.aG.length) (hw:(w.c.aG.getD i aH.zero).bE=true) (hb:bud w≤500000) {L:List aM} (hL:L.length≤8) (hLa:zo3 (w.c.aG.getD i aH.zero).bF.bO=some (L,true)) {keep:List Bool} (hk:keep.length=L.length) {ev0:List bI} (h0:ev0.length≤w.ev.length+1) :
  ∃ t' y ev,zc0 (zG6 ((i:Int),w) keep L) (0,midW w i w.c.aF (w.c.aG.getD i aH.zero) ev0)=some (midW w i t' y ev)∧Kept (w.c.aG.getD i aH.zero).aN w.c.aF t'∧y.aN=(w.c.aG.getD i aH.zero).aN∧ev.length≤w.ev.length+321:=by
 have ok:=g.ok _ (zh6 hi) hw
 have hevb:w.ev.length≤500000:=by unfold bud at hb; omega
 obtain ⟨x,h1,h2⟩:=zq3 (body:=zG6 ((i:Int),w) keep L) (fun g=>∃ (k:Nat) (t':List aA) (y:aH) (ev:List bI) (ns:List aM),g=((k:Int),midW w i t' y ev)∧k≤L.length∧ev.length≤w.ev.length+1+40 * k∧Kept (w.c.aG.getD i aH.zero).aN w.c.aF t' ∧
   Left (w.c.aG.getD i aH.zero) w.c.aF t' ns∧y.aN=(w.c.aG.getD i aH.zero).aN∧y.bH.aP.length≤1000)
  (fun g=>L.length - g.1.toNat) (fun x=>∃ (t':List aA) (y:aH) (ev:List bI),x=midW w i t' y ev∧Kept (w.c.aG.getD i aH.zero).aN w.c.aF t'∧y.aN=(w.c.aG.getD i aH.zero).aN∧ev.length≤w.ev.length+321)
  (fun g' ⟨k,t',y,ev,ns,hg,hkl,he,hK,hLf,hy,hyl⟩=>by
   subst hg
   unfold zG6
   by_cases c:k < L.length
   ·left
    have h3:0≤(k:Int)∧(k:Int) < (L.length:Int):=by omega
    have h4:(k:Int) < (keep.length:Int):=by omega
    simp only [h3.1,h3.2,h4,cV,zm1,cC,cB,Int.toNat_natCast,zc4 k (show k < 4611686018427387904 by omega)]
    cases hkp:keep.getD k false with
    | false =>
     simp only [dE,cB]
     obtain ⟨t2,ev2,r1,r2,r3,r4⟩:=drop_left (w:=midW w i t' y ev) g.v hK hLf ok.le (by show ev.length≤_; omega) ok.cov (ok.at_ L _ hLa _ (zh6 (z:=aM.zero) c))
     rw [r1,Option.bind_some]
     exact ⟨_,rfl,⟨k+1,t2,y,ev++ev2,ns++[L.getD k aM.zero],rfl,c,by rw [bX]; omega,r3,r4,hy,hyl⟩,by simp only [Int.toNat_natCast]; omega⟩
    | true =>
     simp only [cK,bS,cA]
     obtain ⟨j,hj,hn⟩:=ok.at_ L _ hLa _ (zh6 (z:=aM.zero) c)
     have hj':j < t'.length:=by rw [hK.len]; exact hj
     have hfd:=hK.find g.v hj
     rw [hn] at hfd
     have h6:=zaQ5 hK.v.lens hj'
     have hl':=hK.v.lens'.1
     have hyi:((w.c.aG.set i y).getD i aH.zero)=y:=zt9 _ _ _ _ hi
     show ∃ g'',(zh9 t' (L.getD k aM.zero).name).bind _=_∧_
     rw [zV1 _ _ (by omega),Option.bind_some,hfd]
     show ∃ g'',gd (0≤(j:Int)∧(j:Int) < (t'.length:Int)) ((zi0 (t'.getD (j:Int).toNat aA.zero) _).bind _)=_∧_
     rw [gdp (by omega)]
     simp only [Int.toNat_natCast]
     rw [zG7 _ _ (by omega),Option.bind_some]
     have hgi:0≤(i:Int)∧(i:Int) < (((midW w i t' y ev).c.aG.length:Nat):Int):=by show _∧(i:Int) < (((w.c.aG.set i y).length:Nat):Int); rw [dI]; omega
     have hym:(midW w i t' y ev).c.aG.getD i aH.zero=y:=hyi
     rw [gdp hgi,hym,zac2 _ _ (by omega),Option.bind_some]
     split
     ·rw [gdp hgi]
      obtain ⟨rr,e1,e2⟩:=zbI9 y.bH ⟨(L.getD k aM.zero).name,zv3 y.bH.aP (L.getD k aM.zero).name,getH (t'.getD j aA.zero).aR (w.c.aG.getD i aH.zero).aN⟩
      rw [e1,Option.bind_some,gdp hgi]
      refine ⟨_,rfl,⟨k+1,t',{ y with bH:=rr.1 },ev,ns,?_,c,by omega,hK,hLf,hy,by show rr.1.aP.length≤_; omega⟩,by simp only [Int.toNat_natCast]; omega⟩
      show (((k+1:Nat):Int),(⟨(⟨w.c.now,t',((w.c.aG.set i y).set i _)⟩:aZ),ev⟩:aW))=_
      rw [fW]; rfl
     ·exact ⟨_,rfl,⟨k+1,t',y,ev,ns,rfl,c,by omega,hK,hLf,hy,hyl⟩,by simp only [Int.toNat_natCast]; omega⟩
   ·right
    simp only [show ¬ (k:Int) < (L.length:Int) by omega,cJ,bS,cA]
    exact ⟨_,rfl,t',y,ev,rfl,hK,hy,by omega⟩) (0,midW w i w.c.aF (w.c.aG.getD i aH.zero) ev0) ⟨0,w.c.aF,w.c.aG.getD i aH.zero,ev0,[],rfl,by omega,by omega,zaJ7 g.v,fun j hj=>.inr ⟨rfl,fun a ha=>by cases ha⟩,rfl,ok.le⟩
 obtain ⟨t',y,ev,rfl,h3,h4,h5⟩:=h2
 exact ⟨t',y,ev,h1,h3,h4,h5⟩
structure Less (w w':aW):Prop where
 good:Good w'
 len:w'.c.aG.length=w.c.aG.length
 cnt:cntW w'.c.aG≤cntW w.c.aG
 bud:bud w'≤bud w
theorem zdh4 (w:aW) (i:Nat) (hi:i < w.c.aG.length) (ev:List bI):midW w i w.c.aF (w.c.aG.getD i aH.zero) ev=⟨⟨w.c.now,w.c.aF,w.c.aG⟩,ev⟩:=by
 unfold midW; rw [zaD9 _ _ _ hi]
theorem zcv4 {i:Nat} {w:aW} (g:Good w) (hi:i < w.c.aG.length) (hw:(w.c.aG.getD i aH.zero).bE=true) (hb:bud w≤500000) :
  ∃ v w',zz9 ((i:Int),w)=some (.inl (v,w'))∧Less w w'∧cntW w'.c.aG < cntW w.c.aG∧(v=-1∨∃ k:Nat,v=k∧k < w'.c.aG.length∧(w'.c.aG.getD k aH.zero).bE=true):=by
 have ok:=g.ok _ (zh6 hi) hw
 have hevb:w.ev.length≤500000:=by unfold bud at hb; omega
 unfold zz9
 have h3:0≤(i:Int)∧(i:Int) < (w.c.aG.length:Int):=by omega
 simp only [h3.1,h3.2,cV,zm1,cC,cB,Int.toNat_natCast]
 rw [zba2 _ _ (by omega),Option.bind_some]
 obtain ⟨bs,L',q1,q2,q3,_⟩:=zbt0 w.c.aF (w.c.aG.getD i aH.zero).aN (w.c.aG.getD i aH.zero).bF.bO g.lens.1 g.lens.2
 obtain ⟨L,a1,a2,a3⟩:=zam9 (w.c.aG.getD i aH.zero).bF.bO
 rw [q1,Option.bind_some]
 obtain ⟨keep,p1,p2⟩:=zbV5 ok.e bs a3
 rw [p1,Option.bind_some,a1,Option.bind_some]
 obtain ⟨t',y,ev,r1,r2,r3,r4⟩:=zcl0 g hi hw hb a2 (by rw [a3,ok.e]) p2 (ev0:=w.ev++[{ bI.zero with kind:=2,aN:=(w.c.aG.getD i aH.zero).aN }]) (by simp)
 rw [zdh4 w i hi] at r1
 rw [r1,Option.bind_some]
 unfold zab8
 have hyi:((midW w i t' y ev).c.aG.getD i aH.zero)=y:=zt9 _ _ _ _ hi
 have hl1:i < (midW w i t' y ev).c.aG.length:=by show i < (w.c.aG.set i y).length; rw [dI]; exact hi
 rw [zcL3 (w:=midW w i t' y ev) hl1,Option.bind_some,hyi]
 have e1:(midW w i t' y ev).c.aG.set i (zY3 y)=w.c.aG.set i (zY3 y):=by show (w.c.aG.set i y).set i _=_; rw [fW]
 rw [e1]
 have hl2:i < (w.c.aG.set i (zY3 y)).length:=by rw [dI]; exact hi
 rw [zap6 (w:=⟨⟨_,_,w.c.aG.set i (zY3 y)⟩,_⟩) hl2,Option.bind_some]
 simp only [zt9 _ _ _ _ hi,fW]
 have hg':Good ⟨⟨w.c.now,t',w.c.aG.set i { zY3 y with gen:=zm8 (zY3 y).gen }⟩,ev⟩:=g.upd hi r2 (y:={ zY3 y with gen:=zm8 (zY3 y).gen }) r3 (fun h=>by cases h) _ _
 have hcnt:cntW (w.c.aG.set i { zY3 y with gen:=zm8 (zY3 y).gen })+1=cntW w.c.aG:=by
  have:=zcL2 hi { zY3 y with gen:=zm8 (zY3 y).gen }
  rw [hw] at this
  simpa [zY3] using this
 obtain ⟨v,s1,s2⟩:=hg'.sat
 show ∃ v w',(zq0 ⟨⟨w.c.now,t',w.c.aG.set i { zY3 y with gen:=zm8 (zY3 y).gen }⟩,ev⟩).bind _=_∧_
 rw [s1,Option.bind_some]
 refine ⟨v,_,rfl,⟨hg',by show (w.c.aG.set i _).length=_; rw [dI],by show cntW (w.c.aG.set i _)≤_; omega,by show ev.length+2000 * cntW (w.c.aG.set i _)≤w.ev.length+2000 * cntW w.c.aG; omega⟩,by show cntW (w.c.aG.set i _) < _; omega,?_⟩
 rcases s2 with h|⟨k,h5,h6,h7,_⟩
 ·exact .inl h
 ·exact .inr ⟨k,h5,h6,h7⟩
theorem Less.refl {w:aW} (g:Good w):Less w w:=⟨g,rfl,dD _,dD _⟩
theorem Less.trans {a b c:aW} (h:Less a b) (k:Less b c):Less a c:=⟨k.good,k.len.trans h.len,eA k.cnt h.cnt,eA k.bud h.bud⟩
theorem zba3 {w:aW} (g:Good w) (hb:bud w≤500000):∃ w',zk6 w=some w'∧Less w w':=by
 unfold zk6
 obtain ⟨v,s1,s2⟩:=g.sat
 rw [s1,Option.bind_some]
 obtain ⟨x,h1,h2⟩:=zq3 (body:=zz9) (fun z=>Less w z.2∧(z.1=-1∨∃ k:Nat,z.1=k∧k < z.2.c.aG.length∧(z.2.c.aG.getD k aH.zero).bE=true)) (fun z=>cntW z.2.c.aG) (fun x=>Less w x)
  (fun z ⟨hl,hv⟩=>by
   obtain ⟨v,w1⟩:=z
   simp only at hl hv
   rcases hv with rfl|⟨k,rfl,hk,hkw⟩
   ·right
    exact ⟨w1,rfl,hl⟩
   ·left
    obtain ⟨v',w',e1,e2,e3,e4⟩:=zcv4 hl.good hk hkw (eA hl.bud hb)
    exact ⟨(v',w'),e1,⟨hl.trans e2,e4⟩,e3⟩) (v,w) ⟨Less.refl g,by
   rcases s2 with h|⟨k,h5,h6,h7,_⟩
   ·exact .inl h
   ·exact .inr ⟨k,h5,h6,h7⟩⟩
 refine ⟨x,?_,h2⟩
 show (zc0 _ (v,w)).bind _=_
 rw [h1]; rfl
theorem zcv5 {w:aW} (hq:w.c.aF=[]) (hl:w.c.aG.length≤8) (hE:∀ y ∈ w.c.aG,y.bE=true→vE y.bF.bO=true):zk6 w=some w:=by
 unfold zk6
 obtain ⟨v,s1,s2⟩:=zbx7 hl (by rw [hq]; simp) (by rw [hq]; intro q h; cases h) hE
 rw [s1,Option.bind_some]
 rcases s2 with rfl|⟨k,_,_,_,h⟩
 ·rw [zf6]; rfl
 ·exact absurd hq h
theorem zbV6 {w:aW} (hl:w.c.aG.length≤8):∃ v,zc5 w=some (v,w.c.now,w.c.aF,w.c.aG,w.ev)∧(v=-1∨∃ i:Nat,v=i∧i < w.c.aG.length∧(w.c.aG.getD i aH.zero).bE=true):=by
 unfold zc5
 obtain ⟨x,h1,h2⟩:=zq3 (body:=zL8 w) (fun g=>(∃ i:Nat,g.2.2=i∧i≤w.c.aG.length)∧(g.1=-1∨∃ i:Nat,g.1=i∧i < w.c.aG.length∧(w.c.aG.getD i aH.zero).bE=true)) (fun g=>w.c.aG.length - g.2.2.toNat)
  (fun x=>x=-1∨∃ i:Nat,x=i∧i < w.c.aG.length∧(w.c.aG.getD i aH.zero).bE=true)
  (fun g ⟨⟨i,hi,hle⟩,hg⟩=>by
   obtain ⟨b,wh,g2⟩:=g
   simp only at hi hg
   subst hi
   unfold zL8
   by_cases c:i < w.c.aG.length
   ·left
    have h3:0≤(i:Int)∧(i:Int) < (w.c.aG.length:Int):=by omega
    simp only [h3.1,h3.2,cV,zm1,cC,cB,Int.toNat_natCast,zc4 i (show i < 4611686018427387904 by omega)]
    split
    ·rename_i h
     simp only [bT] at h
     exact ⟨_,rfl,⟨⟨i+1,rfl,c⟩,.inr ⟨i,rfl,c,h.1.1.1⟩⟩,by simp only [Int.toNat_natCast]; omega⟩
    ·exact ⟨_,rfl,⟨⟨i+1,rfl,c⟩,hg⟩,by simp only [Int.toNat_natCast]; omega⟩
   ·right
    simp only [show ¬ (i:Int) < (w.c.aG.length:Int) by omega,cJ,bS,cA]
    exact ⟨_,rfl,hg⟩) (-1,0,0) ⟨⟨0,rfl,by omega⟩,.inl rfl⟩
 rw [h1,Option.bind_some]
 exact ⟨x,rfl,h2⟩
theorem zbp0 {i:Nat} {w:aW} (g:Good w) (hi:i < w.c.aG.length) (hw:(w.c.aG.getD i aH.zero).bE=true) (hb:bud w≤500000) :
  ∃ w1 w2,zs3 (i:Int) w=some w1∧zd2 (i:Int) w1=some (w2.c.now,w2.c.aF,w2.c.aG,w2.ev)∧Good w2∧w2.c.aG.length=w.c.aG.length∧cntW w2.c.aG < cntW w.c.aG∧bud w2+1000≤bud w:=by
 obtain ⟨t',ev,L,h1,h2,h3,_,_⟩:=zbx8 g hi hw hb
 have hl2:i < (w.c.aG.set i (zY3 (w.c.aG.getD i aH.zero))).length:=by rw [dI]; exact hi
 have hn:=zap6 (w:=⟨⟨w.c.now,t',w.c.aG.set i (zY3 (w.c.aG.getD i aH.zero))⟩,w.ev++ev⟩) hl2
 simp only [zt9 _ _ _ _ hi,fW] at hn
 have hcnt:cntW (w.c.aG.set i { zY3 (w.c.aG.getD i aH.zero) with gen:=zm8 (zY3 (w.c.aG.getD i aH.zero)).gen })+1=cntW w.c.aG:=by
  have:=zcL2 hi { zY3 (w.c.aG.getD i aH.zero) with gen:=zm8 (zY3 (w.c.aG.getD i aH.zero)).gen }
  rw [hw] at this
  simpa [zY3] using this
 refine ⟨_,⟨⟨w.c.now,t',w.c.aG.set i { zY3 (w.c.aG.getD i aH.zero) with gen:=zm8 (zY3 (w.c.aG.getD i aH.zero)).gen }⟩,w.ev++ev⟩,h1,hn,g.upd hi h3 (y:={ zY3 (w.c.aG.getD i aH.zero) with gen:=zm8 (zY3 (w.c.aG.getD i aH.zero)).gen }) rfl (fun h=>by cases h) _ _,by simp,by show cntW (w.c.aG.set i _) < _; omega,?_⟩
 show (w.ev++ev).length+2000 * cntW (w.c.aG.set i _)+1000≤w.ev.length+2000 * cntW w.c.aG
 rw [bX]
 omega
theorem Good.ev {w:aW} (g:Good w) (ev:List bI) (n:Int):Good ⟨⟨n,w.c.aF,w.c.aG⟩,ev⟩:=⟨g.v,g.len,g.nd,g.ok⟩
theorem zdh5 (n:Int) {w:aW} (g:Good w) (hb:bud w≤400000):∃ r,zE9 n w=some r:=by
 unfold zE9
 split
 ·exact ⟨_,rfl⟩
 split
 ·exact ⟨_,rfl⟩
 have g1:=g.ev w.ev (IntKind.i64.wrap (w.c.now+n))
 obtain ⟨v,e1,e2⟩:=zbV6 (w:=⟨⟨IntKind.i64.wrap (w.c.now+n),w.c.aF,w.c.aG⟩,w.ev⟩) g.len
 rw [e1,Option.bind_some]
 obtain ⟨x,h1,h2⟩:=zq3 (body:=zU2) (fun z=>Good z.2∧bud z.2≤400000∧(z.1=-1∨∃ k:Nat,z.1=k∧k < z.2.c.aG.length∧(z.2.c.aG.getD k aH.zero).bE=true)) (fun z=>cntW z.2.c.aG) (fun _=>True)
  (fun z ⟨hg,hbz,hv⟩=>by
   obtain ⟨v,w1⟩:=z
   simp only at hg hbz hv
   rcases hv with rfl|⟨k,rfl,hk,hkw⟩
   ·right
    exact ⟨w1,rfl,trivial⟩
   ·left
    have hev:w1.ev.length≤400000:=by unfold bud at hbz; omega
    unfold zU2
    have h3:0≤(k:Int)∧(k:Int) < (w1.c.aG.length:Int):=by omega
    simp only [h3.1,h3.2,cV,zm1,cC,cB,Int.toNat_natCast]
    rw [zba2 _ _ (by omega),Option.bind_some]
    have gn:=hg.ev (w1.ev++[{ bI.zero with kind:=4,aN:=(w1.c.aG.getD k aH.zero).aN }]) w1.c.now
    obtain ⟨wa,wb,r1,r2,r3,r4,r5,r6⟩:=zbp0 (w:=⟨⟨w1.c.now,w1.c.aF,w1.c.aG⟩,w1.ev++[{ bI.zero with kind:=4,aN:=(w1.c.aG.getD k aH.zero).aN }]⟩) gn hk hkw (by unfold bud at hbz ⊢; simp only [bX,List.length_singleton]; omega)
    have hbb:bud wb+999≤bud w1:=by
     have:bud (⟨⟨w1.c.now,w1.c.aF,w1.c.aG⟩,w1.ev++[{ bI.zero with kind:=4,aN:=(w1.c.aG.getD k aH.zero).aN }]⟩:aW)=bud w1+1:=by unfold bud; simp only [bX,List.length_singleton]; omega
     omega
    rw [r1,Option.bind_some,r2,Option.bind_some]
    obtain ⟨wc,s1,s2⟩:=zba3 r3 (by omega)
    show ∃ g',(zk6 wb).bind _=_∧_
    rw [s1,Option.bind_some]
    obtain ⟨v2,e3,e4⟩:=zbV6 s2.good.len
    rw [e3,Option.bind_some]
    refine ⟨_,rfl,⟨s2.good.ev _ _,?_,e4⟩,?_⟩
    ·have:=s2.bud
     show bud wc≤_
     omega
    ·have:=s2.cnt
     show cntW wc.c.aG < cntW w1.c.aG
     exact Nat.lt_of_le_of_lt this r5) (v,⟨⟨IntKind.i64.wrap (w.c.now+n),w.c.aF,w.c.aG⟩,w.ev⟩) ⟨g1,hb,e2⟩
 show ∃ r,(zc0 _ (v,_)).bind _=some r
 rw [h1]
 exact ⟨_,rfl⟩
end Ab
end Go.Proofs.YtogpinppgncpmaaGreatDoor
