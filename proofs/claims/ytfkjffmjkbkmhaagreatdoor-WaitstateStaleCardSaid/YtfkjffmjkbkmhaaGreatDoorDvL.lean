import Derived.Test.YtfkjffmjkbkmhaaGreatDoorDvE
import Derived.Test.YtfkjffmjkbkmhaaGreatDoorTabB
namespace Go.Proofs.YtfkjffmjkbkmhaaGreatDoor
namespace Ab
set_option linter.unusedVariables false
set_option linter.unusedSimpArgs false
theorem zaL9.eff {q q':aA} {x:aG} {L:List aM} (h:zaL9 q x L) (e:Eff q q' x.aJ) (hr:q'.aB=q.aB):zaL9 q' x L:=by
 unfold zaL9 at *
 rw [hr]
 rcases e.st with ⟨e1,e2⟩|⟨e1,e2,e3⟩
 ·rw [e1,e2]
  rcases h with ⟨a,ha,hn,hc,h⟩|h
  ·refine .inl ⟨a,ha,hn,hc,?_⟩
   rcases h with h|⟨h1,h2,h3,h4⟩
   ·exact .inl h
   ·refine .inr ⟨h1,h2,h3,fun w hw ew=>?_⟩
    obtain ⟨w2,m2,f2,p2⟩:=e.pr w hw ew
    rw [← p2]; exact h4 w2 m2 f2
  ·exact .inr h
 ·rcases h with ⟨a,ha,hn,hc,h⟩|h
  ·refine .inl ⟨a,ha,hn,hc,?_⟩
   rcases h with ⟨h1,_⟩|⟨_,_,h3,_⟩
   ·rw [h1] at e1; cases e1
   ·exact .inl ⟨e2,e3.trans h3⟩
  ·rw [h.2.2] at e1; cases e1
theorem Kept.mem {p:aK} {t t':List aA} (k:Kept p t t') {q':aA} (hq:q' ∈ t'):∃ i,i < t.length∧t'.getD i aA.zero=q'∧q'.aB=(t.getD i aA.zero).aB:=by
 obtain ⟨i,hi,e⟩:=zy5 (z:=aA.zero) hq
 rw [k.len] at hi
 exact ⟨i,hi,e,by rw [← e]; exact k.res i hi⟩
theorem Kept.named {p:aK} {t t':List aA} (k:Kept p t t') {n:ByteArray} {P:aI→Prop} (h:∃ q ∈ t,q.aB.name=n∧P q.aB):∃ q ∈ t',q.aB.name=n∧P q.aB:=by
 obtain ⟨q,hq,h1,h2⟩:=h
 obtain ⟨i,hi,rfl⟩:=zy5 (z:=aA.zero) hq
 refine ⟨_,zd1 (z:=aA.zero) (by rw [k.len]; exact hi),?_⟩
 rw [k.res i hi]; exact ⟨h1,h2⟩
theorem ProcV.kept {now:Int} {p:aK} {t t':List aA} {y:aG} (h:ProcV now t y) (k:Kept p t t') (hy:y.aJ≠p):ProcV now t' y:=by
 refine ⟨h.pv,h.cost,h.gen,h.led,fun n hn=>k.named (P:=fun r=>za4 r _=true) (h.held n hn),fun hw=>?_,fun hw=>?_⟩
 ·have w:=h.wait hw
  refine ⟨w.ve,w.pr,w.li,w.since,fun L b hL a ha=>k.named (P:=fun r=>za4 r _=true) (w.res L b hL a ha),fun L b hL q' hq=>?_⟩
  obtain ⟨i,hi,rfl,hr⟩:=k.mem hq
  exact (w.part L b hL _ (zd1 hi)).eff (k.eff i hi _ hy) hr
 ·obtain ⟨h1,h2,h3⟩:=h.run hw
  refine ⟨h1,h2,fun q' hq=>?_⟩
  obtain ⟨i,hi,rfl,hr⟩:=k.mem hq
  obtain ⟨h4,h5⟩:=h3 _ (zd1 (z:=aA.zero) hi)
  rw [hr]
  rcases (k.eff i hi _ hy).st with ⟨e1,e2⟩|⟨e1,_⟩
  ·rw [e1,e2]; exact ⟨h4,h5⟩
  ·rw [h5] at e1; cases e1
theorem zbR1 {p:aK} {t t':List aA} (ht:ValidT t) (k:Kept p t t') {x:aK} (hx:x ∈ zw6 t'):x=p∨x ∈ zw6 t:=by
 by_cases c:x=p
 ·exact .inl c
 ·right
  obtain ⟨q',hq,hh⟩:=(zH9 k.v.each).1 hx
  obtain ⟨i,hi,rfl,hr⟩:=k.mem hq
  refine (zH9 ht.each).2 ⟨t.getD i aA.zero,zd1 hi,?_⟩
  unfold hasQ at *
  rcases (k.eff i hi x c).st with ⟨e1,e2⟩|⟨e1,_⟩
  ·rw [e1,e2] at hh; exact hh
  ·rw [e1]; rfl
theorem zdd2 {now:Int} {t:List aA} (ht:ValidT t) {x:aG} (hx:ProcV now t x) {L:List aM} (hL:∀ a ∈ L,∃ q ∈ t,q.aB.name=a.name∧za4 q.aB a.aN=true) {q:aA} (hq:q ∈ t) (hp:zaL9 q x L) :
  covA q.aB (getH q.aQ x.aJ) (zh0 x.bB.aH q.aB.name)=true:=by
 have hv:=((zr8 _).1 (ht.each _ hq)).1.hv
 have hpm:=zas4 hv x.aJ
 have same:getH q.aQ x.aJ=zh0 x.bB.aH q.aB.name→covA q.aB (getH q.aQ x.aJ) (zh0 x.bB.aH q.aB.name)=true:=fun e=>by rw [← e]; exact zas5 hpm
 rcases hp with ⟨a,ha,hn,hc,h⟩|⟨_,h,_⟩
 ·rcases h with ⟨_,h⟩|⟨_,h,_⟩
  ·by_cases z:zh0 x.bB.aH q.aB.name=aD.zero
   ·rw [z]; exact zbi3 hpm (zbf1 (ht.each _ hq))
   ·obtain ⟨q1,m1,n1,f1⟩:=hx.held _ z
    have e1:=ht.inj m1 hq n1
    subst e1
    obtain ⟨q2,m2,n2,f2⟩:=hL a ha
    have e2:=ht.inj m2 hq (n2.trans hn)
    subst e2
    rw [h]
    exact (zbp3 f1 f2 hc).2.1
  ·exact same h
 ·exact same h
theorem zbu0 {t:List aA} {n:ByteArray} (h:∃ q ∈ t,q.aB.name=n):∃ i,i < t.length∧(t.getD i aA.zero).aB.name=n:=by
 obtain ⟨q,hq,e⟩:=h
 obtain ⟨i,hi,rfl⟩:=zy5 (z:=aA.zero) hq
 exact ⟨i,hi,e⟩
structure OkW (t:List aA) (y:aG):Prop where
 e:vE y.aZ.bP=true
 le:y.bB.aH.length≤1000
 at_:∀ L b,zj8 y.aZ.bP=some (L,b)→∀ a ∈ L,∃ i,i < t.length∧(t.getD i aA.zero).aB.name=a.name
 cov:∀ i,i < t.length→covA (t.getD i aA.zero).aB (getH (t.getD i aA.zero).aQ y.aJ) (zh0 y.bB.aH (t.getD i aA.zero).aB.name)=true
theorem ProcV.ok {now:Int} {t:List aA} (ht:ValidT t) {y:aG} (h:ProcV now t y) (hw:y.bH=true):OkW t y:=by
 have w:=h.wait hw
 refine ⟨w.ve,by have:=h.led.le; omega,fun L b hL a ha=>?_,fun i hi=>?_⟩
 ·obtain ⟨q,hq,e,_⟩:=w.res L b hL a ha
  exact zbu0 ⟨q,hq,e⟩
 ·obtain ⟨v,h3,h4⟩:=zaL5 y.aZ.bP
  exact zdd2 ht h (w.res v.1 v.2 h3) (zd1 hi) (w.part v.1 v.2 h3 _ (zd1 hi))
structure Good (w:aX):Prop where
 now:0≤w.c.now∧w.c.now≤1073741824
 v:ValidT w.c.aC
 len:w.c.aF.length≤8
 asc:w.c.aF.Pairwise fun a b=>ltP a.aJ b.aJ
 each:∀ x ∈ w.c.aF,ProcV w.c.now w.c.aC x
 aF:∀ p ∈ zw6 w.c.aC,∃ x ∈ w.c.aF,x.aJ=p
theorem Good.ok {w:aX} (g:Good w):∀ y ∈ w.c.aF,y.bH=true→OkW w.c.aC y:=fun y hy hw=>(g.each y hy).ok g.v hw
theorem Good.other {w:aX} (g:Good w) {i j:Nat} (hi:i < w.c.aF.length) (hj:j < w.c.aF.length) (h:i≠j):(w.c.aF.getD j aG.zero).aJ≠(w.c.aF.getD i aG.zero).aJ:=fun e=>by
 rcases hX i j with c|c
 ·have:=zcg1 g.asc hj c; rw [e] at this; exact zP8 _ this
 ·have:=zcg1 g.asc hi (show j < i by omega); rw [e] at this; exact zP8 _ this
theorem CenV.good {c:bA} (h:CenV c) (ev:List bJ):Good ⟨c,ev⟩:=⟨h.now,h.t,h.len,h.asc,h.each,h.aF⟩
def cntW (l:List aG):Nat:=l.countP (·.bH)
def bud (w:aX):Nat:=w.ev.length+2000 * cntW w.c.aF
theorem zcA4 (l:List aG):cntW l≤l.length:=List.countP_le_length
theorem zcG2 {l:List aG} {i:Nat} (h:i < l.length) (y:aG):cntW (l.set i y)+(if (l.getD i aG.zero).bH then 1 else 0)=cntW l+(if y.bH then 1 else 0):=by
 unfold cntW
 induction l generalizing i with
 | nil=>cases h
 | cons x l ih =>
  cases i with
  | zero=>simp only [List.set_cons_zero,List.countP_cons,List.getD_cons_zero]; omega
  | succ i =>
   simp only [List.set_cons_succ,List.countP_cons,gP]
   have:=ih (i:=i) (by simpa using h)
   omega
def zbZ6 (x:aG):aG:={ x with bH:=false,aZ:=bK.zero,since:=0 }
theorem zcG3 {i:Nat} {w:aX} (hi:i < w.c.aF.length):ze0 (i:Int) w=some (w.c.now,w.c.aC,w.c.aF.set i (zbZ6 (w.c.aF.getD i aG.zero)),w.ev):=by
 unfold ze0
 rw [gdp (by omega),gdp (by omega),gdp (by omega)]
 simp only [Int.toNat_natCast,fX]
 rw [zm9 _ _ _ _ hi]
 rw [zm9 _ _ _ _ (by simpa using hi)]
 rfl
theorem zam2 {i:Nat} {w:aX} (hi:i < w.c.aF.length):zd3 (i:Int) w=some (w.c.now,w.c.aC,w.c.aF.set i { (w.c.aF.getD i aG.zero) with gen:=zm5 (w.c.aF.getD i aG.zero).gen },w.ev):=by
 unfold zd3
 rw [gdp (by omega),gdp (by omega)]
 simp only [Int.toNat_natCast]
theorem zaX6 (k:Int) (p:aK) {w:aX} (h:w.ev.length≤1000000):zd7 k p w=some (w.c.now,w.c.aC,w.c.aF,w.ev++[{ bJ.zero with kind:=k,aJ:=p }]):=by
 unfold zd7
 rw [gdp (by omega)]
def SatP (w:aX) (x:aG):Prop:=x.bH=true→∀ bs,zv9 w.c.aC x.aJ x.aZ.bP=some bs→zA7 x.aZ.bP bs=some false
theorem zcg2 {w:aX} (hl:w.c.aF.length≤8) (hq:w.c.aC.length≤1000) (hs:Lens w.c.aC) (hE:∀ y ∈ w.c.aF,y.bH=true→vE y.aZ.bP=true) :
  ∃ v,zp6 w=some (v,w.c.now,w.c.aC,w.c.aF,w.ev)∧(v=-1∧(∀ x ∈ w.c.aF,SatP w x)∨∃ i:Nat,v=i∧i < w.c.aF.length∧(w.c.aF.getD i aG.zero).bH=true):=by
 unfold zp6
 obtain ⟨x,h1,h2⟩:=zq4 (body:=zF6 w) (fun g=>∃ i:Nat,g=i∧i≤w.c.aF.length∧∀ k,k < i→SatP w (w.c.aF.getD k aG.zero)) (fun g=>w.c.aF.length - g.toNat)
  (fun x=>x=.inl ()∧(∀ x ∈ w.c.aF,SatP w x)∨∃ i:Nat,x=.inr ((i:Int),w.c.now,w.c.aC,w.c.aF,w.ev)∧i < w.c.aF.length∧(w.c.aF.getD i aG.zero).bH=true)
  (fun g ⟨i,hi,hle,hg⟩=>by
   subst hi
   unfold zF6
   by_cases c:i < w.c.aF.length
   ·have h3:0≤(i:Int)∧(i:Int) < (w.c.aF.length:Int):=by omega
    have more:SatP w (w.c.aF.getD i aG.zero)→∀ k,k < i+1→SatP w (w.c.aF.getD k aG.zero):=fun hs k hk=>by
     rcases hX k i with h5|h5
     ·exact hg k h5
     ·have:k=i:=by omega
      subst this; exact hs
    simp only [h3.1,h3.2,cX,zk6,cC,cB,Int.toNat_natCast,zc6 i (show i < 4611686018427387904 by omega)]
    cases hw:(w.c.aF.getD i aG.zero).bH with
    | false =>
     simp only [bU,cA,Option.bind_some,eP]
     exact .inl ⟨_,rfl,⟨i+1,rfl,c,more fun h=>by rw [hw] at h; cases h⟩,by simp only [Int.toNat_natCast]; omega⟩
    | true =>
     simp only [cB,cJ]
     obtain ⟨bs,L,q1,q2,q3,q4⟩:=zbq1 w.c.aC (w.c.aF.getD i aG.zero).aJ (w.c.aF.getD i aG.zero).aZ.bP hq hs
     obtain ⟨b,r1,r2⟩:=zbg0 (hE _ (zd1 c) hw) bs
     rw [q1,Option.bind_some,r1,Option.bind_some]
     cases b with
     | false =>
      rw [bT (by decide)]
      exact .inl ⟨_,rfl,⟨i+1,rfl,c,more fun _ bs' e=>by rw [q1] at e; cases e; exact r1⟩,by simp only [Int.toNat_natCast]; omega⟩
     | true =>
      rw [bW rfl]
      exact .inr ⟨_,rfl,.inr ⟨i,rfl,c,hw⟩⟩
   ·right
    have e:i=w.c.aF.length:=by omega
    subst e
    simp only [fC,cK,bU,cA]
    exact ⟨_,rfl,.inl ⟨rfl,zaw2.1 hg⟩⟩) 0 ⟨0,rfl,by omega,fun k hk=>by omega⟩
 rw [h1]
 rcases h2 with ⟨rfl,h2⟩|⟨i,rfl,h3,h4⟩
 ·exact ⟨-1,rfl,.inl ⟨rfl,h2⟩⟩
 ·exact ⟨i,rfl,.inr ⟨i,rfl,h3,h4⟩⟩
def Left (x:aG) (t t':List aA) (ns:List aM):Prop:=∀ j,j < t.length →
 (getH (t'.getD j aA.zero).aQ x.aJ=zh0 x.bB.aH (t.getD j aA.zero).aB.name∧(zp7 (t'.getD j aA.zero) x.aJ).2=false) ∨
 (t'.getD j aA.zero=t.getD j aA.zero∧∀ a ∈ ns,a.name≠(t.getD j aA.zero).aB.name)
theorem Left.cov {x:aG} {t t':List aA} {ns:List aM} (h:Left x t t' ns) (k:Kept x.aJ t t') (hc:∀ i,i < t.length→covA (t.getD i aA.zero).aB (getH (t.getD i aA.zero).aQ x.aJ) (zh0 x.bB.aH (t.getD i aA.zero).aB.name)=true) :
  ∀ i,i < t.length→covA (t.getD i aA.zero).aB (getH (t'.getD i aA.zero).aQ x.aJ) (zh0 x.bB.aH (t.getD i aA.zero).aB.name)=true:=by
 intro i hi
 rcases h i hi with ⟨e,_⟩|⟨e,_⟩
 ·rw [← e,← k.res i hi]
  exact zas5 (zas4 ((zr8 _).1 (k.v.each _ (zd1 (z:=aA.zero) (by rw [k.len]; exact hi)))).1.hv x.aJ)
 ·rw [e]; exact hc i hi
theorem zcO3 {x:aG} {w:aX} {t:List aA} (h:ValidT t) (k:Kept x.aJ t w.c.aC) {ns:List aM} (hL:Left x t w.c.aC ns) (hle:x.bB.aH.length≤1000) (hev:w.ev.length≤1000000)
  (hc:∀ i,i < t.length→covA (t.getD i aA.zero).aB (getH (t.getD i aA.zero).aQ x.aJ) (zh0 x.bB.aH (t.getD i aA.zero).aB.name)=true) {a:aM} (ha:∃ i,i < t.length∧(t.getD i aA.zero).aB.name=a.name) :
  ∃ t' ev,zv2 x a.name w=some (zaU5 w t' (w.ev++ev))∧ev.length≤40∧Kept x.aJ t t'∧Left x t t' (ns++[a]):=by
 obtain ⟨i,hi,hn⟩:=ha
 have hi':i < w.c.aC.length:=by rw [k.len]; exact hi
 have hr:=k.res i hi
 obtain ⟨q,ev,h1,h2,h3,h4,h5,h6⟩:=zcr4 x k.v hi' hle hev (by rw [hr]; exact hL.cov k hc i hi)
 rw [hr] at h1 h4
 rw [hn] at h1
 refine ⟨_,ev,h1,h2,k.trans h3,fun j hj=>?_⟩
 by_cases e:i=j
 ·subst e
  left
  rw [zm9 _ _ _ _ hi']
  exact ⟨h4,h5⟩
 ·rw [zY0 _ _ _ _ _ e]
  rcases hL j hj with h7|⟨h7,h8⟩
  ·exact .inl h7
  ·refine .inr ⟨h7,fun b hb=>?_⟩
   rcases cI.1 hb with hb|hb
   ·exact h8 b hb
   ·rw [dL] at hb
    subst hb
    rw [← hn]
    exact fun he=>e (zaB8 h.asc hi hj he)
theorem zbu1 {i:Nat} {w:aX} (g:Good w) (hi:i < w.c.aF.length) (hw:(w.c.aF.getD i aG.zero).bH=true) (hb:bud w≤500000) :
  ∃ t' ev L,zr5 (i:Int) w=some ⟨⟨w.c.now,t',w.c.aF.set i (zbZ6 (w.c.aF.getD i aG.zero))⟩,w.ev++ev⟩∧ev.length≤320∧Kept (w.c.aF.getD i aG.zero).aJ w.c.aC t' ∧
   zj8 (w.c.aF.getD i aG.zero).aZ.bP=some (L,true)∧Left (w.c.aF.getD i aG.zero) w.c.aC t' L:=by
 have ok:=g.ok _ (zd1 hi) hw
 obtain ⟨L,a1,a2,a3⟩:=zaj1 (w.c.aF.getD i aG.zero).aZ.bP
 have hevb:w.ev.length≤500000:=by unfold bud at hb; omega
 unfold zr5
 rw [gdp (by omega)]
 simp only [Int.toNat_natCast]
 rw [a1,Option.bind_some]
 obtain ⟨x,h1,h2⟩:=zq4 (body:=zH4 (i:Int) w L) (fun g=>∃ (k:Nat) (t':List aA) (ev:List bJ),g=((k:Int),zaU5 w t' (w.ev++ev))∧k≤L.length∧ev.length≤40 * k∧Kept (w.c.aF.getD i aG.zero).aJ w.c.aC t'∧Left (w.c.aF.getD i aG.zero) w.c.aC t' (L.take k))
  (fun g=>L.length - g.1.toNat) (fun x=>∃ (t':List aA) (ev:List bJ),x=zaU5 w t' (w.ev++ev)∧ev.length≤320∧Kept (w.c.aF.getD i aG.zero).aJ w.c.aC t'∧Left (w.c.aF.getD i aG.zero) w.c.aC t' L)
  (fun g ⟨k,t',ev,hg,hk,he,hK,hLf⟩=>by
   subst hg
   unfold zH4
   by_cases c:k < L.length
   ·left
    have h3:0≤(k:Int)∧(k:Int) < (L.length:Int):=by omega
    simp only [h3.1,h3.2,cX,zk6,cC,cB,Int.toNat_natCast,zc6 k (show k < 4611686018427387904 by omega)]
    obtain ⟨t2,ev2,r1,r2,r3,r4⟩:=zcO3 (w:=zaU5 w t' (w.ev++ev)) g.v hK hLf ok.le (by show (w.ev++ev).length≤_; rw [bZ]; omega) ok.cov (ok.at_ L _ a3 _ (zd1 (z:=aM.zero) c))
    rw [r1,Option.bind_some]
    refine ⟨_,rfl,⟨k+1,t2,ev++ev2,?_,c,by rw [bZ]; omega,r3,?_⟩,by simp only [Int.toNat_natCast]; omega⟩
    ·show (((k+1:Nat):Int),zaU5 (zaU5 w t' (w.ev++ev)) t2 ((w.ev++ev)++ev2))=_
     rw [dB]; rfl
    ·rw [zu1 aM.zero c]; exact r4
   ·right
    have e:k=L.length:=by omega
    simp only [show ¬ (k:Int) < (L.length:Int) by omega,cK,bU,cA]
    exact ⟨_,rfl,t',ev,rfl,by omega,hK,by rw [e,dK] at hLf; exact hLf⟩) (0,w) ⟨0,w.c.aC,[],by rw [dV]; rfl,by omega,by simp,zaA6 g.v,fun j hj=>.inr ⟨rfl,fun a ha=>by cases ha⟩⟩
 obtain ⟨t',ev,rfl,he,hK,hLf⟩:=h2
 rw [h1,Option.bind_some]
 unfold zT9
 rw [zcG3 (w:=zaU5 w t' (w.ev++ev)) hi,Option.bind_some]
 exact ⟨t',ev,L,rfl,he,hK,by rw [a3,ok.e],hLf⟩
theorem Good.upd {w:aX} (g:Good w) {i:Nat} (hi:i < w.c.aF.length) {t':List aA} (k:Kept (w.c.aF.getD i aG.zero).aJ w.c.aC t') {y:aG} (hp:y.aJ=(w.c.aF.getD i aG.zero).aJ) (hy:ProcV w.c.now t' y) (ev:List bJ) :
  Good ⟨⟨w.c.now,t',w.c.aF.set i y⟩,ev⟩:=by
 have gs:∀ j,j < w.c.aF.length→i≠j→(w.c.aF.set i y).getD j aG.zero=w.c.aF.getD j aG.zero:=fun j hj e=>zY0 _ _ _ _ _ e
 have gi:(w.c.aF.set i y).getD i aG.zero=y:=zm9 _ _ _ _ hi
 have gp:∀ j,j < w.c.aF.length→((w.c.aF.set i y).getD j aG.zero).aJ=(w.c.aF.getD j aG.zero).aJ:=fun j hj=>by
  by_cases e:i=j
  ·subst e; rw [gi,hp]
  ·rw [gs j hj e]
 refine ⟨g.now,k.v,by simpa using g.len,zbZ3 fun j hj h0=>?_,fun z hz=>?_,fun p hpp=>?_⟩
 ·have hj:j < w.c.aF.length:=by simpa using hj
  show ltP ((w.c.aF.set i y).getD (j - 1) aG.zero).aJ ((w.c.aF.set i y).getD j aG.zero).aJ
  rw [gp j hj,gp (j - 1) (by omega)]
  exact zcg1 g.asc hj (by omega)
 ·obtain ⟨j,hj,e⟩:=zy5 (z:=aG.zero) (show z ∈ w.c.aF.set i y from hz)
  rw [dQ] at hj
  by_cases c:i=j
  ·subst c; rw [gi] at e; rw [← e]; exact hy
  ·rw [gs j hj c] at e
   rw [← e]
   exact (g.each _ (zd1 hj)).kept k (g.other hi hj c)
 ·have at_:∀ j,j < w.c.aF.length→∃ x ∈ w.c.aF.set i y,x.aJ=(w.c.aF.getD j aG.zero).aJ:=fun j hj=>⟨_,zd1 (z:=aG.zero) (by simpa using hj),gp j hj⟩
  rcases zbR1 g.v k hpp with rfl|h
  ·exact at_ i hi
  ·obtain ⟨x,hx,e⟩:=g.aF p h
   obtain ⟨j,hj,rfl⟩:=zy5 (z:=aG.zero) hx
   obtain ⟨x',hx',e'⟩:=at_ j hj
   exact ⟨x',hx',e'.trans e⟩
def zao2 (x:aG) (l:aW) (g:Int):aG:={ x with bH:=false,aZ:=bK.zero,since:=0,bB:=l,gen:=g }
theorem ProcV.rest {now:Int} {t t':List aA} {x:aG} (h:ProcV now t x) (k:Kept x.aJ t t') {l:aW} {g:Int} (hg:0≤g∧g≤1073741824) (hl:LedgerP l) (hh:∀ n,zh0 l.aH n≠aD.zero→∃ q ∈ t,q.aB.name=n∧za4 q.aB (zh0 l.aH n)=true)
  (hr:∀ j,j < t.length→getH (t'.getD j aA.zero).aQ x.aJ=zh0 l.aH (t.getD j aA.zero).aB.name∧(zp7 (t'.getD j aA.zero) x.aJ).2=false) (now':Int):ProcV now' t' (zao2 x l g):=by
 refine ⟨h.pv,h.cost,hg,hl,fun n hn=>k.named (P:=fun r=>za4 r _=true) (hh n hn),(fun hw=>nomatch hw),fun _=>⟨rfl,rfl,fun q' hq=>?_⟩⟩
 obtain ⟨j,hj,rfl,hres⟩:=k.mem hq
 rw [hres]
 exact hr j hj
theorem zbZ7 {now:Int} {t t':List aA} {x:aG} (ht:ValidT t) (h:ProcV now t x) (hw:x.bH=true) {L:List aM} (hL:zj8 x.aZ.bP=some (L,true)) (hl:Left x t t' L):∀ j,j < t.length→getH (t'.getD j aA.zero).aQ x.aJ=zh0 x.bB.aH (t.getD j aA.zero).aB.name∧(zp7 (t'.getD j aA.zero) x.aJ).2=false:=fun j hj=>by
 rcases hl j hj with h1|⟨h1,h2⟩
 ·exact h1
 ·rw [h1]
  rcases (h.wait hw).part L true hL _ (zd1 hj) with ⟨a,ha,hn,_⟩|⟨_,h3,h4⟩
  ·exact absurd hn (h2 a ha)
  ·exact ⟨h3,h4⟩
theorem Good.lens {w:aX} (g:Good w):w.c.aC.length≤1000∧Lens w.c.aC:=g.v.lens'
theorem Good.sat {w:aX} (g:Good w):∃ v,zp6 w=some (v,w.c.now,w.c.aC,w.c.aF,w.ev)∧(v=-1∧(∀ x ∈ w.c.aF,SatP w x)∨∃ i:Nat,v=i∧i < w.c.aF.length∧(w.c.aF.getD i aG.zero).bH=true) :=
 zcg2 g.len g.lens.1 g.lens.2 fun y hy hw=>(g.ok y hy hw).e
theorem Kept.cat {p:aK} {t t':List aA} (k:Kept p t t'):t'.map (·.aB)=t.map (·.aB) :=
 kB (by simp [k.len]) fun i h1 h2=>by
  rw [dD] at h1 h2
  have:=k.res i h2
  rw [bV,bV,bY h1,bY h2] at this
  simpa using this
theorem zcA5 {r:aI} {l a:aD} (hl:l=aD.zero∨za4 r l=true) (ha:za4 r a=true) (hc:covA r l a=false):za4 r (zH8 r l a)=true∧zH8 r l a≠l∧zu9 l (zH8 r l a)=true:=by
 rcases hl with rfl|hl
 ·rw [zbZ5 ha]
  refine ⟨ha,zR2 ha,?_⟩
  have hu:zm4 a=true:=by rw [zaq9]; rw [zA6] at ha; omega
  unfold zu9
  rw [bT (by rw [hu]; simpa using fun e:aD.zero=a=>zR2 ha e.symm),bW (by simp)]
 ·obtain ⟨j1,j2,j3,j4⟩:=zbp3 hl ha hc
  refine ⟨j1,j4,?_⟩
  generalize zH8 r l a=b at *
  have hu:zm4 b=true:=by rw [zaq9]; rw [zA6] at j1; omega
  have hul:zm4 l=true:=by rw [zaq9]; rw [zA6] at hl; omega
  have hz:¬ l=({ aD.zero with }:aD):=zR2 hl
  unfold zu9
  rw [bT (by rw [hu]; simpa using fun e:l=b=>j4 e.symm),bT (by simpa using hz),bT (by rw [hul]; decide)]
  obtain ⟨_,_,hcv⟩:=(zQ4 _ _ _).1 j2
  rcases hcv with e|⟨_,_,hcv⟩
  ·exact absurd e hz
  ·rw [zA6] at j1 hl
   rcases hcv with ⟨hk,hm⟩|⟨hk,hu2⟩
   ·rw [bW (by simp; omega)]; exact hm
   ·rw [bT (by simp; omega)]
    have:l.aR≠b.aR:=fun e=>j4 (by
     cases b; cases l
     simp only at e j1 hl ⊢
     congr 1
     ·omega
     ·exact e.symm)
    exact cF (by omega)
theorem zcG4 {L:List aM} (h:dnN L) {k:Nat} (hk:k < L.length):∀ b ∈ L.take k,b.name≠(L.getD k aM.zero).name:=fun b hb e=>by
 obtain ⟨m,hm,rfl⟩:=eR.1 hb
 rw [cO] at hm
 rw [List.getElem_take,bV,bY hk,Option.getD_some] at e
 have:=dO.1 h m k (by omega) hk (by omega)
 rw [e] at this; simp at this
theorem zbq2 {l:aW} (h:LedgerP l) {e:bG} (he:e ∈ l.aH):zh0 l.aH e.name≠aD.zero:=by
 have key:∀ d k,k+d=l.aH.length→(∃ x ∈ l.aH.take k,x.name=e.name)→zh0 (l.aH.take k) e.name≠aD.zero:=by
  have up:∀ k,k≤l.aH.length→(∃ x ∈ l.aH.take k,x.name=e.name)→zh0 (l.aH.take k) e.name≠aD.zero:=by
   intro k
   induction k with
   | zero=>intro _ ⟨x,hx,_⟩; cases hx
   | succ k ih =>
    intro hk ⟨x,hx,hn⟩
    rw [zu1 bG.zero (by omega),zU5]
    by_cases c:(l.aH.getD k bG.zero).name=e.name
    ·rw [bW c]
     have hg:=(h.grow k (by omega)).2
     intro hz
     rw [hz] at hg
     unfold zu9 at hg
     rw [bW (by simp [show zm4 aD.zero=false by decide])] at hg
     cases hg
    ·rw [bT c]
     refine ih (by omega) ?_
     rw [zu1 bG.zero (by omega)] at hx
     rcases cI.1 hx with hx|hx
     ·exact ⟨x,hx,hn⟩
     ·rw [dL] at hx; subst hx; exact absurd hn c
  exact fun d k e=>up k (by omega)
 have:=key 0 l.aH.length (by omega) ⟨e,by rw [dK]; exact he,rfl⟩
 rwa [dK] at this
def midW (w:aX) (i:Nat) (t:List aA) (y:aG) (ev:List bJ):aX:=⟨⟨w.c.now,t,w.c.aF.set i y⟩,ev⟩
def FitL (t:List aA) (l:aW):Prop:=∀ n,zh0 l.aH n≠aD.zero→∃ q ∈ t,q.aB.name=n∧za4 q.aB (zh0 l.aH n)=true
theorem FitL.names {t:List aA} {l:aW} (h:FitL t l) (hl:LedgerP l):∀ e ∈ l.aH,e.name ∈ t.map (·.aB.name):=fun e he=>by
 obtain ⟨q,hq,hn,_⟩:=h _ (zbq2 hl he)
 exact cH.2 ⟨q,hq,hn⟩
theorem zcO4 {t:List aA} (h:ValidT t):(t.map (·.aB.name)).Nodup∧(t.map (·.aB.name)).length≤8:=by
 refine ⟨?_,by rw [dD]; exact h.len⟩
 rw [List.Nodup,gO]
 exact h.asc.imp zaX3
theorem zcg3 {i:Nat} {w:aX} (g:Good w) (hi:i < w.c.aF.length) (hw:(w.c.aF.getD i aG.zero).bH=true) (hb:bud w≤500000) {L:List aM} (hL:L.length≤8) (hLa:zj8 (w.c.aF.getD i aG.zero).aZ.bP=some (L,true)) {keep:List Bool} (hk:keep.length=L.length)
  (hks:subB keep (L.map (grA w.c.aC (w.c.aF.getD i aG.zero).aJ))) {ev0:List bJ} (h0:ev0.length≤w.ev.length+1) :
  ∃ t' l ev,zb9 (zD6 ((i:Int),w) keep L) (0,midW w i w.c.aC (w.c.aF.getD i aG.zero) ev0)=some (midW w i t' { w.c.aF.getD i aG.zero with bB:=l } ev)∧Kept (w.c.aF.getD i aG.zero).aJ w.c.aC t'∧LedgerP l∧FitL w.c.aC l ∧
   (∀ j,j < w.c.aC.length→getH (t'.getD j aA.zero).aQ (w.c.aF.getD i aG.zero).aJ=zh0 l.aH (w.c.aC.getD j aA.zero).aB.name∧(zp7 (t'.getD j aA.zero) (w.c.aF.getD i aG.zero).aJ).2=false)∧ev.length≤w.ev.length+321:=by
 have ok:=g.ok _ (zd1 hi) hw
 have pv:=g.each _ (zd1 (z:=aG.zero) hi)
 have wv:=pv.wait hw
 have hdn:dnN L:=zbQ6 hLa
 obtain ⟨nd,n8⟩:=zcO4 g.v
 generalize hx:w.c.aF.getD i aG.zero=x at *
 have hevb:w.ev.length≤500000:=by unfold bud at hb; omega
 obtain ⟨z,h1,h2⟩:=zq4 (body:=zD6 ((i:Int),w) keep L) (fun g'=>∃ (k:Nat) (t':List aA) (l:aW) (ev:List bJ),g'=((k:Int),midW w i t' { x with bB:=l } ev)∧k≤L.length∧ev.length≤w.ev.length+1+40 * k∧Kept x.aJ w.c.aC t'∧LedgerP l∧FitL w.c.aC l ∧
   ∀ j,j < w.c.aC.length→((∃ a ∈ L.take k,a.name=(w.c.aC.getD j aA.zero).aB.name)∧getH (t'.getD j aA.zero).aQ x.aJ=zh0 l.aH (w.c.aC.getD j aA.zero).aB.name∧(zp7 (t'.getD j aA.zero) x.aJ).2=false) ∨
    ((∀ a ∈ L.take k,a.name≠(w.c.aC.getD j aA.zero).aB.name)∧t'.getD j aA.zero=w.c.aC.getD j aA.zero∧zh0 l.aH (w.c.aC.getD j aA.zero).aB.name=zh0 x.bB.aH (w.c.aC.getD j aA.zero).aB.name))
  (fun g'=>L.length - g'.1.toNat) (fun z=>∃ (t':List aA) (l:aW) (ev:List bJ),z=midW w i t' { x with bB:=l } ev∧Kept x.aJ w.c.aC t'∧LedgerP l∧FitL w.c.aC l ∧
   (∀ j,j < w.c.aC.length→getH (t'.getD j aA.zero).aQ x.aJ=zh0 l.aH (w.c.aC.getD j aA.zero).aB.name∧(zp7 (t'.getD j aA.zero) x.aJ).2=false)∧ev.length≤w.ev.length+321)
  (fun g' ⟨k,t',l,ev,hg,hkl,he,hK,hlp,hfl,hM⟩=>by
   subst hg
   unfold zD6
   by_cases c:k < L.length
   ·left
    have h3:0≤(k:Int)∧(k:Int) < (L.length:Int):=by omega
    have h4:(k:Int) < (keep.length:Int):=by omega
    simp only [h3.1,h3.2,h4,cX,zk6,cC,cB,Int.toNat_natCast,zc6 k (show k < 4611686018427387904 by omega),hx]
    have hma:=zd1 (z:=aM.zero) c
    obtain ⟨j,hj,hn⟩:=ok.at_ L _ hLa _ hma
    have hj':j < t'.length:=by rw [hK.len]; exact hj
    obtain ⟨hq0,hl0⟩:t'.getD j aA.zero=w.c.aC.getD j aA.zero∧zh0 l.aH (w.c.aC.getD j aA.zero).aB.name=zh0 x.bB.aH (w.c.aC.getD j aA.zero).aB.name:=by
     rcases hM j hj with ⟨⟨a,ha,han⟩,_⟩|⟨_,h5⟩
     ·exact absurd (han.trans hn) (zcG4 hdn c a ha)
     ·exact h5
    have taken:∃ a ∈ L.take (k+1),a.name=(w.c.aC.getD j aA.zero).aB.name:=⟨_,by rw [zu1 aM.zero c]; simp,hn.symm⟩
    have zu0:∀ j2,j2 < w.c.aC.length→j≠j2→∀ l':aW,zh0 l'.aH (w.c.aC.getD j2 aA.zero).aB.name=zh0 l.aH (w.c.aC.getD j2 aA.zero).aB.name→∀ t2:List aA,t2.getD j2 aA.zero=t'.getD j2 aA.zero →
      ((∃ a ∈ L.take (k+1),a.name=(w.c.aC.getD j2 aA.zero).aB.name)∧getH (t2.getD j2 aA.zero).aQ x.aJ=zh0 l'.aH (w.c.aC.getD j2 aA.zero).aB.name∧(zp7 (t2.getD j2 aA.zero) x.aJ).2=false) ∨
      ((∀ a ∈ L.take (k+1),a.name≠(w.c.aC.getD j2 aA.zero).aB.name)∧t2.getD j2 aA.zero=w.c.aC.getD j2 aA.zero∧zh0 l'.aH (w.c.aC.getD j2 aA.zero).aB.name=zh0 x.bB.aH (w.c.aC.getD j2 aA.zero).aB.name):=fun j2 hj2 hne l' hl' t2 ht2=>by
     rw [zu1 aM.zero c,ht2,hl']
     rcases hM j2 hj2 with ⟨⟨a,ha,han⟩,h5⟩|⟨h5,h6⟩
     ·exact .inl ⟨⟨a,dE _ ha,han⟩,h5⟩
     ·refine .inr ⟨fun a ha han=>?_,h6⟩
      rcases cI.1 ha with ha|ha
      ·exact h5 a ha han
      ·rw [dL.1 ha,← hn] at han
       exact hne (zaB8 g.v.asc hj hj2 han)
    cases hkp:keep.getD k false with
    | false =>
     simp only [dF,cB]
     obtain ⟨q,ev2,r1,r2,r3,r4,r5,r6⟩:=zcr4 x (w:=midW w i t' { x with bB:=l } ev) hK.v hj' ok.le (by show ev.length≤_; omega) (by
      show covA (t'.getD j aA.zero).aB (getH (t'.getD j aA.zero).aQ x.aJ) (zh0 x.bB.aH (t'.getD j aA.zero).aB.name)=true
      rw [hq0]; exact ok.cov j hj)
     have r1':zv2 x (t'.getD j aA.zero).aB.name (midW w i t' { x with bB:=l } ev)=some (zaU5 (midW w i t' { x with bB:=l } ev) (t'.set j q) (ev++ev2)):=r1
     rw [hq0,hn] at r1'
     have r4':getH q.aQ x.aJ=zh0 x.bB.aH (t'.getD j aA.zero).aB.name:=r4
     rw [hq0] at r4'
     rw [r1',Option.bind_some]
     refine ⟨_,rfl,⟨k+1,t'.set j q,l,ev++ev2,rfl,c,by rw [bZ]; omega,hK.trans r3,hlp,hfl,fun j2 hj2=>?_⟩,by simp only [Int.toNat_natCast]; omega⟩
     by_cases e:j=j2
     ·subst e
      refine .inl ⟨taken,?_⟩
      rw [zm9 _ _ _ _ hj',hl0]
      exact ⟨r4',r5⟩
     ·exact zu0 j2 hj2 e l rfl _ (zY0 _ _ _ _ _ e)
    | true =>
     simp only [cU,bU,cA]
     have hfd:=hK.find g.v hj
     rw [hn] at hfd
     have h6:=zaO3 hK.v.lens hj'
     have hl':=hK.v.lens'.1
     have hyi:((w.c.aF.set i { x with bB:=l }).getD i aG.zero)={ x with bB:=l }:=zm9 _ _ _ _ hi
     show ∃ g'',(zh6 t' (L.getD k aM.zero).name).bind _=_∧_
     rw [zS0 _ _ (by omega),Option.bind_some,hfd]
     show ∃ g'',gd (0≤(j:Int)∧(j:Int) < (t'.length:Int)) ((zi6 (t'.getD (j:Int).toNat aA.zero) _).bind _)=_∧_
     rw [gdp (by omega)]
     simp only [Int.toNat_natCast]
     rw [zD7 _ _ (by omega),Option.bind_some]
     have hgi:0≤(i:Int)∧(i:Int) < (((midW w i t' { x with bB:=l } ev).c.aF.length:Nat):Int):=by show _∧(i:Int) < (((w.c.aF.set i { x with bB:=l }).length:Nat):Int); rw [dQ]; omega
     have hym:(midW w i t' { x with bB:=l } ev).c.aF.getD i aG.zero={ x with bB:=l }:=hyi
     have hle:=hlp.le
     rw [gdp hgi,hym,zX9 _ _ (by show l.aH.length≤_; omega),Option.bind_some]
     show ∃ g'',(if (!decide (getH (t'.getD j aA.zero).aQ x.aJ=zh0 l.aH (L.getD k aM.zero).name))=true then _ else _)=_∧_
     have hcov:covA (w.c.aC.getD j aA.zero).aB (getH (w.c.aC.getD j aA.zero).aQ x.aJ) (L.getD k aM.zero).aN=true:=by
      have:=hks k hkp
      rw [show (L.map (grA w.c.aC x.aJ)).getD k false=grA w.c.aC x.aJ (L.getD k aM.zero) by rw [bV,cL,bV,bY c]; rfl,zdv4 g.v.asc hj hn] at this
      exact this
     have hpart:=wv.part L true hLa _ (zd1 (z:=aA.zero) hj)
     have hw2:(zp7 (w.c.aC.getD j aA.zero) x.aJ).2=false:=by
      rcases hpart with ⟨a,ha,han,hac,⟨h7,_⟩|⟨_,h7,_⟩⟩|⟨_,_,h7⟩
      ·exact h7
      ·rw [zcz2 hdn ha hma (han.trans hn),← h7,hcov] at hac; cases hac
      ·exact h7
     rw [hq0,← hn,hl0]
     by_cases hsame:getH (w.c.aC.getD j aA.zero).aQ x.aJ=zh0 x.bB.aH (w.c.aC.getD j aA.zero).aB.name
     ·rw [bT (by rw [cF hsame]; decide)]
      refine ⟨_,rfl,⟨k+1,t',l,ev,rfl,c,by omega,hK,hlp,hfl,fun j2 hj2=>?_⟩,by simp only [Int.toNat_natCast]; omega⟩
      by_cases e:j=j2
      ·subst e
       refine .inl ⟨taken,?_⟩
       rw [hq0,hl0]; exact ⟨hsame,hw2⟩
      ·exact zu0 j2 hj2 e l rfl _ rfl
     ·rw [bW (by rw [eX hsame]; rfl),gdp hgi]
      obtain ⟨a,ha,han,hac,hh⟩:∃ a ∈ L,a.name=(w.c.aC.getD j aA.zero).aB.name∧covA (w.c.aC.getD j aA.zero).aB (zh0 x.bB.aH (w.c.aC.getD j aA.zero).aB.name) a.aN=false∧getH (w.c.aC.getD j aA.zero).aQ x.aJ=zH8 (w.c.aC.getD j aA.zero).aB (zh0 x.bB.aH (w.c.aC.getD j aA.zero).aB.name) a.aN:=by
       rcases hpart with ⟨a,ha,han,hac,⟨_,h7⟩|⟨_,h7,_⟩⟩|⟨_,h7,_⟩
       ·exact ⟨a,ha,han,hac,h7⟩
       ·exact absurd h7 hsame
       ·exact absurd h7 hsame
      obtain ⟨q2,m2,n2,f2⟩:=wv.res L true hLa a ha
      have e2:=g.v.inj m2 (zd1 (z:=aA.zero) hj) (n2.trans han)
      rw [e2] at f2
      obtain ⟨j1,j2,j3⟩:=zcA5 (l:=zh0 x.bB.aH (w.c.aC.getD j aA.zero).aB.name) (by
       by_cases z:zh0 x.bB.aH (w.c.aC.getD j aA.zero).aB.name=aD.zero
       ·exact .inl z
       ·obtain ⟨q1,m1,n1,f1⟩:=pv.held _ z
        rw [g.v.inj m1 (zd1 (z:=aA.zero) hj) n1] at f1
        exact .inr f1) f2 hac
      rw [← hh] at j1 j3
      have hnm:zC1 (w.c.aC.getD j aA.zero).aB.name=true:=by
       have:=((zr8 _).1 (g.v.each _ (zd1 (z:=aA.zero) hj))).1.res
       unfold resV at this
       rw [bS] at this
       exact this.1
      have hl2:=hlp.snoc hnm (a:=getH (w.c.aC.getD j aA.zero).aQ x.aJ) (by rw [hl0]; exact j3) nd n8 (hfl.names hlp) (cH.2 ⟨_,zd1 (z:=aA.zero) hj,rfl⟩)
      rw [hl0] at hl2
      show ∃ g'',(zx5 l (⟨(w.c.aC.getD j aA.zero).aB.name,zh0 x.bB.aH (w.c.aC.getD j aA.zero).aB.name,getH (w.c.aC.getD j aA.zero).aQ x.aJ⟩:bG)).bind _=_∧_
      rw [zbE3 hlp hl2,Option.bind_some,gdp hgi]
      have hsn:∀ n,zh0 (l.aH++[(⟨(w.c.aC.getD j aA.zero).aB.name,zh0 x.bB.aH (w.c.aC.getD j aA.zero).aB.name,getH (w.c.aC.getD j aA.zero).aQ x.aJ⟩:bG)]) n=if (w.c.aC.getD j aA.zero).aB.name=n then getH (w.c.aC.getD j aA.zero).aQ x.aJ else zh0 l.aH n:=fun n=>zU5 _ _ _
      refine ⟨_,rfl,⟨k+1,t',_,ev,?_,c,by omega,hK,hl2,fun n hnz=>?_,fun j2 hj2=>?_⟩,by simp only [Int.toNat_natCast]; omega⟩
      ·show (((k+1:Nat):Int),(⟨(⟨w.c.now,t',((w.c.aF.set i _).set i _)⟩:bA),ev⟩:aX))=_
       rw [fX]; rfl
      ·rw [hsn] at hnz ⊢
       by_cases e:(w.c.aC.getD j aA.zero).aB.name=n
       ·rw [bW e]
        exact ⟨_,zd1 (z:=aA.zero) hj,e,j1⟩
       ·rw [bT e] at hnz ⊢
        exact hfl n hnz
      ·by_cases e:j=j2
       ·subst e
        refine .inl ⟨taken,?_⟩
        rw [hsn,bW rfl,hq0]; exact ⟨rfl,hw2⟩
       ·exact zu0 j2 hj2 e _ (by rw [hsn,bT fun h=>e (zaB8 g.v.asc hj hj2 h)]) _ rfl
   ·right
    have e:k=L.length:=by omega
    subst e
    simp only [fC,cK,bU,cA]
    refine ⟨_,rfl,t',l,ev,rfl,hK,hlp,hfl,fun j hj=>?_,by omega⟩
    rw [dK] at hM
    rcases hM j hj with ⟨_,h5⟩|⟨h5,h6,h7⟩
    ·exact h5
    ·rw [h6,h7]
     rcases wv.part L true hLa _ (zd1 (z:=aA.zero) hj) with ⟨a,ha,han,_⟩|⟨_,h8⟩
     ·exact absurd han (h5 a ha)
     ·exact h8) (0,midW w i w.c.aC x ev0) ⟨0,w.c.aC,x.bB,ev0,rfl,by omega,by omega,zaA6 g.v,pv.led,pv.held,fun j hj=>.inr ⟨(fun a ha=>nomatch ha),rfl,rfl⟩⟩
 obtain ⟨t',l,ev,rfl,h3⟩:=h2
 exact ⟨t',l,ev,h1,h3⟩
structure Less (w w':aX):Prop where
 good:Good w'
 len:w'.c.aF.length=w.c.aF.length
 cnt:cntW w'.c.aF≤cntW w.c.aF
 bud:bud w'≤bud w
 now:w'.c.now=w.c.now
 wait:∀ x ∈ w'.c.aF,x.bH=true→x ∈ w.c.aF
 cat:w'.c.aC.map (·.aB)=w.c.aC.map (·.aB)
theorem zdd3 (w:aX) (i:Nat) (hi:i < w.c.aF.length) (ev:List bJ):midW w i w.c.aC (w.c.aF.getD i aG.zero) ev=⟨⟨w.c.now,w.c.aC,w.c.aF⟩,ev⟩:=by
 unfold midW; rw [zaC1 _ _ _ hi]
theorem zaU6 {l:List aG} {i:Nat} {y:aG} (hy:y.bH=false):∀ x ∈ l.set i y,x.bH=true→x ∈ l:=fun x hx hw=>by
 rcases hI hx with h|rfl
 ·exact h
 ·rw [hy] at hw; cases hw
theorem zcr5 {i:Nat} {w:aX} (g:Good w) (hi:i < w.c.aF.length) (hw:(w.c.aF.getD i aG.zero).bH=true) (hb:bud w≤500000) :
  ∃ v w',zz4 ((i:Int),w)=some (.inl (v,w'))∧Less w w'∧cntW w'.c.aF < cntW w.c.aF∧(v=-1∧(∀ x ∈ w'.c.aF,SatP w' x)∨∃ k:Nat,v=k∧k < w'.c.aF.length∧(w'.c.aF.getD k aG.zero).bH=true):=by
 have ok:=g.ok _ (zd1 hi) hw
 have hevb:w.ev.length≤500000:=by unfold bud at hb; omega
 unfold zz4
 have h3:0≤(i:Int)∧(i:Int) < (w.c.aF.length:Int):=by omega
 simp only [h3.1,h3.2,cX,zk6,cC,cB,Int.toNat_natCast]
 rw [zaX6 _ _ (by omega),Option.bind_some]
 obtain ⟨bs,L',q1,q2,q3,_,q5⟩:=zbq1 w.c.aC (w.c.aF.getD i aG.zero).aJ (w.c.aF.getD i aG.zero).aZ.bP g.lens.1 g.lens.2
 obtain ⟨L,a1,a2,a3⟩:=zaj1 (w.c.aF.getD i aG.zero).aZ.bP
 rw [q1,Option.bind_some]
 obtain ⟨keep,p1,p2,p3⟩:=zbQ8 ok.e bs a3
 rw [a3] at q2; cases q2
 rw [p1,Option.bind_some,a1,Option.bind_some]
 obtain ⟨t',l,ev,r1,r2,r3,r4,r5,r6⟩:=zcg3 g hi hw hb a2 (by rw [a3,ok.e]) p2 (by rw [← q5]; exact p3) (ev0:=w.ev++[{ bJ.zero with kind:=2,aJ:=(w.c.aF.getD i aG.zero).aJ }]) (by simp)
 rw [zdd3 w i hi] at r1
 rw [r1,Option.bind_some]
 unfold zX6
 have hyi:∀ y,((midW w i t' y ev).c.aF.getD i aG.zero)=y:=fun y=>zm9 _ _ _ _ hi
 have hl1:∀ y,i < (midW w i t' y ev).c.aF.length:=fun y=>by show i < (w.c.aF.set i y).length; rw [dQ]; exact hi
 rw [zcG3 (w:=midW w i t' _ ev) (hl1 _),Option.bind_some,hyi]
 have e1:∀ y z,(midW w i t' y ev).c.aF.set i z=w.c.aF.set i z:=fun y z=>by show (w.c.aF.set i y).set i z=_; rw [fX]
 rw [e1]
 have hl2:∀ y:aG,i < (w.c.aF.set i y).length:=fun y=>by rw [dQ]; exact hi
 rw [zam2 (w:=⟨⟨_,_,w.c.aF.set i _⟩,_⟩) (hl2 _),Option.bind_some]
 simp only [zm9 _ _ _ _ hi,fX]
 have hg':Good ⟨⟨w.c.now,t',w.c.aF.set i (zao2 (w.c.aF.getD i aG.zero) l (zm5 (w.c.aF.getD i aG.zero).gen))⟩,ev⟩:=g.upd hi r2 (y:=zao2 (w.c.aF.getD i aG.zero) l (zm5 (w.c.aF.getD i aG.zero).gen)) rfl ((g.each _ (zd1 (z:=aG.zero) hi)).rest r2 (zai7 _) r3 r4 r5 w.c.now) ev
 have hcnt:cntW (w.c.aF.set i (zao2 (w.c.aF.getD i aG.zero) l (zm5 (w.c.aF.getD i aG.zero).gen)))+1=cntW w.c.aF:=by
  have:=zcG2 hi (zao2 (w.c.aF.getD i aG.zero) l (zm5 (w.c.aF.getD i aG.zero).gen))
  rw [hw] at this
  simpa [zao2] using this
 obtain ⟨v,s1,s2⟩:=hg'.sat
 show ∃ v w',(zp6 ⟨⟨w.c.now,t',w.c.aF.set i (zao2 (w.c.aF.getD i aG.zero) l (zm5 (w.c.aF.getD i aG.zero).gen))⟩,ev⟩).bind _=_∧_
 rw [s1,Option.bind_some]
 exact ⟨v,_,rfl,⟨hg',by show (w.c.aF.set i _).length=_; rw [dQ],by show cntW (w.c.aF.set i _)≤_; omega,by show ev.length+2000 * cntW (w.c.aF.set i _)≤w.ev.length+2000 * cntW w.c.aF; omega,rfl,zaU6 rfl,r2.cat⟩,by show cntW (w.c.aF.set i _) < _; omega,s2⟩
theorem Less.refl {w:aX} (g:Good w):Less w w:=⟨g,rfl,cY _,cY _,rfl,fun _ h _=>h,rfl⟩
theorem Less.trans {a b c:aX} (h:Less a b) (k:Less b c):Less a c:=⟨k.good,k.len.trans h.len,dX k.cnt h.cnt,dX k.bud h.bud,k.now.trans h.now,fun x hx hw=>h.wait x (k.wait x hx hw) hw,k.cat.trans h.cat⟩
theorem zbR2 {w:aX} (g:Good w) (hb:bud w≤500000):∃ w',zk0 w=some w'∧Less w w'∧∀ x ∈ w'.c.aF,SatP w' x:=by
 unfold zk0
 obtain ⟨v,s1,s2⟩:=g.sat
 rw [s1,Option.bind_some]
 obtain ⟨x,h1,h2⟩:=zq4 (body:=zz4) (fun z=>Less w z.2∧(z.1=-1∧(∀ x ∈ z.2.c.aF,SatP z.2 x)∨∃ k:Nat,z.1=k∧k < z.2.c.aF.length∧(z.2.c.aF.getD k aG.zero).bH=true)) (fun z=>cntW z.2.c.aF) (fun x=>Less w x∧∀ y ∈ x.c.aF,SatP x y)
  (fun z ⟨hl,hv⟩=>by
   obtain ⟨v,w1⟩:=z
   simp only at hl hv
   rcases hv with ⟨rfl,hs⟩|⟨k,rfl,hk,hkw⟩
   ·right
    exact ⟨w1,rfl,hl,hs⟩
   ·left
    obtain ⟨v',w',e1,e2,e3,e4⟩:=zcr5 hl.good hk hkw (dX hl.bud hb)
    exact ⟨(v',w'),e1,⟨hl.trans e2,e4⟩,e3⟩) (v,w) ⟨Less.refl g,s2⟩
 refine ⟨x,?_,h2⟩
 show (zb9 _ (v,w)).bind _=_
 rw [h1]; rfl
def Lim (now:Int) (x:aG):Prop:=x.bH=true→x.aZ.limit=0∨now < x.since+x.aZ.limit
theorem zbR3 {w:aX} (g:Good w):∃ v,zc3 w=some (v,w.c.now,w.c.aC,w.c.aF,w.ev)∧(v=-1∧(∀ x ∈ w.c.aF,Lim w.c.now x)∨∃ i:Nat,v=i∧i < w.c.aF.length∧(w.c.aF.getD i aG.zero).bH=true):=by
 have hl:=g.len
 unfold zc3
 obtain ⟨x,h1,h2⟩:=zq4 (body:=zJ1 w) (fun g=>∃ i:Nat,g.2.2=i∧i≤w.c.aF.length∧(g.1=-1∧(∀ k,k < i→Lim w.c.now (w.c.aF.getD k aG.zero))∨∃ i:Nat,g.1=i∧i < w.c.aF.length∧(w.c.aF.getD i aG.zero).bH=true)) (fun g=>w.c.aF.length - g.2.2.toNat)
  (fun x=>x=-1∧(∀ x ∈ w.c.aF,Lim w.c.now x)∨∃ i:Nat,x=i∧i < w.c.aF.length∧(w.c.aF.getD i aG.zero).bH=true)
  (fun z ⟨i,hi,hle,hg⟩=>by
   obtain ⟨b,wh,g2⟩:=z
   simp only at hi hg
   subst hi
   unfold zJ1
   by_cases c:i < w.c.aF.length
   ·left
    have h3:0≤(i:Int)∧(i:Int) < (w.c.aF.length:Int):=by omega
    simp only [h3.1,h3.2,cX,zk6,cC,cB,Int.toNat_natCast,zc6 i (show i < 4611686018427387904 by omega)]
    split
    ·rename_i h
     simp only [bS] at h
     exact ⟨_,rfl,⟨i+1,rfl,c,.inr ⟨i,rfl,c,h.1.1.1⟩⟩,by simp only [Int.toNat_natCast]; omega⟩
    ·rename_i h
     refine ⟨_,rfl,⟨i+1,rfl,c,?_⟩,by simp only [Int.toNat_natCast]; omega⟩
     rcases hg with ⟨hb,hg⟩|hg
     ·refine .inl ⟨hb,fun k hk=>?_⟩
      rcases hX k i with h5|h5
      ·exact hg k h5
      ·have:k=i:=by omega
       subst this
       intro hw
       have wv:=(g.each _ (zd1 c)).wait hw
       have hs:=wv.since; have hli:=wv.li; have hn:=g.now
       simp only [bS,hw,gC,cS,cR,bX,dG,hb,not_and] at h
       by_cases c0:(w.c.aF.getD k aG.zero).aZ.limit=0
       ·exact .inl c0
       ·right
        rw [zi0 (by omega) (by omega)] at h
        exact Int.lt_of_not_ge fun hle2=>h ⟨c0,hle2⟩ (.inl (by decide))
     ·exact .inr hg
   ·right
    have e:i=w.c.aF.length:=by omega
    subst e
    simp only [fC,cK,bU,cA]
    refine ⟨_,rfl,?_⟩
    rcases hg with ⟨hb,hg⟩|hg
    ·exact .inl ⟨hb,zaw2.1 hg⟩
    ·exact .inr hg) (-1,0,0) ⟨0,rfl,by omega,.inl ⟨rfl,fun k hk=>by omega⟩⟩
 rw [h1,Option.bind_some]
 exact ⟨x,rfl,h2⟩
theorem zbm0 {i:Nat} {w:aX} (g:Good w) (hi:i < w.c.aF.length) (hw:(w.c.aF.getD i aG.zero).bH=true) (hb:bud w≤500000) :
  ∃ w1 w2,zr5 (i:Int) w=some w1∧zd3 (i:Int) w1=some (w2.c.now,w2.c.aC,w2.c.aF,w2.ev)∧Less w w2∧cntW w2.c.aF < cntW w.c.aF∧bud w2+1000≤bud w:=by
 obtain ⟨t',ev,L,h1,h2,h3,h4,h5⟩:=zbu1 g hi hw hb
 have pv:=g.each _ (zd1 (z:=aG.zero) hi)
 have hl2:i < (w.c.aF.set i (zbZ6 (w.c.aF.getD i aG.zero))).length:=by rw [dQ]; exact hi
 have hn:=zam2 (w:=⟨⟨w.c.now,t',w.c.aF.set i (zbZ6 (w.c.aF.getD i aG.zero))⟩,w.ev++ev⟩) hl2
 simp only [zm9 _ _ _ _ hi,fX] at hn
 have hcnt:cntW (w.c.aF.set i (zao2 (w.c.aF.getD i aG.zero) (w.c.aF.getD i aG.zero).bB (zm5 (w.c.aF.getD i aG.zero).gen)))+1=cntW w.c.aF:=by
  have:=zcG2 hi (zao2 (w.c.aF.getD i aG.zero) (w.c.aF.getD i aG.zero).bB (zm5 (w.c.aF.getD i aG.zero).gen))
  rw [hw] at this
  simpa [zao2] using this
 have hbud:(w.ev++ev).length+2000 * cntW (w.c.aF.set i (zao2 (w.c.aF.getD i aG.zero) (w.c.aF.getD i aG.zero).bB (zm5 (w.c.aF.getD i aG.zero).gen)))+1000≤w.ev.length+2000 * cntW w.c.aF:=by
  rw [bZ]; omega
 refine ⟨_,⟨⟨w.c.now,t',w.c.aF.set i (zao2 (w.c.aF.getD i aG.zero) (w.c.aF.getD i aG.zero).bB (zm5 (w.c.aF.getD i aG.zero).gen))⟩,w.ev++ev⟩,h1,hn,⟨g.upd hi h3 (y:=zao2 (w.c.aF.getD i aG.zero) (w.c.aF.getD i aG.zero).bB (zm5 (w.c.aF.getD i aG.zero).gen)) rfl (pv.rest h3 (zai7 _) pv.led pv.held (zbZ7 g.v pv hw h4 h5) _) _,by show (w.c.aF.set i _).length=_; rw [dQ],by show cntW (w.c.aF.set i _)≤_; omega,?_,rfl,zaU6 rfl,h3.cat⟩,by show cntW (w.c.aF.set i _) < _; omega,hbud⟩
 show (w.ev++ev).length+2000 * cntW (w.c.aF.set i _)≤w.ev.length+2000 * cntW w.c.aF
 omega
theorem Good.ev {w:aX} (g:Good w) (ev:List bJ):Good ⟨w.c,ev⟩:=⟨g.now,g.v,g.len,g.asc,g.each,g.aF⟩
theorem ProcV.later {now now':Int} {t:List aA} {x:aG} (h:ProcV now t x) (hn:now≤now'):ProcV now' t x :=
 ⟨h.pv,h.cost,h.gen,h.led,h.held,fun hw=>have w:=h.wait hw; ⟨w.ve,w.pr,w.li,⟨w.since.1,Int.le_trans w.since.2 hn⟩,w.res,w.part⟩,h.run⟩
theorem Good.cen {w:aX} (g:Good w) (h1:∀ x ∈ w.c.aF,SatP w x) (h2:∀ x ∈ w.c.aF,Lim w.c.now x):CenV w.c:=⟨g.now,g.v,g.len,g.each,g.asc,g.aF,fun x hx hw=>⟨h2 x hx hw,h1 x hx hw⟩⟩
def Done (c:bA) (r:Int×aX):Prop:=r.1=0→CenV r.2.c∧r.2.c.aC.map (·.aB)=c.aC.map (·.aB)
theorem zaE6 {w:aX} (g:Good w) (hb:bud w≤500000) (hl:∀ x ∈ w.c.aF,Lim w.c.now x):∃ w',zk0 w=some w'∧CenV w'.c∧w'.c.aC.map (·.aB)=w.c.aC.map (·.aB):=by
 obtain ⟨w',h1,h2,h3⟩:=zbR2 g hb
 exact ⟨w',h1,h2.good.cen h3 fun x hx hw=>by rw [h2.now]; exact hl x (h2.wait x hx hw) hw,h2.cat⟩
theorem zdd4 (n:Int) {c:bA} (h:CenV c):∃ r,zB9 n ⟨c,[]⟩=some r∧Done c r:=by
 have g:=h.good []
 have hnow:=h.now
 unfold zB9
 by_cases c1:((decide (n < 0))||(decide (1000 < n)))=true
 ·rw [bW c1]; exact ⟨_,rfl,fun h=>nomatch h⟩
 rw [bT c1]
 simp only [dG,bX,jQ] at c1
 by_cases c2:(decide ((IntKind.i64.wrap (1073741824 - n)) < c.now))=true
 ·rw [bW c2]; exact ⟨_,rfl,fun h=>nomatch h⟩
 rw [bT c2]
 rw [zi0 (by omega) (by omega),bX] at c2
 rw [zi0 (show -9223372036854775808≤c.now+n by omega) (by omega)]
 have g1:Good ⟨⟨c.now+n,c.aC,c.aF⟩,[]⟩:=⟨by simp only; omega,g.v,g.len,g.asc,fun x hx=>(g.each x hx).later (by simp only; omega),g.aF⟩
 have hs1:∀ x ∈ c.aF,SatP ⟨⟨c.now+n,c.aC,c.aF⟩,[]⟩ x:=fun x hx hw=>(h.quiet x hx hw).2
 have hb1:bud ⟨⟨c.now+n,c.aC,c.aF⟩,[]⟩≤400000:=by
  have:=zcA4 c.aF; have:=h.len
  unfold bud
  simp only [List.length_nil]
  omega
 obtain ⟨v,e1,e2⟩:=zbR3 g1
 show ∃ r,(zc3 ⟨⟨c.now+n,c.aC,c.aF⟩,[]⟩).bind _=some r∧_
 rw [e1,Option.bind_some]
 obtain ⟨x,h1,h2⟩:=zq4 (body:=zR0) (fun z=>Good z.2∧(∀ x ∈ z.2.c.aF,SatP z.2 x)∧z.2.c.aC.map (·.aB)=c.aC.map (·.aB)∧bud z.2≤400000∧(z.1=-1∧(∀ x ∈ z.2.c.aF,Lim z.2.c.now x)∨∃ k:Nat,z.1=k∧k < z.2.c.aF.length∧(z.2.c.aF.getD k aG.zero).bH=true)) (fun z=>cntW z.2.c.aF)
  (fun x=>CenV x.c∧x.c.aC.map (·.aB)=c.aC.map (·.aB))
  (fun z ⟨hg,hsz,hcz,hbz,hv⟩=>by
   obtain ⟨v,w1⟩:=z
   simp only at hg hsz hcz hbz hv
   rcases hv with ⟨rfl,hlim⟩|⟨k,rfl,hk,hkw⟩
   ·right
    exact ⟨w1,rfl,hg.cen hsz hlim,hcz⟩
   ·left
    have hev:w1.ev.length≤400000:=by unfold bud at hbz; omega
    unfold zR0
    have h3:0≤(k:Int)∧(k:Int) < (w1.c.aF.length:Int):=by omega
    simp only [h3.1,h3.2,cX,zk6,cC,cB,Int.toNat_natCast]
    rw [zaX6 _ _ (by omega),Option.bind_some]
    have gn:=hg.ev (w1.ev++[{ bJ.zero with kind:=4,aJ:=(w1.c.aF.getD k aG.zero).aJ }])
    obtain ⟨wa,wb,r1,r2,r3,r5,r6⟩:=zbm0 (w:=⟨⟨w1.c.now,w1.c.aC,w1.c.aF⟩,w1.ev++[{ bJ.zero with kind:=4,aJ:=(w1.c.aF.getD k aG.zero).aJ }]⟩) gn hk hkw (by unfold bud at hbz ⊢; simp only [bZ,List.length_singleton]; omega)
    have hbb:bud wb+999≤bud w1:=by
     have:bud (⟨⟨w1.c.now,w1.c.aC,w1.c.aF⟩,w1.ev++[{ bJ.zero with kind:=4,aJ:=(w1.c.aF.getD k aG.zero).aJ }]⟩:aX)=bud w1+1:=by unfold bud; simp only [bZ,List.length_singleton]; omega
     omega
    rw [r1,Option.bind_some,r2,Option.bind_some]
    obtain ⟨wc,s1,s2,s3⟩:=zbR2 r3.good (by omega)
    show ∃ g',(zk0 wb).bind _=_∧_
    rw [s1,Option.bind_some]
    obtain ⟨v2,e3,e4⟩:=zbR3 s2.good
    rw [e3,Option.bind_some]
    refine ⟨_,rfl,⟨s2.good,s3,(s2.cat.trans r3.cat).trans hcz,?_,e4⟩,?_⟩
    ·have:=s2.bud
     show bud wc≤_
     omega
    ·have:=s2.cnt
     show cntW wc.c.aF < cntW w1.c.aF
     exact Nat.lt_of_le_of_lt this r5) (v,⟨⟨c.now+n,c.aC,c.aF⟩,[]⟩) ⟨g1,hs1,rfl,hb1,e2⟩
 show ∃ r,(zb9 _ (v,_)).bind _=some r∧_
 rw [h1]
 exact ⟨_,rfl,fun _=>h2⟩
theorem zcg4 {x:aG} (hw:x.bH=false) (hr:x.aZ=bK.zero) (hs:x.since=0) (l:aW) (g:Int):({ x with bB:=l,gen:=g }:aG)=zao2 x l g:=by
  unfold zao2
  rw [hw,hr,hs]
theorem LedgerP.none:LedgerP aW.zero:=⟨eZ _,eZ _,(fun i hi=>absurd hi (kK _)),(fun ns nd h=>by
  cases ns with
  | nil=>exact eZ _
  | cons n ns=>obtain ⟨e,he,_⟩:=h n (.head _); cases he),fun i hi=>absurd hi (kK _)⟩
theorem zdp2 {q:aA} {p:aK} (h:hasQ q p=false):getH q.aQ p=aD.zero∧(zp7 q p).2=false:=by
  refine ⟨jS fun hz=>?_,?_⟩
  · rw [(zz0 _ p).2 (.inr hz)] at h; cases h
  · unfold hasQ at h
    rw [fT] at h
    exact h.1
theorem zcO5 {A:List aG} {x:aG} (h:A.Pairwise fun a b=>ltP a.aJ b.aJ) (hx:∀ a ∈ A,a.aJ≠x.aJ) (hl:A.length≤100) :
    ∃ y,zb9 zG7 ((A.length:Int),A++[x])=some y∧y.Perm (x :: A)∧y.Pairwise fun a b=>ltP a.aJ b.aJ:=by
  refine zq4 (body:=zG7) (fun g=>∃ P B:List aG,g.1=P.length∧g.2=P++x :: B∧(∀ b ∈ B,ltP x.aJ b.aJ)∧P++B=A) (fun g=>g.1.toNat) (fun y=>y.Perm (x :: A)∧y.Pairwise fun a b=>ltP a.aJ b.aJ) ?_ _ ⟨A,[],rfl,rfl,(fun b hb=>nomatch hb),dV A⟩
  rintro ⟨i,l⟩ ⟨P,B,h1,h2,h3,h4⟩
  simp only at h1 h2
  subst h1; subst h2
  have hlen:P.length+B.length=A.length:=by rw [← h4,bZ]
  have hA:=h; rw [← h4] at hA
  unfold zG7
  rcases iH P with rfl|⟨Q,y,rfl⟩
  · right
    refine ⟨x :: B,?_,?_,cP.2 ⟨h3,hA⟩⟩
    · simp only [List.length_nil,Int.cast_ofNat_Int,fC,cK,bU,hY,zk6,eP,cA,List.nil_append]
    · rw [← h4]; exact .refl _
  · simp only [List.concat_eq_append] at hlen h4 hA ⊢
    simp only [bZ,List.length_singleton] at hlen ⊢
    have e1:IntKind.i64.wrap (((Q.length+1:Nat):Int) - 1)=(Q.length:Int):=by rw [zi0 (by omega) (by omega)]; omega
    have ex:(Q++[y]++x :: B).getD (Q.length+1) aG.zero=x:=by have:=zaE5 (Q++[y]) B x aG.zero; rwa [bZ,List.length_singleton] at this
    have ey:(Q++[y]++x :: B).getD Q.length aG.zero=y:=by rw [dB]; exact zaE5 Q (x :: B) y _
    rw [e1,show ((Q.length+1:Nat):Int).toNat=Q.length+1 from Int.toNat_natCast _,show ((Q.length:Nat):Int).toNat=Q.length from Int.toNat_natCast _,ex,ey]
    have hg:(0:Int)≤((Q.length+1:Nat):Int)∧((Q.length+1:Nat):Int) < ((Q.length+1+(x :: B).length:Nat):Int):=by rw [List.length_cons]; omega
    have hg2:(0:Int)≤(Q.length:Int)∧(Q.length:Int) < ((Q.length+1+(x :: B).length:Nat):Int):=by rw [List.length_cons]; omega
    simp only [hg.1,hg.2,hg2.1,hg2.2,cX,eQ,zk6,show (0:Int) < ((Q.length+1:Nat):Int) by omega,cC,cJ]
    have hyx:y.aJ≠x.aJ:=hx y (by rw [← h4]; simp)
    have hcmp:(decide (0 < zs1 y.aJ x.aJ))=decide (ltP x.aJ y.aJ):=by
      rw [show zs1 y.aJ x.aJ=cmpP y.aJ x.aJ from rfl,zbh7]
      by_cases c:ltP x.aJ y.aJ
      · rw [bT (zaT0 c),bW c]; simp [c]
      · by_cases c2:ltP y.aJ x.aJ
        · rw [bW c2]; simp [c]
        · rw [bT c2,bT c]; simp [c]
    rw [hcmp]
    by_cases c:ltP x.aJ y.aJ
    · left
      rw [bW (cF c)]
      refine ⟨_,rfl,⟨Q,y :: B,rfl,?_,fun b hb=>?_,by rw [← h4,dB]; rfl⟩,by simp only; omega⟩
      · show ((Q++[y]++x :: B).set (Q.length+1) y).set Q.length x=_
        have s1:=zbi7 (Q++[y]) B x y
        rw [bZ,List.length_singleton] at s1
        rw [s1,dB]
        exact zbi7 Q (y :: B) y x
      · rcases cE.1 hb with rfl|hb
        · exact c
        · exact h3 b hb
    · right
      rw [bT (by simpa using c)]
      refine ⟨_,rfl,?_,?_⟩
      · rw [← h4]; exact kD
      · have hyl:ltP y.aJ x.aJ:=(zal8 hyx).resolve_right c
        have hp:=eH.1 hA
        refine eH.2 ⟨hp.1,cP.2 ⟨h3,hp.2.1⟩,fun a ha b hb=>?_⟩
        have hax:ltP a.aJ x.aJ:=by
          rcases cI.1 ha with ha|ha
          · exact zae7 ((eH.1 hp.1).2.2 a ha y (by simp)) hyl
          · rw [dL.1 ha]; exact hyl
        rcases cE.1 hb with rfl|hb
        · exact hax
        · exact zae7 hax (h3 b hb)
theorem zdd5 (p:aK) (cost:Int) {c:bA} (h:CenV c):∃ r,zg8 p cost ⟨c,[]⟩=some r∧Done c r:=by
  have hlen:=h.len
  unfold zg8
  by_cases c1:(((!(zo1 p))||(decide (cost < 1)))||(decide (1000 < cost)))=true
  · rw [bW c1]; exact ⟨_,rfl,fun h=>nomatch h⟩
  rw [bT c1]
  obtain ⟨v,h1,h2⟩:=zaL7 c.aF p (by omega)
  show ∃ r,(zi2 c.aF p).bind _=some r∧_
  rw [h1,Option.bind_some]
  rcases h2.symm with ⟨i,rfl,_,_⟩|⟨rfl,hnp⟩
  · rw [bW (by simp)]; exact ⟨_,rfl,fun h=>nomatch h⟩
  rw [bT (by decide)]
  by_cases c8:(c.aF.length:Int)=8
  · rw [bW (cF c8)]; exact ⟨_,rfl,fun h=>nomatch h⟩
  rw [bT (by simpa using c8)]
  show ∃ r,gd (c.aF.length+1≤4294967296) _=some r∧_
  rw [gdp (by omega),show IntKind.i64.wrap (((c.aF.length+1:Nat):Int) - 1)=(c.aF.length:Int) by rw [zi0 (by omega) (by omega)]; omega]
  obtain ⟨y,e1,e2,e3⟩:=zcO5 (x:={ aG.zero with aJ:=p,cost:=cost }) h.asc hnp (by omega)
  rw [e1,Option.bind_some]
  refine ⟨_,rfl,fun _=>⟨?_,rfl⟩⟩
  rw [zaK0] at c1
  simp only [dG,cS,bX,jQ,eN] at c1
  have hnew:ProcV c.now c.aC { aG.zero with aJ:=p,cost:=cost }:=by
    refine ⟨c1.1.1,by simp only; omega,by show (0:Int)≤0∧(0:Int)≤_; omega,LedgerP.none,(fun n hn=>absurd rfl hn),(fun hw=>nomatch hw),fun _=>⟨rfl,rfl,fun q hq=>?_⟩⟩
    have hq0:hasQ q p=false:=by
      rw [dU]
      intro hh
      obtain ⟨x,hx,e⟩:=h.aF p ((zH9 h.t.each).2 ⟨q,hq,hh⟩)
      exact hnp x hx e
    exact zdp2 hq0
  have mem:∀ x,x ∈ y→x={ aG.zero with aJ:=p,cost:=cost }∨x ∈ c.aF:=fun x hx=>cE.1 (e2.mem_iff.1 hx)
  refine ⟨h.now,h.t,?_,fun x hx=>?_,e3,fun p' hp=>?_,fun x hx=>?_⟩
  · have:=e2.length_eq
    rw [List.length_cons] at this
    show y.length≤8
    omega
  · rcases mem x hx with rfl|hx
    · exact hnew
    · exact h.each x hx
  · obtain ⟨x,hx,e⟩:=h.aF p' hp
    exact ⟨x,e2.mem_iff.2 (.tail _ hx),e⟩
  · rcases mem x hx with rfl|hx
    · exact fun hw=>nomatch hw
    · exact h.quiet x hx
theorem zdd6 {q:aA} (h:zg7 q=true) (p:aK):getH (remN q p).aQ p=aD.zero∧(zp7 (remN q p) p).2=false:=by
  have hf:hasQ (remN q p) p=false:=by rw [dU]; exact fun e=>((zco5 h p p).1 e).2 rfl
  exact zdp2 hf
theorem zdn1 {q:aA} (h:zg7 q=true) {p x:aK} (hx:x≠p):Eff q (remN q p) x:=by
  unfold remN
  split
  · rename_i h0
    obtain ⟨_,_,_,e,hs⟩:=zaX1 h0
    rw [e]; exact (zdn0 hx).trans (zas7 hs x)
  · exact Eff.refl _ _
theorem zdd7 {t:List aA} (h:ValidT t) (p:aK):Kept p t (remT t p).1:=by
  have hv:=zcy7 h p
  rw [zbG1 h] at hv ⊢
  have gm:∀ i,i < t.length→(t.map (remN · p)).getD i aA.zero=remN (t.getD i aA.zero) p:=fun i hi=>by
    rw [bV,cL,bV,bY hi]; rfl
  refine ⟨hv,by simp,fun i hi=>?_,fun i hi x hx=>?_,fun i hi x hx=>?_⟩
  · show ((t.map (remN · p)).getD i aA.zero).aB=_
    rw [gm i hi]; exact zbQ1 (h.each _ (zd1 hi)) p
  · show covA _ (getH ((t.map (remN · p)).getD i aA.zero).aQ x) _=true
    rw [gm i hi]; exact (zbC0 (h.each _ (zd1 hi)) hx).1
  · show Eff _ ((t.map (remN · p)).getD i aA.zero) x
    rw [gm i hi]; exact zdn1 (h.each _ (zd1 hi)) hx
theorem zcr6 {i:Nat} {c:bA} (h:CenV c) (hi:i < c.aF.length):∃ w',zC0 (i:Int) ⟨c,[]⟩=some w'∧CenV w'.c∧w'.c.aC.map (·.aB)=c.aC.map (·.aB):=by
  have g:=h.good []
  have hl:=h.len
  have hre:=zdm7 h.t (c.aF.getD i aG.zero).aJ
  unfold zC0
  show ∃ w',gd (0≤(i:Int)∧(i:Int) < ((c.aF.length:Nat):Int)) _=some w'∧_
  rw [gdp (by omega),zbE2,Option.bind_some]
  simp only [Int.toNat_natCast]
  rw [zbi8 _ _ _ (by simp only [List.length_nil]; omega),Option.bind_some]
  have e1:IntKind.i64.wrap ((i:Int)+1)=((i+1:Nat):Int):=zc6 i (by omega)
  simp only [e1,Int.toNat_natCast]
  rw [gdp ⟨by omega,by omega,by omega,trivial⟩,gdp (by omega),gdp (by simp only [cO,eE]; omega)]
  rw [zaX6 _ _ (by show ([]++_:List bJ).length≤_; rw [List.nil_append]; omega),Option.bind_some]
  have hsub:(c.aF.take i++(c.aF.drop (i+1)).take (c.aF.length - (i+1))).Sublist c.aF:=by
    have e:c.aF=c.aF.take i++c.aF.drop i:=(eC _ _).symm
    conv=>rhs; rw [e]
    refine (List.Sublist.refl _).append ((List.take_sublist _ _).trans ?_)
    rw [show c.aF.drop (i+1)=(c.aF.drop i).drop 1 by rw [fI]]
    exact List.drop_sublist _ _
  have k:=zdd7 h.t (c.aF.getD i aG.zero).aJ
  have hmem:∀ y ∈ c.aF.take i++(c.aF.drop (i+1)).take (c.aF.length - (i+1)),∃ j,j < c.aF.length∧i≠j∧c.aF.getD j aG.zero=y:=fun y hy=>by
    rcases cI.1 hy with hy|hy
    · obtain ⟨j,hj,e⟩:=zy5 (z:=aG.zero) hy
      rw [cO] at hj
      refine ⟨j,by omega,by omega,?_⟩
      rw [← e,zaz1 _ _ _ _ (by omega)]
    · obtain ⟨j,hj,e⟩:=zy5 (z:=aG.zero) (fJ hy)
      rw [eE] at hj
      refine ⟨i+1+j,by omega,by omega,?_⟩
      rw [← e,bV,bV,dT]
  have hmem2:∀ j,j < c.aF.length→i≠j→c.aF.getD j aG.zero ∈ c.aF.take i++(c.aF.drop (i+1)).take (c.aF.length - (i+1)):=fun j hj hij=>by
    rw [dA (l:=c.aF.drop (i+1)) (by rw [eE]; omega)]
    rcases hX j i with cj|cj
    · refine dE _ ?_
      rw [← zaz1 c.aF j i aG.zero cj]
      exact zd1 (by rw [cO]; omega)
    · refine cV _ ?_
      have:(c.aF.drop (i+1)).getD (j - (i+1)) aG.zero=c.aF.getD j aG.zero:=by
        rw [bV,bV,dT,show i+1+(j - (i+1))=j by omega]
      rw [← this]
      exact zd1 (by rw [eE]; omega)
  have g':Good ⟨⟨c.now,(remT c.aC (c.aF.getD i aG.zero).aJ).1,c.aF.take i++(c.aF.drop (i+1)).take (c.aF.length - (i+1))⟩,([]++(remT c.aC (c.aF.getD i aG.zero).aJ).2)++[{ bJ.zero with kind:=5,aJ:=(c.aF.getD i aG.zero).aJ }]⟩:=by
    refine ⟨h.now,k.v,dX hsub.length_le hl,h.asc.sublist hsub,fun y hy=>?_,fun p hp=>?_⟩
    · obtain ⟨j,hj,hij,rfl⟩:=hmem y hy
      exact (h.each _ (zd1 hj)).kept k (g.other hi hj hij)
    · have hne:p≠(c.aF.getD i aG.zero).aJ:=fun e=>by
        obtain ⟨q,hq,hh⟩:=(zH9 k.v.each).1 hp
        rw [zbG1 h.t] at hq
        obtain ⟨q0,hq0,rfl⟩:=cH.1 hq
        have:=zdd6 (h.t.each q0 hq0) (c.aF.getD i aG.zero).aJ
        rw [e] at hh
        rcases (zz0 _ _).1 hh with h5|h5
        · exact absurd ((zbN3 _ _).2 h5) (by rw [this.2]; decide)
        · exact h5 this.1
      obtain ⟨x,hx,e⟩:=h.aF p ((zbR1 h.t k hp).resolve_left hne)
      obtain ⟨j,hj,rfl⟩:=zy5 (z:=aG.zero) hx
      exact ⟨_,hmem2 j hj (fun hij=>hne (by rw [hij]; exact e.symm)),e⟩
  have hc:cntW (c.aF.take i++(c.aF.drop (i+1)).take (c.aF.length - (i+1)))≤8:=dX (zcA4 _) (dX hsub.length_le hl)
  obtain ⟨w',h1,h2,h3⟩:=zaE6 g' (by unfold bud; simp only [bZ,List.length_singleton,List.length_nil]; omega) fun x hx hw=>by
    obtain ⟨j,hj,_,rfl⟩:=hmem x hx
    exact (h.quiet _ (zd1 hj) hw).1
  exact ⟨w',by show (zk0 _).bind _=_; rw [h1]; rfl,h2,h3.trans k.cat⟩
theorem zbZ8 {q:aA} {p:aK} {a:aD} {pr:Int} (e0:(zw4 q p a pr).2.2=0) {x:aK} (hx:x≠p):covA q.aB (getH (zw4 q p a pr).1.aQ x) (getH q.aQ x)=true∧Eff q (zw4 q p a pr).1 x:=by
  obtain ⟨hs,_,_,_,_,h⟩:=zaT7 e0
  rcases h with ⟨_,e⟩|⟨_,_,e,h2⟩|⟨_,_,_,e,h2⟩
  · rw [e]; exact ⟨zas5 (zas4 hs.hv x),Eff.refl _ _⟩
  · rw [e]
    refine ⟨?_,(zcz9 hx a).trans (zas7 h2 x)⟩
    rw [zE5]; exact zaK5 h2 x
  · rw [e]
    refine ⟨?_,(zcA0 hx a pr).trans (zas7 h2 x)⟩
    rw [zE5]; exact zaK5 h2 x
theorem zcA6 {t:List aA} (ht:ValidT t) {ps:List aK} (hps:∀ p ∈ zw6 t,p ∈ ps) (h8:ps.length≤8) {p:aK} (hp:p ∈ ps):zbf4 t p=false∧∀ q ∈ t,getH q.aQ p=aD.zero→(zp7 q p).2=false→q.aQ.length+q.aS.length < 8:=by
  have few:∀ l:List aK,l.Nodup→(∀ x ∈ l,x ∈ ps∧x≠p)→l.length < 8:=fun l nd hl=>by
    have:=dM (l₁:=p :: l) (l₂:=ps) (fZ.2 ⟨fun h=>(hl p h).2 rfl,nd⟩) fun x hx=>by
      rcases cE.1 hx with rfl|hx
      · exact hp
      · exact (hl x hx).1
    rw [List.length_cons] at this
    omega
  refine ⟨?_,fun q hq hz hw=>?_⟩
  · by_cases c:p ∈ zw6 t
    · exact zcf9 c
    · have:=few (zw6 t) (zaH1 t) fun x hx=>⟨hps x hx,fun e=>c (e ▸ hx)⟩
      unfold zbf4
      rw [eX (by omega)]; rfl
  · have hs:=((zr8 q).1 (ht.each q hq)).1
    have inn:∀ x,x ∈ q.aQ.map (·.aJ)∨x ∈ q.aS.map (·.aJ)→x ∈ ps:=fun x hx=>by
      refine hps x ((zH9 ht.each).2 ⟨q,hq,(zcF3 hs x).2 ?_⟩)
      rcases hx with hx|hx
      · exact .inr hx
      · refine .inl ?_
        unfold ordQ
        rw [eU]
        exact cV _ hx
    have:=few (q.aQ.map (·.aJ)++q.aS.map (·.aJ)) (hJ.2 ⟨?_,((zaq5 _).1 hs.wv).2.2,fun a ha b hb e=>?_⟩) fun x hx=>?_
    · simpa using this
    · rw [List.Nodup,gO]
      exact (zaT5 hs.hv).imp fun {a b} hab e=>by rw [e] at hab; exact zP8 _ hab
    · obtain ⟨w,hwm,rfl⟩:=cH.1 hb
      have h5:=(hs.wg w hwm).2
      rw [← e] at h5
      exact (zbN4 hs.hv a).2 ha h5
    · refine ⟨inn x (cI.1 hx),fun e=>?_⟩
      rcases cI.1 hx with h5|h5
      · rw [e,← zbN4 hs.hv] at h5; exact h5 hz
      · obtain ⟨w,hwm,e2⟩:=cH.1 h5
        exact (zao0.1 hw) w (cV _ hwm) (e2.trans e)
theorem zcO6 {t:List aA} (ht:ValidT t) {ps:List aK} (hps:∀ p ∈ zw6 t,p ∈ ps) (h8:ps.length≤8) {p:aK} (hp:p ∈ ps) {a:aM} {pr:Int} {i:Nat} (hi:i < t.length) (hn:(t.getD i aA.zero).aB.name=a.name) (hf:za4 (t.getD i aA.zero).aB a.aN=true) (ho:zaT6 p pr=true) (hw:(zp7 (t.getD i aA.zero) p).2=false) :
    ∃ q ev,zaX4 t p a pr=(t.set i q,ev,0)∧ev.length≤20∧Kept p t (t.set i q) ∧
      ((covA (t.getD i aA.zero).aB (getH (t.getD i aA.zero).aQ p) a.aN=true∧q=t.getD i aA.zero)∨(covA (t.getD i aA.zero).aB (getH (t.getD i aA.zero).aQ p) a.aN=false ∧
      ((zp7 q p).2=false∧getH q.aQ p=zH8 (t.getD i aA.zero).aB (getH (t.getD i aA.zero).aQ p) a.aN ∨
       (zp7 q p).2=true∧getH q.aQ p=getH (t.getD i aA.zero).aQ p∧(zp7 q p).1=zH8 (t.getD i aA.zero).aB (getH (t.getD i aA.zero).aQ p) a.aN∧∀ w ∈ q.aS,w.aJ=p→w.bC=pr))):=by
  have hm:=zd1 (z:=aA.zero) hi
  have hq:=ht.each _ hm
  obtain ⟨hfull,hplace⟩:=zcA6 ht hps h8 hp
  have e0:(zw4 (t.getD i aA.zero) p a.aN pr).2.2=0:=by
    unfold zw4
    rw [bT (by rw [hq]; decide),bT (by rw [ho]; decide),bT (by rw [hf]; decide),bT (by rw [hw]; decide)]
    by_cases c1:covA (t.getD i aA.zero).aB (getH (t.getD i aA.zero).aQ p) a.aN=true
    · rw [bW c1]
    rw [bT c1]
    by_cases c2:getH (t.getD i aA.zero).aQ p≠aD.zero
    · rw [bW c2]; rfl
    rw [bT c2,bT (by have:=hplace _ hm (jD.1 c2) hw; omega)]; rfl
  have hft:=zaK7 ht.asc hi
  rw [hn] at hft
  have e:zaX4 t p a pr=(t.set i (zw4 (t.getD i aA.zero) p a.aN pr).1,[]++zam0 a.name (zw4 (t.getD i aA.zero) p a.aN pr).2.1,0):=by
    unfold zaX4 atT putT
    rw [bT (by rw [(zU4 t).2 ht]; decide),hft,bT (by omega)]
    simp only [Int.toNat_natCast,hfull,bU,e0,cB,cA]
    rw [zaU2]
  have hv:ValidT (t.set i (zw4 (t.getD i aA.zero) p a.aN pr).1):=by
    obtain ⟨_,_,_,_,_,_,_,hv⟩:=zcN1 (t:=t) (p:=p) (a:=a) (pr:=pr) (by rw [e])
    rwa [e] at hv
  have hs:=zam1 hq (.claim p a.aN pr e0)
  refine ⟨_,_,e,?_,zbR0 ht hi hv hs.2 (fun x hx=>(zbZ8 e0 hx).1) fun x hx=>(zbZ8 e0 hx).2,zcA1 e0⟩
  have:=(zbt2 (t.getD i aA.zero) p a.aN pr).2.2.2
  rw [List.nil_append,zaE4]; omega
def zcG5 (x:aG) (pr:Int) (q q':aA) (ns:List aM):Prop :=
  ((∀ a ∈ ns,a.name≠q.aB.name)∧q'=q) ∨
  ∃ a ∈ ns,a.name=q.aB.name∧((covA q.aB (getH q.aQ x.aJ) a.aN=true∧q'=q)∨(covA q.aB (getH q.aQ x.aJ) a.aN=false ∧
    ((zp7 q' x.aJ).2=false∧getH q'.aQ x.aJ=zH8 q.aB (getH q.aQ x.aJ) a.aN ∨
     (zp7 q' x.aJ).2=true∧getH q'.aQ x.aJ=getH q.aQ x.aJ∧(zp7 q' x.aJ).1=zH8 q.aB (getH q.aQ x.aJ) a.aN∧∀ w ∈ q'.aS,w.aJ=x.aJ→w.bC=pr)))
theorem zcA7 {x:aG} {y:aG} {pr:Int} {q q':aA} {L:List aM} (hd:dnN L) (h:zcG5 x pr q q' L) (hr:q'.aB=q.aB) (hh:getH q.aQ x.aJ=zh0 x.bB.aH q.aB.name) (hw:(zp7 q x.aJ).2=false)
    (hp:y.aJ=x.aJ) (hl:y.bB=x.bB) (hpr:y.aZ.bC=pr):zaL9 q' y L:=by
  unfold zaL9
  rw [hr,hp,hl,hpr]
  rcases h with ⟨h1,rfl⟩|⟨a,ha,hn,h⟩
  · exact .inr ⟨fun a ha hn=>absurd hn (h1 a ha),hh,hw⟩
  · rw [hh] at h
    rcases h with ⟨hc,rfl⟩|⟨hc,h⟩
    · refine .inr ⟨fun b hb hbn=>?_,hh,hw⟩
      rw [zcz2 hd hb ha (hbn.trans hn.symm)]; exact hc
    · exact .inl ⟨a,ha,hn,hc,h⟩
theorem zcr7 {w:aX} {i:Nat} (hi:i < w.c.aF.length) (r:bK) (x:aG) (hx:(w.c.aF.getD i aG.zero).aJ=x.aJ) {L:List aM} (hL:L.length≤8) (hd:dnN L) (hv:ValidT w.c.aC) (hps:∀ p ∈ zw6 w.c.aC,∃ y ∈ w.c.aF,y.aJ=p) (h8:w.c.aF.length≤8) (hev:w.ev=[])
    (hok:zaT6 x.aJ r.bC=true) (hres:∀ a ∈ L,∃ q ∈ w.c.aC,q.aB.name=a.name∧za4 q.aB a.aN=true) (hnw:∀ q ∈ w.c.aC,(zp7 q x.aJ).2=false) :
    ∃ t' ev,zb9 (zv5 (i:Int) r L) (0,w)=some ⟨⟨w.c.now,t',w.c.aF⟩,ev⟩∧ev.length≤160∧Kept x.aJ w.c.aC t'∧∀ j,j < w.c.aC.length→zcG5 x r.bC (w.c.aC.getD j aA.zero) (t'.getD j aA.zero) L:=by
  obtain ⟨z,h1,h2⟩:=zq4 (body:=zv5 (i:Int) r L) (fun z=>∃ (k:Nat) (t':List aA) (ev:List bJ),z=((k:Int),⟨⟨w.c.now,t',w.c.aF⟩,ev⟩)∧k≤L.length∧ev.length≤20 * k∧Kept x.aJ w.c.aC t'∧∀ j,j < w.c.aC.length→zcG5 x r.bC (w.c.aC.getD j aA.zero) (t'.getD j aA.zero) (L.take k)) (fun z=>L.length - z.1.toNat)
    (fun z=>∃ (t':List aA) (ev:List bJ),z=⟨⟨w.c.now,t',w.c.aF⟩,ev⟩∧ev.length≤160∧Kept x.aJ w.c.aC t'∧∀ j,j < w.c.aC.length→zcG5 x r.bC (w.c.aC.getD j aA.zero) (t'.getD j aA.zero) L)
    (fun z ⟨k,t',ev,hz,hkl,he,hK,hA⟩=>by
      subst hz
      unfold zv5
      by_cases c:k < L.length
      · left
        have h3:0≤(k:Int)∧(k:Int) < (L.length:Int):=by omega
        have h4:0≤(i:Int)∧(i:Int) < ((w.c.aF.length:Nat):Int):=by omega
        simp only [h3.1,h3.2,h4.1,h4.2,cX,zk6,cC,cB,Int.toNat_natCast,zc6 k (show k < 4611686018427387904 by omega),hx]
        rw [zbQ0,Option.bind_some]
        have hma:=zd1 (z:=aM.zero) c
        obtain ⟨q0,m0,n0,f0⟩:=hres _ hma
        obtain ⟨j,hj,hn⟩:=zbu0 ⟨q0,m0,n0⟩
        have e0:=hv.inj m0 (zd1 (z:=aA.zero) hj) (n0.trans hn.symm)
        rw [e0] at f0
        have hj':j < t'.length:=by rw [hK.len]; exact hj
        have hq0:t'.getD j aA.zero=w.c.aC.getD j aA.zero:=by
          rcases hA j hj with ⟨_,h5⟩|⟨a,ha,han,_⟩
          · exact h5
          · exact absurd (han.trans hn) (zcG4 hd c a ha)
        obtain ⟨q,ev2,r1,r2,r3,r4⟩:=zcO6 hK.v (ps:=w.c.aF.map (·.aJ)) (fun p hp=>by
          rcases zbR1 hv hK hp with rfl|hp
          · rw [← hx]; exact cH.2 ⟨_,zd1 hi,rfl⟩
          · obtain ⟨y,hy,e⟩:=hps p hp
            exact cH.2 ⟨y,hy,e⟩) (by rw [dD]; exact h8) (p:=x.aJ) (by rw [← hx]; exact cH.2 ⟨_,zd1 hi,rfl⟩) (a:=L.getD k aM.zero) (pr:=r.bC) hj' (by rw [hq0]; exact hn) (by rw [hq0]; exact f0) hok (by rw [hq0]; exact hnw _ (zd1 hj))
        rw [hq0] at r4
        rw [r1,zbi8 _ _ _ (by simp only; omega),Option.bind_some]
        refine ⟨_,rfl,⟨k+1,t'.set j q,ev++ev2,rfl,c,by rw [bZ]; omega,hK.trans r3,fun j2 hj2=>?_⟩,by simp only [Int.toNat_natCast]; omega⟩
        rw [zu1 aM.zero c]
        by_cases e:j=j2
        · subst e
          rw [zm9 _ _ _ _ hj']
          exact .inr ⟨_,cV _ (.head _),hn.symm,r4⟩
        · rw [zY0 _ _ _ _ _ e]
          rcases hA j2 hj2 with ⟨h5,h6⟩|⟨a,ha,h5⟩
          · refine .inl ⟨fun a ha han=>?_,h6⟩
            rcases cI.1 ha with ha|ha
            · exact h5 a ha han
            · rw [dL.1 ha,← hn] at han
              exact e (zaB8 hv.asc hj hj2 han)
          · exact .inr ⟨a,dE _ ha,h5⟩
      · right
        have e:k=L.length:=by omega
        subst e
        simp only [fC,cK,bU,cA]
        exact ⟨_,rfl,t',ev,rfl,by omega,hK,by rw [dK] at hA; exact hA⟩) (0,w) ⟨0,w.c.aC,[],by rw [← hev]; rfl,by omega,by simp,zaA6 hv,fun j hj=>.inl ⟨(fun a ha=>nomatch ha),rfl⟩⟩
  obtain ⟨t',ev,rfl,h3⟩:=h2
  exact ⟨t',ev,h1,h3⟩
theorem zbz1 {w:aX} (hl:w.c.aF.length≤8):bud w≤w.ev.length+16000:=by
  have:=zcA4 w.c.aF; unfold bud; omega
def askP (x:aG) (r:bK) (now:Int):aG:={ x with bH:=true,aZ:=r,since:=now,gen:=zm5 x.gen }
theorem zcr8 {i:Nat} {c:bA} (h:CenV c) (hi:i < c.aF.length) (r:bK):∃ x,zy7 (i:Int) r ⟨c,[]⟩=some x∧Done c x:=by
  have g:=h.good []
  have hp:=h.each _ (zd1 (z:=aG.zero) hi)
  unfold zy7
  show ∃ x,gd (0≤(i:Int)∧(i:Int) < ((c.aF.length:Nat):Int)) (if (c.aF.getD (i:Int).toNat aG.zero).bH=true then _ else _)=some x∧_
  rw [gdp (by omega)]
  simp only [Int.toNat_natCast]
  cases hw:(c.aF.getD i aG.zero).bH with
  | true=>rw [bW rfl]; exact ⟨_,rfl,fun h=>nomatch h⟩
  | false =>
  rw [bT (by decide),zbg1,Option.bind_some]
  obtain ⟨B,hB,hB2⟩:∃ B:Bool,(vE r.bP&&(decide (0≤r.bC)&&(decide (r.bC≤7)&&(decide (0≤r.limit)&&decide (r.limit≤1000)))))=B∧(B=true→vE r.bP=true∧(0≤r.bC∧r.bC≤7)∧(0≤r.limit∧r.limit≤1000)):=⟨_,rfl,fun h=>by
    simp only [bS,bX] at h
    exact ⟨h.1,⟨h.2.1,h.2.2.1⟩,h.2.2.2.1,h.2.2.2.2⟩⟩
  rw [hB]
  cases B with
  | false=>exact ⟨_,rfl,fun h=>nomatch h⟩
  | true =>
  obtain ⟨hvE,hpr,hli⟩:=hB2 rfl
  obtain ⟨hl,hs⟩:=h.t.lens'
  obtain ⟨L,a1,a2,a3⟩:=zaj1 r.bP
  rw [hvE] at a3
  have hdn:dnN L:=zbQ6 a3
  obtain ⟨v9,r1,r2⟩:=zaU4 (c.aC.map (·.aB)) hvE (zdd0 h.t) a3
  simp only [cU,bU,cA,zaU3 _ hl,Option.bind_some,r1]
  by_cases c9:v9=0
  · simp only [c9,cC,cU,bU,cA]
    have hres:∀ a ∈ L,∃ q ∈ c.aC,q.aB.name=a.name∧za4 q.aB a.aN=true:=fun a ha=>by
      obtain ⟨res,hr,e⟩:=r2.1 c9 a ha
      obtain ⟨q,hq,rfl⟩:=cH.1 hr
      exact ⟨q,hq,e⟩
    have h3:0≤(i:Int)∧(i:Int) < ((c.aF.length:Nat):Int):=by omega
    rw [gdp h3,gdp h3,gdp h3]
    simp only [fX,zm9 _ _ _ _ hi]
    have hn:=fun (y:aG)=>zam2 (i:=i) (w:=⟨⟨c.now,c.aC,c.aF.set i y⟩,[]⟩) (by show i < (c.aF.set i y).length; rw [dQ]; exact hi)
    rw [hn,Option.bind_some,a1,Option.bind_some]
    simp only [zm9 _ _ _ _ hi,fX]
    have hrun:=hp.run hw
    obtain ⟨t',ev,l1,l2,l3,l4⟩:=zcr7 (w:=⟨⟨c.now,c.aC,c.aF.set i (askP (c.aF.getD i aG.zero) r c.now)⟩,[]⟩) (i:=i) (by show i < (c.aF.set i _).length; rw [dQ]; exact hi) r (c.aF.getD i aG.zero)
      (by show ((c.aF.set i _).getD i aG.zero).aJ=_; rw [zm9 _ _ _ _ hi]; rfl) a2 hdn h.t (fun p hpp=>by
        obtain ⟨x,hx,e⟩:=h.aF p hpp
        obtain ⟨j,hj,rfl⟩:=zy5 (z:=aG.zero) hx
        refine ⟨_,zd1 (z:=aG.zero) (i:=j) (by show j < (c.aF.set i _).length; rw [dQ]; exact hj),?_⟩
        show ((c.aF.set i _).getD j aG.zero).aJ=p
        by_cases ij:i=j
        · subst ij; rw [zm9 _ _ _ _ hi]; exact e
        · rw [zY0 _ _ _ _ _ ij]; exact e) (by show (c.aF.set i _).length≤8; rw [dQ]; exact h.len) rfl
      (by unfold zaT6; rw [hp.pv,cF hpr.1,cF hpr.2]; rfl) hres fun q hq=>(hrun.2.2 q hq).2
    have l1':zb9 (zv5 (i:Int) r L) (0,(⟨(⟨c.now,c.aC,c.aF.set i (askP (c.aF.getD i aG.zero) r c.now)⟩:bA),[]⟩:aX))=some (⟨(⟨c.now,t',c.aF.set i (askP (c.aF.getD i aG.zero) r c.now)⟩:bA),ev⟩:aX):=l1
    show ∃ x,(zb9 (zv5 (i:Int) r L) (0,(⟨(⟨c.now,c.aC,c.aF.set i (askP (c.aF.getD i aG.zero) r c.now)⟩:bA),[]⟩:aX))).bind _=some x∧_
    rw [l1',Option.bind_some]
    have hK:Kept (c.aF.getD i aG.zero).aJ c.aC t':=l3
    have hnew:ProcV c.now t' (askP (c.aF.getD i aG.zero) r c.now):=by
      refine ⟨hp.pv,hp.cost,zai7 _,hp.led,fun n hn=>hK.named (P:=fun r=>za4 r _=true) (hp.held n hn),fun _=>⟨hvE,hpr,hli,⟨h.now.1,iM _⟩,fun L' b hL' a ha=>?_,fun L' b hL' q' hq=>?_⟩,(fun hh=>nomatch hh)⟩
      · have e:zj8 r.bP=some (L',b):=hL'
        rw [a3] at e; cases e
        exact hK.named (P:=fun r=>za4 r _=true) (hres a ha)
      · have e:zj8 r.bP=some (L',b):=hL'
        rw [a3] at e; cases e
        obtain ⟨j,hj,rfl,hrr⟩:=hK.mem hq
        obtain ⟨k1,k2⟩:=hrun.2.2 _ (zd1 (z:=aA.zero) hj)
        exact zcA7 hdn (l4 j hj) hrr k1 k2 rfl rfl rfl
    have g1:=g.upd (w:=⟨c,[]⟩) hi hK (y:=askP (c.aF.getD i aG.zero) r c.now) rfl hnew ev
    obtain ⟨w',s1,s2,s3⟩:=zaE6 g1 (dX (zbz1 g1.len) (by simp only; omega)) fun x hx hwx=>by
      rcases hI (show x ∈ c.aF.set i _ from hx) with hx|rfl
      · exact (h.quiet x hx hwx).1
      · show r.limit=0∨c.now < c.now+r.limit
        omega
    unfold zU8
    rw [s1]
    exact ⟨_,rfl,fun _=>⟨s2,s3.trans hK.cat⟩⟩
  · simp only [c9,cK,dF,cB]
    exact ⟨_,rfl,fun h=>absurd h c9⟩
theorem zcO7 {r:aI} {F a b:aD} (hg:zu9 a b=true) (hc:covA r F b=true):covA r F a=true:=by
 have hs:ze9 r=true:=by
  rcases (perm_iff r b).1 ((zQ4 _ _ _).1 hc).2.1 with h|h
  ·exact h.1
  ·exact zbe3 h
 unfold zu9 at hg
 by_cases h1:zm4 b=true∧a≠b
 ·rw [bT (by simp [h1.1,h1.2])] at hg
  by_cases h2:a=aD.zero
  ·rw [h2]; exact zbi3 ((zQ4 _ _ _).1 hc).1 hs
  ·have h2':¬ a=({ aD.zero with }:aD):=h2
   rw [bT (by simpa using h2')] at hg
   by_cases h3:zm4 a=true
   ·rw [bT (by simp [h3])] at hg
    have hb0:b≠aD.zero:=fun e=>by rw [e] at h1; exact absurd h1.1 (by decide)
    have hbf:za4 r b=true:=by
     rcases (perm_iff r b).1 ((zQ4 _ _ _).1 hc).2.1 with h|h
     ·exact absurd h.2 hb0
     ·exact h
    have ub:=(zaq9 b).1 h1.1
    have ua:=(zaq9 a).1 h3
    have hba:covA r b a=true:=by
     rw [zQ4]
     rw [zA6] at hbf
     by_cases hm:a.mode=0
     ·rw [bT (by simp [hm])] at hg
      have hg:=fW hg
      have fa:za4 r a=true:=(zA6 r a).2 (by omega)
      exact ⟨zz5 ((zA6 r b).2 hbf),zz5 fa,.inr ⟨hb0,h2,.inr ⟨by omega,by omega⟩⟩⟩
     ·rw [bW (by simp [hm])] at hg
      have hc2:=(zaK2 b.mode a.mode).1 hg
      have fa:za4 r a=true:=(zA6 r a).2 (by omega)
      exact ⟨zz5 ((zA6 r b).2 hbf),zz5 fa,.inr ⟨hb0,h2,.inl ⟨by omega,hg⟩⟩⟩
    exact zbp2 hc hba
   ·rw [bW (by simp [h3])] at hg; cases hg
 ·rw [bW (by
   by_cases hu:zm4 b=true
   ·have:a=b:=jT fun h=>h1 ⟨hu,h⟩
    simp [this]
   ·simp [hu])] at hg
  cases hg
theorem zbz2 {l:aW} (h:LedgerP l) {r:aI} {n:ByteArray} (hf:za4 r (zh0 l.aH n)=true):∀ d k,k+d=l.aH.length→covA r (zh0 l.aH n) (zh0 (l.aH.take k) n)=true
 | 0,k,e=>by
  rw [show k=l.aH.length by omega,dK]
  exact zas5 (zz5 hf)
 | d+1,k,e=>by
  have ih:=zbz2 h hf d (k+1) (by omega)
  have hk:k < l.aH.length:=by omega
  rw [zu1 bG.zero hk,zU5] at ih
  have hg:=h.grow k hk
  by_cases c:(l.aH.getD k bG.zero).name=n
  ·rw [bW c] at ih
   rw [c] at hg
   rw [← hg.1]
   exact zcO7 hg.2 ih
  ·rw [bT c] at ih; exact ih
theorem FitL.cut {t:List aA} {l:aW} (h:FitL t l) (hl:LedgerP l) {k:Nat} (hk:k≤l.aH.length) {n:ByteArray} (hn:zh0 (l.aH.take k) n≠aD.zero):∃ q ∈ t,q.aB.name=n∧za4 q.aB (zh0 (l.aH.take k) n)=true:=by
 obtain ⟨e,he,hen⟩:=zaO4 hn
 have hnz:=zbq2 hl (fJ he)
 rw [hen] at hnz
 obtain ⟨q,hq,hqn,hqf⟩:=h n hnz
 have hc:=zbz2 hl hqf (l.aH.length - k) k (by omega)
 rcases (perm_iff _ _).1 ((zQ4 _ _ _).1 hc).2.1 with h5|h5
 ·exact absurd h5.2 hn
 ·exact ⟨q,hq,hqn,h5⟩
theorem zcr9 {i:Nat} {c:bA} (h:CenV c) (hi:i < c.aF.length) (nm:ByteArray):∃ x,zB6 (i:Int) nm ⟨c,[]⟩=some x∧Done c x:=by
 have g:=h.good []
 have hp:=h.each _ (zd1 (z:=aG.zero) hi)
 have hle:=hp.led.le
 unfold zB6
 show ∃ x,gd (0≤(i:Int)∧(i:Int) < ((c.aF.length:Nat):Int)) (if (c.aF.getD (i:Int).toNat aG.zero).bH=true then _ else _)=some x∧_
 have h3:0≤(i:Int)∧(i:Int) < ((c.aF.length:Nat):Int):=by omega
 rw [gdp h3]
 simp only [Int.toNat_natCast]
 cases hw:(c.aF.getD i aG.zero).bH with
 | true=>rw [bW rfl]; exact ⟨_,rfl,fun h=>nomatch h⟩
 | false =>
 have hrun:=hp.run hw
 rw [bT (by decide),gdp h3,zX9 _ _ (by omega),Option.bind_some]
 by_cases cz:zh0 (c.aF.getD i aG.zero).bB.aH nm=aD.zero
 ·rw [bW (cF cz)]; exact ⟨_,rfl,fun h=>nomatch h⟩
 rw [bT (by simpa using cz)]
 obtain ⟨q0,m0,n0,f0⟩:=hp.held nm cz
 obtain ⟨j,hj,hn⟩:=zbu0 ⟨q0,m0,n0⟩
 have hcur:=hrun.2.2 _ (zd1 (z:=aA.zero) hj)
 rw [hn] at hcur
 obtain ⟨q,ev,r1,r2,r3,r4,r5,r6⟩:=zbz0 h.t hj (p:=(c.aF.getD i aG.zero).aJ) (a:=aD.zero) (by rw [hcur.1]; exact cz) hcur.2 (zbi3 (zas4 ((zr8 _).1 (h.t.each _ (zd1 (z:=aA.zero) hj))).1.hv _) (zbf1 (h.t.each _ (zd1 (z:=aA.zero) hj))))
 rw [hn] at r1
 rw [gdp h3,zaL4,Option.bind_some]
 show ∃ x,(zc4 (zaA5 c.aC _ ⟨nm,aD.zero⟩).1 (zaA5 c.aC _ ⟨nm,aD.zero⟩).2.1 ⟨c,[]⟩).bind _=some x∧_
 rw [r1,zbi8 _ _ _ (by simp only [List.length_nil]; omega),Option.bind_some]
 simp only
 rw [gdp h3,zbU1 hp.led (zaO4 cz),Option.bind_some,gdp h3]
 have hnx:=fun (t:List aA) (ev:List bJ) (y:aG)=>zam2 (i:=i) (w:=⟨⟨c.now,t,c.aF.set i y⟩,ev⟩) (by show i < (c.aF.set i y).length; rw [dQ]; exact hi)
 rw [hnx,Option.bind_some]
 simp only [zm9 _ _ _ _ hi,fX]
 rw [zcg4 hw hrun.1 hrun.2.1]
 have hdrop:∀ n,zh0 (zbZ0 nm (c.aF.getD i aG.zero).bB).aH n=if nm=n then aD.zero else zh0 (c.aF.getD i aG.zero).bB.aH n:=fun n=>by
  by_cases e:nm=n
  ·rw [bW e,← e]; exact zcN6 _ _
  ·rw [bT e]; exact zbY9 (fun h5=>e h5.symm) _
 have hnew:=hp.rest r3 (zai7 (c.aF.getD i aG.zero).gen) (hp.led.drop nm) (fun n hnz=>by
  rw [hdrop] at hnz ⊢
  by_cases e:nm=n
  ·rw [bW e] at hnz; exact absurd rfl hnz
  ·rw [bT e] at hnz ⊢; exact hp.held n hnz) (fun j2 hj2=>by
  rw [hdrop]
  by_cases e:j=j2
  ·subst e
   rw [zm9 _ _ _ _ hj,bW hn.symm]; exact ⟨r4,r5⟩
  ·rw [zY0 _ _ _ _ _ e,bT (fun e2=>e (zaB8 h.t.asc hj hj2 (hn.trans e2)))]
   exact hrun.2.2 _ (zd1 hj2)) c.now
 have g1:=g.upd (w:=⟨c,[]⟩) hi r3 (y:=zao2 (c.aF.getD i aG.zero) (zbZ0 nm (c.aF.getD i aG.zero).bB) (zm5 (c.aF.getD i aG.zero).gen)) rfl hnew ([]++ev)
 obtain ⟨w',s1,s2,s3⟩:=zaE6 g1 (dX (zbz1 g1.len) (by simp only [List.nil_append]; omega)) fun x hx hwx=>(h.quiet x (zaU6 rfl x hx hwx) hwx).1
 show ∃ x,(zk0 ⟨⟨c.now,c.aC.set j q,c.aF.set i (zao2 (c.aF.getD i aG.zero) (zbZ0 nm (c.aF.getD i aG.zero).bB) (zm5 (c.aF.getD i aG.zero).gen))⟩,[]++ev⟩).bind _=some x∧_
 rw [s1]
 exact ⟨_,rfl,fun _=>⟨s2,s3.trans r3.cat⟩⟩
def Back (x:aG) (t t':List aA) (k:Nat) (ns:List aM):Prop:=∀ j,j < t.length→(zp7 (t'.getD j aA.zero) x.aJ).2=false ∧
 (getH (t'.getD j aA.zero).aQ x.aJ=zh0 x.bB.aH (t.getD j aA.zero).aB.name∨getH (t'.getD j aA.zero).aQ x.aJ=zh0 (x.bB.aH.take k) (t.getD j aA.zero).aB.name) ∧
 ∀ a ∈ ns,a.name=(t.getD j aA.zero).aB.name→getH (t'.getD j aA.zero).aQ x.aJ=zh0 (x.bB.aH.take k) (t.getD j aA.zero).aB.name
theorem zbU4 {now:Int} {t0:List aA} (ht:ValidT t0) {x:aG} (hp:ProcV now t0 x) {i:Nat} {v:aW×List aM×Int} (hv:v.2.1.length≤72) {k:Nat} (hk:k≤x.bB.aH.length)
  (ha:∀ a ∈ v.2.1,(∃ e ∈ x.bB.aH,e.name=a.name)∧a.aN=zh0 (x.bB.aH.take k) a.name)
  {j1:aX} (hj:(j1.c.aF.getD i aG.zero).aJ=x.aJ) {w:aX} (hK:Kept x.aJ t0 w.c.aC) (hB:Back x t0 w.c.aC k []) (hev:w.ev.length≤1000) :
  ∃ t' ev,zb9 (zA5 (i:Int) v j1) (0,w)=some ⟨⟨w.c.now,t',w.c.aF⟩,ev⟩∧Kept x.aJ t0 t'∧Back x t0 t' k v.2.1∧ev.length≤w.ev.length+1440:=by
 obtain ⟨z,h1,h2⟩:=zq4 (body:=zA5 (i:Int) v j1) (fun z=>∃ (m:Nat) (t':List aA) (ev:List bJ),z=((m:Int),⟨⟨w.c.now,t',w.c.aF⟩,ev⟩)∧m≤v.2.1.length∧ev.length≤w.ev.length+20 * m∧Kept x.aJ t0 t'∧Back x t0 t' k (v.2.1.take m)) (fun z=>v.2.1.length - z.1.toNat)
  (fun z=>∃ (t':List aA) (ev:List bJ),z=⟨⟨w.c.now,t',w.c.aF⟩,ev⟩∧Kept x.aJ t0 t'∧Back x t0 t' k v.2.1∧ev.length≤w.ev.length+1440)
  (fun z ⟨m,t',ev,hz,hml,he,hKz,hBz⟩=>by
   subst hz
   unfold zA5
   by_cases cm:m < v.2.1.length
   ·left
    have h3:0≤(m:Int)∧(m:Int) < (v.2.1.length:Int):=by omega
    have hlq:=hKz.v.lens'.1
    simp only [h3.1,h3.2,cX,zk6,cC,cB,Int.toNat_natCast,zc6 m (show m < 4611686018427387904 by omega)]
    obtain ⟨⟨en,he1,he2⟩,hamt⟩:=ha _ (zd1 (z:=aM.zero) cm)
    have hnz:=zbq2 hp.led he1
    rw [he2] at hnz
    obtain ⟨q,hq,hqn,hqf⟩:=hp.held _ hnz
    obtain ⟨j,hj1,hj2⟩:=zbu0 ⟨q,hq,hqn⟩
    have hjq:t0.getD j aA.zero=q:=ht.inj (zd1 hj1) hq (hj2.trans hqn.symm)
    have hj':j < t'.length:=by rw [hKz.len]; exact hj1
    have hfd:=hKz.find ht hj1
    rw [hj2] at hfd
    have h6:=zaO3 hKz.v.lens hj'
    rw [zS0 _ _ (by omega),Option.bind_some,hfd,gdp (by omega)]
    simp only [Int.toNat_natCast,hj]
    rw [zD7 _ _ (by omega),Option.bind_some]
    have hBj:=hBz j hj1
    have tk:v.2.1.take (m+1)=v.2.1.take m++[v.2.1.getD m aM.zero]:=zu1 aM.zero cm
    have other:∀ t2:List aA,∀ j2,j2 < t0.length→t2.getD j2 aA.zero=t'.getD j2 aA.zero→j≠j2→(zp7 (t2.getD j2 aA.zero) x.aJ).2=false ∧
      (getH (t2.getD j2 aA.zero).aQ x.aJ=zh0 x.bB.aH (t0.getD j2 aA.zero).aB.name∨getH (t2.getD j2 aA.zero).aQ x.aJ=zh0 (x.bB.aH.take k) (t0.getD j2 aA.zero).aB.name) ∧
      ∀ a ∈ v.2.1.take (m+1),a.name=(t0.getD j2 aA.zero).aB.name→getH (t2.getD j2 aA.zero).aQ x.aJ=zh0 (x.bB.aH.take k) (t0.getD j2 aA.zero).aB.name:=fun t2 j2 hj3 e2 hne=>by
     rw [e2,tk]
     obtain ⟨b1,b2,b3⟩:=hBz j2 hj3
     refine ⟨b1,b2,fun a hma han=>?_⟩
     rcases cI.1 hma with hma|hma
     ·exact b3 a hma han
     ·rw [dL.1 hma,← hj2] at han
      exact absurd (zaB8 ht.asc hj1 hj3 han) hne
    by_cases hne:getH (t'.getD j aA.zero).aQ x.aJ=(v.2.1.getD m aM.zero).aN
    ·rw [bT (by rw [cF hne]; decide)]
     refine ⟨_,rfl,⟨m+1,t',ev,rfl,cm,by omega,hKz,fun j2 hj3=>?_⟩,by simp only [Int.toNat_natCast]; omega⟩
     by_cases e:j=j2
     ·subst e
      exact ⟨hBj.1,hBj.2.1,fun a _ _=>by rw [hne,hamt,hj2]⟩
     ·exact other _ j2 hj3 rfl e
    ·rw [bW (by rw [eX hne]; rfl)]
     have hres:=hKz.res j hj1
     have hfull:getH (t'.getD j aA.zero).aQ x.aJ=zh0 x.bB.aH (v.2.1.getD m aM.zero).name:=by
      rcases hBj.2.1 with e|e
      ·rw [e,hj2]
      ·rw [hj2,← hamt] at e; exact absurd e hne
     have hcv:covA (t'.getD j aA.zero).aB (getH (t'.getD j aA.zero).aQ x.aJ) (v.2.1.getD m aM.zero).aN=true:=by
      rw [hfull,hamt,hres,hjq]
      exact zbz2 hp.led hqf (x.bB.aH.length - k) k (by omega)
     obtain ⟨q2,ev2,r1,r2,r3,r4,r5,r6⟩:=zbz0 hKz.v hj' (p:=x.aJ) (a:=(v.2.1.getD m aM.zero).aN) (by rw [hfull]; exact hnz) hBj.1 hcv
     have hatom:(⟨(t'.getD j aA.zero).aB.name,(v.2.1.getD m aM.zero).aN⟩:aM)=v.2.1.getD m aM.zero:=by rw [hres,hj2]
     rw [hatom] at r1
     rw [zaL4,Option.bind_some,r1,zbi8 _ _ _ (by simp only; omega),Option.bind_some]
     refine ⟨_,rfl,⟨m+1,t'.set j q2,ev++ev2,rfl,cm,by simp only [bZ]; omega,hKz.trans r3,fun j2 hj3=>?_⟩,by simp only [Int.toNat_natCast]; omega⟩
     by_cases e:j=j2
     ·subst e
      rw [zm9 _ _ _ _ hj']
      have e4:getH q2.aQ x.aJ=zh0 (x.bB.aH.take k) (t0.getD j aA.zero).aB.name:=by rw [r4,hamt,hj2]
      exact ⟨r5,.inr e4,fun _ _ _=>e4⟩
     ·exact other _ j2 hj3 (zY0 _ _ _ _ _ e) e
   ·right
    have e:m=v.2.1.length:=by omega
    subst e
    simp only [fC,cK,bU,cA]
    exact ⟨_,rfl,t',ev,rfl,hKz,by rw [dK] at hBz; exact hBz,by omega⟩) (0,w) ⟨0,w.c.aC,w.ev,rfl,by omega,by omega,hK,hB⟩
 obtain ⟨t',ev,rfl,h3⟩:=h2
 exact ⟨t',ev,h1,h3⟩
theorem zcg5 {i:Nat} {c:bA} (h:CenV c) (hi:i < c.aF.length) (label:Int):∃ x,zx7 (i:Int) label ⟨c,[]⟩=some x∧Done c x:=by
 have g:=h.good []
 have hp:=h.each _ (zd1 (z:=aG.zero) hi)
 have h3:0≤(i:Int)∧(i:Int) < ((c.aF.length:Nat):Int):=by omega
 unfold zx7
 show ∃ x,gd (0≤(i:Int)∧(i:Int) < ((c.aF.length:Nat):Int)) ((zA0 (c.aF.getD (i:Int).toNat aG.zero).bB label).bind _)=some x∧_
 rw [gdp h3]
 simp only [Int.toNat_natCast]
 obtain ⟨v,u1,u2,u3⟩:=zcN9 hp.led label
 rw [u1,Option.bind_some]
 by_cases c0:v.2.2=0
 ·rw [bT (by simp [c0]),gdp h3]
  obtain ⟨hlv,k,hk,hke,hka,hkd⟩:=u2 c0
  obtain ⟨x,hx⟩:∃ x,c.aF.getD i aG.zero=x:=⟨_,rfl⟩
  rw [hx] at hp hk hke hka hkd
  simp only [hx]
  have fin:∀ (y:aG) (t1:List aA) (ev1:List bJ),y.aJ=x.aJ→(∀ l g,({ y with bB:=l,gen:=g }:aG)=zao2 x l g)→y.gen=x.gen→ev1.length≤320→Kept x.aJ c.aC t1→(∀ j,j < c.aC.length→getH (t1.getD j aA.zero).aQ x.aJ=zh0 x.bB.aH (c.aC.getD j aA.zero).aB.name∧(zp7 (t1.getD j aA.zero) x.aJ).2=false) →
    ∃ r,zu7 (i:Int) v ⟨⟨c.now,t1,c.aF.set i y⟩,ev1⟩=some r∧Done c r:=by
   intro y t1 ev1 hyp hyr hyg hev hK hB
   unfold zu7
   have hi1:i < (c.aF.set i y).length:=by rw [dQ]; exact hi
   have hg1:(c.aF.set i y).getD i aG.zero=y:=zm9 _ _ _ _ hi
   show ∃ r,gd (0≤(i:Int)∧(i:Int) < (((c.aF.set i y).length:Nat):Int)) (gd (0≤(i:Int)∧(i:Int) < (((c.aF.set i y).length:Nat):Int)) _)=some r∧_
   rw [gdp (by omega),gdp (by omega)]
   simp only [Int.toNat_natCast]
   obtain ⟨t2,ev2,l1,l2,l3,l4⟩:=zbU4 h.t hp (i:=i) u3 hk hka (j1:=⟨⟨c.now,t1,c.aF.set i y⟩,ev1⟩) (by show ((c.aF.set i y).getD i aG.zero).aJ=_; rw [hg1]; exact hyp) (w:=⟨⟨c.now,t1,(c.aF.set i y).set i { (c.aF.set i y).getD i aG.zero with bB:=v.1 }⟩,ev1⟩) hK (fun j hj=>⟨(hB j hj).2,.inl (hB j hj).1,fun a ha=>nomatch ha⟩) (by simp only; omega)
   rw [l1,Option.bind_some]
   unfold zH5
   have hset:(c.aF.set i y).set i { (c.aF.set i y).getD i aG.zero with bB:=v.1 }=c.aF.set i { y with bB:=v.1 }:=by rw [fX,hg1]
   simp only [hset]
   rw [zam2 (w:=⟨⟨c.now,t2,c.aF.set i { y with bB:=v.1 }⟩,ev2⟩) (by show i < (c.aF.set i _).length; rw [dQ]; exact hi),Option.bind_some]
   simp only [zm9 _ _ _ _ hi,fX]
   have e5:({ y with bB:=v.1,gen:=zm5 y.gen }:aG)=zao2 x v.1 (zm5 x.gen):=by rw [hyr,hyg]
   have hnew:=hp.rest l2 (zai7 x.gen) hlv (fun n hnz=>by
    rw [hke] at hnz ⊢; exact FitL.cut hp.held hp.led hk hnz) (fun j hj=>by
    obtain ⟨b1,b2,b3⟩:=l3 j hj
    refine ⟨?_,b1⟩
    rw [hke]
    by_cases e:zh0 x.bB.aH (c.aC.getD j aA.zero).aB.name=zh0 (x.bB.aH.take k) (c.aC.getD j aA.zero).aB.name
    ·rcases b2 with b2|b2
     ·rw [b2,e]
     ·exact b2
    ·obtain ⟨a,ham,han⟩:=hkd _ e
     exact b3 a ham han) c.now
   have g1:=g.upd (w:=⟨c,[]⟩) hi (by rw [hx]; exact l2) (y:=zao2 x v.1 (zm5 x.gen)) (by rw [hx]; rfl) hnew ev2
   obtain ⟨w',s1,s2,s3⟩:=zaE6 g1 (dX (zbz1 g1.len) (by simp only at l4 ⊢; omega)) fun z hz hwz=>(h.quiet z (zaU6 rfl z hz hwz) hwz).1
   show ∃ r,(zk0 ⟨⟨c.now,t2,c.aF.set i { y with bB:=v.1,gen:=zm5 y.gen }⟩,ev2⟩).bind _=some r∧_
   rw [e5,s1]
   exact ⟨_,rfl,fun _=>⟨s2,s3.trans l2.cat⟩⟩
  show ∃ x',(if x.bH=true then _ else _)=some x'∧_
  rcases hb x.bH with hw|hw
  case inr =>
   rw [bT (by rw [hw]; decide)]
   have hrun:=hp.run hw
   have:=fin x c.aC [] rfl (zcg4 hw hrun.1 hrun.2.1) rfl (by simp) (zaA6 h.t) (fun j hj=>hrun.2.2 _ (zd1 (z:=aA.zero) hj))
   rw [← hx,zaC1 _ _ _ hi] at this
   exact this
  case inl =>
   rw [bW hw]
   obtain ⟨t',ev,L,w1,w2,w3,w4,w5⟩:=zbu1 (w:=⟨c,[]⟩) g hi (by show (c.aF.getD i aG.zero).bH=true; rw [hx]; exact hw) (dX (zbz1 g.len) (by simp))
   rw [w1,Option.bind_some]
   have w3':Kept x.aJ c.aC t':=by have:=w3; rw [show (⟨c,[]⟩:aX).c.aF.getD i aG.zero=x from hx] at this; exact this
   have w5':Left x c.aC t' L:=by have:=w5; rw [show (⟨c,[]⟩:aX).c.aF.getD i aG.zero=x from hx] at this; exact this
   have w4':zj8 x.aZ.bP=some (L,true):=by have:=w4; rw [show (⟨c,[]⟩:aX).c.aF.getD i aG.zero=x from hx] at this; exact this
   have:=fin (zbZ6 x) t' ([]++ev) rfl (fun l g=>rfl) rfl (by rw [List.nil_append]; exact w2) w3' (zbZ7 h.t hp hw w4' w5')
   show ∃ r,zu7 (i:Int) v ⟨⟨c.now,t',c.aF.set i (zbZ6 (c.aF.getD i aG.zero))⟩,[]++ev⟩=some r∧_
   rw [hx]; exact this
 ·rw [bW (by simp [c0])]
  exact ⟨_,rfl,fun h=>absurd h c0⟩
theorem zdv5 {c:bA} (h:CenV c) (k:bM):∃ x,zH6 k ⟨c,[]⟩=some x∧Done c x:=by
 have g:=h.good []
 have b1:∀ {o:Option (Int×aX)},(∃ x,o=some x∧Done c x)→∃ x,(o.bind fun v=>some (v.1,v.2))=some x∧Done c x:=fun {o} ⟨x,hx,hd⟩=>⟨x,by rw [hx]; rfl,hd⟩
 have b2:∀ {o:Option aX},(∃ w',o=some w'∧CenV w'.c∧w'.c.aC.map (·.aB)=c.aC.map (·.aB))→∃ x,(o.bind fun v=>some ((0:Int),v))=some x∧Done c x:=fun {o} ⟨x,hx,hd⟩=>⟨(0,x),by rw [hx]; rfl,fun _=>hd⟩
 have same:Done c (0,⟨c,[]⟩):=fun _=>⟨h,rfl⟩
 unfold zH6
 by_cases k0:((decide (k.kind < 1))||(decide (9 < k.kind)))=true
 ·rw [bW k0]; exact ⟨_,rfl,fun h=>nomatch h⟩
 rw [bT k0]
 by_cases k1:k.kind=1
 ·rw [bW (cF k1)]; exact b1 (zdd5 _ _ h)
 rw [bT (by simpa using k1)]
 by_cases k9:k.kind=9
 ·rw [bW (cF k9)]; exact b1 (zdd4 _ h)
 rw [bT (by simpa using k9)]
 obtain ⟨v,i1,i2⟩:=zaL7 c.aF k.aJ (by have:=h.len; omega)
 show ∃ x,(zi2 c.aF k.aJ).bind _=some x∧_
 rw [i1,Option.bind_some]
 rcases i2 with ⟨rfl,_⟩|⟨i,rfl,hi,_⟩
 ·exact ⟨_,rfl,fun h=>nomatch h⟩
 have hp:=h.each _ (zd1 (z:=aG.zero) hi)
 have h3:0≤(i:Int)∧(i:Int) < ((c.aF.length:Nat):Int):=by omega
 rw [bT (by simp)]
 show ∃ x,gd (0≤(i:Int)∧(i:Int) < ((c.aF.length:Nat):Int)) _=some x∧_
 rw [gdp h3]
 simp only [Int.toNat_natCast]
 by_cases k2:k.kind=2
 ·rw [bW (cF k2)]
  exact b1 (zcr8 h hi _)
 rw [bT (by simpa using k2)]
 by_cases k3:k.kind=3
 ·rw [bW (cF k3)]
  rcases hb (c.aF.getD i aG.zero).bH with hw|hw
  case inr=>rw [bW (by show (!(c.aF.getD i aG.zero).bH)=true; rw [hw]; rfl)]; exact ⟨_,rfl,fun h=>nomatch h⟩
  case inl =>
   rw [bT (by show ¬ (!(c.aF.getD i aG.zero).bH)=true; rw [hw]; decide)]
   obtain ⟨w1,w2,r1,r2,r3,_,r6⟩:=zbm0 (w:=⟨c,[]⟩) g hi hw (dX (zbz1 g.len) (by simp))
   rw [r1,Option.bind_some,r2,Option.bind_some]
   obtain ⟨w3,s1,s2,s3⟩:=zaE6 r3.good (dX r3.bud (dX (zbz1 g.len) (by simp))) fun x hx hwx=>by rw [r3.now]; exact (h.quiet x (r3.wait x hx hwx) hwx).1
   show ∃ x,(zk0 w2).bind _=some x∧_
   rw [s1]; exact ⟨_,rfl,fun _=>⟨s2,s3.trans r3.cat⟩⟩
 rw [bT (by simpa using k3)]
 by_cases k4:k.kind=4
 ·rw [bW (cF k4)]
  exact b1 (zcr9 h hi _)
 rw [bT (by simpa using k4)]
 by_cases k5:k.kind=5
 ·rw [bW (cF k5)]
  rcases hb (c.aF.getD i aG.zero).bH with hw|hw
  case inl=>rw [bW (by exact hw)]; exact ⟨_,rfl,fun h=>nomatch h⟩
  case inr =>
   have hrun:=hp.run hw
   rw [bT (by show ¬ (c.aF.getD i aG.zero).bH=true; rw [hw]; decide),gdp h3]
   obtain ⟨r,s1,s2⟩:=zcN7 hp.led k.n
   rw [s1,Option.bind_some]
   by_cases c0:r.2=0
   ·rw [bT (by simp [c0]),gdp h3]
    obtain ⟨l1,l2⟩:=s2 c0
    have hn:=fun (y:aG)=>zam2 (i:=i) (w:=⟨⟨c.now,c.aC,c.aF.set i y⟩,[]⟩) (by show i < (c.aF.set i y).length; rw [dQ]; exact hi)
    rw [hn,Option.bind_some]
    simp only [zm9 _ _ _ _ hi,fX]
    rw [zcg4 hw hrun.1 hrun.2.1]
    have kr:=zaA6 (p:=(c.aF.getD i aG.zero).aJ) h.t
    have g1:=g.upd (w:=⟨c,[]⟩) hi kr (y:=zao2 (c.aF.getD i aG.zero) r.1 (zm5 (c.aF.getD i aG.zero).gen)) rfl (hp.rest kr (zai7 _) l1 (by rw [l2]; exact hp.held) (by rw [l2]; exact fun j hj=>hrun.2.2 _ (zd1 hj)) c.now) []
    exact ⟨_,rfl,fun _=>⟨g1.cen (fun x hx hwx=>(h.quiet x (zaU6 rfl x hx hwx) hwx).2) (fun x hx hwx=>(h.quiet x (zaU6 rfl x hx hwx) hwx).1),rfl⟩⟩
   ·rw [bW (by simp [c0])]; exact ⟨_,rfl,fun h=>absurd h c0⟩
 rw [bT (by simpa using k5)]
 by_cases k6:k.kind=6
 ·rw [bW (cF k6)]
  exact b1 (zcg5 h hi _)
 rw [bT (by simpa using k6)]
 by_cases k8:k.kind=8
 ·rw [bW (cF k8)]
  rcases hb (c.aF.getD i aG.zero).bH with hw|hw
  case inl=>rw [bW (by exact hw)]; exact ⟨_,rfl,fun h=>nomatch h⟩
  case inr =>
   rw [bT (by show ¬ (c.aF.getD i aG.zero).bH=true; rw [hw]; decide)]
   exact b2 (zcr6 h hi)
 rw [bT (by simpa using k8)]
 by_cases k7:k.kind=7
 ·rw [bW (cF k7)]
  exact b2 (zcr6 h hi)
 ·rw [bT (by simpa using k7)]; exact ⟨_,rfl,same⟩
theorem zcs0 {c:bA} (h:CenV c) (k:bM):∃ x,zaq3 c k=some x∧(x.2.2=0→CenV x.1∧x.1.aC.map (·.aB)=c.aC.map (·.aB)):=by
 unfold zaq3
 rw [zbg2 h,Option.bind_some,bT (by decide)]
 unfold zj3
 rw [gdp (by have:=h.t.len; omega),gdp (by have:=h.len; omega),Option.bind_some]
 obtain ⟨x,e,hd⟩:=zdv5 h k
 show ∃ x,(zH6 k ⟨c,[]⟩).bind _=some x∧_
 rw [e,Option.bind_some]
 by_cases c0:x.1=0
 ·rw [bT (by simp [c0])]; exact ⟨_,rfl,fun _=>hd c0⟩
 ·rw [bW (by simp [c0])]; exact ⟨_,rfl,fun h=>absurd h c0⟩
theorem zcs1 {c:bA} (h:CenV c) (l:List bM) (hl:l.length≤100000):∃ x,zaq4 c l=some x∧CenV x∧x.aC.map (·.aB)=c.aC.map (·.aB):=by
 unfold zaq4
 obtain ⟨x,h1,h2⟩:=zq4 (body:=zaB2 l) (fun g=>∃ k:Nat,g.1=k∧k≤l.length∧CenV g.2∧g.2.aC.map (·.aB)=c.aC.map (·.aB)) (fun g=>l.length - g.1.toNat) (fun x=>CenV x∧x.aC.map (·.aB)=c.aC.map (·.aB))
  (fun g ⟨k,hk,hkl,hv,hc⟩=>by
   obtain ⟨g1,y⟩:=g
   simp only at hk hv hc
   subst hk
   unfold zaB2
   by_cases c:k < l.length
   ·left
    have h3:0≤(k:Int)∧(k:Int) < (l.length:Int):=by omega
    obtain ⟨x,e,hx⟩:=zcs0 hv (l.getD k bM.zero)
    simp only [h3.1,h3.2,cX,zk6,cC,cB,Int.toNat_natCast,zc6 k (show k < 4611686018427387904 by omega),e,Option.bind_some]
    by_cases c0:x.2.2=0
    ·rw [bW (cF c0)]
     exact ⟨_,rfl,⟨k+1,rfl,c,(hx c0).1,(hx c0).2.trans hc⟩,by simp only [Int.toNat_natCast]; omega⟩
    ·rw [bT (by simpa using c0)]
     exact ⟨_,rfl,⟨k+1,rfl,c,hv,hc⟩,by simp only [Int.toNat_natCast]; omega⟩
   ·right
    simp only [show ¬ (k:Int) < (l.length:Int) by omega,cK,bU,cA]
    exact ⟨_,rfl,hv,hc⟩) (0,c) ⟨0,rfl,by omega,h,rfl⟩
 rw [h1]; exact ⟨_,rfl,h2⟩
theorem zdn2 {l:List aI} (h:catV l=true):CenV ⟨0,l.map zan0,[]⟩:=by
 refine ⟨⟨iM _,by show (0:Int)≤1073741824; decide⟩,zbY7 h,eZ _,(fun x hx=>nomatch hx),.nil,fun p hp=>?_,fun x hx=>nomatch hx⟩
 obtain ⟨q,hq,hh⟩:=(zH9 (zbY7 h).each).1 hp
 obtain ⟨r,_,rfl⟩:=cH.1 hq
 rw [zbY6] at hh; cases hh
structure Adv (u u':bL):Prop where
 ok:TapeOk u'
 l:u'.l=u.l
 at_:u.at_≤u'.at_
theorem Adv.trans {a b c:bL} (h:Adv a b) (k:Adv b c):Adv a c:=⟨k.ok,k.l.trans h.l,Int.le_trans h.at_ k.at_⟩
theorem Adv.refl {a:bL} (h:TapeOk a):Adv a a:=⟨h,rfl,iM _⟩
theorem zbu2 {u:bL} (h:TapeOk u):Adv u (zO1 u):=⟨zaw5 h,zcF6 u,by
 unfold zO1
 split
 ·exact iM _
 ·show u.at_≤u.at_+1
  omega⟩
theorem zao3 {m:Int} (h1:1≤m) (h2:m≤1000000) {u:bL} (h:TapeOk u):∃ v u',zb7 m u=some (v,u')∧Adv u u'∧0≤v∧v < m:=by
 have:=zac4 m u h1
 exact ⟨_,_,zaX2 m u h h1 h2,zbu2 h,this.1,this.2⟩
theorem zcO8 {m:Int} (h1:1≤m) (h2:m≤1048576) {u:bL} (h:TapeOk u):∃ v u',zb7 m u=some (v,u')∧Adv u u':=by
 unfold zb7
 have hl:=h.len; have ha:=h.at_
 by_cases c:(u.l.length:Int)≤u.at_
 ·rw [bW (by simpa using c)]; exact ⟨_,_,rfl,Adv.refl h⟩
 ·rw [bT (by simpa using c)]
  have w1:IntKind.i64.wrap (u.at_+1)=u.at_+1:=zi0 (by omega) (by omega)
  have w2:IntKind.i64.wrap (u.at_+1 - 1)=u.at_:=by rw [zi0 (by omega) (by omega)]; omega
  simp only [w1,w2]
  rw [gdp (by omega)]
  have hm:∃ v,zl7 (u.l.getD u.at_.toNat 0) m=some v:=by
   unfold zl7
   rw [bT (by simp; omega),gdp (by omega)]
   split <;> exact ⟨_,rfl⟩
  obtain ⟨v,hv⟩:=hm
  rw [hv]
  exact ⟨_,_,rfl,⟨hl,by simp only; omega⟩,rfl,by simp only; omega⟩
theorem zbZ9 (atoms:List aM) (ha:1≤atoms.length) (hb:atoms.length≤1000):∀ (n:Nat) (d:Int),0≤d→d.toNat < n→d≤10→∀ u,TapeOk u→∃ e u',zP2 n atoms d u=some (e,u')∧Adv u u'
 | 0,_,_,h,_,_,_=>by omega
 | n+1,d,h0,hd,h10,u,hu=>by
  show ∃ e u',zZ6 (zP2 n) atoms d u=some (e,u')∧_
  unfold zZ6
  have first:∃ v u1,(if (!decide (d=0))=true then zb7 4 u else some (0,u))=some (v,u1)∧Adv u u1:=by
   split
   ·obtain ⟨v,u1,h1,h2,_⟩:=zao3 (m:=4) (by decide) (by decide) hu
    exact ⟨v,u1,h1,h2⟩
   ·exact ⟨0,u,rfl,Adv.refl hu⟩
  obtain ⟨v,u1,e1,a1⟩:=first
  rw [e1,Option.bind_some]
  by_cases c:((decide (d=0))||(decide (v=0)))=true
  ·rw [bW c]
   obtain ⟨v2,u2,e2,a2,r1,r2⟩:=zao3 (m:=(atoms.length:Int)) (by omega) (by omega) a1.ok
   rw [e2,Option.bind_some,gdp ⟨r1,r2⟩]
   exact ⟨_,_,rfl,a1.trans a2⟩
  ·rw [bT c]
   have hd1:1≤d:=by
    simp only [dG,bX,jQ] at c; omega
   obtain ⟨v3,u3,e3,a3,r1,r2⟩:=zao3 (m:=3) (by decide) (by decide) a1.ok
   rw [e3,Option.bind_some]
   have w3:IntKind.i64.wrap (1+v3)=1+v3:=zi0 (by omega) (by omega)
   simp only [w3]
   obtain ⟨v4,u4,e4,a4,r3,r4⟩:=zao3 (m:=1+v3) (by omega) (by omega) a3.ok
   rw [e4,Option.bind_some]
   have hA:=(a1.trans a3).trans a4
   obtain ⟨x,l1,l2⟩:=zq4 (body:=zaf8 (zP2 n) atoms d (v3,u3)) (fun g=>∃ k:Nat,g.1=k∧k≤4∧Adv u g.2.1∧g.2.2.bE.length≤k) (fun g=>4 - g.1.toNat) (fun x=>Adv u x.1)
    (fun g ⟨k,hk,hk4,hA,hkl⟩=>by
     obtain ⟨g1,t,e⟩:=g
     simp only at hk hA hkl
     subst hk
     unfold zaf8
     simp only [w3]
     by_cases ck:(k:Int) < 1+v3
     ·left
      rw [bW (by simpa using ck)]
      have wd:IntKind.i64.wrap (d - 1)=d - 1:=zi0 (by omega) (by omega)
      obtain ⟨e5,u5,e6,a6⟩:=zbZ9 atoms ha hb n (d - 1) (by omega) (by omega) (by omega) t hA.ok
      rw [wd,e6,Option.bind_some,gdp (by omega),zc6 k (by omega)]
      exact ⟨_,rfl,⟨k+1,rfl,by omega,hA.trans a6,by simp only [bZ,List.length_singleton]; omega⟩,by simp only [Int.toNat_natCast]; omega⟩
     ·right
      rw [bT (by simpa using ck)]
      exact ⟨_,rfl,hA⟩) (0,u4,(⟨(IntKind.i64.wrap (1+v4)),(⟨aM.zero.name,(⟨aM.zero.aN.mode,aM.zero.aN.aR⟩:aD)⟩:aM),[]⟩:aP)) ⟨0,rfl,by omega,hA,by simp⟩
   rw [l1,Option.bind_some]
   exact ⟨_,_,rfl,l2⟩
theorem zdd8 (l:List aI) (hl:1≤l.length) (hl2:l.length≤10) (hs:∀ r ∈ l,ze9 r=true) {u:bL} (hu:TapeOk u):∃ e u',zs9 l u=some (e,u')∧Adv u u':=by
 unfold zs9
 obtain ⟨v1,u1,e1,a1⟩:=zcO8 (m:=1048576) (by decide) (by decide) hu
 rw [e1,Option.bind_some]
 obtain ⟨x,l1,l2⟩:=zq4 (body:=zak6 l (v1,u1)) (fun g=>∃ k:Nat,g.1=k∧k≤l.length∧g.2.length=k) (fun g=>l.length - g.1.toNat) (fun x=>x.length=l.length)
  (fun g ⟨k,hk,hkl,hg⟩=>by
   obtain ⟨g1,s⟩:=g
   simp only at hk hg
   subst hk
   unfold zak6
   by_cases c:k < l.length
   ·left
    have h3:0≤(k:Int)∧(k:Int) < (l.length:Int):=by omega
    have w1:IntKind.i64.wrap (3 * (k:Int))=3 * (k:Int):=zi0 (by omega) (by omega)
    have w2:0≤IntKind.u64.wrap (3 * (k:Int)):=by
     unfold IntKind.wrap
     simp only [IntKind.signed,eP,bU,cA]
     exact fQ _ (by decide)
    simp only [h3.1,h3.2,cX,zk6,cC,cB,Int.toNat_natCast,zc6 k (show k < 4611686018427387904 by omega),w1]
    rw [gdp w2,zbO3 _ _ (hs _ (zd1 c)),Option.bind_some,gdp (by omega)]
    exact ⟨_,rfl,⟨k+1,rfl,c,by simp only [bZ,List.length_singleton]; omega⟩,by simp only [Int.toNat_natCast]; omega⟩
   ·right
    simp only [show ¬ (k:Int) < (l.length:Int) by omega,cK,bU,cA]
    exact ⟨_,rfl,by omega⟩) (0,[]) ⟨0,rfl,by omega,rfl⟩
 rw [l1,Option.bind_some]
 unfold zay6 zp4
 obtain ⟨e,u2,e2,a2⟩:=zbZ9 x (by omega) (by omega) ((2:Int).toNat+1) 2 (by decide) (by decide) (by decide) u1 a1.ok
 rw [e2]
 exact ⟨_,_,rfl,a1.trans a2⟩
theorem zdd9 (l:List aI) (hl:1≤l.length) (hl2:l.length≤10) (hs:∀ r ∈ l,ze9 r=true) {u:bL} (hu:TapeOk u):∃ e u',zv8 l u=some (e,u')∧Adv u u':=by
 unfold zv8
 obtain ⟨v1,u1,e1,a1,_⟩:=zao3 (m:=8) (by decide) (by decide) hu
 obtain ⟨v2,u2,e2,a2,_⟩:=zao3 (m:=5) (by decide) (by decide) a1.ok
 rw [e1,Option.bind_some,e2,Option.bind_some]
 have k1:∀ (t:bL) (r:bK),Adv u t→∃ e u',zI1 l (t,r)=some (e,u')∧Adv u u':=fun t r ht=>by
  unfold zI1
  obtain ⟨e,u3,e3,a3⟩:=zdd8 l hl hl2 hs ht.ok
  rw [e3]; exact ⟨_,_,rfl,ht.trans a3⟩
 split
 ·obtain ⟨v3,u3,e3,a3,_⟩:=zao3 (m:=20) (by decide) (by decide) a2.ok
  rw [e3,Option.bind_some]
  exact k1 _ _ ((a1.trans a2).trans a3)
 ·exact k1 _ _ (a1.trans a2)
theorem zcs2 (l:List aI) (hl:1≤l.length) (hl2:l.length≤10) (hs:∀ r ∈ l,ze9 r=true) {u:bL} (hu:TapeOk u):∃ e u',zB5 l u=some (e,u')∧Adv (zO1 u) u':=by
 unfold zB5
 rw [zaX2 16 u hu (by decide) (by decide),Option.bind_some]
 have a1:=zbu2 hu
 obtain ⟨v2,u2,e2,a2,_⟩:=zao3 (m:=6) (by decide) (by decide) a1.ok
 rw [e2,Option.bind_some,zbt4,Option.bind_some]
 have nx:∀ (m:Int),1≤m→m≤1000000→∃ v u3,zb7 m u2=some (v,u3)∧Adv (zO1 u) u3∧0≤v∧v < m:=fun m h1 h2=>by
  obtain ⟨v,u3,e3,a3,r⟩:=zao3 h1 h2 a2.ok
  exact ⟨v,u3,e3,a2.trans a3,r⟩
 split
 ·obtain ⟨v,u3,e3,a3,_⟩:=nx 9 (by decide) (by decide)
  rw [e3]; exact ⟨_,_,rfl,a3⟩
 split
 ·obtain ⟨e,u3,e3,a3⟩:=zdd9 l hl hl2 hs a2.ok
  rw [e3]; exact ⟨_,_,rfl,a2.trans a3⟩
 split
 ·exact ⟨_,_,rfl,a2⟩
 split
 ·obtain ⟨v,u3,e3,a3,r1,r2⟩:=nx (l.length:Int) (by omega) (by omega)
  rw [e3,Option.bind_some,gdp ⟨r1,r2⟩]; exact ⟨_,_,rfl,a3⟩
 split
 ·obtain ⟨v,u3,e3,a3,_⟩:=nx 4 (by decide) (by decide)
  rw [e3]; exact ⟨_,_,rfl,a3⟩
 split
 ·obtain ⟨v,u3,e3,a3,_⟩:=nx 5 (by decide) (by decide)
  rw [e3]; exact ⟨_,_,rfl,a3⟩
 split
 ·exact ⟨_,_,rfl,a2⟩
 split
 ·exact ⟨_,_,rfl,a2⟩
 ·obtain ⟨v,u3,e3,a3,_⟩:=nx 12 (by decide) (by decide)
  rw [e3]; exact ⟨_,_,rfl,a3⟩
theorem zca0:∀ (n:Nat) {u:bL},TapeOk u→Adv u (zaK6 n u)
 | 0,u,h=>Adv.refl h
 | n+1,u,h=>by
  have:=zca0 n (zaw5 h)
  exact (zbu2 h).trans this
theorem zcA8 {l:List Int} (hl:l.length≤300):∃ k,zM6 l=some (catL { bL.zero with l:=l },k)∧k.length≤1000:=by
 unfold zM6
 have h0:TapeOk { bL.zero with l:=l }:=⟨by simp only; omega,by show 0≤(0:Int)∧(0:Int)≤l.length; omega⟩
 rw [zcy0 _ h0,Option.bind_some]
 have hA:=zca0 8 h0
 have hsh:=zbC1 { bL.zero with l:=l }
 obtain ⟨x,l1,l2⟩:=zq4 (body:=zal6) (fun g=>∃ k:Nat,g.1=k∧k≤4∧Adv { bL.zero with l:=l } g.2.1∧g.2.2.length≤k) (fun g=>4 - g.1.toNat) (fun x=>Adv { bL.zero with l:=l } x.1∧x.2.length≤4)
  (fun g ⟨k,hk,hk4,hA,hkl⟩=>by
   obtain ⟨g1,t,s⟩:=g
   simp only at hk hA hkl
   subst hk
   unfold zal6
   by_cases ck:k < 4
   ·left
    rw [bW (by simp; omega),zbt4,Option.bind_some]
    obtain ⟨v,u,e,a,_⟩:=zao3 (m:=9) (by decide) (by decide) hA.ok
    simp only [e,Option.bind_some]
    rw [gdp (by omega),zc6 k (by omega)]
    exact ⟨_,rfl,⟨k+1,rfl,by omega,hA.trans a,by simp only [bZ,List.length_singleton]; omega⟩,by simp only [Int.toNat_natCast]; omega⟩
   ·right
    rw [bT (by simp; omega)]
    exact ⟨_,rfl,hA,by simp only; omega⟩) (0,zaK6 8 { bL.zero with l:=l },[]) ⟨0,rfl,by omega,hA,by simp⟩
 rw [l1,Option.bind_some]
 unfold zal5
 obtain ⟨t0,s0⟩:=x
 simp only at l2
 obtain ⟨y,m1,m2⟩:=zq4 (body:=zal4 (catL { bL.zero with l:=l },zaK6 8 { bL.zero with l:=l })) (fun g=>Adv { bL.zero with l:=l } g.1∧(g.2.length:Int)≤4+g.1.at_) (fun g=>l.length - g.1.at_.toNat) (fun y=>y.length≤1000)
  (fun g ⟨hA,hg⟩=>by
   obtain ⟨t,s⟩:=g
   simp only at hA hg
   have htl:t.l.length=l.length:=by rw [hA.l]
   have hta:=hA.ok.at_
   unfold zal4 ze7
   rw [Option.bind_some]
   by_cases c:t.at_ < (t.l.length:Int)
   ·left
    rw [bW (by simpa using c)]
    obtain ⟨e,u,e1,a1⟩:=zcs2 (catL { bL.zero with l:=l }) (by unfold catL; simp) (by unfold catL; simp) hsh hA.ok
    simp only [e1,Option.bind_some]
    rw [gdp (by omega)]
    have hn:(zO1 t).at_=t.at_+1:=by unfold zO1; rw [bT (by omega)]
    have:=a1.at_
    rw [hn] at this
    have hul:=a1.ok.at_
    have:u.l.length=l.length:=by rw [a1.l,zcF6,htl]
    exact ⟨_,rfl,⟨(hA.trans (zbu2 hA.ok)).trans a1,by simp only [bZ,List.length_singleton]; omega⟩,by simp only; omega⟩
   ·right
    rw [bT (by simpa using c)]
    exact ⟨_,rfl,by simp only; omega⟩) (t0,s0) ⟨l2.1,by have:=l2.2; have:=l2.1.ok.at_; simp only; omega⟩
 rw [m1,Option.bind_some]
 exact ⟨_,rfl,m2⟩
theorem zcs3 {l:List Int} (hl:l.length≤300):∃ c,zU0 l=some c∧CenV c∧c.aC.length=6:=by
 unfold zU0
 obtain ⟨k,h1,h2⟩:=zcA8 hl
 have hc:=zdc3 { bL.zero with l:=l }
 have hnew:newT (catL { bL.zero with l:=l })=((catL { bL.zero with l:=l }).map zan0,0):=by unfold newT; rw [bW hc]
 have hn:zai0 (catL { bL.zero with l:=l })=some (⟨0,(catL { bL.zero with l:=l }).map zan0,[]⟩,0):=by
  unfold zai0
  rw [zcf8,Option.bind_some,hnew]; rfl
 rw [h1,Option.bind_some]
 simp only [hn,Option.bind_some]
 obtain ⟨c,h4,h5,h6⟩:=zcs1 (zdn2 hc) k (by omega)
 rw [h4]
 refine ⟨c,rfl,h5,?_⟩
 have:=cQ List.length h6
 simp only [dD] at this
 rw [this]
 unfold catL; rfl
end Ab
end Go.Proofs.YtfkjffmjkbkmhaaGreatDoor
