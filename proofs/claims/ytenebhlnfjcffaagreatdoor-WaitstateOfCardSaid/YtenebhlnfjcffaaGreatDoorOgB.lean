import Derived.Test.YtenebhlnfjcffaaGreatDoorTabF
import Derived.Test.YtenebhlnfjcffaaGreatDoorStr
namespace Go.Proofs.YtenebhlnfjcffaaGreatDoor
namespace Ab
set_option linter.unusedVariables false
set_option linter.unusedSimpArgs false
def sayE (nm:ByteArray) (a:aA) (e:bB):aA:=if e.name=nm then e.after else a
def zt3 (l:List bB) (nm:ByteArray):aA:=l.foldl (sayE nm) aA.zero
theorem zD4 {α:Type} {l:List α} {i:Nat} (z:α) (h:i < l.length):l.take (i+1)=l.take i++[l.getD i z]:=by
 rw [List.take_add_one,bX h,bU,bX h]; rfl
theorem zao7 (l:List bB) (e:bB) (nm:ByteArray):zt3 (l++[e]) nm=if e.name=nm then e.after else zt3 l nm:=by
 unfold zt3; rw [List.foldl_append]; rfl
theorem zJ9 (a b:ByteArray):(a.toList == b.toList)=decide (a=b):=by
 by_cases h:a=b
 ·simp [h]
 ·rw [eD h]
  cases hb:a.toList == b.toList with
  | false=>rfl
  | true=>exact absurd (zab7.1 (cY.1 hb)) h
theorem zaC3 (l:List bB) (nm:ByteArray) (hl:l.length≤1000000):zj1 l nm=some (zt3 l nm):=by
 unfold zj1
 obtain ⟨x,h1,h2⟩:=zv4 (body:=zaf1 l nm) (fun g=>∃ i:Nat,g.1=i∧i≤l.length∧g.2=zt3 (l.take i) nm) (fun g=>l.length - g.1.toNat) (fun x=>x=zt3 l nm)
  (fun g ⟨i,hi,hle,hg⟩=>by
   obtain ⟨g1,g2⟩:=g
   simp only at hi hg
   subst hi
   unfold zaf1
   by_cases c:i < l.length
   ·left
    have h3:0≤(i:Int)∧(i:Int) < (l.length:Int):=by omega
    simp only [h3.1,h3.2,cQ,zk1,cB,bZ,Int.toNat_natCast,zJ9,bV,zd4 i (show i < 4611686018427387904 by omega)]
    refine ⟨((i+1:Nat),zt3 (l.take (i+1)) nm),?_,⟨i+1,rfl,c,rfl⟩,by simp only [Int.toNat_natCast]; omega⟩
    rw [zD4 bB.zero c,zao7]
    by_cases e:(l.getD i bB.zero).name=nm
    ·rw [bY e,bY e]
    ·rw [bW e,bW e,hg]
   ·right
    have e:i=l.length:=by omega
    refine ⟨g2,?_,by rw [hg,e,dW]⟩
    simp only [show ¬ (i:Int) < (l.length:Int) by omega,cL,bT,cA]) (0,aA.zero) ⟨0,rfl,by omega,rfl⟩
 rw [h1,Option.bind_some,h2]; rfl
def zbw7 (nm:ByteArray) (s:List ByteArray):Bool:=s.any fun n=>decide (n=nm)
theorem zbF7 {nm:ByteArray} {s:List ByteArray}:zbw7 nm s=true ↔ nm ∈ s:=by
 unfold zbw7; rw [jT]
 exact ⟨fun ⟨n,h1,h2⟩=>fQ h2 ▸ h1,fun h=>⟨nm,h,by simp⟩⟩
theorem zcp5 (l:List bB) (i:Nat) (hi:i < l.length) (s:List ByteArray) (hl:s.length≤1000000) (v:Int×List ByteArray) (hv:v=((i:Int),s)) :
  zc6 (zS8 l v) (false,0)=some (zbw7 (l.getD i bB.zero).name s):=by
 subst hv
 obtain ⟨x,h1,h2⟩:=zv4 (body:=zS8 l ((i:Int),s)) (fun g=>∃ k:Nat,g.2=k∧k≤s.length∧g.1=zbw7 (l.getD i bB.zero).name (s.take k)) (fun g=>s.length - g.2.toNat) (fun x=>x=zbw7 (l.getD i bB.zero).name s)
  (fun g ⟨k,hk,hle,hg⟩=>by
   obtain ⟨g1,g2⟩:=g
   simp only at hk hg
   subst hk
   unfold zS8
   by_cases c:k < s.length
   ·left
    have h3:0≤(k:Int)∧(k:Int) < (s.length:Int):=by omega
    have h4:0≤(i:Int)∧(i:Int) < (l.length:Int):=by omega
    simp only [h3.1,h3.2,h4.1,h4.2,cQ,dU,zk1,cB,bZ,Int.toNat_natCast,zJ9,zd4 k (show k < 4611686018427387904 by omega)]
    refine ⟨_,rfl,⟨k+1,rfl,c,?_⟩,by simp only [Int.toNat_natCast]; omega⟩
    rw [zD4 (⟨#[]⟩:ByteArray) c,hg]
    simp only [zbw7,List.any_append,List.any_cons,List.any_nil,jB]
   ·right
    have e:k=s.length:=by omega
    refine ⟨g1,?_,by rw [hg,e,dW]⟩
    simp only [show ¬ (k:Int) < (s.length:Int) by omega,cL,bT,cA]) (false,0) ⟨0,rfl,by omega,by simp [zbw7]⟩
 rw [h1,h2]
theorem zbU0:∀ {x y:List UInt8},Op.bytesLess x y=false→x=y∨Op.bytesLess y x=true
 | [],[],_=>.inl rfl
 | [],_ :: _,h=>by simp [Op.bytesLess] at h
 | _ :: _,[],_=>.inr (by simp [Op.bytesLess])
 | a :: x,b :: y,h=>by
  simp only [Op.bytesLess,fZ,gR,cG,beq_eq_false_iff_ne,ne_eq] at h
  simp only [Op.bytesLess,dK,bS,bV,cY]
  obtain ⟨h1,h2⟩:=h
  rcases h2 with h2|h2
  ·exact .inr (.inl (Nat.lt_of_le_of_ne (Nat.le_of_not_lt h1) fun e=>h2 (UInt8.toNat_inj.1 e.symm)))
  ·by_cases e:a=b
   ·subst e
    rcases zbU0 h2 with k|k
    ·exact .inl (by rw [k])
    ·exact .inr (.inr ⟨rfl,k⟩)
   ·exact .inr (.inl (Nat.lt_of_le_of_ne (Nat.le_of_not_lt h1) fun k=>e (UInt8.toNat_inj.1 k.symm)))
theorem zcp6 {a b:ByteArray} (h:¬ ltN a b) (ne:a≠b):ltN b a:=by
 unfold ltN at *
 rcases zbU0 (dD.2 h) with k|k
 ·exact absurd (zab7.1 k) ne
 ·exact k
theorem zbU1 {α:Type} (P B:List α) (x z:α):(P++x :: B).getD P.length z=x:=by
 rw [bU,eR (cS _),gF]; rfl
theorem zbK7 {α:Type} (P B:List α) (x z:α):(P++x :: B).set P.length z=P++z :: B:=by
 rw [gQ _ _ (cS _),gF]; rfl
theorem zcc1 {A:List ByteArray} {x:ByteArray} (h:A.Pairwise ltN) (hx:x ∉ A) (hl:A.length≤1000000) :
  ∃ y,zc6 zS6 ((A.length:Int),A++[x])=some y∧y.Perm (x :: A)∧y.Pairwise ltN:=by
 refine zv4 (body:=zS6) (fun g=>∃ P B:List ByteArray,g.1=P.length∧g.2=P++x :: B∧(∀ b ∈ B,ltN x b)∧P++B=A) (fun g=>g.1.toNat) (fun y=>y.Perm (x :: A)∧y.Pairwise ltN) ?_ _ ⟨A,[],rfl,rfl,(fun b hb=>nomatch hb),eN A⟩
 rintro ⟨i,l⟩ ⟨P,B,h1,h2,h3,h4⟩
 simp only at h1 h2
 subst h1; subst h2
 have hlen:P.length+B.length=A.length:=by rw [← h4,cI]
 have hA:=h; rw [← h4] at hA
 unfold zS6
 rcases iU P with rfl|⟨Q,y,rfl⟩
 ·right
  refine ⟨x :: B,?_,?_,dA.2 ⟨h3,hA⟩⟩
  ·simp only [List.length_nil,Int.cast_ofNat_Int,fV,cL,bT,iG,zk1,eT,cA,List.nil_append]
  ·rw [← h4]; exact .refl _
 ·simp only [List.concat_eq_append] at hlen h4 hA ⊢
  simp only [cI,List.length_singleton] at hlen ⊢
  have e1:IntKind.i64.wrap (((Q.length+1:Nat):Int) - 1)=(Q.length:Int):=by rw [zo7 (by omega) (by omega)]; omega
  have ex:(Q++[y]++x :: B).getD (Q.length+1) ⟨#[]⟩=x:=by have:=zbU1 (Q++[y]) B x ⟨#[]⟩; rwa [cI,List.length_singleton] at this
  have ey:(Q++[y]++x :: B).getD Q.length ⟨#[]⟩=y:=by rw [dI]; exact zbU1 Q (x :: B) y _
  have hyx:x≠y:=fun e=>hx (by rw [← h4,e]; simp)
  rw [e1,show ((Q.length+1:Nat):Int).toNat=Q.length+1 from Int.toNat_natCast _,show ((Q.length:Nat):Int).toNat=Q.length from Int.toNat_natCast _,ex,ey]
  have hg:(0:Int)≤((Q.length+1:Nat):Int)∧((Q.length+1:Nat):Int) < ((Q.length+1+(x :: B).length:Nat):Int):=by rw [List.length_cons]; omega
  have hg2:(0:Int)≤(Q.length:Int)∧(Q.length:Int) < ((Q.length+1+(x :: B).length:Nat):Int):=by rw [List.length_cons]; omega
  simp only [hg.1,hg.2,hg2.1,hg2.2,cQ,dU,zk1,show (0:Int) < ((Q.length+1:Nat):Int) by omega,cB,cF]
  by_cases c:ltN x y
  ·left
   rw [bY (show Op.bytesLess x.toList y.toList=true from c)]
   refine ⟨_,rfl,⟨Q,y :: B,rfl,?_,fun b hb=>?_,by rw [← h4,dI]; rfl⟩,by simp only; omega⟩
   ·show ((Q++[y]++x :: B).set (Q.length+1) y).set Q.length x=_
    have s1:=zbK7 (Q++[y]) B x y
    rw [cI,List.length_singleton] at s1
    rw [s1,dI]
    exact zbK7 Q (y :: B) y x
   ·rcases cE.1 hb with rfl|hb
    ·exact c
    ·exact h3 b hb
  ·right
   rw [bW (show ¬ Op.bytesLess x.toList y.toList=true from c)]
   refine ⟨_,rfl,?_,?_⟩
   ·rw [← h4]; exact List.perm_middle
   ·have hyl:=zcp6 c hyx
    have hp:=eH.1 hA
    refine eH.2 ⟨hp.1,dA.2 ⟨h3,hp.2.1⟩,fun a ha b hb=>?_⟩
    have hax:ltN a x:=by
     rcases dF.1 ha with ha|ha
     ·exact zau9 ((eH.1 hp.1).2.2 a ha y (by simp)) hyl
     ·rw [eJ.1 ha]; exact hyl
    rcases cE.1 hb with rfl|hb
    ·exact hax
    ·exact zau9 hax (h3 b hb)
theorem zas9 (l:List bB) (hl:l.length≤1000000):∃ ns,zh5 l=some ns∧ns.Pairwise ltN∧∀ n,n ∈ ns ↔ ∃ e ∈ l,e.name=n:=by
 unfold zh5
 obtain ⟨x,h1,h2⟩:=zv4 (body:=zS9 l) (fun g=>∃ i:Nat,g.1=i∧i≤l.length∧g.2.length≤i∧g.2.Pairwise ltN∧∀ n,n ∈ g.2 ↔ ∃ e ∈ l.take i,e.name=n) (fun g=>l.length - g.1.toNat)
  (fun x=>x.Pairwise ltN∧∀ n,n ∈ x ↔ ∃ e ∈ l,e.name=n)
  (fun g ⟨i,hi,hle,hlen,hasc,hg⟩=>by
   obtain ⟨g1,g2⟩:=g
   simp only at hi hlen hg hasc
   subst hi
   unfold zS9
   by_cases c:i < l.length
   ·left
    have h3:0≤(i:Int)∧(i:Int) < (l.length:Int):=by omega
    simp only [h3.2,cB,bZ]
    rw [zcp5 l i c g2 (by omega) _ rfl,Option.bind_some]
    unfold zS7
    have hmem:∀ n,(∃ e ∈ l.take (i+1),e.name=n) ↔ n ∈ g2∨n=(l.getD i bB.zero).name:=fun n=>by
     rw [zD4 bB.zero c,hg]
     simp only [dF,eJ,or_and_right,exists_or,exists_eq_left]
     exact or_congr jW ⟨Eq.symm,Eq.symm⟩
    by_cases hs:(l.getD i bB.zero).name ∈ g2
    ·rw [bY (zbF7.2 hs)]
     refine ⟨_,by rw [zd4 i (by omega)],⟨i+1,rfl,c,by simp only; omega,hasc,fun n=>?_⟩,by simp only [Int.toNat_natCast]; omega⟩
     rw [hmem]
     exact ⟨Or.inl,fun h=>h.elim id fun h=>h ▸ hs⟩
    ·rw [bW (fun h=>hs (zbF7.1 h)),gdp h3,gdp (by simp only; omega)]
     obtain ⟨y,e1,e2,e3⟩:=zcc1 hasc hs (by omega)
     rw [show IntKind.i64.wrap (((g2.length+1:Nat):Int) - 1)=(g2.length:Int) by rw [zo7 (by omega) (by omega)]; omega,show (i:Int).toNat=i from Int.toNat_natCast i,e1,Option.bind_some]
     unfold zan1
     refine ⟨_,by rw [zd4 i (by omega)],⟨i+1,rfl,c,by have:=e2.length_eq; simp only [List.length_cons] at this; simp only; omega,e3,fun n=>?_⟩,by simp only [Int.toNat_natCast]; omega⟩
     rw [hmem,e2.mem_iff,cE]
     exact or_comm
   ·right
    have e:i=l.length:=by omega
    refine ⟨g2,?_,hasc,fun n=>by rw [hg,e,dW]⟩
    simp only [show ¬ (i:Int) < (l.length:Int) by omega,cL,bT,cA]) (0,[]) ⟨0,rfl,by omega,by simp,.nil,fun n=>by simp⟩
 exact ⟨x,by rw [h1,Option.bind_some]; rfl,h2⟩
theorem zay1 (a:aA):zq0 a=true ↔ (1≤a.mode∧a.mode≤5∧a.aP=0)∨(a.mode=0∧1≤a.aP∧a.aP≤8):=by
 unfold zq0 zx8
 simp only [dK,bS,bV]
 omega
def rkM (m:Int):Nat:=if m=5 then 4 else if m=4 then 3 else if m=1 then 1 else 2
def rkA (a:aA):Nat:=if a.mode=0 then a.aP.toNat else rkM a.mode
theorem zcD7 {a b:aA} (h:zE2 a b=true):rkA a < rkA b∧rkA b≤8:=by
 unfold zE2 at h
 by_cases h1:((!(zq0 b))||(decide (a=b)))=true
 ·rw [bY h1] at h; cases h
 ·rw [bW h1] at h
  simp only [dK,cN,bV,kC,gC] at h1
  obtain ⟨ub,ne⟩:=h1
  have ub:=(zay1 b).1 ub
  have hb:rkA b≤8:=by
   unfold rkA rkM
   repeat' split
   all_goals omega
  refine ⟨?_,hb⟩
  by_cases h2:a=({ aA.zero with }:aA)
  ·subst h2
   show rkA aA.zero < rkA b
   unfold rkA rkM
   simp only [aA.zero,bZ]
   repeat' split
   all_goals omega
  ·rw [bW (by simpa using h2)] at h
   by_cases h3:(!(zq0 a))=true
   ·rw [bY h3] at h; cases h
   ·rw [bW h3] at h
    have ua:=(zay1 a).1 (by simpa using h3)
    by_cases ma:a.mode=0
    ·rw [bW (by simp [ma])] at h
     have h:=fQ h
     unfold rkA
     rw [bY ma,bY (by omega)]
     omega
    ·rw [bY (by simp [ma])] at h
     have hc:=(zbt2 b.mode a.mode).1 h
     have hm:a.mode≠b.mode:=fun e=>ne (by
      cases a; cases b
      simp only at e ua ub ma ⊢
      subst e
      congr 1
      omega)
     unfold rkA rkM
     rw [bW ma,bW (by omega)]
     repeat' split
     all_goals omega
def rkN (l:List bB):List ByteArray→Nat
 | []=>0
 | n :: ns=>rkA (zt3 l n)+rkN l ns
theorem zbU2 (l:List bB) (e:bB):∀ ns:List ByteArray,e.name ∉ ns→rkN (l++[e]) ns=rkN l ns
 | [],_=>rfl
 | n :: ns,h=>by
  have h1:e.name≠n:=fun h2=>h (by rw [h2]; exact .head _)
  have h3:=zbU2 l e ns fun h2=>h (.tail _ h2)
  simp only [rkN,zao7,bW h1,h3]
theorem zbU3 (l:List bB) (e:bB) (hg:rkA (zt3 l e.name) < rkA e.after):∀ ns:List ByteArray,ns.Nodup→e.name ∈ ns→rkN l ns < rkN (l++[e]) ns
 | [],_,h=>nomatch h
 | n :: ns,hn,h=>by
  have hc:=iJ.1 hn
  by_cases c:e.name=n
  ·have h1:=zbU2 l e ns (by rw [c]; exact hc.1)
   simp only [rkN,zao7,bY c,h1]
   rw [c] at hg; omega
  ·have h1:=zbU3 l e hg ns hc.2 ((cE.1 h).resolve_left c)
   simp only [rkN,zao7,bW c]; omega
theorem zcD8 (l:List bB) (h:∀ n,rkA (zt3 l n)≤8):∀ ns:List ByteArray,rkN l ns≤8 * ns.length
 | []=>cS _
 | n :: ns=>by
  have:=zcD8 l h ns
  have:=h n
  simp only [rkN,List.length_cons]; omega
theorem zD8 {α:Type} {l:List α} {z x:α} (h:x ∈ l):∃ i,i < l.length∧l.getD i z=x:=by
 obtain ⟨i,hi,e⟩:=eV.1 h
 exact ⟨i,hi,by rw [bU,bX hi]; exact e⟩
theorem zcp7 (l:List bI) (x:Int) (hl:l.length≤1000000):∃ v,zk4 l x=some v∧(v=-1∧(∀ s ∈ l,s.label≠x)∨∃ i:Nat,v=i∧i < l.length∧(l.getD i bI.zero).label=x∧∀ j,j < i→(l.getD j bI.zero).label≠x):=by
 unfold zk4
 rw [zav0 l bI.zero (fun a=>decide (a.label=x)) (fun i hi=>by
  unfold zaf4
  have h3:0≤(i:Int)∧(i:Int) < (l.length:Int):=by omega
  simp only [h3.1,h3.2,cQ,zk1,cB,bZ,Int.toNat_natCast,zd4 i (show i < 4611686018427387904 by omega)]
  split <;> rfl) (by unfold zaf4; simp)]
 have gg:∀ k,(hk:k < l.length)→l.getD k bI.zero=l[k]:=fun k hk=>by rw [bU,bX hk]; rfl
 cases h:l.findIdx? fun a=>decide (a.label=x) with
 | none =>
  refine ⟨-1,rfl,.inl ⟨rfl,fun s hs e=>?_⟩⟩
  have:=eY.1 h s hs
  simp [e] at this
 | some i =>
  obtain ⟨h1,h2,h3⟩:=eA.1 h
  refine ⟨i,rfl,.inr ⟨i,rfl,h1,by rw [gg i h1]; exact fQ h2,fun j hj e=>?_⟩⟩
  rw [gg j (by omega)] at e
  exact absurd (cR e) (h3 j hj)
def zaP2 (l:bC) (i:Nat):Prop:=1≤(l.bE.getD i bI.zero).label∧(l.bE.getD i bI.zero).label≤99∧0≤(l.bE.getD i bI.zero).at_∧(l.bE.getD i bI.zero).at_≤(l.aJ.length:Int) ∧
 (0 < i→(l.bE.getD (i - 1) bI.zero).at_≤(l.bE.getD i bI.zero).at_)∧∀ j,j < i→(l.bE.getD j bI.zero).label≠(l.bE.getD i bI.zero).label
def EntV (l:List bB) (i:Nat):Prop:=zJ8 (l.getD i bB.zero).name=true∧(l.getD i bB.zero).before=zt3 (l.take i) (l.getD i bB.zero).name∧zE2 (l.getD i bB.zero).before (l.getD i bB.zero).after=true
structure LedgerP (l:bC):Prop where
 le:l.aJ.length≤72
 ls:l.bE.length≤4
 ent:∀ i,i < l.aJ.length→EntV l.aJ i
 n8:∀ ns:List ByteArray,ns.Nodup→(∀ n ∈ ns,∃ e ∈ l.aJ,e.name=n)→ns.length≤8
 sv:∀ i,i < l.bE.length→zaP2 l i
theorem zL6 {body:Int→Option (Int⊕(Unit⊕Bool))} (n:Nat) (P:Nat→Prop) (h:∀ i:Nat,i < n→∃ b:Bool,body (i:Int)=some (if b=true then .inl ((i+1:Nat):Int) else .inr (.inr false))∧(b=true ↔ P i)) (he:body (n:Int)=some (.inr (.inl ()))) :
  zc6 body 0=some (.inr false)∧(¬ ∀ i,i < n→P i)∨zc6 body 0=some (.inl ())∧∀ i,i < n→P i:=by
 obtain ⟨x,h1,h2⟩:=zv4 (body:=body) (fun g=>∃ i:Nat,g=i∧i≤n∧∀ k,k < i→P k) (fun g=>n - g.toNat) (fun x=>x=.inr false∧(¬ ∀ i,i < n→P i)∨x=.inl ()∧∀ i,i < n→P i)
  (fun g ⟨i,hi,hle,hg⟩=>by
   subst hi
   by_cases c:i < n
   ·obtain ⟨b,hb,hp⟩:=h i c
    cases b with
    | false=>exact .inr ⟨_,hb,.inl ⟨rfl,fun hall=>by have:=hp.2 (hall i c); cases this⟩⟩
    | true=>exact .inl ⟨_,hb,⟨i+1,rfl,c,fun k hk=>by
      rcases fX k i with h5|h5
      ·exact hg k h5
      ·have:k=i:=by omega
       subst this; exact hp.1 rfl⟩,by simp only [Int.toNat_natCast]; omega⟩
   ·have:i=n:=by omega
    subst this
    exact .inr ⟨_,he,.inr ⟨rfl,hg⟩⟩) 0 ⟨0,rfl,by omega,fun k hk=>by omega⟩
 rcases h2 with ⟨rfl,h2⟩|⟨rfl,h2⟩
 ·exact .inl ⟨h1,h2⟩
 ·exact .inr ⟨h1,h2⟩
theorem zaS2 (l:bC) (hl:l.bE.length≤4) (i:Nat) (c:i < l.bE.length):∃ b:Bool,zT4 l (i:Int)=some (if b=true then .inl ((i+1:Nat):Int) else .inr (.inr false))∧(b=true ↔ zaP2 l i):=by
 unfold zT4
 have h3:0≤(i:Int)∧(i:Int) < (l.bE.length:Int):=by omega
 simp only [h3.1,h3.2,cQ,zk1,cB,bZ,Int.toNat_natCast]
 rw [gdp (by
  intro h
  simp only [bS,bV] at h
  have:=h.2
  rw [zo7 (by omega) (by omega)]; omega)]
 obtain ⟨v,hv,hv2⟩:=zcp7 l.bE ((l.bE.getD i bI.zero).label) (by omega)
 obtain ⟨A,hA0,hA⟩:∃ A:Bool,(((((decide ((l.bE.getD i bI.zero).label < 1))||(decide (99 < (l.bE.getD i bI.zero).label)))||(decide ((l.bE.getD i bI.zero).at_ < 0)))||(decide ((l.aJ.length:Int) < (l.bE.getD i bI.zero).at_)))||((decide (0 < (i:Int)))&&(decide ((l.bE.getD i bI.zero).at_ < (l.bE.getD ((IntKind.i64.wrap ((i:Int) - 1)).toNat) bI.zero).at_))))=A∧(A=false ↔ 1≤(l.bE.getD i bI.zero).label∧(l.bE.getD i bI.zero).label≤99∧0≤(l.bE.getD i bI.zero).at_∧(l.bE.getD i bI.zero).at_≤(l.aJ.length:Int)∧(0 < i→(l.bE.getD (i - 1) bI.zero).at_≤(l.bE.getD i bI.zero).at_)):=by
  refine ⟨_,rfl,?_⟩
  simp only [fZ,gR,cG]
  by_cases c0:0 < i
  ·rw [zad4 i (by omega) c0,Int.toNat_natCast]
   constructor
   ·rintro ⟨⟨⟨⟨a1,a2⟩,a3⟩,a4⟩,a5⟩
    exact ⟨by omega,by omega,by omega,by omega,fun _=>by rcases a5 with a5|a5 <;> omega⟩
   ·rintro ⟨a1,a2,a3,a4,a5⟩
    exact ⟨⟨⟨⟨by omega,by omega⟩,by omega⟩,by omega⟩,.inr (by have:=a5 c0; omega)⟩
  ·constructor
   ·rintro ⟨⟨⟨⟨a1,a2⟩,a3⟩,a4⟩,a5⟩
    exact ⟨by omega,by omega,by omega,by omega,fun h=>absurd h c0⟩
   ·rintro ⟨a1,a2,a3,a4,a5⟩
    exact ⟨⟨⟨⟨by omega,by omega⟩,by omega⟩,by omega⟩,.inl (by omega)⟩
 simp only [hA0]
 cases A with
 | true=>exact ⟨false,rfl,(fun h=>nomatch h),fun h=>(hA.2 ⟨h.1,h.2.1,h.2.2.1,h.2.2.2.1,h.2.2.2.2.1⟩).symm⟩
 | false =>
  have hs:=hA.1 rfl
  simp only [cX,bZ,hv,Option.bind_some,dB]
  rcases hv2 with ⟨rfl,hn⟩|⟨k,rfl,hk,hkl,hkm⟩
  ·exact absurd rfl (hn _ (zs3 c))
  ·by_cases e:k=i
   ·subst e
    refine ⟨true,by simp [zd4 k (show k < 4611686018427387904 by omega)],fun _=>⟨hs.1,hs.2.1,hs.2.2.1,hs.2.2.2.1,hs.2.2.2.2,hkm⟩,fun _=>rfl⟩
   ·refine ⟨false,by simp; omega,(fun h=>nomatch h),fun h=>?_⟩
    rcases fX k i with h5|h5
    ·exact absurd hkl (h.2.2.2.2.2 k h5)
    ·exact absurd rfl (hkm i (by omega))
theorem zaS3 (l:bC) (hl:l.aJ.length≤72) (i:Nat) (c:i < l.aJ.length):∃ b:Bool,zT6 l (i:Int)=some (if b=true then .inl ((i+1:Nat):Int) else .inr (.inr false))∧(b=true ↔ EntV l.aJ i):=by
 unfold zT6 EntV
 have h3:0≤(i:Int)∧(i:Int) < (l.aJ.length:Int):=by omega
 simp only [h3.1,h3.2,cQ,zk1,cB,bZ,Int.toNat_natCast]
 rw [zap5,Option.bind_some,gdp (fun _=>by simp <;> omega),zaC3 _ _ (by simp; omega)]
 cases hn:zJ8 (l.aJ.getD i bB.zero).name with
 | false=>exact ⟨false,by simp,by simp⟩
 | true =>
  simp only [bZ,Option.bind_some,cP,dB,fC]
  by_cases e1:(l.aJ.getD i bB.zero).before=zt3 (l.aJ.take i) (l.aJ.getD i bB.zero).name
  ·have hd:decide ((l.aJ.getD i bB.zero).before=zt3 (l.aJ.take i) (l.aJ.getD i bB.zero).name)=true:=cR e1
   cases e2:zE2 (l.aJ.getD i bB.zero).before (l.aJ.getD i bB.zero).after with
   | false=>exact ⟨false,by simp only [cX,jF,bZ,bT,cA],(fun h=>nomatch h),fun h=>h.2.symm ▸ rfl⟩
   | true=>exact ⟨true,by simp only [hd,cP,eZ,bT,cA,bZ,zd4 i (show i < 4611686018427387904 by omega)],fun _=>⟨e1,rfl⟩,fun _=>rfl⟩
  ·have hd:decide ((l.aJ.getD i bB.zero).before=zt3 (l.aJ.take i) (l.aJ.getD i bB.zero).name)=false:=eD e1
   exact ⟨false,by simp only [hd,cX,fW,bZ,bT,cA],(fun h=>nomatch h),fun h=>absurd h.1 e1⟩
theorem zbw8 (l:List bB) (hl:l.length≤1000000):∃ ns,zh5 l=some ns∧ns.length≤l.length∧∀ n,n ∈ ns ↔ ∃ e ∈ l,e.name=n:=by
 obtain ⟨ns,h1,h2,h3⟩:=zas9 l hl
 refine ⟨ns,h1,?_,h3⟩
 have:=dZ (h2.imp zaH1) (l₂:=l.map (·.name)) fun n hn=>by
  obtain ⟨e,he,hn⟩:=(h3 n).1 hn
  exact cV.2 ⟨e,he,hn⟩
 simpa using this
theorem zbw9 (l:bC):∃ b,zp8 l=some b∧(b=true ↔ LedgerP l):=by
 unfold zp8
 by_cases c:l.aJ.length≤72∧l.bE.length≤4
 ·rw [bW (by simp; omega)]
  rcases zL6 l.aJ.length _ (fun i hi=>zaS3 l c.1 i hi) (by unfold zT6; simp) with ⟨h1,h2⟩|⟨h1,h2⟩
  ·exact ⟨false,by rw [h1]; rfl,(fun h=>nomatch h),fun h=>absurd h.ent h2⟩
  ·rw [h1,Option.bind_some]
   show ∃ b,zT5 l ()=some b∧_
   unfold zT5
   obtain ⟨ns,e1,e2,e3⟩:=zas9 l.aJ (by omega)
   have nd:=e2.imp (S:=(·≠·)) zaH1
   rw [e1,Option.bind_some]
   by_cases c8:(8:Int) < ns.length
   ·exact ⟨false,by rw [bY (by simpa using c8)],(fun h=>nomatch h),fun h=>by have:=h.n8 ns nd fun n hn=>(e3 n).1 hn; omega⟩
   ·rw [bW (by simpa using c8)]
    rcases zL6 l.bE.length _ (fun i hi=>zaS2 l c.2 i hi) (by unfold zT4; simp) with ⟨h3,h4⟩|⟨h3,h4⟩
    ·exact ⟨false,by rw [h3]; rfl,(fun h=>nomatch h),fun h=>absurd h.sv h4⟩
    ·refine ⟨true,by rw [h3]; rfl,fun _=>⟨c.1,c.2,h2,fun ms hm hs=>?_,h4⟩,fun _=>rfl⟩
     have:=dZ hm (l₂:=ns) fun n hn=>(e3 n).2 (hs n hn)
     omega
 ·exact ⟨false,by rw [bY (by simp; omega)],(fun h=>nomatch h),fun h=>absurd ⟨h.le,h.ls⟩ c⟩
theorem zcD9 {l:List bB} (h:∀ i,i < l.length→EntV l i) {ns:List ByteArray} (hn:ns.Nodup) (h8:ns.length≤8) (hs:∀ e ∈ l,e.name ∈ ns):l.length≤64:=by
 have key:∀ i,i≤l.length→i≤rkN (l.take i) ns∧∀ n,rkA (zt3 (l.take i) n)≤8:=by
  intro i
  induction i with
  | zero=>intro _; exact ⟨fF _,fun n=>by show rkA aA.zero≤8; decide⟩
  | succ i ih =>
   intro hi
   obtain ⟨h1,h2⟩:=ih (by omega)
   obtain ⟨_,h4,h5⟩:=h i hi
   have h6:=zcD7 h5
   rw [h4] at h6
   rw [zD4 bB.zero hi]
   refine ⟨?_,fun n=>?_⟩
   ·have:=zbU3 (l.take i) (l.getD i bB.zero) h6.1 ns hn (hs _ (zs3 hi))
    omega
   ·rw [zao7]
    split
    ·exact h6.2
    ·exact h2 n
 obtain ⟨h1,h2⟩:=key l.length (cS _)
 have:=zcD8 _ h2 ns
 omega
theorem zbU4 {α:Type} {P:List α→Prop} (h0:P []) (h1:∀ l a,P l→P (l++[a])) (l:List α):P l:=by
 rw [← List.reverse_reverse l]
 generalize l.reverse=m
 induction m with
 | nil=>exact h0
 | cons a m ih=>rw [List.reverse_cons]; exact h1 _ _ ih
theorem zcc2:∀ {l:List aG} {k:aG},okL l=true→k ∈ l→okE k=true
 | x :: l,k,h,hk=>by
  simp only [okL,bS] at h
  rcases cE.1 hk with rfl|hk
  ·exact h.1
  ·exact zcc2 h.2 hk
theorem zcc3 {e:aG} (h:vE e=true):okE e=true∧fitE e=true:=by
 unfold vE at h
 rw [bS] at h
 refine ⟨?_,h.1⟩
 have h2:=h.2
 unfold zX3 at h2
 split at h2
 ·assumption
 ·cases h2
theorem zbx0 {α β:Type} {o:Option α} {f:α→β} {b:β} (h:(o.bind fun v=>some (f v))=some b):∃ v,o=some v∧f v=b:=by
 cases o with
 | none=>cases h
 | some v=>exact ⟨v,rfl,dG h⟩
theorem zay2 (e:aG):∃ v,zl4 e=some v∧v.2=vE e:=by
 have h:=zay0 e
 unfold zy7 at h
 exact zbx0 h
theorem zaP3 {e:aG} {v:List aD×Bool} (h:zl4 e=some v):v.1.length≤8:=by
 unfold zl4 at h
 obtain ⟨v1,h1,h⟩:=zn1 h
 by_cases c:v1=0
 ·rw [bY (by simpa using c)] at h; cases h; simp
 rw [bW (by simpa using c)] at h
 obtain ⟨v2,h2,h⟩:=zn1 h
 cases v2 with
 | inl v2=>cases h; simp
 | inr v2 =>
  simp only at h
  by_cases c2:((!v2.2)||(decide (8 < (v2.1.length:Int))))=true
  ·rw [bY c2] at h; cases h; simp
  ·rw [bW c2] at h
   have hl:v2.1.length≤8:=by
    simp only [dK,bV,kC] at c2; omega
   have ho:=zaA7 v2 (by omega)
   by_cases d:dnN v2.1
   ·rw [ho.1 d] at h
    have:zH5 v2 ()=some v:=h
    unfold zH5 at this; cases this; exact hl
   ·rw [ho.2 d] at h; cases h; simp
theorem zbU5 {e:aG} {v:List aD×Bool} (h:zl4 e=some v):dnN v.1:=by
 unfold zl4 at h
 obtain ⟨v1,h1,h⟩:=zn1 h
 by_cases c:v1=0
 ·rw [bY (by simpa using c)] at h; cases h; exact .nil
 rw [bW (by simpa using c)] at h
 obtain ⟨v2,h2,h⟩:=zn1 h
 cases v2 with
 | inl v2=>cases h; exact .nil
 | inr v2 =>
  simp only at h
  by_cases c2:((!v2.2)||(decide (8 < (v2.1.length:Int))))=true
  ·rw [bY c2] at h; cases h; exact .nil
  ·rw [bW c2] at h
   have hl:v2.1.length≤8:=by
    simp only [dK,bV,kC] at c2; omega
   have ho:=zaA7 v2 (by omega)
   by_cases d:dnN v2.1
   ·rw [ho.1 d] at h
    have:zH5 v2 ()=some v:=h
    unfold zH5 at this; cases this; exact d
   ·rw [ho.2 d] at h; cases h; exact .nil
theorem zcE0 {L:List aD} (h:dnN L) {a b:aD} (ha:a ∈ L) (hb:b ∈ L) (e:a.name=b.name):a=b:=by
 obtain ⟨i,hi,rfl⟩:=eV.1 ha
 obtain ⟨j,hj,rfl⟩:=eV.1 hb
 have k:=fun x y hx hy hxy=>dT.1 h x y hx hy hxy
 rcases hI i j with c|c|c
 ·have:=k i j hi hj c; rw [e] at this; simp at this
 ·subst c; rfl
 ·have:=k j i hj hi c; rw [e] at this; simp at this
theorem zcp8 (e:aG) (L:List aD) (S:List Bool) (hL:L.length≤1000):∃ b,((zc6 (zA0 e L S) 0).bind (fun|.inl z=>zT1 z|.inr z=>some z))=some b∧((∀ i,S.getD i false=false)→b=false):=by
 obtain ⟨x,h1,h2⟩:=zv4 (body:=zA0 e L S) (fun g=>∃ i:Nat,g=i∧i≤L.length) (fun g=>L.length - g.toNat) (fun x=>∀ b,x=.inr b→(∀ i,S.getD i false=false)→b=false)
  (fun g ⟨i,hi,hle⟩=>by
   subst hi
   unfold zA0
   by_cases c:i < L.length
   ·have h3:0≤(i:Int)∧(i:Int) < (L.length:Int):=by omega
    simp only [h3.1,h3.2,cQ,zk1,cB,bZ,Int.toNat_natCast]
    by_cases d:L.getD i aD.zero=e.aZ
    ·right
     rw [bY (by simpa using d),gdp (by intro h; simp only [bV] at h; simp; omega)]
     exact ⟨_,rfl,fun b hb hS=>by cases hb; rw [hS,iQ]⟩
    ·left
     rw [bW (by simpa using d),zd4 i (by omega)]
     exact ⟨_,rfl,⟨i+1,rfl,c⟩,by simp only [Int.toNat_natCast]; omega⟩
   ·right
    simp only [show ¬ (i:Int) < (L.length:Int) by omega,cL,bT,cA]
    exact ⟨_,rfl,fun b hb=>by cases hb⟩) 0 ⟨0,rfl,by omega⟩
 rw [h1]
 cases x with
 | inl x=>exact ⟨false,rfl,fun _=>rfl⟩
 | inr b=>exact ⟨b,rfl,h2 b rfl⟩
theorem zbU6:∀ (n:Nat) (e:aG),_root_.SizeOf.sizeOf e < n→zo2 e≤24→∀ (L:List aD) (S:List Bool),L.length≤1000→∃ b,fr_ref08_holds n e L S=some b∧(okE e=true→(∀ i,S.getD i false=false)→b=false)
 | 0,_,h,_,_,_,_=>by omega
 | n+1,e,h,hn,L,S,hL=>by
  show ∃ b,zC4 (fr_ref08_holds n) e L S=some b∧_
  unfold zC4
  have hl:=zB0 e.aV
  have hne:=zK6 e
  by_cases c:e.k=0
  ·rw [bY (by simpa using c)]
   obtain ⟨b,h1,h2⟩:=zcp8 e L S hL
   exact ⟨b,h1,fun _=>h2⟩
  ·rw [bW (by simpa using c)]
   obtain ⟨x,h1,h2⟩:=zv4 (body:=zN3 (fr_ref08_holds n) e L S) (fun g=>∃ i:Nat,g.2=i∧i≤e.aV.length∧0≤g.1∧g.1≤i∧(okL e.aV=true→(∀ i,S.getD i false=false)→g.1=0)) (fun g=>e.aV.length - g.2.toNat)
    (fun x=>okL e.aV=true→(∀ i,S.getD i false=false)→x=0)
    (fun g ⟨i,hi,hle,h0,h4,hg⟩=>by
     obtain ⟨m,g2⟩:=g
     simp only at hi h0 h4 hg
     subst hi
     unfold zN3
     by_cases c:i < e.aV.length
     ·left
      have h3:0≤(i:Int)∧(i:Int) < (e.aV.length:Int):=by omega
      simp only [h3.1,h3.2,cQ,zk1,cB,bZ,Int.toNat_natCast]
      have hk:=zs3 (z:=aG.zero) c
      obtain ⟨b,e1,e2⟩:=zbU6 n _ (zX2 h hk) (by have:=zaR3 hk; omega) L S hL
      rw [e1,Option.bind_some,zd4 i (by omega)]
      cases b with
      | true =>
       rw [bY rfl,zo7 (by omega) (by omega)]
       exact ⟨_,rfl,⟨i+1,rfl,c,by simp only; omega,by simp only; omega,fun ho hS=>by have:=e2 (zcc2 ho hk) hS; cases this⟩,by simp only [Int.toNat_natCast]; omega⟩
      | false =>
       rw [bW (by decide)]
       exact ⟨_,rfl,⟨i+1,rfl,c,h0,by simp only; omega,hg⟩,by simp only [Int.toNat_natCast]; omega⟩
     ·right
      simp only [show ¬ (i:Int) < (e.aV.length:Int) by omega,cL,bT,cA]
      exact ⟨_,rfl,hg⟩) (0,0) ⟨0,rfl,by omega,by simp,by simp,fun _ _=>rfl⟩
   rw [h1,Option.bind_some]
   refine ⟨_,rfl,fun ho hS=>?_⟩
   by_cases ck:e.aV.length=0
   ·exact absurd ((zbw0 ck).1 ho).1 c
   ·have h5:=(zbw1 ck).1 ho
    rw [h2 h5.2 hS]
    exact eD (by omega)
theorem zcE1 {e:aG} (h:vE e=true):zo2 e≤24:=by
 have:=(zcc3 h).2
 unfold fitE at this
 simp only [bS,bV] at this
 omega
theorem zbx1 {e:aG} (h:vE e=true) {L:List aD} (hL:L.length≤1000) (S:List Bool):∃ b,f_ref08_holds e L S=some b∧((∀ i,S.getD i false=false)→b=false):=by
 unfold f_ref08_holds
 obtain ⟨b,h1,h2⟩:=zbU6 _ e (dY _) (zcE1 h) L S hL
 exact ⟨b,h1,h2 (zcc3 h).1⟩
theorem zaP4 {e:aG} (h:vE e=true) (S:List Bool):∃ b,zv0 e S=some b∧((∀ i,S.getD i false=false)→b=false):=by
 unfold zv0
 obtain ⟨v,h1,h2⟩:=zay2 e
 rw [h1,Option.bind_some,h2,h]
 obtain ⟨b,h3,h4⟩:=zbx1 h (L:=v.1) (by have:=zaP3 h1; omega) S
 rw [bY rfl,h3]
 exact ⟨b,by simp,h4⟩
theorem zay3 (e:aG):∃ l,zv1 e=some l∧l.length≤8∧zl4 e=some (l,vE e):=by
 unfold zv1
 obtain ⟨v,h1,h2⟩:=zay2 e
 exact ⟨v.1,by rw [h1]; rfl,zaP3 h1,by rw [h1,← h2]⟩
theorem zbx2 (l:List aO) (p:aH) (hl:l.length≤1000):∃ v,zi7 l p=some v∧(v=-1∧(∀ x ∈ l,x.aN≠p)∨∃ i:Nat,v=i∧i < l.length∧(l.getD i aO.zero).aN=p):=by
  unfold zi7
  rw [zav0 l aO.zero (fun a=>decide (a.aN=p)) (fun i hi=>by
    unfold zac3
    have h3:0≤(i:Int)∧(i:Int) < (l.length:Int):=by omega
    simp only [h3.1,h3.2,cQ,zk1,cB,bZ,Int.toNat_natCast,zd4 i (show i < 4611686018427387904 by omega)]
    split <;> rfl) (by unfold zac3; simp)]
  cases h:l.findIdx? fun a=>decide (a.aN=p) with
  | none =>
    refine ⟨-1,rfl,.inl ⟨rfl,fun x hx e=>?_⟩⟩
    have:=eY.1 h x hx
    simp [e] at this
  | some i =>
    obtain ⟨h1,h2,_⟩:=eA.1 h
    refine ⟨i,rfl,.inr ⟨i,rfl,h1,?_⟩⟩
    rw [bU,bX h1]
    exact fQ h2
theorem zbf5 (t:List aF) (hl:t.length≤1000):zf9 t=some (t.map (·.aB)):=by
  unfold zf9
  rw [zaE9 t aF.zero (·.aB) [] (by omega) (by simp) (fun i s hi hs=>by
    unfold zW0
    have h3:0≤(i:Int)∧(i:Int) < (t.length:Int):=by omega
    simp only [h3.1,h3.2,cQ,zk1,cB,bZ,Int.toNat_natCast,zd4 i (show i < 4611686018427387904 by omega)]
    rw [gdp (by omega)]) (fun s=>by unfold zW0; simp)]
  rfl
theorem zaF0 {α β:Type} (l:List α) (z:α) (f:α→Option β) {body:Int×List β→Option ((Int×List β)⊕List β)} (hl:l.length≤1000000)
    (hb:∀ (i:Nat) (s:List β),i < l.length→s.length≤1000000→body ((i:Int),s)=some (.inl (((i+1:Nat):Int),zas0 s (f (l.getD i z))))) (he:∀ s,body ((l.length:Int),s)=some (.inr s)):zc6 body (0,[])=some (l.filterMap f):=by
  have key:=zz1 (body:=body) l z (fun i (s:List β)=>((i:Int),s)) (fun i a s=>some (.inl (zas0 s (f a)))) (fun s=>s) (fun i s=>s.length≤i)
    (fun i s hi hs=>⟨by rw [hb i s hi (by omega)]; rfl,fun s' h=>by simp only [cU,fD] at h; subst h; have:=zco4 s (f (l.getD i z)); omega⟩) (fun s hs=>he s) [] (by simp)
  rw [show ((0,[]):Int×List β)=(fun (i:Nat) (s:List β)=>((i:Int),s)) 0 [] from rfl,key,zau7 f]
  simp
def zae7 (p:aH) (q:aF):Option aD:=if getH q.bA p=aA.zero then none else some ⟨q.aB.name,getH q.bA p⟩
def zag5 (p:aH) (q:aF):Option aD:=if (zae6 q p).2=true then some ⟨q.aB.name,(zae6 q p).1⟩ else none
def sayF (l:List bB) (n:ByteArray):Option aD:=if zt3 l n=aA.zero then none else some ⟨n,zt3 l n⟩
theorem zaA8 {t:List aF} (h:Lens t) {i:Nat} (hi:i < t.length):(t.getD i aF.zero).bA.length≤1000∧(t.getD i aF.zero).aL.length≤1000∧(t.getD i aF.zero).aS.length≤1000:=h _ (zs3 hi)
theorem zbb5 (t:List aF) (p:aH) (hl:t.length≤1000) (hs:Lens t):zj3 t p=some (t.filterMap (zae7 p)):=by
  unfold zj3
  rw [zaF0 t aF.zero (zae7 p) (by omega) (fun i s hi hs'=>by
    unfold zR8
    have h3:0≤(i:Int)∧(i:Int) < (t.length:Int):=by omega
    have h4:=zaA8 hs hi
    have h5:s.length+1≤4294967296:=by omega
    simp only [h3.1,h3.2,h5,cQ,zk1,cB,bZ,Int.toNat_natCast,zd4 i (show i < 4611686018427387904 by omega),zaC1 (t.getD i aF.zero) p (by omega),Option.bind_some,zba9]
    unfold zae7
    by_cases c:getH (t.getD i aF.zero).bA p=aA.zero
    · rw [bY c,bW (by rw [(zas1 _).2 c]; decide)]; rfl
    · rw [bW c,bY (by rw [(zbT0 _).2 c]; rfl)]; rfl) (fun s=>by unfold zR8; simp)]
  rfl
theorem zbk7 (t:List aF) (p:aH) (hl:t.length≤1000) (hs:Lens t):zm7 t p=some (t.filterMap (zag5 p)):=by
  unfold zm7
  rw [zaF0 t aF.zero (zag5 p) (by omega) (fun i s hi hs'=>by
    unfold zY7
    have h3:0≤(i:Int)∧(i:Int) < (t.length:Int):=by omega
    have h4:=zaA8 hs hi
    have h5:s.length+1≤4294967296:=by omega
    simp only [h3.1,h3.2,h5,cQ,zk1,cB,bZ,Int.toNat_natCast,zd4 i (show i < 4611686018427387904 by omega),zaK0 (t.getD i aF.zero) p (by omega) (by omega),Option.bind_some]
    unfold zag5
    split <;> rfl) (fun s=>by unfold zY7; simp)]
  rfl
theorem zaA9 (l:bC) (hl:l.aJ.length≤1000):∃ ns:List ByteArray,ns.Pairwise ltN∧(∀ n,n ∈ ns ↔ ∃ e ∈ l.aJ,e.name=n)∧zg8 l=some (ns.filterMap (sayF l.aJ))∧ns.length≤l.aJ.length:=by
  obtain ⟨ns,h1,h0,h3⟩:=zas9 l.aJ (by omega)
  have h2:ns.length≤l.aJ.length:=by
    obtain ⟨ms,m1,m2,_⟩:=zbw8 l.aJ (by omega)
    rw [h1] at m1; cases m1; exact m2
  refine ⟨ns,h0,h3,?_,h2⟩
  unfold zg8
  rw [h1,Option.bind_some,zaF0 ns ⟨#[]⟩ (sayF l.aJ) (by omega) (fun i s hi hs'=>by
    unfold zR7
    have h3:0≤(i:Int)∧(i:Int) < (ns.length:Int):=by omega
    have h5:s.length+1≤4294967296:=by omega
    simp only [h3.1,h3.2,h5,cQ,zk1,cB,bZ,Int.toNat_natCast,zd4 i (show i < 4611686018427387904 by omega),zaC3 l.aJ _ (by omega),Option.bind_some]
    unfold sayF
    by_cases c:zt3 l.aJ (ns.getD i ⟨#[]⟩)=aA.zero
    · rw [bY c,bW (by rw [c]; decide)]; rfl
    · rw [bW c,bY (by rw [eD c]; rfl)]; rfl) (fun s=>by unfold zR7; simp)]
  rfl
theorem zay4 (a b:List aD) (ha:a.length≤1000000):ze4 a b=some (decide (a=b)):=by
  unfold ze4
  by_cases h:a.length=b.length
  · rw [bW (by simp [h])]
    exact zbd8 a b aD.zero (by omega) h (fun i=>rfl)
  · have:¬ a=b:=fun e=>h (by rw [e])
    rw [bY (by simp; omega),eD this]
def grA (t:List aF) (p:aH) (a:aD):Bool:=if zam5 t a.name < 0 then false else covA (t.getD (zam5 t a.name).toNat aF.zero).aB (getH (t.getD (zam5 t a.name).toNat aF.zero).bA p) a.aI
theorem zbx3 (t:List aF) (p:aH) (e:aG) (hl:t.length≤1000) (hs:Lens t):∃ bs L,zx6 t p e=some bs∧zl4 e=some (L,vE e)∧bs.length=L.length∧(t=[]→∀ i,bs.getD i false=false)∧bs=L.map (grA t p):=by
  obtain ⟨L,h1,h2,h3⟩:=zay3 e
  refine ⟨L.map (grA t p),L,?_,h3,dV _,fun ht i=>?_,rfl⟩
  · unfold zx6
    rw [h1,Option.bind_some,gdp (by omega)]
    obtain ⟨x,h4,h5⟩:=zv4 (body:=zW8 t p L) (fun g=>∃ i:Nat,i≤L.length∧g=((i:Int),(L.take i).map (grA t p)++List.replicate (L.length - i) false)) (fun g=>L.length - g.1.toNat) (fun x=>x=L.map (grA t p))
      (fun g ⟨i,hi,hg⟩=>by
        subst hg
        unfold zW8
        have hlen:((L.take i).map (grA t p)++List.replicate (L.length - i) false).length=L.length:=by rw [cI,dV,dL,fT]; omega
        by_cases c:i < L.length
        · left
          have h3:0≤(i:Int)∧(i:Int) < (L.length:Int):=by omega
          have e1:((L.take i).map (grA t p)).length=i:=by rw [dV,dL]; omega
          have e2:List.replicate (L.length - i) false=false :: List.replicate (L.length - (i+1)) false:=by rw [show L.length - i=L.length - (i+1)+1 by omega]; rfl
          have e3:=zbK7 ((L.take i).map (grA t p)) (List.replicate (L.length - (i+1)) false) false
          have e4:∀ z,((L.take i).map (grA t p)++List.replicate (L.length - i) false).set i z=(L.take i).map (grA t p)++z :: List.replicate (L.length - (i+1)) false:=fun z=>by
            have:=e3 z; rw [e1] at this; rw [e2]; exact this
          have e5:(L.take (i+1)).map (grA t p)++List.replicate (L.length - (i+1)) false=(L.take i).map (grA t p)++grA t p (L.getD i aD.zero) :: List.replicate (L.length - (i+1)) false:=by
            rw [zD4 aD.zero c,iI,dI]; rfl
          simp only [h3.1,h3.2,cQ,zk1,cB,bZ,Int.toNat_natCast,zd4 i (show i < 4611686018427387904 by omega),zaT7 t _ (show t.length≤1000000 by omega),Option.bind_some]
          have hgr:grA t p (L.getD i aD.zero)=if zam5 t (L.getD i aD.zero).name < 0 then false else covA (t.getD (zam5 t (L.getD i aD.zero).name).toNat aF.zero).aB (getH (t.getD (zam5 t (L.getD i aD.zero).name).toNat aF.zero).bA p) (L.getD i aD.zero).aI:=rfl
          rcases zaO9 (t:=t) (nm:=(L.getD i aD.zero).name) with e|⟨k,e,hk,_⟩
          · rw [e,bW (by decide)]
            rw [e,bY (by decide)] at hgr
            refine ⟨_,rfl,⟨i+1,c,?_⟩,by simp only [Int.toNat_natCast]; omega⟩
            rw [e5,hgr,e2]
          · have h6:=zaA8 hs hk
            rw [e,bY (by simp),gdp (by omega),gdp (by omega)]
            rw [e,bW (by omega)] at hgr
            simp only [Int.toNat_natCast] at hgr ⊢
            rw [zaC1 _ _ (by omega),Option.bind_some,gdp (by rw [hlen]; exact ⟨trivial,h3.2⟩)]
            refine ⟨_,rfl,⟨i+1,c,?_⟩,by simp only [Int.toNat_natCast]; omega⟩
            rw [e5,hgr,e4]; rfl
        · right
          have e:i=L.length:=by omega
          subst e
          simp only [fV,cL,bT,cA]
          exact ⟨_,rfl,by rw [dW,gF]; simp⟩) (0,List.replicate ((L.length:Int).toNat) false) ⟨0,by omega,by simp⟩
    rw [h4,h5]; rfl
  · subst ht
    have:∀ a,grA [] p a=false:=fun a=>by unfold grA; exact bY (by show (-1:Int) < 0; decide)
    rw [bU,cK]
    cases L[i]? with
    | none=>rfl
    | some a=>exact this a
def zaB0 (q:aF) (x:aO) (L:List aD):Prop :=
  (∃ a ∈ L,a.name=q.aB.name∧covA q.aB (zt3 x.bD.aJ q.aB.name) a.aI=false ∧
    ((zae6 q x.aN).2=false∧getH q.bA x.aN=zbj2 q.aB (zt3 x.bD.aJ q.aB.name) a.aI ∨
     (zae6 q x.aN).2=true∧getH q.bA x.aN=zt3 x.bD.aJ q.aB.name∧(zae6 q x.aN).1=zbj2 q.aB (zt3 x.bD.aJ q.aB.name) a.aI∧∀ w ∈ q.aS,w.aN=x.aN→w.aW=x.aQ.aW)) ∨
  ((∀ a ∈ L,a.name=q.aB.name→covA q.aB (zt3 x.bD.aJ q.aB.name) a.aI=true)∧getH q.bA x.aN=zt3 x.bD.aJ q.aB.name∧(zae6 q x.aN).2=false)
theorem zbU7 (q:aF) (x:aO) (hl:q.aS.length≤1000):zc6 (zL2 q x) 0=some (.inr false)∧(¬ ∀ w ∈ q.aS,w.aN=x.aN→w.aW=x.aQ.aW)∨zc6 (zL2 q x) 0=some (.inl ())∧∀ w ∈ q.aS,w.aN=x.aN→w.aW=x.aQ.aW:=by
  have key:=zL6 (body:=zL2 q x) q.aS.length (fun i=>(q.aS.getD i aR.zero).aN=x.aN→(q.aS.getD i aR.zero).aW=x.aQ.aW) (fun i hi=>by
    unfold zL2
    have h3:0≤(i:Int)∧(i:Int) < (q.aS.length:Int):=by omega
    simp only [h3.1,h3.2,cQ,dU,zk1,cB,bZ,Int.toNat_natCast,zd4 i (show i < 4611686018427387904 by omega)]
    by_cases c:(q.aS.getD i aR.zero).aN=x.aN∧(q.aS.getD i aR.zero).aW≠x.aQ.aW
    · rw [bY (by rw [cR c.1,eD c.2]; rfl)]
      exact ⟨false,rfl,(fun h=>nomatch h),fun h=>absurd (h c.1) c.2⟩
    · rw [bW (by
        simp only [bS,bV,cN,cG]; exact c)]
      exact ⟨true,rfl,fun _ h=>jI fun h2=>c ⟨h,h2⟩,fun _=>rfl⟩) (by unfold zL2; simp)
  have hm:=zX0 (P:=fun w:aR=>w.aN=x.aN→w.aW=x.aQ.aW) (l:=q.aS) (z:=aR.zero)
  rcases key with ⟨h1,h2⟩|⟨h1,h2⟩
  · exact .inl ⟨h1,fun h=>h2 (hm.2 h)⟩
  · exact .inr ⟨h1,hm.1 h2⟩
theorem zcN7 (q:aF) (x:aO) (L:List aD) (he:x.bD.aJ.length≤1000) (h0:q.bA.length≤1000) (h1:q.aL.length≤1000) (h2:q.aS.length≤1000) (hL:L.length≤1000) (hd:dnN L) :
    ∃ b,zA6 q x L=some b∧(b=true ↔ zaB0 q x L):=by
  unfold zA6
  rw [zaC3 _ _ (by omega),Option.bind_some,zaC1 _ _ (by omega),Option.bind_some,zaK0 _ _ (by omega) (by omega),Option.bind_some]
  obtain ⟨r,h3,h4⟩:=zv4 (body:=zP9 q x L (zt3 x.bD.aJ q.aB.name) (getH q.bA x.aN) (zae6 q x.aN)) (fun g=>∃ i:Nat,g=i∧i≤L.length∧∀ k,k < i→(L.getD k aD.zero).name=q.aB.name→covA q.aB (zt3 x.bD.aJ q.aB.name) (L.getD k aD.zero).aI=true) (fun g=>L.length - g.toNat)
    (fun r=>r=.inl ()∧(∀ a ∈ L,a.name=q.aB.name→covA q.aB (zt3 x.bD.aJ q.aB.name) a.aI=true)∨∃ b,r=.inr b∧(b=true ↔ zaB0 q x L))
    (fun g ⟨i,hi,hle,hg⟩=>by
      subst hi
      unfold zP9
      by_cases c:i < L.length
      · have h3:0≤(i:Int)∧(i:Int) < (L.length:Int):=by omega
        simp only [h3.1,h3.2,cQ,zk1,cB,bZ,Int.toNat_natCast,zd4 i (show i < 4611686018427387904 by omega),zJ9]
        by_cases d:((!decide ((L.getD i aD.zero).name=q.aB.name))||(zu5 q.aB (zt3 x.bD.aJ q.aB.name) ((L.getD i aD.zero).aI)))=true
        · rw [bY d]
          refine .inl ⟨_,rfl,⟨i+1,rfl,c,fun k hk hn=>?_⟩,by simp only [Int.toNat_natCast]; omega⟩
          rcases fX k i with h5|h5
          · exact hg k h5 hn
          · have:k=i:=by omega
            subst this
            rw [cR hn] at d; exact d
        · rw [bW d]
          right
          simp only [dK,cN,cG,kC,Decidable.not_not,jS] at d
          obtain ⟨d1,d2⟩:=d
          have hm:=zs3 (z:=aD.zero) c
          have only:∀ a ∈ L,a.name=q.aB.name→a=L.getD i aD.zero:=fun a ha hn=>zcE0 hd ha hm (hn.trans d1.symm)
          have not2:¬ (∀ a ∈ L,a.name=q.aB.name→covA q.aB (zt3 x.bD.aJ q.aB.name) a.aI=true):=fun h=>by
            have h5:zu5 q.aB (zt3 x.bD.aJ q.aB.name) ((L.getD i aD.zero).aI)=true:=h _ hm d1
            rw [d2] at h5; cases h5
          rw [zbA5,Option.bind_some]
          cases hw:(zae6 q x.aN).2 with
          | false =>
            simp only [cX,bZ]
            refine ⟨_,rfl,.inr ⟨_,rfl,fun hb=>.inl ⟨_,hm,d1,d2,.inl ⟨hw,fQ hb⟩⟩,fun hp=>?_⟩⟩
            rcases hp with ⟨a,ha,hn,_,hp⟩|hp
            · rw [only a ha hn] at hp
              rcases hp with hp|hp
              · exact cR hp.2
              · rw [hw] at hp; exact absurd hp.1 (by decide)
            · exact absurd hp.1 not2
          | true =>
            simp only [cP,bT,cA]
            have fin:∀ b:Bool,(b=true ↔ getH q.bA x.aN=zt3 x.bD.aJ q.aB.name∧(zae6 q x.aN).1=zbj2 q.aB (zt3 x.bD.aJ q.aB.name) (L.getD i aD.zero).aI∧∀ w ∈ q.aS,w.aN=x.aN→w.aW=x.aQ.aW)→(b=true ↔ zaB0 q x L):=fun b hb=>by
              rw [hb]
              refine ⟨fun h=>.inl ⟨_,hm,d1,d2,.inr ⟨hw,h⟩⟩,fun hp=>?_⟩
              rcases hp with ⟨a,ha,hn,_,hp⟩|hp
              · rw [only a ha hn] at hp
                rcases hp with hp|hp
                · rw [hw] at hp; exact absurd hp.1 (by decide)
                · exact hp.2
              · exact absurd hp.1 not2
            rcases zbU7 q x h2 with ⟨e1,e2⟩|⟨e1,e2⟩
            · rw [e1]
              exact ⟨_,rfl,.inr ⟨false,rfl,fin _ ⟨(fun h=>nomatch h),fun h=>absurd h.2.2 e2⟩⟩⟩
            · rw [e1]
              refine ⟨_,rfl,.inr ⟨_,rfl,fin _ ?_⟩⟩
              rw [bS,bV,bV]
              exact ⟨fun h=>⟨h.1,h.2,e2⟩,fun h=>⟨h.1,h.2.1⟩⟩
      · right
        have e:i=L.length:=by omega
        subst e
        simp only [fV,cL,bT,cA]
        exact ⟨_,rfl,.inl ⟨rfl,zX0.1 hg⟩⟩) 0 ⟨0,rfl,by omega,fun k hk=>by omega⟩
  rw [h3]
  rcases h4 with ⟨rfl,h4⟩|⟨b,rfl,hb⟩
  · refine ⟨_,rfl,?_⟩
    rw [bS,bV,cN]
    refine ⟨fun h=>.inr ⟨h4,h⟩,fun hp=>?_⟩
    rcases hp with ⟨a,ha,hn,hc,_⟩|hp
    · rw [h4 a ha hn] at hc; cases hc
    · exact hp.2
  · exact ⟨b,rfl,hb⟩
theorem zcp9 (e:aG):∃ b,zf2 e aG.zero=some b∧(b=true ↔ e=aG.zero):=by
  unfold zf2
  show ∃ b,zz3 (zK4 _) e aG.zero=some b∧_
  unfold zz3
  by_cases h:(((!decide (e.k=aG.zero.k))||(!decide (e.aZ=aG.zero.aZ)))||(!decide ((e.aV.length:Int)=(aG.zero.aV.length:Int))))=true
  · rw [bY h]
    refine ⟨_,rfl,(fun h=>nomatch h),fun he=>?_⟩
    rw [he] at h; simp at h
  · rw [bW h]
    simp only [dK,kC,cN,cG,Decidable.not_not] at h
    have hk:e.aV.length=0:=by
      have h2:=h.2
      simp only [aG.zero,List.length_nil] at h2; omega
    rw [zq6]
    unfold zL7
    simp only [hk,Int.natCast_zero,show ¬ (0:Int) < 0 by omega,cL,bT,cA]
    refine ⟨_,rfl,fun _=>?_,fun _=>rfl⟩
    have hk:=cO hk
    obtain ⟨⟨h1,h2⟩,_⟩:=h
    have eta:e=⟨e.k,e.aZ,e.aV⟩:=by cases e; rfl
    rw [eta,h1,h2,hk]; rfl
theorem zbK8 (r:bG):∃ b,ze8 r { bG.zero with }=some b∧(b=true ↔ r=bG.zero):=by
  obtain ⟨b,h1,h2⟩:=zcp9 r.bL
  unfold ze8
  rw [show ({ bG.zero with }:bG).bL=aG.zero from rfl,h1,Option.bind_some]
  refine ⟨_,rfl,?_⟩
  rw [bS,bS,h2,bV,bV]
  constructor
  · rintro ⟨⟨h3,h4⟩,h5⟩
    cases r
    simp only at h3 h4 h5
    subst h3 h4 h5
    rfl
  · intro h; rw [h]; exact ⟨⟨rfl,rfl⟩,rfl⟩
theorem zbA8 (l:List aC) (nm:ByteArray) (hl:l.length≤1000):∃ v,zk5 l nm=some v∧(v.2=true→v.1 ∈ l∧v.1.name=nm)∧(v.2=false→∀ r ∈ l,r.name≠nm):=by
  unfold zk5
  obtain ⟨r,h3,h4⟩:=zv4 (body:=zaf0 l nm) (fun g=>∃ i:Nat,g=i∧i≤l.length∧∀ k,k < i→(l.getD k aC.zero).name≠nm) (fun g=>l.length - g.toNat) (fun r=>r=.inl ()∧(∀ x ∈ l,x.name≠nm)∨∃ x,r=.inr (x,true)∧x ∈ l∧x.name=nm)
    (fun g ⟨i,hi,hle,hg⟩=>by
      subst hi
      unfold zaf0
      by_cases c:i < l.length
      · have h3:0≤(i:Int)∧(i:Int) < (l.length:Int):=by omega
        simp only [h3.1,h3.2,cQ,zk1,cB,bZ,Int.toNat_natCast,zd4 i (show i < 4611686018427387904 by omega),zJ9]
        by_cases d:(l.getD i aC.zero).name=nm
        · rw [bY (cR d)]
          exact .inr ⟨_,rfl,.inr ⟨_,rfl,zs3 c,d⟩⟩
        · rw [bW (by simpa using d)]
          refine .inl ⟨_,rfl,⟨i+1,rfl,c,fun k hk=>?_⟩,by simp only [Int.toNat_natCast]; omega⟩
          rcases fX k i with h5|h5
          · exact hg k h5
          · have:k=i:=by omega
            subst this; exact d
      · right
        have e:i=l.length:=by omega
        subst e
        simp only [fV,cL,bT,cA]
        exact ⟨_,rfl,.inl ⟨rfl,zX0.1 hg⟩⟩) 0 ⟨0,rfl,by omega,fun k hk=>by omega⟩
  rw [h3]
  rcases h4 with ⟨rfl,h4⟩|⟨x,rfl,hx⟩
  · exact ⟨_,rfl,(fun h=>nomatch h),fun _=>h4⟩
  · exact ⟨_,rfl,(fun _=>hx),fun h=>nomatch h⟩
theorem zbf6 (l:List aC) (a:aD) (hl:catV l=true):∃ v,zw2 l a=some v∧(v=0 ↔ ∃ r ∈ l,r.name=a.name∧zb8 r a.aI=true):=by
  obtain ⟨h8,_,hp⟩:=(zbw4 l).1 hl
  unfold zw2
  rw [zbw5,Option.bind_some,hl]
  obtain ⟨v,h1,h2,h3⟩:=zbA8 l a.name (by omega)
  simp only [cP,bT,cA,h1,Option.bind_some]
  cases hv:v.2 with
  | false=>exact ⟨10,rfl,(fun h=>nomatch h),fun ⟨r,hr,hn,_⟩=>absurd hn (h3 hv r hr)⟩
  | true =>
    obtain ⟨m1,m2⟩:=h2 hv
    simp only [cP,bT,cA]
    cases hf:zs6 v.1 a.aI with
    | false =>
      refine ⟨12,rfl,(fun h=>nomatch h),fun ⟨r,hr,hn,hr2⟩=>?_⟩
      have:r=v.1:=by
        obtain ⟨i,hi,rfl⟩:=eV.1 hr
        obtain ⟨j,hj,e⟩:=eV.1 m1
        rw [← e] at m2 ⊢
        rcases hI i j with c|c|c
        · exact absurd (hn.trans m2.symm) (zaH1 (dT.1 hp i j hi hj c))
        · subst c; rfl
        · exact absurd (m2.trans hn.symm) (zaH1 (dT.1 hp j i hj hi c))
      rw [this,← zau1,hf] at hr2; cases hr2
    | true=>exact ⟨0,rfl,(fun _=>⟨v.1,m1,m2,by rw [← zau1]; exact hf⟩),fun _=>rfl⟩
theorem zbf7 (l:List aC) {e:aG} (he:vE e=true) (hl:catV l=true) {L:List aD} (hL:zl4 e=some (L,true)):∃ v,zz8 l e=some v∧(v=0 ↔ ∀ a ∈ L,∃ r ∈ l,r.name=a.name∧zb8 r a.aI=true):=by
  unfold zz8
  have hw:=zaP3 hL
  simp only at hw
  rw [hL,Option.bind_some]
  simp only [cP,bT,cA]
  obtain ⟨r,h4,h5⟩:=zv4 (body:=zW7 l (L,true)) (fun g=>∃ i:Nat,g=i∧i≤L.length∧∀ k,k < i→∃ r ∈ l,r.name=(L.getD k aD.zero).name∧zb8 r (L.getD k aD.zero).aI=true) (fun g=>L.length - g.toNat)
    (fun r=>(∃ v,r=.inr v∧v≠0∧¬ ∀ a ∈ L,∃ r ∈ l,r.name=a.name∧zb8 r a.aI=true)∨r=.inl ()∧∀ a ∈ L,∃ r ∈ l,r.name=a.name∧zb8 r a.aI=true)
    (fun g ⟨i,hi,hle,hg⟩=>by
      subst hi
      unfold zW7
      by_cases c:i < L.length
      · have h3:0≤(i:Int)∧(i:Int) < (L.length:Int):=by omega
        obtain ⟨v,e1,e2⟩:=zbf6 l (L.getD i aD.zero) hl
        simp only [h3.1,h3.2,cQ,zk1,cB,bZ,Int.toNat_natCast,zd4 i (show i < 4611686018427387904 by omega),e1,Option.bind_some]
        by_cases d:v=0
        · rw [bW (by simp [d])]
          refine .inl ⟨_,rfl,⟨i+1,rfl,c,fun k hk=>?_⟩,by simp only [Int.toNat_natCast]; omega⟩
          rcases fX k i with h5|h5
          · exact hg k h5
          · have:k=i:=by omega
            subst this; exact e2.1 d
        · rw [bY (by simp [d])]
          exact .inr ⟨_,rfl,.inl ⟨v,rfl,d,fun h=>d (e2.2 (h _ (zs3 c)))⟩⟩
      · right
        have e:i=L.length:=by omega
        subst e
        simp only [fV,cL,bT,cA]
        exact ⟨_,rfl,.inr ⟨rfl,zX0.1 hg⟩⟩) 0 ⟨0,rfl,by omega,fun k hk=>by omega⟩
  rw [h4]
  rcases h5 with ⟨v,rfl,hv,hn⟩|⟨rfl,hr⟩
  · exact ⟨v,rfl,fun h=>absurd h hv,fun h=>absurd h hn⟩
  · exact ⟨0,rfl,fun _=>hr,fun _=>rfl⟩
open Go.Lib
theorem zcP5:∀ {x y:List UInt8},Op.bytesLess x y=true→compareBytes x y < 0
 | [],[],h=>by simp [Op.bytesLess] at h
 | [],_ :: _,_=>by simp [compareBytes]
 | _ :: _,[],h=>by simp [Op.bytesLess] at h
 | a :: x,b :: y,h=>by
  simp only [Op.bytesLess,dK,bS,bV,cY] at h
  unfold compareBytes
  rcases h with h|⟨h1,h2⟩
  ·rw [bY h]; decide
  ·subst h1
   rw [bW (UInt8.lt_irrefl a),bW (UInt8.lt_irrefl a)]
   exact zcP5 h2
theorem zcq0 {α:Type} {s l:List α} (cf:α→α→Int) (an:∀ x y,cf y x=- cf x y) (tr:∀ x y z,cf x y≤0→cf y z≤0→cf x z≤0) (hs:s.Pairwise fun x y=>cf x y < 0) (hp:l.Perm s) :
  (l.Pairwise fun x y=>cf x y < 0∨cf y x < 0)∧(l.mergeSort fun x y=>!decide (cf y x < 0))=s:=by
 have hsr:s.Pairwise fun x y=>cf x y < 0∨cf y x < 0:=hs.imp fun h=>.inl h
 refine ⟨(hp.pairwise_iff fun h=>h.symm).2 hsr,?_⟩
 have le:∀ x y,(!decide (cf y x < 0))=true ↔ cf x y≤0:=fun x y=>by
  have:=an x y
  simp only [cN,cG]; omega
 refine iH (le:=fun x y=>(!decide (cf y x < 0))=true) ?_ ?_ ?_ ((iD _ _).trans hp)
 ·intro x y hx hy h1 h2
  rw [le] at h1 h2
  obtain ⟨i,hi,rfl⟩:=fE (hp.subset ((iD _ _).subset hx))
  obtain ⟨j,hj,rfl⟩:=fE hy
  have hq:=dT.1 hs
  have:=an s[i] s[j]
  rcases hI i j with h3|h3|h3
  ·have:=hq i j hi hj h3; omega
  ·subst h3; rfl
  ·have:=hq j i hj hi h3; omega
 ·exact iL (fun a b c h1 h2=>by rw [le] at *; exact tr _ _ _ h1 h2) (fun a b=>by
   have:=an a b
   simp only [dK,le]; omega) _
 ·exact hs.imp fun h=>(le _ _).2 (by omega)
def putE (m:List (ByteArray×aA)) (e:bB):List (ByteArray×aA):=mput e.name e.after m
def zN2 (l:List bB):List (ByteArray×aA):=l.foldl putE []
theorem zay5 (l:List bB) (e:bB):zN2 (l++[e])=mput e.name e.after (zN2 l):=by unfold zN2; rw [List.foldl_append]; rfl
theorem zbF8 {V:Type} (k n:ByteArray) (v:V):∀ m:List (ByteArray×V),mget n (mput k v m)=if k=n then some v else mget n m
 | []=>by
  by_cases e:k=n
  ·subst e; simp [mput,mget]
  ·simp only [mput,mget,zJ9,eD fun h:n=k=>e h.symm,cond_false,bW e]
 | p :: m=>by
  unfold mput
  cases hb:k.toList == p.1.toList with
  | true =>
   rw [zJ9,bV] at hb
   subst hb
   simp only [cond_true,mget]
   by_cases e:p.1=n
   ·subst e; simp
   ·simp only [zJ9,eD fun h:n=p.1=>e h.symm,cond_false,bW e]
  | false =>
   rw [zJ9,cG] at hb
   simp only [cond_false,mget]
   rw [zbF8 k n v m]
   by_cases e:n=p.1
   ·subst e; simp [bW hb]
   ·simp only [zJ9,eD e,cond_false]
theorem zaR4 (l:List bB) (nm:ByteArray):(mget nm (zN2 l)).getD aA.zero=zt3 l nm:=by
 induction l using zbU4 with
 | h0=>rfl
 | h1 l e ih =>
  rw [zay5,zbF8,zao7]
  by_cases h:e.name=nm
  ·rw [bY h,bY h]; rfl
  ·rw [bW h,bW h,ih]
theorem zbx4 {V:Type} (k n:ByteArray) (v:V):∀ m:List (ByteArray×V),n ∈ (mput k v m).map (·.1) ↔ n=k∨n ∈ m.map (·.1)
 | []=>by simp [mput]
 | p :: m=>by
  unfold mput
  cases hb:k.toList == p.1.toList with
  | true =>
   rw [zJ9,bV] at hb
   subst hb
   simp only [cond_true,dM,cE]
   exact ⟨Or.inr,fun h=>h.elim .inl id⟩
  | false =>
   simp only [cond_false,dM,cE,zbx4 k n v m]
   exact ⟨fun h=>h.elim (fun h=>.inr (.inl h)) fun h=>h.elim .inl fun h=>.inr (.inr h),fun h=>h.elim (fun h=>.inr (.inl h)) fun h=>h.elim .inl fun h=>.inr (.inr h)⟩
theorem zbx5 {V:Type} (k:ByteArray) (v:V):∀ m:List (ByteArray×V),(m.map (·.1)).Nodup→((mput k v m).map (·.1)).Nodup
 | [],_=>by simp [mput]
 | p :: m,h=>by
  unfold mput
  have h2:=iJ.1 h
  cases hb:k.toList == p.1.toList with
  | true =>
   rw [zJ9,bV] at hb
   subst hb
   exact h
  | false =>
   rw [zJ9,cG] at hb
   simp only [cond_false,dM]
   refine iJ.2 ⟨fun hm=>?_,zbx5 k v m h2.2⟩
   rcases (zbx4 k p.1 v m).1 hm with e|e
   ·exact hb e.symm
   ·exact h2.1 e
theorem zaH4 (l:List bB):(∀ n,n ∈ (zN2 l).map (·.1) ↔ ∃ e ∈ l,e.name=n)∧((zN2 l).map (·.1)).Nodup:=by
 induction l using zbU4 with
 | h0=>exact ⟨fun n=>by simp [zN2],.nil⟩
 | h1 l e ih =>
  rw [zay5]
  refine ⟨fun n=>?_,zbx5 _ _ _ ih.2⟩
  rw [zbx4,ih.1]
  simp only [dF,eJ,or_and_right,exists_or,exists_eq_left]
  exact ⟨fun h=>h.elim (fun h=>.inr h.symm) .inl,fun h=>h.elim .inr fun h=>.inl h.symm⟩
theorem zaP5 (l:List bB) (hl:l.length≤4000000000000000000):zf6 l=some (zN2 l):=by
 unfold zf6
 obtain ⟨x,h1,h2⟩:=zv4 (body:=zV9 l) (fun g=>∃ i:Nat,g.1=i∧i≤l.length∧g.2=zN2 (l.take i)) (fun g=>l.length - g.1.toNat) (fun x=>x=zN2 l)
  (fun g ⟨i,hi,hle,hg⟩=>by
   obtain ⟨g1,g2⟩:=g
   simp only at hi hg
   subst hi
   unfold zV9
   by_cases c:i < l.length
   ·left
    have h3:0≤(i:Int)∧(i:Int) < (l.length:Int):=by omega
    simp only [h3.1,h3.2,cQ,zk1,cB,bZ,Int.toNat_natCast,zd4 i (show i < 4611686018427387904 by omega)]
    refine ⟨_,rfl,⟨i+1,rfl,c,?_⟩,by simp only [Int.toNat_natCast]; omega⟩
    rw [zD4 bB.zero c,zay5,hg]
   ·right
    have e:i=l.length:=by omega
    refine ⟨g2,?_,by rw [hg,e,dW]⟩
    simp only [show ¬ (i:Int) < (l.length:Int) by omega,cL,bT,cA]) (0,[]) ⟨0,rfl,by omega,rfl⟩
 rw [h1,Option.bind_some,h2]; rfl
theorem zaP6 (a:aA):zX5 a=zq0 a:=by
 rw [dP,zay1]
 unfold zX5 zs5
 by_cases h:a.mode=0
 ·rw [bW (by simp [h])]
  simp only [bS,bV]
  omega
 ·rw [bY (by simp [h])]
  simp only [bS,bV]
  omega
theorem zbk8 (a b:aA):zm6 a b=some (zE2 a b):=by
 unfold zm6 zE2
 rw [zaP6,zaP6]
 by_cases h1:((!(zq0 b))||(decide (a=b)))=true
 ·rw [bY h1,bY h1]
 ·rw [bW h1,bW h1]
  by_cases h2:(decide (a=({ aA.zero with }:aA)))=true
  ·rw [bY h2,bY h2]
  ·rw [bW h2,bW h2]
   by_cases h3:(!(zq0 a))=true
   ·rw [bY h3,bY h3]
   ·rw [bW h3,bW h3]
    simp only [dK,cN,bV,kC,gC] at h1 h3
    have ua:=(zay1 a).1 h3
    have ub:=(zay1 b).1 h1.1
    by_cases ma:a.mode=0
    ·by_cases mb:b.mode=0
     ·simp [ma,mb]
     ·have:¬ a.aP < b.aP:=by omega
      simp [ma,mb,this]
    ·by_cases mb:b.mode=0
     ·have:zC3 b.mode a.mode=false:=by
       cases hc:zC3 b.mode a.mode with
       | false=>rfl
       | true=>have:=((zbt2 b.mode a.mode).1 hc).1; omega
      rw [mb] at this
      simp [ma,mb,this]
     ·simp [ma,mb,zal1,covM]
theorem EntV.take {l:List bB} {i j:Nat} (hi:i≤l.length) (hj:j < i) (h:EntV l j):EntV (l.take i) j:=by
 have e1:(l.take i).getD j bB.zero=l.getD j bB.zero:=by
  simp only [bU,dH,bY hj]
 have e2:(l.take i).take j=l.take j:=by rw [jG,gD (by omega)]
 unfold EntV at h ⊢
 rw [e1,e2]; exact h
theorem zbU8 {l:List bB} {i:Nat} (hi:i≤l.length) (h:∀ j,j < i→EntV l j) (h8:(zN2 (l.take i)).length≤8):i≤64:=by
 have hl:(l.take i).length=i:=by rw [dL]; omega
 have hn:=zaH4 (l.take i)
 have:=zcD9 (l:=l.take i) (fun j hj=>(h j (by omega)).take hi (by omega)) hn.2 (by rw [dV]; exact h8) (fun e he=>(hn.1 _).2 ⟨e,he,rfl⟩)
 omega
theorem zbU9 {V:Type} (k:ByteArray) (v:V):∀ m:List (ByteArray×V),m.length≤(mput k v m).length
 | []=>fF _
 | p :: m=>by
  unfold mput
  cases k.toList == p.1.toList with
  | true=>exact cS _
  | false=>exact Nat.succ_le_succ (zbU9 k v m)
theorem zcq1 (l:List bB) (d i:Nat):(zN2 (l.take i)).length≤(zN2 (l.take (i+d))).length:=by
 induction d with
 | zero=>exact cS _
 | succ d ih =>
  refine gT ih ?_
  by_cases c:i+d < l.length
  ·rw [show i+(d+1)=i+d+1 from rfl,zD4 bB.zero c,zay5]
   exact zbU9 _ _ _
  ·rw [dO (show l.length≤i+d by omega),dO (show l.length≤i+(d+1) by omega)]; exact cS _
theorem zbx6 (l:bC):∃ x,zc6 (zQ4 l) (0,[])=some x∧((x=.inl ()∧(∀ i,i < l.aJ.length→EntV l.aJ i)∧(zN2 l.aJ).length≤8)∨(x=.inr false∧¬ ((∀ i,i < l.aJ.length→EntV l.aJ i)∧(zN2 l.aJ).length≤8))):=by
 refine zv4 (body:=zQ4 l) (fun g=>∃ i:Nat,g.1=i∧i≤l.aJ.length∧g.2=zN2 (l.aJ.take i)∧(∀ j,j < i→EntV l.aJ j)∧(zN2 (l.aJ.take i)).length≤8) (fun g=>l.aJ.length - g.1.toNat)
  (fun x=>(x=.inl ()∧(∀ i,i < l.aJ.length→EntV l.aJ i)∧(zN2 l.aJ).length≤8)∨(x=.inr false∧¬ ((∀ i,i < l.aJ.length→EntV l.aJ i)∧(zN2 l.aJ).length≤8))) ?_ _ ⟨0,rfl,fF _,rfl,fun j hj=>by omega,by simp [zN2]⟩
 rintro ⟨g1,g2⟩ ⟨i,hi,hle,hg,hj,h8⟩
 simp only at hi hg
 subst hi; subst hg
 have h64:=zbU8 hle hj h8
 unfold zQ4
 by_cases c:i < l.aJ.length
 ·have h3:0≤(i:Int)∧(i:Int) < (l.aJ.length:Int):=by omega
  simp only [h3.1,h3.2,cQ,zk1,cB,bZ,Int.toNat_natCast,zas7,Option.bind_some,zaR4,zd4 i (show i < 4611686018427387904 by omega)]
  by_cases e1:zJ8 (l.aJ.getD i bB.zero).name=true∧(l.aJ.getD i bB.zero).before=zt3 (l.aJ.take i) (l.aJ.getD i bB.zero).name
  ·rw [bY (by rw [e1.1,cR e1.2]; rfl),zbk8,Option.bind_some]
   by_cases e2:zE2 (l.aJ.getD i bB.zero).before (l.aJ.getD i bB.zero).after=true
   ·rw [bW (by rw [e1.1,cR e1.2,e2]; decide)]
    have hs:mput (l.aJ.getD i bB.zero).name (l.aJ.getD i bB.zero).after (zN2 (l.aJ.take i))=zN2 (l.aJ.take (i+1)):=by rw [zD4 bB.zero c,zay5]
    simp only [hs]
    by_cases e3:(zN2 (l.aJ.take (i+1))).length≤8
    ·left
     rw [bW (by simp; omega)]
     refine ⟨_,rfl,⟨i+1,rfl,c,rfl,fun j hj'=>?_,e3⟩,by simp only [Int.toNat_natCast]; omega⟩
     rcases fX j i with k|k
     ·exact hj j k
     ·have:j=i:=by omega
      subst this; exact ⟨e1.1,e1.2,e2⟩
    ·right
     rw [bY (by simp; omega)]
     refine ⟨_,rfl,.inr ⟨rfl,fun h=>e3 ?_⟩⟩
     have:=zcq1 l.aJ (l.aJ.length - (i+1)) (i+1)
     rw [show i+1+(l.aJ.length - (i+1))=l.aJ.length by omega,dW] at this
     omega
   ·right
    rw [bY (by rw [dD.2 e2]; simp)]
    exact ⟨_,rfl,.inr ⟨rfl,fun h=>e2 (h.1 i c).2.2⟩⟩
  ·right
   have hc:(!zJ8 (l.aJ.getD i bB.zero).name||!decide ((l.aJ.getD i bB.zero).before=zt3 (l.aJ.take i) (l.aJ.getD i bB.zero).name))=true:=by
    rw [dK,cN,cN,cG]
    by_cases n:zJ8 (l.aJ.getD i bB.zero).name=true
    ·exact .inr fun h=>e1 ⟨n,h⟩
    ·exact .inl (dD.2 n)
   rw [bW (by rw [hc]; decide),Option.bind_some,bY (by rw [hc]; rfl)]
   exact ⟨_,rfl,.inr ⟨rfl,fun h=>e1 ⟨(h.1 i c).1,(h.1 i c).2.1⟩⟩⟩
 ·right
  have e:i=l.aJ.length:=by omega
  subst e
  rw [dW] at h8
  simp only [show ¬ (l.aJ.length:Int) < (l.aJ.length:Int) by omega,cL,bT,cA]
  exact ⟨_,rfl,.inl ⟨rfl,hj,h8⟩⟩
theorem zbk9 (l:List bI) (x:Int) (hl:l.length≤1000000):∃ v,zh0 l x=some v∧(v < 0∧(∀ s ∈ l,s.label≠x)∨0≤v∧∃ s ∈ l,s.label=x):=by
 unfold zh0
 rw [zav0 l bI.zero (fun a=>decide (a.label=x)) (fun i hi=>by
  unfold zY5
  have h3:0≤(i:Int)∧(i:Int) < (l.length:Int):=by omega
  simp only [h3.1,h3.2,cQ,zk1,cB,bZ,Int.toNat_natCast,zd4 i (show i < 4611686018427387904 by omega)]
  split <;> rfl) (by unfold zY5; simp)]
 cases h:l.findIdx? fun a=>decide (a.label=x) with
 | none =>
  refine ⟨-1,rfl,.inl ⟨by decide,fun s hs e=>?_⟩⟩
  have:=eY.1 h s hs
  simp [e] at this
 | some i =>
  obtain ⟨h1,h2,_⟩:=eA.1 h
  exact ⟨i,rfl,.inr ⟨by omega,_,gW h1,fQ h2⟩⟩
theorem zaT8 {l:List bI} {i:Nat} (hi:i≤l.length) {P:bI→Prop}:(∀ s ∈ l.take i,P s) ↔ ∀ j,j < i→P (l.getD j bI.zero):=by
 constructor
 ·intro h j hj
  refine h _ ?_
  rw [bU,bX (by omega),Option.getD_some]
  exact jJ.2 ⟨j,by omega,rfl⟩
 ·intro h s hs
  obtain ⟨j,hj,rfl⟩:=jJ.1 hs
  have:=h j (by omega)
  rwa [bU,bX (by omega),Option.getD_some] at this
def zbx7 (l:List bI) (i:Nat):Int:=if i=0 then 0 else (l.getD (i - 1) bI.zero).at_
theorem zbK9 (l:bC) (h4:l.bE.length≤4) (he:l.aJ.length≤1000):∃ b,ze2 l.bE (l.aJ.length:Int)=some b∧(b=true ↔ ∀ i,i < l.bE.length→zaP2 l i):=by
 unfold ze2
 rw [bW (by simp; omega)]
 obtain ⟨x,h1,h2⟩:=zv4 (body:=zM2 l.bE (l.aJ.length:Int)) (fun g=>∃ i:Nat,g.2=i∧i≤l.bE.length∧g.1=zbx7 l.bE i∧0≤g.1∧∀ j,j < i→zaP2 l j) (fun g=>l.bE.length - g.2.toNat)
  (fun x=>x=.inl ()∧(∀ i,i < l.bE.length→zaP2 l i)∨x=.inr false∧¬ ∀ i,i < l.bE.length→zaP2 l i) (fun g ⟨i,hi,hle,hg,h0,hj⟩=>by
   obtain ⟨g1,g2⟩:=g
   simp only at hi hg h0
   subst hi; subst hg
   unfold zM2
   by_cases c:i < l.bE.length
   ·have h3:0≤(i:Int)∧(i:Int) < (l.bE.length:Int):=by omega
    have h5:(i:Int)≤(l.bE.length:Int):=by omega
    simp only [h3.1,h3.2,h5,cQ,zk1,cB,bZ,Int.toNat_natCast,Int.le_refl,dU,zd4 i (show i < 4611686018427387904 by omega)]
    obtain ⟨s,hs⟩:∃ s,l.bE.getD i bI.zero=s:=⟨_,rfl⟩
    simp only [hs]
    by_cases e1:1≤s.label∧s.label≤99
    ·have d1:decide (s.label < 1)=false:=by simp; omega
     have d2:decide (99 < s.label)=false:=by simp; omega
     obtain ⟨v,k1,k2⟩:=zbk9 (l.bE.take i) s.label (by rw [dL]; omega)
     simp only [d1,d2,jB,cX,bZ,k1,Option.bind_some,dB]
     rcases k2 with ⟨k2,k3⟩|⟨k2,k3⟩
     ·rw [bW (by simp; omega)]
      rw [zaT8 hle] at k3
      by_cases e2:zbx7 l.bE i≤s.at_∧s.at_≤(l.aJ.length:Int)
      ·left
       rw [bW (by simp; omega)]
       have hv:zaP2 l i:=by
        unfold zaP2
        rw [hs]
        refine ⟨e1.1,e1.2,by omega,e2.2,fun hp=>?_,k3⟩
        have:=e2.1
        unfold zbx7 at this
        rwa [bW (by omega)] at this
       refine ⟨_,rfl,⟨i+1,rfl,c,by simp only [zbx7,Nat.succ_ne_zero,cA,Nat.add_sub_cancel,hs],by simp only; omega,fun j hj'=>?_⟩,by simp only [Int.toNat_natCast]; omega⟩
       rcases fX j i with k|k
       ·exact hj j k
       ·have:j=i:=by omega
        subst this; exact hv
      ·right
       rw [bY (by simp; omega)]
       refine ⟨_,rfl,.inr ⟨rfl,fun h=>e2 ?_⟩⟩
       have hv:=h i c
       unfold zaP2 at hv
       rw [hs] at hv
       refine ⟨?_,hv.2.2.2.1⟩
       unfold zbx7
       split
       ·exact hv.2.2.1
       ·exact hv.2.2.2.2.1 (by omega)
     ·right
      rw [bY (by simpa using k2)]
      refine ⟨_,rfl,.inr ⟨rfl,fun h=>?_⟩⟩
      have hv:=h i c
      unfold zaP2 at hv
      rw [hs] at hv
      obtain ⟨s',hs',e⟩:=k3
      exact (zaT8 hle (P:=fun s'=>s'.label≠s.label)).2 hv.2.2.2.2.2 s' hs' e
    ·right
     have d:(decide (s.label < 1)||decide (99 < s.label))=true:=by simp; omega
     simp only [d,cP,bT,cA,Option.bind_some,fW,bZ]
     refine ⟨_,rfl,.inr ⟨rfl,fun h=>e1 ?_⟩⟩
     have hv:=h i c
     unfold zaP2 at hv
     rw [hs] at hv
     exact ⟨hv.1,hv.2.1⟩
   ·right
    have e:i=l.bE.length:=by omega
    subst e
    simp only [show ¬ (l.bE.length:Int) < (l.bE.length:Int) by omega,cL,bT,cA]
    exact ⟨_,rfl,.inl ⟨rfl,hj⟩⟩) (0,0) ⟨0,rfl,by omega,rfl,by decide,fun j hj=>by omega⟩
 rcases h2 with ⟨rfl,h2⟩|⟨rfl,h2⟩
 ·exact ⟨true,by rw [h1]; rfl,fun _=>h2,fun _=>rfl⟩
 ·exact ⟨false,by rw [h1]; rfl,(fun h=>nomatch h),fun h=>absurd h h2⟩
theorem zbl0 (l:bC):∃ b,zo8 l=some b∧(b=true ↔ LedgerP l):=by
 unfold zo8
 have hn:=zaH4 l.aJ
 obtain ⟨x,h1,⟨rfl,h2,h3⟩|⟨rfl,h2⟩⟩:=zbx6 l
 ·rw [h1,Option.bind_some]
  show ∃ b,zY8 l ()=some b∧_
  unfold zY8
  have h64:=zbU8 (i:=l.aJ.length) (cS _) h2 (by rw [dW]; exact h3)
  have h8:∀ ns:List ByteArray,ns.Nodup→(∀ n ∈ ns,∃ e ∈ l.aJ,e.name=n)→ns.length≤8:=fun ns nd hs=>by
   have:=dZ nd (l₂:=(zN2 l.aJ).map (·.1)) fun n m=>(hn.1 n).2 (hs n m)
   rw [dV] at this
   omega
  by_cases c:l.bE.length≤4
  ·obtain ⟨b,k1,k2⟩:=zbK9 l c (by omega)
   rw [k1]
   exact ⟨b,rfl,fun h=>⟨by omega,c,h2,h8,k2.1 h⟩,fun h=>k2.2 h.sv⟩
  ·refine ⟨false,?_,(fun h=>nomatch h),fun h=>absurd h.ls c⟩
   unfold ze2
   rw [bY (by simp; omega)]; rfl
 ·refine ⟨false,by rw [h1]; rfl,(fun h=>nomatch h),fun h=>absurd ⟨h.ent,?_⟩ h2⟩
  have:=h.n8 _ hn.2 fun n m=>(hn.1 n).1 m
  rwa [dV] at this
theorem zbx8 (l:bC) (n:ByteArray) (hl:l.aJ.length≤1000):zl3 l n=some (zt3 l.aJ n):=by
 unfold zl3
 rw [zaP5 _ (by omega),Option.bind_some,zaR4]
theorem zbx9 {V:Type} {n:ByteArray} {v:V}:∀ {m:List (ByteArray×V)},(m.map (·.1)).Nodup→((n,v) ∈ m ↔ mget n m=some v)
 | [],_=>by simp [mget]
 | p :: m,h=>by
  have h2:=iJ.1 h
  unfold mget
  cases hb:n.toList == p.1.toList with
  | true =>
   rw [zJ9,bV] at hb
   subst hb
   simp only [cond_true,cE,cU]
   constructor
   ·rintro (e|e)
    ·rw [← e]
    ·exact absurd (cV.2 ⟨_,e,rfl⟩) h2.1
   ·intro e; left; rw [← e]
  | false =>
   rw [zJ9,cG] at hb
   simp only [cond_false,cE,zbx9 h2.2]
   exact ⟨fun e=>e.elim (fun e=>absurd (cW Prod.fst e) hb) id,.inr⟩
def zbj6 (p:ByteArray×aA):Option aD:=if p.2=aA.zero then none else some ⟨p.1,p.2⟩
theorem zaP7:∀ (es:List (ByteArray×aA)) (g:List aD),g.length+es.length≤1000→zaI0 zJ4 (fun g1:List aD=>g1) es g=some (g++es.filterMap zbj6)
 | [],g,_=>by simp [zaI0]
 | e :: es,g,h=>by
  simp only [List.length_cons] at h
  unfold zaI0 zJ4
  rw [List.filterMap_cons]
  by_cases c:e.2=aA.zero
  ·have:zbj6 e=none:=by unfold zbj6; rw [bY c]
   rw [bW (by simpa using c),this]
   exact zaP7 es g (by omega)
  ·have:zbj6 e=some ⟨e.1,e.2⟩:=by unfold zbj6; rw [bW c]
   rw [bY (by simpa using c),gdp (by omega),this]
   show zaI0 zJ4 (fun g1:List aD=>g1) es (g++[⟨e.1,e.2⟩])=_
   rw [zaP7 es _ (by simp; omega),dI]; rfl
theorem zaH5 {p:ByteArray×aA} {a:aD}:zbj6 p=some a ↔ p.2≠aA.zero∧a=⟨p.1,p.2⟩:=by
 unfold zbj6
 split
 ·rename_i h; exact ⟨(fun h=>nomatch h),fun h2=>absurd h h2.1⟩
 ·rename_i h; exact ⟨fun e=>⟨h,(dG e).symm⟩,fun e=>by rw [e.2]⟩
theorem zah8 {l:List bB} {n:ByteArray} {a:aD}:sayF l n=some a ↔ zt3 l n≠aA.zero∧a=⟨n,zt3 l n⟩:=by
 unfold sayF
 split
 ·rename_i h; exact ⟨(fun h=>nomatch h),fun h2=>absurd h h2.1⟩
 ·rename_i h; exact ⟨fun e=>⟨h,(dG e).symm⟩,fun e=>by rw [e.2]⟩
theorem zbL0 {l:List bB} {n:ByteArray} (h:zt3 l n≠aA.zero):mget n (zN2 l)=some (zt3 l n):=by
 have:=zaR4 l n
 cases hm:mget n (zN2 l) with
 | none=>rw [hm] at this; exact absurd this.symm h
 | some v=>rw [hm] at this; rw [← this]; rfl
theorem zcc4 (l:List bB) {ns:List ByteArray} (ha:ns.Pairwise ltN) (hn:∀ n,n ∈ ns ↔ ∃ e ∈ l,e.name=n):((zN2 l).filterMap zbj6).Perm (ns.filterMap (sayF l)):=by
 have h:=zaH4 l
 have hd:(zN2 l).Pairwise fun p q=>p.1≠q.1:=List.pairwise_map.1 h.2
 refine (gN (iM _ (fun a a' hne b hb b' hb' e=>?_) hd) (iM _ (fun a a' hlt b hb b' hb' e=>?_) ha)).2 fun a=>?_
 ·rw [(zaH5.1 hb).2,(zaH5.1 hb').2] at e
  exact hne (cW aD.name e)
 ·rw [(zah8.1 hb).2,(zah8.1 hb').2] at e
  exact zaH1 hlt (cW aD.name e)
 ·rw [eE,eE]
  constructor
  ·rintro ⟨⟨n,v⟩,hm,e⟩
   obtain ⟨h1,rfl⟩:=zaH5.1 e
   have hg:=(zbx9 h.2).1 hm
   have hh:=zaR4 l n
   rw [hg] at hh
   simp only [Option.getD_some] at hh
   subst hh
   exact ⟨n,(hn n).2 ((h.1 n).1 (cV.2 ⟨_,hm,rfl⟩)),zah8.2 ⟨h1,rfl⟩⟩
  ·rintro ⟨n,hm,e⟩
   obtain ⟨h1,rfl⟩:=zah8.1 e
   exact ⟨(n,zt3 l n),(zbx9 h.2).2 (zbL0 h1),zaH5.2 ⟨h1,rfl⟩⟩
theorem zcE2 {s l:List aD} (h:s.Pairwise fun a b=>ltN a.name b.name) (hl:s.length≤1000) (hp:l.Perm s):zb7 l=some s:=by
 have:=zcq0 zr1 (fun x y=>zan2 _ _) (fun x y z h k=>zaG4 h k) (h.imp fun {x y} k=>by
  unfold ltN at k
  rw [ByteArray.toList_eq,ByteArray.toList_eq] at k
  exact zcP5 k) hp
 unfold zb7
 rw [gdp ⟨by rw [hp.length_eq]; omega,this.1⟩,this.2]
theorem zby0 {α:Type} (m:List α) (d:α):(List.range m.length).map (m.getD · d)=m:=by
 apply iX
 ·simp
 ·intro i h1 h2
  rw [List.getElem_map,List.getElem_range,bU,bX h2,Option.getD_some]
theorem zay6 {l:bC} (hl:l.aJ.length≤500):∃ ns:List ByteArray,ns.Pairwise ltN∧(∀ n,n ∈ ns ↔ ∃ e ∈ l.aJ,e.name=n)∧zj8 l=some (ns.filterMap (sayF l.aJ))∧zg8 l=some (ns.filterMap (sayF l.aJ))∧ns.length≤l.aJ.length:=by
 obtain ⟨ns,h1,h2,h3,h4⟩:=zaA9 l (by omega)
 refine ⟨ns,h1,h2,?_,h3,h4⟩
 have hn:=zaH4 l.aJ
 have hlen:(zN2 l.aJ).length≤ns.length:=by
  have:=dZ hn.2 (l₂:=ns) fun n m=>(h2 n).2 ((hn.1 n).1 m)
  rwa [dV] at this
 unfold zj8
 rw [zaP5 _ (by omega),Option.bind_some]
 refine zcL7 fun q hq=>?_
 have hp:(q.map ((zN2 l.aJ).getD · (⟨#[]⟩,aA.zero))).Perm (zN2 l.aJ):=by
  have:=hq.map ((zN2 l.aJ).getD · (⟨#[]⟩,aA.zero))
  rwa [zby0] at this
 rw [zaP7 _ _ (by rw [hp.length_eq]; simp only [List.length_nil]; omega),Option.bind_some,List.nil_append]
 show zJ3 _=_
 unfold zJ3
 rw [zcE2 (s:=ns.filterMap (sayF l.aJ)) ?_ ?_ ((hp.filterMap _).trans (zcc4 _ h1 h2))]
 ·rfl
 ·exact iM _ (fun a a' hlt b hb b' hb'=>by rw [(zah8.1 hb).2,(zah8.1 hb').2]; exact hlt) h1
 ·have:=eP (sayF l.aJ) ns
  omega
structure WaitV (now:Int) (t:List aF) (x:aO):Prop where
 ve:vE x.aQ.bL=true
 pr:0≤x.aQ.aW∧x.aQ.aW≤7
 li:0≤x.aQ.limit∧x.aQ.limit≤1000
 since:0≤x.since∧x.since≤now
 res:∀ L b,zl4 x.aQ.bL=some (L,b)→∀ a ∈ L,∃ q ∈ t,q.aB.name=a.name∧zb8 q.aB a.aI=true
 part:∀ L b,zl4 x.aQ.bL=some (L,b)→∀ q ∈ t,zaB0 q x L
structure ProcV (now:Int) (t:List aF) (x:aO):Prop where
 pv:zc9 x.aN=true
 cost:1≤x.cost∧x.cost≤1000
 gen:0≤x.gen∧x.gen≤1073741824
 led:LedgerP x.bD
 held:∀ n,zt3 x.bD.aJ n≠aA.zero→∃ q ∈ t,q.aB.name=n∧zb8 q.aB (zt3 x.bD.aJ n)=true
 wait:x.bM=true→WaitV now t x
 run:x.bM=false→x.aQ=bG.zero∧x.since=0∧∀ q ∈ t,getH q.bA x.aN=zt3 x.bD.aJ q.aB.name∧(zae6 q x.aN).2=false
def zaP8 (now:Int) (t:List aF) (x:aO):Prop:=x.bM=true→(x.aQ.limit=0∨now < x.since+x.aQ.limit)∧∀ bs,zx6 t x.aN x.aQ.bL=some bs→zv0 x.aQ.bL bs=some false
structure CenV (c:aY):Prop where
 now:0≤c.now∧c.now≤1073741824
 t:ValidT c.aM
 len:c.aX.length≤8
 each:∀ x ∈ c.aX,ProcV c.now c.aM x
 asc:c.aX.Pairwise fun a b=>ltP a.aN b.aN
 aX:∀ p ∈ zaO6 c.aM,∃ x ∈ c.aX,x.aN=p
 quiet:∀ x ∈ c.aX,zaP8 c.now c.aM x
theorem ValidT.inj {t:List aF} (h:ValidT t) {q q':aF} (h1:q ∈ t) (h2:q' ∈ t) (e:q.aB.name=q'.aB.name):q=q':=by
 obtain ⟨i,hi,rfl⟩:=zD8 (z:=aF.zero) h1
 obtain ⟨j,hj,rfl⟩:=zD8 (z:=aF.zero) h2
 rw [zbn1 h.asc hi hj e]
theorem ValidT.lens' {t:List aF} (h:ValidT t):t.length≤1000∧Lens t:=⟨by have:=h.len; omega,h.lens⟩
theorem zaP9 {l:List bB} {n:ByteArray} (h:zt3 l n≠aA.zero):∃ e ∈ l,e.name=n:=by
 have:∀ (l:List bB) (a:aA),(∀ e ∈ l,e.name≠n)→l.foldl (sayE n) a=a:=by
  intro l
  induction l with
  | nil=>intro a _; rfl
  | cons e l ih =>
   intro a hn
   rw [List.foldl_cons]
   have:sayE n a e=a:=by unfold sayE; rw [bW (hn e (.head _))]
   rw [this]; exact ih a fun x hx=>hn x (.tail _ hx)
 by_cases c:∃ e ∈ l,e.name=n
 ·exact c
 ·exact absurd (this l aA.zero fun e he hh=>c ⟨e,he,hh⟩) h
theorem zcc5 (c:aY) (hl:c.aM.length≤1000) (v:List aD) (hv:v.length≤1000) (hi:AscN c.aM) :
  zc6 (zH7 c v) 0=some (.inr false)∧(¬ ∀ i,i < v.length→∃ q ∈ c.aM,q.aB.name=(v.getD i aD.zero).name∧zb8 q.aB (v.getD i aD.zero).aI=true)∨zc6 (zH7 c v) 0=some (.inl ())∧∀ i,i < v.length→∃ q ∈ c.aM,q.aB.name=(v.getD i aD.zero).name∧zb8 q.aB (v.getD i aD.zero).aI=true :=
 zL6 v.length _ (fun i hi2=>by
  unfold zH7
  have h3:0≤(i:Int)∧(i:Int) < (v.length:Int):=by omega
  simp only [h3.1,h3.2,cQ,dU,zk1,cB,bZ,Int.toNat_natCast,zd4 i (show i < 4611686018427387904 by omega),zaT7 c.aM _ (show c.aM.length≤1000000 by omega),Option.bind_some]
  rcases zaO9 (t:=c.aM) (nm:=(v.getD i aD.zero).name) with e|⟨k,e,hk,hn⟩
  ·refine ⟨false,?_,(fun h=>nomatch h),fun ⟨q,hq,hqn,_⟩=>?_⟩
   ·rw [e,gdp (by intro h; exact absurd h (by decide))]; rfl
   ·obtain ⟨j,hj,rfl⟩:=zD8 (z:=aF.zero) hq
    have:=zbT4 hi hj
    rw [hqn,e] at this; omega
  ·rw [e,gdp (by intro _; omega)]
   simp only [Int.toNat_natCast,show ¬ (k:Int) < 0 by omega,cL,dB]
   cases hf:zs6 (c.aM.getD k aF.zero).aB (v.getD i aD.zero).aI with
   | false =>
    refine ⟨false,rfl,(fun h=>nomatch h),fun ⟨q,hq,hqn,hqf⟩=>?_⟩
    obtain ⟨j,hj,rfl⟩:=zD8 (z:=aF.zero) hq
    have:=zbn1 hi hj hk (hqn.trans hn.symm)
    subst this
    rw [← zau1,hf] at hqf; cases hqf
   | true=>exact ⟨true,rfl,(fun _=>⟨_,zs3 hk,hn,by rw [← zau1]; exact hf⟩),fun _=>rfl⟩) (by unfold zH7; simp)
theorem zbV0 (c:aY) (x:aO) (L:List aD) (hL:L.length≤8) (hd:dnN L) (he:x.bD.aJ.length≤1000) (hl:c.aM.length≤1000) (hs:Lens c.aM) :
  zc6 (zD1 c x L) 0=some (.inr false)∧(¬ ∀ q ∈ c.aM,zaB0 q x L)∨zc6 (zD1 c x L) 0=some (.inl ())∧∀ q ∈ c.aM,zaB0 q x L:=by
 have key:=zL6 (body:=zD1 c x L) c.aM.length (fun i=>zaB0 (c.aM.getD i aF.zero) x L) (fun i hi=>by
  unfold zD1
  have h3:0≤(i:Int)∧(i:Int) < (c.aM.length:Int):=by omega
  have h4:=zaA8 hs hi
  obtain ⟨b,h1,h2⟩:=zcN7 (c.aM.getD i aF.zero) x L he (by omega) (by omega) (by omega) (by omega) hd
  simp only [h3.1,h3.2,cQ,dU,zk1,cB,bZ,Int.toNat_natCast,zd4 i (show i < 4611686018427387904 by omega),h1,Option.bind_some]
  cases b with
  | false=>exact ⟨false,rfl,h2⟩
  | true=>exact ⟨true,rfl,h2⟩) (by unfold zD1; simp)
 have hm:=zX0 (P:=fun q:aF=>zaB0 q x L) (l:=c.aM) (z:=aF.zero)
 rcases key with ⟨h1,h2⟩|⟨h1,h2⟩
 ·exact .inl ⟨h1,fun h=>h2 (hm.2 h)⟩
 ·exact .inr ⟨h1,hm.1 h2⟩
theorem zaT9 {t:List aF} (hv:ValidT t) {l:List bB} {p:aH} {ns:List ByteArray} (h1:ns.Pairwise ltN) (h2:∀ n,n ∈ ns ↔ ∃ e ∈ l,e.name=n) (hheld:∀ n,zt3 l n≠aA.zero→∃ q ∈ t,q.aB.name=n) :
  ns.filterMap (sayF l)=t.filterMap (zae7 p) ↔ ∀ q ∈ t,getH q.bA p=zt3 l q.aB.name:=by
 have hsay:∀ n,(⟨n,zt3 l n⟩:aD) ∈ ns.filterMap (sayF l) ↔ zt3 l n≠aA.zero:=fun n=>by
  rw [eE]
  constructor
  ·rintro ⟨m,hm,e⟩ z
   unfold sayF at e
   split at e
   ·cases e
   ·rename_i c
    simp only [cU,aD.mk.injEq] at e
    rw [e.1] at c; exact c z
  ·exact fun hn=>⟨n,(h2 n).2 (zaP9 hn),by unfold sayF; rw [bW hn]⟩
 have hhold:∀ q ∈ t,∀ a,(⟨q.aB.name,a⟩:aD) ∈ t.filterMap (zae7 p) ↔ getH q.bA p=a∧a≠aA.zero:=fun q hq a=>by
  rw [eE]
  constructor
  ·rintro ⟨q',hq',e⟩
   unfold zae7 at e
   split at e
   ·cases e
   ·rename_i c
    simp only [cU,aD.mk.injEq] at e
    rw [← hv.inj hq' hq e.1,← e.2]
    exact ⟨rfl,c⟩
  ·rintro ⟨rfl,c⟩
   exact ⟨q,hq,by unfold zae7; rw [bW c]⟩
 constructor
 ·intro e q hq
  by_cases z1:getH q.bA p=aA.zero
  ·by_cases z2:zt3 l q.aB.name=aA.zero
   ·rw [z1,z2]
   ·have:=(hsay _).2 z2
    rw [e,hhold q hq] at this
    exact this.1
  ·have:=(hhold q hq _).2 ⟨rfl,z1⟩
   rw [← e] at this
   obtain ⟨m,hm,e2⟩:=eE.1 this
   unfold sayF at e2
   split at e2
   ·cases e2
   ·simp only [cU,aD.mk.injEq] at e2
    rw [← e2.1]; exact e2.2.symm
 ·intro h
  have irr:∀ a:ByteArray,¬ ltN a a:=fun a h=>zaH1 h rfl
  have p1:(ns.filterMap (sayF l)).Pairwise fun a b:aD=>ltN a.name b.name:=by
   rw [iN]
   refine h1.imp fun {a b} hab x hx y hy=>?_
   have g:∀ {n:ByteArray} {z:aD},sayF l n=some z→z.name=n:=fun {n z} hz=>by
    unfold sayF at hz; split at hz
    ·cases hz
    ·cases hz; rfl
   rw [g hx,g hy]; exact hab
  have p2:(t.filterMap (zae7 p)).Pairwise fun a b:aD=>ltN a.name b.name:=by
   rw [iN]
   refine hv.asc.imp fun {a b} hab x hx y hy=>?_
   have g:∀ {q:aF} {z:aD},zae7 p q=some z→z.name=q.aB.name:=fun {q z} hz=>by
    unfold zae7 at hz; split at hz
    ·cases hz
    ·cases hz; rfl
   rw [g hx,g hy]; exact hab
  have nd:∀ {m:List aD},(m.Pairwise fun a b:aD=>ltN a.name b.name)→m.Nodup:=fun hm=>hm.imp fun hab e=>by rw [e] at hab; exact irr _ hab
  refine iH (le:=fun a b:aD=>ltN a.name b.name) (fun a b _ _ h3 h4=>absurd (zau9 h3 h4) (irr _)) p1 p2 ((gN (nd p1) (nd p2)).2 fun a=>?_)
  constructor
  ·intro ha
   obtain ⟨n,hn,e⟩:=eE.1 ha
   unfold sayF at e
   split at e
   ·cases e
   ·rename_i c
    cases e
    obtain ⟨q,hq,rfl⟩:=hheld _ c
    rw [hhold q hq]; exact ⟨h q hq,c⟩
  ·intro ha
   obtain ⟨q,hq,e⟩:=eE.1 ha
   unfold zae7 at e
   split at e
   ·cases e
   ·rename_i c
    cases e
    rw [h q hq] at c ⊢
    exact (hsay _).2 c
theorem zbj7 {t:List aF} {p:aH}:((t.filterMap (zag5 p)).length:Int)=0 ↔ ∀ q ∈ t,(zae6 q p).2=false:=by
 constructor
 ·intro h q hq
  rcases hb (zae6 q p).2 with c|c
  ·have:(⟨q.aB.name,(zae6 q p).1⟩:aD) ∈ t.filterMap (zag5 p):=eE.2 ⟨q,hq,by unfold zag5; rw [bY c]⟩
   rw [cO (l:=t.filterMap (zag5 p)) (by omega)] at this; cases this
  ·exact c
 ·intro h
  have:t.filterMap (zag5 p)=[]:=List.filterMap_eq_nil_iff.2 fun q hq=>by unfold zag5; rw [bW (by rw [h q hq]; decide)]
  rw [this]; rfl
theorem zcE3 {t:List aF} (hv:ValidT t):catV (t.map (·.aB))=true:=by
 rw [zbw4]
 refine ⟨by rw [dV]; exact hv.len,fun r hr=>?_,?_⟩
 ·obtain ⟨q,hq,rfl⟩:=cV.1 hr
  exact ((zaO2 q).1 (hv.each q hq)).1.res
 ·rw [List.pairwise_map]; exact hv.asc
theorem zay7 (r:bG):zM9 r=some (vE r.bL&&(decide (0≤r.aW)&&(decide (r.aW≤7)&&(decide (0≤r.limit)&&decide (r.limit≤1000))))):=by
 unfold zM9
 rw [zay0,Option.bind_some]
 simp only [gH]
theorem zcc6 (c:aY) (x:aO) (hv:ValidT c.aM) (hnow:0≤c.now∧c.now≤1073741824):∃ b,zC7 c x=some b∧(b=true ↔ ProcV c.now c.aM x∧zaP8 c.now c.aM x):=by
 obtain ⟨hl,hs⟩:=hv.lens'
 unfold zC7
 obtain ⟨bl,l1,l2⟩:=zbw9 x.bD
 rw [l1,zba3]
 cases hp:zc9 x.aN with
 | false=>exact ⟨false,rfl,(fun h=>nomatch h),fun h=>by have:=h.1.pv; rw [hp] at this; cases this⟩
 | true =>
 by_cases cc:x.cost < 1∨1000 < x.cost
 ·refine ⟨false,?_,(fun h=>nomatch h),fun h=>by have:=h.1.cost; omega⟩
  rcases cc with h|h <;> simp [h]
 have c1:¬ x.cost < 1:=fun h=>cc (.inl h)
 have c2:¬ 1000 < x.cost:=fun h=>cc (.inr h)
 simp only [c1,c2,cL,cP,eZ,cX,bZ,Option.bind_some,dB]
 cases bl with
 | false=>exact ⟨false,rfl,(fun h=>nomatch h),fun h=>l2.2 h.1.led⟩
 | true =>
 have led:=l2.1 rfl
 by_cases cg:x.gen < 0∨1073741824 < x.gen
 ·refine ⟨false,?_,(fun h=>nomatch h),fun h=>by have:=h.1.gen; omega⟩
  rcases cg with h|h <;> simp [h]
 have g1:¬ x.gen < 0:=fun h=>cg (.inl h)
 have g2:¬ 1073741824 < x.gen:=fun h=>cg (.inr h)
 simp only [g1,g2,cL,cP,eZ,bT,cA]
 obtain ⟨ns,n1,n2,n3,n4⟩:=zaA9 x.bD (by have:=led.le; omega)
 have hle:=led.le
 have hv':(ns.filterMap (sayF x.bD.aJ)).length≤1000:=by have:=eP (sayF x.bD.aJ) ns; omega
 rw [n3,Option.bind_some]
 have hheldiff:(∀ i,i < (ns.filterMap (sayF x.bD.aJ)).length→∃ q ∈ c.aM,q.aB.name=((ns.filterMap (sayF x.bD.aJ)).getD i aD.zero).name∧zb8 q.aB ((ns.filterMap (sayF x.bD.aJ)).getD i aD.zero).aI=true) ↔
   ∀ n,zt3 x.bD.aJ n≠aA.zero→∃ q ∈ c.aM,q.aB.name=n∧zb8 q.aB (zt3 x.bD.aJ n)=true:=by
  rw [zX0 (P:=fun a:aD=>∃ q ∈ c.aM,q.aB.name=a.name∧zb8 q.aB a.aI=true)]
  constructor
  ·intro h n hn
   exact h ⟨n,zt3 x.bD.aJ n⟩ (eE.2 ⟨n,(n2 n).2 (zaP9 hn),by unfold sayF; rw [bW hn]⟩)
  ·intro h a ha
   obtain ⟨n,hn,e⟩:=eE.1 ha
   unfold sayF at e
   split at e
   ·cases e
   ·rename_i c; cases e; exact h n c
 rcases zcc5 c hl _ hv' hv.asc with ⟨h1,h2⟩|⟨h1,h2⟩
 ·exact ⟨false,by rw [h1]; rfl,(fun h=>nomatch h),fun h=>absurd (hheldiff.2 h.1.held) h2⟩
 have hheld:=hheldiff.1 h2
 rw [h1,Option.bind_some]
 show ∃ b,zO6 c x _ ()=some b∧_
 unfold zO6
 have hlen2:(c.aM.filterMap (zae7 x.aN)).length≤1000:=by have:=eP (zae7 x.aN) c.aM; omega
 cases hw:x.bM with
 | false =>
  simp only [cX,bZ]
  obtain ⟨b2,s2,s3⟩:=zbK8 x.aQ
  rw [s2,Option.bind_some,zbb5 _ _ hl hs,zbk7 _ _ hl hs]
  have hsame:=zaT9 (p:=x.aN) hv n1 n2 fun n hn=>by obtain ⟨q,hq,hqn,_⟩:=hheld n hn; exact ⟨q,hq,hqn⟩
  have hend:ProcV c.now c.aM x∧zaP8 c.now c.aM x ↔ (x.aQ=bG.zero∧x.since=0)∧ns.filterMap (sayF x.bD.aJ)=c.aM.filterMap (zae7 x.aN)∧((c.aM.filterMap (zag5 x.aN)).length:Int)=0:=by
   rw [hsame,zbj7]
   constructor
   ·rintro ⟨h,_⟩
    obtain ⟨r1,r2,r3⟩:=h.run hw
    exact ⟨⟨r1,r2⟩,fun q hq=>(r3 q hq).1,fun q hq=>(r3 q hq).2⟩
   ·rintro ⟨⟨r1,r2⟩,r3,r4⟩
    exact ⟨⟨hp,by omega,by omega,led,hheld,(fun h=>by rw [hw] at h; cases h),fun _=>⟨r1,r2,fun q hq=>⟨r3 q hq,r4 q hq⟩⟩⟩,fun h=>by rw [hw] at h; cases h⟩
  rw [hend]
  by_cases c3:(b2&&decide (x.since=0))=true
  ·have c3':=c3
   rw [bS,s3,bV] at c3'
   simp only [c3,bZ,Option.bind_some,zay4 _ _ (show (ns.filterMap (sayF x.bD.aJ)).length≤1000000 by omega),cF]
   by_cases c4:ns.filterMap (sayF x.bD.aJ)=c.aM.filterMap (zae7 x.aN)
   ·simp only [c4,cB,bZ,Option.bind_some,cF]
    exact ⟨_,rfl,fun h=>⟨c3',trivial,fQ h⟩,fun h=>cR h.2.2⟩
   ·simp only [c4,cL,bT,cA,Option.bind_some,eT]
    exact ⟨false,rfl,(fun h=>nomatch h),fun h=>h.2.1.elim⟩
  ·have c3':¬ (x.aQ=bG.zero∧x.since=0):=fun h=>c3 (by rw [bS,s3,bV]; exact h)
   simp only [c3,cA,Option.bind_some,bT,eT]
   exact ⟨false,rfl,(fun h=>nomatch h),fun h=>absurd h.1 c3'⟩
 | true =>
  simp only [cP,bT,cA]
  rw [zay7,Option.bind_some]
  by_cases hreq:vE x.aQ.bL=true∧(0≤x.aQ.aW∧x.aQ.aW≤7)∧(0≤x.aQ.limit∧x.aQ.limit≤1000)
  ·rw [show (vE x.aQ.bL&&(decide (0≤x.aQ.aW)&&(decide (x.aQ.aW≤7)&&(decide (0≤x.aQ.limit)&&decide (x.aQ.limit≤1000)))))=true by
    simp only [hreq.1,hreq.2.1.1,hreq.2.1.2,hreq.2.2.1,hreq.2.2.2,cB,gU]]
   obtain ⟨hvE,hpr,hli⟩:=hreq
   obtain ⟨l',a1,a2,a3⟩:=zay3 x.aQ.bL
   rw [hvE] at a3
   have hdn:=zbU5 a3
   obtain ⟨v9,r1,r2⟩:=zbf7 (c.aM.map (·.aB)) hvE (zcE3 hv) a3
   have r2':v9=0 ↔ ∀ a ∈ l',∃ q ∈ c.aM,q.aB.name=a.name∧zb8 q.aB a.aI=true:=by
    rw [r2]
    refine jP fun a=>jP fun ha=>?_
    constructor
    ·rintro ⟨r,hr,e⟩
     obtain ⟨q,hq,rfl⟩:=cV.1 hr
     exact ⟨q,hq,e⟩
    ·rintro ⟨q,hq,e⟩
     exact ⟨_,cV.2 ⟨q,hq,rfl⟩,e⟩
   simp only [bZ,zbf5 _ hl,Option.bind_some,r1,cP,dB]
   obtain ⟨bs,L,q1,q2,_⟩:=zbx3 c.aM x.aN x.aQ.bL hl hs
   obtain ⟨b11,q3,_⟩:=zaP4 hvE bs
   rw [q1]
   obtain ⟨B,hB,hB2⟩:∃ B:Bool,((((!decide (v9=0))||(decide (x.since < 0)))||(decide (c.now < x.since)))||((!decide (x.aQ.limit=0))&&(decide ((IntKind.i64.wrap (x.since+x.aQ.limit))≤c.now))))=B∧(B=false ↔ v9=0∧(0≤x.since∧x.since≤c.now)∧(x.aQ.limit=0∨c.now < x.since+x.aQ.limit)):=by
    refine ⟨_,rfl,?_⟩
    simp only [fZ,gR,Bool.not_eq_false',bV,cG]
    constructor
    ·rintro ⟨⟨⟨k1,k2⟩,k3⟩,k4⟩
     rw [zo7 (by omega) (by omega)] at k4
     exact ⟨k1,by omega,by omega⟩
    ·rintro ⟨k1,k2,k3⟩
     rw [zo7 (by omega) (by omega)]
     exact ⟨⟨⟨k1,by omega⟩,by omega⟩,by omega⟩
   have hq:∀ hh:zv0 x.aQ.bL bs=some b11,(∀ bs',zx6 c.aM x.aN x.aQ.bL=some bs'→zv0 x.aQ.bL bs'=some false) ↔ b11=false:=fun hh=>by
    rw [q1]
    constructor
    ·intro h; have:=h bs rfl; rw [hh] at this; exact dG this
    ·intro h bs' e; cases e; rw [hh,h]
   simp only [hB]
   cases B with
   | true =>
    refine ⟨false,rfl,(fun h=>nomatch h),fun h=>?_⟩
    have w:=h.1.wait hw
    exact (hB2.2 ⟨r2'.2 (w.res _ _ a3),w.since,(h.2 hw).1⟩).symm
   | false =>
    obtain ⟨k1,k2,k3⟩:=hB2.1 rfl
    simp only [cX,bZ,Option.bind_some,q3,dB]
    cases b11 with
    | true =>
     refine ⟨false,rfl,(fun h=>nomatch h),fun h=>?_⟩
     have:=(hq q3).1 (h.2 hw).2
     cases this
    | false =>
     simp only [bT,cA]
     rw [a1,Option.bind_some]
     rcases zbV0 c x l' a2 hdn (by omega) hl hs with ⟨h5,h6⟩|⟨h5,h6⟩
     ·exact ⟨false,by rw [h5]; rfl,(fun h=>nomatch h),fun h=>absurd ((h.1.wait hw).part _ _ a3) h6⟩
     ·refine ⟨true,by rw [h5]; rfl,fun _=>⟨⟨hp,by omega,by omega,led,hheld,fun _=>⟨hvE,hpr,hli,k2,fun L b hL=>?_,fun L b hL=>?_⟩,(fun h=>by rw [hw] at h; cases h)⟩,fun _=>⟨k3,(hq q3).2 rfl⟩⟩,fun _=>rfl⟩
      ·rw [a3] at hL; cases hL; exact r2'.1 k1
      ·rw [a3] at hL; cases hL; exact h6
  ·obtain ⟨B,hB⟩:∃ B:Bool,(vE x.aQ.bL&&(decide (0≤x.aQ.aW)&&(decide (x.aQ.aW≤7)&&(decide (0≤x.aQ.limit)&&decide (x.aQ.limit≤1000)))))=B:=⟨_,rfl⟩
   have hBf:B=false:=by
    rw [← hB,dD]
    intro h
    simp only [bS,bV] at h
    exact hreq ⟨h.1,⟨h.2.1,h.2.2.1⟩,h.2.2.2.1,h.2.2.2.2⟩
   rw [hB,hBf]
   exact ⟨false,rfl,(fun h=>nomatch h),fun h=>absurd ⟨(h.1.wait hw).ve,(h.1.wait hw).pr,(h.1.wait hw).li⟩ hreq⟩
theorem zbV1 (c:aY) (hl:c.aX.length≤8) (v:List aH) (hv:v.length≤1000) :
  zc6 (zH8 c v) 0=some (.inr false)∧(¬ ∀ p ∈ v,∃ x ∈ c.aX,x.aN=p)∨zc6 (zH8 c v) 0=some (.inl ())∧∀ p ∈ v,∃ x ∈ c.aX,x.aN=p:=by
 have key:=zL6 (body:=zH8 c v) v.length (fun i=>∃ x ∈ c.aX,x.aN=v.getD i aH.zero) (fun i hi=>by
  unfold zH8
  have h3:0≤(i:Int)∧(i:Int) < (v.length:Int):=by omega
  obtain ⟨k,h1,h2⟩:=zbx2 c.aX (v.getD i aH.zero) (by omega)
  simp only [h3.1,h3.2,cQ,dU,zk1,cB,bZ,Int.toNat_natCast,zd4 i (show i < 4611686018427387904 by omega),h1,Option.bind_some]
  rcases h2 with ⟨rfl,hn⟩|⟨k,rfl,hk,e⟩
  ·exact ⟨false,rfl,(fun h=>nomatch h),fun ⟨x,hx,e⟩=>absurd e (hn x hx)⟩
  ·exact ⟨true,by rw [bW (by simp),bY rfl],(fun _=>⟨_,zs3 hk,e⟩),fun _=>rfl⟩) (by unfold zH8; simp)
 have hm:=zX0 (P:=fun p:aH=>∃ x ∈ c.aX,x.aN=p) (l:=v) (z:=aH.zero)
 rcases key with ⟨h1,h2⟩|⟨h1,h2⟩
 ·exact .inl ⟨h1,fun h=>h2 (hm.2 h)⟩
 ·exact .inr ⟨h1,hm.1 h2⟩
theorem zcc7 (c:aY) (hl:c.aX.length≤8) (ht:ValidT c.aM) (hnow:0≤c.now∧c.now≤1073741824) :
  zc6 (zN8 c) 0=some (.inr false)∧(¬ ∀ i,i < c.aX.length→(ProcV c.now c.aM (c.aX.getD i aO.zero)∧zaP8 c.now c.aM (c.aX.getD i aO.zero))∧(0 < i→ltP (c.aX.getD (i - 1) aO.zero).aN (c.aX.getD i aO.zero).aN)) ∨
  zc6 (zN8 c) 0=some (.inl ())∧∀ i,i < c.aX.length→(ProcV c.now c.aM (c.aX.getD i aO.zero)∧zaP8 c.now c.aM (c.aX.getD i aO.zero))∧(0 < i→ltP (c.aX.getD (i - 1) aO.zero).aN (c.aX.getD i aO.zero).aN) :=
 zL6 c.aX.length _ (fun i hi=>by
  unfold zN8
  have h3:0≤(i:Int)∧(i:Int) < (c.aX.length:Int):=by omega
  obtain ⟨b,h1,h2⟩:=zcc6 c (c.aX.getD i aO.zero) ht hnow
  simp only [h3.1,h3.2,cQ,dU,zk1,cB,bZ,Int.toNat_natCast,zd4 i (show i < 4611686018427387904 by omega),h1,Option.bind_some]
  rw [gdp (by
   intro h
   simp only [bS,bV] at h
   rw [zo7 (by omega) (by omega)]; try omega)]
  cases b with
  | false=>exact ⟨false,rfl,(fun h=>nomatch h),fun h=>h2.2 h.1⟩
  | true =>
   simp only [cP,dB]
   by_cases c0:i=0
   ·subst c0
    exact ⟨true,rfl,(fun _=>⟨h2.1 rfl,fun h=>absurd h (by omega)⟩),fun _=>rfl⟩
   ·rw [zad4 i (by omega) (by omega)]
    simp only [show (0:Int) < (i:Int) by omega,cB,cF,Int.toNat_natCast]
    by_cases c1:ltP (c.aX.getD (i - 1) aO.zero).aN (c.aX.getD i aO.zero).aN
    ·refine ⟨true,?_,(fun _=>⟨h2.1 rfl,fun _=>c1⟩),fun _=>rfl⟩
     rw [bW (by simp only [bV]; exact fun h=>(zah5 _ _).1 h c1),bY rfl]
    ·refine ⟨false,?_,(fun h=>nomatch h),fun h=>absurd (h.2 (by omega)) c1⟩
     rw [bY (by simp only [bV]; exact (zah5 _ _).2 c1)]; rfl) (by unfold zN8; simp)
theorem zbF9 {l:List aO} (h:∀ i,i < l.length→0 < i→ltP (l.getD (i - 1) aO.zero).aN (l.getD i aO.zero).aN):l.Pairwise fun a b=>ltP a.aN b.aN:=by
 rw [dT]
 have g:∀ k,(hk:k < l.length)→l.getD k aO.zero=l[k]:=fun k hk=>by rw [bU,bX hk]; rfl
 have key:∀ d i,(hj:i+d+1 < l.length)→ltP (l.getD i aO.zero).aN (l.getD (i+d+1) aO.zero).aN:=by
  intro d
  induction d with
  | zero=>intro i hj; exact h (i+1) hj (by omega)
  | succ d ih =>
   intro i hj
   exact zau8 (ih i (by omega)) (h (i+(d+1)+1) hj (by omega))
 intro i j hi hj hij
 have:=key (j - i - 1) i (by omega)
 rw [show i+(j - i - 1)+1=j by omega,g i hi,g j hj] at this
 exact this
theorem zcE4 {l:List aO} (h:l.Pairwise fun a b=>ltP a.aN b.aN) {i j:Nat} (hj:j < l.length) (hij:i < j):ltP (l.getD i aO.zero).aN (l.getD j aO.zero).aN:=by
 have:=dT.1 h i j (by omega) hj hij
 rw [bU,bU,bX (by omega),bX hj]
 exact this
theorem zaQ0 (c:aY):∃ b,zI7 c=some b∧(b=true ↔ CenV c):=by
 unfold zI7
 by_cases c0:c.now < 0∨1073741824 < c.now
 ·refine ⟨false,?_,(fun h=>nomatch h),fun h=>by have:=h.now; omega⟩
  rcases c0 with h|h <;> simp [h]
 have c1:¬ c.now < 0:=fun h=>c0 (.inl h)
 have c2:¬ 1073741824 < c.now:=fun h=>c0 (.inr h)
 simp only [c1,c2,cL,eZ,cX,bZ,zbv2,Option.bind_some,dB]
 cases hv:zaO7 c.aM with
 | false=>exact ⟨false,rfl,(fun h=>nomatch h),fun h=>by have:=(zaH3 _).2 h.t; rw [hv] at this; cases this⟩
 | true =>
 have ht:=(zaH3 _).1 hv
 by_cases c3:(8:Int) < (c.aX.length:Int)
 ·exact ⟨false,by simp [c3],(fun h=>nomatch h),fun h=>by have:=h.len; omega⟩
 simp only [c3,cL,cP,eZ,bT,cA]
 have hl:c.aX.length≤8:=by omega
 rw [zaP0 ht.len ht.each,Option.bind_some]
 rcases zbV1 c hl (zaO6 c.aM) (by have:=ht.aX; omega) with ⟨h1,h2⟩|⟨h1,h2⟩
 ·exact ⟨false,by rw [h1]; rfl,(fun h=>nomatch h),fun h=>absurd h.aX h2⟩
 rw [h1,Option.bind_some]
 show ∃ b,zU9 c ()=some b∧_
 unfold zU9
 rcases zcc7 c hl ht (by omega) with ⟨h3,h4⟩|⟨h3,h4⟩
 ·exact ⟨false,by rw [h3]; rfl,(fun h=>nomatch h),fun h=>absurd (fun i hi=>⟨⟨h.each _ (zs3 hi),h.quiet _ (zs3 hi)⟩,fun h0=>zcE4 h.asc hi (by omega)⟩) h4⟩
 refine ⟨true,by rw [h3]; rfl,fun _=>⟨by omega,ht,hl,fun x hx=>?_,zbF9 fun i hi h0=>(h4 i hi).2 h0,h2,fun x hx=>?_⟩,fun _=>rfl⟩
 ·obtain ⟨i,hi,rfl⟩:=zD8 (z:=aO.zero) hx
  exact (h4 i hi).1.1
 ·obtain ⟨i,hi,rfl⟩:=zD8 (z:=aO.zero) hx
  exact (h4 i hi).1.2
theorem zby1 {c:aY} (h:CenV c):zI7 c=some true:=by
 obtain ⟨b,h1,h2⟩:=zaQ0 c
 rw [h1,h2.2 h]
theorem zal3 (k:aG) (l:List aG):zC8 (k :: l)=zI8 k++zC8 l:=by rw [zC8]
theorem zaB1:zC8 []=[]:=by rw [zC8]
theorem zbV2 (a b:List aG):zC8 (a++b)=zC8 a++zC8 b:=by
 induction a with
 | nil=>rw [zaB1]; rfl
 | cons x a ih=>rw [List.cons_append,zal3,zal3,ih,dI]
theorem zbj8:∀ (ks:List aG) (k:Nat),k < ks.length→((zC8 (ks.take k)).length:Int)+zo2 (ks.getD k aG.zero)≤zv2 ks
 | x :: ks,0,_=>by
  have:=zB0 ks
  simp [zaB1,zV6]
  omega
 | x :: ks,k+1,h=>by
  have:=zbj8 ks k (by simpa using h)
  have h2:=zaW9 x
  rw [List.take_succ_cons,zal3,zV6,cI,gE]
  omega
theorem zbj9 (l:List aD) (a:aD) (hl:l.length≤100000):za7 l a=some (decide (a ∈ l)):=by
 unfold za7 za5
 obtain ⟨x,h1,h2⟩:=zv4 (body:=zr5 l a) (fun g=>∃ k:Nat,g=k∧k≤l.length∧∀ j,j < k→a≠l.getD j aD.zero) (fun g=>l.length - g.toNat)
  (fun x=>match x with|.inl _=>a ∉ l|.inr i=>0≤i∧a ∈ l) (fun g ⟨k,hg,hk,hn⟩=>by
   subst hg
   unfold zr5
   by_cases c:k < l.length
   ·rw [bY (by simpa using c),gdp (by omega)]
    simp only [Int.toNat_natCast]
    by_cases e:a=l.getD k aD.zero
    ·rw [bY (by simpa using e)]
     exact .inr ⟨_,rfl,by omega,by rw [e]; exact zs3 c⟩
    ·rw [bW (by simpa using e),zd4 k (by omega)]
     exact .inl ⟨_,rfl,⟨k+1,rfl,c,fun j hj=>by
      by_cases h:j=k
      ·rw [h]; exact e
      ·exact hn j (by omega)⟩,by simp only [Int.toNat_natCast]; omega⟩
   ·rw [bW (by simpa using c)]
    refine .inr ⟨_,rfl,fun hm=>?_⟩
    obtain ⟨j,hj,e⟩:=fE hm
    refine hn j (by omega) ?_
    rw [bU,bX hj]
    exact e.symm) 0 ⟨0,rfl,by omega,fun j hj=>by omega⟩
 rw [h1]
 cases x with
 | inl z =>
  have h3:a ∉ l:=h2
  simp only [Option.bind_some,zC0]
  simp [h3]
 | inr z =>
  have h3:0≤z∧a ∈ l:=h2
  simp only [Option.bind_some]
  simp [h3.1,h3.2]
theorem zby2 {F:aG→List aD→Option (List aD)} {body:Int×List aD→Option ((Int×List aD)⊕List aD)} (ks:List aG) (hks:zv2 ks≤1000)
  (hb:∀ g,body g=if decide (g.1 < (ks.length:Int))=true then gd (0≤g.1∧g.1 < (ks.length:Int)) <| (F (ks.getD g.1.toNat aG.zero) g.2).bind fun v2=>some (.inl ((IntKind.i64.wrap (g.1+1)),v2)) else some (.inr g.2))
  (l:List aD) (hF:∀ k ∈ ks,∀ l':List aD,(l'.length:Int)+zo2 k≤l.length+zv2 ks→F k l'=some (addS (zI8 k) l')):zc6 body (0,l)=some (addS (zC8 ks) l):=by
 have hlen:=zB0 ks
 obtain ⟨x,h1,h2⟩:=zv4 (body:=body) (fun g=>∃ k:Nat,g.1=k∧k≤ks.length∧g.2=addS (zC8 (ks.take k)) l) (fun g=>ks.length - g.1.toNat) (fun x=>x=addS (zC8 ks) l) (fun g ⟨k,hg,hk,he⟩=>by
  obtain ⟨g1,g2⟩:=g
  simp only at hg he
  subst hg
  rw [hb]
  simp only [Int.toNat_natCast]
  by_cases c:k < ks.length
  ·rw [bY (by simpa using c),gdp (by omega)]
   have h1:=zbn3 (zC8 (ks.take k)) l
   have h2:=zbj8 ks k c
   rw [hF _ (zs3 c) g2 (by rw [he]; omega),Option.bind_some,zd4 k (by omega)]
   refine .inl ⟨_,rfl,⟨k+1,rfl,c,?_⟩,by simp only [Int.toNat_natCast]; omega⟩
   simp only
   rw [he,← zbv8,zD4 aG.zero c,zbV2,zal3,zaB1,eN]
  ·rw [bW (by simpa using c)]
   refine .inr ⟨_,rfl,?_⟩
   rw [he,dO (by omega)]) (0,l) ⟨0,rfl,by omega,by rw [List.take_zero,zaB1]; rfl⟩
 rw [h1,h2]
theorem zbk0:∀ (n:Nat) (e:aG),_root_.SizeOf.sizeOf e < n→∀ l:List aD,(l.length:Int)+zo2 e≤1000→zB8 n e l=some (addS (zI8 e) l)
 | 0,_,h,_,_=>by omega
 | n+1,e,h,l,hl=>by
  show zA5 (zB8 n) e l=_
  have hne:=zK6 e
  have hp:=zL5 e
  unfold zA5
  rw [zab3]
  by_cases c:e.aV.length=0
  ·rw [bY (by simpa using c),bY c,zbj9 l _ (by omega),Option.bind_some]
   unfold addS addS addA
   by_cases m:e.aZ ∈ l
   ·rw [bY (by simpa using m),bY m]
   ·rw [bW (by simpa using m),bW m,gdp (by omega)]
  ·rw [bW (by simpa using c),bW c,zby2 (F:=zB8 n) e.aV (by omega) (fun g=>by unfold zT2; rfl) l (fun k hk l' hl'=>zbk0 n k (zX2 h hk) l' (by omega))]
   rfl
theorem zbf8 {e:aG} (h:vE e=true):zq3 e=some (addS (zI8 e) []):=by
 have hn:zo2 e≤24:=by unfold vE fitE at h; simp at h; omega
 have hne:=zK6 e
 unfold zq3
 rw [zbw2,h,Option.bind_some,bW (by decide)]
 have:zk7 e=some (addS (zI8 e) []):=by
  show zy3 (zQ2 (_root_.SizeOf.sizeOf e)) e=_
  unfold zy3
  rw [zab3]
  by_cases c:e.aV.length=0
  ·rw [bY (by simpa using c),bY c,zbj9 [] _ (by decide),Option.bind_some]
   rfl
  ·rw [bW (by simpa using c),bW c,zby2 (F:=zh3) e.aV (by omega) (fun g=>by unfold zW6; rfl) [] (fun k hk l' hl'=>zbk0 _ k (dY _) l' (by simp only [List.length_nil] at hl'; omega))]
   rfl
 rw [this]; rfl
theorem zat0 {e:aG} (h:vE e=true):zv1 e=some (addS (zI8 e) [])∧(addS (zI8 e) []).length≤8:=by
 have hn:zo2 e≤24:=by unfold vE fitE at h; simp at h; omega
 have p:=zL5 e
 unfold zv1 zl4
 unfold vE at h
 simp only [bS] at h
 obtain ⟨hf,hp⟩:=h
 obtain ⟨l,hadd,hl,hd⟩:=(zbF6 e).1 hp
 have ha:=zci8 e (by omega)
 rw [hadd] at ha
 simp only at ha
 have hl2:l=addS (zI8 e) []:=by
  unfold addO at hadd
  split at hadd
  ·exact (dG hadd).symm
  ·cases hadd
 rw [zbT5,hf,Option.bind_some]
 simp only [bZ,show ¬ zo2 e=0 by omega,cL,bT,cA]
 rw [ha,Option.bind_some]
 simp only [cP,dB,show ¬ (8:Int) < (l.length:Int) by omega,cL,bT,cA]
 rw [(zaA7 (l,true) (by simp only; omega)).1 hd,← hl2]
 exact ⟨rfl,hl⟩
theorem zaX2 {e:aG} (h:vE e=true) {L:List aD} {b:Bool} (hL:zl4 e=some (L,b)):zq3 e=some L:=by
 have:=(zat0 h).1
 unfold zv1 at this
 rw [hL,Option.bind_some] at this
 rw [zbf8 h,← this]
theorem zby3:∀ (n:Nat) (e:aG),_root_.SizeOf.sizeOf e < n→zI8 e≠[]
 | 0,_,h=>by omega
 | n+1,e,h=>by
  rw [zab3]
  by_cases c:e.aV.length=0
  ·rw [bY c]; simp
  ·rw [bW c]
   obtain ⟨x,l,hk⟩:∃ x l,e.aV=x :: l:=by
    cases hk:e.aV with
    | nil=>rw [hk] at c; exact absurd rfl c
    | cons x l=>exact ⟨x,l,rfl⟩
   rw [hk,zal3]
   intro h2
   exact zby3 n x (zX2 h (by rw [hk]; exact .head _)) (List.append_eq_nil_iff.1 h2).1
theorem zby4 {e:aG} (h:vE e=true):addS (zI8 e) []≠[]:=by
 have:=zby3 _ e (dY _)
 cases hl:zI8 e with
 | nil=>exact absurd hl this
 | cons a l =>
  obtain ⟨t,ht⟩:=zbb4 l [a]
  have e1:addS (a :: l) []=addS l [a]:=by rw [addS]; rfl
  rw [e1,ht]; simp
theorem zcc8 {α β:Type} (l:List α) (z:α) (p:α→Bool) (f:Nat→β) {body:Int→Option (Int⊕(Unit⊕β))}
  (hb:∀ i:Nat,i < l.length→body (i:Int)=some (if p (l.getD i z)=true then .inr (.inr (f i)) else .inl ((i+1:Nat):Int))) (he:body (l.length:Int)=some (.inr (.inl ()))) :
  zc6 body 0=some (match l.findIdx? p with|some i=>.inr (f i)|none=>.inl ()):=by
 obtain ⟨x,h1,h2⟩:=zv4 (body:=body) (fun g=>∃ i:Nat,g=i∧i≤l.length∧∀ j,j < i→p (l.getD j z)=false) (fun g=>l.length - g.toNat) (fun x=>x=(match l.findIdx? p with|some i=>.inr (f i)|none=>.inl ()))
  (fun g ⟨i,hi,hle,hn⟩=>by
   subst hi
   by_cases c:i < l.length
   ·rw [hb i c]
    by_cases d:p (l.getD i z)=true
    ·rw [bY d]
     refine .inr ⟨_,rfl,?_⟩
     have:l.findIdx? p=some i:=by
      refine eA.2 ⟨c,?_,fun j hj=>?_⟩
      ·rwa [bU,bX c] at d
      ·have:=hn j hj
       rw [bU,bX (by omega)] at this
       simpa using this
     rw [this]
    ·rw [bW d]
     refine .inl ⟨_,rfl,⟨i+1,rfl,c,fun j hj=>?_⟩,by simp only [Int.toNat_natCast]; omega⟩
     rcases fX j i with h|h
     ·exact hn j h
     ·have:j=i:=by omega
      subst this; exact dD.2 d
   ·have e:i=l.length:=by omega
    subst e
    rw [he]
    refine .inr ⟨_,rfl,?_⟩
    have:l.findIdx? p=none:=by
     refine eY.2 fun x hx=>?_
     obtain ⟨j,hj,rfl⟩:=zD8 (z:=z) hx
     exact hn j hj
    rw [this]) 0 ⟨0,rfl,by omega,fun j hj=>by omega⟩
 rw [h1,h2]
theorem zbV3 (e:aG) (L:List aD) (S:List Bool) (hL:L.length≤1000):ze6 ⟨L,S⟩ e.aZ=(zc6 (zA0 e L S) 0).bind (fun|.inl z=>zT1 z|.inr z=>some z):=by
 unfold ze6 za5
 rw [zav0 L aD.zero (fun a=>decide (a=e.aZ)) (fun i hi=>by
   unfold zr5
   have h3:0≤(i:Int)∧(i:Int) < (L.length:Int):=by omega
   simp only [h3.1,h3.2,cQ,zk1,cB,bZ,Int.toNat_natCast,zd4 i (show i < 4611686018427387904 by omega),eq_comm (a:=e.aZ)]
   split <;> rfl) (by unfold zr5; simp),
  zcc8 L aD.zero (fun a=>decide (a=e.aZ)) (fun i=>decide ((i:Int) < (S.length:Int))&&S.getD i false) (fun i hi=>by
   unfold zA0
   have h3:0≤(i:Int)∧(i:Int) < (L.length:Int):=by omega
   simp only [h3.1,h3.2,fC,cQ,zk1,cB,bZ,Int.toNat_natCast,zd4 i (show i < 4611686018427387904 by omega),bV,imp_self]
   split <;> rfl) (by unfold zA0; simp)]
 cases L.findIdx? (fun a=>decide (a=e.aZ)) with
 | none=>rfl
 | some i =>
  simp only [Option.bind_some]
  rw [gdp (by simp only [bS,bV]; exact id)]
  simp
theorem zci9 (L:List aD) (S:List Bool) (hL:L.length≤1000):∀ (n:Nat) (e:aG),_root_.SizeOf.sizeOf e < n→okE e=true→zK5 n e ⟨L,S⟩=fr_ref08_holds n e L S
 | 0,_,h,_=>by omega
 | n+1,e,h,ho=>by
  show zH1 (zK5 n) e ⟨L,S⟩=zC4 (fr_ref08_holds n) e L S
  unfold zH1 zC4
  by_cases ck:e.aV.length=0
  ·have k0:=((zbw0 ck).1 ho).1
   rw [bY (by simpa using ck),bY (by simpa using k0),zbV3 e L S hL]
   cases ((zc6 (zA0 e L S) 0).bind (fun|.inl z=>zT1 z|.inr z=>some z)) <;> rfl
  ·have k1:=(zbw1 ck).1 ho
   rw [bW (by simpa using ck),bW (by simp; omega)]
   have hbody:zR9 (zK5 n) e ⟨L,S⟩=zN3 (fr_ref08_holds n) e L S:=by
    funext g
    unfold zR9 zN3
    by_cases c:g.2 < (e.aV.length:Int)
    ·by_cases c2:0≤g.2
     ·have hk:e.aV.getD g.2.toNat aG.zero ∈ e.aV:=zs3 (by omega)
      rw [zci9 L S hL n _ (zX2 h hk) (zcc2 k1.2 hk)]
     ·rw [bY (by simpa using c),bY (by simpa using c)]
      unfold gd
      rw [bW (fun h=>c2 h.1),bW (fun h=>c2 h.1)]
    ·rw [bW (by simpa using c),bW (by simpa using c)]
   rw [hbody]; rfl
theorem zbf9 {e:aG} (h:vE e=true) (S:List Bool):zC6 e S=zv0 e S:=by
 obtain ⟨v,h1,h2⟩:=zay2 e
 have hle:=zaP3 h1
 have h3:=(zat0 h).1
 unfold zv1 at h3
 rw [h1,Option.bind_some] at h3
 have hne:=zby4 h
 rw [← dG h3] at hne
 obtain ⟨L,b⟩:=v
 simp only at h2 hle hne
 rw [h] at h2
 subst h2
 unfold zC6 zv0
 have hpos:0 < L.length:=fR.2 hne
 rw [zaX2 h h1,h1,Option.bind_some,Option.bind_some,bY (by simpa using hpos),bY rfl]
 have:f_formula_holds e L S=f_ref08_holds e L S:=by
  unfold f_formula_holds zk9 f_ref08_holds
  rw [zci9 L S (by omega) _ e (dY _) (zcc3 h).1]
  cases fr_ref08_holds (_root_.SizeOf.sizeOf e+1) e L S <;> rfl
 rw [this,show decide ((0:Int) < (L.length:Int))=true from cR (by omega)]
end Ab
end Go.Proofs.YtenebhlnfjcffaaGreatDoor
