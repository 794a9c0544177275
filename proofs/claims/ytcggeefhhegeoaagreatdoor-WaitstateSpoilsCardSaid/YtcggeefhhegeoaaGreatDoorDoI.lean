import Derived.Test.YtcggeefhhegeoaaGreatDoorTabF
import Derived.Test.YtcggeefhhegeoaaGreatDoorTabB
namespace Go.Proofs.YtcggeefhhegeoaaGreatDoor
namespace Ab
set_option linter.unusedVariables false
set_option linter.unusedSimpArgs false
def sayE (nm:ByteArray) (a:aC) (e:bM):aC:=if e.name=nm then e.after else a
def zy2 (l:List bM) (nm:ByteArray):aC:=l.foldl (sayE nm) aC.zero
theorem zaj3 {α:Type} {l:List α} {i:Nat} (z:α) (h:i < l.length):l.take (i+1)=l.take i++[l.getD i z]:=by
 rw [List.take_add_one,cC h,bZ,cC h]; rfl
theorem zbu0 (l:List bM) (e:bM) (nm:ByteArray):zy2 (l++[e]) nm=if e.name=nm then e.after else zy2 l nm:=by
 unfold zy2; rw [List.foldl_append]; rfl
theorem zby7 (a b:ByteArray):(a.toList == b.toList)=decide (a=b):=by
 by_cases h:a=b
 ·simp [h]
 ·rw [gF h]
  cases hb:a.toList == b.toList with
  | false=>rfl
  | true=>exact absurd (zaw1.1 (dH.1 hb)) h
theorem zae0 (l:List bM) (nm:ByteArray) (hl:l.length≤1000000):zj4 l nm=some (zy2 l nm):=by
 unfold zj4
 obtain ⟨x,h1,h2⟩:=zw0 (body:=zat5 l nm) (fun g=>∃ i:Nat,g.1=i∧i≤l.length∧g.2=zy2 (l.take i) nm) (fun g=>l.length - g.1.toNat) (fun x=>x=zy2 l nm)
  (fun g ⟨i,hi,hle,hg⟩=>by
   obtain ⟨g1,g2⟩:=g
   simp only at hi hg
   subst hi
   unfold zat5
   by_cases c:i < l.length
   ·left
    have h3:0≤(i:Int)∧(i:Int) < (l.length:Int):=by omega
    simp only [h3.1,h3.2,cW,zo2,cF,cE,Int.toNat_natCast,zby7,cB,zd0 i (show i < 4611686018427387904 by omega)]
    refine ⟨((i+1:Nat),zy2 (l.take (i+1)) nm),?_,⟨i+1,rfl,c,rfl⟩,by simp only [Int.toNat_natCast]; omega⟩
    rw [zaj3 bM.zero c,zbu0]
    by_cases e:(l.getD i bM.zero).name=nm
    ·rw [bY e,bY e]
    ·rw [bW e,bW e,hg]
   ·right
    have e:i=l.length:=by omega
    refine ⟨g2,?_,by rw [hg,e,eK]⟩
    simp only [show ¬ (i:Int) < (l.length:Int) by omega,cK,bV,cD]) (0,aC.zero) ⟨0,rfl,by omega,rfl⟩
 rw [h1,Option.bind_some,h2]; rfl
theorem zcV5 {α:Type} (l:List α) (z:α) {i j:Nat} (hi:i < l.length) (hj:j < l.length):((l.set i (l.getD j z)).set j (l.getD i z)).Perm l:=by
 rw [bZ,bZ,cC hi,cC hj]
 exact List.set_set_perm hi hj
theorem zcV6 (l0:List ByteArray) (hl:l0.length≤1000000) (g:Int×List ByteArray) (h0:0≤g.1) (h1:g.1 < (g.2.length:Int)) (hp:g.2.Perm l0):∃ x,zc0 zaf0 g=some x∧x.Perm l0:=by
 refine zw0 (body:=zaf0) (fun g=>0≤g.1∧g.1 < (g.2.length:Int)∧g.2.Perm l0) (fun g=>g.1.toNat) (fun x=>x.Perm l0) ?_ g ⟨h0,h1,hp⟩
 rintro ⟨i,l⟩ ⟨h0,h1,hp⟩
 simp only at h0 h1 hp
 have hn:=hp.length_eq
 unfold zaf0
 by_cases c:0 < i
 ·have e:IntKind.i64.wrap (i - 1)=i - 1:=zd2 (by omega) (by omega)
  simp only [c,cF,e,cN]
  rw [gdp (by intro; omega),gdp (by intro; omega)]
  cases hb:Op.bytesLess (l.getD i.toNat ⟨#[]⟩).toList (l.getD (i - 1).toNat ⟨#[]⟩).toList with
  | false=>exact .inr ⟨l,by simp,hp⟩
  | true =>
   left
   simp only [cE]
   rw [gdp ⟨h0,h1⟩,gdp (by omega),gdp ⟨h0,h1⟩,gdp (by omega)]
   exact ⟨_,rfl,⟨by simp only; omega,by simp only [dJ]; omega,(zcV5 l _ (by omega) (by omega)).trans hp⟩,by simp only; omega⟩
 ·simp only [c,cK,eG,bV,cD]
  rw [gdp (by intro h; cases h),gdp (by intro h; cases h)]
  exact .inr ⟨l,rfl,hp⟩
def zbY2 (nm:ByteArray) (s:List ByteArray):Bool:=s.any fun n=>decide (n=nm)
theorem zch2 {nm:ByteArray} {s:List ByteArray}:zbY2 nm s=true ↔ nm ∈ s:=by
 unfold zbY2; rw [jJ]
 exact ⟨fun ⟨n,h1,h2⟩=>hX h2 ▸ h1,fun h=>⟨nm,h,by simp⟩⟩
theorem zcV7 (l:List bM) (i:Nat) (hi:i < l.length) (s:List ByteArray) (hl:s.length≤1000000) (v:Int×List ByteArray) (hv:v=((i:Int),s)) :
  zc0 (zaf2 l v) (false,0)=some (zbY2 (l.getD i bM.zero).name s):=by
 subst hv
 obtain ⟨x,h1,h2⟩:=zw0 (body:=zaf2 l ((i:Int),s)) (fun g=>∃ k:Nat,g.2=k∧k≤s.length∧g.1=zbY2 (l.getD i bM.zero).name (s.take k)) (fun g=>s.length - g.2.toNat) (fun x=>x=zbY2 (l.getD i bM.zero).name s)
  (fun g ⟨k,hk,hle,hg⟩=>by
   obtain ⟨g1,g2⟩:=g
   simp only at hk hg
   subst hk
   unfold zaf2
   by_cases c:k < s.length
   ·left
    have h3:0≤(k:Int)∧(k:Int) < (s.length:Int):=by omega
    have h4:0≤(i:Int)∧(i:Int) < (l.length:Int):=by omega
    simp only [h3.1,h3.2,h4.1,h4.2,cW,eU,zo2,cF,cE,Int.toNat_natCast,zby7,zd0 k (show k < 4611686018427387904 by omega)]
    refine ⟨_,rfl,⟨k+1,rfl,c,?_⟩,by simp only [Int.toNat_natCast]; omega⟩
    rw [zaj3 (⟨#[]⟩:ByteArray) c,hg]
    simp only [zbY2,List.any_append,List.any_cons,List.any_nil,iT]
   ·right
    have e:k=s.length:=by omega
    refine ⟨g1,?_,by rw [hg,e,eK]⟩
    simp only [show ¬ (k:Int) < (s.length:Int) by omega,cK,bV,cD]) (false,0) ⟨0,rfl,by omega,by simp [zbY2]⟩
 rw [h1,h2]
theorem zaP3 (l:List bM) (hl:l.length≤1000000):∃ ns,zi9 l=some ns∧ns.length≤l.length∧∀ n,n ∈ ns ↔ ∃ e ∈ l,e.name=n:=by
 unfold zi9
 obtain ⟨x,h1,h2⟩:=zw0 (body:=zaf3 l) (fun g=>∃ i:Nat,g.1=i∧i≤l.length∧g.2.length≤i∧∀ n,n ∈ g.2 ↔ ∃ e ∈ l.take i,e.name=n) (fun g=>l.length - g.1.toNat)
  (fun x=>x.length≤l.length∧∀ n,n ∈ x ↔ ∃ e ∈ l,e.name=n)
  (fun g ⟨i,hi,hle,hlen,hg⟩=>by
   obtain ⟨g1,g2⟩:=g
   simp only at hi hlen hg
   subst hi
   unfold zaf3
   by_cases c:i < l.length
   ·left
    have h3:0≤(i:Int)∧(i:Int) < (l.length:Int):=by omega
    simp only [h3.2,cF,cE]
    rw [zcV7 l i c g2 (by omega) _ rfl,Option.bind_some]
    unfold zaf1
    have hmem:∀ n,(∃ e ∈ l.take (i+1),e.name=n) ↔ n ∈ g2∨n=(l.getD i bM.zero).name:=fun n=>by
     rw [zaj3 bM.zero c,hg]
     simp only [cU,dQ,or_and_right,exists_or,exists_eq_left]
     exact or_congr jN ⟨Eq.symm,Eq.symm⟩
    by_cases hs:(l.getD i bM.zero).name ∈ g2
    ·rw [bY (zch2.2 hs)]
     refine ⟨_,by rw [zd0 i (by omega)],⟨i+1,rfl,c,by simp only; omega,fun n=>?_⟩,by simp only [Int.toNat_natCast]; omega⟩
     rw [hmem]
     exact ⟨Or.inl,fun h=>h.elim id fun h=>h ▸ hs⟩
    ·rw [bW (fun h=>hs (zch2.1 h)),gdp h3,gdp (by simp only; omega)]
     obtain ⟨y,e1,e2⟩:=zcV6 (g2++[(l.getD i bM.zero).name]) (by rw [cA,List.length_singleton]; omega) (IntKind.i64.wrap (((g2.length+1:Nat):Int) - 1),g2++[(l.getD (i:Int).toNat bM.zero).name])
      (by simp only; rw [zd2 (by omega) (by omega)]; omega) (by simp only [cA,List.length_singleton]; rw [zd2 (by omega) (by omega)]; omega) (by simp only [Int.toNat_natCast]; exact iZ _)
     rw [e1,Option.bind_some]
     unfold zaB8
     refine ⟨_,by rw [zd0 i (by omega)],⟨i+1,rfl,c,by have:=e2.length_eq; simp only [cA,List.length_singleton] at this; simp only; omega,fun n=>?_⟩,by simp only [Int.toNat_natCast]; omega⟩
     rw [hmem,e2.mem_iff,cU,dQ]
   ·right
    have e:i=l.length:=by omega
    refine ⟨g2,?_,by omega,fun n=>by rw [hg,e,eK]⟩
    simp only [show ¬ (i:Int) < (l.length:Int) by omega,cK,bV,cD]) (0,[]) ⟨0,rfl,by omega,by simp,fun n=>by simp⟩
 exact ⟨x,by rw [h1,Option.bind_some]; rfl,h2⟩
theorem zbE7 (l:List bU) (x:Int) (hl:l.length≤1000000):∃ v,zl7 l x=some v∧(v=-1∨0≤v∧v < (l.length:Int)):=by
 unfold zl7
 rw [zbD6 l bU.zero (fun a=>decide (a.label=x)) (fun i hi=>by
  unfold zat6
  have h3:0≤(i:Int)∧(i:Int) < (l.length:Int):=by omega
  simp only [h3.1,h3.2,cW,zo2,cF,cE,Int.toNat_natCast,zd0 i (show i < 4611686018427387904 by omega)]
  split <;> rfl) (by unfold zat6; simp)]
 cases h:l.findIdx? fun a=>decide (a.label=x) with
 | none=>exact ⟨-1,rfl,.inl rfl⟩
 | some i =>
  obtain ⟨h1,_⟩:=gR.1 h
  exact ⟨i,rfl,.inr (by omega)⟩
structure LedgerP (l:bA):Prop where
 le:l.aQ.length≤72
 ls:l.bG.length≤4
 grow:∀ i,i < l.aQ.length→(l.aQ.getD i bM.zero).before=zy2 (l.aQ.take i) (l.aQ.getD i bM.zero).name∧zQ8 (l.aQ.getD i bM.zero).before (l.aQ.getD i bM.zero).after=true
 at_:∀ s ∈ l.bG,0≤s.at_∧s.at_≤(l.aQ.length:Int)
theorem zaK1 (l:bA) (hl:l.bG.length≤4) (i:Nat):(i < l.bG.length→∃ b:Bool,zW7 l (i:Int)=some (if b=true then .inl ((i+1:Nat):Int) else .inr (.inr false)) ∧
  (b=true→0≤(l.bG.getD i bU.zero).at_∧(l.bG.getD i bU.zero).at_≤(l.aQ.length:Int)))∧(i=l.bG.length→zW7 l (i:Int)=some (.inr (.inl ()))):=by
 refine ⟨fun c=>?_,fun c=>?_⟩
 ·unfold zW7
  have h3:0≤(i:Int)∧(i:Int) < (l.bG.length:Int):=by omega
  simp only [h3.1,h3.2,cW,zo2,cF,cE,Int.toNat_natCast]
  rw [gdp (by
   intro h
   simp only [bX,cB] at h
   have:=h.2
   rw [zd2 (by omega) (by omega)]; omega)]
  obtain ⟨v,hv,_⟩:=zbE7 l.bG ((l.bG.getD i bU.zero).label) (by omega)
  generalize hA:(!(((((decide ((l.bG.getD i bU.zero).label < 1))||(decide (99 < (l.bG.getD i bU.zero).label)))||(decide ((l.bG.getD i bU.zero).at_ < 0)))||(decide ((l.aQ.length:Int) < (l.bG.getD i bU.zero).at_)))||((decide (0 < (i:Int)))&&(decide ((l.bG.getD i bU.zero).at_ < (l.bG.getD ((IntKind.i64.wrap ((i:Int) - 1)).toNat) bU.zero).at_)))))=A
  have hA':(((((decide ((l.bG.getD i bU.zero).label < 1))||(decide (99 < (l.bG.getD i bU.zero).label)))||(decide ((l.bG.getD i bU.zero).at_ < 0)))||(decide ((l.aQ.length:Int) < (l.bG.getD i bU.zero).at_)))||((decide (0 < (i:Int)))&&(decide ((l.bG.getD i bU.zero).at_ < (l.bG.getD ((IntKind.i64.wrap ((i:Int) - 1)).toNat) bU.zero).at_))))=!A:=by rw [← hA,Bool.not_not]
  simp only [hA']
  cases A with
  | false=>exact ⟨false,by simp,by simp⟩
  | true =>
   simp only [cE,hv,Option.bind_some,cL,dF]
   have hat:0≤(l.bG.getD i bU.zero).at_∧(l.bG.getD i bU.zero).at_≤(l.aQ.length:Int):=by
    simp only [cL,hZ,dD] at hA'
    omega
   by_cases e:v=(i:Int)
   ·exact ⟨true,by simp [e,zd0 i (show i < 4611686018427387904 by omega)],fun _=>hat⟩
   ·exact ⟨false,by simp [e],by simp⟩
 ·subst c; unfold zW7; simp
theorem zbo2 (l:bA) (hl:l.aQ.length≤72) (i:Nat) (c:i < l.aQ.length):∃ b:Bool,zag1 l (i:Int)=some (if b=true then .inl ((i+1:Nat):Int) else .inr (.inr false)) ∧
  (b=true→(l.aQ.getD i bM.zero).before=zy2 (l.aQ.take i) (l.aQ.getD i bM.zero).name∧zQ8 (l.aQ.getD i bM.zero).before (l.aQ.getD i bM.zero).after=true):=by
 unfold zag1
 have h3:0≤(i:Int)∧(i:Int) < (l.aQ.length:Int):=by omega
 simp only [h3.1,h3.2,cW,zo2,cF,cE,Int.toNat_natCast]
 rw [zaE9,Option.bind_some,gdp (fun _=>by simp <;> omega),zae0 _ _ (by simp; omega)]
 cases hn:zY9 (l.aQ.getD i bM.zero).name with
 | false=>exact ⟨false,by simp,by simp⟩
 | true =>
  simp only [cE,Option.bind_some,cL,dF]
  by_cases e1:(l.aQ.getD i bM.zero).before=zy2 (l.aQ.take i) (l.aQ.getD i bM.zero).name
  ·have hd:decide ((l.aQ.getD i bM.zero).before=zy2 (l.aQ.take i) (l.aQ.getD i bM.zero).name)=true:=cS e1
   cases e2:zQ8 (l.aQ.getD i bM.zero).before (l.aQ.getD i bM.zero).after with
   | false=>exact ⟨false,by simp only [cY,iL,cE,bV,cD],fun h=>nomatch h⟩
   | true=>exact ⟨true,by simp only [hd,cL,eT,bV,cD,cE,zd0 i (show i < 4611686018427387904 by omega)],fun _=>⟨e1,rfl⟩⟩
  ·have hd:decide ((l.aQ.getD i bM.zero).before=zy2 (l.aQ.take i) (l.aQ.getD i bM.zero).name)=false:=gF e1
   exact ⟨false,by simp only [hd,cY,fQ,cE,bV,cD],fun h=>nomatch h⟩
theorem zav6 {body:Int→Option (Int⊕(Unit⊕Bool))} (n:Nat) (P:Nat→Prop) (h:∀ i:Nat,i < n→∃ b:Bool,body (i:Int)=some (if b=true then .inl ((i+1:Nat):Int) else .inr (.inr false))∧(b=true→P i)) (he:body (n:Int)=some (.inr (.inl ()))) :
  zc0 body 0=some (.inr false)∨zc0 body 0=some (.inl ())∧∀ i,i < n→P i:=by
 obtain ⟨x,h1,h2⟩:=zw0 (body:=body) (fun g=>∃ i:Nat,g=i∧i≤n∧∀ k,k < i→P k) (fun g=>n - g.toNat) (fun x=>x=.inr false∨x=.inl ()∧∀ i,i < n→P i)
  (fun g ⟨i,hi,hle,hg⟩=>by
   subst hi
   by_cases c:i < n
   ·obtain ⟨b,hb,hp⟩:=h i c
    cases b with
    | false=>exact .inr ⟨_,hb,.inl rfl⟩
    | true=>exact .inl ⟨_,hb,⟨i+1,rfl,c,fun k hk=>by
      rcases jR k i with h5|h5
      ·exact hg k h5
      ·have:k=i:=by omega
       subst this; exact hp rfl⟩,by simp only [Int.toNat_natCast]; omega⟩
   ·have:i=n:=by omega
    subst this
    exact .inr ⟨_,he,.inr ⟨rfl,hg⟩⟩) 0 ⟨0,rfl,by omega,fun k hk=>by omega⟩
 rcases h2 with rfl|⟨rfl,h2⟩
 ·exact .inl h1
 ·exact .inr ⟨h1,h2⟩
theorem zS7 {α:Type} {l:List α} {z x:α} (h:x ∈ l):∃ i,i < l.length∧l.getD i z=x:=by
 obtain ⟨i,hi,e⟩:=fN.1 h
 exact ⟨i,hi,by rw [bZ,cC hi]; exact e⟩
theorem zah7 (l:bA):∃ b,zq2 l=some b∧(b=true→LedgerP l):=by
 unfold zq2
 by_cases c:l.aQ.length≤72∧l.bG.length≤4
 ·rw [bW (by simp; omega)]
  rcases zav6 l.aQ.length _ (fun i hi=>zbo2 l c.1 i hi) (by unfold zag1; simp) with h1|⟨h1,h2⟩
  ·exact ⟨false,by rw [h1]; rfl,by simp⟩
  ·rw [h1,Option.bind_some]
   show ∃ b,zag0 l ()=some b∧_
   unfold zag0
   obtain ⟨ns,e1,_⟩:=zaP3 l.aQ (by omega)
   rw [e1,Option.bind_some]
   by_cases c8:(8:Int) < ns.length
   ·exact ⟨false,by rw [bY (by simpa using c8)],by simp⟩
   ·rw [bW (by simpa using c8)]
    rcases zav6 l.bG.length _ (fun i hi=>(zaK1 l c.2 i).1 hi) ((zaK1 l c.2 _).2 rfl) with h3|⟨h3,h4⟩
    ·exact ⟨false,by rw [h3]; rfl,by simp⟩
    ·refine ⟨true,by rw [h3]; rfl,fun _=>⟨c.1,c.2,h2,fun s hs=>?_⟩⟩
     obtain ⟨i,hi,rfl⟩:=zS7 (z:=bU.zero) hs
     exact h4 i hi
 ·exact ⟨false,by rw [bY (by simp; omega)],by simp⟩
theorem zbY3 {α β:Type} {o:Option α} {f:α→β} {b:β} (h:(o.bind fun v=>some (f v))=some b):∃ v,o=some v∧f v=b:=by
 cases o with
 | none=>cases h
 | some v=>exact ⟨v,rfl,dN h⟩
theorem zaB1 (e:aN):∃ v,zp1 e=some v∧v.2=vE e:=by
 have h:=zZ2 e
 unfold zz3 at h
 exact zbY3 h
theorem zby8 {e:aN} {v:List aM×Bool} (h:zp1 e=some v):v.1.length≤8:=by
 unfold zp1 at h
 obtain ⟨v1,h1,h⟩:=zc2 h
 by_cases c:v1=0
 ·rw [bY (by simpa using c)] at h; cases h; simp
 rw [bW (by simpa using c)] at h
 obtain ⟨v2,h2,h⟩:=zc2 h
 cases v2 with
 | inl v2=>cases h; simp
 | inr v2 =>
  simp only at h
  by_cases c2:((!v2.2)||(decide (8 < (v2.1.length:Int))))=true
  ·rw [bY c2] at h; cases h; simp
  ·rw [bW c2] at h
   have hl:v2.1.length≤8:=by
    simp only [dY,cB,jQ] at c2; omega
   have ho:=zbI5 v2 (by omega)
   by_cases d:dnN v2.1
   ·rw [ho.1 d] at h
    have:zag8 v2 ()=some v:=h
    unfold zag8 at this; cases this; exact hl
   ·rw [ho.2 d] at h; cases h; simp
theorem zcV8 (e:aN) (L:List aM) (S:List Bool) (hL:L.length≤1000):∃ b,((zc0 (zaf5 e L S) 0).bind (fun|.inl z=>zaB9 z|.inr z=>some z))=some b∧((∀ i,S.getD i false=false)→b=false):=by
 obtain ⟨x,h1,h2⟩:=zw0 (body:=zaf5 e L S) (fun g=>∃ i:Nat,g=i∧i≤L.length) (fun g=>L.length - g.toNat) (fun x=>∀ b,x=.inr b→(∀ i,S.getD i false=false)→b=false)
  (fun g ⟨i,hi,hle⟩=>by
   subst hi
   unfold zaf5
   by_cases c:i < L.length
   ·have h3:0≤(i:Int)∧(i:Int) < (L.length:Int):=by omega
    simp only [h3.1,h3.2,cW,zo2,cF,cE,Int.toNat_natCast]
    by_cases d:L.getD i aM.zero=e.bF
    ·right
     rw [bY (by simpa using d),gdp (by intro h; simp only [cB] at h; simp; omega)]
     exact ⟨_,rfl,fun b hb hS=>by cases hb; rw [hS,gN]⟩
    ·left
     rw [bW (by simpa using d),zd0 i (by omega)]
     exact ⟨_,rfl,⟨i+1,rfl,c⟩,by simp only [Int.toNat_natCast]; omega⟩
   ·right
    simp only [show ¬ (i:Int) < (L.length:Int) by omega,cK,bV,cD]
    exact ⟨_,rfl,fun b hb=>by cases hb⟩) 0 ⟨0,rfl,by omega⟩
 rw [h1]
 cases x with
 | inl x=>exact ⟨false,rfl,fun _=>rfl⟩
 | inr b=>exact ⟨b,rfl,h2 b rfl⟩
theorem zcy1:∀ (n:Nat) (e:aN),_root_.SizeOf.sizeOf e < n→zp9 e≤24→∀ (L:List aM) (S:List Bool),L.length≤1000→∃ b,fr_ref08_holds n e L S=some b∧(okE e=true→(∀ i,S.getD i false=false)→b=false)
 | 0,_,h,_,_,_,_=>by omega
 | n+1,e,h,hn,L,S,hL=>by
  show ∃ b,zU1 (fr_ref08_holds n) e L S=some b∧_
  unfold zU1
  have hl:=zH2 e.bE
  have hne:=zQ2 e
  by_cases c:e.k=0
  ·rw [bY (by simpa using c)]
   obtain ⟨b,h1,h2⟩:=zcV8 e L S hL
   exact ⟨b,h1,fun _=>h2⟩
  ·rw [bW (by simpa using c)]
   obtain ⟨x,h1,h2⟩:=zw0 (body:=zap1 (fr_ref08_holds n) e L S) (fun g=>∃ i:Nat,g.2=i∧i≤e.bE.length∧0≤g.1∧g.1≤i∧(okL e.bE=true→(∀ i,S.getD i false=false)→g.1=0)) (fun g=>e.bE.length - g.2.toNat)
    (fun x=>okL e.bE=true→(∀ i,S.getD i false=false)→x=0)
    (fun g ⟨i,hi,hle,h0,h4,hg⟩=>by
     obtain ⟨m,g2⟩:=g
     simp only at hi h0 h4 hg
     subst hi
     unfold zap1
     by_cases c:i < e.bE.length
     ·left
      have h3:0≤(i:Int)∧(i:Int) < (e.bE.length:Int):=by omega
      simp only [h3.1,h3.2,cW,zo2,cF,cE,Int.toNat_natCast]
      have hk:=zn0 (z:=aN.zero) c
      obtain ⟨b,e1,e2⟩:=zcy1 n _ (zao4 h hk) (by have:=zaL5 hk; omega) L S hL
      rw [e1,Option.bind_some,zd0 i (by omega)]
      cases b with
      | true =>
       rw [bY rfl,zd2 (by omega) (by omega)]
       exact ⟨_,rfl,⟨i+1,rfl,c,by simp only; omega,by simp only; omega,fun ho hS=>by have:=e2 (zby3 ho hk) hS; cases this⟩,by simp only [Int.toNat_natCast]; omega⟩
      | false =>
       rw [bW (by decide)]
       exact ⟨_,rfl,⟨i+1,rfl,c,h0,by simp only; omega,hg⟩,by simp only [Int.toNat_natCast]; omega⟩
     ·right
      simp only [show ¬ (i:Int) < (e.bE.length:Int) by omega,cK,bV,cD]
      exact ⟨_,rfl,hg⟩) (0,0) ⟨0,rfl,by omega,by simp,by simp,fun _ _=>rfl⟩
   rw [h1,Option.bind_some]
   refine ⟨_,rfl,fun ho hS=>?_⟩
   by_cases ck:e.bE.length=0
   ·exact absurd ((zbj7 ck).1 ho).1 c
   ·have h5:=(zbj8 ck).1 ho
    rw [h2 h5.2 hS]
    exact gF (by omega)
theorem zdk8 {e:aN} (h:vE e=true):zp9 e≤24:=by
 have:=(zcM6 h).2
 unfold fitE at this
 simp only [bX,cB] at this
 omega
theorem zaP4 {e:aN} (h:vE e=true) {L:List aM} (hL:L.length≤1000) (S:List Bool):∃ b,f_ref08_holds e L S=some b∧((∀ i,S.getD i false=false)→b=false):=by
 unfold f_ref08_holds
 obtain ⟨b,h1,h2⟩:=zcy1 _ e (eC _) (zdk8 h) L S hL
 exact ⟨b,h1,h2 (zcM6 h).1⟩
theorem zbk6 {e:aN} (h:vE e=true) (S:List Bool):∃ b,zR1 e S=some b∧((∀ i,S.getD i false=false)→b=false):=by
 unfold zR1
 obtain ⟨v,h1,h2⟩:=zaB1 e
 rw [h1,Option.bind_some,h2,h]
 obtain ⟨b,h3,h4⟩:=zaP4 h (L:=v.1) (by have:=zby8 h1; omega) S
 rw [bY rfl,h3]
 exact ⟨b,by simp,h4⟩
theorem zao5 (e:aN):∃ l,zD3 e=some l∧l.length≤8∧zp1 e=some (l,vE e):=by
 unfold zD3
 obtain ⟨v,h1,h2⟩:=zaB1 e
 exact ⟨v.1,by rw [h1]; rfl,zby8 h1,by rw [h1,← h2]⟩
theorem zcH2 (S:List Bool) (v:List aM×Bool) (hv:v.1.length≤8) (s0:List Bool) (h0:s0.length=v.1.length):∃ x,zc0 (zah0 S v) (0,s0)=some x∧x.length=v.1.length :=
 zw0 (body:=zah0 S v) (fun g=>∃ i:Nat,g.1=i∧i≤v.1.length∧g.2.length=v.1.length) (fun g=>v.1.length - g.1.toNat) (fun x=>x.length=v.1.length)
  (fun g ⟨i,hi,hle,hg⟩=>by
   obtain ⟨g1,g2⟩:=g
   simp only at hi hg
   subst hi
   unfold zah0
   by_cases c:i < v.1.length
   ·left
    have h3:0≤(i:Int)∧(i:Int) < (v.1.length:Int):=by omega
    simp only [h3.2,cF,cE,Int.toNat_natCast]
    rw [gdp (by intro h; simp only [cB] at h; omega),gdp (by omega),zd0 i (by omega)]
    exact ⟨_,rfl,⟨i+1,rfl,c,by simp only [dJ]; exact hg⟩,by simp only [Int.toNat_natCast]; omega⟩
   ·right
    simp only [show ¬ (i:Int) < (v.1.length:Int) by omega,cK,bV,cD]
    exact ⟨_,rfl,hg⟩) (0,s0) ⟨0,rfl,by omega,h0⟩
theorem zcH3 {e:aN} (h:vE e=true) (v:List aM×Bool) (hv:v.1.length≤8) (s0:List Bool) (h0:s0.length=v.1.length):∃ x,zc0 (zag9 e v) (IntKind.i64.wrap ((v.1.length:Int) - 1),s0)=some x∧x.length=v.1.length :=
 zw0 (body:=zag9 e v) (fun g=>-1≤g.1∧g.1 < (v.1.length:Int)∧g.2.length=v.1.length) (fun g=>(g.1+1).toNat) (fun x=>x.length=v.1.length)
  (fun g ⟨h1,h2,hg⟩=>by
   obtain ⟨i,s⟩:=g
   simp only at h1 h2 hg
   unfold zag9
   by_cases c:0≤i
   ·left
    have e1:IntKind.i64.wrap (i - 1)=i - 1:=zd2 (by omega) (by omega)
    rw [bY (by simpa using c)]
    simp only [e1]
    rw [gdp (by omega)]
    by_cases d:s.getD i.toNat false=true
    ·rw [bY d,gdp (by omega)]
     obtain ⟨b,h3,_⟩:=zaP4 h (L:=v.1) (by omega) (s.set i.toNat false)
     rw [h3,Option.bind_some,gdp (by omega)]
     refine ⟨(i - 1,_),rfl,⟨by simp only; omega,by simp only; omega,?_⟩,by simp only; omega⟩
     simp only [dJ]; exact hg
    ·rw [bW d]
     exact ⟨(i - 1,s),rfl,⟨by simp only; omega,by simp only; omega,hg⟩,by simp only; omega⟩
   ·right
    simp only [c,cK,bV,cD]
    exact ⟨_,rfl,hg⟩) _ ⟨by simp only; rw [zd2 (by omega) (by omega)]; omega,by simp only; rw [zd2 (by omega) (by omega)]; omega,h0⟩
theorem zbY4 {e:aN} (h:vE e=true) (S:List Bool) {l:List aM} (ha:zp1 e=some (l,vE e)):∃ x,zK2 e S=some x∧x.length=l.length:=by
 unfold zK2
 have hl:=zby8 ha
 simp only at hl
 rw [ha,Option.bind_some,gdp (by simp only; omega),h,bY rfl]
 obtain ⟨b,h3,_⟩:=zaP4 h (L:=l) (by omega) S
 simp only [h3,Option.bind_some]
 cases b with
 | false=>exact ⟨_,rfl,by simp⟩
 | true =>
  simp only [cL,eT,bV,cD]
  obtain ⟨x,h4,h5⟩:=zcH2 S (l,true) (by simp only; omega) (List.replicate ((l.length:Int).toNat) false) (by simp)
  rw [h4,Option.bind_some]
  unfold zaq3
  obtain ⟨y,h6,h7⟩:=zcH3 h (l,true) (by simp only; omega) x h5
  rw [h6]
  exact ⟨y,rfl,h7⟩
theorem zaP5 (l:List aG) (p:aJ) (hl:l.length≤1000):∃ v,zj0 l p=some v∧(v=-1∧(∀ x ∈ l,x.aP≠p)∨∃ i:Nat,v=i∧i < l.length∧(l.getD i aG.zero).aP=p):=by
 unfold zj0
 rw [zbD6 l aG.zero (fun a=>decide (a.aP=p)) (fun i hi=>by
  unfold zap0
  have h3:0≤(i:Int)∧(i:Int) < (l.length:Int):=by omega
  simp only [h3.1,h3.2,cW,zo2,cF,cE,Int.toNat_natCast,zd0 i (show i < 4611686018427387904 by omega)]
  split <;> rfl) (by unfold zap0; simp)]
 cases h:l.findIdx? fun a=>decide (a.aP=p) with
 | none =>
  refine ⟨-1,rfl,.inl ⟨rfl,fun x hx e=>?_⟩⟩
  have:=jB.1 h x hx
  simp [e] at this
 | some i =>
  obtain ⟨h1,h2,_⟩:=gR.1 h
  refine ⟨i,rfl,.inr ⟨i,rfl,h1,?_⟩⟩
  rw [bZ,cC h1]
  exact hX h2
theorem zaX9 (t:List aB) (hl:t.length≤1000):zg9 t=some (t.map (·.aA)):=by
 unfold zg9
 rw [zaI0 t aB.zero (·.aA) [] (by omega) (by simp) (fun i s hi hs=>by
  unfold zai2
  have h3:0≤(i:Int)∧(i:Int) < (t.length:Int):=by omega
  simp only [h3.1,h3.2,cW,zo2,cF,cE,Int.toNat_natCast,zd0 i (show i < 4611686018427387904 by omega)]
  rw [gdp (by omega)]) (fun s=>by unfold zai2; simp)]
 rfl
theorem zbn5 {α β:Type} (l:List α) (z:α) (f:α→Option β) {body:Int×List β→Option ((Int×List β)⊕List β)} (hl:l.length≤1000000)
  (hb:∀ (i:Nat) (s:List β),i < l.length→s.length≤1000000→body ((i:Int),s)=some (.inl (((i+1:Nat):Int),zaH6 s (f (l.getD i z))))) (he:∀ s,body ((l.length:Int),s)=some (.inr s)):zc0 body (0,[])=some (l.filterMap f):=by
 have key:=zE6 (body:=body) l z (fun i (s:List β)=>((i:Int),s)) (fun i a s=>some (.inl (zaH6 s (f a)))) (fun s=>s) (fun i s=>s.length≤i)
  (fun i s hi hs=>⟨by rw [hb i s hi (by omega)]; rfl,fun s' h=>by simp only [cV,eW] at h; subst h; have:=zcS3 s (f (l.getD i z)); omega⟩) (fun s hs=>he s) [] (by simp)
 rw [show ((0,[]):Int×List β)=(fun (i:Nat) (s:List β)=>((i:Int),s)) 0 [] from rfl,key,zaL2 f]
 simp
def zby9 (p:aJ) (q:aB):Option aM:=if getH q.aS p=aC.zero then none else some ⟨q.aA.name,getH q.aS p⟩
def zbE8 (p:aJ) (q:aB):Option aM:=if (zE3 q p).2=true then some ⟨q.aA.name,(zE3 q p).1⟩ else none
def sayF (l:List bM) (n:ByteArray):Option aM:=if zy2 l n=aC.zero then none else some ⟨n,zy2 l n⟩
theorem zaS2 {t:List aB} (h:Lens t) {i:Nat} (hi:i < t.length):(t.getD i aB.zero).aS.length≤1000∧(t.getD i aB.zero).aI.length≤1000∧(t.getD i aB.zero).aV.length≤1000:=h _ (zn0 hi)
theorem zbz0 (t:List aB) (p:aJ) (hl:t.length≤1000) (hs:Lens t):zm0 t p=some (t.filterMap (zby9 p)):=by
 unfold zm0
 rw [zbn5 t aB.zero (zby9 p) (by omega) (fun i s hi hs'=>by
  unfold zae6
  have h3:0≤(i:Int)∧(i:Int) < (t.length:Int):=by omega
  have h4:=zaS2 hs hi
  have h5:s.length+1≤4294967296:=by omega
  simp only [h3.1,h3.2,h5,cW,zo2,cF,cE,Int.toNat_natCast,zd0 i (show i < 4611686018427387904 by omega),zI5 (t.getD i aB.zero) p (by omega),Option.bind_some,zaF0]
  unfold zby9
  by_cases c:getH (t.getD i aB.zero).aS p=aC.zero
  ·rw [bY c,bW (by rw [(zak0 _).2 c]; decide)]; rfl
  ·rw [bW c,bY (by rw [(zat0 _).2 c]; rfl)]; rfl) (fun s=>by unfold zae6; simp)]
 rfl
theorem zbK9 (t:List aB) (p:aJ) (hl:t.length≤1000) (hs:Lens t):zo4 t p=some (t.filterMap (zbE8 p)):=by
 unfold zo4
 rw [zbn5 t aB.zero (zbE8 p) (by omega) (fun i s hi hs'=>by
  unfold zak9
  have h3:0≤(i:Int)∧(i:Int) < (t.length:Int):=by omega
  have h4:=zaS2 hs hi
  have h5:s.length+1≤4294967296:=by omega
  simp only [h3.1,h3.2,h5,cW,zo2,cF,cE,Int.toNat_natCast,zd0 i (show i < 4611686018427387904 by omega),zU7 (t.getD i aB.zero) p (by omega) (by omega),Option.bind_some]
  unfold zbE8
  split <;> rfl) (fun s=>by unfold zak9; simp)]
 rfl
theorem zbz1 (l:bA) (hl:l.aQ.length≤1000):∃ ns:List ByteArray,zi9 l.aQ=some ns∧(∀ n,n ∈ ns ↔ ∃ e ∈ l.aQ,e.name=n)∧zi0 l=some (ns.filterMap (sayF l.aQ))∧ns.length≤l.aQ.length:=by
 obtain ⟨ns,h1,h2,h3⟩:=zaP3 l.aQ (by omega)
 refine ⟨ns,h1,h3,?_,h2⟩
 unfold zi0
 rw [h1,Option.bind_some,zbn5 ns ⟨#[]⟩ (sayF l.aQ) (by omega) (fun i s hi hs'=>by
  unfold zae4
  have h3:0≤(i:Int)∧(i:Int) < (ns.length:Int):=by omega
  have h5:s.length+1≤4294967296:=by omega
  simp only [h3.1,h3.2,h5,cW,zo2,cF,cE,Int.toNat_natCast,zd0 i (show i < 4611686018427387904 by omega),zae0 l.aQ _ (by omega),Option.bind_some]
  unfold sayF
  by_cases c:zy2 l.aQ (ns.getD i ⟨#[]⟩)=aC.zero
  ·rw [bY c,bW (by rw [c]; decide)]; rfl
  ·rw [bW c,bY (by rw [gF c]; rfl)]; rfl) (fun s=>by unfold zae4; simp)]
 rfl
theorem zbu1 (a b:List aM) (ha:a.length≤1000000):zf2 a b=some (decide (a=b)):=by
 unfold zf2
 by_cases h:a.length=b.length
 ·rw [bW (by simp [h])]
  exact zbC0 a b aM.zero (by omega) h (fun i=>rfl)
 ·have:¬ a=b:=fun e=>h (by rw [e])
  rw [bY (by simp; omega),gF this]
theorem zbu2 (t:List aB) (p:aJ) (e:aN) (hl:t.length≤1000) (hs:Lens t):∃ bs L,zF5 t p e=some bs∧zp1 e=some (L,vE e)∧bs.length=L.length∧(t=[]→∀ i,bs.getD i false=false):=by
 obtain ⟨L,h1,h2,h3⟩:=zao5 e
 unfold zF5
 rw [h1,Option.bind_some,gdp (by omega)]
 obtain ⟨x,h4,h5,h6⟩:=zw0 (body:=zai8 t p L) (fun g=>∃ i:Nat,g.1=i∧i≤L.length∧g.2.length=L.length∧(t=[]→∀ i,g.2.getD i false=false)) (fun g=>L.length - g.1.toNat) (fun x=>x.length=L.length∧(t=[]→∀ i,x.getD i false=false))
  (fun g ⟨i,hi,hle,hg,hz⟩=>by
   obtain ⟨g1,g2⟩:=g
   simp only at hi hg hz
   subst hi
   unfold zai8
   by_cases c:i < L.length
   ·left
    have h3:0≤(i:Int)∧(i:Int) < (L.length:Int):=by omega
    have h4:(i:Int) < (g2.length:Int):=by omega
    simp only [h3.1,h3.2,h4,cW,zo2,cF,cE,Int.toNat_natCast,zd0 i (show i < 4611686018427387904 by omega),zW5 t _ (show t.length≤1000000 by omega),Option.bind_some]
    rcases zbj4 (t:=t) (nm:=(L.getD i aM.zero).name) with e|⟨k,e,hk,_⟩
    ·rw [e,bW (by decide)]
     exact ⟨_,rfl,⟨i+1,rfl,c,hg,hz⟩,by simp only [Int.toNat_natCast]; omega⟩
    ·have h6:=zaS2 hs hk
     rw [e,bY (by simp),gdp (by omega),gdp (by omega)]
     simp only [Int.toNat_natCast]
     rw [zI5 _ _ (by omega),Option.bind_some]
     exact ⟨_,rfl,⟨i+1,rfl,c,by simp only [dJ]; exact hg,fun h=>by rw [h] at hk; cases hk⟩,by simp only [Int.toNat_natCast]; omega⟩
   ·right
    simp only [show ¬ (i:Int) < (L.length:Int) by omega,cK,bV,cD]
    exact ⟨_,rfl,hg,hz⟩) (0,List.replicate ((L.length:Int).toNat) false) ⟨0,rfl,by omega,by simp,fun _ i=>by
     simp only [bZ,iE]; split <;> rfl⟩
 exact ⟨x,L,by rw [h4]; rfl,h3,h5,h6⟩
def zcy2 (q:aB) (x:aG) (L:List aM):Prop :=
 (∃ a ∈ L,a.name=q.aA.name∧covA q.aA (zy2 x.bK.aQ q.aA.name) a.aK=false ∧
  ((zE3 q x.aP).2=false∧getH q.aS x.aP=zaw7 q.aA (zy2 x.bK.aQ q.aA.name) a.aK∨getH q.aS x.aP=zy2 x.bK.aQ q.aA.name)) ∨
 (getH q.aS x.aP=zy2 x.bK.aQ q.aA.name∧(zE3 q x.aP).2=false)
theorem zcy3 (q:aB) (x:aG) (hl:q.aV.length≤1000):∃ r,zc0 (zaa8 q x) 0=some r∧(r=.inl ()∨r=.inr false):=by
 rcases zav6 (body:=zaa8 q x) q.aV.length (fun _=>True) (fun i hi=>by
  unfold zaa8
  have h3:0≤(i:Int)∧(i:Int) < (q.aV.length:Int):=by omega
  simp only [h3.1,h3.2,cW,eU,zo2,cF,cE,Int.toNat_natCast,zd0 i (show i < 4611686018427387904 by omega)]
  split
  ·exact ⟨false,rfl,trivial⟩
  ·exact ⟨true,rfl,trivial⟩) (by unfold zaa8; simp) with h|⟨h,_⟩
 ·exact ⟨_,h,.inr rfl⟩
 ·exact ⟨_,h,.inl rfl⟩
theorem zdv4 (q:aB) (x:aG) (L:List aM) (he:x.bK.aQ.length≤1000) (h0:q.aS.length≤1000) (h1:q.aI.length≤1000) (h2:q.aV.length≤1000) (hL:L.length≤1000) :
  ∃ b,zI7 q x L=some b∧(b=true→zcy2 q x L):=by
 unfold zI7
 rw [zae0 _ _ (by omega),Option.bind_some,zI5 _ _ (by omega),Option.bind_some,zU7 _ _ (by omega) (by omega),Option.bind_some]
 obtain ⟨r,h3,h4⟩:=zw0 (body:=zaa9 q x L (zy2 x.bK.aQ q.aA.name) (getH q.aS x.aP) (zE3 q x.aP)) (fun g=>∃ i:Nat,g=i∧i≤L.length) (fun g=>L.length - g.toNat)
  (fun r=>r=.inl ()∨∃ b,r=.inr b∧(b=true→zcy2 q x L))
  (fun g ⟨i,hi,hle⟩=>by
   subst hi
   unfold zaa9
   by_cases c:i < L.length
   ·have h3:0≤(i:Int)∧(i:Int) < (L.length:Int):=by omega
    simp only [h3.1,h3.2,cW,zo2,cF,cE,Int.toNat_natCast,zd0 i (show i < 4611686018427387904 by omega),zby7]
    by_cases d:((!decide ((L.getD i aM.zero).name=q.aA.name))||(zu6 q.aA (zy2 x.bK.aQ q.aA.name) ((L.getD i aM.zero).aK)))=true
    ·rw [bY d]
     exact .inl ⟨_,rfl,⟨i+1,rfl,c⟩,by simp only [Int.toNat_natCast]; omega⟩
    ·rw [bW d]
     right
     simp only [dY,dB,dD,jQ,jE,fX] at d
     obtain ⟨d1,d2⟩:=d
     have hm:=zn0 (z:=aM.zero) c
     rw [zbp9,Option.bind_some]
     cases hw:(zE3 q x.aP).2 with
     | false =>
      simp only [cY,cE]
      refine ⟨_,rfl,.inr ⟨_,rfl,fun hb=>.inl ⟨_,hm,d1,d2,.inl ⟨hw,hX hb⟩⟩⟩⟩
     | true =>
      simp only [cL,bV,cD]
      obtain ⟨r,e1,e2⟩:=zcy3 q x h2
      rw [e1]
      rcases e2 with rfl|rfl
      ·refine ⟨_,rfl,.inr ⟨_,rfl,fun hb=>.inl ⟨_,hm,d1,d2,.inr ?_⟩⟩⟩
       simp only [bX,cB] at hb; exact hb.1
      ·exact ⟨_,rfl,.inr ⟨false,rfl,fun h=>nomatch h⟩⟩
   ·right
    simp only [show ¬ (i:Int) < (L.length:Int) by omega,cK,bV,cD]
    exact ⟨_,rfl,.inl rfl⟩) 0 ⟨0,rfl,by omega⟩
 rw [h3]
 rcases h4 with rfl|⟨b,rfl,hb⟩
 ·refine ⟨_,rfl,fun h=>.inr ?_⟩
  simp only [bX,cB,dB] at h
  exact h
 ·exact ⟨b,rfl,hb⟩
theorem zcV9 (e:aN):∃ b,zg2 e aN.zero=some b:=by
 unfold zg2
 show ∃ b,zE8 (zT3 _) e aN.zero=some b
 unfold zE8
 split
 ·exact ⟨_,rfl⟩
 ·rename_i h
  have:e.bE.length=0:=by
   simp only [dY,jQ,dB,dD,jE] at h
   have h2:=h.2
   simp only [aN.zero,List.length_nil] at h2; omega
  rw [ze0]
  unfold zV1
  simp only [this,Int.natCast_zero,show ¬ (0:Int) < 0 by omega,cK,bV,cD]
  exact ⟨_,rfl⟩
theorem zcb5 (l:List aH) (nm:ByteArray) (hl:l.length≤1000):∃ v,zm7 l nm=some v∧(v.2=true→v.1 ∈ l∧v.1.name=nm):=by
 unfold zm7
 obtain ⟨r,h3,h4⟩:=zw0 (body:=zat9 l nm) (fun g=>∃ i:Nat,g=i∧i≤l.length) (fun g=>l.length - g.toNat) (fun r=>r=.inl ()∨∃ x,r=.inr (x,true)∧x ∈ l∧x.name=nm)
  (fun g ⟨i,hi,hle⟩=>by
   subst hi
   unfold zat9
   by_cases c:i < l.length
   ·have h3:0≤(i:Int)∧(i:Int) < (l.length:Int):=by omega
    simp only [h3.1,h3.2,cW,zo2,cF,cE,Int.toNat_natCast,zd0 i (show i < 4611686018427387904 by omega),zby7]
    by_cases d:(l.getD i aH.zero).name=nm
    ·rw [bY (cS d)]
     exact .inr ⟨_,rfl,.inr ⟨_,rfl,zn0 c,d⟩⟩
    ·rw [bW (by simpa using d)]
     exact .inl ⟨_,rfl,⟨i+1,rfl,c⟩,by simp only [Int.toNat_natCast]; omega⟩
   ·right
    simp only [show ¬ (i:Int) < (l.length:Int) by omega,cK,bV,cD]
    exact ⟨_,rfl,.inl rfl⟩) 0 ⟨0,rfl,by omega⟩
 rw [h3]
 rcases h4 with rfl|⟨x,rfl,hx⟩
 ·exact ⟨_,rfl,fun h=>nomatch h⟩
 ·exact ⟨_,rfl,fun _=>hx⟩
theorem zbE9 (l:List aH) (a:aM) (hl:l.length≤1000):∃ v,zA8 l a=some v∧(v=0→∃ r ∈ l,r.name=a.name∧zb4 r a.aK=true):=by
 unfold zA8
 rw [zbk5,Option.bind_some]
 cases catV l with
 | false=>exact ⟨2,rfl,fun h=>nomatch h⟩
 | true =>
  obtain ⟨v,h1,h2⟩:=zcb5 l a.name hl
  simp only [cL,bV,cD,h1,Option.bind_some]
  cases hv:v.2 with
  | false=>exact ⟨10,rfl,fun h=>nomatch h⟩
  | true =>
   simp only [cL,bV,cD]
   cases hf:zv4 v.1 a.aK with
   | false=>exact ⟨12,rfl,fun h=>nomatch h⟩
   | true=>exact ⟨0,rfl,fun _=>⟨v.1,(h2 hv).1,(h2 hv).2,by rw [← zaR7]; exact hf⟩⟩
theorem zaY0 (l:List aH) (e:aN) (hl:l.length≤1000):∃ v,zC6 l e=some v∧(v=0→∀ L b,zp1 e=some (L,b)→∀ a ∈ L,∃ r ∈ l,r.name=a.name∧zb4 r a.aK=true):=by
 unfold zC6
 obtain ⟨w,h1,h2⟩:=zaB1 e
 have hw:=zby8 h1
 rw [h1,Option.bind_some]
 cases h3:w.2 with
 | false=>exact ⟨1,rfl,fun h=>nomatch h⟩
 | true =>
  simp only [cL,bV,cD]
  obtain ⟨r,h4,h5⟩:=zw0 (body:=zai7 l w) (fun g=>∃ i:Nat,g=i∧i≤w.1.length∧∀ k,k < i→∃ r ∈ l,r.name=(w.1.getD k aM.zero).name∧zb4 r (w.1.getD k aM.zero).aK=true) (fun g=>w.1.length - g.toNat)
   (fun r=>(∃ v,r=.inr v∧v≠0)∨r=.inl ()∧∀ k,k < w.1.length→∃ r ∈ l,r.name=(w.1.getD k aM.zero).name∧zb4 r (w.1.getD k aM.zero).aK=true)
   (fun g ⟨i,hi,hle,hg⟩=>by
    subst hi
    unfold zai7
    by_cases c:i < w.1.length
    ·have h3:0≤(i:Int)∧(i:Int) < (w.1.length:Int):=by omega
     obtain ⟨v,e1,e2⟩:=zbE9 l (w.1.getD i aM.zero) hl
     simp only [h3.1,h3.2,cW,zo2,cF,cE,Int.toNat_natCast,zd0 i (show i < 4611686018427387904 by omega),e1,Option.bind_some]
     by_cases d:v=0
     ·rw [bW (by simp [d])]
      refine .inl ⟨_,rfl,⟨i+1,rfl,c,fun k hk=>?_⟩,by simp only [Int.toNat_natCast]; omega⟩
      rcases jR k i with h5|h5
      ·exact hg k h5
      ·have:k=i:=by omega
       subst this; exact e2 d
     ·rw [bY (by simp [d])]
      exact .inr ⟨_,rfl,.inl ⟨v,rfl,d⟩⟩
    ·have:i=w.1.length:=by omega
     subst this
     right
     simp only [show ¬ (w.1.length:Int) < (w.1.length:Int) by omega,cK,bV,cD]
     exact ⟨_,rfl,.inr ⟨rfl,hg⟩⟩) 0 ⟨0,rfl,by omega,fun k hk=>by omega⟩
  rw [h4]
  rcases h5 with ⟨v,rfl,hv⟩|⟨rfl,hg⟩
  ·exact ⟨v,rfl,fun h=>absurd h hv⟩
  ·refine ⟨0,rfl,fun _ L b hL a ha=>?_⟩
   cases hL
   obtain ⟨k,hk,rfl⟩:=zS7 (z:=aM.zero) ha
   exact hg k hk
structure ProcC (t:List aB) (x:aG):Prop where
 pv:zb2 x.aP=true
 gen:0≤x.gen∧x.gen≤1073741824
 led:LedgerP x.bK
 held:∀ n,zy2 x.bK.aQ n≠aC.zero→∃ q ∈ t,q.aA.name=n∧zb4 q.aA (zy2 x.bK.aQ n)=true
 wait:x.bI=true→vE x.bJ.bS=true∧∀ L b,zp1 x.bJ.bS=some (L,b)→(∀ a ∈ L,∃ q ∈ t,q.aA.name=a.name∧zb4 q.aA a.aK=true)∧∀ q ∈ t,zcy2 q x L
 run:x.bI=false→∀ q ∈ t,getH q.aS x.aP=zy2 x.bK.aQ q.aA.name∧(zE3 q x.aP).2=false
structure CenP (c:bD):Prop where
 t:ValidT c.aF
 len:c.aD.length≤8
 each:∀ x ∈ c.aD,ProcC c.aF x
 asc:c.aD.Pairwise fun a b=>ltP a.aP b.aP
 aD:∀ p ∈ zE5 c.aF,∃ x ∈ c.aD,x.aP=p
theorem ValidT.inj {t:List aB} (h:ValidT t) {q q':aB} (h1:q ∈ t) (h2:q' ∈ t) (e:q.aA.name=q'.aA.name):q=q':=by
 obtain ⟨i,hi,rfl⟩:=zS7 (z:=aB.zero) h1
 obtain ⟨j,hj,rfl⟩:=zS7 (z:=aB.zero) h2
 rw [zcm8 h.asc hi hj e]
theorem ValidT.lens' {t:List aB} (h:ValidT t):t.length≤1000∧Lens t:=⟨by have:=h.len; omega,h.lens⟩
theorem zbI7 {l:List bM} {n:ByteArray} (h:zy2 l n≠aC.zero):∃ e ∈ l,e.name=n:=by
 have:∀ (l:List bM) (a:aC),(∀ e ∈ l,e.name≠n)→l.foldl (sayE n) a=a:=by
  intro l
  induction l with
  | nil=>intro a _; rfl
  | cons e l ih =>
   intro a hn
   rw [List.foldl_cons]
   have:sayE n a e=a:=by unfold sayE; rw [bW (hn e (.head _))]
   rw [this]; exact ih a fun x hx=>hn x (.tail _ hx)
 by_cases c:∃ e ∈ l,e.name=n
 ·exact c
 ·exact absurd (this l aC.zero fun e he hh=>c ⟨e,he,hh⟩) h
theorem zcH4 (c:bD) (hl:c.aF.length≤1000) (v:List aM) (hv:v.length≤1000) :
  zc0 (zQ0 c v) 0=some (.inr false)∨zc0 (zQ0 c v) 0=some (.inl ())∧∀ i,i < v.length→∃ q ∈ c.aF,q.aA.name=(v.getD i aM.zero).name∧zb4 q.aA (v.getD i aM.zero).aK=true :=
 zav6 v.length _ (fun i hi=>by
  unfold zQ0
  have h3:0≤(i:Int)∧(i:Int) < (v.length:Int):=by omega
  simp only [h3.1,h3.2,cW,eU,zo2,cF,cE,Int.toNat_natCast,zd0 i (show i < 4611686018427387904 by omega),zW5 c.aF _ (show c.aF.length≤1000000 by omega),Option.bind_some]
  rcases zbj4 (t:=c.aF) (nm:=(v.getD i aM.zero).name) with e|⟨k,e,hk,hn⟩
  ·refine ⟨false,?_,fun h=>nomatch h⟩
   rw [e,gdp (by intro h; exact absurd h (by decide))]; rfl
  ·rw [e,gdp (by intro _; omega)]
   simp only [Int.toNat_natCast,show ¬ (k:Int) < 0 by omega,cK,dF]
   cases hf:zv4 (c.aF.getD k aB.zero).aA (v.getD i aM.zero).aK with
   | false=>exact ⟨false,rfl,fun h=>nomatch h⟩
   | true=>exact ⟨true,rfl,fun _=>⟨_,zn0 hk,hn,by rw [← zaR7]; exact hf⟩⟩) (by unfold zQ0; simp)
theorem zcy4 (c:bD) (x:aG) (L:List aM) (hL:L.length≤8) (he:x.bK.aQ.length≤1000) (hl:c.aF.length≤1000) (hs:Lens c.aF) :
  zc0 (zP9 c x L) 0=some (.inr false)∨zc0 (zP9 c x L) 0=some (.inl ())∧∀ i,i < c.aF.length→zcy2 (c.aF.getD i aB.zero) x L :=
 zav6 c.aF.length _ (fun i hi=>by
  unfold zP9
  have h3:0≤(i:Int)∧(i:Int) < (c.aF.length:Int):=by omega
  have h4:=zaS2 hs hi
  obtain ⟨b,h1,h2⟩:=zdv4 (c.aF.getD i aB.zero) x L he (by omega) (by omega) (by omega) (by omega)
  simp only [h3.1,h3.2,cW,eU,zo2,cF,cE,Int.toNat_natCast,zd0 i (show i < 4611686018427387904 by omega),h1,Option.bind_some]
  cases b with
  | false=>exact ⟨false,rfl,fun h=>nomatch h⟩
  | true=>exact ⟨true,rfl,fun _=>h2 rfl⟩) (by unfold zP9; simp)
theorem zcH5 (c:bD) (x:aG) (hv:ValidT c.aF):∃ b,zI8 c x=some b∧(b=true→ProcC c.aF x):=by
 obtain ⟨hl,hs⟩:=hv.lens'
 unfold zI8
 obtain ⟨bl,l1,l2⟩:=zah7 x.bK
 rw [l1,zaA6]
 cases hp:zb2 x.aP with
 | false=>exact ⟨false,rfl,fun h=>nomatch h⟩
 | true =>
 by_cases cc:x.cost < 1∨1000 < x.cost
 ·refine ⟨false,?_,fun h=>nomatch h⟩
  rcases cc with h|h <;> simp [h]
 have c1:¬ x.cost < 1:=fun h=>cc (.inl h)
 have c2:¬ 1000 < x.cost:=fun h=>cc (.inr h)
 simp only [c1,c2,cK,cL,eT,cY,cE,Option.bind_some,dF]
 cases bl with
 | false=>exact ⟨false,rfl,fun h=>nomatch h⟩
 | true =>
 have led:=l2 rfl
 by_cases cg:x.gen < 0∨1073741824 < x.gen
 ·refine ⟨false,?_,fun h=>nomatch h⟩
  rcases cg with h|h <;> simp [h]
 have g1:¬ x.gen < 0:=fun h=>cg (.inl h)
 have g2:¬ 1073741824 < x.gen:=fun h=>cg (.inr h)
 simp only [g1,g2,cK,cL,eT,bV,cD]
 obtain ⟨ns,n1,n2,n3,n4⟩:=zbz1 x.bK (by have:=led.le; omega)
 have hle:=led.le
 have hv':(ns.filterMap (sayF x.bK.aQ)).length≤1000:=by have:=fY (sayF x.bK.aQ) ns; omega
 rw [n3,Option.bind_some]
 rcases zcH4 c hl _ hv' with h1|⟨h1,h2⟩
 ·exact ⟨false,by rw [h1]; rfl,fun h=>nomatch h⟩
 have hheld:∀ n,zy2 x.bK.aQ n≠aC.zero→∃ q ∈ c.aF,q.aA.name=n∧zb4 q.aA (zy2 x.bK.aQ n)=true:=fun n hn=>by
  have hm:(⟨n,zy2 x.bK.aQ n⟩:aM) ∈ ns.filterMap (sayF x.bK.aQ):=fL.2 ⟨n,(n2 n).2 (zbI7 hn),by unfold sayF; rw [bW hn]⟩
  obtain ⟨i,hi,e⟩:=zS7 (z:=aM.zero) hm
  have:=h2 i hi
  rw [e] at this; exact this
 rw [h1,Option.bind_some]
 show ∃ b,zY3 c x _ ()=some b∧_
 unfold zY3
 have hlen2:(c.aF.filterMap (zby9 x.aP)).length≤1000:=by have:=fY (zby9 x.aP) c.aF; omega
 cases hw:x.bI with
 | false =>
  simp only [cY,cE]
  obtain ⟨b1,s1⟩:=zcV9 x.bJ.bS
  have sr:∃ b,zf8 x.bJ { bO.zero with }=some b:=by
   unfold zf8
   rw [show ({ bO.zero with }:bO).bS=aN.zero from rfl,s1]; exact ⟨_,rfl⟩
  obtain ⟨b2,s2⟩:=sr
  rw [s2,Option.bind_some,zbz0 _ _ hl hs,zbK9 _ _ hl hs]
  by_cases c3:(b2&&decide (x.since=0))=true
  ·simp only [c3,cE,Option.bind_some,zbu1 _ _ (show (ns.filterMap (sayF x.bK.aQ)).length≤1000000 by omega),cN]
   by_cases c4:ns.filterMap (sayF x.bK.aQ)=c.aF.filterMap (zby9 x.aP)
   ·simp only [c4,cF,cE,Option.bind_some,cN]
    refine ⟨_,rfl,fun hb=>⟨hp,by omega,led,hheld,fun h=>(by rw [hw] at h; cases h),fun _ q hq=>?_⟩⟩
    have hb:(c.aF.filterMap (zbE8 x.aP)).length=0:=by have:=hX hb; omega
    constructor
    ·by_cases z1:getH q.aS x.aP=aC.zero
     ·by_cases z2:zy2 x.bK.aQ q.aA.name=aC.zero
      ·rw [z1,z2]
      ·have hm:(⟨q.aA.name,zy2 x.bK.aQ q.aA.name⟩:aM) ∈ ns.filterMap (sayF x.bK.aQ):=fL.2 ⟨_,(n2 _).2 (zbI7 z2),by unfold sayF; rw [bW z2]⟩
       rw [c4] at hm
       obtain ⟨q',hq',e⟩:=fL.1 hm
       unfold zby9 at e
       by_cases z3:getH q'.aS x.aP=aC.zero
       ·rw [bY z3] at e; cases e
       ·rw [bW z3] at e
        simp only [cV,aM.mk.injEq] at e
        have:=hv.inj hq' hq e.1
        subst this
        exact absurd z1 z3
     ·have hm:(⟨q.aA.name,getH q.aS x.aP⟩:aM) ∈ c.aF.filterMap (zby9 x.aP):=fL.2 ⟨q,hq,by unfold zby9; rw [bW z1]⟩
      rw [← c4] at hm
      obtain ⟨n,hn,e⟩:=fL.1 hm
      unfold sayF at e
      by_cases z3:zy2 x.bK.aQ n=aC.zero
      ·rw [bY z3] at e; cases e
      ·rw [bW z3] at e
       simp only [cV,aM.mk.injEq] at e
       rw [← e.1]; exact e.2.symm
    ·cases hq2:(zE3 q x.aP).2 with
     | false=>rfl
     | true =>
      have:(⟨q.aA.name,(zE3 q x.aP).1⟩:aM) ∈ c.aF.filterMap (zbE8 x.aP):=fL.2 ⟨q,hq,by unfold zbE8; rw [bY hq2]⟩
      rw [cQ hb] at this; cases this
   ·simp only [c4,cK,bV,cD,Option.bind_some,eG]
    exact ⟨false,rfl,fun h=>nomatch h⟩
  ·simp only [c3,cD,Option.bind_some,bV,eG]
   exact ⟨false,rfl,fun h=>nomatch h⟩
 | true =>
  simp only [cL,bV,cD]
  have v7:∃ b,zK4 x.bJ=some b∧(b=true→vE x.bJ.bS=true):=by
   unfold zK4
   rw [zZ2,Option.bind_some]
   refine ⟨_,rfl,fun h=>?_⟩
   simp only [bX] at h; exact h.1.1.1.1
  obtain ⟨b7,v1,v2⟩:=v7
  rw [v1,Option.bind_some]
  cases b7 with
  | false=>exact ⟨false,rfl,fun h=>nomatch h⟩
  | true =>
  have hvE:=v2 rfl
  obtain ⟨v9,r1,r2⟩:=zaY0 (c.aF.map (·.aA)) x.bJ.bS (by simpa using hl)
  simp only [cE,zaX9 _ hl,Option.bind_some,r1,cL,dF]
  by_cases c9:v9=0
  ·obtain ⟨bs,L,q1,q2,_⟩:=zbu2 c.aF x.aP x.bJ.bS hl hs
   obtain ⟨b11,q3,_⟩:=zbk6 hvE bs
   rw [q1]
   generalize hB:((((!decide (v9=0))||(decide (x.since < 0)))||(decide (c.now < x.since)))||((!decide (x.bJ.limit=0))&&(decide ((IntKind.i64.wrap (x.since+x.bJ.limit))≤c.now))))=B
   cases B with
   | true=>exact ⟨false,rfl,fun h=>nomatch h⟩
   | false =>
    simp only [cY,cE,Option.bind_some,q3,dF]
    cases b11 with
    | true=>exact ⟨false,rfl,fun h=>nomatch h⟩
    | false =>
     simp only [bV,cD]
     obtain ⟨l',a1,a2,a3⟩:=zao5 x.bJ.bS
     rw [a1,Option.bind_some]
     rcases zcy4 c x l' a2 (by omega) hl hs with h5|⟨h5,h6⟩
     ·exact ⟨false,by rw [h5]; rfl,fun h=>nomatch h⟩
     ·refine ⟨true,by rw [h5]; rfl,fun _=>⟨hp,by omega,led,hheld,fun _=>⟨hvE,fun L b hL=>?_⟩,fun h=>(by rw [hw] at h; cases h)⟩⟩
      rw [a3] at hL; cases hL
      refine ⟨fun a ha=>?_,fun q hq=>?_⟩
      ·obtain ⟨r,hr,e1,e2⟩:=r2 c9 _ _ a3 a ha
       obtain ⟨q,hq,rfl⟩:=cR.1 hr
       exact ⟨q,hq,e1,e2⟩
      ·obtain ⟨i,hi,rfl⟩:=zS7 (z:=aB.zero) hq
       exact h6 i hi
  ·simp only [c9,cK,cY,fQ,cL,bV,cD,cE,Option.bind_some]
   exact ⟨false,rfl,fun h=>nomatch h⟩
theorem zcy5 (c:bD) (hl:c.aD.length≤8) (v:List aJ) (hv:v.length≤1000) :
  zc0 (zX2 c v) 0=some (.inr false)∨zc0 (zX2 c v) 0=some (.inl ())∧∀ i,i < v.length→∃ x ∈ c.aD,x.aP=v.getD i aJ.zero :=
 zav6 v.length _ (fun i hi=>by
  unfold zX2
  have h3:0≤(i:Int)∧(i:Int) < (v.length:Int):=by omega
  obtain ⟨k,h1,h2⟩:=zaP5 c.aD (v.getD i aJ.zero) (by omega)
  simp only [h3.1,h3.2,cW,eU,zo2,cF,cE,Int.toNat_natCast,zd0 i (show i < 4611686018427387904 by omega),h1,Option.bind_some]
  rcases h2 with ⟨rfl,_⟩|⟨k,rfl,hk,e⟩
  ·exact ⟨false,rfl,fun h=>nomatch h⟩
  ·exact ⟨true,by rw [bW (by simp),bY rfl],fun _=>⟨_,zn0 hk,e⟩⟩) (by unfold zX2; simp)
theorem zcH6 (c:bD) (hl:c.aD.length≤8) (ht:ValidT c.aF) :
  zc0 (zX1 c) 0=some (.inr false)∨zc0 (zX1 c) 0=some (.inl ())∧∀ i,i < c.aD.length→ProcC c.aF (c.aD.getD i aG.zero)∧(0 < i→ltP (c.aD.getD (i - 1) aG.zero).aP (c.aD.getD i aG.zero).aP) :=
 zav6 c.aD.length _ (fun i hi=>by
  unfold zX1
  have h3:0≤(i:Int)∧(i:Int) < (c.aD.length:Int):=by omega
  obtain ⟨b,h1,h2⟩:=zcH5 c (c.aD.getD i aG.zero) ht
  simp only [h3.1,h3.2,cW,eU,zo2,cF,cE,Int.toNat_natCast,zd0 i (show i < 4611686018427387904 by omega),h1,Option.bind_some]
  rw [gdp (by
   intro h
   simp only [bX,cB] at h
   rw [zd2 (by omega) (by omega)]; try omega)]
  cases b with
  | false=>exact ⟨false,rfl,fun h=>nomatch h⟩
  | true =>
   simp only [cL,dF]
   by_cases c0:i=0
   ·subst c0
    exact ⟨true,rfl,fun _=>⟨h2 rfl,fun h=>absurd h (by omega)⟩⟩
   ·rw [zaD0 i (by omega) (by omega)]
    simp only [show (0:Int) < (i:Int) by omega,cF,cN,Int.toNat_natCast]
    by_cases c1:ltP (c.aD.getD (i - 1) aG.zero).aP (c.aD.getD i aG.zero).aP
    ·refine ⟨true,?_,fun _=>⟨h2 rfl,fun _=>c1⟩⟩
     rw [bW (by simp only [cB]; exact fun h=>(zaR6 _ _).1 h c1),bY rfl]
    ·refine ⟨false,?_,fun h=>nomatch h⟩
     rw [bY (by simp only [cB]; exact (zaR6 _ _).2 c1)]; rfl) (by unfold zX1; simp)
theorem zcW0 {l:List aG} (h:∀ i,i < l.length→0 < i→ltP (l.getD (i - 1) aG.zero).aP (l.getD i aG.zero).aP):l.Pairwise fun a b=>ltP a.aP b.aP:=by
 rw [fH]
 have g:∀ k,(hk:k < l.length)→l.getD k aG.zero=l[k]:=fun k hk=>by rw [bZ,cC hk]; rfl
 have key:∀ d i,(hj:i+d+1 < l.length)→ltP (l.getD i aG.zero).aP (l.getD (i+d+1) aG.zero).aP:=by
  intro d
  induction d with
  | zero=>intro i hj; exact h (i+1) hj (by omega)
  | succ d ih =>
   intro i hj
   exact zaD2 (ih i (by omega)) (h (i+(d+1)+1) hj (by omega))
 intro i j hi hj hij
 have:=key (j - i - 1) i (by omega)
 rw [show i+(j - i - 1)+1=j by omega,g i hi,g j hj] at this
 exact this
theorem zbk7 (c:bD):∃ b,zR3 c=some b∧(b=true→CenP c):=by
 unfold zR3
 by_cases c0:c.now < 0∨1073741824 < c.now
 ·refine ⟨false,?_,fun h=>nomatch h⟩
  rcases c0 with h|h <;> simp [h]
 have c1:¬ c.now < 0:=fun h=>c0 (.inl h)
 have c2:¬ 1073741824 < c.now:=fun h=>c0 (.inr h)
 simp only [c1,c2,cK,eT,cY,cE,zao2,Option.bind_some,dF]
 cases hv:zaJ3 c.aF with
 | false=>exact ⟨false,rfl,fun h=>nomatch h⟩
 | true =>
 have ht:=(zaj0 _).1 hv
 by_cases c3:(8:Int) < (c.aD.length:Int)
 ·exact ⟨false,by simp [c3],fun h=>nomatch h⟩
 simp only [c3,cK,cL,eT,bV,cD]
 have hl:c.aD.length≤8:=by omega
 rw [zaA8 ht.len ht.each,Option.bind_some]
 rcases zcy5 c hl (zE5 c.aF) (by have:=ht.aD; omega) with h1|⟨h1,h2⟩
 ·exact ⟨false,by rw [h1]; rfl,fun h=>nomatch h⟩
 rw [h1,Option.bind_some]
 show ∃ b,zah1 c ()=some b∧_
 unfold zah1
 rcases zcH6 c hl ht with h3|⟨h3,h4⟩
 ·exact ⟨false,by rw [h3]; rfl,fun h=>nomatch h⟩
 refine ⟨true,by rw [h3]; rfl,fun _=>⟨ht,hl,fun x hx=>?_,zcW0 fun i hi h0=>(h4 i hi).2 h0,fun p hp=>?_⟩⟩
 ·obtain ⟨i,hi,rfl⟩:=zS7 (z:=aG.zero) hx
  exact (h4 i hi).1
 ·obtain ⟨i,hi,e⟩:=zS7 (z:=aJ.zero) hp
  obtain ⟨x,hx,e2⟩:=h2 i hi
  exact ⟨x,hx,e2.trans e⟩
theorem zcH7 {q:aB} {p:aJ} (h:zl4 q=true) (hw:(zE3 q p).2=true):(zH4 q p).2.2=0∧(∀ x,covA q.aA (getH (zH4 q p).1.aS x) (getH q.aS x)=true)∧getH (zH4 q p).1.aS p=getH q.aS p∧(zE3 (zH4 q p).1 p).2=false:=by
 have e0:(zH4 q p).2.2=0:=by unfold zH4; rw [bW (by rw [h]; decide),bW (by rw [hw]; decide)]; rfl
 obtain ⟨_,_,_,e1,e2⟩:=zaO3 e0
 have hn:∀ w ∈ ordQ (zaF2 q p),w.aP≠p:=fun w hw=>by
  unfold ordQ zaF2 at hw
  simp only [cU,zba3] at hw
  rcases hw with hw|hw
  ·exact hw.2
  ·exact hw.2
 have hs:=zcf6 hn
 refine ⟨e0,fun x=>?_,?_,?_⟩
 ·rw [e1,zM8]; exact zaO4 e2 x
 ·rw [e1,zM8]; exact hs.1
 ·rw [e1,zM8]; exact zaO2.2 hs.2
theorem zch3 {q:aB} {p:aJ} {a:aC} (h:zl4 q=true) (hz:getH q.aS p≠aC.zero) (hw:(zE3 q p).2=false) (hc:covA q.aA (getH q.aS p) a=true) :
  (zF2 q p a).2.2=0∧(∀ x,x≠p→covA q.aA (getH (zF2 q p a).1.aS x) (getH q.aS x)=true)∧getH (zF2 q p a).1.aS p=a∧(zE3 (zF2 q p a).1 p).2=false:=by
 have e0:(zF2 q p a).2.2=0:=by
  unfold zF2
  rw [bW (by rw [h]; decide),bW hz,bW (by rw [hw]; decide),bW (by rw [hc]; decide)]
  split <;> rfl
 obtain ⟨hs,_,_,_,_,hh⟩:=zaL4 e0
 rcases hh with ⟨e1,e2⟩|⟨e1,e2,e3⟩
 ·rw [e2]
  exact ⟨rfl,fun x _=>zar1 (zaw8 hs.hv x),e1,hw⟩
 ·have hn:∀ w ∈ ordQ (zaJ2 q p a),w.aP≠p:=zaO2.1 hw
  have hst:=zcf6 hn
  refine ⟨e0,fun x hx=>?_,?_,?_⟩
  ·rw [e2,zM8]
   have:=zaO4 e3 x
   unfold zaJ2 at this
   rw [zR4 hx] at this
   exact this
  ·rw [e2,zM8]
   show getH (advS (zaJ2 q p a)).aS p=a
   rw [hst.1]; exact zaO0 _ _ _
  ·rw [e2,zM8]; exact zaO2.2 hst.2
structure Kept (p:aJ) (t t':List aB):Prop where
 v:ValidT t'
 len:t'.length=t.length
 res:∀ i,i < t.length→(t'.getD i aB.zero).aA=(t.getD i aB.zero).aA
 cov:∀ i,i < t.length→∀ x,x≠p→covA (t.getD i aB.zero).aA (getH (t'.getD i aB.zero).aS x) (getH (t.getD i aB.zero).aS x)=true
theorem zbb6 {α:Type} (l:List α) (i j:Nat) (x z:α) (h:i≠j):(l.set i x).getD j z=l.getD j z:=by
 rw [bZ,bZ,List.getElem?_set_ne h]
theorem zaL7 {p:aJ} {t:List aB} (h:ValidT t):Kept p t t :=
 ⟨h,rfl,fun _ _=>rfl,fun i hi x _=>zar1 (zaw8 ((zz4 _).1 (h.each _ (zn0 (z:=aB.zero) hi))).1.hv x)⟩
theorem zbz2 {p:aJ} {t:List aB} (h:ValidT t) {i:Nat} (hi:i < t.length) {q:aB} (hv:ValidT (t.set i q)) (hr:q.aA=(t.getD i aB.zero).aA)
  (hc:∀ x,x≠p→covA (t.getD i aB.zero).aA (getH q.aS x) (getH (t.getD i aB.zero).aS x)=true):Kept p t (t.set i q):=by
 have k:=zaL7 (p:=p) h
 refine ⟨hv,dJ,fun j hj=>?_,fun j hj x hx=>?_⟩
 ·by_cases e:i=j
  ·subst e; rw [zw3 t i q _ hi]; exact hr
  ·rw [zbb6 t i j q _ e]
 ·by_cases e:i=j
  ·subst e; rw [zw3 t i q _ hi]; exact hc x hx
  ·rw [zbb6 t i j q _ e]; exact k.cov j hj x hx
theorem Kept.trans {p:aJ} {a b c:List aB} (h:Kept p a b) (k:Kept p b c):Kept p a c :=
 ⟨k.v,k.len.trans h.len,fun i hi=>(k.res i (by rw [h.len]; exact hi)).trans (h.res i hi),fun i hi x hx=>by
  have h1:=k.cov i (by rw [h.len]; exact hi) x hx
  rw [h.res i hi] at h1
  exact zba2 h1 (h.cov i hi x hx)⟩
theorem Kept.find {p:aJ} {t t':List aB} (h:ValidT t) (k:Kept p t t') {i:Nat} (hi:i < t.length):zG6 t' (t.getD i aB.zero).aA.name=i:=by
 have:=zbx8 k.v.asc (i:=i) (by rw [k.len]; exact hi)
 rwa [k.res i hi] at this
theorem zcH8 {t:List aB} (h:ValidT t) {i:Nat} (hi:i < t.length) {p:aJ} (hw:(zE3 (t.getD i aB.zero) p).2=true):∃ q ev,zaK9 t p (t.getD i aB.zero).aA.name=(t.set i q,ev,0)∧ev.length≤20∧Kept p t (t.set i q) ∧
  getH q.aS p=getH (t.getD i aB.zero).aS p∧(zE3 q p).2=false∧q.aA=(t.getD i aB.zero).aA:=by
 have hq:=h.each _ (zn0 (z:=aB.zero) hi)
 obtain ⟨e0,e1,e2,e3⟩:=zcH7 hq hw
 have hf:=zbx8 h.asc hi
 have hs:=zaj2 hq (.cancel p e0)
 have e:zaK9 t p (t.getD i aB.zero).aA.name=(t.set i (zH4 (t.getD i aB.zero) p).1,[]++zam0 (t.getD i aB.zero).aA.name (zH4 (t.getD i aB.zero) p).2.1,0):=by
  unfold zaK9 atT putT
  rw [bW (by rw [(zaj0 t).2 h]; decide),hf,bW (by omega)]
  simp only [Int.toNat_natCast,e0,cE]
  rw [zaX8]
 have hv:ValidT (t.set i (zH4 (t.getD i aB.zero) p).1):=by
  have:=(zcH1 (t:=t) (p:=p) (nm:=(t.getD i aB.zero).aA.name) (by rw [e]))
  obtain ⟨_,_,_,_,hv⟩:=this
  rwa [e] at hv
 refine ⟨_,_,e,?_,zbz2 h hi hv hs.2 fun x _=>e1 x,e2,e3,hs.2⟩
 have:=(zbq1 (t.getD i aB.zero) p).2.2.2
 rw [List.nil_append,zaw9]; omega
theorem zch4 {t:List aB} (h:ValidT t) {i:Nat} (hi:i < t.length) {p:aJ} {a:aC} (hz:getH (t.getD i aB.zero).aS p≠aC.zero) (hw:(zE3 (t.getD i aB.zero) p).2=false) (hc:covA (t.getD i aB.zero).aA (getH (t.getD i aB.zero).aS p) a=true) :
  ∃ q ev,zad9 t p ⟨(t.getD i aB.zero).aA.name,a⟩=(t.set i q,ev,0)∧ev.length≤20∧Kept p t (t.set i q)∧getH q.aS p=a∧(zE3 q p).2=false∧q.aA=(t.getD i aB.zero).aA:=by
 have hq:=h.each _ (zn0 (z:=aB.zero) hi)
 obtain ⟨e0,e1,e2,e3⟩:=zch3 hq hz hw hc
 have hf:=zbx8 h.asc hi
 have hs:=zaj2 hq (.lower p a e0)
 have e:zad9 t p ⟨(t.getD i aB.zero).aA.name,a⟩=(t.set i (zF2 (t.getD i aB.zero) p a).1,(if getH (t.getD i aB.zero).aS p=a then [] else [zbX7 p (t.getD i aB.zero).aA.name a])++zam0 (t.getD i aB.zero).aA.name (zF2 (t.getD i aB.zero) p a).2.1,0):=by
  unfold zad9 atT putT
  rw [bW (by rw [(zaj0 t).2 h]; decide)]
  simp only [hf,Int.toNat_natCast,e0,cE,show ¬ (i:Int) < 0 by omega,cD]
  rw [zaX8]
 have hv:ValidT (t.set i (zF2 (t.getD i aB.zero) p a).1):=by
  have:=(zch1 (t:=t) (p:=p) (a:=⟨(t.getD i aB.zero).aA.name,a⟩) (by rw [e]))
  obtain ⟨_,_,_,_,hv⟩:=this
  rwa [e] at hv
 refine ⟨_,_,e,?_,zbz2 h hi hv hs.2 e1,e2,e3,hs.2⟩
 have:=(zba4 (t.getD i aB.zero) p a).2.2.2
 rw [cA,zaw9]
 have:(if getH (t.getD i aB.zero).aS p=a then ([]:List bL) else [zbX7 p (t.getD i aB.zero).aA.name a]).length≤1:=by split <;> simp
 omega
def zbe5 (w:aZ) (t:List aB) (ev:List bL):aZ:=⟨⟨w.c.now,t,w.c.aD⟩,ev⟩
theorem zbb7 (t:List aB) (ev:List bL) (w:aZ) (h:w.ev.length+ev.length≤4294967296):zc8 t ev w=some (w.c.now,t,w.c.aD,w.ev++ev):=by
 unfold zc8
 rw [gdp h]
theorem zdk9 (x:aG) {w:aZ} (h:ValidT w.c.aF) {i:Nat} (hi:i < w.c.aF.length) (he:x.bK.aQ.length≤1000) (hev:w.ev.length≤1000000)
  (hc:covA (w.c.aF.getD i aB.zero).aA (getH (w.c.aF.getD i aB.zero).aS x.aP) (zy2 x.bK.aQ (w.c.aF.getD i aB.zero).aA.name)=true) :
  ∃ q ev,zA6 x (w.c.aF.getD i aB.zero).aA.name w=some (zbe5 w (w.c.aF.set i q) (w.ev++ev))∧ev.length≤40∧Kept x.aP w.c.aF (w.c.aF.set i q) ∧
   getH q.aS x.aP=zy2 x.bK.aQ (w.c.aF.getD i aB.zero).aA.name∧(zE3 q x.aP).2=false∧q.aA=(w.c.aF.getD i aB.zero).aA:=by
 obtain ⟨hl,hs⟩:=h.lens'
 have h4:=zaS2 hs hi
 have hf:=zbx8 h.asc hi
 have k1:∀ (t1:List aB) (ev1:List bL),Kept x.aP w.c.aF t1→ev1.length≤20→getH (t1.getD i aB.zero).aS x.aP=getH (w.c.aF.getD i aB.zero).aS x.aP→(zE3 (t1.getD i aB.zero) x.aP).2=false →
   (∃ q1,t1=w.c.aF.set i q1)→∃ q ev,zL9 x (w.c.aF.getD i aB.zero).aA.name (i:Int) (zbe5 w t1 (w.ev++ev1))=some (zbe5 w (w.c.aF.set i q) (w.ev++ev))∧ev.length≤40∧Kept x.aP w.c.aF (w.c.aF.set i q) ∧
   getH q.aS x.aP=zy2 x.bK.aQ (w.c.aF.getD i aB.zero).aA.name∧(zE3 q x.aP).2=false∧q.aA=(w.c.aF.getD i aB.zero).aA:=by
  intro t1 ev1 hk hev1 hh hw ⟨q1,hq1⟩
  have hi1:i < t1.length:=by rw [hk.len]; exact hi
  have h5:=zaS2 hk.v.lens hi1
  have hr:=hk.res i hi
  have hg:t1.getD i aB.zero=q1:=by rw [hq1]; exact zw3 _ _ _ _ hi
  unfold zL9
  rw [zae0 _ _ (by omega),Option.bind_some]
  show ∃ q ev,gd (0≤(i:Int)∧(i:Int) < (t1.length:Int)) ((zi7 (t1.getD (i:Int).toNat aB.zero) x.aP).bind _)=_∧_
  rw [gdp (by omega)]
  simp only [Int.toNat_natCast]
  rw [zI5 _ _ (by omega),Option.bind_some]
  by_cases e:getH (t1.getD i aB.zero).aS x.aP=zy2 x.bK.aQ (w.c.aF.getD i aB.zero).aA.name
  ·rw [bW (by simp [e,-List.getD_eq_getElem?_getD])]
   refine ⟨q1,ev1,by rw [← hq1],by omega,hq1 ▸ hk,by rw [← hg]; exact e,by rw [← hg]; exact hw,by rw [← hg]; exact hr⟩
  ·rw [bY (by simp [e,-List.getD_eq_getElem?_getD])]
   have hz:getH (t1.getD i aB.zero).aS x.aP≠aC.zero:=fun z=>by
    rw [hh] at z e
    rw [z] at hc
    rcases ((zac9 _ _ _).1 hc).2.2 with h6|h6
    ·exact e (z.trans h6.symm)
    ·exact h6.1 rfl
   obtain ⟨q,ev,r1,r2,r3,r4,r5,r6⟩:=zch4 hk.v hi1 (p:=x.aP) (a:=zy2 x.bK.aQ (w.c.aF.getD i aB.zero).aA.name) hz hw (by rw [hr,hh]; exact hc)
   rw [hr] at r1 r6
   rw [zaP1,Option.bind_some]
   show ∃ q ev,(zc8 (zad9 t1 x.aP ⟨_,_⟩).1 (zad9 t1 x.aP ⟨_,_⟩).2.1 (zbe5 w t1 (w.ev++ev1))).bind _=_∧_
   rw [r1,zbb7 _ _ _ (by show (w.ev++ev1).length+ev.length≤_; rw [cA]; omega),Option.bind_some]
   have es:t1.set i q=w.c.aF.set i q:=by rw [hq1,fZ]
   refine ⟨q,ev1++ev,?_,by rw [cA]; omega,es ▸ hk.trans r3,r4,r5,r6⟩
   show some (zbe5 w (t1.set i q) ((w.ev++ev1)++ev))=_
   rw [es,cG]
 unfold zA6
 rw [zW5 _ _ (by omega),Option.bind_some,hf,gdp (by omega)]
 simp only [Int.toNat_natCast]
 rw [zU7 _ _ (by omega) (by omega),Option.bind_some]
 cases hw:(zE3 (w.c.aF.getD i aB.zero) x.aP).2 with
 | true =>
  rw [bY rfl]
  obtain ⟨q,ev,r1,r2,r3,r4,r5,r6⟩:=zcH8 h hi hw
  rw [zbK7,Option.bind_some,r1,zbb7 _ _ _ (by simp only; omega),Option.bind_some]
  have hg:(w.c.aF.set i q).getD i aB.zero=q:=zw3 _ _ _ _ hi
  exact k1 (w.c.aF.set i q) ev r3 r2 (by rw [hg]; exact r4) (by rw [hg]; exact r5) ⟨q,rfl⟩
 | false =>
  rw [bW (by decide)]
  have:=k1 w.c.aF [] (zaL7 h) (by simp) rfl hw ⟨_,(zaF5 _ _ aB.zero hi).symm⟩
  rw [dX] at this
  exact this
structure OkW (t:List aB) (y:aG):Prop where
 e:vE y.bJ.bS=true
 le:y.bK.aQ.length≤1000
 at_:∀ L b,zp1 y.bJ.bS=some (L,b)→∀ a ∈ L,∃ i,i < t.length∧(t.getD i aB.zero).aA.name=a.name
 cov:∀ i,i < t.length→covA (t.getD i aB.zero).aA (getH (t.getD i aB.zero).aS y.aP) (zy2 y.bK.aQ (t.getD i aB.zero).aA.name)=true
theorem OkW.kept {p:aJ} {t t':List aB} {y:aG} (h:OkW t y) (k:Kept p t t') (hy:y.aP≠p):OkW t' y:=by
 refine ⟨h.e,h.le,fun L b hL a ha=>?_,fun i hi=>?_⟩
 ·obtain ⟨i,hi,e⟩:=h.at_ L b hL a ha
  exact ⟨i,by rw [k.len]; exact hi,by rw [k.res i hi]; exact e⟩
 ·rw [k.len] at hi
  rw [k.res i hi]
  exact zba2 (k.cov i hi _ hy) (h.cov i hi)
structure Good (w:aZ):Prop where
 v:ValidT w.c.aF
 len:w.c.aD.length≤8
 nd:(w.c.aD.map (·.aP)).Nodup
 ok:∀ y ∈ w.c.aD,y.bI=true→OkW w.c.aF y
def cntW (l:List aG):Nat:=l.countP (·.bI)
def bud (w:aZ):Nat:=w.ev.length+2000 * cntW w.c.aD
theorem zdC3 (l:List aG):cntW l≤l.length:=List.countP_le_length
theorem zcN3 {l:List aG} {i:Nat} (h:i < l.length) (y:aG):cntW (l.set i y)+(if (l.getD i aG.zero).bI then 1 else 0)=cntW l+(if y.bI then 1 else 0):=by
 unfold cntW
 induction l generalizing i with
 | nil=>cases h
 | cons x l ih =>
  cases i with
  | zero=>simp only [List.set_cons_zero,List.countP_cons,List.getD_cons_zero]; omega
  | succ i =>
   simp only [List.set_cons_succ,List.countP_cons,gI]
   have:=ih (i:=i) (by simpa using h)
   omega
def zZ6 (x:aG):aG:={ x with bI:=false,bJ:=bO.zero,since:=0 }
theorem zcN4 {i:Nat} {w:aZ} (hi:i < w.c.aD.length):zd7 (i:Int) w=some (w.c.now,w.c.aF,w.c.aD.set i (zZ6 (w.c.aD.getD i aG.zero)),w.ev):=by
 unfold zd7
 rw [gdp (by omega),gdp (by omega),gdp (by omega)]
 simp only [Int.toNat_natCast,fZ]
 rw [zw3 _ _ _ _ hi]
 rw [zw3 _ _ _ _ (by simpa using hi)]
 rfl
theorem zar2 {i:Nat} {w:aZ} (hi:i < w.c.aD.length):zd3 (i:Int) w=some (w.c.now,w.c.aF,w.c.aD.set i { (w.c.aD.getD i aG.zero) with gen:=zo7 (w.c.aD.getD i aG.zero).gen },w.ev):=by
 unfold zd3
 rw [gdp (by omega),gdp (by omega)]
 simp only [Int.toNat_natCast]
theorem zbb8 (k:Int) (p:aJ) {w:aZ} (h:w.ev.length≤1000000):zd5 k p w=some (w.c.now,w.c.aF,w.c.aD,w.ev++[{ bL.zero with kind:=k,aP:=p }]):=by
 unfold zd5
 rw [gdp (by omega)]
theorem zbz3 {w:aZ} (hl:w.c.aD.length≤8) (hq:w.c.aF.length≤1000) (hs:Lens w.c.aF) (hE:∀ y ∈ w.c.aD,y.bI=true→vE y.bJ.bS=true) :
  ∃ v,zs9 w=some (v,w.c.now,w.c.aF,w.c.aD,w.ev)∧(v=-1∨∃ i:Nat,v=i∧i < w.c.aD.length∧(w.c.aD.getD i aG.zero).bI=true∧w.c.aF≠[]):=by
 unfold zs9
 obtain ⟨x,h1,h2⟩:=zw0 (body:=zK1 w) (fun g=>∃ i:Nat,g=i∧i≤w.c.aD.length) (fun g=>w.c.aD.length - g.toNat)
  (fun x=>x=.inl ()∨∃ i:Nat,x=.inr ((i:Int),w.c.now,w.c.aF,w.c.aD,w.ev)∧i < w.c.aD.length∧(w.c.aD.getD i aG.zero).bI=true∧w.c.aF≠[])
  (fun g ⟨i,hi,hle⟩=>by
   subst hi
   unfold zK1
   by_cases c:i < w.c.aD.length
   ·have h3:0≤(i:Int)∧(i:Int) < (w.c.aD.length:Int):=by omega
    simp only [h3.1,h3.2,cW,zo2,cF,cE,Int.toNat_natCast,zd0 i (show i < 4611686018427387904 by omega)]
    cases hw:(w.c.aD.getD i aG.zero).bI with
    | false =>
     simp only [bV,cD,Option.bind_some,eG]
     exact .inl ⟨_,rfl,⟨i+1,rfl,c⟩,by simp only [Int.toNat_natCast]; omega⟩
    | true =>
     simp only [cE,cN]
     obtain ⟨bs,L,q1,q2,q3,q4⟩:=zbu2 w.c.aF (w.c.aD.getD i aG.zero).aP (w.c.aD.getD i aG.zero).bJ.bS hq hs
     obtain ⟨b,r1,r2⟩:=zbk6 (hE _ (zn0 c) hw) bs
     rw [q1,Option.bind_some,r1,Option.bind_some]
     cases b with
     | false =>
      rw [bW (by decide)]
      exact .inl ⟨_,rfl,⟨i+1,rfl,c⟩,by simp only [Int.toNat_natCast]; omega⟩
     | true =>
      rw [bY rfl]
      refine .inr ⟨_,rfl,.inr ⟨i,rfl,c,hw,fun hn=>?_⟩⟩
      have:=r2 (q4 hn); cases this
   ·right
    simp only [show ¬ (i:Int) < (w.c.aD.length:Int) by omega,cK,bV,cD]
    exact ⟨_,rfl,.inl rfl⟩) 0 ⟨0,rfl,by omega⟩
 rw [h1]
 rcases h2 with rfl|⟨i,rfl,h3,h4,h5⟩
 ·exact ⟨-1,rfl,.inl rfl⟩
 ·exact ⟨i,rfl,.inr ⟨i,rfl,h3,h4,h5⟩⟩
theorem zbL0 (l:bA) (e:bM):∃ r,zw5 l e=some r∧r.1.aQ.length≤100:=by
 unfold zw5
 obtain ⟨b,h1,h2⟩:=zah7 l
 rw [h1,Option.bind_some]
 cases b with
 | false=>exact ⟨_,rfl,by simp [bA.zero]⟩
 | true =>
  have hp:=h2 rfl
  have:=hp.le; have:=hp.ls
  simp only [cL,bV,cD]
  rw [gdp (by omega),gdp (by omega),gdp (by omega)]
  obtain ⟨b2,h3,_⟩:=zah7 ⟨l.aQ++[e],l.bG⟩
  rw [h3,Option.bind_some]
  cases b2 with
  | false=>exact ⟨_,rfl,by simp [bA.zero]⟩
  | true=>exact ⟨_,rfl,by simp; omega⟩
def Left (x:aG) (t t':List aB) (ns:List aM):Prop:=∀ j,j < t.length →
 (getH (t'.getD j aB.zero).aS x.aP=zy2 x.bK.aQ (t.getD j aB.zero).aA.name∧(zE3 (t'.getD j aB.zero) x.aP).2=false) ∨
 (t'.getD j aB.zero=t.getD j aB.zero∧∀ a ∈ ns,a.name≠(t.getD j aB.zero).aA.name)
theorem Left.cov {x:aG} {t t':List aB} {ns:List aM} (h:Left x t t' ns) (k:Kept x.aP t t') (hc:∀ i,i < t.length→covA (t.getD i aB.zero).aA (getH (t.getD i aB.zero).aS x.aP) (zy2 x.bK.aQ (t.getD i aB.zero).aA.name)=true) :
  ∀ i,i < t.length→covA (t.getD i aB.zero).aA (getH (t'.getD i aB.zero).aS x.aP) (zy2 x.bK.aQ (t.getD i aB.zero).aA.name)=true:=by
 intro i hi
 rcases h i hi with ⟨e,_⟩|⟨e,_⟩
 ·rw [← e,← k.res i hi]
  exact zar1 (zaw8 ((zz4 _).1 (k.v.each _ (zn0 (z:=aB.zero) (by rw [k.len]; exact hi)))).1.hv x.aP)
 ·rw [e]; exact hc i hi
theorem drop_left {x:aG} {w:aZ} {t:List aB} (h:ValidT t) (k:Kept x.aP t w.c.aF) {ns:List aM} (hL:Left x t w.c.aF ns) (hle:x.bK.aQ.length≤1000) (hev:w.ev.length≤1000000)
  (hc:∀ i,i < t.length→covA (t.getD i aB.zero).aA (getH (t.getD i aB.zero).aS x.aP) (zy2 x.bK.aQ (t.getD i aB.zero).aA.name)=true) {a:aM} (ha:∃ i,i < t.length∧(t.getD i aB.zero).aA.name=a.name) :
  ∃ t' ev,zA6 x a.name w=some (zbe5 w t' (w.ev++ev))∧ev.length≤40∧Kept x.aP t t'∧Left x t t' (ns++[a]):=by
 obtain ⟨i,hi,hn⟩:=ha
 have hi':i < w.c.aF.length:=by rw [k.len]; exact hi
 have hr:=k.res i hi
 obtain ⟨q,ev,h1,h2,h3,h4,h5,h6⟩:=zdk9 x k.v hi' hle hev (by rw [hr]; exact hL.cov k hc i hi)
 rw [hr] at h1 h4
 rw [hn] at h1
 refine ⟨_,ev,h1,h2,k.trans h3,fun j hj=>?_⟩
 by_cases e:i=j
 ·subst e
  left
  rw [zw3 _ _ _ _ hi']
  exact ⟨h4,h5⟩
 ·rw [zbb6 _ _ _ _ _ e]
  rcases hL j hj with h7|⟨h7,h8⟩
  ·exact .inl h7
  ·refine .inr ⟨h7,fun b hb=>?_⟩
   rcases cU.1 hb with hb|hb
   ·exact h8 b hb
   ·rw [dQ] at hb
    subst hb
    rw [← hn]
    exact fun he=>e (zcm8 h.asc hi hj he)
theorem zbz4 {i:Nat} {w:aZ} (g:Good w) (hi:i < w.c.aD.length) (hw:(w.c.aD.getD i aG.zero).bI=true) (hb:bud w≤500000) :
  ∃ t' ev L,zu5 (i:Int) w=some ⟨⟨w.c.now,t',w.c.aD.set i (zZ6 (w.c.aD.getD i aG.zero))⟩,w.ev++ev⟩∧ev.length≤320∧Kept (w.c.aD.getD i aG.zero).aP w.c.aF t' ∧
   zp1 (w.c.aD.getD i aG.zero).bJ.bS=some (L,true)∧Left (w.c.aD.getD i aG.zero) w.c.aF t' L:=by
 have ok:=g.ok _ (zn0 hi) hw
 obtain ⟨L,a1,a2,a3⟩:=zao5 (w.c.aD.getD i aG.zero).bJ.bS
 have hevb:w.ev.length≤500000:=by unfold bud at hb; omega
 unfold zu5
 rw [gdp (by omega)]
 simp only [Int.toNat_natCast]
 rw [a1,Option.bind_some]
 obtain ⟨x,h1,h2⟩:=zw0 (body:=zM0 (i:Int) w L) (fun g=>∃ (k:Nat) (t':List aB) (ev:List bL),g=((k:Int),zbe5 w t' (w.ev++ev))∧k≤L.length∧ev.length≤40 * k∧Kept (w.c.aD.getD i aG.zero).aP w.c.aF t'∧Left (w.c.aD.getD i aG.zero) w.c.aF t' (L.take k))
  (fun g=>L.length - g.1.toNat) (fun x=>∃ (t':List aB) (ev:List bL),x=zbe5 w t' (w.ev++ev)∧ev.length≤320∧Kept (w.c.aD.getD i aG.zero).aP w.c.aF t'∧Left (w.c.aD.getD i aG.zero) w.c.aF t' L)
  (fun g ⟨k,t',ev,hg,hk,he,hK,hLf⟩=>by
   subst hg
   unfold zM0
   by_cases c:k < L.length
   ·left
    have h3:0≤(k:Int)∧(k:Int) < (L.length:Int):=by omega
    simp only [h3.1,h3.2,cW,zo2,cF,cE,Int.toNat_natCast,zd0 k (show k < 4611686018427387904 by omega)]
    obtain ⟨t2,ev2,r1,r2,r3,r4⟩:=drop_left (w:=zbe5 w t' (w.ev++ev)) g.v hK hLf ok.le (by show (w.ev++ev).length≤_; rw [cA]; omega) ok.cov (ok.at_ L _ a3 _ (zn0 (z:=aM.zero) c))
    rw [r1,Option.bind_some]
    refine ⟨_,rfl,⟨k+1,t2,ev++ev2,?_,c,by rw [cA]; omega,r3,?_⟩,by simp only [Int.toNat_natCast]; omega⟩
    ·show (((k+1:Nat):Int),zbe5 (zbe5 w t' (w.ev++ev)) t2 ((w.ev++ev)++ev2))=_
     rw [cG]; rfl
    ·rw [zaj3 aM.zero c]; exact r4
   ·right
    have e:k=L.length:=by omega
    simp only [show ¬ (k:Int) < (L.length:Int) by omega,cK,bV,cD]
    exact ⟨_,rfl,t',ev,rfl,by omega,hK,by rw [e,eK] at hLf; exact hLf⟩) (0,w) ⟨0,w.c.aF,[],by rw [dX]; rfl,by omega,by simp,zaL7 g.v,fun j hj=>.inr ⟨rfl,fun a ha=>by cases ha⟩⟩
 obtain ⟨t',ev,rfl,he,hK,hLf⟩:=h2
 rw [h1,Option.bind_some]
 unfold zY8
 rw [zcN4 (w:=zbe5 w t' (w.ev++ev)) hi,Option.bind_some]
 exact ⟨t',ev,L,rfl,he,hK,by rw [a3,ok.e],hLf⟩
theorem Good.upd {w:aZ} (g:Good w) {i:Nat} (hi:i < w.c.aD.length) {t':List aB} (k:Kept (w.c.aD.getD i aG.zero).aP w.c.aF t') {y:aG} (hp:y.aP=(w.c.aD.getD i aG.zero).aP) (hy:y.bI=true→OkW t' y) (n:Int) (ev:List bL) :
  Good ⟨⟨n,t',w.c.aD.set i y⟩,ev⟩:=by
 have hmap:(w.c.aD.set i y).map (·.aP)=w.c.aD.map (·.aP):=by
  rw [iY,hp]
  have:(w.c.aD.map (·.aP)).getD i aJ.zero=(w.c.aD.getD i aG.zero).aP:=by
   rw [bZ,cO,bZ,cC hi]; rfl
  rw [← this]
  exact zaF5 _ _ _ (by simpa using hi)
 refine ⟨k.v,by simpa using g.len,by show ((w.c.aD.set i y).map (·.aP)).Nodup; rw [hmap]; exact g.nd,fun z hz hwz=>?_⟩
 obtain ⟨j,hj,e⟩:=fN.1 (show z ∈ w.c.aD.set i y from hz)
 rw [dJ] at hj
 by_cases c:i=j
 ·subst c
  rw [List.getElem_set_self] at e
  subst e
  exact hy hwz
 ·rw [List.getElem_set_ne c] at e
  have hm:z ∈ w.c.aD:=e ▸ gL hj
  refine (g.ok z hm hwz).kept k fun he=>?_
  have hn:=fH.1 g.nd
  have e1:(w.c.aD.map (·.aP))[i]'(by simpa using hi)=(w.c.aD.getD i aG.zero).aP:=by
   rw [jK,bZ,cC hi]; rfl
  have e2:(w.c.aD.map (·.aP))[j]'(by simpa using hj)=z.aP:=by rw [jK,e]
  rcases jR i j with h|h
  ·exact hn i j (by simpa using hi) (by simpa using hj) h (by rw [e1,e2,he])
  ·exact hn j i (by simpa using hj) (by simpa using hi) (by omega) (by rw [e1,e2,he])
theorem Good.lens {w:aZ} (g:Good w):w.c.aF.length≤1000∧Lens w.c.aF:=g.v.lens'
theorem Good.sat {w:aZ} (g:Good w):∃ v,zs9 w=some (v,w.c.now,w.c.aF,w.c.aD,w.ev)∧(v=-1∨∃ i:Nat,v=i∧i < w.c.aD.length∧(w.c.aD.getD i aG.zero).bI=true∧w.c.aF≠[]) :=
 zbz3 g.len g.lens.1 g.lens.2 fun y hy hw=>(g.ok y hy hw).e
def midW (w:aZ) (i:Nat) (t:List aB) (y:aG) (ev:List bL):aZ:=⟨⟨w.c.now,t,w.c.aD.set i y⟩,ev⟩
theorem zcn9 {i:Nat} {w:aZ} (g:Good w) (hi:i < w.c.aD.length) (hw:(w.c.aD.getD i aG.zero).bI=true) (hb:bud w≤500000) {L:List aM} (hL:L.length≤8) (hLa:zp1 (w.c.aD.getD i aG.zero).bJ.bS=some (L,true)) {keep:List Bool} (hk:keep.length=L.length) {ev0:List bL} (h0:ev0.length≤w.ev.length+1) :
  ∃ t' y ev,zc0 (zI4 ((i:Int),w) keep L) (0,midW w i w.c.aF (w.c.aD.getD i aG.zero) ev0)=some (midW w i t' y ev)∧Kept (w.c.aD.getD i aG.zero).aP w.c.aF t'∧y.aP=(w.c.aD.getD i aG.zero).aP∧ev.length≤w.ev.length+321:=by
 have ok:=g.ok _ (zn0 hi) hw
 have hevb:w.ev.length≤500000:=by unfold bud at hb; omega
 obtain ⟨x,h1,h2⟩:=zw0 (body:=zI4 ((i:Int),w) keep L) (fun g=>∃ (k:Nat) (t':List aB) (y:aG) (ev:List bL) (ns:List aM),g=((k:Int),midW w i t' y ev)∧k≤L.length∧ev.length≤w.ev.length+1+40 * k∧Kept (w.c.aD.getD i aG.zero).aP w.c.aF t' ∧
   Left (w.c.aD.getD i aG.zero) w.c.aF t' ns∧y.aP=(w.c.aD.getD i aG.zero).aP∧y.bK.aQ.length≤1000)
  (fun g=>L.length - g.1.toNat) (fun x=>∃ (t':List aB) (y:aG) (ev:List bL),x=midW w i t' y ev∧Kept (w.c.aD.getD i aG.zero).aP w.c.aF t'∧y.aP=(w.c.aD.getD i aG.zero).aP∧ev.length≤w.ev.length+321)
  (fun g' ⟨k,t',y,ev,ns,hg,hkl,he,hK,hLf,hy,hyl⟩=>by
   subst hg
   unfold zI4
   by_cases c:k < L.length
   ·left
    have h3:0≤(k:Int)∧(k:Int) < (L.length:Int):=by omega
    have h4:(k:Int) < (keep.length:Int):=by omega
    simp only [h3.1,h3.2,h4,cW,zo2,cF,cE,Int.toNat_natCast,zd0 k (show k < 4611686018427387904 by omega)]
    cases hkp:keep.getD k false with
    | false =>
     simp only [cY,cE]
     obtain ⟨t2,ev2,r1,r2,r3,r4⟩:=drop_left (w:=midW w i t' y ev) g.v hK hLf ok.le (by show ev.length≤_; omega) ok.cov (ok.at_ L _ hLa _ (zn0 (z:=aM.zero) c))
     rw [r1,Option.bind_some]
     exact ⟨_,rfl,⟨k+1,t2,y,ev++ev2,ns++[L.getD k aM.zero],rfl,c,by rw [cA]; omega,r3,r4,hy,hyl⟩,by simp only [Int.toNat_natCast]; omega⟩
    | true =>
     simp only [cL,bV,cD]
     obtain ⟨j,hj,hn⟩:=ok.at_ L _ hLa _ (zn0 (z:=aM.zero) c)
     have hj':j < t'.length:=by rw [hK.len]; exact hj
     have hfd:=hK.find g.v hj
     rw [hn] at hfd
     have h6:=zaS2 hK.v.lens hj'
     have hl':=hK.v.lens'.1
     have hyi:((w.c.aD.set i y).getD i aG.zero)=y:=zw3 _ _ _ _ hi
     show ∃ g'',(zi2 t' (L.getD k aM.zero).name).bind _=_∧_
     rw [zW5 _ _ (by omega),Option.bind_some,hfd]
     show ∃ g'',gd (0≤(j:Int)∧(j:Int) < (t'.length:Int)) ((zi7 (t'.getD (j:Int).toNat aB.zero) _).bind _)=_∧_
     rw [gdp (by omega)]
     simp only [Int.toNat_natCast]
     rw [zI5 _ _ (by omega),Option.bind_some]
     have hgi:0≤(i:Int)∧(i:Int) < (((midW w i t' y ev).c.aD.length:Nat):Int):=by show _∧(i:Int) < (((w.c.aD.set i y).length:Nat):Int); rw [dJ]; omega
     have hym:(midW w i t' y ev).c.aD.getD i aG.zero=y:=hyi
     rw [gdp hgi,hym,zae0 _ _ (by omega),Option.bind_some]
     split
     ·rw [gdp hgi]
      obtain ⟨rr,e1,e2⟩:=zbL0 y.bK ⟨(L.getD k aM.zero).name,zy2 y.bK.aQ (L.getD k aM.zero).name,getH (t'.getD j aB.zero).aS (w.c.aD.getD i aG.zero).aP⟩
      rw [e1,Option.bind_some,gdp hgi]
      refine ⟨_,rfl,⟨k+1,t',{ y with bK:=rr.1 },ev,ns,?_,c,by omega,hK,hLf,hy,by show rr.1.aQ.length≤_; omega⟩,by simp only [Int.toNat_natCast]; omega⟩
      show (((k+1:Nat):Int),(⟨(⟨w.c.now,t',((w.c.aD.set i y).set i _)⟩:bD),ev⟩:aZ))=_
      rw [fZ]; rfl
     ·exact ⟨_,rfl,⟨k+1,t',y,ev,ns,rfl,c,by omega,hK,hLf,hy,hyl⟩,by simp only [Int.toNat_natCast]; omega⟩
   ·right
    simp only [show ¬ (k:Int) < (L.length:Int) by omega,cK,bV,cD]
    exact ⟨_,rfl,t',y,ev,rfl,hK,hy,by omega⟩) (0,midW w i w.c.aF (w.c.aD.getD i aG.zero) ev0) ⟨0,w.c.aF,w.c.aD.getD i aG.zero,ev0,[],rfl,by omega,by omega,zaL7 g.v,fun j hj=>.inr ⟨rfl,fun a ha=>by cases ha⟩,rfl,ok.le⟩
 obtain ⟨t',y,ev,rfl,h3,h4,h5⟩:=h2
 exact ⟨t',y,ev,h1,h3,h4,h5⟩
structure Less (w w':aZ):Prop where
 good:Good w'
 len:w'.c.aD.length=w.c.aD.length
 cnt:cntW w'.c.aD≤cntW w.c.aD
 bud:bud w'≤bud w
theorem zdl0 (w:aZ) (i:Nat) (hi:i < w.c.aD.length) (ev:List bL):midW w i w.c.aF (w.c.aD.getD i aG.zero) ev=⟨⟨w.c.now,w.c.aF,w.c.aD⟩,ev⟩:=by
 unfold midW; rw [zaF5 _ _ _ hi]
theorem zcy6 {i:Nat} {w:aZ} (g:Good w) (hi:i < w.c.aD.length) (hw:(w.c.aD.getD i aG.zero).bI=true) (hb:bud w≤500000) :
  ∃ v w',zD4 ((i:Int),w)=some (.inl (v,w'))∧Less w w'∧cntW w'.c.aD < cntW w.c.aD∧(v=-1∨∃ k:Nat,v=k∧k < w'.c.aD.length∧(w'.c.aD.getD k aG.zero).bI=true):=by
 have ok:=g.ok _ (zn0 hi) hw
 have hevb:w.ev.length≤500000:=by unfold bud at hb; omega
 unfold zD4
 have h3:0≤(i:Int)∧(i:Int) < (w.c.aD.length:Int):=by omega
 simp only [h3.1,h3.2,cW,zo2,cF,cE,Int.toNat_natCast]
 rw [zbb8 _ _ (by omega),Option.bind_some]
 obtain ⟨bs,L',q1,q2,q3,_⟩:=zbu2 w.c.aF (w.c.aD.getD i aG.zero).aP (w.c.aD.getD i aG.zero).bJ.bS g.lens.1 g.lens.2
 obtain ⟨L,a1,a2,a3⟩:=zao5 (w.c.aD.getD i aG.zero).bJ.bS
 rw [q1,Option.bind_some]
 obtain ⟨keep,p1,p2⟩:=zbY4 ok.e bs a3
 rw [p1,Option.bind_some,a1,Option.bind_some]
 obtain ⟨t',y,ev,r1,r2,r3,r4⟩:=zcn9 g hi hw hb a2 (by rw [a3,ok.e]) p2 (ev0:=w.ev++[{ bL.zero with kind:=2,aP:=(w.c.aD.getD i aG.zero).aP }]) (by simp)
 rw [zdl0 w i hi] at r1
 rw [r1,Option.bind_some]
 unfold zad6
 have hyi:((midW w i t' y ev).c.aD.getD i aG.zero)=y:=zw3 _ _ _ _ hi
 have hl1:i < (midW w i t' y ev).c.aD.length:=by show i < (w.c.aD.set i y).length; rw [dJ]; exact hi
 rw [zcN4 (w:=midW w i t' y ev) hl1,Option.bind_some,hyi]
 have e1:(midW w i t' y ev).c.aD.set i (zZ6 y)=w.c.aD.set i (zZ6 y):=by show (w.c.aD.set i y).set i _=_; rw [fZ]
 rw [e1]
 have hl2:i < (w.c.aD.set i (zZ6 y)).length:=by rw [dJ]; exact hi
 rw [zar2 (w:=⟨⟨_,_,w.c.aD.set i (zZ6 y)⟩,_⟩) hl2,Option.bind_some]
 simp only [zw3 _ _ _ _ hi,fZ]
 have hg':Good ⟨⟨w.c.now,t',w.c.aD.set i { zZ6 y with gen:=zo7 (zZ6 y).gen }⟩,ev⟩:=g.upd hi r2 (y:={ zZ6 y with gen:=zo7 (zZ6 y).gen }) r3 (fun h=>by cases h) _ _
 have hcnt:cntW (w.c.aD.set i { zZ6 y with gen:=zo7 (zZ6 y).gen })+1=cntW w.c.aD:=by
  have:=zcN3 hi { zZ6 y with gen:=zo7 (zZ6 y).gen }
  rw [hw] at this
  simpa [zZ6] using this
 obtain ⟨v,s1,s2⟩:=hg'.sat
 show ∃ v w',(zs9 ⟨⟨w.c.now,t',w.c.aD.set i { zZ6 y with gen:=zo7 (zZ6 y).gen }⟩,ev⟩).bind _=_∧_
 rw [s1,Option.bind_some]
 refine ⟨v,_,rfl,⟨hg',by show (w.c.aD.set i _).length=_; rw [dJ],by show cntW (w.c.aD.set i _)≤_; omega,by show ev.length+2000 * cntW (w.c.aD.set i _)≤w.ev.length+2000 * cntW w.c.aD; omega⟩,by show cntW (w.c.aD.set i _) < _; omega,?_⟩
 rcases s2 with h|⟨k,h5,h6,h7,_⟩
 ·exact .inl h
 ·exact .inr ⟨k,h5,h6,h7⟩
theorem Less.refl {w:aZ} (g:Good w):Less w w:=⟨g,rfl,dC _,dC _⟩
theorem Less.trans {a b c:aZ} (h:Less a b) (k:Less b c):Less a c:=⟨k.good,k.len.trans h.len,eJ k.cnt h.cnt,eJ k.bud h.bud⟩
theorem zbb9 {w:aZ} (g:Good w) (hb:bud w≤500000):∃ w',zm3 w=some w'∧Less w w':=by
 unfold zm3
 obtain ⟨v,s1,s2⟩:=g.sat
 rw [s1,Option.bind_some]
 obtain ⟨x,h1,h2⟩:=zw0 (body:=zD4) (fun z=>Less w z.2∧(z.1=-1∨∃ k:Nat,z.1=k∧k < z.2.c.aD.length∧(z.2.c.aD.getD k aG.zero).bI=true)) (fun z=>cntW z.2.c.aD) (fun x=>Less w x)
  (fun z ⟨hl,hv⟩=>by
   obtain ⟨v,w1⟩:=z
   simp only at hl hv
   rcases hv with rfl|⟨k,rfl,hk,hkw⟩
   ·right
    exact ⟨w1,rfl,hl⟩
   ·left
    obtain ⟨v',w',e1,e2,e3,e4⟩:=zcy6 hl.good hk hkw (eJ hl.bud hb)
    exact ⟨(v',w'),e1,⟨hl.trans e2,e4⟩,e3⟩) (v,w) ⟨Less.refl g,by
   rcases s2 with h|⟨k,h5,h6,h7,_⟩
   ·exact .inl h
   ·exact .inr ⟨k,h5,h6,h7⟩⟩
 refine ⟨x,?_,h2⟩
 show (zc0 _ (v,w)).bind _=_
 rw [h1]; rfl
theorem zcy7 {w:aZ} (hq:w.c.aF=[]) (hl:w.c.aD.length≤8) (hE:∀ y ∈ w.c.aD,y.bI=true→vE y.bJ.bS=true):zm3 w=some w:=by
 unfold zm3
 obtain ⟨v,s1,s2⟩:=zbz3 hl (by rw [hq]; simp) (by rw [hq]; intro q h; cases h) hE
 rw [s1,Option.bind_some]
 rcases s2 with rfl|⟨k,_,_,_,h⟩
 ·rw [ze0]; rfl
 ·exact absurd hq h
theorem zbY5 {w:aZ} (hl:w.c.aD.length≤8):∃ v,zc6 w=some (v,w.c.now,w.c.aF,w.c.aD,w.ev)∧(v=-1∨∃ i:Nat,v=i∧i < w.c.aD.length∧(w.c.aD.getD i aG.zero).bI=true):=by
 unfold zc6
 obtain ⟨x,h1,h2⟩:=zw0 (body:=zN7 w) (fun g=>(∃ i:Nat,g.2.2=i∧i≤w.c.aD.length)∧(g.1=-1∨∃ i:Nat,g.1=i∧i < w.c.aD.length∧(w.c.aD.getD i aG.zero).bI=true)) (fun g=>w.c.aD.length - g.2.2.toNat)
  (fun x=>x=-1∨∃ i:Nat,x=i∧i < w.c.aD.length∧(w.c.aD.getD i aG.zero).bI=true)
  (fun g ⟨⟨i,hi,hle⟩,hg⟩=>by
   obtain ⟨b,wh,g2⟩:=g
   simp only at hi hg
   subst hi
   unfold zN7
   by_cases c:i < w.c.aD.length
   ·left
    have h3:0≤(i:Int)∧(i:Int) < (w.c.aD.length:Int):=by omega
    simp only [h3.1,h3.2,cW,zo2,cF,cE,Int.toNat_natCast,zd0 i (show i < 4611686018427387904 by omega)]
    split
    ·rename_i h
     simp only [bX] at h
     exact ⟨_,rfl,⟨⟨i+1,rfl,c⟩,.inr ⟨i,rfl,c,h.1.1.1⟩⟩,by simp only [Int.toNat_natCast]; omega⟩
    ·exact ⟨_,rfl,⟨⟨i+1,rfl,c⟩,hg⟩,by simp only [Int.toNat_natCast]; omega⟩
   ·right
    simp only [show ¬ (i:Int) < (w.c.aD.length:Int) by omega,cK,bV,cD]
    exact ⟨_,rfl,hg⟩) (-1,0,0) ⟨⟨0,rfl,by omega⟩,.inl rfl⟩
 rw [h1,Option.bind_some]
 exact ⟨x,rfl,h2⟩
theorem zbq5 {i:Nat} {w:aZ} (g:Good w) (hi:i < w.c.aD.length) (hw:(w.c.aD.getD i aG.zero).bI=true) (hb:bud w≤500000) :
  ∃ w1 w2,zu5 (i:Int) w=some w1∧zd3 (i:Int) w1=some (w2.c.now,w2.c.aF,w2.c.aD,w2.ev)∧Good w2∧w2.c.aD.length=w.c.aD.length∧cntW w2.c.aD < cntW w.c.aD∧bud w2+1000≤bud w:=by
 obtain ⟨t',ev,L,h1,h2,h3,_,_⟩:=zbz4 g hi hw hb
 have hl2:i < (w.c.aD.set i (zZ6 (w.c.aD.getD i aG.zero))).length:=by rw [dJ]; exact hi
 have hn:=zar2 (w:=⟨⟨w.c.now,t',w.c.aD.set i (zZ6 (w.c.aD.getD i aG.zero))⟩,w.ev++ev⟩) hl2
 simp only [zw3 _ _ _ _ hi,fZ] at hn
 have hcnt:cntW (w.c.aD.set i { zZ6 (w.c.aD.getD i aG.zero) with gen:=zo7 (zZ6 (w.c.aD.getD i aG.zero)).gen })+1=cntW w.c.aD:=by
  have:=zcN3 hi { zZ6 (w.c.aD.getD i aG.zero) with gen:=zo7 (zZ6 (w.c.aD.getD i aG.zero)).gen }
  rw [hw] at this
  simpa [zZ6] using this
 refine ⟨_,⟨⟨w.c.now,t',w.c.aD.set i { zZ6 (w.c.aD.getD i aG.zero) with gen:=zo7 (zZ6 (w.c.aD.getD i aG.zero)).gen }⟩,w.ev++ev⟩,h1,hn,g.upd hi h3 (y:={ zZ6 (w.c.aD.getD i aG.zero) with gen:=zo7 (zZ6 (w.c.aD.getD i aG.zero)).gen }) rfl (fun h=>by cases h) _ _,by simp,by show cntW (w.c.aD.set i _) < _; omega,?_⟩
 show (w.ev++ev).length+2000 * cntW (w.c.aD.set i _)+1000≤w.ev.length+2000 * cntW w.c.aD
 rw [cA]
 omega
theorem Good.ev {w:aZ} (g:Good w) (ev:List bL) (n:Int):Good ⟨⟨n,w.c.aF,w.c.aD⟩,ev⟩:=⟨g.v,g.len,g.nd,g.ok⟩
theorem zdl1 (n:Int) {w:aZ} (g:Good w) (hb:bud w≤400000):∃ r,zH0 n w=some r:=by
 unfold zH0
 split
 ·exact ⟨_,rfl⟩
 split
 ·exact ⟨_,rfl⟩
 have g1:=g.ev w.ev (IntKind.i64.wrap (w.c.now+n))
 obtain ⟨v,e1,e2⟩:=zbY5 (w:=⟨⟨IntKind.i64.wrap (w.c.now+n),w.c.aF,w.c.aD⟩,w.ev⟩) g.len
 rw [e1,Option.bind_some]
 obtain ⟨x,h1,h2⟩:=zw0 (body:=zV7) (fun z=>Good z.2∧bud z.2≤400000∧(z.1=-1∨∃ k:Nat,z.1=k∧k < z.2.c.aD.length∧(z.2.c.aD.getD k aG.zero).bI=true)) (fun z=>cntW z.2.c.aD) (fun _=>True)
  (fun z ⟨hg,hbz,hv⟩=>by
   obtain ⟨v,w1⟩:=z
   simp only at hg hbz hv
   rcases hv with rfl|⟨k,rfl,hk,hkw⟩
   ·right
    exact ⟨w1,rfl,trivial⟩
   ·left
    have hev:w1.ev.length≤400000:=by unfold bud at hbz; omega
    unfold zV7
    have h3:0≤(k:Int)∧(k:Int) < (w1.c.aD.length:Int):=by omega
    simp only [h3.1,h3.2,cW,zo2,cF,cE,Int.toNat_natCast]
    rw [zbb8 _ _ (by omega),Option.bind_some]
    have gn:=hg.ev (w1.ev++[{ bL.zero with kind:=4,aP:=(w1.c.aD.getD k aG.zero).aP }]) w1.c.now
    obtain ⟨wa,wb,r1,r2,r3,r4,r5,r6⟩:=zbq5 (w:=⟨⟨w1.c.now,w1.c.aF,w1.c.aD⟩,w1.ev++[{ bL.zero with kind:=4,aP:=(w1.c.aD.getD k aG.zero).aP }]⟩) gn hk hkw (by unfold bud at hbz ⊢; simp only [cA,List.length_singleton]; omega)
    have hbb:bud wb+999≤bud w1:=by
     have:bud (⟨⟨w1.c.now,w1.c.aF,w1.c.aD⟩,w1.ev++[{ bL.zero with kind:=4,aP:=(w1.c.aD.getD k aG.zero).aP }]⟩:aZ)=bud w1+1:=by unfold bud; simp only [cA,List.length_singleton]; omega
     omega
    rw [r1,Option.bind_some,r2,Option.bind_some]
    obtain ⟨wc,s1,s2⟩:=zbb9 r3 (by omega)
    show ∃ g',(zm3 wb).bind _=_∧_
    rw [s1,Option.bind_some]
    obtain ⟨v2,e3,e4⟩:=zbY5 s2.good.len
    rw [e3,Option.bind_some]
    refine ⟨_,rfl,⟨s2.good.ev _ _,?_,e4⟩,?_⟩
    ·have:=s2.bud
     show bud wc≤_
     omega
    ·have:=s2.cnt
     show cntW wc.c.aD < cntW w1.c.aD
     exact Nat.lt_of_le_of_lt this r5) (v,⟨⟨IntKind.i64.wrap (w.c.now+n),w.c.aF,w.c.aD⟩,w.ev⟩) ⟨g1,hb,e2⟩
 show ∃ r,(zc0 _ (v,_)).bind _=some r
 rw [h1]
 exact ⟨_,rfl⟩
theorem zdl2 (p:aJ) (cost:Int) {w:aZ} (hl:w.c.aD.length≤8):∃ r,zh1 p cost w=some r:=by
 unfold zh1
 split
 ·exact ⟨_,rfl⟩
 obtain ⟨v,h1,_⟩:=zaP5 w.c.aD p (by omega)
 rw [h1,Option.bind_some]
 split
 ·exact ⟨_,rfl⟩
 split
 ·exact ⟨_,rfl⟩
 rw [gdp (by omega)]
 obtain ⟨x,h2,_⟩:=zw0 (body:=zV6) (fun g=>0≤g.1∧g.1 < (g.2.length:Int)∧g.2.length≤100) (fun g=>g.1.toNat) (fun _=>True) (fun g ⟨h0,h1,h2⟩=>by
  obtain ⟨i,l⟩:=g
  simp only at h0 h1 h2
  unfold zV6
  by_cases c:0 < i
  ·have e:IntKind.i64.wrap (i - 1)=i - 1:=zd2 (by omega) (by omega)
   simp only [c,cF,e,cN]
   rw [gdp (by intro; omega),gdp (by intro; omega)]
   split
   ·left
    rw [gdp ⟨h0,h1⟩,gdp (by omega),gdp ⟨h0,h1⟩,gdp (by omega)]
    exact ⟨_,rfl,⟨by simp only; omega,by simp only [dJ]; omega,by simp only [dJ]; exact h2⟩,by simp only; omega⟩
   ·exact .inr ⟨_,rfl,trivial⟩
  ·simp only [c,cK,eG,bV,cD]
   rw [gdp (by intro h; cases h),gdp (by intro h; cases h)]
   exact .inr ⟨_,rfl,trivial⟩) (IntKind.i64.wrap (((w.c.aD.length+1:Nat):Int) - 1),w.c.aD++[{ aG.zero with aP:=p,cost:=cost }])
  ⟨by simp only; rw [zd2 (by omega) (by omega)]; omega,by simp only [cA,List.length_singleton]; rw [zd2 (by omega) (by omega)]; omega,by simp only [cA,List.length_singleton]; omega⟩
 rw [h2,Option.bind_some]
 exact ⟨_,rfl⟩
theorem Good.other {w:aZ} (g:Good w) {i j:Nat} (hi:i < w.c.aD.length) (hj:j < w.c.aD.length) (h:i≠j):(w.c.aD.getD j aG.zero).aP≠(w.c.aD.getD i aG.zero).aP:=by
 intro e
 have hn:=fH.1 g.nd
 have gg:∀ k,(hk:k < w.c.aD.length)→(w.c.aD.map (·.aP))[k]'(by simpa using hk)=(w.c.aD.getD k aG.zero).aP:=fun k hk=>by
  rw [jK,bZ,cC hk]; rfl
 rcases jR i j with c|c
 ·exact hn i j (by simpa using hi) (by simpa using hj) c (by rw [gg i hi,gg j hj,e])
 ·exact hn j i (by simpa using hj) (by simpa using hi) (by omega) (by rw [gg i hi,gg j hj,e])
theorem zdl3 {t:List aB} (h:ValidT t) (p:aJ):Kept p t (remT t p).1:=by
 have hv:=zcG9 h p
 rw [zcn8 h] at hv ⊢
 have gm:∀ i,i < t.length→(t.map (remN · p)).getD i aB.zero=remN (t.getD i aB.zero) p:=fun i hi=>by
  rw [bZ,cO,bZ,cC hi]; rfl
 refine ⟨hv,by simp,fun i hi=>?_,fun i hi x hx=>?_⟩
 ·show ((t.map (remN · p)).getD i aB.zero).aA=_
  rw [gm i hi]; exact zbY0 (h.each _ (zn0 hi)) p
 ·show covA _ (getH ((t.map (remN · p)).getD i aB.zero).aS x) _=true
  rw [gm i hi]; exact (zbI1 (h.each _ (zn0 hi)) hx).1
theorem zcy8 {i:Nat} {w:aZ} (g:Good w) (hi:i < w.c.aD.length) (hb:bud w≤400000):∃ r,zH1 (i:Int) w=some r:=by
 unfold zH1
 have hev:w.ev.length≤400000:=by unfold bud at hb; omega
 have hl:=g.len
 have hre:=zdv3 g.v (w.c.aD.getD i aG.zero).aP
 rw [gdp (by omega),zbK8,Option.bind_some]
 simp only [Int.toNat_natCast]
 rw [zbb7 _ _ _ (by omega),Option.bind_some]
 have e1:IntKind.i64.wrap ((i:Int)+1)=((i+1:Nat):Int):=zd0 i (by omega)
 simp only [e1,Int.toNat_natCast]
 rw [gdp ⟨by omega,by omega,by omega,trivial⟩,gdp (by omega),gdp (by simp only [dG,dS]; omega)]
 rw [zbb8 _ _ (by show (w.ev++_).length≤_; rw [cA]; omega),Option.bind_some]
 have hsub:(w.c.aD.take i++(w.c.aD.drop (i+1)).take (w.c.aD.length - (i+1))).Sublist w.c.aD:=by
  have e:w.c.aD=w.c.aD.take i++w.c.aD.drop i:=(eM _ _).symm
  conv=>rhs; rw [e]
  refine (List.Sublist.refl _).append ((List.take_sublist _ _).trans ?_)
  rw [show w.c.aD.drop (i+1)=(w.c.aD.drop i).drop 1 by rw [eQ]]
  exact List.drop_sublist _ _
 have k:=zdl3 g.v (w.c.aD.getD i aG.zero).aP
 have hmem:∀ y ∈ w.c.aD.take i++(w.c.aD.drop (i+1)).take (w.c.aD.length - (i+1)),∃ j,j < w.c.aD.length∧i≠j∧w.c.aD.getD j aG.zero=y:=fun y hy=>by
  rcases cU.1 hy with hy|hy
  ·obtain ⟨j,hj,e⟩:=zS7 (z:=aG.zero) hy
   rw [dG] at hj
   refine ⟨j,by omega,by omega,?_⟩
   rw [← e,zcf2 _ _ _ _ (by omega)]
  ·obtain ⟨j,hj,e⟩:=zS7 (z:=aG.zero) (gC hy)
   rw [dS] at hj
   refine ⟨i+1+j,by omega,by omega,?_⟩
   rw [← e,bZ,bZ,dT]
 have g':Good ⟨⟨w.c.now,(remT w.c.aF (w.c.aD.getD i aG.zero).aP).1,w.c.aD.take i++(w.c.aD.drop (i+1)).take (w.c.aD.length - (i+1))⟩,(w.ev++(remT w.c.aF (w.c.aD.getD i aG.zero).aP).2)++[{ bL.zero with kind:=5,aP:=(w.c.aD.getD i aG.zero).aP }]⟩:=by
  refine ⟨k.v,eJ hsub.length_le hl,g.nd.sublist (hsub.map _),fun y hy hw=>?_⟩
  obtain ⟨j,hj,hij,rfl⟩:=hmem y hy
  exact (g.ok _ (zn0 hj) hw).kept k (g.other hi hj hij)
 have hc:cntW (w.c.aD.take i++(w.c.aD.drop (i+1)).take (w.c.aD.length - (i+1)))≤cntW w.c.aD:=hsub.countP_le
 obtain ⟨w',h1,_⟩:=zbb9 g' (by unfold bud at hb ⊢; simp only [cA,List.length_singleton]; omega)
 exact ⟨w',by show (zm3 _).bind _=_; rw [h1]; rfl⟩
theorem zcW1 {q:aB} {p:aJ} {a:aC} {pr:Int} (e0:(zZ1 q p a pr).2.2=0) (x:aJ):covA q.aA (getH (zZ1 q p a pr).1.aS x) (getH q.aS x)=true:=by
 obtain ⟨hs,_,_,_,_,h⟩:=zbm1 e0
 rcases h with ⟨_,e⟩|⟨_,_,e,h2⟩|⟨_,_,_,e,h2⟩
 ·rw [e]; exact zar1 (zaw8 hs.hv x)
 ·rw [e,zM8]; exact zaO4 h2 x
 ·rw [e,zM8]; exact zaO4 h2 x
theorem zdl4 {t:List aB} {nm:ByteArray} {f:aB→ResT} (hf:∀ q,(f q).2.2≠0→(f q).1=[]∧(f q).2.1=[]) (h:(atT t nm f).2.2≠0):(atT t nm f).1=[]∧(atT t nm f).2.1=[]:=by
 unfold atT at h ⊢
 split
 ·exact ⟨rfl,rfl⟩
 ·rename_i c1
  rw [bW c1] at h
  split
  ·exact ⟨rfl,rfl⟩
  ·rename_i c2
   rw [bW c2] at h
   exact hf _ h
theorem zcN5 {t:List aB} {nm:ByteArray} {x:aB×List aY×Int} {ev:List bL} (h:(putT t nm x ev).2.2≠0):(putT t nm x ev).1=[]∧(putT t nm x ev).2.1=[]:=by
 unfold putT at h ⊢
 split
 ·rename_i c; rw [bY c] at h; exact absurd rfl h
 ·exact ⟨rfl,rfl⟩
theorem zcW2 {t:List aB} (h:ValidT t) (p:aJ) (a:aM) (pr:Int):(zaE3 t p a pr).2.1.length≤20∧((zaE3 t p a pr).1=[]∨∀ p',Kept p' t (zaE3 t p a pr).1):=by
 by_cases e:(zaE3 t p a pr).2.2=0
 ·obtain ⟨i,hi,h1,h2,h3,h4,h5,h6⟩:=zcV4 e
  have hq:=h.each _ (zn0 (z:=aB.zero) hi)
  have hs:=zaj2 hq (.claim p a.aK pr h3)
  refine ⟨?_,.inr fun p'=>by rw [h4] at h6 ⊢; exact zbz2 h hi h6 hs.2 fun x _=>zcW1 h3 x⟩
  unfold zaE3 at e ⊢
  obtain ⟨_,i',_,_,_,e2⟩:=zcy0 e
  rw [e2] at e ⊢
  cases hfu:zbe4 t p with
  | true=>rw [hfu,bY rfl] at e; exact absurd e (by decide)
  | false =>
   rw [hfu,bW (by decide)] at e
   rw [bW (by decide),(zbY1 e).2]
   have:=(zbx6 (t.getD i' aB.zero) p a.aK pr).2.2.2
   show ([]++zam0 _ _).length≤20
   rw [List.nil_append,zaw9]; omega
 ·have:=zdl4 (t:=t) (nm:=a.name) (f:=fun q=>if zbe4 t p=true then errT 4 else putT t a.name (zZ1 q p a.aK pr) []) (fun q hq=>by
   cases hfu:zbe4 t p with
   | true=>exact ⟨rfl,rfl⟩
   | false=>rw [hfu,bW (by decide)] at hq; rw [bW (by decide)]; exact zcN5 hq) e
  exact ⟨by rw [show (zaE3 t p a pr).2.1=[] from this.2]; simp,.inl this.1⟩
theorem zcW3 {t:List aB} (h:ValidT t) (p:aJ) (a:aM):(zad9 t p a).2.1.length≤20∧((zad9 t p a).1=[]∨Kept p t (zad9 t p a).1):=by
 by_cases e:(zad9 t p a).2.2=0
 ·obtain ⟨e0,hev⟩:(∃ i:Nat,i < t.length∧(zF2 (t.getD i aB.zero) p a.aK).2.2=0∧(zad9 t p a).1=t.set i (zF2 (t.getD i aB.zero) p a.aK).1)∧(zad9 t p a).2.1.length≤20:=by
   unfold zad9 at e ⊢
   obtain ⟨_,i,h1,h2,h3,e2⟩:=zcy0 e
   rw [e2] at e ⊢
   obtain ⟨e3,e4⟩:=zbY1 e
   rw [e4,h1,zaX8]
   refine ⟨⟨i,h2,e3,rfl⟩,?_⟩
   have:=(zba4 (t.getD i aB.zero) p a.aK).2.2.2
   show ((if getH (t.getD i aB.zero).aS p=a.aK then ([]:List bL) else [zbX7 p a.name a.aK])++zam0 _ _).length≤20
   rw [cA,zaw9]
   have:(if getH (t.getD i aB.zero).aS p=a.aK then ([]:List bL) else [zbX7 p a.name a.aK]).length≤1:=by split <;> simp
   omega
  obtain ⟨i,hi,h3,h4⟩:=e0
  obtain ⟨_,_,_,_,hv⟩:=zch1 e
  have hq:=h.each _ (zn0 (z:=aB.zero) hi)
  have hs:=zaj2 hq (.lower p a.aK h3)
  obtain ⟨_,_,hz,hw,hc,_⟩:=zaL4 h3
  have he:=zch3 hq hz hw hc
  exact ⟨hev,.inr (by rw [h4] at hv ⊢; exact zbz2 h hi hv hs.2 he.2.1)⟩
 ·have:=zdl4 (t:=t) (nm:=a.name) (f:=fun q=>putT t a.name (zF2 q p a.aK) (if getH q.aS p=a.aK then [] else [zbX7 p a.name a.aK])) (fun q hq=>zcN5 hq) e
  exact ⟨by rw [show (zad9 t p a).2.1=[] from this.2]; simp,.inl this.1⟩
theorem zbY6 (a:aC):zs7 a=true ↔ (1≤a.mode∧a.mode≤5∧a.aT=0)∨(a.mode=0∧1≤a.aT∧a.aT≤8):=by
 unfold zs7 zz5
 simp only [dY,bX,cB]
 omega
theorem zcW4 {r:aH} {F a b:aC} (hg:zQ8 a b=true) (hc:covA r F b=true):covA r F a=true:=by
 have hs:zh0 r=true:=by
  rcases (perm_iff r b).1 ((zac9 _ _ _).1 hc).2.1 with h|h
  ·exact h.1
  ·exact zbH7 h
 unfold zQ8 at hg
 by_cases h1:zs7 b=true∧a≠b
 ·rw [bW (by simp [h1.1,h1.2])] at hg
  by_cases h2:a=aC.zero
  ·rw [h2]; exact zbD3 ((zac9 _ _ _).1 hc).1 hs
  ·have h2':¬ a=({ aC.zero with }:aC):=h2
   rw [bW (by simpa using h2')] at hg
   by_cases h3:zs7 a=true
   ·rw [bW (by simp [h3])] at hg
    have hb0:b≠aC.zero:=fun e=>by rw [e] at h1; exact absurd h1.1 (by decide)
    have hbf:zb4 r b=true:=by
     rcases (perm_iff r b).1 ((zac9 _ _ _).1 hc).2.1 with h|h
     ·exact absurd h.2 hb0
     ·exact h
    have ub:=(zbY6 b).1 h1.1
    have ua:=(zbY6 a).1 h3
    have hba:covA r b a=true:=by
     rw [zac9]
     rw [zM5] at hbf
     by_cases hm:a.mode=0
     ·rw [bW (by simp [hm])] at hg
      have hg:=hX hg
      have fa:zb4 r a=true:=(zM5 r a).2 (by omega)
      exact ⟨zE7 ((zM5 r b).2 hbf),zE7 fa,.inr ⟨hb0,h2,.inr ⟨by omega,by omega⟩⟩⟩
     ·rw [bY (by simp [hm])] at hg
      have hc2:=(zaW7 b.mode a.mode).1 hg
      have fa:zb4 r a=true:=(zM5 r a).2 (by omega)
      exact ⟨zE7 ((zM5 r b).2 hbf),zE7 fa,.inr ⟨hb0,h2,.inl ⟨by omega,hg⟩⟩⟩
    exact zba2 hc hba
   ·rw [bY (by simp [h3])] at hg; cases hg
 ·rw [bY (by
   by_cases hu:zs7 b=true
   ·have:a=b:=Decidable.byContradiction fun h=>h1 ⟨hu,h⟩
    simp [this]
   ·simp [hu])] at hg
  cases hg
theorem zch5 {l:bA} (h:LedgerP l) {r:aH} {n:ByteArray} (hf:zb4 r (zy2 l.aQ n)=true):∀ d k,k+d=l.aQ.length→covA r (zy2 l.aQ n) (zy2 (l.aQ.take k) n)=true
 | 0,k,e=>by
  rw [show k=l.aQ.length by omega,eK]
  exact zar1 (zE7 hf)
 | d+1,k,e=>by
  have ih:=zch5 h hf d (k+1) (by omega)
  have hk:k < l.aQ.length:=by omega
  rw [zaj3 bM.zero hk,zbu0] at ih
  have hg:=h.grow k hk
  by_cases c:(l.aQ.getD k bM.zero).name=n
  ·rw [bY c] at ih
   rw [c] at hg
   rw [← hg.1]
   exact zcW4 hg.2 ih
  ·rw [bW c] at ih; exact ih
theorem zcH9 {l:bA} (h:LedgerP l) {e:bM} (he:e ∈ l.aQ):zy2 l.aQ e.name≠aC.zero:=by
 have key:∀ d k,k+d=l.aQ.length→(∃ x ∈ l.aQ.take k,x.name=e.name)→zy2 (l.aQ.take k) e.name≠aC.zero:=by
  have up:∀ k,k≤l.aQ.length→(∃ x ∈ l.aQ.take k,x.name=e.name)→zy2 (l.aQ.take k) e.name≠aC.zero:=by
   intro k
   induction k with
   | zero=>intro _ ⟨x,hx,_⟩; cases hx
   | succ k ih =>
    intro hk ⟨x,hx,hn⟩
    rw [zaj3 bM.zero (by omega),zbu0]
    by_cases c:(l.aQ.getD k bM.zero).name=e.name
    ·rw [bY c]
     have hg:=(h.grow k (by omega)).2
     intro hz
     rw [hz] at hg
     unfold zQ8 at hg
     rw [bY (by simp [show zs7 aC.zero=false by decide])] at hg
     cases hg
    ·rw [bW c]
     refine ih (by omega) ?_
     rw [zaj3 bM.zero (by omega)] at hx
     rcases cU.1 hx with hx|hx
     ·exact ⟨x,hx,hn⟩
     ·rw [dQ] at hx; subst hx; exact absurd hn c
  exact fun d k e=>up k (by omega)
 have:=key 0 l.aQ.length (by omega) ⟨e,by rw [eK]; exact he,rfl⟩
 rwa [eK] at this
theorem zdl5 {t:List aB} (ht:ValidT t) {x:aG} (hx:ProcC t x) {L:List aM} (hL:∀ a ∈ L,∃ q ∈ t,q.aA.name=a.name∧zb4 q.aA a.aK=true) {q:aB} (hq:q ∈ t) (hp:zcy2 q x L) :
  covA q.aA (getH q.aS x.aP) (zy2 x.bK.aQ q.aA.name)=true:=by
 have hv:=((zz4 _).1 (ht.each _ hq)).1.hv
 have hpm:=zaw8 hv x.aP
 have same:getH q.aS x.aP=zy2 x.bK.aQ q.aA.name→covA q.aA (getH q.aS x.aP) (zy2 x.bK.aQ q.aA.name)=true:=fun e=>by rw [← e]; exact zar1 hpm
 rcases hp with ⟨a,ha,hn,hc,h⟩|⟨h,_⟩
 ·rcases h with ⟨_,h⟩|h
  ·by_cases z:zy2 x.bK.aQ q.aA.name=aC.zero
   ·rw [z]; exact zbD3 hpm (zbV4 (ht.each _ hq))
   ·obtain ⟨q1,m1,n1,f1⟩:=hx.held _ z
    have e1:=ht.inj m1 hq n1
    subst e1
    obtain ⟨q2,m2,n2,f2⟩:=hL a ha
    have e2:=ht.inj m2 hq (n2.trans hn)
    subst e2
    rw [h]
    exact (zbU3 f1 f2 hc).2.1
  ·exact same h
 ·exact same h
theorem zbY7 {t:List aB} {n:ByteArray} (h:∃ q ∈ t,q.aA.name=n):∃ i,i < t.length∧(t.getD i aB.zero).aA.name=n:=by
 obtain ⟨q,hq,e⟩:=h
 obtain ⟨i,hi,rfl⟩:=zS7 (z:=aB.zero) hq
 exact ⟨i,hi,e⟩
theorem CenP.good {c:bD} (h:CenP c) (ev:List bL):Good ⟨c,ev⟩:=by
 refine ⟨h.t,h.len,?_,fun y hy hw=>?_⟩
 ·have:=h.asc
  rw [List.Nodup,List.pairwise_map]
  exact this.imp fun hlt e=>by rw [e] at hlt; exact zaD1 _ hlt
 ·have hp:=h.each y hy
  obtain ⟨h1,h2⟩:=hp.wait hw
  refine ⟨h1,by have:=hp.led.le; omega,fun L b hL a ha=>?_,fun i hi=>?_⟩
  ·obtain ⟨q,hq,e,_⟩:=(h2 L b hL).1 a ha
   exact zbY7 ⟨q,hq,e⟩
  ·obtain ⟨v,h3,h4⟩:=zaB1 y.bJ.bS
   obtain ⟨h5,h6⟩:=h2 v.1 v.2 h3
   exact zdl5 h.t hp h5 (zn0 hi) (h6 _ (zn0 hi))
def zcI0 (p:aJ):aJ:={ p with site:=p.site+1 }
theorem zdl6 (p:aJ):p≠zcI0 p:=fun e=>by have:=dR aJ.site e; unfold zcI0 at this; simp only at this; omega
theorem zcy9 {w:aZ} {i:Nat} (hi:i < w.c.aD.length) (r:bO) {L:List aM} (hL:L.length≤8) (g:Good w) (hb:bud w≤400000) :
  ∃ w',zc0 (zG4 (i:Int) r L) (0,w)=some w'∧w'.c.aD=w.c.aD∧w'.ev.length≤w.ev.length+160∧(Good w'∨w'.c.aF=[]):=by
 have hev:w.ev.length≤400000:=by unfold bud at hb; omega
 obtain ⟨x,h1,h2⟩:=zw0 (body:=zG4 (i:Int) r L) (fun z=>(∃ k:Nat,z.1=k∧k≤L.length∧z.2.ev.length≤w.ev.length+20 * k)∧z.2.c.aD=w.c.aD∧(Good z.2∨z.2.c.aF=[])) (fun z=>L.length - z.1.toNat)
  (fun x=>x.c.aD=w.c.aD∧x.ev.length≤w.ev.length+160∧(Good x∨x.c.aF=[]))
  (fun z ⟨⟨k,hk,hkl,he⟩,hp,hg⟩=>by
   obtain ⟨z1,w1⟩:=z
   simp only at hk he hp hg
   subst hk
   unfold zG4
   by_cases c:k < L.length
   ·left
    have h3:0≤(k:Int)∧(k:Int) < (L.length:Int):=by omega
    simp only [h3.1,h3.2,cW,zo2,cF,cE,Int.toNat_natCast,zd0 k (show k < 4611686018427387904 by omega)]
    rw [gdp (by rw [hp]; omega),zbX9,Option.bind_some]
    rcases hg with hg|hg
    ·obtain ⟨c1,c2⟩:=zcW2 hg.v (w1.c.aD.getD i aG.zero).aP (L.getD k aM.zero) r.bH
     rw [zbb7 _ _ _ (by omega),Option.bind_some]
     refine ⟨_,rfl,⟨⟨k+1,rfl,c,by simp only [cA]; omega⟩,hp,?_⟩,by simp only [Int.toNat_natCast]; omega⟩
     rcases c2 with c2|c2
     ·exact .inr c2
     ·exact .inl ⟨(c2 aJ.zero).v,hg.len,hg.nd,fun y hy hw=>(hg.ok y hy hw).kept (c2 (zcI0 y.aP)) (zdl6 _)⟩
    ·have hcl:zaE3 w1.c.aF (w1.c.aD.getD i aG.zero).aP (L.getD k aM.zero) r.bH=errT 10:=by
      rw [hg]; rfl
     rw [hcl,zbb7 _ _ _ (by simp [errT]; omega),Option.bind_some]
     exact ⟨_,rfl,⟨⟨k+1,rfl,c,by simp only [errT,dX]; omega⟩,hp,.inr rfl⟩,by simp only [Int.toNat_natCast]; omega⟩
   ·right
    simp only [show ¬ (k:Int) < (L.length:Int) by omega,cK,bV,cD]
    exact ⟨_,rfl,hp,by omega,hg⟩) (0,w) ⟨⟨0,rfl,by omega,by simp⟩,rfl,.inl g⟩
 exact ⟨x,h1,h2⟩
theorem zbu3 {w:aZ} (h:Good w∧bud w≤500000∨w.c.aF=[]∧w.c.aD.length≤8∧∀ y ∈ w.c.aD,y.bI=true→vE y.bJ.bS=true):∃ w',zm3 w=some w':=by
 rcases h with ⟨h,hb⟩|⟨h1,h2,h3⟩
 ·obtain ⟨w',h1,_⟩:=zbb9 h hb; exact ⟨w',h1⟩
 ·exact ⟨w,zcy7 h1 h2 h3⟩
theorem zbF0 {w:aZ} (hl:w.c.aD.length≤8):bud w≤w.ev.length+16000:=by
 have:=zdC3 w.c.aD; unfold bud; omega
theorem zcz0 {i:Nat} {c:bD} (h:CenP c) (hi:i < c.aD.length) (r:bO):∃ x,zC1 (i:Int) r ⟨c,[]⟩=some x:=by
 have g:=h.good []
 have hp:=h.each _ (zn0 (z:=aG.zero) hi)
 unfold zC1
 show ∃ x,gd (0≤(i:Int)∧(i:Int) < ((c.aD.length:Nat):Int)) (if (c.aD.getD (i:Int).toNat aG.zero).bI=true then _ else _)=some x
 rw [gdp (by omega)]
 simp only [Int.toNat_natCast]
 cases hw:(c.aD.getD i aG.zero).bI with
 | true=>rw [bY rfl]; exact ⟨_,rfl⟩
 | false =>
 rw [bW (by decide)]
 have v7:∃ b,zK4 r=some b∧(b=true→vE r.bS=true):=by
  unfold zK4
  rw [zZ2,Option.bind_some]
  refine ⟨_,rfl,fun h=>?_⟩
  simp only [bX] at h; exact h.1.1.1.1
 obtain ⟨b7,v1,v2⟩:=v7
 rw [v1,Option.bind_some]
 cases b7 with
 | false=>exact ⟨_,rfl⟩
 | true =>
 have hvE:=v2 rfl
 obtain ⟨hl,hs⟩:=h.t.lens'
 obtain ⟨v9,r1,r2⟩:=zaY0 (c.aF.map (·.aA)) r.bS (by simpa using hl)
 simp only [cL,bV,cD,zaX9 _ hl,Option.bind_some,r1]
 by_cases c9:v9=0
 ·simp only [c9,cF,cL,bV,cD]
  have h3:0≤(i:Int)∧(i:Int) < ((c.aD.length:Nat):Int):=by omega
  rw [gdp h3,gdp h3,gdp h3]
  simp only [fZ,zw3 _ _ _ _ hi]
  have hn:=fun (y:aG)=>zar2 (i:=i) (w:=⟨⟨c.now,c.aF,c.aD.set i y⟩,[]⟩) (by show i < (c.aD.set i y).length; rw [dJ]; exact hi)
  obtain ⟨L,a1,a2,a3⟩:=zao5 r.bS
  rw [hn,Option.bind_some,a1,Option.bind_some]
  simp only [zw3 _ _ _ _ hi,fZ]
  have g1:Good ⟨⟨c.now,c.aF,c.aD.set i { { { { c.aD.getD i aG.zero with bI:=true } with bJ:=r } with since:=c.now } with gen:=zo7 (c.aD.getD i aG.zero).gen }⟩,[]⟩ :=
   g.upd (w:=⟨c,[]⟩) hi (zaL7 h.t) (y:={ { { { c.aD.getD i aG.zero with bI:=true } with bJ:=r } with since:=c.now } with gen:=zo7 (c.aD.getD i aG.zero).gen }) rfl (fun _=>⟨hvE,by have:=hp.led.le; show (c.aD.getD i aG.zero).bK.aQ.length≤_; omega,fun L' b hL a ha=>by
    obtain ⟨res,hr,e1,_⟩:=r2 c9 L' b hL a ha
    obtain ⟨q,hq,rfl⟩:=cR.1 hr
    exact zbY7 ⟨q,hq,e1⟩,fun j hj=>by
    have:=(hp.run hw _ (zn0 (z:=aB.zero) (show j < c.aF.length from hj))).1
    show covA (c.aF.getD j aB.zero).aA (getH (c.aF.getD j aB.zero).aS (c.aD.getD i aG.zero).aP) (zy2 (c.aD.getD i aG.zero).bK.aQ (c.aF.getD j aB.zero).aA.name)=true
    rw [← this]
    exact zar1 (zaw8 ((zz4 _).1 (h.t.each _ (zn0 (z:=aB.zero) hj))).1.hv _)⟩) _ _
  obtain ⟨w',l1,l2,l3,l4⟩:=zcy9 (i:=i) (by show i < (c.aD.set i _).length; rw [dJ]; exact hi) r a2 g1 (eJ (zbF0 g1.len) (by simp))
  rw [l1,Option.bind_some]
  unfold zZ8
  have hl':w'.c.aD.length≤8:=by rw [l2]; exact g1.len
  obtain ⟨w2,s1⟩:=zbu3 (w:=w') (by
   rcases l4 with l4|l4
   ·exact .inl ⟨l4,eJ (zbF0 hl') (by simp only [List.length_nil] at l3; omega)⟩
   ·exact .inr ⟨l4,hl',fun y hy hwy=>by rw [l2] at hy; exact (g1.ok y hy hwy).e⟩)
  rw [s1]; exact ⟨_,rfl⟩
 ·simp only [c9,cK,cY,cE]
  exact ⟨_,rfl⟩
end Ab
end Go.Proofs.YtcggeefhhegeoaaGreatDoor
