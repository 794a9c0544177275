import Derived.Test.YtenebhlnfjcffaaGreatDoorOgB
import Derived.Test.YtenebhlnfjcffaaGreatDoorTabF
import Derived.KernelRfl
import Derived.Test.YtenebhlnfjcffaaGreatDoorHm31
namespace Go.Proofs.YtenebhlnfjcffaaGreatDoor
namespace Ab
set_option linter.unusedVariables false
set_option linter.unusedSimpArgs false
theorem zcU7 (a b:ByteArray):Op.bytesLess a.toList b.toList=decide (ltN a b):=by
 unfold ltN
 exact Bool.decide_eq_true.symm
theorem zcE5 (i j:Nat) (h:i < j) (hj:j≤1000):IntKind.i64.wrap ((IntKind.u64.wrap (IntKind.i64.wrap ((i:Int)+(j:Int)))).fdiv (2 ^ 1))=(((i+j) / 2:Nat):Int):=by
 have e0:IntKind.i64.wrap ((i:Int)+(j:Int))=(i:Int)+(j:Int):=zo7 (by omega) (by omega)
 rw [e0]
 have:IntKind.u64.wrap ((i:Int)+(j:Int))=(i:Int)+(j:Int):=by
  unfold IntKind.wrap
  simp [IntKind.bits,IntKind.signed]
  omega
 rw [this,show ((i:Int)+(j:Int)).fdiv (2 ^ 1)=(((i+j) / 2:Nat):Int) by
  rw [Int.fdiv_eq_ediv_of_nonneg _ (by decide)]; omega]
 exact zo7 (by omega) (by omega)
theorem zcq2 {l:List aC} (hl:l.length≤8) (ha:l.Pairwise fun a b=>ltN a.name b.name) (nm:ByteArray) :
  ∃ i:Nat,zh7 (l.length:Int) l nm=some ((i:Int),l,nm)∧i≤l.length∧(∀ k,k < i→ltN (l.getD k aC.zero).name nm)∧(i < l.length→¬ ltN (l.getD i aC.zero).name nm):=by
 have asc:∀ i j,i < j→j < l.length→ltN (l.getD i aC.zero).name (l.getD j aC.zero).name:=fun i j h hj=>by
  have:=dT.1 ha i j (by omega) hj h
  rwa [bU,bU,bX (by omega),bX hj]
 unfold zh7
 obtain ⟨x,h1,h2⟩:=zv4 (body:=zW3)
  (fun g=>∃ i j:Nat,g=((i:Int),(j:Int),l,nm)∧i≤j∧j≤l.length∧(∀ k,k < i→ltN (l.getD k aC.zero).name nm)∧(j < l.length→¬ ltN (l.getD j aC.zero).name nm))
  (fun g=>(g.2.1 - g.1).toNat)
  (fun x=>∃ i:Nat,x=((i:Int),l,nm)∧i≤l.length∧(∀ k,k < i→ltN (l.getD k aC.zero).name nm)∧(i < l.length→¬ ltN (l.getD i aC.zero).name nm))
  (fun g ⟨i,j,hg,hij,hj,hlo,hhi⟩=>by
   subst hg
   unfold zW3
   by_cases c:i < j
   ·left
    simp only [show (i:Int) < (j:Int) by omega,cB,bZ,zcE5 i j c (by omega)]
    unfold zd7
    rw [gdp (by omega),Option.bind_some]
    simp only [Int.toNat_natCast,zcU7,Bool.not_not]
    by_cases d:ltN (l.getD ((i+j) / 2) aC.zero).name nm
    ·rw [bY (cR d),show (((i+j) / 2:Nat):Int)+1=(((i+j) / 2+1:Nat):Int) by omega,zo7 (by omega) (by omega)]
     refine ⟨_,rfl,⟨_,j,rfl,by omega,hj,fun k hk=>?_,hhi⟩,by simp only; omega⟩
     rcases fX k ((i+j) / 2) with h|h
     ·exact zau9 (asc k _ h (by omega)) d
     ·rw [show k=(i+j) / 2 by omega]; exact d
    ·rw [bW (by simpa using d)]
     exact ⟨_,rfl,⟨i,_,rfl,by omega,by omega,hlo,fun _=>d⟩,by simp only; omega⟩
   ·right
    have e:i=j:=by omega
    subst e
    simp only [fV,cL,bT,cA]
    exact ⟨_,rfl,i,rfl,hj,hlo,hhi⟩) ((0:Int),(l.length:Int),l,nm) ⟨0,l.length,rfl,by omega,by omega,fun k hk=>by omega,fun h=>by omega⟩
 obtain ⟨i,rfl,h3⟩:=h2
 exact ⟨i,by rw [h1]; rfl,h3⟩
theorem zaX3 (l:List aC) (a:aD) (hl:catV l=true):∃ v,zp1 l a=some v∧(v=0 ↔ ∃ r ∈ l,r.name=a.name∧zb8 r a.aI=true):=by
 obtain ⟨h8,_,hp⟩:=(zbw4 l).1 hl
 obtain ⟨i,h1,h2,h3,h4⟩:=zcq2 h8 hp a.name
 unfold zp1 zm9
 rw [zbf4,Option.bind_some,hl,bW (by decide),h1,Option.bind_some]
 simp only [bV]
 rw [gdp (fun h=>⟨by omega,h⟩)]
 have only:∀ r ∈ l,r.name=a.name→i < l.length∧r=l.getD i aC.zero:=fun r hr hn=>by
  obtain ⟨k,hk,rfl⟩:=zD8 (z:=aC.zero) hr
  rcases hI k i with c|c|c
  ·exact absurd hn (zaH1 (h3 k c))
  ·subst c; exact ⟨hk,rfl⟩
  ·have:=dT.1 hp i k (by omega) hk c
   refine absurd ?_ (h4 (by omega))
   rw [← hn,bU,bU,bX (by omega),bX hk]
   exact this
 by_cases c:i < l.length∧(l.getD i aC.zero).name=a.name
 ·simp only [Option.bind_some,Int.toNat_natCast,zJ9,cR c.2,show (i:Int) < (l.length:Int) by have:=c.1; omega,cB,gU,cP,bT,cA]
  have c1:0≤(i:Int)∧(i:Int) < (l.length:Int):=by have:=c.1; omega
  rw [gdp ⟨c1.1,trivial⟩]
  rcases hb (zb8 (l.getD i aC.zero) a.aI) with hf|hf
  ·simp only [hf,cP,bT,cA]
   exact ⟨0,rfl,(fun _=>⟨_,zs3 c.1,c.2,hf⟩),fun _=>rfl⟩
  ·simp only [hf,cX,bZ]
   exact ⟨12,rfl,(fun h=>nomatch h),fun ⟨r,hr,hn,hr2⟩=>by rw [(only r hr hn).2,hf] at hr2; cases hr2⟩
 ·have:(decide ((i:Int) < (l.length:Int))&&decide ((l.getD i aC.zero).name=a.name))=false:=by
   rw [gR]
   by_cases d:i < l.length
   ·exact .inr (eD fun h=>c ⟨d,h⟩)
   ·exact .inl (eD (by omega))
  simp only [Option.bind_some,Int.toNat_natCast,zJ9,this,cX,bZ]
  exact ⟨10,rfl,(fun h=>nomatch h),fun ⟨r,hr,hn,_⟩=>by have:=only r hr hn; exact absurd ⟨this.1,this.2 ▸ hn⟩ c⟩
theorem zaX4 (l:List aC) {e:aG} (he:vE e=true) (hl:catV l=true) {L:List aD} (hL:zl4 e=some (L,true)):∃ v,zw9 l e=some v∧(v=0 ↔ ∀ a ∈ L,∃ r ∈ l,r.name=a.name∧zb8 r a.aI=true):=by
 have hw:=zaP3 hL
 simp only at hw
 have h3:=(zat0 he).1
 unfold zv1 at h3
 rw [hL,Option.bind_some] at h3
 have hne:=zby4 he
 rw [← dG h3] at hne
 have hpos:0 < L.length:=fR.2 hne
 unfold zw9
 rw [zaX2 he hL,Option.bind_some,bW (by simp; omega)]
 obtain ⟨r,h4,h5⟩:=zv4 (body:=zQ7 l L) (fun g=>∃ i:Nat,g=i∧i≤L.length∧∀ k,k < i→∃ r ∈ l,r.name=(L.getD k aD.zero).name∧zb8 r (L.getD k aD.zero).aI=true) (fun g=>L.length - g.toNat)
  (fun r=>(∃ v,r=.inr v∧v≠0∧¬ ∀ a ∈ L,∃ r ∈ l,r.name=a.name∧zb8 r a.aI=true)∨r=.inl ()∧∀ a ∈ L,∃ r ∈ l,r.name=a.name∧zb8 r a.aI=true)
  (fun g ⟨i,hi,hle,hg⟩=>by
   subst hi
   unfold zQ7
   by_cases c:i < L.length
   ·have h3:0≤(i:Int)∧(i:Int) < (L.length:Int):=by omega
    obtain ⟨v,e1,e2⟩:=zaX3 l (L.getD i aD.zero) hl
    simp only [h3.1,h3.2,cQ,zk1,cB,bZ,Int.toNat_natCast,zd4 i (show i < 4611686018427387904 by omega),e1,Option.bind_some]
    by_cases d:v=0
    ·rw [bW (by simp [d])]
     refine .inl ⟨_,rfl,⟨i+1,rfl,c,fun k hk=>?_⟩,by simp only [Int.toNat_natCast]; omega⟩
     rcases fX k i with h5|h5
     ·exact hg k h5
     ·have:k=i:=by omega
      subst this; exact e2.1 d
    ·rw [bY (by simp [d])]
     exact .inr ⟨_,rfl,.inl ⟨v,rfl,d,fun h=>d (e2.2 (h _ (zs3 c)))⟩⟩
   ·right
    have e:i=L.length:=by omega
    subst e
    simp only [fV,cL,bT,cA]
    exact ⟨_,rfl,.inr ⟨rfl,zX0.1 hg⟩⟩) 0 ⟨0,rfl,by omega,fun k hk=>by omega⟩
 rw [h4]
 rcases h5 with ⟨v,rfl,hv,hn⟩|⟨rfl,hr⟩
 ·exact ⟨v,rfl,fun h=>absurd h hv,fun h=>absurd h hn⟩
 ·exact ⟨0,rfl,fun _=>hr,fun _=>rfl⟩
theorem zbL1 (t:List aF) (hl:t.length≤1000):zd1 t=some (t.map (·.aB)):=by
 unfold zd1
 rw [zaE9 t aF.zero (·.aB) [] (by omega) (by simp) (fun i s hi hs=>by
  unfold zM1
  have h3:0≤(i:Int)∧(i:Int) < (t.length:Int):=by omega
  simp only [h3.1,h3.2,cQ,zk1,cB,bZ,Int.toNat_natCast,zd4 i (show i < 4611686018427387904 by omega)]
  rw [gdp (by omega)]) (fun s=>by unfold zM1; simp)]
 rfl
theorem zaX5 (t:List aF) (x:aO) (hl:t.length≤1000) (hs:Lens t) {L:List aD} (hL:zq3 x.aQ.bL=some L) (h8:L.length≤8):zw8 t x=some (L.map (grA t x.aN)):=by
 unfold zw8
 rw [hL,Option.bind_some,zaE9 L aD.zero (grA t x.aN) [] (by omega) (by simp) (fun i s hi hs'=>by
  unfold zQ6
  have h3:0≤(i:Int)∧(i:Int) < (L.length:Int):=by omega
  simp only [h3.1,h3.2,cQ,zk1,cB,bZ,Int.toNat_natCast,zd4 i (show i < 4611686018427387904 by omega),zaT6 t _ (show t.length≤1000000 by omega),Option.bind_some]
  have hgr:grA t x.aN (L.getD i aD.zero)=if zam5 t (L.getD i aD.zero).name < 0 then false else covA (t.getD (zam5 t (L.getD i aD.zero).name).toNat aF.zero).aB (getH (t.getD (zam5 t (L.getD i aD.zero).name).toNat aF.zero).bA x.aN) (L.getD i aD.zero).aI:=rfl
  rw [hgr]
  rcases zaO9 (t:=t) (nm:=(L.getD i aD.zero).name) with e|⟨k,e,hk,_⟩
  ·have d:decide ((0:Int)≤-1)=false:=by decide
   simp only [e,d,bT,iG,zk1,cA,Option.bind_some,eT,show (-1:Int) < 0 by decide,bZ]
   rw [gdp (by omega)]
  ·have h6:=zaA8 hs hk
   have d2:¬ (k:Int) < 0:=by omega
   have d3:0≤(k:Int)∧(k:Int) < (t.length:Int):=by omega
   simp only [e,d2,d3.1,d3.2,cB,cQ,dU,zk1,bZ,cA,Int.toNat_natCast]
   rw [zX7 _ _ (by omega),Option.bind_some,zao3,Option.bind_some,gdp (by omega),cF]) (fun s=>by unfold zQ6; simp)]
 rfl
theorem zbg0 (t:List aF) (p:aH) (hl:t.length≤1000) (hs:Lens t):zi3 t p=some (t.filterMap (zae7 p)):=by
 unfold zi3
 rw [zaF0 t aF.zero (zae7 p) (by omega) (fun i s hi hs'=>by
  unfold zS0
  have h3:0≤(i:Int)∧(i:Int) < (t.length:Int):=by omega
  have h6:=zaA8 hs hi
  simp only [h3.1,h3.2,cQ,zk1,cB,bZ,Int.toNat_natCast,zd4 i (show i < 4611686018427387904 by omega)]
  rw [zX7 _ _ (by omega),Option.bind_some]
  unfold zae7
  by_cases c:getH (t.getD i aF.zero).bA p=aA.zero
  ·rw [bW (by simpa using c),bY c]; rfl
  ·rw [bY (by simpa using c),bW c,gdp (by omega)]; rfl) (fun s=>by unfold zS0; simp)]
 rfl
theorem zby5 (t:List aF) (p:aH) (hl:t.length≤1000) (hs:Lens t):zt2 t p=some (t.filterMap (zag5 p)):=by
 unfold zt2
 rw [zaF0 t aF.zero (zag5 p) (by omega) (fun i s hi hs'=>by
  unfold zZ0
  have h3:0≤(i:Int)∧(i:Int) < (t.length:Int):=by omega
  have h6:=zaA8 hs hi
  simp only [h3.1,h3.2,cQ,zk1,cB,bZ,Int.toNat_natCast,zd4 i (show i < 4611686018427387904 by omega)]
  rw [zaJ9 _ _ (by omega) (by omega),Option.bind_some]
  unfold zag5
  by_cases c:(zae6 (t.getD i aF.zero) p).2=true
  ·rw [bY c,bY c,gdp (by omega)]; rfl
  ·rw [bW c,bW c]; rfl) (fun s=>by unfold zZ0; simp)]
 rfl
theorem zcq3 (a b:List aD) (ha:a.length≤1000000):za6 a b=some (decide (a=b)):=by
 have h:=zay4 a b ha
 unfold ze4 zaa4 zaa3 at h
 unfold za6 zC2 zC1
 exact h
theorem zaK1 (r:bG):zs8 r=true ↔ r=bG.zero:=by
 unfold zs8
 simp only [bS,bV]
 constructor
 ·rintro ⟨⟨⟨⟨h1,h2⟩,h3⟩,h4⟩,h5⟩
  obtain ⟨e,p,l⟩:=r
  obtain ⟨k,a,ks⟩:=e
  simp only at h1 h2 h3 h4 h5
  have:ks=[]:=cO (by omega)
  subst h1 h2 h3 this
  rw [h4]; rfl
 ·rintro rfl
  exact ⟨⟨⟨⟨rfl,rfl⟩,rfl⟩,rfl⟩,rfl⟩
theorem zbl1 (r:bG):zx5 r=zM9 r:=by
 unfold zx5
 rw [zbw2,zay7,Option.bind_some]
 simp only [gH]
def zM0 (x:aO):Option bK:=if x.bM=true then some ⟨x.aN,x.aQ.bL,x.gen⟩ else none
theorem zaX6 {x:aO} {n:bK} (h:zM0 x=some n):x.bM=true∧n=⟨x.aN,x.aQ.bL,x.gen⟩:=by
 unfold zM0 at h
 split at h
 ·rename_i c; cases h; exact ⟨c,rfl⟩
 ·cases h
theorem zcN8 {p q:aH} (h:ltP p q):cmpP p q < 0:=by rw [zba2,bY h]; decide
theorem zcc9:zbw3 aK.zero=true:=by decide
theorem zcE6 {c:aY} (h:CenV c):zbw3 ⟨c.aM,c.aX.filterMap zM0⟩=true:=by
 have hfl:=eP zM0 c.aX
 have hl:=h.len
 have hmem:∀ n ∈ c.aX.filterMap zM0,∃ x ∈ c.aX,x.bM=true∧n=⟨x.aN,x.aQ.bL,x.gen⟩:=fun n hn=>by
  obtain ⟨x,hx,e⟩:=eE.1 hn
  exact ⟨x,hx,zaX6 e⟩
 have hpw:(c.aX.filterMap zM0).Pairwise fun a b=>ltP a.aN b.aN:=by
  rw [iN]
  refine h.asc.imp fun {a b} hab n hn m hm=>?_
  rw [(zaX6 hn).2,(zaX6 hm).2]
  exact hab
 unfold zbw3
 simp only [bS,bV]
 refine ⟨⟨⟨(zaH2 _).2 ⟨h.t.len,h.t.each,h.t.asc⟩,by omega⟩,?_⟩,?_⟩
 ·unfold zbK6
  rw [eK]
  intro i hi
  rw [eC] at hi
  have gg:∀ k,(hk:k < (c.aX.filterMap zM0).length)→(c.aX.filterMap zM0).getD k bK.zero=(c.aX.filterMap zM0)[k]:=fun k hk=>by rw [bU,bX hk]; rfl
  obtain ⟨x,hx,hw,e⟩:=hmem _ (zs3 (z:=bK.zero) hi)
  have hp:=h.each x hx
  unfold zcD5
  have hord:(decide (i=0)||decide (cmpP ((c.aX.filterMap zM0).getD (i - 1) bK.zero).aN ((c.aX.filterMap zM0).getD i bK.zero).aN < 0))=true:=by
   by_cases c0:i=0
   ·simp [c0]
   ·have:=dT.1 hpw (i - 1) i (by omega) hi (by omega)
    rw [gg _ (by omega),gg _ hi,cR (zcN8 this),jF]
  rw [hord,e]
  simp only [hp.pv,(hp.wait hw).ve,cF,fO,bV,bS]
  exact hp.gen
 ·unfold zcD6
  refine gT (dZ (zbe8 (zbe6 _)) (l₂:=c.aX.map (·.aN)) fun p hp=>?_) (by simpa using hl)
  rw [zbe7,dF] at hp
  rcases hp with hp|hp
  ·obtain ⟨x,hx,e⟩:=h.aX p hp
   exact cV.2 ⟨x,hx,e⟩
  ·obtain ⟨n,hn,e⟩:=cV.1 hp
   obtain ⟨x,hx,_,e2⟩:=hmem n hn
   exact cV.2 ⟨x,hx,by rw [← e,e2]⟩
theorem zbV4 {c:aY} (h:CenV c):zL4 c=some ⟨c.aM,c.aX.filterMap zM0⟩:=by
 unfold zL4
 rw [zby1 h,Option.bind_some]
 have hl:=h.len; have hlq:=h.t.len
 rw [bW (by decide),gdp (by omega)]
 obtain ⟨x,l1,l2⟩:=zv4 (body:=zap2 c) (fun g=>∃ k:Nat,g.1=k∧k≤c.aX.length∧g.2=⟨c.aM,(c.aX.take k).filterMap zM0⟩) (fun g=>c.aX.length - g.1.toNat) (fun x=>x=⟨c.aM,c.aX.filterMap zM0⟩)
  (fun g ⟨k,hk,hkl,hg⟩=>by
   obtain ⟨g1,s⟩:=g
   simp only at hk hg
   subst hk
   subst hg
   unfold zap2
   by_cases cc:k < c.aX.length
   ·left
    have h3:0≤(k:Int)∧(k:Int) < (c.aX.length:Int):=by omega
    have hle:=eP zM0 (c.aX.take k)
    rw [dL] at hle
    simp only [h3.1,h3.2,cQ,zk1,cB,bZ,Int.toNat_natCast,zd4 k (show k < 4611686018427387904 by omega)]
    have e0:∀ x:aO,(c.aX.take k++[x]).filterMap zM0=(c.aX.take k).filterMap zM0++(match zM0 x with|some n=>[n]|none=>[]):=fun x=>by
     rw [List.filterMap_append]; simp only [List.filterMap_cons,List.filterMap_nil]; cases zM0 x <;> rfl
    rcases hb (c.aX.getD k aO.zero).bM with hw|hw
    ·rw [bY hw,gdp (by omega)]
     refine ⟨_,rfl,⟨k+1,rfl,cc,?_⟩,by simp only [Int.toNat_natCast]; omega⟩
     rw [zD4 aO.zero cc,e0]
     unfold zM0
     rw [bY hw]
    ·rw [bW (by rw [hw]; decide)]
     refine ⟨_,rfl,⟨k+1,rfl,cc,?_⟩,by simp only [Int.toNat_natCast]; omega⟩
     rw [zD4 aO.zero cc,e0]
     have:zM0 (c.aX.getD k aO.zero)=none:=by unfold zM0; rw [bW (by rw [hw]; decide)]
     rw [this,eN]
   ·right
    have e:k=c.aX.length:=by omega
    simp only [show ¬ (k:Int) < (c.aX.length:Int) by omega,cL,bT,cA]
    exact ⟨_,rfl,by rw [e,dW]⟩) (0,⟨c.aM,[]⟩) ⟨0,rfl,by omega,rfl⟩
 rw [l1,Option.bind_some]
 rw [l2]; rfl
open Go.Lib
def okI (x:Int):Prop:=0≤x∧x≤1073741824
def okA (a:aA):Prop:=okI a.mode∧okI a.aP
theorem zcq4 {s:ByteArray} (h:zJ8 s=true):s.size≤12:=by
 unfold zJ8 at h
 simp at h
 omega
structure OkQ (q:aF):Prop where
 name:q.aB.name.size≤1024
 kind:okI q.aB.kind
 aP:okI q.aB.aP
 home:okI q.aB.home
 gen:okI q.gen
 lh:q.bA.length≤8
 lc:q.aL.length≤8
 lw:q.aS.length≤8
 h:∀ x ∈ q.bA,zc9 x.aN=true∧okA x.aI
 c:∀ x ∈ q.aL,zc9 x.aN=true∧okA x.aI∧x.aW=0∧x.bO=0
 w:∀ x ∈ q.aS,zc9 x.aN=true∧okA x.aI∧okI x.aW∧okI x.bO
structure OkS (s:aK):Prop where
 lq:s.aM.length≤8
 ln:s.bF.length≤8
 q:∀ q ∈ s.aM,OkQ q
 n:∀ n ∈ s.bF,zc9 n.aN=true∧okI n.gen∧okE n.bL=true∧fitE n.bL=true
theorem zcd0 {l:List aR} (h:zal0 l=true) {w:aR} (hw:w ∈ l):zs7 w=true:=by
 unfold zal0 at h
 simp only [bS,bV,eK,eC] at h
 obtain ⟨i,hi,e⟩:=fE hw
 have:=(h.2 i hi).1
 rw [bU,bX hi] at this
 simp only [Option.getD_some,e] at this
 exact this
theorem zbL2 {r:aC} {a:aA} (h:zb8 r a=true) (hs:r.aP≤1073741824):okA a:=by
 rw [zaE8] at h
 unfold okA okI
 omega
theorem zaX7 {q:aF} (h:zw6 q=true):OkQ q∧q.aB.name.size≤12:=by
 have hs:=((zaO2 q).1 h).1
 have hl:=zal2 h
 have hr:=hs.res
 unfold resV at hr
 simp only [bS,bV] at hr
 have hn:=zcq4 hr.1
 have hsh:=(zR4 _).1 hr.2.1
 have hu:q.aB.aP≤1073741824:=by omega
 refine ⟨⟨by omega,by unfold okI; omega,by unfold okI; omega,by unfold okI; omega,hs.gen,hl.1,hl.2.1,hl.2.2.1,fun x hx=>?_,fun x hx=>?_,fun x hx=>?_⟩,hn⟩
 ·have:=((zaW7 _ _).1 hs.hv).2.2.1.each x hx
  exact ⟨this.1,zbL2 this.2 hu⟩
 ·have:=zbw6 hs (w:=x) (by unfold ordQ; exact dF.2 (.inl hx))
  have h2:=hs.cg x hx
  exact ⟨this.1,zbL2 this.2.1 hu,h2.2.2.2.2.1,h2.2.2.2.2.2⟩
 ·have:=zbw6 hs (w:=x) (by unfold ordQ; exact dF.2 (.inr hx))
  have h2:=zcd0 hs.wv hx
  unfold zs7 at h2
  simp only [bS,bV] at h2
  exact ⟨this.1,zbL2 this.2.1 hu,by unfold okI; omega,by unfold okI; omega⟩
theorem zcd1 {l:List bK} (h:zbK6 l=true) {n:bK} (hn:n ∈ l):zc9 n.aN=true∧vE n.bL=true∧okI n.gen:=by
 unfold zbK6 at h
 rw [eK] at h
 obtain ⟨i,hi,e⟩:=fE hn
 have:=h i (eC.2 hi)
 rw [bU,bX hi] at this
 simp only [Option.getD_some,e] at this
 unfold zcD5 at this
 simp only [bS,bV] at this
 exact ⟨this.1.1.1.1,this.1.1.1.2,this.1.1.2,this.1.2⟩
theorem zcE7 {e:aG} (h:vE e=true):okE e=true∧fitE e=true:=by
 unfold vE at h
 rw [bS] at h
 refine ⟨?_,h.1⟩
 have h2:=h.2
 unfold zX3 at h2
 split at h2
 ·assumption
 ·cases h2
theorem zbV5 {s:aK} (h:zbw3 s=true):OkS s∧∀ q ∈ s.aM,q.aB.name.size≤12:=by
 unfold zbw3 at h
 simp only [bS,bV] at h
 obtain ⟨h1,h2,_⟩:=(zaH2 _).1 h.1.1.1
 refine ⟨⟨h1,h.1.1.2,fun q hq=>(zaX7 (h2 q hq)).1,fun n hn=>?_⟩,fun q hq=>(zaX7 (h2 q hq)).2⟩
 obtain ⟨a,b,c⟩:=zcd1 h.1.2 hn
 exact ⟨a,c,(zcE7 b).1,(zcE7 b).2⟩
theorem zbg1 {X:Type} {body:Int→Option (Int⊕(Unit⊕X))} (n:Nat) (h:∀ i:Nat,i < n→body (i:Int)=some (.inl ((i:Int)+1))) (he:body (n:Int)=some (.inr (.inl ()))):zc6 body 0=some (.inl ()):=by
 rw [zF1 n (fun _=>none) (Sum.inl ()) (fun i hi=>h i hi) he]
 have:∀ k i,zG2 (fun _:Nat=>(none:Option (Unit⊕X))) k i=none:=by
  intro k
  induction k with
  | zero=>intro i; rfl
  | succ k ih=>intro i; simp only [zG2]; exact ih (i+1)
 rw [this]; rfl
theorem zby6:∀ (n:Nat) (e:aG),_root_.SizeOf.sizeOf e < n→zo2 e≤24→zB7 n e e=some true
 | 0,_,h,_=>by omega
 | n+1,e,h,hn=>by
  show zA2 (zB7 n) e e=_
  have hl:=zB0 e.aV
  have hne:=zK6 e
  unfold zA2
  rw [bY (by simp)]
  unfold za0
  rw [bW (by simp),zbg1 e.aV.length (fun i hi=>by
   unfold zo5
   have hk:=zs3 (z:=aG.zero) hi
   rw [bY (by simpa using hi),gdp (by omega),gdp (by omega)]
   simp only [Int.toNat_natCast]
   rw [zby6 n _ (zX2 h hk) (by have:=zaR3 hk; omega),Option.bind_some,bW (by simp),zo7 (by omega) (by omega)]) (by unfold zo5; simp)]
  show some ((decide (e.k=e.k)&&decide (e.aZ=e.aZ))&&true)=_
  simp
theorem zbg2 {p q:aH}:cmpP p q=0 ↔ p=q:=by
 rw [zba2]
 constructor
 ·intro h
  by_cases e:p=q
  ·exact e
  ·rcases zao1 e with c|c
   ·rw [bY c] at h; cases h
   ·rw [bW (zaR1 c),bY c] at h; cases h
 ·rintro rfl
  have:=zao0 p
  rw [bW this,bW this]
theorem zbb6:∀ (n:Nat) (e:aG),_root_.SizeOf.sizeOf e < n→zo2 e≤24→zz9 n e=some e
 | 0,_,h,_=>by omega
 | n+1,e,h,hn=>by
  show zw3 (zz9 n) e=_
  have hl:=zB0 e.aV
  have hne:=zK6 e
  unfold zw3
  obtain ⟨x,h1,h2⟩:=zv4 (body:=zI4 (zz9 n) e) (fun g=>∃ k:Nat,g.1=k∧k≤e.aV.length∧g.2=e.aV.take k) (fun g=>e.aV.length - g.1.toNat) (fun x=>x=e.aV)
   (fun g ⟨k,hg,hk,hs⟩=>by
    obtain ⟨g1,g2⟩:=g
    simp only at hg hs
    subst hg; subst hs
    unfold zI4
    simp only [Int.toNat_natCast]
    by_cases c:k < e.aV.length
    ·have hm:=zs3 (z:=aG.zero) c
     have hlt:=List.length_take_le k e.aV
     rw [bY (by simpa using c),gdp (by omega),zbb6 n _ (zX2 h hm) (by have:=zaR3 hm; omega),Option.bind_some,gdp (by omega),zd4 k (by omega),← zD4 aG.zero c]
     exact .inl ⟨_,rfl,⟨k+1,rfl,c,rfl⟩,by simp only [Int.toNat_natCast]; omega⟩
    ·rw [bW (by simpa using c)]
     exact .inr ⟨_,rfl,dO (by omega)⟩) (0,[]) ⟨0,rfl,by omega,rfl⟩
  rw [h1,Option.bind_some]
  unfold zQ9
  rw [h2]
  exact cW some (by cases e; rfl)
theorem zbL3 {n:bK} (h:vE n.bL=true):zd3 n=some n:=by
 have hf:=(zcE7 h).2
 unfold fitE at hf
 simp only [bS,bV] at hf
 unfold zd3 zd2
 rw [zbb6 _ _ (dY _) hf.2]
 rfl
theorem zbA9 {q:aF} (h:OkQ q):zd0 q=some q:=by
 have l1:=h.lh; have l2:=h.lc; have l3:=h.lw
 unfold zd0 za9 za8
 rw [gdp (by omega),gdp (by omega),gdp (by omega)]
 rfl
theorem zbg3 (l:List aO) (p:aH) (hl:l.length≤1000):∃ v,zt1 l p=some v∧(v=-1∧(∀ x ∈ l,x.aN≠p)∨∃ i:Nat,v=i∧i < l.length∧(l.getD i aO.zero).aN=p):=by
 unfold zt1 zb6
 obtain ⟨x,h1,h2⟩:=zv4 (body:=zs0 l) (fun g=>g.2=p∧∃ k:Nat,g.1=k∧k≤l.length∧∀ j,j < k→(l.getD j aO.zero).aN≠p) (fun g=>l.length - g.1.toNat)
  (fun x=>match x with|.inl _=>∀ x ∈ l,x.aN≠p|.inr v=>∃ i:Nat,v.1=i∧i < l.length∧(l.getD i aO.zero).aN=p) (fun g ⟨hp,k,hg,hk,hn⟩=>by
   obtain ⟨g1,g2⟩:=g
   simp only at hp hg
   subst hp; subst hg
   unfold zs0
   by_cases c:k < l.length
   ·rw [bY (by simpa using c),gdp (by simp only; omega)]
    unfold zh4
    rw [zV0,Option.bind_some,Option.bind_some]
    simp only [Int.toNat_natCast]
    by_cases e:(l.getD k aO.zero).aN=g2
    ·rw [bY (by simpa using zbg2.2 e)]
     exact .inr ⟨_,rfl,k,rfl,c,e⟩
    ·rw [bW (by simpa using fun h=>e (zbg2.1 h)),zd4 k (by omega)]
     exact .inl ⟨_,rfl,⟨rfl,k+1,rfl,c,fun j hj=>by
      by_cases h:j=k
      ·rw [h]; exact e
      ·exact hn j (by omega)⟩,by simp only [Int.toNat_natCast]; omega⟩
   ·have e:k=l.length:=by omega
    subst e
    rw [bW (by simp)]
    exact .inr ⟨_,rfl,zX0.1 hn⟩) (0,p) ⟨rfl,0,rfl,by omega,fun j hj=>by omega⟩
 rw [h1]
 cases x with
 | inl x=>exact ⟨-1,rfl,.inl ⟨rfl,h2⟩⟩
 | inr v =>
  obtain ⟨i,h3,h4⟩:=h2
  exact ⟨v.1,rfl,.inr ⟨i,h3,h4⟩⟩
theorem zbL4 (L:List aD) (q:aF) (hL:L.length≤1000):za4 L q=some (match L.findIdx? (fun a=>decide (a.name=q.aB.name)) with|some i=>((i:Int),q)|none=>(-1,q)):=by
 unfold za4
 have hbody:∀ g:Int,zr3 L (g,q)=(if (decide (g < (L.length:Int)))=true then gd (0≤g∧g < (L.length:Int)) <| (if (L.getD g.toNat aD.zero).name=q.aB.name then some (.inr (.inr (g,q))) else some (.inl (IntKind.i64.wrap (g+1),q))) else some (.inr (.inl q))):=fun g=>by
  unfold zr3 zc3
  simp only [Option.bind_some,zJ9,bV]
 obtain ⟨x,h1,h2⟩:=zv4 (body:=zr3 L) (fun g=>∃ i:Nat,g=((i:Int),q)∧i≤L.length∧∀ j,j < i→(L.getD j aD.zero).name≠q.aB.name) (fun g=>L.length - g.1.toNat)
  (fun x=>x=(match L.findIdx? (fun a=>decide (a.name=q.aB.name)) with|some i=>.inr ((i:Int),q)|none=>.inl q))
  (fun g ⟨i,hg,hle,hn⟩=>by
   subst hg
   rw [hbody]
   by_cases c:i < L.length
   ·have h3:0≤(i:Int)∧(i:Int) < (L.length:Int):=by omega
    simp only [h3.1,h3.2,cQ,zk1,cB,bZ,Int.toNat_natCast,zd4 i (show i < 4611686018427387904 by omega)]
    by_cases d:(L.getD i aD.zero).name=q.aB.name
    ·rw [bY d]
     refine .inr ⟨_,rfl,?_⟩
     have:L.findIdx? (fun a=>decide (a.name=q.aB.name))=some i:=by
      refine eA.2 ⟨c,?_,fun j hj=>?_⟩
      ·rw [bU,bX c] at d
       exact cR d
      ·have:=hn j hj
       rw [bU,bX (by omega)] at this
       simpa using this
     rw [this]
    ·rw [bW d]
     refine .inl ⟨_,rfl,⟨i+1,rfl,c,fun j hj=>?_⟩,by simp only [Int.toNat_natCast]; omega⟩
     rcases fX j i with h|h
     ·exact hn j h
     ·have:j=i:=by omega
      subst this; exact d
   ·have e:i=L.length:=by omega
    subst e
    simp only [fV,cL,bT,cA]
    refine .inr ⟨_,rfl,?_⟩
    have:L.findIdx? (fun a=>decide (a.name=q.aB.name))=none:=by
     refine eY.2 fun x hx=>?_
     obtain ⟨j,hj,rfl⟩:=zD8 (z:=aD.zero) hx
     exact eD (hn j hj)
    rw [this]) (0,q) ⟨0,rfl,by omega,fun j hj=>by omega⟩
 rw [h1,h2]
 cases L.findIdx? (fun a=>decide (a.name=q.aB.name)) <;> rfl
theorem zcd2 (q:aF) (x:aO) (n:Int) (hl:q.aS.length≤1000):zc6 (zw5 x (n,q)) 0=some (.inr false)∧(¬ ∀ w ∈ q.aS,w.aN=x.aN→w.aW=x.aQ.aW)∨zc6 (zw5 x (n,q)) 0=some (.inl ())∧∀ w ∈ q.aS,w.aN=x.aN→w.aW=x.aQ.aW:=by
 have key:=zL6 (body:=zw5 x (n,q)) q.aS.length (fun i=>(q.aS.getD i aR.zero).aN=x.aN→(q.aS.getD i aR.zero).aW=x.aQ.aW) (fun i hi=>by
  unfold zw5
  have h3:0≤(i:Int)∧(i:Int) < (q.aS.length:Int):=by omega
  simp only [h3.1,h3.2,cQ,zk1,cB,bZ,Int.toNat_natCast,zd4 i (show i < 4611686018427387904 by omega),zV0,Option.bind_some,zbg2]
  by_cases c:(q.aS.getD i aR.zero).aN=x.aN∧(q.aS.getD i aR.zero).aW≠x.aQ.aW
  ·rw [bY (by rw [cR c.1,eD c.2]; rfl)]
   exact ⟨false,rfl,(fun h=>nomatch h),fun h=>absurd (h c.1) c.2⟩
  ·rw [bW (by
    simp only [bS,bV,cN,cG]; exact c)]
   exact ⟨true,rfl,fun _ h=>jI fun h2=>c ⟨h,h2⟩,fun _=>rfl⟩) (by unfold zw5; simp)
 have hm:=zX0 (P:=fun w:aR=>w.aN=x.aN→w.aW=x.aQ.aW) (l:=q.aS) (z:=aR.zero)
 rcases key with ⟨h1,h2⟩|⟨h1,h2⟩
 ·exact .inl ⟨h1,fun h=>h2 (hm.2 h)⟩
 ·exact .inr ⟨h1,hm.1 h2⟩
theorem zcd3 (q:aF) (x:aO) (L:List aD) (he:x.bD.aJ.length≤1000) (h0:q.bA.length≤1000) (h1:q.aL.length≤1000) (h2:q.aS.length≤1000) (hL:L.length≤1000) (hd:dnN L) :
  ∃ b,zl6 q x L=some b∧(b=true ↔ zaB0 q x L):=by
 unfold zl6
 rw [zbx8 _ _ he,Option.bind_some,zX7 _ _ (by omega),Option.bind_some,zaJ9 _ _ (by omega) (by omega),Option.bind_some,zbL4 L q hL,Option.bind_some]
 unfold zaB0
 cases hf:L.findIdx? (fun a=>decide (a.name=q.aB.name)) with
 | none =>
  have hn:∀ a ∈ L,a.name≠q.aB.name:=fun a ha=>by
   have:=eY.1 hf a ha
   simpa using this
  refine ⟨decide (getH q.bA x.aN=zt3 x.bD.aJ q.aB.name)&&!(zae6 q x.aN).2,rfl,?_⟩
  rw [bS,bV,cN]
  exact ⟨fun h=>.inr ⟨fun a ha hn'=>absurd hn' (hn a ha),h⟩,fun h=>h.elim (fun ⟨a,ha,hn',_⟩=>absurd hn' (hn a ha)) fun h=>h.2⟩
 | some i =>
  obtain ⟨hi,hn,_⟩:=eA.1 hf
  have hn':(L.getD i aD.zero).name=q.aB.name:=by
   rw [bU,bX hi]; exact fQ hn
  have hm:L.getD i aD.zero ∈ L:=zs3 hi
  have only:∀ a ∈ L,a.name=q.aB.name→a=L.getD i aD.zero:=fun a ha hn=>zcE0 hd ha hm (hn.trans hn'.symm)
  have h3:0≤(i:Int)∧(i:Int) < (L.length:Int):=by omega
  have h4:¬ (i:Int) < 0:=by omega
  simp only [h3.1,h3.2,h4,cL,cX,cQ,dU,zk1,bZ,Int.toNat_natCast,zao3,Option.bind_some,dB]
  obtain ⟨C,hC⟩:∃ C,covA q.aB (zt3 x.bD.aJ q.aB.name) (L.getD i aD.zero).aI=C:=⟨_,rfl⟩
  have all:(∀ a ∈ L,a.name=q.aB.name→covA q.aB (zt3 x.bD.aJ q.aB.name) a.aI=true) ↔ C=true:=by
   rw [← hC]
   exact ⟨fun h=>h _ hm hn',fun h a ha hn=>by rw [only a ha hn]; exact h⟩
  have one:∀ P:aD→Prop,(∃ a ∈ L,a.name=q.aB.name∧covA q.aB (zt3 x.bD.aJ q.aB.name) a.aI=false∧P a) ↔ C=false∧P (L.getD i aD.zero):=fun P=>by
   rw [← hC]
   exact ⟨fun ⟨a,ha,hn,h⟩=>by rw [only a ha hn] at h; exact h,fun h=>⟨_,hm,hn',h⟩⟩
  rw [one,all,hC]
  cases C with
  | true =>
   refine ⟨_,rfl,?_⟩
   rw [bS,bV,cN]
   exact ⟨fun h=>.inr ⟨rfl,h⟩,fun h=>h.elim (fun h=>nomatch h.1) fun h=>h.2⟩
  | false =>
   simp only [bT,cA,zbt8,Option.bind_some,fC,iA,kD]
   rcases hb (zae6 q x.aN).2 with hw|hw
   ·simp only [hw,cP,bT,cA,iA,hX,fC,reduceCtorEq]
    by_cases c:getH q.bA x.aN=zt3 x.bD.aJ q.aB.name∧(zae6 q x.aN).1=zbj2 q.aB (zt3 x.bD.aJ q.aB.name) (L.getD i aD.zero).aI
    ·rw [bW (by simp [c.1,c.2])]
     rcases zcd2 q x i h2 with ⟨e1,e2⟩|⟨e1,e2⟩
     ·rw [e1]; exact ⟨false,rfl,(fun h=>nomatch h),fun h=>absurd h.2.2 e2⟩
     ·rw [e1]; exact ⟨true,rfl,fun _=>⟨c.1,c.2,e2⟩,fun _=>rfl⟩
    ·rw [bY (by
      simp only [dK,cN,cG]
      exact Decidable.not_and_iff_or_not.1 c)]
     exact ⟨false,rfl,(fun h=>nomatch h),fun h=>absurd ⟨h.1,h.2.1⟩ c⟩
   ·simp only [hw,cX,bZ,fC,reduceCtorEq,iA,kD]
    exact ⟨_,rfl,decide_eq_true_iff⟩
theorem zbV6 (c:aY) (x:aO) (L:List aD) (hL:L.length≤8) (hd:dnN L) (he:x.bD.aJ.length≤1000) (hl:c.aM.length≤1000) (hs:Lens c.aM) :
  zc6 (zu0 c x L) 0=some (.inr false)∧(¬ ∀ q ∈ c.aM,zaB0 q x L)∨zc6 (zu0 c x L) 0=some (.inl ())∧∀ q ∈ c.aM,zaB0 q x L:=by
 have key:=zL6 (body:=zu0 c x L) c.aM.length (fun i=>zaB0 (c.aM.getD i aF.zero) x L) (fun i hi=>by
  unfold zu0
  have h3:0≤(i:Int)∧(i:Int) < (c.aM.length:Int):=by omega
  have h4:=zaA8 hs hi
  obtain ⟨b,h1,h2⟩:=zcd3 (c.aM.getD i aF.zero) x L he (by omega) (by omega) (by omega) (by omega) hd
  simp only [h3.1,h3.2,cQ,dU,zk1,cB,bZ,Int.toNat_natCast,zd4 i (show i < 4611686018427387904 by omega),h1,Option.bind_some]
  cases b with
  | false=>exact ⟨false,rfl,h2⟩
  | true=>exact ⟨true,rfl,h2⟩) (by unfold zu0; simp)
 have hm:=zX0 (P:=fun q:aF=>zaB0 q x L) (l:=c.aM) (z:=aF.zero)
 rcases key with ⟨h1,h2⟩|⟨h1,h2⟩
 ·exact .inl ⟨h1,fun h=>h2 (hm.2 h)⟩
 ·exact .inr ⟨h1,hm.1 h2⟩
theorem zcd4 (c:aY) (hl:c.aM.length≤1000) (v:List aD) (hv:v.length≤1000) (hi:AscN c.aM) :
  zc6 (zx2 c v) 0=some (.inr false)∧(¬ ∀ i,i < v.length→∃ q ∈ c.aM,q.aB.name=(v.getD i aD.zero).name∧zb8 q.aB (v.getD i aD.zero).aI=true)∨zc6 (zx2 c v) 0=some (.inl ())∧∀ i,i < v.length→∃ q ∈ c.aM,q.aB.name=(v.getD i aD.zero).name∧zb8 q.aB (v.getD i aD.zero).aI=true :=
 zL6 v.length _ (fun i hi2=>by
  unfold zx2
  have h3:0≤(i:Int)∧(i:Int) < (v.length:Int):=by omega
  simp only [h3.1,h3.2,cQ,dU,zk1,cB,bZ,Int.toNat_natCast,zd4 i (show i < 4611686018427387904 by omega),zaT6 c.aM _ (show c.aM.length≤1000000 by omega),Option.bind_some]
  rcases zaO9 (t:=c.aM) (nm:=(v.getD i aD.zero).name) with e|⟨k,e,hk,hn⟩
  ·refine ⟨false,?_,(fun h=>nomatch h),fun ⟨q,hq,hqn,_⟩=>?_⟩
   ·rw [e,gdp (by intro h; exact absurd h (by decide))]; rfl
   ·obtain ⟨j,hj,rfl⟩:=zD8 (z:=aF.zero) hq
    have:=zbT4 hi hj
    rw [hqn,e] at this; omega
  ·rw [e,gdp (by intro _; omega)]
   simp only [Int.toNat_natCast,show ¬ (k:Int) < 0 by omega,cL,dB]
   rcases hb (zb8 (c.aM.getD k aF.zero).aB (v.getD i aD.zero).aI) with hf|hf
   ·simp only [hf]
    exact ⟨true,rfl,(fun _=>⟨_,zs3 hk,hn,hf⟩),fun _=>rfl⟩
   ·simp only [hf]
    refine ⟨false,rfl,(fun h=>nomatch h),fun ⟨q,hq,hqn,hqf⟩=>?_⟩
    obtain ⟨j,hj,rfl⟩:=zD8 (z:=aF.zero) hq
    have:=zbn1 hi hj hk (hqn.trans hn.symm)
    subst this
    rw [hf] at hqf; cases hqf) (by unfold zx2; simp)
theorem zcd5 (c:aY) (x:aO) (hv:ValidT c.aM) (hp:zc9 x.aN=true) (hc:1≤x.cost∧x.cost≤1000) (hg:0≤x.gen∧x.gen≤1073741824) (led:LedgerP x.bD) (hw:x.bM=false)
  (hheld:∀ n,zt3 x.bD.aJ n≠aA.zero→∃ q ∈ c.aM,q.aB.name=n∧zb8 q.aB (zt3 x.bD.aJ n)=true) :
  ∃ b,zp4 c x=some b∧(b=true ↔ ProcV c.now c.aM x∧zaP8 c.now c.aM x):=by
 obtain ⟨hl,hs⟩:=hv.lens'
 have hle:=led.le
 obtain ⟨ns,n1,n2,n3,_,n4⟩:=zay6 (l:=x.bD) (by omega)
 have hsame:=zaT9 (p:=x.aN) hv n1 n2 fun n hn=>by obtain ⟨q,hq,hqn,_⟩:=hheld n hn; exact ⟨q,hq,hqn⟩
 have hend:ProcV c.now c.aM x∧zaP8 c.now c.aM x ↔ (x.aQ=bG.zero∧x.since=0)∧ns.filterMap (sayF x.bD.aJ)=c.aM.filterMap (zae7 x.aN)∧((c.aM.filterMap (zag5 x.aN)).length:Int)=0:=by
  rw [hsame,zbj7]
  constructor
  ·rintro ⟨h,_⟩
   obtain ⟨r1,r2,r3⟩:=h.run hw
   exact ⟨⟨r1,r2⟩,fun q hq=>(r3 q hq).1,fun q hq=>(r3 q hq).2⟩
  ·rintro ⟨⟨r1,r2⟩,r3,r4⟩
   exact ⟨⟨hp,hc,hg,led,hheld,(fun h=>by rw [hw] at h; cases h),fun _=>⟨r1,r2,fun q hq=>⟨r3 q hq,r4 q hq⟩⟩⟩,fun h=>by rw [hw] at h; cases h⟩
 rw [hend]
 unfold zp4
 rw [zby5 _ _ hl hs,zbg0 _ _ hl hs,n3]
 by_cases c3:(zs8 x.aQ&&decide (x.since=0))=true
 ·have c3':=c3
  rw [bS,zaK1,bV] at c3'
  simp only [c3,bZ,Option.bind_some,cF]
  by_cases c4:((c.aM.filterMap (zag5 x.aN)).length:Int)=0
  ·have hlen2:(c.aM.filterMap (zae7 x.aN)).length≤1000:=by have:=eP (zae7 x.aN) c.aM; omega
   simp only [c4,cB,bZ,Option.bind_some,cF]
   rw [zcq3 _ _ (by omega),Option.bind_some]
   refine ⟨_,rfl,?_⟩
   rw [bV,eq_comm]
   exact ⟨fun h=>⟨c3',h,trivial⟩,fun h=>h.2.1⟩
  ·simp only [c4,cL,bT,cA,Option.bind_some,eT]
   exact ⟨false,rfl,(fun h=>nomatch h),fun h=>h.2.2.elim⟩
 ·have c3':¬ (x.aQ=bG.zero∧x.since=0):=fun h=>c3 (by rw [bS,zaK1,bV]; exact h)
  have c3'':=dD.2 c3
  simp only [c3'',cA,Option.bind_some,bT,eT]
  exact ⟨false,rfl,(fun h=>nomatch h),fun h=>absurd h.1 c3'⟩
theorem zcd6 (c:aY) (x:aO) (hv:ValidT c.aM) (hnow:0≤c.now∧c.now≤1073741824) (hp:zc9 x.aN=true) (hc:1≤x.cost∧x.cost≤1000) (hg:0≤x.gen∧x.gen≤1073741824) (led:LedgerP x.bD) (hw:x.bM=true)
  (hheld:∀ n,zt3 x.bD.aJ n≠aA.zero→∃ q ∈ c.aM,q.aB.name=n∧zb8 q.aB (zt3 x.bD.aJ n)=true) :
  ∃ b,zu7 c x=some b∧(b=true ↔ ProcV c.now c.aM x∧zaP8 c.now c.aM x):=by
 obtain ⟨hl,hs⟩:=hv.lens'
 have hle:=led.le
 unfold zu7
 rw [zbl1,zay7,Option.bind_some]
 by_cases hreq:vE x.aQ.bL=true∧(0≤x.aQ.aW∧x.aQ.aW≤7)∧(0≤x.aQ.limit∧x.aQ.limit≤1000)
 ·rw [show (vE x.aQ.bL&&(decide (0≤x.aQ.aW)&&(decide (x.aQ.aW≤7)&&(decide (0≤x.aQ.limit)&&decide (x.aQ.limit≤1000)))))=true by
   simp only [hreq.1,hreq.2.1.1,hreq.2.1.2,hreq.2.2.1,hreq.2.2.2,cB,gU]]
  obtain ⟨hvE,hpr,hli⟩:=hreq
  obtain ⟨l',a1,a2,a3⟩:=zay3 x.aQ.bL
  rw [hvE] at a3
  have hdn:=zbU5 a3
  have hat:=zaX2 hvE a3
  obtain ⟨v9,r1,r2⟩:=zaX4 (c.aM.map (·.aB)) hvE (zcE3 hv) a3
  have r2':v9=0 ↔ ∀ a ∈ l',∃ q ∈ c.aM,q.aB.name=a.name∧zb8 q.aB a.aI=true:=by
   rw [r2]
   refine jP fun a=>jP fun ha=>?_
   constructor
   ·rintro ⟨r,hr,e⟩
    obtain ⟨q,hq,rfl⟩:=cV.1 hr
    exact ⟨q,hq,e⟩
   ·rintro ⟨q,hq,e⟩
    exact ⟨_,cV.2 ⟨q,hq,rfl⟩,e⟩
  simp only [bZ,zbL1 _ hl,Option.bind_some,r1,cP,dB]
  by_cases c9:v9=0
  ·rw [bW (by simp [c9])]
   obtain ⟨bs,L,q1,q2,_,_,q4⟩:=zbx3 c.aM x.aN x.aQ.bL hl hs
   rw [a3] at q2
   obtain ⟨rfl,_⟩:=Prod.mk.inj (dG q2)
   obtain ⟨b11,q3,_⟩:=zaP4 hvE bs
   have hq:(∀ bs',zx6 c.aM x.aN x.aQ.bL=some bs'→zv0 x.aQ.bL bs'=some false) ↔ b11=false:=by
    rw [q1]
    constructor
    ·intro h; have:=h bs rfl; rw [q3] at this; exact dG this
    ·intro h bs' e; cases e; rw [q3,h]
   rw [zaX5 c.aM x hl hs hat a2,hat,← q4,Option.bind_some,zbf9 hvE,q3]
   obtain ⟨B,hB,hB2⟩:∃ B:Bool,(((decide (x.since < 0))||(decide (c.now < x.since)))||((!decide (x.aQ.limit=0))&&(decide ((IntKind.i64.wrap (x.since+x.aQ.limit))≤c.now))))=B∧(B=false ↔ (0≤x.since∧x.since≤c.now)∧(x.aQ.limit=0∨c.now < x.since+x.aQ.limit)):=by
    refine ⟨_,rfl,?_⟩
    simp only [fZ,gR,Bool.not_eq_false',bV,cG]
    constructor
    ·rintro ⟨⟨k2,k3⟩,k4⟩
     rw [zo7 (by omega) (by omega)] at k4
     exact ⟨by omega,by omega⟩
    ·rintro ⟨k2,k3⟩
     rw [zo7 (by omega) (by omega)]
     exact ⟨⟨by omega,by omega⟩,by omega⟩
   simp only [hB]
   cases B with
   | true =>
    refine ⟨false,rfl,(fun h=>nomatch h),fun h=>?_⟩
    have w:=h.1.wait hw
    exact (hB2.2 ⟨w.since,(h.2 hw).1⟩).symm
   | false =>
    obtain ⟨k2,k3⟩:=hB2.1 rfl
    simp only [bT,cA,Option.bind_some]
    cases b11 with
    | true =>
     refine ⟨false,rfl,(fun h=>nomatch h),fun h=>?_⟩
     have:=hq.1 (h.2 hw).2
     cases this
    | false =>
     simp only [bT,cA]
     rcases zbV6 c x l' a2 hdn (by omega) hl hs with ⟨h5,h6⟩|⟨h5,h6⟩
     ·exact ⟨false,by rw [h5]; rfl,(fun h=>nomatch h),fun h=>absurd ((h.1.wait hw).part _ _ a3) h6⟩
     ·refine ⟨true,by rw [h5]; rfl,fun _=>⟨⟨hp,hc,hg,led,hheld,fun _=>⟨hvE,hpr,hli,k2,fun L b hL=>?_,fun L b hL=>?_⟩,(fun h=>by rw [hw] at h; cases h)⟩,fun _=>⟨k3,hq.2 rfl⟩⟩,fun _=>rfl⟩
      ·rw [a3] at hL; cases hL; exact r2'.1 c9
      ·rw [a3] at hL; cases hL; exact h6
  ·rw [bY (by simp [c9])]
   exact ⟨false,rfl,(fun h=>nomatch h),fun h=>absurd (r2'.2 ((h.1.wait hw).res _ _ a3)) c9⟩
 ·obtain ⟨B,hB⟩:∃ B:Bool,(vE x.aQ.bL&&(decide (0≤x.aQ.aW)&&(decide (x.aQ.aW≤7)&&(decide (0≤x.aQ.limit)&&decide (x.aQ.limit≤1000)))))=B:=⟨_,rfl⟩
  have hBf:B=false:=by
   rw [← hB,dD]
   intro h
   simp only [bS,bV] at h
   exact hreq ⟨h.1,⟨h.2.1,h.2.2.1⟩,h.2.2.2.1,h.2.2.2.2⟩
  rw [hB,hBf]
  exact ⟨false,rfl,(fun h=>nomatch h),fun h=>absurd ⟨(h.1.wait hw).ve,(h.1.wait hw).pr,(h.1.wait hw).li⟩ hreq⟩
theorem zbl2 (c:aY) (x:aO) (hv:ValidT c.aM) (hnow:0≤c.now∧c.now≤1073741824):∃ b,zt5 c x=some b∧(b=true ↔ ProcV c.now c.aM x∧zaP8 c.now c.aM x):=by
 obtain ⟨hl,hs⟩:=hv.lens'
 unfold zt5
 by_cases c0:zc9 x.aN=true∧1≤x.cost∧x.cost≤1000
 ·obtain ⟨hp,hc⟩:=c0
  rw [bW (by rw [hp]; simp; omega)]
  by_cases cg:0≤x.gen∧x.gen≤1073741824
  ·have g1:¬ x.gen < 0:=by omega
   have g2:¬ 1073741824 < x.gen:=by omega
   obtain ⟨bl,l1,l2⟩:=zbl0 x.bD
   simp only [g1,g2,cL,eZ,cX,bZ,l1,Option.bind_some,dB]
   cases bl with
   | false=>exact ⟨false,rfl,(fun h=>nomatch h),fun h=>l2.2 h.1.led⟩
   | true =>
    have led:=l2.1 rfl
    have hle:=led.le
    simp only [cP,bT,cA]
    obtain ⟨ns,n1,n2,n3,_,n4⟩:=zay6 (l:=x.bD) (by omega)
    have hv':(ns.filterMap (sayF x.bD.aJ)).length≤1000:=by have:=eP (sayF x.bD.aJ) ns; omega
    rw [n3,Option.bind_some]
    have hheldiff:(∀ i,i < (ns.filterMap (sayF x.bD.aJ)).length→∃ q ∈ c.aM,q.aB.name=((ns.filterMap (sayF x.bD.aJ)).getD i aD.zero).name∧zb8 q.aB ((ns.filterMap (sayF x.bD.aJ)).getD i aD.zero).aI=true) ↔
      ∀ n,zt3 x.bD.aJ n≠aA.zero→∃ q ∈ c.aM,q.aB.name=n∧zb8 q.aB (zt3 x.bD.aJ n)=true:=by
     rw [zX0 (P:=fun a:aD=>∃ q ∈ c.aM,q.aB.name=a.name∧zb8 q.aB a.aI=true)]
     constructor
     ·intro h n hn
      exact h ⟨n,zt3 x.bD.aJ n⟩ (eE.2 ⟨n,(n2 n).2 (zaP9 hn),zah8.2 ⟨hn,rfl⟩⟩)
     ·intro h a ha
      obtain ⟨n,hn,e⟩:=eE.1 ha
      obtain ⟨c,rfl⟩:=zah8.1 e
      exact h n c
    rcases zcd4 c hl _ hv' hv.asc with ⟨h1,h2⟩|⟨h1,h2⟩
    ·exact ⟨false,by rw [h1]; rfl,(fun h=>nomatch h),fun h=>absurd (hheldiff.2 h.1.held) h2⟩
    have hheld:=hheldiff.1 h2
    rw [h1,Option.bind_some]
    show ∃ b,zG3 c x ()=some b∧_
    unfold zG3
    rcases hb x.bM with hw|hw
    ·obtain ⟨b,e1,e2⟩:=zcd6 c x hv hnow hp hc cg led hw hheld
     rw [bY hw,e1]; exact ⟨b,rfl,e2⟩
    ·obtain ⟨b,e1,e2⟩:=zcd5 c x hv hp hc cg led hw hheld
     rw [bW (by rw [hw]; decide),e1]; exact ⟨b,rfl,e2⟩
  ·have d:(decide (x.gen < 0)||decide (1073741824 < x.gen))=true:=by simp; omega
   simp only [d,cP,bT,cA,Option.bind_some,fW,bZ]
   exact ⟨false,rfl,(fun h=>nomatch h),fun h=>absurd h.1.gen cg⟩
 ·rw [bY (by
   simp only [dK,cN,bV]
   by_cases d:zc9 x.aN=true
   ·have:¬ (1≤x.cost∧x.cost≤1000):=fun h=>c0 ⟨d,h⟩
    omega
   ·exact .inl (.inl (dD.2 d)))]
  exact ⟨false,rfl,(fun h=>nomatch h),fun h=>absurd ⟨h.1.pv,h.1.cost⟩ c0⟩
theorem zbV7 (c:aY) (hl:c.aX.length≤8) (v:List aH) (hv:v.length≤1000) :
  zc6 (zD3 c v) 0=some (.inr false)∧(¬ ∀ p ∈ v,∃ x ∈ c.aX,x.aN=p)∨zc6 (zD3 c v) 0=some (.inl ())∧∀ p ∈ v,∃ x ∈ c.aX,x.aN=p:=by
 have key:=zL6 (body:=zD3 c v) v.length (fun i=>∃ x ∈ c.aX,x.aN=v.getD i aH.zero) (fun i hi=>by
  unfold zD3
  have h3:0≤(i:Int)∧(i:Int) < (v.length:Int):=by omega
  obtain ⟨k,h1,h2⟩:=zbg3 c.aX (v.getD i aH.zero) (by omega)
  simp only [h3.1,h3.2,cQ,dU,zk1,cB,bZ,Int.toNat_natCast,zd4 i (show i < 4611686018427387904 by omega),h1,Option.bind_some]
  rcases h2 with ⟨rfl,hn⟩|⟨k,rfl,hk,e⟩
  ·exact ⟨false,rfl,(fun h=>nomatch h),fun ⟨x,hx,e⟩=>absurd e (hn x hx)⟩
  ·exact ⟨true,by rw [bW (by simp),bY rfl],(fun _=>⟨_,zs3 hk,e⟩),fun _=>rfl⟩) (by unfold zD3; simp)
 have hm:=zX0 (P:=fun p:aH=>∃ x ∈ c.aX,x.aN=p) (l:=v) (z:=aH.zero)
 rcases key with ⟨h1,h2⟩|⟨h1,h2⟩
 ·exact .inl ⟨h1,fun h=>h2 (hm.2 h)⟩
 ·exact .inr ⟨h1,hm.1 h2⟩
theorem zcd7 (c:aY) (hl:c.aX.length≤8) (ht:ValidT c.aM) (hnow:0≤c.now∧c.now≤1073741824) :
  zc6 (zI0 c) 0=some (.inr false)∧(¬ ∀ i,i < c.aX.length→(ProcV c.now c.aM (c.aX.getD i aO.zero)∧zaP8 c.now c.aM (c.aX.getD i aO.zero))∧(0 < i→ltP (c.aX.getD (i - 1) aO.zero).aN (c.aX.getD i aO.zero).aN)) ∨
  zc6 (zI0 c) 0=some (.inl ())∧∀ i,i < c.aX.length→(ProcV c.now c.aM (c.aX.getD i aO.zero)∧zaP8 c.now c.aM (c.aX.getD i aO.zero))∧(0 < i→ltP (c.aX.getD (i - 1) aO.zero).aN (c.aX.getD i aO.zero).aN) :=
 zL6 c.aX.length _ (fun i hi=>by
  unfold zI0
  have h3:0≤(i:Int)∧(i:Int) < (c.aX.length:Int):=by omega
  obtain ⟨b,h1,h2⟩:=zbl2 c (c.aX.getD i aO.zero) ht hnow
  simp only [h3.1,h3.2,cQ,dU,zk1,cB,bZ,Int.toNat_natCast,zd4 i (show i < 4611686018427387904 by omega),h1,Option.bind_some]
  rw [gdp (by
   intro h
   simp only [bV] at h
   rw [zo7 (by omega) (by omega)]; omega)]
  have tail:∃ b':Bool,(if (!b)=true then some (.inr (.inr false)) else some (.inl ((i+1:Nat):Int)))=some (if b'=true then (.inl ((i+1:Nat):Int):Int⊕(Unit⊕Bool)) else .inr (.inr false))∧b'=b:=⟨b,by cases b <;> rfl,rfl⟩
  by_cases c0:i=0
  ·subst c0
   obtain ⟨b',t1,rfl⟩:=tail
   simp only [Int.natCast_zero,fV,cL,bT,cA,Option.bind_some,eT]
   exact ⟨b',t1,fun hb=>⟨h2.1 hb,fun h=>absurd h (by omega)⟩,fun h=>h2.2 h.1⟩
  ·rw [zad4 i (by omega) (by omega)]
   simp only [show (0:Int) < (i:Int) by omega,cB,cF,Int.toNat_natCast,bZ,zV0,Option.bind_some]
   by_cases c1:ltP (c.aX.getD (i - 1) aO.zero).aN (c.aX.getD i aO.zero).aN
   ·obtain ⟨b',t1,rfl⟩:=tail
    rw [bW (by simp only [bV]; exact fun h=>(zah5 _ _).1 h c1)]
    exact ⟨b',t1,fun hb=>⟨h2.1 hb,fun _=>c1⟩,fun h=>h2.2 h.1⟩
   ·refine ⟨false,?_,(fun h=>nomatch h),fun h=>absurd (h.2 (by omega)) c1⟩
    rw [bY (by simp only [bV]; exact (zah5 _ _).2 c1)]; rfl) (by unfold zI0; simp)
theorem zaF1 (c:aY):∃ b,zF9 c=some b∧(b=true ↔ CenV c):=by
 unfold zF9
 by_cases c0:c.now < 0∨1073741824 < c.now
 ·refine ⟨false,?_,(fun h=>nomatch h),fun h=>by have:=h.now; omega⟩
  rcases c0 with h|h <;> simp [h]
 have c1:¬ c.now < 0:=fun h=>c0 (.inl h)
 have c2:¬ 1073741824 < c.now:=fun h=>c0 (.inr h)
 simp only [c1,c2,cL,eZ,cX,bZ,zbu8,Option.bind_some,dB]
 cases hv:zaO7 c.aM with
 | false=>exact ⟨false,rfl,(fun h=>nomatch h),fun h=>by have:=(zaH3 _).2 h.t; rw [hv] at this; cases this⟩
 | true =>
 have ht:=(zaH3 _).1 hv
 by_cases c3:(8:Int) < (c.aX.length:Int)
 ·exact ⟨false,by simp [c3],(fun h=>nomatch h),fun h=>by have:=h.len; omega⟩
 simp only [c3,cL,cP,eZ,bT,cA]
 have hl:c.aX.length≤8:=by omega
 rcases zcd7 c hl ht (by omega) with ⟨h3,h4⟩|⟨h3,h4⟩
 ·exact ⟨false,by rw [h3]; rfl,(fun h=>nomatch h),fun h=>absurd (fun i hi=>⟨⟨h.each _ (zs3 hi),h.quiet _ (zs3 hi)⟩,fun h0=>zcE4 h.asc hi (by omega)⟩) h4⟩
 rw [h3,Option.bind_some]
 show ∃ b,zO7 c ()=some b∧_
 unfold zO7
 rw [zaO8 ht.len ht.each,Option.bind_some]
 rcases zbV7 c hl (zaO6 c.aM) (by have:=ht.aX; omega) with ⟨h1,h2⟩|⟨h1,h2⟩
 ·exact ⟨false,by rw [h1]; rfl,(fun h=>nomatch h),fun h=>absurd h.aX h2⟩
 rw [h1]
 refine ⟨true,rfl,fun _=>⟨by omega,ht,hl,fun x hx=>?_,zbF9 fun i hi h0=>(h4 i hi).2 h0,h2,fun x hx=>?_⟩,fun _=>rfl⟩
 ·obtain ⟨i,hi,rfl⟩:=zD8 (z:=aO.zero) hx
  exact (h4 i hi).1.1
 ·obtain ⟨i,hi,rfl⟩:=zD8 (z:=aO.zero) hx
  exact (h4 i hi).1.2
theorem zaU0:∀ (n:Nat) (e:aG),_root_.SizeOf.sizeOf e < n→zo2 e≤24→zK4 n e e=some true
 | 0,_,h,_=>by omega
 | n+1,e,h,hn=>by
  show zz3 (zK4 n) e e=_
  have hl:=zB0 e.aV
  have hne:=zK6 e
  unfold zz3
  rw [bW (by simp),zbg1 e.aV.length (fun i hi=>by
   unfold zL7
   have hk:=zs3 (z:=aG.zero) hi
   rw [bY (by simpa using hi),gdp (by omega),gdp (by omega)]
   simp only [Int.toNat_natCast]
   rw [zaU0 n _ (zX2 h hk) (by have:=zaR3 hk; omega),Option.bind_some,bW (by simp),zo7 (by omega) (by omega)]) (by unfold zL7; simp)]
  rfl
theorem zcq5 {s:aK} (h:OkS s):zr7 s s=some true:=by
 have lq:=h.lq; have ln:=h.ln
 unfold zr7
 rw [zbA7 _ _ (by omega) (fun q hq=>by have:=h.q q hq; have:=this.lh; have:=(h.q q hq).lc; have:=(h.q q hq).lw; omega),Option.bind_some,bW (by simp)]
 rw [zbg1 s.bF.length (fun i hi=>by
  have hn:=h.n _ (zs3 (z:=bK.zero) hi)
  have hf:=hn.2.2.2
  unfold fitE at hf
  simp only [bS,bV] at hf
  unfold zaf5
  rw [bY (by simpa using hi),gdp (by omega),gdp (by omega)]
  simp only [Int.toNat_natCast]
  have:zh1 (s.bF.getD i bK.zero) (s.bF.getD i bK.zero)=some true:=by
   unfold zh1
   rw [bY (by simp)]
   unfold zf2
   rw [zaU0 _ _ (dY _) hf.2,Option.bind_some]
   simp
  rw [this,Option.bind_some,bW (by simp),zo7 (by omega) (by omega)]) (by unfold zaf5; simp)]
 rfl
theorem zbl3 {c:aY} (h:CenV c):zx7 c=some ⟨c.aM,c.aX.filterMap zM0⟩:=by
 obtain ⟨b,e1,e2⟩:=zaF1 c
 rw [e2.2 h] at e1
 have hl:=h.len
 have hlq:=h.t.len
 unfold zx7
 rw [e1,Option.bind_some,bW (by decide)]
 obtain ⟨x,l1,l2⟩:=zv4 (body:=zZ2 c) (fun g=>∃ k:Nat,g.1=k∧k≤c.aM.length∧g.2=⟨c.aM.take k,[]⟩) (fun g=>c.aM.length - g.1.toNat) (fun x=>x=⟨c.aM,[]⟩)
  (fun g ⟨k,hk,hkl,hg⟩=>by
   obtain ⟨g1,s⟩:=g
   simp only at hk hg
   subst hk
   subst hg
   unfold zZ2
   by_cases cc:k < c.aM.length
   ·left
    have h3:0≤(k:Int)∧(k:Int) < (c.aM.length:Int):=by omega
    simp only [h3.1,h3.2,cQ,zk1,cB,bZ,Int.toNat_natCast,zd4 k (show k < 4611686018427387904 by omega)]
    rw [zbA9 (zaX7 (h.t.each _ (zs3 cc))).1,Option.bind_some,gdp (by rw [dL]; omega)]
    exact ⟨_,rfl,⟨k+1,rfl,cc,by rw [zD4 aF.zero cc]⟩,by simp only [Int.toNat_natCast]; omega⟩
   ·right
    have e:k=c.aM.length:=by omega
    simp only [show ¬ (k:Int) < (c.aM.length:Int) by omega,cL,bT,cA]
    exact ⟨_,rfl,by rw [e,dW]⟩) (0,⟨[],[]⟩) ⟨0,rfl,by omega,rfl⟩
 rw [l1,Option.bind_some,l2]
 show zQ8 c _=_
 unfold zQ8
 obtain ⟨x,l1,l2⟩:=zv4 (body:=zZ1 c) (fun g=>∃ k:Nat,g.1=k∧k≤c.aX.length∧g.2=⟨c.aM,(c.aX.take k).filterMap zM0⟩) (fun g=>c.aX.length - g.1.toNat) (fun x=>x=⟨c.aM,c.aX.filterMap zM0⟩)
  (fun g ⟨k,hk,hkl,hg⟩=>by
   obtain ⟨g1,s⟩:=g
   simp only at hk hg
   subst hk
   subst hg
   unfold zZ1
   by_cases cc:k < c.aX.length
   ·left
    have h3:0≤(k:Int)∧(k:Int) < (c.aX.length:Int):=by omega
    have hle:=eP zM0 (c.aX.take k)
    rw [dL] at hle
    simp only [h3.1,h3.2,cQ,zk1,cB,bZ,Int.toNat_natCast,zd4 k (show k < 4611686018427387904 by omega)]
    have e0:∀ x:aO,(c.aX.take k++[x]).filterMap zM0=(c.aX.take k).filterMap zM0++(match zM0 x with|some n=>[n]|none=>[]):=fun x=>by
     rw [List.filterMap_append]; simp only [List.filterMap_cons,List.filterMap_nil]; cases zM0 x <;> rfl
    rcases hb (c.aX.getD k aO.zero).bM with hw|hw
    ·rw [bY hw,zbL3 (((h.each _ (zs3 cc)).wait hw).ve),Option.bind_some,gdp (by omega)]
     refine ⟨_,rfl,⟨k+1,rfl,cc,?_⟩,by simp only [Int.toNat_natCast]; omega⟩
     rw [zD4 aO.zero cc,e0]
     unfold zM0
     rw [bY hw]
    ·rw [bW (by rw [hw]; decide)]
     refine ⟨_,rfl,⟨k+1,rfl,cc,?_⟩,by simp only [Int.toNat_natCast]; omega⟩
     rw [zD4 aO.zero cc,e0]
     have:zM0 (c.aX.getD k aO.zero)=none:=by unfold zM0; rw [bW (by rw [hw]; decide)]
     rw [this,eN]
   ·right
    have e:k=c.aX.length:=by omega
    simp only [show ¬ (k:Int) < (c.aX.length:Int) by omega,cL,bT,cA]
    exact ⟨_,rfl,by rw [e,dW]⟩) (0,⟨c.aM,[]⟩) ⟨0,rfl,by omega,rfl⟩
 rw [l1,Option.bind_some,l2]; rfl
theorem zby7 {c:aY} (h:¬ CenV c):zx7 c=some aK.zero∧zL4 c=some aK.zero:=by
 constructor
 ·obtain ⟨b,e1,e2⟩:=zaF1 c
  have:b=false:=dD.2 fun hb=>h (e2.1 hb)
  unfold zx7
  rw [e1,this]; rfl
 ·obtain ⟨b,e1,e2⟩:=zaQ0 c
  have:b=false:=dD.2 fun hb=>h (e2.1 hb)
  unfold zL4
  rw [e1,this]; rfl
theorem zcj0:zR3=some true:=by kernel_rfl
theorem zbg4 (c:aY):zL9 c=some true:=by
 unfold zL9
 by_cases k:((decide (12 < (c.aM.length:Int)))||(decide (12 < (c.aX.length:Int))))=true
 ·rw [bY k,zcj0]; rfl
 ·rw [bW k,zcj0,Option.bind_some,bY rfl,bY rfl]
  have fin:∀ s,OkS s→zx7 c=some s→zL4 c=some s→((zx7 c).bind fun v3=>(zL4 c).bind fun v4=>(if true=true then zr7 v3 v4 else some (false)).bind fun v5=>some (true&&v5))=some true:=fun s ho h1 h2=>by
   rw [h1,Option.bind_some,h2,Option.bind_some,bY rfl,zcq5 ho]; rfl
  by_cases h:CenV c
  ·exact fin _ (zbV5 (zcE6 h)).1 (zbl3 h) (zbV4 h)
  ·exact fin _ (zbV5 zcc9).1 (zby7 h).1 (zby7 h).2
end Ab
end Go.Proofs.YtenebhlnfjcffaaGreatDoor
