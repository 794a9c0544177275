import Derived.Test.YtfkjffmjkbkmhaaGreatDoorDvL
import Derived.Test.YtfkjffmjkbkmhaaGreatDoorStr
import Derived.Test.YtfkjffmjkbkmhaaGreatDoorDvA
import Derived.KernelRfl
namespace Go.Proofs.YtfkjffmjkbkmhaaGreatDoor
namespace Ab
set_option linter.unusedVariables false
set_option linter.unusedSimpArgs false
def zae6 (x:aG):Option bI:=if x.bH=true then some ⟨x.aJ,x.aZ.bP,x.gen⟩ else none
theorem zbq3 {x:aG} {n:bI} (h:zae6 x=some n):x.bH=true∧n=⟨x.aJ,x.aZ.bP,x.gen⟩:=by
 unfold zae6 at h
 split at h
 ·rename_i c; cases h; exact ⟨c,rfl⟩
 ·cases h
theorem zdn3 {p q:aK} (h:ltP p q):cmpP p q < 0:=by rw [zbh7,bW h]; decide
theorem zde0 {c:bA} (h:CenV c):zab9 ⟨c.aC,c.aF.filterMap zae6⟩=true:=by
 have hfl:=hZ zae6 c.aF
 have hl:=h.len
 have hmem:∀ n ∈ c.aF.filterMap zae6,∃ x ∈ c.aF,x.bH=true∧n=⟨x.aJ,x.aZ.bP,x.gen⟩:=fun n hn=>by
  obtain ⟨x,hx,e⟩:=fK.1 hn
  exact ⟨x,hx,zbq3 e⟩
 have hpw:(c.aF.filterMap zae6).Pairwise fun a b=>ltP a.aJ b.aJ:=by
  rw [iY]
  refine h.asc.imp fun {a b} hab n hn m hm=>?_
  rw [(zbq3 hn).2,(zbq3 hm).2]
  exact hab
 unfold zab9
 simp only [bS,bX]
 refine ⟨⟨⟨(zX7 _).2 ⟨h.t.len,h.t.each,h.t.asc⟩,by omega⟩,?_⟩,?_⟩
 ·unfold zaP7
  rw [eT]
  intro i hi
  rw [eO] at hi
  have gg:∀ k,(hk:k < (c.aF.filterMap zae6).length)→(c.aF.filterMap zae6).getD k bI.zero=(c.aF.filterMap zae6)[k]:=fun k hk=>by rw [bV,bY hk]; rfl
  obtain ⟨x,hx,hw,e⟩:=hmem _ (zd1 (z:=bI.zero) hi)
  have hp:=h.each x hx
  unfold zbl9
  have hord:(decide (i=0)||decide (cmpP ((c.aF.filterMap zae6).getD (i - 1) bI.zero).aJ ((c.aF.filterMap zae6).getD i bI.zero).aJ < 0))=true:=by
   by_cases c0:i=0
   ·simp [c0]
   ·have:=dO.1 hpw (i - 1) i (by omega) hi (by omega)
    rw [gg _ (by omega),gg _ hi,cF (zdn3 this),iQ]
  rw [hord,e]
  simp only [hp.pv,(hp.wait hw).ve,cJ,fE,bX,bS]
  exact hp.gen
 ·unfold zaA3
  refine dX (dM (zaT9 (zaA1 _)) (l₂:=c.aF.map (·.aJ)) fun p hp=>?_) (by simpa using hl)
  rw [zae8,cI] at hp
  rcases hp with hp|hp
  ·obtain ⟨x,hx,e⟩:=h.aF p hp
   exact cH.2 ⟨x,hx,e⟩
  ·obtain ⟨n,hn,e⟩:=cH.1 hp
   obtain ⟨x,hx,_,e2⟩:=hmem n hn
   exact cH.2 ⟨x,hx,by rw [← e,e2]⟩
theorem zcs4 {c:bA} (h:CenV c):zai1 c=some ⟨c.aC,c.aF.filterMap zae6⟩:=by
 unfold zai1
 rw [zbg2 h,Option.bind_some]
 have hl:=h.len; have hlq:=h.t.len
 rw [bT (by decide),gdp (by omega)]
 obtain ⟨x,l1,l2⟩:=zq4 (body:=zaB3 c) (fun g=>∃ k:Nat,g.1=k∧k≤c.aF.length∧g.2=⟨c.aC,(c.aF.take k).filterMap zae6⟩) (fun g=>c.aF.length - g.1.toNat) (fun x=>x=⟨c.aC,c.aF.filterMap zae6⟩)
  (fun g ⟨k,hk,hkl,hg⟩=>by
   obtain ⟨g1,s⟩:=g
   simp only at hk hg
   subst hk
   subst hg
   unfold zaB3
   by_cases cc:k < c.aF.length
   ·left
    have h3:0≤(k:Int)∧(k:Int) < (c.aF.length:Int):=by omega
    have hle:=hZ zae6 (c.aF.take k)
    rw [cO] at hle
    simp only [h3.1,h3.2,cX,zk6,cC,cB,Int.toNat_natCast,zc6 k (show k < 4611686018427387904 by omega)]
    have e0:∀ x:aG,(c.aF.take k++[x]).filterMap zae6=(c.aF.take k).filterMap zae6++(match zae6 x with|some n=>[n]|none=>[]):=fun x=>by
     rw [List.filterMap_append]; simp only [List.filterMap_cons,List.filterMap_nil]; cases zae6 x <;> rfl
    rcases hb (c.aF.getD k aG.zero).bH with hw|hw
    ·rw [bW hw,gdp (by omega)]
     refine ⟨_,rfl,⟨k+1,rfl,cc,?_⟩,by simp only [Int.toNat_natCast]; omega⟩
     rw [zu1 aG.zero cc,e0]
     unfold zae6
     rw [bW hw]
    ·rw [bT (by rw [hw]; decide)]
     refine ⟨_,rfl,⟨k+1,rfl,cc,?_⟩,by simp only [Int.toNat_natCast]; omega⟩
     rw [zu1 aG.zero cc,e0]
     have:zae6 (c.aF.getD k aG.zero)=none:=by unfold zae6; rw [bT (by rw [hw]; decide)]
     rw [this,dV]
   ·right
    have e:k=c.aF.length:=by omega
    simp only [show ¬ (k:Int) < (c.aF.length:Int) by omega,cK,bU,cA]
    exact ⟨_,rfl,by rw [e,dK]⟩) (0,⟨c.aC,[]⟩) ⟨0,rfl,by omega,rfl⟩
 rw [l1,Option.bind_some]
 rw [l2]; rfl
theorem zcO9 {l:List Int} (hl:l.length≤300):∃ c,CenV c∧c.aC.length=6∧zU0 l=some c∧zal7 l=some ⟨c.aC,c.aF.filterMap zae6⟩∧zab9 ⟨c.aC,c.aF.filterMap zae6⟩=true:=by
 unfold zal7
 obtain ⟨c,h1,h2,h3⟩:=zcs3 hl
 refine ⟨c,h2,h3,h1,?_,zde0 h2⟩
 rw [h1,Option.bind_some,zcs4 h2]; rfl
open Go.Lib
theorem zdp3:∀ {x y:List UInt8},Op.bytesLess x y=true→compareBytes x y < 0
 | [],[],h=>by simp [Op.bytesLess] at h
 | [],_ :: _,_=>by simp [compareBytes]
 | _ :: _,[],h=>by simp [Op.bytesLess] at h
 | a :: x,b :: y,h=>by
  simp only [Op.bytesLess,dG,bS,bX,dI] at h
  unfold compareBytes
  rcases h with h|⟨h1,h2⟩
  ·rw [bW h]; decide
  ·subst h1
   rw [bT (UInt8.lt_irrefl a),bT (UInt8.lt_irrefl a)]
   exact zdp3 h2
theorem zca1 {α:Type} {s l:List α} (cf:α→α→Int) (an:∀ x y,cf y x=- cf x y) (tr:∀ x y z,cf x y≤0→cf y z≤0→cf x z≤0) (hs:s.Pairwise fun x y=>cf x y < 0) (hp:l.Perm s) :
  (l.Pairwise fun x y=>cf x y < 0∨cf y x < 0)∧(l.mergeSort fun x y=>!decide (cf y x < 0))=s:=by
 have hsr:s.Pairwise fun x y=>cf x y < 0∨cf y x < 0:=hs.imp fun h=>.inl h
 refine ⟨(hp.pairwise_iff fun h=>h.symm).2 hsr,?_⟩
 have le:∀ x y,(!decide (cf y x < 0))=true ↔ cf x y≤0:=fun x y=>by
  have:=an x y
  simp only [cS,cR]; omega
 refine iU (le:=fun x y=>(!decide (cf y x < 0))=true) ?_ ?_ ?_ ((iT _ _).trans hp)
 ·intro x y hx hy h1 h2
  rw [le] at h1 h2
  obtain ⟨i,hi,rfl⟩:=eV (hp.subset ((iT _ _).subset hx))
  obtain ⟨j,hj,rfl⟩:=eV hy
  have hq:=dO.1 hs
  have:=an s[i] s[j]
  rcases iK i j with h3|h3|h3
  ·have:=hq i j hi hj h3; omega
  ·subst h3; rfl
  ·have:=hq j i hj hi h3; omega
 ·exact iX (fun a b c h1 h2=>by rw [le] at *; exact tr _ _ _ h1 h2) (fun a b=>by
   have:=an a b
   simp only [dG,le]; omega) _
 ·exact hs.imp fun h=>(le _ _).2 (by omega)
def okI (x:Int):Prop:=0≤x∧x≤1073741824
def okA (a:aD):Prop:=okI a.mode∧okI a.aR
theorem zcP0 {s:ByteArray} (h:zC1 s=true):s.size≤12:=by
 unfold zC1 at h
 simp at h
 omega
structure OkQ (q:aA):Prop where
 name:q.aB.name.size≤1024
 kind:okI q.aB.kind
 aR:okI q.aB.aR
 home:okI q.aB.home
 gen:okI q.gen
 lh:q.aQ.length≤8
 lc:q.aO.length≤8
 lw:q.aS.length≤8
 h:∀ x ∈ q.aQ,zc5 x.aJ=true∧okA x.aN
 c:∀ x ∈ q.aO,zc5 x.aJ=true∧okA x.aN∧x.bC=0∧x.bR=0
 w:∀ x ∈ q.aS,zc5 x.aJ=true∧okA x.aN∧okI x.bC∧okI x.bR
structure OkS (s:aL):Prop where
 lq:s.aC.length≤8
 ln:s.aU.length≤8
 q:∀ q ∈ s.aC,OkQ q
 n:∀ n ∈ s.aU,zc5 n.aJ=true∧okI n.gen∧okE n.bP=true∧fitE n.bP=true
theorem zcA9 {l:List aT} (h:zU2 l=true) {w:aT} (hw:w ∈ l):zk5 w=true:=by
 unfold zU2 at h
 simp only [bS,bX,eT,eO] at h
 obtain ⟨i,hi,e⟩:=eV hw
 have:=(h.2 i hi).1
 rw [bV,bY hi] at this
 simp only [Option.getD_some,e] at this
 exact this
theorem zcg6 {r:aI} {a:aD} (h:za4 r a=true) (hs:r.aR≤1073741824):okA a:=by
 rw [zA6] at h
 unfold okA okI
 omega
theorem zbR4 {q:aA} (h:zg7 q=true):OkQ q∧q.aB.name.size≤12:=by
 have hs:=((zr8 q).1 h).1
 have hl:=zad6 h
 have hr:=hs.res
 unfold resV at hr
 simp only [bS,bX] at hr
 have hn:=zcP0 hr.1
 have hsh:=(zE8 _).1 hr.2.1
 have hu:q.aB.aR≤1073741824:=by omega
 refine ⟨⟨by omega,by unfold okI; omega,by unfold okI; omega,by unfold okI; omega,hs.gen,hl.1,hl.2.1,hl.2.2.1,fun x hx=>?_,fun x hx=>?_,fun x hx=>?_⟩,hn⟩
 ·have:=((zQ0 _ _).1 hs.hv).2.2.1.each x hx
  exact ⟨this.1,zcg6 this.2 hu⟩
 ·have:=zbQ2 hs (w:=x) (by unfold ordQ; exact cI.2 (.inl hx))
  have h2:=hs.cg x hx
  exact ⟨this.1,zcg6 this.2.1 hu,h2.2.2.2.2.1,h2.2.2.2.2.2⟩
 ·have:=zbQ2 hs (w:=x) (by unfold ordQ; exact cI.2 (.inr hx))
  have h2:=zcA9 hs.wv hx
  unfold zk5 at h2
  simp only [bS,bX] at h2
  exact ⟨this.1,zcg6 this.2.1 hu,by unfold okI; omega,by unfold okI; omega⟩
theorem zcB0 {l:List bI} (h:zaP7 l=true) {n:bI} (hn:n ∈ l):zc5 n.aJ=true∧vE n.bP=true∧okI n.gen:=by
 unfold zaP7 at h
 rw [eT] at h
 obtain ⟨i,hi,e⟩:=eV hn
 have:=h i (eO.2 hi)
 rw [bV,bY hi] at this
 simp only [Option.getD_some,e] at this
 unfold zbl9 at this
 simp only [bS,bX] at this
 exact ⟨this.1.1.1.1,this.1.1.1.2,this.1.1.2,this.1.2⟩
theorem zde1 {e:aP} (h:vE e=true):okE e=true∧fitE e=true:=by
 unfold vE at h
 rw [bS] at h
 refine ⟨?_,h.1⟩
 have h2:=h.2
 unfold zae5 at h2
 split at h2
 ·assumption
 ·cases h2
theorem zbg3 {s:aL} (h:zab9 s=true):OkS s∧∀ q ∈ s.aC,q.aB.name.size≤12:=by
 unfold zab9 at h
 simp only [bS,bX] at h
 obtain ⟨h1,h2,_⟩:=(zX7 _).1 h.1.1.1
 refine ⟨⟨h1,h.1.1.2,fun q hq=>(zbR4 (h2 q hq)).1,fun n hn=>?_⟩,fun q hq=>(zbR4 (h2 q hq)).2⟩
 obtain ⟨a,b,c⟩:=zcB0 h.1.2 hn
 exact ⟨a,c,(zde1 b).1,(zde1 b).2⟩
theorem zaH9 {X:Type} {body:Int→Option (Int⊕(Unit⊕X))} (n:Nat) (h:∀ i:Nat,i < n→body (i:Int)=some (.inl ((i:Int)+1))) (he:body (n:Int)=some (.inr (.inl ()))):zb9 body 0=some (.inl ()):=by
 rw [zL6 n (fun _=>none) (Sum.inl ()) (fun i hi=>h i hi) he]
 have:∀ k i,zR1 (fun _:Nat=>(none:Option (Unit⊕X))) k i=none:=by
  intro k
  induction k with
  | zero=>intro i; rfl
  | succ k ih=>intro i; simp only [zR1]; exact ih (i+1)
 rw [this]; rfl
theorem zbg4:∀ (n:Nat) (e:aP),_root_.SizeOf.sizeOf e < n→zp9 e≤24→zC8 n e e=some true
 | 0,_,h,_=>by omega
 | n+1,e,h,hn=>by
  show zB1 (zC8 n) e e=_
  have hl:=zL7 e.bE
  have hne:=zab8 e
  unfold zB1
  rw [bW (by simp)]
  unfold za0
  rw [bT (by simp),zaH9 e.bE.length (fun i hi=>by
   unfold zo2
   have hk:=zd1 (z:=aP.zero) hi
   rw [bW (by simpa using hi),gdp (by omega),gdp (by omega)]
   simp only [Int.toNat_natCast]
   rw [zbg4 n _ (zaE3 h hk) (by have:=zby5 hk; omega),Option.bind_some,bT (by simp),zi0 (by omega) (by omega)]) (by unfold zo2; simp)]
  show some ((decide (e.k=e.k)&&decide (e.bF=e.bF))&&true)=_
  simp
theorem zca2 {p q:aK}:cmpP p q=0 ↔ p=q:=by
 rw [zbh7]
 constructor
 ·intro h
  by_cases e:p=q
  ·exact e
  ·rcases zal8 e with c|c
   ·rw [bW c] at h; cases h
   ·rw [bT (zaT0 c),bW c] at h; cases h
 ·rintro rfl
  have:=zP8 p
  rw [bT this,bT this]
def zdp4 (l:List bI) (p:aK) (i:Nat):Prop:=i < l.length∧(l.getD i bI.zero).aJ=p∧∀ j,j < i→(l.getD j bI.zero).aJ≠p
theorem zde2 (l:List bI) (p:aK) (hl:l.length≤1000):∃ v,zr2 l p=some v∧((v < 0∧∀ j,j < l.length→(l.getD j bI.zero).aJ≠p)∨∃ i:Nat,v=i∧zdp4 l p i):=by
 unfold zr2 zd2
 obtain ⟨x,h1,h2⟩:=zq4 (body:=zu4 l) (fun g=>g.2=p∧∃ k:Nat,g.1=k∧k≤l.length∧∀ j,j < k→(l.getD j bI.zero).aJ≠p) (fun g=>l.length - g.1.toNat)
  (fun x=>match x with|.inl _=>∀ j,j < l.length→(l.getD j bI.zero).aJ≠p|.inr v=>∃ i:Nat,v.1=i∧zdp4 l p i) (fun g ⟨hp,k,hg,hk,hn⟩=>by
   obtain ⟨g1,g2⟩:=g
   simp only at hp hg
   subst hp; subst hg
   unfold zu4
   by_cases c:k < l.length
   ·rw [bW (by simpa using c),gdp (by simp only; omega)]
    unfold zh1
    rw [zal9,Option.bind_some,Option.bind_some]
    simp only [Int.toNat_natCast]
    by_cases e:(l.getD k bI.zero).aJ=g2
    ·rw [bW (by simpa using zca2.2 e)]
     exact .inr ⟨_,rfl,k,rfl,c,e,hn⟩
    ·rw [bT (by simpa using fun h=>e (zca2.1 h)),zc6 k (by omega)]
     exact .inl ⟨_,rfl,⟨rfl,k+1,rfl,c,fun j hj=>by
      by_cases h:j=k
      ·rw [h]; exact e
      ·exact hn j (by omega)⟩,by simp only [Int.toNat_natCast]; omega⟩
   ·rw [bT (by simpa using c)]
    exact .inr ⟨_,rfl,fun j hj=>hn j (by omega)⟩) (0,p) ⟨rfl,0,rfl,by omega,fun j hj=>by omega⟩
 rw [h1,Option.bind_some]
 cases x with
 | inl z=>exact ⟨-1,rfl,.inl ⟨by decide,h2⟩⟩
 | inr z =>
  obtain ⟨i,h3,h4⟩:=h2
  exact ⟨z.1,rfl,.inr ⟨i,h3,h4⟩⟩
theorem zbC5 (l:List aV) (h:l.length≤1000):za9 l l=some true:=by
 unfold za9
 rw [bT (by simp),zaH9 l.length (fun i hi=>by
  unfold zx9
  rw [bW (by simpa using hi),gdp (by omega),gdp (by omega),bT (by simp),zi0 (by omega) (by omega)]) (by unfold zx9; simp)]
 rfl
theorem zbg5 (l:List aT) (h:l.length≤1000):za8 l l=some true:=by
 unfold za8
 rw [bT (by simp),zaH9 l.length (fun i hi=>by
  unfold zx8
  rw [bW (by simpa using hi),gdp (by omega),gdp (by omega),bT (by simp),zi0 (by omega) (by omega)]) (by unfold zx8; simp)]
 rfl
theorem zbC6 (l:List aT) (h:l.length≤1000):za1 l l=some true:=by
 unfold za1
 rw [bT (by simp),zaH9 l.length (fun i hi=>by
  unfold zo3
  rw [bW (by simpa using hi),gdp (by omega),gdp (by omega),bT (by unfold zM2; simp),zi0 (by omega) (by omega)]) (by unfold zo3; simp)]
 rfl
theorem zbg6 {q:aA} (h:OkQ q):zi8 q q=some true:=by
 have l1:=h.lh; have l2:=h.lc; have l3:=h.lw
 unfold zi8 ze2
 simp [zbC5 q.aQ (by omega),zbg5 q.aO (by omega),zbg5 q.aS (by omega),zbC6 q.aS (by omega)]
theorem zaM0 (l:List bI):zaP7 l=true ↔ (∀ n ∈ l,zc5 n.aJ=true∧vE n.bP=true∧0≤n.gen∧n.gen≤1073741824)∧l.Pairwise fun a b=>ltP a.aJ b.aJ:=by
 have gg:∀ k,(hk:k < l.length)→l.getD k bI.zero=l[k]:=fun k hk=>by rw [bV,bY hk]; rfl
 have hlt:∀ p q:aK,cmpP p q < 0 ↔ ltP p q:=fun p q=>by
  have:=zaD8 p q
  constructor
  ·intro h; by_cases c:ltP p q
   ·exact c
   ·have:=this.2 c; omega
  ·intro h
   have:¬ 0≤cmpP p q:=fun c=>this.1 c h
   omega
 unfold zaP7
 rw [eT]
 constructor
 ·intro h
  have hi:∀ i,i < l.length→zbl9 l i (l.getD i bI.zero)=true:=fun i hi=>h i (eO.2 hi)
  refine ⟨fun n hn=>?_,?_⟩
  ·obtain ⟨i,k,e⟩:=eV hn
   have:=hi i k
   rw [gg i k,e] at this
   unfold zbl9 at this
   simp only [bS,bX] at this
   exact ⟨this.1.1.1.1,this.1.1.1.2,this.1.1.2,this.1.2⟩
  ·have step:∀ i,(k:i+1 < l.length)→ltP l[i].aJ l[i+1].aJ:=fun i k=>by
    have:=hi (i+1) k
    unfold zbl9 at this
    simp only [bS,bX,dG,Nat.add_sub_cancel] at this
    rw [gg (i+1) k,gg i (by omega)] at this
    rcases this.2 with c|c
    ·omega
    ·exact (hlt _ _).1 c
   have far:∀ d i,(k:i+d+1 < l.length)→ltP l[i].aJ l[i+d+1].aJ:=by
    intro d
    induction d with
    | zero=>intro i k; exact step i k
    | succ d ih=>intro i k; exact zae7 (ih i (by omega)) (step (i+d+1) k)
   rw [dO]
   intro i j h1 h2 h3
   have:=far (j - i - 1) i (by omega)
   have e:i+(j - i - 1)+1=j:=by omega
   simp only [e] at this
   exact this
 ·rintro ⟨h1,h2⟩ i hi
  rw [eO] at hi
  obtain ⟨a,b,c,d⟩:=h1 _ (zd1 (z:=bI.zero) hi)
  unfold zbl9
  have hord:(decide (i=0)||decide (cmpP (l.getD (i - 1) bI.zero).aJ (l.getD i bI.zero).aJ < 0))=true:=by
   by_cases c0:i=0
   ·simp [c0]
   ·have:=dO.1 h2 (i - 1) i (by omega) hi (by omega)
    rw [gg _ (by omega),gg _ hi,cF ((hlt _ _).2 this),iQ]
  rw [hord,a,b,cF c,cF d]
  rfl
theorem zbR5 {s t:aL} (h:zab9 s=true) (hq:t.aC.Sublist s.aC) (hn:t.aU.Sublist s.aU):zab9 t=true:=by
 unfold zab9 at h ⊢
 simp only [bS,bX] at h ⊢
 obtain ⟨⟨⟨h1,h2⟩,h3⟩,h4⟩:=h
 obtain ⟨p1,p2,p3⟩:=(zX7 _).1 h1
 obtain ⟨n1,n2⟩:=(zaM0 _).1 h3
 have lq:=hq.length_le; have ln:=hn.length_le
 have p2':∀ q ∈ t.aC,zg7 q=true:=fun q hm=>p2 q (hq.subset hm)
 refine ⟨⟨⟨(zX7 _).2 ⟨by omega,p2',p3.sublist hq⟩,by omega⟩,(zaM0 _).2 ⟨fun n hm=>n1 n (hn.subset hm),n2.sublist hn⟩⟩,?_⟩
 refine dX (dM (zaT9 (zaA1 _)) (l₂:=zaA3 s) fun p hp=>?_) h4
 unfold zaA3 at hp ⊢
 rw [zae8,cI] at hp
 rw [zae8,cI]
 rcases hp with hp|hp
 ·obtain ⟨q,hm,hh⟩:=(zH9 p2').1 hp
  exact .inl ((zH9 p2).2 ⟨q,hq.subset hm,hh⟩)
 ·exact .inr ((hn.map _).subset hp)
theorem zbu3:∀ (n:Nat) (e:aP),_root_.SizeOf.sizeOf e < n→zp9 e≤24→zB0 n e=some e
 | 0,_,h,_=>by omega
 | n+1,e,h,hn=>by
  show zx2 (zB0 n) e=_
  have hl:=zL7 e.bE
  have hne:=zab8 e
  unfold zx2
  obtain ⟨x,h1,h2⟩:=zq4 (body:=zL9 (zB0 n) e) (fun g=>∃ k:Nat,g.1=k∧k≤e.bE.length∧g.2=e.bE.take k) (fun g=>e.bE.length - g.1.toNat) (fun x=>x=e.bE)
   (fun g ⟨k,hg,hk,hs⟩=>by
    obtain ⟨g1,g2⟩:=g
    simp only at hg hs
    subst hg; subst hs
    unfold zL9
    simp only [Int.toNat_natCast]
    by_cases c:k < e.bE.length
    ·have hm:=zd1 (z:=aP.zero) c
     have hlt:=jM k e.bE
     rw [bW (by simpa using c),gdp (by omega),zbu3 n _ (zaE3 h hm) (by have:=zby5 hm; omega),Option.bind_some,gdp (by omega),zc6 k (by omega),← zu1 aP.zero c]
     exact .inl ⟨_,rfl,⟨k+1,rfl,c,rfl⟩,by simp only [Int.toNat_natCast]; omega⟩
    ·rw [bT (by simpa using c)]
     exact .inr ⟨_,rfl,dA (by omega)⟩) (0,[]) ⟨0,rfl,by omega,rfl⟩
  rw [h1,Option.bind_some]
  unfold zX1
  rw [h2]
  exact cQ some (by cases e; rfl)
theorem zbu4 {n:bI} (h:vE n.bP=true):zd5 n=some n:=by
 have hf:=(zde1 h).2
 unfold fitE at hf
 simp only [bS,bX] at hf
 unfold zd5 zd9
 rw [zbu3 _ _ (eW _) hf.2]
 rfl
theorem zbm1 {q:aA} (h:OkQ q):zd6 q=some q:=by
 have l1:=h.lh; have l2:=h.lc; have l3:=h.lw
 unfold zd6 zb1 zb0
 rw [gdp (by omega),gdp (by omega),gdp (by omega)]
 rfl
theorem zca3 {s:aL} (ok:OkS s) (hv:∀ n ∈ s.aU,vE n.bP=true):zi4 s=some s:=by
 have lq:=ok.lq; have ln:=ok.ln
 unfold zi4
 obtain ⟨x,h1,h2⟩:=zq4 (body:=zQ9 s) (fun g=>∃ k:Nat,g.1=k∧k≤s.aC.length∧g.2=⟨s.aC.take k,[]⟩) (fun g=>s.aC.length - g.1.toNat) (fun x=>x=⟨s.aC,[]⟩)
  (fun g ⟨k,hg,hk,hs⟩=>by
   obtain ⟨g1,g2⟩:=g
   simp only at hg hs
   subst hg; subst hs
   unfold zQ9
   simp only [Int.toNat_natCast]
   by_cases c:k < s.aC.length
   ·have hlt:=jM k s.aC
    rw [bW (by simpa using c),gdp (by omega),zbm1 (ok.q _ (zd1 c)),Option.bind_some,gdp (by omega),zc6 k (by omega),← zu1 aA.zero c]
    exact .inl ⟨_,rfl,⟨k+1,rfl,c,rfl⟩,by simp only [Int.toNat_natCast]; omega⟩
   ·rw [bT (by simpa using c)]
    exact .inr ⟨_,rfl,by rw [dA (by omega)]⟩) (0,⟨[],[]⟩) ⟨0,rfl,by omega,rfl⟩
 rw [h1,Option.bind_some,h2]
 unfold zQ8
 obtain ⟨y,k1,k2⟩:=zq4 (body:=zQ7 s) (fun g=>∃ k:Nat,g.1=k∧k≤s.aU.length∧g.2=⟨s.aC,s.aU.take k⟩) (fun g=>s.aU.length - g.1.toNat) (fun x=>x=s)
  (fun g ⟨k,hg,hk,hs⟩=>by
   obtain ⟨g1,g2⟩:=g
   simp only at hg hs
   subst hg; subst hs
   unfold zQ7
   simp only [Int.toNat_natCast]
   by_cases c:k < s.aU.length
   ·have hlt:=jM k s.aU
    rw [bW (by simpa using c),gdp (by omega),zbu4 (hv _ (zd1 c)),Option.bind_some,gdp (by omega),zc6 k (by omega),← zu1 bI.zero c]
    exact .inl ⟨_,rfl,⟨k+1,rfl,c,rfl⟩,by simp only [Int.toNat_natCast]; omega⟩
   ·rw [bT (by simpa using c)]
    exact .inr ⟨_,rfl,by rw [dA (by omega)]⟩) (0,⟨s.aC,[]⟩) ⟨0,rfl,by omega,rfl⟩
 rw [k1,Option.bind_some,k2]
 rfl
theorem zaX7 {s:aL} (h:zab9 s=true):s.aC.length≤8∧(∀ q ∈ s.aC,zg7 q=true)∧AscN s.aC∧s.aU.length≤8∧zaP7 s.aU=true∧(zaA3 s).length≤8:=by
 unfold zab9 at h
 simp only [bS,bX] at h
 obtain ⟨h1,h2,h3⟩:=(zX7 _).1 h.1.1.1
 exact ⟨h1,h2,h3,h.1.1.2,h.1.2,h.2⟩
theorem zcg7 {t:List aA} (h:AscN t) {x y:aA} (hx:x ∈ t) (hy:y ∈ t) (e:x.aB.name=y.aB.name):x=y:=by
 obtain ⟨i,hi,rfl⟩:=eV hx
 obtain ⟨j,hj,rfl⟩:=eV hy
 have g:∀ k,(hk:k < t.length)→t.getD k aA.zero=t[k]:=fun k hk=>by rw [bV,bY hk]; rfl
 have:=zaB8 h hi hj (by rw [g i hi,g j hj]; exact e)
 subst this; rfl
theorem zcG6 {t:List bI} (h:t.Pairwise fun a b=>ltP a.aJ b.aJ) {x y:bI} (hx:x ∈ t) (hy:y ∈ t) (e:x.aJ=y.aJ):x=y:=by
 obtain ⟨i,hi,rfl⟩:=eV hx
 obtain ⟨j,hj,rfl⟩:=eV hy
 have hp:=dO.1 h
 rcases iK i j with h1|h1|h1
 ·have:=hp i j hi hj h1; rw [e] at this; exact absurd this (zP8 _)
 ·subst h1; rfl
 ·have:=hp j i hj hi h1; rw [e] at this; exact absurd this (zP8 _)
theorem zbR6 {t:List aA} {nm:ByteArray} (h:zw2 t nm < 0):∀ q ∈ t,q.aB.name≠nm:=by
 intro q hq e
 unfold zw2 at h
 cases hf:t.findIdx? (isN nm) with
 | some k=>rw [hf] at h; simp only at h; omega
 | none =>
  have:=gZ.1 hf q hq
  rw [dU] at this
  exact this (zcf3.2 e)
theorem zde3 {s l:List aA} (h:AscN s) (hl:s.length≤8) (hp:l.Perm s):zb6 l=some s:=by
 have:=zca1 zq2 (fun x y=>zay1 _ _) (fun x y z h k=>zaW2 h k) (h.imp fun {x y} k=>by
  unfold ltN at k
  rw [ByteArray.toList_eq,ByteArray.toList_eq] at k
  exact zdp3 k) hp
 unfold zb6
 rw [gdp ⟨by rw [hp.length_eq]; omega,this.1⟩,this.2]
theorem zde4 {s l:List bI} (h:s.Pairwise fun a b=>ltP a.aJ b.aJ) (hl:s.length≤8) (hp:l.Perm s):zd4 l=some s:=by
 have:=zca1 zl3 (fun x y=>by
   unfold zl3 cmpS ltS
   repeat' split
   all_goals omega) (fun x y z h k=>by
   unfold zl3 cmpS ltS at *
   revert h k
   repeat' split
   all_goals omega) (h.imp fun {x y} k=>by
   unfold zl3 cmpS
   rw [bW (show ltS x.aJ y.aJ from k)]; decide) hp
 unfold zd4
 rw [gdp ⟨by rw [hp.length_eq]; omega,this.1⟩,this.2]
structure Cover (s a b:aL):Prop where
 qa:a.aC.Sublist s.aC
 qb:b.aC.Sublist s.aC
 na:a.aU.Sublist s.aU
 nb:b.aU.Sublist s.aU
 qc:∀ q ∈ s.aC,q ∈ a.aC∨q ∈ b.aC
 nc:∀ n ∈ s.aU,n ∈ a.aU∨n ∈ b.aU
def zaA7 (t:List aA) (q:aA):Bool:=decide (zw2 t q.aB.name < 0)
def zaw7 (t:List bI) (n:bI):Bool:=!(t.any fun m=>decide (m.aJ=n.aJ))
theorem zaO5 {α:Type} (p:α→Bool) (l:List α) (x:α):(l++[x]).filter p=if p x=true then l.filter p++[x] else l.filter p:=by
 rw [iF,iE]
 split
 ·rfl
 ·rw [List.filter_nil,dV]
theorem zbm2 {n:bI} (h:fitE n.bP=true):zf9 n n=some true:=by
 unfold fitE at h
 simp only [bS,bX] at h
 unfold zf9 zf3
 rw [bW (by simp),zbg4 _ _ (eW _) h.2,Option.bind_some]
 simp
theorem zdn4 {s a b:aL} (h:zab9 s=true) (c:Cover s a b):zb9 (zA4 a b) (0,a)=some (.inl ⟨a.aC++b.aC.filter (zaA7 a.aC),a.aU⟩):=by
 obtain ⟨h1,h2,h3,h4,h5,h6⟩:=zaX7 h
 have ok:=(zbg3 h).1
 have la:=c.qa.length_le; have lb:=c.qb.length_le
 obtain ⟨x,k1,k2⟩:=zq4 (body:=zA4 a b) (fun g=>∃ k:Nat,g.1=k∧k≤b.aC.length∧g.2=⟨a.aC++(b.aC.take k).filter (zaA7 a.aC),a.aU⟩) (fun g=>b.aC.length - g.1.toNat) (fun x=>x=.inl ⟨a.aC++b.aC.filter (zaA7 a.aC),a.aU⟩)
  (fun g ⟨k,hg,hk,hs⟩=>by
   obtain ⟨g1,g2⟩:=g
   simp only at hg hs
   subst hg; subst hs
   unfold zA4
   simp only [Int.toNat_natCast]
   by_cases cc:k < b.aC.length
   ·have hm:=zd1 (z:=aA.zero) cc
    have hlt:=gD (zaA7 a.aC) (b.aC.take k)
    rw [cO] at hlt
    rw [bW (by simpa using cc),gdp (by omega),zbl8 _ _ (by omega),Option.bind_some]
    left
    by_cases e:zw2 a.aC (b.aC.getD k aA.zero).aB.name < 0
    ·rw [bW (by simpa using e),zbm1 (ok.q _ (c.qb.subset hm)),Option.bind_some,gdp (by simp only [bZ]; omega),zc6 k (by omega)]
     refine ⟨_,rfl,⟨k+1,rfl,cc,?_⟩,by simp only [Int.toNat_natCast]; omega⟩
     rw [zu1 aA.zero cc,zaO5,bW (by unfold zaA7; simpa using e),dB]
    ·rw [bT (by simpa using e)]
     rcases zaE1 (t:=a.aC) (nm:=(b.aC.getD k aA.zero).aB.name) with e1|⟨i,e1,e2,e3⟩
     ·omega
     ·have eq:a.aC.getD i aA.zero=b.aC.getD k aA.zero:=zcg7 h3 (c.qa.subset (zd1 e2)) (c.qb.subset hm) e3
      rw [e1,gdp (by omega)]
      simp only [Int.toNat_natCast]
      rw [eq,zbg6 (ok.q _ (c.qb.subset hm)),Option.bind_some,bT (by simp),zc6 k (by omega)]
      refine ⟨_,rfl,⟨k+1,rfl,cc,?_⟩,by simp only [Int.toNat_natCast]; omega⟩
      rw [zu1 aA.zero cc,zaO5,bT (by unfold zaA7; simpa using e)]
   ·rw [bT (by simpa using cc)]
    exact .inr ⟨_,rfl,by rw [dA (by omega)]⟩) (0,a) ⟨0,rfl,by omega,by simp⟩
 rw [k1,k2]
theorem zdn5 {s a b:aL} (h:zab9 s=true) (c:Cover s a b) (Q:List aA):zb9 (zN9 a b) (0,⟨Q,a.aU⟩)=some (.inl ⟨Q,a.aU++b.aU.filter (zaw7 a.aU)⟩):=by
 obtain ⟨h1,h2,h3,h4,h5,h6⟩:=zaX7 h
 have ok:=(zbg3 h).1
 obtain ⟨h7,h8⟩:=(zaM0 _).1 h5
 have la:=c.na.length_le; have lb:=c.nb.length_le
 obtain ⟨x,k1,k2⟩:=zq4 (body:=zN9 a b) (fun g=>∃ k:Nat,g.1=k∧k≤b.aU.length∧g.2=⟨Q,a.aU++(b.aU.take k).filter (zaw7 a.aU)⟩) (fun g=>b.aU.length - g.1.toNat) (fun x=>x=.inl ⟨Q,a.aU++b.aU.filter (zaw7 a.aU)⟩)
  (fun g ⟨k,hg,hk,hs⟩=>by
   obtain ⟨g1,g2⟩:=g
   simp only at hg hs
   subst hg; subst hs
   unfold zN9
   simp only [Int.toNat_natCast]
   by_cases cc:k < b.aU.length
   ·have hm:=zd1 (z:=bI.zero) cc
    have hlt:=gD (zaw7 a.aU) (b.aU.take k)
    rw [cO] at hlt
    obtain ⟨v,e0,e1⟩:=zde2 a.aU (b.aU.getD k bI.zero).aJ (by omega)
    rw [bW (by simpa using cc),gdp (by omega),e0,Option.bind_some]
    left
    rcases e1 with ⟨e1,e2⟩|⟨i,e1,e2,e3,_⟩
    ·have hn:zaw7 a.aU (b.aU.getD k bI.zero)=true:=by
      unfold zaw7
      rw [cS,List.any_eq_false]
      intro m hmm
      obtain ⟨j,hj,rfl⟩:=eV hmm
      have:=e2 j hj
      rw [bV,bY hj] at this
      simpa using this
     rw [bW (by simpa using e1),zbu4 (h7 _ (c.nb.subset hm)).2.1,Option.bind_some,gdp (by simp only [bZ]; omega),zc6 k (by omega)]
     refine ⟨_,rfl,⟨k+1,rfl,cc,?_⟩,by simp only [Int.toNat_natCast]; omega⟩
     rw [zu1 bI.zero cc,zaO5,bW hn,dB]
    ·have hn:¬ zaw7 a.aU (b.aU.getD k bI.zero)=true:=by
      unfold zaw7
      rw [cS,eN,iR]
      exact ⟨_,zd1 e2,by simpa using e3⟩
     have eq:a.aU.getD i bI.zero=b.aU.getD k bI.zero:=zcG6 h8 (c.na.subset (zd1 e2)) (c.nb.subset hm) e3
     rw [e1,bT (by simp),gdp (by omega)]
     simp only [Int.toNat_natCast]
     rw [eq,zbm2 (ok.n _ (c.nb.subset hm)).2.2.2,Option.bind_some,bT (by simp),zc6 k (by omega)]
     refine ⟨_,rfl,⟨k+1,rfl,cc,?_⟩,by simp only [Int.toNat_natCast]; omega⟩
     rw [zu1 bI.zero cc,zaO5,bT hn]
   ·rw [bT (by simpa using cc)]
    exact .inr ⟨_,rfl,by rw [dA (by omega)]⟩) (0,⟨Q,a.aU⟩) ⟨0,rfl,by omega,by simp⟩
 rw [k1,k2]
theorem zdn6 {s a b:aL} (h3:AscN s.aC) (c:Cover s a b):(a.aC++b.aC.filter (zaA7 a.aC)).Perm s.aC:=by
 have hnd:s.aC.Nodup:=by
  unfold AscN at h3
  exact h3.imp fun {x y} h (e:x=y)=>zaX3 h (cQ (fun q=>q.aB.name) e)
 refine (iN ?_ hnd).2 fun q=>?_
 ·rw [hJ]
  refine ⟨c.qa.nodup hnd,(gQ.trans c.qb).nodup hnd,fun x hx y hy e=>?_⟩
  subst e
  have:=(fL.1 hy).2
  unfold zaA7 at this
  exact zbR6 (fW this) x hx rfl
 ·rw [cI,fL]
  constructor
  ·rintro (hq|hq)
   ·exact c.qa.subset hq
   ·exact c.qb.subset hq.1
  ·intro hq
   by_cases e:zw2 a.aC q.aB.name < 0
   ·rcases c.qc q hq with k|k
    ·exact .inl k
    ·exact .inr ⟨k,by unfold zaA7; exact cF e⟩
   ·rcases zaE1 (t:=a.aC) (nm:=q.aB.name) with e1|⟨i,e1,e2,e3⟩
    ·omega
    ·left
     rw [← zcg7 h3 (c.qa.subset (zd1 e2)) hq e3]
     exact zd1 e2
theorem zdn7 {s a b:aL} (h8:s.aU.Pairwise fun a b=>ltP a.aJ b.aJ) (c:Cover s a b):(a.aU++b.aU.filter (zaw7 a.aU)).Perm s.aU:=by
 have hnd:s.aU.Nodup:=h8.imp fun {x y} h (e:x=y)=>by rw [e] at h; exact zP8 _ h
 refine (iN ?_ hnd).2 fun n=>?_
 ·rw [hJ]
  refine ⟨c.na.nodup hnd,(gQ.trans c.nb).nodup hnd,fun x hx y hy e=>?_⟩
  subst e
  have:=(fL.1 hy).2
  unfold zaw7 at this
  rw [cS,List.any_eq_false] at this
  exact this x hx (by simp)
 ·rw [cI,fL]
  constructor
  ·rintro (hq|hq)
   ·exact c.na.subset hq
   ·exact c.nb.subset hq.1
  ·intro hq
   by_cases e:zaw7 a.aU n=true
   ·rcases c.nc n hq with k|k
    ·exact .inl k
    ·exact .inr ⟨k,e⟩
   ·unfold zaw7 at e
    rw [cS,eN,iR] at e
    obtain ⟨m,hm,e⟩:=e
    left
    rw [← zcG6 h8 (c.na.subset hm) hq (by simpa using e)]
    exact hm
theorem zde5 (q:List aA):zA8 q=(zG2 q).map (fun l=>(l,q)):=by
 unfold zA8 zG2
 have e:zaq2 q=zL4 q:=rfl
 rw [e]
 cases zb9 (zL4 q) (0,[]) with
 | none=>rfl
 | some z =>
  show zT8 q z=(zab3 z).map _
  unfold zT8 zab3
  cases zl6 z <;> rfl
theorem zde6 {s:aL} {p:List aK} (h:zu5 s=some p):zs4 s=some (p,s.aC,s.aU):=by
 unfold zu5 at h
 unfold zs4
 rw [zde5]
 obtain ⟨v1,e,h⟩:=zc7 h
 obtain ⟨c,h⟩:=ze1 h
 obtain ⟨z,e3,h⟩:=zc7 h
 rw [e]
 simp only [Option.bind_some,Option.map_some,c,zk6]
 have e2:zad4 s=zN7 s:=rfl
 rw [e2,e3]
 show zH2 s (v1,s.aC) z=_
 unfold zW8 at h
 unfold zH2
 obtain ⟨v,e4,h⟩:=zc7 h
 rw [e4]
 cases h
 rfl
theorem zde7 {s a b:aL} (h:zab9 s=true) (c:Cover s a b):zw1 a b=some (s,0):=by
 obtain ⟨h1,h2,h3,h4,h5,h6⟩:=zaX7 h
 obtain ⟨h7,h8⟩:=(zaM0 _).1 h5
 have va:=zbR5 h c.qa c.na
 have vb:=zbR5 h c.qb c.nb
 have pq:=zdn6 h3 c; have pn:=zdn7 h8 c
 have lq:=pq.length_eq; have ln:=pn.length_eq
 unfold zw1
 rw [zad7,va,Option.bind_some,bW rfl,zad7,vb,Option.bind_some,bT (by simp),zca3 (zbg3 va).1 (fun n hn=>(h7 n (c.na.subset hn)).2.1),Option.bind_some,zdn4 h c,Option.bind_some]
 show zO0 a b ⟨a.aC++b.aC.filter (zaA7 a.aC),a.aU⟩=_
 unfold zO0
 rw [zdn5 h c,Option.bind_some]
 show zN8 ⟨a.aC++b.aC.filter (zaA7 a.aC),a.aU++b.aU.filter (zaw7 a.aU)⟩=_
 unfold zN8
 have hP:zaA3 ⟨a.aC++b.aC.filter (zaA7 a.aC),a.aU++b.aU.filter (zaw7 a.aU)⟩=zaA3 s:=by
  unfold zaA3 zw6
  refine zco6 fun x=>?_
  simp only [cI,zae8,fM,cH]
  constructor
  ·rintro (⟨q,hq,e⟩|⟨n,hn,e⟩)
   ·exact .inl ⟨q,pq.subset (cI.2 hq),e⟩
   ·exact .inr ⟨n,pn.subset (cI.2 hn),e⟩
  ·rintro (⟨q,hq,e⟩|⟨n,hn,e⟩)
   ·exact .inl ⟨q,cI.1 (pq.symm.subset hq),e⟩
   ·exact .inr ⟨n,cI.1 (pn.symm.subset hn),e⟩
 have d1:decide ((8:Int) < ((((a.aC++b.aC.filter (zaA7 a.aC)).length:Nat)):Int))=false:=by
  rw [cR,lq]; omega
 simp only [d1,dF,cB]
 rw [zde6 (zaG3 _ (by rw [lq]; exact h1) (fun q hq=>h2 q (pq.subset hq)) (by rw [ln]; exact h4)),Option.bind_some]
 dsimp only
 rw [hP,bT (by simp; omega),zde3 h3 h1 pq,Option.bind_some,zde4 h8 h4 pn]
 rfl
theorem zcg8:zX5=some true:=by kernel_rfl
theorem zde8 {n m:Int} (hm:0 < m) (h:n.tmod m < 0):n.tmod m+m=n % m:=by
 have:=fQ n (show m≠0 by omega)
 rw [Int.tmod_eq_emod] at *
 by_cases hc:0≤n∨m ∣ n
 ·rw [bW hc] at *; simp at h; omega
 ·rw [bT hc] at *; omega
theorem zde9 {n m:Int} (hm:0 < m) (h:¬ n.tmod m < 0):n.tmod m=n % m:=by
 have:=fQ n (show m≠0 by omega)
 have:=fR n hm
 rw [Int.tmod_eq_emod] at *
 by_cases hc:0≤n∨m ∣ n
 ·rw [bW hc]; simp
 ·rw [bT hc] at *; omega
theorem zcG7 (n m:Int) (h1:1≤m) (h2:m < 4611686018427387904):zl7 n m=some (n % m):=by
 unfold zl7
 rw [bT (by simp; omega),gdp (by omega)]
 by_cases h:n.tmod m < 0
 ·have e:=zde8 (by omega) h
  have:=fQ n (show m≠0 by omega)
  have:=fR n (show 0 < m by omega)
  rw [bW (cF h),e,zi0 (by omega) (by omega)]
 ·rw [bT (by simpa using h),zde9 (by omega) h]
def zao4 (t:List aA) (k:Nat) (x:Int):List aA:=t.set k { t.getD k aA.zero with gen:=x }
theorem zaA8 (t:List aA) (k:Nat) (x:Int) (i:Nat):(zao4 t k x).getD i aA.zero=if k=i∧k < t.length then { t.getD i aA.zero with gen:=x } else t.getD i aA.zero:=by
 unfold zao4
 simp only [bV,jV]
 by_cases c:k=i
 ·subst c
  by_cases d:k < t.length
  ·simp [d]
  ·simp [d]
 ·simp [c]
theorem zca4 {β:Type} (f:aA→β) (x:Int) (hf:∀ q:aA,f { q with gen:=x }=f q) (t:List aA) (k:Nat):(zao4 t k x).map f=t.map f:=by
 unfold zao4
 rw [kI,hf]
 by_cases c:k < t.length
 ·rw [bV,bY c,Option.getD_some]
  have e:f t[k]=(t.map f)[k]'(by simpa using c):=by rw [List.getElem_map]
  rw [e,jG]
 ·rw [List.set_eq_of_length_le (by simpa using c)]
theorem zaU7 (t:List aA) (k:Nat) (x:Int):(zao4 t k x).length=t.length:=by unfold zao4; rw [dQ]
theorem zcB1 (t:List aA) {k:Nat} (h:k < t.length):zao4 t k (t.getD k aA.zero).gen=t:=by
 unfold zao4
 have e:({ t.getD k aA.zero with gen:=(t.getD k aA.zero).gen }:aA)=t[k]:=by
  rw [bV,bY h,Option.getD_some]
 rw [e,jG]
theorem zcP1 {t:List aA} {k:Nat} {x:Int} {q:aA} (h:q ∈ zao4 t k x):q ∈ t∨∃ p ∈ t,q={ p with gen:=x }:=by
 obtain ⟨i,hi,e⟩:=zy5 (z:=aA.zero) h
 rw [zaU7] at hi
 rw [zaA8] at e
 split at e
 ·exact .inr ⟨_,zd1 hi,e.symm⟩
 ·exact .inl (e ▸ zd1 hi)
theorem zcs5 {q:aA} {x:Int} (h:zg7 q=true) (h0:0≤x) (h1:x≤1073741824):zg7 { q with gen:=x }=true:=by
 rw [zr8] at h ⊢
 obtain ⟨a,b⟩:=h
 exact ⟨⟨a.res,a.hv,a.cl,a.cn,a.cg,a.wv,a.wl,a.wg,h0,h1⟩,b⟩
theorem zcP2 {s:aL} (h:zab9 s=true) {k:Nat} {x:Int} (h0:0≤x) (h1:x≤1073741824):zab9 ⟨zao4 s.aC k x,s.aU⟩=true:=by
 unfold zab9 at h ⊢
 simp only [bS,bX] at h ⊢
 obtain ⟨⟨⟨a1,a2⟩,a3⟩,a4⟩:=h
 obtain ⟨p1,p2,p3⟩:=(zX7 _).1 a1
 refine ⟨⟨⟨(zX7 _).2 ⟨by rw [zaU7]; exact p1,fun q hq=>?_,?_⟩,a2⟩,a3⟩,?_⟩
 ·rcases zcP1 hq with m|⟨p,m,rfl⟩
  ·exact p2 q m
  ·exact zcs5 (p2 p m) h0 h1
 ·have e:=zca4 (fun q=>q.aB.name) x (fun _=>rfl) s.aC k
  have p3':(s.aC.map fun q=>q.aB.name).Pairwise ltN:=gO.2 p3
  rw [← e] at p3'
  exact gO.1 p3'
 ·have e:=zca4 zai8 x (fun _=>rfl) s.aC k
  have:zaA3 ⟨zao4 s.aC k x,s.aU⟩=zaA3 s:=by
   unfold zaA3 zw6
   simp only [List.flatMap_def,e]
  rw [this]; exact a4
theorem zbR7 {q:aA} (h:OkQ q) (x:Int):ze2 q { q with gen:=x }=some true:=by
 have l1:=h.lh; have l2:=h.lc; have l3:=h.lw
 unfold ze2
 simp [zbC5 q.aQ (by omega),zbg5 q.aO (by omega),zbC6 q.aS (by omega)]
theorem zcP3 {s:aL} (h:zab9 s=true) (k:Nat) (x:Int):zr7 s ⟨zao4 s.aC k x,s.aU⟩=some true:=by
 have ok:=(zbg3 h).1
 have l1:=ok.lq; have l2:=ok.ln
 unfold zr7
 have e1:za7 s.aC (zao4 s.aC k x)=some true:=by
  unfold za7
  rw [bT (by rw [zaU7]; simp),zaH9 s.aC.length (fun i hi=>by
   unfold zm7
   have hq:ze2 (s.aC.getD i aA.zero) ((zao4 s.aC k x).getD i aA.zero)=some true:=by
    have o:=ok.q _ (zd1 (z:=aA.zero) hi)
    rw [zaA8]
    split
    ·exact zbR7 o x
    ·exact zbR7 o _
   rw [bW (by simpa using hi),gdp (by omega),gdp (by rw [zaU7]; omega)]
   simp only [Int.toNat_natCast]
   rw [hq,Option.bind_some,bT (by simp),zi0 (by omega) (by omega)]) (by unfold zm7; simp)]
  rfl
 have e2:za6 s.aU s.aU=some true:=by
  unfold za6
  rw [bT (by simp),zaH9 s.aU.length (fun i hi=>by
   unfold zo4
   rw [bW (by simpa using hi),gdp (by omega),gdp (by omega)]
   simp only [Int.toNat_natCast]
   rw [zbm2 (ok.n _ (zd1 (z:=bI.zero) hi)).2.2.2,Option.bind_some,bT (by simp),zi0 (by omega) (by omega)]) (by unfold zo4; simp)]
  rfl
 simp only [e1,e2,Option.bind_some,cB,gJ]
theorem zcs6 {s:aL} (h:zab9 s=true) {k:Nat} (hk:k < s.aC.length) {x:Int} (h0:0≤x) (h1:x≤1073741824) (ne:x≠(s.aC.getD k aA.zero).gen) :
  ∃ z,zw1 s ⟨zao4 s.aC k x,s.aU⟩=some (z,18):=by
 obtain ⟨a1,a2,a3,a4,a5,a6⟩:=zaX7 h
 have ok:=(zbg3 h).1
 obtain ⟨h7,h8⟩:=(zaM0 _).1 a5
 unfold zw1
 rw [zad7,h,Option.bind_some,bW rfl,zad7,zcP2 h h0 h1,Option.bind_some,bT (by simp),zca3 ok (fun n hn=>(h7 n hn).2.1),Option.bind_some]
 obtain ⟨y,k1,k2⟩:=zq4 (body:=zA4 s ⟨zao4 s.aC k x,s.aU⟩) (fun g=>∃ i:Nat,g.1=i∧i≤k) (fun g=>s.aC.length - g.1.toNat) (fun y=>y=.inr ({ aL.zero with },18))
  (fun g ⟨i,hg,hi⟩=>by
   obtain ⟨g1,g2⟩:=g
   simp only at hg
   subst hg
   have c:i < s.aC.length:=by omega
   have hm:=zd1 (z:=aA.zero) c
   have hn:((zao4 s.aC k x).getD i aA.zero).aB.name=(s.aC.getD i aA.zero).aB.name:=by
    rw [zaA8]; split <;> rfl
   unfold zA4
   simp only [Int.toNat_natCast,zaU7]
   rw [bW (by simpa using c),gdp (by omega),zbl8 _ _ (by omega),Option.bind_some,hn]
   rcases zaE1 (t:=s.aC) (nm:=(s.aC.getD i aA.zero).aB.name) with e1|⟨j,e1,e2,e3⟩
   ·exact absurd rfl (zbR6 (by rw [e1]; decide) _ hm)
   ·have eq:s.aC.getD j aA.zero=s.aC.getD i aA.zero:=zcg7 a3 (zd1 e2) hm e3
    rw [e1,bT (by simp),gdp (by omega)]
    simp only [Int.toNat_natCast]
    rw [eq]
    by_cases d:i=k
    ·right
     subst d
     have:zi8 (s.aC.getD i aA.zero) ((zao4 s.aC i x).getD i aA.zero)=some false:=by
      rw [zaA8,bW ⟨rfl,hk⟩]
      unfold zi8
      rw [bT (by simpa using kQ ne),Option.bind_some,bT (by simp),Option.bind_some]
      simp [kQ ne]
     rw [this]
     exact ⟨_,rfl,rfl⟩
    ·left
     rw [zaA8,bT (fun h=>d h.1.symm),zbg6 (ok.q _ hm),Option.bind_some,bT (by simp),zc6 i (by omega)]
     exact ⟨_,rfl,⟨i+1,rfl,by omega⟩,by simp only [Int.toNat_natCast]; omega⟩) (0,s) ⟨0,rfl,by omega⟩
 rw [k1,k2]
 exact ⟨_,rfl⟩
theorem zbj8 (l:List Int) (which gen:Int):zH7 l which gen=some true:=by
 unfold zH7
 by_cases c:(!(zak2 l))=true
 ·rw [bW c,zcg8]; rfl
 ·rw [bT c]
  simp only [cS,eN] at c
  obtain ⟨cc,_,h6,_,h1,h2⟩:=zcO9 (zcM4 c)
  generalize hs:(⟨cc.aC,cc.aF.filterMap zae6⟩:aL)=s at h1 h2
  have hl:s.aC.length=6:=by rw [← hs]; exact h6
  rw [h1,Option.bind_some,bT (by rw [hl]; decide),gdp (by omega),zcG7 which _ (by omega) (by omega),Option.bind_some,zcG7 gen _ (by decide) (by decide),Option.bind_some]
  have q0:0≤which % ((s.aC.length:Nat):Int):=fQ _ (by omega)
  have q1:which % ((s.aC.length:Nat):Int) < ((s.aC.length:Nat):Int):=fR _ (by omega)
  have x0:0≤gen % 1073741824:=fQ _ (by decide)
  have x1:gen % 1073741824 < 1073741824:=fR _ (by decide)
  generalize which % ((s.aC.length:Nat):Int)=w at q0 q1
  generalize gen % 1073741824=x at x0 x1
  obtain ⟨k,rfl⟩:∃ k:Nat,w=k:=⟨w.toNat,by omega⟩
  have hk:k < s.aC.length:=by omega
  rw [gdp (by omega)]
  simp only [Int.toNat_natCast]
  have eA:(s.aC.set k { (s.aC.getD k aA.zero) with gen:=x })=zao4 s.aC k x:=rfl
  have eG:(zao4 s.aC k x).getD k aA.zero={ (s.aC.getD k aA.zero) with gen:=x }:=by rw [zaA8,bW ⟨rfl,hk⟩]
  simp only [eA,eG]
  have hA:=zcP3 h2 k x
  by_cases d:x=(s.aC.getD k aA.zero).gen
  ·have cv:Cover s s s:=⟨.refl _,.refl _,.refl _,.refl _,fun q h=>.inl h,fun n h=>.inl h⟩
   have hM:zw1 s ⟨zao4 s.aC k x,s.aU⟩=some (s,0):=by
    rw [d,zcB1 _ hk]; exact zde7 h2 cv
   rw [hM,Option.bind_some,zcg8,Option.bind_some,gdp (fun _=>by omega),gdp (fun _=>by omega),hA]
   simp [d]
  ·obtain ⟨z,hM⟩:=zcs6 h2 hk x0 (by omega) d
   have d':¬ x=(s.aC[k]?.getD aA.zero).gen:=by rwa [bV] at d
   rw [hM,Option.bind_some,zcg8,Option.bind_some,gdp (fun _=>by omega),gdp (fun _=>by omega),hA]
   simp [d']
end Ab
end Go.Proofs.YtfkjffmjkbkmhaaGreatDoor
